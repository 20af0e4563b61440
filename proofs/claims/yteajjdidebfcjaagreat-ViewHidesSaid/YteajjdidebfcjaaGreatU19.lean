/- Part 19. -/
import Derived.Test.YteajjdidebfcjaaGreatU18
namespace Go.Proofs.YteajjdidebfcjaaGreat
namespace Av
open Tryz
set_option linter.all false
set_option maxRecDepth 4000
set_option maxHeartbeats 1000000
def zBt (l:List Li) (hl:l.length<=1073741824):zN 187 [zC vN l] [] (.ref 1001 0 (l.map vN).length) [(1001,.arr 2 (l.map vN) false)]:=by
 have hll:=zA vN l;refine eM call187 λF hF=>?_
 refine yZ 0 Z (λcap hx=>?_) ?_
 ·have:l=[]:=by simpa using hx
  subst this
  (repeat' (first|refine WZN ?_|apply xM|apply xZ|intro hc|fail))
  refine vX 2 1001 2 Z Z Z (yW ?_);exact zK [1001] Z Z Z Z
 ·repeat' (first|(refine zE ?_;first|refine vF tok Z Z ?_|(refine wE ?_;refine yJ (yS tok (.inl ⟨rfl,rfl⟩) Z Z Z Z) Z ?_)|(refine yV ?_;refine uT (nw:=[1001]) (yI tok 1001 (xs:=[]) Z Z Z Z Z Z Z Z Z) Z Z Z ?_)|(refine yK ?_;refine xU tok Z Z Z Z Z Z Z (yC _ _ (λ_=>rfl)) Z Z Z zB Z ?_)|refine uQ ?_)|(first|refine xQ ?_|refine xE ?_|refine vG Z ?_|refine zX Z ?_|refine zU Z ?_|refine xK Z (λhc=>?_) λhc=>?_|refine xA ?_|refine yW ?_|refine xD ?_|refine yU ?_))
  exact zK [1001] Z Z Z Z
def BF (l:List Int) (hl:l.length<=1073741824):zN 91 [zC iA l] [] (.ref 1002 0 (l.map iA).length) [(1002,.arr 1 (l.map iA) false)]:=by
 have hll:=zA iA l;refine eM call91 λF hF=>?_
 refine yZ 0 Z (λcap hx=>?_) ?_
 ·have:l=[]:=by simpa using hx
  subst this
  (repeat' (first|refine WZN ?_|apply xM|apply xZ|intro hc|fail))
  refine vX 2 1002 1 Z Z Z (yW ?_);exact zK [1002] Z Z Z Z
 ·repeat' (first|(refine zE ?_;first|refine vF tok Z Z ?_|(refine wE ?_;refine yJ (yS tok (.inl ⟨rfl,rfl⟩) Z Z Z Z) Z ?_)|(refine yV ?_;refine uT (nw:=[1002]) (yI tok 1002 (xs:=[]) Z Z Z Z Z Z Z Z Z) Z Z Z ?_)|(refine yK ?_;refine xU tok Z Z Z Z Z Z Z (yC _ _ (λ_=>rfl)) Z Z Z zB Z ?_)|refine uQ ?_)|(first|refine xQ ?_|refine xE ?_|refine vG Z ?_|refine zX Z ?_|refine zU Z ?_|refine xK Z (λhc=>?_) λhc=>?_|refine xA ?_|refine yW ?_|refine xD ?_|refine yU ?_))
  exact zK [1002] Z Z Z Z
def AX (j:Jn) (c:Ct) (t:Int) (i:Nat):List Li:=(List.range j.ph.length).map λp=>if p<i then lpF (xF j p) (vJ c p) (lvS j c t p)else vJ c p
def zD7 (j:Jn) (c:Ct) (t:Int) (i:Nat):(AX j c t i).length=j.ph.length:=by simp[AX]
def zK5 {j:Jn} {c:Ct} (hc:c.li.length=j.ph.length) (t:Int):AX j c t 0=c.li:=by
 unfold AX;apply yBj;intro p;rw[yAi];by_cases h:p<j.ph.length
 ·rw[yBg h];simp[vJ,List.getD,hc,h]
 ·rw[yA1 wF,yA1 zB];rfl
def zQr (j:Jn) (c:Ct) (t:Int):AX j c t j.ph.length=JG j c t:=by
 unfold AX JG;apply yDt;intro p hp;rw[yA2]at hp;rw[yAd hp]
def zK6 (j:Jn) (c:Ct) (t:Int) (i:Nat):AX j c t (i+1)=(AX j c t i).set i (lpF (xF j i) (vJ c i) (lvS j c t i)):=by
 unfold AX;apply yBj;intro p;rw[yCn,yAi,yAi];by_cases h:p<j.ph.length
 ·rw[yBg h];by_cases hs:i=p
  ·subst hs;simp[h]
  ·rw[yAc hs];by_cases hp:p<i
   ·simp[hp,show p<i+1 by omega]
   ·simp[hp,show¬p<i+1 by omega]
 ·rw[yA1 wF]
  split<;>simp;omega
def zXy {p:Ph} {l:Li} (h:LZ p l=true) (hy:p.yel<=60) (hr:p.red<=60):0<=l.tk/\l.tk<=1073741824:=by
 unfold LZ at h;split at h
 ·rw[yAm]at h;omega
 split at h
 ·rw[yAm]at h;omega
 split at h
 ·rw[yAm]at h;omega
 split at h
 ·rw[yAm]at h;omega
 ·cases h
def zK7 {P:Program} {K0:List Nat} {F:Fr K0} {m:Nat} {ops:Array Oper} {rest:List Oper} {Q:List FP->St->Prop} {dr:Bool} {fs:List FP} {ty T:Nat} {pos:String} {after:Array Edge} {st:St} (hk:zZ P F m ops dr (⟨some 7,.alloc T,ty,pos,after,none⟩::rest) st fs Q):zZ P F m ops dr (⟨some 7,.alloc T,ty,pos,after,none⟩::rest) st fs Q:=hk
theorem zVu (j:Jn) (J:JV j) (c:Ct) (C:CV j c) (t:Int):zN 230 [wC j,ctA c,iA t] [] (ctA (stF j c t)) []:=by
 have hn:=J.n;have hjc:=J.c;have hcn:=C.n;have hcm:=C.m;have hcw:=C.w;have hst:=J.st;have hlp:=zA vE j.ph;have hll:(c.li.map vN).length=j.ph.length:=by rw[yAe];exact hcn
 have hln:(c.nx.map iA).length=2:=by rw[yAe];exact hcm
 have k1:=QS j J;have k2:=zQ4 j J.b c;rw[zWa J C]at k2;have k3:=zBt c.li zB;have k4:=BF c.nx zB;unfold stF;by_cases hw:0<c.wt
 ·rw[yAd hw];refine eM call230 λF hF=>?_
  refine yQ (wV k1 k2) ?_
  repeat' (first|(refine zE ?_;first|(refine zK7 ?_;refine uT (nw:=[3000]) (XI tok 3000 Z Z) Z Z Z ?_)|refine vF tok Z Z ?_|(refine xT ?_;(first|(refine vR 187 ?_;first|refine yJ (zI (k3) Z Z Z Z Z) Z ?_|refine uT (zI (k3) Z Z Z Z Z) Z Z Z ?_|refine XF (zI (k3) Z Z Z Z Z) Z Z Z ?_)|(refine vR 91 ?_;first|refine yJ (zI (k4) Z Z Z Z Z) Z ?_|refine uT (zI (k4) Z Z Z Z Z) Z Z Z ?_|refine XF (zI (k4) Z Z Z Z Z) Z Z Z ?_)))|(refine cU ?_;refine cI tok Z Z Z ?_)|refine VM WA ?_|refine uQ ?_)|first|refine SQ ?_|fail)
  refine WW ?_;exact zH [] Z Z (YN ⟨c.li,c.gr,c.nx,c.wt-1⟩) Z
 rw[yAc hw];have h0:c.wt=0:=by omega
 have CL:=zSx J C h0 t;have ls0:=zK5 hcn t;have lsE:=zQr j c t;rw[hll]at k3;have hN:∀i,((AX j c t i).map vN).length=j.ph.length:=λi=>by rw[yAe];exact zD7 j c t i
 refine eM call230 λF hF=>?_
 refine yQ (wV k1 k2) ?_
 repeat' (first|(refine zE ?_;first|(refine zK7 ?_;refine uT (nw:=[3000]) (XI tok 3000 Z Z) Z Z Z ?_)|refine vF tok Z Z ?_|(refine xT ?_;(first|(refine vR 187 ?_;first|refine yJ (zI (k3) Z Z Z Z Z) Z ?_|refine uT (zI (k3) Z Z Z Z Z) Z Z Z ?_|refine XF (zI (k3) Z Z Z Z Z) Z Z Z ?_)|(refine vR 91 ?_;first|refine yJ (zI (k4) Z Z Z Z Z) Z ?_|refine uT (zI (k4) Z Z Z Z Z) Z Z Z ?_|refine XF (zI (k4) Z Z Z Z Z) Z Z Z ?_)))|(refine cU ?_;refine cI tok Z Z Z ?_)|refine VM WA ?_|refine uQ ?_)|first|refine SQ ?_|fail)
 (repeat' (first|refine WZB ?_|apply xM|apply xZ|intro hc|(refine zE ?_;first|refine SM ?_)|fail))
 refine zU Z (xA ?_);refine xQ ?_;refine TQ [3000,1001,1002,3,4,6] [2,3,4,6,7,8] ⟨[(2,iA t),(3,.ptr 3 0 0),(4,.ptr 4 0 0),(6,.ptr 6 0 0),(7,.ptr 3000 0 0),(8,bA (KA j t))],[(3000,.box [.ref 1001 0 j.ph.length,iA c.gr,.ref 1002 0 (c.nx.map iA).length,iA c.wt]),(1001,.arr 2 (c.li.map vN) false),(1002,.arr 1 (c.nx.map iA) false),(3,.box [zC vE j.ph,zC iA j.cf,iA j.st]),(4,.box [zC vN c.li,iA c.gr,zC iA c.nx,iA c.wt]),(6,.box [.s (.slice none 0 0),iA 0,.s (.slice none 0 0),iA 0])]⟩ rfl ?_ ?_
 ·clear k1 k2 k3 k4 CL;by_cases a1:0<=t
  ·by_cases a2:t<j.ph.length
   ·rw[show KA j t=true from yAj ⟨a1,a2⟩];refine WW ?_;exact⟨rfl,rfl⟩
   ·rw[show KA j t=false from yAl (λh=>a2 h.2)];refine WW ?_;exact⟨rfl,rfl⟩
  ·rw[show KA j t=false from yAl (λh=>a1 h.1)];refine WW ?_;exact⟨rfl,rfl⟩
 clear k1 k2 k3 k4;refine WW ?_;refine zO (j.ph.length) [1001,3,4,6,3000,1002] [3,4,6,3000,1002] [2,3,4,6,7,8,51,52] [53,2,3,4,6,7,8,51,52] Z (λi T U=>⟨(53,iA i)::T,(1001,.arr 2 ((AX j c t i).map vN) false)::U⟩) ?_;(conv=>whnf);refine⟨by(rw[ls0];rfl),?_,?_⟩
 ·intro i hi;have hy:=zM vE j.ph i hi
  change (j.ph.map vE)[i]? =some (vE (xF j i))at hy
  have hyl:=zM vN c.li i zB
  change (c.li.map vN)[i]? =some (vN (vJ c i))at hyl
  have hym:∃l,((AX j c t i).map vN)[i]? =some (vN l):=⟨_,zM vN (AX j c t i) i (by rw[zD7];exact hi)⟩;obtain⟨lm,hym⟩:=hym;have hti:=J.ti i hi;have htk:=zXy (C.k i hi) zB zB;have hph:PhB (xF j i):=⟨zB,zB,zB,zB⟩;have hNi:=hN i;have ls:=λlv=>zQ2 (xF j i) hph (vJ c i) zB lv
  have ck:=gD j.cf zB i t;have es:=zK6 j c t i;have em:(AX j c t (i+1)).map vN=((AX j c t i).map vN).set i (vN (lpF (xF j i) (vJ c i) (lvS j c t i))):=by rw[es,yCk]
  rw[em];have elv:lvS j c t i=_:=rfl
  conv at elv=>rhs;unfold lvS
  have lsv:=ls (lvS j c t i);clear ls es em CL hN ls0 lsE;generalize lpF (xF j i) (vJ c i) (lvS j c t i)=ln at *;generalize (AX j c t i).map vN=xs at *;generalize lvS j c t i=lv at *;generalize dB j.cf i t=cq at*
  cases ha:KA j t with
  |false=>
   rw[ha]at elv;rw[yAc xL]at elv;generalize xF j i=ph at *;generalize vJ c i=l at *;by_cases hm:ph.maxg<=l.tk+1
   ·rw[yAj hm]at elv;subst elv;refine zV lsv ?_;rfl
   ·rw[yAl hm]at elv;subst elv;refine zV lsv ?_;rfl
  | true=>
   rw[ha]at elv;rw[yAd Z]at elv;generalize xF j i=ph at *;generalize vJ c i=l at *;by_cases hpt:(i:Int)=t
   ·rw[yAl (λh=>h hpt)]at elv;rw[yB4]at elv;subst elv;by_cases hm:ph.maxg<=l.tk+1
    ·(refine zV lsv ?_)
     rfl
    ·(refine zV lsv ?_)
     rfl
   rw[yAj hpt,yA3]at elv;by_cases hm:ph.maxg<=l.tk+1
   ·rw[yAj hm,yDi]at elv;subst elv;refine zV lsv ?_;rfl
   ·rw[yAl hm,yC9]at elv;rw[elv]at lsv;clear elv
    cases cq with
    |true=>
     refine yQ (wV ck lsv) ?_;rfl
    |false=>
     refine yQ (wV ck lsv) ?_;rfl
 ·rw[lsE];have e1:((JG j c t).map vN).length=j.ph.length:=by simp[JG]
  clear lsE ls0 hN
  cases ha:KA j t with
  | true=>
   rw[yAd Z];unfold KA at ha;rw[yAm]at ha;obtain⟨tn,rfl⟩:∃tn:Nat,t=tn:=⟨t.toNat,zB⟩;rw[yBq];have cs:=zQz j J ⟨JG j c tn,c.gr,c.nx,c.wt⟩ CL h0 tn zB;unfold bD at cs;dsimp only at cs;rw[e1]at cs;generalize cX j tn (cX j tn ⟨JG j c tn,c.gr,c.nx,c.wt⟩ 0) 1=c2 at *;generalize (if(cX j tn ⟨JG j c tn,c.gr,c.nx,c.wt⟩ 0).gr=c.gr then(cX j tn ⟨JG j c tn,c.gr,c.nx,c.wt⟩ 0).nx else c.nx)=o at *;generalize (JG j c tn).map vN=xs at *;clear CL
   cases hE:decide (c2.gr≠c.gr)with
   |true=>
    rw[hE,show AY true c2 o=GK c2 o from Z]at cs;unfold GK at cs;clear hE;refine zV cs ?_;exact zH [] Z Z (YN c2) Z
   |false=>
    rw[hE,show AY false c2 o=bD c2 1002 from Z]at cs;unfold bD at cs;clear hE;refine zV cs ?_;exact zH [] Z Z (YN c2) Z
  | false=>
   rw[yAc xL];have cs:=zQ0 j J ⟨JG j c t,c.gr,c.nx,c.wt⟩ CL h0;unfold bD at cs;dsimp only at cs;rw[e1]at cs;generalize cyF j ⟨JG j c t,c.gr,c.nx,c.wt⟩=c2 at *;generalize cyO ⟨JG j c t,c.gr,c.nx,c.wt⟩=e at *;generalize (JG j c t).map vN=xs at *;clear CL
   cases e with
   |true=>
    rw[show AY true c2 c.nx=GK c2 c.nx from Z]at cs;unfold GK at cs;refine zV cs ?_;exact zH [] Z Z (YN c2) Z
   |false=>
    rw[show AY false c2 c.nx=bD c2 1002 from Z]at cs;unfold bD at cs;refine zV cs ?_;exact zH [] Z Z (YN c2) Z
def zK8 (j:Jn) (hn:j.ph.length<=1000) (g gr wt:Int) (L:List AV) (nL:Nat):zN 186 [wC j,.ptr 3000 0 0,iA g] [(3000,.box [.ref 1001 0 nL,iA gr,.s (.slice none 0 0),iA wt]),(1001,.arr 2 L false)] (.tup [])
  [(3000,.box [.ref 1001 0 nL,iA g,.ref 2001 0 2,iA wt]),(1001,.arr 2 L false),(2001,.arr 1 [iA (bY j 0 g 0),iA (bY j 1 g 0)] false)]:=by
 have c0:=VS j hn 0 g 0;have c1:=VS j hn 1 g 0;generalize bY j 0 g 0=f0 at *;generalize bY j 1 g 0=f1 at *;obtain⟨N2,hN2⟩:∃n:Nat,n=2:=⟨2,rfl⟩;refine eM call186 λF hF=>?_
 (repeat' (first|refine uP ?_|apply xM|apply xZ|intro hc|(refine zE ?_;first|(refine gP ?_;refine cW 2001 tok Z Z Z Z Z Z Z Z Z Z Z Z Z zB zB Z Z Z ?_))|fail))
 refine zO (N2) [3000,2001,3,1001] [3,1001] [1,2,3] [20,19,1,2,3] Z (λi T U=>⟨(20,iA i)::(19,iA N2)::T,(3000,.box [.ref 1001 0 nL,iA g,.ref 2001 0 N2,iA wt])::(2001,.arr 1 (enN f0 f1 i) false)::U⟩) ?_;(conv=>whnf);refine⟨by(rw[hN2];rfl),?_,?_⟩
 ·intro i hi;have:i=0∨i=1:=by omega
  rcases this with rfl|rfl
  ·have hy:(enN f0 f1 0)[((0:Nat):Int).toNat]? =some (iA 0):=rfl;have hl:(enN f0 f1 0).length=2:=rfl;refine zV c0 ?_;rfl
  ·have hy:(enN f0 f1 1)[((1:Nat):Int).toNat]? =some (iA 0):=rfl;have hl:(enN f0 f1 1).length=2:=rfl;refine zV c1 ?_;rfl
 ·have e2:enN f0 f1 N2=[iA f0,iA f1]:=by rw[hN2];rfl
  rw[e2];refine WW ?_;subst hN2;exact jK [3000,1001,2001] Z Z Z Z
def inF (j:Jn):Ct:=⟨List.replicate j.ph.length ⟨0,0⟩,0,[bY j 0 0 0,bY j 1 0 0],j.st⟩
def zBu (j:Jn) (p:Nat):vJ (inF j) p=⟨0,0⟩:=by
 unfold vJ inF;simp only[yAk,yCb]
 split<;>rfl
def zK9 {j:Jn} (J:JV j):CV j (inF j):=by
 refine⟨by simp[inF],λp hp=>by rw[zBu];rfl,λp q hp hq hpq h1 h2=>by rw[zBu]at h1;exact absurd Z h1,⟨yCj _,?_⟩,rfl,λr hr=>zSv j (inF j) 0 r hr,⟨J.st.1,yCj _⟩,.inr λp hp=>by rw[zBu]⟩;have:=GM J
 show(0:Int)<SD j
 omega
def zVv {P:Program} {K0:List Nat} {F:Fr K0} {m:Nat} {ops:Array Oper} {rest:List Oper} {Q:List FP->St->Prop} {dr:Bool} {fs:List FP} {ty T:Nat} {pos:String} {after:Array Edge} {st:St} (hk:zZ P F m ops dr (⟨some 3,.alloc T,ty,pos,after,none⟩::rest) st fs Q):zZ P F m ops dr (⟨some 3,.alloc T,ty,pos,after,none⟩::rest) st fs Q:=hk
def zVw (j:Jn) (hn:j.ph.length<=1000):zN 145 [wC j] [] (ctA (inF j)) []:=by
 have hlp:=zA vE j.ph;have ce:=zK8 j hn 0 0 j.st ((List.replicate j.ph.length (⟨0,0⟩:Li)).map vN) ((List.replicate j.ph.length (⟨0,0⟩:Li)).map vN).length;have eL:(List.replicate j.ph.length (⟨0,0⟩:Li)).map vN=List.replicate j.ph.length (vN ⟨0,0⟩):=yD6;have eN:((List.replicate j.ph.length (⟨0,0⟩:Li)).map vN).length=j.ph.length:=by simp
 rw[eN,eL]at ce;rw[<-hlp]at ce;refine eM call145 λF hF=>?_
 repeat' (first|(refine zE ?_;first|(refine zVv ?_;refine uT (nw:=[3000]) (XI tok 3000 Z Z) Z Z Z ?_)|refine vF tok Z Z ?_|(refine gP ?_;refine cW 1001 tok Z Z Z Z Z Z Z Z Z Z Z Z Z zB zB Z Z Z ?_)|refine aH tok Z Z Z Z ?_|(refine xT ?_;(first|(refine vR 186 ?_;first|refine yJ (zI (ce) Z Z Z Z Z) Z ?_|refine uT (zI (ce) Z Z Z Z Z) Z Z Z ?_|refine XF (zI (ce) Z Z Z Z Z) Z Z Z ?_)))|(refine cU ?_;refine cI tok Z Z Z ?_)|refine VM WA ?_|refine uQ ?_)|first|refine SQ ?_|fail)
 have eF:AV.agg [.sl false ((List.replicate (j.ph.map vE).length (vN ⟨0,0⟩)).take (j.ph.map vE).length),iA 0,.sl false [iA (bY j 0 0 0),iA (bY j 1 0 0)],iA j.st]=ctA (inF j):=by
  rw[yAo zS,hlp,<-eL];rfl
 exact zH [] Z Z eF Z
def zXz (p:Nat->Bool) {n q:Nat} (hn:n<=8) (hq:q<n):inS (dK p n) q=p q:=by
 have e:=GO (λi=>decide (i<n)&&p i) n 8 hn (λi h1 h2=>by rw[yAl zB];rfl);have e2:dK p n=dK (λi=>decide (i<n)&&p i) n:=bH _ λi hi=>by rw[yAj hi];rfl
 rw[e2,<-e,zLw _ q zB,yAj hq];rfl
theorem zD8 (ps:List Ph) (ex:Bool) (i:Nat):∀n,XV ps ex i n=dK (cnd ps ex i) n
 |0=>rfl
 |n+1=>by
  unfold XV dK;rw[zD8 ps ex i n];have:(2:Int) ^ n=p2 n:=by unfold p2;rw[yBq]
  rw[this]
def zQs (ps:List Ph) (ex:Bool) {p q:Nat} (hn:ps.length<=8) (hp:p<ps.length) (hq:q<ps.length):dB (gM ps ex ps.length) p q=cnd ps ex p q:=by
 have hl:(gM ps ex ps.length).length=ps.length:=by simp[gM]
 unfold dB;rw[yAj zB,yA3,yBq]
 have e:(gM ps ex ps.length).getD p default=XV ps ex p ps.length:=by
  unfold gM;simp[List.getD,hp]
 rw[e,zD8];exact zXz _ hn hq
theorem zLa (d:Dk) (l:List (Int×Int)):∀i k,k<i->∃e,(JK d l i).1.getD k default=RC e (l.getD k default)
 |0,k,h=>absurd h (yC3 _)
 |i+1,k,h=>by
  have hl:=SE d l i;unfold JK;by_cases hk:k=i
  ·subst hk;refine⟨(JK d l k).2,?_⟩;simp[List.getD,hl]
  ·obtain⟨e,he⟩:=zLa d l i k zB;refine⟨e,?_⟩;rw[<-he];simp only[yAk];rw[yA9 zB]
def ShB (l:List (Int×Int)):Bool:=(l.all λs=>decide (0<=s.1/\s.1<=1/\0<=s.2/\s.2<=3))&&(l.all λs=>[0,1,2].all λg:Int=>decide (s.2<=g)||(l.any λs'=>s'.2==g))
def zLb (n:Int):ShB (qH n)=true:=by
 unfold qH;split
 ·decide
 split
 ·decide
 split
 ·decide
 split
 ·decide
 split
 ·decide
 ·decide
def BG (d:Dk) (s:Int×Int):(RC d s).ring=s.1/\(RC d s).group=s.2/\1<=(RC d s).ming/\(RC d s).ming<=(RC d s).maxg/\(RC d s).maxg<=60/\1<=(RC d s).yel/\(RC d s).yel<=60/\0<=(RC d s).red/\(RC d s).red<=60/\0<=(RC d s).walk/\(RC d s).walk<=60/\0<=(RC d s).clear/\(RC d s).clear<=60/\(RC d s).walk+(RC d s).clear<=(RC d s).maxg/\((RC d s).walk=0↔(RC d s).clear=0):=by
 have b1:=yD d (3-1+1) zB;have b2:=yD (ad d) (2-1+1) zB;have b3:=yD (ad (ad d)) 3 zB;have b4:=yD (ad (ad (ad (ad d)))) (2-1+1) zB;have b5:=yD (ad (ad (ad (ad (ad d))))) (2-1+1) zB;have b6:=yD (ad (ad (ad (ad (ad (ad d)))))) 4 zB;have b7:=yD (ad (ad (ad (ad d)))) 4 zB;unfold RC;split
 ·dsimp only;omega
 ·dsimp only;omega
def zSu (a b:Int):(a==b)=(b==a):=by rw[yE5,yBw,yBw];exact eq_comm
def zX0 (a b:Int):(a != b)=(b != a):=by unfold bne;rw[zSu]
def zX1 (a b:Nat):(a != b)=(b != a):=by unfold bne;rw[show(a==b)=(b==a) by rw[yE5,yBw,yBw];exact eq_comm]
def zVx (d:Dk):JV (jnF d):=by
 have hsl:=MN (nx d 6);have hsb:=zLb (nx d 6);have hst:=yD (ad d) 3 zB;have hlen:(VU d).1.length=(qH (nx d 6)).length:=SE _ _ _
 have hat:∀k,k<(VU d).1.length->∃e,xF (jnF d) k=RC e ((qH (nx d 6)).getD k default):=λk hk=>by
  rw[hlen]at hk;exact zLa _ _ _ k hk
 have hph:(jnF d).ph=(VU d).1:=rfl;generalize qH (nx d 6)=sl at *;generalize hex:(nx (VU d).2 4==3)=ex at *;have hcf:(jnF d).cf=gM (VU d).1 ex (VU d).1.length:=by unfold jnF;rw[hex]
 unfold ShB at hsb;simp only[yAs,yAu,yAm,yC1,yB8,yBw]at hsb
 have hmem:∀k,k<(VU d).1.length->sl.getD k default∈sl:=λk hk=>by
  rw[hlen]at hk;simp[List.getD,hk]
 have hcd:∀p q:Nat,p<(VU d).1.length->q<(VU d).1.length->dB (jnF d).cf p q=cnd (VU d).1 ex p q:=λp q hp hq=>by
  rw[hcf];exact zQs _ _ zB hp hq
 have hc1:(jnF d).cf.length=(VU d).1.length:=by rw[hcf];simp[gM]
 refine⟨?_,?_,?_,?_,?_,?_,?_,?_,?_,?_,?_⟩
 ·rw[hph];omega
 ·rw[hph];exact hc1
 ·intro i hi;rw[hph]at hi⊢
  have e:(jnF d).cf.getD i default=XV (VU d).1 ex i (VU d).1.length:=by
   rw[hcf];unfold gM;simp[List.getD,hi]
  rw[e];exact OK _ _ _ _
 ·intro p hp;rw[hph]at hp;rw[hcd p p hp hp];unfold cnd;simp
 ·intro p q hp hq;rw[hph]at hp hq;rw[hcd p q hp hq,hcd q p hq hp];unfold cnd;rw[zX1 p q,zSu ((VU d).1.getD p default).ring,zX0 ((VU d).1.getD p default).group,show((p:Int)+q)=((q:Int)+p) by omega]
 ·intro p q hp hq hpq h;rw[hph]at hp hq;rw[hcd p q hp hq];unfold cnd;rw[show(p != q)=true by simpa using hpq,yA3]
  rcases h with h|h
  ·rw[show(((VU d).1.getD p default).ring==((VU d).1.getD q default).ring)=true from yBw.2 h];rfl
  ·rw[show(((VU d).1.getD p default).group != ((VU d).1.getD q default).group)=true from yCs.2 h];simp
 ·intro p hp;obtain⟨e,he⟩:=hat p hp;rw[he,(BG e _).1];have:=hsb.1 _ (hmem p hp);omega
 ·intro p hp;obtain⟨e,he⟩:=hat p hp;rw[he,(BG e _).2.1];have:=hsb.1 _ (hmem p hp);omega
 ·intro p hp;obtain⟨e,he⟩:=hat p hp;rw[he];exact(BG e _).2.2
 ·intro p hp g hg0 hg;obtain⟨e,he⟩:=hat p hp;rw[he,(BG e _).2.1]at hg;have h3:=hsb.1 _ (hmem p hp)
  have hgm:g∈([0,1,2]:List Int):=by
   have:g=0∨g=1∨g=2:=by omega
   rcases this with rfl|rfl|rfl<;>simp
  rcases hsb.2 _ (hmem p hp) g hgm with h|⟨s,hs,hsg⟩
  ·omega
  ·obtain⟨q,hq,hqs⟩:=yCp hs;refine⟨q,by rw[hph,hlen];exact hq,?_⟩;obtain⟨e2,he2⟩:=hat q (by rw[hlen];exact hq);rw[he2,(BG e2 _).2.1];have:sl.getD q default=s:=by rw[<-hqs];simp[List.getD,hq]
   rw[this];exact hsg
 ·show 0<=nx (ad d) 3/\nx (ad d) 3<=60
  omega
def nrB (a:Int):Bool:=decide (a=1∨a=2)
def YM (a:Int):zN 259 [iA a] [] (bA (nrB a)) []:=by
 unfold nrB
 (cases hb:decide (a=1∨a=2)with|false=>((refine eM call259 λF hF=>?_);((refine WW (I2 (λhc=>?_) λhc=>?_)));all_goals (first|exact zJ|(simp only[nrB,yAy]at hb;first|exact zXO|exact AT)))|true=>(simp only[nrB,yAm]at hb;(refine eM call259 λF hF=>?_);((refine WW (I2 (λhc=>?_) λhc=>?_)));all_goals (first|exact zJ|exact zXO|exact AT)))
def snF (li:List Li) (k:Int) (p:Nat):Int:=if(p:Int)=k then 1 else(li.getD p default).lamp
def QR (li:List Li) (k:Int):List Int:=(List.range li.length).map (snF li k)
def zLc (li:List Li) (k:Int):(QR li k).length=li.length:=by simp[QR]
def zLd (f:Nat->Int) (n i:Nat) (h:i<n) (x:Int) (hx:x=f i):(((List.range i).map f++List.replicate (n-i) 0).map iA).set i (iA x)=((List.range (i+1)).map f++List.replicate (n-(i+1)) 0).map iA:=by
 subst hx;rw[<-yCk,show n-i=(n-(i+1))+1 by omega,yEc,yDk _ _ zS,yAe,yB1,yCm,yEu,yCx];simp
def BH (f:Nat->Int) (n i:Nat) (h:i<=n):(((List.range i).map f++List.replicate (n-i) 0).map iA).length=n:=by
 simp;omega
def zQt (f:Nat->Int) (n i:Nat) (h:i<n):(((List.range i).map f++List.replicate (n-i) 0).map iA)[i]? =some (iA 0):=by
 simp[show 0<n-i by omega]
def zVy (li:List Li) (hn:li.length<=1000) (k:Int):zN 231 [zC vN li,iA k] [] (zC iA (QR li k)) []:=by
 have hl:=zA vN li;have e0:List.replicate li.length (AV.s (.int .i64 0))=((List.range 0).map (snF li k)++List.replicate (li.length-0) 0).map iA:=by simp[iA]
 obtain⟨n,hnn⟩:∃n,li.length=n:=⟨_,rfl⟩;refine eM call231 λF hF=>?_
 refine WW ?_;refine zO (li.length) [10] [] [1,5,11,12] [13,1,5,11,12] Z (λi T U=>⟨(13,iA i)::T,(10,.arr 1 (((List.range i).map (snF li k)++List.replicate (li.length-i) 0).map iA) false)::U⟩) ?_;(conv=>whnf);refine⟨by(rw[<-e0,<-hl];rfl),?_,?_⟩
 ·intro i hi;have hy:=zM vN li i hi;have hfl:=BH (snF li k) li.length i zB;have hfa:=zQt (snF li k) li.length i hi;have hs:=zLd (snF li k) li.length i hi (snF li k i) Z
  have hsd:snF li k i=if(i:Int)=k then 1 else(li.getD i default).lamp:=rfl
  generalize ((List.range i).map (snF li k)++List.replicate (li.length-i) 0).map iA=xs at *;generalize ((List.range (i+1)).map (snF li k)++List.replicate (li.length-(i+1)) 0).map iA=ys at *;generalize snF li k i=v at *;generalize li.getD i default=t at *;rw[<-hs];clear hs e0 hnn;by_cases hk:(i:Int)=k
  ·rw[yAd hk]at hsd;subst hsd;have hfb:(xs.set i (iA t.lamp))[i]? =some (iA t.lamp):=by rw[yB5 zB]
   have hls:(xs.set i (iA t.lamp)).length=li.length:=by simp[hfl]
   rw[<-yFc (iA t.lamp)];refine WW ?_;rfl
  ·rw[yAc hk]at hsd;subst hsd;refine WW ?_;rfl
 ·have hfl:=BH (snF li k) li.length li.length (yAg _)
  have e:zC iA (QR li k)= .sl false ((((List.range li.length).map (snF li k)++List.replicate (li.length-li.length) 0).map iA).take (li.map vN).length):=by
   rw[yAo zB,yCm,yE3,yA8];rfl
  rw[e];clear e e0;generalize ((List.range li.length).map (snF li k)++List.replicate (li.length-li.length) 0).map iA=xs at *;refine WW ?_;exact zJ
def fpB (cf ls:List Int) (p q:Nat):Bool:=nrB (ls.getD p default)&&(nrB (ls.getD q default)&&dB cf p q)
def fbF (cf ls:List Int):Bool:=(List.range ls.length).any λp=>(List.range ls.length).any λq=>fpB cf ls p q
def zX2 {cf ls:List Int} (h:fbF cf ls=false) (p q:Nat) (hp:p<ls.length) (hq:q<ls.length):fpB cf ls p q=false:=by
 unfold fbF at h;rw[yDe]at h;have h1:=h p (yA2.2 hp);rw[yCy,yDe]at h1;have h2:=h1 q (yA2.2 hq)
 rwa [yCy]at h2
def zVz {cf ls:List Int} (h:fbF cf ls=true):∃p q:Nat,p<ls.length/\q<ls.length/\fpB cf ls p q=true/\(∀u,u<p->∀v,v<ls.length->fpB cf ls u v=false)/\(∀v,v<q->fpB cf ls p v=false):=by
 unfold fbF at h;rw[yB8]at h;obtain⟨a,ha,h⟩:=h;rw[yB8]at h;obtain⟨b,hb,h⟩:=h;obtain⟨p,hpa,⟨v,hv,hp⟩,hpm⟩:=JH (P:=λp=>∃v,v<ls.length/\fpB cf ls p v=true) a ⟨b,yA2.1 hb,h⟩;obtain⟨q,hqv,hq,hqm⟩:=JH (P:=λq=>fpB cf ls p q=true) v hp;have:=yA2.1 ha
 exact⟨p,q,zB,zB,hq,λu hu v hv=>by
  have:=hpm u hu
  cases h:fpB cf ls u v with
  |false=>rfl
  |true=>exact absurd ⟨v,hv,h⟩ this,λv hv=>by
  have:=hqm v hv
  rwa [yCy]at this⟩
theorem zV0 (cf ls:List Int) (hcf:cf.length<=40) (hn:ls.length<=1000):zN 232 [zC iA cf,zC iA ls] [] (bA (fbF cf ls)) []:=by
 have hl:=zA iA ls
 cases hf:fbF cf ls with
 | false=>
  have hno:=zX2 hf;clear hf;refine eM call232 λF hF=>?_
  (repeat' (first|refine WS ?_|refine SG (I2 (λhc=>?_) λhc=>?_)|refine SG λhc=>?_|(refine zE ?_;first|refine SM ?_)|(first|first|refine SR ?_|refine SK (I2 (λhc=>?_) λhc=>?_)|refine SK λhc=>?_|fail|refine vK ?_|refine vL ?_)|fail))
  refine zO (ls.length) [] [] [0,1,10,11] [5,12,0,1,10,11] Z (λi T U=>⟨(5,bA false)::(12,iA i)::T,U⟩) ?_;(conv=>whnf);refine⟨by rfl,?_,?_⟩
  ·intro u hu;have hy:=zM iA ls u hu;have c1:=YM (ls.getD u default);have hnu:=hno u;unfold fpB at hnu;clear hno
   cases hb:nrB (ls.getD u default)with
   |false=>
    rw[hb]at c1;generalize ls.getD u default=a at *;clear hnu;refine zV c1 ?_;rfl
   | true=>
    rw[hb]at c1;generalize ls.getD u default=a at *;refine zV c1 ?_;refine zO (ls.length) [] [] [0,1,6,10,11,12,20,21] [5,22,0,1,6,10,11,12,20,21] Z (λi T U=>⟨(5,bA false)::(22,iA i)::T,U⟩) ?_;(conv=>whnf);refine⟨by rfl,?_,?_⟩
    ·intro v hv;have hyv:=zM iA ls v hv;have c2:=YM (ls.getD v default);have c3:=gD cf hcf u v;have h:=hnu v hu hv;rw[hb,yA3]at h;generalize ls.getD v default=b at *;clear hnu c1
     cases hb2:nrB b with
     |false=>
      rw[hb2]at c2;refine zV c2 ?_;rfl
     |true=>
      rw[hb2,yA3]at h;rw[hb2]at c2;rw[h]at c3;refine yQ (wV c2 c3) ?_;rfl
    ·(refine WW ?_)
     rfl
  ·(repeat' (first|refine WS ?_|refine SG (I2 (λhc=>?_) λhc=>?_)|refine SG λhc=>?_|(refine zE ?_;first|refine SM ?_)|(first|first|refine SR ?_|refine SK (I2 (λhc=>?_) λhc=>?_)|refine SK λhc=>?_|fail|refine vK ?_|refine vL ?_)|fail))
   exact zJ
 | true=>
  obtain⟨p,q,hp,hq,hpq,hpm,hqm⟩:=zVz hf;clear hf;have hpp:nrB (ls.getD p default)=true:=by unfold fpB at hpq;rw[yAs]at hpq;exact hpq.1
  have hqq:nrB (ls.getD q default)=true:=by unfold fpB at hpq;rw[yAs,yAs]at hpq;exact hpq.2.1
  have hcc:dB cf p q=true:=by unfold fpB at hpq;rw[yAs,yAs]at hpq;exact hpq.2.2
  clear hpq;refine eM call232 λF hF=>?_
  (repeat' (first|refine WS ?_|refine SG (I2 (λhc=>?_) λhc=>?_)|refine SG λhc=>?_|(refine zE ?_;first|refine SM ?_)|(first|first|refine SR ?_|refine SK (I2 (λhc=>?_) λhc=>?_)|refine SK λhc=>?_|fail|refine vK ?_|refine vL ?_)|fail))
  refine xS (ls.length) [] [] [0,1,10,11] [5,12,0,1,10,11] Z (λi T U zs=>(i<=p)/\zs=⟨(5,bA false)::(12,iA i)::T,U⟩) ?_;(conv=>whnf);refine⟨?_,?_,?_⟩
  ·exact⟨yAt _,rfl⟩
  ·rintro u st hu ⟨hup,rfl⟩;have hy:=zM iA ls u hu;have c1:=YM (ls.getD u default);by_cases hup2:u=p
   ·subst hup2;rw[hpp]at c1
    have hqm2:∀v,v<q->(nrB (ls.getD v default)&&dB cf u v)=false:=λv hv=>by
     have h:=hqm v hv;unfold fpB at h;rw[hpp,yA3]at h;exact h
    clear hpm hqm;generalize ls.getD u default=a at *;refine zV c1 ?_;refine xS (ls.length) [] [] [0,1,6,10,11,12,20,21] [5,22,0,1,6,10,11,12,20,21] Z (λi T U zs=>(i<=q)/\zs=⟨(5,bA false)::(22,iA i)::T,U⟩) ?_;(conv=>whnf);refine⟨?_,?_,?_⟩
    ·exact⟨yAt _,rfl⟩
    ·rintro v st hv ⟨hvq,rfl⟩;have hyv:=zM iA ls v hv;have c2:=YM (ls.getD v default);have c3:=gD cf hcf u v;by_cases hvq2:v=q
     ·subst hvq2;rw[hqq]at c2;rw[hcc]at c3;clear hqq hcc hqm2 c1;generalize ls.getD v default=b at*
      (have zc1:=c2;have zc2:=c3;(repeat' (first|refine WS ?_|refine SG (I2 (λhc=>?_) λhc=>?_)|refine SG λhc=>?_|(refine zE ?_;first|refine SM ?_)|(first|first|refine SR ?_|refine SK (I2 (λhc=>?_) λhc=>?_)|refine SK λhc=>?_|fail|refine vK ?_|refine vL ?_)|fail))<;>clear zc1 zc2)
      exact zJ
     ·have h:=hqm2 v zB;clear hqq hcc hqm2 c1;generalize ls.getD v default=b at*
      cases hb2:nrB b with
      |false=>
       rw[hb2]at c2;refine zV c2 ?_;exact⟨zB,rfl⟩
      |true=>
       rw[hb2,yA3]at h;rw[hb2]at c2;rw[h]at c3;refine yQ (wV c2 c3) ?_;exact⟨zB,rfl⟩
    ·rintro st ⟨hvq,rfl⟩;exfalso;omega
   ·have hnu:=hpm u zB;unfold fpB at hnu;clear hpp hqq hcc hpm hqm
    cases hb:nrB (ls.getD u default)with
    |false=>
     rw[hb]at c1;generalize ls.getD u default=a at *;clear hnu;refine zV c1 ?_;exact⟨zB,rfl⟩
    | true=>
     rw[hb]at c1;generalize ls.getD u default=a at *;refine zV c1 ?_;refine zO (ls.length) [] [] [0,1,6,10,11,12,20,21] [5,22,0,1,6,10,11,12,20,21] Z (λi T U=>⟨(5,bA false)::(22,iA i)::T,U⟩) ?_;(conv=>whnf);refine⟨by rfl,?_,?_⟩
     ·intro v hv;have hyv:=zM iA ls v hv;have c2:=YM (ls.getD v default);have c3:=gD cf hcf u v;have h:=hnu v hv;rw[hb,yA3]at h;generalize ls.getD v default=b at *;clear hnu c1
      cases hb2:nrB b with
      |false=>
       rw[hb2]at c2;refine zV c2 ?_;rfl
      |true=>
       rw[hb2,yA3]at h;rw[hb2]at c2;rw[h]at c3;refine yQ (wV c2 c3) ?_;rfl
     ·(refine WW ?_)
      exact⟨zB,rfl⟩
  ·rintro st ⟨hup,rfl⟩;exfalso;omega
def BgR (j:Jn) (c c':Ct):Prop:=∀q:Nat,q<j.ph.length->vJ c' q=vJ c q∨((vJ c q).lamp=0/\vJ c' q=⟨1,0⟩)
theorem BgR.refl (j:Jn) (c:Ct):BgR j c c:=λq _=> .inl Z
theorem BgR.trans {j:Jn} {a b c:Ct} (h:BgR j a b) (g:BgR j b c):BgR j a c:=λq hq=>by
 rcases h q hq with h|⟨h1,h2⟩<;>rcases g q hq with g|⟨g1,g2⟩
 ·exact .inl (g.trans h)
 ·exact .inr ⟨by rw[<-h];exact g1,g2⟩
 ·exact .inr ⟨h1,g.trans h2⟩
 ·rw[h2]at g1;exact absurd g1 xL
structure Sg where
 c:Ct
 lat:Bool
def vH (s:Sg):AV:= .agg [zC vN s.c.li,iA s.c.gr,zC iA s.c.nx,iA s.c.wt,bA s.lat]
def fX (j:Jn):Sg:=⟨inF j,false⟩
def sjF (j:Jn) (s:Sg) (t k:Int):Sg:=if s.lat=true then s else⟨stF j s.c t,fbF j.cf (QR (stF j s.c t).li k)⟩
def srF (j:Jn) (s:Sg):Sg:=if s.lat=true then fX j else s
def BI {α:Type} (f:α->AV) (l:List α):AV.sl false ((l.map f).take (l.map f).length)=zC f l:=by rw[yAh];rfl
def JE (l:List Int) (hl:l.length<=1073741824):zN 91 [zC iA l] [] (zC iA l) []:=by
 have hll:=zA iA l;refine eM call91 λF hF=>?_
 refine yZ 0 Z (λcap hx=>?_) ?_
 ·have:l=[]:=by simpa using hx
  subst this;refine WW ?_;exact zJ
 ·(refine WW ?_)
  refine zH [] Z Z (BI _ _) Z
def JF (l:List Li) (hl:l.length<=1073741824):zN 187 [zC vN l] [] (zC vN l) []:=by
 have hll:=zA vN l;refine eM call187 λF hF=>?_
 refine yZ 0 Z (λcap hx=>?_) ?_
 ·have:l=[]:=by simpa using hx
  subst this;refine WW ?_;exact zJ
 ·(refine WW ?_)
  refine zH [] Z Z (BI _ _) Z
def BJ (s:Sg) (h1:s.c.li.length<=1073741824) (h2:s.c.nx.length<=1073741824):zN 189 [vH s] [] (vH s) []:=by
 have c1:=JF s.c.li h1;have c2:=JE s.c.nx h2;refine eM call189 λF hF=>?_
 refine yQ (wV c1 c2) ?_;exact zJ
def zLe (j:Jn) (J:JV j):zN 112 [wC j] [] (vH (fX j)) []:=by
 have c1:=zVw j zDv;unfold fX;generalize inF j=c at *;refine eM call112 λF hF=>?_
 refine zV c1 ?_;exact zJ
def zQu (j:Jn) (J:JV j) (s:Sg) (C:CV j s.c) (t k:Int):zN 214 [wC j,vH s,iA t,iA k] [] (vH (sjF j s t k)) []:=by
 have hJ:=J.n;have hc:=J.c;have hn:=C.n;have hm:=C.m;have c0:=BJ s zB zB;have c1:=zVu j J s.c C t;have C1:=zSy J C t;have c2:=zVy (stF j s.c t).li (by have:=C1.n;omega) k;have c3:=zV0 j.cf (QR (stF j s.c t).li k) zB (by rw[zLc];have:=C1.n;omega);unfold sjF;generalize fbF j.cf (QR (stF j s.c t).li k)=f at *;generalize QR (stF j s.c t).li k=ls at *;generalize stF j s.c t=c at *;obtain⟨sc,lat⟩:=s
 cases lat with
 |true=>
  rw[yAd Z];refine eM call214 λF hF=>?_
  refine zV c0 ?_;exact zJ
 |false=>
  rw[yAc yAx];refine eM call214 λF hF=>?_
  refine yQ (gG c1 c2 c3) ?_;exact zJ
def zLf (j:Jn) (J:JV j) (s:Sg) (h1:s.c.li.length<=1073741824) (h2:s.c.nx.length<=1073741824):zN 154 [wC j,vH s] [] (.tup [vH (srF j s),bA s.lat]) []:=by
 have c0:=BJ s h1 h2;have c1:=zLe j J;unfold srF;generalize fX j=z at *;obtain⟨sc,lat⟩:=s
 cases lat with
 |true=>
  rw[yAd Z];refine eM call154 λF hF=>?_
  refine zV c1 ?_;exact zJ
 |false=>
  rw[yAc yAx];refine eM call154 λF hF=>?_
  refine zV c0 ?_;exact zJ
def ph0:Ph:=⟨0,0,2,3,1,1,0,0⟩
def j0:Jn:=⟨[ph0,ph0],[2,1],0⟩
def two {p:Nat} (h:p<j0.ph.length):p=0∨p=1:=by
 have:j0.ph.length=2:=rfl;omega
def zX3 {j:Jn} (J:JV j) {s:Sg} (C:CV j s.c) (t k:Int):CV j (sjF j s t k).c:=by
 unfold sjF;split
 ·exact C
 ·exact zSy J C t
def zZq {j:Jn} (J:JV j) {s:Sg} (C:CV j s.c):CV j (srF j s).c:=by
 unfold srF;split
 ·exact zK9 J
 ·exact C
def ph1:Ph:=⟨0,0,2,3,1,0,0,0⟩
def j1:Jn:=⟨[ph1,ph1],[2,1],0⟩
def WG {p q:Prop} (k:q) (h:ZA q->p:=by(intro hq;(repeat' (first|refine ZK ?_|refine xM (λhc=>?_) λhc=>?_|fail));exact hq.h)):p:=h ⟨k⟩
def WO {p q:Prop} (k:q) (h:ZA q->p:=by(intro hq;(repeat' (first|refine ZK ?_|refine xM (λhc=>?_) λhc=>?_|fail));exact hq.h)):p:=h ⟨k⟩
def e1 (d:Dk) (now:Int):Int:=[-1,0,max (-1) (now-nx d 6)].getD (nx (ad d) 3).toNat 0
def d0 (xs:List Int) (hl:xs.length<=9223372036854775807):Dk:=⟨xs,0,yAt _,hl⟩
def VQ (es:List Int) (ph:Int):Int:=if ph<0∨(es.length:Int)<=ph then -1 else es.getD ph.toNat 0
def WF (k:Int):Bool:=k==2||k==3
def TX (es:List Int) (ph si:Int):Int:=max si (VQ es ph)
def OG (s:Sv) (c:Cl):zN 278 [vD s,dZ c] [] (iA (VQ s.en c.ph)) []:=by
 have hl:(s.en.map iA).length=s.en.length:=by simp
 by_cases h1:c.ph<0
 ·rw[show VQ s.en c.ph= -1 by simp[VQ,h1]];refine eM call278 λF hF=>?_
  refine WO ?_;exact zJ
 ·by_cases h2:(s.en.length:Int)<=c.ph
  ·rw[show VQ s.en c.ph= -1 by simp[VQ,h2]];refine eM call278 λF hF=>?_
   refine WO ?_;exact zJ
  ·rw[show VQ s.en c.ph=s.en.getD c.ph.toNat 0 by unfold VQ;rw[yAc zB]];have hy:=yN iA s.en c.ph zB zB;refine eM call278 λF hF=>?_
   refine WO ?_;exact zJ
def kT (c:Cl):zN 87 [dZ c] [] (bA (WF c.k)) []:=by
 unfold WF;by_cases h:c.k=2
 ·rw[show(c.k==2||c.k==3)=true by simp[h]];refine eM call87 λF hF=>?_
  refine WO ?_;exact zJ
 ·rw[show(c.k==2||c.k==3)=(c.k==3) by simp[h]];refine eM call87 λF hF=>?_
  refine WO ?_;exact zJ
def TY (s:Sv) (c:Cl):zN 280 [vD s,dZ c] [] (iA (TX s.en c.ph c.si)) []:=by
 refine eM call280 λF hF=>?_
 (repeat' (first|refine ZK ?_|refine xM (λhc=>?_) λhc=>?_|(refine zE ?_;refine xT ?_;refine yJ (zI (OG ⟨_,_,_⟩ ⟨_,_,_,_,_⟩) Z Z Z Z Z) Z ?_)|fail))
 exact zJ
def zBv (n d:Int) (hd:1<=d) (hm:n.tmod d=0):n.tdiv d=n/d:=by
 have h1:=Int.tmod_add_mul_tdiv n d;rw[hm]at h1;have h2:n=d*n.tdiv d:=by omega
 exact(Int.ediv_eq_of_eq_mul_right zB h2).symm
def GJ (n d:Int) (hn:n<0) (hd:1<=d) (hm:n.tmod d≠0):n.tdiv d-1=n/d:=by
 have h1:=Int.tmod_add_mul_tdiv n d;have h0:n.tmod d= -((-n).tmod d):=by rw[Int.neg_tmod];omega
 have h3: -d<n.tmod d:=by
  have:=yFx (-n) (show 0<d by omega);omega
 have h4:n.tmod d<=0:=by
  have:=yF8 d (show 0<= -n by omega);omega
 clear h0;have h5:n=d*(n.tdiv d-1)+(n.tmod d+d):=by rw[Int.mul_sub];omega
 generalize n.tdiv d=q at *;generalize n.tmod d=r at*
 have h6:n/d=q-1:=by
  rw[h5,Int.mul_add_ediv_left _ _ zB,Int.ediv_eq_zero_of_lt zB zB];omega
 omega
def zQv (n d:Int) (hd:1<=d) (h1: -4611686018427387904<=n) (h2:n<=4611686018427387904): -4611686018427387904<=n.tdiv d/\n.tdiv d<=4611686018427387904:=by
 by_cases h:0<=n
 ·have:=IntWalk.tdiv_le n d h hd;rw[yB6 h];omega
 ·have h3:n.tdiv d= -((-n).tdiv d):=by rw[Int.neg_tdiv];omega
  have:=IntWalk.tdiv_le (-n) d zB hd;rw[h3,yB6 zB];omega
def VR (n d:Int) (hd:1<=d) (h1: -4611686018427387904<=n) (h2:n<=4611686018427387904):zN 303 [iA n,iA d] [] (iA (n/d)) []:=by
 have hb:=zQv n d hd h1 h2;have hq:ZM .i64 (n.tdiv d):=⟨zB,zB⟩;by_cases hm:n.tmod d=0
 ·rw[<-zBv n d hd hm];refine eM call303 λF hF=>?_
  refine WO ?_;exact zJ
 ·by_cases h0:n<0
  ·rw[<-GJ n d h0 hd hm];refine eM call303 λF hF=>?_
   refine WO ?_;exact zJ
  ·rw[<-yB6 (show 0<=n by omega)];refine eM call303 λF hF=>?_
   refine WO ?_;exact zJ
def zQw (per cap:Int) (es:List Int) (now ph k si:Int):Int:=min cap (k+(now-TX es ph si)/per)
structure COk (per now:Int) (es:List Int) (c:Cl):Prop where
 p:1<=per
 k0: -1000<=c.k
 k1:c.k<=1000
 n0: -1099511627776<=now
 n1:now<=1099511627776
 s0: -1099511627776<=TX es c.ph c.si
 s1:TX es c.ph c.si<=1099511627776
 e0: -1099511627776<=VQ es c.ph
 e1:VQ es c.ph<=1099511627776
def zV1 (n d:Int) (hd:1<=d) (h1: -4611686018427387904<=n) (h2:n<=4611686018427387904): -4611686018427387904<=n/d/\n/d<=4611686018427387904:=by
 constructor
 ·refine(Int.le_ediv_iff_mul_le zB).2 ?_;have:(4611686018427387904:Int)*1<=4611686018427387904*d:=Int.mul_le_mul_of_nonneg_left hd zB;omega
 ·have:n/d<=4611686018427387904/1:=by
   rw[Int.ediv_one];refine Int.le_of_lt_add_one ((Int.ediv_lt_iff_lt_mul zB).2 ?_);have:(4611686018427387904+1:Int)*1<=(4611686018427387904+1)*d:=Int.mul_le_mul_of_nonneg_left hd zB;omega
  omega
def zD9 (g:Cf) (s:Sv) (c:Cl) (now:Int) (ok:COk g.per now s.en c):zN 279 [wD g,vD s,dZ c,iA now] [] (iA (zQw g.per g.cap s.en now c.ph c.k c.si)) []:=by
 obtain⟨p,k0,k1,n0,n1,s0,s1,_,_⟩:=ok;have hq:=zV1 (now-TX s.en c.ph c.si) g.per p zB zB;refine eM call279 λF hF=>?_
 (repeat' (first|refine ZK ?_|refine xM (λhc=>?_) λhc=>?_|(refine zE ?_;refine xT ?_;(first|(refine vR 280 ?_;first|refine yJ (zI (TY s c) Z Z Z Z Z) Z ?_|refine uT (zI (TY s c) Z Z Z Z Z) Z Z Z ?_|refine XF (zI (TY s c) Z Z Z Z Z) Z Z Z ?_)|(refine vR 303 ?_;first|refine yJ (zI (VR _ _ zB zB zB) Z Z Z Z Z) Z ?_|refine uT (zI (VR _ _ zB zB zB) Z Z Z Z Z) Z Z Z ?_|refine XF (zI (VR _ _ zB zB zB) Z Z Z Z Z) Z Z Z ?_)))|fail))
 exact zJ
def zLg (lock:Int) (es:List Int) (now ph k:Int):Bool:=!WF k&&(VQ es ph != -1&&decide (now-VQ es ph<=lock))
def zLh (g:Cf) (s:Sv) (c:Cl) (now:Int) (ok:COk g.per now s.en c):zN 253 [wD g,vD s,dZ c,iA now] [] (bA (zLg g.lock s.en now c.ph c.k)) []:=by
 obtain⟨p,k0,k1,n0,n1,s0,s1,e0,e1⟩:=ok;unfold zLg;refine eM call253 λF hF=>?_
 (repeat' (first|refine ZK ?_|refine xM (λhc=>?_) λhc=>?_|(refine zE ?_;refine xT ?_;(first|(refine vR 278 ?_;first|refine yJ (zI (OG _ _) Z Z Z Z Z) Z ?_|refine uT (zI (OG _ _) Z Z Z Z Z) Z Z Z ?_|refine XF (zI (OG _ _) Z Z Z Z Z) Z Z Z ?_)|(refine vR 87 ?_;first|refine yJ (zI (kT _) Z Z Z Z Z) Z ?_|refine uT (zI (kT _) Z Z Z Z Z) Z Z Z ?_|refine XF (zI (kT _) Z Z Z Z Z) Z Z Z ?_)))|fail))
 all_goals refine zH [] Z Z (yBa bA ?_) Z
 all_goals simp_all [qT]
def PE (per cap:Int) (es:List Int) (now:Int) (x:Cl):Int:=if WF x.k then x.k else zQw per cap es now x.ph x.k x.si
def cQ (per cap:Int) (es:List Int) (now:Int) (x y:Cl):Bool:=
 if WF x.k≠WF y.k then WF x.k
 else if PE per cap es now x≠PE per cap es now y then decide (PE per cap es now y<PE per cap es now x)
 else if TX es x.ph x.si≠TX es y.ph y.si then decide (TX es x.ph x.si<TX es y.ph y.si)
 else if x.ag≠y.ag then decide (x.ag<y.ag)else decide (x.id<y.id)
theorem zV2 (g:Cf) (s:Sv) (x y:Cl) (now:Int) (okx:COk g.per now s.en x) (oky:COk g.per now s.en y):zN 254 [wD g,vD s,iA now,dZ x,dZ y] [] (bA (cQ g.per g.cap s.en now x y)) []:=by
 have ex:=kT x;have ey:=kT y;have lx:=zD9 g s x now okx;have ly:=zD9 g s y now oky;have sx:=TY s x;have sy:=TY s y
 cases hx:WF x.k<;>cases hy:WF y.k<;>rw[hx]at ex<;>rw[hy]at ey
 ·by_cases h1:zQw g.per g.cap s.en now x.ph x.k x.si=zQw g.per g.cap s.en now y.ph y.k y.si
  ·by_cases h2:TX s.en x.ph x.si=TX s.en y.ph y.si
   ·by_cases h3:x.ag=y.ag
    ·(refine eM call254 λF hF=>?_)
     (have zc1:=ex;have zc2:=ey;have zc3:=lx;have zc4:=ly;have zc5:=sx;have zc6:=sy;refine WG ?_;clear zc1 zc2 zc3 zc4 zc5 zc6)
     refine zH [] Z Z (yBa bA ?_) Z;simp[cQ,PE,hx,hy,h1,h2,h3,qT]
    ·(refine eM call254 λF hF=>?_)
     (have zc1:=ex;have zc2:=ey;have zc3:=lx;have zc4:=ly;have zc5:=sx;have zc6:=sy;refine WG ?_;clear zc1 zc2 zc3 zc4 zc5 zc6)
     refine zH [] Z Z (yBa bA ?_) Z;simp[cQ,PE,hx,hy,h1,h2,h3,qT]
   ·(refine eM call254 λF hF=>?_)
    (have zc1:=ex;have zc2:=ey;have zc3:=lx;have zc4:=ly;have zc5:=sx;have zc6:=sy;refine WG ?_;clear zc1 zc2 zc3 zc4 zc5 zc6)
    refine zH [] Z Z (yBa bA ?_) Z;simp[cQ,PE,hx,hy,h1,h2,qT]
  ·(refine eM call254 λF hF=>?_)
   (have zc1:=ex;have zc2:=ey;have zc3:=lx;have zc4:=ly;have zc5:=sx;have zc6:=sy;refine WG ?_;clear zc1 zc2 zc3 zc4 zc5 zc6)
   refine zH [] Z Z (yBa bA ?_) Z;simp[cQ,PE,hx,hy,h1,qT]
 ·(refine eM call254 λF hF=>?_)
  (have zc1:=ex;have zc2:=ey;have zc3:=lx;have zc4:=ly;have zc5:=sx;have zc6:=sy;refine WG ?_;clear zc1 zc2 zc3 zc4 zc5 zc6)
  refine zH [] Z Z (yBa bA ?_) Z;simp[cQ,hx,hy]
 ·(refine eM call254 λF hF=>?_)
  (have zc1:=ex;have zc2:=ey;have zc3:=lx;have zc4:=ly;have zc5:=sx;have zc6:=sy;refine WG ?_;clear zc1 zc2 zc3 zc4 zc5 zc6)
  refine zH [] Z Z (yBa bA ?_) Z;simp[cQ,hx,hy]
 ·by_cases h1:x.k=y.k
  ·by_cases h2:TX s.en x.ph x.si=TX s.en y.ph y.si
   ·by_cases h3:x.ag=y.ag
    ·(refine eM call254 λF hF=>?_)
     (have zc1:=ex;have zc2:=ey;have zc3:=lx;have zc4:=ly;have zc5:=sx;have zc6:=sy;refine WG ?_;clear zc1 zc2 zc3 zc4 zc5 zc6)
     refine zH [] Z Z (yBa bA ?_) Z;simp[cQ,PE,hx,hy,h1,h2,h3,qT]
    ·(refine eM call254 λF hF=>?_)
     (have zc1:=ex;have zc2:=ey;have zc3:=lx;have zc4:=ly;have zc5:=sx;have zc6:=sy;refine WG ?_;clear zc1 zc2 zc3 zc4 zc5 zc6)
     refine zH [] Z Z (yBa bA ?_) Z;simp[cQ,PE,hx,hy,h1,h2,h3,qT]
   ·(refine eM call254 λF hF=>?_)
    (have zc1:=ex;have zc2:=ey;have zc3:=lx;have zc4:=ly;have zc5:=sx;have zc6:=sy;refine WG ?_;clear zc1 zc2 zc3 zc4 zc5 zc6)
    refine zH [] Z Z (yBa bA ?_) Z;simp[cQ,PE,hx,hy,h1,h2,qT]
  ·(refine eM call254 λF hF=>?_)
   (have zc1:=ex;have zc2:=ey;have zc3:=lx;have zc4:=ly;have zc5:=sx;have zc6:=sy;refine WG ?_;clear zc1 zc2 zc3 zc4 zc5 zc6)
   refine zH [] Z Z (yBa bA ?_) Z;simp[cQ,PE,hx,hy,h1,qT]
def kU (g:Cf) (s:Sv) (now:Int) (xs:List Cl):Nat->Int
 |0=> -1
 |i+1=>if zLg g.lock s.en now (xs.getD i default).ph (xs.getD i default).k then kU g s now xs i
  else if kU g s now xs i<0 then i
  else if cQ g.per g.cap s.en now (xs.getD i default) (xs.getD (kU g s now xs i).toNat default)then i else kU g s now xs i
theorem TZ (g:Cf) (s:Sv) (now:Int) (xs:List Cl):∀i,-1<=kU g s now xs i/\kU g s now xs i<i∨kU g s now xs i= -1
 |0=> .inr Z
 | i+1=>by
  have:=TZ g s now xs i;unfold kU;split
  ·omega
  ·split
   ·omega
   ·split<;>omega
def zBw (g:Cf) (s:Sv) (now:Int) (xs:List Cl) (i:Nat):kU g s now xs (i+1)=if zLg g.lock s.en now (xs.getD i default).ph (xs.getD i default).k=true then kU g s now xs i
 else if kU g s now xs i<0 then(i:Int)
 else if cQ g.per g.cap s.en now (xs.getD i default) (xs.getD (kU g s now xs i).toNat default)=true then(i:Int)else kU g s now xs i:=rfl
def zV3 (g:Cf) (s:Sv) (now:Int) (xs:List Cl) (hlen:xs.length<=1099511627776) (ok:∀i,i<xs.length->COk g.per now s.en (xs.getD i default)):zN 229 [wD g,vD s,iA now,zC dZ xs] [] (iA (kU g s now xs xs.length)) []:=by
 have hl:(xs.map dZ).length=xs.length:=by simp
 refine eM call229 λF hF=>?_
 refine WO ?_
 refine vB (λn st=>∃i:Nat,n+i=xs.length/\st=⟨[(2,iA now),(3,zC dZ xs),(4,.ptr 4 0 0),(5,.ptr 5 0 0),(9,iA (kU g s now xs i)),(12,zC dZ xs),(13,iA xs.length),(14,iA i)],[(4,.box [zC wC g.js,zC wK g.ags,iA g.per,iA g.cap,iA g.hold,iA g.lock]),(5,.box [iA s.ph,iA s.gr,zC iA s.en])]⟩)
  xs.length [4,5] [2,3,4,5,9,12,13,14] Z ⟨0,rfl,by rw[<-hl];rfl⟩ ?_
 rintro n st ⟨i,hi,rfl⟩;by_cases hlt:i<xs.length
 ·have hy:=yN dZ xs i zB zB;have ok1:=ok i hlt;have hb:=TZ g s now xs i;have hn:=zBw g s now xs i;have lk:=zLh g s (xs.getD i default) now ok1;rw[show((i:Int)).toNat=i from Z]at hy
  cases hL:zLg g.lock s.en now (xs.getD i default).ph (xs.getD i default).k<;>rw[hL]at lk hn
  ·rw[yAc zS]at hn;by_cases h0:kU g s now xs i<0
   ·rw[yAd h0]at hn
    (have zc1:=lk;refine WG ?_;clear zc1)
    exact⟨n-1,zB,i+1,zB,by rw[hn];rfl⟩
   ·rw[yAc h0]at hn;have hy2:=yN dZ xs (kU g s now xs i) zB zB;have ls:=zV2 g s (xs.getD i default) (xs.getD (kU g s now xs i).toNat default) now ok1 (ok _ zB)
    cases hS:cQ g.per g.cap s.en now (xs.getD i default) (xs.getD (kU g s now xs i).toNat default)<;>rw[hS]at ls hn
    ·rw[yAc zS]at hn
     (have zc1:=lk;have zc2:=ls;refine WG ?_;clear zc1 zc2)
     exact⟨n-1,zB,i+1,zB,by rw[hn];rfl⟩
    ·rw[yAd Z]at hn
     (have zc1:=lk;have zc2:=ls;refine WG ?_;clear zc1 zc2)
     exact⟨n-1,zB,i+1,zB,by rw[hn];rfl⟩
  ·rw[yAd Z]at hn
   (have zc1:=lk;refine WG ?_;clear zc1)
   exact⟨n-1,zB,i+1,zB,by rw[hn];rfl⟩
 ·obtain rfl:i=xs.length:=by omega
  refine WO ?_;exact zJ
theorem XM {α:Type} (P:α->Prop) (d:α):∀(l:List α) (i:Nat),(∀x∈l,P x)->i<l.length->P (l.getD i d)
 |l,i,h,hi=>by simp only[yAk,yAr hi,yCh];exact h _ (yDa hi)
def zQx (es:List Int) (now ph:Int) (h:0<=now) (he:∀e∈es,-1<=e/\e<=now): -1<=VQ es ph/\VQ es ph<=now:=by
 unfold VQ;split
 ·omega
 ·exact XM (λe=> -1<=e/\e<=now) 0 es ph.toNat he zB
structure ClB (ph now:Int) (c:Cl):Prop where
 k0:0<=c.k
 k1:c.k<=3
 s0:0<=c.si
 s1:c.si<=now
 a0:0<=c.ag
 a1:c.ag<=2
 i0:0<=c.id
 i1:c.id<=3
 p0:0<=c.ph
 p1:c.ph<ph
def zLi {α:Type} (f:α->AV) (l:List α):AV.sl false ((l.map f).take (l.map f).length)=zC f l:=by rw[yAh];rfl
def zBx (l:List Int) (hl:l.length<=1073741824):zN 91 [zC iA l] [] (.ref 1001 0 (l.map iA).length) [(1001,.arr 1 (l.map iA) false)]:=by
 have hll:=zA iA l;refine eM call91 λF hF=>?_
 refine yZ 0 Z (λcap hx=>?_) ?_
 ·have:l=[]:=by simpa using hx
  subst this
  (repeat' (first|refine WZN ?_|apply xM|apply xZ|intro hc|fail))
  refine vX 2 1001 1 Z Z Z (yW ?_);exact zK [1001] Z Z Z Z
 ·repeat' (first|(refine zE ?_;first|refine vF tok Z Z ?_|(refine wE ?_;refine yJ (yS tok (.inl ⟨rfl,rfl⟩) Z Z Z Z) Z ?_)|(refine yV ?_;refine uT (nw:=[1001]) (yI tok 1001 (xs:=[]) Z Z Z Z Z Z Z Z Z) Z Z Z ?_)|(refine yK ?_;refine xU tok Z Z Z Z Z Z Z (yC _ _ (λ_=>rfl)) Z Z Z zB Z ?_)|refine uQ ?_)|(first|refine xQ ?_|refine xE ?_|refine vG Z ?_|refine zX Z ?_|refine zU Z ?_|refine xK Z (λhc=>?_) λhc=>?_|refine xA ?_|refine yW ?_|refine xD ?_|refine yU ?_))
  exact zK [1001] Z Z Z Z
def zGf (l:List Int) (hl:l.length<=1073741824):zN 91 [zC iA l] [] (zC iA l) []:=by
 have hll:=zA iA l;refine eM call91 λF hF=>?_
 refine yZ 0 Z (λcap hx=>?_) ?_
 ·have:l=[]:=by simpa using hx
  subst this;refine WW ?_;exact zJ
 ·(refine WW ?_)
  refine zH [] Z Z (zLi _ _) Z
structure SvB (s:Sv):Prop where
 n:s.en.length<=100000
def zGg (s:Sv) (h:SvB s):zN 151 [vD s] [] (.agg [iA s.ph,iA s.gr,.ref 1001 0 (s.en.map iA).length]) [(1001,.arr 1 (s.en.map iA) false)]:=by
 have c:=zBx s.en (by have:=h.n;omega);refine eM call151 λF hF=>?_
 refine zV c ?_;exact zK [1001] Z Z Z Z
def SA (s:Sv) (h:SvB s):zN 151 [vD s] [] (vD s) []:=by
 have c:=zGf s.en (by have:=h.n;omega);refine eM call151 λF hF=>?_
 refine zV c ?_;exact zJ
def cB (s:Sv) (green:Bool):Sv:=if green=true/\s.ph≠ -1 then⟨s.ph,min s.gr 59+1,s.en⟩else s
def zQy (s:Sv) (h:SvB s) (b:Bool) (hg: -1000000<=s.gr):zN 215 [vD s,bA b] [] (vD (cB s b)) []:=by
 have c:=SA s h;by_cases h1:b=true
 ·subst h1;by_cases h2:s.ph= -1
  ·rw[show cB s true=s by simp[cB,h2]];refine eM call215 λF hF=>?_
   refine zV c ?_;exact zJ
  ·rw[show cB s true=⟨s.ph,min s.gr 59+1,s.en⟩ by simp[cB,h2]];refine eM call215 λF hF=>?_
   refine zV c ?_;exact zJ
 ·obtain rfl:b=false:=by simpa using h1
  rw[show cB s false=s by simp[cB]];refine eM call215 λF hF=>?_
  refine zV c ?_;exact zJ
def fL (s:Sv) (now:Int):Sv:=⟨-1,0,if 0<s.gr/\0<=s.ph/\s.ph<s.en.length then s.en.set s.ph.toNat now else s.en⟩
def zLj {α:Type} (f:α->AV) (l:List α) (i:Nat) (x:α) (n:Nat) (hn:n=l.length):AV.sl false (((l.map f).set i (f x)).take n)=zC f (l.set i x):=by
 rw[<-yCk,yAo wF];rfl
def zLk (s:Sv) (h:SvB s) (now:Int):zN 212 [vD s,iA now] [] (vD (fL s now)) []:=by
 have c:=zGg s h;have hl:=zA iA s.en;by_cases h1:0<s.gr/\0<=s.ph/\s.ph<s.en.length
 ·obtain⟨h2,h3,h4⟩:=h1;have hy:=yN iA s.en s.ph h3 h4;rw[show fL s now=⟨-1,0,s.en.set s.ph.toNat now⟩ by simp[fL,h2,h3,h4]];refine eM call212 λF hF=>?_
  refine zV c ?_;refine zH [] Z Z (yBa (λx=>AV.agg [iA (-1),iA 0,x]) (zLj iA s.en s.ph.toNat now _ hl)) Z
 ·rw[show fL s now=⟨-1,0,s.en⟩ by unfold fL;rw[yAc h1]];refine eM call212 λF hF=>?_
  (have zc1:=c;(repeat' (first|refine uP ?_|apply xM|apply xZ|intro hc|(refine zE ?_;first|refine SM ?_)|fail))<;>clear zc1)
  all_goals (try omega)
  all_goals refine zH [] Z Z (yBa (λx=>AV.agg [iA (-1),iA 0,x]) (zLi iA s.en)) Z
end Av
end Go.Proofs.YteajjdidebfcjaaGreat
