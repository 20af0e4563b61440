/- Part 20. -/
import Derived.Test.YteajjdidebfcjaaGreatR19
namespace Go.Proofs.YteajjdidebfcjaaGreat
namespace Av
open Tryz
set_option linter.all false
set_option maxRecDepth 4000
set_option maxHeartbeats 4000000
def dgD (d:yY) (m:Ms) (r':Rg) (u:Bool) (e:Int):yY:=if e=0 then⟨r',(if m.kind=5 then EX d.rq (m.args.getD 0 0)else d.rq),(if u=true then d.dr.drop 1 else d.dr),d.au⟩else d
def MF (d:yY):List Int:=d.dr.headD []
def zV9 (d:yY) (m:Ms) (slot now:Int) (hv:bJ d.rq) (hn:d.dr.length<=1000) (r':Rg) (p:Ms) (u:Bool) (e:Int)
  (f1:zN 220 [uX d.rg,yB m,iA slot,iA now,zD yA (MF d)] [] (.tup [uX r',yB p,bA u,iA e]) []) (h5:m.kind=5->∃a,m.args=[a]):
  zN 201 [zI d,yB m,iA slot,iA now] [] (.tup [zI (dgD d m r' u e),yB (if e=0 then p else QA),iA e]) []:=by
 unfold dgD;obtain⟨rg,rq,dr,au⟩:=d;obtain⟨k,tk0,ar,da⟩:=m;unfold MF at f1;dsimp only at *;have hlr:(dr.map qY).length=dr.length:=zA qY dr
 cases dr with
 | nil=>
  rw[List.headD_nil]at f1;by_cases he:e=0
  ·subst he;rw[zZ8 Z,zZ8 Z];by_cases hk:k=5
   ·subst hk;obtain⟨a,rfl⟩:=h5 Z;have hw:=LF rq a hv;rw[zZ8 Z,show([a]:List Int).getD 0 0=a from Z];generalize EX rq a=ql at *;unfold uX yB at f1;unfold zI wC yB;cases u
    ·(refine eM call201 λF hF=>?_)
     refine yR (vH f1 hw) ?_;exact zJ
    ·(refine eM call201 λF hF=>?_)
     refine yR (vH f1 hw) ?_;exact zJ
   ·rw[zZ7 hk];clear h5;unfold uX yB at f1;unfold zI wC yB;cases u
    ·(refine eM call201 λF hF=>?_)
     refine zV f1 ?_;exact zJ
    ·(refine eM call201 λF hF=>?_)
     refine zV f1 ?_;exact zJ
  ·rw[zZ7 he,zZ7 he];clear h5;unfold uX yB at f1;unfold zI wC yB QA;refine eM call201 λF hF=>?_
   refine zV f1 ?_;exact zJ
 | cons b bs=>
  rw[List.headD_cons]at f1;have hlr:(qY b::bs.map qY).length=bs.length+1:=by rw[yAl,zZ9]
  rw[yAl]at hn;have hbb:zD qY (b::bs)= .sl false (qY b::bs.map qY):=rfl;by_cases he:e=0
  ·subst he;rw[zZ8 Z,zZ8 Z];by_cases hk:k=5
   ·subst hk;obtain⟨a,rfl⟩:=h5 Z;have hw:=LF rq a hv;rw[zZ8 Z,show([a]:List Int).getD 0 0=a from Z];generalize EX rq a=ql at *;unfold uX yB at f1;unfold zI wC yB;rw[hbb];cases u
    ·(refine eM call201 λF hF=>?_)
     refine yR (vH f1 hw) ?_;exact zJ
    ·(refine eM call201 λF hF=>?_)
     refine yR (vH f1 hw) ?_;exact zJ
   ·rw[zZ7 hk];clear h5;unfold uX yB at f1;unfold zI wC yB;rw[hbb];cases u
    ·(refine eM call201 λF hF=>?_)
     refine zV f1 ?_;exact zJ
    ·(refine eM call201 λF hF=>?_)
     refine zV f1 ?_;exact zJ
  ·rw[zZ7 he,zZ7 he];clear h5;unfold uX yB at f1;unfold zI wC yB QA;rw[hbb];refine eM call201 λF hF=>?_
   refine zV f1 ?_;exact zJ
def zQx (d:yY) (m:Ms) (slot now:Int) (hv:bJ d.rq) (hn:d.dr.length<=1000) (r':Rg) (p:Ms) (u:Bool) (e:Int)
 (f1:yP [uX d.rg,yB m,iA slot,iA now,zD yA (MF d)] [] (.tup [uX r',yB p,bA u,iA e]) []) (h5:m.kind=5->∃a,m.args=[a]) (hu:u=true->d.dr≠[]):
 yP [zI d,yB m,iA slot,iA now] [] (.tup [zI (dgD d m r' u e),yB p,iA e]) []:=yD
structure It where
 code:Int
 kind:Int
 pay:List Int
def wZ (i:It):AV:= .agg [iA i.code,iA i.kind,zD yA i.pay]
def hT (d:yY) (p:Ms) (k e:Int):AV:= .tup [zI d,yB p,iA k,iA e]
def zQy (c:Cf) (d:yY) (s now:Int) (i:It) (hc:i.code≠0):zN 170 [vG c,zI d,iA s,wZ i,iA now] [] (hT d QA (-1) i.code) []:=by
 unfold vG hT zI wC wZ yB QA;refine eM call170 λF hF=>?_
 refine WW ?_;exact zJ
def zQz (c:Cf) (d:yY) (s now:Int) (i:It) (hc:i.code=0) (hk:¬(1<=i.kind/\i.kind<=12)):zN 170 [vG c,zI d,iA s,wZ i,iA now] [] (hT d QA (-1) 5) []:=by
 have k1:=gU i.kind;rw[yAh hk]at k1;obtain⟨co,ki,pa⟩:=i;dsimp only at *;subst hc;unfold vG hT zI wC wZ yB QA;refine eM call170 λF hF=>?_
 refine zV k1 ?_;exact zJ
def zQ0 (c:Cf) (d:yY) (s now k:Int) (pa:List Int) (h0:1<=k) (h1:k<=12) (k2:zN 69 [iA k,zD yA pa] [] (deT k (pa.take 10) none) []):zN 170 [vG c,zI d,iA s,wZ ⟨0,k,pa⟩,iA now] [] (hT d QA (-1) 6) []:=by
 have k1:=gU k;rw[yAe ⟨h0,h1⟩]at k1;unfold deT yB at k2;unfold vG hT zI wC wZ yB QA;refine eM call170 λF hF=>?_
 refine yR (vH k1 k2) ?_;exact zJ
def zQ1 (c:Cf) (d:yY) (s now k:Int) (pa tk0 ar:List Int) (h0:1<=k) (h1:k<=12) (k2:zN 69 [iA k,zD yA pa] [] (.tup [yB ⟨k,tk0,ar,[]⟩,iA 0]) []) (r:Rg) (sl e:Int) (he:e≠0)
  (k3:zN 200 [uX d.rg,yB ⟨k,tk0,ar,[]⟩,iA now] [] (.tup [uX r,iA sl,iA e]) []):zN 170 [vG c,zI d,iA s,wZ ⟨0,k,pa⟩,iA now] [] (hT d QA (-1) e) []:=by
 have k1:=gU k;rw[yAe ⟨h0,h1⟩]at k1;unfold yB at k2 k3;unfold uX at k3;unfold vG hT zI wC wZ yB QA;refine eM call170 λF hF=>?_
 refine yR (gK k1 k2 k3) ?_;exact zJ
def xX (d:yY) (r:Rg):yY:=⟨r,d.rq,d.dr,d.au⟩
section
variable (c:Cf) (d:yY) (s now k:Int) (pa tk0 ar:List Int) (h0:1<=k) (h1:k<=12) (k2:zN 69 [iA k,zD yA pa] [] (.tup [yB ⟨k,tk0,ar,[]⟩,iA 0]) []) (r:Rg) (sl:Int)
 (k3:zN 200 [uX d.rg,yB ⟨k,tk0,ar,[]⟩,iA now] [] (.tup [uX r,iA sl,iA 0]) [])
include h0 h1 k2 k3
def zWa (hk:k=2∨k=3∨k=4∨k=5) (d':yY) (p:Ms) (e:Int) (k4:zN 201 [zI (xX d r),yB ⟨k,tk0,ar,[]⟩,iA sl,iA now] [] (.tup [zI d',yB p,iA e]) []):
  zN 170 [vG c,zI d,iA s,wZ ⟨0,k,pa⟩,iA now] [] (hT d' p (-1) e) []:=by
 have k1:=gU k;rw[yAe ⟨h0,h1⟩]at k1;unfold yB at k2 k3 k4;unfold uX at k3;unfold xX zI wC at k4;unfold vG hT zI wC wZ yB
 rcases hk with rfl|rfl|rfl|rfl
 all_goals
  refine eM call170 λF hF=>?_
  refine yR (ZK k1 k2 k3 k4) ?_;exact zJ
def HO (hk:k=6∨k=7∨k=8) (l:List Rq) (e:Int) (he:e≠0) (k4:zN 202 [vG c,zI (xX d r),yB ⟨k,tk0,ar,[]⟩,iA sl,iA now] [] (.tup [zD yG l,iA e]) []):
  zN 170 [vG c,zI d,iA s,wZ ⟨0,k,pa⟩,iA now] [] (hT (xX d r) QA (-1) e) []:=by
 have k1:=gU k;rw[yAe ⟨h0,h1⟩]at k1;unfold yB at k2 k3 k4;unfold uX at k3;unfold xX vG zI wC at k4;unfold xX vG hT zI wC wZ yB QA
 rcases hk with rfl|rfl|rfl
 all_goals
  refine eM call170 λF hF=>?_
  refine yR (ZK k1 k2 k3 k4) ?_;exact zJ
def HP (hk:k=6∨k=7∨k=8) (a:Int) (as1:List Int) (har:ar=a::as1) (l:List Rq) (k4:zN 202 [vG c,zI (xX d r),yB ⟨k,tk0,ar,[]⟩,iA sl,iA now] [] (.tup [zD yG l,iA 0]) []):
  zN 170 [vG c,zI d,iA s,wZ ⟨0,k,pa⟩,iA now] [] (hT (dkQ (xX d r) l) (jS k a) (-1) 0) []:=by
 subst har;have k1:=gU k;have k5:=HS k a;rw[yAe ⟨h0,h1⟩]at k1;unfold jS yB at k5;rw[show yB ⟨k,tk0,a::as1,[]⟩= .agg [iA k,zD yA tk0,.sl false (iA a::as1.map iA),.sl false []]from Z]at k2 k3 k4;generalize as1.map iA=A at *;unfold uX at k3;unfold xX vG zI wC at k4;unfold dkQ xX vG hT zI wC wZ jS yB
 rcases hk with rfl|rfl|rfl
 all_goals
  refine eM call170 λF hF=>?_
  refine yR (zt5 k1 k2 k3 k4 k5) ?_;exact zJ
def HQ (hk:k=1∨k=9∨k=12) (p:Ms) (k4:zN 204 [zI (xX d r),iA k,iA now] [] (yB p) []):
  zN 170 [vG c,zI d,iA s,wZ ⟨0,k,pa⟩,iA now] [] (hT (xX d r) p (-1) 0) []:=by
 have k1:=gU k;rw[yAe ⟨h0,h1⟩]at k1;unfold yB at k2 k3 k4;unfold uX at k3;unfold xX zI wC at k4;unfold xX vG hT zI wC wZ yB
 rcases hk with rfl|rfl|rfl
 all_goals
  refine eM call170 λF hF=>?_
  refine yR (ZK k1 k2 k3 k4) ?_;exact zJ
def zQ2 (hk:k=11) (a:Int) (har:ar=[a]) (ha:(c.js.length:Int)<=a):
  zN 170 [vG c,zI d,iA s,wZ ⟨0,k,pa⟩,iA now] [] (hT (xX d r) QA (-1) 8) []:=by
 subst hk har;have k1:=gU 11;have hlj:=zA wJ c.js;rw[show yB ⟨11,tk0,[a],[]⟩= .agg [iA 11,zD yA tk0,.sl false [iA a],.sl false []]from Z]at k2 k3;unfold uX at k3;unfold xX vG hT zI wC wZ QA yB;refine eM call170 λF hF=>?_
 refine yR (gK k1 k2 k3) ?_;exact zJ
def zQ3 (hk:k=11) (a:Int) (har:ar=[a]) (ha:a<(c.js.length:Int)):
  zN 170 [vG c,zI d,iA s,wZ ⟨0,k,pa⟩,iA now] [] (hT (xX d r) (jS 11 a) a 0) []:=by
 subst hk har;have k1:=gU 11;have k5:=HS 11 a;have hlj:=zA wJ c.js;unfold jS yB at k5;rw[show yB ⟨11,tk0,[a],[]⟩= .agg [iA 11,zD yA tk0,.sl false [iA a],.sl false []]from Z]at k2 k3;unfold uX at k3;unfold xX vG hT zI wC wZ jS yB;refine eM call170 λF hF=>?_
 refine yR (ZK k1 k2 k3 k5) ?_;exact zJ
def zQ4 (hk:k=10) (a:Int) (har:ar=[a]) (ha:1<a):
  zN 170 [vG c,zI d,iA s,wZ ⟨0,k,pa⟩,iA now] [] (hT (xX d r) QA (-1) 8) []:=by
 subst hk har;have k1:=gU 10;rw[show yB ⟨10,tk0,[a],[]⟩= .agg [iA 10,zD yA tk0,.sl false [iA a],.sl false []]from Z]at k2 k3;unfold uX at k3;unfold xX vG hT zI wC wZ QA yB;refine eM call170 λF hF=>?_
 refine yR (gK k1 k2 k3) ?_;exact zJ
def zQ5 (hk:k=10) (a:Int) (har:ar=[a]) (ha:a<=1) (hs:¬(0<=s/\s<(d.au.length:Int))):
  zN 170 [vG c,zI d,iA s,wZ ⟨0,k,pa⟩,iA now] [] (hT (xX d r) (jS 10 a) (-1) 0) []:=by
 subst hk har;have k1:=gU 10;have k5:=HS 10 a;have hla:=zA bA d.au;unfold jS yB at k5;rw[show yB ⟨10,tk0,[a],[]⟩= .agg [iA 10,zD yA tk0,.sl false [iA a],.sl false []]from Z]at k2 k3;unfold uX at k3;unfold xX vG hT zI wC wZ jS yB;by_cases h2:0<=s
 ·have h3:(d.au.length:Int)<=s:=by omega
  refine eM call170 λF hF=>?_
  refine yR (ZK k1 k2 k3 k5) ?_;exact zJ
 ·(refine eM call170 λF hF=>?_)
  refine yR (ZK k1 k2 k3 k5) ?_;exact zJ
end
section
variable (c:Cf) (d:yY) (s now:Int) (tk0:List Int) (sl:Int)
def zMm:yP [vG c,zI d,iA s,yB ⟨1,tk0,[],[]⟩,iA sl,iA now] [] (hT d (OP d now) (-1) 0) []:=yD
def zWb (k:Int) (ar:List Int) (a:Int) (ar1:List Int) (har:ar=a::ar1) (hk:k=2∨k=3∨k=4∨k=5) (d':yY) (p:Ms) (e:Int) (k4:yP [zI d,yB ⟨k,tk0,ar,[]⟩,iA sl,iA now] [] (.tup [zI d',yB p,iA e]) []):
 yP [vG c,zI d,iA s,yB ⟨k,tk0,ar,[]⟩,iA sl,iA now] [] (hT d' p (-1) e) []:=yD
def zMn (ar:List Int) (a:Int) (ar1:List Int) (har:ar=a::ar1) (h0:0<=sl) (h1:sl<(d.rg.tk.length:Int)) (d':yY) (e:Int) (k4:yP [vG c,zI d,yB ⟨6,tk0,ar,[]⟩,iA (d.rg.tk.getD sl.toNat default).cls,iA now] [] (.tup [zI d',iA e]) []):
 yP [vG c,zI d,iA s,yB ⟨6,tk0,ar,[]⟩,iA sl,iA now] [] (hT d' (jS 6 a) (-1) e) []:=yD
def zMo (ar:List Int) (a:Int) (ar1:List Int) (har:ar=a::ar1) (d':yY) (e:Int) (k4:yP [zI d,yB ⟨7,tk0,ar,[]⟩,iA now] [] (.tup [zI d',iA e]) []):
 yP [vG c,zI d,iA s,yB ⟨7,tk0,ar,[]⟩,iA sl,iA now] [] (hT d' (jS 7 a) (-1) e) []:=yD
def zWc (a:Int) (l:List Rq) (e:Int) (k4:yP [zD yG d.rq,iA a] [] (.tup [zD yG l,iA e]) []):
 yP [vG c,zI d,iA s,yB ⟨8,tk0,[a],[]⟩,iA sl,iA now] [] (hT (dkQ d (if e=0 then l else d.rq)) (jS 8 a) (-1) e) []:=yD
def zQ6 (k4:yP [zI d] [] (yB (cZ d)) []):yP [vG c,zI d,iA s,yB ⟨12,tk0,[],[]⟩,iA sl,iA now] [] (hT d (cZ d) (-1) 0) []:=yD
def zQ7 (a:Int) (ha:(c.js.length:Int)<=a):yP [vG c,zI d,iA s,yB ⟨11,tk0,[a],[]⟩,iA sl,iA now] [] (hT d (jS 11 a) (-1) 8) []:=yD
def zQ8 (a:Int) (ha:a<(c.js.length:Int)):yP [vG c,zI d,iA s,yB ⟨11,tk0,[a],[]⟩,iA sl,iA now] [] (hT d (jS 11 a) a 0) []:=yD
def zQ9 (a:Int) (ha:1<a):yP [vG c,zI d,iA s,yB ⟨10,tk0,[a],[]⟩,iA sl,iA now] [] (hT d (jS 10 a) (-1) 8) []:=yD
def zRa (a:Int) (ha:a<=1) (hs:¬(0<=s/\s<(d.au.length:Int))):yP [vG c,zI d,iA s,yB ⟨10,tk0,[a],[]⟩,iA sl,iA now] [] (hT d (jS 10 a) (-1) 0) []:=yD
def zRb (hb:fI d):yP [vG c,zI d,iA s,yB ⟨9,tk0,[],[]⟩,iA sl,iA now] [] (hT d (OQ d) (-1) 0) []:=yD
end
def TB (d:yY):AV:=wC d.rg (zD yG d.rq) (zD qY d.dr) (.ref 1004 0 (d.au.map bA).length)
def BZ (l:List Bool):xN:= .arr 1 (l.map bA) false
def hTO (d:yY) (p:Ms) (k e:Int):AV:= .tup [TB d,yB p,iA k,iA e]
def zMp (l:List Bool) (h1:1<=l.length) (hl:l.length<=1073741824):zN 169 [zD bA l] [] (.ref 1004 0 (l.map bA).length) [(1004,BZ l)]:=by
 have hll:=zA bA l;unfold BZ;refine eM call169 λF hF=>?_
 refine yS 0 Z (λcap hx=>?_) ?_
 ·have:l=[]:=by simpa using hx
  subst this;simp at h1
 ·repeat' (first|(refine zE ?_;first|refine vW tok Z Z ?_|(refine wL ?_;refine wG (xE tok (.inl ⟨rfl,rfl⟩) Z Z Z Z) Z ?_)|(refine xB ?_;refine uS (nw:=[1004]) (yH tok 1004 (xs:=[]) Z Z Z Z Z Z Z Z Z) Z Z Z ?_)|(refine xC ?_;refine wF tok Z Z Z Z Z Z Z (xO _ _ (λ_=>rfl)) Z Z Z zB Z ?_)|refine qJ ?_)|(first|refine xS ?_|refine xD ?_|refine vI Z ?_|refine zY Z ?_|refine zS Z ?_|refine xL Z (λhc=>?_) λhc=>?_|refine xA ?_|refine yT ?_|refine xF ?_|refine yW ?_))
  exact zL [1004] Z Z Z Z
def OK (d:yY) (hb:fI d) (h1:1<=d.au.length):zN 127 [zI d] [] (TB d) [(1004,BZ d.au)]:=by
 have k1:=HR d.rg hb.rg;have hq:=hb.q;have hdn:=hb.n;have hau:=hb.a;have k2:=XJ d.rq zB;have k3:=OO d.dr zB;have k4:=zMp d.au h1 zB;have hlq:=zA yG d.rq;have hld:=zA qY d.dr;unfold TB zI wC;unfold BZ at *;unfold uX at k1;refine eM call127 λF hF=>?_
 refine yR (vH k1 k2) ?_;refine zO ((d.rq.map yG).length) [1001,1,2] [1,2] [1,2,15] [16,1,2,15] Z (λi T U=>⟨(16,iA i)::T,(1001,.arr 5 (kN i (d.rq.map yG)) false)::U⟩) ?_;(conv=>whnf);refine⟨by rfl,?_,?_⟩
 ·intro i hi;have hi':i<d.rq.length:=by omega
  have hy:(kN i (d.rq.map yG))[i]? =some (yG (d.rq.getD i default)):=zM yG d.rq i hi';have e:=qT yG d.rq i hi';have c2:=dP (d.rq.getD i default).legs (hb.g (d.rq.getD i default) bE);generalize (d.rq.getD i default)=t at *;generalize kN i (d.rq.map yG)=xs at *;generalize kN (i+1) (d.rq.map yG)=ys at *;subst e;refine zV c2 ?_;rfl
 ·(refine zV k3 ?_)
  refine zO ((d.dr.map qY).length) [1002,1,2,1001] [1,2,1001] [1,2,38] [39,1,2,38] Z (λi T U=>⟨(39,iA i)::T,(1002,.arr 1 (kN i (d.dr.map qY)) false)::U⟩) ?_;(conv=>whnf);refine⟨by rfl,?_,?_⟩
  ·intro i hi;have hi':i<d.dr.length:=by omega
   have hy:(kN i (d.dr.map qY))[i]? =some (qY (d.dr.getD i default)):=zM qY d.dr i hi';have e:=qT qY d.dr i hi';have c2:=wV (d.dr.getD i default) (by have:=hb.e (d.dr.getD i default) bE;omega);generalize (d.dr.getD i default)=t at *;generalize kN i (d.dr.map qY)=xs at *;generalize kN (i+1) (d.dr.map qY)=ys at *;subst e;refine zV c2 ?_;rfl
  ·(refine zV k4 ?_)
   refine zK [1004] Z Z ?_ Z
   show wC d.rg (.sl false ((d.rq.map yG).take (d.rq.map yG).length)) (.sl false ((d.dr.map qY).take (d.dr.map qY).length)) (.ref 1004 0 (d.au.map bA).length)=_
   rw[yAf,yAf];rfl
def zBf (d:yY) (hb:fI d):yP [zI d] [] (TB d) [(1004,BZ d.au)]:=yD
def zRc (c:Cf) (d:yY) (s now:Int) (pa tk0:List Int) (a:Int) (h0:0<=a) (h1:a<=1) (k2:zN 69 [iA 10,zD yA pa] [] (.tup [yB ⟨10,tk0,[a],[]⟩,iA 0]) []) (r:Rg) (sl:Int)
  (k3:zN 200 [uX d.rg,yB ⟨10,tk0,[a],[]⟩,iA now] [] (.tup [uX r,iA sl,iA 0]) []) (hs:0<=s/\s<(d.au.length:Int)):
  zN 170 [vG c,TB d,iA s,wZ ⟨0,10,pa⟩,iA now] [(1004,BZ d.au)] (hTO ⟨r,d.rq,d.dr,d.au.set s.toNat (a==1)⟩ (jS 10 a) (-1) 0) [(1004,BZ (d.au.set s.toNat (a==1)))]:=by
 have k1:=gU 10;have k5:=HS 10 a;have hla:=zA bA d.au;have hya:=zM bA d.au s.toNat zB;unfold jS yB at k5;rw[show yB ⟨10,tk0,[a],[]⟩= .agg [iA 10,zD yA tk0,.sl false [iA a],.sl false []]from Z]at k2 k3;unfold uX at k3;have hls:(d.au.set s.toNat (a==1)).map bA=(d.au.map bA).set s.toNat (bA (a==1)):=yB4;unfold vG hTO TB wC wZ jS yB BZ;dsimp only;rw[hls,yBv];generalize d.au.getD s.toNat default=b0 at *;generalize d.au.map bA=xs at*
 obtain rfl|rfl:a=0∨a=1:=by omega
 all_goals
  refine eM call170 λF hF=>?_
  refine WLc (ZK k1 k2 k3 k5) ?_;exact zK [1004] Z Z Z Z
def zRd (c:Cf) (d:yY) (s now:Int) (tk0:List Int) (sl:Int) (a:Int) (h0:0<=a) (h1:a<=1) (hs:0<=s/\s<(d.au.length:Int)):
 yP [vG c,TB d,iA s,yB ⟨10,tk0,[a],[]⟩,iA sl,iA now] [(1004,BZ d.au)] (hTO ⟨d.rg,d.rq,d.dr,d.au.set s.toNat (a==1)⟩ (jS 10 a) (-1) 0) [(1004,BZ (d.au.set s.toNat (a==1)))]:=yD
def kZ (k e:Int):Ms:=⟨15,[],[k,e],[]⟩
def MG (a k e:Int):AV:= .agg [iA a,iA k,iA e]
structure Hd where
 d:yY
 p:Ms
 k:Int
 e:Int
def CU (n ki:Int) (h:Hd):AV:= .tup [zI h.d,yB h.p,MG n ki h.e,iA h.k]
def OL (d:yY):AV:=wC d.rg (zD yG d.rq) (.ref 1005 0 (d.dr.map qY).length) (zD bA d.au)
def dkD (d:yY):xN:= .arr 1 (d.dr.map qY) true
def CW (n ki:Int) (h:Hd):AV:= .tup [OL h.d,yB h.p,MG n ki h.e,iA h.k]
def gC (d:yY) (hb:fI d):yP [zI d] [] (OL d) [(1005,dkD d)]:=yD
def HRc (c:Cf) (d:yY) (s now:Int) (i:It) (h:Hd):Prop:=
 yP [vG c,zI d,iA s,wZ i,iA now] [] (CU d.rg.num i.kind h) []/\yP [vG c,zI d,iA s,wZ i,iA now] [] (CW d.rg.num i.kind h) [(1005,dkD h.d)]
def hdM (ki:Int) (d:yY) (p:Ms) (k e:Int):Hd:=if e=0 then⟨d,p,k,0⟩else⟨d,kZ ki e,-1,e⟩
def zSz (c:Cf) (d:yY) (s now:Int) (i:It) (hb:fI d) (d':yY) (p:Ms) (k e:Int) (k4:zN 170 [vG c,zI d,iA s,wZ i,iA now] [] (hT d' p k e) []):
  zN 128 [vG c,zI d,iA s,wZ i,iA now] [] (CU d'.rg.num i.kind (hdM i.kind d' p k e)) []:=by
 have k1:=dW d hb;unfold hT vG wZ at k4;unfold vG wZ;unfold zI wC yB at *;by_cases he:e=0
 ·subst he;unfold hdM CU MG zI wC yB;rw[zZ8 Z];refine eM call128 λF hF=>?_
  refine WLc (vH k1 k4) ?_;exact zJ
 ·unfold hdM CU MG kZ zI wC yB;rw[zZ7 he];refine eM call128 λF hF=>?_
  refine WLc (vH k1 k4) ?_;exact zJ
def zWd (c:Cf) (d:yY) (s now:Int) (i:It) (hb:fI d) (h1:1<=d.au.length) (d':yY) (p:Ms) (k:Int) (k4:zN 170 [vG c,TB d,iA s,wZ i,iA now] [(1004,BZ d.au)] (hTO d' p k 0) [(1004,BZ d'.au)]):
  zN 128 [vG c,zI d,iA s,wZ i,iA now] [] (CU d'.rg.num i.kind ⟨d',p,k,0⟩) []:=by
 have k1:=OK d hb h1;unfold hTO vG wZ at k4;unfold vG wZ;unfold BZ TB at *;unfold zI wC yB at *;unfold CU MG zI wC yB;refine eM call128 λF hF=>?_
 refine WLc (vH k1 k4) ?_;refine zK [] Z Z ?_ Z
 show AV.tup [wC d'.rg (zD yG d'.rq) (zD qY d'.dr) (.sl false ((d'.au.map bA).take (d'.au.map bA).length)),yB p,MG d'.rg.num i.kind 0,iA k]=_
 rw[yAf];rfl
section
variable (c:Cf) (d:yY) (s now:Int) (hb:fI d)
include hb
theorem zRe (i:It) (hc:i.code≠0):HRc c d s now i ⟨d,kZ i.kind i.code,-1,i.code⟩:=by
 have kd:=gC d hb;have k1:=jA d hb;unfold HRc vG CU CW kZ MG wZ zI OL dkD wC yB at *;refine⟨?_,?_⟩
 ·exact yD
 ·exact yD
theorem zRf (i:It) (hc:i.code=0) (hk:¬(1<=i.kind/\i.kind<=12)):HRc c d s now i ⟨d,kZ i.kind 5,-1,5⟩:=by
 have kd:=gC d hb;have k1:=jA d hb;have k2:=cG i.kind;rw[yAh hk]at k2;obtain⟨co,ki,pa⟩:=i;dsimp only at *;subst hc;unfold HRc vG CU CW kZ MG wZ zI OL dkD wC yB at *;refine⟨?_,?_⟩
 ·exact yD
 ·exact yD
theorem zRg (k:Int) (pa:List Int) (h0:1<=k) (h1:k<=12) (k3:zN 71 [iA k,zD yA pa] [] (deT k (pa.take 10) none) []):HRc c d s now ⟨0,k,pa⟩ ⟨d,kZ k 6,-1,6⟩:=by
 have kd:=gC d hb;have k1:=jA d hb;have k2:=cG k;rw[yAe ⟨h0,h1⟩]at k2;unfold deT yB at k3;unfold HRc vG CU CW kZ MG wZ zI OL dkD wC yB at *;refine⟨?_,?_⟩
 ·exact yD
 ·exact yD
variable (k:Int) (pa tk0 ar:List Int) (h0:1<=k) (h1:k<=12) (k3:zN 71 [iA k,zD yA pa] [] (.tup [yB ⟨k,tk0,ar,[]⟩,iA 0]) [])
include h0 h1 k3
theorem zRh (r:Rg) (sl e:Int) (he:e≠0) (k4:yP [uX d.rg,yB ⟨k,tk0,ar,[]⟩,iA now] [] (.tup [uX r,iA sl,iA e]) []):
  HRc c d s now ⟨0,k,pa⟩ ⟨d,kZ k e,-1,e⟩:=by
 have kd:=gC d hb;have k1:=jA d hb;have k2:=cG k;rw[yAe ⟨h0,h1⟩]at k2;unfold uX at k4;unfold HRc vG CU CW kZ MG wZ zI OL dkD wC yB at *;refine⟨?_,?_⟩
 ·exact yD
 ·exact yD
theorem zS0 (r:Rg) (sl:Int) (k4:yP [uX d.rg,yB ⟨k,tk0,ar,[]⟩,iA now] [] (.tup [uX r,iA sl,iA 0]) []) (d':yY) (hb':fI d') (p:Ms) (kk e:Int)
  (k5:yP [vG c,zI (xX d r),iA s,yB ⟨k,tk0,ar,[]⟩,iA sl,iA now] [] (hT d' p kk e) []):
  HRc c d s now ⟨0,k,pa⟩ (hdM k d' p kk e):=by
 have kd:=gC d' hb';have k1:=jA d hb;have k6:=jA d' hb';have k2:=cG k;rw[yAe ⟨h0,h1⟩]at k2;unfold uX at k4;unfold hT xX at k5;unfold HRc vG wZ zI OL dkD wC yB at *;by_cases he:e=0
 ·subst he;unfold hdM CU CW MG zI OL wC yB;rw[zZ8 Z];refine⟨?_,?_⟩
  ·exact yD
  ·exact yD
 ·unfold hdM CU CW MG kZ zI OL wC yB;rw[zZ7 he];refine⟨?_,?_⟩
  ·exact yD
  ·exact yD
theorem zWe (r:Rg) (sl:Int) (k4:yP [uX d.rg,yB ⟨k,tk0,ar,[]⟩,iA now] [] (.tup [uX r,iA sl,iA 0]) []) (d':yY) (hb':fI d') (p:Ms) (kk:Int)
  (k5:yP [vG c,TB (xX d r),iA s,yB ⟨k,tk0,ar,[]⟩,iA sl,iA now] [(1004,BZ d.au)] (hTO d' p kk 0) [(1004,BZ d'.au)]):
  HRc c d s now ⟨0,k,pa⟩ ⟨d',p,kk,0⟩:=by
 have kd:=gC d' hb';have k1:=zBf d hb;have k6:=jA d' hb';have k2:=cG k;rw[yAe ⟨h0,h1⟩]at k2;unfold uX at k4;unfold hTO xX at k5;unfold BZ TB at *;unfold HRc vG wZ zI OL dkD wC yB at *;unfold CU CW MG zI OL wC yB;refine⟨?_,?_⟩
 ·exact yD
 ·exact yD
end
def zRi (r:Rg) (m:Ms) (now:Int) (hr:DK r) (hm:BY m.tok) (hl:r.bk.level<=1000000):yP [uX r,yB m,iA now] [] (.tup [uX (opR r m now),iA (opS r m now),iA (opE r m now)]) []:=yD
def zYs (c:Cf) (l:List Rq):Prop:=∀r∈l,∀g∈r.legs,g.jn<(c.js.length:Int)/\g.ph<((c.js.getD g.jn.toNat default).ph.length:Int)
structure uV (c:Cf) (d:yY):Prop where
 b:DK d.rg
 v:bJ d.rq
 q:(d.rq.length:Int)<=d.rg.ag.req
 lg:zYs c d.rq
 a:AgV d.rg.ag
 n:0<=d.rg.num/\d.rg.num<4
 t8:d.rg.tk.length=8
 br:d.rg.bk.rate=d.rg.ag.rate
 bb:d.rg.bk.burst=d.rg.ag.burst
 bl:0<=d.rg.bk.level/\d.rg.bk.level<=d.rg.ag.burst
 au:(d.au.length:Int)=d.rg.ag.ses
 dn:d.dr.length<=1000
 dr:∀x∈d.dr,x.length=8/\BY x
 vh:d.rg.vh.length<=8
theorem uV.bd {c:Cf} {d:yY} (h:uV c d):fI d:=
 ⟨h.b,by have:=h.v.n4;omega,λr hr=>by have:=h.v.lg3 hr;omega,h.dn,λx hx=>by have:=(h.dr x hx).1;omega,by have:=h.au;have:=h.a.e;omega⟩
theorem zS1:∀(n:Nat) (l:List Int),l.length=4*n->∃qs:List Qd,l=ZM qs/\qs.length=n
 |0,l,h=>⟨[],yBa zB,rfl⟩
 |n+1,a::b::c::e::l,h=>by
  obtain⟨qs,h1,h2⟩:=zS1 n l (by simp only[yAl]at h;omega);exact⟨⟨a,b,c,e⟩::qs,by rw[h1];rfl,by rw[yAl,h2]⟩
 |n+1,[],h=>by simp at h
 |n+1,[_],h=>by simp at h;omega
 |n+1,[_,_],h=>by simp at h;omega
 |n+1,[_,_,_],h=>by simp at h;omega
theorem zS2:∀(n:Nat) (l:List Int),l.length=2*n->∃ws:List (Int×Int),l=HV ws/\ws.length=n
 |0,l,h=>⟨[],yBa zB,rfl⟩
 |n+1,a::b::l,h=>by
  obtain⟨ws,h1,h2⟩:=zS2 n l (by simp only[yAl]at h;omega);exact⟨(a,b)::ws,by rw[h1];rfl,by rw[yAl,h2]⟩
 |n+1,[],h=>by simp at h
 |n+1,[_],h=>by simp at h;omega
def zRj {fx gr:Nat} {p a:List Int} (hb:BY p) (h:QZ fx gr p=some a):p.length<=200/\10<=p.length/\(∀x∈a,0<=x/\x<=4294967295)/\(gr=0->a.length=fx)/\(gr≠0->∃c:Nat,1<=c/\c<=3/\a.length=fx+c*gr):=by
 unfold QZ at h;by_cases hl:200<p.length∨p.length<10
 ·rw[zZ8 hl]at h;cases h
 rw[zZ7 hl]at h;have hbd:BY (p.drop 10):=λx hx=>hb x (yBs hx)
 cases h1:aU fx (p.drop 10)with
 |none=>rw[h1]at h;cases h
 | some ar=>
  obtain⟨a1,r1⟩:=ar;rw[h1]at h;obtain⟨l1,b1,v1,_⟩:=dE fx _ a1 r1 hbd h1;dsimp only at h;by_cases hg:gr=0
  ·rw[zZ8 hg]at h;by_cases hr:r1=[]
   ·rw[zZ8 hr]at h;cases h;exact⟨zB,zB,v1,λ_=>l1,λh=>absurd hg h⟩
   ·rw[zZ7 hr]at h;cases h
  ·rw[zZ7 hg]at h
   cases h2:aU 1 r1 with
   |none=>rw[h2]at h;cases h
   | some cr=>
    obtain⟨c1,r2⟩:=cr;rw[h2]at h;obtain⟨l2,b2,v2,_⟩:=dE 1 _ c1 r2 b1 h2;dsimp only at h;by_cases hc:c1.getD 0 0<1∨3<c1.getD 0 0
    ·rw[zZ8 hc]at h;cases h
    rw[zZ7 hc]at h
    cases h3:aU ((c1.getD 0 0).toNat*gr) r2 with
    |none=>rw[h3]at h;cases h
    |some fr=>
     obtain⟨f1,r3⟩:=fr;rw[h3]at h;obtain⟨l3,b3,v3,_⟩:=dE _ _ f1 r3 b2 h3;dsimp only at h;by_cases hr:r3=[]
     ·rw[zZ8 hr]at h;cases h;refine⟨zB,zB,λx hx=>?_,λh=>absurd h hg,λ_=>⟨(c1.getD 0 0).toNat,zB,zB,by rw[yAd,l1,l3]⟩⟩;rw[yAw]at hx;exact hx.elim (v1 x) (v3 x)
     ·rw[zZ7 hr]at h;cases h
def Opn (d:yY) (i:It) (now:Int) (a:List Int):Prop:=i.code=0/\1<=i.kind/\i.kind<=12/\QZ (vL i.kind) (xU i.kind) i.pay=some a/\opE d.rg ⟨i.kind,i.pay.take 10,a,[]⟩ now=0
def opD (d:yY) (i:It) (now:Int) (a:List Int):yY:=xX d (opR d.rg ⟨i.kind,i.pay.take 10,a,[]⟩ now)
def TC (c:Cf) (d:yY) (s:Int) (i:It) (now:Int) (h:Hd):Prop:=
 zN 128 [vG c,zI d,iA s,wZ i,iA now] [] (CU d.rg.num i.kind h) []/\HRc c d s now i h
def RpF (d:yY) (i:It) (now:Int) (a:List Int) (h:Hd):Prop:=
 (i.kind=1/\h.p=OP d now/\h.d=d)∨(i.kind=9/\h.p=OQ d/\h.d=d)∨(i.kind=12/\h.p=cZ d/\h.d=d)∨
 (i.kind=2/\∃(k:Nat) (sec:List Int),k<8/\(sec.length=8/\BY sec)/\h.p=⟨16,[],[(k:Int)],d.rg.num::(k:Int)::sec⟩)∨
 ((3<=i.kind/\i.kind<=8∨i.kind=10∨i.kind=11)/\∃x,0<=x/\x<=4294967295/\h.p=jS i.kind x)
def T0 (d:yY):Prop:=d.rg.tk.getD 0 default=⟨true,d.rg.ag.sec,-1,d.rg.ag.rights,d.rg.ag.cls,0⟩
theorem T0.of {d d':yY} (h1:d'.rg.tk=d.rg.tk) (h2:d'.rg.ag=d.rg.ag) (h:T0 d):T0 d':=by
 unfold T0 at *;rw[h1,h2];exact h
def YB (l l':List Rq):Prop:=∀r∈l',∀g∈r.legs,g.sc= -1∨∃r0∈l,r0.id=r.id/\∃g0∈r0.legs,g0.jn=g.jn/\g0.ph=g.ph/\g0.sc=g.sc
theorem YB.refl (l:List Rq):YB l l:=λr hr g hg=> .inr ⟨r,hr,rfl,g,hg,rfl,rfl,rfl⟩
theorem YB.filter (l:List Rq) (p:Rq->Bool):YB l (l.filter p):=λr hr g hg=> .inr ⟨r,(yC5.1 hr).1,rfl,g,hg,rfl,rfl,rfl⟩
theorem YB.trans {a b c:List Rq} (h1:YB a b) (h2:YB b c):YB a c:=λr hr g hg=>by
 rcases h2 r hr g hg with h|⟨r1,hr1,e1,g1,hg1,a1,a2,a3⟩
 ·exact .inl h
 ·rcases h1 r1 hr1 g1 hg1 with h|⟨r0,hr0,e0,g0,hg0,b1,b2,b3⟩
  ·exact .inl (a3▸h)
  ·exact .inr ⟨r0,hr0,e0.trans e1,g0,hg0,b1.trans a1,b2.trans a2,b3.trans a3⟩
structure HdP (c:Cf) (d:yY) (s:Int) (i:It) (now:Int) (h:Hd):Prop where
 inv:uV c h.d
 ag:h.d.rg.ag=d.rg.ag
 num:h.d.rg.num=d.rg.num
 no:h.e≠0->h.k= -1/\h.p=kZ i.kind h.e/\(h.d=d∨∃a,Opn d i now a/\h.d=opD d i now a)
 yes:h.e=0->∃a,Opn d i now a/\RpF d i now a h
 rst:h.k= -1∨(i.kind=11/\0<=h.k/\h.k<(c.js.length:Int))
 dl:h.d.dr.length<=d.dr.length
 t0:T0 d->T0 h.d
 eb:0<=i.code/\i.code<=100->0<=h.e/\h.e<=100
 ax:∀k:Nat,(k:Int)≠s->h.d.au[k]? =d.au[k]?
 sc:YB d.rq h.d.rq
def OM {r:Rg} {m:Ms} {now:Int} (h:opE r m now=0):opR r m now=⟨r.num,r.ag,r.tk,r.vh,if LE m.kind=true then DH r.bk else r.bk⟩/\ckB r.tk r.num m.tok m.kind now=true/\(LE m.kind=true->0<r.bk.level)/\opS r m now=m.tok.getD 1 default:=by
 have h1:ckB r.tk r.num m.tok m.kind now=true:=by
  cases hc:ckB r.tk r.num m.tok m.kind now with
  |true=>rfl
  |false=>rw[opE,hc,zZ7 yAs]at h;omega
 refine⟨?_,h1,λhk=>?_,by rw[opS,zZ8 h]⟩
 ·rw[opR,zZ8 h]
  split<;>rfl
 ·rw[opE,zZ8 h1]at h;by_cases hl:r.bk.level<=0
  ·rw[zZ8 ⟨hk,hl⟩]at h;omega
  ·omega
def zS3 {c:Cf} {d:yY} (hI:uV c d) {i:It} {now:Int} {a:List Int} (h:Opn d i now a):uV c (opD d i now a):=by
 obtain⟨h1,_,h3,_⟩:=OM h.2.2.2.2;unfold opD xX;rw[h1];have hl:=hI.bl;refine⟨⟨hI.b.tk,hI.b.s,hI.b.l,hI.b.v⟩,hI.v,hI.q,hI.lg,hI.a,hI.n,hI.t8,?_,?_,?_,hI.au,hI.dn,hI.dr,hI.vh⟩
 ·dsimp only;split
  ·unfold DH;split
   ·exact hI.br
   ·exact hI.br
  ·exact hI.br
 ·dsimp only;split
  ·unfold DH;split
   ·exact hI.bb
   ·exact hI.bb
  ·exact hI.bb
 ·dsimp only;split
  ·rename_i hk;have:=h3 hk;unfold DH;split
   ·exact hl
   ·dsimp only;omega
  ·exact hl
def ON {d:yY} {i:It} {now:Int} {a:List Int} (h:Opn d i now a) (hk:i.kind=1∨9<=i.kind):opD d i now a=d:=by
 obtain⟨h1,_,_,_⟩:=OM h.2.2.2.2;unfold opD xX;rw[h1,zZ7 (λh=>by unfold LE at h;rw[yAc]at h;dsimp only at h;omega)]
def zMq {ki:Int} {d:yY} {p:Ms} {k e:Int} (h:e≠0):hdM ki d p k e=⟨d,kZ ki e,-1,e⟩:=zZ7 h
def zDt {ki:Int} {d:yY} {p:Ms} {k:Int}:hdM ki d p k 0=⟨d,p,k,0⟩:=zZ8 Z
def CX {c:Cf} {d:yY} {s now:Int} {i:It} (hI:uV c d) {e:Int} (he:e≠0) (p:Ms) (d':yY) (hd:d'=d∨∃a,Opn d i now a/\d'=opD d i now a)
  (h1:zN 170 [vG c,zI d,iA s,wZ i,iA now] [] (hT d' p (-1) e) []) (h2:HRc c d s now i ⟨d',kZ i.kind e,-1,e⟩) (heb:0<=i.code/\i.code<=100->0<=e/\e<=100:=by(intro _;omega)):∃h,TC c d s i now h/\HdP c d s i now h:=by
 have hi:uV c d'/\d'.rg.ag=d.rg.ag/\d'.rg.num=d.rg.num/\d'.dr=d.dr/\d'.rg.tk=d.rg.tk:=by
  rcases hd with rfl|⟨a,ho,rfl⟩
  ·exact⟨hI,rfl,rfl,rfl,rfl⟩
  ·refine⟨zS3 hI ho,?_,?_,?_,?_⟩<;>(unfold opD xX;rw[(OM ho.2.2.2.2).1])
 have h3:=zSz c d s now i hI.bd d' p (-1) e h1;rw[zMq he,hi.2.2.1]at h3;exact⟨⟨d',kZ i.kind e,-1,e⟩,⟨h3,h2⟩,hi.1,hi.2.1,hi.2.2.1,λ_=>⟨rfl,rfl,hd⟩,λh=>absurd h he,.inl Z,by rw[hi.2.2.2.1];exact yAb _,T0.of hi.2.2.2.2 hi.2.1,heb,λ_ _=>by rw[show d'.au=d.au by rcases hd with h|⟨a,_,h⟩<;>rw[h];rfl],by dsimp only;rw[show d'.rq=d.rq by rcases hd with h|⟨a,_,h⟩<;>rw[h];rfl];exact YB.refl _⟩
def zWf {c:Cf} {d:yY} {s now:Int} {i:It} (hI:uV c d) (a:List Int) (ho:Opn d i now a) (p:Ms) (k:Int) (d':yY) (hi:uV c d') (ha:d'.rg.ag=d.rg.ag) (hn:d'.rg.num=d.rg.num)
  (hr:RpF d i now a ⟨d',p,k,0⟩) (hk:k= -1∨(i.kind=11/\0<=k/\k<(c.js.length:Int))) (hdl:d'.dr.length<=d.dr.length) (ht0:T0 d->T0 d')
  (h1:zN 170 [vG c,zI d,iA s,wZ i,iA now] [] (hT d' p k 0) []) (h2:HRc c d s now i ⟨d',p,k,0⟩) (hau:d'.au=d.au) (hsc:YB d.rq d'.rq):∃h,TC c d s i now h/\HdP c d s i now h:=by
 have h3:=zSz c d s now i hI.bd d' p k 0 h1;rw[zDt,hn]at h3;exact⟨⟨d',p,k,0⟩,⟨h3,h2⟩,hi,ha,hn,λh=>absurd Z h,λ_=>⟨a,ho,hr⟩,hk,hdl,ht0,λ_=>by dsimp only;omega,λ_ _=>by dsimp only;rw[hau],hsc⟩
theorem zMr:∀{qs:List Qd} {q:Qd},q∈qs->q.j∈ZM qs/\q.p∈ZM qs/\q.f∈ZM qs/\q.t∈ZM qs
 |x::l,q,h=>by
  rw[show ZM (x::l)=x.j::x.p::x.f::x.t::ZM l from Z]
  rcases yBd.1 h with rfl|h
  ·simp
  ·obtain⟨h1,h2,h3,h4⟩:=zMr h;simp[h1,h2,h3,h4]
theorem zBg {α β γ:Type} {f:α->β->γ}:∀{a:List α} {b:List β} {g:γ},g∈a.zipWith f b->∃x∈a,∃y,g=f x y
 |x::a,y::b,g,h=>by
  rw[yDl]at h
  rcases yBd.1 h with rfl|h
  ·exact⟨x,by simp,y,rfl⟩
  ·obtain⟨z,hz,w,e⟩:=zBg h;exact⟨z,by simp[hz],w,e⟩
 | [],_,_,h=>by simp at h
 |_::_,[],_,h=>by simp at h
def zMs (l:List Rq) (r:Rq):(bC l r).length=l.length+1:=by
 have:=IK l r.id;unfold bC;rw[yAd,yAl,yA3,yBh];omega
def zWg {j p f t now:Int} (h:mwB j p f t now=true):(mwF j p f t now).jn=j/\(mwF j p f t now).ph=p:=by
 unfold mwF;rw[zZ8 h];exact⟨rfl,rfl⟩
def zYt {c:Cf} {now:Int} {qs:List Qd} (h:qs.all (OR c now)=true):∀g∈qs.map (HU now),g.jn<(c.js.length:Int)/\g.ph<((c.js.getD g.jn.toNat default).ph.length:Int):=by
 intro g hg;rw[yA5]at hg;obtain⟨q,hq,rfl⟩:=hg;have h1:=yAm.1 h q hq;unfold OR at h1;simp only[yAk,yAc]at h1;obtain⟨h2,h3,h4⟩:=h1;obtain⟨e1,e2⟩:=zWg h4;unfold HU;rw[e1,e2];exact⟨h2,h3⟩
def zZx {l:List Rq} {q id life:Int} {x:List Lg} (h:suE l q id life x=0):(l.length:Int)<q/\(l.length:Int)<4:=by
 unfold suE at h;split at h
 ·omega
 ·split at h
  ·omega
  ·split at h
   ·omega
   ·omega
def zYu {c:Cf} {d:yY} {cls id v life now:Int} {qs:List Qd} (h:dsE c d cls id v life now qs=0):zMu (dX d.rg.vh v)=true/\qs.all (OR c now)=true/\suE d.rq d.rg.ag.req id life (qs.map (HU now))=0:=by
 unfold dsE sxE at h;split at h
 ·split at h
  ·omega
  ·split at h
   ·rename_i ha;split at h
    ·split at h
     ·rename_i hv;exact⟨hv,ha,h⟩
     ·omega
    ·omega
   ·omega
 ·omega
def zZy {c:Cf} {d:yY} (hI:uV c d) {cls id v life now:Int} {qs:List Qd} (n0:0<=now) (n1:now<=1073741824) (h:dsE c d cls id v life now qs=0):uV c (dkQ d (dsL c d cls id v life now qs)):=by
 obtain⟨hv,ha,hs⟩:=zYu h;unfold zMu at hv;rw[yAc]at hv;have hl:=zZx hs;unfold dkQ dsL;rw[zZ8 h];refine⟨hI.b,zU2 hI.v hs hv.1.1 hv.1.2 hv.2.1 hv.2.2 n0 n1,?_,λr hr g hg=>?_,hI.a,hI.n,hI.t8,hI.br,hI.bb,hI.bl,hI.au,hI.dn,hI.dr,hI.vh⟩
 ·dsimp only;rw[zMs];omega
 ·rcases PD hr with rfl|hr
  ·exact zYt ha g hg
  ·exact hI.lg r hr g hg
def zZz {c:Cf} {d:yY} (hI:uV c d) {id now:Int} {ws:List (Int×Int)} (h:cI d.rq id ws now=0):uV c (dkQ d (upQ d.rq id ws now)):=by
 unfold dkQ upQ;rw[zZ8 h];have hl:(NQ d.rq id ws now).length=d.rq.length:=by unfold NQ;rw[zZ9]
 refine⟨hI.b,zU4 hI.v h,?_,λr hr g hg=>?_,hI.a,hI.n,hI.t8,hI.br,hI.bb,hI.bl,hI.au,hI.dn,hI.dr,hI.vh⟩
 ·dsimp only;rw[hl];exact hI.q
 ·dsimp only at hr;unfold NQ at hr;rw[yA5]at hr;obtain⟨r0,hr0,rfl⟩:=hr;split at hg
  ·obtain⟨x,hx,y,rfl⟩:=zBg hg;exact hI.lg r0 hr0 x hx
  ·exact hI.lg r0 hr0 g hg
def zYv {c:Cf} {d:yY} (hI:uV c d) (p:Rq->Bool):uV c (dkQ d (d.rq.filter p)):=by
 have hl:=yCl p d.rq;have hq:=hI.q;refine⟨hI.b,hI.v.filter p,?_,λr hr g hg=>hI.lg r ((yC5.1 hr).1) g hg,hI.a,hI.n,hI.t8,hI.br,hI.bb,hI.bl,hI.au,hI.dn,hI.dr,hI.vh⟩
 show((d.rq.filter p).length:Int)<=d.rg.ag.req
 omega
def zYw {c:Cf} {d:yY} {cls id v life now:Int} {qs:List Qd} (h:dsE c d cls id v life now qs=0):YB d.rq (dsL c d cls id v life now qs):=by
 unfold dsL;rw[zZ8 h];intro r hr g hg
 rcases PD hr with rfl|hr
 ·refine .inl ?_;obtain⟨q,hq,rfl⟩:=yA5.1 hg;have h1:=yAm.1 (zYu h).2.1 q hq;unfold OR at h1;simp only[yAk,yAc]at h1;unfold HU mwF;rw[zZ8 h1.2.2]
 ·exact .inr ⟨r,hr,rfl,g,hg,rfl,rfl,rfl⟩
def zYx {d:yY} {id now:Int} {ws:List (Int×Int)} (h:cI d.rq id ws now=0):YB d.rq (upQ d.rq id ws now):=by
 unfold upQ;rw[zZ8 h];intro r hr g hg;unfold NQ at hr;rw[yA5]at hr;obtain⟨r0,hr0,rfl⟩:=hr;split at hg
 ·obtain⟨x,hx,y,rfl⟩:=zBg hg;exact .inr ⟨r0,hr0,by split<;>rfl,x,hx,rfl,rfl,rfl⟩
 ·exact .inr ⟨r0,hr0,by split<;>rfl,g,hg,rfl,rfl,rfl⟩
def zYy (d:yY) (m:Ms) (r':Rg) (u:Bool):YB d.rq (dgD d m r' u 0).rq:=by
 unfold dgD;rw[zZ8 Z];dsimp only;split
 ·exact YB.filter _ _
 ·exact YB.refl _
def zZ0 {c:Cf} {d:yY} (hI:uV c d) {m:Ms} {sec:List Int} {r':Rg} {p:Ms} {u:Bool} (hb:DK r') (hP:DoP d.rg m sec r' p u 0):uV c (dgD d m r' u 0)/\(dgD d m r' u 0).rg.ag=d.rg.ag/\(dgD d m r' u 0).rg.num=d.rg.num/\(dgD d m r' u 0).dr.length<=d.dr.length/\(T0 d->T0 (dgD d m r' u 0)):=by
 have hdr:(if u=true then d.dr.drop 1 else d.dr).length<=1000/\∀x∈(if u=true then d.dr.drop 1 else d.dr),x.length=8/\BY x:=by
  split
  ·exact⟨by have:=hI.dn;rw[yBh];omega,λx hx=>hI.dr x (yBs hx)⟩
  ·exact⟨hI.dn,hI.dr⟩
 have hrq:bJ (if m.kind=5 then EX d.rq (m.args.getD 0 0)else d.rq)/\((if m.kind=5 then EX d.rq (m.args.getD 0 0)else d.rq).length:Int)<=d.rg.ag.req/\zYs c (if m.kind=5 then EX d.rq (m.args.getD 0 0)else d.rq):=by
  split
  ·have h:=zYv hI (λx=>x.vh != m.args.getD 0 0);exact⟨h.v,h.q,h.lg⟩
  ·exact⟨hI.v,hI.q,hI.lg⟩
 have hdd:(if u=true then d.dr.drop 1 else d.dr).length<=d.dr.length:=by
  split
  ·rw[yBh];omega
  ·exact yAb _
 unfold dgD;rw[zZ8 Z]
 rcases hP.2 Z with⟨o,ho,hT,rfl,_⟩|⟨o,ho,rfl,_⟩
 ·refine⟨⟨hb,hrq.1,hrq.2.1,hrq.2.2,hI.a,hI.n,ho,hI.br,hI.bb,hI.bl,hI.au,hdr.1,hdr.2,hI.vh⟩,rfl,rfl,hdd,λh=>?_⟩;unfold T0 at h⊢;exact(hT (by rw[h]) (by rw[h])).trans h
 ·exact⟨⟨hb,hrq.1,hrq.2.1,hrq.2.2,hI.a,hI.n,hI.t8,hI.br,hI.bb,hI.bl,hI.au,hdr.1,hdr.2,ho⟩,rfl,rfl,hdd,λh=>h⟩
def zWh {d:yY} {i:It} {now:Int} {a:List Int} (ho:Opn d i now a):(opD d i now a).rg.ag=d.rg.ag/\(opD d i now a).rg.num=d.rg.num/\(opD d i now a).rg.tk=d.rg.tk/\(opD d i now a).rq=d.rq/\(opD d i now a).dr=d.dr/\(opD d i now a).au=d.au:=by
 unfold opD xX;rw[(OM ho.2.2.2.2).1];exact⟨rfl,rfl,rfl,rfl,rfl,rfl⟩
def zRk {l:List Tk} {g:Int} {b:List Int} {k now:Int} (h:ckB l g b k now=true):gX l (b.getD 1 default)=true:=by
 unfold ckB at h;simp only[yAk]at h;exact h.1.2
def zZ1 (r:Rg) (m:Ms) (now:Int):0<=opE r m now/\opE r m now<=100:=by
 unfold opE;split
 ·split<;>omega
 ·omega
def zYz (c:Cf) (d:yY) (cls id v life now:Int) (qs:List Qd):0<=dsE c d cls id v life now qs/\dsE c d cls id v life now qs<=100:=by
 unfold dsE sxE suE
 repeat' split
 all_goals omega
def zY0 (l:List Rq) (id:Int) (ws:List (Int×Int)) (now:Int):0<=cI l id ws now/\cI l id ws now<=100:=by
 unfold cI
 repeat' split
 all_goals omega
theorem zFm (c:Cf) (d:yY) (hI:uV c d) (s now:Int) (n0:0<=now) (n1:now<=1073741824) (i:It) (hby:BY i.pay) (hlen:i.pay.length<=100000):∃h,TC c d s i now h/\HdP c d s i now h:=by
 by_cases hc:i.code=0
 case neg=>exact CX hI hc QA d (.inl Z) (zQy c d s now i hc) (zRe c d s now hI.bd i hc) id
 by_cases hk:1<=i.kind/\i.kind<=12
 case neg=>exact CX hI xG QA d (.inl Z) (zQz c d s now i hc hk) (zRf c d s now hI.bd i hc hk)
 obtain⟨h0,h1⟩:=hk;have k2:=zJ6 i.kind h0 h1 i.pay hby hlen;have r2:=zEs i.kind h0 h1 i.pay hby hlen;have hii:i=⟨0,i.kind,i.pay⟩:=by cases i;simp_all
 cases hd:QZ (vL i.kind) (xU i.kind) i.pay with
 |none=>
  rw[hd]at k2 r2;have q1:=zQ0 c d s now i.kind i.pay h0 h1 k2;have q2:=zRg c d s now hI.bd i.kind i.pay h0 h1 r2;rw[<-hii]at q1 q2;exact CX hI xG QA d (.inl Z) q1 q2
 |some ar=>
 rw[hd]at k2 r2;obtain⟨_,hl10,hv,hg0,hg1⟩:=zRj hby hd;have hbt:BY (i.pay.take 10):=λx hx=>hby x (yCc hx)
 have hlv:d.rg.bk.level<=1000000:=by have:=hI.bl;have:=hI.a.b;omega
 have k3:=zVj d.rg ⟨i.kind,i.pay.take 10,ar,[]⟩ now hI.b hbt hlv;have r3:=zRi d.rg ⟨i.kind,i.pay.take 10,ar,[]⟩ now hI.b hbt hlv;by_cases ho:opE d.rg ⟨i.kind,i.pay.take 10,ar,[]⟩ now=0
 case neg=>
  have q1:=zQ1 c d s now i.kind i.pay (i.pay.take 10) ar h0 h1 k2 _ _ _ ho k3;have q2:=zRh c d s now hI.bd i.kind i.pay (i.pay.take 10) ar h0 h1 r2 _ _ _ ho r3;rw[<-hii]at q1 q2;exact CX hI ho QA d (.inl Z) q1 q2 (λ_=>zZ1 _ _ _)
 have hO:Opn d i now ar:=⟨hc,h0,h1,hd,ho⟩;obtain⟨_,hck,_,hsl⟩:=OM ho;rw[ho,hsl]at k3 r3;have hus:=zRk hck;dsimp only at hsl hus;generalize (i.pay.take 10).getD 1 default=sl at *;have hI1:=zS3 hI hO;obtain⟨ea,en,et,eq,er,eu⟩:=zWh hO
 have hs0:0<=sl/\sl<(d.rg.tk.length:Int):=by
  unfold gX at hus;rw[yAk,yAc]at hus;exact hus.1
 have hsd:opD d i now ar=xX d (opR d.rg ⟨i.kind,i.pay.take 10,ar,[]⟩ now):=rfl;generalize opR d.rg ⟨i.kind,i.pay.take 10,ar,[]⟩ now=r1 at *;have tl:(i.pay.take 10).length<=1000:=by rw[yA3];omega
 have NO:∀(e:Int),e≠0->0<=e/\e<=100->∀(p p2:Ms) (k2':Int),zN 170 [vG c,zI d,iA s,wZ ⟨0,i.kind,i.pay⟩,iA now] [] (hT (xX d r1) p (-1) e) []->
   yP [vG c,zI (xX d r1),iA s,yB ⟨i.kind,i.pay.take 10,ar,[]⟩,iA sl,iA now] [] (hT (xX d r1) p2 k2' e) []->∃h,TC c d s i now h/\HdP c d s i now h:=by
  intro e he heb p p2 k2' q1 q2;have q3:=zS0 c d s now hI.bd i.kind i.pay _ ar h0 h1 r2 r1 sl r3 (xX d r1) (hsd▸hI1.bd) p2 k2' e q2;rw[zMq he]at q3;rw[<-hii]at q1 q3;exact CX hI he p _ (.inr ⟨ar,hO,hsd.symm⟩) q1 q3 (λ_=>heb)
 have YES:∀(d':yY) (p:Ms) (k:Int),uV c d'->d'.rg.ag=d.rg.ag->d'.rg.num=d.rg.num->RpF d i now ar ⟨d',p,k,0⟩->(k= -1∨(i.kind=11/\0<=k/\k<(c.js.length:Int)))->d'.dr.length<=d.dr.length->(T0 d->T0 d')->zN 170 [vG c,zI d,iA s,wZ ⟨0,i.kind,i.pay⟩,iA now] [] (hT d' p k 0) []->
   yP [vG c,zI (xX d r1),iA s,yB ⟨i.kind,i.pay.take 10,ar,[]⟩,iA sl,iA now] [] (hT d' p k 0) []->d'.au=d.au->YB d.rq d'.rq->∃h,TC c d s i now h/\HdP c d s i now h:=by
  intro d' p k hi ha hn hr hk hdl ht0 q1 q2 hau hsc;have q3:=zS0 c d s now hI.bd i.kind i.pay _ ar h0 h1 r2 r1 sl r3 d' hi.bd p k 0 q2;rw[zDt]at q3;rw[<-hii]at q1 q3;exact zWf hI ar hO p k d' hi ha hn hr hk hdl ht0 q1 q3 hau hsc
 rw[hsd]at hI1 ea en et eq er eu;have hgk:xU i.kind=0∨xU i.kind≠0:=by omega
 have hcs:i.kind=1∨(i.kind=2∨i.kind=3∨i.kind=4∨i.kind=5)∨i.kind=6∨i.kind=7∨i.kind=8∨i.kind=9∨i.kind=10∨i.kind=11∨i.kind=12:=by omega
 rcases hcs with hk|hk|hk|hk|hk|hk|hk|hk|hk
 ·
  have hal:ar=[]:=yBa (by rw[hg0 LP,hk];rfl);subst hal;have hsame:=ON hO (.inl hk);rw[hsd]at hsame;rw[hsame]at hI1;have q1:=HQ c d s now i.kind i.pay _ [] h0 h1 k2 r1 sl k3 (.inl hk) (OP d now) (by rw[hsame,hk];exact CZ d now);have q2:=zMm c d s now (i.pay.take 10) sl;rw[hsame]at q1;refine YES d _ _ hI1 Z Z (.inl ⟨hk,rfl,rfl⟩) (.inl Z) (yAb _) id q1 ?_ Z (YB.refl _);rw[hsame,hk];exact q2
 ·
  obtain⟨a,ar1,har⟩:∃a ar1,ar=a::ar1:=by
   cases ar with
   |nil=>exfalso;have:=hg0 zSv;rcases hk with hk|hk|hk|hk<;>rw[hk]at this<;>cases this
   |cons a ar1=>exact⟨a,ar1,rfl⟩
  have hal:ar.length<=1000:=by have:=hg0 zSv;have:=JZ i.kind;omega
  have hm:MsB ⟨i.kind,i.pay.take 10,ar,[]⟩:=⟨tl,hal,yAp _⟩
  have hsec:(MF (xX d r1)).length<=1000:=by
   unfold MF xX;dsimp only
   cases hdr:d.dr with
   |nil=>simp
   |cons b bs=>have:=(hI.dr b (by rw[hdr];simp)).1;simp;omega
  have hsb:BY (MF (xX d r1)):=by
   unfold MF xX;dsimp only
   cases hdr:d.dr with
   |nil=>exact λx hx=>by cases hx
   |cons b bs=>exact(hI.dr b (by rw[hdr];simp)).2
  have hvh:r1.vh.length<=1000:=by have:=hI1.vh;exact yBm this zB
  obtain⟨r',p,u,e,hr',hp',hP,f1,f2⟩:=zRv r1 hvh ⟨i.kind,i.pay.take 10,ar,[]⟩ hm sl now (MF (xX d r1)) hsec
  have h5:i.kind=5->∃a,ar=[a]:=λh=>by
   have h9:=hg0 (by rw[h];rfl);rw[h]at h9;exact zFw h9
  have q1:=zV9 (xX d r1) ⟨i.kind,i.pay.take 10,ar,[]⟩ sl now hI1.v hI1.dn r' p u e f1 h5
  have hu:u=true->(xX d r1).dr≠[]:=λhu h9=>by
   have he:e=0:=by
    by_cases he:e=0
    ·exact he
    ·rw[(hP.1 he).1]at hu;cases hu
   have h10:MF (xX d r1)=[]:=by unfold MF;rw[h9];rfl
   rcases hP.2 he with⟨o,_,_,_,h11|h11⟩|⟨o,_,_,h11,_⟩
   ·rw[h11.1]at hu;cases hu
   ·rw[h10]at h11;exact absurd h11.2.1 xG
   ·rw[h11]at hu;cases hu
  have q2:=zQx (xX d r1) ⟨i.kind,i.pay.take 10,ar,[]⟩ sl now hI1.v hI1.dn r' p u e f2 h5 hu;have w1:=zWa c d s now i.kind i.pay _ ar h0 h1 k2 r1 sl k3 hk _ _ e q1;have w2:=zWb c (xX d r1) s now (i.pay.take 10) sl i.kind ar a ar1 har hk _ p e q2;by_cases he:e=0
  ·subst he;rw[zZ8 Z]at w1;obtain⟨hi,ha,hn,hd1,hd2⟩:=zZ0 (m:=⟨i.kind,i.pay.take 10,ar,[]⟩) hI1 hr' hP;have hvx:0<=a/\a<=4294967295:=hv a (by rw[har];simp);refine YES _ p (-1) hi (ha.trans ea) (hn.trans en) ?_ (.inl Z) hd1 (λh=>hd2 (T0.of et ea h)) w1 w2 (by unfold dgD;rw[zZ8 Z];rfl) (zYy (xX d r1) _ r' u)
   rcases hP.2 Z with⟨o,_,_,_,h11|h11⟩|⟨o,_,_,_,h11,h12⟩
   ·obtain⟨_,h12,h13⟩:=h11;dsimp only at h13 h12;exact .inr (.inr (.inr (.inr ⟨zB,a,hvx.1,hvx.2,by rw[h12,har,h13];rfl⟩)))
   ·obtain⟨_,h12,h13,k,h14,h15⟩:=h11;have en':r1.num=d.rg.num:=en;exact .inr (.inr (.inr (.inl ⟨h13,k,_,h14,⟨h12,hsb⟩,by rw[h15,en']⟩)))
   ·dsimp only at h11 h12;exact .inr (.inr (.inr (.inr ⟨zB,a,hvx.1,hvx.2,by rw[h12,har];rfl⟩)))
  ·have e1:dgD (xX d r1) ⟨i.kind,i.pay.take 10,ar,[]⟩ r' u e=xX d r1:=by unfold dgD;rw[zZ7 he]
   rw[e1]at w1 w2;exact NO e he (hP.1 he).2 _ _ _ w1 w2
 ·
  obtain⟨cc,c1,c3,hl⟩:=hg1 zDm;rw[hk,show vL 6=3 from Z,show xU 6=4 from Z]at hl
  obtain⟨id,v,life,ar1,har⟩:∃id v life ar1,ar=id::v::life::ar1:=by
   match ar,hl with
   |id::v::life::ar1,_=>exact⟨id,v,life,ar1,rfl⟩
   | [],h=>simp at h;omega
   | [_],h=>simp at h;omega
   | [_,_],h=>simp at h;omega
  subst har;obtain⟨qs,hqs,hqn⟩:=zS1 cc ar1 (by simp only[yAl]at hl;omega);subst hqs
  have hp:∀q∈qs,0<=q.j/\0<=q.p:=λq hq=>by
   obtain⟨m1,m2,_⟩:=zMr hq;exact⟨(hv q.j (by simp[m1])).1,(hv q.p (by simp[m2])).1⟩
  have hvx:=hv id zU;have s1:sl<((xX d r1).rg.tk.length:Int):=by rw[et];exact hs0.2
  have q1:=zWn c (xX d r1) (i.pay.take 10) id v life sl now qs hI1.bd hI1.v hs0.1 s1 zB hp n0 n1;have q2:=zBl c (xX d r1) 6 (i.pay.take 10) id v life ((xX d r1).rg.tk.getD sl.toNat default).cls now qs hI1.bd hI1.v zB hp n0 n1;by_cases he:dsE c (xX d r1) ((xX d r1).rg.tk.getD sl.toNat default).cls id v life now qs=0
  ·have hi:=zZy hI1 n0 n1 he;rw[he]at q1;rw[zZ8 he,he]at q2;have w1:=HP c d s now i.kind i.pay _ _ h0 h1 k2 r1 sl k3 (.inl hk) id _ Z _ LQ;have w2:=zMn c (xX d r1) s now (i.pay.take 10) sl _ id _ Z hs0.1 s1 _ 0 q2;refine YES _ (jS i.kind id) (-1) hi ea en (.inr (.inr (.inr (.inr ⟨zB,id,hvx.1,hvx.2,rfl⟩)))) (.inl Z) (yAb _) (T0.of et ea) w1 ?_ Z (zYw (d:=xX d r1) he);rw[hk];exact w2
  ·rw[zZ7 he]at q2;have w1:=HO c d s now i.kind i.pay _ _ h0 h1 k2 r1 sl k3 (.inl hk) _ _ he LQ;have w2:=zMn c (xX d r1) s now (i.pay.take 10) sl _ id _ Z hs0.1 s1 _ _ q2;exact NO _ he (by first|exact zYz _ _ _ _ _ _ _ _|exact zY0 _ _ _ _) _ _ _ w1 (by rw[hk];exact w2)
 ·
  obtain⟨cc,c1,c3,hl⟩:=hg1 zDm;rw[hk,show vL 7=1 from Z,show xU 7=2 from Z]at hl
  obtain⟨id,ar1,har⟩:∃id ar1,ar=id::ar1:=by
   match ar,hl with
   |id::ar1,_=>exact⟨id,ar1,rfl⟩
   | [],h=>simp at h;omega
  subst har;obtain⟨ws,hqs,hqn⟩:=zS2 cc ar1 (by simp only[yAl]at hl;omega);subst hqs;have hvx:=hv id zU;have q1:=zWl c (xX d r1) (i.pay.take 10) id sl now ws hI1.v zB n0 n1;have q2:=zWm (xX d r1) (i.pay.take 10) id now ws hI1.v zB n0 n1;by_cases he:cI (xX d r1).rq id ws now=0
  ·have hi:=zZz hI1 he;rw[he]at q1;rw[zZ8 he,he]at q2;have w1:=HP c d s now i.kind i.pay _ _ h0 h1 k2 r1 sl k3 (.inr (.inl hk)) id _ Z _ LQ;have w2:=zMo c (xX d r1) s now (i.pay.take 10) sl _ id _ Z _ 0 q2;refine YES _ (jS i.kind id) (-1) hi ea en (.inr (.inr (.inr (.inr ⟨zB,id,hvx.1,hvx.2,rfl⟩)))) (.inl Z) (yAb _) (T0.of et ea) w1 ?_ Z (zYx (d:=xX d r1) he);rw[hk];exact w2
  ·rw[zZ7 he]at q2;have w1:=HO c d s now i.kind i.pay _ _ h0 h1 k2 r1 sl k3 (.inr (.inl hk)) _ _ he LQ;have w2:=zMo c (xX d r1) s now (i.pay.take 10) sl _ id _ Z _ _ q2;exact NO _ he (by first|exact zYz _ _ _ _ _ _ _ _|exact zY0 _ _ _ _) _ _ _ w1 (by rw[hk];exact w2)
 ·
  obtain⟨id,har⟩:=zFw (show ar.length=1 by rw[hg0 LP,hk];rfl);subst har;have hvx:=hv id zU;have q1:=zWo c (xX d r1) (i.pay.take 10) id sl now hI1.v;have q2:=zWc c (xX d r1) s now (i.pay.take 10) sl id _ _ (zEx (xX d r1).rq id hI1.v);by_cases he:jQ (xX d r1).rq id=true
  ·have hi:=zYv hI1 (λx=>x.id != id);rw[zZ8 he,zZ8 he]at q1;rw[zZ8 he,zZ8 he,zZ8 Z]at q2;have w1:=HP c d s now i.kind i.pay _ _ h0 h1 k2 r1 sl k3 (.inr (.inr hk)) id [] Z _ LQ;refine YES _ (jS i.kind id) (-1) hi ea en (.inr (.inr (.inr (.inr ⟨zB,id,hvx.1,hvx.2,rfl⟩)))) (.inl Z) (yAb _) (T0.of et ea) w1 ?_ Z (YB.filter _ _);rw[hk];exact q2
  ·rw[zZ7 he,zZ7 he]at q1;rw[zZ7 he,zZ7 he,zZ7 xG]at q2;have w1:=HO c d s now i.kind i.pay _ _ h0 h1 k2 r1 sl k3 (.inr (.inr hk)) _ 12 xG LQ;exact NO 12 xG xG _ _ _ w1 (by rw[hk];exact q2)
 ·
  have hal:ar=[]:=yBa (by rw[hg0 LP,hk];rfl);subst hal;have hsame:=ON hO (.inr zB);rw[hsd]at hsame;rw[hsame]at hI1;have q1:=HQ c d s now i.kind i.pay _ [] h0 h1 k2 r1 sl k3 (.inr (.inl hk)) (OQ d) (by rw[hsame,hk];exact zBk d now hI.bd);have q2:=zRb c d s now (i.pay.take 10) sl hI.bd;rw[hsame]at q1;refine YES d _ _ hI1 Z Z (.inr (.inl ⟨hk,rfl,rfl⟩)) (.inl Z) (yAb _) id q1 ?_ Z (YB.refl _);rw[hsame,hk];exact q2
 ·
  obtain⟨a,har⟩:=zFw (show ar.length=1 by rw[hg0 LP,hk];rfl);subst har;have hvx:=hv a zU;by_cases ha:1<a
  ·have w1:=zQ4 c d s now i.kind i.pay _ [a] h0 h1 k2 r1 sl k3 hk a Z ha;have w2:=zQ9 c (xX d r1) s now (i.pay.take 10) sl a ha;exact NO 8 xG xG _ _ _ w1 (by rw[hk];exact w2)
  by_cases hs:0<=s/\s<(d.au.length:Int)
  case neg=>
   have w1:=zQ5 c d s now i.kind i.pay _ [a] h0 h1 k2 r1 sl k3 hk a Z zB hs;have w2:=zRa c (xX d r1) s now (i.pay.take 10) sl a zB (by rw[eu];exact hs);refine YES _ (jS 10 a) (-1) hI1 ea en (.inr (.inr (.inr (.inr ⟨zB,a,hvx.1,hvx.2,by rw[hk]⟩)))) (.inl Z) (yAb _) (T0.of et ea) w1 ?_ Z (YB.refl _);rw[hk];exact w2
  rw[hk]at k2 r2 k3 r3;have hI2:uV c ⟨r1,d.rq,d.dr,d.au.set s.toNat (a==1)⟩:=⟨hI1.b,hI1.v,hI1.q,hI1.lg,hI1.a,hI1.n,hI1.t8,hI1.br,hI1.bb,hI1.bl,by have:=hI1.au;dsimp only;rw[yBv];exact this,hI1.dn,hI1.dr,hI1.vh⟩;have w1:=zRc c d s now i.pay (i.pay.take 10) a hvx.1 zB k2 r1 sl k3 hs;have w2:=zRd c (xX d r1) s now (i.pay.take 10) sl a hvx.1 zB (by rw[eu];exact hs);have q1:=zWd c d s now ⟨0,10,i.pay⟩ hI.bd zB _ _ _ w1;have q2:=zWe c d s now hI.bd 10 i.pay _ [a] xG xG r2 r1 sl r3 _ hI2.bd _ _ w2;have en':r1.num=d.rg.num:=en;rw[show(⟨r1,d.rq,d.dr,d.au.set s.toNat (a==1)⟩:yY).rg.num=d.rg.num from en']at q1;rw[<-hk,<-hii]at q1 q2;exact⟨⟨⟨r1,d.rq,d.dr,d.au.set s.toNat (a==1)⟩,jS i.kind a,-1,0⟩,⟨q1,q2⟩,hI2,ea,en,λh=>absurd Z h,λ_=>⟨[a],hO,.inr (.inr (.inr (.inr ⟨zB,a,hvx.1,hvx.2,rfl⟩)))⟩,.inl Z,yAb _,T0.of et ea,λ_=>by dsimp only;omega,λk hk'=>by show(d.au.set s.toNat (a==1))[k]? =_;rw[yD8 zB],YB.refl _⟩
 ·
  obtain⟨a,har⟩:=zFw (show ar.length=1 by rw[hg0 LP,hk];rfl);subst har;have hvx:=hv a zU;by_cases ha:a<(c.js.length:Int)
  ·have w1:=zQ3 c d s now i.kind i.pay _ [a] h0 h1 k2 r1 sl k3 hk a Z ha;have w2:=zQ8 c (xX d r1) s now (i.pay.take 10) sl a ha;refine YES _ (jS 11 a) a hI1 ea en (.inr (.inr (.inr (.inr ⟨zB,a,hvx.1,hvx.2,by rw[hk]⟩)))) (.inr ⟨hk,hvx.1,ha⟩) (yAb _) (T0.of et ea) w1 ?_ Z (YB.refl _);rw[hk];exact w2
  ·have w1:=zQ2 c d s now i.kind i.pay _ [a] h0 h1 k2 r1 sl k3 hk a Z zB;have w2:=zQ7 c (xX d r1) s now (i.pay.take 10) sl a zB;exact NO 8 xG xG _ _ _ w1 (by rw[hk];exact w2)
 ·
  have hal:ar=[]:=yBa (by rw[hg0 LP,hk];rfl);subst hal;have hsame:=ON hO (.inr zB);rw[hsd]at hsame;rw[hsame]at hI1;have hrq:=hI.a.q;have q1:=HQ c d s now i.kind i.pay _ [] h0 h1 k2 r1 sl k3 (.inr (.inr hk)) (cZ d) (by rw[hsame,hk];exact zBi d 12 now xG xG hI.bd zB zB);have q2:=zQ6 c d s now (i.pay.take 10) sl (zRm d hI.bd zB zB);rw[hsame]at q1;refine YES d _ _ hI1 Z Z (.inr (.inr (.inl ⟨hk,rfl,rfl⟩))) (.inl Z) (yAb _) id q1 ?_ Z (YB.refl _);rw[hsame,hk];exact q2
end Av
end Go.Proofs.YteajjdidebfcjaaGreat
