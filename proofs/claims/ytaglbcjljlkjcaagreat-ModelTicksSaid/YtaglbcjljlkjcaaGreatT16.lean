/- Part 16. -/
import Derived.Test.YtaglbcjljlkjcaaGreatT15
namespace Go.Proofs.YtaglbcjljlkjcaaGreat.Av
open Tryz
set_option linter.all false
set_option maxRecDepth 4000
set_option maxHeartbeats 4000000
def fe (d:wD) (m:Ms) (z:Rg) (u:Bool) (e:Int):wD:=if e=0 then⟨z,(if m.kind=5 then TN d.rq (m.args.getD 0 0)else d.rq),(if u=true then d.dr.drop 1 else d.dr),d.au⟩else d
def LL (d:wD):List Int:=d.dr.headD []
def L5 (d:wD) (m:Ms) (A f3:Int) (hv:cM d.rq) (S:d.dr.length<=1000) (R:Rg) (p:Ms) (u:Bool) (e:Int)
  (z:zM 307 [uR d.rg,zX m,iA A,iA f3,zE yA (LL d)] [] (.tup [uR R,zX p,bA u,iA e]) []) (E:m.kind=5->∃a,m.args=[a]):
  zM 269 [zN d,zX m,iA A,iA f3] [] (.tup [zN (fe d m R u e),zX (if e=0 then p else ON),iA e]) []:=by
 unfold fe;obtain⟨rg,L,I,Y⟩:=d;obtain⟨k,V,W,da⟩:=m;unfold LL at z;dsimp only at *;have M:(I.map qM).length=I.length:=zA qM I
 cases I with
 | nil=>
  rw[List.headD_nil]at z;by_cases C:e=0
  .subst C;rw[zA4 Z,zA4 Z];by_cases hk:k=5
   .subst hk;obtain⟨a,rfl⟩:=E Z;have O:=IN L a hv;rw[zA4 Z,show([a]:List Int).getD 0 0=a from Z];generalize TN L a=U at *;unfold uR zX at z;unfold zN xD zX;cases u
    all_goals
     (refine eM call269 λF hF=>?_)
     exact mt (xU z O)
   .rw[Os hk];clear E;unfold uR zX at z;unfold zN xD zX;cases u
    all_goals
     (refine eM call269 λF hF=>?_)
     exact mx z
  .rw[Os C,Os C];clear E;unfold uR zX at z;unfold zN xD zX ON;refine eM call269 λF hF=>?_
   exact mx z
 | cons b G=>
  rw[List.headD_cons]at z;have M:(qM b::G.map qM).length=G.length+1:=by rw[zBj,zA5]
  rw[zBj]at S;have B:zE qM (b::G)= .sl false (qM b::G.map qM):=rfl;by_cases C:e=0
  .subst C;rw[zA4 Z,zA4 Z];by_cases hk:k=5
   .subst hk;obtain⟨a,rfl⟩:=E Z;have O:=IN L a hv;rw[zA4 Z,show([a]:List Int).getD 0 0=a from Z];generalize TN L a=U at *;unfold uR zX at z;unfold zN xD zX;rw[B];cases u
    all_goals
     (refine eM call269 λF hF=>?_)
     exact mt (xU z O)
   .rw[Os hk];clear E;unfold uR zX at z;unfold zN xD zX;rw[B];cases u
    all_goals
     (refine eM call269 λF hF=>?_)
     exact mx z
  .rw[Os C,Os C];clear E;unfold uR zX at z;unfold zN xD zX ON;rw[B];refine eM call269 λF hF=>?_
   exact mx z
def Hw (d:wD) (m:Ms) (A f3:Int) (hv:cM d.rq) (V:d.dr.length<=1000) (U:Rg) (p:Ms) (u:Bool) (e:Int)
  (z:zM 289 [uR d.rg,zX m,iA A,iA f3,zE yA (LL d)] [] (.tup [uR U,zX p,bA u,iA e]) []) (C:m.kind=5->∃a,m.args=[a]) (S:u=true->d.dr≠[]):
  zM 242 [zN d,zX m,iA A,iA f3] [] (.tup [zN (fe d m U u e),zX p,iA e]) []:=by
 unfold fe;obtain⟨rg,L,I,au⟩:=d;obtain⟨k,Y,ar,da⟩:=m;unfold LL at z;dsimp only at *;have M:(I.map qM).length=I.length:=zA qM I
 cases I with
 | nil=>
  have O:u=false:=by
   cases u with
   |false=>rfl
   |true=>exact absurd Z (S Z)
  subst O;rw[List.headD_nil]at z;by_cases E:e=0
  .subst E;rw[zA4 Z];by_cases hk:k=5
   .subst hk;obtain⟨a,rfl⟩:=C Z;have R:=MU L a hv;rw[zA4 Z,show([a]:List Int).getD 0 0=a from Z];generalize TN L a=W at *;unfold uR zX at z;unfold zN xD zX;refine eM call242 λF hF=>?_
    exact mt (xU z R)
   .rw[Os hk];clear C;unfold uR zX at z;unfold zN xD zX;refine eM call242 λF hF=>?_
    exact mx z
  .rw[Os E];clear C;unfold uR zX at z;unfold zN xD zX;refine eM call242 λF hF=>?_
   exact mx z
 | cons b G=>
  clear S;rw[List.headD_cons]at z;have M:(qM b::G.map qM).length=G.length+1:=by rw[zBj,zA5]
  rw[zBj]at V;have B:zE qM (b::G)= .sl false (qM b::G.map qM):=rfl;by_cases E:e=0
  .subst E;rw[zA4 Z];by_cases hk:k=5
   .subst hk;obtain⟨a,rfl⟩:=C Z;have R:=MU L a hv;rw[zA4 Z,show([a]:List Int).getD 0 0=a from Z];generalize TN L a=W at *;unfold uR zX at z;unfold zN xD zX;rw[B];cases u
    all_goals
     (refine eM call242 λF hF=>?_)
     exact mt (xU z R)
   .rw[Os hk];clear C;unfold uR zX at z;unfold zN xD zX;rw[B];cases u
    all_goals
     (refine eM call242 λF hF=>?_)
     exact mx z
  .rw[Os E];clear C;unfold uR zX at z;unfold zN xD zX;rw[B];refine eM call242 λF hF=>?_
   exact mx z
structure It where
 code:Int
 kind:Int
 pay:List Int
def vQ (i:It):AV:= .agg [iA i.code,iA i.kind,zE yA i.pay]
def hT (d:wD) (p:Ms) (k e:Int):AV:= .tup [zN d,zX p,iA k,iA e]
def Gw (c:Cf) (d:wD) (s f3:Int) (i:It) (hc:i.code≠0):zM 224 [wH c,zN d,iA s,vQ i,iA f3] [] (hT d ON (-1) i.code) []:=by
 unfold wH hT zN xD vQ zX ON;refine eM call224 λF hF=>?_
 exact ly
def Fw (c:Cf) (d:wD) (s f3:Int) (i:It) (hc:i.code=0) (hk:¬(1<=i.kind/\i.kind<=12)):zM 224 [wH c,zN d,iA s,vQ i,iA f3] [] (hT d ON (-1) 5) []:=by
 have u:=dI i.kind;rw[zA6 hk]at u;obtain⟨z,A,B⟩:=i;dsimp only at *;subst hc;unfold wH hT zN xD vQ zX ON;refine eM call224 λF hF=>?_
 exact mx u
def Ew (c:Cf) (d:wD) (s f3 k:Int) (u:List Int) (B:1<=k) (h1:k<=12) (A:zM 267 [iA k,zE yA u] [] (O6 k (u.take 10) none) []):zM 224 [wH c,zN d,iA s,vQ ⟨0,k,u⟩,iA f3] [] (hT d ON (-1) 6) []:=by
 have z:=dI k;rw[zA7 ⟨B,h1⟩]at z;unfold O6 zX at A;unfold wH hT zN xD vQ zX ON;refine eM call224 λF hF=>?_
 exact mt (xU z A)
def Dw (c:Cf) (d:wD) (s f3 k:Int) (E u A:List Int) (G:1<=k) (h1:k<=12) (C:zM 267 [iA k,zE yA E] [] (.tup [zX ⟨k,u,A,[]⟩,iA 0]) []) (r:Rg) (I e:Int) (L:e≠0)
  (z:zM 268 [uR d.rg,zX ⟨k,u,A,[]⟩,iA f3] [] (.tup [uR r,iA I,iA e]) []):zM 224 [wH c,zN d,iA s,vQ ⟨0,k,E⟩,iA f3] [] (hT d ON (-1) e) []:=by
 have B:=dI k;rw[zA7 ⟨G,h1⟩]at B;unfold zX at C z;unfold uR at z;unfold wH hT zN xD vQ zX ON;refine eM call224 λF hF=>?_
 exact mt (qL B C z)
def wN (d:wD) (r:Rg):wD:=⟨r,d.rq,d.dr,d.au⟩
section
variable (c:Cf) (d:wD) (s f3 k:Int) (pa tk0 ar:List Int) (h0:1<=k) (h1:k<=12) (k2:zM 267 [iA k,zE yA pa] [] (.tup [zX ⟨k,tk0,ar,[]⟩,iA 0]) []) (r:Rg) (sl:Int)
 (k3:zM 268 [uR d.rg,zX ⟨k,tk0,ar,[]⟩,iA f3] [] (.tup [uR r,iA sl,iA 0]) [])
include h0 h1 k2 k3
def K5 (hk:k=2\/k=3\/k=4\/k=5) (z:wD) (p:Ms) (e:Int) (u:zM 269 [zN (wN d r),zX ⟨k,tk0,ar,[]⟩,iA sl,iA f3] [] (.tup [zN z,zX p,iA e]) []):
  zM 224 [wH c,zN d,iA s,vQ ⟨0,k,pa⟩,iA f3] [] (hT z p (-1) e) []:=by
 have A:=dI k;rw[zA7 ⟨h0,h1⟩]at A;unfold zX at k2 k3 u;unfold uR at k3;unfold wN zN xD at u;unfold wH hT zN xD vQ zX
 rcases hk with rfl|rfl|rfl|rfl
 all_goals
  refine eM call224 λF hF=>?_
  exact mt (cL A k2 k3 u)
def EJ (hk:k=6\/k=7\/k=8) (l:List Rq) (e:Int) (A:e≠0) (u:zM 270 [wH c,zN (wN d r),zX ⟨k,tk0,ar,[]⟩,iA sl,iA f3] [] (.tup [zE zY l,iA e]) []):
  zM 224 [wH c,zN d,iA s,vQ ⟨0,k,pa⟩,iA f3] [] (hT (wN d r) ON (-1) e) []:=by
 have z:=dI k;rw[zA7 ⟨h0,h1⟩]at z;unfold zX at k2 k3 u;unfold uR at k3;unfold wN wH zN xD at u;unfold wN wH hT zN xD vQ zX ON
 rcases hk with rfl|rfl|rfl
 all_goals
  refine eM call224 λF hF=>?_
  exact mt (cL z k2 k3 u)
def EK (hk:k=6\/k=7\/k=8) (a:Int) (u:List Int) (z:ar=a::u) (l:List Rq) (B:zM 270 [wH c,zN (wN d r),zX ⟨k,tk0,ar,[]⟩,iA sl,iA f3] [] (.tup [zE zY l,iA 0]) []):
  zM 224 [wH c,zN d,iA s,vQ ⟨0,k,pa⟩,iA f3] [] (hT (mg (wN d r) l) (jD k a) (-1) 0) []:=by
 subst z;have C:=dI k;have E:=FX k a;rw[zA7 ⟨h0,h1⟩]at C;unfold jD zX at E;rw[show zX ⟨k,tk0,a::u,[]⟩= .agg [iA k,zE yA tk0,.sl false (iA a::u.map iA),.sl false []]from Z]at k2 k3 B;generalize u.map iA=A at *;unfold uR at k3;unfold wN wH zN xD at B;unfold mg wN wH hT zN xD vQ jD zX
 rcases hk with rfl|rfl|rfl
 all_goals
  refine eM call224 λF hF=>?_
  exact mt (PZ C k2 k3 B E)
def EL (hk:k=1\/k=9\/k=12) (p:Ms) (u:zM 272 [zN (wN d r),iA k,iA f3] [] (zX p) []):
  zM 224 [wH c,zN d,iA s,vQ ⟨0,k,pa⟩,iA f3] [] (hT (wN d r) p (-1) 0) []:=by
 have z:=dI k;rw[zA7 ⟨h0,h1⟩]at z;unfold zX at k2 k3 u;unfold uR at k3;unfold wN zN xD at u;unfold wN wH hT zN xD vQ zX
 rcases hk with rfl|rfl|rfl
 all_goals
  refine eM call224 λF hF=>?_
  exact mt (cL z k2 k3 u)
theorem Cw (hk:k=11) (a:Int) (u:ar=[a]) (B:(c.js.length:Int)<=a):
  zM 224 [wH c,zN d,iA s,vQ ⟨0,k,pa⟩,iA f3] [] (hT (wN d r) ON (-1) 8) []:=by
 subst hk u;have A:=dI 11;have z:=zA wK c.js;rw[show zX ⟨11,tk0,[a],[]⟩= .agg [iA 11,zE yA tk0,.sl false [iA a],.sl false []]from Z]at k2 k3;unfold uR at k3;unfold wN wH hT zN xD vQ ON zX;refine eM call224 λF hF=>?_
 exact mt (qL A k2 k3)
theorem Bw (hk:k=11) (a:Int) (u:ar=[a]) (C:a<(c.js.length:Int)):
  zM 224 [wH c,zN d,iA s,vQ ⟨0,k,pa⟩,iA f3] [] (hT (wN d r) (jD 11 a) a 0) []:=by
 subst hk u;have B:=dI 11;have z:=FX 11 a;have A:=zA wK c.js;unfold jD zX at z;rw[show zX ⟨11,tk0,[a],[]⟩= .agg [iA 11,zE yA tk0,.sl false [iA a],.sl false []]from Z]at k2 k3;unfold uR at k3;unfold wN wH hT zN xD vQ jD zX;refine eM call224 λF hF=>?_
 exact mt (cL B k2 k3 z)
theorem Aw (hk:k=10) (a:Int) (u:ar=[a]) (A:1<a):
  zM 224 [wH c,zN d,iA s,vQ ⟨0,k,pa⟩,iA f3] [] (hT (wN d r) ON (-1) 8) []:=by
 subst hk u;have z:=dI 10;rw[show zX ⟨10,tk0,[a],[]⟩= .agg [iA 10,zE yA tk0,.sl false [iA a],.sl false []]from Z]at k2 k3;unfold uR at k3;unfold wN wH hT zN xD vQ ON zX;refine eM call224 λF hF=>?_
 exact mt (qL z k2 k3)
theorem zx (hk:k=10) (a:Int) (u:ar=[a]) (E:a<=1) (G:¬(0<=s/\s<(d.au.length:Int))):
  zM 224 [wH c,zN d,iA s,vQ ⟨0,k,pa⟩,iA f3] [] (hT (wN d r) (jD 10 a) (-1) 0) []:=by
 subst hk u;have A:=dI 10;have z:=FX 10 a;have B:=zA bA d.au;unfold jD zX at z;rw[show zX ⟨10,tk0,[a],[]⟩= .agg [iA 10,zE yA tk0,.sl false [iA a],.sl false []]from Z]at k2 k3;unfold uR at k3;unfold wN wH hT zN xD vQ jD zX;by_cases h2:0<=s
 .have C:(d.au.length:Int)<=s:=by omega
  refine eM call224 λF hF=>?_
  exact mt (cL A k2 k3 z)
 ·(refine eM call224 λF hF=>?_)
  exact mt (cL A k2 k3 z)
end
