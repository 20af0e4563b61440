/- Part 16. -/
import Derived.Test.YtaglbcjljlkjcaaGreatU15
namespace Go.Proofs.YtaglbcjljlkjcaaGreat.Av
open Tryz
set_option linter.all false
set_option maxRecDepth 4000
set_option maxHeartbeats 4000000
def Dd (d:wC) (m:Ms) (z:Rg) (u:Bool) (e:Int):wC:=if e=0 then⟨z,(if m.kind=5 then TG d.rq (m.args.getD 0 0)else d.rq),(if u=true then d.dr.drop 1 else d.dr),d.au⟩else d
def LM (d:wC):List Int:=d.dr.headD []
def v5 (d:wC) (m:Ms) (A f4:Int) (hv:cJ d.rq) (U:d.dr.length<=1000) (S:Rg) (p:Ms) (u:Bool) (e:Int)
  (z:zN 307 [uQ d.rg,zX m,iA A,iA f4,zE yA (LM d)] [] (.tup [uQ S,zX p,bA u,iA e]) []) (E:m.kind=5->∃a,m.args=[a]):
  zN 269 [zM d,zX m,iA A,iA f4] [] (.tup [zM (Dd d m S u e),zX (if e=0 then p else OL),iA e]) []:=by
 unfold Dd;obtain⟨rg,L,I,au⟩:=d;obtain⟨k,W,Y,da⟩:=m;unfold LM at z;dsimp only at *;have M:(I.map qO).length=I.length:=zA qO I
 cases I with
 | nil=>
  rw[List.headD_nil]at z;by_cases C:e=0
  .subst C;rw[zAs Z,zAs Z];by_cases hk:k=5
   .subst hk;obtain⟨a,rfl⟩:=E Z;have O:=ID L a hv;rw[zAs Z,show([a]:List Int).getD 0 0=a from Z];generalize TG L a=V at *;unfold uQ zX at z;unfold zM xD zX;cases u
    all_goals
     (refine eM call269 λF hF=>?_)
     exact ng (xQ z O)
   .rw[Os hk];clear E;unfold uQ zX at z;unfold zM xD zX;cases u
    all_goals
     (refine eM call269 λF hF=>?_)
     exact nl z
  .rw[Os C,Os C];clear E;unfold uQ zX at z;unfold zM xD zX OL;refine eM call269 λF hF=>?_
   exact nl z
 | cons b G=>
  rw[List.headD_cons]at z;have M:(qO b::G.map qO).length=G.length+1:=by rw[zA8,zAt]
  rw[zA8]at U;have B:zE qO (b::G)= .sl false (qO b::G.map qO):=rfl;by_cases C:e=0
  .subst C;rw[zAs Z,zAs Z];by_cases hk:k=5
   .subst hk;obtain⟨a,rfl⟩:=E Z;have O:=ID L a hv;rw[zAs Z,show([a]:List Int).getD 0 0=a from Z];generalize TG L a=V at *;unfold uQ zX at z;unfold zM xD zX;rw[B];cases u
    all_goals
     (refine eM call269 λF hF=>?_)
     exact ng (xQ z O)
   .rw[Os hk];clear E;unfold uQ zX at z;unfold zM xD zX;rw[B];cases u
    all_goals
     (refine eM call269 λF hF=>?_)
     exact nl z
  .rw[Os C,Os C];clear E;unfold uQ zX at z;unfold zM xD zX OL;rw[B];refine eM call269 λF hF=>?_
   exact nl z
def Sw (d:wC) (m:Ms) (A f4:Int) (hv:cJ d.rq) (W:d.dr.length<=1000) (V:Rg) (p:Ms) (u:Bool) (e:Int)
  (z:zN 289 [uQ d.rg,zX m,iA A,iA f4,zE yA (LM d)] [] (.tup [uQ V,zX p,bA u,iA e]) []) (C:m.kind=5->∃a,m.args=[a]) (U:u=true->d.dr≠[]):
  zN 242 [zM d,zX m,iA A,iA f4] [] (.tup [zM (Dd d m V u e),zX p,iA e]) []:=by
 unfold Dd;obtain⟨rg,L,I,au⟩:=d;obtain⟨k,ac,ar,da⟩:=m;unfold LM at z;dsimp only at *;have M:(I.map qO).length=I.length:=zA qO I
 cases I with
 | nil=>
  have O:u=false:=by
   cases u with
   |false=>rfl
   |true=>exact absurd Z (U Z)
  subst O;rw[List.headD_nil]at z;by_cases E:e=0
  .subst E;rw[zAs Z];by_cases hk:k=5
   .subst hk;obtain⟨a,rfl⟩:=C Z;have S:=MM L a hv;rw[zAs Z,show([a]:List Int).getD 0 0=a from Z];generalize TG L a=Y at *;unfold uQ zX at z;unfold zM xD zX;refine eM call242 λF hF=>?_
    exact ng (xQ z S)
   .rw[Os hk];clear C;unfold uQ zX at z;unfold zM xD zX;refine eM call242 λF hF=>?_
    exact nl z
  .rw[Os E];clear C;unfold uQ zX at z;unfold zM xD zX;refine eM call242 λF hF=>?_
   exact nl z
 | cons b G=>
  clear U;rw[List.headD_cons]at z;have M:(qO b::G.map qO).length=G.length+1:=by rw[zA8,zAt]
  rw[zA8]at W;have B:zE qO (b::G)= .sl false (qO b::G.map qO):=rfl;by_cases E:e=0
  .subst E;rw[zAs Z];by_cases hk:k=5
   .subst hk;obtain⟨a,rfl⟩:=C Z;have S:=MM L a hv;rw[zAs Z,show([a]:List Int).getD 0 0=a from Z];generalize TG L a=Y at *;unfold uQ zX at z;unfold zM xD zX;rw[B];cases u
    all_goals
     (refine eM call242 λF hF=>?_)
     exact ng (xQ z S)
   .rw[Os hk];clear C;unfold uQ zX at z;unfold zM xD zX;rw[B];cases u
    all_goals
     (refine eM call242 λF hF=>?_)
     exact nl z
  .rw[Os E];clear C;unfold uQ zX at z;unfold zM xD zX;rw[B];refine eM call242 λF hF=>?_
   exact nl z
structure It where
 code:Int
 kind:Int
 pay:List Int
def vO (i:It):AV:= .agg [iA i.code,iA i.kind,zE yA i.pay]
def hT (d:wC) (p:Ms) (k e:Int):AV:= .tup [zM d,zX p,iA k,iA e]
def Rw (c:Cf) (d:wC) (s f4:Int) (i:It) (hc:i.code≠0):zN 224 [wH c,zM d,iA s,vO i,iA f4] [] (hT d OL (-1) i.code) []:=by
 unfold wH hT zM xD vO zX OL;refine eM call224 λF hF=>?_
 exact mx
def Qw (c:Cf) (d:wC) (s f4:Int) (i:It) (hc:i.code=0) (hk:¬(1<=i.kind/\i.kind<=12)):zN 224 [wH c,zM d,iA s,vO i,iA f4] [] (hT d OL (-1) 5) []:=by
 have u:=dE i.kind;rw[zAu hk]at u;obtain⟨z,A,B⟩:=i;dsimp only at *;subst hc;unfold wH hT zM xD vO zX OL;refine eM call224 λF hF=>?_
 exact nl u
def Ow (c:Cf) (d:wC) (s f4 k:Int) (u:List Int) (B:1<=k) (h1:k<=12) (A:zN 267 [iA k,zE yA u] [] (B5 k (u.take 10) none) []):zN 224 [wH c,zM d,iA s,vO ⟨0,k,u⟩,iA f4] [] (hT d OL (-1) 6) []:=by
 have z:=dE k;rw[zAw ⟨B,h1⟩]at z;unfold B5 zX at A;unfold wH hT zM xD vO zX OL;refine eM call224 λF hF=>?_
 exact ng (xQ z A)
def Nw (c:Cf) (d:wC) (s f4 k:Int) (E u A:List Int) (G:1<=k) (h1:k<=12) (C:zN 267 [iA k,zE yA E] [] (.tup [zX ⟨k,u,A,[]⟩,iA 0]) []) (r:Rg) (I e:Int) (L:e≠0)
  (z:zN 268 [uQ d.rg,zX ⟨k,u,A,[]⟩,iA f4] [] (.tup [uQ r,iA I,iA e]) []):zN 224 [wH c,zM d,iA s,vO ⟨0,k,E⟩,iA f4] [] (hT d OL (-1) e) []:=by
 have B:=dE k;rw[zAw ⟨G,h1⟩]at B;unfold zX at C z;unfold uQ at z;unfold wH hT zM xD vO zX OL;refine eM call224 λF hF=>?_
 exact ng (qC B C z)
def wL (d:wC) (r:Rg):wC:=⟨r,d.rq,d.dr,d.au⟩
section
variable (c:Cf) (d:wC) (s f4 k:Int) (pa tk0 ar:List Int) (h0:1<=k) (h1:k<=12) (k2:zN 267 [iA k,zE yA pa] [] (.tup [zX ⟨k,tk0,ar,[]⟩,iA 0]) []) (r:Rg) (sl:Int)
 (k3:zN 268 [uQ d.rg,zX ⟨k,tk0,ar,[]⟩,iA f4] [] (.tup [uQ r,iA sl,iA 0]) [])
include h0 h1 k2 k3
def u5 (hk:k=2\/k=3\/k=4\/k=5) (z:wC) (p:Ms) (e:Int) (u:zN 269 [zM (wL d r),zX ⟨k,tk0,ar,[]⟩,iA sl,iA f4] [] (.tup [zM z,zX p,iA e]) []):
  zN 224 [wH c,zM d,iA s,vO ⟨0,k,pa⟩,iA f4] [] (hT z p (-1) e) []:=by
 have A:=dE k;rw[zAw ⟨h0,h1⟩]at A;unfold zX at k2 k3 u;unfold uQ at k3;unfold wL zM xD at u;unfold wH hT zM xD vO zX
 rcases hk with rfl|rfl|rfl|rfl
 all_goals
  refine eM call224 λF hF=>?_
  exact ng (cI A k2 k3 u)
def EC (hk:k=6\/k=7\/k=8) (l:List Rq) (e:Int) (A:e≠0) (u:zN 270 [wH c,zM (wL d r),zX ⟨k,tk0,ar,[]⟩,iA sl,iA f4] [] (.tup [zE zY l,iA e]) []):
  zN 224 [wH c,zM d,iA s,vO ⟨0,k,pa⟩,iA f4] [] (hT (wL d r) OL (-1) e) []:=by
 have z:=dE k;rw[zAw ⟨h0,h1⟩]at z;unfold zX at k2 k3 u;unfold uQ at k3;unfold wL wH zM xD at u;unfold wL wH hT zM xD vO zX OL
 rcases hk with rfl|rfl|rfl
 all_goals
  refine eM call224 λF hF=>?_
  exact ng (cI z k2 k3 u)
def ED (hk:k=6\/k=7\/k=8) (a:Int) (u:List Int) (z:ar=a::u) (l:List Rq) (B:zN 270 [wH c,zM (wL d r),zX ⟨k,tk0,ar,[]⟩,iA sl,iA f4] [] (.tup [zE zY l,iA 0]) []):
  zN 224 [wH c,zM d,iA s,vO ⟨0,k,pa⟩,iA f4] [] (hT (Df (wL d r) l) (jD k a) (-1) 0) []:=by
 subst z;have C:=dE k;have E:=FK k a;rw[zAw ⟨h0,h1⟩]at C;unfold jD zX at E;rw[show zX ⟨k,tk0,a::u,[]⟩= .agg [iA k,zE yA tk0,.sl false (iA a::u.map iA),.sl false []]from Z]at k2 k3 B;generalize u.map iA=A at *;unfold uQ at k3;unfold wL wH zM xD at B;unfold Df wL wH hT zM xD vO jD zX
 rcases hk with rfl|rfl|rfl
 all_goals
  refine eM call224 λF hF=>?_
  exact ng (MO C k2 k3 B E)
def EE (hk:k=1\/k=9\/k=12) (p:Ms) (u:zN 272 [zM (wL d r),iA k,iA f4] [] (zX p) []):
  zN 224 [wH c,zM d,iA s,vO ⟨0,k,pa⟩,iA f4] [] (hT (wL d r) p (-1) 0) []:=by
 have z:=dE k;rw[zAw ⟨h0,h1⟩]at z;unfold zX at k2 k3 u;unfold uQ at k3;unfold wL zM xD at u;unfold wL wH hT zM xD vO zX
 rcases hk with rfl|rfl|rfl
 all_goals
  refine eM call224 λF hF=>?_
  exact ng (cI z k2 k3 u)
theorem Mw (hk:k=11) (a:Int) (u:ar=[a]) (B:(c.js.length:Int)<=a):
  zN 224 [wH c,zM d,iA s,vO ⟨0,k,pa⟩,iA f4] [] (hT (wL d r) OL (-1) 8) []:=by
 subst hk u;have A:=dE 11;have z:=zA wD c.js;rw[show zX ⟨11,tk0,[a],[]⟩= .agg [iA 11,zE yA tk0,.sl false [iA a],.sl false []]from Z]at k2 k3;unfold uQ at k3;unfold wL wH hT zM xD vO OL zX;refine eM call224 λF hF=>?_
 exact ng (qC A k2 k3)
theorem Lw (hk:k=11) (a:Int) (u:ar=[a]) (C:a<(c.js.length:Int)):
  zN 224 [wH c,zM d,iA s,vO ⟨0,k,pa⟩,iA f4] [] (hT (wL d r) (jD 11 a) a 0) []:=by
 subst hk u;have B:=dE 11;have z:=FK 11 a;have A:=zA wD c.js;unfold jD zX at z;rw[show zX ⟨11,tk0,[a],[]⟩= .agg [iA 11,zE yA tk0,.sl false [iA a],.sl false []]from Z]at k2 k3;unfold uQ at k3;unfold wL wH hT zM xD vO jD zX;refine eM call224 λF hF=>?_
 exact ng (cI B k2 k3 z)
theorem Kw (hk:k=10) (a:Int) (u:ar=[a]) (A:1<a):
  zN 224 [wH c,zM d,iA s,vO ⟨0,k,pa⟩,iA f4] [] (hT (wL d r) OL (-1) 8) []:=by
 subst hk u;have z:=dE 10;rw[show zX ⟨10,tk0,[a],[]⟩= .agg [iA 10,zE yA tk0,.sl false [iA a],.sl false []]from Z]at k2 k3;unfold uQ at k3;unfold wL wH hT zM xD vO OL zX;refine eM call224 λF hF=>?_
 exact ng (qC z k2 k3)
theorem Jw (hk:k=10) (a:Int) (u:ar=[a]) (E:a<=1) (G:¬(0<=s/\s<(d.au.length:Int))):
  zN 224 [wH c,zM d,iA s,vO ⟨0,k,pa⟩,iA f4] [] (hT (wL d r) (jD 10 a) (-1) 0) []:=by
 subst hk u;have A:=dE 10;have z:=FK 10 a;have B:=zA bA d.au;unfold jD zX at z;rw[show zX ⟨10,tk0,[a],[]⟩= .agg [iA 10,zE yA tk0,.sl false [iA a],.sl false []]from Z]at k2 k3;unfold uQ at k3;unfold wL wH hT zM xD vO jD zX;by_cases h2:0<=s
 .have C:(d.au.length:Int)<=s:=by omega
  refine eM call224 λF hF=>?_
  exact ng (cI A k2 k3 z)
 ·(refine eM call224 λF hF=>?_)
  exact ng (cI A k2 k3 z)
end
