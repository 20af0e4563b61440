/- Part 16. -/
import Derived.Test.YtaglbcjljlkjcaaGreatW15
namespace Go.Proofs.YtaglbcjljlkjcaaGreat.Av
open Tryz
set_option linter.all false
set_option maxRecDepth 4000
set_option maxHeartbeats 4000000
def Cd (d:wC) (m:Ms) (z:Rg) (u:Bool) (e:Int):wC:=if e=0 then⟨z,(if m.kind=5 then TG d.rq (m.args.getD 0 0)else d.rq),(if u=true then d.dr.drop 1 else d.dr),d.au⟩else d
def LF (d:wC):List Int:=d.dr.headD []
def A4 (d:wC) (m:Ms) (A f3:Int) (hv:cJ d.rq) (S:d.dr.length<=1000) (R:Rg) (p:Ms) (u:Bool) (e:Int)
  (z:zN 307 [uQ d.rg,zW m,iA A,iA f3,zE yA (LF d)] [] (.tup [uQ R,zW p,bA u,iA e]) []) (E:m.kind=5->∃a,m.args=[a]):
  zN 269 [zM d,zW m,iA A,iA f3] [] (.tup [zM (Cd d m R u e),zW (if e=0 then p else OH),iA e]) []:=by
 unfold Cd;obtain⟨rg,L,I,Y⟩:=d;obtain⟨k,V,W,da⟩:=m;unfold LF at z;dsimp only at *;have M:(I.map qQ).length=I.length:=zA qQ I
 cases I with
 | nil=>
  rw[List.headD_nil]at z;by_cases C:e=0
  .subst C;rw[f5 Z,f5 Z];by_cases hk:k=5
   .subst hk;obtain⟨a,rfl⟩:=E Z;have O:=JW L a hv;rw[f5 Z,show([a]:List Int).getD 0 0=a from Z];generalize TG L a=U at *;unfold uQ zW at z;unfold zM xD zW;cases u
    all_goals
     (refine eM call269 λF hF=>?_)
     exact mx (xV z O)
   .rw[Os hk];clear E;unfold uQ zW at z;unfold zM xD zW;cases u
    all_goals
     (refine eM call269 λF hF=>?_)
     exact ng z
  .rw[Os C,Os C];clear E;unfold uQ zW at z;unfold zM xD zW OH;refine eM call269 λF hF=>?_
   exact ng z
 | cons b G=>
  rw[List.headD_cons]at z;have M:(qQ b::G.map qQ).length=G.length+1:=by rw[zA6,zAr]
  rw[zA6]at S;have B:zE qQ (b::G)= .sl false (qQ b::G.map qQ):=rfl;by_cases C:e=0
  .subst C;rw[f5 Z,f5 Z];by_cases hk:k=5
   .subst hk;obtain⟨a,rfl⟩:=E Z;have O:=JW L a hv;rw[f5 Z,show([a]:List Int).getD 0 0=a from Z];generalize TG L a=U at *;unfold uQ zW at z;unfold zM xD zW;rw[B];cases u
    all_goals
     (refine eM call269 λF hF=>?_)
     exact mx (xV z O)
   .rw[Os hk];clear E;unfold uQ zW at z;unfold zM xD zW;rw[B];cases u
    all_goals
     (refine eM call269 λF hF=>?_)
     exact ng z
  .rw[Os C,Os C];clear E;unfold uQ zW at z;unfold zM xD zW OH;rw[B];refine eM call269 λF hF=>?_
   exact ng z
def Sw (d:wC) (m:Ms) (A f3:Int) (hv:cJ d.rq) (V:d.dr.length<=1000) (U:Rg) (p:Ms) (u:Bool) (e:Int)
  (z:zN 289 [uQ d.rg,zW m,iA A,iA f3,zE yA (LF d)] [] (.tup [uQ U,zW p,bA u,iA e]) []) (C:m.kind=5->∃a,m.args=[a]) (S:u=true->d.dr≠[]):
  zN 242 [zM d,zW m,iA A,iA f3] [] (.tup [zM (Cd d m U u e),zW p,iA e]) []:=by
 unfold Cd;obtain⟨rg,L,I,au⟩:=d;obtain⟨k,Y,ar,da⟩:=m;unfold LF at z;dsimp only at *;have M:(I.map qQ).length=I.length:=zA qQ I
 cases I with
 | nil=>
  have O:u=false:=by
   cases u with
   |false=>rfl
   |true=>exact absurd Z (S Z)
  subst O;rw[List.headD_nil]at z;by_cases E:e=0
  .subst E;rw[f5 Z];by_cases hk:k=5
   .subst hk;obtain⟨a,rfl⟩:=C Z;have R:=ME L a hv;rw[f5 Z,show([a]:List Int).getD 0 0=a from Z];generalize TG L a=W at *;unfold uQ zW at z;unfold zM xD zW;refine eM call242 λF hF=>?_
    exact mx (xV z R)
   .rw[Os hk];clear C;unfold uQ zW at z;unfold zM xD zW;refine eM call242 λF hF=>?_
    exact ng z
  .rw[Os E];clear C;unfold uQ zW at z;unfold zM xD zW;refine eM call242 λF hF=>?_
   exact ng z
 | cons b G=>
  clear S;rw[List.headD_cons]at z;have M:(qQ b::G.map qQ).length=G.length+1:=by rw[zA6,zAr]
  rw[zA6]at V;have B:zE qQ (b::G)= .sl false (qQ b::G.map qQ):=rfl;by_cases E:e=0
  .subst E;rw[f5 Z];by_cases hk:k=5
   .subst hk;obtain⟨a,rfl⟩:=C Z;have R:=ME L a hv;rw[f5 Z,show([a]:List Int).getD 0 0=a from Z];generalize TG L a=W at *;unfold uQ zW at z;unfold zM xD zW;rw[B];cases u
    all_goals
     (refine eM call242 λF hF=>?_)
     exact mx (xV z R)
   .rw[Os hk];clear C;unfold uQ zW at z;unfold zM xD zW;rw[B];cases u
    all_goals
     (refine eM call242 λF hF=>?_)
     exact ng z
  .rw[Os E];clear C;unfold uQ zW at z;unfold zM xD zW;rw[B];refine eM call242 λF hF=>?_
   exact ng z
structure It where
 code:Int
 kind:Int
 pay:List Int
def vH (i:It):AV:= .agg [iA i.code,iA i.kind,zE yA i.pay]
def hT (d:wC) (p:Ms) (k e:Int):AV:= .tup [zM d,zW p,iA k,iA e]
def Rw (c:Cf) (d:wC) (s f3:Int) (i:It) (hc:i.code≠0):zN 224 [wE c,zM d,iA s,vH i,iA f3] [] (hT d OH (-1) i.code) []:=by
 unfold wE hT zM xD vH zW OH;refine eM call224 λF hF=>?_
 exact ly
def Qw (c:Cf) (d:wC) (s f3:Int) (i:It) (hc:i.code=0) (hk:¬(1<=i.kind/\i.kind<=12)):zN 224 [wE c,zM d,iA s,vH i,iA f3] [] (hT d OH (-1) 5) []:=by
 have u:=dF i.kind;rw[zAs hk]at u;obtain⟨z,A,B⟩:=i;dsimp only at *;subst hc;unfold wE hT zM xD vH zW OH;refine eM call224 λF hF=>?_
 exact ng u
def Ow (c:Cf) (d:wC) (s f3 k:Int) (u:List Int) (B:1<=k) (h1:k<=12) (A:zN 267 [iA k,zE yA u] [] (B5 k (u.take 10) none) []):zN 224 [wE c,zM d,iA s,vH ⟨0,k,u⟩,iA f3] [] (hT d OH (-1) 6) []:=by
 have z:=dF k;rw[zAu ⟨B,h1⟩]at z;unfold B5 zW at A;unfold wE hT zM xD vH zW OH;refine eM call224 λF hF=>?_
 exact mx (xV z A)
def Nw (c:Cf) (d:wC) (s f3 k:Int) (E u A:List Int) (G:1<=k) (h1:k<=12) (C:zN 267 [iA k,zE yA E] [] (.tup [zW ⟨k,u,A,[]⟩,iA 0]) []) (r:Rg) (I e:Int) (L:e≠0)
  (z:zN 268 [uQ d.rg,zW ⟨k,u,A,[]⟩,iA f3] [] (.tup [uQ r,iA I,iA e]) []):zN 224 [wE c,zM d,iA s,vH ⟨0,k,E⟩,iA f3] [] (hT d OH (-1) e) []:=by
 have B:=dF k;rw[zAu ⟨G,h1⟩]at B;unfold zW at C z;unfold uQ at z;unfold wE hT zM xD vH zW OH;refine eM call224 λF hF=>?_
 exact mx (qM B C z)
def wL (d:wC) (r:Rg):wC:=⟨r,d.rq,d.dr,d.au⟩
section
variable (c:Cf) (d:wC) (s f3 k:Int) (pa tk0 ar:List Int) (h0:1<=k) (h1:k<=12) (k2:zN 267 [iA k,zE yA pa] [] (.tup [zW ⟨k,tk0,ar,[]⟩,iA 0]) []) (r:Rg) (sl:Int)
 (k3:zN 268 [uQ d.rg,zW ⟨k,tk0,ar,[]⟩,iA f3] [] (.tup [uQ r,iA sl,iA 0]) [])
include h0 h1 k2 k3
def v5 (hk:k=2\/k=3\/k=4\/k=5) (z:wC) (p:Ms) (e:Int) (u:zN 269 [zM (wL d r),zW ⟨k,tk0,ar,[]⟩,iA sl,iA f3] [] (.tup [zM z,zW p,iA e]) []):
  zN 224 [wE c,zM d,iA s,vH ⟨0,k,pa⟩,iA f3] [] (hT z p (-1) e) []:=by
 have A:=dF k;rw[zAu ⟨h0,h1⟩]at A;unfold zW at k2 k3 u;unfold uQ at k3;unfold wL zM xD at u;unfold wE hT zM xD vH zW
 rcases hk with rfl|rfl|rfl|rfl
 all_goals
  refine eM call224 λF hF=>?_
  exact mx (cD A k2 k3 u)
def FY (hk:k=6\/k=7\/k=8) (l:List Rq) (e:Int) (A:e≠0) (u:zN 270 [wE c,zM (wL d r),zW ⟨k,tk0,ar,[]⟩,iA sl,iA f3] [] (.tup [zE zY l,iA e]) []):
  zN 224 [wE c,zM d,iA s,vH ⟨0,k,pa⟩,iA f3] [] (hT (wL d r) OH (-1) e) []:=by
 have z:=dF k;rw[zAu ⟨h0,h1⟩]at z;unfold zW at k2 k3 u;unfold uQ at k3;unfold wL wE zM xD at u;unfold wL wE hT zM xD vH zW OH
 rcases hk with rfl|rfl|rfl
 all_goals
  refine eM call224 λF hF=>?_
  exact mx (cD z k2 k3 u)
def FZ (hk:k=6\/k=7\/k=8) (a:Int) (u:List Int) (z:ar=a::u) (l:List Rq) (B:zN 270 [wE c,zM (wL d r),zW ⟨k,tk0,ar,[]⟩,iA sl,iA f3] [] (.tup [zE zY l,iA 0]) []):
  zN 224 [wE c,zM d,iA s,vH ⟨0,k,pa⟩,iA f3] [] (hT (Ef (wL d r) l) (jD k a) (-1) 0) []:=by
 subst z;have C:=dF k;have E:=FG k a;rw[zAu ⟨h0,h1⟩]at C;unfold jD zW at E;rw[show zW ⟨k,tk0,a::u,[]⟩= .agg [iA k,zE yA tk0,.sl false (iA a::u.map iA),.sl false []]from Z]at k2 k3 B;generalize u.map iA=A at *;unfold uQ at k3;unfold wL wE zM xD at B;unfold Ef wL wE hT zM xD vH jD zW
 rcases hk with rfl|rfl|rfl
 all_goals
  refine eM call224 λF hF=>?_
  exact mx (MG C k2 k3 B E)
def EA (hk:k=1\/k=9\/k=12) (p:Ms) (u:zN 272 [zM (wL d r),iA k,iA f3] [] (zW p) []):
  zN 224 [wE c,zM d,iA s,vH ⟨0,k,pa⟩,iA f3] [] (hT (wL d r) p (-1) 0) []:=by
 have z:=dF k;rw[zAu ⟨h0,h1⟩]at z;unfold zW at k2 k3 u;unfold uQ at k3;unfold wL zM xD at u;unfold wL wE hT zM xD vH zW
 rcases hk with rfl|rfl|rfl
 all_goals
  refine eM call224 λF hF=>?_
  exact mx (cD z k2 k3 u)
theorem Mw (hk:k=11) (a:Int) (u:ar=[a]) (B:(c.js.length:Int)<=a):
  zN 224 [wE c,zM d,iA s,vH ⟨0,k,pa⟩,iA f3] [] (hT (wL d r) OH (-1) 8) []:=by
 subst hk u;have A:=dF 11;have z:=zA wJ c.js;rw[show zW ⟨11,tk0,[a],[]⟩= .agg [iA 11,zE yA tk0,.sl false [iA a],.sl false []]from Z]at k2 k3;unfold uQ at k3;unfold wL wE hT zM xD vH OH zW;refine eM call224 λF hF=>?_
 exact mx (qM A k2 k3)
theorem Lw (hk:k=11) (a:Int) (u:ar=[a]) (C:a<(c.js.length:Int)):
  zN 224 [wE c,zM d,iA s,vH ⟨0,k,pa⟩,iA f3] [] (hT (wL d r) (jD 11 a) a 0) []:=by
 subst hk u;have B:=dF 11;have z:=FG 11 a;have A:=zA wJ c.js;unfold jD zW at z;rw[show zW ⟨11,tk0,[a],[]⟩= .agg [iA 11,zE yA tk0,.sl false [iA a],.sl false []]from Z]at k2 k3;unfold uQ at k3;unfold wL wE hT zM xD vH jD zW;refine eM call224 λF hF=>?_
 exact mx (cD B k2 k3 z)
theorem Kw (hk:k=10) (a:Int) (u:ar=[a]) (A:1<a):
  zN 224 [wE c,zM d,iA s,vH ⟨0,k,pa⟩,iA f3] [] (hT (wL d r) OH (-1) 8) []:=by
 subst hk u;have z:=dF 10;rw[show zW ⟨10,tk0,[a],[]⟩= .agg [iA 10,zE yA tk0,.sl false [iA a],.sl false []]from Z]at k2 k3;unfold uQ at k3;unfold wL wE hT zM xD vH OH zW;refine eM call224 λF hF=>?_
 exact mx (qM z k2 k3)
theorem Jw (hk:k=10) (a:Int) (u:ar=[a]) (E:a<=1) (G:¬(0<=s/\s<(d.au.length:Int))):
  zN 224 [wE c,zM d,iA s,vH ⟨0,k,pa⟩,iA f3] [] (hT (wL d r) (jD 10 a) (-1) 0) []:=by
 subst hk u;have A:=dF 10;have z:=FG 10 a;have B:=zA bA d.au;unfold jD zW at z;rw[show zW ⟨10,tk0,[a],[]⟩= .agg [iA 10,zE yA tk0,.sl false [iA a],.sl false []]from Z]at k2 k3;unfold uQ at k3;unfold wL wE hT zM xD vH jD zW;by_cases h2:0<=s
 .have C:(d.au.length:Int)<=s:=by omega
  refine eM call224 λF hF=>?_
  exact mx (cD A k2 k3 z)
 ·(refine eM call224 λF hF=>?_)
  exact mx (cD A k2 k3 z)
end
