/- Part 16. -/
import Derived.Test.YtaglbcjljlkjcaaGreatX15
namespace Go.Proofs.YtaglbcjljlkjcaaGreat.Av
open Tryz
set_option linter.all false
set_option maxRecDepth 4000
set_option maxHeartbeats 4000000
def fe (d:wE) (m:Ms) (z:Rg) (u:Bool) (e:Int):wE:=if e=0 then⟨z,(if m.kind=5 then TO d.rq (m.args.getD 0 0)else d.rq),(if u=true then d.dr.drop 1 else d.dr),d.au⟩else d
def LR (d:wE):List Int:=d.dr.headD []
def M5 (d:wE) (m:Ms) (A f3:Int) (hv:cN d.rq) (S:d.dr.length<=1000) (R:Rg) (p:Ms) (u:Bool) (e:Int)
  (z:zO 307 [uR d.rg,zX m,iA A,iA f3,zE yA (LR d)] [] (.tup [uR R,zX p,bA u,iA e]) []) (E:m.kind=5->∃a,m.args=[a]):
  zO 269 [zM d,zX m,iA A,iA f3] [] (.tup [zM (fe d m R u e),zX (if e=0 then p else OR),iA e]) []:=by
 unfold fe;obtain⟨rg,L,I,Y⟩:=d;obtain⟨k,V,W,da⟩:=m;unfold LR at z;dsimp only at *;have M:(I.map qO).length=I.length:=zA qO I
 cases I with
 | nil=>
  rw[List.headD_nil]at z;by_cases C:e=0
  .subst C;rw[zA5 Z,zA5 Z];by_cases hk:k=5
   .subst hk;obtain⟨a,rfl⟩:=E Z;have O:=IR L a hv;rw[zA5 Z,show([a]:List Int).getD 0 0=a from Z];generalize TO L a=U at *;unfold uR zX at z;unfold zM xD zX;cases u
    all_goals
     (refine eM call269 λF hF=>?_)
     exact mx (xW z O)
   .rw[Os hk];clear E;unfold uR zX at z;unfold zM xD zX;cases u
    all_goals
     (refine eM call269 λF hF=>?_)
     exact ng z
  .rw[Os C,Os C];clear E;unfold uR zX at z;unfold zM xD zX OR;refine eM call269 λF hF=>?_
   exact ng z
 | cons b G=>
  rw[List.headD_cons]at z;have M:(qO b::G.map qO).length=G.length+1:=by rw[zBl,zA6]
  rw[zBl]at S;have B:zE qO (b::G)= .sl false (qO b::G.map qO):=rfl;by_cases C:e=0
  .subst C;rw[zA5 Z,zA5 Z];by_cases hk:k=5
   .subst hk;obtain⟨a,rfl⟩:=E Z;have O:=IR L a hv;rw[zA5 Z,show([a]:List Int).getD 0 0=a from Z];generalize TO L a=U at *;unfold uR zX at z;unfold zM xD zX;rw[B];cases u
    all_goals
     (refine eM call269 λF hF=>?_)
     exact mx (xW z O)
   .rw[Os hk];clear E;unfold uR zX at z;unfold zM xD zX;rw[B];cases u
    all_goals
     (refine eM call269 λF hF=>?_)
     exact ng z
  .rw[Os C,Os C];clear E;unfold uR zX at z;unfold zM xD zX OR;rw[B];refine eM call269 λF hF=>?_
   exact ng z
def Ew (d:wE) (m:Ms) (A f3:Int) (hv:cN d.rq) (V:d.dr.length<=1000) (U:Rg) (p:Ms) (u:Bool) (e:Int)
  (z:zO 289 [uR d.rg,zX m,iA A,iA f3,zE yA (LR d)] [] (.tup [uR U,zX p,bA u,iA e]) []) (C:m.kind=5->∃a,m.args=[a]) (S:u=true->d.dr≠[]):
  zO 242 [zM d,zX m,iA A,iA f3] [] (.tup [zM (fe d m U u e),zX p,iA e]) []:=by
 unfold fe;obtain⟨rg,L,I,au⟩:=d;obtain⟨k,Y,ar,da⟩:=m;unfold LR at z;dsimp only at *;have M:(I.map qO).length=I.length:=zA qO I
 cases I with
 | nil=>
  have O:u=false:=by
   cases u with
   |false=>rfl
   |true=>exact absurd Z (S Z)
  subst O;rw[List.headD_nil]at z;by_cases E:e=0
  .subst E;rw[zA5 Z];by_cases hk:k=5
   .subst hk;obtain⟨a,rfl⟩:=C Z;have R:=MZ L a hv;rw[zA5 Z,show([a]:List Int).getD 0 0=a from Z];generalize TO L a=W at *;unfold uR zX at z;unfold zM xD zX;refine eM call242 λF hF=>?_
    exact mx (xW z R)
   .rw[Os hk];clear C;unfold uR zX at z;unfold zM xD zX;refine eM call242 λF hF=>?_
    exact ng z
  .rw[Os E];clear C;unfold uR zX at z;unfold zM xD zX;refine eM call242 λF hF=>?_
   exact ng z
 | cons b G=>
  clear S;rw[List.headD_cons]at z;have M:(qO b::G.map qO).length=G.length+1:=by rw[zBl,zA6]
  rw[zBl]at V;have B:zE qO (b::G)= .sl false (qO b::G.map qO):=rfl;by_cases E:e=0
  .subst E;rw[zA5 Z];by_cases hk:k=5
   .subst hk;obtain⟨a,rfl⟩:=C Z;have R:=MZ L a hv;rw[zA5 Z,show([a]:List Int).getD 0 0=a from Z];generalize TO L a=W at *;unfold uR zX at z;unfold zM xD zX;rw[B];cases u
    all_goals
     (refine eM call242 λF hF=>?_)
     exact mx (xW z R)
   .rw[Os hk];clear C;unfold uR zX at z;unfold zM xD zX;rw[B];cases u
    all_goals
     (refine eM call242 λF hF=>?_)
     exact ng z
  .rw[Os E];clear C;unfold uR zX at z;unfold zM xD zX;rw[B];refine eM call242 λF hF=>?_
   exact ng z
structure It where
 code:Int
 kind:Int
 pay:List Int
def vE (i:It):AV:= .agg [iA i.code,iA i.kind,zE yA i.pay]
def hT (d:wE) (p:Ms) (k e:Int):AV:= .tup [zM d,zX p,iA k,iA e]
def Dw (c:Cf) (d:wE) (s f3:Int) (i:It) (hc:i.code≠0):zO 224 [wD c,zM d,iA s,vE i,iA f3] [] (hT d OR (-1) i.code) []:=by
 unfold wD hT zM xD vE zX OR;refine eM call224 λF hF=>?_
 exact ly
def Cw (c:Cf) (d:wE) (s f3:Int) (i:It) (hc:i.code=0) (hk:¬(1<=i.kind/\i.kind<=12)):zO 224 [wD c,zM d,iA s,vE i,iA f3] [] (hT d OR (-1) 5) []:=by
 have u:=dI i.kind;rw[zA7 hk]at u;obtain⟨z,A,B⟩:=i;dsimp only at *;subst hc;unfold wD hT zM xD vE zX OR;refine eM call224 λF hF=>?_
 exact ng u
def Bw (c:Cf) (d:wE) (s f3 k:Int) (u:List Int) (B:1<=k) (h1:k<=12) (A:zO 267 [iA k,zE yA u] [] (T6 k (u.take 10) none) []):zO 224 [wD c,zM d,iA s,vE ⟨0,k,u⟩,iA f3] [] (hT d OR (-1) 6) []:=by
 have z:=dI k;rw[zA9 ⟨B,h1⟩]at z;unfold T6 zX at A;unfold wD hT zM xD vE zX OR;refine eM call224 λF hF=>?_
 exact mx (xW z A)
def Aw (c:Cf) (d:wE) (s f3 k:Int) (E u A:List Int) (G:1<=k) (h1:k<=12) (C:zO 267 [iA k,zE yA E] [] (.tup [zX ⟨k,u,A,[]⟩,iA 0]) []) (r:Rg) (I e:Int) (L:e≠0)
  (z:zO 268 [uR d.rg,zX ⟨k,u,A,[]⟩,iA f3] [] (.tup [uR r,iA I,iA e]) []):zO 224 [wD c,zM d,iA s,vE ⟨0,k,E⟩,iA f3] [] (hT d OR (-1) e) []:=by
 have B:=dI k;rw[zA9 ⟨G,h1⟩]at B;unfold zX at C z;unfold uR at z;unfold wD hT zM xD vE zX OR;refine eM call224 λF hF=>?_
 exact mx (qM B C z)
def wM (d:wE) (r:Rg):wE:=⟨r,d.rq,d.dr,d.au⟩
section
variable (c:Cf) (d:wE) (s f3 k:Int) (pa tk0 ar:List Int) (h0:1<=k) (h1:k<=12) (k2:zO 267 [iA k,zE yA pa] [] (.tup [zX ⟨k,tk0,ar,[]⟩,iA 0]) []) (r:Rg) (sl:Int)
 (k3:zO 268 [uR d.rg,zX ⟨k,tk0,ar,[]⟩,iA f3] [] (.tup [uR r,iA sl,iA 0]) [])
include h0 h1 k2 k3
def L5 (hk:k=2\/k=3\/k=4\/k=5) (z:wE) (p:Ms) (e:Int) (u:zO 269 [zM (wM d r),zX ⟨k,tk0,ar,[]⟩,iA sl,iA f3] [] (.tup [zM z,zX p,iA e]) []):
  zO 224 [wD c,zM d,iA s,vE ⟨0,k,pa⟩,iA f3] [] (hT z p (-1) e) []:=by
 have A:=dI k;rw[zA9 ⟨h0,h1⟩]at A;unfold zX at k2 k3 u;unfold uR at k3;unfold wM zM xD at u;unfold wD hT zM xD vE zX
 rcases hk with rfl|rfl|rfl|rfl
 all_goals
  refine eM call224 λF hF=>?_
  exact mx (cM A k2 k3 u)
def ER (hk:k=6\/k=7\/k=8) (l:List Rq) (e:Int) (A:e≠0) (u:zO 270 [wD c,zM (wM d r),zX ⟨k,tk0,ar,[]⟩,iA sl,iA f3] [] (.tup [zE zY l,iA e]) []):
  zO 224 [wD c,zM d,iA s,vE ⟨0,k,pa⟩,iA f3] [] (hT (wM d r) OR (-1) e) []:=by
 have z:=dI k;rw[zA9 ⟨h0,h1⟩]at z;unfold zX at k2 k3 u;unfold uR at k3;unfold wM wD zM xD at u;unfold wM wD hT zM xD vE zX OR
 rcases hk with rfl|rfl|rfl
 all_goals
  refine eM call224 λF hF=>?_
  exact mx (cM z k2 k3 u)
def ES (hk:k=6\/k=7\/k=8) (a:Int) (u:List Int) (z:ar=a::u) (l:List Rq) (B:zO 270 [wD c,zM (wM d r),zX ⟨k,tk0,ar,[]⟩,iA sl,iA f3] [] (.tup [zE zY l,iA 0]) []):
  zO 224 [wD c,zM d,iA s,vE ⟨0,k,pa⟩,iA f3] [] (hT (mg (wM d r) l) (jD k a) (-1) 0) []:=by
 subst z;have C:=dI k;have E:=EG k a;rw[zA9 ⟨h0,h1⟩]at C;unfold jD zX at E;rw[show zX ⟨k,tk0,a::u,[]⟩= .agg [iA k,zE yA tk0,.sl false (iA a::u.map iA),.sl false []]from Z]at k2 k3 B;generalize u.map iA=A at *;unfold uR at k3;unfold wM wD zM xD at B;unfold mg wM wD hT zM xD vE jD zX
 rcases hk with rfl|rfl|rfl
 all_goals
  refine eM call224 λF hF=>?_
  exact mx (NV C k2 k3 B E)
def ET (hk:k=1\/k=9\/k=12) (p:Ms) (u:zO 272 [zM (wM d r),iA k,iA f3] [] (zX p) []):
  zO 224 [wD c,zM d,iA s,vE ⟨0,k,pa⟩,iA f3] [] (hT (wM d r) p (-1) 0) []:=by
 have z:=dI k;rw[zA9 ⟨h0,h1⟩]at z;unfold zX at k2 k3 u;unfold uR at k3;unfold wM zM xD at u;unfold wM wD hT zM xD vE zX
 rcases hk with rfl|rfl|rfl
 all_goals
  refine eM call224 λF hF=>?_
  exact mx (cM z k2 k3 u)
theorem zx (hk:k=11) (a:Int) (u:ar=[a]) (B:(c.js.length:Int)<=a):
  zO 224 [wD c,zM d,iA s,vE ⟨0,k,pa⟩,iA f3] [] (hT (wM d r) OR (-1) 8) []:=by
 subst hk u;have A:=dI 11;have z:=zA wK c.js;rw[show zX ⟨11,tk0,[a],[]⟩= .agg [iA 11,zE yA tk0,.sl false [iA a],.sl false []]from Z]at k2 k3;unfold uR at k3;unfold wM wD hT zM xD vE OR zX;refine eM call224 λF hF=>?_
 exact mx (qM A k2 k3)
theorem yx (hk:k=11) (a:Int) (u:ar=[a]) (C:a<(c.js.length:Int)):
  zO 224 [wD c,zM d,iA s,vE ⟨0,k,pa⟩,iA f3] [] (hT (wM d r) (jD 11 a) a 0) []:=by
 subst hk u;have B:=dI 11;have z:=EG 11 a;have A:=zA wK c.js;unfold jD zX at z;rw[show zX ⟨11,tk0,[a],[]⟩= .agg [iA 11,zE yA tk0,.sl false [iA a],.sl false []]from Z]at k2 k3;unfold uR at k3;unfold wM wD hT zM xD vE jD zX;refine eM call224 λF hF=>?_
 exact mx (cM B k2 k3 z)
theorem xx (hk:k=10) (a:Int) (u:ar=[a]) (A:1<a):
  zO 224 [wD c,zM d,iA s,vE ⟨0,k,pa⟩,iA f3] [] (hT (wM d r) OR (-1) 8) []:=by
 subst hk u;have z:=dI 10;rw[show zX ⟨10,tk0,[a],[]⟩= .agg [iA 10,zE yA tk0,.sl false [iA a],.sl false []]from Z]at k2 k3;unfold uR at k3;unfold wM wD hT zM xD vE OR zX;refine eM call224 λF hF=>?_
 exact mx (qM z k2 k3)
theorem wx (hk:k=10) (a:Int) (u:ar=[a]) (E:a<=1) (G:¬(0<=s/\s<(d.au.length:Int))):
  zO 224 [wD c,zM d,iA s,vE ⟨0,k,pa⟩,iA f3] [] (hT (wM d r) (jD 10 a) (-1) 0) []:=by
 subst hk u;have A:=dI 10;have z:=EG 10 a;have B:=zA bA d.au;unfold jD zX at z;rw[show zX ⟨10,tk0,[a],[]⟩= .agg [iA 10,zE yA tk0,.sl false [iA a],.sl false []]from Z]at k2 k3;unfold uR at k3;unfold wM wD hT zM xD vE jD zX;by_cases h2:0<=s
 .have C:(d.au.length:Int)<=s:=by omega
  refine eM call224 λF hF=>?_
  exact mx (cM A k2 k3 z)
 ·(refine eM call224 λF hF=>?_)
  exact mx (cM A k2 k3 z)
end
