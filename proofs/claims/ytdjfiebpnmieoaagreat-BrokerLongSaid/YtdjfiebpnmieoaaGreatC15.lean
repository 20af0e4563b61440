/- Part 15. -/
import Derived.Test.YtdjfiebpnmieoaaGreatC14
namespace Go.Proofs.YtdjfiebpnmieoaaGreat.Av
open Tryz
set_option linter.all false
set_option maxRecDepth 4000
set_option maxHeartbeats 4000000
open List renaming length->ln
open Inhabited renaming default->dd
variable {c:Cf}{f4:Int}{a l:List Int}{d:xP}
def Oq (r:Rg) (m:Ms) (s f4:Int) (u:List Int) (z:zO 345 [qD r] [] (bA true) []) (A:zO 127 [yC m] [] (bA true) []) (B:zO 346 [zD yP r.tk,iA s] [] (bA true) []) (C:zO 213 [qD r] [] (qD r) []) (hs:(ln u:Int)=0\/(ln u:Int)=8)
  (h2:¬m.kind=2) (G:¬m.kind=3) (I:¬m.kind=4) (L:¬m.kind=5):zO 306 [qD r,yC m,iA s,iA f4,zD yA u] [] (xr 1) []:=by
 rw[fL];have E:=zA yA u
 rcases hs with hs|hs
 all_goals
  refine eM call306 λF hF=>?_
  exact ld (aB z A B C)
theorem Nq (h:ln l=1):∃a,l=[a]:=by
 match l,h with
 | [a],_=>exact⟨a,rfl⟩
theorem i9 (h:ln l=2):∃a b,l=[a,b]:=by
 match l,h with
 | [a,b],_=>exact⟨a,b,rfl⟩
theorem Z9 (h:ln l=3):∃a b c,l=[a,b,c]:=by
 match l,h with
 | [a,b,c],_=>exact⟨a,b,c,rfl⟩
def qw (r:Rg) (hv:ln r.vh<=1000) (m:Ms) (Y:M2 m) (s f4:Int) (u:List Int) (hs:ln u<=1000):VC r m s f4 u:=by
 have A:=WK r zB;have E:=ZM r zB;obtain⟨b,C,hb⟩:=dp m Y;have B:=QY r.tk s
 cases O:sp r with
 |false=>
  rw[O]at A E;exact .bad 1 yX (SU r m s f4 u false b _ A C B (.inl Z) hs) (wr r m s f4 u E)
 |true=>
 have H:=yr O;rw[O]at A E;by_cases hk:m.kind=2\/m.kind=3\/m.kind=4\/m.kind=5
 case neg=>
  have h2:¬m.kind=2:=λh=>hk (.inl h)
  have U:¬m.kind=3:=λh=>hk (.inr (.inl h))
  have V:¬m.kind=4:=λh=>hk (.inr (.inr (.inl h)))
  have W:¬m.kind=5:=λh=>hk (.inr (.inr (.inr h)))
  refine .bad 1 yX ?_ (vr r m s f4 u E h2 U V W)
  cases b with
  |false=>exact SU r m s f4 u true false _ A C B (.inr (.inl Z)) hs
  |true=>
  cases G:gU r.tk s with
  |false=>exact SU r m s f4 u true true _ A C B (.inr (.inr (.inl G))) hs
  |true=>
  rw[G]at B;by_cases z:(ln u:Int)=0\/(ln u:Int)=8
  .exact Oq r m s f4 u A C B (bJ r H.b) z h2 U V W
  .exact SU r m s f4 u true true true A C B (.inr (.inr (.inr ⟨λh=>z (.inl h),λh=>z (.inr h)⟩))) hs
 obtain⟨f,I⟩:∃f,wv m.kind f:=by
  unfold wv
  grind
 obtain⟨S,R,ac⟩:=Gi m Y f I
 have M:S=b:=by
  grind
 subst M;have h1:=hb f I
 cases S with
 |false=>exact .bad 1 yX (SU r m s f4 u true false _ A C B (.inr (.inl Z)) hs) (IJ r m s f4 u H.n8 false E R hk (.inl Z) hs)
 |true=>
 cases G:gU r.tk s with
 |false=>exact .bad 1 yX (SU r m s f4 u true true _ A C B (.inr (.inr (.inl G))) hs) (IJ r m s f4 u H.n8 true E R hk (.inr (.inl G)) hs)
 |true=>
 by_cases z:(ln u:Int)=0\/(ln u:Int)=8
 case neg=>
  have hq:¬(ln u:Int)=0/\¬(ln u:Int)=8:=⟨λh=>z (.inl h),λh=>z (.inr h)⟩;exact .bad 1 yX (SU r m s f4 u true true _ A C B (.inr (.inr (.inr hq))) hs) (IJ r m s f4 u H.n8 true E R hk (.inr (.inr hq)) hs)
 obtain⟨_,hd,L,_⟩:=h1.1 Z;obtain⟨mk,ag,ar,da⟩:=m;dsimp only at hd L I;subst hd
 rcases I with⟨rfl,rfl⟩|⟨rfl,rfl⟩|⟨rfl,rfl⟩|⟨rfl,rfl⟩
 all_goals grind [VC,Z9,do2,Nq,do3,i9,do4,do5]
def Me (d:xP) (m:Ms) (z:Rg) (u:Bool) (e:Int):xP:=if e=0 then⟨z,(if m.kind=5 then QA d.rq (m.args.getD 0 0)else d.rq),(if u=true then d.dr.drop 1 else d.dr),d.au⟩else d
def IF (d:xP):List Int:=d.dr.headD []
def u4 (d:xP) (m:Ms) (A f4:Int) (hv:bW d.rq) (S:ln d.dr<=1000) (R:Rg) (p:Ms) (u:Bool) (e:Int)
  (z:zO 306 [qD d.rg,yC m,iA A,iA f4,zD yA (IF d)] [] (.tup [qD R,yC p,bA u,iA e]) []) (E:m.kind=5->∃a,m.args=[a]):
  zO 258 [zK d,yC m,iA A,iA f4] [] (.tup [zK (Me d m R u e),yC (if e=0 then p else LB),iA e]) []:=by
 unfold Me;obtain⟨rg,L,I,Y⟩:=d;obtain⟨k,V,W,da⟩:=m;unfold IF at z;dsimp only at *;have M:(I.map vW).length=ln I:=zA vW I
 cases I with
 | nil=>
  rw[List.headD_nil]at z;by_cases C:e=0
  .subst C;rw[Os Z,Os Z];by_cases hk:k=5
   .subst hk;obtain⟨a,rfl⟩:=E Z;have O:=GE L a hv;rw[Os Z,show([a]:List Int).getD 0 0=a from Z];generalize QA L a=U at *;unfold qD yC at z;unfold zK xC yC;cases u
    all_goals
     (refine eM call258 λF hF=>?_)
     exact ld (xV z O)
   .rw[Of hk];clear E;unfold qD yC at z;unfold zK xC yC;cases u
    all_goals
     (refine eM call258 λF hF=>?_)
     exact lk z
  .rw[Of C,Of C];clear E;unfold qD yC at z;unfold zK xC yC LB;refine eM call258 λF hF=>?_
   exact lk z
 | cons b G=>
  rw[List.headD_cons]at z;have M:(vW b::G.map vW).length=ln G+1:=by rw[zAm,zAa]
  rw[zAm]at S;have B:zD vW (b::G)= .sl false (vW b::G.map vW):=rfl;by_cases C:e=0
  .subst C;rw[Os Z,Os Z];by_cases hk:k=5
   .subst hk;obtain⟨a,rfl⟩:=E Z;have O:=GE L a hv;rw[Os Z,show([a]:List Int).getD 0 0=a from Z];generalize QA L a=U at *;unfold qD yC at z;unfold zK xC yC;rw[B];cases u
    all_goals
     (refine eM call258 λF hF=>?_)
     exact ld (xV z O)
   .rw[Of hk];clear E;unfold qD yC at z;unfold zK xC yC;rw[B];cases u
    all_goals
     (refine eM call258 λF hF=>?_)
     exact lk z
  .rw[Of C,Of C];clear E;unfold qD yC at z;unfold zK xC yC LB;rw[B];refine eM call258 λF hF=>?_
   exact lk z
def kw (d:xP) (m:Ms) (A f4:Int) (hv:bW d.rq) (V:ln d.dr<=1000) (U:Rg) (p:Ms) (u:Bool) (e:Int)
  (z:zO 329 [qD d.rg,yC m,iA A,iA f4,zD yA (IF d)] [] (.tup [qD U,yC p,bA u,iA e]) []) (C:m.kind=5->∃a,m.args=[a]) (S:u=true->d.dr≠[]):
  zO 283 [zK d,yC m,iA A,iA f4] [] (.tup [zK (Me d m U u e),yC p,iA e]) []:=by
 unfold Me;obtain⟨rg,L,I,au⟩:=d;obtain⟨k,Y,ar,da⟩:=m;unfold IF at z;dsimp only at *;have M:(I.map vW).length=ln I:=zA vW I
 cases I with
 | nil=>
  have O:u=false:=by
   cases u with
   |false=>rfl
   |true=>exact absurd Z (S Z)
  subst O;rw[List.headD_nil]at z;by_cases E:e=0
  .subst E;rw[Os Z];by_cases hk:k=5
   .subst hk;obtain⟨a,rfl⟩:=C Z;have R:=KM L a hv;rw[Os Z,show([a]:List Int).getD 0 0=a from Z];generalize QA L a=W at *;unfold qD yC at z;unfold zK xC yC;refine eM call283 λF hF=>?_
    exact ld (xV z R)
   .rw[Of hk];clear C;unfold qD yC at z;unfold zK xC yC;refine eM call283 λF hF=>?_
    exact lk z
  .rw[Of E];clear C;unfold qD yC at z;unfold zK xC yC;refine eM call283 λF hF=>?_
   exact lk z
 | cons b G=>
  clear S;rw[List.headD_cons]at z;have M:(vW b::G.map vW).length=ln G+1:=by rw[zAm,zAa]
  rw[zAm]at V;have B:zD vW (b::G)= .sl false (vW b::G.map vW):=rfl;by_cases E:e=0
  .subst E;rw[Os Z];by_cases hk:k=5
   .subst hk;obtain⟨a,rfl⟩:=C Z;have R:=KM L a hv;rw[Os Z,show([a]:List Int).getD 0 0=a from Z];generalize QA L a=W at *;unfold qD yC at z;unfold zK xC yC;rw[B];cases u
    all_goals
     (refine eM call283 λF hF=>?_)
     exact ld (xV z R)
   .rw[Of hk];clear C;unfold qD yC at z;unfold zK xC yC;rw[B];cases u
    all_goals
     (refine eM call283 λF hF=>?_)
     exact lk z
  .rw[Of E];clear C;unfold qD yC at z;unfold zK xC yC;rw[B];refine eM call283 λF hF=>?_
   exact lk z
structure It where
 code:Int
 kind:Int
 pay:List Int
variable {i:It}
def wK (i:It):AV:= .agg [iA i.code,iA i.kind,zD yA i.pay]
def hT (d:xP) (p:Ms) (k e:Int):AV:= .tup [zK d,yC p,iA k,iA e]
def jw (c:Cf) (d:xP) (s f4:Int) (i:It) (hc:i.code≠0):zO 218 [wO c,zK d,iA s,wK i,iA f4] [] (hT d LB (-1) i.code) []:=by
 unfold wO hT zK xC wK yC LB;refine eM call218 λF hF=>?_
 exact lc
def fw (c:Cf) (d:xP) (s f4:Int) (i:It) (hc:i.code=0) (hk:¬(1<=i.kind/\i.kind<=12)):zO 218 [wO c,zK d,iA s,wK i,iA f4] [] (hT d LB (-1) 5) []:=by
 have u:=cM i.kind;rw[zAc hk]at u;obtain⟨z,A,B⟩:=i;dsimp only at *;subst hc;unfold wO hT zK xC wK yC LB;refine eM call218 λF hF=>?_
 exact lk u
def dw (c:Cf) (d:xP) (s f4 k:Int) (u:List Int) (B:1<=k) (h1:k<=12) (A:zO 256 [iA k,zD yA u] [] (j5 k (u.take 10) none) []):zO 218 [wO c,zK d,iA s,wK ⟨0,k,u⟩,iA f4] [] (hT d LB (-1) 6) []:=by
 have z:=cM k;rw[zAd ⟨B,h1⟩]at z;unfold j5 yC at A;unfold wO hT zK xC wK yC LB;refine eM call218 λF hF=>?_
 exact ld (xV z A)
def bw (c:Cf) (d:xP) (s f4 k:Int) (E u A:List Int) (G:1<=k) (h1:k<=12) (C:zO 256 [iA k,zD yA E] [] (.tup [yC ⟨k,u,A,[]⟩,iA 0]) []) (r:Rg) (I e:Int) (L:e≠0)
  (z:zO 257 [qD d.rg,yC ⟨k,u,A,[]⟩,iA f4] [] (.tup [qD r,iA I,iA e]) []):zO 218 [wO c,zK d,iA s,wK ⟨0,k,E⟩,iA f4] [] (hT d LB (-1) e) []:=by
 have B:=cM k;rw[zAd ⟨G,h1⟩]at B;unfold yC at C z;unfold qD at z;unfold wO hT zK xC wK yC LB;refine eM call218 λF hF=>?_
 exact ld (kC B C z)
def wN (d:xP) (r:Rg):xP:=⟨r,d.rq,d.dr,d.au⟩
section
variable (c:Cf) (d:xP) (s f4 k:Int) (pa tk0 ar:List Int) (h0:1<=k) (h1:k<=12) (k2:zO 256 [iA k,zD yA pa] [] (.tup [yC ⟨k,tk0,ar,[]⟩,iA 0]) []) (r:Rg) (sl:Int)
 (k3:zO 257 [qD d.rg,yC ⟨k,tk0,ar,[]⟩,iA f4] [] (.tup [qD r,iA sl,iA 0]) [])
include h0 h1 k2 k3
def j4 (hk:k=2\/k=3\/k=4\/k=5) (z:xP) (p:Ms) (e:Int) (u:zO 258 [zK (wN d r),yC ⟨k,tk0,ar,[]⟩,iA sl,iA f4] [] (.tup [zK z,yC p,iA e]) []):
  zO 218 [wO c,zK d,iA s,wK ⟨0,k,pa⟩,iA f4] [] (hT z p (-1) e) []:=by
 have A:=cM k;rw[zAd ⟨h0,h1⟩]at A;unfold yC at k2 k3 u;unfold qD at k3;unfold wN zK xC at u;unfold wO hT zK xC wK yC
 rcases hk with rfl|rfl|rfl|rfl
 all_goals
  refine eM call218 λF hF=>?_
  exact ld (aB A k2 k3 u)
def CA (hk:k=6\/k=7\/k=8) (l:List Rq) (e:Int) (A:e≠0) (u:zO 259 [wO c,zK (wN d r),yC ⟨k,tk0,ar,[]⟩,iA sl,iA f4] [] (.tup [zD zX l,iA e]) []):
  zO 218 [wO c,zK d,iA s,wK ⟨0,k,pa⟩,iA f4] [] (hT (wN d r) LB (-1) e) []:=by
 have z:=cM k;rw[zAd ⟨h0,h1⟩]at z;unfold yC at k2 k3 u;unfold qD at k3;unfold wN wO zK xC at u;unfold wN wO hT zK xC wK yC LB
 rcases hk with rfl|rfl|rfl
 all_goals
  refine eM call218 λF hF=>?_
  exact ld (aB z k2 k3 u)
def CB (hk:k=6\/k=7\/k=8) (a:Int) (u:List Int) (z:ar=a::u) (l:List Rq) (B:zO 259 [wO c,zK (wN d r),yC ⟨k,tk0,ar,[]⟩,iA sl,iA f4] [] (.tup [zD zX l,iA 0]) []):
  zO 218 [wO c,zK d,iA s,wK ⟨0,k,pa⟩,iA f4] [] (hT (Hg (wN d r) l) (jT k a) (-1) 0) []:=by
 subst z;have C:=cM k;have E:=DS k a;rw[zAd ⟨h0,h1⟩]at C;unfold jT yC at E;rw[show yC ⟨k,tk0,a::u,[]⟩= .agg [iA k,zD yA tk0,.sl false (iA a::u.map iA),.sl false []]from Z]at k2 k3 B;generalize u.map iA=A at *;unfold qD at k3;unfold wN wO zK xC at B;unfold Hg wN wO hT zK xC wK jT yC
 rcases hk with rfl|rfl|rfl
 all_goals
  refine eM call218 λF hF=>?_
  exact ld (KO C k2 k3 B E)
def CD (hk:k=1\/k=9\/k=12) (p:Ms) (u:zO 261 [zK (wN d r),iA k,iA f4] [] (yC p) []):
  zO 218 [wO c,zK d,iA s,wK ⟨0,k,pa⟩,iA f4] [] (hT (wN d r) p (-1) 0) []:=by
 have z:=cM k;rw[zAd ⟨h0,h1⟩]at z;unfold yC at k2 k3 u;unfold qD at k3;unfold wN zK xC at u;unfold wN wO hT zK xC wK yC
 rcases hk with rfl|rfl|rfl
 all_goals
  refine eM call218 λF hF=>?_
  exact ld (aB z k2 k3 u)
theorem aw (hk:k=11) (a:Int) (u:ar=[a]) (B:(ln c.js:Int)<=a):
  zO 218 [wO c,zK d,iA s,wK ⟨0,k,pa⟩,iA f4] [] (hT (wN d r) LB (-1) 8) []:=by
 subst hk u;have A:=cM 11;have z:=zA wD c.js;rw[show yC ⟨11,tk0,[a],[]⟩= .agg [iA 11,zD yA tk0,.sl false [iA a],.sl false []]from Z]at k2 k3;unfold qD at k3;unfold wN wO hT zK xC wK LB yC;refine eM call218 λF hF=>?_
 exact ld (kC A k2 k3)
theorem pw (hk:k=11) (a:Int) (u:ar=[a]) (C:a<(ln c.js:Int)):
  zO 218 [wO c,zK d,iA s,wK ⟨0,k,pa⟩,iA f4] [] (hT (wN d r) (jT 11 a) a 0) []:=by
 subst hk u;have B:=cM 11;have z:=DS 11 a;have A:=zA wD c.js;unfold jT yC at z;rw[show yC ⟨11,tk0,[a],[]⟩= .agg [iA 11,zD yA tk0,.sl false [iA a],.sl false []]from Z]at k2 k3;unfold qD at k3;unfold wN wO hT zK xC wK jT yC;refine eM call218 λF hF=>?_
 exact ld (aB B k2 k3 z)
theorem mw (hk:k=10) (a:Int) (u:ar=[a]) (A:1<a):
  zO 218 [wO c,zK d,iA s,wK ⟨0,k,pa⟩,iA f4] [] (hT (wN d r) LB (-1) 8) []:=by
 subst hk u;have z:=cM 10;rw[show yC ⟨10,tk0,[a],[]⟩= .agg [iA 10,zD yA tk0,.sl false [iA a],.sl false []]from Z]at k2 k3;unfold qD at k3;unfold wN wO hT zK xC wK LB yC;refine eM call218 λF hF=>?_
 exact ld (kC z k2 k3)
theorem lw (hk:k=10) (a:Int) (u:ar=[a]) (E:a<=1) (hs:¬(0<=s/\s<(ln d.au:Int))):
  zO 218 [wO c,zK d,iA s,wK ⟨0,k,pa⟩,iA f4] [] (hT (wN d r) (jT 10 a) (-1) 0) []:=by
 subst hk u;have A:=cM 10;have z:=DS 10 a;have B:=zA bA d.au;unfold jT yC at z;rw[show yC ⟨10,tk0,[a],[]⟩= .agg [iA 10,zD yA tk0,.sl false [iA a],.sl false []]from Z]at k2 k3;unfold qD at k3;unfold wN wO hT zK xC wK jT yC;by_cases h2:0<=s
 .have C:(ln d.au:Int)<=s:=by omega
  refine eM call218 λF hF=>?_
  exact ld (aB A k2 k3 z)
 ·(refine eM call218 λF hF=>?_)
  exact ld (aB A k2 k3 z)
end
section
variable (c:Cf) (d:xP) (s f4:Int) (tk0:List Int) (sl:Int)
def Mq:zO 239 [wO c,zK d,iA s,yC ⟨1,tk0,[],[]⟩,iA sl,iA f4] [] (hT d (OG d f4) (-1) 0) []:=by
 rw[show yC ⟨1,tk0,[],[]⟩= .agg [iA 1,zD yA tk0,.sl false [],.sl false []]from Z];unfold wO hT OG zK xC yC;refine eM call239 λF hF=>?_
 exact lp
def o4 (k:Int) (z:List Int) (a:Int) (u:List Int) (A:z=a::u) (hk:k=2\/k=3\/k=4\/k=5) (B:xP) (p:Ms) (e:Int) (C:zO 283 [zK d,yC ⟨k,tk0,z,[]⟩,iA sl,iA f4] [] (.tup [zK B,yC p,iA e]) []):
  zO 239 [wO c,zK d,iA s,yC ⟨k,tk0,z,[]⟩,iA sl,iA f4] [] (hT B p (-1) e) []:=by
 subst A;rw[show yC ⟨k,tk0,a::u,[]⟩= .agg [iA k,zD yA tk0,.sl false (iA a::u.map iA),.sl false []]from Z]at *; have hl:(iA a::u.map iA).length=ln u+1:=by rw[zAm,zAa]
 unfold zK xC yC at C;unfold wO hT zK xC yC
 rcases hk with rfl|rfl|rfl|rfl
 all_goals
  refine eM call239 λF hF=>?_
  exact mx C
def Kq (z:List Int) (a:Int) (u:List Int) (A:z=a::u) (G:0<=sl) (h1:sl<(ln d.rg.tk:Int)) (C:xP) (e:Int) (E:zO 284 [wO c,zK d,yC ⟨6,tk0,z,[]⟩,iA (d.rg.tk.getD sl.toNat dd).cls,iA f4] [] (.tup [zK C,iA e]) []):
  zO 239 [wO c,zK d,iA s,yC ⟨6,tk0,z,[]⟩,iA sl,iA f4] [] (hT C (jT 6 a) (-1) e) []:=by
 subst A;rw[show yC ⟨6,tk0,a::u,[]⟩= .agg [iA 6,zD yA tk0,.sl false (iA a::u.map iA),.sl false []]from Z]at *; have hl:(iA a::u.map iA).length=ln u+1:=by rw[zAm,zAa]
 have I:=zA yP d.rg.tk;have B:=yF yP d.rg.tk sl G h1;generalize (d.rg.tk.getD sl.toNat dd)=t at *;rw[show yP t= .agg [bA t.used,zD yA t.sec,iA t.par,iA t.rights,iA t.cls,iA t.til]from Z]at B;unfold wO zK xC at E;unfold wO hT jT zK xC yC;refine eM call239 λF hF=>?_
 exact mx E
def Jq (z:List Int) (a:Int) (u:List Int) (A:z=a::u) (B:xP) (e:Int) (C:zO 285 [zK d,yC ⟨7,tk0,z,[]⟩,iA f4] [] (.tup [zK B,iA e]) []):
  zO 239 [wO c,zK d,iA s,yC ⟨7,tk0,z,[]⟩,iA sl,iA f4] [] (hT B (jT 7 a) (-1) e) []:=by
 subst A;rw[show yC ⟨7,tk0,a::u,[]⟩= .agg [iA 7,zD yA tk0,.sl false (iA a::u.map iA),.sl false []]from Z]at *; have hl:(iA a::u.map iA).length=ln u+1:=by rw[zAm,zAa]
 unfold zK xC at C;unfold wO hT jT zK xC yC;refine eM call239 λF hF=>?_
 exact mx C
def Z4 (a:Int) (l:List Rq) (e:Int) (z:zO 286 [zD zX d.rq,iA a] [] (.tup [zD zX l,iA e]) []):
  zO 239 [wO c,zK d,iA s,yC ⟨8,tk0,[a],[]⟩,iA sl,iA f4] [] (hT (Hg d (if e=0 then l else d.rq)) (jT 8 a) (-1) e) []:=by
 rw[show yC ⟨8,tk0,[a],[]⟩= .agg [iA 8,zD yA tk0,.sl false [iA a],.sl false []]from Z];unfold wO Hg hT jT zK xC yC;by_cases u:e=0
 .subst u;rw[Os Z];refine eM call239 λF hF=>?_
  exact mx z
 .rw[Of u];refine eM call239 λF hF=>?_
  exact mx z
def sw (u:zO 287 [zK d] [] (yC (ZP d)) []):zO 239 [wO c,zK d,iA s,yC ⟨12,tk0,[],[]⟩,iA sl,iA f4] [] (hT d (ZP d) (-1) 0) []:=by
 rw[show yC ⟨12,tk0,[],[]⟩= .agg [iA 12,zD yA tk0,.sl false [],.sl false []]from Z];generalize ZP d=p at *;unfold zK xC yC at u;unfold wO hT zK xC yC;refine eM call239 λF hF=>?_
 exact mx u
def iw (a:Int) (z:(ln c.js:Int)<=a):zO 239 [wO c,zK d,iA s,yC ⟨11,tk0,[a],[]⟩,iA sl,iA f4] [] (hT d (jT 11 a) (-1) 8) []:=by
 have u:=zA wD c.js;rw[show yC ⟨11,tk0,[a],[]⟩= .agg [iA 11,zD yA tk0,.sl false [iA a],.sl false []]from Z];unfold wO hT jT zK xC yC;refine eM call239 λF hF=>?_
 exact lp
def Zw (a:Int) (z:a<(ln c.js:Int)):zO 239 [wO c,zK d,iA s,yC ⟨11,tk0,[a],[]⟩,iA sl,iA f4] [] (hT d (jT 11 a) a 0) []:=by
 have u:=zA wD c.js;rw[show yC ⟨11,tk0,[a],[]⟩= .agg [iA 11,zD yA tk0,.sl false [iA a],.sl false []]from Z];unfold wO hT jT zK xC yC;refine eM call239 λF hF=>?_
 exact lp
def Yw (a:Int) (u:1<a):zO 239 [wO c,zK d,iA s,yC ⟨10,tk0,[a],[]⟩,iA sl,iA f4] [] (hT d (jT 10 a) (-1) 8) []:=by
 rw[show yC ⟨10,tk0,[a],[]⟩= .agg [iA 10,zD yA tk0,.sl false [iA a],.sl false []]from Z];unfold wO hT jT zK xC yC;refine eM call239 λF hF=>?_
 exact lp
def Xw (a:Int) (A:a<=1) (hs:¬(0<=s/\s<(ln d.au:Int))):zO 239 [wO c,zK d,iA s,yC ⟨10,tk0,[a],[]⟩,iA sl,iA f4] [] (hT d (jT 10 a) (-1) 0) []:=by
 have u:=zA bA d.au;rw[show yC ⟨10,tk0,[a],[]⟩= .agg [iA 10,zD yA tk0,.sl false [iA a],.sl false []]from Z];unfold wO hT jT zK xC yC;by_cases h2:0<=s
 .have z:(ln d.au:Int)<=s:=by omega
  refine eM call239 λF hF=>?_
  exact lp
 ·(refine eM call239 λF hF=>?_)
  exact lp
def Ww (hb:cN d):zO 239 [wO c,zK d,iA s,yC ⟨9,tk0,[],[]⟩,iA sl,iA f4] [] (hT d (OZ d) (-1) 0) []:=by
 have C:=hb.q;have B:=zA zX d.rq;rw[show yC ⟨9,tk0,[],[]⟩= .agg [iA 9,zD yA tk0,.sl false [],.sl false []]from Z];unfold wO hT OZ zK xC yC;refine eM call239 λF hF=>?_
 refine WL ?_;refine zS 21 1001 1 Z Z Z ?_;refine zU (d.rq) [1001,7,12,13,17] [7,12,13,17] [7,12,13,17,18,105,106] [21,107,7,12,13,17,18,105,106] Z (λi ga T U=>⟨(21,.ref 1001 0 ((fB ga).map iA).length)::(107,iA i)::T,(1001,.arr 1 ((fB ga).map iA) true)::U⟩) (Lq ?_ ?_)
 .intro i ga x post hx hi;have E:=yI zX hx hi;have u:=zV hx hi;have z:=VZ ga;have A:=zA iA (fB ga);have e:=IB ga x;clear hx;rw[e];generalize (fB ga).map iA=xs at *;refine WW ?_;rfl
 ·(refine WD ?_)
  refine wJ [6,7,9,12,13,17] [6,7,9,12,13,14,15,16,17,18,21] Z ?_
  (conv=>whnf)
  simp only[zAu,zAb];exact lp
end
def UO (d:xP):AV:=xC d.rg (zD zX d.rq) (zD vW d.dr) (.ref 1004 0 (d.au.map bA).length)
def CU (l:List Bool):wB:= .arr 1 (l.map bA) false
def Vy (d:xP) (p:Ms) (k e:Int):AV:= .tup [UO d,yC p,iA k,iA e]
def Iq (l:List Bool) (h1:1<=ln l) (hl:ln l<=1073741824):zO 167 [zD bA l] [] (.ref 1004 0 (l.map bA).length) [(1004,CU l)]:=by
 have u:=zA bA l;unfold CU;refine eM call167 λF hF=>?_
 refine xI 0 Z (λcap hx=>?_) ?_
 .have:l=[]:=by simpa using hx
  subst this;simp at h1
 .repeat' (first|(apply zG;first|refine wX tok Z Z ?_|(apply xZ;refine yE (yU tok (.inl ⟨rfl,rfl⟩) Z Z Z Z) Z ?_)|(apply yR;refine qB (nw:=[1004]) (yT tok 1004 (xs:=[]) Z Z Z Z Z Z Z Z Z) Z Z Z ?_)|(apply yG;refine xW tok Z Z Z Z Z Z Z (zZ _ _ (λ_=>rfl)) Z Z Z zB Z ?_)|apply uT)|(first|apply xK|apply xF|refine vQ Z ?_|refine yM Z ?_|refine yB Z ?_|refine xU Z (λhc=>?_) λhc=>?_|apply xB|apply xG|apply xJ|apply xE))
  exact zP [1004] Z Z Z Z
def IG (d:xP) (hb:cN d) (h1:1<=ln d.au):zO 98 [zK d] [] (UO d) [(1004,CU d.au)]:=by
 have z:=DQ d.rg hb.rg;have O:=hb.q;have B:=hb.n;have A:=hb.a;have I:=SO d.rq zB;have L:=JY d.dr zB;have M:=Iq d.au h1 zB;have E:=zA zX d.rq;have C:=zA vW d.dr;unfold UO zK xC;unfold CU at *;unfold qD at z;refine eM call98 λF hF=>?_
 refine yJ (xV z I) ?_;refine zN ((d.rq.map zX).length) [1001,1,2] [1,2] [1,2,15] [16,1,2,15] Z (λi T U=>⟨(16,iA i)::T,(1001,.arr 5 (gO i (d.rq.map zX)) false)::U⟩) (Lq ?_ ?_)
 .intro i hi;have hi':i<ln d.rq:=by omega
  have G:(gO i (d.rq.map zX))[i]? =some (zX (d.rq.getD i dd)):=zJ zX d.rq i hi';have e:=jW zX d.rq i hi';have u:=ZB (d.rq.getD i dd).legs (hb.g (d.rq.getD i dd) XD);generalize (d.rq.getD i dd)=t,gO i (d.rq.map zX)=xs,gO (i+1) (d.rq.map zX)=ys at *;subst e;refine zQ u ?_;rfl
 ·(refine zQ L ?_)
  refine zN ((d.dr.map vW).length) [1002,1,2,1001] [1,2,1001] [1,2,38] [39,1,2,38] Z (λi T U=>⟨(39,iA i)::T,(1002,.arr 1 (gO i (d.dr.map vW)) false)::U⟩) (Lq ?_ ?_)
  .intro i hi;have hi':i<ln d.dr:=by omega
   have G:(gO i (d.dr.map vW))[i]? =some (vW (d.dr.getD i dd)):=zJ vW d.dr i hi';have e:=jW vW d.dr i hi';have u:=vJ (d.dr.getD i dd) (by have:=hb.e (d.dr.getD i dd) XD;omega);generalize (d.dr.getD i dd)=t,gO i (d.dr.map vW)=xs,gO (i+1) (d.dr.map vW)=ys at *;subst e;refine zQ u ?_;rfl
  ·(refine zQ M ?_)
   refine zH [1004] Z Z ?_ Z
   show xC d.rg (.sl false ((d.rq.map zX).take (d.rq.map zX).length)) (.sl false ((d.dr.map vW).take (d.dr.map vW).length)) (.ref 1004 0 (d.au.map bA).length)=_
   rw[zAb,zAb];rfl
def IH (d:xP) (hb:cN d):zO 105 [zK d] [] (UO d) [(1004,CU d.au)]:=by
 have u:=dV d.rg hb.rg;have M:=dQ d.rq hb.q hb.g;have O:=hb.q;have A:=hb.n;have z:=hb.a;have E:=zA zX d.rq;have C:=zA vW d.dr;have B:=zA bA d.au;unfold UO zK xC;unfold CU;unfold qD at u;refine eM call105 λF hF=>?_
 (have gd:=u;have gn:=M;(repeat' (first|refine uD ?_|apply yZ|apply xM|intro hc|(apply zG;first|(apply yG;refine wA 1004 tok Z Z Z Z Z Z (zZ _ _ (λ_=>rfl)) Z Z Z zB Z Z Z ?_))|fail))<;>clear gd gn)
 refine zS 4 1001 1 Z Z Z ?_;refine zU (d.dr) [1001,2,3,1004] [2,3,1004] [2,3,18,19] [4,20,2,3,18,19] Z (λi ga T U=>⟨(4,.ref 1001 0 (ga.map vW).length)::(20,iA i)::T,(1001,.arr 1 (ga.map vW) true)::U⟩) (Lq ?_ ?_)
 .intro i ga x post hx hi;have R:=yI vW hx hi;have G:=zV hx hi;have I:(ga.map vW).length=i:=by rw[zAa,hi]
  have hs:=hb.e x (yV hx);have L:=zA yA x;have e:(ga++[x]).map vW=ga.map vW++[vW x]:=by simp
  clear hx;rw[e];generalize ga.map vW=xs,d.dr.map vW=S at *;refine WL ?_;rfl
 ·(refine WL ?_)
  refine zH [1004] Z Z ?_ Z
  show xC d.rg (zD zX d.rq) (.sl false ((d.dr.map vW).take (d.dr.map vW).length)) (.ref 1004 0 (d.au.map bA).length)=_
  rw[zAb];rfl
def Uw (c:Cf) (d:xP) (s f4:Int) (E u:List Int) (a:Int) (R:0<=a) (h1:a<=1) (B:zO 256 [iA 10,zD yA E] [] (.tup [yC ⟨10,u,[a],[]⟩,iA 0]) []) (r:Rg) (M:Int)
  (A:zO 257 [qD d.rg,yC ⟨10,u,[a],[]⟩,iA f4] [] (.tup [qD r,iA M,iA 0]) []) (hs:0<=s/\s<(ln d.au:Int)):
  zO 218 [wO c,UO d,iA s,wK ⟨0,10,E⟩,iA f4] [(1004,CU d.au)] (Vy ⟨r,d.rq,d.dr,d.au.set s.toNat (a==1)⟩ (jT 10 a) (-1) 0) [(1004,CU (d.au.set s.toNat (a==1)))]:=by
 have L:=cM 10;have C:=DS 10 a;have G:=zA bA d.au;have I:=zJ bA d.au s.toNat zB;unfold jT yC at C;rw[show yC ⟨10,u,[a],[]⟩= .agg [iA 10,zD yA u,.sl false [iA a],.sl false []]from Z]at B A;unfold qD at A;have z:(d.au.set s.toNat (a==1)).map bA=(d.au.map bA).set s.toNat (bA (a==1)):=zBs;unfold wO Vy UO xC wK jT yC CU;dsimp only;rw[z,zBp];generalize d.au.getD s.toNat dd=O,d.au.map bA=xs at *
 obtain rfl|rfl:a=0\/a=1:=by omega
 all_goals
  refine eM call218 λF hF=>?_
  refine MN (aB L B A C) ?_;exact zH [1004] Z Z Z Z
def Tw (c:Cf) (d:xP) (s f4:Int) (u:List Int) (C:Int) (a:Int) (G:0<=a) (h1:a<=1) (hs:0<=s/\s<(ln d.au:Int)):
  zO 239 [wO c,UO d,iA s,yC ⟨10,u,[a],[]⟩,iA C,iA f4] [(1004,CU d.au)] (Vy ⟨d.rg,d.rq,d.dr,d.au.set s.toNat (a==1)⟩ (jT 10 a) (-1) 0) [(1004,CU (d.au.set s.toNat (a==1)))]:=by
 have A:=zA bA d.au;have B:=zJ bA d.au s.toNat zB;rw[show yC ⟨10,u,[a],[]⟩= .agg [iA 10,zD yA u,.sl false [iA a],.sl false []]from Z];have z:(d.au.set s.toNat (a==1)).map bA=(d.au.map bA).set s.toNat (bA (a==1)):=zBs;unfold wO Vy UO xC jT yC CU;dsimp only;rw[z,zBp];generalize d.au.getD s.toNat dd=E,d.au.map bA=xs at *
 obtain rfl|rfl:a=0\/a=1:=by omega
 all_goals
  refine eM call239 λF hF=>?_
  refine WL ?_;exact zH [1004] Z Z Z Z
def fK (k e:Int):Ms:=⟨15,[],[k,e],[]⟩
def MZ (a k e:Int):AV:= .agg [iA a,iA k,iA e]
structure Hd where
 d:xP
 p:Ms
 k:Int
 e:Int
def CW (n u:Int) (h:Hd):AV:= .tup [zK h.d,yC h.p,MZ n u h.e,iA h.k]
def NW (d:xP):AV:=xC d.rg (zD zX d.rq) (.ref 1005 0 (d.dr.map vW).length) (zD bA d.au)
def Sw (d:xP):wB:= .arr 1 (d.dr.map vW) true
def Mb (n u:Int) (h:Hd):AV:= .tup [NW h.d,yC h.p,MZ n u h.e,iA h.k]
def dO (d:xP) (hb:cN d):zO 105 [zK d] [] (NW d) [(1005,Sw d)]:=by
 have u:=dV d.rg hb.rg;have M:=dQ d.rq hb.q hb.g;have O:=hb.q;have A:=hb.n;have z:=hb.a;have E:=zA zX d.rq;have C:=zA vW d.dr;have B:=zA bA d.au;unfold NW zK xC;unfold Sw;unfold qD at u;refine eM call105 λF hF=>?_
 refine MN (xV u M) ?_;refine zS 4 1005 1 Z Z Z ?_;refine zU (d.dr) [1005,2,3] [2,3] [2,3,18,19] [4,20,2,3,18,19] Z (λi ga T U=>⟨(4,.ref 1005 0 (ga.map vW).length)::(20,iA i)::T,(1005,.arr 1 (ga.map vW) true)::U⟩) (Lq ?_ ?_)
 .intro i ga x post hx hi;have R:=yI vW hx hi;have G:=zV hx hi;have I:(ga.map vW).length=i:=by rw[zAa,hi]
  have hs:=hb.e x (yV hx);have L:=zA yA x;have e:(ga++[x]).map vW=ga.map vW++[vW x]:=by simp
  clear hx;rw[e];generalize ga.map vW=xs,d.dr.map vW=S at *;refine WL ?_;rfl
 ·(refine WL ?_)
  exact zH [1005] Z Z Z Z
def Le (c:Cf) (d:xP) (s f4:Int) (i:It) (h:Hd):Prop:=
 zO 199 [wO c,zK d,iA s,wK i,iA f4] [] (CW d.rg.num i.kind h) []/\zO 199 [wO c,zK d,iA s,wK i,iA f4] [] (Mb d.rg.num i.kind h) [(1005,Sw h.d)]
def Uy (u:Int) (d:xP) (p:Ms) (k e:Int):Hd:=if e=0 then⟨d,p,k,0⟩else⟨d,fK u e,-1,e⟩
def Ty (c:Cf) (d:xP) (s f4:Int) (i:It) (hb:cN d) (u:xP) (p:Ms) (k e:Int) (z:zO 218 [wO c,zK d,iA s,wK i,iA f4] [] (hT u p k e) []):
  zO 178 [wO c,zK d,iA s,wK i,iA f4] [] (CW u.rg.num i.kind (Uy i.kind u p k e)) []:=by
 have B:=ZN d hb;unfold hT wO wK at z;unfold wO wK;unfold zK xC yC at *;by_cases A:e=0
 .subst A;unfold Uy CW MZ zK xC yC;rw[Os Z];refine eM call178 λF hF=>?_
  exact ly (xV B z)
 .unfold Uy CW MZ fK zK xC yC;rw[Of A];refine eM call178 λF hF=>?_
  exact ly (xV B z)
def Y4 (c:Cf) (d:xP) (s f4:Int) (i:It) (hb:cN d) (h1:1<=ln d.au) (u:xP) (p:Ms) (k:Int) (z:zO 218 [wO c,UO d,iA s,wK i,iA f4] [(1004,CU d.au)] (Vy u p k 0) [(1004,CU u.au)]):
  zO 178 [wO c,zK d,iA s,wK i,iA f4] [] (CW u.rg.num i.kind ⟨u,p,k,0⟩) []:=by
 have A:=IG d hb h1;unfold Vy wO wK at z;unfold wO wK;unfold CU UO at *;unfold zK xC yC at *;unfold CW MZ zK xC yC;refine eM call178 λF hF=>?_
 refine MN (xV A z) ?_;refine zH [] Z Z ?_ Z
 show AV.tup [xC u.rg (zD zX u.rq) (zD vW u.dr) (.sl false ((u.au.map bA).take (u.au.map bA).length)),yC p,MZ u.rg.num i.kind 0,iA k]=_
 rw[zAb];rfl
section
variable (c:Cf) (d:xP) (s f4:Int) (hb:cN d)
include hb
def Rw (i:It) (hc:i.code≠0):Le c d s f4 i ⟨d,fK i.kind i.code,-1,i.code⟩:=by
 have z:=dO d hb;have u:=jE d hb;unfold Le wO CW Mb fK MZ wK zK NW Sw xC yC at *;refine⟨?_,?_⟩
 ·(refine eM call199 λF hF=>?_)
  exact mx u
 ·(refine eM call199 λF hF=>?_)
  refine WDo u ?_;refine TQ z ?_;exact zH [1005] Z Z Z Z
def Qw (i:It) (hc:i.code=0) (hk:¬(1<=i.kind/\i.kind<=12)):Le c d s f4 i ⟨d,fK i.kind 5,-1,5⟩:=by
 have A:=dO d hb;have z:=jE d hb;have u:=aH i.kind;rw[zAc hk]at u;obtain⟨B,C,E⟩:=i;dsimp only at *;subst hc;unfold Le wO CW Mb fK MZ wK zK NW Sw xC yC at *;refine⟨?_,?_⟩
 ·(refine eM call199 λF hF=>?_)
  exact ly (xV z u)
 ·(refine eM call199 λF hF=>?_)
  refine W1 (xV z u) ?_;refine TQ A ?_;exact zH [1005] Z Z Z Z
def Ow (k:Int) (A:List Int) (C:1<=k) (h1:k<=12) (z:zO 237 [iA k,zD yA A] [] (j5 k (A.take 10) none) []):Le c d s f4 ⟨0,k,A⟩ ⟨d,fK k 6,-1,6⟩:=by
 have E:=dO d hb;have B:=jE d hb;have u:=aH k;rw[zAd ⟨C,h1⟩]at u;unfold j5 yC at z;unfold Le wO CW Mb fK MZ wK zK NW Sw xC yC at *;refine⟨?_,?_⟩
 ·(refine eM call199 λF hF=>?_)
  exact ly (kC B u z)
 ·(refine eM call199 λF hF=>?_)
  refine W1 (kC B u z) ?_;refine TQ E ?_;exact zH [1005] Z Z Z Z
variable (k:Int) (pa tk0 ar:List Int) (h0:1<=k) (h1:k<=12) (k3:zO 237 [iA k,zD yA pa] [] (.tup [yC ⟨k,tk0,ar,[]⟩,iA 0]) [])
include h0 h1 k3
def Nw (r:Rg) (C e:Int) (E:e≠0) (z:zO 238 [qD d.rg,yC ⟨k,tk0,ar,[]⟩,iA f4] [] (.tup [qD r,iA C,iA e]) []):
  Le c d s f4 ⟨0,k,pa⟩ ⟨d,fK k e,-1,e⟩:=by
 have B:=dO d hb;have A:=jE d hb;have u:=aH k;rw[zAd ⟨h0,h1⟩]at u;unfold qD at z;unfold Le wO CW Mb fK MZ wK zK NW Sw xC yC at *;refine⟨?_,?_⟩
 ·(refine eM call199 λF hF=>?_)
  exact ly (aB A u k3 z)
 ·(refine eM call199 λF hF=>?_)
  refine W1 (aB A u k3 z) ?_;refine TQ B ?_;exact zH [1005] Z Z Z Z
def Sy (r:Rg) (O:Int) (B:zO 238 [qD d.rg,yC ⟨k,tk0,ar,[]⟩,iA f4] [] (.tup [qD r,iA O,iA 0]) []) (u:xP) (z:cN u) (p:Ms) (M e:Int)
  (C:zO 239 [wO c,zK (wN d r),iA s,yC ⟨k,tk0,ar,[]⟩,iA O,iA f4] [] (hT u p M e) []):
  Le c d s f4 ⟨0,k,pa⟩ (Uy k u p M e):=by
 have L:=dO u z;have E:=jE d hb;have I:=jE u z;have A:=aH k;rw[zAd ⟨h0,h1⟩]at A;unfold qD at B;unfold hT wN at C;unfold Le wO wK zK NW Sw xC yC at *;by_cases G:e=0
 .subst G;unfold Uy CW Mb MZ zK NW xC yC;rw[Os Z];refine⟨?_,?_⟩
  ·(refine eM call199 λF hF=>?_)
   exact ly (Ld E A k3 B C I)
  ·(refine eM call199 λF hF=>?_)
   refine W1 (KO E A k3 B C) ?_;refine TQ L ?_;exact zH [1005] Z Z Z Z
 .unfold Uy CW Mb MZ fK zK NW xC yC;rw[Of G];refine⟨?_,?_⟩
  ·(refine eM call199 λF hF=>?_)
   exact ly (Ld E A k3 B C I)
  ·(refine eM call199 λF hF=>?_)
   refine W1 (KO E A k3 B C) ?_;refine TQ L ?_;exact zH [1005] Z Z Z Z
def W4 (r:Rg) (I:Int) (B:zO 238 [qD d.rg,yC ⟨k,tk0,ar,[]⟩,iA f4] [] (.tup [qD r,iA I,iA 0]) []) (u:xP) (z:cN u) (p:Ms) (G:Int)
  (C:zO 239 [wO c,UO (wN d r),iA s,yC ⟨k,tk0,ar,[]⟩,iA I,iA f4] [(1004,CU d.au)] (Vy u p G 0) [(1004,CU u.au)]):
  Le c d s f4 ⟨0,k,pa⟩ ⟨u,p,G,0⟩:=by
 have M:=dO u z;have E:=IH d hb;have L:=jE u z;have A:=aH k;rw[zAd ⟨h0,h1⟩]at A;unfold qD at B;unfold Vy wN at C;unfold CU UO at *;unfold Le wO wK zK NW Sw xC yC at *;unfold CW Mb MZ zK NW xC yC;refine⟨?_,?_⟩
 ·(refine eM call199 λF hF=>?_)
  refine W1 (KO E A k3 B C) ?_;refine wJ [5,6,8,10,11,12,14,17] [5,6,8,10,11,12,13,14,15,16,17] Z ?_
  (conv=>whnf)
  simp only[zAu,zAb];exact mx L
 ·(refine eM call199 λF hF=>?_)
  refine W1 (KO E A k3 B C) ?_;refine wJ [5,6,8,10,11,12,14,17] [5,6,8,10,11,12,13,14,15,16,17] Z ?_
  (conv=>whnf)
  simp only[zAu,zAb];refine TQ M ?_;exact zH [1005] Z Z Z Z
end
def Hq (l:List Tk) (hn:ln l<=1000000) (g:Int) (b:List Int) (k f4:Int) (hb:BY b):zO 281 [zD yP l,iA g,zD yA b,iA k,iA f4] [] (.tup [iA (if GZ l g b k f4=true then b.getD 1 dd else 0),iA (if GZ l g b k f4=true then 0 else 9)]) []:=by
 have U:=zA yA b;have V:=zA yP l;by_cases h1:(ln b:Int)=10
 case neg=>
  have e:GZ l g b k f4=false:=by unfold GZ;rw[zAc (λh=>h1 h.1)];rfl
  rw[e];refine eM call281 λF hF=>?_
  exact lc
 have C:=yF yA b 0 zB zB;have E:=yF yA b 1 zB zB;have b0:0<=b.getD 0 dd/\b.getD 0 dd<256:=hb _ Pg;have G:0<=b.getD 1 dd/\b.getD 1 dd<256:=hb _ Pg
 change (b.map yA)[0]? =some (yA (b.getD 0 dd))at C
 change (b.map yA)[1]? =some (yA (b.getD 1 dd))at E
 unfold GZ uj;generalize b.getD 0 dd=Y,b.getD 1 dd=A at *;by_cases h2:Y=g
 case neg=>
  rw[zAc (λh=>h2 h.2)];refine eM call281 λF hF=>?_
  exact lc
 rw[zAd ⟨h1,h2⟩];by_cases R:A<ln l
 case neg=>
  have z:gU l A=false:=by unfold gU;rw[zAc zB];rfl
  rw[z];refine eM call281 λF hF=>?_
  exact lc
 have z:gU l A=(l.getD A.toNat dd).used:=by unfold gU;rw[zAd ⟨G.1,R⟩,zAo]
 rw[z];have u:=yF yP l A G.1 zB;generalize l.getD A.toNat dd=t at *;cases z:t.used
 .rw[show yP t=cU false t by unfold yP cU;rw[z]]at u;unfold cU at u;refine eM call281 λF hF=>?_
  exact lc
 .rw[show yP t=cU true t by unfold yP cU;rw[z]]at u;unfold cU at u;have S:(b.drop 2).map yA=(b.map yA).drop 2:=by rw[zC4]
  rw[qo (b.drop 2) t.sec];have I:=Yd t.rights k;generalize W:Zi t.sec (b.drop 2)=q1 at *;generalize Vj t.rights k=O at *;have B:pc t f4=decide (t.til≠0/\t.til<f4):=rfl;rw[B]
  cases q1 with
  |false=>
   refine eM call281 λF hF=>?_
   exact lc
  |true=>
  by_cases L:t.til=0
  .rw[zAc (λh=>h.1 L)]
   cases O<;>((refine eM call281 λF hF=>?_);exact lk I)
  by_cases M:t.til<f4
  .rw[zAd ⟨L,M⟩];refine eM call281 λF hF=>?_
   exact lc
  .rw[zAc (λh=>M h.2)]
   cases O<;>((refine eM call281 λF hF=>?_);exact lk I)
def Mw (r:Rg) (m:Ms) (f4:Int) (C:EM r) (G:BY m.tok) (hl:r.bk.level<=1000000):zO 238 [qD r,yC m,iA f4] [] (.tup [qD (xq r m f4),iA (oy r m f4),iA (Bg r m f4)]) []:=by
 have u:=Hq r.tk C.tk.n r.num m.tok m.kind f4 G;have A:=dV r C;have z:=vn r.bk zB;unfold xq oy Bg
 cases B:GZ r.tk r.num m.tok m.kind f4<;>rw[B]at u
 ·(refine eM call238 λF hF=>?_)
  exact lk u
 .generalize m.tok.getD 1 dd=E at *;cases hk:QZ m.kind
  .have hk':¬(2<=m.kind/\m.kind<=8):=zEc hk;refine eM call238 λF hF=>?_
   refine yJ (xV u A) (I2 (λhc=>?_) λhc=>?_)
   all_goals (first|exact KP|exact zI)
  .have hk':2<=m.kind/\m.kind<=8:=zD0 hk;by_cases hv:r.bk.level<=0
   .rw[zAc zB]at z;simp only[hv,and_self,zEp];refine eM call238 λF hF=>?_
    exact ld (kC u A z)
   .rw[zAd zB]at z;simp only[hv,zEx,zE9,zEp];generalize hb:PX r.bk=I at *;refine eM call238 λF hF=>?_
    exact ld (kC u A z)
def Lw (l:List Tk) (f4:Int) (n:Nat) (j:Nat):Bool:=(List.range n).any λi=>gU l i&&pc (l.getD i dd) f4&&WQ l 9 j i
def Gq (l:List Tk) (f4:Int) (n:Nat):Lw l f4 (n+1)=λj=>Lw l f4 n j||(gU l n&&pc (l.getD n dd) f4&&WQ l 9 j n):=by
 funext j
 unfold Lw
 grind
def lj (l:List Tk) (hb:GD l) (B:ln l=8) (f4:Int):zO 234 [zD yP l,iA f4] [] (zD yP (WP l f4)) []:=by
 have M:=zA yP l;have G:=xh l hb (Lw l f4 8) B;have hx:=N3 B f4
 change WP l f4=OI (Lw l f4 8) l 8 at hx
 rw[hx];generalize OI (Lw l f4 8) l 8=O at *;obtain⟨N,hN⟩:∃N:Nat,N=8:=⟨8,rfl⟩;refine eM call234 λF hF=>?_
 refine WW ?_;refine zN (N) [] [] [0,1,8,9] [5,10,0,1,8,9] Z (λi T U=>⟨(5,iA (fA (Lw l f4 i) 8))::(10,iA i)::T,U⟩) (Lq ?_ ?_)
 .intro i hi;have z:gU l i=(l.getD i dd).used:=by unfold gU;rw[zAd zB,zAo,zAx]
  have I:=yh l i B;rw[B]at I;have u:=qp (Lw l f4 i) (λj=>WQ l 9 j i);have E:=zJ yP l i zB;have C:=Gq l f4 i;rw[z]at C;rw[C];clear C z G hx;generalize Lw l f4 i=p,l.getD i dd=t at *;rw[show yP t= .agg [bA t.used,zD yA t.sec,iA t.par,iA t.rights,iA t.cls,iA t.til]from Z]at E;unfold pc
  cases z:t.used with
  |false=>
   rw[z]at E;rw[show(λj=>p j||false&&decide (t.til≠0/\t.til<f4)&&WQ l 9 j i)=p by funext j;simp];generalize fA p 8=b at *;refine WW ?_;rfl
  |true=>
  rw[z]at E;by_cases A:t.til≠0/\t.til<f4
  .rw[zAd A];rw[show(λj=>p j||true&&true&&WQ l 9 j i)=λj=>p j||WQ l 9 j i by funext j;simp,<-u];clear u;obtain⟨A,L⟩:=A;generalize fA p 8=b,fA (λj=>WQ l 9 j i) 8=c at *;refine zQ I ?_;rfl
  .rw[zAc A];rw[show(λj=>p j||true&&false&&WQ l 9 j i)=p by funext j;simp];generalize fA p 8=b at *;by_cases L:t.til=0
   all_goals
    (refine WW ?_)
    rfl
 .rw[hN];exact lk G
def Fq (r:Rg) (f4:Int) (u:EM r) (C:ln r.tk=8) (hl: -1000000<=r.bk.level+r.bk.rate/\r.bk.level+r.bk.rate<=1000000):zO 197 [qD r,iA f4] [] (qD (S3 r f4)) []:=by
 have z:=dV r u;have A:=lj r.tk u.tk C f4;have B:=wn r.bk zB;unfold S3;generalize WP r.tk f4=G,O6 r.bk=E at *;refine eM call197 λF hF=>?_
 exact ld (kC z A B)
def V7 (c:Cf) (l:List Rq):Prop:=∀r∈l,∀g∈r.legs,g.jn<(ln c.js:Int)/\g.ph<((c.js.getD g.jn.toNat dd).ph.length:Int)
structure qR (c:Cf) (d:xP):Prop where
 b:EM d.rg
 v:bW d.rq
 q:(d.rq.length:Int)<=d.rg.ag.req
 lg:V7 c d.rq
 a:Hv d.rg.ag
 n:0<=d.rg.num/\d.rg.num<4
 t8:d.rg.tk.length=8
 br:d.rg.bk.rate=d.rg.ag.rate
 bb:d.rg.bk.burst=d.rg.ag.burst
 bl:0<=d.rg.bk.level/\d.rg.bk.level<=d.rg.ag.burst
 au:(d.au.length:Int)=d.rg.ag.ses
 dn:d.dr.length<=1000
 dr:∀x∈d.dr,x.length=8/\BY x
 vh:d.rg.vh.length<=8
theorem qR.bd (h:qR c d):cN d:=
 ⟨h.b,by have:=h.v.n4;omega,λr u=>by have:=h.v.lg3 u;omega,h.dn,λx hx=>by have:=(h.dr x hx).1;omega,by have:=h.au;have:=h.a.e;omega⟩
theorem Ry:∀(n:Nat) (l:List Int),ln l=4*n->∃u:List Qd,l=aR u/\u.length=n
 |0,l,h=>⟨[],zBa zB,rfl⟩
 |n+1,a::b::c::e::l,h=>by
  obtain⟨u,h1,h2⟩:=Ry n l (by simp only[zAm]at h;omega);exact⟨⟨a,b,c,e⟩::u,by rw[h1];rfl,by rw[zAm,h2]⟩
 |n+1,[],h=>by simp at h
 |n+1,[_],h=>by simp at h;omega
 |n+1,[_,_],h=>by simp at h;omega
 |n+1,[_,_,_],h=>by simp at h;omega
theorem Qy:∀(n:Nat) (l:List Int),ln l=2*n->∃u:List (Int×Int),l=PF u/\u.length=n
 |0,l,h=>⟨[],zBa zB,rfl⟩
 |n+1,a::b::l,h=>by
  obtain⟨u,h1,h2⟩:=Qy n l (by simp only[zAm]at h;omega);exact⟨(a,b)::u,by rw[h1];rfl,by rw[zAm,h2]⟩
 |n+1,[],h=>by simp at h
 |n+1,[_],h=>by simp at h;omega
def Kw {A u:Nat} {p:List Int} (hb:BY p) (h:KE A u p=some a):ln p<=200/\10<=ln p/\(∀x∈a,0<=x/\x<=4294967295)/\(u=0->ln a=A)/\(u≠0->∃c:Nat,1<=c/\c<=3/\a.length=A+c*u):=by
 unfold KE at h;by_cases hl:200<ln p\/p.length<10
 .grind
 rw[Of hl]at h;have C:BY (p.drop 10):=λx hx=>hb x (zBj hx)
 cases h1:UF A (p.drop 10)with
 |none=>rw[h1]at h;cases h
 | some O=>
  obtain⟨M,G⟩:=O;rw[h1]at h;obtain⟨l1,R,v1,_⟩:=aL A _ M G C h1;dsimp only at h;by_cases E:u=0
  .grind
  .rw [Of E]at h
   cases h2:UF 1 G with
   |none=>rw[h2]at h;cases h
   | some U=>
    obtain⟨z,I⟩:=U;rw[h2]at h;obtain⟨l2,S,v2,_⟩:=aL 1 _ z I R h2;dsimp only at h;by_cases hc:z.getD 0 0<1\/3<z.getD 0 0
    .grind
    rw[Of hc]at h
    cases B:UF ((z.getD 0 0).toNat*u) I with
    |none=>rw[B]at h;cases h
    | some W=>
     obtain⟨V,L⟩:=W;rw[B]at h;obtain⟨l3,b3,v3,_⟩:=aL _ _ V L S B;dsimp only at h;by_cases Y:L=[]
     .rw[Os Y]at h;cases h;refine⟨zB,zB,λx hx=>?_,λh=>absurd h E,λ_=>⟨(z.getD 0 0).toNat,zB,zB,by rw[zAh,l1,l3]⟩⟩
      grind
     all_goals grind
def Dq (d:xP) (i:It) (f4:Int) (a:List Int):Prop:=i.code=0/\1<=i.kind/\i.kind<=12/\KE (qQ i.kind) (vD i.kind) i.pay=some a/\Bg d.rg ⟨i.kind,i.pay.take 10,a,[]⟩ f4=0
def Zc (d:xP) (i:It) (f4:Int) (a:List Int):xP:=wN d (xq d.rg ⟨i.kind,i.pay.take 10,a,[]⟩ f4)
def OL (c:Cf) (d:xP) (s:Int) (i:It) (f4:Int) (h:Hd):Prop:=
 zO 178 [wO c,zK d,iA s,wK i,iA f4] [] (CW d.rg.num i.kind h) []/\Le c d s f4 i h
def Y9 (d:xP) (i:It) (f4:Int) (a:List Int) (h:Hd):Prop:=
 (i.kind=1/\h.p=OG d f4/\h.d=d)\/(i.kind=9/\h.p=OZ d/\h.d=d)\/(i.kind=12/\h.p=ZP d/\h.d=d)\/
 (i.kind=2/\∃(k:Nat) (u:List Int),k<8/\(ln u=8/\BY u)/\h.p=⟨16,[],[(k:Int)],d.rg.num::(k:Int)::u⟩)\/
 ((3<=i.kind/\i.kind<=8\/i.kind=10\/i.kind=11)/\∃x,0<=x/\x<=4294967295/\h.p=jT i.kind x)
def T0 (d:xP):Prop:=d.rg.tk.getD 0 dd=⟨true,d.rg.ag.sec,-1,d.rg.ag.rights,d.rg.ag.cls,0⟩
def Lb (d u:xP):Prop:=U4 d.rg.tk->U4 u.rg.tk/\u.au=d.au
theorem Lb.refl (d:xP):Lb d d:=λh=>⟨h,rfl⟩
theorem Lb.trans {a b:xP} (h:Lb a b) (k:Lb b d):Lb a d:=λx=>⟨(k (h x).1).1,(k (h x).1).2.trans (h x).2⟩
theorem T0.of {u:xP} (h1:u.rg.tk=d.rg.tk) (z:u.au=d.au):Lb d u:=λh=>⟨h1▸h,z⟩
def TA (l A:List Rq):Prop:=∀r∈A,∀g∈r.legs,g.sc= -1\/∃z∈l,z.id=r.id/\∃u∈z.legs,u.jn=g.jn/\u.ph=g.ph/\u.sc=g.sc
theorem TA.refl (l:List Rq):TA l l:=λr z g u=> .inr ⟨r,z,rfl,g,u,rfl,rfl,rfl⟩
theorem TA.filter (l:List Rq) (p:Rq->Bool):TA l (l.filter p):=λr z g u=> .inr ⟨r,(zD5.1 z).1,rfl,g,u,rfl,rfl,rfl⟩
theorem TA.trans {a b c:List Rq} (h1:TA a b) (h2:TA b c):TA a c:=λr z g u=>by
 rcases h2 r z g u with h|⟨r1,hr1,e1,g1,hg1,a1,a2,a3⟩
 .exact .inl h
 .rcases h1 r1 hr1 g1 hg1 with h|⟨r0,hr0,e0,g0,hg0,b1,b2,b3⟩
  .exact .inl (a3▸h)
  .exact .inr ⟨r0,hr0,e0.trans e1,g0,hg0,b1.trans a1,b2.trans a2,b3.trans a3⟩
structure Py (c:Cf) (d:xP) (s:Int) (i:It) (f4:Int) (h:Hd):Prop where
 inv:qR c h.d
 ag:h.d.rg.ag=d.rg.ag
 num:h.d.rg.num=d.rg.num
 no:h.e≠0->h.k= -1/\h.p=fK i.kind h.e/\(h.d=d\/∃a,Dq d i f4 a/\h.d=Zc d i f4 a)
 yes:h.e=0->∃a,Dq d i f4 a/\Y9 d i f4 a h
 rst:h.k= -1\/(i.kind=11/\0<=h.k/\h.k<(c.js.length:Int))
 dl:h.d.dr.length<=d.dr.length
 t0:Lb d h.d
 eb:0<=i.code/\i.code<=100->0<=h.e/\h.e<=100
 ax:∀k:Nat,(k:Int)≠s->h.d.au[k]? =d.au[k]?
 sc:TA d.rq h.d.rq
theorem OM {r:Rg} {m:Ms} (h:Bg r m f4=0):xq r m f4=⟨r.num,r.ag,r.tk,r.vh,if QZ m.kind=true then PX r.bk else r.bk⟩/\GZ r.tk r.num m.tok m.kind f4=true/\(QZ m.kind=true->0<r.bk.level)/\oy r m f4=m.tok.getD 1 dd:=by
 have h1:GZ r.tk r.num m.tok m.kind f4=true:=by
  grind [Bg,xq,QZ,PX,GZ,oy]
 refine⟨?_,h1,λhk=>?_,by rw[oy,Os h]⟩
 .rw[xq,Os h]
  split<;>rfl
 all_goals grind [Bg,xq,QZ,PX,GZ,oy]
def Oy (u:qR c d) (h:Dq d i f4 a):qR c (Zc d i f4 a):=by
 obtain⟨h1,_,z,_⟩:=OM h.2.2.2.2;unfold Zc wN;rw[h1];have hl:=u.bl;refine⟨⟨u.b.tk,u.b.s,u.b.l,u.b.v⟩,u.v,u.q,u.lg,u.a,u.n,u.t8,?_,?_,?_,u.au,u.dn,u.dr,u.vh⟩
 .dsimp only;split
  .unfold PX;split
   all_goals exact u.br
  .exact u.br
 .dsimp only;split
  .unfold PX;split
   all_goals exact u.bb
  .exact u.bb
 all_goals grind [Dq,Zc,PX]
def II (h:Dq d i f4 a) (hk:i.kind=1\/9<=i.kind):Zc d i f4 a=d:=by
 obtain⟨h1,_,_,_⟩:=OM h.2.2.2.2;unfold Zc wN;rw[h1,Of (λh=>by unfold QZ at h;rw[zAe]at h;dsimp only at h;omega)]
def Cq {u:Int} {p:Ms} {k e:Int} (h:e≠0):Uy u d p k e=⟨d,fK u e,-1,e⟩:=Of h
def bh {u:Int} {p:Ms} {k:Int}:Uy u d p k 0=⟨d,p,k,0⟩:=Os Z
def Kb {s:Int} (z:qR c d) {e:Int} (C:e≠0) (p:Ms) (u:xP) (hd:u=d\/∃a,Dq d i f4 a/\u=Zc d i f4 a)
 (h1:zO 218 [wO c,zK d,iA s,wK i,iA f4] [] (hT u p (-1) e) []) (h2:Le c d s f4 i ⟨u,fK i.kind e,-1,e⟩) (A:0<=i.code/\i.code<=100->0<=e/\e<=100:=by(intro _;omega)):∃h,OL c d s i f4 h/\Py c d s i f4 h:=by
 have hi:qR c u/\u.rg.ag=d.rg.ag/\u.rg.num=d.rg.num/\u.dr=d.dr/\u.rg.tk=d.rg.tk:=by
  rcases hd with rfl|⟨a,ho,rfl⟩
  .exact⟨z,rfl,rfl,rfl,rfl⟩
  .refine⟨Oy z ho,?_,?_,?_,?_⟩<;>(unfold Zc wN;rw[(OM ho.2.2.2.2).1])
 have B:=Ty c d s f4 i z.bd u p (-1) e h1;rw[Cq C,hi.2.2.1]at B;exact⟨⟨u,fK i.kind e,-1,e⟩,⟨B,h2⟩,hi.1,hi.2.1,hi.2.2.1,λ_=>⟨rfl,rfl,hd⟩,λh=>absurd h C,.inl Z,by rw[hi.2.2.2.1];exact zAg _,T0.of hi.2.2.2.2 (by rcases hd with h|⟨a,_,h⟩<;>rw[h];rfl),A,λ_ _=>by rw[show u.au=d.au by rcases hd with h|⟨a,_,h⟩<;>rw[h];rfl],by dsimp only;rw[show u.rq=d.rq by rcases hd with h|⟨a,_,h⟩<;>rw[h];rfl];exact TA.refl _⟩
def V4 {s:Int} (I:qR c d) (a:List Int) (M:Dq d i f4 a) (p:Ms) (k:Int) (u:xP) (hi:qR c u) (L:u.rg.ag=d.rg.ag) (G:u.rg.num=d.rg.num)
 (O:Y9 d i f4 a ⟨u,p,k,0⟩) (hk:k= -1\/(i.kind=11/\0<=k/\k<(ln c.js:Int))) (A:ln u.dr<=ln d.dr) (C:Lb d u)
 (h1:zO 218 [wO c,zK d,iA s,wK i,iA f4] [] (hT u p k 0) []) (h2:Le c d s f4 i ⟨u,p,k,0⟩) (z:u.au=d.au) (B:TA d.rq u.rq):∃h,OL c d s i f4 h/\Py c d s i f4 h:=by
 have E:=Ty c d s f4 i I.bd u p k 0 h1;rw[bh,G]at E;exact⟨⟨u,p,k,0⟩,⟨E,h2⟩,hi,L,G,λh=>absurd Z h,λ_=>⟨a,M,O⟩,hk,A,C,λ_=>by dsimp only;omega,λ_ _=>by dsimp only;rw[z],B⟩
