/- Part 27. -/
import Derived.Test.YtmamjhmoegjapaaGreatP26
import Derived.Test.YtmamjhmoegjapaaGreatP16
import Derived.Test.YtmamjhmoegjapaaGreatP25
import Derived.Test.YtmamjhmoegjapaaGreatP01
import Derived.Test.YtmamjhmoegjapaaGreatP23
import Derived.Test.YtmamjhmoegjapaaGreatP24
import Derived.Test.YtmamjhmoegjapaaGreatP12
import Derived.Test.YtmamjhmoegjapaaGreatP22
namespace Go.Proofs.YtmamjhmoegjapaaGreat
namespace Av
open Tryz
set_option linter.unusedSimpArgs false
set_option linter.unusedVariables false
set_option maxRecDepth 4000
set_option maxHeartbeats 4000000
def XI {α:Type} (p:α->Bool) (l:List α):Int:=if l.any p=true then(l.findIdx p:Int)else -1
theorem QV {α:Type} {p:α->Bool} {l pre post:List α} {x:α} (h:l=pre++x::post) (hn:∀y∈pre,p y=false) (hx:p x=true):XI p l=(pre.length:Int):=by
 subst h;have h1:(pre++x::post).any p=true:=by simp[hx]
 have h2:pre.findIdx p=pre.length:=List.findIdx_eq_length.2 (λy hy=>by simpa using hn y hy);unfold XI;rw[zX1 h1,List.findIdx_append,h2,zX0 zB,List.findIdx_cons,hx];simp
theorem UT {α:Type} {p:α->Bool} {l:List α} (hn:∀y∈l,p y=false):XI p l= -1:=by
 unfold XI;rw[zX0 CE]
theorem QW {α:Type} (p:α->Bool) (l:List α):(0<=XI p l)=(l.any p=true):=by
 unfold XI
 split<;>simp_all
theorem KT {α:Type} (p:α->Bool) (l:List α): -1<=XI p l/\XI p l<=l.length:=by
 unfold XI;have:=List.findIdx_le_length (p:=p) (xs:=l)
 split<;>omega
theorem zDk (l:List Cl) (hb:l.length<=1073741824):zN 241 [zD dT l,.fn 222 []] [] (iA (XI (λc=>YW c.k) l)) []:=by
 have hl:=zA dT l;refine eM call241 λF hF=>?_
 refine WW ?_;refine qM (l) [] [] [0,1,7] [8,0,1,7] rfl (λi pre T U zs=>(∀y∈pre,YW y.k=false)/\zs=⟨(8,iA i)::T,U⟩) ?_;(conv=>whnf);refine⟨?_,?_,?_⟩
 ·exact⟨by simp,rfl⟩
 ·rintro i pre x post st hx hi ⟨hp,rfl⟩;have hy:=yI dT hx hi;have hlt:=yB hx hi;have c:=kK x;have hit:=QV (p:=λc=>YW c.k) hx hp
  cases he:YW x.k<;>rw[he]at c
  ·(refine zU c ?_)
   exact⟨λy hy=>by simp at hy;rcases hy with hy|rfl;exact hp y hy;exact he,rfl⟩
  ·rw[hit he,hi];refine zU c ?_;exact zJ
 ·rintro st ⟨hp,rfl⟩;rw[UT hp];refine WW ?_;exact zJ
theorem KU (l:List Cl) (hb:l.length<=1073741824):zN 223 [zD dT l,.fn 222 []] [] (bA (l.any λc=>YW c.k)) []:=by
 have c:=zDk l hb;have h:=QW (λc:Cl=>YW c.k) l;have h2:=KT (λc:Cl=>YW c.k) l;generalize XI (λc:Cl=>YW c.k) l=n at*
 cases ha:(l.any λc=>YW c.k)<;>rw[ha]at h<;>simp at h
 ·(refine eM call223 λF hF=>?_)
  refine zU c ?_;exact zJ
 ·(refine eM call223 λF hF=>?_)
  refine zU c ?_;exact zJ
def bZ (s:Sv):xN:= .box [iA s.ph,iA s.gr,zD iA s.en]
theorem zF5 (s:Sv) (x:Cl):zN 220 [dT x,.ptr 4 0 0] [(4,bZ s)] (bA (x.ph==s.ph)) [(4,bZ s)]:=by
 refine eM call220 λF hF=>?_
 refine WW ?_;exact zL [4] rfl rfl rfl rfl
theorem zF6 (s:Sv) (x:Cl):zN 221 [dT x,.ptr 7 0 0] [(7,.box [.fn 220 [.ptr 4 0 0]]),(4,bZ s)] (bA (x.ph==s.ph&&YW x.k)) [(7,.box [.fn 220 [.ptr 4 0 0]]),(4,bZ s)]:=by
 have c:=zF5 s x;have e:=kK x
 cases h:(x.ph==s.ph)<;>rw[h]at c
 ·(refine eM call221 λF hF=>?_)
  refine yQ (wZ c e) ?_;exact zL [7,4] rfl rfl rfl rfl
 ·rw[zYp];refine eM call221 λF hF=>?_
  refine yQ (wZ c e) ?_;exact zL [7,4] rfl rfl rfl rfl
theorem FD (s:Sv) (l:List Cl) (hb:l.length<=1073741824):zN 241 [zD dT l,.fn 220 [.ptr 4 0 0]] [(4,bZ s)] (iA (XI (λx:Cl=>x.ph==s.ph) l)) [(4,bZ s)]:=by
 have hl:=zA dT l;refine eM call241 λF hF=>?_
 refine WW ?_;refine qM (l) [4] [4] [0,1,7] [8,0,1,7] rfl (λi pre T U zs=>(∀y∈pre,((λx:Cl=>x.ph==s.ph)) y=false)/\zs=⟨(8,iA i)::T,U⟩) ?_;(conv=>whnf);refine⟨?_,?_,?_⟩
 ·exact⟨by simp,rfl⟩
 ·rintro i pre x post st hx hi ⟨hp,rfl⟩;have hy:=yI dT hx hi;have hlt:=yB hx hi;have c:=zF5 s x;have hit:=QV (p:=(λx:Cl=>x.ph==s.ph)) hx hp
  try dsimp only at hit
  cases he:((λx:Cl=>x.ph==s.ph)) x<;>(dsimp only at he;rw[he]at c)
  ·(refine zU c ?_)
   exact⟨λy hy=>by simp only[zYl,zYz]at hy;rcases hy with hy|rfl;exact hp y hy;exact he,rfl⟩
  ·rw[hit he,hi];refine zU c ?_;exact zL [4] rfl rfl rfl rfl
 ·rintro st ⟨hp,rfl⟩;rw[UT hp];refine WW ?_;exact zL [4] rfl rfl rfl rfl
theorem QX (s:Sv) (l:List Cl) (hb:l.length<=1073741824):zN 223 [zD dT l,.fn 220 [.ptr 4 0 0]] [(4,bZ s)] (bA (l.any (λx:Cl=>x.ph==s.ph))) [(4,bZ s)]:=by
 have c:=FD s l hb;have h:=QW (λx:Cl=>x.ph==s.ph) l;have h2:=KT (λx:Cl=>x.ph==s.ph) l;generalize XI (λx:Cl=>x.ph==s.ph) l=n at*
 cases ha:l.any (λx:Cl=>x.ph==s.ph)<;>rw[ha]at h<;>simp at h
 ·(refine eM call223 λF hF=>?_)
  refine zU c ?_;exact zL [4] rfl rfl rfl rfl
 ·(refine eM call223 λF hF=>?_)
  refine zU c ?_;exact zL [4] rfl rfl rfl rfl
theorem BP (s:Sv) (l:List Cl) (hb:l.length<=1073741824):zN 241 [zD dT l,.fn 221 [.ptr 7 0 0]] [(7,.box [.fn 220 [.ptr 4 0 0]]),(4,bZ s)] (iA (XI (λx:Cl=>x.ph==s.ph&&YW x.k) l)) [(7,.box [.fn 220 [.ptr 4 0 0]]),(4,bZ s)]:=by
 have hl:=zA dT l;refine eM call241 λF hF=>?_
 refine WW ?_;refine qM (l) [7,4] [7,4] [0,1,7] [8,0,1,7] rfl (λi pre T U zs=>(∀y∈pre,((λx:Cl=>x.ph==s.ph&&YW x.k)) y=false)/\zs=⟨(8,iA i)::T,U⟩) ?_;(conv=>whnf);refine⟨?_,?_,?_⟩
 ·exact⟨by simp,rfl⟩
 ·rintro i pre x post st hx hi ⟨hp,rfl⟩;have hy:=yI dT hx hi;have hlt:=yB hx hi;have c:=zF6 s x;have hit:=QV (p:=(λx:Cl=>x.ph==s.ph&&YW x.k)) hx hp
  try dsimp only at hit
  cases he:((λx:Cl=>x.ph==s.ph&&YW x.k)) x<;>(dsimp only at he;rw[he]at c)
  ·(refine zU c ?_)
   exact⟨λy hy=>by simp only[zYl,zYz]at hy;rcases hy with hy|rfl;exact hp y hy;exact he,rfl⟩
  ·rw[hit he,hi];refine zU c ?_;exact zL [7,4] rfl rfl rfl rfl
 ·rintro st ⟨hp,rfl⟩;rw[UT hp];refine WW ?_;exact zL [7,4] rfl rfl rfl rfl
theorem NX (s:Sv) (l:List Cl) (hb:l.length<=1073741824):zN 223 [zD dT l,.fn 221 [.ptr 7 0 0]] [(7,.box [.fn 220 [.ptr 4 0 0]]),(4,bZ s)] (bA (l.any (λx:Cl=>x.ph==s.ph&&YW x.k))) [(7,.box [.fn 220 [.ptr 4 0 0]]),(4,bZ s)]:=by
 have c:=BP s l hb;have h:=QW (λx:Cl=>x.ph==s.ph&&YW x.k) l;have h2:=KT (λx:Cl=>x.ph==s.ph&&YW x.k) l;generalize XI (λx:Cl=>x.ph==s.ph&&YW x.k) l=n at*
 cases ha:l.any (λx:Cl=>x.ph==s.ph&&YW x.k)<;>rw[ha]at h<;>simp at h
 ·(refine eM call223 λF hF=>?_)
  refine zU c ?_;exact zL [7,4] rfl rfl rfl rfl
 ·(refine eM call223 λF hF=>?_)
  refine zU c ?_;exact zL [7,4] rfl rfl rfl rfl
def MW (g:Cf) (s:Sv) (l:List Cl):Bool:=!(l.any λx=>x.ph==s.ph)||decide (g.hold<=s.gr)||((l.any λc=>YW c.k)&& !(l.any λx=>x.ph==s.ph&&YW x.k))
theorem zRl (g:Cf) (s:Sv) (l:List Cl) (hb:l.length<=1073741824):zN 195 [wP g,wT s,zD dT l] [] (bA (MW g s l)) []:=by
 have c1:=QX s l hb;have c2:=NX s l hb;have c3:=KU l hb;unfold MW;generalize (l.any λx=>x.ph==s.ph)=m at *;generalize (l.any λx=>x.ph==s.ph&&YW x.k)=u at *;generalize (l.any λc=>YW c.k)=e at *;by_cases h:g.hold<=s.gr
 ·rw[zX8 h]
  cases m<;>cases u<;>cases e<;>(simp only[yCv,yCs,yAm,yBa,yAk,yB5,yBz];(refine eM call195 λF hF=>?_);(refine yQ (fB c1 c3 c2) ?_);exact zJ)
 ·rw[zYa h]
  cases m<;>cases u<;>cases e<;>(simp only[yCv,yCs,yAm,yBa,yAk,yDg,yB5,yBz];(refine eM call195 λF hF=>?_);(refine yQ (fB c1 c3 c2) ?_);exact zJ)
def fY (g:Cf) (s:Sv) (l:List Cl) (now:Int):Sv:=if s.ph≠ -1/\MW g s l=true then fJ s now else s
def kI (g:Cf) (s:Sv) (l:List Cl) (now:Int):Sv:=
 if(fY g s l now).ph= -1/\0<=kL g (fY g s l now) now l l.length then⟨(l.getD (kL g (fY g s l now) now l l.length).toNat default).ph,0,(fY g s l now).en⟩else fY g s l now
theorem UU (s:Sv) (now:Int):(fJ s now).en.length=s.en.length:=by unfold fJ;dsimp only;split<;>simp
theorem zF7 (g:Cf) (s:Sv) (l:List Cl) (now:Int):(fY g s l now).en.length=s.en.length:=by unfold fY;split;exact UU s now;rfl
structure DcB (g:Cf) (s:Sv) (l:List Cl) (now:Int):Prop where
 p:1<=g.per
 c0: -1000000<=g.cap
 c1:g.cap<=1000000
 n0:0<=now
 n1:now<=1000000000
 en:∀e∈s.en,-1<=e/\e<=now
 k:∀c∈l,0<=c.k/\c.k<=3
 si:∀c∈l,0<=c.si/\c.si<=now
 len:l.length<=1000
 sl:s.en.length<=1000
theorem QY (s:Sv) (now:Int) (h0:0<=now) (h:∀e∈s.en,-1<=e/\e<=now):∀e∈(fJ s now).en,-1<=e/\e<=now:=by
 unfold fJ;dsimp only;split
 ·intro e he
  rcases yA8 he with he|rfl
  ·exact h e he
  ·omega
 ·exact h
theorem zBl (g:Cf) (s:Sv) (l:List Cl) (now:Int) (h0:0<=now) (h:∀e∈s.en,-1<=e/\e<=now):∀e∈(fY g s l now).en,-1<=e/\e<=now:=by
 unfold fY;split;exact QY s now h0 h;exact h
theorem DcB.ok {g:Cf} {s:Sv} {l:List Cl} {now:Int} (H:DcB g s l now) (s':Sv) (he:∀e∈s'.en,-1<=e/\e<=now):∀i,i<l.length->COk g.per now s'.en (l.getD i default):=λi hi=>by
 have hk:=ZW (λc:Cl=>0<=c.k/\c.k<=3) default l i H.k hi;have hs:=ZW (λc:Cl=>0<=c.si/\c.si<=now) default l i H.si hi;have he:=zMd s'.en now (l.getD i default).ph H.n0 he;have:=H.p;have:=H.n0;have:=H.n1
 constructor<;>(try unfold VF)<;>omega
theorem zF8 (g:Cf) (s:Sv) (l:List Cl) (now:Int) (H:DcB g s l now):zN 161 [wP g,wT s,zD dT l,iA now] [] (wT (kI g s l now)) []:=by
 have hb:SvB s:=⟨by have:=H.sl;omega⟩;have c1:=VI s hb;have c2:=zRl g s l (by have:=H.len;omega);have c3:=zGr s hb now;have hl:=zA dT l;have hll:=H.len;have he:=zBl g s l now H.n0 H.en;have c4:=zR0 g (fY g s l now) now l zB (H.ok _ he);have hbd:=VH g (fY g s l now) now l l.length
 have hd:fY g s l now=if s.ph≠ -1/\MW g s l=true then fJ s now else s:=rfl
 unfold kI;generalize fY g s l now=s1 at *;generalize kL g s1 now l l.length=b at *;generalize MW g s l=ov at *;generalize fJ s now=s2 at *;by_cases h1:s.ph= -1
 ·rw[zX0 (by simp[h1])]at hd;subst hd;by_cases h2:0<=b
  ·rw[zX1 ⟨h1,h2⟩];have hy:=yM dT l b h2 zB;generalize l.getD b.toNat default=cl at *;refine eM call161 λF hF=>?_
   refine yQ (wZ c1 c4) ?_;exact zJ
  ·rw[zX0 (λh=>h2 h.2)];refine eM call161 λF hF=>?_
   refine yQ (wZ c1 c4) ?_;exact zJ
 cases ov with
 |false=>
  rw[zX0 zS]at hd;subst hd;rw[zX0 (λh=>h1 h.1)];refine eM call161 λF hF=>?_
  refine yQ (wZ c1 c2) ?_;exact zJ
 | true=>
  rw[zX1 ⟨h1,rfl⟩]at hd;subst hd;by_cases h3:s1.ph= -1
  ·by_cases h2:0<=b
   ·rw[zX1 ⟨h3,h2⟩];have hy:=yM dT l b h2 zB;generalize l.getD b.toNat default=cl at *;refine eM call161 λF hF=>?_
    refine yQ (aB c1 c2 c3 c4) ?_;exact zJ
   ·rw[zX0 (λh=>h2 h.2)];refine eM call161 λF hF=>?_
    refine yQ (aB c1 c2 c3 c4) ?_;exact zJ
  ·rw[zX0 (λh=>h3 h.1)];refine eM call161 λF hF=>?_
   refine yQ (aB c1 c2 c3 c4) ?_;exact zJ
theorem zBm (g:Cf) (s:Sv) (l:List Cl) (now:Int):(kI g s l now).en=(fY g s l now).en:=by unfold kI;split<;>rfl
theorem VE (g:Cf) (s:Sv) (l:List Cl) (now:Int):(kI g s l now).en.length=s.en.length:=by rw[zBm];exact zF7 g s l now
theorem BQ (g:Cf) (s:Sv) (l:List Cl) (now:Int):(fY g s l now=s∨(s.ph≠ -1/\MW g s l=true/\fY g s l now=fJ s now)):=by
 unfold fY;split
 ·rename_i h;exact .inr ⟨h.1,h.2,rfl⟩
 ·exact .inl rfl
theorem zBn (g:Cf) (s:Sv) (l:List Cl) (now:Int):(fY g s l now).ph=s.ph/\(fY g s l now).gr=s.gr∨(fY g s l now).ph= -1/\(fY g s l now).gr=0:=by
 rcases BQ g s l now with hd|⟨_,_,hd⟩
 ·exact .inl (by rw[hd];exact⟨rfl,rfl⟩)
 ·exact .inr (by rw[hd];exact⟨rfl,rfl⟩)
theorem zRm (g:Cf) (s:Sv) (l:List Cl) (now:Int) (n:Int) (hl:∀c∈l,0<=c.ph/\c.ph<n) (h: -1<=s.ph/\s.ph<n/\0<=s.gr/\s.gr<=60) (h0:0<=n): -1<=(kI g s l now).ph/\(kI g s l now).ph<n/\0<=(kI g s l now).gr/\(kI g s l now).gr<=60:=by
 have h1:=zBn g s l now;have hb:=VH g (fY g s l now) now l l.length;unfold kI;split
 ·rename_i hh;have:=ZW (λc:Cl=>0<=c.ph/\c.ph<n) default l (kL g (fY g s l now) now l l.length).toNat hl zB;dsimp only;omega
 ·omega
theorem zF9 (g:Cf) (s:Sv) (l:List Cl) (now:Int) (h0:0<=now) (h:∀e∈s.en,-1<=e/\e<=now):∀e∈(kI g s l now).en,-1<=e/\e<=now:=by rw[zBm];exact zBl g s l now h0 h
theorem zRn (s:Sv) (b:Bool):(dO s b).en=s.en/\(dO s b).ph=s.ph:=by unfold dO;split<;>exact⟨rfl,rfl⟩
theorem zRo (s:Sv) (b:Bool) (h:0<=s.gr/\s.gr<=60):0<=(dO s b).gr/\(dO s b).gr<=60:=by unfold dO;split;(dsimp only;omega);exact h
theorem zU6 (s:Sv) (b:Bool) (hz:s.ph= -1->s.gr=0):(dO s b).ph= -1->(dO s b).gr=0:=by
 unfold dO;split
 ·rename_i h;intro h2;exact absurd h2 h.2
 ·exact hz
theorem zU7 (g:Cf) (s:Sv) (l:List Cl) (now:Int) (hz:s.ph= -1->s.gr=0):(kI g s l now).ph= -1->(kI g s l now).gr=0:=by
 have h1:=zBn g s l now;unfold kI;split
 ·exact λ_=>rfl
 ·intro h2;rcases h1 with h1|h1
  ·rw[h1.2];exact hz zB
  ·exact h1.2
structure EI (n:Nat) (d:Dk) (s:Sv) (now:Int):Prop where
 len:s.en.length=n
 en:∀e∈s.en,-1<=e/\e<now
 p0: -1<=s.ph
 p1:s.ph<n
 g0:0<=s.gr
 g1:s.gr<=60
 n0:1<=now
 n1:now+rem d<=301
 z:s.ph= -1->s.gr=0
theorem EI.next {n:Nat} {d:Dk} {s:Sv} {now:Int} (H:EI n d s now) (g:Cf) (c:List Cl) (hcl:∀x∈c,ClB n now x) (b:Bool) (d':Dk) (hd:rem d'+1<=rem d):EI n d' (dO (kI g s c now) b) (now+1):=by
 have hp:=zRm g s c now n (λx hx=>⟨(hcl x hx).p0,(hcl x hx).p1⟩) ⟨H.p0,H.p1,H.g0,H.g1⟩ zB;have hg:=zRo (kI g s c now) b hp.2.2;obtain⟨e1,e2⟩:=zRn (kI g s c now) b;have:=H.n0;have:=H.n1;have he:=zF9 g s c now zB (λe he=>by have:=H.en e he;omega);refine⟨by rw[e1,VE];exact H.len,λe h=>?_,zB,zB,zB,zB,zB,zB,λh=>?_⟩
 case refine_2=>exact zU6 _ b (zU7 g s c now H.z) h
 rw[e1]at h;have:=he e h;omega
theorem zBo (s:Sg) (h1:s.c.li.length<=1073741824) (h2:s.c.nx.length<=1073741824):zN 104 [wV s] [] (wV s) []:=by
 have c1:=LA s.c.li h1;have c2:=MZ s.c.nx h2;refine eM call104 λF hF=>?_
 refine yQ (wZ c1 c2) ?_;exact zJ
def grB (s:Sg) (v:Sv):Bool:=decide (0<=v.ph/\v.ph<s.c.li.length)&&((xY s.c v.ph.toNat).lamp==1)
def dvF (g:Cf) (j:Jn) (s:Sg) (v:Sv) (l:List Cl) (k now:Int):Sg×Sv:=
 if s.lat=true then(s,fJ v now)
 else if(sjF j s (kI g v l now).ph k).lat=true then(sjF j s (kI g v l now).ph k,fJ (kI g v l now) now)
 else(sjF j s (kI g v l now).ph k,dO (kI g v l now) (grB (sjF j s (kI g v l now).ph k) (kI g v l now)))
theorem zLx (g:Cf) (j:Jn) (J:JV j) (s:Sg) (C:CV j s.c) (v:Sv) (l:List Cl) (k now:Int) (H:DcB g v l now) (hgr: -1000000<=(kI g v l now).gr):zN 112 [wP g,wH j,wV s,wT v,zD dT l,iA k,iA now] [] (.tup [wV (dvF g j s v l k now).1,wT (dvF g j s v l k now).2]) []:=by
 have hJ:=J.n;have hn:=C.n;have hm:=C.m;have hb:SvB v:=⟨by have:=H.sl;omega⟩;have hb2:SvB (kI g v l now):=⟨by rw[VE];have:=H.sl;omega⟩;have c0:=zBo s zB zB;have c1:=zGr v hb now;have c2:=zF8 g v l now H;have c3:=zL9 j J s C (kI g v l now).ph k;have c4:=zGr (kI g v l now) hb2 now;have c5:=zMe (kI g v l now) hb2 (grB (sjF j s (kI g v l now).ph k) (kI g v l now)) hgr;have X:=zVb J C (kI g v l now).ph k;have hxn:=X.n;unfold dvF;generalize fJ v now=v0 at *;generalize kI g v l now=v1 at *;generalize fJ v1 now=v2 at *;generalize sjF j s v1.ph k=x at *;have hgb:grB x v1=(decide (0<=v1.ph/\v1.ph<x.c.li.length)&&((xY x.c v1.ph.toNat).lamp==1)):=rfl;generalize grB x v1=b at *;generalize dO v1 b=v3 at *;clear H hgr X C hb hb2;obtain⟨sc,sl⟩:=s;obtain⟨xc,xl⟩:=x;dsimp only at *;have hlx:=zA vF xc.li
 cases sl with
 |true=>
  rw[zX1 rfl];refine eM call112 λF hF=>?_
  refine yQ (wZ c0 c1) ?_;exact zJ
 |false=>
 rw[zX0 zYk]
 cases xl with
 |true=>
  rw[zX1 rfl];refine eM call112 λF hF=>?_
  refine yQ (fB c2 c3 c4) ?_;exact zJ
 |false=>
 rw[zX0 zYk];dsimp only;rw[show wV ⟨xc,false⟩= .agg [zD vF xc.li,iA xc.gr,zD iA xc.nx,iA xc.wt,bA false]from rfl]at *; by_cases h1:0<=v1.ph
 case neg=>
  rw[zYa (λh=>h1 h.1),zZw]at hgb;subst hgb;refine eM call112 λF hF=>?_
  refine yQ (fB c2 c3 c5) ?_;exact zJ
 by_cases h2:v1.ph<xc.li.length
 case neg=>
  rw[zYa (λh=>h2 h.2),zZw]at hgb;subst hgb;refine eM call112 λF hF=>?_
  refine yQ (fB c2 c3 c5) ?_;exact zJ
 rw[zX8 ⟨h1,h2⟩,zYp]at hgb;have hy:=yM vF xc.li v1.ph h1 h2
 change (xc.li.map vF)[v1.ph.toNat]? =some (vF (xY xc v1.ph.toNat))at hy
 generalize xY xc v1.ph.toNat=a at *;by_cases h3:a.lamp=1
 ·rw[show(a.lamp==1)=true by rw[zZg];exact h3]at hgb;subst hgb;refine eM call112 λF hF=>?_
  refine yQ (fB c2 c3 c5) ?_;exact zJ
 ·rw[show(a.lamp==1)=false by rw[zY9];exact h3]at hgb;subst hgb;refine eM call112 λF hF=>?_
  refine yQ (fB c2 c3 c5) ?_;exact zJ
theorem zU8 {j:Jn} (J:JV j) {s:Sg} (C:CV j s.c) (g:Cf) (v:Sv) (c:List Cl) (k now:Int):CV j (dvF g j s v c k now).1.c:=by
 unfold dvF;split
 ·exact C
 ·split<;>exact zVb J C _ _
def ph2:Ph:=⟨0,0,1,1,1,0,0,0⟩
def j2:Jn:=⟨[ph2],[0],0⟩
structure Ss where
 op:Bool
 dr:Bool
 bf:List Int
 gb:Bool
instance:Inhabited Ss:=⟨⟨false,false,[],false⟩⟩
def kZ (m n:Nat):Nat:=min n (256-m)
def XJ (s:Ss) (b:List Int):Ss:=if s.op=true then⟨true,s.dr||decide (kZ s.bf.length b.length≠b.length),s.bf++b.take (kZ s.bf.length b.length),s.gb⟩else s
theorem zLy {m a b:Nat} (h:m<=256):kZ m (a+b)=kZ m a+kZ (m+kZ m a) b:=by
 unfold kZ;omega
theorem zLz {s:Ss} (h:s.bf.length<=256) (b:List Int):(XJ s b).bf.length<=256:=by
 unfold XJ;split
 ·simp only[zX3,zYo];unfold kZ;omega
 ·exact h
theorem zL0 {s:Ss} (h:s.bf.length<=256) (a b:List Int):XJ (XJ s a) b=XJ s (a++b):=by
 unfold XJ;by_cases ho:s.op=true
 ·simp only[zX1 ho,yC2,zX3]
  have hl:(a.take (kZ s.bf.length a.length)).length=kZ s.bf.length a.length:=by
   rw[zYo];unfold kZ;omega
  rw[hl];have e:=zLy (a:=a.length) (b:=b.length) h;have k1:kZ s.bf.length a.length<=a.length:=Nat.min_le_left ..;have k2:kZ (s.bf.length+kZ s.bf.length a.length) b.length<=b.length:=Nat.min_le_left ..
  congr 1
  ·rw[Bool.or_assoc];congr 1;rw[e];by_cases h1:kZ s.bf.length a.length=a.length
   ·rw[zYa zB,yBa];by_cases h2:kZ (s.bf.length+kZ s.bf.length a.length) b.length=b.length
    ·rw[zYa zB,zYa zB]
    ·rw[zX8 zB,zX8 zB]
   ·rw[zX8 zB,yAm,zX8 zB]
  ·rw[zYv,e]
   congr 1
   by_cases h1:kZ s.bf.length a.length=a.length
   ·rw[h1,zX7,List.take_length_add_append]
   ·have z:kZ (s.bf.length+kZ s.bf.length a.length) b.length=0:=by unfold kZ at *;omega
    rw[z,yAp,zY5,yAr,yAc k1]
 ·simp only[zX0 ho]
theorem BR (l:List Vw) (hl:l.length<=1073741824):zN 136 [zD vM l] [] (.ref 1001 0 (l.map vM).length) [(1001,.arr 4 (l.map vM) false)]:=by
 have hll:=zA vM l;refine eM call136 λF hF=>?_
 refine xA 0 rfl (λcap hx=>?_) ?_
 ·have:l=[]:=by simpa using hx
  subst this
  (repeat' (first|refine WZN ?_|refine xO (λhc=>?_) (λhc=>?_)|refine wB (λhc=>?_)|fail))
  refine uM 2 1001 4 rfl rfl rfl (yU ?_);exact zL [1001] rfl rfl rfl rfl
 ·repeat' (first|(refine zE ?_;first|refine vN tok rfl rfl ?_|(refine wW ?_;refine xI (yX tok (.inl ⟨rfl,rfl⟩) rfl rfl rfl rfl) rfl ?_)|(refine yS ?_;refine uN (nw:=[1001]) (yL tok 1001 (xs:=[]) rfl rfl rfl rfl rfl rfl rfl rfl rfl) rfl rfl rfl ?_)|(refine yV ?_;refine wO tok rfl rfl rfl rfl rfl rfl rfl (xT _ _ (λ_=>rfl)) rfl rfl rfl zB rfl ?_)|refine qF ?_)|(first|refine xS ?_|refine xD ?_|refine vD rfl ?_|refine zX rfl ?_|refine zQ rfl ?_|refine xK rfl (λhc=>?_) (λhc=>?_)|refine yY ?_|refine yU ?_|refine xE ?_|refine yT ?_))
  exact zL [1001] rfl rfl rfl rfl
theorem ZV (l:List Vw) (hn:l.length<=1000) (hb:∀v∈l,v.co.length<=1000/\v.cn.length<=1000):zN 81 [zD vM l] [] (zD vM l) []:=by
 have c:=BR l zB;have hll:=zA vM l;refine eM call81 λF hF=>?_
 refine zU c ?_;refine zP ((l.map vM).length) [1001] [] [0,7] [8,0,7] rfl (λi T U=>⟨(8,iA i)::T,(1001,.arr 4 (kY i (l.map vM)) false)::U⟩) ?_;(conv=>whnf);refine⟨by rfl,?_,?_⟩
 ·intro i hi;have hi':i<l.length:=by omega
  have hy:(kY i (l.map vM))[i]? =some (vM (l.getD i default)):=zM vM l i hi';have e:=kO vM l i hi';have hbb:=hb (l.getD i default) aI;have c1:=VQ (l.getD i default).co zB;have c2:=VQ (l.getD i default).cn zB;generalize (l.getD i default)=t at *;generalize kY i (l.map vM)=xs at *;generalize kY (i+1) (l.map vM)=ys at *;have hs:=dD hy;have hy2:(xs.set i (.agg [bA t.fl,bA t.ov,zD iA t.co,zD iA t.cn]))[i]? =some (vM t):=by rw[show AV.agg [bA t.fl,bA t.ov,zD iA t.co,zD iA t.cn]=vM t from rfl,hs];exact hy
  have e2:(xs.set i (.agg [bA t.fl,bA t.ov,zD iA t.co,zD iA t.cn])).set i (.agg [bA t.fl,bA t.ov,zD iA t.co,zD iA t.cn])=ys:=by rw[yB1];exact e
  clear e hs;subst e2;refine yQ (wZ c1 c2) ?_;rfl
 ·(refine WW ?_)
  exact zI [] rfl rfl (zY0 (AV.sl false) zX7) rfl
def kJ (s:Ss):AV:= .agg [bA s.op,bA s.dr,zD yA s.bf,bA s.gb]
theorem KV (s:Ss) (h:s.bf.length<=1000):zN 58 [kJ s] [] (kJ s) []:=by
 have c:=vB s.bf zB;unfold kJ;refine eM call58 λF hF=>?_
 refine zU c ?_;exact zJ
structure Ev where
 k:Int
 s:Int
 a:Int
 b:Int
 y:List Int
instance:Inhabited Ev:=⟨⟨0,0,0,0,[]⟩⟩
def vU (e:Ev):AV:= .agg [iA e.k,iA e.s,iA e.a,iA e.b,zD yA e.y]
structure Cy where
 c:Cf
 rf:Bool
 now:Int
 ds:List xQ
 sg:List Sg
 sv:List Sv
 st:List Int
 vw:List Vw
instance:Inhabited xQ:=⟨⟨⟨0,⟨[],0,0,[],0,0,0,0⟩,[],[],⟨0,0,0⟩⟩,[],[],[]⟩⟩
instance:Inhabited Sg:=⟨⟨⟨[],0,[],0⟩,false⟩⟩
instance:Inhabited Sv:=⟨⟨-1,0,[]⟩⟩
def aR (c:Cf) (rf:Bool) (now:Int) (a b s t v:AV):AV:= .agg [zD wH c.js,zD vC c.ags,iA c.per,iA c.cap,iA c.hold,iA c.lock,bA rf,iA now,a,b,s,t,v]
def uF (y:Cy):AV:=aR y.c y.rf y.now (zD zK y.ds) (zD wV y.sg) (zD wT y.sv) (zD iA y.st) (zD vM y.vw)
def zGa (y:Cy):AV:=aR y.c y.rf y.now (.ref 1011 0 (y.ds.map zK).length) (.ref 1012 0 (y.sg.map wV).length) (.ref 1013 0 (y.sv.map wT).length) (.ref 1014 0 (y.st.map iA).length) (zD vM y.vw)
def zGb (y:Cy):List (Nat×xN):=[(1011,.arr 17 (y.ds.map zK) false),(1012,.arr 5 (y.sg.map wV) false),(1013,.arr 3 (y.sv.map wT) false),(1014,.arr 1 (y.st.map iA) false)]
structure CyB (y:Cy):Prop where
 d:y.ds.length<=1000
 db:∀d∈y.ds,eE d
 g:y.sg.length<=1000
 gb:∀s∈y.sg,s.c.li.length<=1000/\s.c.nx.length<=1000
 s:y.sv.length<=1000
 sb:∀s∈y.sv,s.en.length<=1000
 t:y.st.length<=1000
 v:y.vw.length<=1000
 vb:∀v∈y.vw,v.co.length<=1000/\v.cn.length<=1000
theorem aS (l:List xQ) (hl:l.length<=1073741824):zN 101 [zD zK l] [] (.ref 1011 0 (l.map zK).length) [(1011,.arr 17 (l.map zK) false)]:=by
 have hll:=zA zK l;refine eM call101 λF hF=>?_
 refine xA 0 rfl (λcap hx=>?_) ?_
 ·have:l=[]:=by simpa using hx
  subst this
  (repeat' (first|refine WZN ?_|refine xO (λhc=>?_) (λhc=>?_)|refine wB (λhc=>?_)|fail))
  refine uM 2 1011 17 rfl rfl rfl (yU ?_);exact zL [1011] rfl rfl rfl rfl
 ·repeat' (first|(refine zE ?_;first|refine vN tok rfl rfl ?_|(refine wW ?_;refine xI (yX tok (.inl ⟨rfl,rfl⟩) rfl rfl rfl rfl) rfl ?_)|(refine yS ?_;refine uN (nw:=[1011]) (yL tok 1011 (xs:=[]) rfl rfl rfl rfl rfl rfl rfl rfl rfl) rfl rfl rfl ?_)|(refine yV ?_;refine wO tok rfl rfl rfl rfl rfl rfl rfl (xT _ _ (λ_=>rfl)) rfl rfl rfl zB rfl ?_)|refine qF ?_)|(first|refine xS ?_|refine xD ?_|refine vD rfl ?_|refine zX rfl ?_|refine zQ rfl ?_|refine xK rfl (λhc=>?_) (λhc=>?_)|refine yY ?_|refine yU ?_|refine xE ?_|refine yT ?_))
  exact zL [1011] rfl rfl rfl rfl
theorem aT (l:List Sg) (hl:l.length<=1073741824):zN 103 [zD wV l] [] (.ref 1012 0 (l.map wV).length) [(1012,.arr 5 (l.map wV) false)]:=by
 have hll:=zA wV l;refine eM call103 λF hF=>?_
 refine xA 0 rfl (λcap hx=>?_) ?_
 ·have:l=[]:=by simpa using hx
  subst this
  (repeat' (first|refine WZN ?_|refine xO (λhc=>?_) (λhc=>?_)|refine wB (λhc=>?_)|fail))
  refine uM 2 1012 5 rfl rfl rfl (yU ?_);exact zL [1012] rfl rfl rfl rfl
 ·repeat' (first|(refine zE ?_;first|refine vN tok rfl rfl ?_|(refine wW ?_;refine xI (yX tok (.inl ⟨rfl,rfl⟩) rfl rfl rfl rfl) rfl ?_)|(refine yS ?_;refine uN (nw:=[1012]) (yL tok 1012 (xs:=[]) rfl rfl rfl rfl rfl rfl rfl rfl rfl) rfl rfl rfl ?_)|(refine yV ?_;refine wO tok rfl rfl rfl rfl rfl rfl rfl (xT _ _ (λ_=>rfl)) rfl rfl rfl zB rfl ?_)|refine qF ?_)|(first|refine xS ?_|refine xD ?_|refine vD rfl ?_|refine zX rfl ?_|refine zQ rfl ?_|refine xK rfl (λhc=>?_) (λhc=>?_)|refine yY ?_|refine yU ?_|refine xE ?_|refine yT ?_))
  exact zL [1012] rfl rfl rfl rfl
theorem aU (l:List Sv) (hl:l.length<=1073741824):zN 105 [zD wT l] [] (.ref 1013 0 (l.map wT).length) [(1013,.arr 3 (l.map wT) false)]:=by
 have hll:=zA wT l;refine eM call105 λF hF=>?_
 refine xA 0 rfl (λcap hx=>?_) ?_
 ·have:l=[]:=by simpa using hx
  subst this
  (repeat' (first|refine WZN ?_|refine xO (λhc=>?_) (λhc=>?_)|refine wB (λhc=>?_)|fail))
  refine uM 2 1013 3 rfl rfl rfl (yU ?_);exact zL [1013] rfl rfl rfl rfl
 ·repeat' (first|(refine zE ?_;first|refine vN tok rfl rfl ?_|(refine wW ?_;refine xI (yX tok (.inl ⟨rfl,rfl⟩) rfl rfl rfl rfl) rfl ?_)|(refine yS ?_;refine uN (nw:=[1013]) (yL tok 1013 (xs:=[]) rfl rfl rfl rfl rfl rfl rfl rfl rfl) rfl rfl rfl ?_)|(refine yV ?_;refine wO tok rfl rfl rfl rfl rfl rfl rfl (xT _ _ (λ_=>rfl)) rfl rfl rfl zB rfl ?_)|refine qF ?_)|(first|refine xS ?_|refine xD ?_|refine vD rfl ?_|refine zX rfl ?_|refine zQ rfl ?_|refine xK rfl (λhc=>?_) (λhc=>?_)|refine yY ?_|refine yU ?_|refine xE ?_|refine yT ?_))
  exact zL [1013] rfl rfl rfl rfl
theorem aV (l:List Int) (hl:l.length<=1073741824):zN 107 [zD iA l] [] (.ref 1014 0 (l.map iA).length) [(1014,.arr 1 (l.map iA) false)]:=by
 have hll:=zA iA l;refine eM call107 λF hF=>?_
 refine xA 0 rfl (λcap hx=>?_) ?_
 ·have:l=[]:=by simpa using hx
  subst this
  (repeat' (first|refine WZN ?_|refine xO (λhc=>?_) (λhc=>?_)|refine wB (λhc=>?_)|fail))
  refine uM 2 1014 1 rfl rfl rfl (yU ?_);exact zL [1014] rfl rfl rfl rfl
 ·repeat' (first|(refine zE ?_;first|refine vN tok rfl rfl ?_|(refine wW ?_;refine xI (yX tok (.inl ⟨rfl,rfl⟩) rfl rfl rfl rfl) rfl ?_)|(refine yS ?_;refine uN (nw:=[1014]) (yL tok 1014 (xs:=[]) rfl rfl rfl rfl rfl rfl rfl rfl rfl) rfl rfl rfl ?_)|(refine yV ?_;refine wO tok rfl rfl rfl rfl rfl rfl rfl (xT _ _ (λ_=>rfl)) rfl rfl rfl zB rfl ?_)|refine qF ?_)|(first|refine xS ?_|refine xD ?_|refine vD rfl ?_|refine zX rfl ?_|refine zQ rfl ?_|refine xK rfl (λhc=>?_) (λhc=>?_)|refine yY ?_|refine yU ?_|refine xE ?_|refine yT ?_))
  exact zL [1014] rfl rfl rfl rfl
theorem aW (y:Cy) (h:CyB y):zN 60 [uF y] [] (uF y) []:=by
 have k1:=aS y.ds (by have:=h.d;omega);have k2:=aT y.sg (by have:=h.g;omega);have k3:=aU y.sv (by have:=h.s;omega);have k4:=aV y.st (by have:=h.t;omega);have k5:=ZV y.vw h.v h.vb;have hl1:=zA zK y.ds;have hl2:=zA wV y.sg;have hl3:=zA wT y.sv;have hl4:=zA iA y.st;have hd:=h.d;have hg:=h.g;have hs:=h.s;unfold uF aR;refine eM call60 λF hF=>?_
 refine zU k1 ?_;refine zP ((y.ds.map zK).length) [1011,1,2] [1,2] [1,2,12] [13,1,2,12] rfl (λi T U=>⟨(13,iA i)::T,(1011,.arr 17 (kY i (y.ds.map zK)) false)::U⟩) ?_;(conv=>whnf);refine⟨by rfl,?_,?_⟩
 ·intro i hi;have hi':i<y.ds.length:=by omega
  have hy:(kY i (y.ds.map zK))[i]? =some (zK (y.ds.getD i default)):=zM zK y.ds i hi';have e:=kO zK y.ds i hi';have c2:=cS (y.ds.getD i default) (h.db _ aI);generalize (y.ds.getD i default)=t at *;generalize kY i (y.ds.map zK)=xs at *;generalize kY (i+1) (y.ds.map zK)=ys at *;subst e;refine zU c2 ?_;rfl
 ·(refine zU k2 ?_)
  refine zP ((y.sg.map wV).length) [1012,1,2,1011] [1,2,1011] [1,2,33] [34,1,2,33] rfl (λi T U=>⟨(34,iA i)::T,(1012,.arr 5 (kY i (y.sg.map wV)) false)::U⟩) ?_;(conv=>whnf);refine⟨by rfl,?_,?_⟩
  ·intro i hi;have hi':i<y.sg.length:=by omega
   have hy:(kY i (y.sg.map wV))[i]? =some (wV (y.sg.getD i default)):=zM wV y.sg i hi';have e:=kO wV y.sg i hi';have c2:=zBo (y.sg.getD i default) (by have:=h.gb (y.sg.getD i default) aI;omega) (by have:=h.gb (y.sg.getD i default) aI;omega);generalize (y.sg.getD i default)=t at *;generalize kY i (y.sg.map wV)=xs at *;generalize kY (i+1) (y.sg.map wV)=ys at *;subst e;refine zU c2 ?_;rfl
  ·(refine zU k3 ?_)
   refine zP ((y.sv.map wT).length) [1013,1,2,1011,1012] [1,2,1011,1012] [1,2,54] [55,1,2,54] rfl (λi T U=>⟨(55,iA i)::T,(1013,.arr 3 (kY i (y.sv.map wT)) false)::U⟩) ?_;(conv=>whnf);refine⟨by rfl,?_,?_⟩
   ·intro i hi;have hi':i<y.sv.length:=by omega
    have hy:(kY i (y.sv.map wT))[i]? =some (wT (y.sv.getD i default)):=zM wT y.sv i hi';have e:=kO wT y.sv i hi';have c2:=VI (y.sv.getD i default) ⟨by have:=h.sb (y.sv.getD i default) aI;omega⟩;generalize (y.sv.getD i default)=t at *;generalize kY i (y.sv.map wT)=xs at *;generalize kY (i+1) (y.sv.map wT)=ys at *;subst e;refine zU c2 ?_;rfl
   ·(refine yQ (wZ k4 k5) ?_)
    refine zI [] rfl rfl ?_ rfl
    show AV.agg [zD wH y.c.js,zD vC y.c.ags,iA y.c.per,iA y.c.cap,iA y.c.hold,iA y.c.lock,bA y.rf,iA y.now,.sl false ((y.ds.map zK).take (y.ds.map zK).length),.sl false ((y.sg.map wV).take (y.sg.map wV).length),.sl false ((y.sv.map wT).take (y.sv.map wT).length),.sl false ((y.st.map iA).take (y.st.map iA).length),zD vM y.vw]=_
    rw[zX7,zX7,zX7,zX7];rfl
theorem QZ (y:Cy) (h:CyB y):zN 60 [uF y] [] (zGa y) (zGb y):=by
 have k1:=aS y.ds (by have:=h.d;omega);have k2:=aT y.sg (by have:=h.g;omega);have k3:=aU y.sv (by have:=h.s;omega);have k4:=aV y.st (by have:=h.t;omega);have k5:=ZV y.vw h.v h.vb;have hl1:=zA zK y.ds;have hl2:=zA wV y.sg;have hl3:=zA wT y.sv;have hl4:=zA iA y.st;have hd:=h.d;have hg:=h.g;have hs:=h.s;unfold uF zGa aR zGb;refine eM call60 λF hF=>?_
 refine zU k1 ?_;refine zP ((y.ds.map zK).length) [1011,1,2] [1,2] [1,2,12] [13,1,2,12] rfl (λi T U=>⟨(13,iA i)::T,(1011,.arr 17 (kY i (y.ds.map zK)) false)::U⟩) ?_;(conv=>whnf);refine⟨by rfl,?_,?_⟩
 ·intro i hi;have hi':i<y.ds.length:=by omega
  have hy:(kY i (y.ds.map zK))[i]? =some (zK (y.ds.getD i default)):=zM zK y.ds i hi';have e:=kO zK y.ds i hi';have c2:=cS (y.ds.getD i default) (h.db _ aI);generalize (y.ds.getD i default)=t at *;generalize kY i (y.ds.map zK)=xs at *;generalize kY (i+1) (y.ds.map zK)=ys at *;subst e;refine zU c2 ?_;rfl
 ·(refine zU k2 ?_)
  refine zP ((y.sg.map wV).length) [1012,1,2,1011] [1,2,1011] [1,2,33] [34,1,2,33] rfl (λi T U=>⟨(34,iA i)::T,(1012,.arr 5 (kY i (y.sg.map wV)) false)::U⟩) ?_;(conv=>whnf);refine⟨by rfl,?_,?_⟩
  ·intro i hi;have hi':i<y.sg.length:=by omega
   have hy:(kY i (y.sg.map wV))[i]? =some (wV (y.sg.getD i default)):=zM wV y.sg i hi';have e:=kO wV y.sg i hi';have c2:=zBo (y.sg.getD i default) (by have:=h.gb (y.sg.getD i default) aI;omega) (by have:=h.gb (y.sg.getD i default) aI;omega);generalize (y.sg.getD i default)=t at *;generalize kY i (y.sg.map wV)=xs at *;generalize kY (i+1) (y.sg.map wV)=ys at *;subst e;refine zU c2 ?_;rfl
  ·(refine zU k3 ?_)
   refine zP ((y.sv.map wT).length) [1013,1,2,1011,1012] [1,2,1011,1012] [1,2,54] [55,1,2,54] rfl (λi T U=>⟨(55,iA i)::T,(1013,.arr 3 (kY i (y.sv.map wT)) false)::U⟩) ?_;(conv=>whnf);refine⟨by rfl,?_,?_⟩
   ·intro i hi;have hi':i<y.sv.length:=by omega
    have hy:(kY i (y.sv.map wT))[i]? =some (wT (y.sv.getD i default)):=zM wT y.sv i hi';have e:=kO wT y.sv i hi';have c2:=VI (y.sv.getD i default) ⟨by have:=h.sb (y.sv.getD i default) aI;omega⟩;generalize (y.sv.getD i default)=t at *;generalize kY i (y.sv.map wT)=xs at *;generalize kY (i+1) (y.sv.map wT)=ys at *;subst e;refine zU c2 ?_;rfl
   ·(refine yQ (wZ k4 k5) ?_)
    exact zL [1011,1012,1013,1014] rfl rfl rfl rfl
theorem zL1 (j:Jn) (h:j.ph.length<=8):zN 89 [wH j] [] (.agg [bA true,bA false,.ref 1021 0 (j.ph.map wU).length,.ref 1022 0 (j.ph.map wU).length]) [(1021,.arr 1 (List.replicate (j.ph.map wU).length (iA 0)) false),(1022,.arr 1 (List.replicate (j.ph.map wU).length (iA 0)) false)]:=by
 have hl:=zA wU j.ph;unfold wH zD;generalize j.ph.map wU=P at *;refine eM call89 λF hF=>?_
 (repeat' (first|refine qB ?_|refine xO (λhc=>?_) (λhc=>?_)|refine wB (λhc=>?_)|(refine zE ?_;first|(refine gU ?_;first|refine cK 1021 tok rfl rfl rfl rfl rfl rfl rfl rfl rfl rfl rfl rfl rfl zB zB rfl rfl rfl ?_|refine cK 1022 tok rfl rfl rfl rfl rfl rfl rfl rfl rfl rfl rfl rfl rfl zB zB rfl rfl rfl ?_))|fail))
 exact zL [1021,1022] rfl rfl rfl rfl
def cnT (p:Ph) (l:Li):Int:=if l.lamp=1 then max (lnF p-1-l.tk) 0 else if l.lamp=2 then p.yel-1-l.tk else if l.lamp=3 then p.red-1-l.tk else 0
def NY (l:Li):Int:=if l.lamp=1∨l.lamp=2 then l.lamp else 0
theorem zGc (p:Ph) (h:PhB p) (l:Li) (ht: -1000000000000<=l.tk/\l.tk<=1000000000000) (hn: -1000<=lnF p/\lnF p<=1000) (hy: -1000<=p.yel/\p.yel<=1000) (hr: -1000<=p.red/\p.red<=1000):zN 146 [wU p,vF l] [] (iA (cnT p l)) []:=by
 have c:=zB0 p h;unfold cnT;generalize lnF p=n at *;by_cases h1:l.lamp=1
 ·rw[zX1 h1];refine eM call146 λF hF=>?_
  refine zU c ?_;exact zJ
 rw[zX0 h1];by_cases h2:l.lamp=2
 ·rw[zX1 h2];refine eM call146 λF hF=>?_
  refine WW ?_;exact zJ
 rw[zX0 h2];by_cases h3:l.lamp=3
 ·rw[zX1 h3];refine eM call146 λF hF=>?_
  refine WW ?_;exact zJ
 ·rw[zX0 h3];refine eM call146 λF hF=>?_
  refine WW ?_;exact zJ
def PA (s:Sg) (n i:Nat):List Int:=dR (λp _=>NY (xY s.c p)) (List.replicate n 0) i
def FE (j:Jn) (s:Sg) (n i:Nat):List Int:=dR (λp _=>cnT (yW j p) (xY s.c p)) (List.replicate n 0) i
def RO (j:Jn) (s:Sg) (v:Sv):Vw:=if s.lat=true then vwZ j.ph.length else⟨false,v.ph != -1,PA s j.ph.length j.ph.length,FE j s j.ph.length j.ph.length⟩
theorem zXa (n:Nat):List.replicate n (iA 0)=(List.replicate n (0:Int)).map iA:=by simp
theorem zGd (j:Jn) (J:JV j) (s:Sg) (C:CV j s.c) (v:Sv):zN 93 [wH j,wV s,wT v] [] (vM (RO j s v)) []:=by
 have k:=zL1 j J.n.2;have hl:=zA wU j.ph;have hn:=J.n;have hll:(s.c.li.map vF).length=j.ph.length:=by rw[zX2];exact C.n
 unfold RO;rw[zXa]at k;unfold wV wT
 cases hlat:s.lat with
 |true=>
  rw[zX1 rfl];unfold wH at *;refine eM call93 λF hF=>?_
  refine zU k ?_;refine zI [] rfl rfl ?_ rfl
  show AV.agg [bA true,bA false,.sl false (List.take (j.ph.map wU).length ((List.replicate (j.ph.map wU).length (0:Int)).map iA)),.sl false (List.take (j.ph.map wU).length ((List.replicate (j.ph.map wU).length (0:Int)).map iA))]=_
  rw[zYb zS,hl];rfl
 | false=>
  rw[zX0 zYk];have e1:(List.replicate (j.ph.map wU).length (0:Int)).map iA=(PA s j.ph.length 0).map iA:=by unfold PA;rw[kN,hl]
  have e2:(List.replicate (j.ph.map wU).length (0:Int)).map iA=(FE j s j.ph.length 0).map iA:=by unfold FE;rw[kN,hl]
  have k:zN 89 [wH j] [] (.agg [bA true,bA false,.ref 1021 0 (j.ph.map wU).length,.ref 1022 0 (j.ph.map wU).length]) [(1021,.arr 1 ((PA s j.ph.length 0).map iA) false),(1022,.arr 1 ((FE j s j.ph.length 0).map iA) false)]:=by rw[<-e1,<-e2];exact k
  clear e1 e2;have f1:∀i,((PA s j.ph.length i).map iA).length=j.ph.length:=λi=>by rw[zX2];unfold PA;rw[wL,zZd]
  have f2:∀i,((FE j s j.ph.length i).map iA).length=j.ph.length:=λi=>by rw[zX2];unfold FE;rw[wL,zZd]
  have g1:∀i,i<j.ph.length->(PA s j.ph.length (i+1)).map iA=((PA s j.ph.length i).map iA).set i (iA (NY (xY s.c i))):=λi hi=>by unfold PA;rw[uO _ _ _ _ (by rw[zZd];exact hi)]
  have g2:∀i,i<j.ph.length->(FE j s j.ph.length (i+1)).map iA=((FE j s j.ph.length i).map iA).set i (iA (cnT (yW j i) (xY s.c i))):=λi hi=>by unfold FE;rw[uO _ _ _ _ (by rw[zZd];exact hi)]
  unfold wH zD at *;refine eM call93 λF hF=>?_
  refine zU k ?_;refine zP ((j.ph.map wU).length) [1021,1022,4,6,7] [4,6,7] [4,6,7,22,23] [24,4,6,7,22,23] rfl (λi T U=>⟨(24,iA i)::T,(1021,.arr 1 ((PA s j.ph.length i).map iA) false)::(1022,.arr 1 ((FE j s j.ph.length i).map iA) false)::U⟩) ?_;(conv=>whnf);refine⟨by rfl,?_,?_⟩
  ·intro i hi;have hi':i<j.ph.length:=by omega
   have hy:(j.ph.map wU)[i]? =some (wU (yW j i)):=zM wU j.ph i hi';have hz:(s.c.li.map vF)[i]? =some (vF (xY s.c i)):=zM vF s.c.li i (by have:=C.n;omega);have ht:=J.ti i hi';have hv:=C.k i hi';have x1:=f1 i;have x2:=f2 i;have y1:=g1 i hi';have y2:=g2 i hi'
   have htk: -1000000000000<=(xY s.c i).tk/\(xY s.c i).tk<=1000000000000:=by
    unfold RS at hv
    repeat' split at hv
    all_goals (first|(rw[zX9]at hv;omega)|cases hv)
   have kc:=zGc (yW j i) ⟨zB,zB,zB,zB⟩ (xY s.c i) htk (by unfold lnF;omega) zB zB;rw[y1,y2];have a1:((PA s j.ph.length i).map iA)[i]? =some (iA ((PA s j.ph.length i).getD i default)):=zM iA _ i (by rw[zX2]at x1;omega);have a2:(((PA s j.ph.length i).map iA).set i (iA 0))[i]? =some (iA 0):=by rw[zZ7,zX1 rfl,zX1 zB]
   have a3:((FE j s j.ph.length i).map iA)[i]? =some (iA ((FE j s j.ph.length i).getD i default)):=zM iA _ i (by rw[zX2]at x2;omega);clear y1 y2 g1 g2 f1 f2 k;generalize (PA s j.ph.length i).getD i default=v1 at *;generalize (FE j s j.ph.length i).getD i default=v2 at *;generalize cnT (yW j i) (xY s.c i)=cc at *;generalize (PA s j.ph.length i).map iA=A at *;generalize (FE j s j.ph.length i).map iA=B at *;generalize yW j i=p at *;unfold NY;generalize xY s.c i=l at *;obtain⟨lm,tk⟩:=l;dsimp only at *;by_cases h1:lm=1
   ·rw[zX1 (.inl h1),<-yB1 (a:=iA 0)];refine zU kc ?_;rfl
   by_cases h2:lm=2
   ·rw[zX1 (.inr h2),<-yB1 (a:=iA 0)];refine zU kc ?_;rfl
   ·rw[zX0 (λh=>h.elim h1 h2)];refine zU kc ?_;rfl
  ·(refine WW ?_)
   refine zI [] rfl rfl ?_ rfl
   show AV.agg [bA false,bA (v.ph != -1),.sl false (List.take (j.ph.map wU).length ((PA s j.ph.length (j.ph.map wU).length).map iA)),.sl false (List.take (j.ph.map wU).length ((FE j s j.ph.length (j.ph.map wU).length).map iA))]=_
   rw[zYb (by rw[f1];omega),zYb (by rw[f2];omega),hl];rfl
theorem zP8 (j:Jn) (J:JV j) (s:Sg) (v:Sv):VwB (RO j s v):=by
 have hn:=J.n.2;unfold RO;split
 ·exact zVj hn
 ·refine⟨by show(PA _ _ _).length<=8;unfold PA;rw[wL,zZd];exact hn,by show(FE _ _ _ _).length<=8;unfold FE;rw[wL,zZd];exact hn,λx hx=>?_⟩;obtain⟨i,hi,rfl⟩:=yAa hx;have h1:=vO (λp (_:Int)=>NY (xY s.c p)) (List.replicate j.ph.length 0) j.ph.length i;unfold PA at hi⊢;rw[zYi hi]at h1;rw[wL]at hi;rw[zX1 hi]at h1
  injection h1 with h1
  rw[h1];split
  ·unfold NY;split<;>omega
  ·rename_i hni;rw[zZd]at hi;omega
theorem zRp (y:Int):0<=IntKind.u8.wrap y/\IntKind.u8.wrap y<256:=by
 unfold IntKind.wrap;simp[IntKind.signed,IntKind.bits];omega
theorem zL2 (k:Int) (p:List Int) (k0:0<=k) (k1:k<=255) (hb:BY p) (hp:p.length<=200):∃q,BY q/\q.length=p.length+10/\zN 148 [iA k,zD yA p] [] (.tup [.ref 1031 0 (q.map yA).length,iA 0]) [(1031,.arr 1 (q.map yA) true)]:=by
 have hlp:=zA yA p;have hh:∀y,(p.map yA)[0]? =some y->y.cells.length=1:=xT _ _ (λ_=>rfl)
 have hu:IntKind.u8.wrap (uB (((p.map yA).length:Nat):Int) 8)=0:=by
  have:uB (((p.map yA).length:Nat):Int) 8=0:=by
   unfold uB;rw[zX2,yBh _ yZ]
   show(p.length:Int)/256=0
   omega
  rw[this];rfl
 have hdb:=zQu k0 k1 hb hp;have kc:=zUd (aC k p.length++p) (by unfold aC;simp;omega) hdb
 have kc:zN 183 [.sl false ((([AV.s (.int .u8 90),.s (.int .u8 165),.s (.int .u8 1),.s (.int .u8 k),.s (.int .u8 (IntKind.u8.wrap (uB (((p.map yA).length:Nat):Int) 8))),.s (.int .u8 (((p.map yA).length:Nat):Int))]++p.map yA).drop 2).take (([AV.s (.int .u8 90),.s (.int .u8 165),.s (.int .u8 1),.s (.int .u8 k),.s (.int .u8 (IntKind.u8.wrap (uB (((p.map yA).length:Nat):Int) 8))),.s (.int .u8 (((p.map yA).length:Nat):Int))]++p.map yA).length-2))] [] (uA (aH (aC k p.length++p))) []:=by
  rw[hu,zX2];rw[zYb zS];exact kc
 generalize aH (aC k p.length++p)=s at *;refine⟨90::165::(aC k p.length++p)++[IntKind.u8.wrap (s.fdiv (2 ^ (min (24:Int).toNat IntKind.u32.bits))),IntKind.u8.wrap (s.fdiv (2 ^ (min (16:Int).toNat IntKind.u32.bits))),IntKind.u8.wrap (s.fdiv (2 ^ (min (8:Int).toNat IntKind.u32.bits))),IntKind.u8.wrap s],?_,?_,?_⟩
 ·intro x hx
  rcases zYl.1 hx with hx|hx
  ·simp only[zZi]at hx
   rcases hx with rfl|rfl|hx
   ·omega
   ·omega
   ·exact hdb x hx
  ·simp only[zZi,yBn,yCy]at hx
   rcases hx with rfl|rfl|rfl|rfl<;>exact zRp _
 ·simp[aC]
 have hX:(90::165::(aC k p.length++p)++[IntKind.u8.wrap (s.fdiv (2 ^ (min (24:Int).toNat IntKind.u32.bits))),IntKind.u8.wrap (s.fdiv (2 ^ (min (16:Int).toNat IntKind.u32.bits))),IntKind.u8.wrap (s.fdiv (2 ^ (min (8:Int).toNat IntKind.u32.bits))),IntKind.u8.wrap s]).map yA=([AV.s (.int .u8 90),.s (.int .u8 165),.s (.int .u8 1),.s (.int .u8 k),.s (.int .u8 (IntKind.u8.wrap (uB (((p.map yA).length:Nat):Int) 8))),.s (.int .u8 (((p.map yA).length:Nat):Int))]++p.map yA)++[.s (.int .u8 (IntKind.u8.wrap (s.fdiv (2 ^ (min (24:Int).toNat IntKind.u32.bits))))),.s (.int .u8 (IntKind.u8.wrap (s.fdiv (2 ^ (min (16:Int).toNat IntKind.u32.bits))))),.s (.int .u8 (IntKind.u8.wrap (s.fdiv (2 ^ (min (8:Int).toNat IntKind.u32.bits))))),.s (.int .u8 (IntKind.u8.wrap s))]:=by
  rw[hu,zX2];simp only[aC,zYc,zZl,yAl,yA3,yAq,zYv];rfl
 rw[hX];refine eM call148 λF hF=>?_
 (have zc1:=kc;(repeat' (first|refine aL ?_|refine xO (λhc=>?_) (λhc=>?_)|refine wB (λhc=>?_)|(refine zE ?_;first|(refine yS ?_;first|refine uN (nw:=[1031]) (yL tok 1031 (xs:=[_,_,_,_,_,_]) rfl rfl rfl rfl rfl rfl rfl rfl rfl) rfl rfl rfl ?_|refine qR tok rfl rfl ?_)|(refine jN ?_;refine fG tok rfl rfl rfl rfl rfl rfl rfl zB (by simp<;>omega) rfl ?_))|refine SB ?_|fail))<;>clear zc1)
 exact zL [1031] rfl rfl rfl rfl
theorem zGe (m:Ms) (h:MgP m):∃q,BY q/\q.length<=210/\zN 94 [yE m] [] (.tup [.ref 1031 0 (q.map yA).length,iA 0]) [(1031,.arr 1 (q.map yA) true)]:=by
 obtain⟨p,h1,h2,c1⟩:=zSh m h;have hk:=h.k;obtain⟨q,q1,q2,c2⟩:=zL2 m.kind p zB zB h1 h2;refine⟨q,q1,zB,?_⟩;unfold yE at *;refine eM call94 λF hF=>?_
 refine yQ (wZ c1 c2) ?_;exact zL [1031] rfl rfl rfl rfl
theorem FF (m:Ms) (h:MgP m):∃q,BY q/\q.length<=210/\zN 45 [yE m] [] (.ref 1031 0 (q.map yA).length) [(1031,.arr 1 (q.map yA) true)]/\zN 45 [yE m] [] (zD yA q) []:=by
 obtain⟨q,q1,q2,c2⟩:=zGe m h;refine⟨q,q1,q2,?_,?_⟩
 ·unfold yE at *;refine eM call45 λF hF=>?_
  refine zU c2 ?_;exact zL [1031] rfl rfl rfl rfl
 ·unfold yE at *;refine eM call45 λF hF=>?_
  refine zU c2 ?_;exact zI [] rfl rfl (zY0 (AV.sl false) zX7) rfl
theorem FG (m:Ms) (h:MgP m):∃q,BY q/\q.length<=210/\zN 45 [yE m] [] (zD yA q) []:=by
 obtain⟨q,q1,q2,_,c2⟩:=FF m h;exact⟨q,q1,q2,c2⟩
def qX (l:List Ag):Nat->Int
 |0=>0
 |i+1=>qX l i+(l.getD i default).ses
def MX (l:List Ag):Prop:=l.length<=4/\∀a∈l,1<=a.ses/\a.ses<=2
theorem MX.at {l:List Ag} (h:MX l) {i:Nat} (hi:i<l.length):1<=(l.getD i default).ses/\(l.getD i default).ses<=2:=by
 refine h.2 _ ?_;rw[zX5,zYi hi];exact yAn _
theorem qS {l:List Ag} (h:MX l):∀i,i<=l.length->(i:Int)<=qX l i/\qX l i<=2*i
 |0,_=>⟨zZ8 _,zZ8 _⟩
 |i+1,hi=>by
  have h1:=qS h i zB;have h2:=h.at (i:=i) zB;unfold qX;omega
theorem zL3 (c:Cf) (h:MX c.ags):zN 42 [wP c] [] (iA (qX c.ags c.ags.length)) []:=by
 have hal:=zA vC c.ags;have hn:=h.1;unfold wP zD;refine eM call42 λF hF=>?_
 refine WW ?_;refine zP ((c.ags.map vC).length) [] [] [7,8] [3,9,7,8] rfl (λi T U=>⟨(3,iA (qX c.ags i))::(9,iA i)::T,U⟩) ?_;(conv=>whnf);refine⟨by rfl,?_,?_⟩
 ·intro i hi;have hy:=zM vC c.ags i zB;have h2:=h.at (i:=i) zB;have hb:=qS h i zB;rw[show qX c.ags (i+1)=qX c.ags i+(c.ags.getD i default).ses from rfl];generalize qX c.ags i=z at *;generalize c.ags.getD i default=a at *;refine WW ?_;rfl
 ·rw[hal];refine WW ?_;exact zJ
def CX (l:List Ag) (g:Int):Nat->Int
 |0=>0
 |i+1=>if(i:Int)<g then CX l g i+(l.getD i default).ses else CX l g i
theorem BS {l:List Ag} (h:MX l) (g:Int):∀i,i<=l.length->0<=CX l g i/\CX l g i<=2*i
 |0,_=>⟨zZ8 _,zZ8 _⟩
 |i+1,hi=>by
  have h1:=BS h g i zB;have h2:=h.at (i:=i) zB;unfold CX
  split<;>omega
theorem zL4 (c:Cf) (h:MX c.ags) (g:Int):zN 44 [wP c,iA g] [] (iA (CX c.ags g c.ags.length)) []:=by
 have hal:=zA vC c.ags;have hn:=h.1;unfold wP zD;refine eM call44 λF hF=>?_
 refine WW ?_;refine zP ((c.ags.map vC).length) [] [] [1,9,10] [5,11,1,9,10] rfl (λi T U=>⟨(5,iA (CX c.ags g i))::(11,iA i)::T,U⟩) ?_;(conv=>whnf);refine⟨by rfl,?_,?_⟩
 ·intro i hi;have hy:=zM vC c.ags i zB;have h2:=h.at (i:=i) zB;have hb:=BS h g i zB;by_cases hg:(i:Int)<g
  ·rw[show CX c.ags g (i+1)=CX c.ags g i+(c.ags.getD i default).ses from zX1 hg];generalize CX c.ags g i=z at *;generalize c.ags.getD i default=a at *;refine WW ?_;rfl
  ·rw[show CX c.ags g (i+1)=CX c.ags g i from zX0 hg];generalize CX c.ags g i=z at *;generalize c.ags.getD i default=a at *;refine WW ?_;rfl
 ·rw[hal];refine WW ?_;exact zJ
def FH:List Ag->Int->Nat->Option (Nat×Int)
 | [],_,_=>none
 |a::l,s,i=>if s<a.ses then some (i,s)else FH l (s-a.ses) (i+1)
theorem zL5 (l:List Ag) (s:Int) (i:Nat) (h:i<l.length):FH (l.drop i) s i=if s<(l.getD i default).ses then some (i,s)else FH (l.drop (i+1)) (s-(l.getD i default).ses) (i+1):=by
 have e:l.getD i default=l[i]:=by simp[List.getD,h]
 rw[<-List.getElem_cons_drop h,e];rfl
def BT (l:List Ag) (s:Int):Int:=match FH l s 0 with
 |some p=>p.1
 |none=>0
theorem zBp:∀(l:List Ag) (s:Int) (i:Nat) (p:Nat×Int),FH l s i=some p->p.1<i+l.length
 | [],_,_,_,h=>by cases h
 |a::l,s,i,p,h=>by
  unfold FH at h;split at h
  ·cases h;simp only[zYd];omega
  ·have:=zBp l _ _ p h;simp only[zYd];omega
theorem zRq {l:List Ag} (h:MX l) (s:Int):0<=BT l s/\BT l s<4:=by
 unfold BT;split
 ·rename_i p hp;have:=zBp l s 0 p hp;have:=h.1;omega
 ·omega
theorem zGf (c:Cf) (h:MX c.ags) (s:Int) (s0: -1000<=s) (s1:s<=1000):zN 49 [wP c,iA s] [] (iA (BT c.ags s)) []:=by
 have hal:=zA vC c.ags;have hn:=h.1;unfold BT wP zD;refine eM call49 λF hF=>?_
 refine WW ?_;refine xV ((c.ags.map vC).length) [] [] [8,9] [1,10,8,9] rfl (λi T U zs=>∃(z:Int),(FH c.ags s 0=FH (c.ags.drop i) z i/\ -1000-2*(i:Int)<=z/\z<=1000)/\zs=⟨(1,iA z)::(10,iA i)::T,U⟩) ?_;(conv=>whnf);refine⟨?_,?_,?_⟩
 ·exact⟨s,⟨rfl,zB,zB⟩,rfl⟩
 ·rintro i st hi ⟨z,⟨hz,z0,z1⟩,rfl⟩;have hy:=zM vC c.ags i zB;have h2:=h.at (i:=i) zB;rw[zL5 c.ags z i zB]at hz;generalize hD:c.ags.drop (i+1)=D at *;generalize c.ags.getD i default=a at *;by_cases ha:z<a.ses
  ·rw[zX1 ha]at hz;rw[hz];refine WW ?_;exact zJ
  ·rw[zX0 ha]at hz;refine WW ?_;exact⟨_,⟨hz,zB,zB⟩,rfl⟩
 ·rintro st ⟨z,⟨hz,z0,z1⟩,rfl⟩;rw[hal,yB0]at hz;rw[hz];refine WW ?_;exact zJ
structure cB (e:Ev):Prop where
 k:1<=e.k/\e.k<=6
 s:0<=e.s/\e.s<=100
 a:0<=e.a/\e.a<=100
 b:0<=e.b/\e.b<=100
 y:BY e.y
 n:e.y.length<=1000
theorem KW {k s a b:Int} {y:List Int} (hk:1<=k/\k<=6) (hs:0<=s/\s<=100) (ha:0<=a/\a<=100) (hb:0<=b/\b<=100) (hy:BY y) (hn:y.length<=1000):cB ⟨k,s,a,b,y⟩:=⟨hk,hs,ha,hb,hy,hn⟩
theorem kD:BY []:=λx hx=>by cases hx
theorem zRr (c:Cf) (s:Int) (s0:0<=s) (s1:s<=100) (cm:Bool) (d:Dk):∃(e:Ev) (d':Dk),cB e/\rem d'<=rem d/\zN 47 [.ptr 1000 0 0,wP c,iA s,bA cm] [(1000,dU d)] (vU e) [(1000,dU d')]:=by
 have k1:=yH d 6 zB zB;have b1:=yF d 6 zB;have r1:=wM d;generalize nx d 6=k at *;generalize ad d=d1 at *;unfold vU zD;by_cases h0:k=0
 ·refine⟨⟨2,s,0,0,[]⟩,d1,KW zB zB zB zB kD zS,r1,?_⟩;refine eM call47 λF hF=>?_
  refine zU k1 ?_;exact zI [1000] rfl rfl rfl rfl
 by_cases h1:k=1
 ·refine⟨⟨1,s,0,0,[]⟩,d1,KW zB zB zB zB kD zS,r1,?_⟩;refine eM call47 λF hF=>?_
  refine zU k1 ?_;exact zI [1000] rfl rfl rfl rfl
 by_cases h2:k=2
 ·have k2:=yH d1 4 zB zB;have b2:=yF d1 4 zB;have r2:=wM d1;have k3:=yH (ad d1) 50 zB zB;have b3:=yF (ad d1) 50 zB;have r3:=wM (ad d1);have k4:=dF (nx (ad d1) 50);refine⟨⟨4,0,nx d1 4,0,dS (nx (ad d1) 50)⟩,ad (ad d1),KW zB zB zB zB (YA _) (by rw[jB];omega),zB,?_⟩;generalize nx (ad d1) 50=q at *;generalize nx d1 4=p at *;generalize dS q=y at *;refine eM call47 λF hF=>?_
  refine yQ (aB k1 k2 k3 k4) ?_;exact zI [1000] rfl rfl rfl rfl
 cases cm with
 |true=>
  refine⟨⟨6,0,0,0,[]⟩,d1,KW zB zB zB zB kD zS,r1,?_⟩;refine eM call47 λF hF=>?_
  refine zU k1 ?_;exact zI [1000] rfl rfl rfl rfl
 |false=>
 by_cases h3:k=3
 ·have k2:=yH d1 3 zB zB;have b2:=yF d1 3 zB;have r2:=wM d1;have k3:=yH (ad d1) 9 zB zB;have b3:=yF (ad d1) 9 zB;have r3:=wM (ad d1);refine⟨⟨5,0,nx d1 3,nx (ad d1) 9,[]⟩,ad (ad d1),KW zB zB zB zB kD zS,zB,?_⟩;generalize nx (ad d1) 9=q at *;generalize nx d1 3=p at *;refine eM call47 λF hF=>?_
  refine yQ (fB k1 k2 k3) ?_;exact zI [1000] rfl rfl rfl rfl
 by_cases h4:k=4
 ·have k2:=yH d1 120 zB zB;have b2:=yF d1 120 zB;have r2:=wM d1;refine⟨⟨3,s,0,0,List.replicate (150+nx d1 120).toNat 0⟩,ad d1,KW zB zB zB zB (λx hx=>by have:=(yB6.1 hx).2;omega) (by rw[zZd];omega),zB,?_⟩;generalize nx d1 120=q at *;refine eM call47 λF hF=>?_
  have hnx:150+q=(((150+q).toNat:Nat):Int):=by omega
  (have zc1:=k1;have zc2:=k2;(repeat' (first|refine qB ?_|refine xO (λhc=>?_) (λhc=>?_)|refine wB (λhc=>?_)|(refine zE ?_;first|(refine gU ?_;refine zCp tok rfl rfl rfl rfl rfl rfl rfl rfl rfl rfl rfl rfl hnx zB zB rfl rfl rfl ?_))|fail))<;>clear zc1 zc2)
  have e:List.take (150+q).toNat (List.drop 0 (List.replicate (150+q).toNat (yA 0)))=(List.replicate (150+q).toNat 0).map yA:=by rw[zY2,zYb zS,yBi]
  exact zI [1000] rfl rfl (zY0 (λz=>AV.agg [iA 3,iA s,iA 0,iA 0,.sl false z]) e) rfl
 ·have k2:=zHo d1 9 zB zB;have b2:=yF d1 (9+1) zB;obtain⟨p1,p2,p3⟩:=AF (ad d1) (nx d1 (9+1)).toNat;have r2:=wM d1;refine⟨⟨3,s,0,0,(fK (ad d1) (nx d1 (9+1)).toNat).1⟩,(fK (ad d1) (nx d1 (9+1)).toNat).2,KW zB zB zB zB p3 zB,zB,?_⟩;generalize (fK (ad d1) (nx d1 (9+1)).toNat).1=y at *;generalize (fK (ad d1) (nx d1 (9+1)).toNat).2=d2 at *;refine eM call47 λF hF=>?_
  refine yQ (wZ k1 k2) ?_;exact zI [1000] rfl rfl rfl rfl
def MY (l:List Ev) (n:Nat):Prop:=l.length<=n/\∀e∈l,cB e
theorem MY.nil:MY [] 0:=⟨zX6 _,λe h=>by cases h⟩
theorem MY.app {l:List Ev} {n:Nat} (h:MY l n) {e:Ev} (he:cB e):MY (l++[e]) (n+1):=
 ⟨by have:=h.1;rw[zX3,yAg];omega,λx hx=>(zYl.1 hx).elim (h.2 x) λhx=>by rw[zYz.1 hx];exact he⟩
theorem MY.le {l:List Ev} {n m:Nat} (h:MY l n) (hm:n<=m):MY l m:=⟨zY8 h.1 hm,h.2⟩
theorem zRs (g v:Int) (hg:0<=g/\g<256) (hv:0<=v/\v<=100):MgP ⟨4,g::0::dS (1000+g),[v,v.tmod 2],[]⟩:=by
 have h1:=yDp 2 hv.1;have h2:v.tmod 2<2:=yDe v zB;exact⟨JY hg zB (YA _),by simp[jB],by dsimp only;omega,.cons zB (.cons zB .nil),⟨0,zB,λh=>absurd rfl h,rfl⟩,rfl⟩
end Av
end Go.Proofs.YtmamjhmoegjapaaGreat
