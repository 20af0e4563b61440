/- Part 20. -/
import Derived.Test.YteajjdidebfcjaaGreatU19
import Derived.Test.YteajjdidebfcjaaGreatU16
namespace Go.Proofs.YteajjdidebfcjaaGreat
namespace Av
open Tryz
set_option linter.all false
set_option maxRecDepth 4000
set_option maxHeartbeats 4000000
def zQl (n:Nat):Sv:=⟨-1,0,List.replicate n (-1)⟩
def zQm (n i:Nat) (h:i<n):((List.replicate i (-1:Int)++List.replicate (n-i) 0).map iA).set i (iA (-1))=(List.replicate (i+1) (-1:Int)++List.replicate (n-(i+1)) 0).map iA:=by
 rw[<-yCk,show n-i=(n-(i+1))+1 by omega,yEc,yDk _ _ zS,yB2,yCm,yEu,yFs,yA6];rfl
def zVp (n:Nat) (h:n<=100000):zN 113 [iA n] [] (vD (zQl n)) []:=by
 by_cases h0:n=0
 ·subst h0;refine eM call113 λF hF=>?_
  refine WW ?_;refine zO (0) [2,3] [2,3] [2,3,17] [18,2,3,17] Z (λi T U=>⟨(18,iA i)::T,U⟩) ?_;(conv=>whnf);refine⟨by rfl,?_,?_⟩
  ·intro i hi;omega
  ·(refine WW ?_)
   exact zJ
 ·have e0:List.replicate n (AV.s (.int .i64 0))=(List.replicate 0 (-1:Int)++List.replicate (n-0) 0).map iA:=by simp[iA]
  refine eM call113 λF hF=>?_
  refine WW ?_;refine zO (n) [13,2,3] [2,3] [2,3,17] [18,2,3,17] Z (λi T U=>⟨(18,iA i)::T,(13,.arr 1 ((List.replicate i (-1:Int)++List.replicate (n-i) 0).map iA) false)::U⟩) ?_;(conv=>whnf);refine⟨by(rw[<-e0];rfl),?_,?_⟩
  ·intro i hi;have hy:((List.replicate i (-1:Int)++List.replicate (n-i) 0).map iA)[i]? =some (iA 0):=by simp[show 0<n-i by omega]
   have e:=zQm n i hi;generalize (List.replicate i (-1:Int)++List.replicate (n-i) 0).map iA=xs at *;generalize (List.replicate (i+1) (-1:Int)++List.replicate (n-(i+1)) 0).map iA=ys at *;subst e;refine WW ?_;rfl
  ·rw[show n-n=0 by omega,yE3,yA8];refine WW ?_;exact zH [] Z Z (yBa (λx=>AV.agg [iA (-1),iA 0,AV.sl false x]) (yAo zS)) Z
def VP {α:Type} (p:α->Bool) (l:List α):Int:=if l.any p=true then(l.findIdx p:Int)else -1
def MG {α:Type} {p:α->Bool} {l pre post:List α} {x:α} (h:l=pre++x::post) (hn:∀y∈pre,p y=false) (hx:p x=true):VP p l=(pre.length:Int):=by
 subst h;have h1:(pre++x::post).any p=true:=by simp[hx]
 have h2:pre.findIdx p=pre.length:=List.findIdx_eq_length.2 (λy hy=>by simpa using hn y hy);unfold VP;rw[yAd h1,List.findIdx_append,h2,yAc zB,List.findIdx_cons,hx];simp
def RX {α:Type} {p:α->Bool} {l:List α} (hn:∀y∈l,p y=false):VP p l= -1:=by
 unfold VP;rw[yAc DW]
def MH {α:Type} (p:α->Bool) (l:List α):(0<=VP p l)=(l.any p=true):=by
 unfold VP
 split<;>simp_all
def GF {α:Type} (p:α->Bool) (l:List α): -1<=VP p l/\VP p l<=l.length:=by
 unfold VP;have:=List.findIdx_le_length (p:=p) (xs:=l)
 split<;>omega
def zGe (l:List Cl) (hb:l.length<=1073741824):zN 120 [zC dZ l,.fn 87 []] [] (iA (VP (λc=>WF c.k) l)) []:=by
 have hl:=zA dZ l;refine eM call120 λF hF=>?_
 refine WW ?_;refine kO (l) [] [] [0,1,7] [8,0,1,7] Z (λi pre T U zs=>(∀y∈pre,WF y.k=false)/\zs=⟨(8,iA i)::T,U⟩) ?_;(conv=>whnf);refine⟨?_,?_,?_⟩
 ·exact⟨by simp,rfl⟩
 ·rintro i pre x post st hx hi ⟨hp,rfl⟩;have hy:=xG dZ hx hi;have hlt:=yP hx hi;have c:=kT x;have hit:=MG (p:=λc=>WF c.k) hx hp
  cases he:WF x.k<;>rw[he]at c
  ·(refine zV c ?_)
   exact⟨λy hy=>by simp at hy;rcases hy with hy|rfl;exact hp y hy;exact he,rfl⟩
  ·rw[hit he,hi];refine zV c ?_;exact zJ
 ·rintro st ⟨hp,rfl⟩;rw[RX hp];refine WW ?_;exact zJ
def GG (l:List Cl) (hb:l.length<=1073741824):zN 85 [zC dZ l,.fn 87 []] [] (bA (l.any λc=>WF c.k)) []:=by
 have c:=zGe l hb;have h:=MH (λc:Cl=>WF c.k) l;have h2:=GF (λc:Cl=>WF c.k) l;generalize VP (λc:Cl=>WF c.k) l=n at*
 cases ha:(l.any λc=>WF c.k)<;>rw[ha]at h<;>simp at h
 ·(refine eM call85 λF hF=>?_)
  refine zV c ?_;exact zJ
 ·(refine eM call85 λF hF=>?_)
  refine zV c ?_;exact zJ
def ZD (s:Sv):xO:= .box [iA s.ph,iA s.gr,zC iA s.en]
def zKu (s:Sv) (x:Cl):zN 251 [dZ x,.ptr 4 0 0] [(4,ZD s)] (bA (x.ph==s.ph)) [(4,ZD s)]:=by
 refine eM call251 λF hF=>?_
 refine WW ?_;exact zK [4] Z Z Z Z
def zKv (s:Sv) (x:Cl):zN 252 [dZ x,.ptr 7 0 0] [(7,.box [.fn 251 [.ptr 4 0 0]]),(4,ZD s)] (bA (x.ph==s.ph&&WF x.k)) [(7,.box [.fn 251 [.ptr 4 0 0]]),(4,ZD s)]:=by
 have c:=zKu s x;have e:=kT x
 cases h:(x.ph==s.ph)<;>rw[h]at c
 ·(refine eM call252 λF hF=>?_)
  refine yQ (wV c e) ?_;exact zK [7,4] Z Z Z Z
 ·rw[yA3];refine eM call252 λF hF=>?_
  refine yQ (wV c e) ?_;exact zK [7,4] Z Z Z Z
def BD (s:Sv) (l:List Cl) (hb:l.length<=1073741824):zN 120 [zC dZ l,.fn 251 [.ptr 4 0 0]] [(4,ZD s)] (iA (VP (λx:Cl=>x.ph==s.ph) l)) [(4,ZD s)]:=by
 have hl:=zA dZ l;refine eM call120 λF hF=>?_
 refine WW ?_;refine kO (l) [4] [4] [0,1,7] [8,0,1,7] Z (λi pre T U zs=>(∀y∈pre,((λx:Cl=>x.ph==s.ph)) y=false)/\zs=⟨(8,iA i)::T,U⟩) ?_;(conv=>whnf);refine⟨?_,?_,?_⟩
 ·exact⟨by simp,rfl⟩
 ·rintro i pre x post st hx hi ⟨hp,rfl⟩;have hy:=xG dZ hx hi;have hlt:=yP hx hi;have c:=zKu s x;have hit:=MG (p:=(λx:Cl=>x.ph==s.ph)) hx hp
  try dsimp only at hit
  cases he:((λx:Cl=>x.ph==s.ph)) x<;>(dsimp only at he;rw[he]at c)
  ·(refine zV c ?_)
   exact⟨λy hy=>by simp only[yAz,yBe]at hy;rcases hy with hy|rfl;exact hp y hy;exact he,rfl⟩
  ·rw[hit he,hi];refine zV c ?_;exact zK [4] Z Z Z Z
 ·rintro st ⟨hp,rfl⟩;rw[RX hp];refine WW ?_;exact zK [4] rfl rfl rfl rfl
def MI (s:Sv) (l:List Cl) (hb:l.length<=1073741824):zN 85 [zC dZ l,.fn 251 [.ptr 4 0 0]] [(4,ZD s)] (bA (l.any (λx:Cl=>x.ph==s.ph))) [(4,ZD s)]:=by
 have c:=BD s l hb;have h:=MH (λx:Cl=>x.ph==s.ph) l;have h2:=GF (λx:Cl=>x.ph==s.ph) l;generalize VP (λx:Cl=>x.ph==s.ph) l=n at*
 cases ha:l.any (λx:Cl=>x.ph==s.ph)<;>rw[ha]at h<;>simp at h
 ·(refine eM call85 λF hF=>?_)
  refine zV c ?_;exact zK [4] Z Z Z Z
 ·(refine eM call85 λF hF=>?_)
  refine zV c ?_;exact zK [4] Z Z Z Z
def zBq (s:Sv) (l:List Cl) (hb:l.length<=1073741824):zN 120 [zC dZ l,.fn 252 [.ptr 7 0 0]] [(7,.box [.fn 251 [.ptr 4 0 0]]),(4,ZD s)] (iA (VP (λx:Cl=>x.ph==s.ph&&WF x.k) l)) [(7,.box [.fn 251 [.ptr 4 0 0]]),(4,ZD s)]:=by
 have hl:=zA dZ l;refine eM call120 λF hF=>?_
 refine WW ?_;refine kO (l) [7,4] [7,4] [0,1,7] [8,0,1,7] Z (λi pre T U zs=>(∀y∈pre,((λx:Cl=>x.ph==s.ph&&WF x.k)) y=false)/\zs=⟨(8,iA i)::T,U⟩) ?_;(conv=>whnf);refine⟨?_,?_,?_⟩
 ·exact⟨by simp,rfl⟩
 ·rintro i pre x post st hx hi ⟨hp,rfl⟩;have hy:=xG dZ hx hi;have hlt:=yP hx hi;have c:=zKv s x;have hit:=MG (p:=(λx:Cl=>x.ph==s.ph&&WF x.k)) hx hp
  try dsimp only at hit
  cases he:((λx:Cl=>x.ph==s.ph&&WF x.k)) x<;>(dsimp only at he;rw[he]at c)
  ·(refine zV c ?_)
   exact⟨λy hy=>by simp only[yAz,yBe]at hy;rcases hy with hy|rfl;exact hp y hy;exact he,rfl⟩
  ·rw[hit he,hi];refine zV c ?_;exact zK [7,4] Z Z Z Z
 ·rintro st ⟨hp,rfl⟩;rw[RX hp];refine WW ?_;exact zK [7,4] rfl rfl rfl rfl
def LY (s:Sv) (l:List Cl) (hb:l.length<=1073741824):zN 85 [zC dZ l,.fn 252 [.ptr 7 0 0]] [(7,.box [.fn 251 [.ptr 4 0 0]]),(4,ZD s)] (bA (l.any (λx:Cl=>x.ph==s.ph&&WF x.k))) [(7,.box [.fn 251 [.ptr 4 0 0]]),(4,ZD s)]:=by
 have c:=zBq s l hb;have h:=MH (λx:Cl=>x.ph==s.ph&&WF x.k) l;have h2:=GF (λx:Cl=>x.ph==s.ph&&WF x.k) l;generalize VP (λx:Cl=>x.ph==s.ph&&WF x.k) l=n at*
 cases ha:l.any (λx:Cl=>x.ph==s.ph&&WF x.k)<;>rw[ha]at h<;>simp at h
 ·(refine eM call85 λF hF=>?_)
  refine zV c ?_;exact zK [7,4] Z Z Z Z
 ·(refine eM call85 λF hF=>?_)
  refine zV c ?_;exact zK [7,4] Z Z Z Z
def JC (g:Cf) (s:Sv) (l:List Cl):Bool:=!(l.any λx=>x.ph==s.ph)||decide (g.hold<=s.gr)||((l.any λc=>WF c.k)&& !(l.any λx=>x.ph==s.ph&&WF x.k))
def zVq (g:Cf) (s:Sv) (l:List Cl) (hb:l.length<=1073741824):zN 228 [wD g,vD s,zC dZ l] [] (bA (JC g s l)) []:=by
 have c1:=MI s l hb;have c2:=LY s l hb;have c3:=GG l hb;unfold JC;generalize (l.any λx=>x.ph==s.ph)=m at *;generalize (l.any λx=>x.ph==s.ph&&WF x.k)=u at *;generalize (l.any λc=>WF c.k)=e at *;by_cases h:g.hold<=s.gr
 ·rw[yAj h]
  cases m<;>cases u<;>cases e<;>(simp only[yFz,yFg,yDi,yC9,yD1,yEp,yD5];(refine eM call228 λF hF=>?_);(refine yQ (gG c1 c3 c2) ?_);exact zJ)
 ·rw[yAl h]
  cases m<;>cases u<;>cases e<;>(simp only[yFz,yFg,yDi,yC9,yD1,yGi,yEp,yD5];(refine eM call228 λF hF=>?_);(refine yQ (gG c1 c3 c2) ?_);exact zJ)
def eP (g:Cf) (s:Sv) (l:List Cl) (now:Int):Sv:=if s.ph≠ -1/\JC g s l=true then fL s now else s
def kR (g:Cf) (s:Sv) (l:List Cl) (now:Int):Sv:=
 if(eP g s l now).ph= -1/\0<=kU g (eP g s l now) now l l.length then⟨(l.getD (kU g (eP g s l now) now l l.length).toNat default).ph,0,(eP g s l now).en⟩else eP g s l now
def RY (s:Sv) (now:Int):(fL s now).en.length=s.en.length:=by unfold fL;dsimp only;split<;>simp
def zKw (g:Cf) (s:Sv) (l:List Cl) (now:Int):(eP g s l now).en.length=s.en.length:=by unfold eP;split;exact RY s now;rfl
structure DcB (g:Cf) (s:Sv) (l:List Cl) (now:Int):Prop where
 p:1<=g.per
 c0: -1000000<=g.cap
 c1:g.cap<=1000000
 n0:0<=now
 n1:now<=1000000000
 en:∀e∈s.en,-1<=e/\e<=now
 k:∀c∈l,0<=c.k/\c.k<=3
 si:∀c∈l,0<=c.si/\c.si<=now
 len:l.length<=1000
 sl:s.en.length<=1000
def MJ (s:Sv) (now:Int) (h0:0<=now) (h:∀e∈s.en,-1<=e/\e<=now):∀e∈(fL s now).en,-1<=e/\e<=now:=by
 unfold fL;dsimp only;split
 ·intro e he
  rcases yC8 he with he|rfl
  ·exact h e he
  ·omega
 ·exact h
def zD3 (g:Cf) (s:Sv) (l:List Cl) (now:Int) (h0:0<=now) (h:∀e∈s.en,-1<=e/\e<=now):∀e∈(eP g s l now).en,-1<=e/\e<=now:=by
 unfold eP;split;exact MJ s now h0 h;exact h
theorem DcB.ok {g:Cf} {s:Sv} {l:List Cl} {now:Int} (H:DcB g s l now) (s':Sv) (he:∀e∈s'.en,-1<=e/\e<=now):∀i,i<l.length->COk g.per now s'.en (l.getD i default):=λi hi=>by
 have hk:=XM (λc:Cl=>0<=c.k/\c.k<=3) default l i H.k hi;have hs:=XM (λc:Cl=>0<=c.si/\c.si<=now) default l i H.si hi;have he:=zQx s'.en now (l.getD i default).ph H.n0 he;have:=H.p;have:=H.n0;have:=H.n1
 constructor<;>(try unfold TX)<;>omega
def zKx (g:Cf) (s:Sv) (l:List Cl) (now:Int) (H:DcB g s l now):zN 213 [wD g,vD s,zC dZ l,iA now] [] (vD (kR g s l now)) []:=by
 have hb:SvB s:=⟨by have:=H.sl;omega⟩;have c1:=SA s hb;have c2:=zVq g s l (by have:=H.len;omega);have c3:=zLk s hb now;have hl:=zA dZ l;have hll:=H.len;have he:=zD3 g s l now H.n0 H.en;have c4:=zV3 g (eP g s l now) now l zB (H.ok _ he);have hbd:=TZ g (eP g s l now) now l l.length
 have hd:eP g s l now=if s.ph≠ -1/\JC g s l=true then fL s now else s:=rfl
 unfold kR;generalize eP g s l now=s1 at *;generalize kU g s1 now l l.length=b at *;generalize JC g s l=ov at *;generalize fL s now=s2 at *;by_cases h1:s.ph= -1
 ·rw[yAc (by simp[h1])]at hd;subst hd;by_cases h2:0<=b
  ·rw[yAd ⟨h1,h2⟩];have hy:=yN dZ l b h2 zB;generalize l.getD b.toNat default=cl at *;refine eM call213 λF hF=>?_
   refine yQ (wV c1 c4) ?_;exact zJ
  ·rw[yAc (λh=>h2 h.2)];refine eM call213 λF hF=>?_
   refine yQ (wV c1 c4) ?_;exact zJ
 cases ov with
 |false=>
  rw[yAc zS]at hd;subst hd;rw[yAc (λh=>h1 h.1)];refine eM call213 λF hF=>?_
  refine yQ (wV c1 c2) ?_;exact zJ
 | true=>
  rw[yAd ⟨h1,rfl⟩]at hd;subst hd;by_cases h3:s1.ph= -1
  ·by_cases h2:0<=b
   ·rw[yAd ⟨h3,h2⟩];have hy:=yN dZ l b h2 zB;generalize l.getD b.toNat default=cl at *;refine eM call213 λF hF=>?_
    refine yQ (ZB c1 c2 c3 c4) ?_;exact zJ
   ·rw[yAc (λh=>h2 h.2)];refine eM call213 λF hF=>?_
    refine yQ (ZB c1 c2 c3 c4) ?_;exact zJ
  ·rw[yAc (λh=>h3 h.1)];refine eM call213 λF hF=>?_
   refine yQ (ZB c1 c2 c3 c4) ?_;exact zJ
def zD4 (g:Cf) (s:Sv) (l:List Cl) (now:Int):(kR g s l now).en=(eP g s l now).en:=by unfold kR;split<;>rfl
def TU (g:Cf) (s:Sv) (l:List Cl) (now:Int):(kR g s l now).en.length=s.en.length:=by rw[zD4];exact zKw g s l now
def zBr (g:Cf) (s:Sv) (l:List Cl) (now:Int):(eP g s l now=s∨(s.ph≠ -1/\JC g s l=true/\eP g s l now=fL s now)):=by
 unfold eP;split
 ·rename_i h;exact .inr ⟨h.1,h.2,rfl⟩
 ·exact .inl Z
def zD5 (g:Cf) (s:Sv) (l:List Cl) (now:Int):(eP g s l now).ph=s.ph/\(eP g s l now).gr=s.gr∨(eP g s l now).ph= -1/\(eP g s l now).gr=0:=by
 rcases zBr g s l now with hd|⟨_,_,hd⟩
 ·exact .inl (by rw[hd];exact⟨rfl,rfl⟩)
 ·exact .inr (by rw[hd];exact⟨rfl,rfl⟩)
def zVr (g:Cf) (s:Sv) (l:List Cl) (now:Int) (n:Int) (hl:∀c∈l,0<=c.ph/\c.ph<n) (h: -1<=s.ph/\s.ph<n/\0<=s.gr/\s.gr<=60) (h0:0<=n): -1<=(kR g s l now).ph/\(kR g s l now).ph<n/\0<=(kR g s l now).gr/\(kR g s l now).gr<=60:=by
 have h1:=zD5 g s l now;have hb:=TZ g (eP g s l now) now l l.length;unfold kR;split
 ·rename_i hh;have:=XM (λc:Cl=>0<=c.ph/\c.ph<n) default l (kU g (eP g s l now) now l l.length).toNat hl zB;dsimp only;omega
 ·omega
def zKy (g:Cf) (s:Sv) (l:List Cl) (now:Int) (h0:0<=now) (h:∀e∈s.en,-1<=e/\e<=now):∀e∈(kR g s l now).en,-1<=e/\e<=now:=by rw[zD4];exact zD3 g s l now h0 h
def zVs (s:Sv) (b:Bool):(cB s b).en=s.en/\(cB s b).ph=s.ph:=by unfold cB;split<;>exact⟨rfl,rfl⟩
def zVt (s:Sv) (b:Bool) (h:0<=s.gr/\s.gr<=60):0<=(cB s b).gr/\(cB s b).gr<=60:=by unfold cB;split;(dsimp only;omega);exact h
def zXv (s:Sv) (b:Bool) (hz:s.ph= -1->s.gr=0):(cB s b).ph= -1->(cB s b).gr=0:=by
 unfold cB;split
 ·rename_i h;intro h2;exact absurd h2 h.2
 ·exact hz
def zXw (g:Cf) (s:Sv) (l:List Cl) (now:Int) (hz:s.ph= -1->s.gr=0):(kR g s l now).ph= -1->(kR g s l now).gr=0:=by
 have h1:=zD5 g s l now;unfold kR;split
 ·exact λ_=>rfl
 ·intro h2;rcases h1 with h1|h1
  ·rw[h1.2];exact hz zB
  ·exact h1.2
structure EI (n:Nat) (d:Dk) (s:Sv) (now:Int):Prop where
 len:s.en.length=n
 en:∀e∈s.en,-1<=e/\e<now
 p0: -1<=s.ph
 p1:s.ph<n
 g0:0<=s.gr
 g1:s.gr<=60
 n0:1<=now
 n1:now+rem d<=301
 z:s.ph= -1->s.gr=0
theorem EI.next {n:Nat} {d:Dk} {s:Sv} {now:Int} (H:EI n d s now) (g:Cf) (c:List Cl) (hcl:∀x∈c,ClB n now x) (b:Bool) (d':Dk) (hd:rem d'+1<=rem d):EI n d' (cB (kR g s c now) b) (now+1):=by
 have hp:=zVr g s c now n (λx hx=>⟨(hcl x hx).p0,(hcl x hx).p1⟩) ⟨H.p0,H.p1,H.g0,H.g1⟩ zB;have hg:=zVt (kR g s c now) b hp.2.2;obtain⟨e1,e2⟩:=zVs (kR g s c now) b;have:=H.n0;have:=H.n1;have he:=zKy g s c now zB (λe he=>by have:=H.en e he;omega);refine⟨by rw[e1,TU];exact H.len,λe h=>?_,zB,zB,zB,zB,zB,zB,λh=>?_⟩
 case refine_2=>exact zXv _ b (zXw g s c now H.z) h
 rw[e1]at h;have:=he e h;omega
def zD6 (s:Sg) (h1:s.c.li.length<=1073741824) (h2:s.c.nx.length<=1073741824):zN 149 [vH s] [] (vH s) []:=by
 have c1:=JF s.c.li h1;have c2:=JE s.c.nx h2;refine eM call149 λF hF=>?_
 refine yQ (wV c1 c2) ?_;exact zJ
def grB (s:Sg) (v:Sv):Bool:=decide (0<=v.ph/\v.ph<s.c.li.length)&&((vJ s.c v.ph.toNat).lamp==1)
def dvF (g:Cf) (j:Jn) (s:Sg) (v:Sv) (l:List Cl) (k now:Int):Sg×Sv:=
 if s.lat=true then(s,fL v now)
 else if(sjF j s (kR g v l now).ph k).lat=true then(sjF j s (kR g v l now).ph k,fL (kR g v l now) now)
 else(sjF j s (kR g v l now).ph k,cB (kR g v l now) (grB (sjF j s (kR g v l now).ph k) (kR g v l now)))
def zQn (g:Cf) (j:Jn) (J:JV j) (s:Sg) (C:CV j s.c) (v:Sv) (l:List Cl) (k now:Int) (H:DcB g v l now) (hgr: -1000000<=(kR g v l now).gr):zN 190 [wD g,wC j,vH s,vD v,zC dZ l,iA k,iA now] [] (.tup [vH (dvF g j s v l k now).1,vD (dvF g j s v l k now).2]) []:=by
 have hJ:=J.n;have hn:=C.n;have hm:=C.m;have hb:SvB v:=⟨by have:=H.sl;omega⟩;have hb2:SvB (kR g v l now):=⟨by rw[TU];have:=H.sl;omega⟩;have c0:=zD6 s zB zB;have c1:=zLk v hb now;have c2:=zKx g v l now H;have c3:=zQu j J s C (kR g v l now).ph k;have c4:=zLk (kR g v l now) hb2 now;have c5:=zQy (kR g v l now) hb2 (grB (sjF j s (kR g v l now).ph k) (kR g v l now)) hgr;have X:=zX3 J C (kR g v l now).ph k;have hxn:=X.n;unfold dvF;generalize fL v now=v0 at *;generalize kR g v l now=v1 at *;generalize fL v1 now=v2 at *;generalize sjF j s v1.ph k=x at *;have hgb:grB x v1=(decide (0<=v1.ph/\v1.ph<x.c.li.length)&&((vJ x.c v1.ph.toNat).lamp==1)):=rfl;generalize grB x v1=b at *;generalize cB v1 b=v3 at *;clear H hgr X C hb hb2;obtain⟨sc,sl⟩:=s;obtain⟨xc,xl⟩:=x;dsimp only at *;have hlx:=zA vN xc.li
 cases sl with
 |true=>
  rw[yAd Z];refine eM call190 λF hF=>?_
  refine yQ (wV c0 c1) ?_;exact zJ
 |false=>
 rw[yAc yAx]
 cases xl with
 |true=>
  rw[yAd Z];refine eM call190 λF hF=>?_
  refine yQ (gG c2 c3 c4) ?_;exact zJ
 |false=>
 rw[yAc yAx];dsimp only;rw[show vH ⟨xc,false⟩= .agg [zC vN xc.li,iA xc.gr,zC iA xc.nx,iA xc.wt,bA false]from Z]at *; by_cases h1:0<=v1.ph
 case neg=>
  rw[yAl (λh=>h1 h.1),yB4]at hgb;subst hgb;refine eM call190 λF hF=>?_
  refine yQ (gG c2 c3 c5) ?_;exact zJ
 by_cases h2:v1.ph<xc.li.length
 case neg=>
  rw[yAl (λh=>h2 h.2),yB4]at hgb;subst hgb;refine eM call190 λF hF=>?_
  refine yQ (gG c2 c3 c5) ?_;exact zJ
 rw[yAj ⟨h1,h2⟩,yA3]at hgb;have hy:=yN vN xc.li v1.ph h1 h2
 change (xc.li.map vN)[v1.ph.toNat]? =some (vN (vJ xc v1.ph.toNat))at hy
 generalize vJ xc v1.ph.toNat=a at *;by_cases h3:a.lamp=1
 ·rw[show(a.lamp==1)=true by rw[yBw];exact h3]at hgb;subst hgb;refine eM call190 λF hF=>?_
  refine yQ (gG c2 c3 c5) ?_;exact zJ
 ·rw[show(a.lamp==1)=false by rw[yBm];exact h3]at hgb;subst hgb;refine eM call190 λF hF=>?_
  refine yQ (gG c2 c3 c5) ?_;exact zJ
def zXx {j:Jn} (J:JV j) {s:Sg} (C:CV j s.c) (g:Cf) (v:Sv) (c:List Cl) (k now:Int):CV j (dvF g j s v c k now).1.c:=by
 unfold dvF;split
 ·exact C
 ·split<;>exact zX3 J C _ _
def ph2:Ph:=⟨0,0,1,1,1,0,0,0⟩
def j2:Jn:=⟨[ph2],[0],0⟩
structure Ss where
 op:Bool
 dr:Bool
 bf:List Int
 gb:Bool
instance:Inhabited Ss:=⟨⟨false,false,[],false⟩⟩
def TW (m n:Nat):Nat:=min n (256-m)
def BE (s:Ss) (b:List Int):Ss:=if s.op=true then⟨true,s.dr||decide (TW s.bf.length b.length≠b.length),s.bf++b.take (TW s.bf.length b.length),s.gb⟩else s
def zQo {s:Ss} (h:s.bf.length<=256) (b:List Int):(BE s b).bf.length<=256:=by
 unfold BE;split
 ·simp only[yAf,yAw];unfold TW;omega
 ·exact h
def zBs (l:List Vw) (hl:l.length<=1073741824):zN 90 [zC vA l] [] (.ref 1001 0 (l.map vA).length) [(1001,.arr 4 (l.map vA) false)]:=by
 have hll:=zA vA l;refine eM call90 λF hF=>?_
 refine yZ 0 Z (λcap hx=>?_) ?_
 ·have:l=[]:=by simpa using hx
  subst this
  (repeat' (first|refine WZN ?_|apply xM|apply xZ|intro hc|fail))
  refine vX 2 1001 4 Z Z Z (yW ?_);exact zK [1001] Z Z Z Z
 ·repeat' (first|(refine zE ?_;first|refine vF tok Z Z ?_|(refine wE ?_;refine yJ (yS tok (.inl ⟨rfl,rfl⟩) Z Z Z Z) Z ?_)|(refine yV ?_;refine uT (nw:=[1001]) (yI tok 1001 (xs:=[]) Z Z Z Z Z Z Z Z Z) Z Z Z ?_)|(refine yK ?_;refine xU tok Z Z Z Z Z Z Z (yC _ _ (λ_=>rfl)) Z Z Z zB Z ?_)|refine uQ ?_)|(first|refine xQ ?_|refine xE ?_|refine vG Z ?_|refine zX Z ?_|refine zU Z ?_|refine xK Z (λhc=>?_) λhc=>?_|refine xA ?_|refine yW ?_|refine xD ?_|refine yU ?_))
  exact zK [1001] Z Z Z Z
def XL (l:List Vw) (hn:l.length<=1000) (hb:∀v∈l,v.co.length<=1000/\v.cn.length<=1000):zN 56 [zC vA l] [] (zC vA l) []:=by
 have c:=zBs l zB;have hll:=zA vA l;refine eM call56 λF hF=>?_
 refine zV c ?_;refine zO ((l.map vA).length) [1001] [] [0,7] [8,0,7] Z (λi T U=>⟨(8,iA i)::T,(1001,.arr 4 (jI i (l.map vA)) false)::U⟩) ?_;(conv=>whnf);refine⟨by rfl,?_,?_⟩
 ·intro i hi;have hi':i<l.length:=by omega
  have hy:(jI i (l.map vA))[i]? =some (vA (l.getD i default)):=zM vA l i hi';have e:=kN vA l i hi';have hbb:=hb (l.getD i default) ZF;have c1:=UN (l.getD i default).co zB;have c2:=UN (l.getD i default).cn zB;generalize (l.getD i default)=t at *;generalize jI i (l.map vA)=xs at *;generalize jI (i+1) (l.map vA)=ys at *;have hs:=fM hy;have hy2:(xs.set i (.agg [bA t.fl,bA t.ov,zC iA t.co,zC iA t.cn]))[i]? =some (vA t):=by rw[show AV.agg [bA t.fl,bA t.ov,zC iA t.co,zC iA t.cn]=vA t from Z,hs];exact hy
  have e2:(xs.set i (.agg [bA t.fl,bA t.ov,zC iA t.co,zC iA t.cn])).set i (.agg [bA t.fl,bA t.ov,zC iA t.co,zC iA t.cn])=ys:=by rw[yFc];exact e
  clear e hs;subst e2;refine yQ (wV c1 c2) ?_;rfl
 ·(refine WW ?_)
  exact zH [] Z Z (yBa (AV.sl false) yAh) Z
def kM (s:Ss):AV:= .agg [bA s.op,bA s.dr,zC yA s.bf,bA s.gb]
def GH (s:Ss) (h:s.bf.length<=1000):zN 115 [kM s] [] (kM s) []:=by
 have c:=wL s.bf zB;unfold kM;refine eM call115 λF hF=>?_
 refine zV c ?_;exact zJ
structure Ev where
 k:Int
 s:Int
 a:Int
 b:Int
 y:List Int
instance:Inhabited Ev:=⟨⟨0,0,0,0,[]⟩⟩
def vC (e:Ev):AV:= .agg [iA e.k,iA e.s,iA e.a,iA e.b,zC yA e.y]
def zKz (e:Ev) (h:e.y.length<=1000000):zN 63 [vC e] [] (vC e) []:=by
 have c:=wL e.y zB;unfold vC;refine eM call63 λF hF=>?_
 refine zV c ?_;exact zJ
structure Cy where
 c:Cf
 rf:Bool
 now:Int
 ds:List xJ
 sg:List Sg
 sv:List Sv
 st:List Int
 vw:List Vw
instance:Inhabited xJ:=⟨⟨⟨0,⟨[],0,0,[],0,0,0,0⟩,[],[],⟨0,0,0⟩⟩,[],[],[]⟩⟩
instance:Inhabited Sg:=⟨⟨⟨[],0,[],0⟩,false⟩⟩
instance:Inhabited Sv:=⟨⟨-1,0,[]⟩⟩
def XU (c:Cf) (rf:Bool) (now:Int) (a b s t v:AV):AV:= .agg [zC wC c.js,zC wK c.ags,iA c.per,iA c.cap,iA c.hold,iA c.lock,bA rf,iA now,a,b,s,t,v]
def qA (y:Cy):AV:=XU y.c y.rf y.now (zC zL y.ds) (zC vH y.sg) (zC vD y.sv) (zC iA y.st) (zC vA y.vw)
def zK0 (y:Cy):AV:=XU y.c y.rf y.now (.ref 1011 0 (y.ds.map zL).length) (.ref 1012 0 (y.sg.map vH).length) (.ref 1013 0 (y.sv.map vD).length) (.ref 1014 0 (y.st.map iA).length) (zC vA y.vw)
def zK1 (y:Cy):List (Nat×xO):=[(1011,.arr 17 (y.ds.map zL) false),(1012,.arr 5 (y.sg.map vH) false),(1013,.arr 3 (y.sv.map vD) false),(1014,.arr 1 (y.st.map iA) false)]
structure CyB (y:Cy):Prop where
 d:y.ds.length<=1000
 db:∀d∈y.ds,dH d
 g:y.sg.length<=1000
 gb:∀s∈y.sg,s.c.li.length<=1000/\s.c.nx.length<=1000
 s:y.sv.length<=1000
 sb:∀s∈y.sv,s.en.length<=1000
 t:y.st.length<=1000
 v:y.vw.length<=1000
 vb:∀v∈y.vw,v.co.length<=1000/\v.cn.length<=1000
def YF (l:List xJ) (hl:l.length<=1073741824):zN 147 [zC zL l] [] (.ref 1011 0 (l.map zL).length) [(1011,.arr 17 (l.map zL) false)]:=by
 have hll:=zA zL l;refine eM call147 λF hF=>?_
 refine yZ 0 Z (λcap hx=>?_) ?_
 ·have:l=[]:=by simpa using hx
  subst this
  (repeat' (first|refine WZN ?_|apply xM|apply xZ|intro hc|fail))
  refine vX 2 1011 17 Z Z Z (yW ?_);exact zK [1011] Z Z Z Z
 ·repeat' (first|(refine zE ?_;first|refine vF tok Z Z ?_|(refine wE ?_;refine yJ (yS tok (.inl ⟨rfl,rfl⟩) Z Z Z Z) Z ?_)|(refine yV ?_;refine uT (nw:=[1011]) (yI tok 1011 (xs:=[]) Z Z Z Z Z Z Z Z Z) Z Z Z ?_)|(refine yK ?_;refine xU tok Z Z Z Z Z Z Z (yC _ _ (λ_=>rfl)) Z Z Z zB Z ?_)|refine uQ ?_)|(first|refine xQ ?_|refine xE ?_|refine vG Z ?_|refine zX Z ?_|refine zU Z ?_|refine xK Z (λhc=>?_) λhc=>?_|refine xA ?_|refine yW ?_|refine xD ?_|refine yU ?_))
  exact zK [1011] Z Z Z Z
def YH (l:List Sg) (hl:l.length<=1073741824):zN 148 [zC vH l] [] (.ref 1012 0 (l.map vH).length) [(1012,.arr 5 (l.map vH) false)]:=by
 have hll:=zA vH l;refine eM call148 λF hF=>?_
 refine yZ 0 Z (λcap hx=>?_) ?_
 ·have:l=[]:=by simpa using hx
  subst this
  (repeat' (first|refine WZN ?_|apply xM|apply xZ|intro hc|fail))
  refine vX 2 1012 5 Z Z Z (yW ?_);exact zK [1012] Z Z Z Z
 ·repeat' (first|(refine zE ?_;first|refine vF tok Z Z ?_|(refine wE ?_;refine yJ (yS tok (.inl ⟨rfl,rfl⟩) Z Z Z Z) Z ?_)|(refine yV ?_;refine uT (nw:=[1012]) (yI tok 1012 (xs:=[]) Z Z Z Z Z Z Z Z Z) Z Z Z ?_)|(refine yK ?_;refine xU tok Z Z Z Z Z Z Z (yC _ _ (λ_=>rfl)) Z Z Z zB Z ?_)|refine uQ ?_)|(first|refine xQ ?_|refine xE ?_|refine vG Z ?_|refine zX Z ?_|refine zU Z ?_|refine xK Z (λhc=>?_) λhc=>?_|refine xA ?_|refine yW ?_|refine xD ?_|refine yU ?_))
  exact zK [1012] Z Z Z Z
def YI (l:List Sv) (hl:l.length<=1073741824):zN 150 [zC vD l] [] (.ref 1013 0 (l.map vD).length) [(1013,.arr 3 (l.map vD) false)]:=by
 have hll:=zA vD l;refine eM call150 λF hF=>?_
 refine yZ 0 Z (λcap hx=>?_) ?_
 ·have:l=[]:=by simpa using hx
  subst this
  (repeat' (first|refine WZN ?_|apply xM|apply xZ|intro hc|fail))
  refine vX 2 1013 3 Z Z Z (yW ?_);exact zK [1013] Z Z Z Z
 ·repeat' (first|(refine zE ?_;first|refine vF tok Z Z ?_|(refine wE ?_;refine yJ (yS tok (.inl ⟨rfl,rfl⟩) Z Z Z Z) Z ?_)|(refine yV ?_;refine uT (nw:=[1013]) (yI tok 1013 (xs:=[]) Z Z Z Z Z Z Z Z Z) Z Z Z ?_)|(refine yK ?_;refine xU tok Z Z Z Z Z Z Z (yC _ _ (λ_=>rfl)) Z Z Z zB Z ?_)|refine uQ ?_)|(first|refine xQ ?_|refine xE ?_|refine vG Z ?_|refine zX Z ?_|refine zU Z ?_|refine xK Z (λhc=>?_) λhc=>?_|refine xA ?_|refine yW ?_|refine xD ?_|refine yU ?_))
  exact zK [1013] Z Z Z Z
def YJ (l:List Int) (hl:l.length<=1073741824):zN 91 [zC iA l] [] (.ref 1014 0 (l.map iA).length) [(1014,.arr 1 (l.map iA) false)]:=by
 have hll:=zA iA l;refine eM call91 λF hF=>?_
 refine yZ 0 Z (λcap hx=>?_) ?_
 ·have:l=[]:=by simpa using hx
  subst this
  (repeat' (first|refine WZN ?_|apply xM|apply xZ|intro hc|fail))
  refine vX 2 1014 1 Z Z Z (yW ?_);exact zK [1014] Z Z Z Z
 ·repeat' (first|(refine zE ?_;first|refine vF tok Z Z ?_|(refine wE ?_;refine yJ (yS tok (.inl ⟨rfl,rfl⟩) Z Z Z Z) Z ?_)|(refine yV ?_;refine uT (nw:=[1014]) (yI tok 1014 (xs:=[]) Z Z Z Z Z Z Z Z Z) Z Z Z ?_)|(refine yK ?_;refine xU tok Z Z Z Z Z Z Z (yC _ _ (λ_=>rfl)) Z Z Z zB Z ?_)|refine uQ ?_)|(first|refine xQ ?_|refine xE ?_|refine vG Z ?_|refine zX Z ?_|refine zU Z ?_|refine xK Z (λhc=>?_) λhc=>?_|refine xA ?_|refine yW ?_|refine xD ?_|refine yU ?_))
  exact zK [1014] Z Z Z Z
theorem YL (y:Cy) (h:CyB y):zN 116 [qA y] [] (qA y) []:=by
 have k1:=YF y.ds (by have:=h.d;omega);have k2:=YH y.sg (by have:=h.g;omega);have k3:=YI y.sv (by have:=h.s;omega);have k4:=YJ y.st (by have:=h.t;omega);have k5:=XL y.vw h.v h.vb;have hl1:=zA zL y.ds;have hl2:=zA vH y.sg;have hl3:=zA vD y.sv;have hl4:=zA iA y.st;have hd:=h.d;have hg:=h.g;have hs:=h.s;unfold qA XU;refine eM call116 λF hF=>?_
 refine zV k1 ?_;refine zO ((y.ds.map zL).length) [1011,1,2] [1,2] [1,2,12] [13,1,2,12] Z (λi T U=>⟨(13,iA i)::T,(1011,.arr 17 (jI i (y.ds.map zL)) false)::U⟩) ?_;(conv=>whnf);refine⟨by rfl,?_,?_⟩
 ·intro i hi;have hi':i<y.ds.length:=by omega
  have hy:(jI i (y.ds.map zL))[i]? =some (zL (y.ds.getD i default)):=zM zL y.ds i hi';have e:=kN zL y.ds i hi';have c2:=bE (y.ds.getD i default) (h.db _ ZF);generalize (y.ds.getD i default)=t at *;generalize jI i (y.ds.map zL)=xs at *;generalize jI (i+1) (y.ds.map zL)=ys at *;subst e;refine zV c2 ?_;rfl
 ·(refine zV k2 ?_)
  refine zO ((y.sg.map vH).length) [1012,1,2,1011] [1,2,1011] [1,2,33] [34,1,2,33] Z (λi T U=>⟨(34,iA i)::T,(1012,.arr 5 (jI i (y.sg.map vH)) false)::U⟩) ?_;(conv=>whnf);refine⟨by rfl,?_,?_⟩
  ·intro i hi;have hi':i<y.sg.length:=by omega
   have hy:(jI i (y.sg.map vH))[i]? =some (vH (y.sg.getD i default)):=zM vH y.sg i hi';have e:=kN vH y.sg i hi';have c2:=zD6 (y.sg.getD i default) (by have:=h.gb (y.sg.getD i default) ZF;omega) (by have:=h.gb (y.sg.getD i default) ZF;omega);generalize (y.sg.getD i default)=t at *;generalize jI i (y.sg.map vH)=xs at *;generalize jI (i+1) (y.sg.map vH)=ys at *;subst e;refine zV c2 ?_;rfl
  ·(refine zV k3 ?_)
   refine zO ((y.sv.map vD).length) [1013,1,2,1011,1012] [1,2,1011,1012] [1,2,54] [55,1,2,54] Z (λi T U=>⟨(55,iA i)::T,(1013,.arr 3 (jI i (y.sv.map vD)) false)::U⟩) ?_;(conv=>whnf);refine⟨by rfl,?_,?_⟩
   ·intro i hi;have hi':i<y.sv.length:=by omega
    have hy:(jI i (y.sv.map vD))[i]? =some (vD (y.sv.getD i default)):=zM vD y.sv i hi';have e:=kN vD y.sv i hi';have c2:=SA (y.sv.getD i default) ⟨by have:=h.sb (y.sv.getD i default) ZF;omega⟩;generalize (y.sv.getD i default)=t at *;generalize jI i (y.sv.map vD)=xs at *;generalize jI (i+1) (y.sv.map vD)=ys at *;subst e;refine zV c2 ?_;rfl
   ·(refine yQ (wV k4 k5) ?_)
    refine zH [] Z Z ?_ Z
    show AV.agg [zC wC y.c.js,zC wK y.c.ags,iA y.c.per,iA y.c.cap,iA y.c.hold,iA y.c.lock,bA y.rf,iA y.now,.sl false ((y.ds.map zL).take (y.ds.map zL).length),.sl false ((y.sg.map vH).take (y.sg.map vH).length),.sl false ((y.sv.map vD).take (y.sv.map vD).length),.sl false ((y.st.map iA).take (y.st.map iA).length),zC vA y.vw]=_
    rw[yAh,yAh,yAh,yAh];rfl
def MK (y:Cy) (h:CyB y):zN 116 [qA y] [] (zK0 y) (zK1 y):=by
 have k1:=YF y.ds (by have:=h.d;omega);have k2:=YH y.sg (by have:=h.g;omega);have k3:=YI y.sv (by have:=h.s;omega);have k4:=YJ y.st (by have:=h.t;omega);have k5:=XL y.vw h.v h.vb;have hl1:=zA zL y.ds;have hl2:=zA vH y.sg;have hl3:=zA vD y.sv;have hl4:=zA iA y.st;have hd:=h.d;have hg:=h.g;have hs:=h.s;unfold qA zK0 XU zK1;refine eM call116 λF hF=>?_
 refine zV k1 ?_;refine zO ((y.ds.map zL).length) [1011,1,2] [1,2] [1,2,12] [13,1,2,12] Z (λi T U=>⟨(13,iA i)::T,(1011,.arr 17 (jI i (y.ds.map zL)) false)::U⟩) ?_;(conv=>whnf);refine⟨by rfl,?_,?_⟩
 ·intro i hi;have hi':i<y.ds.length:=by omega
  have hy:(jI i (y.ds.map zL))[i]? =some (zL (y.ds.getD i default)):=zM zL y.ds i hi';have e:=kN zL y.ds i hi';have c2:=bE (y.ds.getD i default) (h.db _ ZF);generalize (y.ds.getD i default)=t at *;generalize jI i (y.ds.map zL)=xs at *;generalize jI (i+1) (y.ds.map zL)=ys at *;subst e;refine zV c2 ?_;rfl
 ·(refine zV k2 ?_)
  refine zO ((y.sg.map vH).length) [1012,1,2,1011] [1,2,1011] [1,2,33] [34,1,2,33] Z (λi T U=>⟨(34,iA i)::T,(1012,.arr 5 (jI i (y.sg.map vH)) false)::U⟩) ?_;(conv=>whnf);refine⟨by rfl,?_,?_⟩
  ·intro i hi;have hi':i<y.sg.length:=by omega
   have hy:(jI i (y.sg.map vH))[i]? =some (vH (y.sg.getD i default)):=zM vH y.sg i hi';have e:=kN vH y.sg i hi';have c2:=zD6 (y.sg.getD i default) (by have:=h.gb (y.sg.getD i default) ZF;omega) (by have:=h.gb (y.sg.getD i default) ZF;omega);generalize (y.sg.getD i default)=t at *;generalize jI i (y.sg.map vH)=xs at *;generalize jI (i+1) (y.sg.map vH)=ys at *;subst e;refine zV c2 ?_;rfl
  ·(refine zV k3 ?_)
   refine zO ((y.sv.map vD).length) [1013,1,2,1011,1012] [1,2,1011,1012] [1,2,54] [55,1,2,54] Z (λi T U=>⟨(55,iA i)::T,(1013,.arr 3 (jI i (y.sv.map vD)) false)::U⟩) ?_;(conv=>whnf);refine⟨by rfl,?_,?_⟩
   ·intro i hi;have hi':i<y.sv.length:=by omega
    have hy:(jI i (y.sv.map vD))[i]? =some (vD (y.sv.getD i default)):=zM vD y.sv i hi';have e:=kN vD y.sv i hi';have c2:=SA (y.sv.getD i default) ⟨by have:=h.sb (y.sv.getD i default) ZF;omega⟩;generalize (y.sv.getD i default)=t at *;generalize jI i (y.sv.map vD)=xs at *;generalize jI (i+1) (y.sv.map vD)=ys at *;subst e;refine zV c2 ?_;rfl
   ·(refine yQ (wV k4 k5) ?_)
    exact zK [1011,1012,1013,1014] Z Z Z Z
def zQp (j:Jn) (h:j.ph.length<=8):zN 111 [wC j] [] (.agg [bA true,bA false,.ref 1021 0 (j.ph.map vE).length,.ref 1022 0 (j.ph.map vE).length]) [(1021,.arr 1 (List.replicate (j.ph.map vE).length (iA 0)) false),(1022,.arr 1 (List.replicate (j.ph.map vE).length (iA 0)) false)]:=by
 have hl:=zA vE j.ph;unfold wC zC;generalize j.ph.map vE=P at *;refine eM call111 λF hF=>?_
 (repeat' (first|refine uP ?_|apply xM|apply xZ|intro hc|(refine zE ?_;first|(refine gP ?_;first|refine cW 1021 tok Z Z Z Z Z Z Z Z Z Z Z Z Z zB zB Z Z Z ?_|refine cW 1022 tok Z Z Z Z Z Z Z Z Z Z Z Z Z zB zB Z Z Z ?_))|fail))
 exact zK [1021,1022] Z Z Z Z
def cnT (p:Ph) (l:Li):Int:=if l.lamp=1 then max (lnF p-1-l.tk) 0 else if l.lamp=2 then p.yel-1-l.tk else if l.lamp=3 then p.red-1-l.tk else 0
def coT (l:Li):Int:=if l.lamp=1∨l.lamp=2 then l.lamp else 0
def zK2 (p:Ph) (h:PhB p) (l:Li) (ht: -1000000000000<=l.tk/\l.tk<=1000000000000) (hn: -1000<=lnF p/\lnF p<=1000) (hy: -1000<=p.yel/\p.yel<=1000) (hr: -1000<=p.red/\p.red<=1000):zN 146 [vE p,vN l] [] (iA (cnT p l)) []:=by
 have c:=zEc p h;unfold cnT;generalize lnF p=n at *;by_cases h1:l.lamp=1
 ·rw[yAd h1];refine eM call146 λF hF=>?_
  refine zV c ?_;exact zJ
 rw[yAc h1];by_cases h2:l.lamp=2
 ·rw[yAd h2];refine eM call146 λF hF=>?_
  refine WW ?_;exact zJ
 rw[yAc h2];by_cases h3:l.lamp=3
 ·rw[yAd h3];refine eM call146 λF hF=>?_
  refine WW ?_;exact zJ
 ·rw[yAc h3];refine eM call146 λF hF=>?_
  refine WW ?_;exact zJ
def GI (s:Sg) (n i:Nat):List Int:=XP (λp _=>coT (vJ s.c p)) (List.replicate n 0) i
def FO (j:Jn) (s:Sg) (n i:Nat):List Int:=XP (λp _=>cnT (xF j p) (vJ s.c p)) (List.replicate n 0) i
def JD (j:Jn) (s:Sg) (v:Sv):Vw:=if s.lat=true then vwZ j.ph.length else⟨false,v.ph != -1,GI s j.ph.length j.ph.length,FO j s j.ph.length j.ph.length⟩
def zZp (n:Nat):List.replicate n (iA 0)=(List.replicate n (0:Int)).map iA:=by simp
theorem zK3 (j:Jn) (J:JV j) (s:Sg) (C:CV j s.c) (v:Sv):zN 114 [wC j,vH s,vD v] [] (vA (JD j s v)) []:=by
 have k:=zQp j J.n.2;have hl:=zA vE j.ph;have hn:=J.n;have hll:(s.c.li.map vN).length=j.ph.length:=by rw[yAe];exact C.n
 unfold JD;rw[zZp]at k;unfold vH vD
 cases hlat:s.lat with
 |true=>
  rw[yAd Z];unfold wC at *;refine eM call114 λF hF=>?_
  refine zV k ?_;refine zH [] Z Z ?_ Z
  show AV.agg [bA true,bA false,.sl false (List.take (j.ph.map vE).length ((List.replicate (j.ph.map vE).length (0:Int)).map iA)),.sl false (List.take (j.ph.map vE).length ((List.replicate (j.ph.map vE).length (0:Int)).map iA))]=_
  rw[yAo zS,hl];rfl
 | false=>
  rw[yAc yAx];have e1:(List.replicate (j.ph.map vE).length (0:Int)).map iA=(GI s j.ph.length 0).map iA:=by unfold GI;rw[jL,hl]
  have e2:(List.replicate (j.ph.map vE).length (0:Int)).map iA=(FO j s j.ph.length 0).map iA:=by unfold FO;rw[jL,hl]
  have k:zN 111 [wC j] [] (.agg [bA true,bA false,.ref 1021 0 (j.ph.map vE).length,.ref 1022 0 (j.ph.map vE).length]) [(1021,.arr 1 ((GI s j.ph.length 0).map iA) false),(1022,.arr 1 ((FO j s j.ph.length 0).map iA) false)]:=by rw[<-e1,<-e2];exact k
  clear e1 e2;have f1:∀i,((GI s j.ph.length i).map iA).length=j.ph.length:=λi=>by rw[yAe];unfold GI;rw[wZ,yB2]
  have f2:∀i,((FO j s j.ph.length i).map iA).length=j.ph.length:=λi=>by rw[yAe];unfold FO;rw[wZ,yB2]
  have g1:∀i,i<j.ph.length->(GI s j.ph.length (i+1)).map iA=((GI s j.ph.length i).map iA).set i (iA (coT (vJ s.c i))):=λi hi=>by unfold GI;rw[qE _ _ _ _ (by rw[yB2];exact hi)]
  have g2:∀i,i<j.ph.length->(FO j s j.ph.length (i+1)).map iA=((FO j s j.ph.length i).map iA).set i (iA (cnT (xF j i) (vJ s.c i))):=λi hi=>by unfold FO;rw[qE _ _ _ _ (by rw[yB2];exact hi)]
  unfold wC zC at *;refine eM call114 λF hF=>?_
  refine zV k ?_;refine zO ((j.ph.map vE).length) [1021,1022,4,6,7] [4,6,7] [4,6,7,22,23] [24,4,6,7,22,23] Z (λi T U=>⟨(24,iA i)::T,(1021,.arr 1 ((GI s j.ph.length i).map iA) false)::(1022,.arr 1 ((FO j s j.ph.length i).map iA) false)::U⟩) ?_;(conv=>whnf);refine⟨by rfl,?_,?_⟩
  ·intro i hi;have hi':i<j.ph.length:=by omega
   have hy:(j.ph.map vE)[i]? =some (vE (xF j i)):=zM vE j.ph i hi';have hz:(s.c.li.map vN)[i]? =some (vN (vJ s.c i)):=zM vN s.c.li i (by have:=C.n;omega);have ht:=J.ti i hi';have hv:=C.k i hi';have x1:=f1 i;have x2:=f2 i;have y1:=g1 i hi';have y2:=g2 i hi'
   have htk: -1000000000000<=(vJ s.c i).tk/\(vJ s.c i).tk<=1000000000000:=by
    unfold LZ at hv
    repeat' split at hv
    all_goals (first|(rw[yAm]at hv;omega)|cases hv)
   have kc:=zK2 (xF j i) ⟨zB,zB,zB,zB⟩ (vJ s.c i) htk (by unfold lnF;omega) zB zB;rw[y1,y2];have a1:((GI s j.ph.length i).map iA)[i]? =some (iA ((GI s j.ph.length i).getD i default)):=zM iA _ i (by rw[yAe]at x1;omega);have a2:(((GI s j.ph.length i).map iA).set i (iA 0))[i]? =some (iA 0):=by rw[yCn,yAd Z,yAd zB]
   have a3:((FO j s j.ph.length i).map iA)[i]? =some (iA ((FO j s j.ph.length i).getD i default)):=zM iA _ i (by rw[yAe]at x2;omega);clear y1 y2 g1 g2 f1 f2 k;generalize (GI s j.ph.length i).getD i default=v1 at *;generalize (FO j s j.ph.length i).getD i default=v2 at *;generalize cnT (xF j i) (vJ s.c i)=cc at *;generalize (GI s j.ph.length i).map iA=A at *;generalize (FO j s j.ph.length i).map iA=B at *;generalize xF j i=p at *;unfold coT;generalize vJ s.c i=l at *;obtain⟨lm,tk⟩:=l;dsimp only at *;by_cases h1:lm=1
   ·rw[yAd (.inl h1),<-yFc (a:=iA 0)];refine zV kc ?_;rfl
   by_cases h2:lm=2
   ·rw[yAd (.inr h2),<-yFc (a:=iA 0)];refine zV kc ?_;rfl
   ·rw[yAc (λh=>h.elim h1 h2)];refine zV kc ?_;rfl
  ·(refine WW ?_)
   refine zH [] Z Z ?_ Z
   show AV.agg [bA false,bA (v.ph != -1),.sl false (List.take (j.ph.map vE).length ((GI s j.ph.length (j.ph.map vE).length).map iA)),.sl false (List.take (j.ph.map vE).length ((FO j s j.ph.length (j.ph.map vE).length).map iA))]=_
   rw[yAo (by rw[f1];omega),yAo (by rw[f2];omega),hl];rfl
def zSt (j:Jn) (J:JV j) (s:Sg) (v:Sv):AZ (JD j s v):=by
 have hn:=J.n.2;unfold JD;split
 ·exact zYb hn
 ·refine⟨by show(GI _ _ _).length<=8;unfold GI;rw[wZ,yB2];exact hn,by show(FO _ _ _ _).length<=8;unfold FO;rw[wZ,yB2];exact hn,λx hx=>?_⟩;obtain⟨i,hi,rfl⟩:=yCp hx;have h1:=uO (λp (_:Int)=>coT (vJ s.c p)) (List.replicate j.ph.length 0) j.ph.length i;unfold GI at hi⊢;rw[yAr hi]at h1;rw[wZ]at hi;rw[yAd hi]at h1
  injection h1 with h1
  rw[h1];split
  ·unfold coT;split<;>omega
  ·rename_i hni;rw[yB2]at hi;omega
def zK4 (y:Int):0<=IntKind.u8.wrap y/\IntKind.u8.wrap y<256:=by
 unfold IntKind.wrap;simp[IntKind.signed,IntKind.bits];omega
def fr4 (s:Int):List Int:=[IntKind.u8.wrap (s.fdiv (2 ^ (min (24:Int).toNat IntKind.u32.bits))),IntKind.u8.wrap (s.fdiv (2 ^ (min (16:Int).toNat IntKind.u32.bits))),IntKind.u8.wrap (s.fdiv (2 ^ (min (8:Int).toNat IntKind.u32.bits))),IntKind.u8.wrap s]
def zQq (k:Int) (p:List Int) (k0:0<=k) (k1:k<=255) (hb:BY p) (hp:p.length<=200):∃q,q=90::165::(eG k p.length++p)++fr4 (gN (eG k p.length++p))/\BY q/\q.length=p.length+10/\zN 29 [iA k,zC yA p] [] (.tup [.ref 1031 0 (q.map yA).length,iA 0]) [(1031,.arr 1 (q.map yA) true)]:=by
 have hlp:=zA yA p;have hh:∀y,(p.map yA)[0]? =some y->y.cells.length=1:=yC _ _ (λ_=>rfl)
 have hu:IntKind.u8.wrap (uS (((p.map yA).length:Nat):Int) 8)=0:=by
  have:uS (((p.map yA).length:Nat):Int) 8=0:=by
   unfold uS;rw[yAe,yCu _ xL]
   show(p.length:Int)/256=0
   omega
  rw[this];rfl
 have hdb:=zSh k0 k1 hb hp;have kc:=zI8 (eG k p.length++p) (by unfold eG;simp;omega) hdb
 have kc:zN 65 [.sl false ((([AV.s (.int .u8 90),.s (.int .u8 165),.s (.int .u8 1),.s (.int .u8 k),.s (.int .u8 (IntKind.u8.wrap (uS (((p.map yA).length:Nat):Int) 8))),.s (.int .u8 (((p.map yA).length:Nat):Int))]++p.map yA).drop 2).take (([AV.s (.int .u8 90),.s (.int .u8 165),.s (.int .u8 1),.s (.int .u8 k),.s (.int .u8 (IntKind.u8.wrap (uS (((p.map yA).length:Nat):Int) 8))),.s (.int .u8 (((p.map yA).length:Nat):Int))]++p.map yA).length-2))] [] (uA (gN (eG k p.length++p))) []:=by
  rw[hu,yAe];rw[yAo zS];exact kc
 generalize gN (eG k p.length++p)=s at *;refine⟨90::165::(eG k p.length++p)++fr4 s,rfl,?_,?_,?_⟩
 ·intro x hx
  rcases yAz.1 hx with hx|hx
  ·simp only[yBt]at hx
   rcases hx with rfl|rfl|hx
   ·omega
   ·omega
   ·exact hdb x hx
  ·simp only[fr4,yBt,yEk,yFv]at hx
   rcases hx with rfl|rfl|rfl|rfl<;>exact zK4 _
 ·simp[eG,fr4]
 have hX:(90::165::(eG k p.length++p)++fr4 s).map yA=([AV.s (.int .u8 90),.s (.int .u8 165),.s (.int .u8 1),.s (.int .u8 k),.s (.int .u8 (IntKind.u8.wrap (uS (((p.map yA).length:Nat):Int) 8))),.s (.int .u8 (((p.map yA).length:Nat):Int))]++p.map yA)++[.s (.int .u8 (IntKind.u8.wrap (s.fdiv (2 ^ (min (24:Int).toNat IntKind.u32.bits))))),.s (.int .u8 (IntKind.u8.wrap (s.fdiv (2 ^ (min (16:Int).toNat IntKind.u32.bits))))),.s (.int .u8 (IntKind.u8.wrap (s.fdiv (2 ^ (min (8:Int).toNat IntKind.u32.bits))))),.s (.int .u8 (IntKind.u8.wrap s))]:=by
  rw[hu,yAe];simp only[eG,fr4,yAn,yBs,yCq,yC5,yCc,yA6];rfl
 rw[hX];refine eM call29 λF hF=>?_
 (have zc1:=kc;(repeat' (first|refine ZJ ?_|apply xM|apply xZ|intro hc|(refine zE ?_;first|(refine yV ?_;first|refine uT (nw:=[1031]) (yI tok 1031 (xs:=[_,_,_,_,_,_]) Z Z Z Z Z Z Z Z Z) Z Z Z ?_|refine qS tok Z Z ?_)|(refine uR ?_;refine fB tok Z Z Z Z Z Z Z zB (by simp<;>omega) Z ?_))|refine SB ?_|fail))<;>clear zc1)
 exact zK [1031] Z Z Z Z
end Av
end Go.Proofs.YteajjdidebfcjaaGreat
