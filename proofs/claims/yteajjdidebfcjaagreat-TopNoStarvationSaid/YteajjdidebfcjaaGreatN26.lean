/- Part 26. -/
import Derived.Test.YteajjdidebfcjaaGreatN25
import Derived.Test.YteajjdidebfcjaaGreatN22
namespace Go.Proofs.YteajjdidebfcjaaGreat
namespace Av
open Tryz
set_option linter.all false
set_option maxRecDepth 4000
set_option maxHeartbeats 4000000
def zI8 {α:Type} (f:α->AV) (l:List α):AV.sl false ((l.map f).take (l.map f).length)=zD f l:=by rw[yBj];rfl
def zAm (l:List Int) (hl:l.length<=1073741824):zO 91 [zD iA l] [] (.ref 1001 0 (l.map iA).length) [(1001,.arr 1 (l.map iA) false)]:=by
 have hll:=zA iA l;refine eM call91 λF hF=>?_
 refine yY 0 Z (λcap hx=>?_) ?_
 ·have:l=[]:=by simpa using hx
  subst this
  (repeat' (first|refine WZN ?_|((first|apply xE|apply xV)<;>intro hc)|fail))
  refine uL 2 1001 1 Z Z Z (yZ ?_);exact zK [1001] Z Z Z Z
 ·repeat' (first|(refine zE ?_;first|refine vV tok Z Z ?_|(refine wO ?_;refine wK (xK tok (.inl ⟨rfl,rfl⟩) Z Z Z Z) Z ?_)|(refine yR ?_;refine qA (nw:=[1001]) (yJ tok 1001 (xs:=[]) Z Z Z Z Z Z Z Z Z) Z Z Z ?_)|(refine yM ?_;refine wJ tok Z Z Z Z Z Z Z (yV _ _ (λ_=>rfl)) Z Z Z zB Z ?_)|refine qR ?_)|(first|refine xT ?_|refine xI ?_|refine vJ Z ?_|refine zZ Z ?_|refine zV Z ?_|refine xQ Z (λhc=>?_) λhc=>?_|refine xD ?_|refine yZ ?_|refine xJ ?_|refine yX ?_))
  exact zK [1001] Z Z Z Z
def zFd (l:List Int) (hl:l.length<=1073741824):zO 91 [zD iA l] [] (zD iA l) []:=by
 have hll:=zA iA l;refine eM call91 λF hF=>?_
 refine yY 0 Z (λcap hx=>?_) ?_
 ·have:l=[]:=by simpa using hx
  subst this;refine WW ?_;exact zJ
 ·(refine WW ?_)
  refine zH [] Z Z (zI8 _ _) Z
structure SvB (s:Sv):Prop where
 n:s.en.length<=100000
def zFe (s:Sv) (h:SvB s):zO 151 [wV s] [] (.agg [iA s.ph,iA s.gr,.ref 1001 0 (s.en.map iA).length]) [(1001,.arr 1 (s.en.map iA) false)]:=by
 have c:=zAm s.en (by have:=h.n;omega);refine eM call151 λF hF=>?_
 refine zW c ?_;exact zK [1001] Z Z Z Z
def WR (s:Sv) (h:SvB s):zO 151 [wV s] [] (wV s) []:=by
 have c:=zFd s.en (by have:=h.n;omega);refine eM call151 λF hF=>?_
 refine zW c ?_;exact zJ
def gA (s:Sv) (green:Bool):Sv:=if green=true/\s.ph≠ -1 then⟨s.ph,min s.gr 59+1,s.en⟩else s
def zPf (s:Sv) (h:SvB s) (b:Bool) (hg: -1000000<=s.gr):zO 215 [wV s,bA b] [] (wV (gA s b)) []:=by
 have c:=WR s h;by_cases h1:b=true
 ·subst h1;by_cases h2:s.ph= -1
  ·rw[show gA s true=s by simp[gA,h2]];refine eM call215 λF hF=>?_
   refine zW c ?_;exact zJ
  ·rw[show gA s true=⟨s.ph,min s.gr 59+1,s.en⟩ by simp[gA,h2]];refine eM call215 λF hF=>?_
   refine zW c ?_;exact zJ
 ·obtain rfl:b=false:=by simpa using h1
  rw[show gA s false=s by simp[gA]];refine eM call215 λF hF=>?_
  refine zW c ?_;exact zJ
def kR (s:Sv) (now:Int):Sv:=⟨-1,0,if 0<s.gr/\0<=s.ph/\s.ph<s.en.length then s.en.set s.ph.toNat now else s.en⟩
def zI9 {α:Type} (f:α->AV) (l:List α) (i:Nat) (x:α) (n:Nat) (hn:n=l.length):AV.sl false (((l.map f).set i (f x)).take n)=zD f (l.set i x):=by
 rw[<-yDa,yBo wU];rfl
def zJa (s:Sv) (h:SvB s) (now:Int):zO 212 [wV s,iA now] [] (wV (kR s now)) []:=by
 have c:=zFe s h;have hl:=zA iA s.en;by_cases h1:0<s.gr/\0<=s.ph/\s.ph<s.en.length
 ·obtain⟨h2,h3,h4⟩:=h1;have hy:=yL iA s.en s.ph h3 h4;rw[show kR s now=⟨-1,0,s.en.set s.ph.toNat now⟩ by simp[kR,h2,h3,h4]];refine eM call212 λF hF=>?_
  refine zW c ?_;refine zH [] Z Z (yB8 (λx=>AV.agg [iA (-1),iA 0,x]) (zI9 iA s.en s.ph.toNat now _ hl)) Z
 ·rw[show kR s now=⟨-1,0,s.en⟩ by unfold kR;rw[yBc h1]];refine eM call212 λF hF=>?_
  (have zc1:=c;(repeat' (first|refine uC ?_|((first|apply xE|apply xV)<;>intro hc)|(refine zE ?_;first|refine SM ?_)|fail))<;>clear zc1)
  all_goals (try omega)
  all_goals refine zH [] Z Z (yB8 (λx=>AV.agg [iA (-1),iA 0,x]) (zI8 iA s.en)) Z
def zPg (n:Nat):Sv:=⟨-1,0,List.replicate n (-1)⟩
def zPh (n i:Nat) (h:i<n):((List.replicate i (-1:Int)++List.replicate (n-i) 0).map iA).set i (iA (-1))=(List.replicate (i+1) (-1:Int)++List.replicate (n-(i+1)) 0).map iA:=by
 rw[<-yDa,show n-i=(n-(i+1))+1 by omega,yE5,yEa _ _ zQ,yCw,yDh,yFx,yF9,yCa];rfl
def zU4 (n:Nat) (h:n<=100000):zO 113 [iA n] [] (wV (zPg n)) []:=by
 by_cases h0:n=0
 ·subst h0;refine eM call113 λF hF=>?_
  refine WW ?_;refine zN (0) [2,3] [2,3] [2,3,17] [18,2,3,17] Z (λi T U=>⟨(18,iA i)::T,U⟩) ?_;(conv=>whnf);refine⟨by rfl,?_,?_⟩
  ·intro i hi;omega
  ·(refine WW ?_)
   exact zJ
 ·have e0:List.replicate n (AV.s (.int .i64 0))=(List.replicate 0 (-1:Int)++List.replicate (n-0) 0).map iA:=by simp[iA]
  refine eM call113 λF hF=>?_
  refine WW ?_;refine zN (n) [13,2,3] [2,3] [2,3,17] [18,2,3,17] Z (λi T U=>⟨(18,iA i)::T,(13,.arr 1 ((List.replicate i (-1:Int)++List.replicate (n-i) 0).map iA) false)::U⟩) ?_;(conv=>whnf);refine⟨by(rw[<-e0];rfl),?_,?_⟩
  ·intro i hi;have hy:((List.replicate i (-1:Int)++List.replicate (n-i) 0).map iA)[i]? =some (iA 0):=by simp[show 0<n-i by omega]
   have e:=zPh n i hi;generalize (List.replicate i (-1:Int)++List.replicate (n-i) 0).map iA=xs at *;generalize (List.replicate (i+1) (-1:Int)++List.replicate (n-(i+1)) 0).map iA=ys at *;subst e;refine WW ?_;rfl
  ·rw[show n-n=0 by omega,yFt,yCd];refine WW ?_;exact zH [] Z Z (yB8 (λx=>AV.agg [iA (-1),iA 0,AV.sl false x]) (yBo zQ)) Z
def YV {α:Type} (p:α->Bool) (l:List α):Int:=if l.any p=true then(l.findIdx p:Int)else -1
def PF {α:Type} {p:α->Bool} {l pre post:List α} {x:α} (h:l=pre++x::post) (hn:∀y∈pre,p y=false) (hx:p x=true):YV p l=(pre.length:Int):=by
 subst h;have h1:(pre++x::post).any p=true:=by simp[hx]
 have h2:pre.findIdx p=pre.length:=List.findIdx_eq_length.2 (λy hy=>by simpa using hn y hy);unfold YV;rw[yBd h1,List.findIdx_append,h2,yBc zB,List.findIdx_cons,hx];simp
def UT {α:Type} {p:α->Bool} {l:List α} (hn:∀y∈l,p y=false):YV p l= -1:=by
 unfold YV;rw[yBc OM]
def PG {α:Type} (p:α->Bool) (l:List α):(0<=YV p l)=(l.any p=true):=by
 unfold YV
 split<;>simp_all
def JO {α:Type} (p:α->Bool) (l:List α): -1<=YV p l/\YV p l<=l.length:=by
 unfold YV;have:=List.findIdx_le_length (p:=p) (xs:=l)
 split<;>omega
def zFf (l:List Cl) (hb:l.length<=1073741824):zO 120 [zD fM l,.fn 87 []] [] (iA (YV (λc=>gK c.k) l)) []:=by
 have hl:=zA fM l;refine eM call120 λF hF=>?_
 refine WW ?_;refine kF (l) [] [] [0,1,7] [8,0,1,7] Z (λi pre T U zs=>(∀y∈pre,gK y.k=false)/\zs=⟨(8,iA i)::T,U⟩) ?_;(conv=>whnf);refine⟨?_,?_,?_⟩
 ·exact⟨by simp,rfl⟩
 ·rintro i pre x post st hx hi ⟨hp,rfl⟩;have hy:=xL fM hx hi;have hlt:=yQ hx hi;have c:=qY x;have hit:=PF (p:=λc=>gK c.k) hx hp
  cases he:gK x.k<;>rw[he]at c
  ·(refine zW c ?_)
   exact⟨λy hy=>by simp at hy;rcases hy with hy|rfl;exact hp y hy;exact he,rfl⟩
  ·rw[hit he,hi];refine zW c ?_;exact zJ
 ·rintro st ⟨hp,rfl⟩;rw[UT hp];refine WW ?_;exact zJ
def WU (l:List Cl) (hb:l.length<=1073741824):zO 85 [zD fM l,.fn 87 []] [] (bA (l.any λc=>gK c.k)) []:=by
 have c:=zFf l hb;have h:=PG (λc:Cl=>gK c.k) l;have h2:=JO (λc:Cl=>gK c.k) l;generalize YV (λc:Cl=>gK c.k) l=n at*
 cases ha:(l.any λc=>gK c.k)<;>rw[ha]at h<;>simp at h
 ·(refine eM call85 λF hF=>?_)
  refine zW c ?_;exact zJ
 ·(refine eM call85 λF hF=>?_)
  refine zW c ?_;exact zJ
def bL (s:Sv):xM:= .box [iA s.ph,iA s.gr,zD iA s.en]
def zJb (s:Sv) (x:Cl):zO 251 [fM x,.ptr 4 0 0] [(4,bL s)] (bA (x.ph==s.ph)) [(4,bL s)]:=by
 refine eM call251 λF hF=>?_
 refine WW ?_;exact zK [4] Z Z Z Z
def zJc (s:Sv) (x:Cl):zO 252 [fM x,.ptr 7 0 0] [(7,.box [.fn 251 [.ptr 4 0 0]]),(4,bL s)] (bA (x.ph==s.ph&&gK x.k)) [(7,.box [.fn 251 [.ptr 4 0 0]]),(4,bL s)]:=by
 have c:=zJb s x;have e:=qY x
 cases h:(x.ph==s.ph)<;>rw[h]at c
 ·(refine eM call252 λF hF=>?_)
  refine yS (vH c e) ?_;exact zK [7,4] Z Z Z Z
 ·rw[yB2];refine eM call252 λF hF=>?_
  refine yS (vH c e) ?_;exact zK [7,4] Z Z Z Z
def EY (s:Sv) (l:List Cl) (hb:l.length<=1073741824):zO 120 [zD fM l,.fn 251 [.ptr 4 0 0]] [(4,bL s)] (iA (YV (λx:Cl=>x.ph==s.ph) l)) [(4,bL s)]:=by
 have hl:=zA fM l;refine eM call120 λF hF=>?_
 refine WW ?_;refine kF (l) [4] [4] [0,1,7] [8,0,1,7] Z (λi pre T U zs=>(∀y∈pre,((λx:Cl=>x.ph==s.ph)) y=false)/\zs=⟨(8,iA i)::T,U⟩) ?_;(conv=>whnf);refine⟨?_,?_,?_⟩
 ·exact⟨by simp,rfl⟩
 ·rintro i pre x post st hx hi ⟨hp,rfl⟩;have hy:=xL fM hx hi;have hlt:=yQ hx hi;have c:=zJb s x;have hit:=PF (p:=(λx:Cl=>x.ph==s.ph)) hx hp
  try dsimp only at hit
  cases he:((λx:Cl=>x.ph==s.ph)) x<;>(dsimp only at he;rw[he]at c)
  ·(refine zW c ?_)
   exact⟨λy hy=>by simp only[yBy,yCf]at hy;rcases hy with hy|rfl;exact hp y hy;exact he,rfl⟩
  ·rw[hit he,hi];refine zW c ?_;exact zK [4] Z Z Z Z
 ·rintro st ⟨hp,rfl⟩;rw[UT hp];refine WW ?_;exact zK [4] rfl rfl rfl rfl
def PH (s:Sv) (l:List Cl) (hb:l.length<=1073741824):zO 85 [zD fM l,.fn 251 [.ptr 4 0 0]] [(4,bL s)] (bA (l.any (λx:Cl=>x.ph==s.ph))) [(4,bL s)]:=by
 have c:=EY s l hb;have h:=PG (λx:Cl=>x.ph==s.ph) l;have h2:=JO (λx:Cl=>x.ph==s.ph) l;generalize YV (λx:Cl=>x.ph==s.ph) l=n at*
 cases ha:l.any (λx:Cl=>x.ph==s.ph)<;>rw[ha]at h<;>simp at h
 ·(refine eM call85 λF hF=>?_)
  refine zW c ?_;exact zK [4] Z Z Z Z
 ·(refine eM call85 λF hF=>?_)
  refine zW c ?_;exact zK [4] Z Z Z Z
def zAn (s:Sv) (l:List Cl) (hb:l.length<=1073741824):zO 120 [zD fM l,.fn 252 [.ptr 7 0 0]] [(7,.box [.fn 251 [.ptr 4 0 0]]),(4,bL s)] (iA (YV (λx:Cl=>x.ph==s.ph&&gK x.k) l)) [(7,.box [.fn 251 [.ptr 4 0 0]]),(4,bL s)]:=by
 have hl:=zA fM l;refine eM call120 λF hF=>?_
 refine WW ?_;refine kF (l) [7,4] [7,4] [0,1,7] [8,0,1,7] Z (λi pre T U zs=>(∀y∈pre,((λx:Cl=>x.ph==s.ph&&gK x.k)) y=false)/\zs=⟨(8,iA i)::T,U⟩) ?_;(conv=>whnf);refine⟨?_,?_,?_⟩
 ·exact⟨by simp,rfl⟩
 ·rintro i pre x post st hx hi ⟨hp,rfl⟩;have hy:=xL fM hx hi;have hlt:=yQ hx hi;have c:=zJc s x;have hit:=PF (p:=(λx:Cl=>x.ph==s.ph&&gK x.k)) hx hp
  try dsimp only at hit
  cases he:((λx:Cl=>x.ph==s.ph&&gK x.k)) x<;>(dsimp only at he;rw[he]at c)
  ·(refine zW c ?_)
   exact⟨λy hy=>by simp only[yBy,yCf]at hy;rcases hy with hy|rfl;exact hp y hy;exact he,rfl⟩
  ·rw[hit he,hi];refine zW c ?_;exact zK [7,4] Z Z Z Z
 ·rintro st ⟨hp,rfl⟩;rw[UT hp];refine WW ?_;exact zK [7,4] rfl rfl rfl rfl
def MD (s:Sv) (l:List Cl) (hb:l.length<=1073741824):zO 85 [zD fM l,.fn 252 [.ptr 7 0 0]] [(7,.box [.fn 251 [.ptr 4 0 0]]),(4,bL s)] (bA (l.any (λx:Cl=>x.ph==s.ph&&gK x.k))) [(7,.box [.fn 251 [.ptr 4 0 0]]),(4,bL s)]:=by
 have c:=zAn s l hb;have h:=PG (λx:Cl=>x.ph==s.ph&&gK x.k) l;have h2:=JO (λx:Cl=>x.ph==s.ph&&gK x.k) l;generalize YV (λx:Cl=>x.ph==s.ph&&gK x.k) l=n at*
 cases ha:l.any (λx:Cl=>x.ph==s.ph&&gK x.k)<;>rw[ha]at h<;>simp at h
 ·(refine eM call85 λF hF=>?_)
  refine zW c ?_;exact zK [7,4] Z Z Z Z
 ·(refine eM call85 λF hF=>?_)
  refine zW c ?_;exact zK [7,4] Z Z Z Z
def jS (g:Cf) (s:Sv) (l:List Cl):Bool:=!(l.any λx=>x.ph==s.ph)||decide (g.hold<=s.gr)||((l.any λc=>gK c.k)&& !(l.any λx=>x.ph==s.ph&&gK x.k))
def zU5 (g:Cf) (s:Sv) (l:List Cl) (hb:l.length<=1073741824):zO 228 [wN g,wV s,zD fM l] [] (bA (jS g s l)) []:=by
 have c1:=PH s l hb;have c2:=MD s l hb;have c3:=WU l hb;unfold jS;generalize (l.any λx=>x.ph==s.ph)=m at *;generalize (l.any λx=>x.ph==s.ph&&gK x.k)=u at *;generalize (l.any λc=>gK c.k)=e at *;by_cases h:g.hold<=s.gr
 ·rw[yBk h]
  cases m<;>cases u<;>cases e<;>(simp only[yGl,yF3,yE2,yEv,yEl,yFu,yEx];(refine eM call228 λF hF=>?_);(refine yS (gW c1 c3 c2) ?_);exact zJ)
 ·rw[yBm h]
  cases m<;>cases u<;>cases e<;>(simp only[yGl,yF3,yE2,yEv,yEl,yG3,yFu,yEx];(refine eM call228 λF hF=>?_);(refine yS (gW c1 c3 c2) ?_);exact zJ)
def uR (g:Cf) (s:Sv) (l:List Cl) (now:Int):Sv:=if s.ph≠ -1/\jS g s l=true then kR s now else s
def xU (g:Cf) (s:Sv) (l:List Cl) (now:Int):Sv:=
 if(uR g s l now).ph= -1/\0<=uE g (uR g s l now) now l l.length then⟨(l.getD (uE g (uR g s l now) now l l.length).toNat default).ph,0,(uR g s l now).en⟩else uR g s l now
def UU (s:Sv) (now:Int):(kR s now).en.length=s.en.length:=by unfold kR;dsimp only;split<;>simp
def zJd (g:Cf) (s:Sv) (l:List Cl) (now:Int):(uR g s l now).en.length=s.en.length:=by unfold uR;split;exact UU s now;rfl
structure DcB (g:Cf) (s:Sv) (l:List Cl) (now:Int):Prop where
 p:1<=g.per
 c0: -1000000<=g.cap
 c1:g.cap<=1000000
 n0:0<=now
 n1:now<=1000000000
 en:∀e∈s.en,-1<=e/\e<=now
 k:∀c∈l,0<=c.k/\c.k<=3
 si:∀c∈l,0<=c.si/\c.si<=now
 len:l.length<=1000
 sl:s.en.length<=1000
def PI (s:Sv) (now:Int) (h0:0<=now) (h:∀e∈s.en,-1<=e/\e<=now):∀e∈(kR s now).en,-1<=e/\e<=now:=by
 unfold kR;dsimp only;split
 ·intro e he
  rcases yEk he with he|rfl
  ·exact h e he
  ·omega
 ·exact h
def zDa (g:Cf) (s:Sv) (l:List Cl) (now:Int) (h0:0<=now) (h:∀e∈s.en,-1<=e/\e<=now):∀e∈(uR g s l now).en,-1<=e/\e<=now:=by
 unfold uR;split;exact PI s now h0 h;exact h
theorem DcB.ok {g:Cf} {s:Sv} {l:List Cl} {now:Int} (H:DcB g s l now) (s':Sv) (he:∀e∈s'.en,-1<=e/\e<=now):∀i,i<l.length->COk g.per now s'.en (l.getD i default):=λi hi=>by
 have hk:=eJ (λc:Cl=>0<=c.k/\c.k<=3) default l i H.k hi;have hs:=eJ (λc:Cl=>0<=c.si/\c.si<=now) default l i H.si hi;have he:=zPr s'.en now (l.getD i default).ph H.n0 he;have:=H.p;have:=H.n0;have:=H.n1
 constructor<;>(try unfold gL)<;>omega
def zJe (g:Cf) (s:Sv) (l:List Cl) (now:Int) (H:DcB g s l now):zO 213 [wN g,wV s,zD fM l,iA now] [] (wV (xU g s l now)) []:=by
 have hb:SvB s:=⟨by have:=H.sl;omega⟩;have c1:=WR s hb;have c2:=zU5 g s l (by have:=H.len;omega);have c3:=zJa s hb now;have hl:=zA fM l;have hll:=H.len;have he:=zDa g s l now H.n0 H.en;have c4:=zVj g (uR g s l now) now l zB (H.ok _ he);have hbd:=cG g (uR g s l now) now l l.length
 have hd:uR g s l now=if s.ph≠ -1/\jS g s l=true then kR s now else s:=rfl
 unfold xU;generalize uR g s l now=s1 at *;generalize uE g s1 now l l.length=b at *;generalize jS g s l=ov at *;generalize kR s now=s2 at *;by_cases h1:s.ph= -1
 ·rw[yBc (by simp[h1])]at hd;subst hd;by_cases h2:0<=b
  ·rw[yBd ⟨h1,h2⟩];have hy:=yL fM l b h2 zB;generalize l.getD b.toNat default=cl at *;refine eM call213 λF hF=>?_
   refine yS (vH c1 c4) ?_;exact zJ
  ·rw[yBc (λh=>h2 h.2)];refine eM call213 λF hF=>?_
   refine yS (vH c1 c4) ?_;exact zJ
 cases ov with
 |false=>
  rw[yBc zQ]at hd;subst hd;rw[yBc (λh=>h1 h.1)];refine eM call213 λF hF=>?_
  refine yS (vH c1 c2) ?_;exact zJ
 | true=>
  rw[yBd ⟨h1,rfl⟩]at hd;subst hd;by_cases h3:s1.ph= -1
  ·by_cases h2:0<=b
   ·rw[yBd ⟨h3,h2⟩];have hy:=yL fM l b h2 zB;generalize l.getD b.toNat default=cl at *;refine eM call213 λF hF=>?_
    refine yS (bY c1 c2 c3 c4) ?_;exact zJ
   ·rw[yBc (λh=>h2 h.2)];refine eM call213 λF hF=>?_
    refine yS (bY c1 c2 c3 c4) ?_;exact zJ
  ·rw[yBc (λh=>h3 h.1)];refine eM call213 λF hF=>?_
   refine yS (bY c1 c2 c3 c4) ?_;exact zJ
def JP (g:Cf) (s:Sv) (l:List Cl) (now:Int):(xU g s l now).en=(uR g s l now).en:=by unfold xU;split<;>rfl
def VA (g:Cf) (s:Sv) (l:List Cl) (now:Int):(xU g s l now).en.length=s.en.length:=by rw[JP];exact zJd g s l now
def zAo (g:Cf) (s:Sv) (l:List Cl) (now:Int):(uR g s l now=s∨(s.ph≠ -1/\jS g s l=true/\uR g s l now=kR s now)):=by
 unfold uR;split
 ·rename_i h;exact .inr ⟨h.1,h.2,rfl⟩
 ·exact .inl Z
def JQ (g:Cf) (s:Sv) (l:List Cl) (now:Int):(uR g s l now).ph=s.ph/\(uR g s l now).gr=s.gr∨(uR g s l now).ph= -1/\(uR g s l now).gr=0:=by
 rcases zAo g s l now with hd|⟨_,_,hd⟩
 ·exact .inl (by rw[hd];exact⟨rfl,rfl⟩)
 ·exact .inr (by rw[hd];exact⟨rfl,rfl⟩)
def zU6 (g:Cf) (s:Sv) (l:List Cl) (now:Int) (n:Int) (hl:∀c∈l,0<=c.ph/\c.ph<n) (h: -1<=s.ph/\s.ph<n/\0<=s.gr/\s.gr<=60) (h0:0<=n): -1<=(xU g s l now).ph/\(xU g s l now).ph<n/\0<=(xU g s l now).gr/\(xU g s l now).gr<=60:=by
 have h1:=JQ g s l now;have hb:=cG g (uR g s l now) now l l.length;unfold xU;split
 ·rename_i hh;have:=eJ (λc:Cl=>0<=c.ph/\c.ph<n) default l (uE g (uR g s l now) now l l.length).toNat hl zB;dsimp only;omega
 ·omega
def zJf (g:Cf) (s:Sv) (l:List Cl) (now:Int) (h0:0<=now) (h:∀e∈s.en,-1<=e/\e<=now):∀e∈(xU g s l now).en,-1<=e/\e<=now:=by rw[JP];exact zDa g s l now h0 h
def JR (s:Sv) (b:Bool):(gA s b).en=s.en/\(gA s b).ph=s.ph:=by unfold gA;split<;>exact⟨rfl,rfl⟩
def zU7 (s:Sv) (b:Bool) (h:0<=s.gr/\s.gr<=60):0<=(gA s b).gr/\(gA s b).gr<=60:=by unfold gA;split;(dsimp only;omega);exact h
def zYi (s:Sv) (b:Bool) (hz:s.ph= -1->s.gr=0):(gA s b).ph= -1->(gA s b).gr=0:=by
 unfold gA;split
 ·rename_i h;intro h2;exact absurd h2 h.2
 ·exact hz
def zYj (g:Cf) (s:Sv) (l:List Cl) (now:Int) (hz:s.ph= -1->s.gr=0):(xU g s l now).ph= -1->(xU g s l now).gr=0:=by
 have h1:=JQ g s l now;unfold xU;split
 ·exact λ_=>rfl
 ·intro h2;rcases h1 with h1|h1
  ·rw[h1.2];exact hz zB
  ·exact h1.2
structure EI (n:Nat) (d:Dk) (s:Sv) (now:Int):Prop where
 len:s.en.length=n
 en:∀e∈s.en,-1<=e/\e<now
 p0: -1<=s.ph
 p1:s.ph<n
 g0:0<=s.gr
 g1:s.gr<=60
 n0:1<=now
 n1:now+rem d<=301
 z:s.ph= -1->s.gr=0
theorem EI.next {n:Nat} {d:Dk} {s:Sv} {now:Int} (H:EI n d s now) (g:Cf) (c:List Cl) (hcl:∀x∈c,ClB n now x) (b:Bool) (d':Dk) (hd:rem d'+1<=rem d):EI n d' (gA (xU g s c now) b) (now+1):=by
 have hp:=zU6 g s c now n (λx hx=>⟨(hcl x hx).p0,(hcl x hx).p1⟩) ⟨H.p0,H.p1,H.g0,H.g1⟩ zB;have hg:=zU7 (xU g s c now) b hp.2.2;obtain⟨e1,e2⟩:=JR (xU g s c now) b;have:=H.n0;have:=H.n1;have he:=zJf g s c now zB (λe he=>by have:=H.en e he;omega);refine⟨by rw[e1,VA];exact H.len,λe h=>?_,zB,zB,zB,zB,zB,zB,λh=>?_⟩
 case refine_2=>exact zYi _ b (zYj g s c now H.z) h
 rw[e1]at h;have:=he e h;omega
def zFg {g:Cf} {s:Sv} {l:List Cl} (h:jS g s l=false):(l.any λx=>x.ph==s.ph)=true/\s.gr<g.hold/\((l.any λc=>gK c.k)=true->(l.any λx=>gK x.k&&x.ph==s.ph)=true):=by
 unfold jS at h
 have e:(l.any λx=>gK x.k&&x.ph==s.ph)=(l.any λx=>x.ph==s.ph&&gK x.k):=by
  congr 1;funext x;exact Bool.and_comm _ _
 rw[e];generalize (l.any λx=>x.ph==s.ph)=m at *;generalize (l.any λx=>x.ph==s.ph&&gK x.k)=u at *;generalize (l.any λc=>gK c.k)=w at *;by_cases h2:g.hold<=s.gr
 ·rw[yBk h2]at h;simp at h
 ·rw[yBm h2]at h;refine⟨?_,zB,?_⟩
  ·cases m<;>simp_all
  ·cases m<;>cases u<;>cases w<;>simp_all
def fJ (p:Ph) (l:Li):Int:=
 if l.lamp=1 then max 1 (UZ p-l.tk)+p.yel+p.red else if l.lamp=2 then p.yel-l.tk+p.red else if l.lamp=3 then p.red-l.tk else 0
def JT {p:Ph} {l:Li} (h:l.lamp=0):fJ p l=0:=by unfold fJ;rw[yBc zB,yBc zB,yBc zB]
def zYk {p:Ph} {l:Li} (hv:TA p l=true) (hy:1<=p.yel) (hr:0<=p.red) (h:fJ p l<=0):l.lamp=0:=by
 unfold TA at hv;unfold fJ at h;by_cases h0:l.lamp=0
 ·exact h0
 rw[yBc h0]at hv;by_cases h1:l.lamp=1
 ·rw[yBd h1]at h hv;omega
 rw[yBc h1]at h hv;by_cases h2:l.lamp=2
 ·rw[yBd h2]at h hv;rw[yBi]at hv;omega
 rw[yBc h2]at h hv;by_cases h3:l.lamp=3
 ·rw[yBd h3]at h hv;rw[yBi]at hv;omega
 rw[yBc h3]at hv;cases hv
def zU8 {p:Ph} {l:Li} (hv:TA p l=true) (hy:1<=p.yel) (hr:0<=p.red) (hln:1<=UZ p):fJ p l<=UZ p+p.yel+p.red:=by
 unfold TA at hv;unfold fJ;by_cases h1:l.lamp=1
 ·rw[yBd h1];rw[yBc zB,yBd h1,yBi]at hv;omega
 rw[yBc h1];by_cases h2:l.lamp=2
 ·rw[yBd h2];rw[yBc zB,yBc h1,yBd h2,yBi]at hv;omega
 rw[yBc h2];by_cases h3:l.lamp=3
 ·rw[yBd h3];rw[yBc zB,yBc h1,yBc h2,yBd h3,yBi]at hv;omega
 rw[yBc h3];omega
def zJg {p:Ph} {l:Li} {lv:Bool} (hv:TA p l=true) (hy:1<=p.yel) (hr:0<=p.red) (hln:UZ p<=1000) (hlv:l.lamp=1->lv=true):fJ p (FE p l lv)<=max 0 (fJ p l-1):=by
 unfold TA at hv;unfold FE;by_cases h1:l.lamp=1
 ·rw[yBd h1,hlv h1];rw[yBc zB,yBd h1,yBi]at hv;have e:fJ p l=max 1 (UZ p-l.tk)+p.yel+p.red:=by unfold fJ;rw[yBd h1]
  rw[e];split
  ·rename_i h;have e2:fJ p ⟨2,0⟩=p.yel-0+p.red:=rfl;rw[e2];omega
  ·rename_i h;have e2:fJ p ⟨1,min (l.tk+1) 1073741824⟩=max 1 (UZ p-min (l.tk+1) 1073741824)+p.yel+p.red:=rfl;rw[e2];have:¬UZ p<=l.tk+1:=λk=>h ⟨rfl,k⟩
   omega
 by_cases h2:l.lamp=2
 ·rw[yBc h1,yBd h2];rw[yBc zB,yBc h1,yBd h2,yBi]at hv;have e:fJ p l=p.yel-l.tk+p.red:=by unfold fJ;rw[yBc h1,yBd h2]
  rw[e];split
  ·have e2:fJ p ⟨2,l.tk+1⟩=p.yel-(l.tk+1)+p.red:=rfl;rw[e2];omega
  ·split
   ·rw[JT Z];omega
   ·have e2:fJ p ⟨3,0⟩=p.red-0:=rfl;rw[e2];omega
 by_cases h3:l.lamp=3
 ·rw[yBc h1,yBc h2,yBd h3];rw[yBc zB,yBc h1,yBc h2,yBd h3,yBi]at hv;have e:fJ p l=p.red-l.tk:=by unfold fJ;rw[yBc h1,yBc h2,yBd h3]
  rw[e];split
  ·have e2:fJ p ⟨3,l.tk+1⟩=p.red-(l.tk+1):=rfl;rw[e2];omega
  ·rw[JT Z];omega
 ·rw[yBc h1,yBc h2,yBc h3];unfold fJ;rw[yBc h1,yBc h2,yBc h3];omega
def zJh {j:Jn} {c:Ct} (C:CV j c) {t:Nat} (ht:t<j.ph.length) (r:Int) (p:Nat):xN (jL j t c r) p=xN c p∨(xN (jL j t c r) p=⟨1,0⟩/\(p=t∨jQ j.cf p t=false)):=by
 unfold jL;split
 ·split
  ·exact .inl Z
  ·rename_i h;unfold ZK at h⊢;split at h
   ·rename_i hr;rw[yBd hr,yB5]
    rcases JZ C.n ht p with h2|⟨h1,h2⟩
    ·exact .inl h2
    ·exact .inr ⟨h2,.inl h1⟩
   ·rename_i hr;rw[yBc hr]
    rcases PN j (c.nx.getD r.toNat default) r t with h1|⟨q,h1,h2,_,h4⟩
    ·exact absurd h1 h
    ·rw[h1,yB5]
     rcases JZ C.n h2 p with h3|⟨h3,h5⟩
     ·exact .inl h3
     ·subst h3;exact .inr ⟨h5,.inr h4⟩
 ·exact .inl Z
def zJi {j:Jn} {c:Ct} (C:CV j c) {t:Nat} (ht:t<j.ph.length) (r:Int) (p:Nat) (hp:p≠t) (hc:jQ j.cf p t=true):xN (jL j t c r) p=xN c p:=by
 rcases zJh C ht r p with h|⟨_,h|h⟩
 ·exact h
 ·exact absurd h hp
 ·rw[hc]at h;cases h
def zS7 {j:Jn} (J:JV j) {c:Ct} (C:CV j c) {t:Nat} (ht:t<j.ph.length) (hr:∀p,p<j.ph.length->(p=t∨jQ j.cf p t=true)->(xN c p).lamp=0):xN (jL j t c (yP j t).ring) t=⟨1,0⟩:=by
 have hd:FF j c (yP j t).ring=true:=by
  unfold FF;rw[yBr];intro p hp;obtain⟨hp1,hp2⟩:=dN.1 hp;rw[yCl];refine hr p hp1 ?_;by_cases e:p=t
  ·exact .inl e
  ·exact .inr (J.ap p t hp1 ht e (.inl hp2))
 have hk:YJ j c t=false:=by
  unfold YJ;rw[yD4];intro q hq;have hq:=yBz.1 hq;rw[C.n]at hq;rw[yDz,Bool.and_eq_false_iff]
  cases hc:jQ j.cf t q with
  |false=>exact .inr Z
  |true=>
   rw[J.sy t q ht hq]at hc
   left
   rw[hr q hq (.inr hc)];rfl
 unfold jL ZK;rw[yBd hd,yBd Z,yBc zB,yB5];have h:=JZ C.n ht t;unfold kZ;rw[yBc zD8]
 have h2:(ME j c t).li=c.li.set t ⟨1,0⟩:=by unfold ME;split<;>rfl
 unfold xN;dsimp only;rw[h2];have:=IE c t t ⟨1,0⟩ 0 [] 0 (by rw[C.n];exact ht);rw[yBd Z]at this;exact this
def RV {j:Jn} (J:JV j) {c:Ct} (C:CV j c) {t:Nat} (ht:t<j.ph.length) (hg:(xN c t).lamp=1):(xN (bU j c t) t).lamp=1:=by
 rcases zYr J C t t ht with⟨h,h0⟩|h|⟨_,h⟩
 ·omega
 ·rw[h];unfold FG FE TB;rw[yBd hg,yBk (show 0<=(t:Int)/\(t:Int)<j.ph.length by omega),yBd Z,yBm zQ];simp
 ·rw[h]
def zPi {j:Jn} (J:JV j) {c:Ct} (C:CV j c) {t:Nat} (ht:t<j.ph.length) (h0:c.wt=0) (hg:(xN c t).lamp≠1) (k:Nat) (hk:∀p,p<j.ph.length->(p=t∨jQ j.cf p t=true)->fJ (yP j p) (xN c p)<=k+1):
  (xN (bU j c t) t).lamp=1∨(1<=k/\(bU j c t).wt=0/\∀p,p<j.ph.length->(p=t∨jQ j.cf p t=true)->fJ (yP j p) (xN (bU j c t) p)<=k):=by
 have L:=zDj J C h0 t;have haim:TB j t=true:=yBk zB
 have hst:bU j c t=jL j t (jL j t ⟨aR j c t,c.gr,c.nx,c.wt⟩ 0) 1:=by
  unfold bU;rw[yBc zB,yBd haim,yB5]
 rw[hst]
 have hl:∀p,p<j.ph.length->(p=t∨jQ j.cf p t=true)->fJ (yP j p) (xN ⟨aR j c t,c.gr,c.nx,c.wt⟩ p)<=k:=λp hp h=>by
  rw[DH _ _ _ _ _ hp];have hti:=J.ti p hp;have hln:UZ (yP j p)<=1000:=by unfold UZ;omega
  have h1:=zJg (lv:=FG j c t p) (C.k p hp) zB zB hln (λh1=>by
   unfold FG;rw[yBd haim]
   rcases h with h|h
   ·subst h;exact absurd h1 hg
   ·rw[h];have:p≠t:=λe=>by subst e;rw[J.ir p hp]at h;cases h
    rw[yBk (show(p:Int)≠t by omega)]
    simp)
  have:=hk p hp h;omega
 have hLw:(⟨aR j c t,c.gr,c.nx,c.wt⟩:Ct).wt=0:=h0;generalize (⟨aR j c t,c.gr,c.nx,c.wt⟩:Ct)=cl at *;have C1:=LO J L hLw ht 0;have C2:=LO J C1.1 C1.2 ht 1;by_cases hg2:(xN (jL j t (jL j t cl 0) 1) t).lamp=1
 ·exact .inl hg2
 right
 have e2:xN (jL j t (jL j t cl 0) 1) t=xN (jL j t cl 0) t:=by
  rcases zJh C1.1 ht 1 t with h|⟨h,_⟩
  ·exact h
  ·rw[h]at hg2;exact absurd Z hg2
 have e1:xN (jL j t cl 0) t=xN cl t:=by
  rcases zJh L ht 0 t with h|⟨h,_⟩
  ·exact h
  ·rw[e2,h]at hg2;exact absurd Z hg2
 have hne:∀p,p<j.ph.length->jQ j.cf p t=true->p≠t:=λp hp h e=>by subst e;rw[J.ir p hp]at h;cases h
 have hsame1:∀p,p<j.ph.length->(p=t∨jQ j.cf p t=true)->xN (jL j t cl 0) p=xN cl p:=λp hp h=>by
  rcases h with rfl|h
  ·exact e1
  ·exact zJi L ht 0 p (hne p hp h) h
 have hsame2:∀p,p<j.ph.length->(p=t∨jQ j.cf p t=true)->xN (jL j t (jL j t cl 0) 1) p=xN cl p:=λp hp h=>by
  rw[<-hsame1 p hp h]
  rcases h with rfl|h
  ·exact e2
  ·exact zJi C1.1 ht 1 p (hne p hp h) h
 refine⟨?_,C2.2,λp hp h=>by rw[hsame2 p hp h];exact hl p hp h⟩;refine yD6 λhk0=>?_
 have hred:∀p,p<j.ph.length->(p=t∨jQ j.cf p t=true)->(xN cl p).lamp=0:=λp hp h=>by
  have hti:=J.ti p hp;exact zYk (L.k p hp) zB zB (by have:=hl p hp h;omega)
 have hrg:=J.rg t ht;have:(yP j t).ring=0∨(yP j t).ring=1:=by omega
 rcases this with h|h
 ·have:=zS7 J L ht hred;rw[h,e1]at this;rw[e2,e1,this]at hg2;exact hg2 Z
 ·have:=zS7 J C1.1 ht (λp hp h=>by rw[hsame1 p hp h];exact hred p hp h);rw[h]at this;rw[this]at hg2;exact hg2 Z
theorem UV (j:Jn) (c:Ct) (t:Int):∀k,UX j (bU j c t) t k=UX j c t (k+1)
 |0=>rfl
 |k+1=>by
  show bU j (UX j (bU j c t) t k) t=bU j (UX j c t (k+1)) t
  rw[UV j c t k]
theorem JU {j:Jn} (J:JV j) {t:Nat} (ht:t<j.ph.length):∀(k:Nat) (c:Ct),CV j c->c.wt=0->(∀p,p<j.ph.length->(p=t∨jQ j.cf p t=true)->fJ (yP j p) (xN c p)<=k+1)->∃n,n<=k+1/\(xN (UX j c t n) t).lamp=1
 | k,c,C,h0,hk=>by
  by_cases hg:(xN c t).lamp=1
  ·exact⟨0,zB,hg⟩
  rcases zPi J C ht h0 hg k hk with h|⟨h1,h2,h3⟩
  ·exact⟨1,zB,h⟩
  ·match k,h1,h3 with
   |k'+1,_,h3=>
    obtain⟨n,hn,hn2⟩:=JU J ht k' (bU j c t) (zDk J C t) h2 (λp hp h=>by have:=h3 p hp h;omega);exact⟨n+1,zB,by rw[<-UV];exact hn2⟩
def JW (ps:List Ph):Nat->Int
 |0=>0
 |i+1=>max (JW ps i) (UZ (ps.getD i default)+(ps.getD i default).yel+(ps.getD i default).red)
def XY (j:Jn):Int:=j.st+JW j.ph j.ph.length
def zJj (ps:List Ph) (n:Nat):∀i,i<n->UZ (ps.getD i default)+(ps.getD i default).yel+(ps.getD i default).red<=JW ps n:=by
 induction n with
 |zero=>intro i h;exact absurd h (yDp _)
 |succ n ih=>
  intro i h;unfold JW;by_cases e:i=n
  ·subst e;omega
  ·have:=ih i zB;omega
def RW {j:Jn} (J:JV j):j.st+2<=XY j:=by
 have h:=zJj j.ph j.ph.length 0 KD;have h2:=J.ti 0 KD;unfold XY;unfold yP at h2;unfold UZ at h;omega
theorem zJk {j:Jn} {t:Int}:∀(k:Nat) (c:Ct),c.wt=k->UX j c t k=⟨c.li,c.gr,c.nx,0⟩
 |0,c,h=>by
  show c=_
  obtain⟨a,b,d,e⟩:=c;dsimp only at h⊢;rw[h];rfl
 |k+1,c,h=>by
  rw[<-UV];have e:bU j c t=⟨c.li,c.gr,c.nx,c.wt-1⟩:=by unfold bU;rw[yBd zB]
  rw[e,zJk k _ (by dsimp only;omega)]
theorem JX (j:Jn) (c:Ct) (t:Int) (a:Nat):∀b,UX j (UX j c t a) t b=UX j c t (a+b)
 |0=>rfl
 |b+1=>by
  show bU j (UX j (UX j c t a) t b) t=bU j (UX j c t (a+b)) t
  rw[JX j c t a b]
def zYl {j:Jn} (J:JV j) {c:Ct} (C:CV j c) {t:Nat} (ht:t<j.ph.length):∃n:Nat,(n:Int)<=XY j/\(xN (UX j c t n) t).lamp=1:=by
 have htr:=RW J;have hst:=J.st;have hw:=C.w;by_cases h0:c.wt=0
 ·have htl:∀p,p<j.ph.length->fJ (yP j p) (xN c p)<=JW j.ph j.ph.length:=λp hp=>by
   have hti:=J.ti p hp;have h1:=zU8 (C.k p hp) zB zB (by unfold UZ;omega);have h2:=zJj j.ph j.ph.length p hp;unfold yP at *;omega
  have h3:2<=JW j.ph j.ph.length:=by unfold XY at htr;omega
  obtain⟨k,hk⟩:∃k:Nat,JW j.ph j.ph.length=k+1:=⟨(JW j.ph j.ph.length).toNat-1,zB⟩;obtain⟨n,hn,hn2⟩:=JU J ht k c C h0 (λp hp _=>by have:=htl p hp;omega);exact⟨n,by unfold XY;omega,hn2⟩
 ·have hz:∀p,p<j.ph.length->(xN c p).lamp=0:=by rcases C.z with h|h;exact absurd h h0;exact h
  obtain⟨w,hw2⟩:∃w:Nat,c.wt=w:=⟨c.wt.toNat,zB⟩;have e:=zJk (j:=j) (t:=t) w c hw2;have C1:=zDe J C (t:Int) w;rw[e]at C1
  obtain⟨n,hn,hn2⟩:=JU J ht 0 ⟨c.li,c.gr,c.nx,0⟩ C1 Z (λp hp _=>by
   have:(xN ⟨c.li,c.gr,c.nx,0⟩ p).lamp=0:=hz p hp
   rw[JT this];omega)
  rw[<-e,JX]at hn2;exact⟨w+n,zB,hn2⟩
theorem zJl {j:Jn} (J:JV j) {c:Ct} (C:CV j c) {t:Nat} (ht:t<j.ph.length) (hg:(xN c t).lamp=1):∀k,(xN (UX j c t k) t).lamp=1
 |0=>hg
 |k+1=>RV J (zDe J C t k) ht (zJl J C ht hg k)
def zDb (s:Sg) (h1:s.c.li.length<=1073741824) (h2:s.c.nx.length<=1073741824):zO 149 [wY s] [] (wY s) []:=by
 have c1:=LN s.c.li h1;have c2:=LM s.c.nx h2;refine eM call149 λF hF=>?_
 refine yS (vH c1 c2) ?_;exact zJ
def grB (s:Sg) (v:Sv):Bool:=decide (0<=v.ph/\v.ph<s.c.li.length)&&((xN s.c v.ph.toNat).lamp==1)
def cU (g:Cf) (j:Jn) (s:Sg) (v:Sv) (l:List Cl) (k now:Int):Sg×Sv:=
 if s.lat=true then(s,kR v now)
 else if(AZ j s (xU g v l now).ph k).lat=true then(AZ j s (xU g v l now).ph k,kR (xU g v l now) now)
 else(AZ j s (xU g v l now).ph k,gA (xU g v l now) (grB (AZ j s (xU g v l now).ph k) (xU g v l now)))
def zPj (g:Cf) (j:Jn) (J:JV j) (s:Sg) (C:CV j s.c) (v:Sv) (l:List Cl) (k now:Int) (H:DcB g v l now) (hgr: -1000000<=(xU g v l now).gr):zO 190 [wN g,wE j,wY s,wV v,zD fM l,iA k,iA now] [] (.tup [wY (cU g j s v l k now).1,wV (cU g j s v l k now).2]) []:=by
 have hJ:=J.n;have hn:=C.n;have hm:=C.m;have hb:SvB v:=⟨by have:=H.sl;omega⟩;have hb2:SvB (xU g v l now):=⟨by rw[VA];have:=H.sl;omega⟩;have c0:=zDb s zB zB;have c1:=zJa v hb now;have c2:=zJe g v l now H;have c3:=zPp j J s C (xU g v l now).ph k;have c4:=zJa (xU g v l now) hb2 now;have c5:=zPf (xU g v l now) hb2 (grB (AZ j s (xU g v l now).ph k) (xU g v l now)) hgr;have X:=zYs J C (xU g v l now).ph k;have hxn:=X.n;unfold cU;generalize kR v now=v0 at *;generalize xU g v l now=v1 at *;generalize kR v1 now=v2 at *;generalize AZ j s v1.ph k=x at *;have hgb:grB x v1=(decide (0<=v1.ph/\v1.ph<x.c.li.length)&&((xN x.c v1.ph.toNat).lamp==1)):=rfl;generalize grB x v1=b at *;generalize gA v1 b=v3 at *;clear H hgr X C hb hb2;obtain⟨sc,sl⟩:=s;obtain⟨xc,xl⟩:=x;dsimp only at *;have hlx:=zA vG xc.li
 cases sl with
 |true=>
  rw[yBd Z];refine eM call190 λF hF=>?_
  refine yS (vH c0 c1) ?_;exact zJ
 |false=>
 rw[yBc yBw]
 cases xl with
 |true=>
  rw[yBd Z];refine eM call190 λF hF=>?_
  refine yS (gW c2 c3 c4) ?_;exact zJ
 |false=>
 rw[yBc yBw];dsimp only;rw[show wY ⟨xc,false⟩= .agg [zD vG xc.li,iA xc.gr,zD iA xc.nx,iA xc.wt,bA false]from Z]at *; by_cases h1:0<=v1.ph
 case neg=>
  rw[yBm (λh=>h1 h.1),yC4]at hgb;subst hgb;refine eM call190 λF hF=>?_
  refine yS (gW c2 c3 c5) ?_;exact zJ
 by_cases h2:v1.ph<xc.li.length
 case neg=>
  rw[yBm (λh=>h2 h.2),yC4]at hgb;subst hgb;refine eM call190 λF hF=>?_
  refine yS (gW c2 c3 c5) ?_;exact zJ
 rw[yBk ⟨h1,h2⟩,yB2]at hgb;have hy:=yL vG xc.li v1.ph h1 h2
 change (xc.li.map vG)[v1.ph.toNat]? =some (vG (xN xc v1.ph.toNat))at hy
 generalize xN xc v1.ph.toNat=a at *;by_cases h3:a.lamp=1
 ·rw[show(a.lamp==1)=true by rw[yCl];exact h3]at hgb;subst hgb;refine eM call190 λF hF=>?_
  refine yS (gW c2 c3 c5) ?_;exact zJ
 ·rw[show(a.lamp==1)=false by rw[yCm];exact h3]at hgb;subst hgb;refine eM call190 λF hF=>?_
  refine yS (gW c2 c3 c5) ?_;exact zJ
def zPk {j:Jn} (J:JV j) {s:Sg} (C:CV j s.c) (g:Cf) (v:Sv) (c:List Cl) (k now:Int):CV j (cU g j s v c k now).1.c:=by
 unfold cU;split
 ·exact C
 ·split<;>exact zYs J C _ _
def zU9 {g:Cf} {j:Jn} {s:Sg} {v:Sv} {c:List Cl} {k now:Int} (h:(cU g j s v c k now).1.lat=true):(cU g j s v c k now).2.ph= -1:=by
 unfold cU at h⊢;split
 ·rfl
 ·rename_i h1;rw[yBc h1]at h;split
  ·rfl
  ·rename_i h2;rw[yBc h2]at h;exact absurd h h2
def ph2:Ph:=⟨0,0,1,1,1,0,0,0⟩
def j2:Jn:=⟨[ph2],[0],0⟩
structure Ss where
 op:Bool
 dr:Bool
 bf:List Int
 gb:Bool
instance:Inhabited Ss:=⟨⟨false,false,[],false⟩⟩
def VB (m n:Nat):Nat:=min n (256-m)
def EZ (s:Ss) (b:List Int):Ss:=if s.op=true then⟨true,s.dr||decide (VB s.bf.length b.length≠b.length),s.bf++b.take (VB s.bf.length b.length),s.gb⟩else s
def zPl {s:Ss} (h:s.bf.length<=256) (b:List Int):(EZ s b).bf.length<=256:=by
 unfold EZ;split
 ·simp only[yBf,yB4];unfold VB;omega
 ·exact h
def zAp (l:List Vw) (hl:l.length<=1073741824):zO 90 [zD vQ l] [] (.ref 1001 0 (l.map vQ).length) [(1001,.arr 4 (l.map vQ) false)]:=by
 have hll:=zA vQ l;refine eM call90 λF hF=>?_
 refine yY 0 Z (λcap hx=>?_) ?_
 ·have:l=[]:=by simpa using hx
  subst this
  (repeat' (first|refine WZN ?_|((first|apply xE|apply xV)<;>intro hc)|fail))
  refine uL 2 1001 4 Z Z Z (yZ ?_);exact zK [1001] Z Z Z Z
 ·repeat' (first|(refine zE ?_;first|refine vV tok Z Z ?_|(refine wO ?_;refine wK (xK tok (.inl ⟨rfl,rfl⟩) Z Z Z Z) Z ?_)|(refine yR ?_;refine qA (nw:=[1001]) (yJ tok 1001 (xs:=[]) Z Z Z Z Z Z Z Z Z) Z Z Z ?_)|(refine yM ?_;refine wJ tok Z Z Z Z Z Z Z (yV _ _ (λ_=>rfl)) Z Z Z zB Z ?_)|refine qR ?_)|(first|refine xT ?_|refine xI ?_|refine vJ Z ?_|refine zZ Z ?_|refine zV Z ?_|refine xQ Z (λhc=>?_) λhc=>?_|refine xD ?_|refine yZ ?_|refine xJ ?_|refine yX ?_))
  exact zK [1001] Z Z Z Z
def UW (l:List Vw) (hn:l.length<=1000) (hb:∀v∈l,v.co.length<=1000/\v.cn.length<=1000):zO 56 [zD vQ l] [] (zD vQ l) []:=by
 have c:=zAp l zB;have hll:=zA vQ l;refine eM call56 λF hF=>?_
 refine zW c ?_;refine zN ((l.map vQ).length) [1001] [] [0,7] [8,0,7] Z (λi T U=>⟨(8,iA i)::T,(1001,.arr 4 (kV i (l.map vQ)) false)::U⟩) ?_;(conv=>whnf);refine⟨by rfl,?_,?_⟩
 ·intro i hi;have hi':i<l.length:=by omega
  have hy:(kV i (l.map vQ))[i]? =some (vQ (l.getD i default)):=zM vQ l i hi';have e:=qZ vQ l i hi';have hbb:=hb (l.getD i default) bS;have c1:=VK (l.getD i default).co zB;have c2:=VK (l.getD i default).cn zB;generalize (l.getD i default)=t at *;generalize kV i (l.map vQ)=xs at *;generalize kV (i+1) (l.map vQ)=ys at *;have hs:=dG hy;have hy2:(xs.set i (.agg [bA t.fl,bA t.ov,zD iA t.co,zD iA t.cn]))[i]? =some (vQ t):=by rw[show AV.agg [bA t.fl,bA t.ov,zD iA t.co,zD iA t.cn]=vQ t from Z,hs];exact hy
  have e2:(xs.set i (.agg [bA t.fl,bA t.ov,zD iA t.co,zD iA t.cn])).set i (.agg [bA t.fl,bA t.ov,zD iA t.co,zD iA t.cn])=ys:=by rw[yGi];exact e
  clear e hs;subst e2;refine yS (vH c1 c2) ?_;rfl
 ·(refine WW ?_)
  exact zH [] Z Z (yB8 (AV.sl false) yBj) Z
def jN (s:Ss):AV:= .agg [bA s.op,bA s.dr,zD yA s.bf,bA s.gb]
def JY (s:Ss) (h:s.bf.length<=1000):zO 115 [jN s] [] (jN s) []:=by
 have c:=wX s.bf zB;unfold jN;refine eM call115 λF hF=>?_
 refine zW c ?_;exact zJ
structure Ev where
 k:Int
 s:Int
 a:Int
 b:Int
 y:List Int
instance:Inhabited Ev:=⟨⟨0,0,0,0,[]⟩⟩
def uY (e:Ev):AV:= .agg [iA e.k,iA e.s,iA e.a,iA e.b,zD yA e.y]
structure Cy where
 c:Cf
 rf:Bool
 now:Int
 ds:List xH
 sg:List Sg
 sv:List Sv
 st:List Int
 vw:List Vw
instance:Inhabited xH:=⟨⟨⟨0,⟨[],0,0,[],0,0,0,0⟩,[],[],⟨0,0,0⟩⟩,[],[],[]⟩⟩
instance:Inhabited Sg:=⟨⟨⟨[],0,[],0⟩,false⟩⟩
instance:Inhabited Sv:=⟨⟨-1,0,[]⟩⟩
def aI (c:Cf) (rf:Bool) (now:Int) (a b s t v:AV):AV:= .agg [zD wE c.js,zD vB c.ags,iA c.per,iA c.cap,iA c.hold,iA c.lock,bA rf,iA now,a,b,s,t,v]
def uB (y:Cy):AV:=aI y.c y.rf y.now (zD zI y.ds) (zD wY y.sg) (zD wV y.sv) (zD iA y.st) (zD vQ y.vw)
def zJm (y:Cy):AV:=aI y.c y.rf y.now (.ref 1011 0 (y.ds.map zI).length) (.ref 1012 0 (y.sg.map wY).length) (.ref 1013 0 (y.sv.map wV).length) (.ref 1014 0 (y.st.map iA).length) (zD vQ y.vw)
def zJn (y:Cy):List (Nat×xM):=[(1011,.arr 17 (y.ds.map zI) false),(1012,.arr 5 (y.sg.map wY) false),(1013,.arr 3 (y.sv.map wV) false),(1014,.arr 1 (y.st.map iA) false)]
structure CyB (y:Cy):Prop where
 d:y.ds.length<=1000
 db:∀d∈y.ds,fY d
 g:y.sg.length<=1000
 gb:∀s∈y.sg,s.c.li.length<=1000/\s.c.nx.length<=1000
 s:y.sv.length<=1000
 sb:∀s∈y.sv,s.en.length<=1000
 t:y.st.length<=1000
 v:y.vw.length<=1000
 vb:∀v∈y.vw,v.co.length<=1000/\v.cn.length<=1000
def aJ (l:List xH) (hl:l.length<=1073741824):zO 147 [zD zI l] [] (.ref 1011 0 (l.map zI).length) [(1011,.arr 17 (l.map zI) false)]:=by
 have hll:=zA zI l;refine eM call147 λF hF=>?_
 refine yY 0 Z (λcap hx=>?_) ?_
 ·have:l=[]:=by simpa using hx
  subst this
  (repeat' (first|refine WZN ?_|((first|apply xE|apply xV)<;>intro hc)|fail))
  refine uL 2 1011 17 Z Z Z (yZ ?_);exact zK [1011] Z Z Z Z
 ·repeat' (first|(refine zE ?_;first|refine vV tok Z Z ?_|(refine wO ?_;refine wK (xK tok (.inl ⟨rfl,rfl⟩) Z Z Z Z) Z ?_)|(refine yR ?_;refine qA (nw:=[1011]) (yJ tok 1011 (xs:=[]) Z Z Z Z Z Z Z Z Z) Z Z Z ?_)|(refine yM ?_;refine wJ tok Z Z Z Z Z Z Z (yV _ _ (λ_=>rfl)) Z Z Z zB Z ?_)|refine qR ?_)|(first|refine xT ?_|refine xI ?_|refine vJ Z ?_|refine zZ Z ?_|refine zV Z ?_|refine xQ Z (λhc=>?_) λhc=>?_|refine xD ?_|refine yZ ?_|refine xJ ?_|refine yX ?_))
  exact zK [1011] Z Z Z Z
def aK (l:List Sg) (hl:l.length<=1073741824):zO 148 [zD wY l] [] (.ref 1012 0 (l.map wY).length) [(1012,.arr 5 (l.map wY) false)]:=by
 have hll:=zA wY l;refine eM call148 λF hF=>?_
 refine yY 0 Z (λcap hx=>?_) ?_
 ·have:l=[]:=by simpa using hx
  subst this
  (repeat' (first|refine WZN ?_|((first|apply xE|apply xV)<;>intro hc)|fail))
  refine uL 2 1012 5 Z Z Z (yZ ?_);exact zK [1012] Z Z Z Z
 ·repeat' (first|(refine zE ?_;first|refine vV tok Z Z ?_|(refine wO ?_;refine wK (xK tok (.inl ⟨rfl,rfl⟩) Z Z Z Z) Z ?_)|(refine yR ?_;refine qA (nw:=[1012]) (yJ tok 1012 (xs:=[]) Z Z Z Z Z Z Z Z Z) Z Z Z ?_)|(refine yM ?_;refine wJ tok Z Z Z Z Z Z Z (yV _ _ (λ_=>rfl)) Z Z Z zB Z ?_)|refine qR ?_)|(first|refine xT ?_|refine xI ?_|refine vJ Z ?_|refine zZ Z ?_|refine zV Z ?_|refine xQ Z (λhc=>?_) λhc=>?_|refine xD ?_|refine yZ ?_|refine xJ ?_|refine yX ?_))
  exact zK [1012] Z Z Z Z
def aL (l:List Sv) (hl:l.length<=1073741824):zO 150 [zD wV l] [] (.ref 1013 0 (l.map wV).length) [(1013,.arr 3 (l.map wV) false)]:=by
 have hll:=zA wV l;refine eM call150 λF hF=>?_
 refine yY 0 Z (λcap hx=>?_) ?_
 ·have:l=[]:=by simpa using hx
  subst this
  (repeat' (first|refine WZN ?_|((first|apply xE|apply xV)<;>intro hc)|fail))
  refine uL 2 1013 3 Z Z Z (yZ ?_);exact zK [1013] Z Z Z Z
 ·repeat' (first|(refine zE ?_;first|refine vV tok Z Z ?_|(refine wO ?_;refine wK (xK tok (.inl ⟨rfl,rfl⟩) Z Z Z Z) Z ?_)|(refine yR ?_;refine qA (nw:=[1013]) (yJ tok 1013 (xs:=[]) Z Z Z Z Z Z Z Z Z) Z Z Z ?_)|(refine yM ?_;refine wJ tok Z Z Z Z Z Z Z (yV _ _ (λ_=>rfl)) Z Z Z zB Z ?_)|refine qR ?_)|(first|refine xT ?_|refine xI ?_|refine vJ Z ?_|refine zZ Z ?_|refine zV Z ?_|refine xQ Z (λhc=>?_) λhc=>?_|refine xD ?_|refine yZ ?_|refine xJ ?_|refine yX ?_))
  exact zK [1013] Z Z Z Z
def aM (l:List Int) (hl:l.length<=1073741824):zO 91 [zD iA l] [] (.ref 1014 0 (l.map iA).length) [(1014,.arr 1 (l.map iA) false)]:=by
 have hll:=zA iA l;refine eM call91 λF hF=>?_
 refine yY 0 Z (λcap hx=>?_) ?_
 ·have:l=[]:=by simpa using hx
  subst this
  (repeat' (first|refine WZN ?_|((first|apply xE|apply xV)<;>intro hc)|fail))
  refine uL 2 1014 1 Z Z Z (yZ ?_);exact zK [1014] Z Z Z Z
 ·repeat' (first|(refine zE ?_;first|refine vV tok Z Z ?_|(refine wO ?_;refine wK (xK tok (.inl ⟨rfl,rfl⟩) Z Z Z Z) Z ?_)|(refine yR ?_;refine qA (nw:=[1014]) (yJ tok 1014 (xs:=[]) Z Z Z Z Z Z Z Z Z) Z Z Z ?_)|(refine yM ?_;refine wJ tok Z Z Z Z Z Z Z (yV _ _ (λ_=>rfl)) Z Z Z zB Z ?_)|refine qR ?_)|(first|refine xT ?_|refine xI ?_|refine vJ Z ?_|refine zZ Z ?_|refine zV Z ?_|refine xQ Z (λhc=>?_) λhc=>?_|refine xD ?_|refine yZ ?_|refine xJ ?_|refine yX ?_))
  exact zK [1014] Z Z Z Z
theorem aN (y:Cy) (h:CyB y):zO 116 [uB y] [] (uB y) []:=by
 have k1:=aJ y.ds (by have:=h.d;omega);have k2:=aK y.sg (by have:=h.g;omega);have k3:=aL y.sv (by have:=h.s;omega);have k4:=aM y.st (by have:=h.t;omega);have k5:=UW y.vw h.v h.vb;have hl1:=zA zI y.ds;have hl2:=zA wY y.sg;have hl3:=zA wV y.sv;have hl4:=zA iA y.st;have hd:=h.d;have hg:=h.g;have hs:=h.s;unfold uB aI;refine eM call116 λF hF=>?_
 refine zW k1 ?_;refine zN ((y.ds.map zI).length) [1011,1,2] [1,2] [1,2,12] [13,1,2,12] Z (λi T U=>⟨(13,iA i)::T,(1011,.arr 17 (kV i (y.ds.map zI)) false)::U⟩) ?_;(conv=>whnf);refine⟨by rfl,?_,?_⟩
 ·intro i hi;have hi':i<y.ds.length:=by omega
  have hy:(kV i (y.ds.map zI))[i]? =some (zI (y.ds.getD i default)):=zM zI y.ds i hi';have e:=qZ zI y.ds i hi';have c2:=cQ (y.ds.getD i default) (h.db _ bS);generalize (y.ds.getD i default)=t at *;generalize kV i (y.ds.map zI)=xs at *;generalize kV (i+1) (y.ds.map zI)=ys at *;subst e;refine zW c2 ?_;rfl
 ·(refine zW k2 ?_)
  refine zN ((y.sg.map wY).length) [1012,1,2,1011] [1,2,1011] [1,2,33] [34,1,2,33] Z (λi T U=>⟨(34,iA i)::T,(1012,.arr 5 (kV i (y.sg.map wY)) false)::U⟩) ?_;(conv=>whnf);refine⟨by rfl,?_,?_⟩
  ·intro i hi;have hi':i<y.sg.length:=by omega
   have hy:(kV i (y.sg.map wY))[i]? =some (wY (y.sg.getD i default)):=zM wY y.sg i hi';have e:=qZ wY y.sg i hi';have c2:=zDb (y.sg.getD i default) (by have:=h.gb (y.sg.getD i default) bS;omega) (by have:=h.gb (y.sg.getD i default) bS;omega);generalize (y.sg.getD i default)=t at *;generalize kV i (y.sg.map wY)=xs at *;generalize kV (i+1) (y.sg.map wY)=ys at *;subst e;refine zW c2 ?_;rfl
  ·(refine zW k3 ?_)
   refine zN ((y.sv.map wV).length) [1013,1,2,1011,1012] [1,2,1011,1012] [1,2,54] [55,1,2,54] Z (λi T U=>⟨(55,iA i)::T,(1013,.arr 3 (kV i (y.sv.map wV)) false)::U⟩) ?_;(conv=>whnf);refine⟨by rfl,?_,?_⟩
   ·intro i hi;have hi':i<y.sv.length:=by omega
    have hy:(kV i (y.sv.map wV))[i]? =some (wV (y.sv.getD i default)):=zM wV y.sv i hi';have e:=qZ wV y.sv i hi';have c2:=WR (y.sv.getD i default) ⟨by have:=h.sb (y.sv.getD i default) bS;omega⟩;generalize (y.sv.getD i default)=t at *;generalize kV i (y.sv.map wV)=xs at *;generalize kV (i+1) (y.sv.map wV)=ys at *;subst e;refine zW c2 ?_;rfl
   ·(refine yS (vH k4 k5) ?_)
    refine zH [] Z Z ?_ Z
    show AV.agg [zD wE y.c.js,zD vB y.c.ags,iA y.c.per,iA y.c.cap,iA y.c.hold,iA y.c.lock,bA y.rf,iA y.now,.sl false ((y.ds.map zI).take (y.ds.map zI).length),.sl false ((y.sg.map wY).take (y.sg.map wY).length),.sl false ((y.sv.map wV).take (y.sv.map wV).length),.sl false ((y.st.map iA).take (y.st.map iA).length),zD vQ y.vw]=_
    rw[yBj,yBj,yBj,yBj];rfl
def PJ (y:Cy) (h:CyB y):zO 116 [uB y] [] (zJm y) (zJn y):=by
 have k1:=aJ y.ds (by have:=h.d;omega);have k2:=aK y.sg (by have:=h.g;omega);have k3:=aL y.sv (by have:=h.s;omega);have k4:=aM y.st (by have:=h.t;omega);have k5:=UW y.vw h.v h.vb;have hl1:=zA zI y.ds;have hl2:=zA wY y.sg;have hl3:=zA wV y.sv;have hl4:=zA iA y.st;have hd:=h.d;have hg:=h.g;have hs:=h.s;unfold uB zJm aI zJn;refine eM call116 λF hF=>?_
 refine zW k1 ?_;refine zN ((y.ds.map zI).length) [1011,1,2] [1,2] [1,2,12] [13,1,2,12] Z (λi T U=>⟨(13,iA i)::T,(1011,.arr 17 (kV i (y.ds.map zI)) false)::U⟩) ?_;(conv=>whnf);refine⟨by rfl,?_,?_⟩
 ·intro i hi;have hi':i<y.ds.length:=by omega
  have hy:(kV i (y.ds.map zI))[i]? =some (zI (y.ds.getD i default)):=zM zI y.ds i hi';have e:=qZ zI y.ds i hi';have c2:=cQ (y.ds.getD i default) (h.db _ bS);generalize (y.ds.getD i default)=t at *;generalize kV i (y.ds.map zI)=xs at *;generalize kV (i+1) (y.ds.map zI)=ys at *;subst e;refine zW c2 ?_;rfl
 ·(refine zW k2 ?_)
  refine zN ((y.sg.map wY).length) [1012,1,2,1011] [1,2,1011] [1,2,33] [34,1,2,33] Z (λi T U=>⟨(34,iA i)::T,(1012,.arr 5 (kV i (y.sg.map wY)) false)::U⟩) ?_;(conv=>whnf);refine⟨by rfl,?_,?_⟩
  ·intro i hi;have hi':i<y.sg.length:=by omega
   have hy:(kV i (y.sg.map wY))[i]? =some (wY (y.sg.getD i default)):=zM wY y.sg i hi';have e:=qZ wY y.sg i hi';have c2:=zDb (y.sg.getD i default) (by have:=h.gb (y.sg.getD i default) bS;omega) (by have:=h.gb (y.sg.getD i default) bS;omega);generalize (y.sg.getD i default)=t at *;generalize kV i (y.sg.map wY)=xs at *;generalize kV (i+1) (y.sg.map wY)=ys at *;subst e;refine zW c2 ?_;rfl
  ·(refine zW k3 ?_)
   refine zN ((y.sv.map wV).length) [1013,1,2,1011,1012] [1,2,1011,1012] [1,2,54] [55,1,2,54] Z (λi T U=>⟨(55,iA i)::T,(1013,.arr 3 (kV i (y.sv.map wV)) false)::U⟩) ?_;(conv=>whnf);refine⟨by rfl,?_,?_⟩
   ·intro i hi;have hi':i<y.sv.length:=by omega
    have hy:(kV i (y.sv.map wV))[i]? =some (wV (y.sv.getD i default)):=zM wV y.sv i hi';have e:=qZ wV y.sv i hi';have c2:=WR (y.sv.getD i default) ⟨by have:=h.sb (y.sv.getD i default) bS;omega⟩;generalize (y.sv.getD i default)=t at *;generalize kV i (y.sv.map wV)=xs at *;generalize kV (i+1) (y.sv.map wV)=ys at *;subst e;refine zW c2 ?_;rfl
   ·(refine yS (vH k4 k5) ?_)
    exact zK [1011,1012,1013,1014] Z Z Z Z
end Av
end Go.Proofs.YteajjdidebfcjaaGreat
