/- Part 25. -/
import Derived.Test.YteajjdidebfcjaaGreatR24
namespace Go.Proofs.YteajjdidebfcjaaGreat
namespace Av
open Tryz
set_option linter.all false
set_option maxRecDepth 4000
set_option maxHeartbeats 4000000
def zIg {α:Type} (f:α->AV) (l:List α):AV.sl false ((l.map f).take (l.map f).length)=zD f l:=by rw[yAf];rfl
def AS (l:List Int) (hl:l.length<=1073741824):zN 91 [zD iA l] [] (.ref 1001 0 (l.map iA).length) [(1001,.arr 1 (l.map iA) false)]:=by
 have hll:=zA iA l;refine eM call91 λF hF=>?_
 refine yS 0 Z (λcap hx=>?_) ?_
 ·have:l=[]:=by simpa using hx
  subst this
  (repeat' (first|refine WZN ?_|((first|apply xM|apply wA)<;>intro hc)|fail))
  refine uH 2 1001 1 Z Z Z (yT ?_);exact zL [1001] Z Z Z Z
 ·repeat' (first|(refine zE ?_;first|refine vW tok Z Z ?_|(refine wL ?_;refine wG (xE tok (.inl ⟨rfl,rfl⟩) Z Z Z Z) Z ?_)|(refine xB ?_;refine uS (nw:=[1001]) (yH tok 1001 (xs:=[]) Z Z Z Z Z Z Z Z Z) Z Z Z ?_)|(refine xC ?_;refine wF tok Z Z Z Z Z Z Z (xO _ _ (λ_=>rfl)) Z Z Z zB Z ?_)|refine qJ ?_)|(first|refine xS ?_|refine xD ?_|refine vI Z ?_|refine zY Z ?_|refine zS Z ?_|refine xL Z (λhc=>?_) λhc=>?_|refine xA ?_|refine yT ?_|refine xF ?_|refine yW ?_))
  exact zL [1001] Z Z Z Z
def zEi (l:List Int) (hl:l.length<=1073741824):zN 91 [zD iA l] [] (zD iA l) []:=by
 have hll:=zA iA l;refine eM call91 λF hF=>?_
 refine yS 0 Z (λcap hx=>?_) ?_
 ·have:l=[]:=by simpa using hx
  subst this;refine WW ?_;exact zJ
 ·(refine WW ?_)
  refine zK [] Z Z (zIg _ _) Z
structure SvB (s:Sv):Prop where
 n:s.en.length<=100000
def zEj (s:Sv) (h:SvB s):zN 151 [wU s] [] (.agg [iA s.ph,iA s.gr,.ref 1001 0 (s.en.map iA).length]) [(1001,.arr 1 (s.en.map iA) false)]:=by
 have c:=AS s.en (by have:=h.n;omega);refine eM call151 λF hF=>?_
 refine zV c ?_;exact zL [1001] Z Z Z Z
def XW (s:Sv) (h:SvB s):zN 151 [wU s] [] (wU s) []:=by
 have c:=zEi s.en (by have:=h.n;omega);refine eM call151 λF hF=>?_
 refine zV c ?_;exact zJ
def jO (s:Sv) (green:Bool):Sv:=if green=true/\s.ph≠ -1 then⟨s.ph,min s.gr 59+1,s.en⟩else s
def zOi (s:Sv) (h:SvB s) (b:Bool) (hg: -1000000<=s.gr):zN 215 [wU s,bA b] [] (wU (jO s b)) []:=by
 have c:=XW s h;by_cases h1:b=true
 ·subst h1;by_cases h2:s.ph= -1
  ·rw[show jO s true=s by simp[jO,h2]];refine eM call215 λF hF=>?_
   refine zV c ?_;exact zJ
  ·rw[show jO s true=⟨s.ph,min s.gr 59+1,s.en⟩ by simp[jO,h2]];refine eM call215 λF hF=>?_
   refine zV c ?_;exact zJ
 ·obtain rfl:b=false:=by simpa using h1
  rw[show jO s false=s by simp[jO]];refine eM call215 λF hF=>?_
  refine zV c ?_;exact zJ
def kK (s:Sv) (now:Int):Sv:=⟨-1,0,if 0<s.gr/\0<=s.ph/\s.ph<s.en.length then s.en.set s.ph.toNat now else s.en⟩
def zIh {α:Type} (f:α->AV) (l:List α) (i:Nat) (x:α) (n:Nat) (hn:n=l.length):AV.sl false (((l.map f).set i (f x)).take n)=zD f (l.set i x):=by
 rw[<-yB4,yAj vA];rfl
def zIi (s:Sv) (h:SvB s) (now:Int):zN 212 [wU s,iA now] [] (wU (kK s now)) []:=by
 have c:=zEj s h;have hl:=zA iA s.en;by_cases h1:0<s.gr/\0<=s.ph/\s.ph<s.en.length
 ·obtain⟨h2,h3,h4⟩:=h1;have hy:=yI iA s.en s.ph h3 h4;rw[show kK s now=⟨-1,0,s.en.set s.ph.toNat now⟩ by simp[kK,h2,h3,h4]];refine eM call212 λF hF=>?_
  refine zV c ?_;refine zK [] Z Z (yA6 (λx=>AV.agg [iA (-1),iA 0,x]) (zIh iA s.en s.ph.toNat now _ hl)) Z
 ·rw[show kK s now=⟨-1,0,s.en⟩ by unfold kK;rw[zZ7 h1]];refine eM call212 λF hF=>?_
  (have zc1:=c;(repeat' (first|refine uL ?_|((first|apply xM|apply wA)<;>intro hc)|(refine zE ?_;first|refine SM ?_)|fail))<;>clear zc1)
  all_goals (try omega)
  all_goals refine zK [] Z Z (yA6 (λx=>AV.agg [iA (-1),iA 0,x]) (zIg iA s.en)) Z
def zOj (n:Nat):Sv:=⟨-1,0,List.replicate n (-1)⟩
def zOk (n i:Nat) (h:i<n):((List.replicate i (-1:Int)++List.replicate (n-i) 0).map iA).set i (iA (-1))=(List.replicate (i+1) (-1:Int)++List.replicate (n-(i+1)) 0).map iA:=by
 rw[<-yB4,show n-i=(n-(i+1))+1 by omega,yDy,yC4 _ _ zU,yB0,yB9,yEn,List.replicate_succ',yA7];rfl
def zT1 (n:Nat) (h:n<=100000):zN 113 [iA n] [] (wU (zOj n)) []:=by
 by_cases h0:n=0
 ·subst h0;refine eM call113 λF hF=>?_
  refine WW ?_;refine zO (0) [2,3] [2,3] [2,3,17] [18,2,3,17] Z (λi T U=>⟨(18,iA i)::T,U⟩) ?_;(conv=>whnf);refine⟨by rfl,?_,?_⟩
  ·intro i hi;omega
  ·(refine WW ?_)
   exact zJ
 ·have e0:List.replicate n (AV.s (.int .i64 0))=(List.replicate 0 (-1:Int)++List.replicate (n-0) 0).map iA:=by simp[iA]
  refine eM call113 λF hF=>?_
  refine WW ?_;refine zO (n) [13,2,3] [2,3] [2,3,17] [18,2,3,17] Z (λi T U=>⟨(18,iA i)::T,(13,.arr 1 ((List.replicate i (-1:Int)++List.replicate (n-i) 0).map iA) false)::U⟩) ?_;(conv=>whnf);refine⟨by(rw[<-e0];rfl),?_,?_⟩
  ·intro i hi;have hy:((List.replicate i (-1:Int)++List.replicate (n-i) 0).map iA)[i]? =some (iA 0):=by simp[show 0<n-i by omega]
   have e:=zOk n i hi;generalize (List.replicate i (-1:Int)++List.replicate (n-i) 0).map iA=xs at *;generalize (List.replicate (i+1) (-1:Int)++List.replicate (n-(i+1)) 0).map iA=ys at *;subst e;refine WW ?_;rfl
  ·rw[show n-n=0 by omega,yFq,yBc];refine WW ?_;exact zK [] Z Z (yA6 (λx=>AV.agg [iA (-1),iA 0,AV.sl false x]) (yAj zU)) Z
def YE {α:Type} (p:α->Bool) (l:List α):Int:=if l.any p=true then(l.findIdx p:Int)else -1
def QN {α:Type} {p:α->Bool} {l pre post:List α} {x:α} (h:l=pre++x::post) (hn:∀y∈pre,p y=false) (hx:p x=true):YE p l=(pre.length:Int):=by
 subst h;have h1:(pre++x::post).any p=true:=by simp[hx]
 have h2:pre.findIdx p=pre.length:=List.findIdx_eq_length.2 (λy hy=>by simpa using hn y hy);unfold YE;rw[zZ8 h1,List.findIdx_append,h2,zZ7 zB,List.findIdx_cons,hx];simp
def UF {α:Type} {p:α->Bool} {l:List α} (hn:∀y∈l,p y=false):YE p l= -1:=by
 unfold YE;rw[zZ7 OA]
def QO {α:Type} (p:α->Bool) (l:List α):(0<=YE p l)=(l.any p=true):=by
 unfold YE
 split<;>simp_all
def KV {α:Type} (p:α->Bool) (l:List α): -1<=YE p l/\YE p l<=l.length:=by
 unfold YE;have:=List.findIdx_le_length (p:=p) (xs:=l)
 split<;>omega
def zEk (l:List Cl) (hb:l.length<=1073741824):zN 120 [zD gW l,.fn 87 []] [] (iA (YE (λc=>jW c.k) l)) []:=by
 have hl:=zA gW l;refine eM call120 λF hF=>?_
 refine WW ?_;refine qW (l) [] [] [0,1,7] [8,0,1,7] Z (λi pre T U zs=>(∀y∈pre,jW y.k=false)/\zs=⟨(8,iA i)::T,U⟩) ?_;(conv=>whnf);refine⟨?_,?_,?_⟩
 ·exact⟨by simp,rfl⟩
 ·rintro i pre x post st hx hi ⟨hp,rfl⟩;have hy:=xI gW hx hi;have hlt:=yN hx hi;have c:=qQ x;have hit:=QN (p:=λc=>jW c.k) hx hp
  cases he:jW x.k<;>rw[he]at c
  ·(refine zV c ?_)
   exact⟨λy hy=>by simp at hy;rcases hy with hy|rfl;exact hp y hy;exact he,rfl⟩
  ·rw[hit he,hi];refine zV c ?_;exact zJ
 ·rintro st ⟨hp,rfl⟩;rw[UF hp];refine WW ?_;exact zJ
def XX (l:List Cl) (hb:l.length<=1073741824):zN 85 [zD gW l,.fn 87 []] [] (bA (l.any λc=>jW c.k)) []:=by
 have c:=zEk l hb;have h:=QO (λc:Cl=>jW c.k) l;have h2:=KV (λc:Cl=>jW c.k) l;generalize YE (λc:Cl=>jW c.k) l=n at*
 cases ha:(l.any λc=>jW c.k)<;>rw[ha]at h<;>simp at h
 ·(refine eM call85 λF hF=>?_)
  refine zV c ?_;exact zJ
 ·(refine eM call85 λF hF=>?_)
  refine zV c ?_;exact zJ
def cW (s:Sv):xN:= .box [iA s.ph,iA s.gr,zD iA s.en]
def zIj (s:Sv) (x:Cl):zN 251 [gW x,.ptr 4 0 0] [(4,cW s)] (bA (x.ph==s.ph)) [(4,cW s)]:=by
 refine eM call251 λF hF=>?_
 refine WW ?_;exact zL [4] Z Z Z Z
def zIk (s:Sv) (x:Cl):zN 252 [gW x,.ptr 7 0 0] [(7,.box [.fn 251 [.ptr 4 0 0]]),(4,cW s)] (bA (x.ph==s.ph&&jW x.k)) [(7,.box [.fn 251 [.ptr 4 0 0]]),(4,cW s)]:=by
 have c:=zIj s x;have e:=qQ x
 cases h:(x.ph==s.ph)<;>rw[h]at c
 ·(refine eM call252 λF hF=>?_)
  refine yR (vH c e) ?_;exact zL [7,4] Z Z Z Z
 ·rw[yAv];refine eM call252 λF hF=>?_
  refine yR (vH c e) ?_;exact zL [7,4] Z Z Z Z
def FW (s:Sv) (l:List Cl) (hb:l.length<=1073741824):zN 120 [zD gW l,.fn 251 [.ptr 4 0 0]] [(4,cW s)] (iA (YE (λx:Cl=>x.ph==s.ph) l)) [(4,cW s)]:=by
 have hl:=zA gW l;refine eM call120 λF hF=>?_
 refine WW ?_;refine qW (l) [4] [4] [0,1,7] [8,0,1,7] Z (λi pre T U zs=>(∀y∈pre,((λx:Cl=>x.ph==s.ph)) y=false)/\zs=⟨(8,iA i)::T,U⟩) ?_;(conv=>whnf);refine⟨?_,?_,?_⟩
 ·exact⟨by simp,rfl⟩
 ·rintro i pre x post st hx hi ⟨hp,rfl⟩;have hy:=xI gW hx hi;have hlt:=yN hx hi;have c:=zIj s x;have hit:=QN (p:=(λx:Cl=>x.ph==s.ph)) hx hp
  try dsimp only at hit
  cases he:((λx:Cl=>x.ph==s.ph)) x<;>(dsimp only at he;rw[he]at c)
  ·(refine zV c ?_)
   exact⟨λy hy=>by simp only[yAw,yA8]at hy;rcases hy with hy|rfl;exact hp y hy;exact he,rfl⟩
  ·rw[hit he,hi];refine zV c ?_;exact zL [4] Z Z Z Z
 ·rintro st ⟨hp,rfl⟩;rw[UF hp];refine WW ?_;exact zL [4] rfl rfl rfl rfl
def QP (s:Sv) (l:List Cl) (hb:l.length<=1073741824):zN 85 [zD gW l,.fn 251 [.ptr 4 0 0]] [(4,cW s)] (bA (l.any (λx:Cl=>x.ph==s.ph))) [(4,cW s)]:=by
 have c:=FW s l hb;have h:=QO (λx:Cl=>x.ph==s.ph) l;have h2:=KV (λx:Cl=>x.ph==s.ph) l;generalize YE (λx:Cl=>x.ph==s.ph) l=n at*
 cases ha:l.any (λx:Cl=>x.ph==s.ph)<;>rw[ha]at h<;>simp at h
 ·(refine eM call85 λF hF=>?_)
  refine zV c ?_;exact zL [4] Z Z Z Z
 ·(refine eM call85 λF hF=>?_)
  refine zV c ?_;exact zL [4] Z Z Z Z
def AT (s:Sv) (l:List Cl) (hb:l.length<=1073741824):zN 120 [zD gW l,.fn 252 [.ptr 7 0 0]] [(7,.box [.fn 251 [.ptr 4 0 0]]),(4,cW s)] (iA (YE (λx:Cl=>x.ph==s.ph&&jW x.k) l)) [(7,.box [.fn 251 [.ptr 4 0 0]]),(4,cW s)]:=by
 have hl:=zA gW l;refine eM call120 λF hF=>?_
 refine WW ?_;refine qW (l) [7,4] [7,4] [0,1,7] [8,0,1,7] Z (λi pre T U zs=>(∀y∈pre,((λx:Cl=>x.ph==s.ph&&jW x.k)) y=false)/\zs=⟨(8,iA i)::T,U⟩) ?_;(conv=>whnf);refine⟨?_,?_,?_⟩
 ·exact⟨by simp,rfl⟩
 ·rintro i pre x post st hx hi ⟨hp,rfl⟩;have hy:=xI gW hx hi;have hlt:=yN hx hi;have c:=zIk s x;have hit:=QN (p:=(λx:Cl=>x.ph==s.ph&&jW x.k)) hx hp
  try dsimp only at hit
  cases he:((λx:Cl=>x.ph==s.ph&&jW x.k)) x<;>(dsimp only at he;rw[he]at c)
  ·(refine zV c ?_)
   exact⟨λy hy=>by simp only[yAw,yA8]at hy;rcases hy with hy|rfl;exact hp y hy;exact he,rfl⟩
  ·rw[hit he,hi];refine zV c ?_;exact zL [7,4] Z Z Z Z
 ·rintro st ⟨hp,rfl⟩;rw[UF hp];refine WW ?_;exact zL [7,4] rfl rfl rfl rfl
def NM (s:Sv) (l:List Cl) (hb:l.length<=1073741824):zN 85 [zD gW l,.fn 252 [.ptr 7 0 0]] [(7,.box [.fn 251 [.ptr 4 0 0]]),(4,cW s)] (bA (l.any (λx:Cl=>x.ph==s.ph&&jW x.k))) [(7,.box [.fn 251 [.ptr 4 0 0]]),(4,cW s)]:=by
 have c:=AT s l hb;have h:=QO (λx:Cl=>x.ph==s.ph&&jW x.k) l;have h2:=KV (λx:Cl=>x.ph==s.ph&&jW x.k) l;generalize YE (λx:Cl=>x.ph==s.ph&&jW x.k) l=n at*
 cases ha:l.any (λx:Cl=>x.ph==s.ph&&jW x.k)<;>rw[ha]at h<;>simp at h
 ·(refine eM call85 λF hF=>?_)
  refine zV c ?_;exact zL [7,4] Z Z Z Z
 ·(refine eM call85 λF hF=>?_)
  refine zV c ?_;exact zL [7,4] Z Z Z Z
def jH (g:Cf) (s:Sv) (l:List Cl):Bool:=!(l.any λx=>x.ph==s.ph)||decide (g.hold<=s.gr)||((l.any λc=>jW c.k)&& !(l.any λx=>x.ph==s.ph&&jW x.k))
def zT9 (g:Cf) (s:Sv) (l:List Cl) (hb:l.length<=1073741824):zN 228 [vG g,wU s,zD gW l] [] (bA (jH g s l)) []:=by
 have c1:=QP s l hb;have c2:=NM s l hb;have c3:=XX l hb;unfold jH;generalize (l.any λx=>x.ph==s.ph)=m at *;generalize (l.any λx=>x.ph==s.ph&&jW x.k)=u at *;generalize (l.any λc=>jW c.k)=e at *;by_cases h:g.hold<=s.gr
 ·rw[yAe h]
  cases m<;>cases u<;>cases e<;>(simp only[yFf,yEt,yDu,yDm,yDb,yEj,yDp];(refine eM call228 λF hF=>?_);(refine yR (gK c1 c3 c2) ?_);exact zJ)
 ·rw[yAh h]
  cases m<;>cases u<;>cases e<;>(simp only[yFf,yEt,yDu,yDm,yDb,yFw,yEj,yDp];(refine eM call228 λF hF=>?_);(refine yR (gK c1 c3 c2) ?_);exact zJ)
def uN (g:Cf) (s:Sv) (l:List Cl) (now:Int):Sv:=if s.ph≠ -1/\jH g s l=true then kK s now else s
def xQ (g:Cf) (s:Sv) (l:List Cl) (now:Int):Sv:=
 if(uN g s l now).ph= -1/\0<=uD g (uN g s l now) now l l.length then⟨(l.getD (uD g (uN g s l now) now l l.length).toNat default).ph,0,(uN g s l now).en⟩else uN g s l now
def UG (s:Sv) (now:Int):(kK s now).en.length=s.en.length:=by unfold kK;dsimp only;split<;>simp
def zIl (g:Cf) (s:Sv) (l:List Cl) (now:Int):(uN g s l now).en.length=s.en.length:=by unfold uN;split;exact UG s now;rfl
structure DcB (g:Cf) (s:Sv) (l:List Cl) (now:Int):Prop where
 p:1<=g.per
 c0: -1000000<=g.cap
 c1:g.cap<=1000000
 n0:0<=now
 n1:now<=1000000000
 en:∀e∈s.en,-1<=e/\e<=now
 k:∀c∈l,0<=c.k/\c.k<=3
 si:∀c∈l,0<=c.si/\c.si<=now
 len:l.length<=1000
 sl:s.en.length<=1000
def QR (s:Sv) (now:Int) (h0:0<=now) (h:∀e∈s.en,-1<=e/\e<=now):∀e∈(kK s now).en,-1<=e/\e<=now:=by
 unfold kK;dsimp only;split
 ·intro e he
  rcases yDt he with he|rfl
  ·exact h e he
  ·omega
 ·exact h
def zCk (g:Cf) (s:Sv) (l:List Cl) (now:Int) (h0:0<=now) (h:∀e∈s.en,-1<=e/\e<=now):∀e∈(uN g s l now).en,-1<=e/\e<=now:=by
 unfold uN;split;exact QR s now h0 h;exact h
theorem DcB.ok {g:Cf} {s:Sv} {l:List Cl} {now:Int} (H:DcB g s l now) (s':Sv) (he:∀e∈s'.en,-1<=e/\e<=now):∀i,i<l.length->COk g.per now s'.en (l.getD i default):=λi hi=>by
 have hk:=fM (λc:Cl=>0<=c.k/\c.k<=3) default l i H.k hi;have hs:=fM (λc:Cl=>0<=c.si/\c.si<=now) default l i H.si hi;have he:=zOu s'.en now (l.getD i default).ph H.n0 he;have:=H.p;have:=H.n0;have:=H.n1
 constructor<;>(try unfold jX)<;>omega
def zIm (g:Cf) (s:Sv) (l:List Cl) (now:Int) (H:DcB g s l now):zN 213 [vG g,wU s,zD gW l,iA now] [] (wU (xQ g s l now)) []:=by
 have hb:SvB s:=⟨by have:=H.sl;omega⟩;have c1:=XW s hb;have c2:=zT9 g s l (by have:=H.len;omega);have c3:=zIi s hb now;have hl:=zA gW l;have hll:=H.len;have he:=zCk g s l now H.n0 H.en;have c4:=zUn g (uN g s l now) now l zB (H.ok _ he);have hbd:=dN g (uN g s l now) now l l.length
 have hd:uN g s l now=if s.ph≠ -1/\jH g s l=true then kK s now else s:=rfl
 unfold xQ;generalize uN g s l now=s1 at *;generalize uD g s1 now l l.length=b at *;generalize jH g s l=ov at *;generalize kK s now=s2 at *;by_cases h1:s.ph= -1
 ·rw[zZ7 (by simp[h1])]at hd;subst hd;by_cases h2:0<=b
  ·rw[zZ8 ⟨h1,h2⟩];have hy:=yI gW l b h2 zB;generalize l.getD b.toNat default=cl at *;refine eM call213 λF hF=>?_
   refine yR (vH c1 c4) ?_;exact zJ
  ·rw[zZ7 (λh=>h2 h.2)];refine eM call213 λF hF=>?_
   refine yR (vH c1 c4) ?_;exact zJ
 cases ov with
 |false=>
  rw[zZ7 zU]at hd;subst hd;rw[zZ7 (λh=>h1 h.1)];refine eM call213 λF hF=>?_
  refine yR (vH c1 c2) ?_;exact zJ
 | true=>
  rw[zZ8 ⟨h1,rfl⟩]at hd;subst hd;by_cases h3:s1.ph= -1
  ·by_cases h2:0<=b
   ·rw[zZ8 ⟨h3,h2⟩];have hy:=yI gW l b h2 zB;generalize l.getD b.toNat default=cl at *;refine eM call213 λF hF=>?_
    refine yR (ZK c1 c2 c3 c4) ?_;exact zJ
   ·rw[zZ7 (λh=>h2 h.2)];refine eM call213 λF hF=>?_
    refine yR (ZK c1 c2 c3 c4) ?_;exact zJ
  ·rw[zZ7 (λh=>h3 h.1)];refine eM call213 λF hF=>?_
   refine yR (ZK c1 c2 c3 c4) ?_;exact zJ
def KW (g:Cf) (s:Sv) (l:List Cl) (now:Int):(xQ g s l now).en=(uN g s l now).en:=by unfold xQ;split<;>rfl
def XY (g:Cf) (s:Sv) (l:List Cl) (now:Int):(xQ g s l now).en.length=s.en.length:=by rw[KW];exact zIl g s l now
def AU (g:Cf) (s:Sv) (l:List Cl) (now:Int):(uN g s l now=s∨(s.ph≠ -1/\jH g s l=true/\uN g s l now=kK s now)):=by
 unfold uN;split
 ·rename_i h;exact .inr ⟨h.1,h.2,rfl⟩
 ·exact .inl Z
def KX (g:Cf) (s:Sv) (l:List Cl) (now:Int):(uN g s l now).ph=s.ph/\(uN g s l now).gr=s.gr∨(uN g s l now).ph= -1/\(uN g s l now).gr=0:=by
 rcases AU g s l now with hd|⟨_,_,hd⟩
 ·exact .inl (by rw[hd];exact⟨rfl,rfl⟩)
 ·exact .inr (by rw[hd];exact⟨rfl,rfl⟩)
def zUa (g:Cf) (s:Sv) (l:List Cl) (now:Int) (n:Int) (hl:∀c∈l,0<=c.ph/\c.ph<n) (h: -1<=s.ph/\s.ph<n/\0<=s.gr/\s.gr<=60) (h0:0<=n): -1<=(xQ g s l now).ph/\(xQ g s l now).ph<n/\0<=(xQ g s l now).gr/\(xQ g s l now).gr<=60:=by
 have h1:=KX g s l now;have hb:=dN g (uN g s l now) now l l.length;unfold xQ;split
 ·rename_i hh;have:=fM (λc:Cl=>0<=c.ph/\c.ph<n) default l (uD g (uN g s l now) now l l.length).toNat hl zB;dsimp only;omega
 ·omega
def zIn (g:Cf) (s:Sv) (l:List Cl) (now:Int) (h0:0<=now) (h:∀e∈s.en,-1<=e/\e<=now):∀e∈(xQ g s l now).en,-1<=e/\e<=now:=by rw[KW];exact zCk g s l now h0 h
def KY (s:Sv) (b:Bool):(jO s b).en=s.en/\(jO s b).ph=s.ph:=by unfold jO;split<;>exact⟨rfl,rfl⟩
def zUb (s:Sv) (b:Bool) (h:0<=s.gr/\s.gr<=60):0<=(jO s b).gr/\(jO s b).gr<=60:=by unfold jO;split;(dsimp only;omega);exact h
def zXm (s:Sv) (b:Bool) (hz:s.ph= -1->s.gr=0):(jO s b).ph= -1->(jO s b).gr=0:=by
 unfold jO;split
 ·rename_i h;intro h2;exact absurd h2 h.2
 ·exact hz
def zXn (g:Cf) (s:Sv) (l:List Cl) (now:Int) (hz:s.ph= -1->s.gr=0):(xQ g s l now).ph= -1->(xQ g s l now).gr=0:=by
 have h1:=KX g s l now;unfold xQ;split
 ·exact λ_=>rfl
 ·intro h2;rcases h1 with h1|h1
  ·rw[h1.2];exact hz zB
  ·exact h1.2
structure EI (n:Nat) (d:Dk) (s:Sv) (now:Int):Prop where
 len:s.en.length=n
 en:∀e∈s.en,-1<=e/\e<now
 p0: -1<=s.ph
 p1:s.ph<n
 g0:0<=s.gr
 g1:s.gr<=60
 n0:1<=now
 n1:now+rem d<=301
 z:s.ph= -1->s.gr=0
theorem EI.next {n:Nat} {d:Dk} {s:Sv} {now:Int} (H:EI n d s now) (g:Cf) (c:List Cl) (hcl:∀x∈c,ClB n now x) (b:Bool) (d':Dk) (hd:rem d'+1<=rem d):EI n d' (jO (xQ g s c now) b) (now+1):=by
 have hp:=zUa g s c now n (λx hx=>⟨(hcl x hx).p0,(hcl x hx).p1⟩) ⟨H.p0,H.p1,H.g0,H.g1⟩ zB;have hg:=zUb (xQ g s c now) b hp.2.2;obtain⟨e1,e2⟩:=KY (xQ g s c now) b;have:=H.n0;have:=H.n1;have he:=zIn g s c now zB (λe he=>by have:=H.en e he;omega);refine⟨by rw[e1,XY];exact H.len,λe h=>?_,zB,zB,zB,zB,zB,zB,λh=>?_⟩
 case refine_2=>exact zXm _ b (zXn g s c now H.z) h
 rw[e1]at h;have:=he e h;omega
def zEl {g:Cf} {s:Sv} {l:List Cl} (h:jH g s l=false):(l.any λx=>x.ph==s.ph)=true/\s.gr<g.hold/\((l.any λc=>jW c.k)=true->(l.any λx=>jW x.k&&x.ph==s.ph)=true):=by
 unfold jH at h
 have e:(l.any λx=>jW x.k&&x.ph==s.ph)=(l.any λx=>x.ph==s.ph&&jW x.k):=by
  congr 1;funext x;exact Bool.and_comm _ _
 rw[e];generalize (l.any λx=>x.ph==s.ph)=m at *;generalize (l.any λx=>x.ph==s.ph&&jW x.k)=u at *;generalize (l.any λc=>jW c.k)=w at *;by_cases h2:g.hold<=s.gr
 ·rw[yAe h2]at h;simp at h
 ·rw[yAh h2]at h;refine⟨?_,zB,?_⟩
  ·cases m<;>simp_all
  ·cases m<;>cases u<;>cases w<;>simp_all
def gS (p:Ph) (l:Li):Int:=
 if l.lamp=1 then max 1 (UL p-l.tk)+p.yel+p.red else if l.lamp=2 then p.yel-l.tk+p.red else if l.lamp=3 then p.red-l.tk else 0
def KZ {p:Ph} {l:Li} (h:l.lamp=0):gS p l=0:=by unfold gS;rw[zZ7 zB,zZ7 zB,zZ7 zB]
def zXo {p:Ph} {l:Li} (hv:UM p l=true) (hy:1<=p.yel) (hr:0<=p.red) (h:gS p l<=0):l.lamp=0:=by
 unfold UM at hv;unfold gS at h;by_cases h0:l.lamp=0
 ·exact h0
 rw[zZ7 h0]at hv;by_cases h1:l.lamp=1
 ·rw[zZ8 h1]at h hv;omega
 rw[zZ7 h1]at h hv;by_cases h2:l.lamp=2
 ·rw[zZ8 h2]at h hv;rw[yAc]at hv;omega
 rw[zZ7 h2]at h hv;by_cases h3:l.lamp=3
 ·rw[zZ8 h3]at h hv;rw[yAc]at hv;omega
 rw[zZ7 h3]at hv;cases hv
def zUc {p:Ph} {l:Li} (hv:UM p l=true) (hy:1<=p.yel) (hr:0<=p.red) (hln:1<=UL p):gS p l<=UL p+p.yel+p.red:=by
 unfold UM at hv;unfold gS;by_cases h1:l.lamp=1
 ·rw[zZ8 h1];rw[zZ7 zB,zZ8 h1,yAc]at hv;omega
 rw[zZ7 h1];by_cases h2:l.lamp=2
 ·rw[zZ8 h2];rw[zZ7 zB,zZ7 h1,zZ8 h2,yAc]at hv;omega
 rw[zZ7 h2];by_cases h3:l.lamp=3
 ·rw[zZ8 h3];rw[zZ7 zB,zZ7 h1,zZ7 h2,zZ8 h3,yAc]at hv;omega
 rw[zZ7 h3];omega
def zIo {p:Ph} {l:Li} {lv:Bool} (hv:UM p l=true) (hy:1<=p.yel) (hr:0<=p.red) (hln:UL p<=1000) (hlv:l.lamp=1->lv=true):gS p (GF p l lv)<=max 0 (gS p l-1):=by
 unfold UM at hv;unfold GF;by_cases h1:l.lamp=1
 ·rw[zZ8 h1,hlv h1];rw[zZ7 zB,zZ8 h1,yAc]at hv;have e:gS p l=max 1 (UL p-l.tk)+p.yel+p.red:=by unfold gS;rw[zZ8 h1]
  rw[e];split
  ·rename_i h;have e2:gS p ⟨2,0⟩=p.yel-0+p.red:=rfl;rw[e2];omega
  ·rename_i h;have e2:gS p ⟨1,min (l.tk+1) 1073741824⟩=max 1 (UL p-min (l.tk+1) 1073741824)+p.yel+p.red:=rfl;rw[e2];have:¬UL p<=l.tk+1:=λk=>h ⟨rfl,k⟩
   omega
 by_cases h2:l.lamp=2
 ·rw[zZ7 h1,zZ8 h2];rw[zZ7 zB,zZ7 h1,zZ8 h2,yAc]at hv;have e:gS p l=p.yel-l.tk+p.red:=by unfold gS;rw[zZ7 h1,zZ8 h2]
  rw[e];split
  ·have e2:gS p ⟨2,l.tk+1⟩=p.yel-(l.tk+1)+p.red:=rfl;rw[e2];omega
  ·split
   ·rw[KZ Z];omega
   ·have e2:gS p ⟨3,0⟩=p.red-0:=rfl;rw[e2];omega
 by_cases h3:l.lamp=3
 ·rw[zZ7 h1,zZ7 h2,zZ8 h3];rw[zZ7 zB,zZ7 h1,zZ7 h2,zZ8 h3,yAc]at hv;have e:gS p l=p.red-l.tk:=by unfold gS;rw[zZ7 h1,zZ7 h2,zZ8 h3]
  rw[e];split
  ·have e2:gS p ⟨3,l.tk+1⟩=p.red-(l.tk+1):=rfl;rw[e2];omega
  ·rw[KZ Z];omega
 ·rw[zZ7 h1,zZ7 h2,zZ7 h3];unfold gS;rw[zZ7 h1,zZ7 h2,zZ7 h3];omega
def zIp {j:Jn} {c:Ct} (C:CV j c) {t:Nat} (ht:t<j.ph.length) (r:Int) (p:Nat):xJ (jB j t c r) p=xJ c p∨(xJ (jB j t c r) p=⟨1,0⟩/\(p=t∨jF j.cf p t=false)):=by
 unfold jB;split
 ·split
  ·exact .inl Z
  ·rename_i h;unfold aS at h⊢;split at h
   ·rename_i hr;rw[zZ8 hr,yAx]
    rcases JG C.n ht p with h2|⟨h1,h2⟩
    ·exact .inl h2
    ·exact .inr ⟨h2,.inl h1⟩
   ·rename_i hr;rw[zZ7 hr]
    rcases QW j (c.nx.getD r.toNat default) r t with h1|⟨q,h1,h2,_,h4⟩
    ·exact absurd h1 h
    ·rw[h1,yAx]
     rcases JG C.n h2 p with h3|⟨h3,h5⟩
     ·exact .inl h3
     ·subst h3;exact .inr ⟨h5,.inr h4⟩
 ·exact .inl Z
def zIq {j:Jn} {c:Ct} (C:CV j c) {t:Nat} (ht:t<j.ph.length) (r:Int) (p:Nat) (hp:p≠t) (hc:jF j.cf p t=true):xJ (jB j t c r) p=xJ c p:=by
 rcases zIp C ht r p with h|⟨_,h|h⟩
 ·exact h
 ·exact absurd h hp
 ·rw[hc]at h;cases h
def zSc {j:Jn} (J:JV j) {c:Ct} (C:CV j c) {t:Nat} (ht:t<j.ph.length) (hr:∀p,p<j.ph.length->(p=t∨jF j.cf p t=true)->(xJ c p).lamp=0):xJ (jB j t c (yM j t).ring) t=⟨1,0⟩:=by
 have hd:GG j c (yM j t).ring=true:=by
  unfold GG;rw[yAm];intro p hp;obtain⟨hp1,hp2⟩:=eQ.1 hp;rw[yBf];refine hr p hp1 ?_;by_cases e:p=t
  ·exact .inl e
  ·exact .inr (J.ap p t hp1 ht e (.inl hp2))
 have hk:ZR j c t=false:=by
  unfold ZR;rw[yCy];intro q hq;have hq:=yAt.1 hq;rw[C.n]at hq;rw[yCt,Bool.and_eq_false_iff]
  cases hc:jF j.cf t q with
  |false=>exact .inr Z
  |true=>
   rw[J.sy t q ht hq]at hc
   left
   rw[hr q hq (.inr hc)];rfl
 unfold jB aS;rw[zZ8 hd,zZ8 Z,zZ7 zB,yAx];have h:=JG C.n ht t;unfold kR;rw[zZ7 zDm]
 have h2:(NN j c t).li=c.li.set t ⟨1,0⟩:=by unfold NN;split<;>rfl
 unfold xJ;dsimp only;rw[h2];have:=JO c t t ⟨1,0⟩ 0 [] 0 (by rw[C.n];exact ht);rw[zZ8 Z]at this;exact this
def RE {j:Jn} (J:JV j) {c:Ct} (C:CV j c) {t:Nat} (ht:t<j.ph.length) (hg:(xJ c t).lamp=1):(xJ (bG j c t) t).lamp=1:=by
 rcases zXv J C t t ht with⟨h,h0⟩|h|⟨_,h⟩
 ·omega
 ·rw[h];unfold GH GF UN;rw[zZ8 hg,yAe (show 0<=(t:Int)/\(t:Int)<j.ph.length by omega),zZ8 Z,yAh zU];simp
 ·rw[h]
def zOl {j:Jn} (J:JV j) {c:Ct} (C:CV j c) {t:Nat} (ht:t<j.ph.length) (h0:c.wt=0) (hg:(xJ c t).lamp≠1) (k:Nat) (hk:∀p,p<j.ph.length->(p=t∨jF j.cf p t=true)->gS (yM j p) (xJ c p)<=k+1):
  (xJ (bG j c t) t).lamp=1∨(1<=k/\(bG j c t).wt=0/\∀p,p<j.ph.length->(p=t∨jF j.cf p t=true)->gS (yM j p) (xJ (bG j c t) p)<=k):=by
 have L:=zCu J C h0 t;have haim:UN j t=true:=yAe zB
 have hst:bG j c t=jB j t (jB j t ⟨bY j c t,c.gr,c.nx,c.wt⟩ 0) 1:=by
  unfold bG;rw[zZ7 zB,zZ8 haim,yAx]
 rw[hst]
 have hl:∀p,p<j.ph.length->(p=t∨jF j.cf p t=true)->gS (yM j p) (xJ ⟨bY j c t,c.gr,c.nx,c.wt⟩ p)<=k:=λp hp h=>by
  rw[EG _ _ _ _ _ hp];have hti:=J.ti p hp;have hln:UL (yM j p)<=1000:=by unfold UL;omega
  have h1:=zIo (lv:=GH j c t p) (C.k p hp) zB zB hln (λh1=>by
   unfold GH;rw[zZ8 haim]
   rcases h with h|h
   ·subst h;exact absurd h1 hg
   ·rw[h];have:p≠t:=λe=>by subst e;rw[J.ir p hp]at h;cases h
    rw[yAe (show(p:Int)≠t by omega)]
    simp)
  have:=hk p hp h;omega
 have hLw:(⟨bY j c t,c.gr,c.nx,c.wt⟩:Ct).wt=0:=h0;generalize (⟨bY j c t,c.gr,c.nx,c.wt⟩:Ct)=cl at *;have C1:=MX J L hLw ht 0;have C2:=MX J C1.1 C1.2 ht 1;by_cases hg2:(xJ (jB j t (jB j t cl 0) 1) t).lamp=1
 ·exact .inl hg2
 right
 have e2:xJ (jB j t (jB j t cl 0) 1) t=xJ (jB j t cl 0) t:=by
  rcases zIp C1.1 ht 1 t with h|⟨h,_⟩
  ·exact h
  ·rw[h]at hg2;exact absurd Z hg2
 have e1:xJ (jB j t cl 0) t=xJ cl t:=by
  rcases zIp L ht 0 t with h|⟨h,_⟩
  ·exact h
  ·rw[e2,h]at hg2;exact absurd Z hg2
 have hne:∀p,p<j.ph.length->jF j.cf p t=true->p≠t:=λp hp h e=>by subst e;rw[J.ir p hp]at h;cases h
 have hsame1:∀p,p<j.ph.length->(p=t∨jF j.cf p t=true)->xJ (jB j t cl 0) p=xJ cl p:=λp hp h=>by
  rcases h with rfl|h
  ·exact e1
  ·exact zIq L ht 0 p (hne p hp h) h
 have hsame2:∀p,p<j.ph.length->(p=t∨jF j.cf p t=true)->xJ (jB j t (jB j t cl 0) 1) p=xJ cl p:=λp hp h=>by
  rw[<-hsame1 p hp h]
  rcases h with rfl|h
  ·exact e2
  ·exact zIq C1.1 ht 1 p (hne p hp h) h
 refine⟨?_,C2.2,λp hp h=>by rw[hsame2 p hp h];exact hl p hp h⟩;refine yD7 λhk0=>?_
 have hred:∀p,p<j.ph.length->(p=t∨jF j.cf p t=true)->(xJ cl p).lamp=0:=λp hp h=>by
  have hti:=J.ti p hp;exact zXo (L.k p hp) zB zB (by have:=hl p hp h;omega)
 have hrg:=J.rg t ht;have:(yM j t).ring=0∨(yM j t).ring=1:=by omega
 rcases this with h|h
 ·have:=zSc J L ht hred;rw[h,e1]at this;rw[e2,e1,this]at hg2;exact hg2 Z
 ·have:=zSc J C1.1 ht (λp hp h=>by rw[hsame1 p hp h];exact hred p hp h);rw[h]at this;rw[this]at hg2;exact hg2 Z
theorem UH (j:Jn) (c:Ct) (t:Int):∀k,UJ j (bG j c t) t k=UJ j c t (k+1)
 |0=>rfl
 |k+1=>by
  show bG j (UJ j (bG j c t) t k) t=bG j (UJ j c t (k+1)) t
  rw[UH j c t k]
theorem JC {j:Jn} (J:JV j) {t:Nat} (ht:t<j.ph.length):∀(k:Nat) (c:Ct),CV j c->c.wt=0->(∀p,p<j.ph.length->(p=t∨jF j.cf p t=true)->gS (yM j p) (xJ c p)<=k+1)->∃n,n<=k+1/\(xJ (UJ j c t n) t).lamp=1
 | k,c,C,h0,hk=>by
  by_cases hg:(xJ c t).lamp=1
  ·exact⟨0,zB,hg⟩
  rcases zOl J C ht h0 hg k hk with h|⟨h1,h2,h3⟩
  ·exact⟨1,zB,h⟩
  ·match k,h1,h3 with
   |k'+1,_,h3=>
    obtain⟨n,hn,hn2⟩:=JC J ht k' (bG j c t) (zCv J C t) h2 (λp hp h=>by have:=h3 p hp h;omega);exact⟨n+1,zB,by rw[<-UH];exact hn2⟩
def JD (ps:List Ph):Nat->Int
 |0=>0
 |i+1=>max (JD ps i) (UL (ps.getD i default)+(ps.getD i default).yel+(ps.getD i default).red)
def ZP (j:Jn):Int:=j.st+JD j.ph j.ph.length
def zIr (ps:List Ph) (n:Nat):∀i,i<n->UL (ps.getD i default)+(ps.getD i default).yel+(ps.getD i default).red<=JD ps n:=by
 induction n with
 |zero=>intro i h;exact absurd h (yCj _)
 |succ n ih=>
  intro i h;unfold JD;by_cases e:i=n
  ·subst e;omega
  ·have:=ih i zB;omega
def RF {j:Jn} (J:JV j):j.st+2<=ZP j:=by
 have h:=zIr j.ph j.ph.length 0 LM;have h2:=J.ti 0 LM;unfold ZP;unfold yM at h2;unfold UL at h;omega
theorem zIs {j:Jn} {t:Int}:∀(k:Nat) (c:Ct),c.wt=k->UJ j c t k=⟨c.li,c.gr,c.nx,0⟩
 |0,c,h=>by
  show c=_
  obtain⟨a,b,d,e⟩:=c;dsimp only at h⊢;rw[h];rfl
 |k+1,c,h=>by
  rw[<-UH];have e:bG j c t=⟨c.li,c.gr,c.nx,c.wt-1⟩:=by unfold bG;rw[zZ8 zB]
  rw[e,zIs k _ (by dsimp only;omega)]
theorem JE (j:Jn) (c:Ct) (t:Int) (a:Nat):∀b,UJ j (UJ j c t a) t b=UJ j c t (a+b)
 |0=>rfl
 |b+1=>by
  show bG j (UJ j (UJ j c t a) t b) t=bG j (UJ j c t (a+b)) t
  rw[JE j c t a b]
def zXp {j:Jn} (J:JV j) {c:Ct} (C:CV j c) {t:Nat} (ht:t<j.ph.length):∃n:Nat,(n:Int)<=ZP j/\(xJ (UJ j c t n) t).lamp=1:=by
 have htr:=RF J;have hst:=J.st;have hw:=C.w;by_cases h0:c.wt=0
 ·have htl:∀p,p<j.ph.length->gS (yM j p) (xJ c p)<=JD j.ph j.ph.length:=λp hp=>by
   have hti:=J.ti p hp;have h1:=zUc (C.k p hp) zB zB (by unfold UL;omega);have h2:=zIr j.ph j.ph.length p hp;unfold yM at *;omega
  have h3:2<=JD j.ph j.ph.length:=by unfold ZP at htr;omega
  obtain⟨k,hk⟩:∃k:Nat,JD j.ph j.ph.length=k+1:=⟨(JD j.ph j.ph.length).toNat-1,zB⟩;obtain⟨n,hn,hn2⟩:=JC J ht k c C h0 (λp hp _=>by have:=htl p hp;omega);exact⟨n,by unfold ZP;omega,hn2⟩
 ·have hz:∀p,p<j.ph.length->(xJ c p).lamp=0:=by rcases C.z with h|h;exact absurd h h0;exact h
  obtain⟨w,hw2⟩:∃w:Nat,c.wt=w:=⟨c.wt.toNat,zB⟩;have e:=zIs (j:=j) (t:=t) w c hw2;have C1:=zCo J C (t:Int) w;rw[e]at C1
  obtain⟨n,hn,hn2⟩:=JC J ht 0 ⟨c.li,c.gr,c.nx,0⟩ C1 Z (λp hp _=>by
   have:(xJ ⟨c.li,c.gr,c.nx,0⟩ p).lamp=0:=hz p hp
   rw[KZ this];omega)
  rw[<-e,JE]at hn2;exact⟨w+n,zB,hn2⟩
theorem zIt {j:Jn} (J:JV j) {c:Ct} (C:CV j c) {t:Nat} (ht:t<j.ph.length) (hg:(xJ c t).lamp=1):∀k,(xJ (UJ j c t k) t).lamp=1
 |0=>hg
 |k+1=>RE J (zCo J C t k) ht (zIt J C ht hg k)
def zCl (s:Sg) (h1:s.c.li.length<=1073741824) (h2:s.c.nx.length<=1073741824):zN 149 [wX s] [] (wX s) []:=by
 have c1:=MV s.c.li h1;have c2:=MU s.c.nx h2;refine eM call149 λF hF=>?_
 refine yR (vH c1 c2) ?_;exact zJ
def grB (s:Sg) (v:Sv):Bool:=decide (0<=v.ph/\v.ph<s.c.li.length)&&((xJ s.c v.ph.toNat).lamp==1)
def cF (g:Cf) (j:Jn) (s:Sg) (v:Sv) (l:List Cl) (k now:Int):Sg×Sv:=
 if s.lat=true then(s,kK v now)
 else if(BR j s (xQ g v l now).ph k).lat=true then(BR j s (xQ g v l now).ph k,kK (xQ g v l now) now)
 else(BR j s (xQ g v l now).ph k,jO (xQ g v l now) (grB (BR j s (xQ g v l now).ph k) (xQ g v l now)))
def zOm (g:Cf) (j:Jn) (J:JV j) (s:Sg) (C:CV j s.c) (v:Sv) (l:List Cl) (k now:Int) (H:DcB g v l now) (hgr: -1000000<=(xQ g v l now).gr):zN 190 [vG g,wJ j,wX s,wU v,zD gW l,iA k,iA now] [] (.tup [wX (cF g j s v l k now).1,wU (cF g j s v l k now).2]) []:=by
 have hJ:=J.n;have hn:=C.n;have hm:=C.m;have hb:SvB v:=⟨by have:=H.sl;omega⟩;have hb2:SvB (xQ g v l now):=⟨by rw[XY];have:=H.sl;omega⟩;have c0:=zCl s zB zB;have c1:=zIi v hb now;have c2:=zIm g v l now H;have c3:=zOs j J s C (xQ g v l now).ph k;have c4:=zIi (xQ g v l now) hb2 now;have c5:=zOi (xQ g v l now) hb2 (grB (BR j s (xQ g v l now).ph k) (xQ g v l now)) hgr;have X:=zXw J C (xQ g v l now).ph k;have hxn:=X.n;unfold cF;generalize kK v now=v0 at *;generalize xQ g v l now=v1 at *;generalize kK v1 now=v2 at *;generalize BR j s v1.ph k=x at *;have hgb:grB x v1=(decide (0<=v1.ph/\v1.ph<x.c.li.length)&&((xJ x.c v1.ph.toNat).lamp==1)):=rfl;generalize grB x v1=b at *;generalize jO v1 b=v3 at *;clear H hgr X C hb hb2;obtain⟨sc,sl⟩:=s;obtain⟨xc,xl⟩:=x;dsimp only at *;have hlx:=zA vE xc.li
 cases sl with
 |true=>
  rw[zZ8 Z];refine eM call190 λF hF=>?_
  refine yR (vH c0 c1) ?_;exact zJ
 |false=>
 rw[zZ7 yAs]
 cases xl with
 |true=>
  rw[zZ8 Z];refine eM call190 λF hF=>?_
  refine yR (gK c2 c3 c4) ?_;exact zJ
 |false=>
 rw[zZ7 yAs];dsimp only;rw[show wX ⟨xc,false⟩= .agg [zD vE xc.li,iA xc.gr,zD iA xc.nx,iA xc.wt,bA false]from Z]at *; by_cases h1:0<=v1.ph
 case neg=>
  rw[yAh (λh=>h1 h.1),yBy]at hgb;subst hgb;refine eM call190 λF hF=>?_
  refine yR (gK c2 c3 c5) ?_;exact zJ
 by_cases h2:v1.ph<xc.li.length
 case neg=>
  rw[yAh (λh=>h2 h.2),yBy]at hgb;subst hgb;refine eM call190 λF hF=>?_
  refine yR (gK c2 c3 c5) ?_;exact zJ
 rw[yAe ⟨h1,h2⟩,yAv]at hgb;have hy:=yI vE xc.li v1.ph h1 h2
 change (xc.li.map vE)[v1.ph.toNat]? =some (vE (xJ xc v1.ph.toNat))at hy
 generalize xJ xc v1.ph.toNat=a at *;by_cases h3:a.lamp=1
 ·rw[show(a.lamp==1)=true by rw[yBf];exact h3]at hgb;subst hgb;refine eM call190 λF hF=>?_
  refine yR (gK c2 c3 c5) ?_;exact zJ
 ·rw[show(a.lamp==1)=false by rw[yBg];exact h3]at hgb;subst hgb;refine eM call190 λF hF=>?_
  refine yR (gK c2 c3 c5) ?_;exact zJ
def zOn {j:Jn} (J:JV j) {s:Sg} (C:CV j s.c) (g:Cf) (v:Sv) (c:List Cl) (k now:Int):CV j (cF g j s v c k now).1.c:=by
 unfold cF;split
 ·exact C
 ·split<;>exact zXw J C _ _
def zUd {g:Cf} {j:Jn} {s:Sg} {v:Sv} {c:List Cl} {k now:Int} (h:(cF g j s v c k now).1.lat=true):(cF g j s v c k now).2.ph= -1:=by
 unfold cF at h⊢;split
 ·rfl
 ·rename_i h1;rw[zZ7 h1]at h;split
  ·rfl
  ·rename_i h2;rw[zZ7 h2]at h;exact absurd h h2
structure Ss where
 op:Bool
 dr:Bool
 bf:List Int
 gb:Bool
instance:Inhabited Ss:=⟨⟨false,false,[],false⟩⟩
def XZ (m n:Nat):Nat:=min n (256-m)
def FX (s:Ss) (b:List Int):Ss:=if s.op=true then⟨true,s.dr||decide (XZ s.bf.length b.length≠b.length),s.bf++b.take (XZ s.bf.length b.length),s.gb⟩else s
def zOo {s:Ss} (h:s.bf.length<=256) (b:List Int):(FX s b).bf.length<=256:=by
 unfold FX;split
 ·simp only[yAd,yA3];unfold XZ;omega
 ·exact h
def AW (l:List Vw) (hl:l.length<=1073741824):zN 90 [zD vO l] [] (.ref 1001 0 (l.map vO).length) [(1001,.arr 4 (l.map vO) false)]:=by
 have hll:=zA vO l;refine eM call90 λF hF=>?_
 refine yS 0 Z (λcap hx=>?_) ?_
 ·have:l=[]:=by simpa using hx
  subst this
  (repeat' (first|refine WZN ?_|((first|apply xM|apply wA)<;>intro hc)|fail))
  refine uH 2 1001 4 Z Z Z (yT ?_);exact zL [1001] Z Z Z Z
 ·repeat' (first|(refine zE ?_;first|refine vW tok Z Z ?_|(refine wL ?_;refine wG (xE tok (.inl ⟨rfl,rfl⟩) Z Z Z Z) Z ?_)|(refine xB ?_;refine uS (nw:=[1001]) (yH tok 1001 (xs:=[]) Z Z Z Z Z Z Z Z Z) Z Z Z ?_)|(refine xC ?_;refine wF tok Z Z Z Z Z Z Z (xO _ _ (λ_=>rfl)) Z Z Z zB Z ?_)|refine qJ ?_)|(first|refine xS ?_|refine xD ?_|refine vI Z ?_|refine zY Z ?_|refine zS Z ?_|refine xL Z (λhc=>?_) λhc=>?_|refine xA ?_|refine yT ?_|refine xF ?_|refine yW ?_))
  exact zL [1001] Z Z Z Z
def UI (l:List Vw) (hn:l.length<=1000) (hb:∀v∈l,v.co.length<=1000/\v.cn.length<=1000):zN 56 [zD vO l] [] (zD vO l) []:=by
 have c:=AW l zB;have hll:=zA vO l;refine eM call56 λF hF=>?_
 refine zV c ?_;refine zO ((l.map vO).length) [1001] [] [0,7] [8,0,7] Z (λi T U=>⟨(8,iA i)::T,(1001,.arr 4 (kN i (l.map vO)) false)::U⟩) ?_;(conv=>whnf);refine⟨by rfl,?_,?_⟩
 ·intro i hi;have hi':i<l.length:=by omega
  have hy:(kN i (l.map vO))[i]? =some (vO (l.getD i default)):=zM vO l i hi';have e:=qT vO l i hi';have hbb:=hb (l.getD i default) bE;have c1:=WP (l.getD i default).co zB;have c2:=WP (l.getD i default).cn zB;generalize (l.getD i default)=t at *;generalize kN i (l.map vO)=xs at *;generalize kN (i+1) (l.map vO)=ys at *;have hs:=fS hy;have hy2:(xs.set i (.agg [bA t.fl,bA t.ov,zD iA t.co,zD iA t.cn]))[i]? =some (vO t):=by rw[show AV.agg [bA t.fl,bA t.ov,zD iA t.co,zD iA t.cn]=vO t from Z,hs];exact hy
  have e2:(xs.set i (.agg [bA t.fl,bA t.ov,zD iA t.co,zD iA t.cn])).set i (.agg [bA t.fl,bA t.ov,zD iA t.co,zD iA t.cn])=ys:=by rw[yEe];exact e
  clear e hs;subst e2;refine yR (vH c1 c2) ?_;rfl
 ·(refine WW ?_)
  exact zK [] Z Z (yA6 (AV.sl false) yAf) Z
def jE (s:Ss):AV:= .agg [bA s.op,bA s.dr,zD yA s.bf,bA s.gb]
def JF (s:Ss) (h:s.bf.length<=1000):zN 115 [jE s] [] (jE s) []:=by
 have c:=wV s.bf zB;unfold jE;refine eM call115 λF hF=>?_
 refine zV c ?_;exact zJ
structure Ev where
 k:Int
 s:Int
 a:Int
 b:Int
 y:List Int
instance:Inhabited Ev:=⟨⟨0,0,0,0,[]⟩⟩
def gD (e:Ev):AV:= .agg [iA e.k,iA e.s,iA e.a,iA e.b,zD yA e.y]
structure Cy where
 c:Cf
 rf:Bool
 now:Int
 ds:List yY
 sg:List Sg
 sv:List Sv
 st:List Int
 vw:List Vw
instance:Inhabited yY:=⟨⟨⟨0,⟨[],0,0,[],0,0,0,0⟩,[],[],⟨0,0,0⟩⟩,[],[],[]⟩⟩
instance:Inhabited Sg:=⟨⟨⟨[],0,[],0⟩,false⟩⟩
instance:Inhabited Sv:=⟨⟨-1,0,[]⟩⟩
def bP (c:Cf) (rf:Bool) (now:Int) (a b s t v:AV):AV:= .agg [zD wJ c.js,zD wK c.ags,iA c.per,iA c.cap,iA c.hold,iA c.lock,bA rf,iA now,a,b,s,t,v]
def uC (y:Cy):AV:=bP y.c y.rf y.now (zD zI y.ds) (zD wX y.sg) (zD wU y.sv) (zD iA y.st) (zD vO y.vw)
def zIu (y:Cy):AV:=bP y.c y.rf y.now (.ref 1011 0 (y.ds.map zI).length) (.ref 1012 0 (y.sg.map wX).length) (.ref 1013 0 (y.sv.map wU).length) (.ref 1014 0 (y.st.map iA).length) (zD vO y.vw)
def zIv (y:Cy):List (Nat×xN):=[(1011,.arr 17 (y.ds.map zI) false),(1012,.arr 5 (y.sg.map wX) false),(1013,.arr 3 (y.sv.map wU) false),(1014,.arr 1 (y.st.map iA) false)]
structure CyB (y:Cy):Prop where
 d:y.ds.length<=1000
 db:∀d∈y.ds,fI d
 g:y.sg.length<=1000
 gb:∀s∈y.sg,s.c.li.length<=1000/\s.c.nx.length<=1000
 s:y.sv.length<=1000
 sb:∀s∈y.sv,s.en.length<=1000
 t:y.st.length<=1000
 v:y.vw.length<=1000
 vb:∀v∈y.vw,v.co.length<=1000/\v.cn.length<=1000
def bQ (l:List yY) (hl:l.length<=1073741824):zN 147 [zD zI l] [] (.ref 1011 0 (l.map zI).length) [(1011,.arr 17 (l.map zI) false)]:=by
 have hll:=zA zI l;refine eM call147 λF hF=>?_
 refine yS 0 Z (λcap hx=>?_) ?_
 ·have:l=[]:=by simpa using hx
  subst this
  (repeat' (first|refine WZN ?_|((first|apply xM|apply wA)<;>intro hc)|fail))
  refine uH 2 1011 17 Z Z Z (yT ?_);exact zL [1011] Z Z Z Z
 ·repeat' (first|(refine zE ?_;first|refine vW tok Z Z ?_|(refine wL ?_;refine wG (xE tok (.inl ⟨rfl,rfl⟩) Z Z Z Z) Z ?_)|(refine xB ?_;refine uS (nw:=[1011]) (yH tok 1011 (xs:=[]) Z Z Z Z Z Z Z Z Z) Z Z Z ?_)|(refine xC ?_;refine wF tok Z Z Z Z Z Z Z (xO _ _ (λ_=>rfl)) Z Z Z zB Z ?_)|refine qJ ?_)|(first|refine xS ?_|refine xD ?_|refine vI Z ?_|refine zY Z ?_|refine zS Z ?_|refine xL Z (λhc=>?_) λhc=>?_|refine xA ?_|refine yT ?_|refine xF ?_|refine yW ?_))
  exact zL [1011] Z Z Z Z
def bR (l:List Sg) (hl:l.length<=1073741824):zN 148 [zD wX l] [] (.ref 1012 0 (l.map wX).length) [(1012,.arr 5 (l.map wX) false)]:=by
 have hll:=zA wX l;refine eM call148 λF hF=>?_
 refine yS 0 Z (λcap hx=>?_) ?_
 ·have:l=[]:=by simpa using hx
  subst this
  (repeat' (first|refine WZN ?_|((first|apply xM|apply wA)<;>intro hc)|fail))
  refine uH 2 1012 5 Z Z Z (yT ?_);exact zL [1012] Z Z Z Z
 ·repeat' (first|(refine zE ?_;first|refine vW tok Z Z ?_|(refine wL ?_;refine wG (xE tok (.inl ⟨rfl,rfl⟩) Z Z Z Z) Z ?_)|(refine xB ?_;refine uS (nw:=[1012]) (yH tok 1012 (xs:=[]) Z Z Z Z Z Z Z Z Z) Z Z Z ?_)|(refine xC ?_;refine wF tok Z Z Z Z Z Z Z (xO _ _ (λ_=>rfl)) Z Z Z zB Z ?_)|refine qJ ?_)|(first|refine xS ?_|refine xD ?_|refine vI Z ?_|refine zY Z ?_|refine zS Z ?_|refine xL Z (λhc=>?_) λhc=>?_|refine xA ?_|refine yT ?_|refine xF ?_|refine yW ?_))
  exact zL [1012] Z Z Z Z
def bS (l:List Sv) (hl:l.length<=1073741824):zN 150 [zD wU l] [] (.ref 1013 0 (l.map wU).length) [(1013,.arr 3 (l.map wU) false)]:=by
 have hll:=zA wU l;refine eM call150 λF hF=>?_
 refine yS 0 Z (λcap hx=>?_) ?_
 ·have:l=[]:=by simpa using hx
  subst this
  (repeat' (first|refine WZN ?_|((first|apply xM|apply wA)<;>intro hc)|fail))
  refine uH 2 1013 3 Z Z Z (yT ?_);exact zL [1013] Z Z Z Z
 ·repeat' (first|(refine zE ?_;first|refine vW tok Z Z ?_|(refine wL ?_;refine wG (xE tok (.inl ⟨rfl,rfl⟩) Z Z Z Z) Z ?_)|(refine xB ?_;refine uS (nw:=[1013]) (yH tok 1013 (xs:=[]) Z Z Z Z Z Z Z Z Z) Z Z Z ?_)|(refine xC ?_;refine wF tok Z Z Z Z Z Z Z (xO _ _ (λ_=>rfl)) Z Z Z zB Z ?_)|refine qJ ?_)|(first|refine xS ?_|refine xD ?_|refine vI Z ?_|refine zY Z ?_|refine zS Z ?_|refine xL Z (λhc=>?_) λhc=>?_|refine xA ?_|refine yT ?_|refine xF ?_|refine yW ?_))
  exact zL [1013] Z Z Z Z
def bT (l:List Int) (hl:l.length<=1073741824):zN 91 [zD iA l] [] (.ref 1014 0 (l.map iA).length) [(1014,.arr 1 (l.map iA) false)]:=by
 have hll:=zA iA l;refine eM call91 λF hF=>?_
 refine yS 0 Z (λcap hx=>?_) ?_
 ·have:l=[]:=by simpa using hx
  subst this
  (repeat' (first|refine WZN ?_|((first|apply xM|apply wA)<;>intro hc)|fail))
  refine uH 2 1014 1 Z Z Z (yT ?_);exact zL [1014] Z Z Z Z
 ·repeat' (first|(refine zE ?_;first|refine vW tok Z Z ?_|(refine wL ?_;refine wG (xE tok (.inl ⟨rfl,rfl⟩) Z Z Z Z) Z ?_)|(refine xB ?_;refine uS (nw:=[1014]) (yH tok 1014 (xs:=[]) Z Z Z Z Z Z Z Z Z) Z Z Z ?_)|(refine xC ?_;refine wF tok Z Z Z Z Z Z Z (xO _ _ (λ_=>rfl)) Z Z Z zB Z ?_)|refine qJ ?_)|(first|refine xS ?_|refine xD ?_|refine vI Z ?_|refine zY Z ?_|refine zS Z ?_|refine xL Z (λhc=>?_) λhc=>?_|refine xA ?_|refine yT ?_|refine xF ?_|refine yW ?_))
  exact zL [1014] Z Z Z Z
theorem bU (y:Cy) (h:CyB y):zN 116 [uC y] [] (uC y) []:=by
 have k1:=bQ y.ds (by have:=h.d;omega);have k2:=bR y.sg (by have:=h.g;omega);have k3:=bS y.sv (by have:=h.s;omega);have k4:=bT y.st (by have:=h.t;omega);have k5:=UI y.vw h.v h.vb;have hl1:=zA zI y.ds;have hl2:=zA wX y.sg;have hl3:=zA wU y.sv;have hl4:=zA iA y.st;have hd:=h.d;have hg:=h.g;have hs:=h.s;unfold uC bP;refine eM call116 λF hF=>?_
 refine zV k1 ?_;refine zO ((y.ds.map zI).length) [1011,1,2] [1,2] [1,2,12] [13,1,2,12] Z (λi T U=>⟨(13,iA i)::T,(1011,.arr 17 (kN i (y.ds.map zI)) false)::U⟩) ?_;(conv=>whnf);refine⟨by rfl,?_,?_⟩
 ·intro i hi;have hi':i<y.ds.length:=by omega
  have hy:(kN i (y.ds.map zI))[i]? =some (zI (y.ds.getD i default)):=zM zI y.ds i hi';have e:=qT zI y.ds i hi';have c2:=dW (y.ds.getD i default) (h.db _ bE);generalize (y.ds.getD i default)=t at *;generalize kN i (y.ds.map zI)=xs at *;generalize kN (i+1) (y.ds.map zI)=ys at *;subst e;refine zV c2 ?_;rfl
 ·(refine zV k2 ?_)
  refine zO ((y.sg.map wX).length) [1012,1,2,1011] [1,2,1011] [1,2,33] [34,1,2,33] Z (λi T U=>⟨(34,iA i)::T,(1012,.arr 5 (kN i (y.sg.map wX)) false)::U⟩) ?_;(conv=>whnf);refine⟨by rfl,?_,?_⟩
  ·intro i hi;have hi':i<y.sg.length:=by omega
   have hy:(kN i (y.sg.map wX))[i]? =some (wX (y.sg.getD i default)):=zM wX y.sg i hi';have e:=qT wX y.sg i hi';have c2:=zCl (y.sg.getD i default) (by have:=h.gb (y.sg.getD i default) bE;omega) (by have:=h.gb (y.sg.getD i default) bE;omega);generalize (y.sg.getD i default)=t at *;generalize kN i (y.sg.map wX)=xs at *;generalize kN (i+1) (y.sg.map wX)=ys at *;subst e;refine zV c2 ?_;rfl
  ·(refine zV k3 ?_)
   refine zO ((y.sv.map wU).length) [1013,1,2,1011,1012] [1,2,1011,1012] [1,2,54] [55,1,2,54] Z (λi T U=>⟨(55,iA i)::T,(1013,.arr 3 (kN i (y.sv.map wU)) false)::U⟩) ?_;(conv=>whnf);refine⟨by rfl,?_,?_⟩
   ·intro i hi;have hi':i<y.sv.length:=by omega
    have hy:(kN i (y.sv.map wU))[i]? =some (wU (y.sv.getD i default)):=zM wU y.sv i hi';have e:=qT wU y.sv i hi';have c2:=XW (y.sv.getD i default) ⟨by have:=h.sb (y.sv.getD i default) bE;omega⟩;generalize (y.sv.getD i default)=t at *;generalize kN i (y.sv.map wU)=xs at *;generalize kN (i+1) (y.sv.map wU)=ys at *;subst e;refine zV c2 ?_;rfl
   ·(refine yR (vH k4 k5) ?_)
    refine zK [] Z Z ?_ Z
    show AV.agg [zD wJ y.c.js,zD wK y.c.ags,iA y.c.per,iA y.c.cap,iA y.c.hold,iA y.c.lock,bA y.rf,iA y.now,.sl false ((y.ds.map zI).take (y.ds.map zI).length),.sl false ((y.sg.map wX).take (y.sg.map wX).length),.sl false ((y.sv.map wU).take (y.sv.map wU).length),.sl false ((y.st.map iA).take (y.st.map iA).length),zD vO y.vw]=_
    rw[yAf,yAf,yAf,yAf];rfl
def QS (y:Cy) (h:CyB y):zN 116 [uC y] [] (zIu y) (zIv y):=by
 have k1:=bQ y.ds (by have:=h.d;omega);have k2:=bR y.sg (by have:=h.g;omega);have k3:=bS y.sv (by have:=h.s;omega);have k4:=bT y.st (by have:=h.t;omega);have k5:=UI y.vw h.v h.vb;have hl1:=zA zI y.ds;have hl2:=zA wX y.sg;have hl3:=zA wU y.sv;have hl4:=zA iA y.st;have hd:=h.d;have hg:=h.g;have hs:=h.s;unfold uC zIu bP zIv;refine eM call116 λF hF=>?_
 refine zV k1 ?_;refine zO ((y.ds.map zI).length) [1011,1,2] [1,2] [1,2,12] [13,1,2,12] Z (λi T U=>⟨(13,iA i)::T,(1011,.arr 17 (kN i (y.ds.map zI)) false)::U⟩) ?_;(conv=>whnf);refine⟨by rfl,?_,?_⟩
 ·intro i hi;have hi':i<y.ds.length:=by omega
  have hy:(kN i (y.ds.map zI))[i]? =some (zI (y.ds.getD i default)):=zM zI y.ds i hi';have e:=qT zI y.ds i hi';have c2:=dW (y.ds.getD i default) (h.db _ bE);generalize (y.ds.getD i default)=t at *;generalize kN i (y.ds.map zI)=xs at *;generalize kN (i+1) (y.ds.map zI)=ys at *;subst e;refine zV c2 ?_;rfl
 ·(refine zV k2 ?_)
  refine zO ((y.sg.map wX).length) [1012,1,2,1011] [1,2,1011] [1,2,33] [34,1,2,33] Z (λi T U=>⟨(34,iA i)::T,(1012,.arr 5 (kN i (y.sg.map wX)) false)::U⟩) ?_;(conv=>whnf);refine⟨by rfl,?_,?_⟩
  ·intro i hi;have hi':i<y.sg.length:=by omega
   have hy:(kN i (y.sg.map wX))[i]? =some (wX (y.sg.getD i default)):=zM wX y.sg i hi';have e:=qT wX y.sg i hi';have c2:=zCl (y.sg.getD i default) (by have:=h.gb (y.sg.getD i default) bE;omega) (by have:=h.gb (y.sg.getD i default) bE;omega);generalize (y.sg.getD i default)=t at *;generalize kN i (y.sg.map wX)=xs at *;generalize kN (i+1) (y.sg.map wX)=ys at *;subst e;refine zV c2 ?_;rfl
  ·(refine zV k3 ?_)
   refine zO ((y.sv.map wU).length) [1013,1,2,1011,1012] [1,2,1011,1012] [1,2,54] [55,1,2,54] Z (λi T U=>⟨(55,iA i)::T,(1013,.arr 3 (kN i (y.sv.map wU)) false)::U⟩) ?_;(conv=>whnf);refine⟨by rfl,?_,?_⟩
   ·intro i hi;have hi':i<y.sv.length:=by omega
    have hy:(kN i (y.sv.map wU))[i]? =some (wU (y.sv.getD i default)):=zM wU y.sv i hi';have e:=qT wU y.sv i hi';have c2:=XW (y.sv.getD i default) ⟨by have:=h.sb (y.sv.getD i default) bE;omega⟩;generalize (y.sv.getD i default)=t at *;generalize kN i (y.sv.map wU)=xs at *;generalize kN (i+1) (y.sv.map wU)=ys at *;subst e;refine zV c2 ?_;rfl
   ·(refine yR (vH k4 k5) ?_)
    exact zL [1011,1012,1013,1014] Z Z Z Z
end Av
end Go.Proofs.YteajjdidebfcjaaGreat
