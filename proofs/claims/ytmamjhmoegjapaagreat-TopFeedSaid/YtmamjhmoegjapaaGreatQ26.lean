/- Part 26. -/
import Derived.Test.YtmamjhmoegjapaaGreatQ25
namespace Go.Proofs.YtmamjhmoegjapaaGreat
namespace Av
open Tryz
set_option linter.all false
set_option maxRecDepth 4000
set_option maxHeartbeats 2000000
structure Sg where
 c:Ct
 lat:Bool
def vB (s:Sg):AV:= .agg [zD vG s.c.li,iA s.c.gr,zD iA s.c.nx,iA s.c.wt,bA s.lat]
def fH (j:Jn):Sg:=⟨inF j,false⟩
def sjF (j:Jn) (s:Sg) (t k:Int):Sg:=if s.lat=true then s else⟨stF j s.c t,fbF j.cf (TE (stF j s.c t).li k)⟩
def srF (j:Jn) (s:Sg):Sg:=if s.lat=true then fH j else s
theorem HT {α:Type} (f:α->AV) (l:List α):AV.sl false ((l.map f).take (l.map f).length)=zD f l:=by rw[zXe];rfl
theorem NX (l:List Int) (hl:l.length<=1073741824):zN 107 [zD iA l] [] (zD iA l) []:=by
 have hll:=zA iA l;refine eM call107 λF hF=>?_
 refine yY 0 rfl (λcap hx=>?_) ?_
 ·have:l=[]:=by simpa using hx
  subst this;refine WW ?_;exact zK
 ·(refine WW ?_)
  refine zH [] rfl rfl (HT _ _) rfl
theorem NY (l:List Li) (hl:l.length<=1073741824):zN 155 [zD vG l] [] (zD vG l) []:=by
 have hll:=zA vG l;refine eM call155 λF hF=>?_
 refine yY 0 rfl (λcap hx=>?_) ?_
 ·have:l=[]:=by simpa using hx
  subst this;refine WW ?_;exact zK
 ·(refine WW ?_)
  refine zH [] rfl rfl (HT _ _) rfl
theorem HU (s:Sg) (h1:s.c.li.length<=1073741824) (h2:s.c.nx.length<=1073741824):zN 111 [vB s] [] (vB s) []:=by
 have c1:=NY s.c.li h1;have c2:=NX s.c.nx h2;refine eM call111 λF hF=>?_
 refine yO (wW c1 c2) ?_;exact zK
theorem zEl (j:Jn) (J:JV j):zN 91 [wP j] [] (vB (fH j)) []:=by
 have c1:=zQs j zBr;unfold fH;generalize inF j=c at *;refine eM call91 λF hF=>?_
 refine zU c1 ?_;exact zK
theorem zK1 (j:Jn) (J:JV j) (s:Sg) (C:CV j s.c) (t k:Int):zN 162 [wP j,vB s,iA t,iA k] [] (vB (sjF j s t k)) []:=by
 have hJ:=J.n;have hc:=J.c;have hn:=C.n;have hm:=C.m;have c0:=HU s zB zB;have c1:=zQq j J s.c C t;have C1:=zPd J C t;have c2:=zQu (stF j s.c t).li (by have:=C1.n;omega) k;have c3:=zQw j.cf (TE (stF j s.c t).li k) zB (by rw[zE7];have:=C1.n;omega);unfold sjF;generalize fbF j.cf (TE (stF j s.c t).li k)=f at *;generalize TE (stF j s.c t).li k=ls at *;generalize stF j s.c t=c at *;obtain⟨sc,lat⟩:=s
 cases lat with
 |true=>
  rw[zW9 rfl];refine eM call162 λF hF=>?_
  refine zU c0 ?_;exact zK
 |false=>
  rw[zW8 zXx];refine eM call162 λF hF=>?_
  refine yO (gU c1 c2 c3) ?_;exact zK
theorem zEm (j:Jn) (J:JV j) (s:Sg) (h1:s.c.li.length<=1073741824) (h2:s.c.nx.length<=1073741824):zN 63 [wP j,vB s] [] (.tup [vB (srF j s),bA s.lat]) []:=by
 have c0:=HU s h1 h2;have c1:=zEl j J;unfold srF;generalize fH j=z at *;obtain⟨sc,lat⟩:=s
 cases lat with
 |true=>
  rw[zW9 rfl];refine eM call63 λF hF=>?_
  refine zU c1 ?_;exact zK
 |false=>
  rw[zW8 zXx];refine eM call63 λF hF=>?_
  refine zU c0 ?_;exact zK
def ph0:Ph:=⟨0,0,2,3,1,1,0,0⟩
def j0:Jn:=⟨[ph0,ph0],[2,1],0⟩
theorem two {p:Nat} (h:p<j0.ph.length):p=0∨p=1:=by
 have:j0.ph.length=2:=rfl;omega
theorem zT1 {j:Jn} (J:JV j) {s:Sg} (C:CV j s.c) (t k:Int):CV j (sjF j s t k).c:=by
 unfold sjF;split
 ·exact C
 ·exact zPd J C t
theorem zWa {j:Jn} (J:JV j) {s:Sg} (C:CV j s.c):CV j (srF j s).c:=by
 unfold srF;split
 ·exact zE4 J
 ·exact C
def ph1:Ph:=⟨0,0,2,3,1,0,0,0⟩
def j1:Jn:=⟨[ph1,ph1],[2,1],0⟩
theorem WG {p q:Prop} (k:q) (h:bS q->p:=by(intro hq;((repeat' (first|(refine zE ?_;first|refine vK tok rfl rfl ?_|(refine wB ?_;first|((first|refine XI zc1 ?_|refine ZE ?_);first|refine xK (zI (zc1) rfl rfl rfl rfl rfl) rfl ?_|refine uG (zI (zc1) rfl rfl rfl rfl rfl) rfl rfl rfl ?_|refine aD (zI (zc1) rfl rfl rfl rfl rfl) rfl rfl rfl ?_|refine xK (wF (zc1) rfl rfl rfl rfl rfl) rfl ?_|refine uG (wF (zc1) rfl rfl rfl rfl rfl) rfl rfl rfl ?_)|((first|refine XI zc2 ?_|refine ZE ?_);first|refine xK (zI (zc2) rfl rfl rfl rfl rfl) rfl ?_|refine uG (zI (zc2) rfl rfl rfl rfl rfl) rfl rfl rfl ?_|refine aD (zI (zc2) rfl rfl rfl rfl rfl) rfl rfl rfl ?_|refine xK (wF (zc2) rfl rfl rfl rfl rfl) rfl ?_|refine uG (wF (zc2) rfl rfl rfl rfl rfl) rfl rfl rfl ?_)|((first|refine XI zc3 ?_|refine ZE ?_);first|refine xK (zI (zc3) rfl rfl rfl rfl rfl) rfl ?_|refine uG (zI (zc3) rfl rfl rfl rfl rfl) rfl rfl rfl ?_|refine aD (zI (zc3) rfl rfl rfl rfl rfl) rfl rfl rfl ?_|refine xK (wF (zc3) rfl rfl rfl rfl rfl) rfl ?_|refine uG (wF (zc3) rfl rfl rfl rfl rfl) rfl rfl rfl ?_)|((first|refine XI zc4 ?_|refine ZE ?_);first|refine xK (zI (zc4) rfl rfl rfl rfl rfl) rfl ?_|refine uG (zI (zc4) rfl rfl rfl rfl rfl) rfl rfl rfl ?_|refine aD (zI (zc4) rfl rfl rfl rfl rfl) rfl rfl rfl ?_|refine xK (wF (zc4) rfl rfl rfl rfl rfl) rfl ?_|refine uG (wF (zc4) rfl rfl rfl rfl rfl) rfl rfl rfl ?_)|((first|refine XI zc5 ?_|refine ZE ?_);first|refine xK (zI (zc5) rfl rfl rfl rfl rfl) rfl ?_|refine uG (zI (zc5) rfl rfl rfl rfl rfl) rfl rfl rfl ?_|refine aD (zI (zc5) rfl rfl rfl rfl rfl) rfl rfl rfl ?_|refine xK (wF (zc5) rfl rfl rfl rfl rfl) rfl ?_|refine uG (wF (zc5) rfl rfl rfl rfl rfl) rfl rfl rfl ?_)|((first|refine XI zc6 ?_|refine ZE ?_);first|refine xK (zI (zc6) rfl rfl rfl rfl rfl) rfl ?_|refine uG (zI (zc6) rfl rfl rfl rfl rfl) rfl rfl rfl ?_|refine aD (zI (zc6) rfl rfl rfl rfl rfl) rfl rfl rfl ?_|refine xK (wF (zc6) rfl rfl rfl rfl rfl) rfl ?_|refine uG (wF (zc6) rfl rfl rfl rfl rfl) rfl rfl rfl ?_))|(refine XN ?_;first|refine zS4 rfl rfl ?_|refine zIy rfl rfl rfl rfl ?_|refine cP rfl rfl (λhc=>?_) (λhc=>?_))|(refine wZ ?_;first|refine xK (UT rfl rfl rfl (by unfold JC;omega)) rfl ?_|refine xK (UU rfl rfl rfl (by unfold JC;omega)) rfl ?_|refine xK (JD rfl rfl rfl) rfl ?_|refine xK (JR rfl rfl ⟨zB,zB⟩) rfl ?_|refine xK (JT rfl rfl ⟨zB,zB⟩) rfl ?_|refine xK (JU rfl rfl ⟨zB,zB⟩) rfl ?_|refine xK (JW rfl rfl (by assumption) zB) rfl ?_|refine xK (JX rfl rfl zB) rfl ?_|refine xK (JZ rfl rfl) rfl ?_|refine xK (jH (.inl ⟨rfl,rfl⟩) rfl rfl zB) rfl ?_|refine xK (jH (.inr ⟨rfl,rfl⟩) rfl rfl zB) rfl ?_|refine xK (fZ tok rfl rfl rfl rfl (.inl ⟨rfl,rfl⟩)) rfl ?_|refine xK (fZ tok rfl rfl rfl rfl (.inr ⟨rfl,rfl⟩)) rfl ?_|refine xK (XQ tok (.inl ⟨rfl,rfl⟩) rfl rfl rfl) rfl ?_|refine xK (yW tok (.inl ⟨rfl,rfl⟩) rfl rfl rfl rfl) rfl ?_)|(refine AK ?_;first|refine xK (gK tok rfl rfl rfl rfl rfl zB cB rfl rfl) rfl ?_|refine xK (gF tok rfl rfl rfl rfl rfl rfl zB zB rfl) rfl ?_|refine xK (jW tok rfl rfl rfl rfl rfl rfl zB zB) rfl ?_)|(refine JJ ?_;first|refine xK (bG tok rfl rfl rfl cB rfl) rfl ?_|refine xK (bF tok rfl rfl rfl cB rfl) rfl ?_|refine xK (dZ tok rfl rfl rfl rfl cB rfl) rfl ?_|refine xK (dY tok rfl rfl rfl rfl cB rfl) rfl ?_)|(refine AL ?_;first|refine xK (jV tok rfl rfl rfl rfl rfl rfl rfl rfl) rfl ?_|refine xK (gJ tok rfl cB rfl rfl rfl rfl rfl rfl) rfl ?_)|(refine yV ?_;first|refine qB tok rfl rfl rfl rfl rfl rfl rfl rfl rfl rfl rfl (by first|(intro y hy;cases hy;rfl)|exact xH _ _ (λ_=>rfl)) (by first|omega|(simp;done)|(simp;omega)) rfl ?_)|(refine PA ?_;first|refine xK (IG rfl ⟨zB,zB⟩) rfl ?_)|(refine JE ?_;first|refine xK (aX tok rfl rfl rfl rfl ⟨zB,zB⟩) rfl ?_|refine xK (VO tok rfl rfl rfl rfl) rfl ?_)|refine ZW tok rfl rfl rfl rfl ?_|(refine bI ?_;first|refine zAf tok rfl rfl rfl rfl rfl rfl ?_|refine bH tok rfl rfl rfl ?_)|refine qC ?_|refine UX VL ?_)|(first|refine xS ?_|refine yZ ?_|refine vA rfl ?_|refine zX rfl ?_|refine zQ rfl ?_|refine xJ rfl (λhc=>?_) (λhc=>?_)|refine yX ?_|refine yU ?_|refine xA ?_|refine yS ?_))));exact hq.h)):p:=h ⟨k⟩
theorem WO {p q:Prop} (k:q) (h:bS q->p:=by(intro hq;(repeat' (first|(refine zE ?_;(first|refine vK tok rfl rfl ?_|(refine XN ?_;first|refine zS4 rfl rfl ?_|refine zIy rfl rfl rfl rfl ?_|refine cP rfl rfl (λhc=>?_) (λhc=>?_))|(refine wZ ?_;first|refine xK (UT rfl rfl rfl (by unfold JC;omega)) rfl ?_|refine xK (UU rfl rfl rfl (by unfold JC;omega)) rfl ?_|refine xK (JD rfl rfl rfl) rfl ?_|refine xK (JR rfl rfl ⟨zB,zB⟩) rfl ?_|refine xK (JT rfl rfl ⟨zB,zB⟩) rfl ?_|refine xK (JU rfl rfl ⟨zB,zB⟩) rfl ?_|refine xK (JW rfl rfl (by assumption) zB) rfl ?_|refine xK (JX rfl rfl zB) rfl ?_|refine xK (JZ rfl rfl) rfl ?_|refine xK (jH (.inl ⟨rfl,rfl⟩) rfl rfl zB) rfl ?_|refine xK (jH (.inr ⟨rfl,rfl⟩) rfl rfl zB) rfl ?_|refine xK (fZ tok rfl rfl rfl rfl (.inl ⟨rfl,rfl⟩)) rfl ?_|refine xK (fZ tok rfl rfl rfl rfl (.inr ⟨rfl,rfl⟩)) rfl ?_|refine xK (XQ tok (.inl ⟨rfl,rfl⟩) rfl rfl rfl) rfl ?_|refine xK (yW tok (.inl ⟨rfl,rfl⟩) rfl rfl rfl rfl) rfl ?_)|(refine AK ?_;first|refine xK (gK tok rfl rfl rfl rfl rfl zB cB rfl rfl) rfl ?_|refine xK (gF tok rfl rfl rfl rfl rfl rfl zB zB rfl) rfl ?_|refine xK (jW tok rfl rfl rfl rfl rfl rfl zB zB) rfl ?_)|(refine JJ ?_;first|refine xK (bG tok rfl rfl rfl cB rfl) rfl ?_|refine xK (bF tok rfl rfl rfl cB rfl) rfl ?_|refine xK (dZ tok rfl rfl rfl rfl cB rfl) rfl ?_|refine xK (dY tok rfl rfl rfl rfl cB rfl) rfl ?_)|(refine AL ?_;first|refine xK (jV tok rfl rfl rfl rfl rfl rfl rfl rfl) rfl ?_|refine xK (gJ tok rfl cB rfl rfl rfl rfl rfl rfl) rfl ?_)|(refine yV ?_;first|refine qB tok rfl rfl rfl rfl rfl rfl rfl rfl rfl rfl rfl (by first|(intro y hy;cases hy;rfl)|exact xH _ _ (λ_=>rfl)) (by first|omega|(simp;done)|(simp;omega)) rfl ?_)|(refine PA ?_;first|refine xK (IG rfl ⟨zB,zB⟩) rfl ?_)|(refine JE ?_;first|refine xK (aX tok rfl rfl rfl rfl ⟨zB,zB⟩) rfl ?_|refine xK (VO tok rfl rfl rfl rfl) rfl ?_)|refine ZW tok rfl rfl rfl rfl ?_|(refine bI ?_;first|refine zAf tok rfl rfl rfl rfl rfl rfl ?_|refine bH tok rfl rfl rfl ?_)|refine qC ?_|refine UX VL ?_))|(first|refine xS ?_|refine yZ ?_|refine vA rfl ?_|refine zX rfl ?_|refine zQ rfl ?_|refine xJ rfl (λhc=>?_) (λhc=>?_)|refine yX ?_|refine yU ?_|refine xA ?_|refine yS ?_)));exact hq.h)):p:=h ⟨k⟩
def e1 (d:Dk) (now:Int):Int:=[-1,0,max (-1) (now-nx d 6)].getD (nx (ad d) 3).toNat 0
def d0 (xs:List Int) (hl:xs.length<=9223372036854775807):Dk:=⟨xs,0,zXp _,hl⟩
def YS (es:List Int) (ph:Int):Int:=if ph<0∨(es.length:Int)<=ph then -1 else es.getD ph.toNat 0
def YJ (k:Int):Bool:=k==2||k==3
def XZ (es:List Int) (ph si:Int):Int:=max si (YS es ph)
theorem ST (s:Sv) (c:Cl):zN 242 [wX s,dL c] [] (iA (YS s.en c.ph)) []:=by
 have hl:(s.en.map iA).length=s.en.length:=by simp
 by_cases h1:c.ph<0
 ·rw[show YS s.en c.ph= -1 by simp[YS,h1]];refine eM call242 λF hF=>?_
  refine WO ?_;exact zK
 ·by_cases h2:(s.en.length:Int)<=c.ph
  ·rw[show YS s.en c.ph= -1 by simp[YS,h2]];refine eM call242 λF hF=>?_
   refine WO ?_;exact zK
  ·rw[show YS s.en c.ph=s.en.getD c.ph.toNat 0 by unfold YS;rw[zW8 zB]];have hy:=yM iA s.en c.ph zB zB;refine eM call242 λF hF=>?_
   refine WO ?_;exact zK
theorem kD (c:Cl):zN 222 [dL c] [] (bA (YJ c.k)) []:=by
 unfold YJ;by_cases h:c.k=2
 ·rw[show(c.k==2||c.k==3)=true by simp[h]];refine eM call222 λF hF=>?_
  refine WO ?_;exact zK
 ·rw[show(c.k==2||c.k==3)=(c.k==3) by simp[h]];refine eM call222 λF hF=>?_
  refine WO ?_;exact zK
theorem WA (s:Sv) (c:Cl):zN 244 [wX s,dL c] [] (iA (XZ s.en c.ph c.si)) []:=by
 refine eM call244 λF hF=>?_
 (repeat' (first|refine ZV ?_|refine xQ (λhc=>?_) (λhc=>?_)|(refine zE ?_;refine wB ?_;refine xK (zI (ST ⟨_,_,_⟩ ⟨_,_,_,_,_⟩) rfl rfl rfl rfl rfl) rfl ?_)|fail))
 exact zK
theorem CJ (n d:Int) (hd:1<=d) (hm:n.tmod d=0):n.tdiv d=n/d:=by
 have h1:=Int.tmod_add_mul_tdiv n d;rw[hm]at h1;have h2:n=d*n.tdiv d:=by omega
 exact(Int.ediv_eq_of_eq_mul_right zB h2).symm
theorem LI (n d:Int) (hn:n<0) (hd:1<=d) (hm:n.tmod d≠0):n.tdiv d-1=n/d:=by
 have h1:=Int.tmod_add_mul_tdiv n d;have h0:n.tmod d= -((-n).tmod d):=by rw[Int.neg_tmod];omega
 have h3: -d<n.tmod d:=by
  have:=yCr (-n) (show 0<d by omega);omega
 have h4:n.tmod d<=0:=by
  have:=yC2 d (show 0<= -n by omega);omega
 clear h0;have h5:n=d*(n.tdiv d-1)+(n.tmod d+d):=by rw[Int.mul_sub];omega
 generalize n.tdiv d=q at *;generalize n.tmod d=r at*
 have h6:n/d=q-1:=by
  rw[h5,Int.mul_add_ediv_left _ _ zB,Int.ediv_eq_zero_of_lt zB zB];omega
 omega
theorem zK2 (n d:Int) (hd:1<=d) (h1: -4611686018427387904<=n) (h2:n<=4611686018427387904): -4611686018427387904<=n.tdiv d/\n.tdiv d<=4611686018427387904:=by
 by_cases h:0<=n
 ·have:=IntWalk.tdiv_le n d h hd;rw[zY0 h];omega
 ·have h3:n.tdiv d= -((-n).tdiv d):=by rw[Int.neg_tdiv];omega
  have:=IntWalk.tdiv_le (-n) d zB hd;rw[h3,zY0 zB];omega
theorem YT (n d:Int) (hd:1<=d) (h1: -4611686018427387904<=n) (h2:n<=4611686018427387904):zN 273 [iA n,iA d] [] (iA (n/d)) []:=by
 have hb:=zK2 n d hd h1 h2;have hq:YI .i64 (n.tdiv d):=⟨zB,zB⟩;by_cases hm:n.tmod d=0
 ·rw[<-CJ n d hd hm];refine eM call273 λF hF=>?_
  refine WO ?_;exact zK
 ·by_cases h0:n<0
  ·rw[<-LI n d h0 hd hm];refine eM call273 λF hF=>?_
   refine WO ?_;exact zK
  ·rw[<-zY0 (show 0<=n by omega)];refine eM call273 λF hF=>?_
   refine WO ?_;exact zK
def zK3 (per cap:Int) (es:List Int) (now ph k si:Int):Int:=min cap (k+(now-XZ es ph si)/per)
structure COk (per now:Int) (es:List Int) (c:Cl):Prop where
 p:1<=per
 k0: -1000<=c.k
 k1:c.k<=1000
 n0: -1099511627776<=now
 n1:now<=1099511627776
 s0: -1099511627776<=XZ es c.ph c.si
 s1:XZ es c.ph c.si<=1099511627776
 e0: -1099511627776<=YS es c.ph
 e1:YS es c.ph<=1099511627776
theorem zQh (n d:Int) (hd:1<=d) (h1: -4611686018427387904<=n) (h2:n<=4611686018427387904): -4611686018427387904<=n/d/\n/d<=4611686018427387904:=by
 constructor
 ·refine(Int.le_ediv_iff_mul_le zB).2 ?_;have:(4611686018427387904:Int)*1<=4611686018427387904*d:=Int.mul_le_mul_of_nonneg_left hd zB;omega
 ·have:n/d<=4611686018427387904/1:=by
   rw[Int.ediv_one];refine Int.le_of_lt_add_one ((Int.ediv_lt_iff_lt_mul zB).2 ?_);have:(4611686018427387904+1:Int)*1<=(4611686018427387904+1)*d:=Int.mul_le_mul_of_nonneg_left hd zB;omega
  omega
theorem zAn (g:Cf) (s:Sv) (c:Cl) (now:Int) (ok:COk g.per now s.en c):zN 243 [wT g,wX s,dL c,iA now] [] (iA (zK3 g.per g.cap s.en now c.ph c.k c.si)) []:=by
 obtain⟨p,k0,k1,n0,n1,s0,s1,_,_⟩:=ok;have hq:=zQh (now-XZ s.en c.ph c.si) g.per p zB zB;refine eM call243 λF hF=>?_
 (repeat' (first|refine ZV ?_|refine xQ (λhc=>?_) (λhc=>?_)|(refine zE ?_;refine wB ?_;(first|(refine uI 244 ?_;first|refine xK (zI (WA s c) rfl rfl rfl rfl rfl) rfl ?_|refine uG (zI (WA s c) rfl rfl rfl rfl rfl) rfl rfl rfl ?_|refine aD (zI (WA s c) rfl rfl rfl rfl rfl) rfl rfl rfl ?_)|(refine uI 273 ?_;first|refine xK (zI (YT _ _ zB zB zB) rfl rfl rfl rfl rfl) rfl ?_|refine uG (zI (YT _ _ zB zB zB) rfl rfl rfl rfl rfl) rfl rfl rfl ?_|refine aD (zI (YT _ _ zB zB zB) rfl rfl rfl rfl rfl) rfl rfl rfl ?_)))|fail))
 exact zK
def zEn (lock:Int) (es:List Int) (now ph k:Int):Bool:=!YJ k&&(YS es ph != -1&&decide (now-YS es ph<=lock))
theorem zEo (g:Cf) (s:Sv) (c:Cl) (now:Int) (ok:COk g.per now s.en c):zN 224 [wT g,wX s,dL c,iA now] [] (bA (zEn g.lock s.en now c.ph c.k)) []:=by
 obtain⟨p,k0,k1,n0,n1,s0,s1,e0,e1⟩:=ok;unfold zEn;refine eM call224 λF hF=>?_
 (repeat' (first|refine ZV ?_|refine xQ (λhc=>?_) (λhc=>?_)|(refine zE ?_;refine wB ?_;(first|(refine uI 242 ?_;first|refine xK (zI (ST _ _) rfl rfl rfl rfl rfl) rfl ?_|refine uG (zI (ST _ _) rfl rfl rfl rfl rfl) rfl rfl rfl ?_|refine aD (zI (ST _ _) rfl rfl rfl rfl rfl) rfl rfl rfl ?_)|(refine uI 222 ?_;first|refine xK (zI (kD _) rfl rfl rfl rfl rfl) rfl ?_|refine uG (zI (kD _) rfl rfl rfl rfl rfl) rfl rfl rfl ?_|refine aD (zI (kD _) rfl rfl rfl rfl rfl) rfl rfl rfl ?_)))|fail))
 all_goals refine zH [] rfl rfl (zX7 bA ?_) rfl
 all_goals simp_all [qZ]
def TR (per cap:Int) (es:List Int) (now:Int) (x:Cl):Int:=if YJ x.k then x.k else zK3 per cap es now x.ph x.k x.si
def dN (per cap:Int) (es:List Int) (now:Int) (x y:Cl):Bool:=
 if YJ x.k≠YJ y.k then YJ x.k
 else if TR per cap es now x≠TR per cap es now y then decide (TR per cap es now y<TR per cap es now x)
 else if XZ es x.ph x.si≠XZ es y.ph y.si then decide (XZ es x.ph x.si<XZ es y.ph y.si)
 else if x.ag≠y.ag then decide (x.ag<y.ag)else decide (x.id<y.id)
theorem zQi (g:Cf) (s:Sv) (x y:Cl) (now:Int) (okx:COk g.per now s.en x) (oky:COk g.per now s.en y):zN 225 [wT g,wX s,iA now,dL x,dL y] [] (bA (dN g.per g.cap s.en now x y)) []:=by
 have ex:=kD x;have ey:=kD y;have lx:=zAn g s x now okx;have ly:=zAn g s y now oky;have sx:=WA s x;have sy:=WA s y
 cases hx:YJ x.k<;>cases hy:YJ y.k<;>rw[hx]at ex<;>rw[hy]at ey
 ·by_cases h1:zK3 g.per g.cap s.en now x.ph x.k x.si=zK3 g.per g.cap s.en now y.ph y.k y.si
  ·by_cases h2:XZ s.en x.ph x.si=XZ s.en y.ph y.si
   ·by_cases h3:x.ag=y.ag
    ·(refine eM call225 λF hF=>?_)
     (have zc1:=ex;have zc2:=ey;have zc3:=lx;have zc4:=ly;have zc5:=sx;have zc6:=sy;refine WG ?_;clear zc1 zc2 zc3 zc4 zc5 zc6)
     refine zH [] rfl rfl (zX7 bA ?_) rfl;simp[dN,TR,hx,hy,h1,h2,h3,qZ]
    ·(refine eM call225 λF hF=>?_)
     (have zc1:=ex;have zc2:=ey;have zc3:=lx;have zc4:=ly;have zc5:=sx;have zc6:=sy;refine WG ?_;clear zc1 zc2 zc3 zc4 zc5 zc6)
     refine zH [] rfl rfl (zX7 bA ?_) rfl;simp[dN,TR,hx,hy,h1,h2,h3,qZ]
   ·(refine eM call225 λF hF=>?_)
    (have zc1:=ex;have zc2:=ey;have zc3:=lx;have zc4:=ly;have zc5:=sx;have zc6:=sy;refine WG ?_;clear zc1 zc2 zc3 zc4 zc5 zc6)
    refine zH [] rfl rfl (zX7 bA ?_) rfl;simp[dN,TR,hx,hy,h1,h2,qZ]
  ·(refine eM call225 λF hF=>?_)
   (have zc1:=ex;have zc2:=ey;have zc3:=lx;have zc4:=ly;have zc5:=sx;have zc6:=sy;refine WG ?_;clear zc1 zc2 zc3 zc4 zc5 zc6)
   refine zH [] rfl rfl (zX7 bA ?_) rfl;simp[dN,TR,hx,hy,h1,qZ]
 ·(refine eM call225 λF hF=>?_)
  (have zc1:=ex;have zc2:=ey;have zc3:=lx;have zc4:=ly;have zc5:=sx;have zc6:=sy;refine WG ?_;clear zc1 zc2 zc3 zc4 zc5 zc6)
  refine zH [] rfl rfl (zX7 bA ?_) rfl;simp[dN,hx,hy]
 ·(refine eM call225 λF hF=>?_)
  (have zc1:=ex;have zc2:=ey;have zc3:=lx;have zc4:=ly;have zc5:=sx;have zc6:=sy;refine WG ?_;clear zc1 zc2 zc3 zc4 zc5 zc6)
  refine zH [] rfl rfl (zX7 bA ?_) rfl;simp[dN,hx,hy]
 ·by_cases h1:x.k=y.k
  ·by_cases h2:XZ s.en x.ph x.si=XZ s.en y.ph y.si
   ·by_cases h3:x.ag=y.ag
    ·(refine eM call225 λF hF=>?_)
     (have zc1:=ex;have zc2:=ey;have zc3:=lx;have zc4:=ly;have zc5:=sx;have zc6:=sy;refine WG ?_;clear zc1 zc2 zc3 zc4 zc5 zc6)
     refine zH [] rfl rfl (zX7 bA ?_) rfl;simp[dN,TR,hx,hy,h1,h2,h3,qZ]
    ·(refine eM call225 λF hF=>?_)
     (have zc1:=ex;have zc2:=ey;have zc3:=lx;have zc4:=ly;have zc5:=sx;have zc6:=sy;refine WG ?_;clear zc1 zc2 zc3 zc4 zc5 zc6)
     refine zH [] rfl rfl (zX7 bA ?_) rfl;simp[dN,TR,hx,hy,h1,h2,h3,qZ]
   ·(refine eM call225 λF hF=>?_)
    (have zc1:=ex;have zc2:=ey;have zc3:=lx;have zc4:=ly;have zc5:=sx;have zc6:=sy;refine WG ?_;clear zc1 zc2 zc3 zc4 zc5 zc6)
    refine zH [] rfl rfl (zX7 bA ?_) rfl;simp[dN,TR,hx,hy,h1,h2,qZ]
  ·(refine eM call225 λF hF=>?_)
   (have zc1:=ex;have zc2:=ey;have zc3:=lx;have zc4:=ly;have zc5:=sx;have zc6:=sy;refine WG ?_;clear zc1 zc2 zc3 zc4 zc5 zc6)
   refine zH [] rfl rfl (zX7 bA ?_) rfl;simp[dN,TR,hx,hy,h1,qZ]
def kE (g:Cf) (s:Sv) (now:Int) (xs:List Cl):Nat->Int
 |0=> -1
 |i+1=>if zEn g.lock s.en now (xs.getD i default).ph (xs.getD i default).k then kE g s now xs i
  else if kE g s now xs i<0 then i
  else if dN g.per g.cap s.en now (xs.getD i default) (xs.getD (kE g s now xs i).toNat default)then i else kE g s now xs i
theorem WB (g:Cf) (s:Sv) (now:Int) (xs:List Cl):∀i,-1<=kE g s now xs i/\kE g s now xs i<i∨kE g s now xs i= -1
 |0=> .inr rfl
 | i+1=>by
  have:=WB g s now xs i;unfold kE;split
  ·omega
  ·split
   ·omega
   ·split<;>omega
theorem CK (g:Cf) (s:Sv) (now:Int) (xs:List Cl) (i:Nat):kE g s now xs (i+1)=if zEn g.lock s.en now (xs.getD i default).ph (xs.getD i default).k=true then kE g s now xs i
 else if kE g s now xs i<0 then(i:Int)
 else if dN g.per g.cap s.en now (xs.getD i default) (xs.getD (kE g s now xs i).toNat default)=true then(i:Int)else kE g s now xs i:=rfl
theorem zQj (g:Cf) (s:Sv) (now:Int) (xs:List Cl) (hlen:xs.length<=1099511627776) (ok:∀i,i<xs.length->COk g.per now s.en (xs.getD i default)):zN 196 [wT g,wX s,iA now,zD dL xs] [] (iA (kE g s now xs xs.length)) []:=by
 have hl:(xs.map dL).length=xs.length:=by simp
 refine eM call196 λF hF=>?_
 refine WO ?_
 refine wV (λn st=>∃i:Nat,n+i=xs.length/\st=⟨[(2,iA now),(3,zD dL xs),(4,.ptr 4 0 0),(5,.ptr 5 0 0),(9,iA (kE g s now xs i)),(12,zD dL xs),(13,iA xs.length),(14,iA i)],[(4,.box [zD wP g.js,zD vH g.ags,iA g.per,iA g.cap,iA g.hold,iA g.lock]),(5,.box [iA s.ph,iA s.gr,zD iA s.en])]⟩)
  xs.length [4,5] [2,3,4,5,9,12,13,14] rfl ⟨0,rfl,by rw[<-hl];rfl⟩ ?_
 rintro n st ⟨i,hi,rfl⟩;by_cases hlt:i<xs.length
 ·have hy:=yM dL xs i zB zB;have ok1:=ok i hlt;have hb:=WB g s now xs i;have hn:=CK g s now xs i;have lk:=zEo g s (xs.getD i default) now ok1;rw[show((i:Int)).toNat=i from rfl]at hy
  cases hL:zEn g.lock s.en now (xs.getD i default).ph (xs.getD i default).k<;>rw[hL]at lk hn
  ·rw[zW8 zS]at hn;by_cases h0:kE g s now xs i<0
   ·rw[zW9 h0]at hn
    (have zc1:=lk;refine WG ?_;clear zc1)
    exact⟨n-1,zB,i+1,zB,by rw[hn];rfl⟩
   ·rw[zW8 h0]at hn;have hy2:=yM dL xs (kE g s now xs i) zB zB;have ls:=zQi g s (xs.getD i default) (xs.getD (kE g s now xs i).toNat default) now ok1 (ok _ zB)
    cases hS:dN g.per g.cap s.en now (xs.getD i default) (xs.getD (kE g s now xs i).toNat default)<;>rw[hS]at ls hn
    ·rw[zW8 zS]at hn
     (have zc1:=lk;have zc2:=ls;refine WG ?_;clear zc1 zc2)
     exact⟨n-1,zB,i+1,zB,by rw[hn];rfl⟩
    ·rw[zW9 rfl]at hn
     (have zc1:=lk;have zc2:=ls;refine WG ?_;clear zc1 zc2)
     exact⟨n-1,zB,i+1,zB,by rw[hn];rfl⟩
  ·rw[zW9 rfl]at hn
   (have zc1:=lk;refine WG ?_;clear zc1)
   exact⟨n-1,zB,i+1,zB,by rw[hn];rfl⟩
 ·obtain rfl:i=xs.length:=by omega
  refine WO ?_;exact zK
theorem ZJ {α:Type} (P:α->Prop) (d:α):∀(l:List α) (i:Nat),(∀x∈l,P x)->i<l.length->P (l.getD i d)
 |l,i,h,hi=>by simp only[zXh,zXr hi,zZg];exact h _ (zZy hi)
theorem zK4 (es:List Int) (now ph:Int) (h:0<=now) (he:∀e∈es,-1<=e/\e<=now): -1<=YS es ph/\YS es ph<=now:=by
 unfold YS;split
 ·omega
 ·exact ZJ (λe=> -1<=e/\e<=now) 0 es ph.toNat he zB
structure ClB (ph now:Int) (c:Cl):Prop where
 k0:0<=c.k
 k1:c.k<=3
 s0:0<=c.si
 s1:c.si<=now
 a0:0<=c.ag
 a1:c.ag<=2
 i0:0<=c.id
 i1:c.id<=3
 p0:0<=c.ph
 p1:c.ph<ph
theorem zEp {α:Type} (f:α->AV) (l:List α):AV.sl false ((l.map f).take (l.map f).length)=zD f l:=by rw[zXe];rfl
theorem CM (l:List Int) (hl:l.length<=1073741824):zN 107 [zD iA l] [] (.ref 1001 0 (l.map iA).length) [(1001,.arr 1 (l.map iA) false)]:=by
 have hll:=zA iA l;refine eM call107 λF hF=>?_
 refine yY 0 rfl (λcap hx=>?_) ?_
 ·have:l=[]:=by simpa using hx
  subst this
  (repeat' (first|refine WZN ?_|refine xQ (λhc=>?_) (λhc=>?_)|refine wD (λhc=>?_)|fail))
  refine uF 2 1001 1 rfl rfl rfl (yU ?_);exact zL [1001] rfl rfl rfl rfl
 ·repeat' (first|(refine zE ?_;first|refine vK tok rfl rfl ?_|(refine wZ ?_;refine xK (yW tok (.inl ⟨rfl,rfl⟩) rfl rfl rfl rfl) rfl ?_)|(refine yT ?_;refine uG (nw:=[1001]) (yJ tok 1001 (xs:=[]) rfl rfl rfl rfl rfl rfl rfl rfl rfl) rfl rfl rfl ?_)|(refine yV ?_;refine wO tok rfl rfl rfl rfl rfl rfl rfl (xH _ _ (λ_=>rfl)) rfl rfl rfl zB rfl ?_)|refine qC ?_)|(first|refine xS ?_|refine yZ ?_|refine vA rfl ?_|refine zX rfl ?_|refine zQ rfl ?_|refine xJ rfl (λhc=>?_) (λhc=>?_)|refine yX ?_|refine yU ?_|refine xA ?_|refine yS ?_))
  exact zL [1001] rfl rfl rfl rfl
theorem zCl (l:List Int) (hl:l.length<=1073741824):zN 107 [zD iA l] [] (zD iA l) []:=by
 have hll:=zA iA l;refine eM call107 λF hF=>?_
 refine yY 0 rfl (λcap hx=>?_) ?_
 ·have:l=[]:=by simpa using hx
  subst this;refine WW ?_;exact zK
 ·(refine WW ?_)
  refine zH [] rfl rfl (zEp _ _) rfl
structure SvB (s:Sv):Prop where
 n:s.en.length<=100000
theorem zCm (s:Sv) (h:SvB s):zN 106 [wX s] [] (.agg [iA s.ph,iA s.gr,.ref 1001 0 (s.en.map iA).length]) [(1001,.arr 1 (s.en.map iA) false)]:=by
 have c:=CM s.en (by have:=h.n;omega);refine eM call106 λF hF=>?_
 refine zU c ?_;exact zL [1001] rfl rfl rfl rfl
theorem WC (s:Sv) (h:SvB s):zN 106 [wX s] [] (wX s) []:=by
 have c:=zCl s.en (by have:=h.n;omega);refine eM call106 λF hF=>?_
 refine zU c ?_;exact zK
def dI (s:Sv) (green:Bool):Sv:=if green=true/\s.ph≠ -1 then⟨s.ph,min s.gr 59+1,s.en⟩else s
theorem zK5 (s:Sv) (h:SvB s) (b:Bool) (hg: -1000000<=s.gr):zN 163 [wX s,bA b] [] (wX (dI s b)) []:=by
 have c:=WC s h;by_cases h1:b=true
 ·subst h1;by_cases h2:s.ph= -1
  ·rw[show dI s true=s by simp[dI,h2]];refine eM call163 λF hF=>?_
   refine zU c ?_;exact zK
  ·rw[show dI s true=⟨s.ph,min s.gr 59+1,s.en⟩ by simp[dI,h2]];refine eM call163 λF hF=>?_
   refine zU c ?_;exact zK
 ·obtain rfl:b=false:=by simpa using h1
  rw[show dI s false=s by simp[dI]];refine eM call163 λF hF=>?_
  refine zU c ?_;exact zK
def gZ (s:Sv) (now:Int):Sv:=⟨-1,0,if 0<s.gr/\0<=s.ph/\s.ph<s.en.length then s.en.set s.ph.toNat now else s.en⟩
theorem zEq {α:Type} (f:α->AV) (l:List α) (i:Nat) (x:α) (n:Nat) (hn:n=l.length):AV.sl false (((l.map f).set i (f x)).take n)=zD f (l.set i x):=by
 rw[<-zZh,zXk wQ];rfl
theorem zEr (s:Sv) (h:SvB s) (now:Int):zN 160 [wX s,iA now] [] (wX (gZ s now)) []:=by
 have c:=zCm s h;have hl:=zA iA s.en;by_cases h1:0<s.gr/\0<=s.ph/\s.ph<s.en.length
 ·obtain⟨h2,h3,h4⟩:=h1;have hy:=yM iA s.en s.ph h3 h4;rw[show gZ s now=⟨-1,0,s.en.set s.ph.toNat now⟩ by simp[gZ,h2,h3,h4]];refine eM call160 λF hF=>?_
  refine zU c ?_;refine zH [] rfl rfl (zX7 (λx=>AV.agg [iA (-1),iA 0,x]) (zEq iA s.en s.ph.toNat now _ hl)) rfl
 ·rw[show gZ s now=⟨-1,0,s.en⟩ by unfold gZ;rw[zW8 h1]];refine eM call160 λF hF=>?_
  (have zc1:=c;(repeat' (first|refine qA ?_|refine xQ (λhc=>?_) (λhc=>?_)|refine wD (λhc=>?_)|(refine zE ?_;first|refine SM ?_)|fail))<;>clear zc1)
  all_goals (try omega)
  all_goals refine zH [] rfl rfl (zX7 (λx=>AV.agg [iA (-1),iA 0,x]) (zEp iA s.en)) rfl
def zK6 (n:Nat):Sv:=⟨-1,0,List.replicate n (-1)⟩
theorem zK7 (n i:Nat) (h:i<n):((List.replicate i (-1:Int)++List.replicate (n-i) 0).map iA).set i (iA (-1))=(List.replicate (i+1) (-1:Int)++List.replicate (n-(i+1)) 0).map iA:=by
 rw[<-zZh,show n-i=(n-(i+1))+1 by omega,yAu,yAb _ _ zS,zYz,zZo,yBk,yCi,zXy];rfl
theorem zQk (n:Nat) (h:n<=100000):zN 92 [iA n] [] (wX (zK6 n)) []:=by
 by_cases h0:n=0
 ·subst h0;refine eM call92 λF hF=>?_
  refine WW ?_;refine zP (0) [2,3] [2,3] [2,3,17] [18,2,3,17] rfl (λi T U=>⟨(18,iA i)::T,U⟩) ?_;(conv=>whnf);refine⟨by rfl,?_,?_⟩
  ·intro i hi;omega
  ·(refine WW ?_)
   exact zK
 ·have e0:List.replicate n (AV.s (.int .i64 0))=(List.replicate 0 (-1:Int)++List.replicate (n-0) 0).map iA:=by simp[iA]
  refine eM call92 λF hF=>?_
  refine WW ?_;refine zP (n) [13,2,3] [2,3] [2,3,17] [18,2,3,17] rfl (λi T U=>⟨(18,iA i)::T,(13,.arr 1 ((List.replicate i (-1:Int)++List.replicate (n-i) 0).map iA) false)::U⟩) ?_;(conv=>whnf);refine⟨by(rw[<-e0];rfl),?_,?_⟩
  ·intro i hi;have hy:((List.replicate i (-1:Int)++List.replicate (n-i) 0).map iA)[i]? =some (iA 0):=by simp[show 0<n-i by omega]
   have e:=zK7 n i hi;generalize (List.replicate i (-1:Int)++List.replicate (n-i) 0).map iA=xs at *;generalize (List.replicate (i+1) (-1:Int)++List.replicate (n-(i+1)) 0).map iA=ys at *;subst e;refine WW ?_;rfl
  ·rw[show n-n=0 by omega,yBv,zX8];refine WW ?_;exact zH [] rfl rfl (zX7 (λx=>AV.agg [iA (-1),iA 0,AV.sl false x]) (zXk zS)) rfl
def YU {α:Type} (p:α->Bool) (l:List α):Int:=if l.any p=true then(l.findIdx p:Int)else -1
theorem RU {α:Type} {p:α->Bool} {l pre post:List α} {x:α} (h:l=pre++x::post) (hn:∀y∈pre,p y=false) (hx:p x=true):YU p l=(pre.length:Int):=by
 subst h;have h1:(pre++x::post).any p=true:=by simp[hx]
 have h2:pre.findIdx p=pre.length:=List.findIdx_eq_length.2 (λy hy=>by simpa using hn y hy);unfold YU;rw[zW9 h1,List.findIdx_append,h2,zW8 zB,List.findIdx_cons,hx];simp
theorem UE {α:Type} {p:α->Bool} {l:List α} (hn:∀y∈l,p y=false):YU p l= -1:=by
 unfold YU;rw[zW8 EP]
theorem RV {α:Type} (p:α->Bool) (l:List α):(0<=YU p l)=(l.any p=true):=by
 unfold YU
 split<;>simp_all
theorem LJ {α:Type} (p:α->Bool) (l:List α): -1<=YU p l/\YU p l<=l.length:=by
 unfold YU;have:=List.findIdx_le_length (p:=p) (xs:=l)
 split<;>omega
theorem zCn (l:List Cl) (hb:l.length<=1073741824):zN 241 [zD dL l,.fn 222 []] [] (iA (YU (λc=>YJ c.k) l)) []:=by
 have hl:=zA dL l;refine eM call241 λF hF=>?_
 refine WW ?_;refine kJ (l) [] [] [0,1,7] [8,0,1,7] rfl (λi pre T U zs=>(∀y∈pre,YJ y.k=false)/\zs=⟨(8,iA i)::T,U⟩) ?_;(conv=>whnf);refine⟨?_,?_,?_⟩
 ·exact⟨by simp,rfl⟩
 ·rintro i pre x post st hx hi ⟨hp,rfl⟩;have hy:=yP dL hx hi;have hlt:=yF hx hi;have c:=kD x;have hit:=RU (p:=λc=>YJ c.k) hx hp
  cases he:YJ x.k<;>rw[he]at c
  ·(refine zU c ?_)
   exact⟨λy hy=>by simp at hy;rcases hy with hy|rfl;exact hp y hy;exact he,rfl⟩
  ·rw[hit he,hi];refine zU c ?_;exact zK
 ·rintro st ⟨hp,rfl⟩;rw[UE hp];refine WW ?_;exact zK
theorem LK (l:List Cl) (hb:l.length<=1073741824):zN 223 [zD dL l,.fn 222 []] [] (bA (l.any λc=>YJ c.k)) []:=by
 have c:=zCn l hb;have h:=RV (λc:Cl=>YJ c.k) l;have h2:=LJ (λc:Cl=>YJ c.k) l;generalize YU (λc:Cl=>YJ c.k) l=n at*
 cases ha:(l.any λc=>YJ c.k)<;>rw[ha]at h<;>simp at h
 ·(refine eM call223 λF hF=>?_)
  refine zU c ?_;exact zK
 ·(refine eM call223 λF hF=>?_)
  refine zU c ?_;exact zK
def bQ (s:Sv):xN:= .box [iA s.ph,iA s.gr,zD iA s.en]
theorem zEs (s:Sv) (x:Cl):zN 220 [dL x,.ptr 4 0 0] [(4,bQ s)] (bA (x.ph==s.ph)) [(4,bQ s)]:=by
 refine eM call220 λF hF=>?_
 refine WW ?_;exact zL [4] rfl rfl rfl rfl
theorem zEt (s:Sv) (x:Cl):zN 221 [dL x,.ptr 7 0 0] [(7,.box [.fn 220 [.ptr 4 0 0]]),(4,bQ s)] (bA (x.ph==s.ph&&YJ x.k)) [(7,.box [.fn 220 [.ptr 4 0 0]]),(4,bQ s)]:=by
 have c:=zEs s x;have e:=kD x
 cases h:(x.ph==s.ph)<;>rw[h]at c
 ·(refine eM call221 λF hF=>?_)
  refine yO (wW c e) ?_;exact zL [7,4] rfl rfl rfl rfl
 ·rw[zX1];refine eM call221 λF hF=>?_
  refine yO (wW c e) ?_;exact zL [7,4] rfl rfl rfl rfl
theorem HV (s:Sv) (l:List Cl) (hb:l.length<=1073741824):zN 241 [zD dL l,.fn 220 [.ptr 4 0 0]] [(4,bQ s)] (iA (YU (λx:Cl=>x.ph==s.ph) l)) [(4,bQ s)]:=by
 have hl:=zA dL l;refine eM call241 λF hF=>?_
 refine WW ?_;refine kJ (l) [4] [4] [0,1,7] [8,0,1,7] rfl (λi pre T U zs=>(∀y∈pre,((λx:Cl=>x.ph==s.ph)) y=false)/\zs=⟨(8,iA i)::T,U⟩) ?_;(conv=>whnf);refine⟨?_,?_,?_⟩
 ·exact⟨by simp,rfl⟩
 ·rintro i pre x post st hx hi ⟨hp,rfl⟩;have hy:=yP dL hx hi;have hlt:=yF hx hi;have c:=zEs s x;have hit:=RU (p:=(λx:Cl=>x.ph==s.ph)) hx hp
  try dsimp only at hit
  cases he:((λx:Cl=>x.ph==s.ph)) x<;>(dsimp only at he;rw[he]at c)
  ·(refine zU c ?_)
   exact⟨λy hy=>by simp only[zXs,zX9]at hy;rcases hy with hy|rfl;exact hp y hy;exact he,rfl⟩
  ·rw[hit he,hi];refine zU c ?_;exact zL [4] rfl rfl rfl rfl
 ·rintro st ⟨hp,rfl⟩;rw[UE hp];refine WW ?_;exact zL [4] rfl rfl rfl rfl
theorem RW (s:Sv) (l:List Cl) (hb:l.length<=1073741824):zN 223 [zD dL l,.fn 220 [.ptr 4 0 0]] [(4,bQ s)] (bA (l.any (λx:Cl=>x.ph==s.ph))) [(4,bQ s)]:=by
 have c:=HV s l hb;have h:=RV (λx:Cl=>x.ph==s.ph) l;have h2:=LJ (λx:Cl=>x.ph==s.ph) l;generalize YU (λx:Cl=>x.ph==s.ph) l=n at*
 cases ha:l.any (λx:Cl=>x.ph==s.ph)<;>rw[ha]at h<;>simp at h
 ·(refine eM call223 λF hF=>?_)
  refine zU c ?_;exact zL [4] rfl rfl rfl rfl
 ·(refine eM call223 λF hF=>?_)
  refine zU c ?_;exact zL [4] rfl rfl rfl rfl
theorem CN (s:Sv) (l:List Cl) (hb:l.length<=1073741824):zN 241 [zD dL l,.fn 221 [.ptr 7 0 0]] [(7,.box [.fn 220 [.ptr 4 0 0]]),(4,bQ s)] (iA (YU (λx:Cl=>x.ph==s.ph&&YJ x.k) l)) [(7,.box [.fn 220 [.ptr 4 0 0]]),(4,bQ s)]:=by
 have hl:=zA dL l;refine eM call241 λF hF=>?_
 refine WW ?_;refine kJ (l) [7,4] [7,4] [0,1,7] [8,0,1,7] rfl (λi pre T U zs=>(∀y∈pre,((λx:Cl=>x.ph==s.ph&&YJ x.k)) y=false)/\zs=⟨(8,iA i)::T,U⟩) ?_;(conv=>whnf);refine⟨?_,?_,?_⟩
 ·exact⟨by simp,rfl⟩
 ·rintro i pre x post st hx hi ⟨hp,rfl⟩;have hy:=yP dL hx hi;have hlt:=yF hx hi;have c:=zEt s x;have hit:=RU (p:=(λx:Cl=>x.ph==s.ph&&YJ x.k)) hx hp
  try dsimp only at hit
  cases he:((λx:Cl=>x.ph==s.ph&&YJ x.k)) x<;>(dsimp only at he;rw[he]at c)
  ·(refine zU c ?_)
   exact⟨λy hy=>by simp only[zXs,zX9]at hy;rcases hy with hy|rfl;exact hp y hy;exact he,rfl⟩
  ·rw[hit he,hi];refine zU c ?_;exact zL [7,4] rfl rfl rfl rfl
 ·rintro st ⟨hp,rfl⟩;rw[UE hp];refine WW ?_;exact zL [7,4] rfl rfl rfl rfl
theorem OU (s:Sv) (l:List Cl) (hb:l.length<=1073741824):zN 223 [zD dL l,.fn 221 [.ptr 7 0 0]] [(7,.box [.fn 220 [.ptr 4 0 0]]),(4,bQ s)] (bA (l.any (λx:Cl=>x.ph==s.ph&&YJ x.k))) [(7,.box [.fn 220 [.ptr 4 0 0]]),(4,bQ s)]:=by
 have c:=CN s l hb;have h:=RV (λx:Cl=>x.ph==s.ph&&YJ x.k) l;have h2:=LJ (λx:Cl=>x.ph==s.ph&&YJ x.k) l;generalize YU (λx:Cl=>x.ph==s.ph&&YJ x.k) l=n at*
 cases ha:l.any (λx:Cl=>x.ph==s.ph&&YJ x.k)<;>rw[ha]at h<;>simp at h
 ·(refine eM call223 λF hF=>?_)
  refine zU c ?_;exact zL [7,4] rfl rfl rfl rfl
 ·(refine eM call223 λF hF=>?_)
  refine zU c ?_;exact zL [7,4] rfl rfl rfl rfl
def NZ (g:Cf) (s:Sv) (l:List Cl):Bool:=!(l.any λx=>x.ph==s.ph)||decide (g.hold<=s.gr)||((l.any λc=>YJ c.k)&& !(l.any λx=>x.ph==s.ph&&YJ x.k))
theorem zQl (g:Cf) (s:Sv) (l:List Cl) (hb:l.length<=1073741824):zN 195 [wT g,wX s,zD dL l] [] (bA (NZ g s l)) []:=by
 have c1:=RW s l hb;have c2:=OU s l hb;have c3:=LK l hb;unfold NZ;generalize (l.any λx=>x.ph==s.ph)=m at *;generalize (l.any λx=>x.ph==s.ph&&YJ x.k)=u at *;generalize (l.any λc=>YJ c.k)=e at *;by_cases h:g.hold<=s.gr
 ·rw[zXg h]
  cases m<;>cases u<;>cases e<;>(simp only[yB8,yB5,zZ3,yAr,zZu,yBf,yBa];(refine eM call195 λF hF=>?_);(refine yO (gU c1 c3 c2) ?_);exact zK)
 ·rw[zXj h]
  cases m<;>cases u<;>cases e<;>(simp only[yB8,yB5,zZ3,yAr,zZu,yCt,yBf,yBa];(refine eM call195 λF hF=>?_);(refine yO (gU c1 c3 c2) ?_);exact zK)
def fP (g:Cf) (s:Sv) (l:List Cl) (now:Int):Sv:=if s.ph≠ -1/\NZ g s l=true then gZ s now else s
def kF (g:Cf) (s:Sv) (l:List Cl) (now:Int):Sv:=
 if(fP g s l now).ph= -1/\0<=kE g (fP g s l now) now l l.length then⟨(l.getD (kE g (fP g s l now) now l l.length).toNat default).ph,0,(fP g s l now).en⟩else fP g s l now
theorem UF (s:Sv) (now:Int):(gZ s now).en.length=s.en.length:=by unfold gZ;dsimp only;split<;>simp
theorem zEu (g:Cf) (s:Sv) (l:List Cl) (now:Int):(fP g s l now).en.length=s.en.length:=by unfold fP;split;exact UF s now;rfl
structure DcB (g:Cf) (s:Sv) (l:List Cl) (now:Int):Prop where
 p:1<=g.per
 c0: -1000000<=g.cap
 c1:g.cap<=1000000
 n0:0<=now
 n1:now<=1000000000
 en:∀e∈s.en,-1<=e/\e<=now
 k:∀c∈l,0<=c.k/\c.k<=3
 si:∀c∈l,0<=c.si/\c.si<=now
 len:l.length<=1000
 sl:s.en.length<=1000
theorem RX (s:Sv) (now:Int) (h0:0<=now) (h:∀e∈s.en,-1<=e/\e<=now):∀e∈(gZ s now).en,-1<=e/\e<=now:=by
 unfold gZ;dsimp only;split
 ·intro e he
  rcases yAk he with he|rfl
  ·exact h e he
  ·omega
 ·exact h
theorem zAo (g:Cf) (s:Sv) (l:List Cl) (now:Int) (h0:0<=now) (h:∀e∈s.en,-1<=e/\e<=now):∀e∈(fP g s l now).en,-1<=e/\e<=now:=by
 unfold fP;split;exact RX s now h0 h;exact h
theorem DcB.ok {g:Cf} {s:Sv} {l:List Cl} {now:Int} (H:DcB g s l now) (s':Sv) (he:∀e∈s'.en,-1<=e/\e<=now):∀i,i<l.length->COk g.per now s'.en (l.getD i default):=λi hi=>by
 have hk:=ZJ (λc:Cl=>0<=c.k/\c.k<=3) default l i H.k hi;have hs:=ZJ (λc:Cl=>0<=c.si/\c.si<=now) default l i H.si hi;have he:=zK4 s'.en now (l.getD i default).ph H.n0 he;have:=H.p;have:=H.n0;have:=H.n1
 constructor<;>(try unfold XZ)<;>omega
theorem zEv (g:Cf) (s:Sv) (l:List Cl) (now:Int) (H:DcB g s l now):zN 161 [wT g,wX s,zD dL l,iA now] [] (wX (kF g s l now)) []:=by
 have hb:SvB s:=⟨by have:=H.sl;omega⟩;have c1:=WC s hb;have c2:=zQl g s l (by have:=H.len;omega);have c3:=zEr s hb now;have hl:=zA dL l;have hll:=H.len;have he:=zAo g s l now H.n0 H.en;have c4:=zQj g (fP g s l now) now l zB (H.ok _ he);have hbd:=WB g (fP g s l now) now l l.length
 have hd:fP g s l now=if s.ph≠ -1/\NZ g s l=true then gZ s now else s:=rfl
 unfold kF;generalize fP g s l now=s1 at *;generalize kE g s1 now l l.length=b at *;generalize NZ g s l=ov at *;generalize gZ s now=s2 at *;by_cases h1:s.ph= -1
 ·rw[zW8 (by simp[h1])]at hd;subst hd;by_cases h2:0<=b
  ·rw[zW9 ⟨h1,h2⟩];have hy:=yM dL l b h2 zB;generalize l.getD b.toNat default=cl at *;refine eM call161 λF hF=>?_
   refine yO (wW c1 c4) ?_;exact zK
  ·rw[zW8 (λh=>h2 h.2)];refine eM call161 λF hF=>?_
   refine yO (wW c1 c4) ?_;exact zK
 cases ov with
 |false=>
  rw[zW8 zS]at hd;subst hd;rw[zW8 (λh=>h1 h.1)];refine eM call161 λF hF=>?_
  refine yO (wW c1 c2) ?_;exact zK
 | true=>
  rw[zW9 ⟨h1,rfl⟩]at hd;subst hd;by_cases h3:s1.ph= -1
  ·by_cases h2:0<=b
   ·rw[zW9 ⟨h3,h2⟩];have hy:=yM dL l b h2 zB;generalize l.getD b.toNat default=cl at *;refine eM call161 λF hF=>?_
    refine yO (aB c1 c2 c3 c4) ?_;exact zK
   ·rw[zW8 (λh=>h2 h.2)];refine eM call161 λF hF=>?_
    refine yO (aB c1 c2 c3 c4) ?_;exact zK
  ·rw[zW8 (λh=>h3 h.1)];refine eM call161 λF hF=>?_
   refine yO (aB c1 c2 c3 c4) ?_;exact zK
theorem zAp (g:Cf) (s:Sv) (l:List Cl) (now:Int):(kF g s l now).en=(fP g s l now).en:=by unfold kF;split<;>rfl
theorem WE (g:Cf) (s:Sv) (l:List Cl) (now:Int):(kF g s l now).en.length=s.en.length:=by rw[zAp];exact zEu g s l now
theorem CO (g:Cf) (s:Sv) (l:List Cl) (now:Int):(fP g s l now=s∨(s.ph≠ -1/\NZ g s l=true/\fP g s l now=gZ s now)):=by
 unfold fP;split
 ·rename_i h;exact .inr ⟨h.1,h.2,rfl⟩
 ·exact .inl rfl
theorem zAq (g:Cf) (s:Sv) (l:List Cl) (now:Int):(fP g s l now).ph=s.ph/\(fP g s l now).gr=s.gr∨(fP g s l now).ph= -1/\(fP g s l now).gr=0:=by
 rcases CO g s l now with hd|⟨_,_,hd⟩
 ·exact .inl (by rw[hd];exact⟨rfl,rfl⟩)
 ·exact .inr (by rw[hd];exact⟨rfl,rfl⟩)
theorem zQm (g:Cf) (s:Sv) (l:List Cl) (now:Int) (n:Int) (hl:∀c∈l,0<=c.ph/\c.ph<n) (h: -1<=s.ph/\s.ph<n/\0<=s.gr/\s.gr<=60) (h0:0<=n): -1<=(kF g s l now).ph/\(kF g s l now).ph<n/\0<=(kF g s l now).gr/\(kF g s l now).gr<=60:=by
 have h1:=zAq g s l now;have hb:=WB g (fP g s l now) now l l.length;unfold kF;split
 ·rename_i hh;have:=ZJ (λc:Cl=>0<=c.ph/\c.ph<n) default l (kE g (fP g s l now) now l l.length).toNat hl zB;dsimp only;omega
 ·omega
theorem zEw (g:Cf) (s:Sv) (l:List Cl) (now:Int) (h0:0<=now) (h:∀e∈s.en,-1<=e/\e<=now):∀e∈(kF g s l now).en,-1<=e/\e<=now:=by rw[zAp];exact zAo g s l now h0 h
theorem zQn (s:Sv) (b:Bool):(dI s b).en=s.en/\(dI s b).ph=s.ph:=by unfold dI;split<;>exact⟨rfl,rfl⟩
theorem zQo (s:Sv) (b:Bool) (h:0<=s.gr/\s.gr<=60):0<=(dI s b).gr/\(dI s b).gr<=60:=by unfold dI;split;(dsimp only;omega);exact h
theorem zT9 (s:Sv) (b:Bool) (hz:s.ph= -1->s.gr=0):(dI s b).ph= -1->(dI s b).gr=0:=by
 unfold dI;split
 ·rename_i h;intro h2;exact absurd h2 h.2
 ·exact hz
theorem zUa (g:Cf) (s:Sv) (l:List Cl) (now:Int) (hz:s.ph= -1->s.gr=0):(kF g s l now).ph= -1->(kF g s l now).gr=0:=by
 have h1:=zAq g s l now;unfold kF;split
 ·exact λ_=>rfl
 ·intro h2;rcases h1 with h1|h1
  ·rw[h1.2];exact hz zB
  ·exact h1.2
structure EI (n:Nat) (d:Dk) (s:Sv) (now:Int):Prop where
 len:s.en.length=n
 en:∀e∈s.en,-1<=e/\e<now
 p0: -1<=s.ph
 p1:s.ph<n
 g0:0<=s.gr
 g1:s.gr<=60
 n0:1<=now
 n1:now+rem d<=301
 z:s.ph= -1->s.gr=0
theorem EI.next {n:Nat} {d:Dk} {s:Sv} {now:Int} (H:EI n d s now) (g:Cf) (c:List Cl) (hcl:∀x∈c,ClB n now x) (b:Bool) (d':Dk) (hd:rem d'+1<=rem d):EI n d' (dI (kF g s c now) b) (now+1):=by
 have hp:=zQm g s c now n (λx hx=>⟨(hcl x hx).p0,(hcl x hx).p1⟩) ⟨H.p0,H.p1,H.g0,H.g1⟩ zB;have hg:=zQo (kF g s c now) b hp.2.2;obtain⟨e1,e2⟩:=zQn (kF g s c now) b;have:=H.n0;have:=H.n1;have he:=zEw g s c now zB (λe he=>by have:=H.en e he;omega);refine⟨by rw[e1,WE];exact H.len,λe h=>?_,zB,zB,zB,zB,zB,zB,λh=>?_⟩
 case refine_2=>exact zT9 _ b (zUa g s c now H.z) h
 rw[e1]at h;have:=he e h;omega
theorem zAr (s:Sg) (h1:s.c.li.length<=1073741824) (h2:s.c.nx.length<=1073741824):zN 104 [vB s] [] (vB s) []:=by
 have c1:=NY s.c.li h1;have c2:=NX s.c.nx h2;refine eM call104 λF hF=>?_
 refine yO (wW c1 c2) ?_;exact zK
def grB (s:Sg) (v:Sv):Bool:=decide (0<=v.ph/\v.ph<s.c.li.length)&&((vD s.c v.ph.toNat).lamp==1)
def dvF (g:Cf) (j:Jn) (s:Sg) (v:Sv) (l:List Cl) (k now:Int):Sg×Sv:=
 if s.lat=true then(s,gZ v now)
 else if(sjF j s (kF g v l now).ph k).lat=true then(sjF j s (kF g v l now).ph k,gZ (kF g v l now) now)
 else(sjF j s (kF g v l now).ph k,dI (kF g v l now) (grB (sjF j s (kF g v l now).ph k) (kF g v l now)))
theorem zK8 (g:Cf) (j:Jn) (J:JV j) (s:Sg) (C:CV j s.c) (v:Sv) (l:List Cl) (k now:Int) (H:DcB g v l now) (hgr: -1000000<=(kF g v l now).gr):zN 112 [wT g,wP j,vB s,wX v,zD dL l,iA k,iA now] [] (.tup [vB (dvF g j s v l k now).1,wX (dvF g j s v l k now).2]) []:=by
 have hJ:=J.n;have hn:=C.n;have hm:=C.m;have hb:SvB v:=⟨by have:=H.sl;omega⟩;have hb2:SvB (kF g v l now):=⟨by rw[WE];have:=H.sl;omega⟩;have c0:=zAr s zB zB;have c1:=zEr v hb now;have c2:=zEv g v l now H;have c3:=zK1 j J s C (kF g v l now).ph k;have c4:=zEr (kF g v l now) hb2 now;have c5:=zK5 (kF g v l now) hb2 (grB (sjF j s (kF g v l now).ph k) (kF g v l now)) hgr;have X:=zT1 J C (kF g v l now).ph k;have hxn:=X.n;unfold dvF;generalize gZ v now=v0 at *;generalize kF g v l now=v1 at *;generalize gZ v1 now=v2 at *;generalize sjF j s v1.ph k=x at *;have hgb:grB x v1=(decide (0<=v1.ph/\v1.ph<x.c.li.length)&&((vD x.c v1.ph.toNat).lamp==1)):=rfl;generalize grB x v1=b at *;generalize dI v1 b=v3 at *;clear H hgr X C hb hb2;obtain⟨sc,sl⟩:=s;obtain⟨xc,xl⟩:=x;dsimp only at *;have hlx:=zA vG xc.li
 cases sl with
 |true=>
  rw[zW9 rfl];refine eM call112 λF hF=>?_
  refine yO (wW c0 c1) ?_;exact zK
 |false=>
 rw[zW8 zXx]
 cases xl with
 |true=>
  rw[zW9 rfl];refine eM call112 λF hF=>?_
  refine yO (gU c2 c3 c4) ?_;exact zK
 |false=>
 rw[zW8 zXx];dsimp only;rw[show vB ⟨xc,false⟩= .agg [zD vG xc.li,iA xc.gr,zD iA xc.nx,iA xc.wt,bA false]from rfl]at *; by_cases h1:0<=v1.ph
 case neg=>
  rw[zXj (λh=>h1 h.1),zY2]at hgb;subst hgb;refine eM call112 λF hF=>?_
  refine yO (gU c2 c3 c5) ?_;exact zK
 by_cases h2:v1.ph<xc.li.length
 case neg=>
  rw[zXj (λh=>h2 h.2),zY2]at hgb;subst hgb;refine eM call112 λF hF=>?_
  refine yO (gU c2 c3 c5) ?_;exact zK
 rw[zXg ⟨h1,h2⟩,zX1]at hgb;have hy:=yM vG xc.li v1.ph h1 h2
 change (xc.li.map vG)[v1.ph.toNat]? =some (vG (vD xc v1.ph.toNat))at hy
 generalize vD xc v1.ph.toNat=a at *;by_cases h3:a.lamp=1
 ·rw[show(a.lamp==1)=true by rw[zYr];exact h3]at hgb;subst hgb;refine eM call112 λF hF=>?_
  refine yO (gU c2 c3 c5) ?_;exact zK
 ·rw[show(a.lamp==1)=false by rw[zYm];exact h3]at hgb;subst hgb;refine eM call112 λF hF=>?_
  refine yO (gU c2 c3 c5) ?_;exact zK
theorem zUb {j:Jn} (J:JV j) {s:Sg} (C:CV j s.c) (g:Cf) (v:Sv) (c:List Cl) (k now:Int):CV j (dvF g j s v c k now).1.c:=by
 unfold dvF;split
 ·exact C
 ·split<;>exact zT1 J C _ _
def ph2:Ph:=⟨0,0,1,1,1,0,0,0⟩
def j2:Jn:=⟨[ph2],[0],0⟩
structure Ss where
 op:Bool
 dr:Bool
 bf:List Int
 gb:Bool
instance:Inhabited Ss:=⟨⟨false,false,[],false⟩⟩
def WF (m n:Nat):Nat:=min n (256-m)
def HW (s:Ss) (b:List Int):Ss:=if s.op=true then⟨true,s.dr||decide (WF s.bf.length b.length≠b.length),s.bf++b.take (WF s.bf.length b.length),s.gb⟩else s
theorem zK9 {s:Ss} (h:s.bf.length<=256) (b:List Int):(HW s b).bf.length<=256:=by
 unfold HW;split
 ·simp only[zXb,zXw];unfold WF;omega
 ·exact h
theorem CP (l:List Vw) (hl:l.length<=1073741824):zN 136 [zD vL l] [] (.ref 1001 0 (l.map vL).length) [(1001,.arr 4 (l.map vL) false)]:=by
 have hll:=zA vL l;refine eM call136 λF hF=>?_
 refine yY 0 rfl (λcap hx=>?_) ?_
 ·have:l=[]:=by simpa using hx
  subst this
  (repeat' (first|refine WZN ?_|refine xQ (λhc=>?_) (λhc=>?_)|refine wD (λhc=>?_)|fail))
  refine uF 2 1001 4 rfl rfl rfl (yU ?_);exact zL [1001] rfl rfl rfl rfl
 ·repeat' (first|(refine zE ?_;first|refine vK tok rfl rfl ?_|(refine wZ ?_;refine xK (yW tok (.inl ⟨rfl,rfl⟩) rfl rfl rfl rfl) rfl ?_)|(refine yT ?_;refine uG (nw:=[1001]) (yJ tok 1001 (xs:=[]) rfl rfl rfl rfl rfl rfl rfl rfl rfl) rfl rfl rfl ?_)|(refine yV ?_;refine wO tok rfl rfl rfl rfl rfl rfl rfl (xH _ _ (λ_=>rfl)) rfl rfl rfl zB rfl ?_)|refine qC ?_)|(first|refine xS ?_|refine yZ ?_|refine vA rfl ?_|refine zX rfl ?_|refine zQ rfl ?_|refine xJ rfl (λhc=>?_) (λhc=>?_)|refine yX ?_|refine yU ?_|refine xA ?_|refine yS ?_))
  exact zL [1001] rfl rfl rfl rfl
theorem ZK (l:List Vw) (hn:l.length<=1000) (hb:∀v∈l,v.co.length<=1000/\v.cn.length<=1000):zN 81 [zD vL l] [] (zD vL l) []:=by
 have c:=CP l zB;have hll:=zA vL l;refine eM call81 λF hF=>?_
 refine zU c ?_;refine zP ((l.map vL).length) [1001] [] [0,7] [8,0,7] rfl (λi T U=>⟨(8,iA i)::T,(1001,.arr 4 (kS i (l.map vL)) false)::U⟩) ?_;(conv=>whnf);refine⟨by rfl,?_,?_⟩
 ·intro i hi;have hi':i<l.length:=by omega
  have hy:(kS i (l.map vL))[i]? =some (vL (l.getD i default)):=zM vL l i hi';have e:=kG vL l i hi';have hbb:=hb (l.getD i default) bY;have c1:=WR (l.getD i default).co zB;have c2:=WR (l.getD i default).cn zB;generalize (l.getD i default)=t at *;generalize kS i (l.map vL)=xs at *;generalize kS (i+1) (l.map vL)=ys at *;have hs:=eP hy;have hy2:(xs.set i (.agg [bA t.fl,bA t.ov,zD iA t.co,zD iA t.cn]))[i]? =some (vL t):=by rw[show AV.agg [bA t.fl,bA t.ov,zD iA t.co,zD iA t.cn]=vL t from rfl,hs];exact hy
  have e2:(xs.set i (.agg [bA t.fl,bA t.ov,zD iA t.co,zD iA t.cn])).set i (.agg [bA t.fl,bA t.ov,zD iA t.co,zD iA t.cn])=ys:=by rw[yB1];exact e
  clear e hs;subst e2;refine yO (wW c1 c2) ?_;rfl
 ·(refine WW ?_)
  exact zH [] rfl rfl (zX7 (AV.sl false) zXe) rfl
def jJ (s:Ss):AV:= .agg [bA s.op,bA s.dr,zD yA s.bf,bA s.gb]
theorem LL (s:Ss) (h:s.bf.length<=1000):zN 58 [jJ s] [] (jJ s) []:=by
 have c:=wA s.bf zB;unfold jJ;refine eM call58 λF hF=>?_
 refine zU c ?_;exact zK
structure Ev where
 k:Int
 s:Int
 a:Int
 b:Int
 y:List Int
instance:Inhabited Ev:=⟨⟨0,0,0,0,[]⟩⟩
def qK (e:Ev):AV:= .agg [iA e.k,iA e.s,iA e.a,iA e.b,zD yA e.y]
end Av
end Go.Proofs.YtmamjhmoegjapaaGreat
