/- Part 19. -/
import Derived.Test.YteajjdidebfcjaaGreatV18
namespace Go.Proofs.YteajjdidebfcjaaGreat
namespace Av
open Tryz
set_option linter.all false
set_option maxRecDepth 4000
set_option maxHeartbeats 2000000
structure Sg where
 c:Ct
 lat:Bool
def vJ (s:Sg):AV:= .agg [zD vT s.c.li,iA s.c.gr,zD iA s.c.nx,iA s.c.wt,bA s.lat]
def eJ (j:Jn):Sg:=⟨inF j,false⟩
def sjF (j:Jn) (s:Sg) (t k:Int):Sg:=if s.lat=true then s else⟨stF j s.c t,fbF j.cf (RU (stF j s.c t).li k)⟩
def srF (j:Jn) (s:Sg):Sg:=if s.lat=true then eJ j else s
def FH {α:Type} (f:α->AV) (l:List α):AV.sl false ((l.map f).take (l.map f).length)=zD f l:=by rw[zX6];rfl
def LI (l:List Int) (hl:l.length<=1073741824):zO 91 [zD iA l] [] (zD iA l) []:=by
 have hll:=zA iA l;refine eM call91 λF hF=>?_
 refine yX 0 Z (λcap hx=>?_) ?_
 ·have:l=[]:=by simpa using hx
  subst this;refine WW ?_;exact zJ
 ·(refine WW ?_)
  refine zI [] Z Z (FH _ _) Z
def LJ (l:List Li) (hl:l.length<=1073741824):zO 187 [zD vT l] [] (zD vT l) []:=by
 have hll:=zA vT l;refine eM call187 λF hF=>?_
 refine yX 0 Z (λcap hx=>?_) ?_
 ·have:l=[]:=by simpa using hx
  subst this;refine WW ?_;exact zJ
 ·(refine WW ?_)
  refine zI [] Z Z (FH _ _) Z
def FI (s:Sg) (h1:s.c.li.length<=1073741824) (h2:s.c.nx.length<=1073741824):zO 189 [vJ s] [] (vJ s) []:=by
 have c1:=LJ s.c.li h1;have c2:=LI s.c.nx h2;refine eM call189 λF hF=>?_
 refine yR (wZ c1 c2) ?_;exact zJ
def zGp (j:Jn) (J:JV j):zO 112 [vC j] [] (vJ (eJ j)) []:=by
 have c1:=zSa j zC7;unfold eJ;generalize inF j=c at *;refine eM call112 λF hF=>?_
 refine zY c1 ?_;exact zJ
def zMr (j:Jn) (J:JV j) (s:Sg) (C:CV j s.c) (t k:Int):zO 214 [vC j,vJ s,iA t,iA k] [] (vJ (sjF j s t k)) []:=by
 have hJ:=J.n;have hc:=J.c;have hn:=C.n;have hm:=C.m;have c0:=FI s zB zB;have c1:=zR8 j J s.c C t;have C1:=zQj J C t;have c2:=zSc (stF j s.c t).li (by have:=C1.n;omega) k;have c3:=zSf j.cf (RU (stF j s.c t).li k) zB (by rw[zHb];have:=C1.n;omega);unfold sjF;generalize fbF j.cf (RU (stF j s.c t).li k)=f at *;generalize RU (stF j s.c t).li k=ls at *;generalize stF j s.c t=c at *;obtain⟨sc,lat⟩:=s
 cases lat with
 |true=>
  rw[zX3 Z];refine eM call214 λF hF=>?_
  refine zY c0 ?_;exact zJ
 |false=>
  rw[zX2 zYp];refine eM call214 λF hF=>?_
  refine yR (fQ c1 c2 c3) ?_;exact zJ
def zGq (j:Jn) (J:JV j) (s:Sg) (h1:s.c.li.length<=1073741824) (h2:s.c.nx.length<=1073741824):zO 154 [vC j,vJ s] [] (.tup [vJ (srF j s),bA s.lat]) []:=by
 have c0:=FI s h1 h2;have c1:=zGp j J;unfold srF;generalize eJ j=z at *;obtain⟨sc,lat⟩:=s
 cases lat with
 |true=>
  rw[zX3 Z];refine eM call154 λF hF=>?_
  refine zY c1 ?_;exact zJ
 |false=>
  rw[zX2 zYp];refine eM call154 λF hF=>?_
  refine zY c0 ?_;exact zJ
def ph0:Ph:=⟨0,0,2,3,1,1,0,0⟩
def j0:Jn:=⟨[ph0,ph0],[2,1],0⟩
def two {p:Nat} (h:p<j0.ph.length):p=0∨p=1:=by
 have:j0.ph.length=2:=rfl;omega
def zU9 {j:Jn} (J:JV j) {s:Sg} (C:CV j s.c) (t k:Int):CV j (sjF j s t k).c:=by
 unfold sjF;split
 ·exact C
 ·exact zQj J C t
def zW7 {j:Jn} (J:JV j) {s:Sg} (C:CV j s.c):CV j (srF j s).c:=by
 unfold srF;split
 ·exact zG8 J
 ·exact C
def ph1:Ph:=⟨0,0,2,3,1,0,0,0⟩
def j1:Jn:=⟨[ph1,ph1],[2,1],0⟩
def WG {p q:Prop} (k:q) (h:ZM q->p:=by(intro hq;(repeat' (first|refine YA ?_|refine xL (λhc=>?_) λhc=>?_|fail));exact hq.h)):p:=h ⟨k⟩
def WO {p q:Prop} (k:q) (h:ZM q->p:=by(intro hq;(repeat' (first|refine YA ?_|refine xL (λhc=>?_) λhc=>?_|fail));exact hq.h)):p:=h ⟨k⟩
def e1 (d:Dk) (now:Int):Int:=[-1,0,max (-1) (now-nx d 6)].getD (nx (ad d) 3).toNat 0
def d0 (xs:List Int) (hl:xs.length<=9223372036854775807):Dk:=⟨xs,0,zYl _,hl⟩
def WE (es:List Int) (ph:Int):Int:=if ph<0∨(es.length:Int)<=ph then -1 else es.getD ph.toNat 0
def XR (k:Int):Bool:=k==2||k==3
def UA (es:List Int) (ph si:Int):Int:=max si (WE es ph)
def QV (s:Sv) (c:Cl):zO 278 [vI s,cT c] [] (iA (WE s.en c.ph)) []:=by
 have hl:(s.en.map iA).length=s.en.length:=by simp
 by_cases h1:c.ph<0
 ·rw[show WE s.en c.ph= -1 by simp[WE,h1]];refine eM call278 λF hF=>?_
  refine WO ?_;exact zJ
 ·by_cases h2:(s.en.length:Int)<=c.ph
  ·rw[show WE s.en c.ph= -1 by simp[WE,h2]];refine eM call278 λF hF=>?_
   refine WO ?_;exact zJ
  ·rw[show WE s.en c.ph=s.en.getD c.ph.toNat 0 by unfold WE;rw[zX2 zB]];have hy:=yN iA s.en c.ph zB zB;refine eM call278 λF hF=>?_
   refine WO ?_;exact zJ
def kY (c:Cl):zO 87 [cT c] [] (bA (XR c.k)) []:=by
 unfold XR;by_cases h:c.k=2
 ·rw[show(c.k==2||c.k==3)=true by simp[h]];refine eM call87 λF hF=>?_
  refine WO ?_;exact zJ
 ·rw[show(c.k==2||c.k==3)=(c.k==3) by simp[h]];refine eM call87 λF hF=>?_
  refine WO ?_;exact zJ
def UB (s:Sv) (c:Cl):zO 280 [vI s,cT c] [] (iA (UA s.en c.ph c.si)) []:=by
 refine eM call280 λF hF=>?_
 (repeat' (first|refine YA ?_|refine xL (λhc=>?_) λhc=>?_|(refine zE ?_;refine xJ ?_;refine zP (zH (QV ⟨_,_,_⟩ ⟨_,_,_,_,_⟩) Z Z Z Z Z) Z ?_)|fail))
 exact zJ
def AE (n d:Int) (hd:1<=d) (hm:n.tmod d=0):n.tdiv d=n/d:=by
 have h1:=Int.tmod_add_mul_tdiv n d;rw[hm]at h1;have h2:n=d*n.tdiv d:=by omega
 exact(Int.ediv_eq_of_eq_mul_right zB h2).symm
def JF (n d:Int) (hn:n<0) (hd:1<=d) (hm:n.tmod d≠0):n.tdiv d-1=n/d:=by
 have h1:=Int.tmod_add_mul_tdiv n d;have h0:n.tmod d= -((-n).tmod d):=by rw[Int.neg_tmod];omega
 have h3: -d<n.tmod d:=by
  have:=Int.tmod_lt_of_pos (-n) (show 0<d by omega);omega
 have h4:n.tmod d<=0:=by
  have:=Int.tmod_nonneg d (show 0<= -n by omega);omega
 clear h0;have h5:n=d*(n.tdiv d-1)+(n.tmod d+d):=by rw[Int.mul_sub];omega
 generalize n.tdiv d=q at *;generalize n.tmod d=r at*
 have h6:n/d=q-1:=by
  rw[h5,Int.mul_add_ediv_left _ _ zB,Int.ediv_eq_zero_of_lt zB zB];omega
 omega
def zMs (n d:Int) (hd:1<=d) (h1: -4611686018427387904<=n) (h2:n<=4611686018427387904): -4611686018427387904<=n.tdiv d/\n.tdiv d<=4611686018427387904:=by
 by_cases h:0<=n
 ·have:=IntWalk.tdiv_le n d h hd;rw[zZw h];omega
 ·have h3:n.tdiv d= -((-n).tdiv d):=by rw[Int.neg_tdiv];omega
  have:=IntWalk.tdiv_le (-n) d zB hd;rw[h3,zZw zB];omega
def WF (n d:Int) (hd:1<=d) (h1: -4611686018427387904<=n) (h2:n<=4611686018427387904):zO 303 [iA n,iA d] [] (iA (n/d)) []:=by
 have hb:=zMs n d hd h1 h2;have hq:YH .i64 (n.tdiv d):=⟨zB,zB⟩;by_cases hm:n.tmod d=0
 ·rw[<-AE n d hd hm];refine eM call303 λF hF=>?_
  refine WO ?_;exact zJ
 ·by_cases h0:n<0
  ·rw[<-JF n d h0 hd hm];refine eM call303 λF hF=>?_
   refine WO ?_;exact zJ
  ·rw[<-zZw (show 0<=n by omega)];refine eM call303 λF hF=>?_
   refine WO ?_;exact zJ
def zMt (per cap:Int) (es:List Int) (now ph k si:Int):Int:=min cap (k+(now-UA es ph si)/per)
structure COk (per now:Int) (es:List Int) (c:Cl):Prop where
 p:1<=per
 k0: -1000<=c.k
 k1:c.k<=1000
 n0: -1099511627776<=now
 n1:now<=1099511627776
 s0: -1099511627776<=UA es c.ph c.si
 s1:UA es c.ph c.si<=1099511627776
 e0: -1099511627776<=WE es c.ph
 e1:WE es c.ph<=1099511627776
def zRy (n d:Int) (hd:1<=d) (h1: -4611686018427387904<=n) (h2:n<=4611686018427387904): -4611686018427387904<=n/d/\n/d<=4611686018427387904:=by
 constructor
 ·refine(Int.le_ediv_iff_mul_le zB).2 ?_;have:(4611686018427387904:Int)*1<=4611686018427387904*d:=Int.mul_le_mul_of_nonneg_left hd zB;omega
 ·have:n/d<=4611686018427387904/1:=by
   rw[Int.ediv_one];refine Int.le_of_lt_add_one ((Int.ediv_lt_iff_lt_mul zB).2 ?_);have:(4611686018427387904+1:Int)*1<=(4611686018427387904+1)*d:=Int.mul_le_mul_of_nonneg_left hd zB;omega
  omega
def zB3 (g:Cf) (s:Sv) (c:Cl) (now:Int) (ok:COk g.per now s.en c):zO 279 [vL g,vI s,cT c,iA now] [] (iA (zMt g.per g.cap s.en now c.ph c.k c.si)) []:=by
 obtain⟨p,k0,k1,n0,n1,s0,s1,_,_⟩:=ok;have hq:=zRy (now-UA s.en c.ph c.si) g.per p zB zB;refine eM call279 λF hF=>?_
 (repeat' (first|refine YA ?_|refine xL (λhc=>?_) λhc=>?_|(refine zE ?_;refine xJ ?_;(first|(refine vP 280 ?_;first|refine zP (zH (UB s c) Z Z Z Z Z) Z ?_|refine qE (zH (UB s c) Z Z Z Z Z) Z Z Z ?_|refine ZJ (zH (UB s c) Z Z Z Z Z) Z Z Z ?_)|(refine vP 303 ?_;first|refine zP (zH (WF _ _ zB zB zB) Z Z Z Z Z) Z ?_|refine qE (zH (WF _ _ zB zB zB) Z Z Z Z Z) Z Z Z ?_|refine ZJ (zH (WF _ _ zB zB zB) Z Z Z Z Z) Z Z Z ?_)))|fail))
 exact zJ
def zGr (lock:Int) (es:List Int) (now ph k:Int):Bool:=!XR k&&(WE es ph != -1&&decide (now-WE es ph<=lock))
def zGs (g:Cf) (s:Sv) (c:Cl) (now:Int) (ok:COk g.per now s.en c):zO 253 [vL g,vI s,cT c,iA now] [] (bA (zGr g.lock s.en now c.ph c.k)) []:=by
 obtain⟨p,k0,k1,n0,n1,s0,s1,e0,e1⟩:=ok;unfold zGr;refine eM call253 λF hF=>?_
 (repeat' (first|refine YA ?_|refine xL (λhc=>?_) λhc=>?_|(refine zE ?_;refine xJ ?_;(first|(refine vP 278 ?_;first|refine zP (zH (QV _ _) Z Z Z Z Z) Z ?_|refine qE (zH (QV _ _) Z Z Z Z Z) Z Z Z ?_|refine ZJ (zH (QV _ _) Z Z Z Z Z) Z Z Z ?_)|(refine vP 87 ?_;first|refine zP (zH (kY _) Z Z Z Z Z) Z ?_|refine qE (zH (kY _) Z Z Z Z Z) Z Z Z ?_|refine ZJ (zH (kY _) Z Z Z Z Z) Z Z Z ?_)))|fail))
 all_goals refine zI [] Z Z (zY3 bA ?_) Z
 all_goals simp_all [qQ]
def QF (per cap:Int) (es:List Int) (now:Int) (x:Cl):Int:=if XR x.k then x.k else zMt per cap es now x.ph x.k x.si
def cW (per cap:Int) (es:List Int) (now:Int) (x y:Cl):Bool:=
 if XR x.k≠XR y.k then XR x.k
 else if QF per cap es now x≠QF per cap es now y then decide (QF per cap es now y<QF per cap es now x)
 else if UA es x.ph x.si≠UA es y.ph y.si then decide (UA es x.ph x.si<UA es y.ph y.si)
 else if x.ag≠y.ag then decide (x.ag<y.ag)else decide (x.id<y.id)
theorem zRz (g:Cf) (s:Sv) (x y:Cl) (now:Int) (okx:COk g.per now s.en x) (oky:COk g.per now s.en y):zO 254 [vL g,vI s,iA now,cT x,cT y] [] (bA (cW g.per g.cap s.en now x y)) []:=by
 have ex:=kY x;have ey:=kY y;have lx:=zB3 g s x now okx;have ly:=zB3 g s y now oky;have sx:=UB s x;have sy:=UB s y
 cases hx:XR x.k<;>cases hy:XR y.k<;>rw[hx]at ex<;>rw[hy]at ey
 ·by_cases h1:zMt g.per g.cap s.en now x.ph x.k x.si=zMt g.per g.cap s.en now y.ph y.k y.si
  ·by_cases h2:UA s.en x.ph x.si=UA s.en y.ph y.si
   ·by_cases h3:x.ag=y.ag
    ·(refine eM call254 λF hF=>?_)
     (have zc1:=ex;have zc2:=ey;have zc3:=lx;have zc4:=ly;have zc5:=sx;have zc6:=sy;refine WG ?_;clear zc1 zc2 zc3 zc4 zc5 zc6)
     refine zI [] Z Z (zY3 bA ?_) Z;simp[cW,QF,hx,hy,h1,h2,h3,qQ]
    ·(refine eM call254 λF hF=>?_)
     (have zc1:=ex;have zc2:=ey;have zc3:=lx;have zc4:=ly;have zc5:=sx;have zc6:=sy;refine WG ?_;clear zc1 zc2 zc3 zc4 zc5 zc6)
     refine zI [] Z Z (zY3 bA ?_) Z;simp[cW,QF,hx,hy,h1,h2,h3,qQ]
   ·(refine eM call254 λF hF=>?_)
    (have zc1:=ex;have zc2:=ey;have zc3:=lx;have zc4:=ly;have zc5:=sx;have zc6:=sy;refine WG ?_;clear zc1 zc2 zc3 zc4 zc5 zc6)
    refine zI [] Z Z (zY3 bA ?_) Z;simp[cW,QF,hx,hy,h1,h2,qQ]
  ·(refine eM call254 λF hF=>?_)
   (have zc1:=ex;have zc2:=ey;have zc3:=lx;have zc4:=ly;have zc5:=sx;have zc6:=sy;refine WG ?_;clear zc1 zc2 zc3 zc4 zc5 zc6)
   refine zI [] Z Z (zY3 bA ?_) Z;simp[cW,QF,hx,hy,h1,qQ]
 ·(refine eM call254 λF hF=>?_)
  (have zc1:=ex;have zc2:=ey;have zc3:=lx;have zc4:=ly;have zc5:=sx;have zc6:=sy;refine WG ?_;clear zc1 zc2 zc3 zc4 zc5 zc6)
  refine zI [] Z Z (zY3 bA ?_) Z;simp[cW,hx,hy]
 ·(refine eM call254 λF hF=>?_)
  (have zc1:=ex;have zc2:=ey;have zc3:=lx;have zc4:=ly;have zc5:=sx;have zc6:=sy;refine WG ?_;clear zc1 zc2 zc3 zc4 zc5 zc6)
  refine zI [] Z Z (zY3 bA ?_) Z;simp[cW,hx,hy]
 ·by_cases h1:x.k=y.k
  ·by_cases h2:UA s.en x.ph x.si=UA s.en y.ph y.si
   ·by_cases h3:x.ag=y.ag
    ·(refine eM call254 λF hF=>?_)
     (have zc1:=ex;have zc2:=ey;have zc3:=lx;have zc4:=ly;have zc5:=sx;have zc6:=sy;refine WG ?_;clear zc1 zc2 zc3 zc4 zc5 zc6)
     refine zI [] Z Z (zY3 bA ?_) Z;simp[cW,QF,hx,hy,h1,h2,h3,qQ]
    ·(refine eM call254 λF hF=>?_)
     (have zc1:=ex;have zc2:=ey;have zc3:=lx;have zc4:=ly;have zc5:=sx;have zc6:=sy;refine WG ?_;clear zc1 zc2 zc3 zc4 zc5 zc6)
     refine zI [] Z Z (zY3 bA ?_) Z;simp[cW,QF,hx,hy,h1,h2,h3,qQ]
   ·(refine eM call254 λF hF=>?_)
    (have zc1:=ex;have zc2:=ey;have zc3:=lx;have zc4:=ly;have zc5:=sx;have zc6:=sy;refine WG ?_;clear zc1 zc2 zc3 zc4 zc5 zc6)
    refine zI [] Z Z (zY3 bA ?_) Z;simp[cW,QF,hx,hy,h1,h2,qQ]
  ·(refine eM call254 λF hF=>?_)
   (have zc1:=ex;have zc2:=ey;have zc3:=lx;have zc4:=ly;have zc5:=sx;have zc6:=sy;refine WG ?_;clear zc1 zc2 zc3 zc4 zc5 zc6)
   refine zI [] Z Z (zY3 bA ?_) Z;simp[cW,QF,hx,hy,h1,qQ]
def kZ (g:Cf) (s:Sv) (now:Int) (xs:List Cl):Nat->Int
 |0=> -1
 |i+1=>if zGr g.lock s.en now (xs.getD i default).ph (xs.getD i default).k then kZ g s now xs i
  else if kZ g s now xs i<0 then i
  else if cW g.per g.cap s.en now (xs.getD i default) (xs.getD (kZ g s now xs i).toNat default)then i else kZ g s now xs i
theorem UC (g:Cf) (s:Sv) (now:Int) (xs:List Cl):∀i,-1<=kZ g s now xs i/\kZ g s now xs i<i∨kZ g s now xs i= -1
 |0=> .inr Z
 | i+1=>by
  have:=UC g s now xs i;unfold kZ;split
  ·omega
  ·split
   ·omega
   ·split<;>omega
def AF (g:Cf) (s:Sv) (now:Int) (xs:List Cl) (i:Nat):kZ g s now xs (i+1)=if zGr g.lock s.en now (xs.getD i default).ph (xs.getD i default).k=true then kZ g s now xs i
 else if kZ g s now xs i<0 then(i:Int)
 else if cW g.per g.cap s.en now (xs.getD i default) (xs.getD (kZ g s now xs i).toNat default)=true then(i:Int)else kZ g s now xs i:=rfl
def zR0 (g:Cf) (s:Sv) (now:Int) (xs:List Cl) (hlen:xs.length<=1099511627776) (ok:∀i,i<xs.length->COk g.per now s.en (xs.getD i default)):zO 229 [vL g,vI s,iA now,zD cT xs] [] (iA (kZ g s now xs xs.length)) []:=by
 have hl:(xs.map cT).length=xs.length:=by simp
 refine eM call229 λF hF=>?_
 refine WO ?_
 refine vH (λn st=>∃i:Nat,n+i=xs.length/\st=⟨[(2,iA now),(3,zD cT xs),(4,.ptr 4 0 0),(5,.ptr 5 0 0),(9,iA (kZ g s now xs i)),(12,zD cT xs),(13,iA xs.length),(14,iA i)],[(4,.box [zD vC g.js,zD vU g.ags,iA g.per,iA g.cap,iA g.hold,iA g.lock]),(5,.box [iA s.ph,iA s.gr,zD iA s.en])]⟩)
  xs.length [4,5] [2,3,4,5,9,12,13,14] Z ⟨0,rfl,by rw[<-hl];rfl⟩ ?_
 rintro n st ⟨i,hi,rfl⟩;by_cases hlt:i<xs.length
 ·have hy:=yN cT xs i zB zB;have ok1:=ok i hlt;have hb:=UC g s now xs i;have hn:=AF g s now xs i;have lk:=zGs g s (xs.getD i default) now ok1;rw[show((i:Int)).toNat=i from Z]at hy
  cases hL:zGr g.lock s.en now (xs.getD i default).ph (xs.getD i default).k<;>rw[hL]at lk hn
  ·rw[zX2 zW]at hn;by_cases h0:kZ g s now xs i<0
   ·rw[zX3 h0]at hn
    (have zc1:=lk;refine WG ?_;clear zc1)
    exact⟨n-1,zB,i+1,zB,by rw[hn];rfl⟩
   ·rw[zX2 h0]at hn;have hy2:=yN cT xs (kZ g s now xs i) zB zB;have ls:=zRz g s (xs.getD i default) (xs.getD (kZ g s now xs i).toNat default) now ok1 (ok _ zB)
    cases hS:cW g.per g.cap s.en now (xs.getD i default) (xs.getD (kZ g s now xs i).toNat default)<;>rw[hS]at ls hn
    ·rw[zX2 zW]at hn
     (have zc1:=lk;have zc2:=ls;refine WG ?_;clear zc1 zc2)
     exact⟨n-1,zB,i+1,zB,by rw[hn];rfl⟩
    ·rw[zX3 Z]at hn
     (have zc1:=lk;have zc2:=ls;refine WG ?_;clear zc1 zc2)
     exact⟨n-1,zB,i+1,zB,by rw[hn];rfl⟩
  ·rw[zX3 Z]at hn
   (have zc1:=lk;refine WG ?_;clear zc1)
   exact⟨n-1,zB,i+1,zB,by rw[hn];rfl⟩
 ·obtain rfl:i=xs.length:=by omega
  refine WO ?_;exact zJ
theorem YU {α:Type} (P:α->Prop) (d:α):∀(l:List α) (i:Nat),(∀x∈l,P x)->i<l.length->P (l.getD i d)
 |l,i,h,hi=>by simp only[zYc,zYk hi,yAg];exact h _ (yAr hi)
def zMu (es:List Int) (now ph:Int) (h:0<=now) (he:∀e∈es,-1<=e/\e<=now): -1<=WE es ph/\WE es ph<=now:=by
 unfold WE;split
 ·omega
 ·exact YU (λe=> -1<=e/\e<=now) 0 es ph.toNat he zB
structure ClB (ph now:Int) (c:Cl):Prop where
 k0:0<=c.k
 k1:c.k<=3
 s0:0<=c.si
 s1:c.si<=now
 a0:0<=c.ag
 a1:c.ag<=2
 i0:0<=c.id
 i1:c.id<=3
 p0:0<=c.ph
 p1:c.ph<ph
def zGt {α:Type} (f:α->AV) (l:List α):AV.sl false ((l.map f).take (l.map f).length)=zD f l:=by rw[zX6];rfl
def AG (l:List Int) (hl:l.length<=1073741824):zO 91 [zD iA l] [] (.ref 1001 0 (l.map iA).length) [(1001,.arr 1 (l.map iA) false)]:=by
 have hll:=zA iA l;refine eM call91 λF hF=>?_
 refine yX 0 Z (λcap hx=>?_) ?_
 ·have:l=[]:=by simpa using hx
  subst this
  (repeat' (first|refine WZN ?_|apply xL|apply wB|intro hc|fail))
  refine uK 2 1001 1 Z Z Z (yU ?_);exact zL [1001] Z Z Z Z
 ·repeat' (first|(refine zE ?_;first|refine wL tok Z Z ?_|(refine xM ?_;refine zP (yG tok (.inl ⟨rfl,rfl⟩) Z Z Z Z) Z ?_)|(refine xR ?_;refine qE (nw:=[1001]) (yK tok 1001 (xs:=[]) Z Z Z Z Z Z Z Z Z) Z Z Z ?_)|(refine yD ?_;refine xF tok Z Z Z Z Z Z Z (zN _ _ (λ_=>rfl)) Z Z Z zB Z ?_)|refine uI ?_)|(first|refine xS ?_|refine xC ?_|refine vQ Z ?_|refine yC Z ?_|refine zU Z ?_|refine xH Z (λhc=>?_) λhc=>?_|refine yZ ?_|refine yU ?_|refine xB ?_|refine yQ ?_))
  exact zL [1001] Z Z Z Z
def zEa (l:List Int) (hl:l.length<=1073741824):zO 91 [zD iA l] [] (zD iA l) []:=by
 have hll:=zA iA l;refine eM call91 λF hF=>?_
 refine yX 0 Z (λcap hx=>?_) ?_
 ·have:l=[]:=by simpa using hx
  subst this;refine WW ?_;exact zJ
 ·(refine WW ?_)
  refine zI [] Z Z (zGt _ _) Z
structure SvB (s:Sv):Prop where
 n:s.en.length<=100000
def zEb (s:Sv) (h:SvB s):zO 151 [vI s] [] (.agg [iA s.ph,iA s.gr,.ref 1001 0 (s.en.map iA).length]) [(1001,.arr 1 (s.en.map iA) false)]:=by
 have c:=AG s.en (by have:=h.n;omega);refine eM call151 λF hF=>?_
 refine zY c ?_;exact zL [1001] Z Z Z Z
def UD (s:Sv) (h:SvB s):zO 151 [vI s] [] (vI s) []:=by
 have c:=zEa s.en (by have:=h.n;omega);refine eM call151 λF hF=>?_
 refine zY c ?_;exact zJ
def cR (s:Sv) (green:Bool):Sv:=if green=true/\s.ph≠ -1 then⟨s.ph,min s.gr 59+1,s.en⟩else s
def zMv (s:Sv) (h:SvB s) (b:Bool) (hg: -1000000<=s.gr):zO 215 [vI s,bA b] [] (vI (cR s b)) []:=by
 have c:=UD s h;by_cases h1:b=true
 ·subst h1;by_cases h2:s.ph= -1
  ·rw[show cR s true=s by simp[cR,h2]];refine eM call215 λF hF=>?_
   refine zY c ?_;exact zJ
  ·rw[show cR s true=⟨s.ph,min s.gr 59+1,s.en⟩ by simp[cR,h2]];refine eM call215 λF hF=>?_
   refine zY c ?_;exact zJ
 ·obtain rfl:b=false:=by simpa using h1
  rw[show cR s false=s by simp[cR]];refine eM call215 λF hF=>?_
  refine zY c ?_;exact zJ
def fU (s:Sv) (now:Int):Sv:=⟨-1,0,if 0<s.gr/\0<=s.ph/\s.ph<s.en.length then s.en.set s.ph.toNat now else s.en⟩
def zGu {α:Type} (f:α->AV) (l:List α) (i:Nat) (x:α) (n:Nat) (hn:n=l.length):AV.sl false (((l.map f).set i (f x)).take n)=zD f (l.set i x):=by
 rw[<-zZ8,zYe xX];rfl
def zGv (s:Sv) (h:SvB s) (now:Int):zO 212 [vI s,iA now] [] (vI (fU s now)) []:=by
 have c:=zEb s h;have hl:=zA iA s.en;by_cases h1:0<s.gr/\0<=s.ph/\s.ph<s.en.length
 ·obtain⟨h2,h3,h4⟩:=h1;have hy:=yN iA s.en s.ph h3 h4;rw[show fU s now=⟨-1,0,s.en.set s.ph.toNat now⟩ by simp[fU,h2,h3,h4]];refine eM call212 λF hF=>?_
  refine zY c ?_;refine zI [] Z Z (zY3 (λx=>AV.agg [iA (-1),iA 0,x]) (zGu iA s.en s.ph.toNat now _ hl)) Z
 ·rw[show fU s now=⟨-1,0,s.en⟩ by unfold fU;rw[zX2 h1]];refine eM call212 λF hF=>?_
  (have zc1:=c;(repeat' (first|refine uJ ?_|apply xL|apply wB|intro hc|(refine zE ?_;first|refine SM ?_)|fail))<;>clear zc1)
  all_goals (try omega)
  all_goals refine zI [] Z Z (zY3 (λx=>AV.agg [iA (-1),iA 0,x]) (zGt iA s.en)) Z
def zMw (n:Nat):Sv:=⟨-1,0,List.replicate n (-1)⟩
def zMx (n i:Nat) (h:i<n):((List.replicate i (-1:Int)++List.replicate (n-i) 0).map iA).set i (iA (-1))=(List.replicate (i+1) (-1:Int)++List.replicate (n-(i+1)) 0).map iA:=by
 rw[<-zZ8,show n-i=(n-(i+1))+1 by omega,yB1,yAy _ _ zW,zZs,yAa,yB4,yDb,zYw];rfl
def zR1 (n:Nat) (h:n<=100000):zO 113 [iA n] [] (vI (zMw n)) []:=by
 by_cases h0:n=0
 ·subst h0;refine eM call113 λF hF=>?_
  refine WW ?_;refine zS (0) [2,3] [2,3] [2,3,17] [18,2,3,17] Z (λi T U=>⟨(18,iA i)::T,U⟩) ?_;(conv=>whnf);refine⟨by rfl,?_,?_⟩
  ·intro i hi;omega
  ·(refine WW ?_)
   exact zJ
 ·have e0:List.replicate n (AV.s (.int .i64 0))=(List.replicate 0 (-1:Int)++List.replicate (n-0) 0).map iA:=by simp[iA]
  refine eM call113 λF hF=>?_
  refine WW ?_;refine zS (n) [13,2,3] [2,3] [2,3,17] [18,2,3,17] Z (λi T U=>⟨(18,iA i)::T,(13,.arr 1 ((List.replicate i (-1:Int)++List.replicate (n-i) 0).map iA) false)::U⟩) ?_;(conv=>whnf);refine⟨by(rw[<-e0];rfl),?_,?_⟩
  ·intro i hi;have hy:((List.replicate i (-1:Int)++List.replicate (n-i) 0).map iA)[i]? =some (iA 0):=by simp[show 0<n-i by omega]
   have e:=zMx n i hi;generalize (List.replicate i (-1:Int)++List.replicate (n-i) 0).map iA=xs at *;generalize (List.replicate (i+1) (-1:Int)++List.replicate (n-(i+1)) 0).map iA=ys at *;subst e;refine WW ?_;rfl
  ·rw[show n-n=0 by omega,yDd,zY4];refine WW ?_;exact zI [] Z Z (zY3 (λx=>AV.agg [iA (-1),iA 0,AV.sl false x]) (zYe zW)) Z
def WH {α:Type} (p:α->Bool) (l:List α):Int:=if l.any p=true then(l.findIdx p:Int)else -1
def PW {α:Type} {p:α->Bool} {l pre post:List α} {x:α} (h:l=pre++x::post) (hn:∀y∈pre,p y=false) (hx:p x=true):WH p l=(pre.length:Int):=by
 subst h;have h1:(pre++x::post).any p=true:=by simp[hx]
 have h2:pre.findIdx p=pre.length:=List.findIdx_eq_length.2 (λy hy=>by simpa using hn y hy);unfold WH;rw[zX3 h1,List.findIdx_append,h2,zX2 zB,List.findIdx_cons,hx];simp
def SW {α:Type} {p:α->Bool} {l:List α} (hn:∀y∈l,p y=false):WH p l= -1:=by
 unfold WH;rw[zX2 DK]
def PX {α:Type} (p:α->Bool) (l:List α):(0<=WH p l)=(l.any p=true):=by
 unfold WH
 split<;>simp_all
def JG {α:Type} (p:α->Bool) (l:List α): -1<=WH p l/\WH p l<=l.length:=by
 unfold WH;have:=List.findIdx_le_length (p:=p) (xs:=l)
 split<;>omega
def zEc (l:List Cl) (hb:l.length<=1073741824):zO 120 [zD cT l,.fn 87 []] [] (iA (WH (λc=>XR c.k) l)) []:=by
 have hl:=zA cT l;refine eM call120 λF hF=>?_
 refine WW ?_;refine kN (l) [] [] [0,1,7] [8,0,1,7] Z (λi pre T U zs=>(∀y∈pre,XR y.k=false)/\zs=⟨(8,iA i)::T,U⟩) ?_;(conv=>whnf);refine⟨?_,?_,?_⟩
 ·exact⟨by simp,rfl⟩
 ·rintro i pre x post st hx hi ⟨hp,rfl⟩;have hy:=xQ cT hx hi;have hlt:=yW hx hi;have c:=kY x;have hit:=PW (p:=λc=>XR c.k) hx hp
  cases he:XR x.k<;>rw[he]at c
  ·(refine zY c ?_)
   exact⟨λy hy=>by simp at hy;rcases hy with hy|rfl;exact hp y hy;exact he,rfl⟩
  ·rw[hit he,hi];refine zY c ?_;exact zJ
 ·rintro st ⟨hp,rfl⟩;rw[SW hp];refine WW ?_;exact zJ
def JH (l:List Cl) (hb:l.length<=1073741824):zO 85 [zD cT l,.fn 87 []] [] (bA (l.any λc=>XR c.k)) []:=by
 have c:=zEc l hb;have h:=PX (λc:Cl=>XR c.k) l;have h2:=JG (λc:Cl=>XR c.k) l;generalize WH (λc:Cl=>XR c.k) l=n at*
 cases ha:(l.any λc=>XR c.k)<;>rw[ha]at h<;>simp at h
 ·(refine eM call85 λF hF=>?_)
  refine zY c ?_;exact zJ
 ·(refine eM call85 λF hF=>?_)
  refine zY c ?_;exact zJ
def ZD (s:Sv):xN:= .box [iA s.ph,iA s.gr,zD iA s.en]
def zGw (s:Sv) (x:Cl):zO 251 [cT x,.ptr 4 0 0] [(4,ZD s)] (bA (x.ph==s.ph)) [(4,ZD s)]:=by
 refine eM call251 λF hF=>?_
 refine WW ?_;exact zL [4] Z Z Z Z
def zGx (s:Sv) (x:Cl):zO 252 [cT x,.ptr 7 0 0] [(7,.box [.fn 251 [.ptr 4 0 0]]),(4,ZD s)] (bA (x.ph==s.ph&&XR x.k)) [(7,.box [.fn 251 [.ptr 4 0 0]]),(4,ZD s)]:=by
 have c:=zGw s x;have e:=kY x
 cases h:(x.ph==s.ph)<;>rw[h]at c
 ·(refine eM call252 λF hF=>?_)
  refine yR (wZ c e) ?_;exact zL [7,4] Z Z Z Z
 ·rw[zYr];refine eM call252 λF hF=>?_
  refine yR (wZ c e) ?_;exact zL [7,4] Z Z Z Z
def FJ (s:Sv) (l:List Cl) (hb:l.length<=1073741824):zO 120 [zD cT l,.fn 251 [.ptr 4 0 0]] [(4,ZD s)] (iA (WH (λx:Cl=>x.ph==s.ph) l)) [(4,ZD s)]:=by
 have hl:=zA cT l;refine eM call120 λF hF=>?_
 refine WW ?_;refine kN (l) [4] [4] [0,1,7] [8,0,1,7] Z (λi pre T U zs=>(∀y∈pre,((λx:Cl=>x.ph==s.ph)) y=false)/\zs=⟨(8,iA i)::T,U⟩) ?_;(conv=>whnf);refine⟨?_,?_,?_⟩
 ·exact⟨by simp,rfl⟩
 ·rintro i pre x post st hx hi ⟨hp,rfl⟩;have hy:=xQ cT hx hi;have hlt:=yW hx hi;have c:=zGw s x;have hit:=PW (p:=(λx:Cl=>x.ph==s.ph)) hx hp
  try dsimp only at hit
  cases he:((λx:Cl=>x.ph==s.ph)) x<;>(dsimp only at he;rw[he]at c)
  ·(refine zY c ?_)
   exact⟨λy hy=>by simp only[zYy,zZd]at hy;rcases hy with hy|rfl;exact hp y hy;exact he,rfl⟩
  ·rw[hit he,hi];refine zY c ?_;exact zL [4] Z Z Z Z
 ·rintro st ⟨hp,rfl⟩;rw[SW hp];refine WW ?_;exact zL [4] rfl rfl rfl rfl
def PY (s:Sv) (l:List Cl) (hb:l.length<=1073741824):zO 85 [zD cT l,.fn 251 [.ptr 4 0 0]] [(4,ZD s)] (bA (l.any (λx:Cl=>x.ph==s.ph))) [(4,ZD s)]:=by
 have c:=FJ s l hb;have h:=PX (λx:Cl=>x.ph==s.ph) l;have h2:=JG (λx:Cl=>x.ph==s.ph) l;generalize WH (λx:Cl=>x.ph==s.ph) l=n at*
 cases ha:l.any (λx:Cl=>x.ph==s.ph)<;>rw[ha]at h<;>simp at h
 ·(refine eM call85 λF hF=>?_)
  refine zY c ?_;exact zL [4] Z Z Z Z
 ·(refine eM call85 λF hF=>?_)
  refine zY c ?_;exact zL [4] Z Z Z Z
def AH (s:Sv) (l:List Cl) (hb:l.length<=1073741824):zO 120 [zD cT l,.fn 252 [.ptr 7 0 0]] [(7,.box [.fn 251 [.ptr 4 0 0]]),(4,ZD s)] (iA (WH (λx:Cl=>x.ph==s.ph&&XR x.k) l)) [(7,.box [.fn 251 [.ptr 4 0 0]]),(4,ZD s)]:=by
 have hl:=zA cT l;refine eM call120 λF hF=>?_
 refine WW ?_;refine kN (l) [7,4] [7,4] [0,1,7] [8,0,1,7] Z (λi pre T U zs=>(∀y∈pre,((λx:Cl=>x.ph==s.ph&&XR x.k)) y=false)/\zs=⟨(8,iA i)::T,U⟩) ?_;(conv=>whnf);refine⟨?_,?_,?_⟩
 ·exact⟨by simp,rfl⟩
 ·rintro i pre x post st hx hi ⟨hp,rfl⟩;have hy:=xQ cT hx hi;have hlt:=yW hx hi;have c:=zGx s x;have hit:=PW (p:=(λx:Cl=>x.ph==s.ph&&XR x.k)) hx hp
  try dsimp only at hit
  cases he:((λx:Cl=>x.ph==s.ph&&XR x.k)) x<;>(dsimp only at he;rw[he]at c)
  ·(refine zY c ?_)
   exact⟨λy hy=>by simp only[zYy,zZd]at hy;rcases hy with hy|rfl;exact hp y hy;exact he,rfl⟩
  ·rw[hit he,hi];refine zY c ?_;exact zL [7,4] Z Z Z Z
 ·rintro st ⟨hp,rfl⟩;rw[SW hp];refine WW ?_;exact zL [7,4] rfl rfl rfl rfl
def MK (s:Sv) (l:List Cl) (hb:l.length<=1073741824):zO 85 [zD cT l,.fn 252 [.ptr 7 0 0]] [(7,.box [.fn 251 [.ptr 4 0 0]]),(4,ZD s)] (bA (l.any (λx:Cl=>x.ph==s.ph&&XR x.k))) [(7,.box [.fn 251 [.ptr 4 0 0]]),(4,ZD s)]:=by
 have c:=AH s l hb;have h:=PX (λx:Cl=>x.ph==s.ph&&XR x.k) l;have h2:=JG (λx:Cl=>x.ph==s.ph&&XR x.k) l;generalize WH (λx:Cl=>x.ph==s.ph&&XR x.k) l=n at*
 cases ha:l.any (λx:Cl=>x.ph==s.ph&&XR x.k)<;>rw[ha]at h<;>simp at h
 ·(refine eM call85 λF hF=>?_)
  refine zY c ?_;exact zL [7,4] Z Z Z Z
 ·(refine eM call85 λF hF=>?_)
  refine zY c ?_;exact zL [7,4] Z Z Z Z
def LK (g:Cf) (s:Sv) (l:List Cl):Bool:=!(l.any λx=>x.ph==s.ph)||decide (g.hold<=s.gr)||((l.any λc=>XR c.k)&& !(l.any λx=>x.ph==s.ph&&XR x.k))
def zR2 (g:Cf) (s:Sv) (l:List Cl) (hb:l.length<=1073741824):zO 228 [vL g,vI s,zD cT l] [] (bA (LK g s l)) []:=by
 have c1:=PY s l hb;have c2:=MK s l hb;have c3:=JH l hb;unfold LK;generalize (l.any λx=>x.ph==s.ph)=m at *;generalize (l.any λx=>x.ph==s.ph&&XR x.k)=u at *;generalize (l.any λc=>XR c.k)=e at *;by_cases h:g.hold<=s.gr
 ·rw[zYa h]
  cases m<;>cases u<;>cases e<;>(simp only[yDk,yC1,yBh,yA7,yBp,yCg,yBt];(refine eM call228 λF hF=>?_);(refine yR (fQ c1 c3 c2) ?_);exact zJ)
 ·rw[zYb h]
  cases m<;>cases u<;>cases e<;>(simp only[yDk,yC1,yBh,yA7,yBp,yD3,yCg,yBt];(refine eM call228 λF hF=>?_);(refine yR (fQ c1 c3 c2) ?_);exact zJ)
def dD (g:Cf) (s:Sv) (l:List Cl) (now:Int):Sv:=if s.ph≠ -1/\LK g s l=true then fU s now else s
def jA (g:Cf) (s:Sv) (l:List Cl) (now:Int):Sv:=
 if(dD g s l now).ph= -1/\0<=kZ g (dD g s l now) now l l.length then⟨(l.getD (kZ g (dD g s l now) now l l.length).toNat default).ph,0,(dD g s l now).en⟩else dD g s l now
def SY (s:Sv) (now:Int):(fU s now).en.length=s.en.length:=by unfold fU;dsimp only;split<;>simp
def zGy (g:Cf) (s:Sv) (l:List Cl) (now:Int):(dD g s l now).en.length=s.en.length:=by unfold dD;split;exact SY s now;rfl
structure DcB (g:Cf) (s:Sv) (l:List Cl) (now:Int):Prop where
 p:1<=g.per
 c0: -1000000<=g.cap
 c1:g.cap<=1000000
 n0:0<=now
 n1:now<=1000000000
 en:∀e∈s.en,-1<=e/\e<=now
 k:∀c∈l,0<=c.k/\c.k<=3
 si:∀c∈l,0<=c.si/\c.si<=now
 len:l.length<=1000
 sl:s.en.length<=1000
def PZ (s:Sv) (now:Int) (h0:0<=now) (h:∀e∈s.en,-1<=e/\e<=now):∀e∈(fU s now).en,-1<=e/\e<=now:=by
 unfold fU;dsimp only;split
 ·intro e he
  rcases yAv he with he|rfl
  ·exact h e he
  ·omega
 ·exact h
def zB4 (g:Cf) (s:Sv) (l:List Cl) (now:Int) (h0:0<=now) (h:∀e∈s.en,-1<=e/\e<=now):∀e∈(dD g s l now).en,-1<=e/\e<=now:=by
 unfold dD;split;exact PZ s now h0 h;exact h
theorem DcB.ok {g:Cf} {s:Sv} {l:List Cl} {now:Int} (H:DcB g s l now) (s':Sv) (he:∀e∈s'.en,-1<=e/\e<=now):∀i,i<l.length->COk g.per now s'.en (l.getD i default):=λi hi=>by
 have hk:=YU (λc:Cl=>0<=c.k/\c.k<=3) default l i H.k hi;have hs:=YU (λc:Cl=>0<=c.si/\c.si<=now) default l i H.si hi;have he:=zMu s'.en now (l.getD i default).ph H.n0 he;have:=H.p;have:=H.n0;have:=H.n1
 constructor<;>(try unfold UA)<;>omega
def zGz (g:Cf) (s:Sv) (l:List Cl) (now:Int) (H:DcB g s l now):zO 213 [vL g,vI s,zD cT l,iA now] [] (vI (jA g s l now)) []:=by
 have hb:SvB s:=⟨by have:=H.sl;omega⟩;have c1:=UD s hb;have c2:=zR2 g s l (by have:=H.len;omega);have c3:=zGv s hb now;have hl:=zA cT l;have hll:=H.len;have he:=zB4 g s l now H.n0 H.en;have c4:=zR0 g (dD g s l now) now l zB (H.ok _ he);have hbd:=UC g (dD g s l now) now l l.length
 have hd:dD g s l now=if s.ph≠ -1/\LK g s l=true then fU s now else s:=rfl
 unfold jA;generalize dD g s l now=s1 at *;generalize kZ g s1 now l l.length=b at *;generalize LK g s l=ov at *;generalize fU s now=s2 at *;by_cases h1:s.ph= -1
 ·rw[zX2 (by simp[h1])]at hd;subst hd;by_cases h2:0<=b
  ·rw[zX3 ⟨h1,h2⟩];have hy:=yN cT l b h2 zB;generalize l.getD b.toNat default=cl at *;refine eM call213 λF hF=>?_
   refine yR (wZ c1 c4) ?_;exact zJ
  ·rw[zX2 (λh=>h2 h.2)];refine eM call213 λF hF=>?_
   refine yR (wZ c1 c4) ?_;exact zJ
 cases ov with
 |false=>
  rw[zX2 zW]at hd;subst hd;rw[zX2 (λh=>h1 h.1)];refine eM call213 λF hF=>?_
  refine yR (wZ c1 c2) ?_;exact zJ
 | true=>
  rw[zX3 ⟨h1,rfl⟩]at hd;subst hd;by_cases h3:s1.ph= -1
  ·by_cases h2:0<=b
   ·rw[zX3 ⟨h3,h2⟩];have hy:=yN cT l b h2 zB;generalize l.getD b.toNat default=cl at *;refine eM call213 λF hF=>?_
    refine yR (XU c1 c2 c3 c4) ?_;exact zJ
   ·rw[zX2 (λh=>h2 h.2)];refine eM call213 λF hF=>?_
    refine yR (XU c1 c2 c3 c4) ?_;exact zJ
  ·rw[zX2 (λh=>h3 h.1)];refine eM call213 λF hF=>?_
   refine yR (XU c1 c2 c3 c4) ?_;exact zJ
def zB5 (g:Cf) (s:Sv) (l:List Cl) (now:Int):(jA g s l now).en=(dD g s l now).en:=by unfold jA;split<;>rfl
def UE (g:Cf) (s:Sv) (l:List Cl) (now:Int):(jA g s l now).en.length=s.en.length:=by rw[zB5];exact zGy g s l now
def AI (g:Cf) (s:Sv) (l:List Cl) (now:Int):(dD g s l now=s∨(s.ph≠ -1/\LK g s l=true/\dD g s l now=fU s now)):=by
 unfold dD;split
 ·rename_i h;exact .inr ⟨h.1,h.2,rfl⟩
 ·exact .inl Z
def zB6 (g:Cf) (s:Sv) (l:List Cl) (now:Int):(dD g s l now).ph=s.ph/\(dD g s l now).gr=s.gr∨(dD g s l now).ph= -1/\(dD g s l now).gr=0:=by
 rcases AI g s l now with hd|⟨_,_,hd⟩
 ·exact .inl (by rw[hd];exact⟨rfl,rfl⟩)
 ·exact .inr (by rw[hd];exact⟨rfl,rfl⟩)
def zR3 (g:Cf) (s:Sv) (l:List Cl) (now:Int) (n:Int) (hl:∀c∈l,0<=c.ph/\c.ph<n) (h: -1<=s.ph/\s.ph<n/\0<=s.gr/\s.gr<=60) (h0:0<=n): -1<=(jA g s l now).ph/\(jA g s l now).ph<n/\0<=(jA g s l now).gr/\(jA g s l now).gr<=60:=by
 have h1:=zB6 g s l now;have hb:=UC g (dD g s l now) now l l.length;unfold jA;split
 ·rename_i hh;have:=YU (λc:Cl=>0<=c.ph/\c.ph<n) default l (kZ g (dD g s l now) now l l.length).toNat hl zB;dsimp only;omega
 ·omega
def zG0 (g:Cf) (s:Sv) (l:List Cl) (now:Int) (h0:0<=now) (h:∀e∈s.en,-1<=e/\e<=now):∀e∈(jA g s l now).en,-1<=e/\e<=now:=by rw[zB5];exact zB4 g s l now h0 h
def zR4 (s:Sv) (b:Bool):(cR s b).en=s.en/\(cR s b).ph=s.ph:=by unfold cR;split<;>exact⟨rfl,rfl⟩
def zR5 (s:Sv) (b:Bool) (h:0<=s.gr/\s.gr<=60):0<=(cR s b).gr/\(cR s b).gr<=60:=by unfold cR;split;(dsimp only;omega);exact h
def zVa (s:Sv) (b:Bool) (hz:s.ph= -1->s.gr=0):(cR s b).ph= -1->(cR s b).gr=0:=by
 unfold cR;split
 ·rename_i h;intro h2;exact absurd h2 h.2
 ·exact hz
def zVb (g:Cf) (s:Sv) (l:List Cl) (now:Int) (hz:s.ph= -1->s.gr=0):(jA g s l now).ph= -1->(jA g s l now).gr=0:=by
 have h1:=zB6 g s l now;unfold jA;split
 ·exact λ_=>rfl
 ·intro h2;rcases h1 with h1|h1
  ·rw[h1.2];exact hz zB
  ·exact h1.2
structure EI (n:Nat) (d:Dk) (s:Sv) (now:Int):Prop where
 len:s.en.length=n
 en:∀e∈s.en,-1<=e/\e<now
 p0: -1<=s.ph
 p1:s.ph<n
 g0:0<=s.gr
 g1:s.gr<=60
 n0:1<=now
 n1:now+rem d<=301
 z:s.ph= -1->s.gr=0
theorem EI.next {n:Nat} {d:Dk} {s:Sv} {now:Int} (H:EI n d s now) (g:Cf) (c:List Cl) (hcl:∀x∈c,ClB n now x) (b:Bool) (d':Dk) (hd:rem d'+1<=rem d):EI n d' (cR (jA g s c now) b) (now+1):=by
 have hp:=zR3 g s c now n (λx hx=>⟨(hcl x hx).p0,(hcl x hx).p1⟩) ⟨H.p0,H.p1,H.g0,H.g1⟩ zB;have hg:=zR5 (jA g s c now) b hp.2.2;obtain⟨e1,e2⟩:=zR4 (jA g s c now) b;have:=H.n0;have:=H.n1;have he:=zG0 g s c now zB (λe he=>by have:=H.en e he;omega);refine⟨by rw[e1,UE];exact H.len,λe h=>?_,zB,zB,zB,zB,zB,zB,λh=>?_⟩
 case refine_2=>exact zVa _ b (zVb g s c now H.z) h
 rw[e1]at h;have:=he e h;omega
def zB7 (s:Sg) (h1:s.c.li.length<=1073741824) (h2:s.c.nx.length<=1073741824):zO 149 [vJ s] [] (vJ s) []:=by
 have c1:=LJ s.c.li h1;have c2:=LI s.c.nx h2;refine eM call149 λF hF=>?_
 refine yR (wZ c1 c2) ?_;exact zJ
def grB (s:Sg) (v:Sv):Bool:=decide (0<=v.ph/\v.ph<s.c.li.length)&&((vN s.c v.ph.toNat).lamp==1)
def dvF (g:Cf) (j:Jn) (s:Sg) (v:Sv) (l:List Cl) (k now:Int):Sg×Sv:=
 if s.lat=true then(s,fU v now)
 else if(sjF j s (jA g v l now).ph k).lat=true then(sjF j s (jA g v l now).ph k,fU (jA g v l now) now)
 else(sjF j s (jA g v l now).ph k,cR (jA g v l now) (grB (sjF j s (jA g v l now).ph k) (jA g v l now)))
def zMy (g:Cf) (j:Jn) (J:JV j) (s:Sg) (C:CV j s.c) (v:Sv) (l:List Cl) (k now:Int) (H:DcB g v l now) (hgr: -1000000<=(jA g v l now).gr):zO 190 [vL g,vC j,vJ s,vI v,zD cT l,iA k,iA now] [] (.tup [vJ (dvF g j s v l k now).1,vI (dvF g j s v l k now).2]) []:=by
 have hJ:=J.n;have hn:=C.n;have hm:=C.m;have hb:SvB v:=⟨by have:=H.sl;omega⟩;have hb2:SvB (jA g v l now):=⟨by rw[UE];have:=H.sl;omega⟩;have c0:=zB7 s zB zB;have c1:=zGv v hb now;have c2:=zGz g v l now H;have c3:=zMr j J s C (jA g v l now).ph k;have c4:=zGv (jA g v l now) hb2 now;have c5:=zMv (jA g v l now) hb2 (grB (sjF j s (jA g v l now).ph k) (jA g v l now)) hgr;have X:=zU9 J C (jA g v l now).ph k;have hxn:=X.n;unfold dvF;generalize fU v now=v0 at *;generalize jA g v l now=v1 at *;generalize fU v1 now=v2 at *;generalize sjF j s v1.ph k=x at *;have hgb:grB x v1=(decide (0<=v1.ph/\v1.ph<x.c.li.length)&&((vN x.c v1.ph.toNat).lamp==1)):=rfl;generalize grB x v1=b at *;generalize cR v1 b=v3 at *;clear H hgr X C hb hb2;obtain⟨sc,sl⟩:=s;obtain⟨xc,xl⟩:=x;dsimp only at *;have hlx:=zA vT xc.li
 cases sl with
 |true=>
  rw[zX3 Z];refine eM call190 λF hF=>?_
  refine yR (wZ c0 c1) ?_;exact zJ
 |false=>
 rw[zX2 zYp]
 cases xl with
 |true=>
  rw[zX3 Z];refine eM call190 λF hF=>?_
  refine yR (fQ c2 c3 c4) ?_;exact zJ
 |false=>
 rw[zX2 zYp];dsimp only;rw[show vJ ⟨xc,false⟩= .agg [zD vT xc.li,iA xc.gr,zD iA xc.nx,iA xc.wt,bA false]from Z]at *; by_cases h1:0<=v1.ph
 case neg=>
  rw[zYb (λh=>h1 h.1),zZv]at hgb;subst hgb;refine eM call190 λF hF=>?_
  refine yR (fQ c2 c3 c5) ?_;exact zJ
 by_cases h2:v1.ph<xc.li.length
 case neg=>
  rw[zYb (λh=>h2 h.2),zZv]at hgb;subst hgb;refine eM call190 λF hF=>?_
  refine yR (fQ c2 c3 c5) ?_;exact zJ
 rw[zYa ⟨h1,h2⟩,zYr]at hgb;have hy:=yN vT xc.li v1.ph h1 h2
 change (xc.li.map vT)[v1.ph.toNat]? =some (vT (vN xc v1.ph.toNat))at hy
 generalize vN xc v1.ph.toNat=a at *;by_cases h3:a.lamp=1
 ·rw[show(a.lamp==1)=true by rw[zZb];exact h3]at hgb;subst hgb;refine eM call190 λF hF=>?_
  refine yR (fQ c2 c3 c5) ?_;exact zJ
 ·rw[show(a.lamp==1)=false by rw[zY6];exact h3]at hgb;subst hgb;refine eM call190 λF hF=>?_
  refine yR (fQ c2 c3 c5) ?_;exact zJ
def zVc {j:Jn} (J:JV j) {s:Sg} (C:CV j s.c) (g:Cf) (v:Sv) (c:List Cl) (k now:Int):CV j (dvF g j s v c k now).1.c:=by
 unfold dvF;split
 ·exact C
 ·split<;>exact zU9 J C _ _
structure Ss where
 op:Bool
 dr:Bool
 bf:List Int
 gb:Bool
instance:Inhabited Ss:=⟨⟨false,false,[],false⟩⟩
def UF (m n:Nat):Nat:=min n (256-m)
def FK (s:Ss) (b:List Int):Ss:=if s.op=true then⟨true,s.dr||decide (UF s.bf.length b.length≠b.length),s.bf++b.take (UF s.bf.length b.length),s.gb⟩else s
def zMz {s:Ss} (h:s.bf.length<=256) (b:List Int):(FK s b).bf.length<=256:=by
 unfold FK;split
 ·simp only[zX4,zYn];unfold UF;omega
 ·exact h
def AJ (l:List Vw) (hl:l.length<=1073741824):zO 90 [zD vW l] [] (.ref 1001 0 (l.map vW).length) [(1001,.arr 4 (l.map vW) false)]:=by
 have hll:=zA vW l;refine eM call90 λF hF=>?_
 refine yX 0 Z (λcap hx=>?_) ?_
 ·have:l=[]:=by simpa using hx
  subst this
  (repeat' (first|refine WZN ?_|apply xL|apply wB|intro hc|fail))
  refine uK 2 1001 4 Z Z Z (yU ?_);exact zL [1001] Z Z Z Z
 ·repeat' (first|(refine zE ?_;first|refine wL tok Z Z ?_|(refine xM ?_;refine zP (yG tok (.inl ⟨rfl,rfl⟩) Z Z Z Z) Z ?_)|(refine xR ?_;refine qE (nw:=[1001]) (yK tok 1001 (xs:=[]) Z Z Z Z Z Z Z Z Z) Z Z Z ?_)|(refine yD ?_;refine xF tok Z Z Z Z Z Z Z (zN _ _ (λ_=>rfl)) Z Z Z zB Z ?_)|refine uI ?_)|(first|refine xS ?_|refine xC ?_|refine vQ Z ?_|refine yC Z ?_|refine zU Z ?_|refine xH Z (λhc=>?_) λhc=>?_|refine yZ ?_|refine yU ?_|refine xB ?_|refine yQ ?_))
  exact zL [1001] Z Z Z Z
def YV (l:List Vw) (hn:l.length<=1000) (hb:∀v∈l,v.co.length<=1000/\v.cn.length<=1000):zO 56 [zD vW l] [] (zD vW l) []:=by
 have c:=AJ l zB;have hll:=zA vW l;refine eM call56 λF hF=>?_
 refine zY c ?_;refine zS ((l.map vW).length) [1001] [] [0,7] [8,0,7] Z (λi T U=>⟨(8,iA i)::T,(1001,.arr 4 (jQ i (l.map vW)) false)::U⟩) ?_;(conv=>whnf);refine⟨by rfl,?_,?_⟩
 ·intro i hi;have hi':i<l.length:=by omega
  have hy:(jQ i (l.map vW))[i]? =some (vW (l.getD i default)):=zM vW l i hi';have e:=jD vW l i hi';have hbb:=hb (l.getD i default) ZK;have c1:=UO (l.getD i default).co zB;have c2:=UO (l.getD i default).cn zB;generalize (l.getD i default)=t at *;generalize jQ i (l.map vW)=xs at *;generalize jQ (i+1) (l.map vW)=ys at *;have hs:=fV hy;have hy2:(xs.set i (.agg [bA t.fl,bA t.ov,zD iA t.co,zD iA t.cn]))[i]? =some (vW t):=by rw[show AV.agg [bA t.fl,bA t.ov,zD iA t.co,zD iA t.cn]=vW t from Z,hs];exact hy
  have e2:(xs.set i (.agg [bA t.fl,bA t.ov,zD iA t.co,zD iA t.cn])).set i (.agg [bA t.fl,bA t.ov,zD iA t.co,zD iA t.cn])=ys:=by rw[yCy];exact e
  clear e hs;subst e2;refine yR (wZ c1 c2) ?_;rfl
 ·(refine WW ?_)
  exact zI [] Z Z (zY3 (AV.sl false) zX6) Z
def jB (s:Ss):AV:= .agg [bA s.op,bA s.dr,zD yA s.bf,bA s.gb]
def JJ (s:Ss) (h:s.bf.length<=1000):zO 115 [jB s] [] (jB s) []:=by
 have c:=wK s.bf zB;unfold jB;refine eM call115 λF hF=>?_
 refine zY c ?_;exact zJ
structure Ev where
 k:Int
 s:Int
 a:Int
 b:Int
 y:List Int
instance:Inhabited Ev:=⟨⟨0,0,0,0,[]⟩⟩
def dU (e:Ev):AV:= .agg [iA e.k,iA e.s,iA e.a,iA e.b,zD yA e.y]
def zR6 (e:Ev) (h:e.y.length<=1000000):zO 63 [dU e] [] (dU e) []:=by
 have c:=wK e.y zB;unfold dU;refine eM call63 λF hF=>?_
 refine zY c ?_;exact zJ
end Av
end Go.Proofs.YteajjdidebfcjaaGreat
