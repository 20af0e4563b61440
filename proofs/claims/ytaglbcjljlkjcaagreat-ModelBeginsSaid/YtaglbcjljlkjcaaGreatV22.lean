/- Part 22. -/
import Derived.Test.YtaglbcjljlkjcaaGreatV21
namespace Go.Proofs.YtaglbcjljlkjcaaGreat.Av
open Tryz
set_option linter.all false
set_option maxRecDepth 4000
set_option maxHeartbeats 2000000
open List renaming length->ln,replicate->pg
open Inhabited renaming default->dd
variable {g:Cf}{ga:Int}{l:List Cl}{s:Sv}{α:Type}
def SI (u cap:Int) (y:List Int) (ga:Int) (x:Cl):Int:=if cA x.k then x.k else UQ u cap y ga x.ph x.k x.si
def gK (u cap:Int) (z:List Int) (ga:Int) (x y:Cl):Bool:=
 if cA x.k≠cA y.k then cA x.k
 else if SI u cap z ga x≠SI u cap z ga y then decide (SI u cap z ga y<SI u cap z ga x)
 else if jM z x.ph x.si≠jM z y.ph y.si then decide (jM z x.ph x.si<jM z y.ph y.si)
 else if x.ag≠y.ag then decide (x.ag<y.ag)else decide (x.id<y.id)
theorem gy (g:Cf) (s:Sv) (x y:Cl) (ga:Int) (L:Ih g.per ga s.en x) (M:Ih g.per ga s.en y):zO 280 [vL g,xZ s,iA ga,uK x,uK y] [] (bA (gK g.per g.cap s.en ga x y)) []:=by
 have u:=kR x;have z:=kR y;have B:=Od g s x ga L;have C:=Od g s y ga M;have E:=UP s x;have G:=UP s y
 cases hx:cA x.k<;>cases A:cA y.k<;>rw[hx]at u<;>rw[A]at z
 .by_cases h1:UQ g.per g.cap s.en ga x.ph x.k x.si=UQ g.per g.cap s.en ga y.ph y.k y.si
  .by_cases h2:jM s.en x.ph x.si=jM s.en y.ph y.si
   .by_cases I:x.ag=y.ag
    all_goals
     (refine eM call280 λF hF=>?_)
     (have gt:=u;have gv:=z;have ic:=B;have io:=C;have kj:=E;have lb:=G;refine WG ?_;clear gt gv ic io kj lb)
     refine zH [] Z Z (zAt bA ?_) Z;simp[gK,SI,hx,A,h1,h2,I,kL]
   ·(refine eM call280 λF hF=>?_)
    (have gt:=u;have gv:=z;have ic:=B;have io:=C;have kj:=E;have lb:=G;refine WG ?_;clear gt gv ic io kj lb)
    refine zH [] Z Z (zAt bA ?_) Z;simp[gK,SI,hx,A,h1,h2,kL]
  ·(refine eM call280 λF hF=>?_)
   (have gt:=u;have gv:=z;have ic:=B;have io:=C;have kj:=E;have lb:=G;refine WG ?_;clear gt gv ic io kj lb)
   refine zH [] Z Z (zAt bA ?_) Z;simp[gK,SI,hx,A,h1,kL]
 ·(refine eM call280 λF hF=>?_)
  (have gt:=u;have gv:=z;have ic:=B;have io:=C;have kj:=E;have lb:=G;refine WG ?_;clear gt gv ic io kj lb)
  refine zH [] Z Z (zAt bA ?_) Z;simp[gK,hx,A]
 ·(refine eM call280 λF hF=>?_)
  (have gt:=u;have gv:=z;have ic:=B;have io:=C;have kj:=E;have lb:=G;refine WG ?_;clear gt gv ic io kj lb)
  refine zH [] Z Z (zAt bA ?_) Z;simp[gK,hx,A]
 .by_cases h1:x.k=y.k
  .by_cases h2:jM s.en x.ph x.si=jM s.en y.ph y.si
   .by_cases I:x.ag=y.ag
    all_goals
     (refine eM call280 λF hF=>?_)
     (have gt:=u;have gv:=z;have ic:=B;have io:=C;have kj:=E;have lb:=G;refine WG ?_;clear gt gv ic io kj lb)
     refine zH [] Z Z (zAt bA ?_) Z;simp[gK,SI,hx,A,h1,h2,I,kL]
   ·(refine eM call280 λF hF=>?_)
    (have gt:=u;have gv:=z;have ic:=B;have io:=C;have kj:=E;have lb:=G;refine WG ?_;clear gt gv ic io kj lb)
    refine zH [] Z Z (zAt bA ?_) Z;simp[gK,SI,hx,A,h1,h2,kL]
  ·(refine eM call280 λF hF=>?_)
   (have gt:=u;have gv:=z;have ic:=B;have io:=C;have kj:=E;have lb:=G;refine WG ?_;clear gt gv ic io kj lb)
   refine zH [] Z Z (zAt bA ?_) Z;simp[gK,SI,hx,A,h1,kL]
def uZ (g:Cf) (s:Sv) (ga:Int) (xs:List Cl):Nat->Int
 |0=> -1
 |i+1=>if DV g.lock s.en ga (xs.getD i dd).ph (xs.getD i dd).k then uZ g s ga xs i
  else if uZ g s ga xs i<0 then i
  else if gK g.per g.cap s.en ga (xs.getD i dd) (xs.getD (uZ g s ga xs i).toNat dd)then i else uZ g s ga xs i
theorem bH (g:Cf) (s:Sv) (ga:Int) (xs:List Cl):∀i,-1<=uZ g s ga xs i/\uZ g s ga xs i<i\/uZ g s ga xs i= -1
 |0=> .inr Z
 | i+1=>by
  have:=bH g s ga xs i;unfold uZ;split
  .omega
  .split
   .omega
   .split<;>omega
def NS (g:Cf) (s:Sv) (ga:Int) (xs:List Cl) (i:Nat):uZ g s ga xs (i+1)=if DV g.lock s.en ga (xs.getD i dd).ph (xs.getD i dd).k=true then uZ g s ga xs i
 else if uZ g s ga xs i<0 then(i:Int)
 else if gK g.per g.cap s.en ga (xs.getD i dd) (xs.getD (uZ g s ga xs i).toNat dd)=true then(i:Int)else uZ g s ga xs i:=rfl
def dy (g:Cf) (s:Sv) (ga:Int) (xs:List Cl) (E:ln xs<=1099511627776) (G:∀i,i<ln xs->Ih g.per ga s.en (xs.getD i dd)):zO 228 [vL g,xZ s,iA ga,zE uK xs] [] (iA (uZ g s ga xs (ln xs))) []:=by
 have hl:(xs.map uK).length=ln xs:=by simp
 refine eM call228 λF hF=>?_
 refine WO ?_
 refine wH (λn st=>∃i:Nat,n+i=ln xs/\st=⟨[(2,iA ga),(3,zE uK xs),(4,.ptr 4 0 0),(5,.ptr 5 0 0),(9,iA (uZ g s ga xs i)),(12,zE uK xs),(13,iA (ln xs)),(14,iA i)],[(4,.box [zE xC g.js,zE wP g.ags,iA g.per,iA g.cap,iA g.hold,iA g.lock]),(5,.box [iA s.ph,iA s.gr,zE iA s.en])]⟩)
  (ln xs) [4,5] [2,3,4,5,9,12,13,14] Z ⟨0,rfl,by rw[<-hl];rfl⟩ ?_
 rintro n st ⟨i,hi,rfl⟩;by_cases A:i<ln xs
 .have M:=yC uK xs i zB zB;have z:=G i A;have hb:=bH g s ga xs i;have u:=NS g s ga xs i;have y:=jk g s (xs.getD i dd) ga z;rw[show((i:Int)).toNat=i from Z]at M
  cases I:DV g.lock s.en ga (xs.getD i dd).ph (xs.getD i dd).k<;>rw[I]at y u
  .rw[hW yE]at u;by_cases C:uZ g s ga xs i<0
   .rw[Os C]at u
    (have gt:=y;refine WG ?_;clear gt)
    exact⟨n-1,zB,i+1,zB,by rw[u];rfl⟩
   .rw[hW C]at u;have O:=yC uK xs (uZ g s ga xs i) zB zB;have B:=gy g s (xs.getD i dd) (xs.getD (uZ g s ga xs i).toNat dd) ga z (G _ zB)
    cases L:gK g.per g.cap s.en ga (xs.getD i dd) (xs.getD (uZ g s ga xs i).toNat dd)<;>rw[L]at B u
    .rw[hW yE]at u
     (have gt:=y;have gv:=B;refine WG ?_;clear gt gv)
     exact⟨n-1,zB,i+1,zB,by rw[u];rfl⟩
    .rw[Os Z]at u
     (have gt:=y;have gv:=B;refine WG ?_;clear gt gv)
     exact⟨n-1,zB,i+1,zB,by rw[u];rfl⟩
  .rw[Os Z]at u
   (have gt:=y;refine WG ?_;clear gt)
   exact⟨n-1,zB,i+1,zB,by rw[u];rfl⟩
 .obtain rfl:i=ln xs:=by omega
  exact oj
def bI (s:Sv) (p:Int):zO 297 [xZ s,iA p] [] (iA (cE s.en p)) []:=by
 have hl:(s.en.map iA).length=ln s.en:=by simp
 by_cases h1:p<0
 .rw[show cE s.en p= -1 by simp[cE,h1]];refine eM call297 λF hF=>?_
  exact oj
 .by_cases h2:(ln s.en:Int)<=p
  .rw[show cE s.en p= -1 by simp[cE,h2]];refine eM call297 λF hF=>?_
   exact oj
  .rw[show cE s.en p=s.en.getD p.toNat 0 by unfold cE;rw[hW zB]];have u:=yC iA s.en p zB zB;refine eM call297 λF hF=>?_
   exact oj
def gL (c:Cl):zO 195 [uK c] [] (bA (cA c.k)) []:=by
 unfold cA;by_cases h:c.k=2
 .rw[show(c.k==2||c.k==3)=true by simp[h]];refine eM call195 λF hF=>?_
  exact oj
 .rw[show(c.k==2||c.k==3)=(c.k==3) by simp[h]];refine eM call195 λF hF=>?_
  exact oj
def NT (s:Sv) (c:Cl):zO 337 [xZ s,uK c] [] (iA (jM s.en c.ph c.si)) []:=by
 refine eM call337 λF hF=>?_
 (repeat' (first|refine aK ?_|refine yY (λhc=>?_) λhc=>?_|(apply zG;apply xJ;(refine vF 297 ?_;first|refine wO (zK (bI s _) Z Z Z Z Z) Z ?_|refine qH (zK (bI s _) Z Z Z Z Z) Z Z Z ?_|refine bX (zK (bI s _) Z Z Z Z Z) Z Z Z ?_))|fail))
 exact zI
def DN (g:Cf) (s:Sv) (c:Cl) (ga:Int) (y:Ih g.per ga s.en c) (A:jM s.en c.ph c.si<=ga):zO 338 [vL g,xZ s,uK c,iA ga] [] (iA (UQ g.per g.cap s.en ga c.ph c.k c.si)) []:=by
 obtain⟨p,B,C,E,G,I,L,_,_⟩:=y
 have u:UQ g.per g.cap s.en ga c.ph c.k c.si=min g.cap (c.k+(ga-jM s.en c.ph c.si).tdiv (max 1 g.per)):=by
  unfold UQ;rw[show max 1 g.per=g.per by omega,zCc zB]
 have hb:=Pd (ga-jM s.en c.ph c.si) (max 1 g.per) zB zB zB;have z:bZ .i64 ((ga-jM s.en c.ph c.si).tdiv (max 1 g.per)):=⟨zB,zB⟩;rw[u];refine eM call338 λF hF=>?_
 (have gt:=NT s c;refine WG ?_;clear gt)
 exact zI
theorem Ff (g:Cf) (s:Sv) (c:Cl) (ga:Int) (u:Ih g.per ga s.en c):zO 248 [vL g,xZ s,uK c,iA ga] [] (bA (DV g.lock s.en ga c.ph c.k)) []:=by
 obtain⟨p,z,A,B,C,E,G,y,e1⟩:=u;unfold DV;refine eM call248 λF hF=>?_
 (repeat' (first|refine aK ?_|refine yY (λhc=>?_) λhc=>?_|(apply zG;apply xJ;(first|(refine vF 297 ?_;first|refine wO (zK (bI s _) Z Z Z Z Z) Z ?_|refine qH (zK (bI s _) Z Z Z Z Z) Z Z Z ?_|refine bX (zK (bI s _) Z Z Z Z Z) Z Z Z ?_)|(refine vF 195 ?_;first|refine wO (zK (gL c) Z Z Z Z Z) Z ?_|refine qH (zK (gL c) Z Z Z Z Z) Z Z Z ?_|refine bX (zK (gL c) Z Z Z Z Z) Z Z Z ?_)))|fail))
 all_goals refine zH [] Z Z (zAt bA ?_) Z
 all_goals simp_all [kL]
structure M8 where
 x0:Int
 x1:Int
 x2:Int
 x3:Int
 x4:Int
def kyA (k:M8):AV:= .agg [iA k.x0,iA k.x1,iA k.x2,iA k.x3,iA k.x4]
def NU (y cap:Int) (u:List Int) (ga:Int) (c:Cl):M8:=if cA c.k=true then⟨0,-c.k,jM u c.ph c.si,c.ag,c.id⟩else⟨1,-UQ y cap u ga c.ph c.k c.si,jM u c.ph c.si,c.ag,c.id⟩
def iw (g:Cf) (s:Sv) (c:Cl) (ga:Int) (u:Ih g.per ga s.en c) (B:jM s.en c.ph c.si<=ga) (hc: -1000000<=g.cap/\g.cap<=1000000):zO 298 [vL g,xZ s,iA ga,uK c] [] (kyA (NU g.per g.cap s.en ga c)) []:=by
 have y:=gL c
 have A:UQ g.per g.cap s.en ga c.ph c.k c.si<=1000000/\ -1000000<=UQ g.per g.cap s.en ga c.ph c.k c.si:=by
  unfold UQ;have:=Int.ediv_nonneg (show 0<=ga-jM s.en c.ph c.si by omega) (show 0<=g.per by have:=u.p;omega);have:=u.k0;omega
 have C:=u.k0;have E:=u.k1
 cases z:cA c.k<;>rw[z]at y
 .rw[show NU g.per g.cap s.en ga c=⟨1,-UQ g.per g.cap s.en ga c.ph c.k c.si,jM s.en c.ph c.si,c.ag,c.id⟩ by simp[NU,z]];refine eM call298 λF hF=>?_
  (have gt:=y;have gv:=NT s c;have ic:=DN g s c ga u B;refine WG ?_;clear gt gv ic)
  exact zI
 .rw[show NU g.per g.cap s.en ga c=⟨0,-c.k,jM s.en c.ph c.si,c.ag,c.id⟩ by simp[NU,z]];refine eM call298 λF hF=>?_
  (have gt:=y;have gv:=NT s c;have ic:=DN g s c ga u B;refine WG ?_;clear gt gv ic)
  exact zI
def HQ (x y:M8):Bool:=if x.x0≠y.x0 then decide (x.x0<y.x0)else if x.x1≠y.x1 then decide (x.x1<y.x1)else if x.x2≠y.x2 then decide (x.x2<y.x2)else if x.x3≠y.x3 then decide (x.x3<y.x3)else if x.x4≠y.x4 then decide (x.x4<y.x4)else false
theorem Ij (u cap:Int) (z:List Int) (ga:Int) (x y:Cl):HQ (NU u cap z ga x) (NU u cap z ga y)=gK u cap z ga x y:=by
 have neg:∀a b:Int,decide (-a< -b)=decide (b<a):=λa b=>by
  grind
 have A:∀a b:Int,(-a≠ -b)=(a≠b):=λa b=>propext zB
 unfold HQ gK NU SI;generalize UQ u cap z ga x.ph x.k x.si=B
 grind [HQ,NU,gK,UQ,jM,cA]
def Ur (g:Cf) (s:Sv) (x y:Cl) (ga:Int) (E:Ih g.per ga s.en x) (G:Ih g.per ga s.en y) (hx:jM s.en x.ph x.si<=ga) (L:jM s.en y.ph y.si<=ga) (hc: -1000000<=g.cap/\g.cap<=1000000):zO 249 [vL g,xZ s,iA ga,uK x,uK y] [] (bA (gK g.per g.cap s.en ga x y)) []:=by
 have A:=iw g s x ga E hx hc;have B:=iw g s y ga G L hc;rw[<-Ij];generalize NU g.per g.cap s.en ga x=p,NU g.per g.cap s.en ga y=q at *;clear hc hx L E G;refine eM call249 λF hF=>?_
 (have gt:=A;have gv:=B;refine WG ?_;clear gt gv)
 refine wH (λn st=>∃i:Nat,n+i=5/\(0<i->p.x0=q.x0)/\(1<i->p.x1=q.x1)/\(2<i->p.x2=q.x2)/\(3<i->p.x3=q.x3)/\(4<i->p.x4=q.x4)/\
  st=⟨[(11,.ptr 11 0 0),(12,.ptr 12 0 0),(24,iA i)],[(11,.box [iA p.x0,iA p.x1,iA p.x2,iA p.x3,iA p.x4]),(12,.box [iA q.x0,iA q.x1,iA q.x2,iA q.x3,iA q.x4])]⟩)
  5 [11,12] [11,12,24] Z ⟨0,rfl,zB,zB,zB,zB,zB,rfl⟩ ?_
 rintro n st ⟨i,hi,a0,a1,a2,a3,a4,rfl⟩
 obtain rfl|rfl|rfl|rfl|rfl|rfl:i=0\/i=1\/i=2\/i=3\/i=4\/i=5:=by omega
 .clear A B;by_cases h:p.x0=q.x0
  ·(refine WO ?_)
   exact⟨n-1,zB,1,zB,λ_=>h,zB,zB,zB,zB,rfl⟩
  ·(refine WO ?_)
   refine zH [] Z Z (zAt bA ?_) Z;simp[HQ,h,kL]
 .clear A B;have u:=a0 zB;by_cases h:p.x1=q.x1
  ·(refine WO ?_)
   exact⟨n-1,zB,2,zB,λ_=>u,λ_=>h,zB,zB,zB,rfl⟩
  ·(refine WO ?_)
   refine zH [] Z Z (zAt bA ?_) Z;simp[HQ,u,h,kL]
 .clear A B;have u:=a0 zB;have z:=a1 zB;by_cases h:p.x2=q.x2
  ·(refine WO ?_)
   exact⟨n-1,zB,3,zB,λ_=>u,λ_=>z,λ_=>h,zB,zB,rfl⟩
  ·(refine WO ?_)
   refine zH [] Z Z (zAt bA ?_) Z;simp[HQ,u,z,h,kL]
 .clear A B;have u:=a0 zB;have z:=a1 zB;have C:=a2 zB;by_cases h:p.x3=q.x3
  ·(refine WO ?_)
   exact⟨n-1,zB,4,zB,λ_=>u,λ_=>z,λ_=>C,λ_=>h,zB,rfl⟩
  ·(refine WO ?_)
   refine zH [] Z Z (zAt bA ?_) Z;simp[HQ,u,z,C,h,kL]
 .clear A B;have u:=a0 zB;have z:=a1 zB;have C:=a2 zB;have I:=a3 zB;by_cases h:p.x4=q.x4
  ·(refine WO ?_)
   exact⟨n-1,zB,5,zB,λ_=>u,λ_=>z,λ_=>C,λ_=>I,λ_=>h,rfl⟩
  ·(refine WO ?_)
   refine zH [] Z Z (zAt bA ?_) Z;simp[HQ,u,z,C,I,h,kL]
 .clear A B;refine WO ?_;refine zH [] Z Z (zAt bA ?_) Z;simp[HQ,a0,a1,a2,a3,a4]
def Sr (g:Cf) (s:Sv) (ga:Int) (xs:List Cl) (G:ln xs<=1099511627776) (L:∀i,i<ln xs->Ih g.per ga s.en (xs.getD i dd)) (I:∀i,i<ln xs->jM s.en (xs.getD i dd).ph (xs.getD i dd).si<=ga) (hc: -1000000<=g.cap/\g.cap<=1000000):
  zO 196 [vL g,xZ s,iA ga,zE uK xs] [] (iA (uZ g s ga xs (ln xs))) []:=by
 have hl:(xs.map uK).length=ln xs:=by simp
 refine eM call196 λF hF=>?_
 refine WO ?_
 refine wH (λn st=>∃i:Nat,n+i=ln xs/\st=⟨[(2,iA ga),(3,zE uK xs),(4,.ptr 4 0 0),(5,.ptr 5 0 0),(9,iA (uZ g s ga xs i)),(12,zE uK xs),(13,iA (ln xs)),(14,iA i)],[(4,.box [zE xC g.js,zE wP g.ags,iA g.per,iA g.cap,iA g.hold,iA g.lock]),(5,.box [iA s.ph,iA s.gr,zE iA s.en])]⟩)
  (ln xs) [4,5] [2,3,4,5,9,12,13,14] Z ⟨0,rfl,by rw[<-hl];rfl⟩ ?_
 rintro n st ⟨i,hi,rfl⟩;by_cases z:i<ln xs
 .have R:=yC uK xs i zB zB;have A:=L i z;have B:=I i z;have hb:=bH g s ga xs i;have u:=NS g s ga xs i;have y:=Ff g s (xs.getD i dd) ga A;rw[show((i:Int)).toNat=i from Z]at R
  cases M:DV g.lock s.en ga (xs.getD i dd).ph (xs.getD i dd).k<;>rw[M]at y u
  .rw[hW yE]at u;by_cases E:uZ g s ga xs i<0
   .rw[Os E]at u
    (have gt:=y;refine WG ?_;clear gt)
    exact⟨n-1,zB,i+1,zB,by rw[u];rfl⟩
   .rw[hW E]at u;have S:=yC uK xs (uZ g s ga xs i) zB zB;have C:=Ur g s (xs.getD i dd) (xs.getD (uZ g s ga xs i).toNat dd) ga A (L _ zB) B (I _ zB) hc
    cases O:gK g.per g.cap s.en ga (xs.getD i dd) (xs.getD (uZ g s ga xs i).toNat dd)<;>rw[O]at C u
    .rw[hW yE]at u
     (have gt:=y;have gv:=C;refine WG ?_;clear gt gv)
     exact⟨n-1,zB,i+1,zB,by rw[u];rfl⟩
    .rw[Os Z]at u
     (have gt:=y;have gv:=C;refine WG ?_;clear gt gv)
     exact⟨n-1,zB,i+1,zB,by rw[u];rfl⟩
  .rw[Os Z]at u
   (have gt:=y;have gv:=y;refine WG ?_;clear gt gv)
   exact⟨n-1,zB,i+1,zB,by rw[u];rfl⟩
 .obtain rfl:i=ln xs:=by omega
  exact oj
theorem bJ (P:α->Prop) (d:α):∀(l:List α) (i:Nat),(∀x∈l,P x)->i<ln l->P (l.getD i d)
 |l,i,h,hi=>by simp only[zAk,zAu hi,zCo];exact h _ (zDy hi)
def HR (u:List Int) (ga y:Int) (h:0<=ga) (z:∀e∈u,-1<=e/\e<=ga): -1<=cE u y/\cE u y<=ga:=by
 unfold cE;split
 .omega
 .exact bJ (λe=> -1<=e/\e<=ga) 0 u y.toNat z zB
structure L8 (ph ga:Int) (c:Cl):Prop where
 k0:0<=c.k
 k1:c.k<=3
 s0:0<=c.si
 s1:c.si<=ga
 a0:0<=c.ag
 a1:c.ag<=2
 i0:0<=c.id
 i1:c.id<=3
 p0:0<=c.ph
 p1:c.ph<ph
structure Zw (g:Cf) (s:Sv) (l:List Cl) (ga:Int):Prop where
 p0:1<=g.per
 p1:g.per<=5
 c0:0<=g.cap
 c1:g.cap<=5
 h0:1<=g.hold
 h1:g.hold<=4
 l0:0<=g.lock
 l1:g.lock<=6
 len:l.length<=5
 n0:1<=s.en.length
 n1:s.en.length<=8
 en:∀e∈s.en,-1<=e/\e<=ga
 cl:∀c∈l,L8 s.en.length ga c
theorem Zw.sta (H:Zw g s l ga) (u:0<=ga):∀i,i<ln l->jM s.en (l.getD i dd).ph (l.getD i dd).si<=ga:=λi hi=>by
 obtain⟨a0,y,z,A,B,C,E,G,I,L⟩:=bJ (L8 (ln s.en) ga) dd l i H.cl hi;have M:=HR s.en ga (l.getD i dd).ph u H.en;unfold jM;omega
def HS (f:α->AV) (l:List α):AV.sl false ((l.map f).take (l.map f).length)=zE f l:=by rw[zAa];rfl
def La (l:List Int) (hl:ln l<=1073741824):zO 111 [zE iA l] [] (.ref 1001 0 (l.map iA).length) [(1001,.arr 1 (l.map iA) false)]:=by
 have u:=zA iA l;refine eM call111 λF hF=>?_
 refine xW 0 Z (λcap hx=>?_) ?_
 .have:l=[]:=by simpa using hx
  subst this
  (repeat' (first|refine Ze ?_|apply yY|apply xN|intro hc|fail))
  refine uN 2 1001 1 Z Z Z (xP ?_);exact zV [1001] Z Z Z Z
 .repeat' (first|(apply zG;first|refine vT tok Z Z ?_|(apply vE;refine wO (xQ tok (.inl ⟨rfl,rfl⟩) Z Z Z Z) Z ?_)|(apply yL;refine qH (nw:=[1001]) (xD tok 1001 (xs:=[]) Z Z Z Z Z Z Z Z Z) Z Z Z ?_)|(apply yI;refine wU tok Z Z Z Z Z Z Z (yG _ _ (λ_=>rfl)) Z Z Z zB Z ?_)|apply qV)|(first|apply wF|apply wB|refine uW Z ?_|refine yT Z ?_|refine yH Z ?_|refine wL Z (λhc=>?_) λhc=>?_|apply xO|apply xP|apply wA|apply xE))
  exact zV [1001] Z Z Z Z
def Ef (l:List Int) (hl:ln l<=1073741824):zO 111 [zE iA l] [] (zE iA l) []:=by
 have u:=zA iA l;refine eM call111 λF hF=>?_
 refine xW 0 Z (λcap hx=>?_) ?_
 .have:l=[]:=by simpa using hx
  subst this;exact mx
 ·(refine WW ?_)
  refine zH [] Z Z (HS _ _) Z
structure AT (s:Sv):Prop where
 n:s.en.length<=100000
def Df (s:Sv) (h:AT s):zO 110 [xZ s] [] (.agg [iA s.ph,iA s.gr,.ref 1001 0 (s.en.map iA).length]) [(1001,.arr 1 (s.en.map iA) false)]:=by
 have c:=La s.en (by have:=h.n;omega);refine eM call110 λF hF=>?_
 refine zP c ?_;exact zV [1001] Z Z Z Z
def PR (s:Sv) (h:AT s):zO 110 [xZ s] [] (xZ s) []:=by
 have c:=Ef s.en (by have:=h.n;omega);refine eM call110 λF hF=>?_
 exact nl c
def NV (s:Sv) (h:AT s):zO 127 [xZ s] [] (xZ s) []:=by
 have:=h.n;have hl:=zA iA s.en;refine eM call127 λF hF=>?_
 exact ny
def Ka (s:Sv) (h:AT s):zO 127 [xZ s] [] (.agg [iA s.ph,iA s.gr,.ref 1001 0 (s.en.map iA).length]) [(1001,.arr 1 (s.en.map iA) false)]:=by
 have:=h.n;have hl:=zA iA s.en;refine eM call127 λF hF=>?_
 (repeat' (first|refine qU ?_|apply yY|apply xN|intro hc|(apply zG;first|(apply yI;refine xB 1001 tok Z Z Z Z Z Z (yG _ _ (λ_=>rfl)) Z Z Z zB Z Z Z ?_))|fail))
 exact zV [1001] Z Z Z Z
def gE (s:Sv) (u:Bool):Sv:=if u=true/\s.ph≠ -1 then⟨s.ph,min s.gr 59+1,s.en⟩else s
def Rr (s:Sv) (h:AT s) (b:Bool) (u: -1000000<=s.gr):zO 181 [xZ s,bA b] [] (xZ (gE s b)) []:=by
 have c:=PR s h;by_cases h1:b=true
 .subst h1;by_cases h2:s.ph= -1
  .rw[show gE s true=s by simp[gE,h2]];refine eM call181 λF hF=>?_
   exact nl c
  .rw[show gE s true=⟨s.ph,min s.gr 59+1,s.en⟩ by simp[gE,h2]];refine eM call181 λF hF=>?_
   exact nl c
 .obtain rfl:b=false:=by simpa using h1
  rw[show gE s false=s by simp[gE]];refine eM call181 λF hF=>?_
  exact nl c
def Hj (s:Sv) (h:AT s) (b:Bool) (u: -1000000<=s.gr/\s.gr<=1000000):zO 136 [xZ s,bA b] [] (xZ (gE s b)) []:=by
 have c:=NV s h;by_cases h1:b=true
 .subst h1;by_cases h2:s.ph= -1
  .rw[show gE s true=s by simp[gE,h2]];refine eM call136 λF hF=>?_
   exact nl c
  .rw[show gE s true=⟨s.ph,min (s.gr+1) 60,s.en⟩ by simp[gE,h2];omega];refine eM call136 λF hF=>?_
   exact nl c
 .obtain rfl:b=false:=by simpa using h1
  rw[show gE s false=s by simp[gE]];refine eM call136 λF hF=>?_
  exact nl c
def qQ (s:Sv) (ga:Int):Sv:=⟨-1,0,if 0<s.gr/\0<=s.ph/\s.ph<ln s.en then s.en.set s.ph.toNat ga else s.en⟩
theorem DO (f:α->AV) (l:List α) (i:Nat) (x:α) (n:Nat) (u:n=ln l):AV.sl false (((l.map f).set i (f x)).take n)=zE f (l.set i x):=by grind [zE,List.map_set,List.take_of_length_le]
def Gj (s:Sv) (h:AT s) (ga:Int):zO 178 [xZ s,iA ga] [] (xZ (qQ s ga)) []:=by
 have c:=Df s h;have hl:=zA iA s.en;by_cases h1:0<s.gr/\0<=s.ph/\s.ph<ln s.en
 .obtain⟨h2,u,y⟩:=h1;have z:=yC iA s.en s.ph u y;rw[show qQ s ga=⟨-1,0,s.en.set s.ph.toNat ga⟩ by simp[qQ,h2,u,y]];refine eM call178 λF hF=>?_
  refine zP c ?_;refine zH [] Z Z (zAt (λx=>AV.agg [iA (-1),iA 0,x]) (DO iA s.en s.ph.toNat ga _ hl)) Z
 .rw[show qQ s ga=⟨-1,0,s.en⟩ by unfold qQ;rw[hW h1]];refine eM call178 λF hF=>?_
  (have gt:=c;(repeat' (first|refine qU ?_|apply yY|apply xN|intro hc|(apply zG;first|refine SM ?_)|fail))<;>clear gt)
  all_goals (try omega)
  all_goals refine zH [] Z Z (zAt (λx=>AV.agg [iA (-1),iA 0,x]) (HS iA s.en)) Z
def Ja (s:Sv) (h:AT s) (ga:Int):zO 133 [xZ s,iA ga] [] (xZ (qQ s ga)) []:=by
 have c:=Ka s h;have hl:=zA iA s.en;by_cases h1:0<s.gr/\0<=s.ph/\s.ph<ln s.en
 .obtain⟨h2,u,y⟩:=h1;have z:=yC iA s.en s.ph u y;rw[show qQ s ga=⟨-1,0,s.en.set s.ph.toNat ga⟩ by simp[qQ,h2,u,y]];refine eM call133 λF hF=>?_
  refine zP c ?_;refine zH [] Z Z (zAt (λx=>AV.agg [iA (-1),iA 0,x]) (DO iA s.en s.ph.toNat ga _ hl)) Z
 .rw[show qQ s ga=⟨-1,0,s.en⟩ by unfold qQ;rw[hW h1]];refine eM call133 λF hF=>?_
  (have gt:=c;(repeat' (first|refine qU ?_|apply yY|apply xN|intro hc|(apply zG;first|refine SM ?_)|fail))<;>clear gt)
  all_goals (try omega)
  all_goals refine zH [] Z Z (zAt (λx=>AV.agg [iA (-1),iA 0,x]) (HS iA s.en)) Z
def DP (n:Nat):Sv:=⟨-1,0,pg n (-1)⟩
def Qr (n i:Nat) (h:i<n):((List.replicate i (-1:Int)++List.replicate (n-i) 0).map iA).set i (iA (-1))=(List.replicate (i+1) (-1:Int)++List.replicate (n-(i+1)) 0).map iA:=by
 rw[<-zBt,show n-i=(n-(i+1))+1 by omega,zEb,zDc _ _ yE,zB1,zCz,zEd,zDx,zA2];rfl
def ay (n:Nat) (h:n<=100000):zO 82 [iA n] [] (xZ (DP n)) []:=by
 by_cases y:n=0
 .subst y;refine eM call82 λF hF=>?_
  refine WW ?_;refine zM (0) [2,3] [2,3] [2,3,17] [18,2,3,17] Z (λi T U=>⟨(18,iA i)::T,U⟩) (Lq ?_ ?_)
  .intro i hi;omega
  .exact mx
 .have u:pg n (AV.s (.int .i64 0))=(pg 0 (-1:Int)++pg (n-0) 0).map iA:=by simp[iA]
  refine eM call82 λF hF=>?_
  refine WW ?_;refine zM (n) [13,2,3] [2,3] [2,3,17] [18,2,3,17] Z (λi T U=>⟨(18,iA i)::T,(13,.arr 1 ((pg i (-1:Int)++pg (n-i) 0).map iA) false)::U⟩) ?_;(conv=>whnf);refine⟨by(rw[<-u];rfl),?_,?_⟩
  .intro i hi;have z:((pg i (-1:Int)++pg (n-i) 0).map iA)[i]? =some (iA 0):=by simp[show 0<n-i by omega]
   have e:=Qr n i hi;generalize (pg i (-1:Int)++pg (n-i) 0).map iA=xs,(pg (i+1) (-1:Int)++pg (n-(i+1)) 0).map iA=ys at *;subst e;refine WW ?_;rfl
  .rw[show n-n=0 by omega,zEu,zA6];refine WW ?_;exact zH [] Z Z (zAt (λx=>AV.agg [iA (-1),iA 0,AV.sl false x]) (zAl yE)) Z
def Nr (n:Nat) (h:n<=100000):zO 87 [iA n] [] (xZ (DP n)) []:=by
 refine eM call87 λF hF=>?_
 (repeat' (first|refine qU ?_|apply yY|apply xN|intro hc|fail))
 refine zW 4 1001 1 Z Z Z ?_;refine zM (n) [1001,2,3] [2,3] [2,3,6] [4,7,2,3,6] Z (λi T U=>⟨(4,.ref 1001 0 ((pg i (-1:Int)).map iA).length)::(7,iA i)::T,(1001,.arr 1 ((pg i (-1:Int)).map iA) true)::U⟩) (Lq ?_ ?_)
 .intro i hi;have u:((pg i (-1:Int)).map iA).length=i:=by simp
  have e:(pg (i+1) (-1:Int)).map iA=(pg i (-1:Int)).map iA++[iA (-1)]:=by rw[zDx];simp
  rw[e];generalize (pg i (-1:Int)).map iA=xs at *;refine WL ?_;rfl
 ·(refine WW ?_)
  exact zH [] Z Z (zAt (λx=>AV.agg [iA (-1),iA 0,x]) (HS _ _)) Z
def DQ (a b:Sv):Bool:=decide (a.ph=b.ph/\a.gr=b.gr/\a.en=b.en)
def oy (a b:Sv) (y:AT a) (hb:AT b):zO 64 [xZ a,xZ b] [] (bA (DQ a b)) []:=by
 have z:=zA iA a.en;have A:=zA iA b.en;have:=y.n;by_cases h:a.ph=b.ph/\a.gr=b.gr/\a.en.length=ln b.en
 case neg=>
  rw[show DQ a b=false from zAb (λg=>h ⟨g.1,g.2.1,zAt _ g.2.2⟩)];refine eM call64 λF hF=>?_
  (repeat' (first|refine qU ?_|apply yY|apply xN|intro hc|(apply zG;first|refine SM ?_)|fail))
  all_goals (first|omega|exact zI)
 obtain⟨h1,h2,u⟩:=h;refine eM call64 λF hF=>?_
 refine WW ?_;refine kU (a.en) [3] [3] [3,29,30] [31,3,29,30] Z (λi gd T U E=>(gd=b.en.take i)/\E=⟨(31,iA i)::T,U⟩) (Lp ?_ ?_ ?_)
 .exact⟨by simp,rfl⟩
 .rintro i gd x post st hx hi ⟨hp,rfl⟩;have G:=zY iA hx hi;have B:=zX hx hi;have C:=Y0 iA b.en i zB;by_cases hv:b.en[i]=x
  .rw[hv]at C;refine WW ?_;exact⟨by rw[<-hv,hp,List.take_append_getElem],rfl⟩
  .rw[show DQ a b=false from zAb (λg=>hv (by
    have e:=g.2.2;have:a.en[i]'(by omega)=x:=by simp only[hx,<-hi];simp
    rw[<-this];simp only[e]))]
   refine WW ?_
   all_goals (first|omega|exact zI)
 .rintro st ⟨hp,rfl⟩;rw[show DQ a b=true from zAc ⟨h1,h2,by rw[hp,u,zAa]⟩];exact mx
def WK (p:α->Bool) (l:List α):Int:=if l.any p=true then(l.findIdx p:Int)else -1
theorem NW {p:α->Bool} {l gd post:List α} {x:α} (h:l=gd++x::post) (u:∀y∈gd,p y=false) (hx:p x=true):WK p l=(ln gd:Int):=by grind [WK]
theorem SJ {p:α->Bool} {l:List α} (u:∀y∈l,p y=false):WK p l= -1:=by grind [WK]
theorem NX (p:α->Bool) (l:List α):(0<=WK p l)=(l.any p=true):=by grind [WK]
theorem HT (p:α->Bool) (l:List α): -1<=WK p l/\WK p l<=ln l:=by grind [WK]
def Bf (l:List Cl) (hb:ln l<=1073741824):zO 312 [zE uK l,.fn 277 []] [] (iA (WK (λc=>cA c.k) l)) []:=by
 have hl:=zA uK l;refine eM call312 λF hF=>?_
 refine WW ?_;refine kU (l) [] [] [0,1,7] [8,0,1,7] Z (λi gd T U C=>(∀y∈gd,cA y.k=false)/\C=⟨(8,iA i)::T,U⟩) (Lp ?_ ?_ ?_)
 .exact⟨by simp,rfl⟩
 .rintro i gd x post st hx hi ⟨hp,rfl⟩;have u:=zY uK hx hi;have B:=zX hx hi;have c:=kR x;have A:=NW (p:=λc=>cA c.k) hx hp
  cases z:cA x.k<;>rw[z]at c
  ·(refine zP c ?_)
   exact⟨λy u=>by simp at u;rcases u with u|rfl;exact hp y u;exact z,rfl⟩
  .rw[A z,hi];exact nl c
 .rintro st ⟨hp,rfl⟩;rw[SJ hp];exact mx
def HU (l:List Cl) (hb:ln l<=1073741824):zO 278 [zE uK l,.fn 277 []] [] (bA (l.any λc=>cA c.k)) []:=by
 have c:=Bf l hb;have h:=NX (λc:Cl=>cA c.k) l;have h2:=HT (λc:Cl=>cA c.k) l;generalize WK (λc:Cl=>cA c.k) l=n at*
 cases u:(l.any λc=>cA c.k)<;>rw[u]at h<;>simp at h
 all_goals
  (refine eM call278 λF hF=>?_)
  exact nl c
def aQ (s:Sv):xM:= .box [iA s.ph,iA s.gr,zE iA s.en]
def Fj (s:Sv) (x:Cl):zO 275 [uK x,.ptr 4 0 0] [(4,aQ s)] (bA (x.ph==s.ph)) [(4,aQ s)]:=by
 refine eM call275 λF hF=>?_
 refine WW ?_;exact zV [4] Z Z Z Z
def Ej (s:Sv) (x:Cl):zO 276 [uK x,.ptr 7 0 0] [(7,.box [.fn 275 [.ptr 4 0 0]]),(4,aQ s)] (bA (x.ph==s.ph&&cA x.k)) [(7,.box [.fn 275 [.ptr 4 0 0]]),(4,aQ s)]:=by
 have c:=Fj s x;have e:=kR x
 cases h:(x.ph==s.ph)<;>rw[h]at c
 ·(refine eM call276 λF hF=>?_)
  refine yB (xH c e) ?_;exact zV [7,4] Z Z Z Z
 .rw[zAj];refine eM call276 λF hF=>?_
  refine yB (xH c e) ?_;exact zV [7,4] Z Z Z Z
def DS (s:Sv) (l:List Cl) (hb:ln l<=1073741824):zO 312 [zE uK l,.fn 275 [.ptr 4 0 0]] [(4,aQ s)] (iA (WK (λx:Cl=>x.ph==s.ph) l)) [(4,aQ s)]:=by
 have hl:=zA uK l;refine eM call312 λF hF=>?_
 refine WW ?_;refine kU (l) [4] [4] [0,1,7] [8,0,1,7] Z (λi gd T U C=>(∀y∈gd,((λx:Cl=>x.ph==s.ph)) y=false)/\C=⟨(8,iA i)::T,U⟩) (Lp ?_ ?_ ?_)
 .exact⟨by simp,rfl⟩
 .rintro i gd x post st hx hi ⟨hp,rfl⟩;have z:=zY uK hx hi;have B:=zX hx hi;have c:=Fj s x;have u:=NW (p:=(λx:Cl=>x.ph==s.ph)) hx hp
  try dsimp only at u
  cases A:((λx:Cl=>x.ph==s.ph)) x<;>(dsimp only at A;rw[A]at c)
  ·(refine zP c ?_)
   exact⟨λy z=>by simp only[zAy,zA8]at z;rcases z with z|rfl;exact hp y z;exact A,rfl⟩
  .rw[u A,hi];refine zP c ?_;exact zV [4] Z Z Z Z
 .rintro st ⟨hp,rfl⟩;rw[SJ hp];refine WW ?_;exact zV [4] rfl rfl rfl rfl
def NY (s:Sv) (l:List Cl) (hb:ln l<=1073741824):zO 278 [zE uK l,.fn 275 [.ptr 4 0 0]] [(4,aQ s)] (bA (l.any (λx:Cl=>x.ph==s.ph))) [(4,aQ s)]:=by
 have c:=DS s l hb;have h:=NX (λx:Cl=>x.ph==s.ph) l;have h2:=HT (λx:Cl=>x.ph==s.ph) l;generalize WK (λx:Cl=>x.ph==s.ph) l=n at*
 cases u:l.any (λx:Cl=>x.ph==s.ph)<;>rw[u]at h<;>simp at h
 all_goals
  (refine eM call278 λF hF=>?_)
  refine zP c ?_;exact zV [4] Z Z Z Z
def Ia (s:Sv) (l:List Cl) (hb:ln l<=1073741824):zO 312 [zE uK l,.fn 276 [.ptr 7 0 0]] [(7,.box [.fn 275 [.ptr 4 0 0]]),(4,aQ s)] (iA (WK (λx:Cl=>x.ph==s.ph&&cA x.k) l)) [(7,.box [.fn 275 [.ptr 4 0 0]]),(4,aQ s)]:=by
 have hl:=zA uK l;refine eM call312 λF hF=>?_
 refine WW ?_;refine kU (l) [7,4] [7,4] [0,1,7] [8,0,1,7] Z (λi gd T U C=>(∀y∈gd,((λx:Cl=>x.ph==s.ph&&cA x.k)) y=false)/\C=⟨(8,iA i)::T,U⟩) (Lp ?_ ?_ ?_)
 .exact⟨by simp,rfl⟩
 .rintro i gd x post st hx hi ⟨hp,rfl⟩;have z:=zY uK hx hi;have B:=zX hx hi;have c:=Ej s x;have u:=NW (p:=(λx:Cl=>x.ph==s.ph&&cA x.k)) hx hp
  try dsimp only at u
  cases A:((λx:Cl=>x.ph==s.ph&&cA x.k)) x<;>(dsimp only at A;rw[A]at c)
  ·(refine zP c ?_)
   exact⟨λy z=>by simp only[zAy,zA8]at z;rcases z with z|rfl;exact hp y z;exact A,rfl⟩
  .rw[u A,hi];refine zP c ?_;exact zV [7,4] Z Z Z Z
 .rintro st ⟨hp,rfl⟩;rw[SJ hp];refine WW ?_;exact zV [7,4] rfl rfl rfl rfl
def LV (s:Sv) (l:List Cl) (hb:ln l<=1073741824):zO 278 [zE uK l,.fn 276 [.ptr 7 0 0]] [(7,.box [.fn 275 [.ptr 4 0 0]]),(4,aQ s)] (bA (l.any (λx:Cl=>x.ph==s.ph&&cA x.k))) [(7,.box [.fn 275 [.ptr 4 0 0]]),(4,aQ s)]:=by
 have c:=Ia s l hb;have h:=NX (λx:Cl=>x.ph==s.ph&&cA x.k) l;have h2:=HT (λx:Cl=>x.ph==s.ph&&cA x.k) l;generalize WK (λx:Cl=>x.ph==s.ph&&cA x.k) l=n at*
 cases u:l.any (λx:Cl=>x.ph==s.ph&&cA x.k)<;>rw[u]at h<;>simp at h
 all_goals
  (refine eM call278 λF hF=>?_)
  refine zP c ?_;exact zV [7,4] Z Z Z Z
def XR (g:Cf) (s:Sv) (l:List Cl):Bool:=!(l.any λx=>x.ph==s.ph)||decide (g.hold<=s.gr)||((l.any λc=>cA c.k)&& !(l.any λx=>x.ph==s.ph&&cA x.k))
def my (g:Cf) (s:Sv) (l:List Cl) (hb:ln l<=1073741824):zO 227 [vL g,xZ s,zE uK l] [] (bA (XR g s l)) []:=by
 have y:=NY s l hb;have z:=LV s l hb;have A:=HU l hb;unfold XR;generalize (l.any λx=>x.ph==s.ph)=m at *;generalize (l.any λx=>x.ph==s.ph&&cA x.k)=u at *;generalize (l.any λc=>cA c.k)=e at *;by_cases h:g.hold<=s.gr
 .rw[zAc h]
  cases m<;>cases u<;>cases e<;>(simp only[zE4,zD6,zCt,zCh,zDq,zCv,zB3];(refine eM call227 λF hF=>?_);exact ng (qS y A z))
 .rw[zAb h]
  cases m<;>cases u<;>cases e<;>(simp only[zE4,zD6,zCt,zCh,zDq,zE5,zCv,zB3];(refine eM call227 λF hF=>?_);exact ng (qS y A z))
def gV (g:Cf) (s:Sv) (l:List Cl) (ga:Int):Sv:=if s.ph≠ -1/\XR g s l=true then qQ s ga else s
def uM (g:Cf) (s:Sv) (l:List Cl) (ga:Int):Sv:=
 if(gV g s l ga).ph= -1/\0<=uZ g (gV g s l ga) ga l (ln l) then⟨(l.getD (uZ g (gV g s l ga) ga l (ln l)).toNat dd).ph,0,(gV g s l ga).en⟩else gV g s l ga
def SO (s:Sv) (ga:Int):(qQ s ga).en.length=ln s.en:=by unfold qQ;dsimp only;split<;>simp
def Dj (g:Cf) (s:Sv) (l:List Cl) (ga:Int):(gV g s l ga).en.length=ln s.en:=by unfold gV;split;exact SO s ga;rfl
structure Ap (g:Cf) (s:Sv) (l:List Cl) (ga:Int):Prop where
 p:1<=g.per
 c0: -1000000<=g.cap
 c1:g.cap<=1000000
 n0:0<=ga
 n1:ga<=1000000000
 en:∀e∈s.en,-1<=e/\e<=ga
 k:∀c∈l,0<=c.k/\c.k<=3
 si:∀c∈l,0<=c.si/\c.si<=ga
 len:l.length<=1000
 sl:s.en.length<=1000
theorem NZ (s:Sv) (ga:Int) (u:0<=ga) (h:∀e∈s.en,-1<=e/\e<=ga):∀e∈(qQ s ga).en,-1<=e/\e<=ga:=by grind [qQ]
def HV (g:Cf) (s:Sv) (l:List Cl) (ga:Int) (u:0<=ga) (h:∀e∈s.en,-1<=e/\e<=ga):∀e∈(gV g s l ga).en,-1<=e/\e<=ga:=by
 unfold gV;split;exact NZ s ga u h;exact h
theorem Ap.ok (H:Ap g s l ga) (u:Sv) (y:∀e∈u.en,-1<=e/\e<=ga):∀i,i<ln l->Ih g.per ga u.en (l.getD i dd):=λi hi=>by
 have hk:=bJ (λc:Cl=>0<=c.k/\c.k<=3) dd l i H.k hi;have z:=bJ (λc:Cl=>0<=c.si/\c.si<=ga) dd l i H.si hi;have y:=HR u.en ga (l.getD i dd).ph H.n0 y;have:=H.p;have:=H.n0;have:=H.n1
 constructor<;>(try unfold jM)<;>omega
theorem Ap.sta (H:Ap g s l ga) (u:Sv) (y:∀e∈u.en,-1<=e/\e<=ga):∀i,i<ln l->jM u.en (l.getD i dd).ph (l.getD i dd).si<=ga:=λi hi=>by
 have z:=bJ (λc:Cl=>0<=c.si/\c.si<=ga) dd l i H.si hi;have y:=HR u.en ga (l.getD i dd).ph H.n0 y;unfold jM;omega
def Cj (g:Cf) (s:Sv) (l:List Cl) (ga:Int) (H:Ap g s l ga):zO 179 [vL g,xZ s,zE uK l,iA ga] [] (xZ (uM g s l ga)) []:=by
 have hb:AT s:=⟨by have:=H.sl;omega⟩;have u:=PR s hb;have z:=my g s l (by have:=H.len;omega);have A:=Gj s hb ga;have hl:=zA uK l;have L:=H.len;have I:=HV g s l ga H.n0 H.en;have y:=dy g (gV g s l ga) ga l zB (H.ok _ I);have G:=bH g (gV g s l ga) ga l (ln l)
 have hd:gV g s l ga=if s.ph≠ -1/\XR g s l=true then qQ s ga else s:=rfl
 unfold uM;generalize gV g s l ga=C at *;generalize uZ g C ga l (ln l)=b at *;generalize XR g s l=O,qQ s ga=R at *;by_cases h1:s.ph= -1
 .rw[hW (by simp[h1])]at hd;subst hd;by_cases h2:0<=b
  .rw[Os ⟨h1,h2⟩];have M:=yC uK l b h2 zB;generalize l.getD b.toNat dd=E at *;refine eM call179 λF hF=>?_
   exact ng (xH u y)
  .rw[hW (λh=>h2 h.2)];refine eM call179 λF hF=>?_
   exact ng (xH u y)
 cases O with
 |false=>
  rw[hW yE]at hd;subst hd;rw[hW (λh=>h1 h.1)];refine eM call179 λF hF=>?_
  exact ng (xH u z)
 | true=>
  rw[Os ⟨h1,rfl⟩]at hd;subst hd;by_cases B:C.ph= -1
  .by_cases h2:0<=b
   .rw[Os ⟨B,h2⟩];have M:=yC uK l b h2 zB;generalize l.getD b.toNat dd=E at *;refine eM call179 λF hF=>?_
    exact ng (cX u z A y)
   .rw[hW (λh=>h2 h.2)];refine eM call179 λF hF=>?_
    exact ng (cX u z A y)
  .rw[hW (λh=>B h.1)];refine eM call179 λF hF=>?_
   exact ng (cX u z A y)
def Bj (p:α->Bool) (l:List α) (x:α):(l++[x]).any p=(l.any p||p x):=by simp
theorem Af (g:Cf) (s:Sv) (l:List Cl) (ga:Int) (H:Ap g s l ga):zO 134 [vL g,xZ s,zE uK l,iA ga] [] (xZ (uM g s l ga)) []:=by
 have hb:AT s:=⟨by have:=H.sl;omega⟩;have C:=NV s hb;have A:=Ja s hb ga;have hl:=zA uK l;have S:=H.len;have G:=HV g s l ga H.n0 H.en;have y:=Sr g (gV g s l ga) ga l zB (H.ok _ G) (H.sta _ G) ⟨H.c0,H.c1⟩;have R:=bH g (gV g s l ga) ga l (ln l)
 have hd:gV g s l ga=if s.ph≠ -1/\XR g s l=true then qQ s ga else s:=rfl
 have X:XR g s l=(!(l.any λx=>x.ph==s.ph)||decide (g.hold<=s.gr)||((l.any λc=>cA c.k)&& !(l.any λx=>x.ph==s.ph&&cA x.k))):=rfl;unfold uM;generalize gV g s l ga=M at *;generalize uZ g M ga l (ln l)=b at *;generalize XR g s l=L,qQ s ga=s2 at *;by_cases h1:s.ph= -1
 .rw[hW (by simp[h1])]at hd;subst hd;by_cases h2:0<=b
  .rw[Os ⟨h1,h2⟩];have I:=yC uK l b h2 zB;generalize l.getD b.toNat dd=O at *;refine eM call134 λF hF=>?_
   exact ng (xH C y)
  .rw[hW (λh=>h2 h.2)];refine eM call134 λF hF=>?_
   exact ng (xH C y)
 refine eM call134 λF hF=>?_
 refine zP C ?_;refine zU (l) [4,5,8,9] [4,5,8,9] [2,3,4,5,8,9,21,22] [10,11,12,23,2,3,4,5,8,9,21,22] Z (λi gd T U=>⟨(10,bA (gd.any λx=>x.ph==s.ph))::(11,bA (gd.any λx=>x.ph==s.ph&&cA x.k))::(12,bA (gd.any λc=>cA c.k))::(23,iA i)::T,U⟩) (Lq ?_ ?_)
 .intro i gd x post hx hi;have I:=zY uK hx hi;have V:=zX hx hi;have e:=gL x;simp only[Bj];generalize (gd.any λx=>x.ph==s.ph)=m at *;generalize (gd.any λx=>x.ph==s.ph&&cA x.k)=u at *;generalize (gd.any λc=>cA c.k)=w at *;generalize cA x.k=E at *;by_cases B:x.ph=s.ph
  .rw[show(x.ph==s.ph)=true by simpa using B]
   cases m<;>cases u<;>cases w<;>cases E<;>((refine zP e ?_);rfl)
  .rw[show(x.ph==s.ph)=false by simpa using B]
   cases m<;>cases u<;>cases w<;>cases E<;>((refine zP e ?_);rfl)
 .generalize (l.any λx=>x.ph==s.ph)=m at *;generalize (l.any λx=>x.ph==s.ph&&cA x.k)=u at *;generalize (l.any λc=>cA c.k)=w at*
  have hh:(m=true/\s.gr<g.hold/\(w=false\/u=true)/\L=false)\/L=true:=by
   by_cases h:g.hold<=s.gr<;>cases m<;>cases u<;>cases w<;>simp_all<;>omega
  rcases hh with⟨W,hg,Y,z⟩|z
  .subst W z;rw[hW yE]at hd;subst hd;rw[hW (λh=>h1 h.1)]
   cases u<;>cases w<;>first|(simp at Y;done)|(exact mx)
  .subst z;rw[Os ⟨h1,rfl⟩]at hd;subst hd
   have hh:g.hold<=s.gr\/s.gr<g.hold/\(m=false\/(w=true/\u=false)):=by
    by_cases h:g.hold<=s.gr<;>cases m<;>cases u<;>cases w<;>simp_all<;>omega
   clear X;by_cases B:M.ph= -1
   .by_cases h2:0<=b
    .rw[Os ⟨B,h2⟩];have I:=yC uK l b h2 zB;generalize l.getD b.toNat dd=O at *;by_cases h:g.hold<=s.gr
     .cases m<;>cases u<;>cases w<;>(exact ng (xH A y))
     .cases m<;>cases u<;>cases w<;>first|(exfalso;simp at hh;omega)|(exact ng (xH A y))
    .rw[hW (λh=>h2 h.2)];by_cases h:g.hold<=s.gr
     .cases m<;>cases u<;>cases w<;>(exact ng (xH A y))
     .cases m<;>cases u<;>cases w<;>first|(exfalso;simp at hh;omega)|(exact ng (xH A y))
   .rw[hW (λh=>B h.1)];by_cases h:g.hold<=s.gr
    .cases m<;>cases u<;>cases w<;>(exact ng (xH A y))
    .cases m<;>cases u<;>cases w<;>first|(exfalso;simp at hh;omega)|(exact ng (xH A y))
def Vd (g:Cf) (s:Sv) (l:List Cl) (ga:Int):(uM g s l ga).en=(gV g s l ga).en:=by unfold uM;split<;>rfl
def YP (g:Cf) (s:Sv) (l:List Cl) (ga:Int):(uM g s l ga).en.length=ln s.en:=by rw[Vd];exact Dj g s l ga
theorem Ha (g:Cf) (s:Sv) (l:List Cl) (ga:Int):(gV g s l ga=s\/(s.ph≠ -1/\XR g s l=true/\gV g s l ga=qQ s ga)):=by grind [gV,XR,qQ]
theorem Ud (g:Cf) (s:Sv) (l:List Cl) (ga:Int):(gV g s l ga).ph=s.ph/\(gV g s l ga).gr=s.gr\/(gV g s l ga).ph= -1/\(gV g s l ga).gr=0:=by
 rcases Ha g s l ga with hd|⟨_,_,hd⟩
 .grind
 .exact .inr (by rw[hd];exact⟨rfl,rfl⟩)
theorem ry (g:Cf) (s:Sv) (l:List Cl) (ga:Int) (n:Int) (hl:∀c∈l,0<=c.ph/\c.ph<n) (h: -1<=s.ph/\s.ph<n/\0<=s.gr/\s.gr<=60) (u:0<=n): -1<=(uM g s l ga).ph/\(uM g s l ga).ph<n/\0<=(uM g s l ga).gr/\(uM g s l ga).gr<=60:=by
 have h1:=Ud g s l ga;have hb:=bH g (gV g s l ga) ga l (ln l)
 grind [uM]
def Aj (g:Cf) (s:Sv) (l:List Cl) (ga:Int) (u:0<=ga) (h:∀e∈s.en,-1<=e/\e<=ga):∀e∈(uM g s l ga).en,-1<=e/\e<=ga:=by rw[Vd];exact HV g s l ga u h
def iy (s:Sv) (b:Bool):(gE s b).en=s.en/\(gE s b).ph=s.ph:=by unfold gE;split<;>exact⟨rfl,rfl⟩
def Zy (s:Sv) (b:Bool) (h:0<=s.gr/\s.gr<=60):0<=(gE s b).gr/\(gE s b).gr<=60:=by unfold gE;split;(dsimp only;omega);exact h
theorem B4 (s:Sv) (b:Bool) (u:s.ph= -1->s.gr=0):(gE s b).ph= -1->(gE s b).gr=0:=by grind [gE]
theorem A4 (g:Cf) (s:Sv) (l:List Cl) (ga:Int) (u:s.ph= -1->s.gr=0):(uM g s l ga).ph= -1->(uM g s l ga).gr=0:=by grind [uM,Ud]
structure EI (n:Nat) (d:Dk) (s:Sv) (ga:Int):Prop where
 len:s.en.length=n
 en:∀e∈s.en,-1<=e/\e<ga
 p0: -1<=s.ph
 p1:s.ph<n
 g0:0<=s.gr
 g1:s.gr<=60
 n0:1<=ga
 n1:ga+rem d<=301
 z:s.ph= -1->s.gr=0
theorem EI.next {n:Nat} {d:Dk} (H:EI n d s ga) (g:Cf) (c:List Cl) (u:∀x∈c,L8 n ga x) (b:Bool) (y:Dk) (hd:rem y+1<=rem d):EI n y (gE (uM g s c ga) b) (ga+1):=by
 have B:=ry g s c ga n (λx hx=>⟨(u x hx).p0,(u x hx).p1⟩) ⟨H.p0,H.p1,H.g0,H.g1⟩ zB;have E:=Zy (uM g s c ga) b B.2.2;obtain⟨e1,C⟩:=iy (uM g s c ga) b;have:=H.n0;have:=H.n1;have A:=Aj g s c ga zB (λe A=>by have:=H.en e A;omega);refine⟨by rw[e1,YP];exact H.len,λe h=>?_,zB,zB,zB,zB,zB,zB,λh=>?_⟩
 case refine_2=>exact B4 _ b (A4 g s c ga H.z) h
 grind
def zk (s:Sg) (h1:ln s.c.li<=1073741824) (h2:ln s.c.nx<=1073741824):zO 108 [wD s] [] (wD s) []:=by
 have u:=JN s.c.li h1;have y:=JM s.c.nx h2;refine eM call108 λF hF=>?_
 exact ng (xH u y)
def Yy (s:Sg) (v:Sv):Bool:=decide (0<=v.ph/\v.ph<ln s.c.li)&&((xI s.c v.ph.toNat).lamp==1)
def AU (g:Cf) (j:Jn) (s:Sg) (v:Sv) (l:List Cl) (k ga:Int):Sg×Sv:=
 if s.lat=true then(s,qQ v ga)
 else if(Sd j s (uM g v l ga).ph k).lat=true then(Sd j s (uM g v l ga).ph k,qQ (uM g v l ga) ga)
 else(Sd j s (uM g v l ga).ph k,gE (uM g v l ga) (Yy (Sd j s (uM g v l ga).ph k) (uM g v l ga)))
def Mr (g:Cf) (j:Jn) (J:JV j) (s:Sg) (C:CV j s.c) (v:Sv) (l:List Cl) (k ga:Int) (H:Ap g v l ga) (G: -1000000<=(uM g v l ga).gr):zO 117 [vL g,xC j,wD s,xZ v,zE uK l,iA k,iA ga] [] (.tup [wD (AU g j s v l k ga).1,xZ (AU g j s v l k ga).2]) []:=by
 have hJ:=J.n;have hn:=C.n;have hm:=C.m;have hb:AT v:=⟨by have:=H.sl;omega⟩;have A:AT (uM g v l ga):=⟨by rw[YP];have:=H.sl;omega⟩;have M:=zk s zB zB;have O:=Gj v hb ga;have B:=Cj g v l ga H;have E:=Ir j J s C (uM g v l ga).ph k;have R:=Gj (uM g v l ga) A ga;have I:=Rr (uM g v l ga) A (Yy (Sd j s (uM g v l ga).ph k) (uM g v l ga)) G;have X:=Uy J C (uM g v l ga).ph k;have U:=X.n;unfold AU;generalize qQ v ga=v0,uM g v l ga=y at *;generalize qQ y ga=v2 at *;generalize Sd j s y.ph k=x at *;have u:Yy x y=(decide (0<=y.ph/\y.ph<ln x.c.li)&&((xI x.c y.ph.toNat).lamp==1)):=rfl;generalize Yy x y=b at *;generalize gE y b=v3 at *;clear H G X C hb A;obtain⟨sc,W⟩:=s;obtain⟨z,Y⟩:=x;dsimp only at *;have S:=zA yX z.li
 cases W with
 |true=>
  rw[Os Z];refine eM call117 λF hF=>?_
  exact ng (xH M O)
 |false=>
 rw[hW zAs]
 cases Y with
 |true=>
  rw[Os Z];refine eM call117 λF hF=>?_
  exact ng (qS B E R)
 |false=>
 rw[hW zAs];dsimp only;rw[show wD ⟨z,false⟩= .agg [zE yX z.li,iA z.gr,zE iA z.nx,iA z.wt,bA false]from Z]at *; by_cases h1:0<=y.ph
 case neg=>
  rw[zAb (λh=>h1 h.1),zA7]at u;subst u;refine eM call117 λF hF=>?_
  exact ng (qS B E I)
 by_cases h2:y.ph<ln z.li
 case neg=>
  rw[zAb (λh=>h2 h.2),zA7]at u;subst u;refine eM call117 λF hF=>?_
  exact ng (qS B E I)
 rw[zAc ⟨h1,h2⟩,zAj]at u;have V:=yC yX z.li y.ph h1 h2
 change (z.li.map yX)[y.ph.toNat]? =some (yX (xI z y.ph.toNat))at V
 generalize xI z y.ph.toNat=a at *;by_cases L:a.lamp=1
 .rw[show(a.lamp==1)=true by rw[zBv];exact L]at u;subst u;refine eM call117 λF hF=>?_
  exact ng (qS B E I)
 .rw[show(a.lamp==1)=false by rw[zBd];exact L]at u;subst u;refine eM call117 λF hF=>?_
  exact ng (qS B E I)
theorem Xy {j:Jn} (J:JV j) {s:Sg} (C:CV j s.c) (g:Cf) (v:Sv) (c:List Cl) (k ga:Int):CV j (AU g j s v c k ga).1.c:=by grind [AU,Uy]
def ph2:Ph:=⟨0,0,1,1,1,0,0,0⟩
def j2:Jn:=⟨[ph2],[0],0⟩
structure Ss where
 op:Bool
 dr:Bool
 bf:List Int
 gb:Bool
instance:Inhabited Ss:=⟨⟨false,false,[],false⟩⟩
def UO (m n:Nat):Nat:=min n (256-m)
def Ga (s:Ss) (b:List Int):Ss:=if s.op=true then⟨true,s.dr||decide (UO (ln s.bf) (ln b)≠b.length),s.bf++b.take (UO (ln s.bf) (ln b)),s.gb⟩else s
theorem Lr {s:Ss} (h:ln s.bf<=256) (b:List Int):(Ga s b).bf.length<=256:=by grind [Ga,List.length_append,List.length_take,UO]
def Fa (l:List Vw) (hl:ln l<=1073741824):zO 173 [zE wE l] [] (.ref 1001 0 (l.map wE).length) [(1001,.arr 4 (l.map wE) false)]:=by
 have u:=zA wE l;refine eM call173 λF hF=>?_
 refine xW 0 Z (λcap hx=>?_) ?_
 .have:l=[]:=by simpa using hx
  subst this
  (repeat' (first|refine Ze ?_|apply yY|apply xN|intro hc|fail))
  refine uN 2 1001 4 Z Z Z (xP ?_);exact zV [1001] Z Z Z Z
 .repeat' (first|(apply zG;first|refine vT tok Z Z ?_|(apply vE;refine wO (xQ tok (.inl ⟨rfl,rfl⟩) Z Z Z Z) Z ?_)|(apply yL;refine qH (nw:=[1001]) (xD tok 1001 (xs:=[]) Z Z Z Z Z Z Z Z Z) Z Z Z ?_)|(apply yI;refine wU tok Z Z Z Z Z Z Z (yG _ _ (λ_=>rfl)) Z Z Z zB Z ?_)|apply qV)|(first|apply wF|apply wB|refine uW Z ?_|refine yT Z ?_|refine yH Z ?_|refine wL Z (λhc=>?_) λhc=>?_|apply xO|apply xP|apply wA|apply xE))
  exact zV [1001] Z Z Z Z
def JL (l:List Vw) (I:ln l<=1000) (hb:∀v∈l,ln v.co<=1000/\v.cn.length<=1000):zO 112 [zE wE l] [] (zE wE l) []:=by
 have c:=Fa l zB;have E:=zA wE l;refine eM call112 λF hF=>?_
 refine zP c ?_;refine zM ((l.map wE).length) [1001] [] [0,7] [8,0,7] Z (λi T U=>⟨(8,iA i)::T,(1001,.arr 4 (dI i (l.map wE)) false)::U⟩) (Lq ?_ ?_)
 .intro i hi;have hi':i<ln l:=by omega
  have y:(dI i (l.map wE))[i]? =some (wE (l.getD i dd)):=zJ wE l i hi';have e:=fW wE l i hi';have C:=hb (l.getD i dd) QT;have z:=TA (l.getD i dd).co zB;have A:=TA (l.getD i dd).cn zB;generalize (l.getD i dd)=t,dI i (l.map wE)=xs,dI (i+1) (l.map wE)=ys at *;have u:=dT y;have G:(xs.set i (.agg [bA t.fl,bA t.ov,zE iA t.co,zE iA t.cn]))[i]? =some (wE t):=by rw[show AV.agg [bA t.fl,bA t.ov,zE iA t.co,zE iA t.cn]=wE t from Z,u];exact y
  have B:(xs.set i (.agg [bA t.fl,bA t.ov,zE iA t.co,zE iA t.cn])).set i (.agg [bA t.fl,bA t.ov,zE iA t.co,zE iA t.cn])=ys:=by rw[zEp];exact e
  clear e u;subst B;refine yB (xH z A) ?_;rfl
 ·(refine WW ?_)
  exact zH [] Z Z (zAt (AV.sl false) zAa) Z
def fT (s:Ss):AV:= .agg [bA s.op,bA s.dr,zE yA s.bf,bA s.gb]
structure Ev where
 k:Int
 s:Int
 a:Int
 b:Int
 y:List Int
instance:Inhabited Ev:=⟨⟨0,0,0,0,[]⟩⟩
def jS (e:Ev):AV:= .agg [iA e.k,iA e.s,iA e.a,iA e.b,zE yA e.y]
