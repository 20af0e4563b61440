/- Part 25. -/
import Derived.Test.YtaglbcjljlkjcaaGreatT24
import Derived.Test.YtaglbcjljlkjcaaGreatT20
namespace Go.Proofs.YtaglbcjljlkjcaaGreat.Av
open Tryz
set_option linter.all false
set_option maxRecDepth 4000
set_option maxHeartbeats 2000000
open List renaming length->ln,replicate->oj
open Inhabited renaming default->dd
variable {g:Cf}{f3:Int}{l:List Cl}{s:Sv}{α:Type}
def RB (u cap:Int) (z:List Int) (f3:Int) (x:Cl):Int:=if cK x.k then x.k else UW u cap z f3 x.ph x.k x.si
def gU (u cap:Int) (z:List Int) (f3:Int) (x y:Cl):Bool:=
 if cK x.k≠cK y.k then cK x.k
 else if RB u cap z f3 x≠RB u cap z f3 y then decide (RB u cap z f3 y<RB u cap z f3 x)
 else if jV z x.ph x.si≠jV z y.ph y.si then decide (jV z x.ph x.si<jV z y.ph y.si)
 else if x.ag≠y.ag then decide (x.ag<y.ag)else decide (x.id<y.id)
theorem Y0 (g:Cf) (s:Sv) (x y:Cl) (f3:Int) (M:rj g.per f3 s.en x) (O:rj g.per f3 s.en y):zM 280 [wH g,wU s,iA f3,kD x,kD y] [] (bA (gU g.per g.cap s.en f3 x y)) []:=by
 have u:=jH x;have z:=jH y;have C:=vf g s x f3 M;have E:=vf g s y f3 O;have G:=UV s x;have I:=UV s y
 cases A:cK x.k<;>cases B:cK y.k<;>rw[A]at u<;>rw[B]at z
 .by_cases h1:UW g.per g.cap s.en f3 x.ph x.k x.si=UW g.per g.cap s.en f3 y.ph y.k y.si
  .by_cases h2:jV s.en x.ph x.si=jV s.en y.ph y.si
   .by_cases L:x.ag=y.ag
    all_goals
     (refine eM call280 λF hF=>?_)
     (have ga:=u;have ge:=z;have gn:=C;have gt:=E;have ic:=G;have kj:=I;refine WG ?_;clear ga ge gn gt ic kj)
     refine zI [] Z Z (zBp bA ?_) Z;simp[gU,RB,A,B,h1,h2,L,vW]
   ·(refine eM call280 λF hF=>?_)
    (have ga:=u;have ge:=z;have gn:=C;have gt:=E;have ic:=G;have kj:=I;refine WG ?_;clear ga ge gn gt ic kj)
    refine zI [] Z Z (zBp bA ?_) Z;simp[gU,RB,A,B,h1,h2,vW]
  ·(refine eM call280 λF hF=>?_)
   (have ga:=u;have ge:=z;have gn:=C;have gt:=E;have ic:=G;have kj:=I;refine WG ?_;clear ga ge gn gt ic kj)
   refine zI [] Z Z (zBp bA ?_) Z;simp[gU,RB,A,B,h1,vW]
 ·(refine eM call280 λF hF=>?_)
  (have ga:=u;have ge:=z;have gn:=C;have gt:=E;have ic:=G;have kj:=I;refine WG ?_;clear ga ge gn gt ic kj)
  refine zI [] Z Z (zBp bA ?_) Z;simp[gU,A,B]
 ·(refine eM call280 λF hF=>?_)
  (have ga:=u;have ge:=z;have gn:=C;have gt:=E;have ic:=G;have kj:=I;refine WG ?_;clear ga ge gn gt ic kj)
  refine zI [] Z Z (zBp bA ?_) Z;simp[gU,A,B]
 .by_cases h1:x.k=y.k
  .by_cases h2:jV s.en x.ph x.si=jV s.en y.ph y.si
   .by_cases L:x.ag=y.ag
    all_goals
     (refine eM call280 λF hF=>?_)
     (have ga:=u;have ge:=z;have gn:=C;have gt:=E;have ic:=G;have kj:=I;refine WG ?_;clear ga ge gn gt ic kj)
     refine zI [] Z Z (zBp bA ?_) Z;simp[gU,RB,A,B,h1,h2,L,vW]
   ·(refine eM call280 λF hF=>?_)
    (have ga:=u;have ge:=z;have gn:=C;have gt:=E;have ic:=G;have kj:=I;refine WG ?_;clear ga ge gn gt ic kj)
    refine zI [] Z Z (zBp bA ?_) Z;simp[gU,RB,A,B,h1,h2,vW]
  ·(refine eM call280 λF hF=>?_)
   (have ga:=u;have ge:=z;have gn:=C;have gt:=E;have ic:=G;have kj:=I;refine WG ?_;clear ga ge gn gt ic kj)
   refine zI [] Z Z (zBp bA ?_) Z;simp[gU,RB,A,B,h1,vW]
def qK (g:Cf) (s:Sv) (f3:Int) (xs:List Cl):Nat->Int
 |0=> -1
 |i+1=>if BH g.lock s.en f3 (xs.getD i dd).ph (xs.getD i dd).k then qK g s f3 xs i
  else if qK g s f3 xs i<0 then i
  else if gU g.per g.cap s.en f3 (xs.getD i dd) (xs.getD (qK g s f3 xs i).toNat dd)then i else qK g s f3 xs i
theorem bQ (g:Cf) (s:Sv) (f3:Int) (xs:List Cl):∀i,-1<=qK g s f3 xs i/\qK g s f3 xs i<i\/qK g s f3 xs i= -1
 |0=> .inr Z
 | i+1=>by
  have:=bQ g s f3 xs i;unfold qK;split
  .omega
  .split
   .omega
   .split<;>omega
def NR (g:Cf) (s:Sv) (f3:Int) (xs:List Cl) (i:Nat):qK g s f3 xs (i+1)=if BH g.lock s.en f3 (xs.getD i dd).ph (xs.getD i dd).k=true then qK g s f3 xs i
 else if qK g s f3 xs i<0 then(i:Int)
 else if gU g.per g.cap s.en f3 (xs.getD i dd) (xs.getD (qK g s f3 xs i).toNat dd)=true then(i:Int)else qK g s f3 xs i:=rfl
def W0 (g:Cf) (s:Sv) (f3:Int) (xs:List Cl) (G:ln xs<=1099511627776) (I:∀i,i<ln xs->rj g.per f3 s.en (xs.getD i dd)):zM 228 [wH g,wU s,iA f3,zE kD xs] [] (iA (qK g s f3 xs (ln xs))) []:=by
 have hl:(xs.map kD).length=ln xs:=by simp
 refine eM call228 λF hF=>?_
 refine WO ?_
 refine wQ (λn st=>∃i:Nat,n+i=ln xs/\st=⟨[(2,iA f3),(3,zE kD xs),(4,.ptr 4 0 0),(5,.ptr 5 0 0),(9,iA (qK g s f3 xs i)),(12,zE kD xs),(13,iA (ln xs)),(14,iA i)],[(4,.box [zE wK g.js,zE uK g.ags,iA g.per,iA g.cap,iA g.hold,iA g.lock]),(5,.box [iA s.ph,iA s.gr,zE iA s.en])]⟩)
  (ln xs) [4,5] [2,3,4,5,9,12,13,14] Z ⟨0,rfl,by rw[<-hl];rfl⟩ ?_
 rintro n st ⟨i,hi,rfl⟩;by_cases B:i<ln xs
 .have M:=yF kD xs i zB zB;have A:=I i B;have hb:=bQ g s f3 xs i;have u:=NR g s f3 xs i;have z:=Dl g s (xs.getD i dd) f3 A;rw[show((i:Int)).toNat=i from Z]at M
  cases hL:BH g.lock s.en f3 (xs.getD i dd).ph (xs.getD i dd).k<;>rw[hL]at z u
  .rw[Os zW]at u;by_cases E:qK g s f3 xs i<0
   .rw[zA4 E]at u
    (have ga:=z;refine WG ?_;clear ga)
    exact⟨n-1,zB,i+1,zB,by rw[u];rfl⟩
   .rw[Os E]at u;have O:=yF kD xs (qK g s f3 xs i) zB zB;have C:=Y0 g s (xs.getD i dd) (xs.getD (qK g s f3 xs i).toNat dd) f3 A (I _ zB)
    cases L:gU g.per g.cap s.en f3 (xs.getD i dd) (xs.getD (qK g s f3 xs i).toNat dd)<;>rw[L]at C u
    .rw[Os zW]at u
     (have ga:=z;have ge:=C;refine WG ?_;clear ga ge)
     exact⟨n-1,zB,i+1,zB,by rw[u];rfl⟩
    .rw[zA4 Z]at u
     (have ga:=z;have ge:=C;refine WG ?_;clear ga ge)
     exact⟨n-1,zB,i+1,zB,by rw[u];rfl⟩
  .rw[zA4 Z]at u
   (have ga:=z;refine WG ?_;clear ga)
   exact⟨n-1,zB,i+1,zB,by rw[u];rfl⟩
 .obtain rfl:i=ln xs:=by omega
  exact nm
def bR (s:Sv) (p:Int):zM 297 [wU s,iA p] [] (iA (cN s.en p)) []:=by
 have hl:(s.en.map iA).length=ln s.en:=by simp
 by_cases h1:p<0
 .rw[show cN s.en p= -1 by simp[cN,h1]];refine eM call297 λF hF=>?_
  exact nm
 .by_cases h2:(ln s.en:Int)<=p
  .rw[show cN s.en p= -1 by simp[cN,h2]];refine eM call297 λF hF=>?_
   exact nm
  .rw[show cN s.en p=s.en.getD p.toNat 0 by unfold cN;rw[Os zB]];have u:=yF iA s.en p zB zB;refine eM call297 λF hF=>?_
   exact nm
def gV (c:Cl):zM 195 [kD c] [] (bA (cK c.k)) []:=by
 unfold cK;by_cases h:c.k=2
 .rw[show(c.k==2||c.k==3)=true by simp[h]];refine eM call195 λF hF=>?_
  exact nm
 .rw[show(c.k==2||c.k==3)=(c.k==3) by simp[h]];refine eM call195 λF hF=>?_
  exact nm
def NS (s:Sv) (c:Cl):zM 337 [wU s,kD c] [] (iA (jV s.en c.ph c.si)) []:=by
 refine eM call337 λF hF=>?_
 (repeat' (first|refine aQ ?_|refine yW (λhc=>?_) λhc=>?_|(apply zG;apply xP;(refine vH 297 ?_;first|refine wJ (zL (bR s _) Z Z Z Z Z) Z ?_|refine uX (zL (bR s _) Z Z Z Z Z) Z Z Z ?_|refine aK (zL (bR s _) Z Z Z Z Z) Z Z Z ?_))|fail))
 exact zH
def BB (g:Cf) (s:Sv) (c:Cl) (f3:Int) (z:rj g.per f3 s.en c) (B:jV s.en c.ph c.si<=f3):zM 338 [wH g,wU s,kD c,iA f3] [] (iA (UW g.per g.cap s.en f3 c.ph c.k c.si)) []:=by
 obtain⟨p,C,E,G,I,L,M,_,_⟩:=z
 have u:UW g.per g.cap s.en f3 c.ph c.k c.si=min g.cap (c.k+(f3-jV s.en c.ph c.si).tdiv (max 1 g.per)):=by
  unfold UW;rw[show max 1 g.per=g.per by omega,zC2 zB]
 have hb:=xf (f3-jV s.en c.ph c.si) (max 1 g.per) zB zB zB;have A:bI .i64 ((f3-jV s.en c.ph c.si).tdiv (max 1 g.per)):=⟨zB,zB⟩;rw[u];refine eM call338 λF hF=>?_
 (have ga:=NS s c;refine WG ?_;clear ga)
 exact zH
theorem Wh (g:Cf) (s:Sv) (c:Cl) (f3:Int) (u:rj g.per f3 s.en c):zM 248 [wH g,wU s,kD c,iA f3] [] (bA (BH g.lock s.en f3 c.ph c.k)) []:=by
 obtain⟨p,A,B,C,E,G,I,z,e1⟩:=u;unfold BH;refine eM call248 λF hF=>?_
 (repeat' (first|refine aQ ?_|refine yW (λhc=>?_) λhc=>?_|(apply zG;apply xP;(first|(refine vH 297 ?_;first|refine wJ (zL (bR s _) Z Z Z Z Z) Z ?_|refine uX (zL (bR s _) Z Z Z Z Z) Z Z Z ?_|refine aK (zL (bR s _) Z Z Z Z Z) Z Z Z ?_)|(refine vH 195 ?_;first|refine wJ (zL (gV c) Z Z Z Z Z) Z ?_|refine uX (zL (gV c) Z Z Z Z Z) Z Z Z ?_|refine aK (zL (gV c) Z Z Z Z Z) Z Z Z ?_)))|fail))
 all_goals refine zI [] Z Z (zBp bA ?_) Z
 all_goals simp_all [vW]
structure Key where
 x0:Int
 x1:Int
 x2:Int
 x3:Int
 x4:Int
def kyA (k:Key):AV:= .agg [iA k.x0,iA k.x1,iA k.x2,iA k.x3,iA k.x4]
def NT (z cap:Int) (u:List Int) (f3:Int) (c:Cl):Key:=if cK c.k=true then⟨0,-c.k,jV u c.ph c.si,c.ag,c.id⟩else⟨1,-UW z cap u f3 c.ph c.k c.si,jV u c.ph c.si,c.ag,c.id⟩
def yy (g:Cf) (s:Sv) (c:Cl) (f3:Int) (u:rj g.per f3 s.en c) (C:jV s.en c.ph c.si<=f3) (hc: -1000000<=g.cap/\g.cap<=1000000):zM 298 [wH g,wU s,iA f3,kD c] [] (kyA (NT g.per g.cap s.en f3 c)) []:=by
 have z:=gV c
 have B:UW g.per g.cap s.en f3 c.ph c.k c.si<=1000000/\ -1000000<=UW g.per g.cap s.en f3 c.ph c.k c.si:=by
  unfold UW;have:=Int.ediv_nonneg (show 0<=f3-jV s.en c.ph c.si by omega) (show 0<=g.per by have:=u.p;omega);have:=u.k0;omega
 have E:=u.k0;have G:=u.k1
 cases A:cK c.k<;>rw[A]at z
 .rw[show NT g.per g.cap s.en f3 c=⟨1,-UW g.per g.cap s.en f3 c.ph c.k c.si,jV s.en c.ph c.si,c.ag,c.id⟩ by simp[NT,A]];refine eM call298 λF hF=>?_
  (have ga:=z;have ge:=NS s c;have gn:=BB g s c f3 u C;refine WG ?_;clear ga ge gn)
  exact zH
 .rw[show NT g.per g.cap s.en f3 c=⟨0,-c.k,jV s.en c.ph c.si,c.ag,c.id⟩ by simp[NT,A]];refine eM call298 λF hF=>?_
  (have ga:=z;have ge:=NS s c;have gn:=BB g s c f3 u C;refine WG ?_;clear ga ge gn)
  exact zH
def GI (x y:Key):Bool:=if x.x0≠y.x0 then decide (x.x0<y.x0)else if x.x1≠y.x1 then decide (x.x1<y.x1)else if x.x2≠y.x2 then decide (x.x2<y.x2)else if x.x3≠y.x3 then decide (x.x3<y.x3)else if x.x4≠y.x4 then decide (x.x4<y.x4)else false
theorem Rl (u cap:Int) (z:List Int) (f3:Int) (x y:Cl):GI (NT u cap z f3 x) (NT u cap z f3 y)=gU u cap z f3 x y:=by
 have neg:∀a b:Int,decide (-a< -b)=decide (b<a):=λa b=>by
  grind
 have A:∀a b:Int,(-a≠ -b)=(a≠b):=λa b=>propext zB
 unfold GI gU NT RB;generalize UW u cap z f3 x.ph x.k x.si=B
 grind [GI,NT,gU,UW,jV,cK]
def Qt (g:Cf) (s:Sv) (x y:Cl) (f3:Int) (E:rj g.per f3 s.en x) (G:rj g.per f3 s.en y) (L:jV s.en x.ph x.si<=f3) (M:jV s.en y.ph y.si<=f3) (hc: -1000000<=g.cap/\g.cap<=1000000):zM 249 [wH g,wU s,iA f3,kD x,kD y] [] (bA (gU g.per g.cap s.en f3 x y)) []:=by
 have A:=yy g s x f3 E L hc;have B:=yy g s y f3 G M hc;rw[<-Rl];generalize NT g.per g.cap s.en f3 x=p,NT g.per g.cap s.en f3 y=q at *;clear hc L M E G;refine eM call249 λF hF=>?_
 (have ga:=A;have ge:=B;refine WG ?_;clear ga ge)
 refine wQ (λn st=>∃i:Nat,n+i=5/\(0<i->p.x0=q.x0)/\(1<i->p.x1=q.x1)/\(2<i->p.x2=q.x2)/\(3<i->p.x3=q.x3)/\(4<i->p.x4=q.x4)/\
  st=⟨[(11,.ptr 11 0 0),(12,.ptr 12 0 0),(24,iA i)],[(11,.box [iA p.x0,iA p.x1,iA p.x2,iA p.x3,iA p.x4]),(12,.box [iA q.x0,iA q.x1,iA q.x2,iA q.x3,iA q.x4])]⟩)
  5 [11,12] [11,12,24] Z ⟨0,rfl,zB,zB,zB,zB,zB,rfl⟩ ?_
 rintro n st ⟨i,hi,a0,a1,a2,a3,a4,rfl⟩
 obtain rfl|rfl|rfl|rfl|rfl|rfl:i=0\/i=1\/i=2\/i=3\/i=4\/i=5:=by omega
 .clear A B;by_cases h:p.x0=q.x0
  ·(refine WO ?_)
   exact⟨n-1,zB,1,zB,λ_=>h,zB,zB,zB,zB,rfl⟩
  ·(refine WO ?_)
   refine zI [] Z Z (zBp bA ?_) Z;simp[GI,h,vW]
 .clear A B;have u:=a0 zB;by_cases h:p.x1=q.x1
  ·(refine WO ?_)
   exact⟨n-1,zB,2,zB,λ_=>u,λ_=>h,zB,zB,zB,rfl⟩
  ·(refine WO ?_)
   refine zI [] Z Z (zBp bA ?_) Z;simp[GI,u,h,vW]
 .clear A B;have u:=a0 zB;have z:=a1 zB;by_cases h:p.x2=q.x2
  ·(refine WO ?_)
   exact⟨n-1,zB,3,zB,λ_=>u,λ_=>z,λ_=>h,zB,zB,rfl⟩
  ·(refine WO ?_)
   refine zI [] Z Z (zBp bA ?_) Z;simp[GI,u,z,h,vW]
 .clear A B;have u:=a0 zB;have z:=a1 zB;have C:=a2 zB;by_cases h:p.x3=q.x3
  ·(refine WO ?_)
   exact⟨n-1,zB,4,zB,λ_=>u,λ_=>z,λ_=>C,λ_=>h,zB,rfl⟩
  ·(refine WO ?_)
   refine zI [] Z Z (zBp bA ?_) Z;simp[GI,u,z,C,h,vW]
 .clear A B;have u:=a0 zB;have z:=a1 zB;have C:=a2 zB;have I:=a3 zB;by_cases h:p.x4=q.x4
  ·(refine WO ?_)
   exact⟨n-1,zB,5,zB,λ_=>u,λ_=>z,λ_=>C,λ_=>I,λ_=>h,rfl⟩
  ·(refine WO ?_)
   refine zI [] Z Z (zBp bA ?_) Z;simp[GI,u,z,C,I,h,vW]
 .clear A B;refine WO ?_;refine zI [] Z Z (zBp bA ?_) Z;simp[GI,a0,a1,a2,a3,a4]
def Pt (g:Cf) (s:Sv) (f3:Int) (xs:List Cl) (I:ln xs<=1099511627776) (M:∀i,i<ln xs->rj g.per f3 s.en (xs.getD i dd)) (L:∀i,i<ln xs->jV s.en (xs.getD i dd).ph (xs.getD i dd).si<=f3) (hc: -1000000<=g.cap/\g.cap<=1000000):
  zM 196 [wH g,wU s,iA f3,zE kD xs] [] (iA (qK g s f3 xs (ln xs))) []:=by
 have hl:(xs.map kD).length=ln xs:=by simp
 refine eM call196 λF hF=>?_
 refine WO ?_
 refine wQ (λn st=>∃i:Nat,n+i=ln xs/\st=⟨[(2,iA f3),(3,zE kD xs),(4,.ptr 4 0 0),(5,.ptr 5 0 0),(9,iA (qK g s f3 xs i)),(12,zE kD xs),(13,iA (ln xs)),(14,iA i)],[(4,.box [zE wK g.js,zE uK g.ags,iA g.per,iA g.cap,iA g.hold,iA g.lock]),(5,.box [iA s.ph,iA s.gr,zE iA s.en])]⟩)
  (ln xs) [4,5] [2,3,4,5,9,12,13,14] Z ⟨0,rfl,by rw[<-hl];rfl⟩ ?_
 rintro n st ⟨i,hi,rfl⟩;by_cases A:i<ln xs
 .have R:=yF kD xs i zB zB;have B:=M i A;have C:=L i A;have hb:=bQ g s f3 xs i;have u:=NR g s f3 xs i;have z:=Wh g s (xs.getD i dd) f3 B;rw[show((i:Int)).toNat=i from Z]at R
  cases hL:BH g.lock s.en f3 (xs.getD i dd).ph (xs.getD i dd).k<;>rw[hL]at z u
  .rw[Os zW]at u;by_cases G:qK g s f3 xs i<0
   .rw[zA4 G]at u
    (have ga:=z;refine WG ?_;clear ga)
    exact⟨n-1,zB,i+1,zB,by rw[u];rfl⟩
   .rw[Os G]at u;have S:=yF kD xs (qK g s f3 xs i) zB zB;have E:=Qt g s (xs.getD i dd) (xs.getD (qK g s f3 xs i).toNat dd) f3 B (M _ zB) C (L _ zB) hc
    cases O:gU g.per g.cap s.en f3 (xs.getD i dd) (xs.getD (qK g s f3 xs i).toNat dd)<;>rw[O]at E u
    .rw[Os zW]at u
     (have ga:=z;have ge:=E;refine WG ?_;clear ga ge)
     exact⟨n-1,zB,i+1,zB,by rw[u];rfl⟩
    .rw[zA4 Z]at u
     (have ga:=z;have ge:=E;refine WG ?_;clear ga ge)
     exact⟨n-1,zB,i+1,zB,by rw[u];rfl⟩
  .rw[zA4 Z]at u
   (have ga:=z;have ge:=z;refine WG ?_;clear ga ge)
   exact⟨n-1,zB,i+1,zB,by rw[u];rfl⟩
 .obtain rfl:i=ln xs:=by omega
  exact nm
theorem bS (P:α->Prop) (d:α):∀(l:List α) (i:Nat),(∀x∈l,P x)->i<ln l->P (l.getD i d)
 |l,i,h,hi=>by simp only[zBk,zB2 hi,zDz];exact h _ (zEz hi)
def GJ (u:List Int) (f3 z:Int) (h:0<=f3) (A:∀e∈u,-1<=e/\e<=f3): -1<=cN u z/\cN u z<=f3:=by
 unfold cN;split
 .omega
 .exact bS (λe=> -1<=e/\e<=f3) 0 u z.toNat A zB
structure ClB (ph f3:Int) (c:Cl):Prop where
 k0:0<=c.k
 k1:c.k<=3
 s0:0<=c.si
 s1:c.si<=f3
 a0:0<=c.ag
 a1:c.ag<=2
 i0:0<=c.id
 i1:c.id<=3
 p0:0<=c.ph
 p1:c.ph<ph
structure xy (g:Cf) (s:Sv) (l:List Cl) (f3:Int):Prop where
 p0:1<=g.per
 p1:g.per<=5
 c0:0<=g.cap
 c1:g.cap<=5
 h0:1<=g.hold
 h1:g.hold<=4
 l0:0<=g.lock
 l1:g.lock<=6
 len:l.length<=5
 n0:1<=s.en.length
 n1:s.en.length<=8
 en:∀e∈s.en,-1<=e/\e<=f3
 cl:∀c∈l,ClB s.en.length f3 c
theorem xy.sta (H:xy g s l f3) (u:0<=f3):∀i,i<ln l->jV s.en (l.getD i dd).ph (l.getD i dd).si<=f3:=λi hi=>by
 obtain⟨a0,z,A,B,C,E,G,I,L,M⟩:=bS (ClB (ln s.en) f3) dd l i H.cl hi;have O:=GJ s.en f3 (l.getD i dd).ph u H.en;unfold jV;omega
def GK (f:α->AV) (l:List α):AV.sl false ((l.map f).take (l.map f).length)=zE f l:=by rw[zA8];rfl
def qc (l:List Int) (hl:ln l<=1073741824):zM 111 [zE iA l] [] (.ref 1001 0 (l.map iA).length) [(1001,.arr 1 (l.map iA) false)]:=by
 have u:=zA iA l;refine eM call111 λF hF=>?_
 refine xI 0 Z (λcap z=>?_) ?_
 .have:l=[]:=by simpa using z
  subst this
  (repeat' (first|refine Yf ?_|apply yW|apply xG|intro hc|fail))
  refine qG 2 1001 1 Z Z Z (xL ?_);exact zP [1001] Z Z Z Z
 .repeat' (first|(apply zG;first|refine uN tok Z Z ?_|(apply wR;refine wJ (xY tok (.inl ⟨rfl,rfl⟩) Z Z Z Z) Z ?_)|(apply yI;refine uX (nw:=[1001]) (yX tok 1001 (xs:=[]) Z Z Z Z Z Z Z Z Z) Z Z Z ?_)|(apply yD;refine vD tok Z Z Z Z Z Z Z (yM _ _ (λ_=>rfl)) Z Z Z zB Z ?_)|apply kP)|(first|apply xZ|apply xR|refine uD Z ?_|refine yR Z ?_|refine yE Z ?_|refine wA Z (λhc=>?_) λhc=>?_|apply xJ|apply xL|apply xQ|apply xB))
  exact zP [1001] Z Z Z Z
def Uh (l:List Int) (hl:ln l<=1073741824):zM 111 [zE iA l] [] (zE iA l) []:=by
 have u:=zA iA l;refine eM call111 λF hF=>?_
 refine xI 0 Z (λcap z=>?_) ?_
 .have:l=[]:=by simpa using z
  subst this;exact ly
 ·(refine WW ?_)
  refine zI [] Z Z (GK _ _) Z
structure mb (s:Sv):Prop where
 n:s.en.length<=100000
def Th (s:Sv) (h:mb s):zM 110 [wU s] [] (.agg [iA s.ph,iA s.gr,.ref 1001 0 (s.en.map iA).length]) [(1001,.arr 1 (s.en.map iA) false)]:=by
 have c:=qc s.en (by have:=h.n;omega);refine eM call110 λF hF=>?_
 refine zU c ?_;exact zP [1001] Z Z Z Z
def GL (s:Sv) (h:mb s):zM 110 [wU s] [] (wU s) []:=by
 have c:=Uh s.en (by have:=h.n;omega);refine eM call110 λF hF=>?_
 exact mx c
def NU (s:Sv) (h:mb s):zM 127 [wU s] [] (wU s) []:=by
 have:=h.n;have hl:=zA iA s.en;refine eM call127 λF hF=>?_
 exact ng
def bc (s:Sv) (h:mb s):zM 127 [wU s] [] (.agg [iA s.ph,iA s.gr,.ref 1001 0 (s.en.map iA).length]) [(1001,.arr 1 (s.en.map iA) false)]:=by
 have:=h.n;have hl:=zA iA s.en;refine eM call127 λF hF=>?_
 (repeat' (first|refine uQ ?_|apply yW|apply xG|intro hc|(apply zG;first|(apply yD;refine xH 1001 tok Z Z Z Z Z Z (yM _ _ (λ_=>rfl)) Z Z Z zB Z Z Z ?_))|fail))
 exact zP [1001] Z Z Z Z
def gM (s:Sv) (u:Bool):Sv:=if u=true/\s.ph≠ -1 then⟨s.ph,min s.gr 59+1,s.en⟩else s
def Ot (s:Sv) (h:mb s) (b:Bool) (u: -1000000<=s.gr):zM 181 [wU s,bA b] [] (wU (gM s b)) []:=by
 have c:=GL s h;by_cases h1:b=true
 .subst h1;by_cases h2:s.ph= -1
  .rw[show gM s true=s by simp[gM,h2]];refine eM call181 λF hF=>?_
   exact mx c
  .rw[show gM s true=⟨s.ph,min s.gr 59+1,s.en⟩ by simp[gM,h2]];refine eM call181 λF hF=>?_
   exact mx c
 .obtain rfl:b=false:=by simpa using h1
  rw[show gM s false=s by simp[gM]];refine eM call181 λF hF=>?_
  exact mx c
def Ql (s:Sv) (h:mb s) (b:Bool) (u: -1000000<=s.gr/\s.gr<=1000000):zM 136 [wU s,bA b] [] (wU (gM s b)) []:=by
 have c:=NU s h;by_cases h1:b=true
 .subst h1;by_cases h2:s.ph= -1
  .rw[show gM s true=s by simp[gM,h2]];refine eM call136 λF hF=>?_
   exact mx c
  .rw[show gM s true=⟨s.ph,min (s.gr+1) 60,s.en⟩ by simp[gM,h2];omega];refine eM call136 λF hF=>?_
   exact mx c
 .obtain rfl:b=false:=by simpa using h1
  rw[show gM s false=s by simp[gM]];refine eM call136 λF hF=>?_
  exact mx c
def qV (s:Sv) (f3:Int):Sv:=⟨-1,0,if 0<s.gr/\0<=s.ph/\s.ph<ln s.en then s.en.set s.ph.toNat f3 else s.en⟩
theorem BC (f:α->AV) (l:List α) (i:Nat) (x:α) (n:Nat) (u:n=ln l):AV.sl false (((l.map f).set i (f x)).take n)=zE f (l.set i x):=by grind [zE,List.map_set,List.take_of_length_le]
def Pl (s:Sv) (h:mb s) (f3:Int):zM 178 [wU s,iA f3] [] (wU (qV s f3)) []:=by
 have c:=Th s h;have hl:=zA iA s.en;by_cases h1:0<s.gr/\0<=s.ph/\s.ph<ln s.en
 .obtain⟨h2,u,z⟩:=h1;have A:=yF iA s.en s.ph u z;rw[show qV s f3=⟨-1,0,s.en.set s.ph.toNat f3⟩ by simp[qV,h2,u,z]];refine eM call178 λF hF=>?_
  refine zU c ?_;refine zI [] Z Z (zBp (λx=>AV.agg [iA (-1),iA 0,x]) (BC iA s.en s.ph.toNat f3 _ hl)) Z
 .rw[show qV s f3=⟨-1,0,s.en⟩ by unfold qV;rw[Os h1]];refine eM call178 λF hF=>?_
  (have ga:=c;(repeat' (first|refine uQ ?_|apply yW|apply xG|intro hc|(apply zG;first|refine SM ?_)|fail))<;>clear ga)
  all_goals (try omega)
  all_goals refine zI [] Z Z (zBp (λx=>AV.agg [iA (-1),iA 0,x]) (GK iA s.en)) Z
def pc (s:Sv) (h:mb s) (f3:Int):zM 133 [wU s,iA f3] [] (wU (qV s f3)) []:=by
 have c:=bc s h;have hl:=zA iA s.en;by_cases h1:0<s.gr/\0<=s.ph/\s.ph<ln s.en
 .obtain⟨h2,u,z⟩:=h1;have A:=yF iA s.en s.ph u z;rw[show qV s f3=⟨-1,0,s.en.set s.ph.toNat f3⟩ by simp[qV,h2,u,z]];refine eM call133 λF hF=>?_
  refine zU c ?_;refine zI [] Z Z (zBp (λx=>AV.agg [iA (-1),iA 0,x]) (BC iA s.en s.ph.toNat f3 _ hl)) Z
 .rw[show qV s f3=⟨-1,0,s.en⟩ by unfold qV;rw[Os h1]];refine eM call133 λF hF=>?_
  (have ga:=c;(repeat' (first|refine uQ ?_|apply yW|apply xG|intro hc|(apply zG;first|refine SM ?_)|fail))<;>clear ga)
  all_goals (try omega)
  all_goals refine zI [] Z Z (zBp (λx=>AV.agg [iA (-1),iA 0,x]) (GK iA s.en)) Z
def Sh (n:Nat):Sv:=⟨-1,0,oj n (-1)⟩
def Nt (n:Nat) (h:n<=100000):zM 87 [iA n] [] (wU (Sh n)) []:=by
 refine eM call87 λF hF=>?_
 (repeat' (first|refine uQ ?_|apply yW|apply xG|intro hc|fail))
 refine zS 4 1001 1 Z Z Z ?_;refine zO (n) [1001,2,3] [2,3] [2,3,6] [4,7,2,3,6] Z (λi T U=>⟨(4,.ref 1001 0 ((oj i (-1:Int)).map iA).length)::(7,iA i)::T,(1001,.arr 1 ((oj i (-1:Int)).map iA) true)::U⟩) (Lq ?_ ?_)
 .intro i hi;have u:((oj i (-1:Int)).map iA).length=i:=by simp
  have e:(oj (i+1) (-1:Int)).map iA=(oj i (-1:Int)).map iA++[iA (-1)]:=by rw[zFd];simp
  rw[e];generalize (oj i (-1:Int)).map iA=xs at *;refine WL ?_;rfl
 ·(refine WW ?_)
  exact zI [] Z Z (zBp (λx=>AV.agg [iA (-1),iA 0,x]) (GK _ _)) Z
def BD (a b:Sv):Bool:=decide (a.ph=b.ph/\a.gr=b.gr/\a.en=b.en)
def V0 (a b:Sv) (A:mb a) (hb:mb b):zM 64 [wU a,wU b] [] (bA (BD a b)) []:=by
 have B:=zA iA a.en;have C:=zA iA b.en;have:=A.n;by_cases h:a.ph=b.ph/\a.gr=b.gr/\a.en.length=ln b.en
 case neg=>
  rw[show BD a b=false from zA6 (λg=>h ⟨g.1,g.2.1,zBp _ g.2.2⟩)];refine eM call64 λF hF=>?_
  (repeat' (first|refine uQ ?_|apply yW|apply xG|intro hc|(apply zG;first|refine SM ?_)|fail))
  all_goals (first|omega|exact zH)
 obtain⟨h1,h2,z⟩:=h;refine eM call64 λF hF=>?_
 refine WW ?_;refine uS (a.en) [3] [3] [3,29,30] [31,3,29,30] Z (λi f4 T U I=>(f4=b.en.take i)/\I=⟨(31,iA i)::T,U⟩) (Lp ?_ ?_ ?_)
 .exact⟨by simp,rfl⟩
 .rintro i f4 x post st u hi ⟨hp,rfl⟩;have L:=zZ iA u hi;have E:=zV u hi;have G:=J2 iA b.en i zB;by_cases hv:b.en[i]=x
  .rw[hv]at G;refine WW ?_;exact⟨by rw[<-hv,hp,List.take_append_getElem],rfl⟩
  .rw[show BD a b=false from zA6 (λg=>hv (by
    have e:=g.2.2;have:a.en[i]'(by omega)=x:=by simp only[u,<-hi];simp
    rw[<-this];simp only[e]))]
   refine WW ?_
   all_goals (first|omega|exact zH)
 .rintro st ⟨hp,rfl⟩;rw[show BD a b=true from zA7 ⟨h1,h2,by rw[hp,z,zA8]⟩];exact ly
def VE (p:α->Bool) (l:List α):Int:=if l.any p=true then(l.findIdx p:Int)else -1
theorem NV {p:α->Bool} {l f4 post:List α} {x:α} (h:l=f4++x::post) (u:∀y∈f4,p y=false) (z:p x=true):VE p l=(ln f4:Int):=by grind [VE]
theorem RC {p:α->Bool} {l:List α} (u:∀y∈l,p y=false):VE p l= -1:=by grind [VE]
theorem NW (p:α->Bool) (l:List α):(0<=VE p l)=(l.any p=true):=by grind [VE]
theorem GM (p:α->Bool) (l:List α): -1<=VE p l/\VE p l<=ln l:=by grind [VE]
def Rh (l:List Cl) (hb:ln l<=1073741824):zM 312 [zE kD l,.fn 277 []] [] (iA (VE (λc=>cK c.k) l)) []:=by
 have hl:=zA kD l;refine eM call312 λF hF=>?_
 refine WW ?_;refine uS (l) [] [] [0,1,7] [8,0,1,7] Z (λi f4 T U E=>(∀y∈f4,cK y.k=false)/\E=⟨(8,iA i)::T,U⟩) (Lp ?_ ?_ ?_)
 .exact⟨by simp,rfl⟩
 .rintro i f4 x post st B hi ⟨hp,rfl⟩;have u:=zZ kD B hi;have C:=zV B hi;have c:=jH x;have A:=NV (p:=λc=>cK c.k) B hp
  cases z:cK x.k<;>rw[z]at c
  ·(refine zU c ?_)
   exact⟨λy u=>by simp at u;rcases u with u|rfl;exact hp y u;exact z,rfl⟩
  .rw[A z,hi];exact mx c
 .rintro st ⟨hp,rfl⟩;rw[RC hp];exact ly
def GN (l:List Cl) (hb:ln l<=1073741824):zM 278 [zE kD l,.fn 277 []] [] (bA (l.any λc=>cK c.k)) []:=by
 have c:=Rh l hb;have h:=NW (λc:Cl=>cK c.k) l;have h2:=GM (λc:Cl=>cK c.k) l;generalize VE (λc:Cl=>cK c.k) l=n at*
 cases u:(l.any λc=>cK c.k)<;>rw[u]at h<;>simp at h
 all_goals
  (refine eM call278 λF hF=>?_)
  exact mx c
def aX (s:Sv):xW:= .box [iA s.ph,iA s.gr,zE iA s.en]
def Ol (s:Sv) (x:Cl):zM 275 [kD x,.ptr 4 0 0] [(4,aX s)] (bA (x.ph==s.ph)) [(4,aX s)]:=by
 refine eM call275 λF hF=>?_
 refine WW ?_;exact zP [4] Z Z Z Z
def Nl (s:Sv) (x:Cl):zM 276 [kD x,.ptr 7 0 0] [(7,.box [.fn 275 [.ptr 4 0 0]]),(4,aX s)] (bA (x.ph==s.ph&&cK x.k)) [(7,.box [.fn 275 [.ptr 4 0 0]]),(4,aX s)]:=by
 have c:=Ol s x;have e:=jH x
 cases h:(x.ph==s.ph)<;>rw[h]at c
 ·(refine eM call276 λF hF=>?_)
  refine yH (xU c e) ?_;exact zP [7,4] Z Z Z Z
 .rw[zBg];refine eM call276 λF hF=>?_
  refine yH (xU c e) ?_;exact zP [7,4] Z Z Z Z
def BE (s:Sv) (l:List Cl) (hb:ln l<=1073741824):zM 312 [zE kD l,.fn 275 [.ptr 4 0 0]] [(4,aX s)] (iA (VE (λx:Cl=>x.ph==s.ph) l)) [(4,aX s)]:=by
 have hl:=zA kD l;refine eM call312 λF hF=>?_
 refine WW ?_;refine uS (l) [4] [4] [0,1,7] [8,0,1,7] Z (λi f4 T U E=>(∀y∈f4,((λx:Cl=>x.ph==s.ph)) y=false)/\E=⟨(8,iA i)::T,U⟩) (Lp ?_ ?_ ?_)
 .exact⟨by simp,rfl⟩
 .rintro i f4 x post st B hi ⟨hp,rfl⟩;have z:=zZ kD B hi;have C:=zV B hi;have c:=Ol s x;have u:=NV (p:=(λx:Cl=>x.ph==s.ph)) B hp
  try dsimp only at u
  cases A:((λx:Cl=>x.ph==s.ph)) x<;>(dsimp only at A;rw[A]at c)
  ·(refine zU c ?_)
   exact⟨λy z=>by simp only[zBq,zBz]at z;rcases z with z|rfl;exact hp y z;exact A,rfl⟩
  .rw[u A,hi];refine zU c ?_;exact zP [4] Z Z Z Z
 .rintro st ⟨hp,rfl⟩;rw[RC hp];refine WW ?_;exact zP [4] rfl rfl rfl rfl
def NX (s:Sv) (l:List Cl) (hb:ln l<=1073741824):zM 278 [zE kD l,.fn 275 [.ptr 4 0 0]] [(4,aX s)] (bA (l.any (λx:Cl=>x.ph==s.ph))) [(4,aX s)]:=by
 have c:=BE s l hb;have h:=NW (λx:Cl=>x.ph==s.ph) l;have h2:=GM (λx:Cl=>x.ph==s.ph) l;generalize VE (λx:Cl=>x.ph==s.ph) l=n at*
 cases u:l.any (λx:Cl=>x.ph==s.ph)<;>rw[u]at h<;>simp at h
 all_goals
  (refine eM call278 λF hF=>?_)
  refine zU c ?_;exact zP [4] Z Z Z Z
def nc (s:Sv) (l:List Cl) (hb:ln l<=1073741824):zM 312 [zE kD l,.fn 276 [.ptr 7 0 0]] [(7,.box [.fn 275 [.ptr 4 0 0]]),(4,aX s)] (iA (VE (λx:Cl=>x.ph==s.ph&&cK x.k) l)) [(7,.box [.fn 275 [.ptr 4 0 0]]),(4,aX s)]:=by
 have hl:=zA kD l;refine eM call312 λF hF=>?_
 refine WW ?_;refine uS (l) [7,4] [7,4] [0,1,7] [8,0,1,7] Z (λi f4 T U E=>(∀y∈f4,((λx:Cl=>x.ph==s.ph&&cK x.k)) y=false)/\E=⟨(8,iA i)::T,U⟩) (Lp ?_ ?_ ?_)
 .exact⟨by simp,rfl⟩
 .rintro i f4 x post st B hi ⟨hp,rfl⟩;have z:=zZ kD B hi;have C:=zV B hi;have c:=Nl s x;have u:=NV (p:=(λx:Cl=>x.ph==s.ph&&cK x.k)) B hp
  try dsimp only at u
  cases A:((λx:Cl=>x.ph==s.ph&&cK x.k)) x<;>(dsimp only at A;rw[A]at c)
  ·(refine zU c ?_)
   exact⟨λy z=>by simp only[zBq,zBz]at z;rcases z with z|rfl;exact hp y z;exact A,rfl⟩
  .rw[u A,hi];refine zU c ?_;exact zP [7,4] Z Z Z Z
 .rintro st ⟨hp,rfl⟩;rw[RC hp];refine WW ?_;exact zP [7,4] rfl rfl rfl rfl
def KD (s:Sv) (l:List Cl) (hb:ln l<=1073741824):zM 278 [zE kD l,.fn 276 [.ptr 7 0 0]] [(7,.box [.fn 275 [.ptr 4 0 0]]),(4,aX s)] (bA (l.any (λx:Cl=>x.ph==s.ph&&cK x.k))) [(7,.box [.fn 275 [.ptr 4 0 0]]),(4,aX s)]:=by
 have c:=nc s l hb;have h:=NW (λx:Cl=>x.ph==s.ph&&cK x.k) l;have h2:=GM (λx:Cl=>x.ph==s.ph&&cK x.k) l;generalize VE (λx:Cl=>x.ph==s.ph&&cK x.k) l=n at*
 cases u:l.any (λx:Cl=>x.ph==s.ph&&cK x.k)<;>rw[u]at h<;>simp at h
 all_goals
  (refine eM call278 λF hF=>?_)
  refine zU c ?_;exact zP [7,4] Z Z Z Z
def WJ (g:Cf) (s:Sv) (l:List Cl):Bool:=!(l.any λx=>x.ph==s.ph)||decide (g.hold<=s.gr)||((l.any λc=>cK c.k)&& !(l.any λx=>x.ph==s.ph&&cK x.k))
def U0 (g:Cf) (s:Sv) (l:List Cl) (hb:ln l<=1073741824):zM 227 [wH g,wU s,zE kD l] [] (bA (WJ g s l)) []:=by
 have z:=NX s l hb;have A:=KD s l hb;have B:=GN l hb;unfold WJ;generalize (l.any λx=>x.ph==s.ph)=m at *;generalize (l.any λx=>x.ph==s.ph&&cK x.k)=u at *;generalize (l.any λc=>cK c.k)=e at *;by_cases h:g.hold<=s.gr
 .rw[zA7 h]
  cases m<;>cases u<;>cases e<;>(simp only[zGb,zE3,zDs,zDj,zEs,zDr,zC4];(refine eM call227 λF hF=>?_);exact mt (qL z B A))
 .rw[zA6 h]
  cases m<;>cases u<;>cases e<;>(simp only[zGb,zE3,zDs,zDj,zEs,zGc,zDr,zC4];(refine eM call227 λF hF=>?_);exact mt (qL z B A))
def fP (g:Cf) (s:Sv) (l:List Cl) (f3:Int):Sv:=if s.ph≠ -1/\WJ g s l=true then qV s f3 else s
def uW (g:Cf) (s:Sv) (l:List Cl) (f3:Int):Sv:=
 if(fP g s l f3).ph= -1/\0<=qK g (fP g s l f3) f3 l (ln l) then⟨(l.getD (qK g (fP g s l f3) f3 l (ln l)).toNat dd).ph,0,(fP g s l f3).en⟩else fP g s l f3
def RD (s:Sv) (f3:Int):(qV s f3).en.length=ln s.en:=by unfold qV;dsimp only;split<;>simp
def Ml (g:Cf) (s:Sv) (l:List Cl) (f3:Int):(fP g s l f3).en.length=ln s.en:=by unfold fP;split;exact RD s f3;rfl
structure Rr (g:Cf) (s:Sv) (l:List Cl) (f3:Int):Prop where
 p:1<=g.per
 c0: -1000000<=g.cap
 c1:g.cap<=1000000
 n0:0<=f3
 n1:f3<=1000000000
 en:∀e∈s.en,-1<=e/\e<=f3
 k:∀c∈l,0<=c.k/\c.k<=3
 si:∀c∈l,0<=c.si/\c.si<=f3
 len:l.length<=1000
 sl:s.en.length<=1000
theorem NY (s:Sv) (f3:Int) (u:0<=f3) (h:∀e∈s.en,-1<=e/\e<=f3):∀e∈(qV s f3).en,-1<=e/\e<=f3:=by grind [qV]
def GO (g:Cf) (s:Sv) (l:List Cl) (f3:Int) (u:0<=f3) (h:∀e∈s.en,-1<=e/\e<=f3):∀e∈(fP g s l f3).en,-1<=e/\e<=f3:=by
 unfold fP;split;exact NY s f3 u h;exact h
theorem Rr.ok (H:Rr g s l f3) (u:Sv) (z:∀e∈u.en,-1<=e/\e<=f3):∀i,i<ln l->rj g.per f3 u.en (l.getD i dd):=λi hi=>by
 have hk:=bS (λc:Cl=>0<=c.k/\c.k<=3) dd l i H.k hi;have A:=bS (λc:Cl=>0<=c.si/\c.si<=f3) dd l i H.si hi;have z:=GJ u.en f3 (l.getD i dd).ph H.n0 z;have:=H.p;have:=H.n0;have:=H.n1
 constructor<;>(try unfold jV)<;>omega
theorem Rr.sta (H:Rr g s l f3) (u:Sv) (z:∀e∈u.en,-1<=e/\e<=f3):∀i,i<ln l->jV u.en (l.getD i dd).ph (l.getD i dd).si<=f3:=λi hi=>by
 have A:=bS (λc:Cl=>0<=c.si/\c.si<=f3) dd l i H.si hi;have z:=GJ u.en f3 (l.getD i dd).ph H.n0 z;unfold jV;omega
def Ll (g:Cf) (s:Sv) (l:List Cl) (f3:Int) (H:Rr g s l f3):zM 179 [wH g,wU s,zE kD l,iA f3] [] (wU (uW g s l f3)) []:=by
 have hb:mb s:=⟨by have:=H.sl;omega⟩;have u:=GL s hb;have A:=U0 g s l (by have:=H.len;omega);have B:=Pl s hb f3;have hl:=zA kD l;have M:=H.len;have L:=GO g s l f3 H.n0 H.en;have z:=W0 g (fP g s l f3) f3 l zB (H.ok _ L);have I:=bQ g (fP g s l f3) f3 l (ln l)
 have hd:fP g s l f3=if s.ph≠ -1/\WJ g s l=true then qV s f3 else s:=rfl
 unfold uW;generalize fP g s l f3=E at *;generalize qK g E f3 l (ln l)=b at *;generalize WJ g s l=R,qV s f3=S at *;by_cases h1:s.ph= -1
 .rw[Os (by simp[h1])]at hd;subst hd;by_cases h2:0<=b
  .rw[zA4 ⟨h1,h2⟩];have O:=yF kD l b h2 zB;generalize l.getD b.toNat dd=G at *;refine eM call179 λF hF=>?_
   exact mt (xU u z)
  .rw[Os (λh=>h2 h.2)];refine eM call179 λF hF=>?_
   exact mt (xU u z)
 cases R with
 |false=>
  rw[Os zW]at hd;subst hd;rw[Os (λh=>h1 h.1)];refine eM call179 λF hF=>?_
  exact mt (xU u A)
 | true=>
  rw[zA4 ⟨h1,rfl⟩]at hd;subst hd;by_cases C:E.ph= -1
  .by_cases h2:0<=b
   .rw[zA4 ⟨C,h2⟩];have O:=yF kD l b h2 zB;generalize l.getD b.toNat dd=G at *;refine eM call179 λF hF=>?_
    exact mt (cL u A B z)
   .rw[Os (λh=>h2 h.2)];refine eM call179 λF hF=>?_
    exact mt (cL u A B z)
  .rw[Os (λh=>C h.1)];refine eM call179 λF hF=>?_
   exact mt (cL u A B z)
def Kl (p:α->Bool) (l:List α) (x:α):(l++[x]).any p=(l.any p||p x):=by simp
theorem Qh (g:Cf) (s:Sv) (l:List Cl) (f3:Int) (H:Rr g s l f3):zM 134 [wH g,wU s,zE kD l,iA f3] [] (wU (uW g s l f3)) []:=by
 have hb:mb s:=⟨by have:=H.sl;omega⟩;have E:=NU s hb;have B:=pc s hb f3;have hl:=zA kD l;have W:=H.len;have I:=GO g s l f3 H.n0 H.en;have z:=Pt g (fP g s l f3) f3 l zB (H.ok _ I) (H.sta _ I) ⟨H.c0,H.c1⟩;have V:=bQ g (fP g s l f3) f3 l (ln l)
 have hd:fP g s l f3=if s.ph≠ -1/\WJ g s l=true then qV s f3 else s:=rfl
 have ho:WJ g s l=(!(l.any λx=>x.ph==s.ph)||decide (g.hold<=s.gr)||((l.any λc=>cK c.k)&& !(l.any λx=>x.ph==s.ph&&cK x.k))):=rfl;unfold uW;generalize fP g s l f3=R at *;generalize qK g R f3 l (ln l)=b at *;generalize WJ g s l=O,qV s f3=s2 at *;by_cases h1:s.ph= -1
 .rw[Os (by simp[h1])]at hd;subst hd;by_cases h2:0<=b
  .rw[zA4 ⟨h1,h2⟩];have M:=yF kD l b h2 zB;generalize l.getD b.toNat dd=S at *;refine eM call134 λF hF=>?_
   exact mt (xU E z)
  .rw[Os (λh=>h2 h.2)];refine eM call134 λF hF=>?_
   exact mt (xU E z)
 refine eM call134 λF hF=>?_
 refine zU E ?_;refine zQ (l) [4,5,8,9] [4,5,8,9] [2,3,4,5,8,9,21,22] [10,11,12,23,2,3,4,5,8,9,21,22] Z (λi f4 T U=>⟨(10,bA (f4.any λx=>x.ph==s.ph))::(11,bA (f4.any λx=>x.ph==s.ph&&cK x.k))::(12,bA (f4.any λc=>cK c.k))::(23,iA i)::T,U⟩) (Lq ?_ ?_)
 .intro i f4 x post L hi;have M:=zZ kD L hi;have Y:=zV L hi;have e:=gV x;simp only[Kl];generalize (f4.any λx=>x.ph==s.ph)=m at *;generalize (f4.any λx=>x.ph==s.ph&&cK x.k)=u at *;generalize (f4.any λc=>cK c.k)=w at *;generalize cK x.k=G at *;by_cases C:x.ph=s.ph
  .rw[show(x.ph==s.ph)=true by simpa using C]
   cases m<;>cases u<;>cases w<;>cases G<;>((refine zU e ?_);rfl)
  .rw[show(x.ph==s.ph)=false by simpa using C]
   cases m<;>cases u<;>cases w<;>cases G<;>((refine zU e ?_);rfl)
 .generalize (l.any λx=>x.ph==s.ph)=m at *;generalize (l.any λx=>x.ph==s.ph&&cK x.k)=u at *;generalize (l.any λc=>cK c.k)=w at*
  have hh:(m=true/\s.gr<g.hold/\(w=false\/u=true)/\O=false)\/O=true:=by
   by_cases h:g.hold<=s.gr<;>cases m<;>cases u<;>cases w<;>simp_all<;>omega
  rcases hh with⟨hm,hg,hw,A⟩|A
  .subst hm A;rw[Os zW]at hd;subst hd;rw[Os (λh=>h1 h.1)]
   cases u<;>cases w<;>first|(simp at hw;done)|(exact ly)
  .subst A;rw[zA4 ⟨h1,rfl⟩]at hd;subst hd
   have hh:g.hold<=s.gr\/s.gr<g.hold/\(m=false\/(w=true/\u=false)):=by
    by_cases h:g.hold<=s.gr<;>cases m<;>cases u<;>cases w<;>simp_all<;>omega
   clear ho;by_cases C:R.ph= -1
   .by_cases h2:0<=b
    .rw[zA4 ⟨C,h2⟩];have M:=yF kD l b h2 zB;generalize l.getD b.toNat dd=S at *;by_cases h:g.hold<=s.gr
     .cases m<;>cases u<;>cases w<;>(exact mt (xU B z))
     .cases m<;>cases u<;>cases w<;>first|(exfalso;simp at hh;omega)|(exact mt (xU B z))
    .rw[Os (λh=>h2 h.2)];by_cases h:g.hold<=s.gr
     .cases m<;>cases u<;>cases w<;>(exact mt (xU B z))
     .cases m<;>cases u<;>cases w<;>first|(exfalso;simp at hh;omega)|(exact mt (xU B z))
   .rw[Os (λh=>C h.1)];by_cases h:g.hold<=s.gr
    .cases m<;>cases u<;>cases w<;>(exact mt (xU B z))
    .cases m<;>cases u<;>cases w<;>first|(exfalso;simp at hh;omega)|(exact mt (xU B z))
def Ce (g:Cf) (s:Sv) (l:List Cl) (f3:Int):(uW g s l f3).en=(fP g s l f3).en:=by unfold uW;split<;>rfl
def YY (g:Cf) (s:Sv) (l:List Cl) (f3:Int):(uW g s l f3).en.length=ln s.en:=by rw[Ce];exact Ml g s l f3
theorem mc (g:Cf) (s:Sv) (l:List Cl) (f3:Int):(fP g s l f3=s\/(s.ph≠ -1/\WJ g s l=true/\fP g s l f3=qV s f3)):=by grind [fP,WJ,qV]
theorem Be (g:Cf) (s:Sv) (l:List Cl) (f3:Int):(fP g s l f3).ph=s.ph/\(fP g s l f3).gr=s.gr\/(fP g s l f3).ph= -1/\(fP g s l f3).gr=0:=by
 rcases mc g s l f3 with hd|⟨_,_,hd⟩
 .grind
 .exact .inr (by rw[hd];exact⟨rfl,rfl⟩)
theorem S0 (g:Cf) (s:Sv) (l:List Cl) (f3:Int) (n:Int) (hl:∀c∈l,0<=c.ph/\c.ph<n) (h: -1<=s.ph/\s.ph<n/\0<=s.gr/\s.gr<=60) (u:0<=n): -1<=(uW g s l f3).ph/\(uW g s l f3).ph<n/\0<=(uW g s l f3).gr/\(uW g s l f3).gr<=60:=by
 have h1:=Be g s l f3;have hb:=bQ g (fP g s l f3) f3 l (ln l)
 grind [uW]
def Jl (g:Cf) (s:Sv) (l:List Cl) (f3:Int) (u:0<=f3) (h:∀e∈s.en,-1<=e/\e<=f3):∀e∈(uW g s l f3).en,-1<=e/\e<=f3:=by rw[Ce];exact GO g s l f3 u h
def Q0 (s:Sv) (b:Bool):(gM s b).en=s.en/\(gM s b).ph=s.ph:=by unfold gM;split<;>exact⟨rfl,rfl⟩
def N0 (s:Sv) (b:Bool) (h:0<=s.gr/\s.gr<=60):0<=(gM s b).gr/\(gM s b).gr<=60:=by unfold gM;split;(dsimp only;omega);exact h
theorem s7 (s:Sv) (b:Bool) (u:s.ph= -1->s.gr=0):(gM s b).ph= -1->(gM s b).gr=0:=by grind [gM]
theorem i7 (g:Cf) (s:Sv) (l:List Cl) (f3:Int) (u:s.ph= -1->s.gr=0):(uW g s l f3).ph= -1->(uW g s l f3).gr=0:=by grind [uW,Be]
structure EI (n:Nat) (d:Dk) (s:Sv) (f3:Int):Prop where
 len:s.en.length=n
 en:∀e∈s.en,-1<=e/\e<f3
 p0: -1<=s.ph
 p1:s.ph<n
 g0:0<=s.gr
 g1:s.gr<=60
 n0:1<=f3
 n1:f3+rem d<=301
 z:s.ph= -1->s.gr=0
theorem EI.next {n:Nat} {d:Dk} (H:EI n d s f3) (g:Cf) (c:List Cl) (u:∀x∈c,ClB n f3 x) (b:Bool) (A:Dk) (hd:rem A+1<=rem d):EI n A (gM (uW g s c f3) b) (f3+1):=by
 have E:=S0 g s c f3 n (λx C=>⟨(u x C).p0,(u x C).p1⟩) ⟨H.p0,H.p1,H.g0,H.g1⟩ zB;have I:=N0 (uW g s c f3) b E.2.2;obtain⟨e1,G⟩:=Q0 (uW g s c f3) b;have:=H.n0;have:=H.n1;have B:=Jl g s c f3 zB (λe B=>by have:=H.en e B;omega);refine⟨by rw[e1,YY];exact H.len,λe h=>?_,zB,zB,zB,zB,zB,zB,λh=>?_⟩
 case refine_2=>exact s7 _ b (i7 g s c f3 H.z) h
 grind
def wy (s:Sg) (h1:ln s.c.li<=1073741824) (h2:ln s.c.nx<=1073741824):zM 108 [wZ s] [] (wZ s) []:=by
 have u:=JU s.c.li h1;have z:=JT s.c.nx h2;refine eM call108 λF hF=>?_
 exact mt (xU u z)
def M0 (s:Sg) (v:Sv):Bool:=decide (0<=v.ph/\v.ph<ln s.c.li)&&((xT s.c v.ph.toNat).lamp==1)
def rb (g:Cf) (j:Jn) (s:Sg) (v:Sv) (l:List Cl) (k f3:Int):Sg×Sv:=
 if s.lat=true then(s,qV v f3)
 else if(Ae j s (uW g v l f3).ph k).lat=true then(Ae j s (uW g v l f3).ph k,qV (uW g v l f3) f3)
 else(Ae j s (uW g v l f3).ph k,gM (uW g v l f3) (M0 (Ae j s (uW g v l f3).ph k) (uW g v l f3)))
def Mt (g:Cf) (j:Jn) (J:JV j) (s:Sg) (C:CV j s.c) (v:Sv) (l:List Cl) (k f3:Int) (H:Rr g v l f3) (I: -1000000<=(uW g v l f3).gr):zM 117 [wH g,wK j,wZ s,wU v,zE kD l,iA k,iA f3] [] (.tup [wZ (rb g j s v l k f3).1,wU (rb g j s v l k f3).2]) []:=by
 have hJ:=J.n;have hn:=C.n;have hm:=C.m;have hb:mb v:=⟨by have:=H.sl;omega⟩;have B:mb (uW g v l f3):=⟨by rw[YY];have:=H.sl;omega⟩;have O:=wy s zB zB;have R:=Pl v hb f3;have E:=Ll g v l f3 H;have G:=Gt j J s C (uW g v l f3).ph k;have S:=Pl (uW g v l f3) B f3;have L:=Ot (uW g v l f3) B (M0 (Ae j s (uW g v l f3).ph k) (uW g v l f3)) I;have X:=E0 J C (uW g v l f3).ph k;have V:=X.n;unfold rb;generalize qV v f3=v0,uW g v l f3=z at *;generalize qV z f3=v2 at *;generalize Ae j s z.ph k=x at *;have u:M0 x z=(decide (0<=z.ph/\z.ph<ln x.c.li)&&((xT x.c z.ph.toNat).lamp==1)):=rfl;generalize M0 x z=b at *;generalize gM z b=v3 at *;clear H I X C hb B;obtain⟨sc,Y⟩:=s;obtain⟨A,xl⟩:=x;dsimp only at *;have U:=zA xE A.li
 cases Y with
 |true=>
  rw[zA4 Z];refine eM call117 λF hF=>?_
  exact mt (xU O R)
 |false=>
 rw[Os zBl]
 cases xl with
 |true=>
  rw[zA4 Z];refine eM call117 λF hF=>?_
  exact mt (qL E G S)
 |false=>
 rw[Os zBl];dsimp only;rw[show wZ ⟨A,false⟩= .agg [zE xE A.li,iA A.gr,zE iA A.nx,iA A.wt,bA false]from Z]at *; by_cases h1:0<=z.ph
 case neg=>
  rw[zA6 (λh=>h1 h.1),zB7]at u;subst u;refine eM call117 λF hF=>?_
  exact mt (qL E G L)
 by_cases h2:z.ph<ln A.li
 case neg=>
  rw[zA6 (λh=>h2 h.2),zB7]at u;subst u;refine eM call117 λF hF=>?_
  exact mt (qL E G L)
 rw[zA7 ⟨h1,h2⟩,zBg]at u;have W:=yF xE A.li z.ph h1 h2
 change (A.li.map xE)[z.ph.toNat]? =some (xE (xT A z.ph.toNat))at W
 generalize xT A z.ph.toNat=a at *;by_cases M:a.lamp=1
 .rw[show(a.lamp==1)=true by rw[zCm];exact M]at u;subst u;refine eM call117 λF hF=>?_
  exact mt (qL E G L)
 .rw[show(a.lamp==1)=false by rw[zB0];exact M]at u;subst u;refine eM call117 λF hF=>?_
  exact mt (qL E G L)
theorem L0 {j:Jn} (J:JV j) {s:Sg} (C:CV j s.c) (g:Cf) (v:Sv) (c:List Cl) (k f3:Int):CV j (rb g j s v c k f3).1.c:=by grind [rb,E0]
def ph2:Ph:=⟨0,0,1,1,1,0,0,0⟩
def j2:Jn:=⟨[ph2],[0],0⟩
structure Ss where
 op:Bool
 dr:Bool
 bf:List Int
 gb:Bool
instance:Inhabited Ss:=⟨⟨false,false,[],false⟩⟩
def UU (m n:Nat):Nat:=min n (256-m)
def tc (s:Ss) (b:List Int):Ss:=if s.op=true then⟨true,s.dr||decide (UU (ln s.bf) (ln b)≠b.length),s.bf++b.take (UU (ln s.bf) (ln b)),s.gb⟩else s
theorem Lt {s:Ss} (h:ln s.bf<=256) (b:List Int):(tc s b).bf.length<=256:=by grind [tc,List.length_append,List.length_take,UU]
def Zc (l:List Vw) (hl:ln l<=1073741824):zM 173 [zE vO l] [] (.ref 1001 0 (l.map vO).length) [(1001,.arr 4 (l.map vO) false)]:=by
 have u:=zA vO l;refine eM call173 λF hF=>?_
 refine xI 0 Z (λcap z=>?_) ?_
 .have:l=[]:=by simpa using z
  subst this
  (repeat' (first|refine Yf ?_|apply yW|apply xG|intro hc|fail))
  refine qG 2 1001 4 Z Z Z (xL ?_);exact zP [1001] Z Z Z Z
 .repeat' (first|(apply zG;first|refine uN tok Z Z ?_|(apply wR;refine wJ (xY tok (.inl ⟨rfl,rfl⟩) Z Z Z Z) Z ?_)|(apply yI;refine uX (nw:=[1001]) (yX tok 1001 (xs:=[]) Z Z Z Z Z Z Z Z Z) Z Z Z ?_)|(apply yD;refine vD tok Z Z Z Z Z Z Z (yM _ _ (λ_=>rfl)) Z Z Z zB Z ?_)|apply kP)|(first|apply xZ|apply xR|refine uD Z ?_|refine yR Z ?_|refine yE Z ?_|refine wA Z (λhc=>?_) λhc=>?_|apply xJ|apply xL|apply xQ|apply xB))
  exact zP [1001] Z Z Z Z
def Oh (l:List Vw) (L:ln l<=1000) (hb:∀v∈l,ln v.co<=1000/\v.cn.length<=1000):zM 112 [zE vO l] [] (zE vO l) []:=by
 have c:=Zc l zB;have G:=zA vO l;refine eM call112 λF hF=>?_
 refine zU c ?_;refine zO ((l.map vO).length) [1001] [] [0,7] [8,0,7] Z (λi T U=>⟨(8,iA i)::T,(1001,.arr 4 (dV i (l.map vO)) false)::U⟩) (Lq ?_ ?_)
 .intro i hi;have hi':i<ln l:=by omega
  have z:(dV i (l.map vO))[i]? =some (vO (l.getD i dd)):=zJ vO l i hi';have e:=cG vO l i hi';have E:=hb (l.getD i dd) QP;have A:=TK (l.getD i dd).co zB;have B:=TK (l.getD i dd).cn zB;generalize (l.getD i dd)=t,dV i (l.map vO)=xs,dV (i+1) (l.map vO)=ys at *;have u:=YL z;have I:(xs.set i (.agg [bA t.fl,bA t.ov,zE iA t.co,zE iA t.cn]))[i]? =some (vO t):=by rw[show AV.agg [bA t.fl,bA t.ov,zE iA t.co,zE iA t.cn]=vO t from Z,u];exact z
  have C:(xs.set i (.agg [bA t.fl,bA t.ov,zE iA t.co,zE iA t.cn])).set i (.agg [bA t.fl,bA t.ov,zE iA t.co,zE iA t.cn])=ys:=by rw[zFh];exact e
  clear e u;subst C;refine yH (xU A B) ?_;rfl
 ·(refine WW ?_)
  exact zI [] Z Z (zBp (AV.sl false) zA8) Z
def dE (s:Ss):AV:= .agg [bA s.op,bA s.dr,zE yA s.bf,bA s.gb]
structure Ev where
 k:Int
 s:Int
 a:Int
 b:Int
 y:List Int
instance:Inhabited Ev:=⟨⟨0,0,0,0,[]⟩⟩
def hG (e:Ev):AV:= .agg [iA e.k,iA e.s,iA e.a,iA e.b,zE yA e.y]
