/- Part 25. -/
import Derived.Test.YtaglbcjljlkjcaaGreatU24
import Derived.Test.YtaglbcjljlkjcaaGreatU20
namespace Go.Proofs.YtaglbcjljlkjcaaGreat.Av
open Tryz
set_option linter.all false
set_option maxRecDepth 4000
set_option maxHeartbeats 2000000
open List renaming length->ln,replicate->pi
open Inhabited renaming default->dd
variable {g:Cf}{f4:Int}{l:List Cl}{s:Sv}{α:Type}
def SY (u cap:Int) (z:List Int) (f4:Int) (x:Cl):Int:=if cH x.k then x.k else UU u cap z f4 x.ph x.k x.si
def gS (u cap:Int) (z:List Int) (f4:Int) (x y:Cl):Bool:=
 if cH x.k≠cH y.k then cH x.k
 else if SY u cap z f4 x≠SY u cap z f4 y then decide (SY u cap z f4 y<SY u cap z f4 x)
 else if jW z x.ph x.si≠jW z y.ph y.si then decide (jW z x.ph x.si<jW z y.ph y.si)
 else if x.ag≠y.ag then decide (x.ag<y.ag)else decide (x.id<y.id)
theorem Pz (g:Cf) (s:Sv) (x y:Cl) (f4:Int) (M:bj g.per f4 s.en x) (O:bj g.per f4 s.en y):zN 280 [wH g,wP s,iA f4,kD x,kD y] [] (bA (gS g.per g.cap s.en f4 x y)) []:=by
 have u:=jG x;have z:=jG y;have C:=Ee g s x f4 M;have E:=Ee g s y f4 O;have G:=UT s x;have I:=UT s y
 cases A:cH x.k<;>cases B:cH y.k<;>rw[A]at u<;>rw[B]at z
 .by_cases h1:UU g.per g.cap s.en f4 x.ph x.k x.si=UU g.per g.cap s.en f4 y.ph y.k y.si
  .by_cases h2:jW s.en x.ph x.si=jW s.en y.ph y.si
   .by_cases L:x.ag=y.ag
    all_goals
     (refine eM call280 λF hF=>?_)
     (have gd:=u;have gn:=z;have gt:=C;have gv:=E;have io:=G;have la:=I;refine WG ?_;clear gd gn gt gv io la)
     refine zI [] Z Z (zBd bA ?_) Z;simp[gS,SY,A,B,h1,h2,L,uB]
   ·(refine eM call280 λF hF=>?_)
    (have gd:=u;have gn:=z;have gt:=C;have gv:=E;have io:=G;have la:=I;refine WG ?_;clear gd gn gt gv io la)
    refine zI [] Z Z (zBd bA ?_) Z;simp[gS,SY,A,B,h1,h2,uB]
  ·(refine eM call280 λF hF=>?_)
   (have gd:=u;have gn:=z;have gt:=C;have gv:=E;have io:=G;have la:=I;refine WG ?_;clear gd gn gt gv io la)
   refine zI [] Z Z (zBd bA ?_) Z;simp[gS,SY,A,B,h1,uB]
 ·(refine eM call280 λF hF=>?_)
  (have gd:=u;have gn:=z;have gt:=C;have gv:=E;have io:=G;have la:=I;refine WG ?_;clear gd gn gt gv io la)
  refine zI [] Z Z (zBd bA ?_) Z;simp[gS,A,B]
 ·(refine eM call280 λF hF=>?_)
  (have gd:=u;have gn:=z;have gt:=C;have gv:=E;have io:=G;have la:=I;refine WG ?_;clear gd gn gt gv io la)
  refine zI [] Z Z (zBd bA ?_) Z;simp[gS,A,B]
 .by_cases h1:x.k=y.k
  .by_cases h2:jW s.en x.ph x.si=jW s.en y.ph y.si
   .by_cases L:x.ag=y.ag
    all_goals
     (refine eM call280 λF hF=>?_)
     (have gd:=u;have gn:=z;have gt:=C;have gv:=E;have io:=G;have la:=I;refine WG ?_;clear gd gn gt gv io la)
     refine zI [] Z Z (zBd bA ?_) Z;simp[gS,SY,A,B,h1,h2,L,uB]
   ·(refine eM call280 λF hF=>?_)
    (have gd:=u;have gn:=z;have gt:=C;have gv:=E;have io:=G;have la:=I;refine WG ?_;clear gd gn gt gv io la)
    refine zI [] Z Z (zBd bA ?_) Z;simp[gS,SY,A,B,h1,h2,uB]
  ·(refine eM call280 λF hF=>?_)
   (have gd:=u;have gn:=z;have gt:=C;have gv:=E;have io:=G;have la:=I;refine WG ?_;clear gd gn gt gv io la)
   refine zI [] Z Z (zBd bA ?_) Z;simp[gS,SY,A,B,h1,uB]
def qL (g:Cf) (s:Sv) (f4:Int) (xs:List Cl):Nat->Int
 |0=> -1
 |i+1=>if BA g.lock s.en f4 (xs.getD i dd).ph (xs.getD i dd).k then qL g s f4 xs i
  else if qL g s f4 xs i<0 then i
  else if gS g.per g.cap s.en f4 (xs.getD i dd) (xs.getD (qL g s f4 xs i).toNat dd)then i else qL g s f4 xs i
theorem bO (g:Cf) (s:Sv) (f4:Int) (xs:List Cl):∀i,-1<=qL g s f4 xs i/\qL g s f4 xs i<i\/qL g s f4 xs i= -1
 |0=> .inr Z
 | i+1=>by
  have:=bO g s f4 xs i;unfold qL;split
  .omega
  .split
   .omega
   .split<;>omega
def NR (g:Cf) (s:Sv) (f4:Int) (xs:List Cl) (i:Nat):qL g s f4 xs (i+1)=if BA g.lock s.en f4 (xs.getD i dd).ph (xs.getD i dd).k=true then qL g s f4 xs i
 else if qL g s f4 xs i<0 then(i:Int)
 else if gS g.per g.cap s.en f4 (xs.getD i dd) (xs.getD (qL g s f4 xs i).toNat dd)=true then(i:Int)else qL g s f4 xs i:=rfl
def Oz (g:Cf) (s:Sv) (f4:Int) (xs:List Cl) (G:ln xs<=1099511627776) (I:∀i,i<ln xs->bj g.per f4 s.en (xs.getD i dd)):zN 228 [wH g,wP s,iA f4,zE kD xs] [] (iA (qL g s f4 xs (ln xs))) []:=by
 have hl:(xs.map kD).length=ln xs:=by simp
 refine eM call228 λF hF=>?_
 refine WO ?_
 refine wQ (λn st=>∃i:Nat,n+i=ln xs/\st=⟨[(2,iA f4),(3,zE kD xs),(4,.ptr 4 0 0),(5,.ptr 5 0 0),(9,iA (qL g s f4 xs i)),(12,zE kD xs),(13,iA (ln xs)),(14,iA i)],[(4,.box [zE wD g.js,zE uF g.ags,iA g.per,iA g.cap,iA g.hold,iA g.lock]),(5,.box [iA s.ph,iA s.gr,zE iA s.en])]⟩)
  (ln xs) [4,5] [2,3,4,5,9,12,13,14] Z ⟨0,rfl,by rw[<-hl];rfl⟩ ?_
 rintro n st ⟨i,hi,rfl⟩;by_cases B:i<ln xs
 .have M:=yE kD xs i zB zB;have A:=I i B;have hb:=bO g s f4 xs i;have u:=NR g s f4 xs i;have z:=Gl g s (xs.getD i dd) f4 A;rw[show((i:Int)).toNat=i from Z]at M
  cases hL:BA g.lock s.en f4 (xs.getD i dd).ph (xs.getD i dd).k<;>rw[hL]at z u
  .rw[Os zV]at u;by_cases E:qL g s f4 xs i<0
   .rw[zAs E]at u
    (have gd:=z;refine WG ?_;clear gd)
    exact⟨n-1,zB,i+1,zB,by rw[u];rfl⟩
   .rw[Os E]at u;have O:=yE kD xs (qL g s f4 xs i) zB zB;have C:=Pz g s (xs.getD i dd) (xs.getD (qL g s f4 xs i).toNat dd) f4 A (I _ zB)
    cases L:gS g.per g.cap s.en f4 (xs.getD i dd) (xs.getD (qL g s f4 xs i).toNat dd)<;>rw[L]at C u
    .rw[Os zV]at u
     (have gd:=z;have gn:=C;refine WG ?_;clear gd gn)
     exact⟨n-1,zB,i+1,zB,by rw[u];rfl⟩
    .rw[zAs Z]at u
     (have gd:=z;have gn:=C;refine WG ?_;clear gd gn)
     exact⟨n-1,zB,i+1,zB,by rw[u];rfl⟩
  .rw[zAs Z]at u
   (have gd:=z;refine WG ?_;clear gd)
   exact⟨n-1,zB,i+1,zB,by rw[u];rfl⟩
 .obtain rfl:i=ln xs:=by omega
  exact oj
def bP (s:Sv) (p:Int):zN 297 [wP s,iA p] [] (iA (cK s.en p)) []:=by
 have hl:(s.en.map iA).length=ln s.en:=by simp
 by_cases h1:p<0
 .rw[show cK s.en p= -1 by simp[cK,h1]];refine eM call297 λF hF=>?_
  exact oj
 .by_cases h2:(ln s.en:Int)<=p
  .rw[show cK s.en p= -1 by simp[cK,h2]];refine eM call297 λF hF=>?_
   exact oj
  .rw[show cK s.en p=s.en.getD p.toNat 0 by unfold cK;rw[Os zB]];have u:=yE iA s.en p zB zB;refine eM call297 λF hF=>?_
   exact oj
def gT (c:Cl):zN 195 [kD c] [] (bA (cH c.k)) []:=by
 unfold cH;by_cases h:c.k=2
 .rw[show(c.k==2||c.k==3)=true by simp[h]];refine eM call195 λF hF=>?_
  exact oj
 .rw[show(c.k==2||c.k==3)=(c.k==3) by simp[h]];refine eM call195 λF hF=>?_
  exact oj
def NS (s:Sv) (c:Cl):zN 337 [wP s,kD c] [] (iA (jW s.en c.ph c.si)) []:=by
 refine eM call337 λF hF=>?_
 (repeat' (first|refine aP ?_|refine yW (λhc=>?_) λhc=>?_|(apply zG;apply xP;(refine vH 297 ?_;first|refine wM (zL (bP s _) Z Z Z Z Z) Z ?_|refine uT (zL (bP s _) Z Z Z Z Z) Z Z Z ?_|refine aI (zL (bP s _) Z Z Z Z Z) Z Z Z ?_))|fail))
 exact zH
def CU (g:Cf) (s:Sv) (c:Cl) (f4:Int) (z:bj g.per f4 s.en c) (B:jW s.en c.ph c.si<=f4):zN 338 [wH g,wP s,kD c,iA f4] [] (iA (UU g.per g.cap s.en f4 c.ph c.k c.si)) []:=by
 obtain⟨p,C,E,G,I,L,M,_,_⟩:=z
 have u:UU g.per g.cap s.en f4 c.ph c.k c.si=min g.cap (c.k+(f4-jW s.en c.ph c.si).tdiv (max 1 g.per)):=by
  unfold UU;rw[show max 1 g.per=g.per by omega,zCw zB]
 have hb:=Fe (f4-jW s.en c.ph c.si) (max 1 g.per) zB zB zB;have A:aD .i64 ((f4-jW s.en c.ph c.si).tdiv (max 1 g.per)):=⟨zB,zB⟩;rw[u];refine eM call338 λF hF=>?_
 (have gd:=NS s c;refine WG ?_;clear gd)
 exact zH
theorem mh (g:Cf) (s:Sv) (c:Cl) (f4:Int) (u:bj g.per f4 s.en c):zN 248 [wH g,wP s,kD c,iA f4] [] (bA (BA g.lock s.en f4 c.ph c.k)) []:=by
 obtain⟨p,A,B,C,E,G,I,z,e1⟩:=u;unfold BA;refine eM call248 λF hF=>?_
 (repeat' (first|refine aP ?_|refine yW (λhc=>?_) λhc=>?_|(apply zG;apply xP;(first|(refine vH 297 ?_;first|refine wM (zL (bP s _) Z Z Z Z Z) Z ?_|refine uT (zL (bP s _) Z Z Z Z Z) Z Z Z ?_|refine aI (zL (bP s _) Z Z Z Z Z) Z Z Z ?_)|(refine vH 195 ?_;first|refine wM (zL (gT c) Z Z Z Z Z) Z ?_|refine uT (zL (gT c) Z Z Z Z Z) Z Z Z ?_|refine aI (zL (gT c) Z Z Z Z Z) Z Z Z ?_)))|fail))
 all_goals refine zI [] Z Z (zBd bA ?_) Z
 all_goals simp_all [uB]
structure J9 where
 x0:Int
 x1:Int
 x2:Int
 x3:Int
 x4:Int
def kyA (k:J9):AV:= .agg [iA k.x0,iA k.x1,iA k.x2,iA k.x3,iA k.x4]
def NT (z cap:Int) (u:List Int) (f4:Int) (c:Cl):J9:=if cH c.k=true then⟨0,-c.k,jW u c.ph c.si,c.ag,c.id⟩else⟨1,-UU z cap u f4 c.ph c.k c.si,jW u c.ph c.si,c.ag,c.id⟩
def Nx (g:Cf) (s:Sv) (c:Cl) (f4:Int) (u:bj g.per f4 s.en c) (C:jW s.en c.ph c.si<=f4) (hc: -1000000<=g.cap/\g.cap<=1000000):zN 298 [wH g,wP s,iA f4,kD c] [] (kyA (NT g.per g.cap s.en f4 c)) []:=by
 have z:=gT c
 have B:UU g.per g.cap s.en f4 c.ph c.k c.si<=1000000/\ -1000000<=UU g.per g.cap s.en f4 c.ph c.k c.si:=by
  unfold UU;have:=Int.ediv_nonneg (show 0<=f4-jW s.en c.ph c.si by omega) (show 0<=g.per by have:=u.p;omega);have:=u.k0;omega
 have E:=u.k0;have G:=u.k1
 cases A:cH c.k<;>rw[A]at z
 .rw[show NT g.per g.cap s.en f4 c=⟨1,-UU g.per g.cap s.en f4 c.ph c.k c.si,jW s.en c.ph c.si,c.ag,c.id⟩ by simp[NT,A]];refine eM call298 λF hF=>?_
  (have gd:=z;have gn:=NS s c;have gt:=CU g s c f4 u C;refine WG ?_;clear gd gn gt)
  exact zH
 .rw[show NT g.per g.cap s.en f4 c=⟨0,-c.k,jW s.en c.ph c.si,c.ag,c.id⟩ by simp[NT,A]];refine eM call298 λF hF=>?_
  (have gd:=z;have gn:=NS s c;have gt:=CU g s c f4 u C;refine WG ?_;clear gd gn gt)
  exact zH
def GB (x y:J9):Bool:=if x.x0≠y.x0 then decide (x.x0<y.x0)else if x.x1≠y.x1 then decide (x.x1<y.x1)else if x.x2≠y.x2 then decide (x.x2<y.x2)else if x.x3≠y.x3 then decide (x.x3<y.x3)else if x.x4≠y.x4 then decide (x.x4<y.x4)else false
theorem Tl (u cap:Int) (z:List Int) (f4:Int) (x y:Cl):GB (NT u cap z f4 x) (NT u cap z f4 y)=gS u cap z f4 x y:=by
 have neg:∀a b:Int,decide (-a< -b)=decide (b<a):=λa b=>by
  grind
 have A:∀a b:Int,(-a≠ -b)=(a≠b):=λa b=>propext zB
 unfold GB gS NT SY;generalize UU u cap z f4 x.ph x.k x.si=B
 grind [GB,NT,gS,UU,jW,cH]
def Rt (g:Cf) (s:Sv) (x y:Cl) (f4:Int) (E:bj g.per f4 s.en x) (G:bj g.per f4 s.en y) (L:jW s.en x.ph x.si<=f4) (M:jW s.en y.ph y.si<=f4) (hc: -1000000<=g.cap/\g.cap<=1000000):zN 249 [wH g,wP s,iA f4,kD x,kD y] [] (bA (gS g.per g.cap s.en f4 x y)) []:=by
 have A:=Nx g s x f4 E L hc;have B:=Nx g s y f4 G M hc;rw[<-Tl];generalize NT g.per g.cap s.en f4 x=p,NT g.per g.cap s.en f4 y=q at *;clear hc L M E G;refine eM call249 λF hF=>?_
 (have gd:=A;have gn:=B;refine WG ?_;clear gd gn)
 refine wQ (λn st=>∃i:Nat,n+i=5/\(0<i->p.x0=q.x0)/\(1<i->p.x1=q.x1)/\(2<i->p.x2=q.x2)/\(3<i->p.x3=q.x3)/\(4<i->p.x4=q.x4)/\
  st=⟨[(11,.ptr 11 0 0),(12,.ptr 12 0 0),(24,iA i)],[(11,.box [iA p.x0,iA p.x1,iA p.x2,iA p.x3,iA p.x4]),(12,.box [iA q.x0,iA q.x1,iA q.x2,iA q.x3,iA q.x4])]⟩)
  5 [11,12] [11,12,24] Z ⟨0,rfl,zB,zB,zB,zB,zB,rfl⟩ ?_
 rintro n st ⟨i,hi,a0,a1,a2,a3,a4,rfl⟩
 obtain rfl|rfl|rfl|rfl|rfl|rfl:i=0\/i=1\/i=2\/i=3\/i=4\/i=5:=by omega
 .clear A B;by_cases h:p.x0=q.x0
  ·(refine WO ?_)
   exact⟨n-1,zB,1,zB,λ_=>h,zB,zB,zB,zB,rfl⟩
  ·(refine WO ?_)
   refine zI [] Z Z (zBd bA ?_) Z;simp[GB,h,uB]
 .clear A B;have u:=a0 zB;by_cases h:p.x1=q.x1
  ·(refine WO ?_)
   exact⟨n-1,zB,2,zB,λ_=>u,λ_=>h,zB,zB,zB,rfl⟩
  ·(refine WO ?_)
   refine zI [] Z Z (zBd bA ?_) Z;simp[GB,u,h,uB]
 .clear A B;have u:=a0 zB;have z:=a1 zB;by_cases h:p.x2=q.x2
  ·(refine WO ?_)
   exact⟨n-1,zB,3,zB,λ_=>u,λ_=>z,λ_=>h,zB,zB,rfl⟩
  ·(refine WO ?_)
   refine zI [] Z Z (zBd bA ?_) Z;simp[GB,u,z,h,uB]
 .clear A B;have u:=a0 zB;have z:=a1 zB;have C:=a2 zB;by_cases h:p.x3=q.x3
  ·(refine WO ?_)
   exact⟨n-1,zB,4,zB,λ_=>u,λ_=>z,λ_=>C,λ_=>h,zB,rfl⟩
  ·(refine WO ?_)
   refine zI [] Z Z (zBd bA ?_) Z;simp[GB,u,z,C,h,uB]
 .clear A B;have u:=a0 zB;have z:=a1 zB;have C:=a2 zB;have I:=a3 zB;by_cases h:p.x4=q.x4
  ·(refine WO ?_)
   exact⟨n-1,zB,5,zB,λ_=>u,λ_=>z,λ_=>C,λ_=>I,λ_=>h,rfl⟩
  ·(refine WO ?_)
   refine zI [] Z Z (zBd bA ?_) Z;simp[GB,u,z,C,I,h,uB]
 .clear A B;refine WO ?_;refine zI [] Z Z (zBd bA ?_) Z;simp[GB,a0,a1,a2,a3,a4]
def Qt (g:Cf) (s:Sv) (f4:Int) (xs:List Cl) (I:ln xs<=1099511627776) (M:∀i,i<ln xs->bj g.per f4 s.en (xs.getD i dd)) (L:∀i,i<ln xs->jW s.en (xs.getD i dd).ph (xs.getD i dd).si<=f4) (hc: -1000000<=g.cap/\g.cap<=1000000):
  zN 196 [wH g,wP s,iA f4,zE kD xs] [] (iA (qL g s f4 xs (ln xs))) []:=by
 have hl:(xs.map kD).length=ln xs:=by simp
 refine eM call196 λF hF=>?_
 refine WO ?_
 refine wQ (λn st=>∃i:Nat,n+i=ln xs/\st=⟨[(2,iA f4),(3,zE kD xs),(4,.ptr 4 0 0),(5,.ptr 5 0 0),(9,iA (qL g s f4 xs i)),(12,zE kD xs),(13,iA (ln xs)),(14,iA i)],[(4,.box [zE wD g.js,zE uF g.ags,iA g.per,iA g.cap,iA g.hold,iA g.lock]),(5,.box [iA s.ph,iA s.gr,zE iA s.en])]⟩)
  (ln xs) [4,5] [2,3,4,5,9,12,13,14] Z ⟨0,rfl,by rw[<-hl];rfl⟩ ?_
 rintro n st ⟨i,hi,rfl⟩;by_cases A:i<ln xs
 .have S:=yE kD xs i zB zB;have B:=M i A;have C:=L i A;have hb:=bO g s f4 xs i;have u:=NR g s f4 xs i;have z:=mh g s (xs.getD i dd) f4 B;rw[show((i:Int)).toNat=i from Z]at S
  cases hL:BA g.lock s.en f4 (xs.getD i dd).ph (xs.getD i dd).k<;>rw[hL]at z u
  .rw[Os zV]at u;by_cases G:qL g s f4 xs i<0
   .rw[zAs G]at u
    (have gd:=z;refine WG ?_;clear gd)
    exact⟨n-1,zB,i+1,zB,by rw[u];rfl⟩
   .rw[Os G]at u;have U:=yE kD xs (qL g s f4 xs i) zB zB;have E:=Rt g s (xs.getD i dd) (xs.getD (qL g s f4 xs i).toNat dd) f4 B (M _ zB) C (L _ zB) hc
    cases O:gS g.per g.cap s.en f4 (xs.getD i dd) (xs.getD (qL g s f4 xs i).toNat dd)<;>rw[O]at E u
    .rw[Os zV]at u
     (have gd:=z;have gn:=E;refine WG ?_;clear gd gn)
     exact⟨n-1,zB,i+1,zB,by rw[u];rfl⟩
    .rw[zAs Z]at u
     (have gd:=z;have gn:=E;refine WG ?_;clear gd gn)
     exact⟨n-1,zB,i+1,zB,by rw[u];rfl⟩
  .rw[zAs Z]at u
   (have gd:=z;have gn:=z;refine WG ?_;clear gd gn)
   exact⟨n-1,zB,i+1,zB,by rw[u];rfl⟩
 .obtain rfl:i=ln xs:=by omega
  exact oj
theorem bQ (P:α->Prop) (d:α):∀(l:List α) (i:Nat),(∀x∈l,P x)->i<ln l->P (l.getD i d)
 |l,i,h,hi=>by simp only[zA5,zBq hi,zDn];exact h _ (zEn hi)
def GC (u:List Int) (f4 z:Int) (h:0<=f4) (A:∀e∈u,-1<=e/\e<=f4): -1<=cK u z/\cK u z<=f4:=by
 unfold cK;split
 .omega
 .exact bQ (λe=> -1<=e/\e<=f4) 0 u z.toNat A zB
structure H9 (ph f4:Int) (c:Cl):Prop where
 k0:0<=c.k
 k1:c.k<=3
 s0:0<=c.si
 s1:c.si<=f4
 a0:0<=c.ag
 a1:c.ag<=2
 i0:0<=c.id
 i1:c.id<=3
 p0:0<=c.ph
 p1:c.ph<ph
structure Mx (g:Cf) (s:Sv) (l:List Cl) (f4:Int):Prop where
 p0:1<=g.per
 p1:g.per<=5
 c0:0<=g.cap
 c1:g.cap<=5
 h0:1<=g.hold
 h1:g.hold<=4
 l0:0<=g.lock
 l1:g.lock<=6
 len:l.length<=5
 n0:1<=s.en.length
 n1:s.en.length<=8
 en:∀e∈s.en,-1<=e/\e<=f4
 cl:∀c∈l,H9 s.en.length f4 c
theorem Mx.sta (H:Mx g s l f4) (u:0<=f4):∀i,i<ln l->jW s.en (l.getD i dd).ph (l.getD i dd).si<=f4:=λi hi=>by
 obtain⟨a0,z,A,B,C,E,G,I,L,M⟩:=bQ (H9 (ln s.en) f4) dd l i H.cl hi;have O:=GC s.en f4 (l.getD i dd).ph u H.en;unfold jW;omega
def GD (f:α->AV) (l:List α):AV.sl false ((l.map f).take (l.map f).length)=zE f l:=by rw[zAv];rfl
def Fb (l:List Int) (hl:ln l<=1073741824):zN 111 [zE iA l] [] (.ref 1001 0 (l.map iA).length) [(1001,.arr 1 (l.map iA) false)]:=by
 have u:=zA iA l;refine eM call111 λF hF=>?_
 refine xI 0 Z (λcap z=>?_) ?_
 .have:l=[]:=by simpa using z
  subst this
  (repeat' (first|refine Xf ?_|apply yW|apply xH|intro hc|fail))
  refine qH 2 1001 1 Z Z Z (xL ?_);exact zP [1001] Z Z Z Z
 .repeat' (first|(apply zG;first|refine uM tok Z Z ?_|(apply wY;refine wM (xY tok (.inl ⟨rfl,rfl⟩) Z Z Z Z) Z ?_)|(apply yH;refine uT (nw:=[1001]) (yV tok 1001 (xs:=[]) Z Z Z Z Z Z Z Z Z) Z Z Z ?_)|(apply yC;refine vB tok Z Z Z Z Z Z Z (yM _ _ (λ_=>rfl)) Z Z Z zB Z ?_)|apply kQ)|(first|apply xX|apply xT|refine vZ Z ?_|refine yS Z ?_|refine yD Z ?_|refine xZ Z (λhc=>?_) λhc=>?_|apply xJ|apply xL|apply xS|apply xB))
  exact zP [1001] Z Z Z Z
def rh (l:List Int) (hl:ln l<=1073741824):zN 111 [zE iA l] [] (zE iA l) []:=by
 have u:=zA iA l;refine eM call111 λF hF=>?_
 refine xI 0 Z (λcap z=>?_) ?_
 .have:l=[]:=by simpa using z
  subst this;exact mx
 ·(refine WW ?_)
  refine zI [] Z Z (GD _ _) Z
structure Le (s:Sv):Prop where
 n:s.en.length<=100000
def sh (s:Sv) (h:Le s):zN 110 [wP s] [] (.agg [iA s.ph,iA s.gr,.ref 1001 0 (s.en.map iA).length]) [(1001,.arr 1 (s.en.map iA) false)]:=by
 have c:=Fb s.en (by have:=h.n;omega);refine eM call110 λF hF=>?_
 refine zS c ?_;exact zP [1001] Z Z Z Z
def GE (s:Sv) (h:Le s):zN 110 [wP s] [] (wP s) []:=by
 have c:=rh s.en (by have:=h.n;omega);refine eM call110 λF hF=>?_
 exact nl c
def NU (s:Sv) (h:Le s):zN 127 [wP s] [] (wP s) []:=by
 have:=h.n;have hl:=zA iA s.en;refine eM call127 λF hF=>?_
 exact nm
def Eb (s:Sv) (h:Le s):zN 127 [wP s] [] (.agg [iA s.ph,iA s.gr,.ref 1001 0 (s.en.map iA).length]) [(1001,.arr 1 (s.en.map iA) false)]:=by
 have:=h.n;have hl:=zA iA s.en;refine eM call127 λF hF=>?_
 (repeat' (first|refine uS ?_|apply yW|apply xH|intro hc|(apply zG;first|(apply yC;refine xG 1001 tok Z Z Z Z Z Z (yM _ _ (λ_=>rfl)) Z Z Z zB Z Z Z ?_))|fail))
 exact zP [1001] Z Z Z Z
def gM (s:Sv) (u:Bool):Sv:=if u=true/\s.ph≠ -1 then⟨s.ph,min s.gr 59+1,s.en⟩else s
def Pt (s:Sv) (h:Le s) (b:Bool) (u: -1000000<=s.gr):zN 181 [wP s,bA b] [] (wP (gM s b)) []:=by
 have c:=GE s h;by_cases h1:b=true
 .subst h1;by_cases h2:s.ph= -1
  .rw[show gM s true=s by simp[gM,h2]];refine eM call181 λF hF=>?_
   exact nl c
  .rw[show gM s true=⟨s.ph,min s.gr 59+1,s.en⟩ by simp[gM,h2]];refine eM call181 λF hF=>?_
   exact nl c
 .obtain rfl:b=false:=by simpa using h1
  rw[show gM s false=s by simp[gM]];refine eM call181 λF hF=>?_
  exact nl c
def Sl (s:Sv) (h:Le s) (b:Bool) (u: -1000000<=s.gr/\s.gr<=1000000):zN 136 [wP s,bA b] [] (wP (gM s b)) []:=by
 have c:=NU s h;by_cases h1:b=true
 .subst h1;by_cases h2:s.ph= -1
  .rw[show gM s true=s by simp[gM,h2]];refine eM call136 λF hF=>?_
   exact nl c
  .rw[show gM s true=⟨s.ph,min (s.gr+1) 60,s.en⟩ by simp[gM,h2];omega];refine eM call136 λF hF=>?_
   exact nl c
 .obtain rfl:b=false:=by simpa using h1
  rw[show gM s false=s by simp[gM]];refine eM call136 λF hF=>?_
  exact nl c
def qT (s:Sv) (f4:Int):Sv:=⟨-1,0,if 0<s.gr/\0<=s.ph/\s.ph<ln s.en then s.en.set s.ph.toNat f4 else s.en⟩
theorem CW (f:α->AV) (l:List α) (i:Nat) (x:α) (n:Nat) (u:n=ln l):AV.sl false (((l.map f).set i (f x)).take n)=zE f (l.set i x):=by grind [zE,List.map_set,List.take_of_length_le]
def Rl (s:Sv) (h:Le s) (f4:Int):zN 178 [wP s,iA f4] [] (wP (qT s f4)) []:=by
 have c:=sh s h;have hl:=zA iA s.en;by_cases h1:0<s.gr/\0<=s.ph/\s.ph<ln s.en
 .obtain⟨h2,u,z⟩:=h1;have A:=yE iA s.en s.ph u z;rw[show qT s f4=⟨-1,0,s.en.set s.ph.toNat f4⟩ by simp[qT,h2,u,z]];refine eM call178 λF hF=>?_
  refine zS c ?_;refine zI [] Z Z (zBd (λx=>AV.agg [iA (-1),iA 0,x]) (CW iA s.en s.ph.toNat f4 _ hl)) Z
 .rw[show qT s f4=⟨-1,0,s.en⟩ by unfold qT;rw[Os h1]];refine eM call178 λF hF=>?_
  (have gd:=c;(repeat' (first|refine uS ?_|apply yW|apply xH|intro hc|(apply zG;first|refine SM ?_)|fail))<;>clear gd)
  all_goals (try omega)
  all_goals refine zI [] Z Z (zBd (λx=>AV.agg [iA (-1),iA 0,x]) (GD iA s.en)) Z
def Db (s:Sv) (h:Le s) (f4:Int):zN 133 [wP s,iA f4] [] (wP (qT s f4)) []:=by
 have c:=Eb s h;have hl:=zA iA s.en;by_cases h1:0<s.gr/\0<=s.ph/\s.ph<ln s.en
 .obtain⟨h2,u,z⟩:=h1;have A:=yE iA s.en s.ph u z;rw[show qT s f4=⟨-1,0,s.en.set s.ph.toNat f4⟩ by simp[qT,h2,u,z]];refine eM call133 λF hF=>?_
  refine zS c ?_;refine zI [] Z Z (zBd (λx=>AV.agg [iA (-1),iA 0,x]) (CW iA s.en s.ph.toNat f4 _ hl)) Z
 .rw[show qT s f4=⟨-1,0,s.en⟩ by unfold qT;rw[Os h1]];refine eM call133 λF hF=>?_
  (have gd:=c;(repeat' (first|refine uS ?_|apply yW|apply xH|intro hc|(apply zG;first|refine SM ?_)|fail))<;>clear gd)
  all_goals (try omega)
  all_goals refine zI [] Z Z (zBd (λx=>AV.agg [iA (-1),iA 0,x]) (GD iA s.en)) Z
def th (n:Nat):Sv:=⟨-1,0,pi n (-1)⟩
def Ot (n:Nat) (h:n<=100000):zN 87 [iA n] [] (wP (th n)) []:=by
 refine eM call87 λF hF=>?_
 (repeat' (first|refine uS ?_|apply yW|apply xH|intro hc|fail))
 refine zQ 4 1001 1 Z Z Z ?_;refine zO (n) [1001,2,3] [2,3] [2,3,6] [4,7,2,3,6] Z (λi T U=>⟨(4,.ref 1001 0 ((pi i (-1:Int)).map iA).length)::(7,iA i)::T,(1001,.arr 1 ((pi i (-1:Int)).map iA) true)::U⟩) (Lq ?_ ?_)
 .intro i hi;have u:((pi i (-1:Int)).map iA).length=i:=by simp
  have e:(pi (i+1) (-1:Int)).map iA=(pi i (-1:Int)).map iA++[iA (-1)]:=by rw[zE0];simp
  rw[e];generalize (pi i (-1:Int)).map iA=xs at *;refine WL ?_;rfl
 ·(refine WW ?_)
  exact zI [] Z Z (zBd (λx=>AV.agg [iA (-1),iA 0,x]) (GD _ _)) Z
def VC (p:α->Bool) (l:List α):Int:=if l.any p=true then(l.findIdx p:Int)else -1
theorem NV {p:α->Bool} {l ga post:List α} {x:α} (h:l=ga++x::post) (u:∀y∈ga,p y=false) (z:p x=true):VC p l=(ln ga:Int):=by grind [VC]
theorem SZ {p:α->Bool} {l:List α} (u:∀y∈l,p y=false):VC p l= -1:=by grind [VC]
theorem NW (p:α->Bool) (l:List α):(0<=VC p l)=(l.any p=true):=by grind [VC]
theorem GF (p:α->Bool) (l:List α): -1<=VC p l/\VC p l<=ln l:=by grind [VC]
def Zh (l:List Cl) (hb:ln l<=1073741824):zN 312 [zE kD l,.fn 277 []] [] (iA (VC (λc=>cH c.k) l)) []:=by
 have hl:=zA kD l;refine eM call312 λF hF=>?_
 refine WW ?_;refine uW (l) [] [] [0,1,7] [8,0,1,7] Z (λi ga T U E=>(∀y∈ga,cH y.k=false)/\E=⟨(8,iA i)::T,U⟩) (Lp ?_ ?_ ?_)
 .exact⟨by simp,rfl⟩
 .rintro i ga x post st B hi ⟨hp,rfl⟩;have u:=yJ kD B hi;have C:=zW B hi;have c:=jG x;have A:=NV (p:=λc=>cH c.k) B hp
  cases z:cH x.k<;>rw[z]at c
  ·(refine zS c ?_)
   exact⟨λy u=>by simp at u;rcases u with u|rfl;exact hp y u;exact z,rfl⟩
  .rw[A z,hi];exact nl c
 .rintro st ⟨hp,rfl⟩;rw[SZ hp];exact mx
def GG (l:List Cl) (hb:ln l<=1073741824):zN 278 [zE kD l,.fn 277 []] [] (bA (l.any λc=>cH c.k)) []:=by
 have c:=Zh l hb;have h:=NW (λc:Cl=>cH c.k) l;have h2:=GF (λc:Cl=>cH c.k) l;generalize VC (λc:Cl=>cH c.k) l=n at*
 cases u:(l.any λc=>cH c.k)<;>rw[u]at h<;>simp at h
 all_goals
  (refine eM call278 λF hF=>?_)
  exact nl c
def aV (s:Sv):xW:= .box [iA s.ph,iA s.gr,zE iA s.en]
def Ql (s:Sv) (x:Cl):zN 275 [kD x,.ptr 4 0 0] [(4,aV s)] (bA (x.ph==s.ph)) [(4,aV s)]:=by
 refine eM call275 λF hF=>?_
 refine WW ?_;exact zP [4] Z Z Z Z
def Pl (s:Sv) (x:Cl):zN 276 [kD x,.ptr 7 0 0] [(7,.box [.fn 275 [.ptr 4 0 0]]),(4,aV s)] (bA (x.ph==s.ph&&cH x.k)) [(7,.box [.fn 275 [.ptr 4 0 0]]),(4,aV s)]:=by
 have c:=Ql s x;have e:=jG x
 cases h:(x.ph==s.ph)<;>rw[h]at c
 ·(refine eM call276 λF hF=>?_)
  refine yF (xQ c e) ?_;exact zP [7,4] Z Z Z Z
 .rw[zA3];refine eM call276 λF hF=>?_
  refine yF (xQ c e) ?_;exact zP [7,4] Z Z Z Z
def CX (s:Sv) (l:List Cl) (hb:ln l<=1073741824):zN 312 [zE kD l,.fn 275 [.ptr 4 0 0]] [(4,aV s)] (iA (VC (λx:Cl=>x.ph==s.ph) l)) [(4,aV s)]:=by
 have hl:=zA kD l;refine eM call312 λF hF=>?_
 refine WW ?_;refine uW (l) [4] [4] [0,1,7] [8,0,1,7] Z (λi ga T U E=>(∀y∈ga,((λx:Cl=>x.ph==s.ph)) y=false)/\E=⟨(8,iA i)::T,U⟩) (Lp ?_ ?_ ?_)
 .exact⟨by simp,rfl⟩
 .rintro i ga x post st B hi ⟨hp,rfl⟩;have z:=yJ kD B hi;have C:=zW B hi;have c:=Ql s x;have u:=NV (p:=(λx:Cl=>x.ph==s.ph)) B hp
  try dsimp only at u
  cases A:((λx:Cl=>x.ph==s.ph)) x<;>(dsimp only at A;rw[A]at c)
  ·(refine zS c ?_)
   exact⟨λy z=>by simp only[zBe,zBm]at z;rcases z with z|rfl;exact hp y z;exact A,rfl⟩
  .rw[u A,hi];refine zS c ?_;exact zP [4] Z Z Z Z
 .rintro st ⟨hp,rfl⟩;rw[SZ hp];refine WW ?_;exact zP [4] rfl rfl rfl rfl
def NX (s:Sv) (l:List Cl) (hb:ln l<=1073741824):zN 278 [zE kD l,.fn 275 [.ptr 4 0 0]] [(4,aV s)] (bA (l.any (λx:Cl=>x.ph==s.ph))) [(4,aV s)]:=by
 have c:=CX s l hb;have h:=NW (λx:Cl=>x.ph==s.ph) l;have h2:=GF (λx:Cl=>x.ph==s.ph) l;generalize VC (λx:Cl=>x.ph==s.ph) l=n at*
 cases u:l.any (λx:Cl=>x.ph==s.ph)<;>rw[u]at h<;>simp at h
 all_goals
  (refine eM call278 λF hF=>?_)
  refine zS c ?_;exact zP [4] Z Z Z Z
def Cb (s:Sv) (l:List Cl) (hb:ln l<=1073741824):zN 312 [zE kD l,.fn 276 [.ptr 7 0 0]] [(7,.box [.fn 275 [.ptr 4 0 0]]),(4,aV s)] (iA (VC (λx:Cl=>x.ph==s.ph&&cH x.k) l)) [(7,.box [.fn 275 [.ptr 4 0 0]]),(4,aV s)]:=by
 have hl:=zA kD l;refine eM call312 λF hF=>?_
 refine WW ?_;refine uW (l) [7,4] [7,4] [0,1,7] [8,0,1,7] Z (λi ga T U E=>(∀y∈ga,((λx:Cl=>x.ph==s.ph&&cH x.k)) y=false)/\E=⟨(8,iA i)::T,U⟩) (Lp ?_ ?_ ?_)
 .exact⟨by simp,rfl⟩
 .rintro i ga x post st B hi ⟨hp,rfl⟩;have z:=yJ kD B hi;have C:=zW B hi;have c:=Pl s x;have u:=NV (p:=(λx:Cl=>x.ph==s.ph&&cH x.k)) B hp
  try dsimp only at u
  cases A:((λx:Cl=>x.ph==s.ph&&cH x.k)) x<;>(dsimp only at A;rw[A]at c)
  ·(refine zS c ?_)
   exact⟨λy z=>by simp only[zBe,zBm]at z;rcases z with z|rfl;exact hp y z;exact A,rfl⟩
  .rw[u A,hi];refine zS c ?_;exact zP [7,4] Z Z Z Z
 .rintro st ⟨hp,rfl⟩;rw[SZ hp];refine WW ?_;exact zP [7,4] rfl rfl rfl rfl
def KG (s:Sv) (l:List Cl) (hb:ln l<=1073741824):zN 278 [zE kD l,.fn 276 [.ptr 7 0 0]] [(7,.box [.fn 275 [.ptr 4 0 0]]),(4,aV s)] (bA (l.any (λx:Cl=>x.ph==s.ph&&cH x.k))) [(7,.box [.fn 275 [.ptr 4 0 0]]),(4,aV s)]:=by
 have c:=Cb s l hb;have h:=NW (λx:Cl=>x.ph==s.ph&&cH x.k) l;have h2:=GF (λx:Cl=>x.ph==s.ph&&cH x.k) l;generalize VC (λx:Cl=>x.ph==s.ph&&cH x.k) l=n at*
 cases u:l.any (λx:Cl=>x.ph==s.ph&&cH x.k)<;>rw[u]at h<;>simp at h
 all_goals
  (refine eM call278 λF hF=>?_)
  refine zS c ?_;exact zP [7,4] Z Z Z Z
def WH (g:Cf) (s:Sv) (l:List Cl):Bool:=!(l.any λx=>x.ph==s.ph)||decide (g.hold<=s.gr)||((l.any λc=>cH c.k)&& !(l.any λx=>x.ph==s.ph&&cH x.k))
def Nz (g:Cf) (s:Sv) (l:List Cl) (hb:ln l<=1073741824):zN 227 [wH g,wP s,zE kD l] [] (bA (WH g s l)) []:=by
 have z:=NX s l hb;have A:=KG s l hb;have B:=GG l hb;unfold WH;generalize (l.any λx=>x.ph==s.ph)=m at *;generalize (l.any λx=>x.ph==s.ph&&cH x.k)=u at *;generalize (l.any λc=>cH c.k)=e at *;by_cases h:g.hold<=s.gr
 .rw[zAw h]
  cases m<;>cases u<;>cases e<;>(simp only[zFw,zEr,zDf,zC7,zEg,zDe,zCs];(refine eM call227 λF hF=>?_);exact ng (qC z B A))
 .rw[zAu h]
  cases m<;>cases u<;>cases e<;>(simp only[zFw,zEr,zDf,zC7,zEg,zFx,zDe,zCs];(refine eM call227 λF hF=>?_);exact ng (qC z B A))
def fN (g:Cf) (s:Sv) (l:List Cl) (f4:Int):Sv:=if s.ph≠ -1/\WH g s l=true then qT s f4 else s
def uR (g:Cf) (s:Sv) (l:List Cl) (f4:Int):Sv:=
 if(fN g s l f4).ph= -1/\0<=qL g (fN g s l f4) f4 l (ln l) then⟨(l.getD (qL g (fN g s l f4) f4 l (ln l)).toNat dd).ph,0,(fN g s l f4).en⟩else fN g s l f4
def RA (s:Sv) (f4:Int):(qT s f4).en.length=ln s.en:=by unfold qT;dsimp only;split<;>simp
def Ol (g:Cf) (s:Sv) (l:List Cl) (f4:Int):(fN g s l f4).en.length=ln s.en:=by unfold fN;split;exact RA s f4;rfl
structure Lr (g:Cf) (s:Sv) (l:List Cl) (f4:Int):Prop where
 p:1<=g.per
 c0: -1000000<=g.cap
 c1:g.cap<=1000000
 n0:0<=f4
 n1:f4<=1000000000
 en:∀e∈s.en,-1<=e/\e<=f4
 k:∀c∈l,0<=c.k/\c.k<=3
 si:∀c∈l,0<=c.si/\c.si<=f4
 len:l.length<=1000
 sl:s.en.length<=1000
theorem NY (s:Sv) (f4:Int) (u:0<=f4) (h:∀e∈s.en,-1<=e/\e<=f4):∀e∈(qT s f4).en,-1<=e/\e<=f4:=by grind [qT]
def GH (g:Cf) (s:Sv) (l:List Cl) (f4:Int) (u:0<=f4) (h:∀e∈s.en,-1<=e/\e<=f4):∀e∈(fN g s l f4).en,-1<=e/\e<=f4:=by
 unfold fN;split;exact NY s f4 u h;exact h
theorem Lr.ok (H:Lr g s l f4) (u:Sv) (z:∀e∈u.en,-1<=e/\e<=f4):∀i,i<ln l->bj g.per f4 u.en (l.getD i dd):=λi hi=>by
 have hk:=bQ (λc:Cl=>0<=c.k/\c.k<=3) dd l i H.k hi;have A:=bQ (λc:Cl=>0<=c.si/\c.si<=f4) dd l i H.si hi;have z:=GC u.en f4 (l.getD i dd).ph H.n0 z;have:=H.p;have:=H.n0;have:=H.n1
 constructor<;>(try unfold jW)<;>omega
theorem Lr.sta (H:Lr g s l f4) (u:Sv) (z:∀e∈u.en,-1<=e/\e<=f4):∀i,i<ln l->jW u.en (l.getD i dd).ph (l.getD i dd).si<=f4:=λi hi=>by
 have A:=bQ (λc:Cl=>0<=c.si/\c.si<=f4) dd l i H.si hi;have z:=GC u.en f4 (l.getD i dd).ph H.n0 z;unfold jW;omega
def Nl (g:Cf) (s:Sv) (l:List Cl) (f4:Int) (H:Lr g s l f4):zN 179 [wH g,wP s,zE kD l,iA f4] [] (wP (uR g s l f4)) []:=by
 have hb:Le s:=⟨by have:=H.sl;omega⟩;have u:=GE s hb;have A:=Nz g s l (by have:=H.len;omega);have B:=Rl s hb f4;have hl:=zA kD l;have M:=H.len;have L:=GH g s l f4 H.n0 H.en;have z:=Oz g (fN g s l f4) f4 l zB (H.ok _ L);have I:=bO g (fN g s l f4) f4 l (ln l)
 have hd:fN g s l f4=if s.ph≠ -1/\WH g s l=true then qT s f4 else s:=rfl
 unfold uR;generalize fN g s l f4=E at *;generalize qL g E f4 l (ln l)=b at *;generalize WH g s l=S,qT s f4=U at *;by_cases h1:s.ph= -1
 .rw[Os (by simp[h1])]at hd;subst hd;by_cases h2:0<=b
  .rw[zAs ⟨h1,h2⟩];have O:=yE kD l b h2 zB;generalize l.getD b.toNat dd=G at *;refine eM call179 λF hF=>?_
   exact ng (xQ u z)
  .rw[Os (λh=>h2 h.2)];refine eM call179 λF hF=>?_
   exact ng (xQ u z)
 cases S with
 |false=>
  rw[Os zV]at hd;subst hd;rw[Os (λh=>h1 h.1)];refine eM call179 λF hF=>?_
  exact ng (xQ u A)
 | true=>
  rw[zAs ⟨h1,rfl⟩]at hd;subst hd;by_cases C:E.ph= -1
  .by_cases h2:0<=b
   .rw[zAs ⟨C,h2⟩];have O:=yE kD l b h2 zB;generalize l.getD b.toNat dd=G at *;refine eM call179 λF hF=>?_
    exact ng (cI u A B z)
   .rw[Os (λh=>h2 h.2)];refine eM call179 λF hF=>?_
    exact ng (cI u A B z)
  .rw[Os (λh=>C h.1)];refine eM call179 λF hF=>?_
   exact ng (cI u A B z)
def Ml (p:α->Bool) (l:List α) (x:α):(l++[x]).any p=(l.any p||p x):=by simp
theorem Yh (g:Cf) (s:Sv) (l:List Cl) (f4:Int) (H:Lr g s l f4):zN 134 [wH g,wP s,zE kD l,iA f4] [] (wP (uR g s l f4)) []:=by
 have hb:Le s:=⟨by have:=H.sl;omega⟩;have E:=NU s hb;have B:=Db s hb f4;have hl:=zA kD l;have Y:=H.len;have I:=GH g s l f4 H.n0 H.en;have z:=Qt g (fN g s l f4) f4 l zB (H.ok _ I) (H.sta _ I) ⟨H.c0,H.c1⟩;have W:=bO g (fN g s l f4) f4 l (ln l)
 have hd:fN g s l f4=if s.ph≠ -1/\WH g s l=true then qT s f4 else s:=rfl
 have ho:WH g s l=(!(l.any λx=>x.ph==s.ph)||decide (g.hold<=s.gr)||((l.any λc=>cH c.k)&& !(l.any λx=>x.ph==s.ph&&cH x.k))):=rfl;unfold uR;generalize fN g s l f4=S at *;generalize qL g S f4 l (ln l)=b at *;generalize WH g s l=O,qT s f4=s2 at *;by_cases h1:s.ph= -1
 .rw[Os (by simp[h1])]at hd;subst hd;by_cases h2:0<=b
  .rw[zAs ⟨h1,h2⟩];have M:=yE kD l b h2 zB;generalize l.getD b.toNat dd=V at *;refine eM call134 λF hF=>?_
   exact ng (xQ E z)
  .rw[Os (λh=>h2 h.2)];refine eM call134 λF hF=>?_
   exact ng (xQ E z)
 refine eM call134 λF hF=>?_
 refine zS E ?_;refine zU (l) [4,5,8,9] [4,5,8,9] [2,3,4,5,8,9,21,22] [10,11,12,23,2,3,4,5,8,9,21,22] Z (λi ga T U=>⟨(10,bA (ga.any λx=>x.ph==s.ph))::(11,bA (ga.any λx=>x.ph==s.ph&&cH x.k))::(12,bA (ga.any λc=>cH c.k))::(23,iA i)::T,U⟩) (Lq ?_ ?_)
 .intro i ga x post L hi;have M:=yJ kD L hi;have ac:=zW L hi;have e:=gT x;simp only[Ml];generalize (ga.any λx=>x.ph==s.ph)=m at *;generalize (ga.any λx=>x.ph==s.ph&&cH x.k)=u at *;generalize (ga.any λc=>cH c.k)=w at *;generalize cH x.k=G at *;by_cases C:x.ph=s.ph
  .rw[show(x.ph==s.ph)=true by simpa using C]
   cases m<;>cases u<;>cases w<;>cases G<;>((refine zS e ?_);rfl)
  .rw[show(x.ph==s.ph)=false by simpa using C]
   cases m<;>cases u<;>cases w<;>cases G<;>((refine zS e ?_);rfl)
 .generalize (l.any λx=>x.ph==s.ph)=m at *;generalize (l.any λx=>x.ph==s.ph&&cH x.k)=u at *;generalize (l.any λc=>cH c.k)=w at*
  have hh:(m=true/\s.gr<g.hold/\(w=false\/u=true)/\O=false)\/O=true:=by
   by_cases h:g.hold<=s.gr<;>cases m<;>cases u<;>cases w<;>simp_all<;>omega
  rcases hh with⟨hm,hg,hw,A⟩|A
  .subst hm A;rw[Os zV]at hd;subst hd;rw[Os (λh=>h1 h.1)]
   cases u<;>cases w<;>first|(simp at hw;done)|(exact mx)
  .subst A;rw[zAs ⟨h1,rfl⟩]at hd;subst hd
   have hh:g.hold<=s.gr\/s.gr<g.hold/\(m=false\/(w=true/\u=false)):=by
    by_cases h:g.hold<=s.gr<;>cases m<;>cases u<;>cases w<;>simp_all<;>omega
   clear ho;by_cases C:S.ph= -1
   .by_cases h2:0<=b
    .rw[zAs ⟨C,h2⟩];have M:=yE kD l b h2 zB;generalize l.getD b.toNat dd=V at *;by_cases h:g.hold<=s.gr
     .cases m<;>cases u<;>cases w<;>(exact ng (xQ B z))
     .cases m<;>cases u<;>cases w<;>first|(exfalso;simp at hh;omega)|(exact ng (xQ B z))
    .rw[Os (λh=>h2 h.2)];by_cases h:g.hold<=s.gr
     .cases m<;>cases u<;>cases w<;>(exact ng (xQ B z))
     .cases m<;>cases u<;>cases w<;>first|(exfalso;simp at hh;omega)|(exact ng (xQ B z))
   .rw[Os (λh=>C h.1)];by_cases h:g.hold<=s.gr
    .cases m<;>cases u<;>cases w<;>(exact ng (xQ B z))
    .cases m<;>cases u<;>cases w<;>first|(exfalso;simp at hh;omega)|(exact ng (xQ B z))
def Ke (g:Cf) (s:Sv) (l:List Cl) (f4:Int):(uR g s l f4).en=(fN g s l f4).en:=by unfold uR;split<;>rfl
def YW (g:Cf) (s:Sv) (l:List Cl) (f4:Int):(uR g s l f4).en.length=ln s.en:=by rw[Ke];exact Ol g s l f4
theorem Bb (g:Cf) (s:Sv) (l:List Cl) (f4:Int):(fN g s l f4=s\/(s.ph≠ -1/\WH g s l=true/\fN g s l f4=qT s f4)):=by grind [fN,WH,qT]
theorem Je (g:Cf) (s:Sv) (l:List Cl) (f4:Int):(fN g s l f4).ph=s.ph/\(fN g s l f4).gr=s.gr\/(fN g s l f4).ph= -1/\(fN g s l f4).gr=0:=by
 rcases Bb g s l f4 with hd|⟨_,_,hd⟩
 .grind
 .exact .inr (by rw[hd];exact⟨rfl,rfl⟩)
theorem Mz (g:Cf) (s:Sv) (l:List Cl) (f4:Int) (n:Int) (hl:∀c∈l,0<=c.ph/\c.ph<n) (h: -1<=s.ph/\s.ph<n/\0<=s.gr/\s.gr<=60) (u:0<=n): -1<=(uR g s l f4).ph/\(uR g s l f4).ph<n/\0<=(uR g s l f4).gr/\(uR g s l f4).gr<=60:=by
 have h1:=Je g s l f4;have hb:=bO g (fN g s l f4) f4 l (ln l)
 grind [uR]
def Ll (g:Cf) (s:Sv) (l:List Cl) (f4:Int) (u:0<=f4) (h:∀e∈s.en,-1<=e/\e<=f4):∀e∈(uR g s l f4).en,-1<=e/\e<=f4:=by rw[Ke];exact GH g s l f4 u h
def Lz (s:Sv) (b:Bool):(gM s b).en=s.en/\(gM s b).ph=s.ph:=by unfold gM;split<;>exact⟨rfl,rfl⟩
def Kz (s:Sv) (b:Bool) (h:0<=s.gr/\s.gr<=60):0<=(gM s b).gr/\(gM s b).gr<=60:=by unfold gM;split;(dsimp only;omega);exact h
theorem J6 (s:Sv) (b:Bool) (u:s.ph= -1->s.gr=0):(gM s b).ph= -1->(gM s b).gr=0:=by grind [gM]
theorem H6 (g:Cf) (s:Sv) (l:List Cl) (f4:Int) (u:s.ph= -1->s.gr=0):(uR g s l f4).ph= -1->(uR g s l f4).gr=0:=by grind [uR,Je]
structure EI (n:Nat) (d:Dk) (s:Sv) (f4:Int):Prop where
 len:s.en.length=n
 en:∀e∈s.en,-1<=e/\e<f4
 p0: -1<=s.ph
 p1:s.ph<n
 g0:0<=s.gr
 g1:s.gr<=60
 n0:1<=f4
 n1:f4+rem d<=301
 z:s.ph= -1->s.gr=0
theorem EI.next {n:Nat} {d:Dk} (H:EI n d s f4) (g:Cf) (c:List Cl) (u:∀x∈c,H9 n f4 x) (b:Bool) (A:Dk) (hd:rem A+1<=rem d):EI n A (gM (uR g s c f4) b) (f4+1):=by
 have E:=Mz g s c f4 n (λx C=>⟨(u x C).p0,(u x C).p1⟩) ⟨H.p0,H.p1,H.g0,H.g1⟩ zB;have I:=Kz (uR g s c f4) b E.2.2;obtain⟨e1,G⟩:=Lz (uR g s c f4) b;have:=H.n0;have:=H.n1;have B:=Ll g s c f4 zB (λe B=>by have:=H.en e B;omega);refine⟨by rw[e1,YW];exact H.len,λe h=>?_,zB,zB,zB,zB,zB,zB,λh=>?_⟩
 case refine_2=>exact J6 _ b (H6 g s c f4 H.z) h
 grind
def Lx (s:Sg) (h1:ln s.c.li<=1073741824) (h2:ln s.c.nx<=1073741824):zN 108 [wU s] [] (wU s) []:=by
 have u:=JR s.c.li h1;have z:=JQ s.c.nx h2;refine eM call108 λF hF=>?_
 exact ng (xQ u z)
def Jz (s:Sg) (v:Sv):Bool:=decide (0<=v.ph/\v.ph<ln s.c.li)&&((xR s.c v.ph.toNat).lamp==1)
def Fa (g:Cf) (j:Jn) (s:Sg) (v:Sv) (l:List Cl) (k f4:Int):Sg×Sv:=
 if s.lat=true then(s,qT v f4)
 else if(Ie j s (uR g v l f4).ph k).lat=true then(Ie j s (uR g v l f4).ph k,qT (uR g v l f4) f4)
 else(Ie j s (uR g v l f4).ph k,gM (uR g v l f4) (Jz (Ie j s (uR g v l f4).ph k) (uR g v l f4)))
def Nt (g:Cf) (j:Jn) (J:JV j) (s:Sg) (C:CV j s.c) (v:Sv) (l:List Cl) (k f4:Int) (H:Lr g v l f4) (I: -1000000<=(uR g v l f4).gr):zN 117 [wH g,wD j,wU s,wP v,zE kD l,iA k,iA f4] [] (.tup [wU (Fa g j s v l k f4).1,wP (Fa g j s v l k f4).2]) []:=by
 have hJ:=J.n;have hn:=C.n;have hm:=C.m;have hb:Le v:=⟨by have:=H.sl;omega⟩;have B:Le (uR g v l f4):=⟨by rw[YW];have:=H.sl;omega⟩;have O:=Lx s zB zB;have S:=Rl v hb f4;have E:=Nl g v l f4 H;have G:=Kt j J s C (uR g v l f4).ph k;have U:=Rl (uR g v l f4) B f4;have L:=Pt (uR g v l f4) B (Jz (Ie j s (uR g v l f4).ph k) (uR g v l f4)) I;have X:=Ez J C (uR g v l f4).ph k;have W:=X.n;unfold Fa;generalize qT v f4=v0,uR g v l f4=z at *;generalize qT z f4=v2 at *;generalize Ie j s z.ph k=x at *;have u:Jz x z=(decide (0<=z.ph/\z.ph<ln x.c.li)&&((xR x.c z.ph.toNat).lamp==1)):=rfl;generalize Jz x z=b at *;generalize gM z b=v3 at *;clear H I X C hb B;obtain⟨sc,sl⟩:=s;obtain⟨A,xl⟩:=x;dsimp only at *;have V:=zA xE A.li
 cases sl with
 |true=>
  rw[zAs Z];refine eM call117 λF hF=>?_
  exact ng (xQ O S)
 |false=>
 rw[Os zA9]
 cases xl with
 |true=>
  rw[zAs Z];refine eM call117 λF hF=>?_
  exact ng (qC E G U)
 |false=>
 rw[Os zA9];dsimp only;rw[show wU ⟨A,false⟩= .agg [zE xE A.li,iA A.gr,zE iA A.nx,iA A.wt,bA false]from Z]at *; by_cases h1:0<=z.ph
 case neg=>
  rw[zAu (λh=>h1 h.1),zBt]at u;subst u;refine eM call117 λF hF=>?_
  exact ng (qC E G L)
 by_cases h2:z.ph<ln A.li
 case neg=>
  rw[zAu (λh=>h2 h.2),zBt]at u;subst u;refine eM call117 λF hF=>?_
  exact ng (qC E G L)
 rw[zAw ⟨h1,h2⟩,zA3]at u;have Y:=yE xE A.li z.ph h1 h2
 change (A.li.map xE)[z.ph.toNat]? =some (xE (xR A z.ph.toNat))at Y
 generalize xR A z.ph.toNat=a at *;by_cases M:a.lamp=1
 .rw[show(a.lamp==1)=true by rw[zB8];exact M]at u;subst u;refine eM call117 λF hF=>?_
  exact ng (qC E G L)
 .rw[show(a.lamp==1)=false by rw[zBn];exact M]at u;subst u;refine eM call117 λF hF=>?_
  exact ng (qC E G L)
theorem Iz {j:Jn} (J:JV j) {s:Sg} (C:CV j s.c) (g:Cf) (v:Sv) (c:List Cl) (k f4:Int):CV j (Fa g j s v c k f4).1.c:=by grind [Fa,Ez]
def ph2:Ph:=⟨0,0,1,1,1,0,0,0⟩
def j2:Jn:=⟨[ph2],[0],0⟩
structure Ss where
 op:Bool
 dr:Bool
 bf:List Int
 gb:Bool
instance:Inhabited Ss:=⟨⟨false,false,[],false⟩⟩
def US (m n:Nat):Nat:=min n (256-m)
def Ab (s:Ss) (b:List Int):Ss:=if s.op=true then⟨true,s.dr||decide (US (ln s.bf) (ln b)≠b.length),s.bf++b.take (US (ln s.bf) (ln b)),s.gb⟩else s
theorem Mt {s:Ss} (h:ln s.bf<=256) (b:List Int):(Ab s b).bf.length<=256:=by grind [Ab,List.length_append,List.length_take,US]
def yc (l:List Vw) (hl:ln l<=1073741824):zN 173 [zE vG l] [] (.ref 1001 0 (l.map vG).length) [(1001,.arr 4 (l.map vG) false)]:=by
 have u:=zA vG l;refine eM call173 λF hF=>?_
 refine xI 0 Z (λcap z=>?_) ?_
 .have:l=[]:=by simpa using z
  subst this
  (repeat' (first|refine Xf ?_|apply yW|apply xH|intro hc|fail))
  refine qH 2 1001 4 Z Z Z (xL ?_);exact zP [1001] Z Z Z Z
 .repeat' (first|(apply zG;first|refine uM tok Z Z ?_|(apply wY;refine wM (xY tok (.inl ⟨rfl,rfl⟩) Z Z Z Z) Z ?_)|(apply yH;refine uT (nw:=[1001]) (yV tok 1001 (xs:=[]) Z Z Z Z Z Z Z Z Z) Z Z Z ?_)|(apply yC;refine vB tok Z Z Z Z Z Z Z (yM _ _ (λ_=>rfl)) Z Z Z zB Z ?_)|apply kQ)|(first|apply xX|apply xT|refine vZ Z ?_|refine yS Z ?_|refine yD Z ?_|refine xZ Z (λhc=>?_) λhc=>?_|apply xJ|apply xL|apply xS|apply xB))
  exact zP [1001] Z Z Z Z
def Xh (l:List Vw) (L:ln l<=1000) (hb:∀v∈l,ln v.co<=1000/\v.cn.length<=1000):zN 112 [zE vG l] [] (zE vG l) []:=by
 have c:=yc l zB;have G:=zA vG l;refine eM call112 λF hF=>?_
 refine zS c ?_;refine zO ((l.map vG).length) [1001] [] [0,7] [8,0,7] Z (λi T U=>⟨(8,iA i)::T,(1001,.arr 4 (dR i (l.map vG)) false)::U⟩) (Lq ?_ ?_)
 .intro i hi;have hi':i<ln l:=by omega
  have z:(dR i (l.map vG))[i]? =some (vG (l.getD i dd)):=zJ vG l i hi';have e:=cB vG l i hi';have E:=hb (l.getD i dd) QM;have A:=TC (l.getD i dd).co zB;have B:=TC (l.getD i dd).cn zB;generalize (l.getD i dd)=t,dR i (l.map vG)=xs,dR (i+1) (l.map vG)=ys at *;have u:=YM z;have I:(xs.set i (.agg [bA t.fl,bA t.ov,zE iA t.co,zE iA t.cn]))[i]? =some (vG t):=by rw[show AV.agg [bA t.fl,bA t.ov,zE iA t.co,zE iA t.cn]=vG t from Z,u];exact z
  have C:(xs.set i (.agg [bA t.fl,bA t.ov,zE iA t.co,zE iA t.cn])).set i (.agg [bA t.fl,bA t.ov,zE iA t.co,zE iA t.cn])=ys:=by rw[zE4];exact e
  clear e u;subst C;refine yF (xQ A B) ?_;rfl
 ·(refine WW ?_)
  exact zI [] Z Z (zBd (AV.sl false) zAv) Z
def dB (s:Ss):AV:= .agg [bA s.op,bA s.dr,zE yA s.bf,bA s.gb]
structure Ev where
 k:Int
 s:Int
 a:Int
 b:Int
 y:List Int
instance:Inhabited Ev:=⟨⟨0,0,0,0,[]⟩⟩
def hH (e:Ev):AV:= .agg [iA e.k,iA e.s,iA e.a,iA e.b,zE yA e.y]
