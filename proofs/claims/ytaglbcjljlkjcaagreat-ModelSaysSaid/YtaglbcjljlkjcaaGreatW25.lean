/- Part 25. -/
import Derived.Test.YtaglbcjljlkjcaaGreatW24
import Derived.Test.YtaglbcjljlkjcaaGreatW20
namespace Go.Proofs.YtaglbcjljlkjcaaGreat.Av
open Tryz
set_option linter.all false
set_option maxRecDepth 4000
set_option maxHeartbeats 2000000
open List renaming length->ln,replicate->pb
open Inhabited renaming default->dd
variable {g:Cf}{f3:Int}{l:List Cl}{s:Sv}{α:Type}
def ST (u cap:Int) (z:List Int) (f3:Int) (x:Cl):Int:=if cI x.k then x.k else UU u cap z f3 x.ph x.k x.si
def gR (u cap:Int) (z:List Int) (f3:Int) (x y:Cl):Bool:=
 if cI x.k≠cI y.k then cI x.k
 else if ST u cap z f3 x≠ST u cap z f3 y then decide (ST u cap z f3 y<ST u cap z f3 x)
 else if jU z x.ph x.si≠jU z y.ph y.si then decide (jU z x.ph x.si<jU z y.ph y.si)
 else if x.ag≠y.ag then decide (x.ag<y.ag)else decide (x.id<y.id)
theorem Pz (g:Cf) (s:Sv) (x y:Cl) (f3:Int) (L:vj g.per f3 s.en x) (M:vj g.per f3 s.en y):zN 280 [wE g,wW s,iA f3,kE x,kE y] [] (bA (gR g.per g.cap s.en f3 x y)) []:=by
 have u:=jG x;have z:=jG y;have B:=Ge g s x f3 L;have C:=Ge g s y f3 M;have E:=UT s x;have G:=UT s y
 cases hx:cI x.k<;>cases A:cI y.k<;>rw[hx]at u<;>rw[A]at z
 .by_cases h1:UU g.per g.cap s.en f3 x.ph x.k x.si=UU g.per g.cap s.en f3 y.ph y.k y.si
  .by_cases h2:jU s.en x.ph x.si=jU s.en y.ph y.si
   .by_cases I:x.ag=y.ag
    all_goals
     (refine eM call280 λF hF=>?_)
     (have ga:=u;have ge:=z;have gn:=B;have gt:=C;have io:=E;have la:=G;refine WG ?_;clear ga ge gn gt io la)
     refine zH [] Z Z (zBb bA ?_) Z;simp[gR,ST,hx,A,h1,h2,I,uN]
   ·(refine eM call280 λF hF=>?_)
    (have ga:=u;have ge:=z;have gn:=B;have gt:=C;have io:=E;have la:=G;refine WG ?_;clear ga ge gn gt io la)
    refine zH [] Z Z (zBb bA ?_) Z;simp[gR,ST,hx,A,h1,h2,uN]
  ·(refine eM call280 λF hF=>?_)
   (have ga:=u;have ge:=z;have gn:=B;have gt:=C;have io:=E;have la:=G;refine WG ?_;clear ga ge gn gt io la)
   refine zH [] Z Z (zBb bA ?_) Z;simp[gR,ST,hx,A,h1,uN]
 ·(refine eM call280 λF hF=>?_)
  (have ga:=u;have ge:=z;have gn:=B;have gt:=C;have io:=E;have la:=G;refine WG ?_;clear ga ge gn gt io la)
  refine zH [] Z Z (zBb bA ?_) Z;simp[gR,hx,A]
 ·(refine eM call280 λF hF=>?_)
  (have ga:=u;have ge:=z;have gn:=B;have gt:=C;have io:=E;have la:=G;refine WG ?_;clear ga ge gn gt io la)
  refine zH [] Z Z (zBb bA ?_) Z;simp[gR,hx,A]
 .by_cases h1:x.k=y.k
  .by_cases h2:jU s.en x.ph x.si=jU s.en y.ph y.si
   .by_cases I:x.ag=y.ag
    all_goals
     (refine eM call280 λF hF=>?_)
     (have ga:=u;have ge:=z;have gn:=B;have gt:=C;have io:=E;have la:=G;refine WG ?_;clear ga ge gn gt io la)
     refine zH [] Z Z (zBb bA ?_) Z;simp[gR,ST,hx,A,h1,h2,I,uN]
   ·(refine eM call280 λF hF=>?_)
    (have ga:=u;have ge:=z;have gn:=B;have gt:=C;have io:=E;have la:=G;refine WG ?_;clear ga ge gn gt io la)
    refine zH [] Z Z (zBb bA ?_) Z;simp[gR,ST,hx,A,h1,h2,uN]
  ·(refine eM call280 λF hF=>?_)
   (have ga:=u;have ge:=z;have gn:=B;have gt:=C;have io:=E;have la:=G;refine WG ?_;clear ga ge gn gt io la)
   refine zH [] Z Z (zBb bA ?_) Z;simp[gR,ST,hx,A,h1,uN]
def qL (g:Cf) (s:Sv) (f3:Int) (xs:List Cl):Nat->Int
 |0=> -1
 |i+1=>if BB g.lock s.en f3 (xs.getD i dd).ph (xs.getD i dd).k then qL g s f3 xs i
  else if qL g s f3 xs i<0 then i
  else if gR g.per g.cap s.en f3 (xs.getD i dd) (xs.getD (qL g s f3 xs i).toNat dd)then i else qL g s f3 xs i
theorem bM (g:Cf) (s:Sv) (f3:Int) (xs:List Cl):∀i,-1<=qL g s f3 xs i/\qL g s f3 xs i<i\/qL g s f3 xs i= -1
 |0=> .inr Z
 | i+1=>by
  have:=bM g s f3 xs i;unfold qL;split
  .omega
  .split
   .omega
   .split<;>omega
def NI (g:Cf) (s:Sv) (f3:Int) (xs:List Cl) (i:Nat):qL g s f3 xs (i+1)=if BB g.lock s.en f3 (xs.getD i dd).ph (xs.getD i dd).k=true then qL g s f3 xs i
 else if qL g s f3 xs i<0 then(i:Int)
 else if gR g.per g.cap s.en f3 (xs.getD i dd) (xs.getD (qL g s f3 xs i).toNat dd)=true then(i:Int)else qL g s f3 xs i:=rfl
def Oz (g:Cf) (s:Sv) (f3:Int) (xs:List Cl) (G:ln xs<=1099511627776) (I:∀i,i<ln xs->vj g.per f3 s.en (xs.getD i dd)):zN 228 [wE g,wW s,iA f3,zE kE xs] [] (iA (qL g s f3 xs (ln xs))) []:=by
 have hl:(xs.map kE).length=ln xs:=by simp
 refine eM call228 λF hF=>?_
 refine WO ?_
 refine wP (λn st=>∃i:Nat,n+i=ln xs/\st=⟨[(2,iA f3),(3,zE kE xs),(4,.ptr 4 0 0),(5,.ptr 5 0 0),(9,iA (qL g s f3 xs i)),(12,zE kE xs),(13,iA (ln xs)),(14,iA i)],[(4,.box [zE wJ g.js,zE uI g.ags,iA g.per,iA g.cap,iA g.hold,iA g.lock]),(5,.box [iA s.ph,iA s.gr,zE iA s.en])]⟩)
  (ln xs) [4,5] [2,3,4,5,9,12,13,14] Z ⟨0,rfl,by rw[<-hl];rfl⟩ ?_
 rintro n st ⟨i,hi,rfl⟩;by_cases B:i<ln xs
 .have M:=yE kE xs i zB zB;have A:=I i B;have hb:=bM g s f3 xs i;have u:=NI g s f3 xs i;have z:=Jl g s (xs.getD i dd) f3 A;rw[show((i:Int)).toNat=i from Z]at M
  cases hL:BB g.lock s.en f3 (xs.getD i dd).ph (xs.getD i dd).k<;>rw[hL]at z u
  .rw[Os zV]at u;by_cases E:qL g s f3 xs i<0
   .rw[f5 E]at u
    (have ga:=z;refine WG ?_;clear ga)
    exact⟨n-1,zB,i+1,zB,by rw[u];rfl⟩
   .rw[Os E]at u;have O:=yE kE xs (qL g s f3 xs i) zB zB;have C:=Pz g s (xs.getD i dd) (xs.getD (qL g s f3 xs i).toNat dd) f3 A (I _ zB)
    cases L:gR g.per g.cap s.en f3 (xs.getD i dd) (xs.getD (qL g s f3 xs i).toNat dd)<;>rw[L]at C u
    .rw[Os zV]at u
     (have ga:=z;have ge:=C;refine WG ?_;clear ga ge)
     exact⟨n-1,zB,i+1,zB,by rw[u];rfl⟩
    .rw[f5 Z]at u
     (have ga:=z;have ge:=C;refine WG ?_;clear ga ge)
     exact⟨n-1,zB,i+1,zB,by rw[u];rfl⟩
  .rw[f5 Z]at u
   (have ga:=z;refine WG ?_;clear ga)
   exact⟨n-1,zB,i+1,zB,by rw[u];rfl⟩
 .obtain rfl:i=ln xs:=by omega
  exact ny
def bN (s:Sv) (p:Int):zN 297 [wW s,iA p] [] (iA (cK s.en p)) []:=by
 have hl:(s.en.map iA).length=ln s.en:=by simp
 by_cases h1:p<0
 .rw[show cK s.en p= -1 by simp[cK,h1]];refine eM call297 λF hF=>?_
  exact ny
 .by_cases h2:(ln s.en:Int)<=p
  .rw[show cK s.en p= -1 by simp[cK,h2]];refine eM call297 λF hF=>?_
   exact ny
  .rw[show cK s.en p=s.en.getD p.toNat 0 by unfold cK;rw[Os zB]];have u:=yE iA s.en p zB zB;refine eM call297 λF hF=>?_
   exact ny
def gS (c:Cl):zN 195 [kE c] [] (bA (cI c.k)) []:=by
 unfold cI;by_cases h:c.k=2
 .rw[show(c.k==2||c.k==3)=true by simp[h]];refine eM call195 λF hF=>?_
  exact ny
 .rw[show(c.k==2||c.k==3)=(c.k==3) by simp[h]];refine eM call195 λF hF=>?_
  exact ny
def NJ (s:Sv) (c:Cl):zN 337 [wW s,kE c] [] (iA (jU s.en c.ph c.si)) []:=by
 refine eM call337 λF hF=>?_
 (repeat' (first|refine aM ?_|refine yW (λhc=>?_) λhc=>?_|(apply zG;apply xP;(refine vG 297 ?_;first|refine wM (zL (bN s _) Z Z Z Z Z) Z ?_|refine uU (zL (bN s _) Z Z Z Z Z) Z Z Z ?_|refine aF (zL (bN s _) Z Z Z Z Z) Z Z Z ?_))|fail))
 exact zI
def CW (g:Cf) (s:Sv) (c:Cl) (f3:Int) (z:vj g.per f3 s.en c) (B:jU s.en c.ph c.si<=f3):zN 338 [wE g,wW s,kE c,iA f3] [] (iA (UU g.per g.cap s.en f3 c.ph c.k c.si)) []:=by
 obtain⟨p,C,E,G,I,L,M,_,_⟩:=z
 have u:UU g.per g.cap s.en f3 c.ph c.k c.si=min g.cap (c.k+(f3-jU s.en c.ph c.si).tdiv (max 1 g.per)):=by
  unfold UU;rw[show max 1 g.per=g.per by omega,zCv zB]
 have hb:=Ie (f3-jU s.en c.ph c.si) (max 1 g.per) zB zB zB;have A:aB .i64 ((f3-jU s.en c.ph c.si).tdiv (max 1 g.per)):=⟨zB,zB⟩;rw[u];refine eM call338 λF hF=>?_
 (have ga:=NJ s c;refine WG ?_;clear ga)
 exact zI
theorem nh (g:Cf) (s:Sv) (c:Cl) (f3:Int) (u:vj g.per f3 s.en c):zN 248 [wE g,wW s,kE c,iA f3] [] (bA (BB g.lock s.en f3 c.ph c.k)) []:=by
 obtain⟨p,A,B,C,E,G,I,z,e1⟩:=u;unfold BB;refine eM call248 λF hF=>?_
 (repeat' (first|refine aM ?_|refine yW (λhc=>?_) λhc=>?_|(apply zG;apply xP;(first|(refine vG 297 ?_;first|refine wM (zL (bN s _) Z Z Z Z Z) Z ?_|refine uU (zL (bN s _) Z Z Z Z Z) Z Z Z ?_|refine aF (zL (bN s _) Z Z Z Z Z) Z Z Z ?_)|(refine vG 195 ?_;first|refine wM (zL (gS c) Z Z Z Z Z) Z ?_|refine uU (zL (gS c) Z Z Z Z Z) Z Z Z ?_|refine aF (zL (gS c) Z Z Z Z Z) Z Z Z ?_)))|fail))
 all_goals refine zH [] Z Z (zBb bA ?_) Z
 all_goals simp_all [uN]
structure J9 where
 x0:Int
 x1:Int
 x2:Int
 x3:Int
 x4:Int
def kyA (k:J9):AV:= .agg [iA k.x0,iA k.x1,iA k.x2,iA k.x3,iA k.x4]
def NK (z cap:Int) (u:List Int) (f3:Int) (c:Cl):J9:=if cI c.k=true then⟨0,-c.k,jU u c.ph c.si,c.ag,c.id⟩else⟨1,-UU z cap u f3 c.ph c.k c.si,jU u c.ph c.si,c.ag,c.id⟩
def Mx (g:Cf) (s:Sv) (c:Cl) (f3:Int) (u:vj g.per f3 s.en c) (C:jU s.en c.ph c.si<=f3) (hc: -1000000<=g.cap/\g.cap<=1000000):zN 298 [wE g,wW s,iA f3,kE c] [] (kyA (NK g.per g.cap s.en f3 c)) []:=by
 have z:=gS c
 have B:UU g.per g.cap s.en f3 c.ph c.k c.si<=1000000/\ -1000000<=UU g.per g.cap s.en f3 c.ph c.k c.si:=by
  unfold UU;have:=Int.ediv_nonneg (show 0<=f3-jU s.en c.ph c.si by omega) (show 0<=g.per by have:=u.p;omega);have:=u.k0;omega
 have E:=u.k0;have G:=u.k1
 cases A:cI c.k<;>rw[A]at z
 .rw[show NK g.per g.cap s.en f3 c=⟨1,-UU g.per g.cap s.en f3 c.ph c.k c.si,jU s.en c.ph c.si,c.ag,c.id⟩ by simp[NK,A]];refine eM call298 λF hF=>?_
  (have ga:=z;have ge:=NJ s c;have gn:=CW g s c f3 u C;refine WG ?_;clear ga ge gn)
  exact zI
 .rw[show NK g.per g.cap s.en f3 c=⟨0,-c.k,jU s.en c.ph c.si,c.ag,c.id⟩ by simp[NK,A]];refine eM call298 λF hF=>?_
  (have ga:=z;have ge:=NJ s c;have gn:=CW g s c f3 u C;refine WG ?_;clear ga ge gn)
  exact zI
def HX (x y:J9):Bool:=if x.x0≠y.x0 then decide (x.x0<y.x0)else if x.x1≠y.x1 then decide (x.x1<y.x1)else if x.x2≠y.x2 then decide (x.x2<y.x2)else if x.x3≠y.x3 then decide (x.x3<y.x3)else if x.x4≠y.x4 then decide (x.x4<y.x4)else false
theorem Wl (u cap:Int) (z:List Int) (f3:Int) (x y:Cl):HX (NK u cap z f3 x) (NK u cap z f3 y)=gR u cap z f3 x y:=by
 have neg:∀a b:Int,decide (-a< -b)=decide (b<a):=λa b=>by
  grind
 have A:∀a b:Int,(-a≠ -b)=(a≠b):=λa b=>propext zB
 unfold HX gR NK ST;generalize UU u cap z f3 x.ph x.k x.si=B
 grind [HX,NK,gR,UU,jU,cI]
def Rt (g:Cf) (s:Sv) (x y:Cl) (f3:Int) (E:vj g.per f3 s.en x) (G:vj g.per f3 s.en y) (hx:jU s.en x.ph x.si<=f3) (L:jU s.en y.ph y.si<=f3) (hc: -1000000<=g.cap/\g.cap<=1000000):zN 249 [wE g,wW s,iA f3,kE x,kE y] [] (bA (gR g.per g.cap s.en f3 x y)) []:=by
 have A:=Mx g s x f3 E hx hc;have B:=Mx g s y f3 G L hc;rw[<-Wl];generalize NK g.per g.cap s.en f3 x=p,NK g.per g.cap s.en f3 y=q at *;clear hc hx L E G;refine eM call249 λF hF=>?_
 (have ga:=A;have ge:=B;refine WG ?_;clear ga ge)
 refine wP (λn st=>∃i:Nat,n+i=5/\(0<i->p.x0=q.x0)/\(1<i->p.x1=q.x1)/\(2<i->p.x2=q.x2)/\(3<i->p.x3=q.x3)/\(4<i->p.x4=q.x4)/\
  st=⟨[(11,.ptr 11 0 0),(12,.ptr 12 0 0),(24,iA i)],[(11,.box [iA p.x0,iA p.x1,iA p.x2,iA p.x3,iA p.x4]),(12,.box [iA q.x0,iA q.x1,iA q.x2,iA q.x3,iA q.x4])]⟩)
  5 [11,12] [11,12,24] Z ⟨0,rfl,zB,zB,zB,zB,zB,rfl⟩ ?_
 rintro n st ⟨i,hi,a0,a1,a2,a3,a4,rfl⟩
 obtain rfl|rfl|rfl|rfl|rfl|rfl:i=0\/i=1\/i=2\/i=3\/i=4\/i=5:=by omega
 .clear A B;by_cases h:p.x0=q.x0
  ·(refine WO ?_)
   exact⟨n-1,zB,1,zB,λ_=>h,zB,zB,zB,zB,rfl⟩
  ·(refine WO ?_)
   refine zH [] Z Z (zBb bA ?_) Z;simp[HX,h,uN]
 .clear A B;have u:=a0 zB;by_cases h:p.x1=q.x1
  ·(refine WO ?_)
   exact⟨n-1,zB,2,zB,λ_=>u,λ_=>h,zB,zB,zB,rfl⟩
  ·(refine WO ?_)
   refine zH [] Z Z (zBb bA ?_) Z;simp[HX,u,h,uN]
 .clear A B;have u:=a0 zB;have z:=a1 zB;by_cases h:p.x2=q.x2
  ·(refine WO ?_)
   exact⟨n-1,zB,3,zB,λ_=>u,λ_=>z,λ_=>h,zB,zB,rfl⟩
  ·(refine WO ?_)
   refine zH [] Z Z (zBb bA ?_) Z;simp[HX,u,z,h,uN]
 .clear A B;have u:=a0 zB;have z:=a1 zB;have C:=a2 zB;by_cases h:p.x3=q.x3
  ·(refine WO ?_)
   exact⟨n-1,zB,4,zB,λ_=>u,λ_=>z,λ_=>C,λ_=>h,zB,rfl⟩
  ·(refine WO ?_)
   refine zH [] Z Z (zBb bA ?_) Z;simp[HX,u,z,C,h,uN]
 .clear A B;have u:=a0 zB;have z:=a1 zB;have C:=a2 zB;have I:=a3 zB;by_cases h:p.x4=q.x4
  ·(refine WO ?_)
   exact⟨n-1,zB,5,zB,λ_=>u,λ_=>z,λ_=>C,λ_=>I,λ_=>h,rfl⟩
  ·(refine WO ?_)
   refine zH [] Z Z (zBb bA ?_) Z;simp[HX,u,z,C,I,h,uN]
 .clear A B;refine WO ?_;refine zH [] Z Z (zBb bA ?_) Z;simp[HX,a0,a1,a2,a3,a4]
def Qt (g:Cf) (s:Sv) (f3:Int) (xs:List Cl) (I:ln xs<=1099511627776) (M:∀i,i<ln xs->vj g.per f3 s.en (xs.getD i dd)) (L:∀i,i<ln xs->jU s.en (xs.getD i dd).ph (xs.getD i dd).si<=f3) (hc: -1000000<=g.cap/\g.cap<=1000000):
  zN 196 [wE g,wW s,iA f3,zE kE xs] [] (iA (qL g s f3 xs (ln xs))) []:=by
 have hl:(xs.map kE).length=ln xs:=by simp
 refine eM call196 λF hF=>?_
 refine WO ?_
 refine wP (λn st=>∃i:Nat,n+i=ln xs/\st=⟨[(2,iA f3),(3,zE kE xs),(4,.ptr 4 0 0),(5,.ptr 5 0 0),(9,iA (qL g s f3 xs i)),(12,zE kE xs),(13,iA (ln xs)),(14,iA i)],[(4,.box [zE wJ g.js,zE uI g.ags,iA g.per,iA g.cap,iA g.hold,iA g.lock]),(5,.box [iA s.ph,iA s.gr,zE iA s.en])]⟩)
  (ln xs) [4,5] [2,3,4,5,9,12,13,14] Z ⟨0,rfl,by rw[<-hl];rfl⟩ ?_
 rintro n st ⟨i,hi,rfl⟩;by_cases A:i<ln xs
 .have R:=yE kE xs i zB zB;have B:=M i A;have C:=L i A;have hb:=bM g s f3 xs i;have u:=NI g s f3 xs i;have z:=nh g s (xs.getD i dd) f3 B;rw[show((i:Int)).toNat=i from Z]at R
  cases hL:BB g.lock s.en f3 (xs.getD i dd).ph (xs.getD i dd).k<;>rw[hL]at z u
  .rw[Os zV]at u;by_cases G:qL g s f3 xs i<0
   .rw[f5 G]at u
    (have ga:=z;refine WG ?_;clear ga)
    exact⟨n-1,zB,i+1,zB,by rw[u];rfl⟩
   .rw[Os G]at u;have S:=yE kE xs (qL g s f3 xs i) zB zB;have E:=Rt g s (xs.getD i dd) (xs.getD (qL g s f3 xs i).toNat dd) f3 B (M _ zB) C (L _ zB) hc
    cases O:gR g.per g.cap s.en f3 (xs.getD i dd) (xs.getD (qL g s f3 xs i).toNat dd)<;>rw[O]at E u
    .rw[Os zV]at u
     (have ga:=z;have ge:=E;refine WG ?_;clear ga ge)
     exact⟨n-1,zB,i+1,zB,by rw[u];rfl⟩
    .rw[f5 Z]at u
     (have ga:=z;have ge:=E;refine WG ?_;clear ga ge)
     exact⟨n-1,zB,i+1,zB,by rw[u];rfl⟩
  .rw[f5 Z]at u
   (have ga:=z;have ge:=z;refine WG ?_;clear ga ge)
   exact⟨n-1,zB,i+1,zB,by rw[u];rfl⟩
 .obtain rfl:i=ln xs:=by omega
  exact ny
theorem bO (P:α->Prop) (d:α):∀(l:List α) (i:Nat),(∀x∈l,P x)->i<ln l->P (l.getD i d)
 |l,i,h,hi=>by simp only[zA0,zBk hi,zDm];exact h _ (zEl hi)
def HY (u:List Int) (f3 z:Int) (h:0<=f3) (A:∀e∈u,-1<=e/\e<=f3): -1<=cK u z/\cK u z<=f3:=by
 unfold cK;split
 .omega
 .exact bO (λe=> -1<=e/\e<=f3) 0 u z.toNat A zB
structure H9 (ph f3:Int) (c:Cl):Prop where
 k0:0<=c.k
 k1:c.k<=3
 s0:0<=c.si
 s1:c.si<=f3
 a0:0<=c.ag
 a1:c.ag<=2
 i0:0<=c.id
 i1:c.id<=3
 p0:0<=c.ph
 p1:c.ph<ph
structure Lx (g:Cf) (s:Sv) (l:List Cl) (f3:Int):Prop where
 p0:1<=g.per
 p1:g.per<=5
 c0:0<=g.cap
 c1:g.cap<=5
 h0:1<=g.hold
 h1:g.hold<=4
 l0:0<=g.lock
 l1:g.lock<=6
 len:l.length<=5
 n0:1<=s.en.length
 n1:s.en.length<=8
 en:∀e∈s.en,-1<=e/\e<=f3
 cl:∀c∈l,H9 s.en.length f3 c
theorem Lx.sta (H:Lx g s l f3) (u:0<=f3):∀i,i<ln l->jU s.en (l.getD i dd).ph (l.getD i dd).si<=f3:=λi hi=>by
 obtain⟨a0,z,A,B,C,E,G,I,L,M⟩:=bO (H9 (ln s.en) f3) dd l i H.cl hi;have O:=HY s.en f3 (l.getD i dd).ph u H.en;unfold jU;omega
def HZ (f:α->AV) (l:List α):AV.sl false ((l.map f).take (l.map f).length)=zE f l:=by rw[zAt];rfl
def Fb (l:List Int) (hl:ln l<=1073741824):zN 111 [zE iA l] [] (.ref 1001 0 (l.map iA).length) [(1001,.arr 1 (l.map iA) false)]:=by
 have u:=zA iA l;refine eM call111 λF hF=>?_
 refine xH 0 Z (λcap hx=>?_) ?_
 .have:l=[]:=by simpa using hx
  subst this
  (repeat' (first|refine Zf ?_|apply yW|apply xI|intro hc|fail))
  refine qH 2 1001 1 Z Z Z (xL ?_);exact zP [1001] Z Z Z Z
 .repeat' (first|(apply zG;first|refine uL tok Z Z ?_|(apply wV;refine wM (xX tok (.inl ⟨rfl,rfl⟩) Z Z Z Z) Z ?_)|(apply yH;refine uU (nw:=[1001]) (yV tok 1001 (xs:=[]) Z Z Z Z Z Z Z Z Z) Z Z Z ?_)|(apply yC;refine vA tok Z Z Z Z Z Z Z (yM _ _ (λ_=>rfl)) Z Z Z zB Z ?_)|apply kP)|(first|apply xY|apply xR|refine vZ Z ?_|refine yR Z ?_|refine yD Z ?_|refine xZ Z (λhc=>?_) λhc=>?_|apply xJ|apply xL|apply xQ|apply xC))
  exact zP [1001] Z Z Z Z
def mh (l:List Int) (hl:ln l<=1073741824):zN 111 [zE iA l] [] (zE iA l) []:=by
 have u:=zA iA l;refine eM call111 λF hF=>?_
 refine xH 0 Z (λcap hx=>?_) ?_
 .have:l=[]:=by simpa using hx
  subst this;exact ly
 ·(refine WW ?_)
  refine zH [] Z Z (HZ _ _) Z
structure Oe (s:Sv):Prop where
 n:s.en.length<=100000
def rh (s:Sv) (h:Oe s):zN 110 [wW s] [] (.agg [iA s.ph,iA s.gr,.ref 1001 0 (s.en.map iA).length]) [(1001,.arr 1 (s.en.map iA) false)]:=by
 have c:=Fb s.en (by have:=h.n;omega);refine eM call110 λF hF=>?_
 refine zS c ?_;exact zP [1001] Z Z Z Z
def GA (s:Sv) (h:Oe s):zN 110 [wW s] [] (wW s) []:=by
 have c:=mh s.en (by have:=h.n;omega);refine eM call110 λF hF=>?_
 exact ng c
def NL (s:Sv) (h:Oe s):zN 127 [wW s] [] (wW s) []:=by
 have:=h.n;have hl:=zA iA s.en;refine eM call127 λF hF=>?_
 exact nl
def Eb (s:Sv) (h:Oe s):zN 127 [wW s] [] (.agg [iA s.ph,iA s.gr,.ref 1001 0 (s.en.map iA).length]) [(1001,.arr 1 (s.en.map iA) false)]:=by
 have:=h.n;have hl:=zA iA s.en;refine eM call127 λF hF=>?_
 (repeat' (first|refine uT ?_|apply yW|apply xI|intro hc|(apply zG;first|(apply yC;refine xG 1001 tok Z Z Z Z Z Z (yM _ _ (λ_=>rfl)) Z Z Z zB Z Z Z ?_))|fail))
 exact zP [1001] Z Z Z Z
def gL (s:Sv) (u:Bool):Sv:=if u=true/\s.ph≠ -1 then⟨s.ph,min s.gr 59+1,s.en⟩else s
def Pt (s:Sv) (h:Oe s) (b:Bool) (u: -1000000<=s.gr):zN 181 [wW s,bA b] [] (wW (gL s b)) []:=by
 have c:=GA s h;by_cases h1:b=true
 .subst h1;by_cases h2:s.ph= -1
  .rw[show gL s true=s by simp[gL,h2]];refine eM call181 λF hF=>?_
   exact ng c
  .rw[show gL s true=⟨s.ph,min s.gr 59+1,s.en⟩ by simp[gL,h2]];refine eM call181 λF hF=>?_
   exact ng c
 .obtain rfl:b=false:=by simpa using h1
  rw[show gL s false=s by simp[gL]];refine eM call181 λF hF=>?_
  exact ng c
def Vl (s:Sv) (h:Oe s) (b:Bool) (u: -1000000<=s.gr/\s.gr<=1000000):zN 136 [wW s,bA b] [] (wW (gL s b)) []:=by
 have c:=NL s h;by_cases h1:b=true
 .subst h1;by_cases h2:s.ph= -1
  .rw[show gL s true=s by simp[gL,h2]];refine eM call136 λF hF=>?_
   exact ng c
  .rw[show gL s true=⟨s.ph,min (s.gr+1) 60,s.en⟩ by simp[gL,h2];omega];refine eM call136 λF hF=>?_
   exact ng c
 .obtain rfl:b=false:=by simpa using h1
  rw[show gL s false=s by simp[gL]];refine eM call136 λF hF=>?_
  exact ng c
def qV (s:Sv) (f3:Int):Sv:=⟨-1,0,if 0<s.gr/\0<=s.ph/\s.ph<ln s.en then s.en.set s.ph.toNat f3 else s.en⟩
theorem CX (f:α->AV) (l:List α) (i:Nat) (x:α) (n:Nat) (u:n=ln l):AV.sl false (((l.map f).set i (f x)).take n)=zE f (l.set i x):=by grind [zE,List.map_set,List.take_of_length_le]
def Ul (s:Sv) (h:Oe s) (f3:Int):zN 178 [wW s,iA f3] [] (wW (qV s f3)) []:=by
 have c:=rh s h;have hl:=zA iA s.en;by_cases h1:0<s.gr/\0<=s.ph/\s.ph<ln s.en
 .obtain⟨h2,u,z⟩:=h1;have A:=yE iA s.en s.ph u z;rw[show qV s f3=⟨-1,0,s.en.set s.ph.toNat f3⟩ by simp[qV,h2,u,z]];refine eM call178 λF hF=>?_
  refine zS c ?_;refine zH [] Z Z (zBb (λx=>AV.agg [iA (-1),iA 0,x]) (CX iA s.en s.ph.toNat f3 _ hl)) Z
 .rw[show qV s f3=⟨-1,0,s.en⟩ by unfold qV;rw[Os h1]];refine eM call178 λF hF=>?_
  (have ga:=c;(repeat' (first|refine uT ?_|apply yW|apply xI|intro hc|(apply zG;first|refine SM ?_)|fail))<;>clear ga)
  all_goals (try omega)
  all_goals refine zH [] Z Z (zBb (λx=>AV.agg [iA (-1),iA 0,x]) (HZ iA s.en)) Z
def Db (s:Sv) (h:Oe s) (f3:Int):zN 133 [wW s,iA f3] [] (wW (qV s f3)) []:=by
 have c:=Eb s h;have hl:=zA iA s.en;by_cases h1:0<s.gr/\0<=s.ph/\s.ph<ln s.en
 .obtain⟨h2,u,z⟩:=h1;have A:=yE iA s.en s.ph u z;rw[show qV s f3=⟨-1,0,s.en.set s.ph.toNat f3⟩ by simp[qV,h2,u,z]];refine eM call133 λF hF=>?_
  refine zS c ?_;refine zH [] Z Z (zBb (λx=>AV.agg [iA (-1),iA 0,x]) (CX iA s.en s.ph.toNat f3 _ hl)) Z
 .rw[show qV s f3=⟨-1,0,s.en⟩ by unfold qV;rw[Os h1]];refine eM call133 λF hF=>?_
  (have ga:=c;(repeat' (first|refine uT ?_|apply yW|apply xI|intro hc|(apply zG;first|refine SM ?_)|fail))<;>clear ga)
  all_goals (try omega)
  all_goals refine zH [] Z Z (zBb (λx=>AV.agg [iA (-1),iA 0,x]) (HZ iA s.en)) Z
def sh (n:Nat):Sv:=⟨-1,0,pb n (-1)⟩
def Ot (n:Nat) (h:n<=100000):zN 87 [iA n] [] (wW (sh n)) []:=by
 refine eM call87 λF hF=>?_
 (repeat' (first|refine uT ?_|apply yW|apply xI|intro hc|fail))
 refine zQ 4 1001 1 Z Z Z ?_;refine zO (n) [1001,2,3] [2,3] [2,3,6] [4,7,2,3,6] Z (λi T U=>⟨(4,.ref 1001 0 ((pb i (-1:Int)).map iA).length)::(7,iA i)::T,(1001,.arr 1 ((pb i (-1:Int)).map iA) true)::U⟩) (Lq ?_ ?_)
 .intro i hi;have u:((pb i (-1:Int)).map iA).length=i:=by simp
  have e:(pb (i+1) (-1:Int)).map iA=(pb i (-1:Int)).map iA++[iA (-1)]:=by rw[zEy];simp
  rw[e];generalize (pb i (-1:Int)).map iA=xs at *;refine WL ?_;rfl
 ·(refine WW ?_)
  exact zH [] Z Z (zBb (λx=>AV.agg [iA (-1),iA 0,x]) (HZ _ _)) Z
def VB (p:α->Bool) (l:List α):Int:=if l.any p=true then(l.findIdx p:Int)else -1
theorem NM {p:α->Bool} {l f4 post:List α} {x:α} (h:l=f4++x::post) (u:∀y∈f4,p y=false) (hx:p x=true):VB p l=(ln f4:Int):=by grind [VB]
theorem SU {p:α->Bool} {l:List α} (u:∀y∈l,p y=false):VB p l= -1:=by grind [VB]
theorem NN (p:α->Bool) (l:List α):(0<=VB p l)=(l.any p=true):=by grind [VB]
theorem GB (p:α->Bool) (l:List α): -1<=VB p l/\VB p l<=ln l:=by grind [VB]
def th (l:List Cl) (hb:ln l<=1073741824):zN 312 [zE kE l,.fn 277 []] [] (iA (VB (λc=>cI c.k) l)) []:=by
 have hl:=zA kE l;refine eM call312 λF hF=>?_
 refine WW ?_;refine uX (l) [] [] [0,1,7] [8,0,1,7] Z (λi f4 T U C=>(∀y∈f4,cI y.k=false)/\C=⟨(8,iA i)::T,U⟩) (Lp ?_ ?_ ?_)
 .exact⟨by simp,rfl⟩
 .rintro i f4 x post st hx hi ⟨hp,rfl⟩;have u:=yJ kE hx hi;have B:=zX hx hi;have c:=jG x;have A:=NM (p:=λc=>cI c.k) hx hp
  cases z:cI x.k<;>rw[z]at c
  ·(refine zS c ?_)
   exact⟨λy u=>by simp at u;rcases u with u|rfl;exact hp y u;exact z,rfl⟩
  .rw[A z,hi];exact ng c
 .rintro st ⟨hp,rfl⟩;rw[SU hp];exact ly
def GC (l:List Cl) (hb:ln l<=1073741824):zN 278 [zE kE l,.fn 277 []] [] (bA (l.any λc=>cI c.k)) []:=by
 have c:=th l hb;have h:=NN (λc:Cl=>cI c.k) l;have h2:=GB (λc:Cl=>cI c.k) l;generalize VB (λc:Cl=>cI c.k) l=n at*
 cases u:(l.any λc=>cI c.k)<;>rw[u]at h<;>simp at h
 all_goals
  (refine eM call278 λF hF=>?_)
  exact ng c
def aT (s:Sv):xW:= .box [iA s.ph,iA s.gr,zE iA s.en]
def Tl (s:Sv) (x:Cl):zN 275 [kE x,.ptr 4 0 0] [(4,aT s)] (bA (x.ph==s.ph)) [(4,aT s)]:=by
 refine eM call275 λF hF=>?_
 refine WW ?_;exact zP [4] Z Z Z Z
def Sl (s:Sv) (x:Cl):zN 276 [kE x,.ptr 7 0 0] [(7,.box [.fn 275 [.ptr 4 0 0]]),(4,aT s)] (bA (x.ph==s.ph&&cI x.k)) [(7,.box [.fn 275 [.ptr 4 0 0]]),(4,aT s)]:=by
 have c:=Tl s x;have e:=jG x
 cases h:(x.ph==s.ph)<;>rw[h]at c
 ·(refine eM call276 λF hF=>?_)
  refine yG (xV c e) ?_;exact zP [7,4] Z Z Z Z
 .rw[zA3];refine eM call276 λF hF=>?_
  refine yG (xV c e) ?_;exact zP [7,4] Z Z Z Z
def CY (s:Sv) (l:List Cl) (hb:ln l<=1073741824):zN 312 [zE kE l,.fn 275 [.ptr 4 0 0]] [(4,aT s)] (iA (VB (λx:Cl=>x.ph==s.ph) l)) [(4,aT s)]:=by
 have hl:=zA kE l;refine eM call312 λF hF=>?_
 refine WW ?_;refine uX (l) [4] [4] [0,1,7] [8,0,1,7] Z (λi f4 T U C=>(∀y∈f4,((λx:Cl=>x.ph==s.ph)) y=false)/\C=⟨(8,iA i)::T,U⟩) (Lp ?_ ?_ ?_)
 .exact⟨by simp,rfl⟩
 .rintro i f4 x post st hx hi ⟨hp,rfl⟩;have z:=yJ kE hx hi;have B:=zX hx hi;have c:=Tl s x;have u:=NM (p:=(λx:Cl=>x.ph==s.ph)) hx hp
  try dsimp only at u
  cases A:((λx:Cl=>x.ph==s.ph)) x<;>(dsimp only at A;rw[A]at c)
  ·(refine zS c ?_)
   exact⟨λy z=>by simp only[zBc,zBl]at z;rcases z with z|rfl;exact hp y z;exact A,rfl⟩
  .rw[u A,hi];refine zS c ?_;exact zP [4] Z Z Z Z
 .rintro st ⟨hp,rfl⟩;rw[SU hp];refine WW ?_;exact zP [4] rfl rfl rfl rfl
def NP (s:Sv) (l:List Cl) (hb:ln l<=1073741824):zN 278 [zE kE l,.fn 275 [.ptr 4 0 0]] [(4,aT s)] (bA (l.any (λx:Cl=>x.ph==s.ph))) [(4,aT s)]:=by
 have c:=CY s l hb;have h:=NN (λx:Cl=>x.ph==s.ph) l;have h2:=GB (λx:Cl=>x.ph==s.ph) l;generalize VB (λx:Cl=>x.ph==s.ph) l=n at*
 cases u:l.any (λx:Cl=>x.ph==s.ph)<;>rw[u]at h<;>simp at h
 all_goals
  (refine eM call278 λF hF=>?_)
  refine zS c ?_;exact zP [4] Z Z Z Z
def Cb (s:Sv) (l:List Cl) (hb:ln l<=1073741824):zN 312 [zE kE l,.fn 276 [.ptr 7 0 0]] [(7,.box [.fn 275 [.ptr 4 0 0]]),(4,aT s)] (iA (VB (λx:Cl=>x.ph==s.ph&&cI x.k) l)) [(7,.box [.fn 275 [.ptr 4 0 0]]),(4,aT s)]:=by
 have hl:=zA kE l;refine eM call312 λF hF=>?_
 refine WW ?_;refine uX (l) [7,4] [7,4] [0,1,7] [8,0,1,7] Z (λi f4 T U C=>(∀y∈f4,((λx:Cl=>x.ph==s.ph&&cI x.k)) y=false)/\C=⟨(8,iA i)::T,U⟩) (Lp ?_ ?_ ?_)
 .exact⟨by simp,rfl⟩
 .rintro i f4 x post st hx hi ⟨hp,rfl⟩;have z:=yJ kE hx hi;have B:=zX hx hi;have c:=Sl s x;have u:=NM (p:=(λx:Cl=>x.ph==s.ph&&cI x.k)) hx hp
  try dsimp only at u
  cases A:((λx:Cl=>x.ph==s.ph&&cI x.k)) x<;>(dsimp only at A;rw[A]at c)
  ·(refine zS c ?_)
   exact⟨λy z=>by simp only[zBc,zBl]at z;rcases z with z|rfl;exact hp y z;exact A,rfl⟩
  .rw[u A,hi];refine zS c ?_;exact zP [7,4] Z Z Z Z
 .rintro st ⟨hp,rfl⟩;rw[SU hp];refine WW ?_;exact zP [7,4] rfl rfl rfl rfl
def LV (s:Sv) (l:List Cl) (hb:ln l<=1073741824):zN 278 [zE kE l,.fn 276 [.ptr 7 0 0]] [(7,.box [.fn 275 [.ptr 4 0 0]]),(4,aT s)] (bA (l.any (λx:Cl=>x.ph==s.ph&&cI x.k))) [(7,.box [.fn 275 [.ptr 4 0 0]]),(4,aT s)]:=by
 have c:=Cb s l hb;have h:=NN (λx:Cl=>x.ph==s.ph&&cI x.k) l;have h2:=GB (λx:Cl=>x.ph==s.ph&&cI x.k) l;generalize VB (λx:Cl=>x.ph==s.ph&&cI x.k) l=n at*
 cases u:l.any (λx:Cl=>x.ph==s.ph&&cI x.k)<;>rw[u]at h<;>simp at h
 all_goals
  (refine eM call278 λF hF=>?_)
  refine zS c ?_;exact zP [7,4] Z Z Z Z
def WE (g:Cf) (s:Sv) (l:List Cl):Bool:=!(l.any λx=>x.ph==s.ph)||decide (g.hold<=s.gr)||((l.any λc=>cI c.k)&& !(l.any λx=>x.ph==s.ph&&cI x.k))
def Nz (g:Cf) (s:Sv) (l:List Cl) (hb:ln l<=1073741824):zN 227 [wE g,wW s,zE kE l] [] (bA (WE g s l)) []:=by
 have z:=NP s l hb;have A:=LV s l hb;have B:=GC l hb;unfold WE;generalize (l.any λx=>x.ph==s.ph)=m at *;generalize (l.any λx=>x.ph==s.ph&&cI x.k)=u at *;generalize (l.any λc=>cI c.k)=e at *;by_cases h:g.hold<=s.gr
 .rw[zAu h]
  cases m<;>cases u<;>cases e<;>(simp only[zFu,zEp,zDe,zC5,zEe,zDd,zCp];(refine eM call227 λF hF=>?_);exact mx (qM z B A))
 .rw[zAs h]
  cases m<;>cases u<;>cases e<;>(simp only[zFu,zEp,zDe,zC5,zEe,zFv,zDd,zCp];(refine eM call227 λF hF=>?_);exact mx (qM z B A))
def fM (g:Cf) (s:Sv) (l:List Cl) (f3:Int):Sv:=if s.ph≠ -1/\WE g s l=true then qV s f3 else s
def uR (g:Cf) (s:Sv) (l:List Cl) (f3:Int):Sv:=
 if(fM g s l f3).ph= -1/\0<=qL g (fM g s l f3) f3 l (ln l) then⟨(l.getD (qL g (fM g s l f3) f3 l (ln l)).toNat dd).ph,0,(fM g s l f3).en⟩else fM g s l f3
def SW (s:Sv) (f3:Int):(qV s f3).en.length=ln s.en:=by unfold qV;dsimp only;split<;>simp
def Rl (g:Cf) (s:Sv) (l:List Cl) (f3:Int):(fM g s l f3).en.length=ln s.en:=by unfold fM;split;exact SW s f3;rfl
structure Rr (g:Cf) (s:Sv) (l:List Cl) (f3:Int):Prop where
 p:1<=g.per
 c0: -1000000<=g.cap
 c1:g.cap<=1000000
 n0:0<=f3
 n1:f3<=1000000000
 en:∀e∈s.en,-1<=e/\e<=f3
 k:∀c∈l,0<=c.k/\c.k<=3
 si:∀c∈l,0<=c.si/\c.si<=f3
 len:l.length<=1000
 sl:s.en.length<=1000
theorem NQ (s:Sv) (f3:Int) (u:0<=f3) (h:∀e∈s.en,-1<=e/\e<=f3):∀e∈(qV s f3).en,-1<=e/\e<=f3:=by grind [qV]
def GD (g:Cf) (s:Sv) (l:List Cl) (f3:Int) (u:0<=f3) (h:∀e∈s.en,-1<=e/\e<=f3):∀e∈(fM g s l f3).en,-1<=e/\e<=f3:=by
 unfold fM;split;exact NQ s f3 u h;exact h
theorem Rr.ok (H:Rr g s l f3) (u:Sv) (z:∀e∈u.en,-1<=e/\e<=f3):∀i,i<ln l->vj g.per f3 u.en (l.getD i dd):=λi hi=>by
 have hk:=bO (λc:Cl=>0<=c.k/\c.k<=3) dd l i H.k hi;have A:=bO (λc:Cl=>0<=c.si/\c.si<=f3) dd l i H.si hi;have z:=HY u.en f3 (l.getD i dd).ph H.n0 z;have:=H.p;have:=H.n0;have:=H.n1
 constructor<;>(try unfold jU)<;>omega
theorem Rr.sta (H:Rr g s l f3) (u:Sv) (z:∀e∈u.en,-1<=e/\e<=f3):∀i,i<ln l->jU u.en (l.getD i dd).ph (l.getD i dd).si<=f3:=λi hi=>by
 have A:=bO (λc:Cl=>0<=c.si/\c.si<=f3) dd l i H.si hi;have z:=HY u.en f3 (l.getD i dd).ph H.n0 z;unfold jU;omega
def Ql (g:Cf) (s:Sv) (l:List Cl) (f3:Int) (H:Rr g s l f3):zN 179 [wE g,wW s,zE kE l,iA f3] [] (wW (uR g s l f3)) []:=by
 have hb:Oe s:=⟨by have:=H.sl;omega⟩;have u:=GA s hb;have A:=Nz g s l (by have:=H.len;omega);have B:=Ul s hb f3;have hl:=zA kE l;have M:=H.len;have L:=GD g s l f3 H.n0 H.en;have z:=Oz g (fM g s l f3) f3 l zB (H.ok _ L);have I:=bM g (fM g s l f3) f3 l (ln l)
 have hd:fM g s l f3=if s.ph≠ -1/\WE g s l=true then qV s f3 else s:=rfl
 unfold uR;generalize fM g s l f3=E at *;generalize qL g E f3 l (ln l)=b at *;generalize WE g s l=R,qV s f3=S at *;by_cases h1:s.ph= -1
 .rw[Os (by simp[h1])]at hd;subst hd;by_cases h2:0<=b
  .rw[f5 ⟨h1,h2⟩];have O:=yE kE l b h2 zB;generalize l.getD b.toNat dd=G at *;refine eM call179 λF hF=>?_
   exact mx (xV u z)
  .rw[Os (λh=>h2 h.2)];refine eM call179 λF hF=>?_
   exact mx (xV u z)
 cases R with
 |false=>
  rw[Os zV]at hd;subst hd;rw[Os (λh=>h1 h.1)];refine eM call179 λF hF=>?_
  exact mx (xV u A)
 | true=>
  rw[f5 ⟨h1,rfl⟩]at hd;subst hd;by_cases C:E.ph= -1
  .by_cases h2:0<=b
   .rw[f5 ⟨C,h2⟩];have O:=yE kE l b h2 zB;generalize l.getD b.toNat dd=G at *;refine eM call179 λF hF=>?_
    exact mx (cD u A B z)
   .rw[Os (λh=>h2 h.2)];refine eM call179 λF hF=>?_
    exact mx (cD u A B z)
  .rw[Os (λh=>C h.1)];refine eM call179 λF hF=>?_
   exact mx (cD u A B z)
def Pl (p:α->Bool) (l:List α) (x:α):(l++[x]).any p=(l.any p||p x):=by simp
theorem Zh (g:Cf) (s:Sv) (l:List Cl) (f3:Int) (H:Rr g s l f3):zN 134 [wE g,wW s,zE kE l,iA f3] [] (wW (uR g s l f3)) []:=by
 have hb:Oe s:=⟨by have:=H.sl;omega⟩;have E:=NL s hb;have B:=Db s hb f3;have hl:=zA kE l;have V:=H.len;have I:=GD g s l f3 H.n0 H.en;have z:=Qt g (fM g s l f3) f3 l zB (H.ok _ I) (H.sta _ I) ⟨H.c0,H.c1⟩;have S:=bM g (fM g s l f3) f3 l (ln l)
 have hd:fM g s l f3=if s.ph≠ -1/\WE g s l=true then qV s f3 else s:=rfl
 have ho:WE g s l=(!(l.any λx=>x.ph==s.ph)||decide (g.hold<=s.gr)||((l.any λc=>cI c.k)&& !(l.any λx=>x.ph==s.ph&&cI x.k))):=rfl;unfold uR;generalize fM g s l f3=O at *;generalize qL g O f3 l (ln l)=b at *;generalize WE g s l=M,qV s f3=s2 at *;by_cases h1:s.ph= -1
 .rw[Os (by simp[h1])]at hd;subst hd;by_cases h2:0<=b
  .rw[f5 ⟨h1,h2⟩];have L:=yE kE l b h2 zB;generalize l.getD b.toNat dd=R at *;refine eM call134 λF hF=>?_
   exact mx (xV E z)
  .rw[Os (λh=>h2 h.2)];refine eM call134 λF hF=>?_
   exact mx (xV E z)
 refine eM call134 λF hF=>?_
 refine zS E ?_;refine zU (l) [4,5,8,9] [4,5,8,9] [2,3,4,5,8,9,21,22] [10,11,12,23,2,3,4,5,8,9,21,22] Z (λi f4 T U=>⟨(10,bA (f4.any λx=>x.ph==s.ph))::(11,bA (f4.any λx=>x.ph==s.ph&&cI x.k))::(12,bA (f4.any λc=>cI c.k))::(23,iA i)::T,U⟩) (Lq ?_ ?_)
 .intro i f4 x post hx hi;have L:=yJ kE hx hi;have W:=zX hx hi;have e:=gS x;simp only[Pl];generalize (f4.any λx=>x.ph==s.ph)=m at *;generalize (f4.any λx=>x.ph==s.ph&&cI x.k)=u at *;generalize (f4.any λc=>cI c.k)=w at *;generalize cI x.k=G at *;by_cases C:x.ph=s.ph
  .rw[show(x.ph==s.ph)=true by simpa using C]
   cases m<;>cases u<;>cases w<;>cases G<;>((refine zS e ?_);rfl)
  .rw[show(x.ph==s.ph)=false by simpa using C]
   cases m<;>cases u<;>cases w<;>cases G<;>((refine zS e ?_);rfl)
 .generalize (l.any λx=>x.ph==s.ph)=m at *;generalize (l.any λx=>x.ph==s.ph&&cI x.k)=u at *;generalize (l.any λc=>cI c.k)=w at*
  have hh:(m=true/\s.gr<g.hold/\(w=false\/u=true)/\M=false)\/M=true:=by
   by_cases h:g.hold<=s.gr<;>cases m<;>cases u<;>cases w<;>simp_all<;>omega
  rcases hh with⟨Y,hg,hw,A⟩|A
  .subst Y A;rw[Os zV]at hd;subst hd;rw[Os (λh=>h1 h.1)]
   cases u<;>cases w<;>first|(simp at hw;done)|(exact ly)
  .subst A;rw[f5 ⟨h1,rfl⟩]at hd;subst hd
   have hh:g.hold<=s.gr\/s.gr<g.hold/\(m=false\/(w=true/\u=false)):=by
    by_cases h:g.hold<=s.gr<;>cases m<;>cases u<;>cases w<;>simp_all<;>omega
   clear ho;by_cases C:O.ph= -1
   .by_cases h2:0<=b
    .rw[f5 ⟨C,h2⟩];have L:=yE kE l b h2 zB;generalize l.getD b.toNat dd=R at *;by_cases h:g.hold<=s.gr
     .cases m<;>cases u<;>cases w<;>(exact mx (xV B z))
     .cases m<;>cases u<;>cases w<;>first|(exfalso;simp at hh;omega)|(exact mx (xV B z))
    .rw[Os (λh=>h2 h.2)];by_cases h:g.hold<=s.gr
     .cases m<;>cases u<;>cases w<;>(exact mx (xV B z))
     .cases m<;>cases u<;>cases w<;>first|(exfalso;simp at hh;omega)|(exact mx (xV B z))
   .rw[Os (λh=>C h.1)];by_cases h:g.hold<=s.gr
    .cases m<;>cases u<;>cases w<;>(exact mx (xV B z))
    .cases m<;>cases u<;>cases w<;>first|(exfalso;simp at hh;omega)|(exact mx (xV B z))
def Me (g:Cf) (s:Sv) (l:List Cl) (f3:Int):(uR g s l f3).en=(fM g s l f3).en:=by unfold uR;split<;>rfl
def YX (g:Cf) (s:Sv) (l:List Cl) (f3:Int):(uR g s l f3).en.length=ln s.en:=by rw[Me];exact Rl g s l f3
theorem Bb (g:Cf) (s:Sv) (l:List Cl) (f3:Int):(fM g s l f3=s\/(s.ph≠ -1/\WE g s l=true/\fM g s l f3=qV s f3)):=by grind [fM,WE,qV]
theorem Le (g:Cf) (s:Sv) (l:List Cl) (f3:Int):(fM g s l f3).ph=s.ph/\(fM g s l f3).gr=s.gr\/(fM g s l f3).ph= -1/\(fM g s l f3).gr=0:=by
 rcases Bb g s l f3 with hd|⟨_,_,hd⟩
 .grind
 .exact .inr (by rw[hd];exact⟨rfl,rfl⟩)
theorem Mz (g:Cf) (s:Sv) (l:List Cl) (f3:Int) (n:Int) (hl:∀c∈l,0<=c.ph/\c.ph<n) (h: -1<=s.ph/\s.ph<n/\0<=s.gr/\s.gr<=60) (u:0<=n): -1<=(uR g s l f3).ph/\(uR g s l f3).ph<n/\0<=(uR g s l f3).gr/\(uR g s l f3).gr<=60:=by
 have h1:=Le g s l f3;have hb:=bM g (fM g s l f3) f3 l (ln l)
 grind [uR]
def Ol (g:Cf) (s:Sv) (l:List Cl) (f3:Int) (u:0<=f3) (h:∀e∈s.en,-1<=e/\e<=f3):∀e∈(uR g s l f3).en,-1<=e/\e<=f3:=by rw[Me];exact GD g s l f3 u h
def Lz (s:Sv) (b:Bool):(gL s b).en=s.en/\(gL s b).ph=s.ph:=by unfold gL;split<;>exact⟨rfl,rfl⟩
def Kz (s:Sv) (b:Bool) (h:0<=s.gr/\s.gr<=60):0<=(gL s b).gr/\(gL s b).gr<=60:=by unfold gL;split;(dsimp only;omega);exact h
theorem H6 (s:Sv) (b:Bool) (u:s.ph= -1->s.gr=0):(gL s b).ph= -1->(gL s b).gr=0:=by grind [gL]
theorem G6 (g:Cf) (s:Sv) (l:List Cl) (f3:Int) (u:s.ph= -1->s.gr=0):(uR g s l f3).ph= -1->(uR g s l f3).gr=0:=by grind [uR,Le]
structure EI (n:Nat) (d:Dk) (s:Sv) (f3:Int):Prop where
 len:s.en.length=n
 en:∀e∈s.en,-1<=e/\e<f3
 p0: -1<=s.ph
 p1:s.ph<n
 g0:0<=s.gr
 g1:s.gr<=60
 n0:1<=f3
 n1:f3+rem d<=301
 z:s.ph= -1->s.gr=0
theorem EI.next {n:Nat} {d:Dk} (H:EI n d s f3) (g:Cf) (c:List Cl) (u:∀x∈c,H9 n f3 x) (b:Bool) (A:Dk) (hd:rem A+1<=rem d):EI n A (gL (uR g s c f3) b) (f3+1):=by
 have C:=Mz g s c f3 n (λx hx=>⟨(u x hx).p0,(u x hx).p1⟩) ⟨H.p0,H.p1,H.g0,H.g1⟩ zB;have G:=Kz (uR g s c f3) b C.2.2;obtain⟨e1,E⟩:=Lz (uR g s c f3) b;have:=H.n0;have:=H.n1;have B:=Ol g s c f3 zB (λe B=>by have:=H.en e B;omega);refine⟨by rw[e1,YX];exact H.len,λe h=>?_,zB,zB,zB,zB,zB,zB,λh=>?_⟩
 case refine_2=>exact H6 _ b (G6 g s c f3 H.z) h
 grind
def Kx (s:Sg) (h1:ln s.c.li<=1073741824) (h2:ln s.c.nx<=1073741824):zN 108 [vE s] [] (vE s) []:=by
 have u:=JK s.c.li h1;have z:=JJ s.c.nx h2;refine eM call108 λF hF=>?_
 exact mx (xV u z)
def Jz (s:Sg) (v:Sv):Bool:=decide (0<=v.ph/\v.ph<ln s.c.li)&&((xS s.c v.ph.toNat).lamp==1)
def Ca (g:Cf) (j:Jn) (s:Sg) (v:Sv) (l:List Cl) (k f3:Int):Sg×Sv:=
 if s.lat=true then(s,qV v f3)
 else if(Ke j s (uR g v l f3).ph k).lat=true then(Ke j s (uR g v l f3).ph k,qV (uR g v l f3) f3)
 else(Ke j s (uR g v l f3).ph k,gL (uR g v l f3) (Jz (Ke j s (uR g v l f3).ph k) (uR g v l f3)))
def Nt (g:Cf) (j:Jn) (J:JV j) (s:Sg) (C:CV j s.c) (v:Sv) (l:List Cl) (k f3:Int) (H:Rr g v l f3) (I: -1000000<=(uR g v l f3).gr):zN 117 [wE g,wJ j,vE s,wW v,zE kE l,iA k,iA f3] [] (.tup [vE (Ca g j s v l k f3).1,wW (Ca g j s v l k f3).2]) []:=by
 have hJ:=J.n;have hn:=C.n;have hm:=C.m;have hb:Oe v:=⟨by have:=H.sl;omega⟩;have B:Oe (uR g v l f3):=⟨by rw[YX];have:=H.sl;omega⟩;have O:=Kx s zB zB;have R:=Ul v hb f3;have E:=Ql g v l f3 H;have G:=Kt j J s C (uR g v l f3).ph k;have S:=Ul (uR g v l f3) B f3;have L:=Pt (uR g v l f3) B (Jz (Ke j s (uR g v l f3).ph k) (uR g v l f3)) I;have X:=Ez J C (uR g v l f3).ph k;have V:=X.n;unfold Ca;generalize qV v f3=v0,uR g v l f3=z at *;generalize qV z f3=v2 at *;generalize Ke j s z.ph k=x at *;have u:Jz x z=(decide (0<=z.ph/\z.ph<ln x.c.li)&&((xS x.c z.ph.toNat).lamp==1)):=rfl;generalize Jz x z=b at *;generalize gL z b=v3 at *;clear H I X C hb B;obtain⟨sc,Y⟩:=s;obtain⟨A,xl⟩:=x;dsimp only at *;have U:=zA xE A.li
 cases Y with
 |true=>
  rw[f5 Z];refine eM call117 λF hF=>?_
  exact mx (xV O R)
 |false=>
 rw[Os zA7]
 cases xl with
 |true=>
  rw[f5 Z];refine eM call117 λF hF=>?_
  exact mx (qM E G S)
 |false=>
 rw[Os zA7];dsimp only;rw[show vE ⟨A,false⟩= .agg [zE xE A.li,iA A.gr,zE iA A.nx,iA A.wt,bA false]from Z]at *; by_cases h1:0<=z.ph
 case neg=>
  rw[zAs (λh=>h1 h.1),zBt]at u;subst u;refine eM call117 λF hF=>?_
  exact mx (qM E G L)
 by_cases h2:z.ph<ln A.li
 case neg=>
  rw[zAs (λh=>h2 h.2),zBt]at u;subst u;refine eM call117 λF hF=>?_
  exact mx (qM E G L)
 rw[zAu ⟨h1,h2⟩,zA3]at u;have W:=yE xE A.li z.ph h1 h2
 change (A.li.map xE)[z.ph.toNat]? =some (xE (xS A z.ph.toNat))at W
 generalize xS A z.ph.toNat=a at *;by_cases M:a.lamp=1
 .rw[show(a.lamp==1)=true by rw[zB8];exact M]at u;subst u;refine eM call117 λF hF=>?_
  exact mx (qM E G L)
 .rw[show(a.lamp==1)=false by rw[zBm];exact M]at u;subst u;refine eM call117 λF hF=>?_
  exact mx (qM E G L)
theorem Iz {j:Jn} (J:JV j) {s:Sg} (C:CV j s.c) (g:Cf) (v:Sv) (c:List Cl) (k f3:Int):CV j (Ca g j s v c k f3).1.c:=by grind [Ca,Ez]
def ph2:Ph:=⟨0,0,1,1,1,0,0,0⟩
def j2:Jn:=⟨[ph2],[0],0⟩
structure Ss where
 op:Bool
 dr:Bool
 bf:List Int
 gb:Bool
instance:Inhabited Ss:=⟨⟨false,false,[],false⟩⟩
def US (m n:Nat):Nat:=min n (256-m)
def Ab (s:Ss) (b:List Int):Ss:=if s.op=true then⟨true,s.dr||decide (US (ln s.bf) (ln b)≠b.length),s.bf++b.take (US (ln s.bf) (ln b)),s.gb⟩else s
theorem Mt {s:Ss} (h:ln s.bf<=256) (b:List Int):(Ab s b).bf.length<=256:=by grind [Ab,List.length_append,List.length_take,US]
def yc (l:List Vw) (hl:ln l<=1073741824):zN 173 [zE vR l] [] (.ref 1001 0 (l.map vR).length) [(1001,.arr 4 (l.map vR) false)]:=by
 have u:=zA vR l;refine eM call173 λF hF=>?_
 refine xH 0 Z (λcap hx=>?_) ?_
 .have:l=[]:=by simpa using hx
  subst this
  (repeat' (first|refine Zf ?_|apply yW|apply xI|intro hc|fail))
  refine qH 2 1001 4 Z Z Z (xL ?_);exact zP [1001] Z Z Z Z
 .repeat' (first|(apply zG;first|refine uL tok Z Z ?_|(apply wV;refine wM (xX tok (.inl ⟨rfl,rfl⟩) Z Z Z Z) Z ?_)|(apply yH;refine uU (nw:=[1001]) (yV tok 1001 (xs:=[]) Z Z Z Z Z Z Z Z Z) Z Z Z ?_)|(apply yC;refine vA tok Z Z Z Z Z Z Z (yM _ _ (λ_=>rfl)) Z Z Z zB Z ?_)|apply kP)|(first|apply xY|apply xR|refine vZ Z ?_|refine yR Z ?_|refine yD Z ?_|refine xZ Z (λhc=>?_) λhc=>?_|apply xJ|apply xL|apply xQ|apply xC))
  exact zP [1001] Z Z Z Z
def Yh (l:List Vw) (L:ln l<=1000) (hb:∀v∈l,ln v.co<=1000/\v.cn.length<=1000):zN 112 [zE vR l] [] (zE vR l) []:=by
 have c:=yc l zB;have G:=zA vR l;refine eM call112 λF hF=>?_
 refine zS c ?_;refine zO ((l.map vR).length) [1001] [] [0,7] [8,0,7] Z (λi T U=>⟨(8,iA i)::T,(1001,.arr 4 (dR i (l.map vR)) false)::U⟩) (Lq ?_ ?_)
 .intro i hi;have hi':i<ln l:=by omega
  have z:(dR i (l.map vR))[i]? =some (vR (l.getD i dd)):=zJ vR l i hi';have e:=cB vR l i hi';have E:=hb (l.getD i dd) QK;have A:=TC (l.getD i dd).co zB;have B:=TC (l.getD i dd).cn zB;generalize (l.getD i dd)=t,dR i (l.map vR)=xs,dR (i+1) (l.map vR)=ys at *;have u:=YJ z;have I:(xs.set i (.agg [bA t.fl,bA t.ov,zE iA t.co,zE iA t.cn]))[i]? =some (vR t):=by rw[show AV.agg [bA t.fl,bA t.ov,zE iA t.co,zE iA t.cn]=vR t from Z,u];exact z
  have C:(xs.set i (.agg [bA t.fl,bA t.ov,zE iA t.co,zE iA t.cn])).set i (.agg [bA t.fl,bA t.ov,zE iA t.co,zE iA t.cn])=ys:=by rw[zE2];exact e
  clear e u;subst C;refine yG (xV A B) ?_;rfl
 ·(refine WW ?_)
  exact zH [] Z Z (zBb (AV.sl false) zAt) Z
def dB (s:Ss):AV:= .agg [bA s.op,bA s.dr,zE yA s.bf,bA s.gb]
structure Ev where
 k:Int
 s:Int
 a:Int
 b:Int
 y:List Int
instance:Inhabited Ev:=⟨⟨0,0,0,0,[]⟩⟩
def jZ (e:Ev):AV:= .agg [iA e.k,iA e.s,iA e.a,iA e.b,zE yA e.y]
