/- Part 22. -/
import Derived.Test.YtdjfiebpnmieoaaGreatC21
import Derived.Test.YtdjfiebpnmieoaaGreatC17
namespace Go.Proofs.YtdjfiebpnmieoaaGreat.Av
open Tryz
set_option linter.all false
set_option maxRecDepth 4000
set_option maxHeartbeats 2000000
open List renaming length->ln,replicate->nm
open Inhabited renaming default->dd
variable {g:Cf}{f4:Int}{l:List Cl}{s:Sv}{α:Type}
def PL (u cap:Int) (z:List Int) (f4:Int) (x:Cl):Int:=if bV x.k then x.k else RP u cap z f4 x.ph x.k x.si
def fV (u cap:Int) (z:List Int) (f4:Int) (x y:Cl):Bool:=
 if bV x.k≠bV y.k then bV x.k
 else if PL u cap z f4 x≠PL u cap z f4 y then decide (PL u cap z f4 y<PL u cap z f4 x)
 else if gS z x.ph x.si≠gS z y.ph y.si then decide (gS z x.ph x.si<gS z y.ph y.si)
 else if x.ag≠y.ag then decide (x.ag<y.ag)else decide (x.id<y.id)
theorem Xz (g:Cf) (s:Sv) (x y:Cl) (f4:Int) (L:Zj g.per f4 s.en x) (M:Zj g.per f4 s.en y):zO 269 [wO g,xY s,iA f4,kS x,kS y] [] (bA (fV g.per g.cap s.en f4 x y)) []:=by
 have u:=jU x;have z:=jU y;have B:=Sf g s x f4 L;have C:=Sf g s y f4 M;have E:=RO s x;have G:=RO s y
 cases hx:bV x.k<;>cases A:bV y.k<;>rw[hx]at u<;>rw[A]at z
 .by_cases h1:RP g.per g.cap s.en f4 x.ph x.k x.si=RP g.per g.cap s.en f4 y.ph y.k y.si
  .by_cases h2:gS s.en x.ph x.si=gS s.en y.ph y.si
   .by_cases I:x.ag=y.ag
    all_goals
     (refine eM call269 λF hF=>?_)
     (have gd:=u;have gn:=z;have gt:=B;have gv:=C;have ka:=E;have kz:=G;refine WG ?_;clear gd gn gt gv ka kz)
     refine zH [] Z Z (zAv bA ?_) Z;simp[fV,PL,hx,A,h1,h2,I,uE]
   ·(refine eM call269 λF hF=>?_)
    (have gd:=u;have gn:=z;have gt:=B;have gv:=C;have ka:=E;have kz:=G;refine WG ?_;clear gd gn gt gv ka kz)
    refine zH [] Z Z (zAv bA ?_) Z;simp[fV,PL,hx,A,h1,h2,uE]
  ·(refine eM call269 λF hF=>?_)
   (have gd:=u;have gn:=z;have gt:=B;have gv:=C;have ka:=E;have kz:=G;refine WG ?_;clear gd gn gt gv ka kz)
   refine zH [] Z Z (zAv bA ?_) Z;simp[fV,PL,hx,A,h1,uE]
 ·(refine eM call269 λF hF=>?_)
  (have gd:=u;have gn:=z;have gt:=B;have gv:=C;have ka:=E;have kz:=G;refine WG ?_;clear gd gn gt gv ka kz)
  refine zH [] Z Z (zAv bA ?_) Z;simp[fV,hx,A]
 ·(refine eM call269 λF hF=>?_)
  (have gd:=u;have gn:=z;have gt:=B;have gv:=C;have ka:=E;have kz:=G;refine WG ?_;clear gd gn gt gv ka kz)
  refine zH [] Z Z (zAv bA ?_) Z;simp[fV,hx,A]
 .by_cases h1:x.k=y.k
  .by_cases h2:gS s.en x.ph x.si=gS s.en y.ph y.si
   .by_cases I:x.ag=y.ag
    all_goals
     (refine eM call269 λF hF=>?_)
     (have gd:=u;have gn:=z;have gt:=B;have gv:=C;have ka:=E;have kz:=G;refine WG ?_;clear gd gn gt gv ka kz)
     refine zH [] Z Z (zAv bA ?_) Z;simp[fV,PL,hx,A,h1,h2,I,uE]
   ·(refine eM call269 λF hF=>?_)
    (have gd:=u;have gn:=z;have gt:=B;have gv:=C;have ka:=E;have kz:=G;refine WG ?_;clear gd gn gt gv ka kz)
    refine zH [] Z Z (zAv bA ?_) Z;simp[fV,PL,hx,A,h1,h2,uE]
  ·(refine eM call269 λF hF=>?_)
   (have gd:=u;have gn:=z;have gt:=B;have gv:=C;have ka:=E;have kz:=G;refine WG ?_;clear gd gn gt gv ka kz)
   refine zH [] Z Z (zAv bA ?_) Z;simp[fV,PL,hx,A,h1,uE]
def qY (g:Cf) (s:Sv) (f4:Int) (xs:List Cl):Nat->Int
 |0=> -1
 |i+1=>if AB g.lock s.en f4 (xs.getD i dd).ph (xs.getD i dd).k then qY g s f4 xs i
  else if qY g s f4 xs i<0 then i
  else if fV g.per g.cap s.en f4 (xs.getD i dd) (xs.getD (qY g s f4 xs i).toNat dd)then i else qY g s f4 xs i
theorem aV (g:Cf) (s:Sv) (f4:Int) (xs:List Cl):∀i,-1<=qY g s f4 xs i/\qY g s f4 xs i<i\/qY g s f4 xs i= -1
 |0=> .inr Z
 | i+1=>by
  have:=aV g s f4 xs i;unfold qY;split
  .omega
  .split
   .omega
   .split<;>omega
def LQ (g:Cf) (s:Sv) (f4:Int) (xs:List Cl) (i:Nat):qY g s f4 xs (i+1)=if AB g.lock s.en f4 (xs.getD i dd).ph (xs.getD i dd).k=true then qY g s f4 xs i
 else if qY g s f4 xs i<0 then(i:Int)
 else if fV g.per g.cap s.en f4 (xs.getD i dd) (xs.getD (qY g s f4 xs i).toNat dd)=true then(i:Int)else qY g s f4 xs i:=rfl
def Wz (g:Cf) (s:Sv) (f4:Int) (xs:List Cl) (G:ln xs<=1099511627776) (I:∀i,i<ln xs->Zj g.per f4 s.en (xs.getD i dd)):zO 222 [wO g,xY s,iA f4,zD kS xs] [] (iA (qY g s f4 xs (ln xs))) []:=by
 have hl:(xs.map kS).length=ln xs:=by simp
 refine eM call222 λF hF=>?_
 refine WO ?_
 refine wF (λn st=>∃i:Nat,n+i=ln xs/\st=⟨[(2,iA f4),(3,zD kS xs),(4,.ptr 4 0 0),(5,.ptr 5 0 0),(9,iA (qY g s f4 xs i)),(12,zD kS xs),(13,iA (ln xs)),(14,iA i)],[(4,.box [zD wD g.js,zD vX g.ags,iA g.per,iA g.cap,iA g.hold,iA g.lock]),(5,.box [iA s.ph,iA s.gr,zD iA s.en])]⟩)
  (ln xs) [4,5] [2,3,4,5,9,12,13,14] Z ⟨0,rfl,by rw[<-hl];rfl⟩ ?_
 rintro n st ⟨i,hi,rfl⟩;by_cases B:i<ln xs
 .have M:=yF kS xs i zB zB;have A:=I i B;have hb:=aV g s f4 xs i;have u:=LQ g s f4 xs i;have z:=Gl g s (xs.getD i dd) f4 A;rw[show((i:Int)).toNat=i from Z]at M
  cases hL:AB g.lock s.en f4 (xs.getD i dd).ph (xs.getD i dd).k<;>rw[hL]at z u
  .rw[Of zW]at u;by_cases E:qY g s f4 xs i<0
   .rw[Os E]at u
    (have gd:=z;refine WG ?_;clear gd)
    exact⟨n-1,zB,i+1,zB,by rw[u];rfl⟩
   .rw[Of E]at u;have O:=yF kS xs (qY g s f4 xs i) zB zB;have C:=Xz g s (xs.getD i dd) (xs.getD (qY g s f4 xs i).toNat dd) f4 A (I _ zB)
    cases L:fV g.per g.cap s.en f4 (xs.getD i dd) (xs.getD (qY g s f4 xs i).toNat dd)<;>rw[L]at C u
    .rw[Of zW]at u
     (have gd:=z;have gn:=C;refine WG ?_;clear gd gn)
     exact⟨n-1,zB,i+1,zB,by rw[u];rfl⟩
    .rw[Os Z]at u
     (have gd:=z;have gn:=C;refine WG ?_;clear gd gn)
     exact⟨n-1,zB,i+1,zB,by rw[u];rfl⟩
  .rw[Os Z]at u
   (have gd:=z;refine WG ?_;clear gd)
   exact⟨n-1,zB,i+1,zB,by rw[u];rfl⟩
 .obtain rfl:i=ln xs:=by omega
  exact mt
def aW (s:Sv) (p:Int):zO 337 [xY s,iA p] [] (iA (bX s.en p)) []:=by
 have hl:(s.en.map iA).length=ln s.en:=by simp
 by_cases h1:p<0
 .rw[show bX s.en p= -1 by simp[bX,h1]];refine eM call337 λF hF=>?_
  exact mt
 .by_cases h2:(ln s.en:Int)<=p
  .rw[show bX s.en p= -1 by simp[bX,h2]];refine eM call337 λF hF=>?_
   exact mt
  .rw[show bX s.en p=s.en.getD p.toNat 0 by unfold bX;rw[Of zB]];have u:=yF iA s.en p zB zB;refine eM call337 λF hF=>?_
   exact mt
def fW (c:Cl):zO 241 [kS c] [] (bA (bV c.k)) []:=by
 unfold bV;by_cases h:c.k=2
 .rw[show(c.k==2||c.k==3)=true by simp[h]];refine eM call241 λF hF=>?_
  exact mt
 .rw[show(c.k==2||c.k==3)=(c.k==3) by simp[h]];refine eM call241 λF hF=>?_
  exact mt
def LR (s:Sv) (c:Cl):zO 376 [xY s,kS c] [] (iA (gS s.en c.ph c.si)) []:=by
 refine eM call376 λF hF=>?_
 (repeat' (first|refine XC ?_|refine yZ (λhc=>?_) λhc=>?_|(apply zG;apply xO;(refine vG 337 ?_;first|refine yE (zL (aW s _) Z Z Z Z Z) Z ?_|refine qB (zL (aW s _) Z Z Z Z Z) Z Z Z ?_|refine ZR (zL (aW s _) Z Z Z Z Z) Z Z Z ?_))|fail))
 exact zI
def BU (g:Cf) (s:Sv) (c:Cl) (f4:Int) (z:Zj g.per f4 s.en c) (hs:gS s.en c.ph c.si<=f4):zO 377 [wO g,xY s,kS c,iA f4] [] (iA (RP g.per g.cap s.en f4 c.ph c.k c.si)) []:=by
 obtain⟨p,B,C,E,G,I,L,_,_⟩:=z
 have u:RP g.per g.cap s.en f4 c.ph c.k c.si=min g.cap (c.k+(f4-gS s.en c.ph c.si).tdiv (max 1 g.per)):=by
  unfold RP;rw[show max 1 g.per=g.per by omega,zCe zB]
 have hb:=Tf (f4-gS s.en c.ph c.si) (max 1 g.per) zB zB zB;have A:UJ .i64 ((f4-gS s.en c.ph c.si).tdiv (max 1 g.per)):=⟨zB,zB⟩;rw[u];refine eM call377 λF hF=>?_
 (have gd:=LR s c;refine WG ?_;clear gd)
 exact zI
def Ih (g:Cf) (s:Sv) (c:Cl) (f4:Int) (u:Zj g.per f4 s.en c):zO 289 [wO g,xY s,kS c,iA f4] [] (bA (AB g.lock s.en f4 c.ph c.k)) []:=by
 obtain⟨p,A,B,C,E,G,I,z,e1⟩:=u;unfold AB;refine eM call289 λF hF=>?_
 (repeat' (first|refine XC ?_|refine yZ (λhc=>?_) λhc=>?_|(apply zG;apply xO;(first|(refine vG 337 ?_;first|refine yE (zL (aW s _) Z Z Z Z Z) Z ?_|refine qB (zL (aW s _) Z Z Z Z Z) Z Z Z ?_|refine ZR (zL (aW s _) Z Z Z Z Z) Z Z Z ?_)|(refine vG 241 ?_;first|refine yE (zL (fW c) Z Z Z Z Z) Z ?_|refine qB (zL (fW c) Z Z Z Z Z) Z Z Z ?_|refine ZR (zL (fW c) Z Z Z Z Z) Z Z Z ?_)))|fail))
 all_goals refine zH [] Z Z (zAv bA ?_) Z
 all_goals simp_all [uE]
structure Z8 where
 x0:Int
 x1:Int
 x2:Int
 x3:Int
 x4:Int
def B9 (k:Z8):AV:= .agg [iA k.x0,iA k.x1,iA k.x2,iA k.x3,iA k.x4]
def LS (z cap:Int) (u:List Int) (f4:Int) (c:Cl):Z8:=if bV c.k=true then⟨0,-c.k,gS u c.ph c.si,c.ag,c.id⟩else⟨1,-RP z cap u f4 c.ph c.k c.si,gS u c.ph c.si,c.ag,c.id⟩
def Zx (g:Cf) (s:Sv) (c:Cl) (f4:Int) (u:Zj g.per f4 s.en c) (hs:gS s.en c.ph c.si<=f4) (hc: -1000000<=g.cap/\g.cap<=1000000):zO 338 [wO g,xY s,iA f4,kS c] [] (B9 (LS g.per g.cap s.en f4 c)) []:=by
 have z:=fW c
 have B:RP g.per g.cap s.en f4 c.ph c.k c.si<=1000000/\ -1000000<=RP g.per g.cap s.en f4 c.ph c.k c.si:=by
  unfold RP;have:=Int.ediv_nonneg (show 0<=f4-gS s.en c.ph c.si by omega) (show 0<=g.per by have:=u.p;omega);have:=u.k0;omega
 have C:=u.k0;have E:=u.k1
 cases A:bV c.k<;>rw[A]at z
 .rw[show LS g.per g.cap s.en f4 c=⟨1,-RP g.per g.cap s.en f4 c.ph c.k c.si,gS s.en c.ph c.si,c.ag,c.id⟩ by simp[LS,A]];refine eM call338 λF hF=>?_
  (have gd:=z;have gn:=LR s c;have gt:=BU g s c f4 u hs;refine WG ?_;clear gd gn gt)
  exact zI
 .rw[show LS g.per g.cap s.en f4 c=⟨0,-c.k,gS s.en c.ph c.si,c.ag,c.id⟩ by simp[LS,A]];refine eM call338 λF hF=>?_
  (have gd:=z;have gn:=LR s c;have gt:=BU g s c f4 u hs;refine WG ?_;clear gd gn gt)
  exact zI
def FQ (x y:Z8):Bool:=if x.x0≠y.x0 then decide (x.x0<y.x0)else if x.x1≠y.x1 then decide (x.x1<y.x1)else if x.x2≠y.x2 then decide (x.x2<y.x2)else if x.x3≠y.x3 then decide (x.x3<y.x3)else if x.x4≠y.x4 then decide (x.x4<y.x4)else false
def Ul (u cap:Int) (z:List Int) (f4:Int) (x y:Cl):FQ (LS u cap z f4 x) (LS u cap z f4 y)=fV u cap z f4 x y:=by
 have neg:∀a b:Int,decide (-a< -b)=decide (b<a):=λa b=>by
  grind
 have A:∀a b:Int,(-a≠ -b)=(a≠b):=λa b=>propext zB
 unfold FQ fV LS PL;generalize RP u cap z f4 x.ph x.k x.si=B
 grind [FQ,LS,fV,RP,gS,bV]
def Zt (g:Cf) (s:Sv) (x y:Cl) (f4:Int) (E:Zj g.per f4 s.en x) (G:Zj g.per f4 s.en y) (hx:gS s.en x.ph x.si<=f4) (L:gS s.en y.ph y.si<=f4) (hc: -1000000<=g.cap/\g.cap<=1000000):zO 290 [wO g,xY s,iA f4,kS x,kS y] [] (bA (fV g.per g.cap s.en f4 x y)) []:=by
 have A:=Zx g s x f4 E hx hc;have B:=Zx g s y f4 G L hc;rw[<-Ul];generalize LS g.per g.cap s.en f4 x=p,LS g.per g.cap s.en f4 y=q at *;clear hc hx L E G;refine eM call290 λF hF=>?_
 (have gd:=A;have gn:=B;refine WG ?_;clear gd gn)
 refine wF (λn st=>∃i:Nat,n+i=5/\(0<i->p.x0=q.x0)/\(1<i->p.x1=q.x1)/\(2<i->p.x2=q.x2)/\(3<i->p.x3=q.x3)/\(4<i->p.x4=q.x4)/\
  st=⟨[(11,.ptr 11 0 0),(12,.ptr 12 0 0),(24,iA i)],[(11,.box [iA p.x0,iA p.x1,iA p.x2,iA p.x3,iA p.x4]),(12,.box [iA q.x0,iA q.x1,iA q.x2,iA q.x3,iA q.x4])]⟩)
  5 [11,12] [11,12,24] Z ⟨0,rfl,zB,zB,zB,zB,zB,rfl⟩ ?_
 rintro n st ⟨i,hi,a0,a1,a2,a3,a4,rfl⟩
 obtain rfl|rfl|rfl|rfl|rfl|rfl:i=0\/i=1\/i=2\/i=3\/i=4\/i=5:=by omega
 .clear A B;by_cases h:p.x0=q.x0
  ·(refine WO ?_)
   exact⟨n-1,zB,1,zB,λ_=>h,zB,zB,zB,zB,rfl⟩
  ·(refine WO ?_)
   refine zH [] Z Z (zAv bA ?_) Z;simp[FQ,h,uE]
 .clear A B;have u:=a0 zB;by_cases h:p.x1=q.x1
  ·(refine WO ?_)
   exact⟨n-1,zB,2,zB,λ_=>u,λ_=>h,zB,zB,zB,rfl⟩
  ·(refine WO ?_)
   refine zH [] Z Z (zAv bA ?_) Z;simp[FQ,u,h,uE]
 .clear A B;have u:=a0 zB;have z:=a1 zB;by_cases h:p.x2=q.x2
  ·(refine WO ?_)
   exact⟨n-1,zB,3,zB,λ_=>u,λ_=>z,λ_=>h,zB,zB,rfl⟩
  ·(refine WO ?_)
   refine zH [] Z Z (zAv bA ?_) Z;simp[FQ,u,z,h,uE]
 .clear A B;have u:=a0 zB;have z:=a1 zB;have C:=a2 zB;by_cases h:p.x3=q.x3
  ·(refine WO ?_)
   exact⟨n-1,zB,4,zB,λ_=>u,λ_=>z,λ_=>C,λ_=>h,zB,rfl⟩
  ·(refine WO ?_)
   refine zH [] Z Z (zAv bA ?_) Z;simp[FQ,u,z,C,h,uE]
 .clear A B;have u:=a0 zB;have z:=a1 zB;have C:=a2 zB;have I:=a3 zB;by_cases h:p.x4=q.x4
  ·(refine WO ?_)
   exact⟨n-1,zB,5,zB,λ_=>u,λ_=>z,λ_=>C,λ_=>I,λ_=>h,rfl⟩
  ·(refine WO ?_)
   refine zH [] Z Z (zAv bA ?_) Z;simp[FQ,u,z,C,I,h,uE]
 .clear A B;refine WO ?_;refine zH [] Z Z (zAv bA ?_) Z;simp[FQ,a0,a1,a2,a3,a4]
def Yt (g:Cf) (s:Sv) (f4:Int) (xs:List Cl) (I:ln xs<=1099511627776) (L:∀i,i<ln xs->Zj g.per f4 s.en (xs.getD i dd)) (hs:∀i,i<ln xs->gS s.en (xs.getD i dd).ph (xs.getD i dd).si<=f4) (hc: -1000000<=g.cap/\g.cap<=1000000):
  zO 242 [wO g,xY s,iA f4,zD kS xs] [] (iA (qY g s f4 xs (ln xs))) []:=by
 have hl:(xs.map kS).length=ln xs:=by simp
 refine eM call242 λF hF=>?_
 refine WO ?_
 refine wF (λn st=>∃i:Nat,n+i=ln xs/\st=⟨[(2,iA f4),(3,zD kS xs),(4,.ptr 4 0 0),(5,.ptr 5 0 0),(9,iA (qY g s f4 xs i)),(12,zD kS xs),(13,iA (ln xs)),(14,iA i)],[(4,.box [zD wD g.js,zD vX g.ags,iA g.per,iA g.cap,iA g.hold,iA g.lock]),(5,.box [iA s.ph,iA s.gr,zD iA s.en])]⟩)
  (ln xs) [4,5] [2,3,4,5,9,12,13,14] Z ⟨0,rfl,by rw[<-hl];rfl⟩ ?_
 rintro n st ⟨i,hi,rfl⟩;by_cases A:i<ln xs
 .have O:=yF kS xs i zB zB;have B:=L i A;have C:=hs i A;have hb:=aV g s f4 xs i;have u:=LQ g s f4 xs i;have z:=Ih g s (xs.getD i dd) f4 B;rw[show((i:Int)).toNat=i from Z]at O
  cases hL:AB g.lock s.en f4 (xs.getD i dd).ph (xs.getD i dd).k<;>rw[hL]at z u
  .rw[Of zW]at u;by_cases G:qY g s f4 xs i<0
   .rw[Os G]at u
    (have gd:=z;refine WG ?_;clear gd)
    exact⟨n-1,zB,i+1,zB,by rw[u];rfl⟩
   .rw[Of G]at u;have R:=yF kS xs (qY g s f4 xs i) zB zB;have E:=Zt g s (xs.getD i dd) (xs.getD (qY g s f4 xs i).toNat dd) f4 B (L _ zB) C (hs _ zB) hc
    cases M:fV g.per g.cap s.en f4 (xs.getD i dd) (xs.getD (qY g s f4 xs i).toNat dd)<;>rw[M]at E u
    .rw[Of zW]at u
     (have gd:=z;have gn:=E;refine WG ?_;clear gd gn)
     exact⟨n-1,zB,i+1,zB,by rw[u];rfl⟩
    .rw[Os Z]at u
     (have gd:=z;have gn:=E;refine WG ?_;clear gd gn)
     exact⟨n-1,zB,i+1,zB,by rw[u];rfl⟩
  .rw[Os Z]at u
   (have gd:=z;have gn:=z;refine WG ?_;clear gd gn)
   exact⟨n-1,zB,i+1,zB,by rw[u];rfl⟩
 .obtain rfl:i=ln xs:=by omega
  exact mt
theorem aX (P:α->Prop) (d:α):∀(l:List α) (i:Nat),(∀x∈l,P x)->i<ln l->P (l.getD i d)
 |l,i,h,hi=>by simp only[zAl,zA4 hi,zC1];exact h _ (zD9 hi)
def FR (u:List Int) (f4 z:Int) (h:0<=f4) (A:∀e∈u,-1<=e/\e<=f4): -1<=bX u z/\bX u z<=f4:=by
 unfold bX;split
 .omega
 .exact aX (λe=> -1<=e/\e<=f4) 0 u z.toNat A zB
structure Y8 (ph f4:Int) (c:Cl):Prop where
 k0:0<=c.k
 k1:c.k<=3
 s0:0<=c.si
 s1:c.si<=f4
 a0:0<=c.ag
 a1:c.ag<=2
 i0:0<=c.id
 i1:c.id<=3
 p0:0<=c.ph
 p1:c.ph<ph
structure Yx (g:Cf) (s:Sv) (l:List Cl) (f4:Int):Prop where
 p0:1<=g.per
 p1:g.per<=5
 c0:0<=g.cap
 c1:g.cap<=5
 h0:1<=g.hold
 h1:g.hold<=4
 l0:0<=g.lock
 l1:g.lock<=6
 len:l.length<=5
 n0:1<=s.en.length
 n1:s.en.length<=8
 en:∀e∈s.en,-1<=e/\e<=f4
 cl:∀c∈l,Y8 s.en.length f4 c
theorem Yx.sta (H:Yx g s l f4) (u:0<=f4):∀i,i<ln l->gS s.en (l.getD i dd).ph (l.getD i dd).si<=f4:=λi hi=>by
 obtain⟨a0,z,A,B,C,E,G,I,L,M⟩:=aX (Y8 (ln s.en) f4) dd l i H.cl hi;have O:=FR s.en f4 (l.getD i dd).ph u H.en;unfold gS;omega
def FS (f:α->AV) (l:List α):AV.sl false ((l.map f).take (l.map f).length)=zD f l:=by rw[zAb];rfl
def Oc (l:List Int) (hl:ln l<=1073741824):zO 103 [zD iA l] [] (.ref 1001 0 (l.map iA).length) [(1001,.arr 1 (l.map iA) false)]:=by
 have u:=zA iA l;refine eM call103 λF hF=>?_
 refine xI 0 Z (λcap hx=>?_) ?_
 .have:l=[]:=by simpa using hx
  subst this
  (repeat' (first|refine Md ?_|apply yZ|apply xM|intro hc|fail))
  refine qK 2 1001 1 Z Z Z (xG ?_);exact zP [1001] Z Z Z Z
 .repeat' (first|(apply zG;first|refine wX tok Z Z ?_|(apply xZ;refine yE (yU tok (.inl ⟨rfl,rfl⟩) Z Z Z Z) Z ?_)|(apply yR;refine qB (nw:=[1001]) (yT tok 1001 (xs:=[]) Z Z Z Z Z Z Z Z Z) Z Z Z ?_)|(apply yG;refine xW tok Z Z Z Z Z Z Z (zZ _ _ (λ_=>rfl)) Z Z Z zB Z ?_)|apply uT)|(first|apply xK|apply xF|refine vQ Z ?_|refine yM Z ?_|refine yB Z ?_|refine xU Z (λhc=>?_) λhc=>?_|apply xB|apply xG|apply xJ|apply xE))
  exact zP [1001] Z Z Z Z
def Hh (l:List Int) (hl:ln l<=1073741824):zO 103 [zD iA l] [] (zD iA l) []:=by
 have u:=zA iA l;refine eM call103 λF hF=>?_
 refine xI 0 Z (λcap hx=>?_) ?_
 .have:l=[]:=by simpa using hx
  subst this;exact lc
 ·(refine WW ?_)
  refine zH [] Z Z (FS _ _) Z
structure Zf (s:Sv):Prop where
 n:s.en.length<=100000
def Gh (s:Sv) (h:Zf s):zO 102 [xY s] [] (.agg [iA s.ph,iA s.gr,.ref 1001 0 (s.en.map iA).length]) [(1001,.arr 1 (s.en.map iA) false)]:=by
 have c:=Oc s.en (by have:=h.n;omega);refine eM call102 λF hF=>?_
 refine zQ c ?_;exact zP [1001] Z Z Z Z
def RN (s:Sv) (h:Zf s):zO 102 [xY s] [] (xY s) []:=by
 have c:=Hh s.en (by have:=h.n;omega);refine eM call102 λF hF=>?_
 exact lk c
def LT (s:Sv) (h:Zf s):zO 107 [xY s] [] (xY s) []:=by
 have:=h.n;have hl:=zA iA s.en;refine eM call107 λF hF=>?_
 exact lp
def Nc (s:Sv) (h:Zf s):zO 107 [xY s] [] (.agg [iA s.ph,iA s.gr,.ref 1001 0 (s.en.map iA).length]) [(1001,.arr 1 (s.en.map iA) false)]:=by
 have:=h.n;have hl:=zA iA s.en;refine eM call107 λF hF=>?_
 (repeat' (first|refine uD ?_|apply yZ|apply xM|intro hc|(apply zG;first|(apply yG;refine wA 1001 tok Z Z Z Z Z Z (zZ _ _ (λ_=>rfl)) Z Z Z zB Z Z Z ?_))|fail))
 exact zP [1001] Z Z Z Z
def fS (s:Sv) (u:Bool):Sv:=if u=true/\s.ph≠ -1 then⟨s.ph,min s.gr 59+1,s.en⟩else s
def Xt (s:Sv) (h:Zf s) (b:Bool) (u: -1000000<=s.gr):zO 183 [xY s,bA b] [] (xY (fS s b)) []:=by
 have c:=RN s h;by_cases h1:b=true
 .subst h1;by_cases h2:s.ph= -1
  .rw[show fS s true=s by simp[fS,h2]];refine eM call183 λF hF=>?_
   exact lk c
  .rw[show fS s true=⟨s.ph,min s.gr 59+1,s.en⟩ by simp[fS,h2]];refine eM call183 λF hF=>?_
   exact lk c
 .obtain rfl:b=false:=by simpa using h1
  rw[show fS s false=s by simp[fS]];refine eM call183 λF hF=>?_
  exact lk c
def Tl (s:Sv) (h:Zf s) (b:Bool) (u: -1000000<=s.gr/\s.gr<=1000000):zO 204 [xY s,bA b] [] (xY (fS s b)) []:=by
 have c:=LT s h;by_cases h1:b=true
 .subst h1;by_cases h2:s.ph= -1
  .rw[show fS s true=s by simp[fS,h2]];refine eM call204 λF hF=>?_
   exact lk c
  .rw[show fS s true=⟨s.ph,min (s.gr+1) 60,s.en⟩ by simp[fS,h2];omega];refine eM call204 λF hF=>?_
   exact lk c
 .obtain rfl:b=false:=by simpa using h1
  rw[show fS s false=s by simp[fS]];refine eM call204 λF hF=>?_
  exact lk c
def kO (s:Sv) (f4:Int):Sv:=⟨-1,0,if 0<s.gr/\0<=s.ph/\s.ph<ln s.en then s.en.set s.ph.toNat f4 else s.en⟩
def BV (f:α->AV) (l:List α) (i:Nat) (x:α) (n:Nat) (u:n=ln l):AV.sl false (((l.map f).set i (f x)).take n)=zD f (l.set i x):=by grind [zD,List.map_set,List.take_of_length_le]
def Sl (s:Sv) (h:Zf s) (f4:Int):zO 180 [xY s,iA f4] [] (xY (kO s f4)) []:=by
 have c:=Gh s h;have hl:=zA iA s.en;by_cases h1:0<s.gr/\0<=s.ph/\s.ph<ln s.en
 .obtain⟨h2,u,z⟩:=h1;have A:=yF iA s.en s.ph u z;rw[show kO s f4=⟨-1,0,s.en.set s.ph.toNat f4⟩ by simp[kO,h2,u,z]];refine eM call180 λF hF=>?_
  refine zQ c ?_;refine zH [] Z Z (zAv (λx=>AV.agg [iA (-1),iA 0,x]) (BV iA s.en s.ph.toNat f4 _ hl)) Z
 .rw[show kO s f4=⟨-1,0,s.en⟩ by unfold kO;rw[Of h1]];refine eM call180 λF hF=>?_
  (have gd:=c;(repeat' (first|refine uD ?_|apply yZ|apply xM|intro hc|(apply zG;first|refine SM ?_)|fail))<;>clear gd)
  all_goals (try omega)
  all_goals refine zH [] Z Z (zAv (λx=>AV.agg [iA (-1),iA 0,x]) (FS iA s.en)) Z
def Mc (s:Sv) (h:Zf s) (f4:Int):zO 201 [xY s,iA f4] [] (xY (kO s f4)) []:=by
 have c:=Nc s h;have hl:=zA iA s.en;by_cases h1:0<s.gr/\0<=s.ph/\s.ph<ln s.en
 .obtain⟨h2,u,z⟩:=h1;have A:=yF iA s.en s.ph u z;rw[show kO s f4=⟨-1,0,s.en.set s.ph.toNat f4⟩ by simp[kO,h2,u,z]];refine eM call201 λF hF=>?_
  refine zQ c ?_;refine zH [] Z Z (zAv (λx=>AV.agg [iA (-1),iA 0,x]) (BV iA s.en s.ph.toNat f4 _ hl)) Z
 .rw[show kO s f4=⟨-1,0,s.en⟩ by unfold kO;rw[Of h1]];refine eM call201 λF hF=>?_
  (have gd:=c;(repeat' (first|refine uD ?_|apply yZ|apply xM|intro hc|(apply zG;first|refine SM ?_)|fail))<;>clear gd)
  all_goals (try omega)
  all_goals refine zH [] Z Z (zAv (λx=>AV.agg [iA (-1),iA 0,x]) (FS iA s.en)) Z
def BW (n:Nat):Sv:=⟨-1,0,nm n (-1)⟩
def Wt (n i:Nat) (h:i<n):((List.replicate i (-1:Int)++List.replicate (n-i) 0).map iA).set i (iA (-1))=(List.replicate (i+1) (-1:Int)++List.replicate (n-(i+1)) 0).map iA:=by
 rw[<-zBs,show n-i=(n-(i+1))+1 by omega,zD3,zDe _ _ zW,zB6,zCl,zEb,zD7,zA0];rfl
def Vz (n:Nat) (h:n<=100000):zO 35 [iA n] [] (xY (BW n)) []:=by
 by_cases z:n=0
 .subst z;refine eM call35 λF hF=>?_
  refine WW ?_;refine zN (0) [2,3] [2,3] [2,3,17] [18,2,3,17] Z (λi T U=>⟨(18,iA i)::T,U⟩) (Lq ?_ ?_)
  .intro i hi;omega
  .exact lc
 .have u:nm n (AV.s (.int .i64 0))=(nm 0 (-1:Int)++nm (n-0) 0).map iA:=by simp[iA]
  refine eM call35 λF hF=>?_
  refine WW ?_;refine zN (n) [13,2,3] [2,3] [2,3,17] [18,2,3,17] Z (λi T U=>⟨(18,iA i)::T,(13,.arr 1 ((nm i (-1:Int)++nm (n-i) 0).map iA) false)::U⟩) ?_;(conv=>whnf);refine⟨by(rw[<-u];rfl),?_,?_⟩
  .intro i hi;have A:((nm i (-1:Int)++nm (n-i) 0).map iA)[i]? =some (iA 0):=by simp[show 0<n-i by omega]
   have e:=Wt n i hi;generalize (nm i (-1:Int)++nm (n-i) 0).map iA=xs,(nm (i+1) (-1:Int)++nm (n-(i+1)) 0).map iA=ys at *;subst e;refine WW ?_;rfl
  .rw[show n-n=0 by omega,zE6,zA2];refine WW ?_;exact zH [] Z Z (zAv (λx=>AV.agg [iA (-1),iA 0,AV.sl false x]) (zAj zW)) Z
def Vt (n:Nat) (h:n<=100000):zO 41 [iA n] [] (xY (BW n)) []:=by
 refine eM call41 λF hF=>?_
 (repeat' (first|refine uD ?_|apply yZ|apply xM|intro hc|fail))
 refine zS 4 1001 1 Z Z Z ?_;refine zN (n) [1001,2,3] [2,3] [2,3,6] [4,7,2,3,6] Z (λi T U=>⟨(4,.ref 1001 0 ((nm i (-1:Int)).map iA).length)::(7,iA i)::T,(1001,.arr 1 ((nm i (-1:Int)).map iA) true)::U⟩) (Lq ?_ ?_)
 .intro i hi;have u:((nm i (-1:Int)).map iA).length=i:=by simp
  have e:(nm (i+1) (-1:Int)).map iA=(nm i (-1:Int)).map iA++[iA (-1)]:=by rw[zD7];simp
  rw[e];generalize (nm i (-1:Int)).map iA=xs at *;refine WL ?_;rfl
 ·(refine WW ?_)
  exact zH [] Z Z (zAv (λx=>AV.agg [iA (-1),iA 0,x]) (FS _ _)) Z
def TE (p:α->Bool) (l:List α):Int:=if l.any p=true then(l.findIdx p:Int)else -1
def LU {p:α->Bool} {l ga post:List α} {x:α} (h:l=ga++x::post) (u:∀y∈ga,p y=false) (hx:p x=true):TE p l=(ln ga:Int):=by grind [TE]
def PM {p:α->Bool} {l:List α} (u:∀y∈l,p y=false):TE p l= -1:=by grind [TE]
def LV (p:α->Bool) (l:List α):(0<=TE p l)=(l.any p=true):=by grind [TE]
def FT (p:α->Bool) (l:List α): -1<=TE p l/\TE p l<=ln l:=by grind [TE]
def Fh (l:List Cl) (hb:ln l<=1073741824):zO 311 [zD kS l,.fn 266 []] [] (iA (TE (λc=>bV c.k) l)) []:=by
 have hl:=zA kS l;refine eM call311 λF hF=>?_
 refine WW ?_;refine qC (l) [] [] [0,1,7] [8,0,1,7] Z (λi ga T U C=>(∀y∈ga,bV y.k=false)/\C=⟨(8,iA i)::T,U⟩) (Lp ?_ ?_ ?_)
 .exact⟨by simp,rfl⟩
 .rintro i ga x post st hx hi ⟨hp,rfl⟩;have u:=yI kS hx hi;have B:=zV hx hi;have c:=jU x;have A:=LU (p:=λc=>bV c.k) hx hp
  cases z:bV x.k<;>rw[z]at c
  ·(refine zQ c ?_)
   exact⟨λy u=>by simp at u;rcases u with u|rfl;exact hp y u;exact z,rfl⟩
  .rw[A z,hi];exact lk c
 .rintro st ⟨hp,rfl⟩;rw[PM hp];exact lc
def FU (l:List Cl) (hb:ln l<=1073741824):zO 267 [zD kS l,.fn 266 []] [] (bA (l.any λc=>bV c.k)) []:=by
 have c:=Fh l hb;have h:=LV (λc:Cl=>bV c.k) l;have h2:=FT (λc:Cl=>bV c.k) l;generalize TE (λc:Cl=>bV c.k) l=n at*
 cases u:(l.any λc=>bV c.k)<;>rw[u]at h<;>simp at h
 all_goals
  (refine eM call267 λF hF=>?_)
  exact lk c
def YU (s:Sv):wB:= .box [iA s.ph,iA s.gr,zD iA s.en]
def Rl (s:Sv) (x:Cl):zO 264 [kS x,.ptr 4 0 0] [(4,YU s)] (bA (x.ph==s.ph)) [(4,YU s)]:=by
 refine eM call264 λF hF=>?_
 refine WW ?_;exact zP [4] Z Z Z Z
def Ql (s:Sv) (x:Cl):zO 265 [kS x,.ptr 7 0 0] [(7,.box [.fn 264 [.ptr 4 0 0]]),(4,YU s)] (bA (x.ph==s.ph&&bV x.k)) [(7,.box [.fn 264 [.ptr 4 0 0]]),(4,YU s)]:=by
 have c:=Rl s x;have e:=jU x
 cases h:(x.ph==s.ph)<;>rw[h]at c
 ·(refine eM call265 λF hF=>?_)
  refine yJ (xV c e) ?_;exact zP [7,4] Z Z Z Z
 .rw[zAo];refine eM call265 λF hF=>?_
  refine yJ (xV c e) ?_;exact zP [7,4] Z Z Z Z
def BX (s:Sv) (l:List Cl) (hb:ln l<=1073741824):zO 311 [zD kS l,.fn 264 [.ptr 4 0 0]] [(4,YU s)] (iA (TE (λx:Cl=>x.ph==s.ph) l)) [(4,YU s)]:=by
 have hl:=zA kS l;refine eM call311 λF hF=>?_
 refine WW ?_;refine qC (l) [4] [4] [0,1,7] [8,0,1,7] Z (λi ga T U C=>(∀y∈ga,((λx:Cl=>x.ph==s.ph)) y=false)/\C=⟨(8,iA i)::T,U⟩) (Lp ?_ ?_ ?_)
 .exact⟨by simp,rfl⟩
 .rintro i ga x post st hx hi ⟨hp,rfl⟩;have z:=yI kS hx hi;have B:=zV hx hi;have c:=Rl s x;have u:=LU (p:=(λx:Cl=>x.ph==s.ph)) hx hp
  try dsimp only at u
  cases A:((λx:Cl=>x.ph==s.ph)) x<;>(dsimp only at A;rw[A]at c)
  ·(refine zQ c ?_)
   exact⟨λy z=>by simp only[zA5,zBf]at z;rcases z with z|rfl;exact hp y z;exact A,rfl⟩
  .rw[u A,hi];refine zQ c ?_;exact zP [4] Z Z Z Z
 .rintro st ⟨hp,rfl⟩;rw[PM hp];refine WW ?_;exact zP [4] rfl rfl rfl rfl
def LW (s:Sv) (l:List Cl) (hb:ln l<=1073741824):zO 267 [zD kS l,.fn 264 [.ptr 4 0 0]] [(4,YU s)] (bA (l.any (λx:Cl=>x.ph==s.ph))) [(4,YU s)]:=by
 have c:=BX s l hb;have h:=LV (λx:Cl=>x.ph==s.ph) l;have h2:=FT (λx:Cl=>x.ph==s.ph) l;generalize TE (λx:Cl=>x.ph==s.ph) l=n at*
 cases u:l.any (λx:Cl=>x.ph==s.ph)<;>rw[u]at h<;>simp at h
 all_goals
  (refine eM call267 λF hF=>?_)
  refine zQ c ?_;exact zP [4] Z Z Z Z
def Lc (s:Sv) (l:List Cl) (hb:ln l<=1073741824):zO 311 [zD kS l,.fn 265 [.ptr 7 0 0]] [(7,.box [.fn 264 [.ptr 4 0 0]]),(4,YU s)] (iA (TE (λx:Cl=>x.ph==s.ph&&bV x.k) l)) [(7,.box [.fn 264 [.ptr 4 0 0]]),(4,YU s)]:=by
 have hl:=zA kS l;refine eM call311 λF hF=>?_
 refine WW ?_;refine qC (l) [7,4] [7,4] [0,1,7] [8,0,1,7] Z (λi ga T U C=>(∀y∈ga,((λx:Cl=>x.ph==s.ph&&bV x.k)) y=false)/\C=⟨(8,iA i)::T,U⟩) (Lp ?_ ?_ ?_)
 .exact⟨by simp,rfl⟩
 .rintro i ga x post st hx hi ⟨hp,rfl⟩;have z:=yI kS hx hi;have B:=zV hx hi;have c:=Ql s x;have u:=LU (p:=(λx:Cl=>x.ph==s.ph&&bV x.k)) hx hp
  try dsimp only at u
  cases A:((λx:Cl=>x.ph==s.ph&&bV x.k)) x<;>(dsimp only at A;rw[A]at c)
  ·(refine zQ c ?_)
   exact⟨λy z=>by simp only[zA5,zBf]at z;rcases z with z|rfl;exact hp y z;exact A,rfl⟩
  .rw[u A,hi];refine zQ c ?_;exact zP [7,4] Z Z Z Z
 .rintro st ⟨hp,rfl⟩;rw[PM hp];refine WW ?_;exact zP [7,4] rfl rfl rfl rfl
def IR (s:Sv) (l:List Cl) (hb:ln l<=1073741824):zO 267 [zD kS l,.fn 265 [.ptr 7 0 0]] [(7,.box [.fn 264 [.ptr 4 0 0]]),(4,YU s)] (bA (l.any (λx:Cl=>x.ph==s.ph&&bV x.k))) [(7,.box [.fn 264 [.ptr 4 0 0]]),(4,YU s)]:=by
 have c:=Lc s l hb;have h:=LV (λx:Cl=>x.ph==s.ph&&bV x.k) l;have h2:=FT (λx:Cl=>x.ph==s.ph&&bV x.k) l;generalize TE (λx:Cl=>x.ph==s.ph&&bV x.k) l=n at*
 cases u:l.any (λx:Cl=>x.ph==s.ph&&bV x.k)<;>rw[u]at h<;>simp at h
 all_goals
  (refine eM call267 λF hF=>?_)
  refine zQ c ?_;exact zP [7,4] Z Z Z Z
def UQ (g:Cf) (s:Sv) (l:List Cl):Bool:=!(l.any λx=>x.ph==s.ph)||decide (g.hold<=s.gr)||((l.any λc=>bV c.k)&& !(l.any λx=>x.ph==s.ph&&bV x.k))
def Uz (g:Cf) (s:Sv) (l:List Cl) (hb:ln l<=1073741824):zO 221 [wO g,xY s,zD kS l] [] (bA (UQ g s l)) []:=by
 have z:=LW s l hb;have A:=IR s l hb;have B:=FU l hb;unfold UQ;generalize (l.any λx=>x.ph==s.ph)=m at *;generalize (l.any λx=>x.ph==s.ph&&bV x.k)=u at *;generalize (l.any λc=>bV c.k)=e at *;by_cases h:g.hold<=s.gr
 .rw[zAd h]
  cases m<;>cases u<;>cases e<;>(simp only[zFh,zEe,zC6,zCp,zDw,zC3,zCa];(refine eM call221 λF hF=>?_);exact ld (kC z B A))
 .rw[zAc h]
  cases m<;>cases u<;>cases e<;>(simp only[zFh,zEe,zC6,zCp,zDw,zEu,zC3,zCa];(refine eM call221 λF hF=>?_);exact ld (kC z B A))
def dC (g:Cf) (s:Sv) (l:List Cl) (f4:Int):Sv:=if s.ph≠ -1/\UQ g s l=true then kO s f4 else s
def qI (g:Cf) (s:Sv) (l:List Cl) (f4:Int):Sv:=
 if(dC g s l f4).ph= -1/\0<=qY g (dC g s l f4) f4 l (ln l) then⟨(l.getD (qY g (dC g s l f4) f4 l (ln l)).toNat dd).ph,0,(dC g s l f4).en⟩else dC g s l f4
def PN (s:Sv) (f4:Int):(kO s f4).en.length=ln s.en:=by unfold kO;dsimp only;split<;>simp
def Pl (g:Cf) (s:Sv) (l:List Cl) (f4:Int):(dC g s l f4).en.length=ln s.en:=by unfold dC;split;exact PN s f4;rfl
structure Qr (g:Cf) (s:Sv) (l:List Cl) (f4:Int):Prop where
 p:1<=g.per
 c0: -1000000<=g.cap
 c1:g.cap<=1000000
 n0:0<=f4
 n1:f4<=1000000000
 en:∀e∈s.en,-1<=e/\e<=f4
 k:∀c∈l,0<=c.k/\c.k<=3
 si:∀c∈l,0<=c.si/\c.si<=f4
 len:l.length<=1000
 sl:s.en.length<=1000
theorem LX (s:Sv) (f4:Int) (u:0<=f4) (h:∀e∈s.en,-1<=e/\e<=f4):∀e∈(kO s f4).en,-1<=e/\e<=f4:=by grind [kO]
def FV (g:Cf) (s:Sv) (l:List Cl) (f4:Int) (u:0<=f4) (h:∀e∈s.en,-1<=e/\e<=f4):∀e∈(dC g s l f4).en,-1<=e/\e<=f4:=by
 unfold dC;split;exact LX s f4 u h;exact h
theorem Qr.ok (H:Qr g s l f4) (u:Sv) (z:∀e∈u.en,-1<=e/\e<=f4):∀i,i<ln l->Zj g.per f4 u.en (l.getD i dd):=λi hi=>by
 have hk:=aX (λc:Cl=>0<=c.k/\c.k<=3) dd l i H.k hi;have hs:=aX (λc:Cl=>0<=c.si/\c.si<=f4) dd l i H.si hi;have z:=FR u.en f4 (l.getD i dd).ph H.n0 z;have:=H.p;have:=H.n0;have:=H.n1
 constructor<;>(try unfold gS)<;>omega
theorem Qr.sta (H:Qr g s l f4) (u:Sv) (z:∀e∈u.en,-1<=e/\e<=f4):∀i,i<ln l->gS u.en (l.getD i dd).ph (l.getD i dd).si<=f4:=λi hi=>by
 have hs:=aX (λc:Cl=>0<=c.si/\c.si<=f4) dd l i H.si hi;have z:=FR u.en f4 (l.getD i dd).ph H.n0 z;unfold gS;omega
def Ol (g:Cf) (s:Sv) (l:List Cl) (f4:Int) (H:Qr g s l f4):zO 181 [wO g,xY s,zD kS l,iA f4] [] (xY (qI g s l f4)) []:=by
 have hb:Zf s:=⟨by have:=H.sl;omega⟩;have u:=RN s hb;have A:=Uz g s l (by have:=H.len;omega);have B:=Sl s hb f4;have hl:=zA kS l;have M:=H.len;have L:=FV g s l f4 H.n0 H.en;have z:=Wz g (dC g s l f4) f4 l zB (H.ok _ L);have I:=aV g (dC g s l f4) f4 l (ln l)
 have hd:dC g s l f4=if s.ph≠ -1/\UQ g s l=true then kO s f4 else s:=rfl
 unfold qI;generalize dC g s l f4=E at *;generalize qY g E f4 l (ln l)=b at *;generalize UQ g s l=R,kO s f4=S at *;by_cases h1:s.ph= -1
 .rw[Of (by simp[h1])]at hd;subst hd;by_cases h2:0<=b
  .rw[Os ⟨h1,h2⟩];have O:=yF kS l b h2 zB;generalize l.getD b.toNat dd=G at *;refine eM call181 λF hF=>?_
   exact ld (xV u z)
  .rw[Of (λh=>h2 h.2)];refine eM call181 λF hF=>?_
   exact ld (xV u z)
 cases R with
 |false=>
  rw[Of zW]at hd;subst hd;rw[Of (λh=>h1 h.1)];refine eM call181 λF hF=>?_
  exact ld (xV u A)
 | true=>
  rw[Os ⟨h1,rfl⟩]at hd;subst hd;by_cases C:E.ph= -1
  .by_cases h2:0<=b
   .rw[Os ⟨C,h2⟩];have O:=yF kS l b h2 zB;generalize l.getD b.toNat dd=G at *;refine eM call181 λF hF=>?_
    exact ld (aB u A B z)
   .rw[Of (λh=>h2 h.2)];refine eM call181 λF hF=>?_
    exact ld (aB u A B z)
  .rw[Of (λh=>C h.1)];refine eM call181 λF hF=>?_
   exact ld (aB u A B z)
def Nl (p:α->Bool) (l:List α) (x:α):(l++[x]).any p=(l.any p||p x):=by simp
theorem Eh (g:Cf) (s:Sv) (l:List Cl) (f4:Int) (H:Qr g s l f4):zO 202 [wO g,xY s,zD kS l,iA f4] [] (xY (qI g s l f4)) []:=by
 have hb:Zf s:=⟨by have:=H.sl;omega⟩;have E:=LT s hb;have B:=Mc s hb f4;have hl:=zA kS l;have V:=H.len;have I:=FV g s l f4 H.n0 H.en;have z:=Yt g (dC g s l f4) f4 l zB (H.ok _ I) (H.sta _ I) ⟨H.c0,H.c1⟩;have S:=aV g (dC g s l f4) f4 l (ln l)
 have hd:dC g s l f4=if s.ph≠ -1/\UQ g s l=true then kO s f4 else s:=rfl
 have ho:UQ g s l=(!(l.any λx=>x.ph==s.ph)||decide (g.hold<=s.gr)||((l.any λc=>bV c.k)&& !(l.any λx=>x.ph==s.ph&&bV x.k))):=rfl;unfold qI;generalize dC g s l f4=O at *;generalize qY g O f4 l (ln l)=b at *;generalize UQ g s l=M,kO s f4=s2 at *;by_cases h1:s.ph= -1
 .rw[Of (by simp[h1])]at hd;subst hd;by_cases h2:0<=b
  .rw[Os ⟨h1,h2⟩];have L:=yF kS l b h2 zB;generalize l.getD b.toNat dd=R at *;refine eM call202 λF hF=>?_
   exact ld (xV E z)
  .rw[Of (λh=>h2 h.2)];refine eM call202 λF hF=>?_
   exact ld (xV E z)
 refine eM call202 λF hF=>?_
 refine zQ E ?_;refine zU (l) [4,5,8,9] [4,5,8,9] [2,3,4,5,8,9,21,22] [10,11,12,23,2,3,4,5,8,9,21,22] Z (λi ga T U=>⟨(10,bA (ga.any λx=>x.ph==s.ph))::(11,bA (ga.any λx=>x.ph==s.ph&&bV x.k))::(12,bA (ga.any λc=>bV c.k))::(23,iA i)::T,U⟩) (Lq ?_ ?_)
 .intro i ga x post hx hi;have L:=yI kS hx hi;have W:=zV hx hi;have e:=fW x;simp only[Nl];generalize (ga.any λx=>x.ph==s.ph)=m at *;generalize (ga.any λx=>x.ph==s.ph&&bV x.k)=u at *;generalize (ga.any λc=>bV c.k)=w at *;generalize bV x.k=G at *;by_cases C:x.ph=s.ph
  .rw[show(x.ph==s.ph)=true by simpa using C]
   cases m<;>cases u<;>cases w<;>cases G<;>((refine zQ e ?_);rfl)
  .rw[show(x.ph==s.ph)=false by simpa using C]
   cases m<;>cases u<;>cases w<;>cases G<;>((refine zQ e ?_);rfl)
 .generalize (l.any λx=>x.ph==s.ph)=m at *;generalize (l.any λx=>x.ph==s.ph&&bV x.k)=u at *;generalize (l.any λc=>bV c.k)=w at*
  have hh:(m=true/\s.gr<g.hold/\(w=false\/u=true)/\M=false)\/M=true:=by
   by_cases h:g.hold<=s.gr<;>cases m<;>cases u<;>cases w<;>simp_all<;>omega
  rcases hh with⟨Y,hg,hw,A⟩|A
  .subst Y A;rw[Of zW]at hd;subst hd;rw[Of (λh=>h1 h.1)]
   cases u<;>cases w<;>first|(simp at hw;done)|(exact lc)
  .subst A;rw[Os ⟨h1,rfl⟩]at hd;subst hd
   have hh:g.hold<=s.gr\/s.gr<g.hold/\(m=false\/(w=true/\u=false)):=by
    by_cases h:g.hold<=s.gr<;>cases m<;>cases u<;>cases w<;>simp_all<;>omega
   clear ho;by_cases C:O.ph= -1
   .by_cases h2:0<=b
    .rw[Os ⟨C,h2⟩];have L:=yF kS l b h2 zB;generalize l.getD b.toNat dd=R at *;by_cases h:g.hold<=s.gr
     .cases m<;>cases u<;>cases w<;>(exact ld (xV B z))
     .cases m<;>cases u<;>cases w<;>first|(exfalso;simp at hh;omega)|(exact ld (xV B z))
    .rw[Of (λh=>h2 h.2)];by_cases h:g.hold<=s.gr
     .cases m<;>cases u<;>cases w<;>(exact ld (xV B z))
     .cases m<;>cases u<;>cases w<;>first|(exfalso;simp at hh;omega)|(exact ld (xV B z))
   .rw[Of (λh=>C h.1)];by_cases h:g.hold<=s.gr
    .cases m<;>cases u<;>cases w<;>(exact ld (xV B z))
    .cases m<;>cases u<;>cases w<;>first|(exfalso;simp at hh;omega)|(exact ld (xV B z))
def Yf (g:Cf) (s:Sv) (l:List Cl) (f4:Int):(qI g s l f4).en=(dC g s l f4).en:=by unfold qI;split<;>rfl
def VL (g:Cf) (s:Sv) (l:List Cl) (f4:Int):(qI g s l f4).en.length=ln s.en:=by rw[Yf];exact Pl g s l f4
def Kc (g:Cf) (s:Sv) (l:List Cl) (f4:Int):(dC g s l f4=s\/(s.ph≠ -1/\UQ g s l=true/\dC g s l f4=kO s f4)):=by grind [dC,UQ,kO]
theorem Xf (g:Cf) (s:Sv) (l:List Cl) (f4:Int):(dC g s l f4).ph=s.ph/\(dC g s l f4).gr=s.gr\/(dC g s l f4).ph= -1/\(dC g s l f4).gr=0:=by
 rcases Kc g s l f4 with hd|⟨_,_,hd⟩
 .grind
 .exact .inr (by rw[hd];exact⟨rfl,rfl⟩)
def Tz (g:Cf) (s:Sv) (l:List Cl) (f4:Int) (n:Int) (hl:∀c∈l,0<=c.ph/\c.ph<n) (h: -1<=s.ph/\s.ph<n/\0<=s.gr/\s.gr<=60) (u:0<=n): -1<=(qI g s l f4).ph/\(qI g s l f4).ph<n/\0<=(qI g s l f4).gr/\(qI g s l f4).gr<=60:=by
 have h1:=Xf g s l f4;have hb:=aV g (dC g s l f4) f4 l (ln l)
 grind [qI]
def Ml (g:Cf) (s:Sv) (l:List Cl) (f4:Int) (u:0<=f4) (h:∀e∈s.en,-1<=e/\e<=f4):∀e∈(qI g s l f4).en,-1<=e/\e<=f4:=by rw[Yf];exact FV g s l f4 u h
def Sz (s:Sv) (b:Bool):(fS s b).en=s.en/\(fS s b).ph=s.ph:=by unfold fS;split<;>exact⟨rfl,rfl⟩
def Rz (s:Sv) (b:Bool) (h:0<=s.gr/\s.gr<=60):0<=(fS s b).gr/\(fS s b).gr<=60:=by unfold fS;split;(dsimp only;omega);exact h
def j6 (s:Sv) (b:Bool) (u:s.ph= -1->s.gr=0):(fS s b).ph= -1->(fS s b).gr=0:=by grind [fS]
def d6 (g:Cf) (s:Sv) (l:List Cl) (f4:Int) (u:s.ph= -1->s.gr=0):(qI g s l f4).ph= -1->(qI g s l f4).gr=0:=by grind [qI,Xf]
structure EI (n:Nat) (d:Dk) (s:Sv) (f4:Int):Prop where
 len:s.en.length=n
 en:∀e∈s.en,-1<=e/\e<f4
 p0: -1<=s.ph
 p1:s.ph<n
 g0:0<=s.gr
 g1:s.gr<=60
 n0:1<=f4
 n1:f4+rem d<=301
 z:s.ph= -1->s.gr=0
theorem EI.next {n:Nat} {d:Dk} (H:EI n d s f4) (g:Cf) (c:List Cl) (u:∀x∈c,Y8 n f4 x) (b:Bool) (A:Dk) (hd:rem A+1<=rem d):EI n A (fS (qI g s c f4) b) (f4+1):=by
 have C:=Tz g s c f4 n (λx hx=>⟨(u x hx).p0,(u x hx).p1⟩) ⟨H.p0,H.p1,H.g0,H.g1⟩ zB;have G:=Rz (qI g s c f4) b C.2.2;obtain⟨e1,E⟩:=Sz (qI g s c f4) b;have:=H.n0;have:=H.n1;have B:=Ml g s c f4 zB (λe B=>by have:=H.en e B;omega);refine⟨by rw[e1,VL];exact H.len,λe h=>?_,zB,zB,zB,zB,zB,zB,λh=>?_⟩
 case refine_2=>exact j6 _ b (d6 g s c f4 H.z) h
 grind
def Wf (s:Sg) (h1:ln s.c.li<=1073741824) (h2:ln s.c.nx<=1073741824):zO 100 [wC s] [] (wC s) []:=by
 have u:=HV s.c.li h1;have z:=HU s.c.nx h2;refine eM call100 λF hF=>?_
 exact ld (xV u z)
def Qz (s:Sg) (v:Sv):Bool:=decide (0<=v.ph/\v.ph<ln s.c.li)&&((xT s.c v.ph.toNat).lamp==1)
def wc (g:Cf) (j:Jn) (s:Sg) (v:Sv) (l:List Cl) (k f4:Int):Sg×Sv:=
 if s.lat=true then(s,kO v f4)
 else if(Vf j s (qI g v l f4).ph k).lat=true then(Vf j s (qI g v l f4).ph k,kO (qI g v l f4) f4)
 else(Vf j s (qI g v l f4).ph k,fS (qI g v l f4) (Qz (Vf j s (qI g v l f4).ph k) (qI g v l f4)))
def Ut (g:Cf) (j:Jn) (J:JV j) (s:Sg) (C:CV j s.c) (v:Sv) (l:List Cl) (k f4:Int) (H:Qr g v l f4) (I: -1000000<=(qI g v l f4).gr):zO 121 [wO g,wD j,wC s,xY v,zD kS l,iA k,iA f4] [] (.tup [wC (wc g j s v l k f4).1,xY (wc g j s v l k f4).2]) []:=by
 have hJ:=J.n;have hn:=C.n;have hm:=C.m;have hb:Zf v:=⟨by have:=H.sl;omega⟩;have B:Zf (qI g v l f4):=⟨by rw[VL];have:=H.sl;omega⟩;have O:=Wf s zB zB;have R:=Sl v hb f4;have E:=Ol g v l f4 H;have G:=Qt j J s C (qI g v l f4).ph k;have S:=Sl (qI g v l f4) B f4;have L:=Xt (qI g v l f4) B (Qz (Vf j s (qI g v l f4).ph k) (qI g v l f4)) I;have X:=Mz J C (qI g v l f4).ph k;have V:=X.n;unfold wc;generalize kO v f4=v0,qI g v l f4=z at *;generalize kO z f4=v2 at *;generalize Vf j s z.ph k=x at *;have u:Qz x z=(decide (0<=z.ph/\z.ph<ln x.c.li)&&((xT x.c z.ph.toNat).lamp==1)):=rfl;generalize Qz x z=b at *;generalize fS z b=v3 at *;clear H I X C hb B;obtain⟨sc,Y⟩:=s;obtain⟨A,xl⟩:=x;dsimp only at *;have U:=zA xH A.li
 cases Y with
 |true=>
  rw[Os Z];refine eM call121 λF hF=>?_
  exact ld (xV O R)
 |false=>
 rw[Of zAp]
 cases xl with
 |true=>
  rw[Os Z];refine eM call121 λF hF=>?_
  exact ld (kC E G S)
 |false=>
 rw[Of zAp];dsimp only;rw[show wC ⟨A,false⟩= .agg [zD xH A.li,iA A.gr,zD iA A.nx,iA A.wt,bA false]from Z]at *; by_cases h1:0<=z.ph
 case neg=>
  rw[zAc (λh=>h1 h.1),zA7]at u;subst u;refine eM call121 λF hF=>?_
  exact ld (kC E G L)
 by_cases h2:z.ph<ln A.li
 case neg=>
  rw[zAc (λh=>h2 h.2),zA7]at u;subst u;refine eM call121 λF hF=>?_
  exact ld (kC E G L)
 rw[zAd ⟨h1,h2⟩,zAo]at u;have W:=yF xH A.li z.ph h1 h2
 change (A.li.map xH)[z.ph.toNat]? =some (xH (xT A z.ph.toNat))at W
 generalize xT A z.ph.toNat=a at *;by_cases M:a.lamp=1
 .rw[show(a.lamp==1)=true by rw[zBl];exact M]at u;subst u;refine eM call121 λF hF=>?_
  exact ld (kC E G L)
 .rw[show(a.lamp==1)=false by rw[zAy];exact M]at u;subst u;refine eM call121 λF hF=>?_
  exact ld (kC E G L)
def Pz {j:Jn} (J:JV j) {s:Sg} (C:CV j s.c) (g:Cf) (v:Sv) (c:List Cl) (k f4:Int):CV j (wc g j s v c k f4).1.c:=by grind [wc,Mz]
structure Ss where
 op:Bool
 dr:Bool
 bf:List Int
 gb:Bool
instance:Inhabited Ss:=⟨⟨false,false,[],false⟩⟩
def cI (m n:Nat):Nat:=min n (256-m)
def FW (s:Ss) (b:List Int):Ss:=if s.op=true then⟨true,s.dr||decide (cI (ln s.bf) (ln b)≠b.length),s.bf++b.take (cI (ln s.bf) (ln b)),s.gb⟩else s
def Tt {s:Ss} (h:ln s.bf<=256) (b:List Int):(FW s b).bf.length<=256:=by grind [FW,List.length_append,List.length_take,cI]
def Jc (l:List Vw) (hl:ln l<=1073741824):zO 169 [zD wZ l] [] (.ref 1001 0 (l.map wZ).length) [(1001,.arr 4 (l.map wZ) false)]:=by
 have u:=zA wZ l;refine eM call169 λF hF=>?_
 refine xI 0 Z (λcap hx=>?_) ?_
 .have:l=[]:=by simpa using hx
  subst this
  (repeat' (first|refine Md ?_|apply yZ|apply xM|intro hc|fail))
  refine qK 2 1001 4 Z Z Z (xG ?_);exact zP [1001] Z Z Z Z
 .repeat' (first|(apply zG;first|refine wX tok Z Z ?_|(apply xZ;refine yE (yU tok (.inl ⟨rfl,rfl⟩) Z Z Z Z) Z ?_)|(apply yR;refine qB (nw:=[1001]) (yT tok 1001 (xs:=[]) Z Z Z Z Z Z Z Z Z) Z Z Z ?_)|(apply yG;refine xW tok Z Z Z Z Z Z Z (zZ _ _ (λ_=>rfl)) Z Z Z zB Z ?_)|apply uT)|(first|apply xK|apply xF|refine vQ Z ?_|refine yM Z ?_|refine yB Z ?_|refine xU Z (λhc=>?_) λhc=>?_|apply xB|apply xG|apply xJ|apply xE))
  exact zP [1001] Z Z Z Z
def PO (l:List Vw) (I:ln l<=1000) (hb:∀v∈l,ln v.co<=1000/\v.cn.length<=1000):zO 104 [zD wZ l] [] (zD wZ l) []:=by
 have c:=Jc l zB;have E:=zA wZ l;refine eM call104 λF hF=>?_
 refine zQ c ?_;refine zN ((l.map wZ).length) [1001] [] [0,7] [8,0,7] Z (λi T U=>⟨(8,iA i)::T,(1001,.arr 4 (gO i (l.map wZ)) false)::U⟩) (Lq ?_ ?_)
 .intro i hi;have hi':i<ln l:=by omega
  have u:(gO i (l.map wZ))[i]? =some (wZ (l.getD i dd)):=zJ wZ l i hi';have e:=jW wZ l i hi';have C:=hb (l.getD i dd) XD;have z:=RX (l.getD i dd).co zB;have A:=RX (l.getD i dd).cn zB;generalize (l.getD i dd)=t,gO i (l.map wZ)=xs,gO (i+1) (l.map wZ)=ys at *;have hs:=eO u;have G:(xs.set i (.agg [bA t.fl,bA t.ov,zD iA t.co,zD iA t.cn]))[i]? =some (wZ t):=by rw[show AV.agg [bA t.fl,bA t.ov,zD iA t.co,zD iA t.cn]=wZ t from Z,hs];exact u
  have B:(xs.set i (.agg [bA t.fl,bA t.ov,zD iA t.co,zD iA t.cn])).set i (.agg [bA t.fl,bA t.ov,zD iA t.co,zD iA t.cn])=ys:=by rw[zEr];exact e
  clear e hs;subst B;refine yJ (xV z A) ?_;rfl
 ·(refine WW ?_)
  exact zH [] Z Z (zAv (AV.sl false) zAb) Z
def qA (s:Ss):AV:= .agg [bA s.op,bA s.dr,zD yA s.bf,bA s.gb]
def FX (s:Ss) (h:ln s.bf<=1000):zO 172 [qA s] [] (qA s) []:=by
 have c:=vJ s.bf zB;unfold qA;refine eM call172 λF hF=>?_
 exact lk c
structure Ev where
 k:Int
 s:Int
 a:Int
 b:Int
 y:List Int
instance:Inhabited Ev:=⟨⟨0,0,0,0,[]⟩⟩
def PE (e:Ev):AV:= .agg [iA e.k,iA e.s,iA e.a,iA e.b,zD yA e.y]
