/- Part 25. -/
import Derived.Test.YtaglbcjljlkjcaaGreatX24
import Derived.Test.YtaglbcjljlkjcaaGreatX20
namespace Go.Proofs.YtaglbcjljlkjcaaGreat.Av
open Tryz
set_option linter.all false
set_option maxRecDepth 4000
set_option maxHeartbeats 4000000
open List renaming length->ln,replicate->pb,take->pi
open Inhabited renaming default->dd
variable {g:Cf}{f3:Int}{l:List Cl}{s:Sv}{α:Type}
def bM (s:Sv) (p:Int):zO 297 [wW s,iA p] [] (iA (cP s.en p)) []:=by
 have hl:(s.en.map iA).length=ln s.en:=by simp
 by_cases h1:p<0
 .rw[show cP s.en p= -1 by simp[cP,h1]];refine eM call297 λF hF=>?_
  exact ny
 .by_cases h2:(ln s.en:Int)<=p
  .rw[show cP s.en p= -1 by simp[cP,h2]];refine eM call297 λF hF=>?_
   exact ny
  .rw[show cP s.en p=s.en.getD p.toNat 0 by unfold cP;rw[Os zB]];have u:=yF iA s.en p zB zB;refine eM call297 λF hF=>?_
   exact ny
def gR (c:Cl):zO 195 [qZ c] [] (bA (cL c.k)) []:=by
 unfold cL;by_cases h:c.k=2
 .rw[show(c.k==2||c.k==3)=true by simp[h]];refine eM call195 λF hF=>?_
  exact ny
 .rw[show(c.k==2||c.k==3)=(c.k==3) by simp[h]];refine eM call195 λF hF=>?_
  exact ny
def ND (s:Sv) (c:Cl):zO 337 [wW s,qZ c] [] (iA (jU s.en c.ph c.si)) []:=by
 refine eM call337 λF hF=>?_
 (repeat' (first|refine aK ?_|refine yW (λhc=>?_) λhc=>?_|(apply zG;apply xQ;(refine vJ 297 ?_;first|refine wJ (zL (bM s _) Z Z Z Z Z) Z ?_|refine qA (zL (bM s _) Z Z Z Z Z) Z Z Z ?_|refine aO (zL (bM s _) Z Z Z Z Z) Z Z Z ?_))|fail))
 exact zH
def DV (g:Cf) (s:Sv) (c:Cl) (f3:Int) (z:lj g.per f3 s.en c) (B:jU s.en c.ph c.si<=f3):zO 338 [wD g,wW s,qZ c,iA f3] [] (iA (UI g.per g.cap s.en f3 c.ph c.k c.si)) []:=by
 obtain⟨p,C,E,G,I,L,M,_,_⟩:=z
 have u:UI g.per g.cap s.en f3 c.ph c.k c.si=min g.cap (c.k+(f3-jU s.en c.ph c.si).tdiv (max 1 g.per)):=by
  unfold UI;rw[show max 1 g.per=g.per by omega,zC9 zB]
 have hb:=Me (f3-jU s.en c.ph c.si) (max 1 g.per) zB zB zB;have A:aG .i64 ((f3-jU s.en c.ph c.si).tdiv (max 1 g.per)):=⟨zB,zB⟩;rw[u];refine eM call338 λF hF=>?_
 (have ga:=ND s c;refine WG ?_;clear ga)
 exact zH
theorem jh (g:Cf) (s:Sv) (c:Cl) (f3:Int) (u:lj g.per f3 s.en c):zO 248 [wD g,wW s,qZ c,iA f3] [] (bA (CG g.lock s.en f3 c.ph c.k)) []:=by
 obtain⟨p,A,B,C,E,G,I,z,e1⟩:=u;unfold CG;refine eM call248 λF hF=>?_
 (repeat' (first|refine aK ?_|refine yW (λhc=>?_) λhc=>?_|(apply zG;apply xQ;(first|(refine vJ 297 ?_;first|refine wJ (zL (bM s _) Z Z Z Z Z) Z ?_|refine qA (zL (bM s _) Z Z Z Z Z) Z Z Z ?_|refine aO (zL (bM s _) Z Z Z Z Z) Z Z Z ?_)|(refine vJ 195 ?_;first|refine wJ (zL (gR c) Z Z Z Z Z) Z ?_|refine qA (zL (gR c) Z Z Z Z Z) Z Z Z ?_|refine aO (zL (gR c) Z Z Z Z Z) Z Z Z ?_)))|fail))
 all_goals refine zI [] Z Z (zBq bA ?_) Z
 all_goals simp_all [uS]
structure Key where
 x0:Int
 x1:Int
 x2:Int
 x3:Int
 x4:Int
def kyA (k:Key):AV:= .agg [iA k.x0,iA k.x1,iA k.x2,iA k.x3,iA k.x4]
def NE (z cap:Int) (u:List Int) (f3:Int) (c:Cl):Key:=if cL c.k=true then⟨0,-c.k,jU u c.ph c.si,c.ag,c.id⟩else⟨1,-UI z cap u f3 c.ph c.k c.si,jU u c.ph c.si,c.ag,c.id⟩
def Hx (g:Cf) (s:Sv) (c:Cl) (f3:Int) (u:lj g.per f3 s.en c) (C:jU s.en c.ph c.si<=f3) (hc: -1000000<=g.cap/\g.cap<=1000000):zO 298 [wD g,wW s,iA f3,qZ c] [] (kyA (NE g.per g.cap s.en f3 c)) []:=by
 have z:=gR c
 have B:UI g.per g.cap s.en f3 c.ph c.k c.si<=1000000/\ -1000000<=UI g.per g.cap s.en f3 c.ph c.k c.si:=by
  unfold UI;have:=Int.ediv_nonneg (show 0<=f3-jU s.en c.ph c.si by omega) (show 0<=g.per by have:=u.p;omega);have:=u.k0;omega
 have E:=u.k0;have G:=u.k1
 cases A:cL c.k<;>rw[A]at z
 .rw[show NE g.per g.cap s.en f3 c=⟨1,-UI g.per g.cap s.en f3 c.ph c.k c.si,jU s.en c.ph c.si,c.ag,c.id⟩ by simp[NE,A]];refine eM call298 λF hF=>?_
  (have ga:=z;have ge:=ND s c;have gn:=DV g s c f3 u C;refine WG ?_;clear ga ge gn)
  exact zH
 .rw[show NE g.per g.cap s.en f3 c=⟨0,-c.k,jU s.en c.ph c.si,c.ag,c.id⟩ by simp[NE,A]];refine eM call298 λF hF=>?_
  (have ga:=z;have ge:=ND s c;have gn:=DV g s c f3 u C;refine WG ?_;clear ga ge gn)
  exact zH
def HT (x y:Key):Bool:=if x.x0≠y.x0 then decide (x.x0<y.x0)else if x.x1≠y.x1 then decide (x.x1<y.x1)else if x.x2≠y.x2 then decide (x.x2<y.x2)else if x.x3≠y.x3 then decide (x.x3<y.x3)else if x.x4≠y.x4 then decide (x.x4<y.x4)else false
theorem Uk (u cap:Int) (z:List Int) (f3:Int) (x y:Cl):HT (NE u cap z f3 x) (NE u cap z f3 y)=gS u cap z f3 x y:=by
 have neg:∀a b:Int,decide (-a< -b)=decide (b<a):=λa b=>by
  grind
 have A:∀a b:Int,(-a≠ -b)=(a≠b):=λa b=>propext zB
 unfold HT gS NE SW;generalize UI u cap z f3 x.ph x.k x.si=B
 grind [HT,NE,gS,UI,jU,cL]
def dt (g:Cf) (s:Sv) (x y:Cl) (f3:Int) (E:lj g.per f3 s.en x) (G:lj g.per f3 s.en y) (L:jU s.en x.ph x.si<=f3) (M:jU s.en y.ph y.si<=f3) (hc: -1000000<=g.cap/\g.cap<=1000000):zO 249 [wD g,wW s,iA f3,qZ x,qZ y] [] (bA (gS g.per g.cap s.en f3 x y)) []:=by
 have A:=Hx g s x f3 E L hc;have B:=Hx g s y f3 G M hc;rw[<-Uk];generalize NE g.per g.cap s.en f3 x=p,NE g.per g.cap s.en f3 y=q at *;clear hc L M E G;refine eM call249 λF hF=>?_
 (have ga:=A;have ge:=B;refine WG ?_;clear ga ge)
 refine wS (λn st=>∃i:Nat,n+i=5/\(0<i->p.x0=q.x0)/\(1<i->p.x1=q.x1)/\(2<i->p.x2=q.x2)/\(3<i->p.x3=q.x3)/\(4<i->p.x4=q.x4)/\
  st=⟨[(11,.ptr 11 0 0),(12,.ptr 12 0 0),(24,iA i)],[(11,.box [iA p.x0,iA p.x1,iA p.x2,iA p.x3,iA p.x4]),(12,.box [iA q.x0,iA q.x1,iA q.x2,iA q.x3,iA q.x4])]⟩)
  5 [11,12] [11,12,24] Z ⟨0,rfl,zB,zB,zB,zB,zB,rfl⟩ ?_
 rintro n st ⟨i,hi,a0,a1,a2,a3,a4,rfl⟩
 obtain rfl|rfl|rfl|rfl|rfl|rfl:i=0\/i=1\/i=2\/i=3\/i=4\/i=5:=by omega
 .clear A B;by_cases h:p.x0=q.x0
  ·(refine WO ?_)
   exact⟨n-1,zB,1,zB,λ_=>h,zB,zB,zB,zB,rfl⟩
  ·(refine WO ?_)
   refine zI [] Z Z (zBq bA ?_) Z;simp[HT,h,uS]
 .clear A B;have u:=a0 zB;by_cases h:p.x1=q.x1
  ·(refine WO ?_)
   exact⟨n-1,zB,2,zB,λ_=>u,λ_=>h,zB,zB,zB,rfl⟩
  ·(refine WO ?_)
   refine zI [] Z Z (zBq bA ?_) Z;simp[HT,u,h,uS]
 .clear A B;have u:=a0 zB;have z:=a1 zB;by_cases h:p.x2=q.x2
  ·(refine WO ?_)
   exact⟨n-1,zB,3,zB,λ_=>u,λ_=>z,λ_=>h,zB,zB,rfl⟩
  ·(refine WO ?_)
   refine zI [] Z Z (zBq bA ?_) Z;simp[HT,u,z,h,uS]
 .clear A B;have u:=a0 zB;have z:=a1 zB;have C:=a2 zB;by_cases h:p.x3=q.x3
  ·(refine WO ?_)
   exact⟨n-1,zB,4,zB,λ_=>u,λ_=>z,λ_=>C,λ_=>h,zB,rfl⟩
  ·(refine WO ?_)
   refine zI [] Z Z (zBq bA ?_) Z;simp[HT,u,z,C,h,uS]
 .clear A B;have u:=a0 zB;have z:=a1 zB;have C:=a2 zB;have I:=a3 zB;by_cases h:p.x4=q.x4
  ·(refine WO ?_)
   exact⟨n-1,zB,5,zB,λ_=>u,λ_=>z,λ_=>C,λ_=>I,λ_=>h,rfl⟩
  ·(refine WO ?_)
   refine zI [] Z Z (zBq bA ?_) Z;simp[HT,u,z,C,I,h,uS]
 .clear A B;refine WO ?_;refine zI [] Z Z (zBq bA ?_) Z;simp[HT,a0,a1,a2,a3,a4]
def ct (g:Cf) (s:Sv) (f3:Int) (xs:List Cl) (I:ln xs<=1099511627776) (M:∀i,i<ln xs->lj g.per f3 s.en (xs.getD i dd)) (L:∀i,i<ln xs->jU s.en (xs.getD i dd).ph (xs.getD i dd).si<=f3) (hc: -1000000<=g.cap/\g.cap<=1000000):
  zO 196 [wD g,wW s,iA f3,zE qZ xs] [] (iA (qL g s f3 xs (ln xs))) []:=by
 have hl:(xs.map qZ).length=ln xs:=by simp
 refine eM call196 λF hF=>?_
 refine WO ?_
 refine wS (λn st=>∃i:Nat,n+i=ln xs/\st=⟨[(2,iA f3),(3,zE qZ xs),(4,.ptr 4 0 0),(5,.ptr 5 0 0),(9,iA (qL g s f3 xs i)),(12,zE qZ xs),(13,iA (ln xs)),(14,iA i)],[(4,.box [zE wK g.js,zE vP g.ags,iA g.per,iA g.cap,iA g.hold,iA g.lock]),(5,.box [iA s.ph,iA s.gr,zE iA s.en])]⟩)
  (ln xs) [4,5] [2,3,4,5,9,12,13,14] Z ⟨0,rfl,by rw[<-hl];rfl⟩ ?_
 rintro n st ⟨i,hi,rfl⟩;by_cases A:i<ln xs
 .have R:=yF qZ xs i zB zB;have B:=M i A;have C:=L i A;have hb:=bO g s f3 xs i;have u:=NK g s f3 xs i;have z:=jh g s (xs.getD i dd) f3 B;rw[show((i:Int)).toNat=i from Z]at R
  cases hL:CG g.lock s.en f3 (xs.getD i dd).ph (xs.getD i dd).k<;>rw[hL]at z u
  .rw[Os zV]at u;by_cases G:qL g s f3 xs i<0
   .rw[zA5 G]at u
    (have ga:=z;refine WG ?_;clear ga)
    exact⟨n-1,zB,i+1,zB,by rw[u];rfl⟩
   .rw[Os G]at u;have S:=yF qZ xs (qL g s f3 xs i) zB zB;have E:=dt g s (xs.getD i dd) (xs.getD (qL g s f3 xs i).toNat dd) f3 B (M _ zB) C (L _ zB) hc
    cases O:gS g.per g.cap s.en f3 (xs.getD i dd) (xs.getD (qL g s f3 xs i).toNat dd)<;>rw[O]at E u
    .rw[Os zV]at u
     (have ga:=z;have ge:=E;refine WG ?_;clear ga ge)
     exact⟨n-1,zB,i+1,zB,by rw[u];rfl⟩
    .rw[zA5 Z]at u
     (have ga:=z;have ge:=E;refine WG ?_;clear ga ge)
     exact⟨n-1,zB,i+1,zB,by rw[u];rfl⟩
  .rw[zA5 Z]at u
   (have ga:=z;have ge:=z;refine WG ?_;clear ga ge)
   exact⟨n-1,zB,i+1,zB,by rw[u];rfl⟩
 .obtain rfl:i=ln xs:=by omega
  exact ny
theorem bN (P:α->Prop) (d:α):∀(l:List α) (i:Nat),(∀x∈l,P x)->i<ln l->P (l.getD i d)
 |l,i,h,hi=>by simp only[zBj,zB2 hi,zDr];exact h _ (zE0 hi)
def HU (u:List Int) (f3 z:Int) (h:0<=f3) (A:∀e∈u,-1<=e/\e<=f3): -1<=cP u z/\cP u z<=f3:=by
 unfold cP;split
 .omega
 .exact bN (λe=> -1<=e/\e<=f3) 0 u z.toNat A zB
structure ClB (ph f3:Int) (c:Cl):Prop where
 k0:0<=c.k
 k1:c.k<=3
 s0:0<=c.si
 s1:c.si<=f3
 a0:0<=c.ag
 a1:c.ag<=2
 i0:0<=c.id
 i1:c.id<=3
 p0:0<=c.ph
 p1:c.ph<ph
structure Gx (g:Cf) (s:Sv) (l:List Cl) (f3:Int):Prop where
 p0:1<=g.per
 p1:g.per<=5
 c0:0<=g.cap
 c1:g.cap<=5
 h0:1<=g.hold
 h1:g.hold<=4
 l0:0<=g.lock
 l1:g.lock<=6
 len:l.length<=5
 n0:1<=s.en.length
 n1:s.en.length<=8
 en:∀e∈s.en,-1<=e/\e<=f3
 cl:∀c∈l,ClB s.en.length f3 c
theorem Gx.sta (H:Gx g s l f3) (u:0<=f3):∀i,i<ln l->jU s.en (l.getD i dd).ph (l.getD i dd).si<=f3:=λi hi=>by
 obtain⟨a0,z,A,B,C,E,G,I,L,M⟩:=bN (ClB (ln s.en) f3) dd l i H.cl hi;have O:=HU s.en f3 (l.getD i dd).ph u H.en;unfold jU;omega
def HV (f:α->AV) (l:List α):AV.sl false ((l.map f).take (l.map f).length)=zE f l:=by rw[zA8];rfl
def Jb (l:List Int) (hl:ln l<=1073741824):zO 111 [zE iA l] [] (.ref 1001 0 (l.map iA).length) [(1001,.arr 1 (l.map iA) false)]:=by
 have u:=zA iA l;refine eM call111 λF hF=>?_
 refine xI 0 Z (λcap z=>?_) ?_
 .have:l=[]:=by simpa using z
  subst this
  (repeat' (first|refine yf ?_|apply yW|apply xH|intro hc|fail))
  refine qH 2 1001 1 Z Z Z (xL ?_);exact zP [1001] Z Z Z Z
 .repeat' (first|(apply zG;first|refine uN tok Z Z ?_|(apply wT;refine wJ (xX tok (.inl ⟨rfl,rfl⟩) Z Z Z Z) Z ?_)|(apply yI;refine qA (nw:=[1001]) (yV tok 1001 (xs:=[]) Z Z Z Z Z Z Z Z Z) Z Z Z ?_)|(apply yE;refine vC tok Z Z Z Z Z Z Z (yM _ _ (λ_=>rfl)) Z Z Z zB Z ?_)|apply kR)|(first|apply xY|apply xR|refine uD Z ?_|refine yR Z ?_|refine yC Z ?_|refine wA Z (λhc=>?_) λhc=>?_|apply xJ|apply xL|apply xO|apply xC))
  exact zP [1001] Z Z Z Z
def fh (l:List Int) (hl:ln l<=1073741824):zO 111 [zE iA l] [] (zE iA l) []:=by
 have u:=zA iA l;refine eM call111 λF hF=>?_
 refine xI 0 Z (λcap z=>?_) ?_
 .have:l=[]:=by simpa using z
  subst this;exact ly
 ·(refine WW ?_)
  refine zI [] Z Z (HV _ _) Z
structure Te (s:Sv):Prop where
 n:s.en.length<=100000
def dh (s:Sv) (h:Te s):zO 110 [wW s] [] (.agg [iA s.ph,iA s.gr,.ref 1001 0 (s.en.map iA).length]) [(1001,.arr 1 (s.en.map iA) false)]:=by
 have c:=Jb s.en (by have:=h.n;omega);refine eM call110 λF hF=>?_
 refine zS c ?_;exact zP [1001] Z Z Z Z
def HW (s:Sv) (h:Te s):zO 110 [wW s] [] (wW s) []:=by
 have c:=fh s.en (by have:=h.n;omega);refine eM call110 λF hF=>?_
 exact ng c
def NF (s:Sv) (h:Te s):zO 127 [wW s] [] (wW s) []:=by
 have:=h.n;have hl:=zA iA s.en;refine eM call127 λF hF=>?_
 exact nl
def Ib (s:Sv) (h:Te s):zO 127 [wW s] [] (.agg [iA s.ph,iA s.gr,.ref 1001 0 (s.en.map iA).length]) [(1001,.arr 1 (s.en.map iA) false)]:=by
 have:=h.n;have hl:=zA iA s.en;refine eM call127 λF hF=>?_
 (repeat' (first|refine uT ?_|apply yW|apply xH|intro hc|(apply zG;first|(apply yE;refine xE 1001 tok Z Z Z Z Z Z (yM _ _ (λ_=>rfl)) Z Z Z zB Z Z Z ?_))|fail))
 exact zP [1001] Z Z Z Z
def gO (s:Sv) (u:Bool):Sv:=if u=true/\s.ph≠ -1 then⟨s.ph,min s.gr 59+1,s.en⟩else s
def bt (s:Sv) (h:Te s) (b:Bool) (u: -1000000<=s.gr):zO 181 [wW s,bA b] [] (wW (gO s b)) []:=by
 have c:=HW s h;by_cases h1:b=true
 .subst h1;by_cases h2:s.ph= -1
  .rw[show gO s true=s by simp[gO,h2]];refine eM call181 λF hF=>?_
   exact ng c
  .rw[show gO s true=⟨s.ph,min s.gr 59+1,s.en⟩ by simp[gO,h2]];refine eM call181 λF hF=>?_
   exact ng c
 .obtain rfl:b=false:=by simpa using h1
  rw[show gO s false=s by simp[gO]];refine eM call181 λF hF=>?_
  exact ng c
def Sk (s:Sv) (h:Te s) (b:Bool) (u: -1000000<=s.gr/\s.gr<=1000000):zO 136 [wW s,bA b] [] (wW (gO s b)) []:=by
 have c:=NF s h;by_cases h1:b=true
 .subst h1;by_cases h2:s.ph= -1
  .rw[show gO s true=s by simp[gO,h2]];refine eM call136 λF hF=>?_
   exact ng c
  .rw[show gO s true=⟨s.ph,min (s.gr+1) 60,s.en⟩ by simp[gO,h2];omega];refine eM call136 λF hF=>?_
   exact ng c
 .obtain rfl:b=false:=by simpa using h1
  rw[show gO s false=s by simp[gO]];refine eM call136 λF hF=>?_
  exact ng c
def qT (s:Sv) (f3:Int):Sv:=⟨-1,0,if 0<s.gr/\0<=s.ph/\s.ph<ln s.en then s.en.set s.ph.toNat f3 else s.en⟩
theorem DW (f:α->AV) (l:List α) (i:Nat) (x:α) (n:Nat) (u:n=ln l):AV.sl false (((l.map f).set i (f x)).take n)=zE f (l.set i x):=by grind [zE,List.map_set,List.take_of_length_le]
def Rk (s:Sv) (h:Te s) (f3:Int):zO 178 [wW s,iA f3] [] (wW (qT s f3)) []:=by
 have c:=dh s h;have hl:=zA iA s.en;by_cases h1:0<s.gr/\0<=s.ph/\s.ph<ln s.en
 .obtain⟨h2,u,z⟩:=h1;have A:=yF iA s.en s.ph u z;rw[show qT s f3=⟨-1,0,s.en.set s.ph.toNat f3⟩ by simp[qT,h2,u,z]];refine eM call178 λF hF=>?_
  refine zS c ?_;refine zI [] Z Z (zBq (λx=>AV.agg [iA (-1),iA 0,x]) (DW iA s.en s.ph.toNat f3 _ hl)) Z
 .rw[show qT s f3=⟨-1,0,s.en⟩ by unfold qT;rw[Os h1]];refine eM call178 λF hF=>?_
  (have ga:=c;(repeat' (first|refine uT ?_|apply yW|apply xH|intro hc|(apply zG;first|refine SM ?_)|fail))<;>clear ga)
  all_goals (try omega)
  all_goals refine zI [] Z Z (zBq (λx=>AV.agg [iA (-1),iA 0,x]) (HV iA s.en)) Z
def Hb (s:Sv) (h:Te s) (f3:Int):zO 133 [wW s,iA f3] [] (wW (qT s f3)) []:=by
 have c:=Ib s h;have hl:=zA iA s.en;by_cases h1:0<s.gr/\0<=s.ph/\s.ph<ln s.en
 .obtain⟨h2,u,z⟩:=h1;have A:=yF iA s.en s.ph u z;rw[show qT s f3=⟨-1,0,s.en.set s.ph.toNat f3⟩ by simp[qT,h2,u,z]];refine eM call133 λF hF=>?_
  refine zS c ?_;refine zI [] Z Z (zBq (λx=>AV.agg [iA (-1),iA 0,x]) (DW iA s.en s.ph.toNat f3 _ hl)) Z
 .rw[show qT s f3=⟨-1,0,s.en⟩ by unfold qT;rw[Os h1]];refine eM call133 λF hF=>?_
  (have ga:=c;(repeat' (first|refine uT ?_|apply yW|apply xH|intro hc|(apply zG;first|refine SM ?_)|fail))<;>clear ga)
  all_goals (try omega)
  all_goals refine zI [] Z Z (zBq (λx=>AV.agg [iA (-1),iA 0,x]) (HV iA s.en)) Z
def bh (n:Nat):Sv:=⟨-1,0,pb n (-1)⟩
def ot (n:Nat) (h:n<=100000):zO 87 [iA n] [] (wW (bh n)) []:=by
 refine eM call87 λF hF=>?_
 (repeat' (first|refine uT ?_|apply yW|apply xH|intro hc|fail))
 refine zQ 4 1001 1 Z Z Z ?_;refine zN (n) [1001,2,3] [2,3] [2,3,6] [4,7,2,3,6] Z (λi T U=>⟨(4,.ref 1001 0 ((pb i (-1:Int)).map iA).length)::(7,iA i)::T,(1001,.arr 1 ((pb i (-1:Int)).map iA) true)::U⟩) (Lq ?_ ?_)
 .intro i hi;have u:((pb i (-1:Int)).map iA).length=i:=by simp
  have e:(pb (i+1) (-1:Int)).map iA=(pb i (-1:Int)).map iA++[iA (-1)]:=by rw[zFe];simp
  rw[e];generalize (pb i (-1:Int)).map iA=xs at *;refine WL ?_;rfl
 ·(refine WW ?_)
  exact zI [] Z Z (zBq (λx=>AV.agg [iA (-1),iA 0,x]) (HV _ _)) Z
def WK (p:α->Bool) (l:List α):Int:=if l.any p=true then(l.findIdx p:Int)else -1
theorem NG {p:α->Bool} {l f4 post:List α} {x:α} (h:l=f4++x::post) (u:∀y∈f4,p y=false) (z:p x=true):WK p l=(ln f4:Int):=by grind [WK]
theorem SP {p:α->Bool} {l:List α} (u:∀y∈l,p y=false):WK p l= -1:=by grind [WK]
theorem NH (p:α->Bool) (l:List α):(0<=WK p l)=(l.any p=true):=by grind [WK]
theorem HX (p:α->Bool) (l:List α): -1<=WK p l/\WK p l<=ln l:=by grind [WK]
def ah (l:List Cl) (hb:ln l<=1073741824):zO 312 [zE qZ l,.fn 277 []] [] (iA (WK (λc=>cL c.k) l)) []:=by
 have hl:=zA qZ l;refine eM call312 λF hF=>?_
 refine WW ?_;refine uZ (l) [] [] [0,1,7] [8,0,1,7] Z (λi f4 T U E=>(∀y∈f4,cL y.k=false)/\E=⟨(8,iA i)::T,U⟩) (Lp ?_ ?_ ?_)
 .exact⟨by simp,rfl⟩
 .rintro i f4 x post st B hi ⟨hp,rfl⟩;have u:=yG qZ B hi;have C:=zW B hi;have c:=jE x;have A:=NG (p:=λc=>cL c.k) B hp
  cases z:cL x.k<;>rw[z]at c
  ·(refine zS c ?_)
   exact⟨λy u=>by simp at u;rcases u with u|rfl;exact hp y u;exact z,rfl⟩
  .rw[A z,hi];exact ng c
 .rintro st ⟨hp,rfl⟩;rw[SP hp];exact ly
def HY (l:List Cl) (hb:ln l<=1073741824):zO 278 [zE qZ l,.fn 277 []] [] (bA (l.any λc=>cL c.k)) []:=by
 have c:=ah l hb;have h:=NH (λc:Cl=>cL c.k) l;have h2:=HX (λc:Cl=>cL c.k) l;generalize WK (λc:Cl=>cL c.k) l=n at*
 cases u:(l.any λc=>cL c.k)<;>rw[u]at h<;>simp at h
 all_goals
  (refine eM call278 λF hF=>?_)
  exact ng c
def aX (s:Sv):xV:= .box [iA s.ph,iA s.gr,zE iA s.en]
def Qk (s:Sv) (x:Cl):zO 275 [qZ x,.ptr 4 0 0] [(4,aX s)] (bA (x.ph==s.ph)) [(4,aX s)]:=by
 refine eM call275 λF hF=>?_
 refine WW ?_;exact zP [4] Z Z Z Z
def Pk (s:Sv) (x:Cl):zO 276 [qZ x,.ptr 7 0 0] [(7,.box [.fn 275 [.ptr 4 0 0]]),(4,aX s)] (bA (x.ph==s.ph&&cL x.k)) [(7,.box [.fn 275 [.ptr 4 0 0]]),(4,aX s)]:=by
 have c:=Qk s x;have e:=jE x
 cases h:(x.ph==s.ph)<;>rw[h]at c
 ·(refine eM call276 λF hF=>?_)
  refine yJ (xW c e) ?_;exact zP [7,4] Z Z Z Z
 .rw[zBh];refine eM call276 λF hF=>?_
  refine yJ (xW c e) ?_;exact zP [7,4] Z Z Z Z
def DX (s:Sv) (l:List Cl) (hb:ln l<=1073741824):zO 312 [zE qZ l,.fn 275 [.ptr 4 0 0]] [(4,aX s)] (iA (WK (λx:Cl=>x.ph==s.ph) l)) [(4,aX s)]:=by
 have hl:=zA qZ l;refine eM call312 λF hF=>?_
 refine WW ?_;refine uZ (l) [4] [4] [0,1,7] [8,0,1,7] Z (λi f4 T U E=>(∀y∈f4,((λx:Cl=>x.ph==s.ph)) y=false)/\E=⟨(8,iA i)::T,U⟩) (Lp ?_ ?_ ?_)
 .exact⟨by simp,rfl⟩
 .rintro i f4 x post st B hi ⟨hp,rfl⟩;have z:=yG qZ B hi;have C:=zW B hi;have c:=Qk s x;have u:=NG (p:=(λx:Cl=>x.ph==s.ph)) B hp
  try dsimp only at u
  cases A:((λx:Cl=>x.ph==s.ph)) x<;>(dsimp only at A;rw[A]at c)
  ·(refine zS c ?_)
   exact⟨λy z=>by simp only[zBs,zB1]at z;rcases z with z|rfl;exact hp y z;exact A,rfl⟩
  .rw[u A,hi];refine zS c ?_;exact zP [4] Z Z Z Z
 .rintro st ⟨hp,rfl⟩;rw[SP hp];refine WW ?_;exact zP [4] rfl rfl rfl rfl
def NI (s:Sv) (l:List Cl) (hb:ln l<=1073741824):zO 278 [zE qZ l,.fn 275 [.ptr 4 0 0]] [(4,aX s)] (bA (l.any (λx:Cl=>x.ph==s.ph))) [(4,aX s)]:=by
 have c:=DX s l hb;have h:=NH (λx:Cl=>x.ph==s.ph) l;have h2:=HX (λx:Cl=>x.ph==s.ph) l;generalize WK (λx:Cl=>x.ph==s.ph) l=n at*
 cases u:l.any (λx:Cl=>x.ph==s.ph)<;>rw[u]at h<;>simp at h
 all_goals
  (refine eM call278 λF hF=>?_)
  refine zS c ?_;exact zP [4] Z Z Z Z
def Gb (s:Sv) (l:List Cl) (hb:ln l<=1073741824):zO 312 [zE qZ l,.fn 276 [.ptr 7 0 0]] [(7,.box [.fn 275 [.ptr 4 0 0]]),(4,aX s)] (iA (WK (λx:Cl=>x.ph==s.ph&&cL x.k) l)) [(7,.box [.fn 275 [.ptr 4 0 0]]),(4,aX s)]:=by
 have hl:=zA qZ l;refine eM call312 λF hF=>?_
 refine WW ?_;refine uZ (l) [7,4] [7,4] [0,1,7] [8,0,1,7] Z (λi f4 T U E=>(∀y∈f4,((λx:Cl=>x.ph==s.ph&&cL x.k)) y=false)/\E=⟨(8,iA i)::T,U⟩) (Lp ?_ ?_ ?_)
 .exact⟨by simp,rfl⟩
 .rintro i f4 x post st B hi ⟨hp,rfl⟩;have z:=yG qZ B hi;have C:=zW B hi;have c:=Pk s x;have u:=NG (p:=(λx:Cl=>x.ph==s.ph&&cL x.k)) B hp
  try dsimp only at u
  cases A:((λx:Cl=>x.ph==s.ph&&cL x.k)) x<;>(dsimp only at A;rw[A]at c)
  ·(refine zS c ?_)
   exact⟨λy z=>by simp only[zBs,zB1]at z;rcases z with z|rfl;exact hp y z;exact A,rfl⟩
  .rw[u A,hi];refine zS c ?_;exact zP [7,4] Z Z Z Z
 .rintro st ⟨hp,rfl⟩;rw[SP hp];refine WW ?_;exact zP [7,4] rfl rfl rfl rfl
def LY (s:Sv) (l:List Cl) (hb:ln l<=1073741824):zO 278 [zE qZ l,.fn 276 [.ptr 7 0 0]] [(7,.box [.fn 275 [.ptr 4 0 0]]),(4,aX s)] (bA (l.any (λx:Cl=>x.ph==s.ph&&cL x.k))) [(7,.box [.fn 275 [.ptr 4 0 0]]),(4,aX s)]:=by
 have c:=Gb s l hb;have h:=NH (λx:Cl=>x.ph==s.ph&&cL x.k) l;have h2:=HX (λx:Cl=>x.ph==s.ph&&cL x.k) l;generalize WK (λx:Cl=>x.ph==s.ph&&cL x.k) l=n at*
 cases u:l.any (λx:Cl=>x.ph==s.ph&&cL x.k)<;>rw[u]at h<;>simp at h
 all_goals
  (refine eM call278 λF hF=>?_)
  refine zS c ?_;exact zP [7,4] Z Z Z Z
def XV (g:Cf) (s:Sv) (l:List Cl):Bool:=!(l.any λx=>x.ph==s.ph)||decide (g.hold<=s.gr)||((l.any λc=>cL c.k)&& !(l.any λx=>x.ph==s.ph&&cL x.k))
def Gz (g:Cf) (s:Sv) (l:List Cl) (hb:ln l<=1073741824):zO 227 [wD g,wW s,zE qZ l] [] (bA (XV g s l)) []:=by
 have z:=NI s l hb;have A:=LY s l hb;have B:=HY l hb;unfold XV;generalize (l.any λx=>x.ph==s.ph)=m at *;generalize (l.any λx=>x.ph==s.ph&&cL x.k)=u at *;generalize (l.any λc=>cL c.k)=e at *;by_cases h:g.hold<=s.gr
 .rw[zA9 h]
  cases m<;>cases u<;>cases e<;>(simp only[zGf,zE4,zDt,zDk,zEt,zD1,zC6];(refine eM call227 λF hF=>?_);exact mx (qM z B A))
 .rw[zA7 h]
  cases m<;>cases u<;>cases e<;>(simp only[zGf,zE4,zDt,zDk,zEt,zGg,zD1,zC6];(refine eM call227 λF hF=>?_);exact mx (qM z B A))
def fL (g:Cf) (s:Sv) (l:List Cl) (f3:Int):Sv:=if s.ph≠ -1/\XV g s l=true then qT s f3 else s
def uV (g:Cf) (s:Sv) (l:List Cl) (f3:Int):Sv:=
 if(fL g s l f3).ph= -1/\0<=qL g (fL g s l f3) f3 l (ln l) then⟨(l.getD (qL g (fL g s l f3) f3 l (ln l)).toNat dd).ph,0,(fL g s l f3).en⟩else fL g s l f3
def ST (s:Sv) (f3:Int):(qT s f3).en.length=ln s.en:=by unfold qT;dsimp only;split<;>simp
def Ok (g:Cf) (s:Sv) (l:List Cl) (f3:Int):(fL g s l f3).en.length=ln s.en:=by unfold fL;split;exact ST s f3;rfl
structure Nr (g:Cf) (s:Sv) (l:List Cl) (f3:Int):Prop where
 p:1<=g.per
 c0: -1000000<=g.cap
 c1:g.cap<=1000000
 n0:0<=f3
 n1:f3<=1000000000
 en:∀e∈s.en,-1<=e/\e<=f3
 k:∀c∈l,0<=c.k/\c.k<=3
 si:∀c∈l,0<=c.si/\c.si<=f3
 len:l.length<=1000
 sl:s.en.length<=1000
theorem NJ (s:Sv) (f3:Int) (u:0<=f3) (h:∀e∈s.en,-1<=e/\e<=f3):∀e∈(qT s f3).en,-1<=e/\e<=f3:=by grind [qT]
def HZ (g:Cf) (s:Sv) (l:List Cl) (f3:Int) (u:0<=f3) (h:∀e∈s.en,-1<=e/\e<=f3):∀e∈(fL g s l f3).en,-1<=e/\e<=f3:=by
 unfold fL;split;exact NJ s f3 u h;exact h
theorem Nr.ok (H:Nr g s l f3) (u:Sv) (z:∀e∈u.en,-1<=e/\e<=f3):∀i,i<ln l->lj g.per f3 u.en (l.getD i dd):=λi hi=>by
 have hk:=bN (λc:Cl=>0<=c.k/\c.k<=3) dd l i H.k hi;have A:=bN (λc:Cl=>0<=c.si/\c.si<=f3) dd l i H.si hi;have z:=HU u.en f3 (l.getD i dd).ph H.n0 z;have:=H.p;have:=H.n0;have:=H.n1
 constructor<;>(try unfold jU)<;>omega
theorem Nr.sta (H:Nr g s l f3) (u:Sv) (z:∀e∈u.en,-1<=e/\e<=f3):∀i,i<ln l->jU u.en (l.getD i dd).ph (l.getD i dd).si<=f3:=λi hi=>by
 have A:=bN (λc:Cl=>0<=c.si/\c.si<=f3) dd l i H.si hi;have z:=HU u.en f3 (l.getD i dd).ph H.n0 z;unfold jU;omega
def Nk (g:Cf) (s:Sv) (l:List Cl) (f3:Int) (H:Nr g s l f3):zO 179 [wD g,wW s,zE qZ l,iA f3] [] (wW (uV g s l f3)) []:=by
 have hb:Te s:=⟨by have:=H.sl;omega⟩;have u:=HW s hb;have A:=Gz g s l (by have:=H.len;omega);have B:=Rk s hb f3;have hl:=zA qZ l;have M:=H.len;have L:=HZ g s l f3 H.n0 H.en;have z:=S0 g (fL g s l f3) f3 l zB (H.ok _ L);have I:=bO g (fL g s l f3) f3 l (ln l)
 have hd:fL g s l f3=if s.ph≠ -1/\XV g s l=true then qT s f3 else s:=rfl
 unfold uV;generalize fL g s l f3=E at *;generalize qL g E f3 l (ln l)=b at *;generalize XV g s l=R,qT s f3=S at *;by_cases h1:s.ph= -1
 .rw[Os (by simp[h1])]at hd;subst hd;by_cases h2:0<=b
  .rw[zA5 ⟨h1,h2⟩];have O:=yF qZ l b h2 zB;generalize l.getD b.toNat dd=G at *;refine eM call179 λF hF=>?_
   exact mx (xW u z)
  .rw[Os (λh=>h2 h.2)];refine eM call179 λF hF=>?_
   exact mx (xW u z)
 cases R with
 |false=>
  rw[Os zV]at hd;subst hd;rw[Os (λh=>h1 h.1)];refine eM call179 λF hF=>?_
  exact mx (xW u A)
 | true=>
  rw[zA5 ⟨h1,rfl⟩]at hd;subst hd;by_cases C:E.ph= -1
  .by_cases h2:0<=b
   .rw[zA5 ⟨C,h2⟩];have O:=yF qZ l b h2 zB;generalize l.getD b.toNat dd=G at *;refine eM call179 λF hF=>?_
    exact mx (cM u A B z)
   .rw[Os (λh=>h2 h.2)];refine eM call179 λF hF=>?_
    exact mx (cM u A B z)
  .rw[Os (λh=>C h.1)];refine eM call179 λF hF=>?_
   exact mx (cM u A B z)
def Mk (p:α->Bool) (l:List α) (x:α):(l++[x]).any p=(l.any p||p x):=by simp
theorem oh (g:Cf) (s:Sv) (l:List Cl) (f3:Int) (H:Nr g s l f3):zO 134 [wD g,wW s,zE qZ l,iA f3] [] (wW (uV g s l f3)) []:=by
 have hb:Te s:=⟨by have:=H.sl;omega⟩;have E:=NF s hb;have B:=Hb s hb f3;have hl:=zA qZ l;have W:=H.len;have I:=HZ g s l f3 H.n0 H.en;have z:=ct g (fL g s l f3) f3 l zB (H.ok _ I) (H.sta _ I) ⟨H.c0,H.c1⟩;have V:=bO g (fL g s l f3) f3 l (ln l)
 have hd:fL g s l f3=if s.ph≠ -1/\XV g s l=true then qT s f3 else s:=rfl
 have ho:XV g s l=(!(l.any λx=>x.ph==s.ph)||decide (g.hold<=s.gr)||((l.any λc=>cL c.k)&& !(l.any λx=>x.ph==s.ph&&cL x.k))):=rfl;unfold uV;generalize fL g s l f3=R at *;generalize qL g R f3 l (ln l)=b at *;generalize XV g s l=O,qT s f3=s2 at *;by_cases h1:s.ph= -1
 .rw[Os (by simp[h1])]at hd;subst hd;by_cases h2:0<=b
  .rw[zA5 ⟨h1,h2⟩];have M:=yF qZ l b h2 zB;generalize l.getD b.toNat dd=S at *;refine eM call134 λF hF=>?_
   exact mx (xW E z)
  .rw[Os (λh=>h2 h.2)];refine eM call134 λF hF=>?_
   exact mx (xW E z)
 refine eM call134 λF hF=>?_
 refine zS E ?_;refine zU (l) [4,5,8,9] [4,5,8,9] [2,3,4,5,8,9,21,22] [10,11,12,23,2,3,4,5,8,9,21,22] Z (λi f4 T U=>⟨(10,bA (f4.any λx=>x.ph==s.ph))::(11,bA (f4.any λx=>x.ph==s.ph&&cL x.k))::(12,bA (f4.any λc=>cL c.k))::(23,iA i)::T,U⟩) (Lq ?_ ?_)
 .intro i f4 x post L hi;have M:=yG qZ L hi;have Y:=zW L hi;have e:=gR x;simp only[Mk];generalize (f4.any λx=>x.ph==s.ph)=m at *;generalize (f4.any λx=>x.ph==s.ph&&cL x.k)=u at *;generalize (f4.any λc=>cL c.k)=w at *;generalize cL x.k=G at *;by_cases C:x.ph=s.ph
  .rw[show(x.ph==s.ph)=true by simpa using C]
   cases m<;>cases u<;>cases w<;>cases G<;>((refine zS e ?_);rfl)
  .rw[show(x.ph==s.ph)=false by simpa using C]
   cases m<;>cases u<;>cases w<;>cases G<;>((refine zS e ?_);rfl)
 .generalize (l.any λx=>x.ph==s.ph)=m at *;generalize (l.any λx=>x.ph==s.ph&&cL x.k)=u at *;generalize (l.any λc=>cL c.k)=w at*
  have hh:(m=true/\s.gr<g.hold/\(w=false\/u=true)/\O=false)\/O=true:=by
   by_cases h:g.hold<=s.gr<;>cases m<;>cases u<;>cases w<;>simp_all<;>omega
  rcases hh with⟨hm,hg,hw,A⟩|A
  .subst hm A;rw[Os zV]at hd;subst hd;rw[Os (λh=>h1 h.1)]
   cases u<;>cases w<;>first|(simp at hw;done)|(exact ly)
  .subst A;rw[zA5 ⟨h1,rfl⟩]at hd;subst hd
   have hh:g.hold<=s.gr\/s.gr<g.hold/\(m=false\/(w=true/\u=false)):=by
    by_cases h:g.hold<=s.gr<;>cases m<;>cases u<;>cases w<;>simp_all<;>omega
   clear ho;by_cases C:R.ph= -1
   .by_cases h2:0<=b
    .rw[zA5 ⟨C,h2⟩];have M:=yF qZ l b h2 zB;generalize l.getD b.toNat dd=S at *;by_cases h:g.hold<=s.gr
     .cases m<;>cases u<;>cases w<;>(exact mx (xW B z))
     .cases m<;>cases u<;>cases w<;>first|(exfalso;simp at hh;omega)|(exact mx (xW B z))
    .rw[Os (λh=>h2 h.2)];by_cases h:g.hold<=s.gr
     .cases m<;>cases u<;>cases w<;>(exact mx (xW B z))
     .cases m<;>cases u<;>cases w<;>first|(exfalso;simp at hh;omega)|(exact mx (xW B z))
   .rw[Os (λh=>C h.1)];by_cases h:g.hold<=s.gr
    .cases m<;>cases u<;>cases w<;>(exact mx (xW B z))
    .cases m<;>cases u<;>cases w<;>first|(exfalso;simp at hh;omega)|(exact mx (xW B z))
def Se (g:Cf) (s:Sv) (l:List Cl) (f3:Int):(uV g s l f3).en=(fL g s l f3).en:=by unfold uV;split<;>rfl
def YR (g:Cf) (s:Sv) (l:List Cl) (f3:Int):(uV g s l f3).en.length=ln s.en:=by rw[Se];exact Ok g s l f3
theorem Fb (g:Cf) (s:Sv) (l:List Cl) (f3:Int):(fL g s l f3=s\/(s.ph≠ -1/\XV g s l=true/\fL g s l f3=qT s f3)):=by grind [fL,XV,qT]
theorem Re (g:Cf) (s:Sv) (l:List Cl) (f3:Int):(fL g s l f3).ph=s.ph/\(fL g s l f3).gr=s.gr\/(fL g s l f3).ph= -1/\(fL g s l f3).gr=0:=by
 rcases Fb g s l f3 with hd|⟨_,_,hd⟩
 .grind
 .exact .inr (by rw[hd];exact⟨rfl,rfl⟩)
theorem Fz (g:Cf) (s:Sv) (l:List Cl) (f3:Int) (n:Int) (hl:∀c∈l,0<=c.ph/\c.ph<n) (h: -1<=s.ph/\s.ph<n/\0<=s.gr/\s.gr<=60) (u:0<=n): -1<=(uV g s l f3).ph/\(uV g s l f3).ph<n/\0<=(uV g s l f3).gr/\(uV g s l f3).gr<=60:=by
 have h1:=Re g s l f3;have hb:=bO g (fL g s l f3) f3 l (ln l)
 grind [uV]
def Lk (g:Cf) (s:Sv) (l:List Cl) (f3:Int) (u:0<=f3) (h:∀e∈s.en,-1<=e/\e<=f3):∀e∈(uV g s l f3).en,-1<=e/\e<=f3:=by rw[Se];exact HZ g s l f3 u h
def Ez (s:Sv) (b:Bool):(gO s b).en=s.en/\(gO s b).ph=s.ph:=by unfold gO;split<;>exact⟨rfl,rfl⟩
def Dz (s:Sv) (b:Bool) (h:0<=s.gr/\s.gr<=60):0<=(gO s b).gr/\(gO s b).gr<=60:=by unfold gO;split;(dsimp only;omega);exact h
theorem m7 (s:Sv) (b:Bool) (u:s.ph= -1->s.gr=0):(gO s b).ph= -1->(gO s b).gr=0:=by grind [gO]
theorem s7 (g:Cf) (s:Sv) (l:List Cl) (f3:Int) (u:s.ph= -1->s.gr=0):(uV g s l f3).ph= -1->(uV g s l f3).gr=0:=by grind [uV,Re]
structure EI (n:Nat) (d:Dk) (s:Sv) (f3:Int):Prop where
 len:s.en.length=n
 en:∀e∈s.en,-1<=e/\e<f3
 p0: -1<=s.ph
 p1:s.ph<n
 g0:0<=s.gr
 g1:s.gr<=60
 n0:1<=f3
 n1:f3+rem d<=301
 z:s.ph= -1->s.gr=0
theorem EI.next {n:Nat} {d:Dk} (H:EI n d s f3) (g:Cf) (c:List Cl) (u:∀x∈c,ClB n f3 x) (b:Bool) (A:Dk) (hd:rem A+1<=rem d):EI n A (gO (uV g s c f3) b) (f3+1):=by
 have E:=Fz g s c f3 n (λx C=>⟨(u x C).p0,(u x C).p1⟩) ⟨H.p0,H.p1,H.g0,H.g1⟩ zB;have I:=Dz (uV g s c f3) b E.2.2;obtain⟨e1,G⟩:=Ez (uV g s c f3) b;have:=H.n0;have:=H.n1;have B:=Lk g s c f3 zB (λe B=>by have:=H.en e B;omega);refine⟨by rw[e1,YR];exact H.len,λe h=>?_,zB,zB,zB,zB,zB,zB,λh=>?_⟩
 case refine_2=>exact m7 _ b (s7 g s c f3 H.z) h
 grind
def Fx (s:Sg) (h1:ln s.c.li<=1073741824) (h2:ln s.c.nx<=1073741824):zO 108 [vG s] [] (vG s) []:=by
 have u:=JH s.c.li h1;have z:=JG s.c.nx h2;refine eM call108 λF hF=>?_
 exact mx (xW u z)
def Bz (s:Sg) (v:Sv):Bool:=decide (0<=v.ph/\v.ph<ln s.c.li)&&((xS s.c v.ph.toNat).lamp==1)
def ab (g:Cf) (j:Jn) (s:Sg) (v:Sv) (l:List Cl) (k f3:Int):Sg×Sv:=
 if s.lat=true then(s,qT v f3)
 else if(Pe j s (uV g v l f3).ph k).lat=true then(Pe j s (uV g v l f3).ph k,qT (uV g v l f3) f3)
 else(Pe j s (uV g v l f3).ph k,gO (uV g v l f3) (Bz (Pe j s (uV g v l f3).ph k) (uV g v l f3)))
def nt (g:Cf) (j:Jn) (J:JV j) (s:Sg) (C:CV j s.c) (v:Sv) (l:List Cl) (k f3:Int) (H:Nr g v l f3) (I: -1000000<=(uV g v l f3).gr):zO 117 [wD g,wK j,vG s,wW v,zE qZ l,iA k,iA f3] [] (.tup [vG (ab g j s v l k f3).1,wW (ab g j s v l k f3).2]) []:=by
 have hJ:=J.n;have hn:=C.n;have hm:=C.m;have hb:Te v:=⟨by have:=H.sl;omega⟩;have B:Te (uV g v l f3):=⟨by rw[YR];have:=H.sl;omega⟩;have O:=Fx s zB zB;have R:=Rk v hb f3;have E:=Nk g v l f3 H;have G:=Yt j J s C (uV g v l f3).ph k;have S:=Rk (uV g v l f3) B f3;have L:=bt (uV g v l f3) B (Bz (Pe j s (uV g v l f3).ph k) (uV g v l f3)) I;have X:=W0 J C (uV g v l f3).ph k;have V:=X.n;unfold ab;generalize qT v f3=v0,uV g v l f3=z at *;generalize qT z f3=v2 at *;generalize Pe j s z.ph k=x at *;have u:Bz x z=(decide (0<=z.ph/\z.ph<ln x.c.li)&&((xS x.c z.ph.toNat).lamp==1)):=rfl;generalize Bz x z=b at *;generalize gO z b=v3 at *;clear H I X C hb B;obtain⟨sc,Y⟩:=s;obtain⟨A,xl⟩:=x;dsimp only at *;have U:=zA xG A.li
 cases Y with
 |true=>
  rw[zA5 Z];refine eM call117 λF hF=>?_
  exact mx (xW O R)
 |false=>
 rw[Os zBm]
 cases xl with
 |true=>
  rw[zA5 Z];refine eM call117 λF hF=>?_
  exact mx (qM E G S)
 |false=>
 rw[Os zBm];dsimp only;rw[show vG ⟨A,false⟩= .agg [zE xG A.li,iA A.gr,zE iA A.nx,iA A.wt,bA false]from Z]at *; by_cases h1:0<=z.ph
 case neg=>
  rw[zA7 (λh=>h1 h.1),zB8]at u;subst u;refine eM call117 λF hF=>?_
  exact mx (qM E G L)
 by_cases h2:z.ph<ln A.li
 case neg=>
  rw[zA7 (λh=>h2 h.2),zB8]at u;subst u;refine eM call117 λF hF=>?_
  exact mx (qM E G L)
 rw[zA9 ⟨h1,h2⟩,zBh]at u;have W:=yF xG A.li z.ph h1 h2
 change (A.li.map xG)[z.ph.toNat]? =some (xG (xS A z.ph.toNat))at W
 generalize xS A z.ph.toNat=a at *;by_cases M:a.lamp=1
 .rw[show(a.lamp==1)=true by rw[zCp];exact M]at u;subst u;refine eM call117 λF hF=>?_
  exact mx (qM E G L)
 .rw[show(a.lamp==1)=false by rw[zB3];exact M]at u;subst u;refine eM call117 λF hF=>?_
  exact mx (qM E G L)
theorem Az {j:Jn} (J:JV j) {s:Sg} (C:CV j s.c) (g:Cf) (v:Sv) (c:List Cl) (k f3:Int):CV j (ab g j s v c k f3).1.c:=by grind [ab,W0]
def ph2:Ph:=⟨0,0,1,1,1,0,0,0⟩
def j2:Jn:=⟨[ph2],[0],0⟩
structure Ss where
 op:Bool
 dr:Bool
 bf:List Int
 gb:Bool
instance:Inhabited Ss:=⟨⟨false,false,[],false⟩⟩
def UG (m n:Nat):Nat:=min n (256-m)
def Eb (s:Ss) (b:List Int):Ss:=if s.op=true then⟨true,s.dr||decide (UG (ln s.bf) (ln b)≠b.length),s.bf++b.take (UG (ln s.bf) (ln b)),s.gb⟩else s
theorem rt {s:Ss} (h:ln s.bf<=256) (b:List Int):(Eb s b).bf.length<=256:=by grind [Eb,List.length_append,List.length_take,UG]
def Db (l:List Vw) (hl:ln l<=1073741824):zO 173 [zE vV l] [] (.ref 1001 0 (l.map vV).length) [(1001,.arr 4 (l.map vV) false)]:=by
 have u:=zA vV l;refine eM call173 λF hF=>?_
 refine xI 0 Z (λcap z=>?_) ?_
 .have:l=[]:=by simpa using z
  subst this
  (repeat' (first|refine yf ?_|apply yW|apply xH|intro hc|fail))
  refine qH 2 1001 4 Z Z Z (xL ?_);exact zP [1001] Z Z Z Z
 .repeat' (first|(apply zG;first|refine uN tok Z Z ?_|(apply wT;refine wJ (xX tok (.inl ⟨rfl,rfl⟩) Z Z Z Z) Z ?_)|(apply yI;refine qA (nw:=[1001]) (yV tok 1001 (xs:=[]) Z Z Z Z Z Z Z Z Z) Z Z Z ?_)|(apply yE;refine vC tok Z Z Z Z Z Z Z (yM _ _ (λ_=>rfl)) Z Z Z zB Z ?_)|apply kR)|(first|apply xY|apply xR|refine uD Z ?_|refine yR Z ?_|refine yC Z ?_|refine wA Z (λhc=>?_) λhc=>?_|apply xJ|apply xL|apply xO|apply xC))
  exact zP [1001] Z Z Z Z
def nh (l:List Vw) (L:ln l<=1000) (hb:∀v∈l,ln v.co<=1000/\v.cn.length<=1000):zO 112 [zE vV l] [] (zE vV l) []:=by
 have c:=Db l zB;have G:=zA vV l;refine eM call112 λF hF=>?_
 refine zS c ?_;refine zN ((l.map vV).length) [1001] [] [0,7] [8,0,7] Z (λi T U=>⟨(8,iA i)::T,(1001,.arr 4 (dV i (l.map vV)) false)::U⟩) (Lq ?_ ?_)
 .intro i hi;have hi':i<ln l:=by omega
  have z:(dV i (l.map vV))[i]? =some (vV (l.getD i dd)):=zJ vV l i hi';have e:=cH vV l i hi';have E:=hb (l.getD i dd) QZ;have A:=TL (l.getD i dd).co zB;have B:=TL (l.getD i dd).cn zB;generalize (l.getD i dd)=t,dV i (l.map vV)=xs,dV (i+1) (l.map vV)=ys at *;have u:=YL z;have I:(xs.set i (.agg [bA t.fl,bA t.ov,zE iA t.co,zE iA t.cn]))[i]? =some (vV t):=by rw[show AV.agg [bA t.fl,bA t.ov,zE iA t.co,zE iA t.cn]=vV t from Z,u];exact z
  have C:(xs.set i (.agg [bA t.fl,bA t.ov,zE iA t.co,zE iA t.cn])).set i (.agg [bA t.fl,bA t.ov,zE iA t.co,zE iA t.cn])=ys:=by rw[zFj];exact e
  clear e u;subst C;refine yJ (xW A B) ?_;rfl
 ·(refine WW ?_)
  exact zI [] Z Z (zBq (AV.sl false) zA8) Z
def dD (s:Ss):AV:= .agg [bA s.op,bA s.dr,zE yA s.bf,bA s.gb]
structure Ev where
 k:Int
 s:Int
 a:Int
 b:Int
 y:List Int
instance:Inhabited Ev:=⟨⟨0,0,0,0,[]⟩⟩
def hH (e:Ev):AV:= .agg [iA e.k,iA e.s,iA e.a,iA e.b,zE yA e.y]
structure Cy where
 c:Cf
 rf:Bool
 f3:Int
 ds:List wE
 sg:List Sg
 sv:List Sv
 st:List Int
 vw:List Vw
instance:Inhabited wE:=⟨⟨⟨0,⟨[],0,0,[],0,0,0,0⟩,[],[],⟨0,0,0⟩⟩,[],[],[]⟩⟩
instance:Inhabited Sg:=⟨⟨⟨[],0,[],0⟩,false⟩⟩
instance:Inhabited Sv:=⟨⟨-1,0,[]⟩⟩
def ZB (c:Cf) (u:Bool) (f3:Int) (a b s t v:AV):AV:= .agg [zE wK c.js,zE vP c.ags,iA c.per,iA c.cap,iA c.hold,iA c.lock,bA u,iA f3,a,b,s,t,v]
def qX (y:Cy):AV:=ZB y.c y.rf y.f3 (zE zM y.ds) (zE vG y.sg) (zE wW y.sv) (zE iA y.st) (zE vV y.vw)
def dY {y:Cy} (h:y.rf=false):qX y= .agg [zE wK y.c.js,zE vP y.c.ags,iA y.c.per,iA y.c.cap,iA y.c.hold,iA y.c.lock,bA false,iA y.f3,zE zM y.ds,zE vG y.sg,zE wW y.sv,zE iA y.st,zE vV y.vw]:=by rw[<-h];rfl
def GA (y:Cy):AV:=ZB y.c y.rf y.f3 (.ref 1011 0 (y.ds.map zM).length) (.ref 1012 0 (y.sg.map vG).length) (.ref 1013 0 (y.sv.map wW).length) (.ref 1014 0 (y.st.map iA).length) (zE vV y.vw)
def GB (y:Cy):List (Nat×xV):=[(1011,.arr 17 (y.ds.map zM) false),(1012,.arr 5 (y.sg.map vG) false),(1013,.arr 3 (y.sv.map wW) false),(1014,.arr 1 (y.st.map iA) false)]
structure i7 (y:Cy):Prop where
 d:y.ds.length<=1000
 db:∀d∈y.ds,dH d
 g:y.sg.length<=1000
 gb:∀s∈y.sg,s.c.li.length<=1000/\s.c.nx.length<=1000
 s:y.sv.length<=1000
 sb:∀s∈y.sv,s.en.length<=1000
 t:y.st.length<=1000
 v:y.vw.length<=1000
 vb:∀v∈y.vw,v.co.length<=1000/\v.cn.length<=1000
def DY (l:List wE) (hl:ln l<=1073741824):zO 105 [zE zM l] [] (.ref 1011 0 (l.map zM).length) [(1011,.arr 17 (l.map zM) false)]:=by
 have u:=zA zM l;refine eM call105 λF hF=>?_
 refine xI 0 Z (λcap z=>?_) ?_
 .have:l=[]:=by simpa using z
  subst this
  (repeat' (first|refine yf ?_|apply yW|apply xH|intro hc|fail))
  refine qH 2 1011 17 Z Z Z (xL ?_);exact zP [1011] Z Z Z Z
 .repeat' (first|(apply zG;first|refine uN tok Z Z ?_|(apply wT;refine wJ (xX tok (.inl ⟨rfl,rfl⟩) Z Z Z Z) Z ?_)|(apply yI;refine qA (nw:=[1011]) (yV tok 1011 (xs:=[]) Z Z Z Z Z Z Z Z Z) Z Z Z ?_)|(apply yE;refine vC tok Z Z Z Z Z Z Z (yM _ _ (λ_=>rfl)) Z Z Z zB Z ?_)|apply kR)|(first|apply xY|apply xR|refine uD Z ?_|refine yR Z ?_|refine yC Z ?_|refine wA Z (λhc=>?_) λhc=>?_|apply xJ|apply xL|apply xO|apply xC))
  exact zP [1011] Z Z Z Z
def DZ (l:List Sg) (hl:ln l<=1073741824):zO 107 [zE vG l] [] (.ref 1012 0 (l.map vG).length) [(1012,.arr 5 (l.map vG) false)]:=by
 have u:=zA vG l;refine eM call107 λF hF=>?_
 refine xI 0 Z (λcap z=>?_) ?_
 .have:l=[]:=by simpa using z
  subst this
  (repeat' (first|refine yf ?_|apply yW|apply xH|intro hc|fail))
  refine qH 2 1012 5 Z Z Z (xL ?_);exact zP [1012] Z Z Z Z
 .repeat' (first|(apply zG;first|refine uN tok Z Z ?_|(apply wT;refine wJ (xX tok (.inl ⟨rfl,rfl⟩) Z Z Z Z) Z ?_)|(apply yI;refine qA (nw:=[1012]) (yV tok 1012 (xs:=[]) Z Z Z Z Z Z Z Z Z) Z Z Z ?_)|(apply yE;refine vC tok Z Z Z Z Z Z Z (yM _ _ (λ_=>rfl)) Z Z Z zB Z ?_)|apply kR)|(first|apply xY|apply xR|refine uD Z ?_|refine yR Z ?_|refine yC Z ?_|refine wA Z (λhc=>?_) λhc=>?_|apply xJ|apply xL|apply xO|apply xC))
  exact zP [1012] Z Z Z Z
def CA (l:List Sv) (hl:ln l<=1073741824):zO 109 [zE wW l] [] (.ref 1013 0 (l.map wW).length) [(1013,.arr 3 (l.map wW) false)]:=by
 have u:=zA wW l;refine eM call109 λF hF=>?_
 refine xI 0 Z (λcap z=>?_) ?_
 .have:l=[]:=by simpa using z
  subst this
  (repeat' (first|refine yf ?_|apply yW|apply xH|intro hc|fail))
  refine qH 2 1013 3 Z Z Z (xL ?_);exact zP [1013] Z Z Z Z
 .repeat' (first|(apply zG;first|refine uN tok Z Z ?_|(apply wT;refine wJ (xX tok (.inl ⟨rfl,rfl⟩) Z Z Z Z) Z ?_)|(apply yI;refine qA (nw:=[1013]) (yV tok 1013 (xs:=[]) Z Z Z Z Z Z Z Z Z) Z Z Z ?_)|(apply yE;refine vC tok Z Z Z Z Z Z Z (yM _ _ (λ_=>rfl)) Z Z Z zB Z ?_)|apply kR)|(first|apply xY|apply xR|refine uD Z ?_|refine yR Z ?_|refine yC Z ?_|refine wA Z (λhc=>?_) λhc=>?_|apply xJ|apply xL|apply xO|apply xC))
  exact zP [1013] Z Z Z Z
def CB (l:List Int) (hl:ln l<=1073741824):zO 111 [zE iA l] [] (.ref 1014 0 (l.map iA).length) [(1014,.arr 1 (l.map iA) false)]:=by
 have u:=zA iA l;refine eM call111 λF hF=>?_
 refine xI 0 Z (λcap z=>?_) ?_
 .have:l=[]:=by simpa using z
  subst this
  (repeat' (first|refine yf ?_|apply yW|apply xH|intro hc|fail))
  refine qH 2 1014 1 Z Z Z (xL ?_);exact zP [1014] Z Z Z Z
 .repeat' (first|(apply zG;first|refine uN tok Z Z ?_|(apply wT;refine wJ (xX tok (.inl ⟨rfl,rfl⟩) Z Z Z Z) Z ?_)|(apply yI;refine qA (nw:=[1014]) (yV tok 1014 (xs:=[]) Z Z Z Z Z Z Z Z Z) Z Z Z ?_)|(apply yE;refine vC tok Z Z Z Z Z Z Z (yM _ _ (λ_=>rfl)) Z Z Z zB Z ?_)|apply kR)|(first|apply xY|apply xR|refine uD Z ?_|refine yR Z ?_|refine yC Z ?_|refine wA Z (λhc=>?_) λhc=>?_|apply xJ|apply xL|apply xO|apply xC))
  exact zP [1014] Z Z Z Z
def CD (y:Cy) (h:i7 y):zO 44 [qX y] [] (GA y) (GB y):=by
 have G:=DY y.ds (by have:=h.d;omega);have I:=DZ y.sg (by have:=h.g;omega);have L:=CA y.sv (by have:=h.s;omega);have M:=CB y.st (by have:=h.t;omega);have O:=nh y.vw h.v h.vb;have A:=zA zM y.ds;have B:=zA vG y.sg;have C:=zA wW y.sv;have E:=zA iA y.st;have hd:=h.d;have R:=h.g;have S:=h.s;unfold qX GA ZB GB;refine eM call44 λF hF=>?_
 refine zS G ?_;refine zN ((y.ds.map zM).length) [1011,1,2] [1,2] [1,2,12] [13,1,2,12] Z (λi T U=>⟨(13,iA i)::T,(1011,.arr 17 (dV i (y.ds.map zM)) false)::U⟩) (Lq ?_ ?_)
 .intro i hi;have hi':i<ln y.ds:=by omega
  have z:(dV i (y.ds.map zM))[i]? =some (zM (y.ds.getD i dd)):=zJ zM y.ds i hi';have e:=cH zM y.ds i hi';have u:=LG (y.ds.getD i dd) (h.db _ QZ);generalize (y.ds.getD i dd)=t,dV i (y.ds.map zM)=xs,dV (i+1) (y.ds.map zM)=ys at *;subst e;refine zS u ?_;rfl
 ·(refine zS I ?_)
  refine zN ((y.sg.map vG).length) [1012,1,2,1011] [1,2,1011] [1,2,33] [34,1,2,33] Z (λi T U=>⟨(34,iA i)::T,(1012,.arr 5 (dV i (y.sg.map vG)) false)::U⟩) (Lq ?_ ?_)
  .intro i hi;have hi':i<ln y.sg:=by omega
   have z:(dV i (y.sg.map vG))[i]? =some (vG (y.sg.getD i dd)):=zJ vG y.sg i hi';have e:=cH vG y.sg i hi';have u:=Fx (y.sg.getD i dd) (by have:=h.gb (y.sg.getD i dd) QZ;omega) (by have:=h.gb (y.sg.getD i dd) QZ;omega);generalize (y.sg.getD i dd)=t,dV i (y.sg.map vG)=xs,dV (i+1) (y.sg.map vG)=ys at *;subst e;refine zS u ?_;rfl
  ·(refine zS L ?_)
   refine zN ((y.sv.map wW).length) [1013,1,2,1011,1012] [1,2,1011,1012] [1,2,54] [55,1,2,54] Z (λi T U=>⟨(55,iA i)::T,(1013,.arr 3 (dV i (y.sv.map wW)) false)::U⟩) (Lq ?_ ?_)
   .intro i hi;have hi':i<ln y.sv:=by omega
    have z:(dV i (y.sv.map wW))[i]? =some (wW (y.sv.getD i dd)):=zJ wW y.sv i hi';have e:=cH wW y.sv i hi';have u:=HW (y.sv.getD i dd) ⟨by have:=h.sb (y.sv.getD i dd) QZ;omega⟩;generalize (y.sv.getD i dd)=t,dV i (y.sv.map wW)=xs,dV (i+1) (y.sv.map wW)=ys at *;subst e;refine zS u ?_;rfl
   ·(refine yJ (xW M O) ?_)
    exact zP [1011,1012,1013,1014] Z Z Z Z
def Qe {n:Nat} {l:List AV} {y:Cy} (k:zO n l [] (GA y) (GB y)):zO n l [] (qX y) []:=by
 refine k.frz [] ?_ Z Z
 show AV.agg [zE wK y.c.js,zE vP y.c.ags,iA y.c.per,iA y.c.cap,iA y.c.hold,iA y.c.lock,bA y.rf,iA y.f3,.sl false (pi (y.ds.map zM).length (y.ds.map zM)),.sl false (pi (y.sg.map vG).length (y.sg.map vG)),.sl false (pi (y.sv.map wW).length (y.sv.map wW)),.sl false (pi (y.st.map iA).length (y.st.map iA)),zE vV y.vw]=_
 rw[zA8,zA8,zA8,zA8];rfl
def Kk (y:Cy) (h:i7 y):zO 44 [qX y] [] (qX y) []:=Qe (CD y h)
