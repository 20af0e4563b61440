/- Part 21. -/
import Derived.Test.YtaglbcjljlkjcaaGreatU14
namespace Go.Proofs.YtaglbcjljlkjcaaGreat.Av
open Tryz
set_option linter.all false
set_option maxRecDepth 4000
set_option maxHeartbeats 1000000
open List renaming length->ln,range->pi,getD->py
open Inhabited renaming default->dd
variable {j:Jn}{p:Nat}
structure Li where
 lamp:Int
 tk:Int
structure Ct where
 li:List Li
 gr:Int
 nx:List Int
 wt:Int
variable {c:Ct}
instance:Inhabited Li:=⟨⟨0,0⟩⟩
def xE (l:Li):AV:= .agg [iA l.lamp,iA l.tk]
def JU (c:Ct):AV:= .agg [zE xE c.li,iA c.gr,zE iA c.nx,iA c.wt]
def kC (u:List Int) (p q:Int):Bool:=decide (0<=p/\0<=q/\p<ln u/\q<ln u)&&(kX (vQ (u.getD p.toNat dd) q) 1==1)
def yf (p:Ph):Int:=max p.ming (p.walk+p.clear)
def BJ (p:Ph) (l:Li) (lv:Bool):Li:=
 if l.lamp=1 then(if lv=true/\yf p<=l.tk+1 then⟨2,0⟩else⟨1,min (l.tk+1) 1073741824⟩)
 else if l.lamp=2 then(if l.tk+1<p.yel then⟨2,l.tk+1⟩else if p.red=0 then⟨0,0⟩else⟨3,0⟩)
 else if l.lamp=3 then(if l.tk+1<p.red then⟨3,l.tk+1⟩else⟨0,0⟩)
 else l
def Ea (p:Ph) (l:Li):Bool:=if l.lamp=0 then decide (l.tk=0)else if l.lamp=1 then decide (0<=l.tk/\l.tk<=1073741824)else if l.lamp=2 then decide (0<=l.tk/\l.tk<p.yel)else if l.lamp=3 then decide (0<=l.tk/\l.tk<p.red)else false
def yG (j:Jn) (p:Nat):Ph:=j.ph.getD p dd
def xR (c:Ct) (p:Nat):Li:=c.li.getD p dd
def BK (j:Jn) (r g p:Int):Prop:=0<=p/\p<ln j.ph/\(yG j p.toNat).ring=r/\(yG j p.toNat).group=g
def Da (u:List Ph):Nat->Int
 |0=>0
 |i+1=>max (Da u i) ((u.getD i dd).group+1)
def gN (j:Jn):Int:=Da j.ph (ln j.ph)
theorem om (u:List Ph) (n:Nat):∀i,i<n->(u.getD i dd).group+1<=Da u n:=by
 induction n with
 |zero=>intro i h;exact absurd h (zCp _)
 |succ n z=>
  grind [Da]
def LS (j:Jn) (r:Int) (i:Nat):List Nat:=(pi i).filter λp=>(yG j p).ring==r
def QU (j:Jn) (r:Int):List Nat:=LS j r (ln j.ph)
theorem cT {r:Int} :p∈QU j r↔p<ln j.ph/\(yG j p).ring=r:=by grind [QU,yG,LS]
def jH (j:Jn) (r g f:Int):Int:=match (QU j r).find? (λp:Nat=>decide (f<=(p:Int))&&(yG j p).group==g)with
 |some p=>p
 |none=> -1
theorem BL (j:Jn) (r g f:Int):jH j r g f= -1\/BK j r g (jH j r g f)/\f<=jH j r g f:=by
 unfold jH;split
 .rename_i p h;have h1:=List.find?_some h;have h2:=cT.1 (zF2 h)
  grind [jH,BK]
 .exact .inl Z
def QD (j:Jn) (c:Ct) (g:Int):Ct:=⟨c.li,g,[jH j 0 g 0,jH j 1 g 0],c.wt⟩
def dQ (j:Jn) (c:Ct) (p:Int):Bool:=(pi (ln c.li)).any λq=>(xR c q).lamp != 0&&kC j.cf p q
def BM (c:Ct) (p:Nat):Ct:=⟨c.li.set p ⟨1,0⟩,c.gr,c.nx,c.wt⟩
def MD (j:Jn) (c:Ct) (p:Nat):Ct:=if c.gr=(yG j p).group then BM c p else QD j (BM c p) (yG j p).group
def uD (j:Jn) (c:Ct) (p:Nat):Ct:=
 if dQ j c p=true then c
 else⟨(MD j c p).li,(MD j c p).gr,(MD j c p).nx.set (yG j p).ring.toNat (jH j (yG j p).ring (yG j p).group (p+1)),(MD j c p).wt⟩
def VH (j:Jn) (c:Ct) (r:Int):Bool:=(QU j r).all λp=>(xR c p).lamp==0
def EL (j:Jn) (x r t:Int):Int:=match (QU j r).find? (λp:Nat=>!kC j.cf p t&&decide (x≠ -1/\x<=(p:Int)))with
 |some p=>p
 |none=>match (QU j r).find? (λp:Nat=>!kC j.cf p t)with
  |some p=>p
  |none=> -1
def aW (j:Jn) (c:Ct) (r:Int) (t:Nat):Int:=if r=(yG j t).ring then t else EL j (c.nx.getD r.toNat dd) r t
def jC (j:Jn) (t:Nat) (c:Ct) (r:Int):Ct:=if VH j c r=true then(if aW j c r t= -1 then c else uD j c (aW j c r t).toNat)else c
def Ca (c:Ct):Bool:=c.li.all λl=>l.lamp==0
def nj (c:Ct):Bool:=Ca c&&c.nx.all λp=>p== -1
def vL (j:Jn) (c:Ct) (r:Int):Ct:=if VH j c r=true/\c.nx.getD r.toNat dd≠ -1 then uD j c (c.nx.getD r.toNat dd).toNat else c
def Ba (j:Jn) (c:Ct):Ct:=vL j (vL j (if nj c=true then QD j c ((c.gr+1) % gN j)else c) 0) 1
def ZS (j:Jn) (t:Int):Bool:=decide (0<=t/\t<ln j.ph)
def GK (j:Jn) (c:Ct) (t:Int) (p:Nat):Bool:=
 if ZS j t=true then decide ((p:Int)≠t)&&(decide ((yG j p).maxg<=(xR c p).tk+1)||kC j.cf p t)else decide ((yG j p).maxg<=(xR c p).tk+1)
def UV (j:Jn) (c:Ct) (t:Int):List Li:=(pi (ln j.ph)).map λp=>BJ (yG j p) (xR c p) (GK j c t p)
def GL (j:Jn) (c:Ct) (t:Int):Ct:=
 if 0<c.wt then⟨c.li,c.gr,c.nx,c.wt-1⟩
 else if ZS j t=true then jC j t.toNat (jC j t.toNat ⟨UV j c t,c.gr,c.nx,c.wt⟩ 0) 1
 else Ba j ⟨UV j c t,c.gr,c.nx,c.wt⟩
structure JV (j:Jn):Prop where
 n:1<=j.ph.length/\j.ph.length<=8
 c:j.cf.length=j.ph.length
 row:∀i,i<j.ph.length->0<=j.cf.getD i default/\j.cf.getD i default<2 ^ j.ph.length
 ir:∀p:Nat,p<j.ph.length->kC j.cf p p=false
 sy:∀p q:Nat,p<j.ph.length->q<j.ph.length->kC j.cf p q=kC j.cf q p
 ap:∀p q:Nat,p<j.ph.length->q<j.ph.length->p≠q->(yG j p).ring=(yG j q).ring\/(yG j p).group≠(yG j q).group->kC j.cf p q=true
 rg:∀p:Nat,p<j.ph.length->0<=(yG j p).ring/\(yG j p).ring<=1
 gp:∀p:Nat,p<j.ph.length->0<=(yG j p).group/\(yG j p).group<=3
 ti:∀p:Nat,p<j.ph.length->1<=(yG j p).ming/\(yG j p).ming<=(yG j p).maxg/\(yG j p).maxg<=60/\1<=(yG j p).yel/\(yG j p).yel<=60/\0<=(yG j p).red/\(yG j p).red<=60/\0<=(yG j p).walk/\(yG j p).walk<=60/\0<=(yG j p).clear/\(yG j p).clear<=60/\(yG j p).walk+(yG j p).clear<=(yG j p).maxg/\((yG j p).walk=0↔(yG j p).clear=0)
 lo:∀p:Nat,p<j.ph.length->∀g:Int,0<=g->g<(yG j p).group->∃q:Nat,q<j.ph.length/\(yG j q).group=g
 st:0<=j.st/\j.st<=60
structure CV (j:Jn) (c:Ct):Prop where
 n:c.li.length=j.ph.length
 k:∀p,p<j.ph.length->Ea (yG j p) (xR c p)=true
 x:∀p q:Nat,p<j.ph.length->q<j.ph.length->p≠q->(xR c p).lamp≠0->(xR c q).lamp≠0->kC j.cf p q=false
 g:0<=c.gr/\c.gr<gN j
 m:c.nx.length=2
 v:∀r:Nat,r<2->c.nx.getD r default= -1\/BK j r c.gr (c.nx.getD r default)
 w:0<=c.wt/\c.wt<=j.st
 z:c.wt=0\/∀p,p<j.ph.length->(xR c p).lamp=0
theorem PV (J:JV j):1<=gN j:=by
 have h1:=om j.ph (ln j.ph) 0 DW;have h2:=J.gp 0 DW
 grind [gN,yG]
theorem Gx (j:Jn) (c:Ct) (g:Int):∀r:Nat,r<2->(QD j c g).nx.getD r dd= -1\/BK j r g ((QD j c g).nx.getD r dd):=by
 intro r u;have:r=0\/r=1:=by omega
 grind [QD,BK,BL]
def BN (C:CV j c) {g:Int} (u:0<=g/\g<gN j):CV j (QD j c g):=
 ⟨C.n,C.k,C.x,u,rfl,Gx j c g,C.w,C.z⟩
theorem uu (c:Ct) (p q:Nat) (l:Li) (u:Int) (nx:List Int) (z:Int) (A:p<ln c.li):xR ⟨c.li.set p l,u,nx,z⟩ q=if q=p then l else xR c q:=by grind [nx,xR]
def F6 (J:JV j) (C:CV j c) (G:c.wt=0) (L:p<ln j.ph) (hk:dQ j c p=false):CV j (BM c p):=by
 have hl:=C.n
 have E:∀q,xR (BM c p) q=if q=p then⟨1,0⟩else xR c q:=λq=>uu c p q _ _ _ _ zB
 unfold dQ at hk;rw[zDc]at hk
 have hc:∀q:Nat,q<ln j.ph->(xR c q).lamp≠0->kC j.cf p q=false:=λq u I=>by
  grind
 refine⟨by unfold BM;simpa using hl,λq u=>?_,λq r u B z h1 h2=>?_,C.g,C.m,C.v,C.w,.inl G⟩
 .rw[E];split
  .rfl
  .exact C.k q u
 .rw[E]at h1 h2;by_cases e1:q=p
  .grind
  .rw[Os e1]at h1;by_cases A:r=p
   .subst A;rw[J.sy q r u B];exact hc q u h1
   .rw[Os A]at h2;exact C.x q r u B z h1 h2
def E6 (J:JV j) (C:CV j c) (u:c.wt=0) (z:p<ln j.ph) (hk:dQ j c p=false):CV j (MD j c p)/\(MD j c p).gr=(yG j p).group/\(MD j c p).wt=0:=by
 have h1:=F6 J C u z hk;unfold MD;split
 .rename_i h;exact⟨h1,h,u⟩
 .have A:=J.gp p z;have:=om j.ph (ln j.ph) p z;exact⟨BN h1 ⟨A.1,by unfold gN;unfold yG;omega⟩,rfl,u⟩
theorem Fx (J:JV j) (C:CV j c) (A:c.wt=0) (E:p<ln j.ph):CV j (uD j c p)/\(uD j c p).wt=0:=by
 unfold uD;split
 .exact⟨C,A⟩
 .rename_i hk;obtain⟨B,I,G⟩:=E6 J C A E (by simpa using hk);have L:=J.rg p E;refine⟨⟨B.n,B.k,B.x,B.g,by rw[zB9];exact B.m,λr u=>?_,B.w,B.z⟩,G⟩;have M:=BL j (yG j p).ring (yG j p).group (p+1);generalize jH j (yG j p).ring (yG j p).group (p+1)=f at *;dsimp only
  have e:((MD j c p).nx.set (yG j p).ring.toNat f).getD r dd=if r=(yG j p).ring.toNat then f else(MD j c p).nx.getD r dd:=by
   simp only[zA5,zD1];split
   .rename_i h;subst h;rw[zAs Z,B.m,zAs u];rfl
   all_goals grind
  rw[e];split
  .grind
  .exact B.v r u
theorem BO (j:Jn) (x r t:Int):EL j x r t= -1\/∃p:Nat,EL j x r t=p/\p<ln j.ph/\(yG j p).ring=r/\kC j.cf p t=false:=by
 unfold EL;split
 .rename_i p h;have h1:=List.find?_some h;have h2:=cT.1 (zF2 h)
  grind
 all_goals grind [EL,yG,kC,cT,List.mem_of_find?_eq_some,Bool.not_eq_true']
theorem rm {r:Int} {t:Nat} (u:t<ln j.ph):aW j c r t= -1\/∃p:Nat,aW j c r t=p/\p<ln j.ph/\(yG j p).ring=r:=by grind [aW,yG,BO]
theorem sm (J:JV j) (C:CV j c) (u:c.wt=0) {t:Nat} (z:t<ln j.ph) (r:Int):CV j (jC j t c r)/\(jC j t c r).wt=0:=by grind [jC,rm,Int.toNat_natCast,Fx]
theorem ZT (J:JV j) (C:CV j c) (u:c.wt=0) {r:Nat} (z:r<2):CV j (vL j c r)/\(vL j c r).wt=0:=by
 unfold vL;split
 .rename_i h;rw[zBh]at h⊢
  rcases C.v r z with h1|h1
  .grind
  .exact Fx J C u (by have:=h1.2.1;have:=h1.1;omega)
 .exact⟨C,u⟩
theorem D6 (J:JV j) (C:CV j c) (u:c.wt=0):CV j (Ba j c):=by
 have h1:CV j (if nj c=true then QD j c ((c.gr+1) % gN j)else c)/\(if nj c=true then QD j c ((c.gr+1) % gN j)else c).wt=0:=by
  split
  .have:=PV J;exact⟨BN C ⟨zD2 _ zB,zDk _ zB⟩,u⟩
  .exact⟨C,u⟩
 have h2:=ZT J h1.1 h1.2 (r:=0) zB;exact(ZT J h2.1 h2.2 (r:=1) zB).1
theorem F9 {p:Ph} {l:Li} {lv:Bool} (z:1<=p.yel) (u:0<=p.red) (h:Ea p l=true):Ea p (BJ p l lv)=true/\((BJ p l lv).lamp≠0->l.lamp≠0):=by grind [Ea,BJ]
theorem im (t u:Int) (nx:List Int) (z:Int) (p:Nat) (A:p<ln j.ph):xR ⟨UV j c t,u,nx,z⟩ p=BJ (yG j p) (xR c p) (GK j c t p):=by grind [nx,xR,UV,BJ,yG,GK]
theorem Zm (J:JV j) (C:CV j c) (E:c.wt=0) (t:Int):CV j ⟨UV j c t,c.gr,c.nx,c.wt⟩:=by
 have B:=λp u=>F9 (lv:=GK j c t p) (by have:=J.ti p u;omega) (by have:=J.ti p u;omega) (C.k p u)
 refine⟨by simp[UV],λp u=>?_,λp q u A z h1 h2=>?_,C.g,C.m,C.v,C.w,.inl E⟩
 .grind [UV,im]
 .rw[im _ _ _ _ _ u]at h1;rw[im _ _ _ _ _ A]at h2;exact C.x p q u A z ((B p u).2 h1) ((B q A).2 h2)
theorem Ym (J:JV j) (C:CV j c) (t:Int):CV j (GL j c t):=by
 unfold GL;split
 .rename_i h;have u:=C.z;have B:=C.w;refine⟨C.n,C.k,C.x,C.g,C.m,C.v,by dsimp only;omega,?_⟩
  rcases u with u|u
  .omega
  .exact .inr u
 .have A:c.wt=0:=by have:=C.w;omega
  grind [GL,Zm,ZS,sm,D6]
def gU (u:List Int) (C:ln u<=40) (p q:Int):zN 257 [zE iA u,iA p,iA q] [] (bA (kC u p q)) []:=by
 have hl:=zA iA u;unfold kC;by_cases h1:0<=p
 case neg=>
  rw[zAu (λh=>h1 h.1)];refine eM call257 λF hF=>?_
  exact mx
 by_cases h2:0<=q
 case neg=>
  rw[zAu (λh=>h2 h.2.1)];refine eM call257 λF hF=>?_
  exact mx
 by_cases z:p<ln u
 case neg=>
  rw[zAu (λh=>z h.2.2.1)];refine eM call257 λF hF=>?_
  exact mx
 by_cases A:q<ln u
 case neg=>
  rw[zAu (λh=>A h.2.2.2)];refine eM call257 λF hF=>?_
  exact mx
 rw[zAw ⟨h1,h2,z,A⟩,zA3];have E:=yE iA u p h1 z;generalize u.getD p.toNat dd=x at *;by_cases B:kX (vQ x q) 1=1
 .rw[show(kX (vQ x q) 1==1)=true by rw[zB8];exact B];refine eM call257 λF hF=>?_
  exact mx
 .rw[show(kX (vQ x q) 1==1)=false by rw[zBn];exact B];refine eM call257 λF hF=>?_
  exact mx
def Ex (p:Ph):Prop:=0<=p.walk/\p.walk<=60/\0<=p.clear/\p.clear<=60
def xf (p:Ph) (h:Ex p):zN 209 [xN p] [] (iA (yf p)) []:=by
 obtain⟨h1,h2,u,z⟩:=h;refine eM call209 λF hF=>?_
 exact mx
def qu (p:Ph) (h:Ex p) (l:Li) (A: -1000000000000<=l.tk/\l.tk<=1000000000000) (lv:Bool):zN 282 [xN p,xE l,bA lv] [] (xE (BJ p l lv)) []:=by
 have c:=xf p h;unfold BJ;by_cases h1:l.lamp=1
 .rw[zAs h1];generalize yf p=n at*
  cases lv with
  |false=>
   rw[Os (λh=>by cases h.1)];refine eM call282 λF hF=>?_
   exact mx
  |true=>
  by_cases h2:n<=l.tk+1
  .rw[zAs ⟨rfl,h2⟩];refine eM call282 λF hF=>?_
   exact nl c
  .rw[Os (λh=>h2 h.2)];refine eM call282 λF hF=>?_
   exact nl c
 rw[Os h1];by_cases h2:l.lamp=2
 .rw[zAs h2];by_cases u:l.tk+1<p.yel
  .rw[zAs u];refine eM call282 λF hF=>?_
   exact mx
  rw[Os u];by_cases z:p.red=0
  .rw[zAs z];refine eM call282 λF hF=>?_
   exact mx
  .rw[Os z];refine eM call282 λF hF=>?_
   exact mx
 rw[Os h2];by_cases u:l.lamp=3
 .rw[zAs u];by_cases z:l.tk+1<p.red
  .rw[zAs z];refine eM call282 λF hF=>?_
   exact mx
  .rw[Os z];refine eM call282 λF hF=>?_
   exact mx
 .rw[Os u];refine eM call282 λF hF=>?_
  exact mx
def Xm (p:Ph) (l:Li):zN 316 [xN p,xE l] [] (bA (Ea p l)) []:=by
 unfold Ea;by_cases u:l.lamp=0
 .rw[zAs u];by_cases h:l.tk=0
  .rw[zAw h];refine eM call316 λF hF=>?_
   exact mx
  .rw[zAu h];refine eM call316 λF hF=>?_
   exact mx
 rw[Os u];by_cases h1:l.lamp=1
 .rw[zAs h1];by_cases h:0<=l.tk
  .by_cases h':l.tk<=1073741824
   .rw[zAw ⟨h,h'⟩];refine eM call316 λF hF=>?_
    exact mx
   .rw[zAu (λk=>h' k.2)];refine eM call316 λF hF=>?_
    exact mx
  .rw[zAu (λk=>h k.1)];refine eM call316 λF hF=>?_
   exact mx
 rw[Os h1];by_cases h2:l.lamp=2
 .rw[zAs h2];by_cases h:0<=l.tk
  .by_cases h':l.tk<p.yel
   .rw[zAw ⟨h,h'⟩];refine eM call316 λF hF=>?_
    exact mx
   .rw[zAu (λk=>h' k.2)];refine eM call316 λF hF=>?_
    exact mx
  .rw[zAu (λk=>h k.1)];refine eM call316 λF hF=>?_
   exact mx
 rw[Os h2];by_cases z:l.lamp=3
 .rw[zAs z];by_cases h:0<=l.tk
  .by_cases h':l.tk<p.red
   .rw[zAw ⟨h,h'⟩];refine eM call316 λF hF=>?_
    exact mx
   .rw[zAu (λk=>h' k.2)];refine eM call316 λF hF=>?_
    exact mx
  .rw[zAu (λk=>h k.1)];refine eM call316 λF hF=>?_
   exact mx
 .rw[Os z];refine eM call316 λF hF=>?_
  exact mx
theorem UW (j:Jn) (r:Int) (i:Nat):LS j r (i+1)=if(yG j i).ring=r then LS j r i++[i]else LS j r i:=by grind [LS,yG,List.range_succ]
theorem GM (j:Jn) (r:Int):∀n i,i<=n->∃l,LS j r n=LS j r i++l
 |0,i,h=>⟨[],by rw[Nat.le_zero.1 h];simp⟩
 | n+1,i,h=>by
  by_cases e:i=n+1
  .exact⟨[],by rw[e];simp⟩
  .obtain⟨l,hl⟩:=GM j r n i zB;rw[UW];split
   .exact⟨l++[n],by rw[hl,zBl]⟩
   .exact⟨l,hl⟩
def Oh (j:Jn) (r:Int):List (Nat×xW):=[(1003,.box [zE xN j.ph,zE iA j.cf,iA j.st]),(1004,.box [iA r])]
def Wm (j:Jn) (r:Int):zN 299 [wD j,iA r] [] (.fn 339 [.ptr 1003 0 0,.ptr 1004 0 0]) (Oh j r):=by
 refine eM call299 λF hF=>?_
 repeat' (first|(apply zG;first|refine uT (dI (v:=AV.agg _) 1003 Z Z) Z Z Z ?_|refine uT (dI (v:=AV.s _) 1004 Z Z) Z Z Z ?_|refine uM tok Z Z ?_|apply kQ)|(first|apply xX|apply xT|refine vZ Z ?_|refine yS Z ?_|refine yD Z ?_|refine xZ Z (λhc=>?_) λhc=>?_|apply xJ|apply xL|apply xS|apply xB))
 exact zP [1003,1004] Z Z Z Z
def nc (j:Jn) (M:ln j.ph<=1000) (r:Int):TL prog 339 [.ptr 1003 0 0,.ptr 1004 0 0] (Oh j r) ((QU j r).map λp:Nat=>[iA (p:Int)]):=by
 have hl:=zA xN j.ph;refine VO func339 Z (λargs w=>call339 args w) Z Z Z (λF y I B G=>?_);unfold Oh;refine WW ?_;refine zO (ln j.ph) [1003,1004] [1003,1004] [0,2,7,8] [9,1000000,0,2,7,8] Z (λi T U=>⟨(9,iA i)::(1000000,.gh (LS j r i).length)::T,U⟩) (Lq ?_ ?_)
 .intro i hi;have L:=zJ xN j.ph i hi;have A:=UW j r i
  change (j.ph.map xN)[i]? =some (xN (yG j i))at L
  by_cases E:(yG j i).ring=r
  .rw[zAs E]at A;obtain⟨O,u⟩:=GM j r (ln j.ph) (i+1) zB;rw[A]at u⊢
   have z:((QU j r).map λp:Nat=>[iA (p:Int)])[(LS j r i).length]? =some [iA (i:Int)]:=by
    unfold QU;rw[u,zA1,zBw zV,zBy (zAy _),zDx];rfl
   have C:=(zBk.1 z).1;rw[zAx];generalize ((QU j r).map λp:Nat=>[iA (p:Int)])=xs,(LS j r i).length=k,yG j i=t at *
   (repeat' (first|refine uS ?_|apply yW|apply xH|intro hc|(apply zG;apply xP;first|(apply Nf;refine FC B G Z Z z Z Z Z ?_ ?_))|(apply zG;first|refine SM ?_)|fail))
   .rfl
   .exact TM Z (.inr zB)
  .rw[Os E]at A;rw[A];generalize (LS j r i).length=k,yG j i=t at *;refine WW ?_;rfl
 .have e:(LS j r (ln j.ph)).length=((QU j r).map λp:Nat=>[iA (p:Int)]).length:=by rw[zAt];rfl
  refine WW ?_;exact ZW Z (.inl e)
def PW (s p:Int):Bool:=kX (vQ s p) 1==1
def L0:∀(s:_root_.Fin 256) (p:_root_.Fin 8),uB BinOp.eql (IntKind.u64.wrap ((BitVec.ofInt IntKind.u64.bits (Int.fdiv (s.val:Int) (2 ^ min (p.val:Int).toNat IntKind.u64.bits)) &&& BitVec.ofInt IntKind.u64.bits 1).toNat:Int)) 1=PW s.val p.val:=by decide +kernel
def BP (s p:Int) (A:0<=s/\s<256) (z:0<=p/\p<8):zN 359 [iA s,iA p] [] (bA (PW s p)) []:=by
 have u:=L0 ⟨s.toNat,zB⟩ ⟨p.toNat,zB⟩;rw[show((s.toNat:Nat):Int)=s by omega,show((p.toNat:Nat):Int)=p by omega]at u;generalize PW s p=q at *;subst u;refine eM call359 λF hF=>?_
 (repeat' (first|refine uS ?_|apply yW|apply xH|intro hc|(apply zG;first|(apply wY;refine wM (PL Z Z) Z ?_))|fail))
 exact zH
theorem Vm (p:Nat->Bool) (i:Nat) (hi:i<8):PW (kO p 8) i=p i:=Jf p i hi
def RD (c:Ct) (p:Nat):Bool:=(xR c p).lamp != 0
def LT (c:Ct):Int:=kO (RD c) (ln c.li)
theorem GN (p:Nat->Bool):∀n m:Nat,n<=m->(∀i,n<=i->i<m->p i=false)->kO p m=kO p n
 |n,0,h,_=>by rw[Nat.le_zero.1 h]
 |n,m+1,h,u=>by
  by_cases e:n=m+1
  .rw[e]
  .rw[kO,u m zB zB];exact GN p n m zB λi h1 h2=>u i h1 zB
theorem Um (p:Nat->Bool) (n:Nat) (u:n<=25):rj (kO p n) (p2 n)=kO p n+p2 n:=by
 have h1:=MV p n;have h2:(2:Nat) ^ n<=2 ^ 25:=zEm zB u;rw[AQ,show p2 (n:Int)=((2 ^ n:Nat):Int) by unfold p2;simp,FH _ _ zB zB];have z:=Nat.two_pow_add_eq_or_of_lt h1 1
 grind
def C6 (c:Ct) (B:ln c.li<=25):zN 318 [JU c] [] (iA (LT c)) []:=by
 have hl:=zA xE c.li;unfold LT;refine eM call318 λF hF=>?_
 refine WW ?_;refine zO (ln c.li) [] [] [7,8] [3,9,7,8] Z (λi T U=>⟨(3,iA (kO (RD c) i))::(9,iA i)::T,U⟩) (Lq ?_ ?_)
 .intro i hi;have A:=zJ xE c.li i hi
  change (c.li.map xE)[i]? =some (xE (xR c i))at A
  have z:=Um (RD c) i zB
  have e:kO (RD c) (i+1)=if RD c i=true then kO (RD c) i+p2 i else kO (RD c) i:=rfl
  rw[<-z]at e;have u:RD c i=((xR c i).lamp != 0):=rfl;rw[e,u];generalize kO (RD c) i=b,xR c i=t at *;by_cases h:t.lamp=0
  .rw[Os (by simp[h])];refine WW ?_;rfl
  .rw[zAs (by simp[h])];refine WW ?_;rfl
 .exact mx
theorem ME {P:Nat->Prop}:∀n,P n->∃m,m<=n/\P m/\∀k,k<m->¬P k:=by
 intro n
 induction n using Nat.strongRecOn with
 |_ n u=>
  grind
def EM (u:List Int) (s:Int) (p q:Nat):Bool:=PW s p&&(decide (q≠p)&&(PW s q&&kC u p q))
theorem Tm (z:List Int) (hn:ln z<=8) (s:Int) (O:0<=s/\s<256):∃p q:Int,zN 317 [zE iA z,iA s] [] (.tup [iA p,iA q]) []/\((p= -1/\∀a b:Nat,a<ln z->b<ln z->EM z s a b=false)\/(0<=p/\∃a b:Nat,a<ln z/\b<ln z/\EM z s a b=true)):=by
 have hl:=zA iA z;by_cases M:∃a,a<ln z/\∃b,b<ln z/\EM z s a b=true
 .obtain⟨a,Y,M⟩:=M;obtain⟨p,_,⟨hp,M⟩,ac⟩:=ME (P:=λa=>a<ln z/\∃b,b<ln z/\EM z s a b=true) a ⟨Y,M⟩;obtain⟨b,hb⟩:=M;obtain⟨q,_,⟨hq,hc⟩,ag⟩:=ME (P:=λb=>b<ln z/\EM z s p b=true) b hb;refine⟨p,q,?_,.inr ⟨zB,p,q,hp,hq,hc⟩⟩
  have S:PW s p=true:=by
   unfold EM at hc;rw[zA4]at hc;exact hc.1
  refine eM call317 λF hF=>?_
  refine WW ?_;refine yU (ln z) [] [] [0,1,9] [10,0,1,9] Z (λi T U zs=>(i<=p)/\zs=⟨(10,iA i)::T,U⟩) (Lp ?_ ?_ ?_)
  .exact⟨zBb _,rfl⟩
  .rintro u st hu ⟨hup,rfl⟩;have E:=BP s u O zB;by_cases V:u=p
   .subst V;rw[S]at E;refine zS E ?_;refine yU (ln z) [] [] [0,1,6,9,10,18] [19,0,1,6,9,10,18] Z (λi T U zs=>(i<=q)/\zs=⟨(19,iA i)::T,U⟩) (Lp ?_ ?_ ?_)
    .exact⟨zBb _,rfl⟩
    .rintro v st hv ⟨hvq,rfl⟩;have B:=BP s v O zB;have I:=gU z zB u v;by_cases W:v=q
     .subst W;unfold EM at hc;simp only[zA4,zAz]at hc;rw[hc.2.2.1]at B;rw[hc.2.2.2]at I;have C:(v:Int)≠u:=by omega
      exact ng (xQ B I)
     .have A:EM z s u v=false:=by
       cases G:EM z s u v with
       |false=>rfl
       |true=>exact absurd ⟨hv,G⟩ (ag v zB)
      unfold EM at A;rw[S,zA3]at A;by_cases h1:v=u
      .have C:(v:Int)=u:=by omega
       refine WW ?_;exact⟨zB,rfl⟩
      have C:(v:Int)≠u:=by omega
      rw[zAw h1,zA3]at A
      cases h2:PW s v with
      |false=>
       rw[h2]at B;refine zS B ?_;exact⟨zB,rfl⟩
      |true=>
       rw[h2,zA3]at A;rw[h2]at B;rw[A]at I;refine yF (xQ B I) ?_;exact⟨zB,rfl⟩
    .rintro st ⟨hvq,rfl⟩;exfalso;omega
   .have A:∀b,b<ln z->EM z s u b=false:=λb hb=>by
     cases G:EM z s u b with
     |false=>rfl
     |true=>exact absurd ⟨hu,b,hb,G⟩ (ac u zB)
    cases L:PW s u with
    |false=>
     rw[L]at E;refine zS E ?_;exact⟨zB,rfl⟩
    |true=>
    rw[L]at E;refine zS E ?_;refine zO (ln z) [] [] [0,1,6,9,10,18] [19,0,1,6,9,10,18] Z (λi T U=>⟨(19,iA i)::T,U⟩) (Lq ?_ ?_)
    .intro v hv;have B:=BP s v O zB;have I:=gU z zB u v;have A:=A v hv;unfold EM at A;rw[L,zA3]at A;by_cases h1:v=u
     .have C:(v:Int)=u:=by omega
      refine WW ?_;rfl
     have C:(v:Int)≠u:=by omega
     rw[zAw h1,zA3]at A
     cases h2:PW s v with
     |false=>
      rw[h2]at B;refine zS B ?_;rfl
     |true=>
      rw[h2,zA3]at A;rw[h2]at B;rw[A]at I;refine yF (xQ B I) ?_;rfl
    ·(refine WW ?_)
     exact⟨zB,rfl⟩
  .rintro st ⟨hup,rfl⟩;exfalso;omega
 .have A:∀a b,a<ln z->b<ln z->EM z s a b=false:=λa b Y hb=>by
   cases G:EM z s a b with
   |false=>rfl
   |true=>exact absurd ⟨a,Y,b,hb,G⟩ M
  refine⟨-1,-1,?_,.inl ⟨rfl,A⟩⟩;clear M;refine eM call317 λF hF=>?_
  refine WW ?_;refine zO (ln z) [] [] [0,1,9] [10,0,1,9] Z (λi T U=>⟨(10,iA i)::T,U⟩) (Lq ?_ ?_)
  .intro u hu;have E:=BP s u O zB
   cases L:PW s u with
   |false=>
    rw[L]at E;refine zS E ?_;rfl
   |true=>
   rw[L]at E;refine zS E ?_;refine zO (ln z) [] [] [0,1,6,9,10,18] [19,0,1,6,9,10,18] Z (λi T U=>⟨(19,iA i)::T,U⟩) (Lq ?_ ?_)
   .intro v hv;have B:=BP s v O zB;have I:=gU z zB u v;have A:=A u v hu hv;unfold EM at A;rw[L,zA3]at A;by_cases h1:v=u
    .have C:(v:Int)=u:=by omega
     refine WW ?_;rfl
    have C:(v:Int)≠u:=by omega
    rw[zAw h1,zA3]at A
    cases h2:PW s v with
    |false=>
     rw[h2]at B;refine zS B ?_;rfl
    |true=>
     rw[h2,zA3]at A;rw[h2]at B;rw[A]at I;refine yF (xQ B I) ?_;rfl
   ·(refine WW ?_)
    rfl
  .exact mx
def BQ (j:Jn) (z:ln j.ph<=1000) (u:∀p:Nat,p<ln j.ph->0<=(yG j p).group/\(yG j p).group<=3):zN 319 [wD j] [] (iA (gN j)) []:=by
 have hl:=zA xN j.ph;unfold gN;refine eM call319 λF hF=>?_
 refine WW ?_;refine zO (ln j.ph) [] [] [7,8] [3,9,7,8] Z (λi T U=>⟨(3,iA (Da j.ph i))::(9,iA i)::T,U⟩) (Lq ?_ ?_)
 .intro i hi;have A:=zJ xN j.ph i hi;have hb:=u i hi;unfold yG at hb;have e:Da j.ph (i+1)=max (Da j.ph i) ((j.ph.getD i dd).group+1):=rfl;rw[e];generalize Da j.ph i=g,j.ph.getD i dd=t at *;refine WW ?_;rfl
 .exact mx
def VI (j:Jn) (r g:Int) (i:Nat):List Nat:=(pi i).filter λp=>(yG j p).ring==r&&(yG j p).group==g
theorem BR (j:Jn) (r g:Int) (i:Nat):VI j r g (i+1)=if(yG j i).ring=r/\(yG j i).group=g then VI j r g i++[i]else VI j r g i:=by grind [VI,yG,List.range_succ,Bool.and_eq_false_iff]
def vf {α:Type} (f:α->AV) (l:List α):AV.sl false ((l.map f).take (l.map f).length)=zE f l:=by rw[zAv];rfl
def nA (p:Nat):AV:=iA (p:Int)
def E9 (j:Jn) (C:ln j.ph<=1000) (r g:Int):zN 321 [wD j,iA r,iA g] [] (zE nA (VI j r g (ln j.ph))) []:=by
 have hl:=zA xN j.ph;refine eM call321 λF hF=>?_
 refine WW ?_;refine zQ 7 1001 1 Z Z Z ?_;refine zO (ln j.ph) [1001] [] [1,2,11,12] [7,13,1,2,11,12] Z (λi T U=>⟨(7,.ref 1001 0 ((VI j r g i).map nA).length)::(13,iA i)::T,(1001,.arr 1 ((VI j r g i).map nA) true)::U⟩) (Lq ?_ ?_)
 .intro i hi;have B:=zJ xN j.ph i hi
  change (j.ph.map xN)[i]? =some (xN (yG j i))at B
  have z:=BR j r g i
  have u:(VI j r g i).length<=1000:=by
   have:(VI j r g i).length<=(pi i).length:=zCj _ _;rw[zCd]at this;omega
  have A:((VI j r g i).map nA).length<=1000:=by rw[zAt];exact u
  rw[z];generalize VI j r g i=o,yG j i=t at *;by_cases h1:t.ring=r
  .by_cases h2:t.group=g
   .rw[zAs ⟨h1,h2⟩,zA0];generalize o.map nA=xs at *;refine WW ?_;rfl
   .rw[Os (λh=>h2 h.2)];refine WW ?_;rfl
  .rw[Os (λh=>h1 h.1)];refine WW ?_;rfl
 ·(refine WW ?_)
  exact zI [] Z Z (vf _ _) Z
def GO (l:List Nat) (x:Int):Bool:=l.any λp:Nat=>(p:Int)==x
def Sm (l:List Nat) (O:ln l<=1000) (x:Int):∃k:Int,zN 360 [zE nA l,iA x] [] (iA k) []/\ -1<=k/\k<1000/\(GO l x=decide (0<=k)):=by
 have hl:=zA nA l;by_cases A:∃i,i<ln l/\((l.getD i dd:Nat):Int)=x
 .obtain⟨L,h1,h2⟩:=A;obtain⟨k,_,⟨hk,E⟩,C⟩:=ME (P:=λi=>i<ln l/\((l.getD i dd:Nat):Int)=x) L ⟨h1,h2⟩;refine⟨k,?_,zB,zB,?_⟩
  ·(refine eM call360 λF hF=>?_)
   refine WW ?_;refine yU (ln l) [] [] [0,1,7] [8,0,1,7] Z (λi T U M=>(i<=k)/\M=⟨(8,iA i)::T,U⟩) (Lp ?_ ?_ ?_)
   .exact⟨zBb _,rfl⟩
   .rintro u st z ⟨huk,rfl⟩;have B:=zJ nA l u z;by_cases e:u=k
    .subst e;generalize l.getD u dd=v at *;unfold nA at B;exact mx
    .have G:¬((l.getD u dd:Nat):Int)=x:=λh=>C u zB ⟨z,h⟩
     generalize l.getD u dd=v at *;unfold nA at B;refine WW ?_;exact⟨zB,rfl⟩
   .rintro st ⟨huk,rfl⟩;exfalso;omega
  .rw[zAw zB];unfold GO;rw[zCl];exact⟨l.getD k dd,by simp[py,hk],by rw[zB8];exact E⟩
 .refine⟨-1,?_,zB,zB,?_⟩
  ·(refine eM call360 λF hF=>?_)
   refine WW ?_;refine zO (ln l) [] [] [0,1,7] [8,0,1,7] Z (λi T U=>⟨(8,iA i)::T,U⟩) (Lq ?_ ?_)
   .intro u z;have B:=zJ nA l u z;have G:¬((l.getD u dd:Nat):Int)=x:=λh=>A ⟨u,z,h⟩
    generalize l.getD u dd=v at *;unfold nA at B;clear A;refine WW ?_;rfl
   .clear A;exact mx
  .rw[zAu zB];unfold GO;rw[zDc];intro p I;obtain⟨i,hi,rfl⟩:=zDa I;intro h;rw[zB8]at h;exact A ⟨i,hi,by simpa [py,hi]using h⟩
def mc (l:List Nat) (z:ln l<=1000) (x:Int):zN 320 [zE nA l,iA x] [] (bA (GO l x)) []:=by
 obtain⟨k,c,h1,h2,u⟩:=Sm l z x;rw[u];by_cases h:0<=k
 .rw[zAw h];refine eM call320 λF hF=>?_
  exact nl c
 .rw[zAu h];refine eM call320 λF hF=>?_
  exact nl c
def Qm (l:Li):zN 362 [xE l] [] (bA (l.lamp != 0)) []:=by
 by_cases h:l.lamp=0
 .rw[show(l.lamp != 0)=false by simp[h]];refine eM call362 λF hF=>?_
  exact mx
 .rw[show(l.lamp != 0)=true by simp[h]];refine eM call362 λF hF=>?_
  exact mx
def I0 (c:Ct) (S:ln c.li<=1000):∃k:Int,zN 388 [zE xE c.li,.fn 362 []] [] (iA k) []/\ -1<=k/\k<1000/\(Ca c= !decide (0<=k)):=by
 have hl:=zA xE c.li;by_cases I:∃i,i<ln c.li/\(xR c i).lamp≠0
 .obtain⟨M,h1,h2⟩:=I;obtain⟨k,_,⟨hk,A⟩,E⟩:=ME (P:=λi=>i<ln c.li/\(xR c i).lamp≠0) M ⟨h1,h2⟩;refine⟨k,?_,zB,zB,?_⟩
  ·(refine eM call388 λF hF=>?_)
   refine WW ?_;refine yU (ln c.li) [] [] [0,1,7] [8,0,1,7] Z (λi T U O=>(i<=k)/\O=⟨(8,iA i)::T,U⟩) (Lp ?_ ?_ ?_)
   .exact⟨zBb _,rfl⟩
   .rintro u st B ⟨huk,rfl⟩;have L:=zJ xE c.li u B
    change (c.li.map xE)[u]? =some (xE (xR c u))at L
    have z:=Qm (xR c u);by_cases e:u=k
    .subst e;rw[show((xR c u).lamp != 0)=true by simpa using A]at z;generalize xR c u=v at *;exact nl z
    .have G:(xR c u).lamp=0:=zDd λh=>E u zB ⟨B,h⟩
     rw[show((xR c u).lamp != 0)=false by simpa using G]at z;generalize xR c u=v at *;refine zS z ?_;exact⟨zB,rfl⟩
   .rintro st ⟨huk,rfl⟩;exfalso;omega
  .rw[zAw zB];unfold Ca;exact zD0.2 ⟨xR c k,by simp[xR,py,hk],by simpa using A⟩
 .have C:∀i,i<ln c.li->(xR c i).lamp=0:=λi hi=>zDd λh=>I ⟨i,hi,h⟩
  refine⟨-1,?_,zB,zB,?_⟩
  .clear I;refine eM call388 λF hF=>?_
   refine WW ?_;refine zO (ln c.li) [] [] [0,1,7] [8,0,1,7] Z (λi T U=>⟨(8,iA i)::T,U⟩) (Lq ?_ ?_)
   .intro u B;have L:=zJ xE c.li u B
    change (c.li.map xE)[u]? =some (xE (xR c u))at L
    have z:=Qm (xR c u);have C:=C u B;rw[show((xR c u).lamp != 0)=false by simpa using C]at z;generalize xR c u=v at *;refine zS z ?_;rfl
   .exact mx
  .rw[zAu zB];unfold Ca;rw[zEr,zA7];intro l hl;obtain⟨i,hi,rfl⟩:=zDa hl;have:=C i hi;simpa [xR,py,hi]using this
def BS (c:Ct) (B:ln c.li<=1000):zN 322 [JU c] [] (bA (Ca c)) []:=by
 obtain⟨k,u,h1,h2,A⟩:=I0 c B
 have z:zN 361 [zE xE c.li,.fn 362 []] [] (bA (decide (0<=k))) []:=by
  by_cases h:0<=k
  .rw[zAw h];refine eM call361 λF hF=>?_
   exact nl u
  .rw[zAu h];refine eM call361 λF hF=>?_
   exact nl u
 rw[A]
 cases hd:decide (0<=k)<;>rw[hd]at z
 all_goals
  (refine eM call322 λF hF=>?_)
  exact nl z
def j9 (j:Jn) (c:Ct):Bool:=(pi (ln j.ph)).all λp=>Ea (yG j p) (xR c p)
def B6 (j:Jn) (c:Ct):Bool:=(pi (ln j.cf)).all λa=>(pi (ln j.cf)).all λb=>!EM j.cf (LT c) a b
def Pm (j:Jn) (c:Ct) (r:Nat):Bool:=decide (c.nx.getD r dd= -1)||GO (VI j r c.gr (ln j.ph)) (c.nx.getD r dd)
def G0 (j:Jn) (c:Ct):Bool:=decide (ln c.li=ln j.ph/\c.nx.length=2)&&(j9 j c&&(B6 j c&&(decide (0<=c.gr/\c.gr<gN j)&&((pi 2).all (Pm j c)&&(decide (0<=c.wt/\c.wt<=j.st)&&(decide (c.wt=0)||Ca c))))))
structure JB (j:Jn):Prop where
 n:j.ph.length<=8
 c:j.cf.length<=8
 gp:∀p:Nat,p<j.ph.length->0<=(yG j p).group/\(yG j p).group<=3
theorem JV.b (J:JV j):JB j:=⟨J.n.2,by rw[J.c];exact J.n.2,J.gp⟩
theorem F0 {n:Nat} (h:n<=8):p2 (n:Int)<=256:=by
 have:n=0\/n=1\/n=2\/n=3\/n=4\/n=5\/n=6\/n=7\/n=8:=by omega
 grind [p2]
theorem ku (j:Jn) (J:JB j) (c:Ct):zN 281 [wD j,JU c] [] (bA (G0 j c)) []:=by
 have a3:=zA xN j.ph;have a1:=zA xE c.li;have a2:=zA iA c.nx;have a4:=J.n;unfold G0;by_cases h1:ln c.li=ln j.ph
 case neg=>
  rw[zAu (λh=>h1 h.1)];refine eM call281 λF hF=>?_
  exact mx
 by_cases h2:ln c.nx=2
 case neg=>
  rw[zAu (λh=>h2 h.2)];refine eM call281 λF hF=>?_
  exact mx
 rw[zAw ⟨h1,h2⟩,zA3];have cs:=C6 c zB;have av:=ZY (RD c) (ln c.li) zB;have a5:=F0 (n:=ln c.li) zB
 change 0<=LT c/\LT c<p2 (ln c.li) at av
 obtain⟨cp,cq,B,C⟩:=Tm j.cf J.c (LT c) zB
 have ar:B6 j c=decide (cp= -1):=by
  unfold B6
  rcases C with⟨h3,h4⟩|⟨h3,a,b,ha,hb,h4⟩
  .rw[zAw h3,zA7];intro a ha;rw[zA7];intro b hb;rw[h4 a b (zBj.1 ha) (zBj.1 hb)];rfl
  .rw[zAu zB,zD0];refine⟨a,zBj.2 ha,?_⟩;rw[zEf,zD0];exact⟨b,zBj.2 hb,by rw[h4];decide⟩
 have az:cp= -1\/0<=cp:=by
  rcases C with h|h
  .exact .inl h.1
  .exact .inr h.1
 have I:=BQ j zB J.gp;have ca:=BS c zB;clear C;rw[ar];generalize LT c=se,gN j=gm at *;generalize a6:Ca c=ra at *;refine eM call281 λF hF=>?_
 refine WW ?_;refine yU (ln j.ph) [2,3] [2,3] [2,3,25,26] [27,2,3,25,26] Z (λi T U zs=>(∀s:Nat,s<i->Ea (yG j s) (xR c s)=true)/\zs=⟨(27,iA i)::T,U⟩) (Lp ?_ ?_ ?_)
 .exact⟨λs Y=>absurd Y (zCp _),rfl⟩
 .rintro i st hi ⟨hp,rfl⟩;have hy:=zJ xN j.ph i hi;have ax:=zJ xE c.li i zB
  change (j.ph.map xN)[i]? =some (xN (yG j i))at hy
  change (c.li.map xE)[i]? =some (xE (xR c i))at ax
  have cv:=Xm (yG j i) (xR c i)
  cases W:Ea (yG j i) (xR c i)with
  | true=>
   rw[W]at cv
   have au:∀s:Nat,s<i+1->Ea (yG j s) (xR c s)=true:=λs Y=>by
    by_cases G:s=i
    .subst G;assumption
    .exact hp s zB
   clear W hp;generalize yG j i=t,xR c i=l at *;clear cs B I ca;refine zS cv ?_;exact⟨au,rfl⟩
  |false=>
   have u:j9 j c=false:=zD0.2 ⟨i,zBj.2 hi,by rw[W];decide⟩;rw[W]at cv;rw[u,zBt];clear W hp;generalize yG j i=t,xR c i=l at *;clear cs B I ca;exact nl cv
 .rintro st ⟨hp,rfl⟩;have u:j9 j c=true:=zA7.2 λi hi=>hp i (zBj.1 hi)
  rw[u,zA3];clear hp u;by_cases M:cp= -1
  case neg=>
   rw[zAu M];exact ng (xQ cs B)
  rw[zAw M,zA3];by_cases O:0<=c.gr
  case neg=>
   rw[zAu (λh=>O h.1)];exact ng (qC cs B I)
  by_cases S:c.gr<gm
  case neg=>
   rw[zAu (λh=>S h.2)];exact ng (qC cs B I)
  rw[zAw ⟨O,S⟩,zA3];refine yF (qC cs B I) ?_;refine yU (ln c.nx) [2,3] [2,3] [2,3,62,63] [64,2,3,62,63] Z (λi T U zs=>(∀s:Nat,s<i->Pm j c s=true)/\zs=⟨(64,iA i)::T,U⟩) (Lp ?_ ?_ ?_)
  .exact⟨λs Y=>absurd Y (zCp _),rfl⟩
  .rintro i st hi ⟨hp,rfl⟩;have hy:=zJ iA c.nx i hi;have co:=E9 j zB i c.gr
   have V:(VI j i c.gr (ln j.ph)).length<=1000:=by
    have:(VI j i c.gr (ln j.ph)).length<=(pi (ln j.ph)).length:=zCj _ _;rw[zCd]at this;omega
   have ch:=mc (VI j i c.gr (ln j.ph)) V (c.nx.getD i dd)
   have A:Pm j c i=true->∀s:Nat,s<i+1->Pm j c s=true:=λh s Y=>by
    by_cases G:s=i
    .subst G;exact h
    .exact hp s zB
   have ap:Pm j c i=false->((pi 2).all (Pm j c))=false:=λh=>zD0.2 ⟨i,zBj.2 zB,by rw[h];decide⟩
   have L:Pm j c i=(decide (c.nx.getD i dd= -1)||GO (VI j i c.gr (ln j.ph)) (c.nx.getD i dd)):=rfl;clear hp cs B I ca;generalize VI j i c.gr (ln j.ph)=o at *;generalize GO o (c.nx.getD i dd)=hb at *;generalize c.nx.getD i dd=x,Pm j c i=q at *;by_cases hx:x= -1
   .rw[zAw hx]at L;have E:=A L;refine WW ?_;exact⟨E,rfl⟩
   rw[zAu hx,zC7]at L
   cases hb with
   |true=>
    have E:=A L;refine yF (xQ co ch) ?_;exact⟨E,rfl⟩
   |false=>
    rw[ap L,zBt];exact ng (xQ co ch)
  .rintro st ⟨hp,rfl⟩;have z:((pi 2).all (Pm j c))=true:=zA7.2 λi hi=>hp i (by have:=zBj.1 hi;omega)
   rw[z,zA3];clear hp z;by_cases ac:0<=c.wt
   case neg=>
    rw[zAu (λh=>ac h.1)];exact mx
   by_cases ag:c.wt<=j.st
   case neg=>
    rw[zAu (λh=>ag h.2)];exact mx
   rw[zAw ⟨ac,ag⟩,zA3];by_cases hz:c.wt=0
   .rw[zAw hz];exact mx
   .rw[zAu hz,zC7];exact nl ca
theorem E0 (J:JV j) (C:CV j c):G0 j c=true:=by
 have O:=C.n;have S:=J.n;unfold G0;have h1:j9 j c=true:=zA7.2 λp L=>C.k p (zBj.1 L)
 have h2:B6 j c=true:=by
  unfold B6;rw[zA7];intro a u;rw[zA7];intro b hb;have u:=zBj.1 u;have hb:=zBj.1 hb;rw[J.c]at u hb
  have A:∀p:Nat,p<ln j.ph->PW (LT c) p=RD c p:=λp L=>by
   unfold LT;have e:=GN (λq=>decide (q<ln c.li)&&RD c q) (ln c.li) 8 zB (λi h1 h2=>by rw[zAu zB];rfl)
   grind [G0,kO,RD,bV,Vm]
  rw[zDb];unfold EM;rw[A a u,A b hb];by_cases B:b=a
  .grind
  .cases G:RD c a with
   |false=>rfl
   | true=>
    cases I:RD c b with
    |false=>simp
    |true=>
     rw[C.x a b u hb (λh=>B h.symm) (by simpa [RD]using G) (by simpa [RD]using I)];simp
 have M:((pi 2).all (Pm j c))=true:=zA7.2 λr E=>by
  have E:=zBj.1 E;unfold Pm
  rcases C.v r E with h|h
  .grind
  .have:GO (VI j r c.gr (ln j.ph)) (c.nx.getD r dd)=true:=by
    unfold GO;rw[zCl];obtain⟨a,b,d,e⟩:=h
    grind [G0,VI]
   grind
 rw[zAw ⟨O,C.m⟩,h1,h2,zAw C.g,M,zAw C.w];simp only[zA3]
 rcases C.z with h|h
 .grind
 .have:Ca c=true:=by
   grind [G0,Ca,List.all_eq_true,List.getElem_of_mem,xR,py]
  grind
theorem D9 (y:Int):kX y 1=0\/kX y 1=1:=by
 show IntKind.i64.wrap (BitVec.ofInt 64 y &&& BitVec.ofInt 64 1).toNat=0\/IntKind.i64.wrap (BitVec.ofInt 64 y &&& BitVec.ofInt 64 1).toNat=1
 have e1:BitVec.ofInt 64 1=1#64:=by decide
 have h:(BitVec.ofInt 64 y &&& BitVec.ofInt 64 1).toNat=(BitVec.ofInt 64 y).toNat % 2:=by
  grind
 rw[h];have h2:(BitVec.ofInt 64 y).toNat % 2=0\/(BitVec.ofInt 64 y).toNat % 2=1:=by omega
 rcases h2 with h2|h2<;>rw[h2]
 .exact .inl yY
 .exact .inr yY
theorem GP {u:List Int} {q:Nat} (z:p<ln u) (A:q<ln u):kX (vQ (u.getD p dd) q) 1=if kC u p q=true then 1 else 0:=by
 unfold kC;rw[zAw zB,zA3,zBh]
 grind [kX,vQ,kC,D9]
theorem C9 {x:Int} {n:Nat} (h:0<=x/\x<2 ^ n):vQ x n=0:=by grind [vQ,Int.toNat_natCast,Int.fdiv_eq_zero_of_lt]
def Nh (j:Jn) (J:JV j):zN 202 [zE iA j.cf] [] (bA true) []:=by
 have hl:=zA iA j.cf;have I:=J.n;have hc:=J.c;refine eM call202 λF hF=>?_
 refine WW ?_;refine zO (ln j.cf) [] [] [0,14,15] [16,0,14,15] Z (λi T U=>⟨(16,iA i)::T,U⟩) (Lq ?_ ?_)
 .intro u B;have L:=zJ iA j.cf u B;have A:=J.row u zB;have E:=C9 A;rw[<-hc,<-hl]at E;have C:=GP (p:=u) (q:=u) B B;rw[J.ir u zB,Os yY]at C
  have z:∀v,v<ln j.cf->kX (vQ (j.cf.getD u dd) v) 1=kX (vQ (j.cf.getD v dd) u) 1:=λv hv=>by
   rw[GP B hv,GP hv B,J.sy u v zB zB]
  generalize j.cf.getD u dd=x at *;refine WW ?_;refine zO (ln j.cf) [] [] [0,3,4,14,15,16,38] [39,0,3,4,14,15,16,38] Z (λi T U=>⟨(39,iA i)::T,U⟩) (Lq ?_ ?_)
  .intro v hv;have G:=zJ iA j.cf v hv;have z:=z v hv;generalize j.cf.getD v dd=y at *;refine WW ?_;rfl
  .clear z;refine WW ?_;rfl
 .exact mx
def UX (n a b:Int) (h:a<=n/\n<=b):zN 148 [iA n,iA a,iA b] [] (bA true) []:=by
 obtain⟨h1,h2⟩:=h;refine eM call148 λF hF=>?_
 exact mx
def Om (j:Jn) (J:JV j) (p:Nat) (z:p<ln j.ph):zN 203 [xN (yG j p)] [] (bA true) []:=by
 have W:=J.rg p z;have V:=J.gp p z;obtain⟨Y,t2,t3,t4,t5,t6,t7,t8,t9,A,B,ac,u⟩:=J.ti p z;generalize yG j p=t at *;have C:=UX t.ring 0 1 W;have E:=UX t.group 0 3 V;have G:=UX t.ming 1 60 ⟨Y,zB⟩;have I:=UX t.maxg 1 60 ⟨zB,t3⟩;have L:=UX t.yel 1 60 ⟨t4,t5⟩;have M:=UX t.red 0 60 ⟨t6,t7⟩;have O:=UX t.walk 0 60 ⟨t8,t9⟩;have S:=UX t.clear 0 60 ⟨A,B⟩;by_cases U:t.walk=0
 .have h1:=u.1 U;clear u;refine eM call203 λF hF=>?_
  exact ng (yy C E G I L M O S)
 .have h1:¬t.clear=0:=λh=>U (u.2 h)
  clear u;refine eM call203 λF hF=>?_
  exact ng (yy C E G I L M O S)
def Nm (j:Jn) (J:JV j):zN 204 [wD j] [] (bA true) []:=by
 have hl:=zA xN j.ph;have L:=J.n;have hc:=J.c;refine eM call204 λF hF=>?_
 repeat' (first|(apply zG;first|refine uM tok Z Z ?_|refine YT tok Z Z Z Z ?_|apply kQ)|first|refine SQ ?_|fail|apply bW|apply bX|apply xB)
 refine zO (ln j.ph) [1] [1] [1,9,10] [3,11,1,9,10] Z (λi T U=>⟨(3,bA true)::(11,iA i)::T,U⟩) (Lq ?_ ?_)
 .intro u G;have I:=zJ xN j.ph u G
  change (j.ph.map xN)[u]? =some (xN (yG j u))at I
  refine WW ?_;refine zO (ln j.ph) [1,5] [1,5] [1,4,5,9,10,11,17,18] [3,19,1,4,5,9,10,11,17,18] Z (λi T U=>⟨(3,bA true)::(19,iA i)::T,U⟩) (Lq ?_ ?_)
  .intro v hv;have E:=zJ xN j.ph v hv
   change (j.ph.map xN)[v]? =some (xN (yG j v))at E
   have B:=gU j.cf zB u v;have z:=J.ap u v G hv;by_cases A:u=v
   .have C:(u:Int)=v:=by omega
    clear z;generalize yG j u=a,yG j v=b at *;refine WW ?_;rfl
   have C:¬(u:Int)=v:=by omega
   by_cases h1:(yG j u).ring=(yG j v).ring
   .rw[z A (.inl h1)]at B;clear z;generalize yG j u=a,yG j v=b at *;refine zS B ?_;rfl
   by_cases h2:(yG j u).group=(yG j v).group
   .clear z;generalize yG j u=a,yG j v=b at *;refine WW ?_;rfl
   .rw[z A (.inr h2)]at B;clear z;generalize yG j u=a,yG j v=b at *;refine zS B ?_;rfl
  .generalize yG j u=a at *;refine WW ?_;rfl
 .exact mx
def KH (j:Jn) (i:Nat) (g:Nat):Bool:=(pi i).any λp=>(yG j p).group==(g:Int)
theorem Mm (j:Jn) (i:Nat):KH j (i+1)=λg=>KH j i g||((yG j i).group==(g:Int)):=by grind [KH,yG]
def A6 (g:Nat) (h:g<4):p2 (g:Int)=kO (λx:Nat=>(g:Int)==(x:Int)) 8:=by
 have:g=0\/g=1\/g=2\/g=3:=by omega
 rcases this with rfl|rfl|rfl|rfl<;>decide
theorem B9:∀A u z B:Bool,(u=true->A=true)->(z=true->u=true)->(B=true->z=true)->kX (kO (bq A u z B false false false false) 8) (kO (bq A u z B false false false false) 8+1)=0:=by decide +kernel
theorem ju (j:Jn) (J:JV j):kX (kO (KH j (ln j.ph)) 8) (kO (KH j (ln j.ph)) 8+1)=0:=by
 have u:∀g:Nat,4<=g->KH j (ln j.ph) g=false:=λg A=>by
  unfold KH;rw[zDc];intro p z;have:=J.gp p (zBj.1 z);simp;omega
 have hd:∀g:Nat,KH j (ln j.ph) (g+1)=true->KH j (ln j.ph) g=true:=λg h=>by
  unfold KH at h⊢;rw[zCl]at h⊢;obtain⟨p,z,A⟩:=h;rw[zB8]at A;obtain⟨q,C,B⟩:=J.lo p (zBj.1 z) g zB zB
  grind
 have e:kO (KH j (ln j.ph)) 8=kO (bq (KH j (ln j.ph) 0) (KH j (ln j.ph) 1) (KH j (ln j.ph) 2) (KH j (ln j.ph) 3) false false false false) 8:=bV 8 λi hi=>by
  match i,hi with
  |0,_=>rfl|1,_=>rfl|2,_=>rfl|3,_=>rfl
  |4,_=>exact u 4 zB
  |5,_=>exact u 5 zB
  |6,_=>exact u 6 zB
  |7,_=>exact u 7 zB
  |i+8,h=>omega
 grind [kX,kO,KH,B9]
def BT (j:Jn) (J:JV j):zN 149 [wD j] [] (bA true) []:=by
 have hl:=zA xN j.ph;have V:=zA iA j.cf;have hn:=J.n;have hc:=J.c;have E:=Nh j J;have G:=UX j.st 0 60 J.st;have I:=Nm j J;have S:=ju j J;have O:=ZY (KH j (ln j.ph)) 8 zB;have W:p2 ((8:Nat):Int)=256:=by decide
 refine eM call149 λF hF=>?_
 refine yF (xQ E G) ?_;refine zO (ln j.ph) [1] [1] [1,34,35] [4,36,1,34,35] Z (λi T U=>⟨(4,iA (kO (KH j i) 8))::(36,iA i)::T,U⟩) (Lq ?_ ?_)
 .intro u C;have Y:=zJ xN j.ph u C
  change (j.ph.map xN)[u]? =some (xN (yG j u))at Y
  have M:=Om j J u C;have hg:=J.gp u C;have B:=Mm j u;obtain⟨L,A⟩:∃n:Nat,(yG j u).group=n:=⟨(yG j u).group.toNat,zB⟩;have z:=Vo (KH j u) (λx:Nat=>(L:Int)==(x:Int));rw[<-A6 L zB]at z;rw[A]at B;rw[B,<-z];generalize kO (KH j u) 8=b at *;rw[<-A];clear E G I z B;generalize yG j u=t at *;refine zS M ?_;rfl
 .generalize kO (KH j (ln j.ph)) 8=b at *;exact nl I
