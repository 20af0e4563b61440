/- Part 21. -/
import Derived.Test.YtaglbcjljlkjcaaGreatT14
namespace Go.Proofs.YtaglbcjljlkjcaaGreat.Av
open Tryz
set_option linter.all false
set_option maxRecDepth 4000
set_option maxHeartbeats 1000000
open List renaming length->ln,range->oj,getD->pb
open Inhabited renaming default->dd
variable {j:Jn}{p:Nat}
structure Li where
 lamp:Int
 tk:Int
structure Ct where
 li:List Li
 gr:Int
 nx:List Int
 wt:Int
variable {c:Ct}
instance:Inhabited Li:=⟨⟨0,0⟩⟩
def xE (l:Li):AV:= .agg [iA l.lamp,iA l.tk]
def LR (c:Ct):AV:= .agg [zE xE c.li,iA c.gr,zE iA c.nx,iA c.wt]
def kK (u:List Int) (p q:Int):Bool:=decide (0<=p/\0<=q/\p<ln u/\q<ln u)&&(jJ (vV (u.getD p.toNat dd) q) 1==1)
def af (p:Ph):Int:=max p.ming (p.walk+p.clear)
def BQ (p:Ph) (l:Li) (lv:Bool):Li:=
 if l.lamp=1 then(if lv=true/\af p<=l.tk+1 then⟨2,0⟩else⟨1,min (l.tk+1) 1073741824⟩)
 else if l.lamp=2 then(if l.tk+1<p.yel then⟨2,l.tk+1⟩else if p.red=0 then⟨0,0⟩else⟨3,0⟩)
 else if l.lamp=3 then(if l.tk+1<p.red then⟨3,l.tk+1⟩else⟨0,0⟩)
 else l
def ib (p:Ph) (l:Li):Bool:=if l.lamp=0 then decide (l.tk=0)else if l.lamp=1 then decide (0<=l.tk/\l.tk<=1073741824)else if l.lamp=2 then decide (0<=l.tk/\l.tk<p.yel)else if l.lamp=3 then decide (0<=l.tk/\l.tk<p.red)else false
def yG (j:Jn) (p:Nat):Ph:=j.ph.getD p dd
def xT (c:Ct) (p:Nat):Li:=c.li.getD p dd
def BR (j:Jn) (r g p:Int):Prop:=0<=p/\p<ln j.ph/\(yG j p.toNat).ring=r/\(yG j p.toNat).group=g
def Zb (u:List Ph):Nat->Int
 |0=>0
 |i+1=>max (Zb u i) ((u.getD i dd).group+1)
def gN (j:Jn):Int:=Zb j.ph (ln j.ph)
theorem rm (u:List Ph) (n:Nat):∀i,i<n->(u.getD i dd).group+1<=Zb u n:=by
 induction n with
 |zero=>intro i h;exact absurd h (zC0 _)
 |succ n z=>
  grind [Zb]
def LS (j:Jn) (r:Int) (i:Nat):List Nat:=(oj i).filter λp=>(yG j p).ring==r
def QX (j:Jn) (r:Int):List Nat:=LS j r (ln j.ph)
theorem cU {r:Int} :p∈QX j r↔p<ln j.ph/\(yG j p).ring=r:=by grind [QX,yG,LS]
def jI (j:Jn) (r g f:Int):Int:=match (QX j r).find? (λp:Nat=>decide (f<=(p:Int))&&(yG j p).group==g)with
 |some p=>p
 |none=> -1
theorem BS (j:Jn) (r g f:Int):jI j r g f= -1\/BR j r g (jI j r g f)/\f<=jI j r g f:=by
 unfold jI;split
 .rename_i p h;have h1:=List.find?_some h;have h2:=cU.1 (zGf h)
  grind [jI,BR]
 .exact .inl Z
def QF (j:Jn) (c:Ct) (g:Int):Ct:=⟨c.li,g,[jI j 0 g 0,jI j 1 g 0],c.wt⟩
def dT (j:Jn) (c:Ct) (p:Int):Bool:=(oj (ln c.li)).any λq=>(xT c q).lamp != 0&&kK j.cf p q
def BT (c:Ct) (p:Nat):Ct:=⟨c.li.set p ⟨1,0⟩,c.gr,c.nx,c.wt⟩
def MD (j:Jn) (c:Ct) (p:Nat):Ct:=if c.gr=(yG j p).group then BT c p else QF j (BT c p) (yG j p).group
def uF (j:Jn) (c:Ct) (p:Nat):Ct:=
 if dT j c p=true then c
 else⟨(MD j c p).li,(MD j c p).gr,(MD j c p).nx.set (yG j p).ring.toNat (jI j (yG j p).ring (yG j p).group (p+1)),(MD j c p).wt⟩
def VJ (j:Jn) (c:Ct) (r:Int):Bool:=(QX j r).all λp=>(xT c p).lamp==0
def ES (j:Jn) (x r t:Int):Int:=match (QX j r).find? (λp:Nat=>!kK j.cf p t&&decide (x≠ -1/\x<=(p:Int)))with
 |some p=>p
 |none=>match (QX j r).find? (λp:Nat=>!kK j.cf p t)with
  |some p=>p
  |none=> -1
def aY (j:Jn) (c:Ct) (r:Int) (t:Nat):Int:=if r=(yG j t).ring then t else ES j (c.nx.getD r.toNat dd) r t
def jB (j:Jn) (t:Nat) (c:Ct) (r:Int):Ct:=if VJ j c r=true then(if aY j c r t= -1 then c else uF j c (aY j c r t).toNat)else c
def Yb (c:Ct):Bool:=c.li.all λl=>l.lamp==0
def ij (c:Ct):Bool:=Yb c&&c.nx.all λp=>p== -1
def vM (j:Jn) (c:Ct) (r:Int):Ct:=if VJ j c r=true/\c.nx.getD r.toNat dd≠ -1 then uF j c (c.nx.getD r.toNat dd).toNat else c
def Xb (j:Jn) (c:Ct):Ct:=vM j (vM j (if ij c=true then QF j c ((c.gr+1) % gN j)else c) 0) 1
def ZS (j:Jn) (t:Int):Bool:=decide (0<=t/\t<ln j.ph)
def GR (j:Jn) (c:Ct) (t:Int) (p:Nat):Bool:=
 if ZS j t=true then decide ((p:Int)≠t)&&(decide ((yG j p).maxg<=(xT c p).tk+1)||kK j.cf p t)else decide ((yG j p).maxg<=(xT c p).tk+1)
def UX (j:Jn) (c:Ct) (t:Int):List Li:=(oj (ln j.ph)).map λp=>BQ (yG j p) (xT c p) (GR j c t p)
def GT (j:Jn) (c:Ct) (t:Int):Ct:=
 if 0<c.wt then⟨c.li,c.gr,c.nx,c.wt-1⟩
 else if ZS j t=true then jB j t.toNat (jB j t.toNat ⟨UX j c t,c.gr,c.nx,c.wt⟩ 0) 1
 else Xb j ⟨UX j c t,c.gr,c.nx,c.wt⟩
structure JV (j:Jn):Prop where
 n:1<=j.ph.length/\j.ph.length<=8
 c:j.cf.length=j.ph.length
 row:∀i,i<j.ph.length->0<=j.cf.getD i default/\j.cf.getD i default<2 ^ j.ph.length
 ir:∀p:Nat,p<j.ph.length->kK j.cf p p=false
 sy:∀p q:Nat,p<j.ph.length->q<j.ph.length->kK j.cf p q=kK j.cf q p
 ap:∀p q:Nat,p<j.ph.length->q<j.ph.length->p≠q->(yG j p).ring=(yG j q).ring\/(yG j p).group≠(yG j q).group->kK j.cf p q=true
 rg:∀p:Nat,p<j.ph.length->0<=(yG j p).ring/\(yG j p).ring<=1
 gp:∀p:Nat,p<j.ph.length->0<=(yG j p).group/\(yG j p).group<=3
 ti:∀p:Nat,p<j.ph.length->1<=(yG j p).ming/\(yG j p).ming<=(yG j p).maxg/\(yG j p).maxg<=60/\1<=(yG j p).yel/\(yG j p).yel<=60/\0<=(yG j p).red/\(yG j p).red<=60/\0<=(yG j p).walk/\(yG j p).walk<=60/\0<=(yG j p).clear/\(yG j p).clear<=60/\(yG j p).walk+(yG j p).clear<=(yG j p).maxg/\((yG j p).walk=0↔(yG j p).clear=0)
 lo:∀p:Nat,p<j.ph.length->∀g:Int,0<=g->g<(yG j p).group->∃q:Nat,q<j.ph.length/\(yG j q).group=g
 st:0<=j.st/\j.st<=60
structure CV (j:Jn) (c:Ct):Prop where
 n:c.li.length=j.ph.length
 k:∀p,p<j.ph.length->ib (yG j p) (xT c p)=true
 x:∀p q:Nat,p<j.ph.length->q<j.ph.length->p≠q->(xT c p).lamp≠0->(xT c q).lamp≠0->kK j.cf p q=false
 g:0<=c.gr/\c.gr<gN j
 m:c.nx.length=2
 v:∀r:Nat,r<2->c.nx.getD r default= -1\/BR j r c.gr (c.nx.getD r default)
 w:0<=c.wt/\c.wt<=j.st
 z:c.wt=0\/∀p,p<j.ph.length->(xT c p).lamp=0
theorem PX (J:JV j):1<=gN j:=by
 have h1:=rm j.ph (ln j.ph) 0 CG;have h2:=J.gp 0 CG
 grind [gN,yG]
theorem jy (j:Jn) (c:Ct) (g:Int):∀r:Nat,r<2->(QF j c g).nx.getD r dd= -1\/BR j r g ((QF j c g).nx.getD r dd):=by
 intro r u;have:r=0\/r=1:=by omega
 grind [QF,BR,BS]
def BU (C:CV j c) {g:Int} (u:0<=g/\g<gN j):CV j (QF j c g):=
 ⟨C.n,C.k,C.x,u,rfl,jy j c g,C.w,C.z⟩
theorem ju (c:Ct) (p q:Nat) (l:Li) (u:Int) (nx:List Int) (z:Int) (A:p<ln c.li):xT ⟨c.li.set p l,u,nx,z⟩ q=if q=p then l else xT c q:=by grind [nx,xT]
def X7 (J:JV j) (C:CV j c) (G:c.wt=0) (L:p<ln j.ph) (hk:dT j c p=false):CV j (BT c p):=by
 have hl:=C.n
 have E:∀q,xT (BT c p) q=if q=p then⟨1,0⟩else xT c q:=λq=>ju c p q _ _ _ _ zB
 unfold dT at hk;rw[zDn]at hk
 have hc:∀q:Nat,q<ln j.ph->(xT c q).lamp≠0->kK j.cf p q=false:=λq u I=>by
  grind
 refine⟨by unfold BT;simpa using hl,λq u=>?_,λq r u B z h1 h2=>?_,C.g,C.m,C.v,C.w,.inl G⟩
 .rw[E];split
  .rfl
  .exact C.k q u
 .rw[E]at h1 h2;by_cases e1:q=p
  .grind
  .rw[Os e1]at h1;by_cases A:r=p
   .subst A;rw[J.sy q r u B];exact hc q u h1
   .rw[Os A]at h2;exact C.x q r u B z h1 h2
def W7 (J:JV j) (C:CV j c) (u:c.wt=0) (z:p<ln j.ph) (hk:dT j c p=false):CV j (MD j c p)/\(MD j c p).gr=(yG j p).group/\(MD j c p).wt=0:=by
 have h1:=X7 J C u z hk;unfold MD;split
 .rename_i h;exact⟨h1,h,u⟩
 .have A:=J.gp p z;have:=rm j.ph (ln j.ph) p z;exact⟨BU h1 ⟨A.1,by unfold gN;unfold yG;omega⟩,rfl,u⟩
theorem gy (J:JV j) (C:CV j c) (A:c.wt=0) (E:p<ln j.ph):CV j (uF j c p)/\(uF j c p).wt=0:=by
 unfold uF;split
 .exact⟨C,A⟩
 .rename_i hk;obtain⟨B,I,G⟩:=W7 J C A E (by simpa using hk);have L:=J.rg p E;refine⟨⟨B.n,B.k,B.x,B.g,by rw[zCj];exact B.m,λr u=>?_,B.w,B.z⟩,G⟩;have M:=BS j (yG j p).ring (yG j p).group (p+1);generalize jI j (yG j p).ring (yG j p).group (p+1)=f at *;dsimp only
  have e:((MD j c p).nx.set (yG j p).ring.toNat f).getD r dd=if r=(yG j p).ring.toNat then f else(MD j c p).nx.getD r dd:=by
   simp only[zBk,zEe];split
   .rename_i h;subst h;rw[zA4 Z,B.m,zA4 u];rfl
   all_goals grind
  rw[e];split
  .grind
  .exact B.v r u
theorem BV (j:Jn) (x r t:Int):ES j x r t= -1\/∃p:Nat,ES j x r t=p/\p<ln j.ph/\(yG j p).ring=r/\kK j.cf p t=false:=by
 unfold ES;split
 .rename_i p h;have h1:=List.find?_some h;have h2:=cU.1 (zGf h)
  grind
 all_goals grind [ES,yG,kK,cU,List.mem_of_find?_eq_some,Bool.not_eq_true']
theorem sm {r:Int} {t:Nat} (u:t<ln j.ph):aY j c r t= -1\/∃p:Nat,aY j c r t=p/\p<ln j.ph/\(yG j p).ring=r:=by grind [aY,yG,BV]
theorem im (J:JV j) (C:CV j c) (u:c.wt=0) {t:Nat} (z:t<ln j.ph) (r:Int):CV j (jB j t c r)/\(jB j t c r).wt=0:=by grind [jB,sm,Int.toNat_natCast,gy]
theorem ZT (J:JV j) (C:CV j c) (u:c.wt=0) {r:Nat} (z:r<2):CV j (vM j c r)/\(vM j c r).wt=0:=by
 unfold vM;split
 .rename_i h;rw[zBu]at h⊢
  rcases C.v r z with h1|h1
  .grind
  .exact gy J C u (by have:=h1.2.1;have:=h1.1;omega)
 .exact⟨C,u⟩
theorem V7 (J:JV j) (C:CV j c) (u:c.wt=0):CV j (Xb j c):=by
 have h1:CV j (if ij c=true then QF j c ((c.gr+1) % gN j)else c)/\(if ij c=true then QF j c ((c.gr+1) % gN j)else c).wt=0:=by
  split
  .have:=PX J;exact⟨BU C ⟨zD6 _ zB,zDp _ zB⟩,u⟩
  .exact⟨C,u⟩
 have h2:=ZT J h1.1 h1.2 (r:=0) zB;exact(ZT J h2.1 h2.2 (r:=1) zB).1
theorem zAh {p:Ph} {l:Li} {lv:Bool} (z:1<=p.yel) (u:0<=p.red) (h:ib p l=true):ib p (BQ p l lv)=true/\((BQ p l lv).lamp≠0->l.lamp≠0):=by grind [ib,BQ]
theorem Zm (t u:Int) (nx:List Int) (z:Int) (p:Nat) (A:p<ln j.ph):xT ⟨UX j c t,u,nx,z⟩ p=BQ (yG j p) (xT c p) (GR j c t p):=by grind [nx,xT,UX,BQ,yG,GR]
theorem Ym (J:JV j) (C:CV j c) (E:c.wt=0) (t:Int):CV j ⟨UX j c t,c.gr,c.nx,c.wt⟩:=by
 have B:=λp u=>zAh (lv:=GR j c t p) (by have:=J.ti p u;omega) (by have:=J.ti p u;omega) (C.k p u)
 refine⟨by simp[UX],λp u=>?_,λp q u A z h1 h2=>?_,C.g,C.m,C.v,C.w,.inl E⟩
 .grind [UX,Zm]
 .rw[Zm _ _ _ _ _ u]at h1;rw[Zm _ _ _ _ _ A]at h2;exact C.x p q u A z ((B p u).2 h1) ((B q A).2 h2)
theorem Xm (J:JV j) (C:CV j c) (t:Int):CV j (GT j c t):=by
 unfold GT;split
 .rename_i h;have u:=C.z;have B:=C.w;refine⟨C.n,C.k,C.x,C.g,C.m,C.v,by dsimp only;omega,?_⟩
  rcases u with u|u
  .omega
  .exact .inr u
 .have A:c.wt=0:=by have:=C.w;omega
  grind [GT,Ym,ZS,im,V7]
def gW (u:List Int) (C:ln u<=40) (p q:Int):zM 257 [zE iA u,iA p,iA q] [] (bA (kK u p q)) []:=by
 have hl:=zA iA u;unfold kK;by_cases h1:0<=p
 case neg=>
  rw[zA6 (λh=>h1 h.1)];refine eM call257 λF hF=>?_
  exact ly
 by_cases h2:0<=q
 case neg=>
  rw[zA6 (λh=>h2 h.2.1)];refine eM call257 λF hF=>?_
  exact ly
 by_cases z:p<ln u
 case neg=>
  rw[zA6 (λh=>z h.2.2.1)];refine eM call257 λF hF=>?_
  exact ly
 by_cases A:q<ln u
 case neg=>
  rw[zA6 (λh=>A h.2.2.2)];refine eM call257 λF hF=>?_
  exact ly
 rw[zA7 ⟨h1,h2,z,A⟩,zBg];have E:=yF iA u p h1 z;generalize u.getD p.toNat dd=x at *;by_cases B:jJ (vV x q) 1=1
 .rw[show(jJ (vV x q) 1==1)=true by rw[zCm];exact B];refine eM call257 λF hF=>?_
  exact ly
 .rw[show(jJ (vV x q) 1==1)=false by rw[zB0];exact B];refine eM call257 λF hF=>?_
  exact ly
def dy (p:Ph):Prop:=0<=p.walk/\p.walk<=60/\0<=p.clear/\p.clear<=60
def pf (p:Ph) (h:dy p):zM 209 [xN p] [] (iA (af p)) []:=by
 obtain⟨h1,h2,u,z⟩:=h;refine eM call209 λF hF=>?_
 exact ly
def gu (p:Ph) (h:dy p) (l:Li) (A: -1000000000000<=l.tk/\l.tk<=1000000000000) (lv:Bool):zM 282 [xN p,xE l,bA lv] [] (xE (BQ p l lv)) []:=by
 have c:=pf p h;unfold BQ;by_cases h1:l.lamp=1
 .rw[zA4 h1];generalize af p=n at*
  cases lv with
  |false=>
   rw[Os (λh=>by cases h.1)];refine eM call282 λF hF=>?_
   exact ly
  |true=>
  by_cases h2:n<=l.tk+1
  .rw[zA4 ⟨rfl,h2⟩];refine eM call282 λF hF=>?_
   exact mx c
  .rw[Os (λh=>h2 h.2)];refine eM call282 λF hF=>?_
   exact mx c
 rw[Os h1];by_cases h2:l.lamp=2
 .rw[zA4 h2];by_cases u:l.tk+1<p.yel
  .rw[zA4 u];refine eM call282 λF hF=>?_
   exact ly
  rw[Os u];by_cases z:p.red=0
  .rw[zA4 z];refine eM call282 λF hF=>?_
   exact ly
  .rw[Os z];refine eM call282 λF hF=>?_
   exact ly
 rw[Os h2];by_cases u:l.lamp=3
 .rw[zA4 u];by_cases z:l.tk+1<p.red
  .rw[zA4 z];refine eM call282 λF hF=>?_
   exact ly
  .rw[Os z];refine eM call282 λF hF=>?_
   exact ly
 .rw[Os u];refine eM call282 λF hF=>?_
  exact ly
def Wm (p:Ph) (l:Li):zM 316 [xN p,xE l] [] (bA (ib p l)) []:=by
 unfold ib;by_cases u:l.lamp=0
 .rw[zA4 u];by_cases h:l.tk=0
  .rw[zA7 h];refine eM call316 λF hF=>?_
   exact ly
  .rw[zA6 h];refine eM call316 λF hF=>?_
   exact ly
 rw[Os u];by_cases h1:l.lamp=1
 .rw[zA4 h1];by_cases h:0<=l.tk
  .by_cases h':l.tk<=1073741824
   .rw[zA7 ⟨h,h'⟩];refine eM call316 λF hF=>?_
    exact ly
   .rw[zA6 (λk=>h' k.2)];refine eM call316 λF hF=>?_
    exact ly
  .rw[zA6 (λk=>h k.1)];refine eM call316 λF hF=>?_
   exact ly
 rw[Os h1];by_cases h2:l.lamp=2
 .rw[zA4 h2];by_cases h:0<=l.tk
  .by_cases h':l.tk<p.yel
   .rw[zA7 ⟨h,h'⟩];refine eM call316 λF hF=>?_
    exact ly
   .rw[zA6 (λk=>h' k.2)];refine eM call316 λF hF=>?_
    exact ly
  .rw[zA6 (λk=>h k.1)];refine eM call316 λF hF=>?_
   exact ly
 rw[Os h2];by_cases z:l.lamp=3
 .rw[zA4 z];by_cases h:0<=l.tk
  .by_cases h':l.tk<p.red
   .rw[zA7 ⟨h,h'⟩];refine eM call316 λF hF=>?_
    exact ly
   .rw[zA6 (λk=>h' k.2)];refine eM call316 λF hF=>?_
    exact ly
  .rw[zA6 (λk=>h k.1)];refine eM call316 λF hF=>?_
   exact ly
 .rw[Os z];refine eM call316 λF hF=>?_
  exact ly
theorem UY (j:Jn) (r:Int) (i:Nat):LS j r (i+1)=if(yG j i).ring=r then LS j r i++[i]else LS j r i:=by grind [LS,yG,List.range_succ]
theorem GU (j:Jn) (r:Int):∀n i,i<=n->∃l,LS j r n=LS j r i++l
 |0,i,h=>⟨[],by rw[Nat.le_zero.1 h];simp⟩
 | n+1,i,h=>by
  by_cases e:i=n+1
  .exact⟨[],by rw[e];simp⟩
  .obtain⟨l,hl⟩:=GU j r n i zB;rw[UY];split
   .exact⟨l++[n],by rw[hl,zBx]⟩
   .exact⟨l,hl⟩
def Hh (j:Jn) (r:Int):List (Nat×xW):=[(1003,.box [zE xN j.ph,zE iA j.cf,iA j.st]),(1004,.box [iA r])]
def Vm (j:Jn) (r:Int):zM 299 [wK j,iA r] [] (.fn 339 [.ptr 1003 0 0,.ptr 1004 0 0]) (Hh j r):=by
 refine eM call299 λF hF=>?_
 repeat' (first|(apply zG;first|refine uX (dM (v:=AV.agg _) 1003 Z Z) Z Z Z ?_|refine uX (dM (v:=AV.s _) 1004 Z Z) Z Z Z ?_|refine uN tok Z Z ?_|apply kP)|(first|apply xZ|apply xR|refine uD Z ?_|refine yR Z ?_|refine yE Z ?_|refine wA Z (λhc=>?_) λhc=>?_|apply xJ|apply xL|apply xQ|apply xB))
 exact zP [1003,1004] Z Z Z Z
def Rc (j:Jn) (M:ln j.ph<=1000) (r:Int):TE prog 339 [.ptr 1003 0 0,.ptr 1004 0 0] (Hh j r) ((QX j r).map λp:Nat=>[iA (p:Int)]):=by
 have hl:=zA xN j.ph;refine VN func339 Z (λargs w=>call339 args w) Z Z Z (λF y I B G=>?_);unfold Hh;refine WW ?_;refine zO (ln j.ph) [1003,1004] [1003,1004] [0,2,7,8] [9,1000000,0,2,7,8] Z (λi T U=>⟨(9,iA i)::(1000000,.gh (LS j r i).length)::T,U⟩) (Lq ?_ ?_)
 .intro i hi;have L:=zJ xN j.ph i hi;have A:=UY j r i
  change (j.ph.map xN)[i]? =some (xN (yG j i))at L
  by_cases E:(yG j i).ring=r
  .rw[zA4 E]at A;obtain⟨O,u⟩:=GU j r (ln j.ph) (i+1) zB;rw[A]at u⊢
   have z:((QX j r).map λp:Nat=>[iA (p:Int)])[(LS j r i).length]? =some [iA (i:Int)]:=by
    unfold QX;rw[u,zBd,zB8 zW,zCa (zBa _),zEb];rfl
   have C:=(zBw.1 z).1;rw[zA9];generalize ((QX j r).map λp:Nat=>[iA (p:Int)])=xs,(LS j r i).length=k,yG j i=t at *
   (repeat' (first|refine uQ ?_|apply yW|apply xG|intro hc|(apply zG;apply xP;first|(apply Pf;refine FE B G Z Z z Z Z Z ?_ ?_))|(apply zG;first|refine SM ?_)|fail))
   .rfl
   .exact TF Z (.inr zB)
  .rw[Os E]at A;rw[A];generalize (LS j r i).length=k,yG j i=t at *;refine WW ?_;rfl
 .have e:(LS j r (ln j.ph)).length=((QX j r).map λp:Nat=>[iA (p:Int)]).length:=by rw[zA5];rfl
  refine WW ?_;exact ZV Z (.inl e)
def Qc (s p:Int):Bool:=jJ (vV s p) 1==1
def J1:∀(s:_root_.Fin 256) (p:_root_.Fin 8),vW BinOp.eql (IntKind.u64.wrap ((BitVec.ofInt IntKind.u64.bits (Int.fdiv (s.val:Int) (2 ^ min (p.val:Int).toNat IntKind.u64.bits)) &&& BitVec.ofInt IntKind.u64.bits 1).toNat:Int)) 1=Qc s.val p.val:=by decide +kernel
def BW (s p:Int) (A:0<=s/\s<256) (z:0<=p/\p<8):zM 359 [iA s,iA p] [] (bA (Qc s p)) []:=by
 have u:=J1 ⟨s.toNat,zB⟩ ⟨p.toNat,zB⟩;rw[show((s.toNat:Nat):Int)=s by omega,show((p.toNat:Nat):Int)=p by omega]at u;generalize Qc s p=q at *;subst u;refine eM call359 λF hF=>?_
 (repeat' (first|refine uQ ?_|apply yW|apply xG|intro hc|(apply zG;first|(apply wR;refine wJ (PN Z Z) Z ?_))|fail))
 exact zH
theorem Um (p:Nat->Bool) (i:Nat) (hi:i<8):Qc (gA p 8) i=p i:=zg p i hi
def RG (c:Ct) (p:Nat):Bool:=(xT c p).lamp != 0
def LT (c:Ct):Int:=gA (RG c) (ln c.li)
theorem GV (p:Nat->Bool):∀n m:Nat,n<=m->(∀i,n<=i->i<m->p i=false)->gA p m=gA p n
 |n,0,h,_=>by rw[Nat.le_zero.1 h]
 |n,m+1,h,u=>by
  by_cases e:n=m+1
  .rw[e]
  .rw[gA,u m zB zB];exact GV p n m zB λi h1 h2=>u i h1 zB
theorem I1 (p:Nat->Bool) (n:Nat) (u:n<=25):Yj (gA p n) (p2 n)=gA p n+p2 n:=by
 have h1:=MV p n;have h2:(2:Nat) ^ n<=2 ^ 25:=zEy zB u;rw[AW,show p2 (n:Int)=((2 ^ n:Nat):Int) by unfold p2;simp,FS _ _ zB zB];have z:=Nat.two_pow_add_eq_or_of_lt h1 1
 grind
def U7 (c:Ct) (B:ln c.li<=25):zM 318 [LR c] [] (iA (LT c)) []:=by
 have hl:=zA xE c.li;unfold LT;refine eM call318 λF hF=>?_
 refine WW ?_;refine zO (ln c.li) [] [] [7,8] [3,9,7,8] Z (λi T U=>⟨(3,iA (gA (RG c) i))::(9,iA i)::T,U⟩) (Lq ?_ ?_)
 .intro i hi;have A:=zJ xE c.li i hi
  change (c.li.map xE)[i]? =some (xE (xT c i))at A
  have z:=I1 (RG c) i zB
  have e:gA (RG c) (i+1)=if RG c i=true then gA (RG c) i+p2 i else gA (RG c) i:=rfl
  rw[<-z]at e;have u:RG c i=((xT c i).lamp != 0):=rfl;rw[e,u];generalize gA (RG c) i=b,xT c i=t at *;by_cases h:t.lamp=0
  .rw[Os (by simp[h])];refine WW ?_;rfl
  .rw[zA4 (by simp[h])];refine WW ?_;rfl
 .exact ly
theorem ME {P:Nat->Prop}:∀n,P n->∃m,m<=n/\P m/\∀k,k<m->¬P k:=by
 intro n
 induction n using Nat.strongRecOn with
 |_ n u=>
  grind
def ET (u:List Int) (s:Int) (p q:Nat):Bool:=Qc s p&&(decide (q≠p)&&(Qc s q&&kK u p q))
theorem Tm (z:List Int) (hn:ln z<=8) (s:Int) (O:0<=s/\s<256):∃p q:Int,zM 317 [zE iA z,iA s] [] (.tup [iA p,iA q]) []/\((p= -1/\∀a b:Nat,a<ln z->b<ln z->ET z s a b=false)\/(0<=p/\∃a b:Nat,a<ln z/\b<ln z/\ET z s a b=true)):=by
 have hl:=zA iA z;by_cases M:∃a,a<ln z/\∃b,b<ln z/\ET z s a b=true
 .obtain⟨a,W,M⟩:=M;obtain⟨p,_,⟨hp,M⟩,Y⟩:=ME (P:=λa=>a<ln z/\∃b,b<ln z/\ET z s a b=true) a ⟨W,M⟩;obtain⟨b,hb⟩:=M;obtain⟨q,_,⟨hq,hc⟩,ac⟩:=ME (P:=λb=>b<ln z/\ET z s p b=true) b hb;refine⟨p,q,?_,.inr ⟨zB,p,q,hp,hq,hc⟩⟩
  have R:Qc s p=true:=by
   unfold ET at hc;rw[zBe]at hc;exact hc.1
  refine eM call317 λF hF=>?_
  refine WW ?_;refine yV (ln z) [] [] [0,1,9] [10,0,1,9] Z (λi T U zs=>(i<=p)/\zs=⟨(10,iA i)::T,U⟩) (Lp ?_ ?_ ?_)
  .exact⟨zBn _,rfl⟩
  .rintro u st hu ⟨hup,rfl⟩;have E:=BW s u O zB;by_cases S:u=p
   .subst S;rw[R]at E;refine zU E ?_;refine yV (ln z) [] [] [0,1,6,9,10,18] [19,0,1,6,9,10,18] Z (λi T U zs=>(i<=q)/\zs=⟨(19,iA i)::T,U⟩) (Lp ?_ ?_ ?_)
    .exact⟨zBn _,rfl⟩
    .rintro v st hv ⟨hvq,rfl⟩;have B:=BW s v O zB;have I:=gW z zB u v;by_cases V:v=q
     .subst V;unfold ET at hc;simp only[zBe,zBb]at hc;rw[hc.2.2.1]at B;rw[hc.2.2.2]at I;have C:(v:Int)≠u:=by omega
      exact mt (xU B I)
     .have A:ET z s u v=false:=by
       cases G:ET z s u v with
       |false=>rfl
       |true=>exact absurd ⟨hv,G⟩ (ac v zB)
      unfold ET at A;rw[R,zBg]at A;by_cases h1:v=u
      .have C:(v:Int)=u:=by omega
       refine WW ?_;exact⟨zB,rfl⟩
      have C:(v:Int)≠u:=by omega
      rw[zA7 h1,zBg]at A
      cases h2:Qc s v with
      |false=>
       rw[h2]at B;refine zU B ?_;exact⟨zB,rfl⟩
      |true=>
       rw[h2,zBg]at A;rw[h2]at B;rw[A]at I;refine yH (xU B I) ?_;exact⟨zB,rfl⟩
    .rintro st ⟨hvq,rfl⟩;exfalso;omega
   .have A:∀b,b<ln z->ET z s u b=false:=λb hb=>by
     cases G:ET z s u b with
     |false=>rfl
     |true=>exact absurd ⟨hu,b,hb,G⟩ (Y u zB)
    cases L:Qc s u with
    |false=>
     rw[L]at E;refine zU E ?_;exact⟨zB,rfl⟩
    |true=>
    rw[L]at E;refine zU E ?_;refine zO (ln z) [] [] [0,1,6,9,10,18] [19,0,1,6,9,10,18] Z (λi T U=>⟨(19,iA i)::T,U⟩) (Lq ?_ ?_)
    .intro v hv;have B:=BW s v O zB;have I:=gW z zB u v;have A:=A v hv;unfold ET at A;rw[L,zBg]at A;by_cases h1:v=u
     .have C:(v:Int)=u:=by omega
      refine WW ?_;rfl
     have C:(v:Int)≠u:=by omega
     rw[zA7 h1,zBg]at A
     cases h2:Qc s v with
     |false=>
      rw[h2]at B;refine zU B ?_;rfl
     |true=>
      rw[h2,zBg]at A;rw[h2]at B;rw[A]at I;refine yH (xU B I) ?_;rfl
    ·(refine WW ?_)
     exact⟨zB,rfl⟩
  .rintro st ⟨hup,rfl⟩;exfalso;omega
 .have A:∀a b,a<ln z->b<ln z->ET z s a b=false:=λa b W hb=>by
   cases G:ET z s a b with
   |false=>rfl
   |true=>exact absurd ⟨a,W,b,hb,G⟩ M
  refine⟨-1,-1,?_,.inl ⟨rfl,A⟩⟩;clear M;refine eM call317 λF hF=>?_
  refine WW ?_;refine zO (ln z) [] [] [0,1,9] [10,0,1,9] Z (λi T U=>⟨(10,iA i)::T,U⟩) (Lq ?_ ?_)
  .intro u hu;have E:=BW s u O zB
   cases L:Qc s u with
   |false=>
    rw[L]at E;refine zU E ?_;rfl
   |true=>
   rw[L]at E;refine zU E ?_;refine zO (ln z) [] [] [0,1,6,9,10,18] [19,0,1,6,9,10,18] Z (λi T U=>⟨(19,iA i)::T,U⟩) (Lq ?_ ?_)
   .intro v hv;have B:=BW s v O zB;have I:=gW z zB u v;have A:=A u v hu hv;unfold ET at A;rw[L,zBg]at A;by_cases h1:v=u
    .have C:(v:Int)=u:=by omega
     refine WW ?_;rfl
    have C:(v:Int)≠u:=by omega
    rw[zA7 h1,zBg]at A
    cases h2:Qc s v with
    |false=>
     rw[h2]at B;refine zU B ?_;rfl
    |true=>
     rw[h2,zBg]at A;rw[h2]at B;rw[A]at I;refine yH (xU B I) ?_;rfl
   ·(refine WW ?_)
    rfl
  .exact ly
def BX (j:Jn) (z:ln j.ph<=1000) (u:∀p:Nat,p<ln j.ph->0<=(yG j p).group/\(yG j p).group<=3):zM 319 [wK j] [] (iA (gN j)) []:=by
 have hl:=zA xN j.ph;unfold gN;refine eM call319 λF hF=>?_
 refine WW ?_;refine zO (ln j.ph) [] [] [7,8] [3,9,7,8] Z (λi T U=>⟨(3,iA (Zb j.ph i))::(9,iA i)::T,U⟩) (Lq ?_ ?_)
 .intro i hi;have A:=zJ xN j.ph i hi;have hb:=u i hi;unfold yG at hb;have e:Zb j.ph (i+1)=max (Zb j.ph i) ((j.ph.getD i dd).group+1):=rfl;rw[e];generalize Zb j.ph i=g,j.ph.getD i dd=t at *;refine WW ?_;rfl
 .exact ly
def VK (j:Jn) (r g:Int) (i:Nat):List Nat:=(oj i).filter λp=>(yG j p).ring==r&&(yG j p).group==g
theorem BZ (j:Jn) (r g:Int) (i:Nat):VK j r g (i+1)=if(yG j i).ring=r/\(yG j i).group=g then VK j r g i++[i]else VK j r g i:=by grind [VK,yG,List.range_succ,Bool.and_eq_false_iff]
def nf {α:Type} (f:α->AV) (l:List α):AV.sl false ((l.map f).take (l.map f).length)=zE f l:=by rw[zA8];rfl
def nA (p:Nat):AV:=iA (p:Int)
def zAi (j:Jn) (C:ln j.ph<=1000) (r g:Int):zM 321 [wK j,iA r,iA g] [] (zE nA (VK j r g (ln j.ph))) []:=by
 have hl:=zA xN j.ph;refine eM call321 λF hF=>?_
 refine WW ?_;refine zS 7 1001 1 Z Z Z ?_;refine zO (ln j.ph) [1001] [] [1,2,11,12] [7,13,1,2,11,12] Z (λi T U=>⟨(7,.ref 1001 0 ((VK j r g i).map nA).length)::(13,iA i)::T,(1001,.arr 1 ((VK j r g i).map nA) true)::U⟩) (Lq ?_ ?_)
 .intro i hi;have B:=zJ xN j.ph i hi
  change (j.ph.map xN)[i]? =some (xN (yG j i))at B
  have z:=BZ j r g i
  have u:(VK j r g i).length<=1000:=by
   have:(VK j r g i).length<=(oj i).length:=zCv _ _;rw[zCp]at this;omega
  have A:((VK j r g i).map nA).length<=1000:=by rw[zA5];exact u
  rw[z];generalize VK j r g i=o,yG j i=t at *;by_cases h1:t.ring=r
  .by_cases h2:t.group=g
   .rw[zA4 ⟨h1,h2⟩,zBc];generalize o.map nA=xs at *;refine WW ?_;rfl
   .rw[Os (λh=>h2 h.2)];refine WW ?_;rfl
  .rw[Os (λh=>h1 h.1)];refine WW ?_;rfl
 ·(refine WW ?_)
  exact zI [] Z Z (nf _ _) Z
def GW (l:List Nat) (x:Int):Bool:=l.any λp:Nat=>(p:Int)==x
def Sm (l:List Nat) (O:ln l<=1000) (x:Int):∃k:Int,zM 360 [zE nA l,iA x] [] (iA k) []/\ -1<=k/\k<1000/\(GW l x=decide (0<=k)):=by
 have hl:=zA nA l;by_cases A:∃i,i<ln l/\((l.getD i dd:Nat):Int)=x
 .obtain⟨L,h1,h2⟩:=A;obtain⟨k,_,⟨hk,E⟩,C⟩:=ME (P:=λi=>i<ln l/\((l.getD i dd:Nat):Int)=x) L ⟨h1,h2⟩;refine⟨k,?_,zB,zB,?_⟩
  ·(refine eM call360 λF hF=>?_)
   refine WW ?_;refine yV (ln l) [] [] [0,1,7] [8,0,1,7] Z (λi T U M=>(i<=k)/\M=⟨(8,iA i)::T,U⟩) (Lp ?_ ?_ ?_)
   .exact⟨zBn _,rfl⟩
   .rintro u st z ⟨huk,rfl⟩;have B:=zJ nA l u z;by_cases e:u=k
    .subst e;generalize l.getD u dd=v at *;unfold nA at B;exact ly
    .have G:¬((l.getD u dd:Nat):Int)=x:=λh=>C u zB ⟨z,h⟩
     generalize l.getD u dd=v at *;unfold nA at B;refine WW ?_;exact⟨zB,rfl⟩
   .rintro st ⟨huk,rfl⟩;exfalso;omega
  .rw[zA7 zB];unfold GW;rw[zCw];exact⟨l.getD k dd,by simp[pb,hk],by rw[zCm];exact E⟩
 .refine⟨-1,?_,zB,zB,?_⟩
  ·(refine eM call360 λF hF=>?_)
   refine WW ?_;refine zO (ln l) [] [] [0,1,7] [8,0,1,7] Z (λi T U=>⟨(8,iA i)::T,U⟩) (Lq ?_ ?_)
   .intro u z;have B:=zJ nA l u z;have G:¬((l.getD u dd:Nat):Int)=x:=λh=>A ⟨u,z,h⟩
    generalize l.getD u dd=v at *;unfold nA at B;clear A;refine WW ?_;rfl
   .clear A;exact ly
  .rw[zA6 zB];unfold GW;rw[zDn];intro p I;obtain⟨i,hi,rfl⟩:=zDl I;intro h;rw[zCm]at h;exact A ⟨i,hi,by simpa [pb,hi]using h⟩
def Pc (l:List Nat) (z:ln l<=1000) (x:Int):zM 320 [zE nA l,iA x] [] (bA (GW l x)) []:=by
 obtain⟨k,c,h1,h2,u⟩:=Sm l z x;rw[u];by_cases h:0<=k
 .rw[zA7 h];refine eM call320 λF hF=>?_
  exact mx c
 .rw[zA6 h];refine eM call320 λF hF=>?_
  exact mx c
def Qm (l:Li):zM 362 [xE l] [] (bA (l.lamp != 0)) []:=by
 by_cases h:l.lamp=0
 .rw[show(l.lamp != 0)=false by simp[h]];refine eM call362 λF hF=>?_
  exact ly
 .rw[show(l.lamp != 0)=true by simp[h]];refine eM call362 λF hF=>?_
  exact ly
def A1 (c:Ct) (R:ln c.li<=1000):∃k:Int,zM 388 [zE xE c.li,.fn 362 []] [] (iA k) []/\ -1<=k/\k<1000/\(Yb c= !decide (0<=k)):=by
 have hl:=zA xE c.li;by_cases I:∃i,i<ln c.li/\(xT c i).lamp≠0
 .obtain⟨M,h1,h2⟩:=I;obtain⟨k,_,⟨hk,A⟩,E⟩:=ME (P:=λi=>i<ln c.li/\(xT c i).lamp≠0) M ⟨h1,h2⟩;refine⟨k,?_,zB,zB,?_⟩
  ·(refine eM call388 λF hF=>?_)
   refine WW ?_;refine yV (ln c.li) [] [] [0,1,7] [8,0,1,7] Z (λi T U O=>(i<=k)/\O=⟨(8,iA i)::T,U⟩) (Lp ?_ ?_ ?_)
   .exact⟨zBn _,rfl⟩
   .rintro u st B ⟨huk,rfl⟩;have L:=zJ xE c.li u B
    change (c.li.map xE)[u]? =some (xE (xT c u))at L
    have z:=Qm (xT c u);by_cases e:u=k
    .subst e;rw[show((xT c u).lamp != 0)=true by simpa using A]at z;generalize xT c u=v at *;exact mx z
    .have G:(xT c u).lamp=0:=zDq λh=>E u zB ⟨B,h⟩
     rw[show((xT c u).lamp != 0)=false by simpa using G]at z;generalize xT c u=v at *;refine zU z ?_;exact⟨zB,rfl⟩
   .rintro st ⟨huk,rfl⟩;exfalso;omega
  .rw[zA7 zB];unfold Yb;exact zEd.2 ⟨xT c k,by simp[xT,pb,hk],by simpa using A⟩
 .have C:∀i,i<ln c.li->(xT c i).lamp=0:=λi hi=>zDq λh=>I ⟨i,hi,h⟩
  refine⟨-1,?_,zB,zB,?_⟩
  .clear I;refine eM call388 λF hF=>?_
   refine WW ?_;refine zO (ln c.li) [] [] [0,1,7] [8,0,1,7] Z (λi T U=>⟨(8,iA i)::T,U⟩) (Lq ?_ ?_)
   .intro u B;have L:=zJ xE c.li u B
    change (c.li.map xE)[u]? =some (xE (xT c u))at L
    have z:=Qm (xT c u);have C:=C u B;rw[show((xT c u).lamp != 0)=false by simpa using C]at z;generalize xT c u=v at *;refine zU z ?_;rfl
   .exact ly
  .rw[zA6 zB];unfold Yb;rw[zE3,zBi];intro l hl;obtain⟨i,hi,rfl⟩:=zDl hl;have:=C i hi;simpa [xT,pb,hi]using this
def AA (c:Ct) (B:ln c.li<=1000):zM 322 [LR c] [] (bA (Yb c)) []:=by
 obtain⟨k,u,h1,h2,A⟩:=A1 c B
 have z:zM 361 [zE xE c.li,.fn 362 []] [] (bA (decide (0<=k))) []:=by
  by_cases h:0<=k
  .rw[zA7 h];refine eM call361 λF hF=>?_
   exact mx u
  .rw[zA6 h];refine eM call361 λF hF=>?_
   exact mx u
 rw[A]
 cases hd:decide (0<=k)<;>rw[hd]at z
 all_goals
  (refine eM call322 λF hF=>?_)
  exact mx z
def Q9 (j:Jn) (c:Ct):Bool:=(oj (ln j.ph)).all λp=>ib (yG j p) (xT c p)
def T7 (j:Jn) (c:Ct):Bool:=(oj (ln j.cf)).all λa=>(oj (ln j.cf)).all λb=>!ET j.cf (LT c) a b
def Pm (j:Jn) (c:Ct) (r:Nat):Bool:=decide (c.nx.getD r dd= -1)||GW (VK j r c.gr (ln j.ph)) (c.nx.getD r dd)
def Z2 (j:Jn) (c:Ct):Bool:=decide (ln c.li=ln j.ph/\c.nx.length=2)&&(Q9 j c&&(T7 j c&&(decide (0<=c.gr/\c.gr<gN j)&&((oj 2).all (Pm j c)&&(decide (0<=c.wt/\c.wt<=j.st)&&(decide (c.wt=0)||Yb c))))))
structure JB (j:Jn):Prop where
 n:j.ph.length<=8
 c:j.cf.length<=8
 gp:∀p:Nat,p<j.ph.length->0<=(yG j p).group/\(yG j p).group<=3
theorem JV.b (J:JV j):JB j:=⟨J.n.2,by rw[J.c];exact J.n.2,J.gp⟩
theorem S7 {n:Nat} (h:n<=8):p2 (n:Int)<=256:=by
 have:n=0\/n=1\/n=2\/n=3\/n=4\/n=5\/n=6\/n=7\/n=8:=by omega
 grind [p2]
theorem fu (j:Jn) (J:JB j) (c:Ct):zM 281 [wK j,LR c] [] (bA (Z2 j c)) []:=by
 have a2:=zA xN j.ph;have az:=zA xE c.li;have a1:=zA iA c.nx;have a3:=J.n;unfold Z2;by_cases h1:ln c.li=ln j.ph
 case neg=>
  rw[zA6 (λh=>h1 h.1)];refine eM call281 λF hF=>?_
  exact ly
 by_cases h2:ln c.nx=2
 case neg=>
  rw[zA6 (λh=>h2 h.2)];refine eM call281 λF hF=>?_
  exact ly
 rw[zA7 ⟨h1,h2⟩,zBg];have cs:=U7 c zB;have au:=VQ (RG c) (ln c.li) zB;have a4:=S7 (n:=ln c.li) zB
 change 0<=LT c/\LT c<p2 (ln c.li) at au
 obtain⟨cp,cq,B,C⟩:=Tm j.cf J.c (LT c) zB
 have ap:T7 j c=decide (cp= -1):=by
  unfold T7
  rcases C with⟨h3,h4⟩|⟨h3,a,b,ha,hb,h4⟩
  .rw[zA7 h3,zBi];intro a ha;rw[zBi];intro b hb;rw[h4 a b (zBv.1 ha) (zBv.1 hb)];rfl
  .rw[zA6 zB,zEd];refine⟨a,zBv.2 ha,?_⟩;rw[zEr,zEd];exact⟨b,zBv.2 hb,by rw[h4];decide⟩
 have ax:cp= -1\/0<=cp:=by
  rcases C with h|h
  .exact .inl h.1
  .exact .inr h.1
 have I:=BX j zB J.gp;have ca:=AA c zB;clear C;rw[ap];generalize LT c=se,gN j=gm at *;generalize a5:Yb c=ra at *;refine eM call281 λF hF=>?_
 refine WW ?_;refine yV (ln j.ph) [2,3] [2,3] [2,3,25,26] [27,2,3,25,26] Z (λi T U zs=>(∀s:Nat,s<i->ib (yG j s) (xT c s)=true)/\zs=⟨(27,iA i)::T,U⟩) (Lp ?_ ?_ ?_)
 .exact⟨λs W=>absurd W (zC0 _),rfl⟩
 .rintro i st hi ⟨hp,rfl⟩;have hy:=zJ xN j.ph i hi;have av:=zJ xE c.li i zB
  change (j.ph.map xN)[i]? =some (xN (yG j i))at hy
  change (c.li.map xE)[i]? =some (xE (xT c i))at av
  have cv:=Wm (yG j i) (xT c i)
  cases V:ib (yG j i) (xT c i)with
  | true=>
   rw[V]at cv
   have ar:∀s:Nat,s<i+1->ib (yG j s) (xT c s)=true:=λs W=>by
    by_cases G:s=i
    .subst G;assumption
    .exact hp s zB
   clear V hp;generalize yG j i=t,xT c i=l at *;clear cs B I ca;refine zU cv ?_;exact⟨ar,rfl⟩
  |false=>
   have u:Q9 j c=false:=zEd.2 ⟨i,zBv.2 hi,by rw[V];decide⟩;rw[V]at cv;rw[u,zB7];clear V hp;generalize yG j i=t,xT c i=l at *;clear cs B I ca;exact mx cv
 .rintro st ⟨hp,rfl⟩;have u:Q9 j c=true:=zBi.2 λi hi=>hp i (zBv.1 hi)
  rw[u,zBg];clear hp u;by_cases M:cp= -1
  case neg=>
   rw[zA6 M];exact mt (xU cs B)
  rw[zA7 M,zBg];by_cases O:0<=c.gr
  case neg=>
   rw[zA6 (λh=>O h.1)];exact mt (qL cs B I)
  by_cases R:c.gr<gm
  case neg=>
   rw[zA6 (λh=>R h.2)];exact mt (qL cs B I)
  rw[zA7 ⟨O,R⟩,zBg];refine yH (qL cs B I) ?_;refine yV (ln c.nx) [2,3] [2,3] [2,3,62,63] [64,2,3,62,63] Z (λi T U zs=>(∀s:Nat,s<i->Pm j c s=true)/\zs=⟨(64,iA i)::T,U⟩) (Lp ?_ ?_ ?_)
  .exact⟨λs W=>absurd W (zC0 _),rfl⟩
  .rintro i st hi ⟨hp,rfl⟩;have hy:=zJ iA c.nx i hi;have co:=zAi j zB i c.gr
   have S:(VK j i c.gr (ln j.ph)).length<=1000:=by
    have:(VK j i c.gr (ln j.ph)).length<=(oj (ln j.ph)).length:=zCv _ _;rw[zCp]at this;omega
   have ch:=Pc (VK j i c.gr (ln j.ph)) S (c.nx.getD i dd)
   have A:Pm j c i=true->∀s:Nat,s<i+1->Pm j c s=true:=λh s W=>by
    by_cases G:s=i
    .subst G;exact h
    .exact hp s zB
   have ag:Pm j c i=false->((oj 2).all (Pm j c))=false:=λh=>zEd.2 ⟨i,zBv.2 zB,by rw[h];decide⟩
   have L:Pm j c i=(decide (c.nx.getD i dd= -1)||GW (VK j i c.gr (ln j.ph)) (c.nx.getD i dd)):=rfl;clear hp cs B I ca;generalize VK j i c.gr (ln j.ph)=o at *;generalize GW o (c.nx.getD i dd)=hb at *;generalize c.nx.getD i dd=x,Pm j c i=q at *;by_cases hx:x= -1
   .rw[zA7 hx]at L;have E:=A L;refine WW ?_;exact⟨E,rfl⟩
   rw[zA6 hx,zDj]at L
   cases hb with
   |true=>
    have E:=A L;refine yH (xU co ch) ?_;exact⟨E,rfl⟩
   |false=>
    rw[ag L,zB7];exact mt (xU co ch)
  .rintro st ⟨hp,rfl⟩;have z:((oj 2).all (Pm j c))=true:=zBi.2 λi hi=>hp i (by have:=zBv.1 hi;omega)
   rw[z,zBg];clear hp z;by_cases Y:0<=c.wt
   case neg=>
    rw[zA6 (λh=>Y h.1)];exact ly
   by_cases ac:c.wt<=j.st
   case neg=>
    rw[zA6 (λh=>ac h.2)];exact ly
   rw[zA7 ⟨Y,ac⟩,zBg];by_cases hz:c.wt=0
   .rw[zA7 hz];exact ly
   .rw[zA6 hz,zDj];exact mx ca
theorem Y2 (J:JV j) (C:CV j c):Z2 j c=true:=by
 have O:=C.n;have R:=J.n;unfold Z2;have h1:Q9 j c=true:=zBi.2 λp L=>C.k p (zBv.1 L)
 have h2:T7 j c=true:=by
  unfold T7;rw[zBi];intro a u;rw[zBi];intro b hb;have u:=zBv.1 u;have hb:=zBv.1 hb;rw[J.c]at u hb
  have A:∀p:Nat,p<ln j.ph->Qc (LT c) p=RG c p:=λp L=>by
   unfold LT;have e:=GV (λq=>decide (q<ln c.li)&&RG c q) (ln c.li) 8 zB (λi h1 h2=>by rw[zA6 zB];rfl)
   grind [Z2,gA,RG,bX,Um]
  rw[zDm];unfold ET;rw[A a u,A b hb];by_cases B:b=a
  .grind
  .cases G:RG c a with
   |false=>rfl
   | true=>
    cases I:RG c b with
    |false=>simp
    |true=>
     rw[C.x a b u hb (λh=>B h.symm) (by simpa [RG]using G) (by simpa [RG]using I)];simp
 have M:((oj 2).all (Pm j c))=true:=zBi.2 λr E=>by
  have E:=zBv.1 E;unfold Pm
  rcases C.v r E with h|h
  .grind
  .have:GW (VK j r c.gr (ln j.ph)) (c.nx.getD r dd)=true:=by
    unfold GW;rw[zCw];obtain⟨a,b,d,e⟩:=h
    grind [Z2,VK]
   grind
 rw[zA7 ⟨O,C.m⟩,h1,h2,zA7 C.g,M,zA7 C.w];simp only[zBg]
 rcases C.z with h|h
 .grind
 .have:Yb c=true:=by
   grind [Z2,Yb,List.all_eq_true,List.getElem_of_mem,xT,pb]
  grind
theorem zAj (y:Int):jJ y 1=0\/jJ y 1=1:=by
 show IntKind.i64.wrap (BitVec.ofInt 64 y &&& BitVec.ofInt 64 1).toNat=0\/IntKind.i64.wrap (BitVec.ofInt 64 y &&& BitVec.ofInt 64 1).toNat=1
 have e1:BitVec.ofInt 64 1=1#64:=by decide
 have h:(BitVec.ofInt 64 y &&& BitVec.ofInt 64 1).toNat=(BitVec.ofInt 64 y).toNat % 2:=by
  grind
 rw[h];have h2:(BitVec.ofInt 64 y).toNat % 2=0\/(BitVec.ofInt 64 y).toNat % 2=1:=by omega
 rcases h2 with h2|h2<;>rw[h2]
 .exact .inl xA
 .exact .inr xA
theorem GX {u:List Int} {q:Nat} (z:p<ln u) (A:q<ln u):jJ (vV (u.getD p dd) q) 1=if kK u p q=true then 1 else 0:=by
 unfold kK;rw[zA7 zB,zBg,zBu]
 grind [jJ,vV,kK,zAj]
theorem zAk {x:Int} {n:Nat} (h:0<=x/\x<2 ^ n):vV x n=0:=by grind [vV,Int.toNat_natCast,Int.fdiv_eq_zero_of_lt]
def Gh (j:Jn) (J:JV j):zM 202 [zE iA j.cf] [] (bA true) []:=by
 have hl:=zA iA j.cf;have I:=J.n;have hc:=J.c;refine eM call202 λF hF=>?_
 refine WW ?_;refine zO (ln j.cf) [] [] [0,14,15] [16,0,14,15] Z (λi T U=>⟨(16,iA i)::T,U⟩) (Lq ?_ ?_)
 .intro u B;have L:=zJ iA j.cf u B;have A:=J.row u zB;have E:=zAk A;rw[<-hc,<-hl]at E;have C:=GX (p:=u) (q:=u) B B;rw[J.ir u zB,Os xA]at C
  have z:∀v,v<ln j.cf->jJ (vV (j.cf.getD u dd) v) 1=jJ (vV (j.cf.getD v dd) u) 1:=λv hv=>by
   rw[GX B hv,GX hv B,J.sy u v zB zB]
  generalize j.cf.getD u dd=x at *;refine WW ?_;refine zO (ln j.cf) [] [] [0,3,4,14,15,16,38] [39,0,3,4,14,15,16,38] Z (λi T U=>⟨(39,iA i)::T,U⟩) (Lq ?_ ?_)
  .intro v hv;have G:=zJ iA j.cf v hv;have z:=z v hv;generalize j.cf.getD v dd=y at *;refine WW ?_;rfl
  .clear z;refine WW ?_;rfl
 .exact ly
def UZ (n a b:Int) (h:a<=n/\n<=b):zM 148 [iA n,iA a,iA b] [] (bA true) []:=by
 obtain⟨h1,h2⟩:=h;refine eM call148 λF hF=>?_
 exact ly
def Om (j:Jn) (J:JV j) (p:Nat) (z:p<ln j.ph):zM 203 [xN (yG j p)] [] (bA true) []:=by
 have V:=J.rg p z;have U:=J.gp p z;obtain⟨W,t2,t3,t4,t5,t6,t7,t8,t9,A,B,Y,u⟩:=J.ti p z;generalize yG j p=t at *;have C:=UZ t.ring 0 1 V;have E:=UZ t.group 0 3 U;have G:=UZ t.ming 1 60 ⟨W,zB⟩;have I:=UZ t.maxg 1 60 ⟨zB,t3⟩;have L:=UZ t.yel 1 60 ⟨t4,t5⟩;have M:=UZ t.red 0 60 ⟨t6,t7⟩;have O:=UZ t.walk 0 60 ⟨t8,t9⟩;have R:=UZ t.clear 0 60 ⟨A,B⟩;by_cases S:t.walk=0
 .have h1:=u.1 S;clear u;refine eM call203 λF hF=>?_
  exact mt (tu C E G I L M O R)
 .have h1:¬t.clear=0:=λh=>S (u.2 h)
  clear u;refine eM call203 λF hF=>?_
  exact mt (tu C E G I L M O R)
def Nm (j:Jn) (J:JV j):zM 204 [wK j] [] (bA true) []:=by
 have hl:=zA xN j.ph;have L:=J.n;have hc:=J.c;refine eM call204 λF hF=>?_
 repeat' (first|(apply zG;first|refine uN tok Z Z ?_|refine YV tok Z Z Z Z ?_|apply kP)|first|refine SQ ?_|fail|apply bY|apply bZ|apply xB)
 refine zO (ln j.ph) [1] [1] [1,9,10] [3,11,1,9,10] Z (λi T U=>⟨(3,bA true)::(11,iA i)::T,U⟩) (Lq ?_ ?_)
 .intro u G;have I:=zJ xN j.ph u G
  change (j.ph.map xN)[u]? =some (xN (yG j u))at I
  refine WW ?_;refine zO (ln j.ph) [1,5] [1,5] [1,4,5,9,10,11,17,18] [3,19,1,4,5,9,10,11,17,18] Z (λi T U=>⟨(3,bA true)::(19,iA i)::T,U⟩) (Lq ?_ ?_)
  .intro v hv;have E:=zJ xN j.ph v hv
   change (j.ph.map xN)[v]? =some (xN (yG j v))at E
   have B:=gW j.cf zB u v;have z:=J.ap u v G hv;by_cases A:u=v
   .have C:(u:Int)=v:=by omega
    clear z;generalize yG j u=a,yG j v=b at *;refine WW ?_;rfl
   have C:¬(u:Int)=v:=by omega
   by_cases h1:(yG j u).ring=(yG j v).ring
   .rw[z A (.inl h1)]at B;clear z;generalize yG j u=a,yG j v=b at *;refine zU B ?_;rfl
   by_cases h2:(yG j u).group=(yG j v).group
   .clear z;generalize yG j u=a,yG j v=b at *;refine WW ?_;rfl
   .rw[z A (.inr h2)]at B;clear z;generalize yG j u=a,yG j v=b at *;refine zU B ?_;rfl
  .generalize yG j u=a at *;refine WW ?_;rfl
 .exact ly
def KE (j:Jn) (i:Nat) (g:Nat):Bool:=(oj i).any λp=>(yG j p).group==(g:Int)
theorem Mm (j:Jn) (i:Nat):KE j (i+1)=λg=>KE j i g||((yG j i).group==(g:Int)):=by grind [KE,yG]
def R7 (g:Nat) (h:g<4):p2 (g:Int)=gA (λx:Nat=>(g:Int)==(x:Int)) 8:=by
 have:g=0\/g=1\/g=2\/g=3:=by omega
 rcases this with rfl|rfl|rfl|rfl<;>decide
theorem zAl:∀A u z B:Bool,(u=true->A=true)->(z=true->u=true)->(B=true->z=true)->jJ (gA (bq A u z B false false false false) 8) (gA (bq A u z B false false false false) 8+1)=0:=by decide +kernel
theorem du (j:Jn) (J:JV j):jJ (gA (KE j (ln j.ph)) 8) (gA (KE j (ln j.ph)) 8+1)=0:=by
 have u:∀g:Nat,4<=g->KE j (ln j.ph) g=false:=λg A=>by
  unfold KE;rw[zDn];intro p z;have:=J.gp p (zBv.1 z);simp;omega
 have hd:∀g:Nat,KE j (ln j.ph) (g+1)=true->KE j (ln j.ph) g=true:=λg h=>by
  unfold KE at h⊢;rw[zCw]at h⊢;obtain⟨p,z,A⟩:=h;rw[zCm]at A;obtain⟨q,C,B⟩:=J.lo p (zBv.1 z) g zB zB
  grind
 have e:gA (KE j (ln j.ph)) 8=gA (bq (KE j (ln j.ph) 0) (KE j (ln j.ph) 1) (KE j (ln j.ph) 2) (KE j (ln j.ph) 3) false false false false) 8:=bX 8 λi hi=>by
  match i,hi with
  |0,_=>rfl|1,_=>rfl|2,_=>rfl|3,_=>rfl
  |4,_=>exact u 4 zB
  |5,_=>exact u 5 zB
  |6,_=>exact u 6 zB
  |7,_=>exact u 7 zB
  |i+8,h=>omega
 grind [jJ,gA,KE,zAl]
def AB (j:Jn) (J:JV j):zM 149 [wK j] [] (bA true) []:=by
 have hl:=zA xN j.ph;have S:=zA iA j.cf;have hn:=J.n;have hc:=J.c;have E:=Gh j J;have G:=UZ j.st 0 60 J.st;have I:=Nm j J;have R:=du j J;have O:=VQ (KE j (ln j.ph)) 8 zB;have V:p2 ((8:Nat):Int)=256:=by decide
 refine eM call149 λF hF=>?_
 refine yH (xU E G) ?_;refine zO (ln j.ph) [1] [1] [1,34,35] [4,36,1,34,35] Z (λi T U=>⟨(4,iA (gA (KE j i) 8))::(36,iA i)::T,U⟩) (Lq ?_ ?_)
 .intro u C;have W:=zJ xN j.ph u C
  change (j.ph.map xN)[u]? =some (xN (yG j u))at W
  have M:=Om j J u C;have Y:=J.gp u C;have B:=Mm j u;obtain⟨L,A⟩:∃n:Nat,(yG j u).group=n:=⟨(yG j u).group.toNat,zB⟩;have z:=Jo (KE j u) (λx:Nat=>(L:Int)==(x:Int));rw[<-R7 L zB]at z;rw[A]at B;rw[B,<-z];generalize gA (KE j u) 8=b at *;rw[<-A];clear E G I z B;generalize yG j u=t at *;refine zU M ?_;rfl
 .generalize gA (KE j (ln j.ph)) 8=b at *;exact mx I
