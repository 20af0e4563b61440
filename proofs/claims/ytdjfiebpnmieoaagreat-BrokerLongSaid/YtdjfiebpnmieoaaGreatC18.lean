/- Part 18. -/
import Derived.Test.YtdjfiebpnmieoaaGreatC13
namespace Go.Proofs.YtdjfiebpnmieoaaGreat.Av
open Tryz
set_option linter.all false
set_option maxRecDepth 4000
set_option maxHeartbeats 1000000
open List renaming length->ln,range->nm,getD->ny
open Inhabited renaming default->dd
variable {j:Jn}{p:Nat}
structure Li where
 lamp:Int
 tk:Int
structure Ct where
 li:List Li
 gr:Int
 nx:List Int
 wt:Int
variable {c:Ct}
instance:Inhabited Li:=⟨⟨0,0⟩⟩
def xH (l:Li):AV:= .agg [iA l.lamp,iA l.tk]
def HX (c:Ct):AV:= .agg [zD xH c.li,iA c.gr,zD iA c.nx,iA c.wt]
def kX (u:List Int) (p q:Int):Bool:=decide (0<=p/\0<=q/\p<ln u/\q<ln u)&&(jZ (vO (u.getD p.toNat dd) q) 1==1)
def Lf (p:Ph):Int:=max p.ming (p.walk+p.clear)
def AK (p:Ph) (l:Li) (lv:Bool):Li:=
 if l.lamp=1 then(if lv=true/\Lf p<=l.tk+1 then⟨2,0⟩else⟨1,min (l.tk+1) 1073741824⟩)
 else if l.lamp=2 then(if l.tk+1<p.yel then⟨2,l.tk+1⟩else if p.red=0 then⟨0,0⟩else⟨3,0⟩)
 else if l.lamp=3 then(if l.tk+1<p.red then⟨3,l.tk+1⟩else⟨0,0⟩)
 else l
def vc (p:Ph) (l:Li):Bool:=if l.lamp=0 then decide (l.tk=0)else if l.lamp=1 then decide (0<=l.tk/\l.tk<=1073741824)else if l.lamp=2 then decide (0<=l.tk/\l.tk<p.yel)else if l.lamp=3 then decide (0<=l.tk/\l.tk<p.red)else false
def yH (j:Jn) (p:Nat):Ph:=j.ph.getD p dd
def xT (c:Ct) (p:Nat):Li:=c.li.getD p dd
def AL (j:Jn) (r g p:Int):Prop:=0<=p/\p<ln j.ph/\(yH j p.toNat).ring=r/\(yH j p.toNat).group=g
def uc (u:List Ph):Nat->Int
 |0=>0
 |i+1=>max (uc u i) ((u.getD i dd).group+1)
def fT (j:Jn):Int:=uc j.ph (ln j.ph)
def am (u:List Ph) (n:Nat):∀i,i<n->(u.getD i dd).group+1<=uc u n:=by
 induction n with
 |zero=>intro i h;exact absurd h (zB7 _)
 |succ n z=>
  grind [uc]
def IL (j:Jn) (r:Int) (i:Nat):List Nat:=(nm i).filter λp=>(yH j p).ring==r
def NG (j:Jn) (r:Int):List Nat:=IL j r (ln j.ph)
theorem bZ {r:Int} :p∈NG j r↔p<ln j.ph/\(yH j p).ring=r:=by grind [NG,yH,IL]
def jV (j:Jn) (r g f:Int):Int:=match (NG j r).find? (λp:Nat=>decide (f<=(p:Int))&&(yH j p).group==g)with
 |some p=>p
 |none=> -1
theorem AM (j:Jn) (r g f:Int):jV j r g f= -1\/AL j r g (jV j r g f)/\f<=jV j r g f:=by
 unfold jV;split
 .rename_i p h;have h1:=List.find?_some h;have h2:=bZ.1 (zFm h)
  grind [jV,AL]
 .exact .inl Z
def OQ (j:Jn) (c:Ct) (g:Int):Ct:=⟨c.li,g,[jV j 0 g 0,jV j 1 g 0],c.wt⟩
def cW (j:Jn) (c:Ct) (p:Int):Bool:=(nm (ln c.li)).any λq=>(xT c q).lamp != 0&&kX j.cf p q
def AN (c:Ct) (p:Nat):Ct:=⟨c.li.set p ⟨1,0⟩,c.gr,c.nx,c.wt⟩
def KC (j:Jn) (c:Ct) (p:Nat):Ct:=if c.gr=(yH j p).group then AN c p else OQ j (AN c p) (yH j p).group
def uM (j:Jn) (c:Ct) (p:Nat):Ct:=
 if cW j c p=true then c
 else⟨(KC j c p).li,(KC j c p).gr,(KC j c p).nx.set (yH j p).ring.toNat (jV j (yH j p).ring (yH j p).group (p+1)),(KC j c p).wt⟩
def TK (j:Jn) (c:Ct) (r:Int):Bool:=(NG j r).all λp=>(xT c p).lamp==0
def CK (j:Jn) (x r t:Int):Int:=match (NG j r).find? (λp:Nat=>!kX j.cf p t&&decide (x≠ -1/\x<=(p:Int)))with
 |some p=>p
 |none=>match (NG j r).find? (λp:Nat=>!kX j.cf p t)with
  |some p=>p
  |none=> -1
def YV (j:Jn) (c:Ct) (r:Int) (t:Nat):Int:=if r=(yH j t).ring then t else CK j (c.nx.getD r.toNat dd) r t
def jQ (j:Jn) (t:Nat) (c:Ct) (r:Int):Ct:=if TK j c r=true then(if YV j c r t= -1 then c else uM j c (YV j c r t).toNat)else c
def qc (c:Ct):Bool:=c.li.all λl=>l.lamp==0
def Wj (c:Ct):Bool:=qc c&&c.nx.all λp=>p== -1
def vM (j:Jn) (c:Ct) (r:Int):Ct:=if TK j c r=true/\c.nx.getD r.toNat dd≠ -1 then uM j c (c.nx.getD r.toNat dd).toNat else c
def bc (j:Jn) (c:Ct):Ct:=vM j (vM j (if Wj c=true then OQ j c ((c.gr+1) % fT j)else c) 0) 1
def XQ (j:Jn) (t:Int):Bool:=decide (0<=t/\t<ln j.ph)
def EA (j:Jn) (c:Ct) (t:Int) (p:Nat):Bool:=
 if XQ j t=true then decide ((p:Int)≠t)&&(decide ((yH j p).maxg<=(xT c p).tk+1)||kX j.cf p t)else decide ((yH j p).maxg<=(xT c p).tk+1)
def RQ (j:Jn) (c:Ct) (t:Int):List Li:=(nm (ln j.ph)).map λp=>AK (yH j p) (xT c p) (EA j c t p)
def EB (j:Jn) (c:Ct) (t:Int):Ct:=
 if 0<c.wt then⟨c.li,c.gr,c.nx,c.wt-1⟩
 else if XQ j t=true then jQ j t.toNat (jQ j t.toNat ⟨RQ j c t,c.gr,c.nx,c.wt⟩ 0) 1
 else bc j ⟨RQ j c t,c.gr,c.nx,c.wt⟩
structure JV (j:Jn):Prop where
 n:1<=j.ph.length/\j.ph.length<=8
 c:j.cf.length=j.ph.length
 row:∀i,i<j.ph.length->0<=j.cf.getD i default/\j.cf.getD i default<2 ^ j.ph.length
 ir:∀p:Nat,p<j.ph.length->kX j.cf p p=false
 sy:∀p q:Nat,p<j.ph.length->q<j.ph.length->kX j.cf p q=kX j.cf q p
 ap:∀p q:Nat,p<j.ph.length->q<j.ph.length->p≠q->(yH j p).ring=(yH j q).ring\/(yH j p).group≠(yH j q).group->kX j.cf p q=true
 rg:∀p:Nat,p<j.ph.length->0<=(yH j p).ring/\(yH j p).ring<=1
 gp:∀p:Nat,p<j.ph.length->0<=(yH j p).group/\(yH j p).group<=3
 ti:∀p:Nat,p<j.ph.length->1<=(yH j p).ming/\(yH j p).ming<=(yH j p).maxg/\(yH j p).maxg<=60/\1<=(yH j p).yel/\(yH j p).yel<=60/\0<=(yH j p).red/\(yH j p).red<=60/\0<=(yH j p).walk/\(yH j p).walk<=60/\0<=(yH j p).clear/\(yH j p).clear<=60/\(yH j p).walk+(yH j p).clear<=(yH j p).maxg/\((yH j p).walk=0↔(yH j p).clear=0)
 lo:∀p:Nat,p<j.ph.length->∀g:Int,0<=g->g<(yH j p).group->∃q:Nat,q<j.ph.length/\(yH j q).group=g
 st:0<=j.st/\j.st<=60
structure CV (j:Jn) (c:Ct):Prop where
 n:c.li.length=j.ph.length
 k:∀p,p<j.ph.length->vc (yH j p) (xT c p)=true
 x:∀p q:Nat,p<j.ph.length->q<j.ph.length->p≠q->(xT c p).lamp≠0->(xT c q).lamp≠0->kX j.cf p q=false
 g:0<=c.gr/\c.gr<fT j
 m:c.nx.length=2
 v:∀r:Nat,r<2->c.nx.getD r default= -1\/AL j r c.gr (c.nx.getD r default)
 w:0<=c.wt/\c.wt<=j.st
 z:c.wt=0\/∀p,p<j.ph.length->(xT c p).lamp=0
def MI (J:JV j):1<=fT j:=by
 have h1:=am j.ph (ln j.ph) 0 GN;have h2:=J.gp 0 GN
 grind [fT,yH]
def Vx (j:Jn) (c:Ct) (g:Int):∀r:Nat,r<2->(OQ j c g).nx.getD r dd= -1\/AL j r g ((OQ j c g).nx.getD r dd):=by
 intro r u;have:r=0\/r=1:=by omega
 grind [OQ,AL,AM]
def AO (C:CV j c) {g:Int} (u:0<=g/\g<fT j):CV j (OQ j c g):=
 ⟨C.n,C.k,C.x,u,rfl,Vx j c g,C.w,C.z⟩
def Et (c:Ct) (p q:Nat) (l:Li) (u:Int) (nx:List Int) (z:Int) (A:p<ln c.li):xT ⟨c.li.set p l,u,nx,z⟩ q=if q=p then l else xT c q:=by grind [nx,xT]
def m6 (J:JV j) (C:CV j c) (E:c.wt=0) (I:p<ln j.ph) (hk:cW j c p=false):CV j (AN c p):=by
 have hl:=C.n
 have hs:∀q,xT (AN c p) q=if q=p then⟨1,0⟩else xT c q:=λq=>Et c p q _ _ _ _ zB
 unfold cW at hk;rw[zCy]at hk
 have hc:∀q:Nat,q<ln j.ph->(xT c q).lamp≠0->kX j.cf p q=false:=λq u G=>by
  grind
 refine⟨by unfold AN;simpa using hl,λq u=>?_,λq r u B z h1 h2=>?_,C.g,C.m,C.v,C.w,.inl E⟩
 .rw[hs];split
  .rfl
  .exact C.k q u
 .rw[hs]at h1 h2;by_cases e1:q=p
  .grind
  .rw[Of e1]at h1;by_cases A:r=p
   .subst A;rw[J.sy q r u B];exact hc q u h1
   .rw[Of A]at h2;exact C.x q r u B z h1 h2
def i6 (J:JV j) (C:CV j c) (u:c.wt=0) (z:p<ln j.ph) (hk:cW j c p=false):CV j (KC j c p)/\(KC j c p).gr=(yH j p).group/\(KC j c p).wt=0:=by
 have h1:=m6 J C u z hk;unfold KC;split
 .rename_i h;exact⟨h1,h,u⟩
 .have A:=J.gp p z;have:=am j.ph (ln j.ph) p z;exact⟨AO h1 ⟨A.1,by unfold fT;unfold yH;omega⟩,rfl,u⟩
theorem Ux (J:JV j) (C:CV j c) (A:c.wt=0) (E:p<ln j.ph):CV j (uM j c p)/\(uM j c p).wt=0:=by
 unfold uM;split
 .exact⟨C,A⟩
 .rename_i hk;obtain⟨B,I,G⟩:=i6 J C A E (by simpa using hk);have L:=J.rg p E;refine⟨⟨B.n,B.k,B.x,B.g,by rw[zBp];exact B.m,λr u=>?_,B.w,B.z⟩,G⟩;have hs:=AM j (yH j p).ring (yH j p).group (p+1);generalize jV j (yH j p).ring (yH j p).group (p+1)=f at *;dsimp only
  have e:((KC j c p).nx.set (yH j p).ring.toNat f).getD r dd=if r=(yH j p).ring.toNat then f else(KC j c p).nx.getD r dd:=by
   simp only[zAl,zDk];split
   .rename_i h;subst h;rw[Os Z,B.m,Os u];rfl
   all_goals grind
  rw[e];split
  .grind
  .exact B.v r u
theorem AP (j:Jn) (x r t:Int):CK j x r t= -1\/∃p:Nat,CK j x r t=p/\p<ln j.ph/\(yH j p).ring=r/\kX j.cf p t=false:=by
 unfold CK;split
 .rename_i p h;have h1:=List.find?_some h;have h2:=bZ.1 (zFm h)
  grind
 all_goals grind [CK,yH,kX,bZ,List.mem_of_find?_eq_some,Bool.not_eq_true']
theorem pm {r:Int} {t:Nat} (u:t<ln j.ph):YV j c r t= -1\/∃p:Nat,YV j c r t=p/\p<ln j.ph/\(yH j p).ring=r:=by grind [YV,yH,AP]
theorem om (J:JV j) (C:CV j c) (u:c.wt=0) {t:Nat} (z:t<ln j.ph) (r:Int):CV j (jQ j t c r)/\(jQ j t c r).wt=0:=by grind [jQ,pm,Int.toNat_natCast,Ux]
def XR (J:JV j) (C:CV j c) (u:c.wt=0) {r:Nat} (z:r<2):CV j (vM j c r)/\(vM j c r).wt=0:=by
 unfold vM;split
 .rename_i h;rw[zAx]at h⊢
  rcases C.v r z with h1|h1
  .grind
  .exact Ux J C u (by have:=h1.2.1;have:=h1.1;omega)
 .exact⟨C,u⟩
theorem Z6 (J:JV j) (C:CV j c) (u:c.wt=0):CV j (bc j c):=by
 have h1:CV j (if Wj c=true then OQ j c ((c.gr+1) % fT j)else c)/\(if Wj c=true then OQ j c ((c.gr+1) % fT j)else c).wt=0:=by
  split
  .have:=MI J;exact⟨AO C ⟨zD4 _ zB,zDq _ zB⟩,u⟩
  .exact⟨C,u⟩
 have h2:=XR J h1.1 h1.2 (r:=0) zB;exact(XR J h2.1 h2.2 (r:=1) zB).1
def W8 {p:Ph} {l:Li} {lv:Bool} (z:1<=p.yel) (u:0<=p.red) (h:vc p l=true):vc p (AK p l lv)=true/\((AK p l lv).lamp≠0->l.lamp≠0):=by grind [vc,AK]
theorem rm (t u:Int) (nx:List Int) (z:Int) (p:Nat) (A:p<ln j.ph):xT ⟨RQ j c t,u,nx,z⟩ p=AK (yH j p) (xT c p) (EA j c t p):=by grind [nx,xT,RQ,AK,yH,EA]
theorem sm (J:JV j) (C:CV j c) (B:c.wt=0) (t:Int):CV j ⟨RQ j c t,c.gr,c.nx,c.wt⟩:=by
 have hs:=λp u=>W8 (lv:=EA j c t p) (by have:=J.ti p u;omega) (by have:=J.ti p u;omega) (C.k p u)
 refine⟨by simp[RQ],λp u=>?_,λp q u A z h1 h2=>?_,C.g,C.m,C.v,C.w,.inl B⟩
 .grind [RQ,rm]
 .rw[rm _ _ _ _ _ u]at h1;rw[rm _ _ _ _ _ A]at h2;exact C.x p q u A z ((hs p u).2 h1) ((hs q A).2 h2)
theorem im (J:JV j) (C:CV j c) (t:Int):CV j (EB j c t):=by
 unfold EB;split
 .rename_i h;have u:=C.z;have B:=C.w;refine⟨C.n,C.k,C.x,C.g,C.m,C.v,by dsimp only;omega,?_⟩
  rcases u with u|u
  .omega
  .exact .inr u
 .have A:c.wt=0:=by have:=C.w;omega
  grind [EB,sm,XQ,om,Z6]
def fX (u:List Int) (C:ln u<=40) (p q:Int):zO 188 [zD iA u,iA p,iA q] [] (bA (kX u p q)) []:=by
 have hl:=zA iA u;unfold kX;by_cases h1:0<=p
 case neg=>
  rw[zAc (λh=>h1 h.1)];refine eM call188 λF hF=>?_
  exact lc
 by_cases h2:0<=q
 case neg=>
  rw[zAc (λh=>h2 h.2.1)];refine eM call188 λF hF=>?_
  exact lc
 by_cases z:p<ln u
 case neg=>
  rw[zAc (λh=>z h.2.2.1)];refine eM call188 λF hF=>?_
  exact lc
 by_cases A:q<ln u
 case neg=>
  rw[zAc (λh=>A h.2.2.2)];refine eM call188 λF hF=>?_
  exact lc
 rw[zAd ⟨h1,h2,z,A⟩,zAo];have E:=yF iA u p h1 z;generalize u.getD p.toNat dd=x at *;by_cases B:jZ (vO x q) 1=1
 .rw[show(jZ (vO x q) 1==1)=true by rw[zBl];exact B];refine eM call188 λF hF=>?_
  exact lc
 .rw[show(jZ (vO x q) 1==1)=false by rw[zAy];exact B];refine eM call188 λF hF=>?_
  exact lc
def Tx (p:Ph):Prop:=0<=p.walk/\p.walk<=60/\0<=p.clear/\p.clear<=60
def Kf (p:Ph) (h:Tx p):zO 139 [xQ p] [] (iA (Lf p)) []:=by
 obtain⟨h1,h2,u,z⟩:=h;refine eM call139 λF hF=>?_
 exact lc
def Bt (p:Ph) (h:Tx p) (l:Li) (A: -1000000000000<=l.tk/\l.tk<=1000000000000) (lv:Bool):zO 271 [xQ p,xH l,bA lv] [] (xH (AK p l lv)) []:=by
 have c:=Kf p h;unfold AK;by_cases h1:l.lamp=1
 .rw[Os h1];generalize Lf p=n at*
  cases lv with
  |false=>
   rw[Of (λh=>by cases h.1)];refine eM call271 λF hF=>?_
   exact lc
  |true=>
  by_cases h2:n<=l.tk+1
  .rw[Os ⟨rfl,h2⟩];refine eM call271 λF hF=>?_
   exact lk c
  .rw[Of (λh=>h2 h.2)];refine eM call271 λF hF=>?_
   exact lk c
 rw[Of h1];by_cases h2:l.lamp=2
 .rw[Os h2];by_cases u:l.tk+1<p.yel
  .rw[Os u];refine eM call271 λF hF=>?_
   exact lc
  rw[Of u];by_cases z:p.red=0
  .rw[Os z];refine eM call271 λF hF=>?_
   exact lc
  .rw[Of z];refine eM call271 λF hF=>?_
   exact lc
 rw[Of h2];by_cases u:l.lamp=3
 .rw[Os u];by_cases z:l.tk+1<p.red
  .rw[Os z];refine eM call271 λF hF=>?_
   exact lc
  .rw[Of z];refine eM call271 λF hF=>?_
   exact lc
 .rw[Of u];refine eM call271 λF hF=>?_
  exact lc
def Zm (p:Ph) (l:Li):zO 315 [xQ p,xH l] [] (bA (vc p l)) []:=by
 unfold vc;by_cases u:l.lamp=0
 .rw[Os u];by_cases h:l.tk=0
  .rw[zAd h];refine eM call315 λF hF=>?_
   exact lc
  .rw[zAc h];refine eM call315 λF hF=>?_
   exact lc
 rw[Of u];by_cases h1:l.lamp=1
 .rw[Os h1];by_cases h:0<=l.tk
  .by_cases h':l.tk<=1073741824
   .rw[zAd ⟨h,h'⟩];refine eM call315 λF hF=>?_
    exact lc
   .rw[zAc (λk=>h' k.2)];refine eM call315 λF hF=>?_
    exact lc
  .rw[zAc (λk=>h k.1)];refine eM call315 λF hF=>?_
   exact lc
 rw[Of h1];by_cases h2:l.lamp=2
 .rw[Os h2];by_cases h:0<=l.tk
  .by_cases h':l.tk<p.yel
   .rw[zAd ⟨h,h'⟩];refine eM call315 λF hF=>?_
    exact lc
   .rw[zAc (λk=>h' k.2)];refine eM call315 λF hF=>?_
    exact lc
  .rw[zAc (λk=>h k.1)];refine eM call315 λF hF=>?_
   exact lc
 rw[Of h2];by_cases z:l.lamp=3
 .rw[Os z];by_cases h:0<=l.tk
  .by_cases h':l.tk<p.red
   .rw[zAd ⟨h,h'⟩];refine eM call315 λF hF=>?_
    exact lc
   .rw[zAc (λk=>h' k.2)];refine eM call315 λF hF=>?_
    exact lc
  .rw[zAc (λk=>h k.1)];refine eM call315 λF hF=>?_
   exact lc
 .rw[Of z];refine eM call315 λF hF=>?_
  exact lc
theorem RR (j:Jn) (r:Int) (i:Nat):IL j r (i+1)=if(yH j i).ring=r then IL j r i++[i]else IL j r i:=by grind [IL,yH,List.range_succ]
theorem EC (j:Jn) (r:Int):∀n i,i<=n->∃l,IL j r n=IL j r i++l
 |0,i,h=>⟨[],by rw[Nat.le_zero.1 h];simp⟩
 | n+1,i,h=>by
  by_cases e:i=n+1
  .exact⟨[],by rw[e];simp⟩
  .obtain⟨l,hl⟩:=EC j r n i zB;rw[RR];split
   .exact⟨l++[n],by rw[hl,zA0]⟩
   .exact⟨l,hl⟩
def xi (j:Jn) (r:Int):List (Nat×wB):=[(1003,.box [zD xQ j.ph,zD iA j.cf,iA j.st]),(1004,.box [iA r])]
def Ym (j:Jn) (r:Int):zO 230 [wD j,iA r] [] (.fn 275 [.ptr 1003 0 0,.ptr 1004 0 0]) (xi j r):=by
 refine eM call230 λF hF=>?_
 repeat' (first|(apply zG;first|refine qB (fF (v:=AV.agg _) 1003 Z Z) Z Z Z ?_|refine qB (fF (v:=AV.s _) 1004 Z Z) Z Z Z ?_|refine wX tok Z Z ?_|apply uT)|(first|apply xK|apply xF|refine vQ Z ?_|refine yM Z ?_|refine yB Z ?_|refine xU Z (λhc=>?_) λhc=>?_|apply xB|apply xG|apply xJ|apply xE))
 exact zP [1003,1004] Z Z Z Z
def Bc (j:Jn) (M:ln j.ph<=1000) (r:Int):VT prog 275 [.ptr 1003 0 0,.ptr 1004 0 0] (xi j r) ((NG j r).map λp:Nat=>[iA (p:Int)]):=by
 have hl:=zA xQ j.ph;refine YC func275 Z (λargs w=>call275 args w) Z Z Z (λF y I B G=>?_);unfold xi;refine WW ?_;refine zN (ln j.ph) [1003,1004] [1003,1004] [0,2,7,8] [9,1000000,0,2,7,8] Z (λi T U=>⟨(9,iA i)::(1000000,.gh (IL j r i).length)::T,U⟩) (Lq ?_ ?_)
 .intro i hi;have L:=zJ xQ j.ph i hi;have A:=RR j r i
  change (j.ph.map xQ)[i]? =some (xQ (yH j i))at L
  by_cases E:(yH j i).ring=r
  .rw[Os E]at A;obtain⟨O,u⟩:=EC j r (ln j.ph) (i+1) zB;rw[A]at u⊢
   have z:((NG j r).map λp:Nat=>[iA (p:Int)])[(IL j r i).length]? =some [iA (i:Int)]:=by
    unfold NG;rw[u,zAi,zBg zW,zBc (zAg _),zCl];rfl
   have C:=(zAz.1 z).1;rw[zAh];generalize ((NG j r).map λp:Nat=>[iA (p:Int)])=xs,(IL j r i).length=k,yH j i=t at *
   (repeat' (first|refine uD ?_|apply yZ|apply xM|intro hc|(apply zG;apply xO;first|(apply ia;refine MP B G Z Z z Z Z Z ?_ ?_))|(apply zG;first|refine SM ?_)|fail))
   .rfl
   .exact ZD Z (.inr zB)
  .rw[Of E]at A;rw[A];generalize (IL j r i).length=k,yH j i=t at *;refine WW ?_;rfl
 .have e:(IL j r (ln j.ph)).length=((NG j r).map λp:Nat=>[iA (p:Int)]).length:=by rw[zAa];rfl
  refine WW ?_;exact XZ Z (.inl e)
def Ac (s p:Int):Bool:=jZ (vO s p) 1==1
def Z0:∀(s:_root_.Fin 256) (p:_root_.Fin 8),uE BinOp.eql (IntKind.u64.wrap ((BitVec.ofInt IntKind.u64.bits (Int.fdiv (s.val:Int) (2 ^ min (p.val:Int).toNat IntKind.u64.bits)) &&& BitVec.ofInt IntKind.u64.bits 1).toNat:Int)) 1=Ac s.val p.val:=by decide +kernel
def AQ (s p:Int) (hs:0<=s/\s<256) (z:0<=p/\p<8):zO 361 [iA s,iA p] [] (bA (Ac s p)) []:=by
 have u:=Z0 ⟨s.toNat,zB⟩ ⟨p.toNat,zB⟩;rw[show((s.toNat:Nat):Int)=s by omega,show((p.toNat:Nat):Int)=p by omega]at u;generalize Ac s p=q at *;subst u;refine eM call361 λF hF=>?_
 (repeat' (first|refine uD ?_|apply yZ|apply xM|intro hc|(apply zG;first|(apply xZ;refine yE (MR Z Z) Z ?_))|fail))
 exact zI
theorem Xm (p:Nat->Bool) (i:Nat) (hi:i<8):Ac (fA p 8) i=p i:=Jg p i hi
def PR (c:Ct) (p:Nat):Bool:=(xT c p).lamp != 0
def IM (c:Ct):Int:=fA (PR c) (ln c.li)
theorem ED (p:Nat->Bool):∀n m:Nat,n<=m->(∀i,n<=i->i<m->p i=false)->fA p m=fA p n
 |n,0,h,_=>by rw[Nat.le_zero.1 h]
 |n,m+1,h,u=>by
  by_cases e:n=m+1
  .rw[e]
  .rw[fA,u m zB zB];exact ED p n m zB λi h1 h2=>u i h1 zB
def Y0 (p:Nat->Bool) (n:Nat) (u:n<=25):Sj (fA p n) (p2 n)=fA p n+p2 n:=by
 have h1:=JS p n;have h2:(2:Nat) ^ n<=2 ^ 25:=zD8 zB u;rw[yb,show p2 (n:Int)=((2 ^ n:Nat):Int) by unfold p2;simp,DK _ _ zB zB];have z:=Nat.two_pow_add_eq_or_of_lt h1 1
 grind
def Y6 (c:Ct) (B:ln c.li<=25):zO 317 [HX c] [] (iA (IM c)) []:=by
 have hl:=zA xH c.li;unfold IM;refine eM call317 λF hF=>?_
 refine WW ?_;refine zN (ln c.li) [] [] [7,8] [3,9,7,8] Z (λi T U=>⟨(3,iA (fA (PR c) i))::(9,iA i)::T,U⟩) (Lq ?_ ?_)
 .intro i hi;have A:=zJ xH c.li i hi
  change (c.li.map xH)[i]? =some (xH (xT c i))at A
  have z:=Y0 (PR c) i zB
  have e:fA (PR c) (i+1)=if PR c i=true then fA (PR c) i+p2 i else fA (PR c) i:=rfl
  rw[<-z]at e;have u:PR c i=((xT c i).lamp != 0):=rfl;rw[e,u];generalize fA (PR c) i=b,xT c i=t at *;by_cases h:t.lamp=0
  .rw[Of (by simp[h])];refine WW ?_;rfl
  .rw[Os (by simp[h])];refine WW ?_;rfl
 .exact lc
def KD {P:Nat->Prop}:∀n,P n->∃m,m<=n/\P m/\∀k,k<m->¬P k:=by
 intro n
 induction n using Nat.strongRecOn with
 |_ n u=>
  grind
def CM (u:List Int) (s:Int) (p q:Nat):Bool:=Ac s p&&(decide (q≠p)&&(Ac s q&&kX u p q))
theorem Wm (z:List Int) (hn:ln z<=8) (s:Int) (hs:0<=s/\s<256):∃p q:Int,zO 316 [zD iA z,iA s] [] (.tup [iA p,iA q]) []/\((p= -1/\∀a b:Nat,a<ln z->b<ln z->CM z s a b=false)\/(0<=p/\∃a b:Nat,a<ln z/\b<ln z/\CM z s a b=true)):=by
 have hl:=zA iA z;by_cases hx:∃a,a<ln z/\∃b,b<ln z/\CM z s a b=true
 .obtain⟨a,S,hx⟩:=hx;obtain⟨p,_,⟨hp,hx⟩,V⟩:=KD (P:=λa=>a<ln z/\∃b,b<ln z/\CM z s a b=true) a ⟨S,hx⟩;obtain⟨b,hb⟩:=hx;obtain⟨q,_,⟨hq,hc⟩,W⟩:=KD (P:=λb=>b<ln z/\CM z s p b=true) b hb;refine⟨p,q,?_,.inr ⟨zB,p,q,hp,hq,hc⟩⟩
  have M:Ac s p=true:=by
   unfold CM at hc;rw[zAn]at hc;exact hc.1
  refine eM call316 λF hF=>?_
  refine WW ?_;refine yW (ln z) [] [] [0,1,9] [10,0,1,9] Z (λi T U zs=>(i<=p)/\zs=⟨(10,iA i)::T,U⟩) (Lp ?_ ?_ ?_)
  .exact⟨zAr _,rfl⟩
  .rintro u st Y ⟨hup,rfl⟩;have E:=AQ s u hs zB;by_cases O:u=p
   .subst O;rw[M]at E;refine zQ E ?_;refine yW (ln z) [] [] [0,1,6,9,10,18] [19,0,1,6,9,10,18] Z (λi T U zs=>(i<=q)/\zs=⟨(19,iA i)::T,U⟩) (Lp ?_ ?_ ?_)
    .exact⟨zAr _,rfl⟩
    .rintro v st hv ⟨hvq,rfl⟩;have B:=AQ s v hs zB;have I:=fX z zB u v;by_cases R:v=q
     .subst R;unfold CM at hc;simp only[zAn,zAe]at hc;rw[hc.2.2.1]at B;rw[hc.2.2.2]at I;have C:(v:Int)≠u:=by omega
      exact ld (xV B I)
     .have A:CM z s u v=false:=by
       cases G:CM z s u v with
       |false=>rfl
       |true=>exact absurd ⟨hv,G⟩ (W v zB)
      unfold CM at A;rw[M,zAo]at A;by_cases h1:v=u
      .have C:(v:Int)=u:=by omega
       refine WW ?_;exact⟨zB,rfl⟩
      have C:(v:Int)≠u:=by omega
      rw[zAd h1,zAo]at A
      cases h2:Ac s v with
      |false=>
       rw[h2]at B;refine zQ B ?_;exact⟨zB,rfl⟩
      |true=>
       rw[h2,zAo]at A;rw[h2]at B;rw[A]at I;refine yJ (xV B I) ?_;exact⟨zB,rfl⟩
    .rintro st ⟨hvq,rfl⟩;exfalso;omega
   .have A:∀b,b<ln z->CM z s u b=false:=λb hb=>by
     cases G:CM z s u b with
     |false=>rfl
     |true=>exact absurd ⟨Y,b,hb,G⟩ (V u zB)
    cases L:Ac s u with
    |false=>
     rw[L]at E;refine zQ E ?_;exact⟨zB,rfl⟩
    |true=>
    rw[L]at E;refine zQ E ?_;refine zN (ln z) [] [] [0,1,6,9,10,18] [19,0,1,6,9,10,18] Z (λi T U=>⟨(19,iA i)::T,U⟩) (Lq ?_ ?_)
    .intro v hv;have B:=AQ s v hs zB;have I:=fX z zB u v;have A:=A v hv;unfold CM at A;rw[L,zAo]at A;by_cases h1:v=u
     .have C:(v:Int)=u:=by omega
      refine WW ?_;rfl
     have C:(v:Int)≠u:=by omega
     rw[zAd h1,zAo]at A
     cases h2:Ac s v with
     |false=>
      rw[h2]at B;refine zQ B ?_;rfl
     |true=>
      rw[h2,zAo]at A;rw[h2]at B;rw[A]at I;refine yJ (xV B I) ?_;rfl
    ·(refine WW ?_)
     exact⟨zB,rfl⟩
  .rintro st ⟨hup,rfl⟩;exfalso;omega
 .have A:∀a b,a<ln z->b<ln z->CM z s a b=false:=λa b S hb=>by
   cases G:CM z s a b with
   |false=>rfl
   |true=>exact absurd ⟨a,S,b,hb,G⟩ hx
  refine⟨-1,-1,?_,.inl ⟨rfl,A⟩⟩;clear hx;refine eM call316 λF hF=>?_
  refine WW ?_;refine zN (ln z) [] [] [0,1,9] [10,0,1,9] Z (λi T U=>⟨(10,iA i)::T,U⟩) (Lq ?_ ?_)
  .intro u Y;have E:=AQ s u hs zB
   cases L:Ac s u with
   |false=>
    rw[L]at E;refine zQ E ?_;rfl
   |true=>
   rw[L]at E;refine zQ E ?_;refine zN (ln z) [] [] [0,1,6,9,10,18] [19,0,1,6,9,10,18] Z (λi T U=>⟨(19,iA i)::T,U⟩) (Lq ?_ ?_)
   .intro v hv;have B:=AQ s v hs zB;have I:=fX z zB u v;have A:=A u v Y hv;unfold CM at A;rw[L,zAo]at A;by_cases h1:v=u
    .have C:(v:Int)=u:=by omega
     refine WW ?_;rfl
    have C:(v:Int)≠u:=by omega
    rw[zAd h1,zAo]at A
    cases h2:Ac s v with
    |false=>
     rw[h2]at B;refine zQ B ?_;rfl
    |true=>
     rw[h2,zAo]at A;rw[h2]at B;rw[A]at I;refine yJ (xV B I) ?_;rfl
   ·(refine WW ?_)
    rfl
  .exact lc
def AR (j:Jn) (z:ln j.ph<=1000) (u:∀p:Nat,p<ln j.ph->0<=(yH j p).group/\(yH j p).group<=3):zO 318 [wD j] [] (iA (fT j)) []:=by
 have hl:=zA xQ j.ph;unfold fT;refine eM call318 λF hF=>?_
 refine WW ?_;refine zN (ln j.ph) [] [] [7,8] [3,9,7,8] Z (λi T U=>⟨(3,iA (uc j.ph i))::(9,iA i)::T,U⟩) (Lq ?_ ?_)
 .intro i hi;have A:=zJ xQ j.ph i hi;have hb:=u i hi;unfold yH at hb;have e:uc j.ph (i+1)=max (uc j.ph i) ((j.ph.getD i dd).group+1):=rfl;rw[e];generalize uc j.ph i=g,j.ph.getD i dd=t at *;refine WW ?_;rfl
 .exact lc
def TL (j:Jn) (r g:Int) (i:Nat):List Nat:=(nm i).filter λp=>(yH j p).ring==r&&(yH j p).group==g
def AS (j:Jn) (r g:Int) (i:Nat):TL j r g (i+1)=if(yH j i).ring=r/\(yH j i).group=g then TL j r g i++[i]else TL j r g i:=by grind [TL,yH,List.range_succ,Bool.and_eq_false_iff]
def Jf {α:Type} (f:α->AV) (l:List α):AV.sl false ((l.map f).take (l.map f).length)=zD f l:=by rw[zAb];rfl
def nA (p:Nat):AV:=iA (p:Int)
def V8 (j:Jn) (C:ln j.ph<=1000) (r g:Int):zO 320 [wD j,iA r,iA g] [] (zD nA (TL j r g (ln j.ph))) []:=by
 have hl:=zA xQ j.ph;refine eM call320 λF hF=>?_
 refine WW ?_;refine zS 7 1001 1 Z Z Z ?_;refine zN (ln j.ph) [1001] [] [1,2,11,12] [7,13,1,2,11,12] Z (λi T U=>⟨(7,.ref 1001 0 ((TL j r g i).map nA).length)::(13,iA i)::T,(1001,.arr 1 ((TL j r g i).map nA) true)::U⟩) (Lq ?_ ?_)
 .intro i hi;have B:=zJ xQ j.ph i hi
  change (j.ph.map xQ)[i]? =some (xQ (yH j i))at B
  have z:=AS j r g i
  have u:(TL j r g i).length<=1000:=by
   have:(TL j r g i).length<=(nm i).length:=zBy _ _;rw[zBo]at this;omega
  have A:((TL j r g i).map nA).length<=1000:=by rw[zAa];exact u
  rw[z];generalize TL j r g i=o,yH j i=t at *;by_cases h1:t.ring=r
  .by_cases h2:t.group=g
   .rw[Os ⟨h1,h2⟩,zAf];generalize o.map nA=xs at *;refine WW ?_;rfl
   .rw[Of (λh=>h2 h.2)];refine WW ?_;rfl
  .rw[Of (λh=>h1 h.1)];refine WW ?_;rfl
 ·(refine WW ?_)
  exact zH [] Z Z (Jf _ _) Z
def EE (l:List Nat) (x:Int):Bool:=l.any λp:Nat=>(p:Int)==x
def Vm (l:List Nat) (M:ln l<=1000) (x:Int):∃k:Int,zO 362 [zD nA l,iA x] [] (iA k) []/\ -1<=k/\k<1000/\(EE l x=decide (0<=k)):=by
 have hl:=zA nA l;by_cases hx:∃i,i<ln l/\((l.getD i dd:Nat):Int)=x
 .obtain⟨I,h1,h2⟩:=hx;obtain⟨k,_,⟨hk,C⟩,B⟩:=KD (P:=λi=>i<ln l/\((l.getD i dd:Nat):Int)=x) I ⟨h1,h2⟩;refine⟨k,?_,zB,zB,?_⟩
  ·(refine eM call362 λF hF=>?_)
   refine WW ?_;refine yW (ln l) [] [] [0,1,7] [8,0,1,7] Z (λi T U L=>(i<=k)/\L=⟨(8,iA i)::T,U⟩) (Lp ?_ ?_ ?_)
   .exact⟨zAr _,rfl⟩
   .rintro u st z ⟨huk,rfl⟩;have A:=zJ nA l u z;by_cases e:u=k
    .subst e;generalize l.getD u dd=v at *;unfold nA at A;exact lc
    .have E:¬((l.getD u dd:Nat):Int)=x:=λh=>B u zB ⟨z,h⟩
     generalize l.getD u dd=v at *;unfold nA at A;refine WW ?_;exact⟨zB,rfl⟩
   .rintro st ⟨huk,rfl⟩;exfalso;omega
  .rw[zAd zB];unfold EE;rw[zBz];exact⟨l.getD k dd,by simp[ny,hk],by rw[zBl];exact C⟩
 .refine⟨-1,?_,zB,zB,?_⟩
  ·(refine eM call362 λF hF=>?_)
   refine WW ?_;refine zN (ln l) [] [] [0,1,7] [8,0,1,7] Z (λi T U=>⟨(8,iA i)::T,U⟩) (Lq ?_ ?_)
   .intro u z;have A:=zJ nA l u z;have E:¬((l.getD u dd:Nat):Int)=x:=λh=>hx ⟨u,z,h⟩
    generalize l.getD u dd=v at *;unfold nA at A;clear hx;refine WW ?_;rfl
   .clear hx;exact lc
  .rw[zAc zB];unfold EE;rw[zCy];intro p G;obtain⟨i,hi,rfl⟩:=zCw G;intro h;rw[zBl]at h;exact hx ⟨i,hi,by simpa [ny,hi]using h⟩
def yd (l:List Nat) (z:ln l<=1000) (x:Int):zO 319 [zD nA l,iA x] [] (bA (EE l x)) []:=by
 obtain⟨k,c,h1,h2,u⟩:=Vm l z x;rw[u];by_cases h:0<=k
 .rw[zAd h];refine eM call319 λF hF=>?_
  exact lk c
 .rw[zAc h];refine eM call319 λF hF=>?_
  exact lk c
def Um (l:Li):zO 364 [xH l] [] (bA (l.lamp != 0)) []:=by
 by_cases h:l.lamp=0
 .rw[show(l.lamp != 0)=false by simp[h]];refine eM call364 λF hF=>?_
  exact lc
 .rw[show(l.lamp != 0)=true by simp[h]];refine eM call364 λF hF=>?_
  exact lc
def W0 (c:Ct) (O:ln c.li<=1000):∃k:Int,zO 397 [zD xH c.li,.fn 364 []] [] (iA k) []/\ -1<=k/\k<1000/\(qc c= !decide (0<=k)):=by
 have hl:=zA xH c.li;by_cases hx:∃i,i<ln c.li/\(xT c i).lamp≠0
 .obtain⟨L,h1,h2⟩:=hx;obtain⟨k,_,⟨hk,A⟩,E⟩:=KD (P:=λi=>i<ln c.li/\(xT c i).lamp≠0) L ⟨h1,h2⟩;refine⟨k,?_,zB,zB,?_⟩
  ·(refine eM call397 λF hF=>?_)
   refine WW ?_;refine yW (ln c.li) [] [] [0,1,7] [8,0,1,7] Z (λi T U M=>(i<=k)/\M=⟨(8,iA i)::T,U⟩) (Lp ?_ ?_ ?_)
   .exact⟨zAr _,rfl⟩
   .rintro u st B ⟨huk,rfl⟩;have I:=zJ xH c.li u B
    change (c.li.map xH)[u]? =some (xH (xT c u))at I
    have z:=Um (xT c u);by_cases e:u=k
    .subst e;rw[show((xT c u).lamp != 0)=true by simpa using A]at z;generalize xT c u=v at *;exact lk z
    .have G:(xT c u).lamp=0:=zD6 λh=>E u zB ⟨B,h⟩
     rw[show((xT c u).lamp != 0)=false by simpa using G]at z;generalize xT c u=v at *;refine zQ z ?_;exact⟨zB,rfl⟩
   .rintro st ⟨huk,rfl⟩;exfalso;omega
  .rw[zAd zB];unfold qc;exact zDj.2 ⟨xT c k,by simp[xT,ny,hk],by simpa using A⟩
 .have C:∀i,i<ln c.li->(xT c i).lamp=0:=λi hi=>zD6 λh=>hx ⟨i,hi,h⟩
  refine⟨-1,?_,zB,zB,?_⟩
  .clear hx;refine eM call397 λF hF=>?_
   refine WW ?_;refine zN (ln c.li) [] [] [0,1,7] [8,0,1,7] Z (λi T U=>⟨(8,iA i)::T,U⟩) (Lq ?_ ?_)
   .intro u B;have I:=zJ xH c.li u B
    change (c.li.map xH)[u]? =some (xH (xT c u))at I
    have z:=Um (xT c u);have C:=C u B;rw[show((xT c u).lamp != 0)=false by simpa using C]at z;generalize xT c u=v at *;refine zQ z ?_;rfl
   .exact lc
  .rw[zAc zB];unfold qc;rw[zEe,zAq];intro l hl;obtain⟨i,hi,rfl⟩:=zCw hl;have:=C i hi;simpa [xT,ny,hi]using this
def AT (c:Ct) (B:ln c.li<=1000):zO 321 [HX c] [] (bA (qc c)) []:=by
 obtain⟨k,u,h1,h2,A⟩:=W0 c B
 have z:zO 363 [zD xH c.li,.fn 364 []] [] (bA (decide (0<=k))) []:=by
  by_cases h:0<=k
  .rw[zAd h];refine eM call363 λF hF=>?_
   exact lk u
  .rw[zAc h];refine eM call363 λF hF=>?_
   exact lk u
 rw[A]
 cases hd:decide (0<=k)<;>rw[hd]at z
 all_goals
  (refine eM call321 λF hF=>?_)
  exact lk z
def H7 (j:Jn) (c:Ct):Bool:=(nm (ln j.ph)).all λp=>vc (yH j p) (xT c p)
def X6 (j:Jn) (c:Ct):Bool:=(nm (ln j.cf)).all λa=>(nm (ln j.cf)).all λb=>!CM j.cf (IM c) a b
def Tm (j:Jn) (c:Ct) (r:Nat):Bool:=decide (c.nx.getD r dd= -1)||EE (TL j r c.gr (ln j.ph)) (c.nx.getD r dd)
def V0 (j:Jn) (c:Ct):Bool:=decide (ln c.li=ln j.ph/\c.nx.length=2)&&(H7 j c&&(X6 j c&&(decide (0<=c.gr/\c.gr<fT j)&&((nm 2).all (Tm j c)&&(decide (0<=c.wt/\c.wt<=j.st)&&(decide (c.wt=0)||qc c))))))
structure JB (j:Jn):Prop where
 n:j.ph.length<=8
 c:j.cf.length<=8
 gp:∀p:Nat,p<j.ph.length->0<=(yH j p).group/\(yH j p).group<=3
theorem JV.b (J:JV j):JB j:=⟨J.n.2,by rw[J.c];exact J.n.2,J.gp⟩
def W6 {n:Nat} (h:n<=8):p2 (n:Int)<=256:=by
 have:n=0\/n=1\/n=2\/n=3\/n=4\/n=5\/n=6\/n=7\/n=8:=by omega
 grind [p2]
theorem zu (j:Jn) (J:JB j) (c:Ct):zO 270 [wD j,HX c] [] (bA (V0 j c)) []:=by
 have a1:=zA xQ j.ph;have ax:=zA xH c.li;have az:=zA iA c.nx;have a2:=J.n;unfold V0;by_cases h1:ln c.li=ln j.ph
 case neg=>
  rw[zAc (λh=>h1 h.1)];refine eM call270 λF hF=>?_
  exact lc
 by_cases h2:ln c.nx=2
 case neg=>
  rw[zAc (λh=>h2 h.2)];refine eM call270 λF hF=>?_
  exact lc
 rw[zAd ⟨h1,h2⟩,zAo];have cs:=Y6 c zB;have ar:=SJ (PR c) (ln c.li) zB;have a3:=W6 (n:=ln c.li) zB
 change 0<=IM c/\IM c<p2 (ln c.li) at ar
 obtain⟨cp,cq,B,C⟩:=Wm j.cf J.c (IM c) zB
 have ag:X6 j c=decide (cp= -1):=by
  unfold X6
  rcases C with⟨h3,h4⟩|⟨h3,a,b,ha,hb,h4⟩
  .rw[zAd h3,zAq];intro a ha;rw[zAq];intro b hb;rw[h4 a b (zA3.1 ha) (zA3.1 hb)];rfl
  .rw[zAc zB,zDj];refine⟨a,zA3.2 ha,?_⟩;rw[zCq,zDj];exact⟨b,zA3.2 hb,by rw[h4];decide⟩
 have av:cp= -1\/0<=cp:=by
  rcases C with h|h
  .exact .inl h.1
  .exact .inr h.1
 have I:=AR j zB J.gp;have ca:=AT c zB;clear C;rw[ag];generalize IM c=se,fT j=gm at *;generalize a4:qc c=ra at *;refine eM call270 λF hF=>?_
 refine WW ?_;refine yW (ln j.ph) [2,3] [2,3] [2,3,25,26] [27,2,3,25,26] Z (λi T U zs=>(∀s:Nat,s<i->vc (yH j s) (xT c s)=true)/\zs=⟨(27,iA i)::T,U⟩) (Lp ?_ ?_ ?_)
 .exact⟨λs hs=>absurd hs (zB7 _),rfl⟩
 .rintro i st hi ⟨hp,rfl⟩;have hy:=zJ xQ j.ph i hi;have au:=zJ xH c.li i zB
  change (j.ph.map xQ)[i]? =some (xQ (yH j i))at hy
  change (c.li.map xH)[i]? =some (xH (xT c i))at au
  have cv:=Zm (yH j i) (xT c i)
  cases V:vc (yH j i) (xT c i)with
  | true=>
   rw[V]at cv
   have ap:∀s:Nat,s<i+1->vc (yH j s) (xT c s)=true:=λs hs=>by
    by_cases G:s=i
    .subst G;assumption
    .exact hp s zB
   clear V hp;generalize yH j i=t,xT c i=l at *;clear cs B I ca;refine zQ cv ?_;exact⟨ap,rfl⟩
  |false=>
   have u:H7 j c=false:=zDj.2 ⟨i,zA3.2 hi,by rw[V];decide⟩;rw[V]at cv;rw[u,zA7];clear V hp;generalize yH j i=t,xT c i=l at *;clear cs B I ca;exact lk cv
 .rintro st ⟨hp,rfl⟩;have u:H7 j c=true:=zAq.2 λi hi=>hp i (zA3.1 hi)
  rw[u,zAo];clear hp u;by_cases M:cp= -1
  case neg=>
   rw[zAc M];exact ld (xV cs B)
  rw[zAd M,zAo];by_cases O:0<=c.gr
  case neg=>
   rw[zAc (λh=>O h.1)];exact ld (kC cs B I)
  by_cases R:c.gr<gm
  case neg=>
   rw[zAc (λh=>R h.2)];exact ld (kC cs B I)
  rw[zAd ⟨O,R⟩,zAo];refine yJ (kC cs B I) ?_;refine yW (ln c.nx) [2,3] [2,3] [2,3,62,63] [64,2,3,62,63] Z (λi T U zs=>(∀s:Nat,s<i->Tm j c s=true)/\zs=⟨(64,iA i)::T,U⟩) (Lp ?_ ?_ ?_)
  .exact⟨λs hs=>absurd hs (zB7 _),rfl⟩
  .rintro i st hi ⟨hp,rfl⟩;have hy:=zJ iA c.nx i hi;have co:=V8 j zB i c.gr
   have S:(TL j i c.gr (ln j.ph)).length<=1000:=by
    have:(TL j i c.gr (ln j.ph)).length<=(nm (ln j.ph)).length:=zBy _ _;rw[zBo]at this;omega
   have ch:=yd (TL j i c.gr (ln j.ph)) S (c.nx.getD i dd)
   have A:Tm j c i=true->∀s:Nat,s<i+1->Tm j c s=true:=λh s hs=>by
    by_cases G:s=i
    .subst G;exact h
    .exact hp s zB
   have ac:Tm j c i=false->((nm 2).all (Tm j c))=false:=λh=>zDj.2 ⟨i,zA3.2 zB,by rw[h];decide⟩
   have L:Tm j c i=(decide (c.nx.getD i dd= -1)||EE (TL j i c.gr (ln j.ph)) (c.nx.getD i dd)):=rfl;clear hp cs B I ca;generalize TL j i c.gr (ln j.ph)=o at *;generalize EE o (c.nx.getD i dd)=hb at *;generalize c.nx.getD i dd=x,Tm j c i=q at *;by_cases hx:x= -1
   .rw[zAd hx]at L;have E:=A L;refine WW ?_;exact⟨E,rfl⟩
   rw[zAc hx,zCp]at L
   cases hb with
   |true=>
    have E:=A L;refine yJ (xV co ch) ?_;exact⟨E,rfl⟩
   |false=>
    rw[ac L,zA7];exact ld (xV co ch)
  .rintro st ⟨hp,rfl⟩;have z:((nm 2).all (Tm j c))=true:=zAq.2 λi hi=>hp i (by have:=zA3.1 hi;omega)
   rw[z,zAo];clear hp z;by_cases W:0<=c.wt
   case neg=>
    rw[zAc (λh=>W h.1)];exact lc
   by_cases Y:c.wt<=j.st
   case neg=>
    rw[zAc (λh=>Y h.2)];exact lc
   rw[zAd ⟨W,Y⟩,zAo];by_cases hz:c.wt=0
   .rw[zAd hz];exact lc
   .rw[zAc hz,zCp];exact lk ca
def U0 (J:JV j) (C:CV j c):V0 j c=true:=by
 have O:=C.n;have R:=J.n;unfold V0;have h1:H7 j c=true:=zAq.2 λp L=>C.k p (zA3.1 L)
 have h2:X6 j c=true:=by
  unfold X6;rw[zAq];intro a u;rw[zAq];intro b hb;have u:=zA3.1 u;have hb:=zA3.1 hb;rw[J.c]at u hb
  have A:∀p:Nat,p<ln j.ph->Ac (IM c) p=PR c p:=λp L=>by
   unfold IM;have e:=ED (λq=>decide (q<ln c.li)&&PR c q) (ln c.li) 8 zB (λi h1 h2=>by rw[zAc zB];rfl)
   grind [V0,fA,PR,ZL,Xm]
  rw[zCx];unfold CM;rw[A a u,A b hb];by_cases B:b=a
  .grind
  .cases G:PR c a with
   |false=>rfl
   | true=>
    cases I:PR c b with
    |false=>simp
    |true=>
     rw[C.x a b u hb (λh=>B h.symm) (by simpa [PR]using G) (by simpa [PR]using I)];simp
 have M:((nm 2).all (Tm j c))=true:=zAq.2 λr E=>by
  have E:=zA3.1 E;unfold Tm
  rcases C.v r E with h|h
  .grind
  .have:EE (TL j r c.gr (ln j.ph)) (c.nx.getD r dd)=true:=by
    unfold EE;rw[zBz];obtain⟨a,b,d,e⟩:=h
    grind [V0,TL]
   grind
 rw[zAd ⟨O,C.m⟩,h1,h2,zAd C.g,M,zAd C.w];simp only[zAo]
 rcases C.z with h|h
 .grind
 .have:qc c=true:=by
   grind [V0,qc,List.all_eq_true,List.getElem_of_mem,xT,ny]
  grind
theorem U8 (y:Int):jZ y 1=0\/jZ y 1=1:=by
 show IntKind.i64.wrap (BitVec.ofInt 64 y &&& BitVec.ofInt 64 1).toNat=0\/IntKind.i64.wrap (BitVec.ofInt 64 y &&& BitVec.ofInt 64 1).toNat=1
 have e1:BitVec.ofInt 64 1=1#64:=by decide
 have h:(BitVec.ofInt 64 y &&& BitVec.ofInt 64 1).toNat=(BitVec.ofInt 64 y).toNat % 2:=by
  grind
 rw[h];have h2:(BitVec.ofInt 64 y).toNat % 2=0\/(BitVec.ofInt 64 y).toNat % 2=1:=by omega
 rcases h2 with h2|h2<;>rw[h2]
 .exact .inl yX
 .exact .inr yX
def EF {u:List Int} {q:Nat} (z:p<ln u) (A:q<ln u):jZ (vO (u.getD p dd) q) 1=if kX u p q=true then 1 else 0:=by
 unfold kX;rw[zAd zB,zAo,zAx]
 grind [jZ,vO,kX,U8]
def T8 {x:Int} {n:Nat} (h:0<=x/\x<2 ^ n):vO x n=0:=by grind [vO,Int.toNat_natCast,Int.fdiv_eq_zero_of_lt]
def wi (j:Jn) (J:JV j):zO 132 [zD iA j.cf] [] (bA true) []:=by
 have hl:=zA iA j.cf;have I:=J.n;have hc:=J.c;refine eM call132 λF hF=>?_
 refine WW ?_;refine zN (ln j.cf) [] [] [0,14,15] [16,0,14,15] Z (λi T U=>⟨(16,iA i)::T,U⟩) (Lq ?_ ?_)
 .intro u B;have L:=zJ iA j.cf u B;have A:=J.row u zB;have E:=T8 A;rw[<-hc,<-hl]at E;have C:=EF (p:=u) (q:=u) B B;rw[J.ir u zB,Of yX]at C
  have z:∀v,v<ln j.cf->jZ (vO (j.cf.getD u dd) v) 1=jZ (vO (j.cf.getD v dd) u) 1:=λv hv=>by
   rw[EF B hv,EF hv B,J.sy u v zB zB]
  generalize j.cf.getD u dd=x at *;refine WW ?_;refine zN (ln j.cf) [] [] [0,3,4,14,15,16,38] [39,0,3,4,14,15,16,38] Z (λi T U=>⟨(39,iA i)::T,U⟩) (Lq ?_ ?_)
  .intro v hv;have G:=zJ iA j.cf v hv;have z:=z v hv;generalize j.cf.getD v dd=y at *;refine WW ?_;rfl
  .clear z;refine WW ?_;rfl
 .exact lc
def bI (n a b:Int) (h:a<=n/\n<=b):zO 69 [iA n,iA a,iA b] [] (bA true) []:=by
 obtain⟨h1,h2⟩:=h;refine eM call69 λF hF=>?_
 exact lc
def Qm (j:Jn) (J:JV j) (p:Nat) (z:p<ln j.ph):zO 133 [xQ (yH j p)] [] (bA true) []:=by
 have V:=J.rg p z;have U:=J.gp p z;obtain⟨W,t2,t3,t4,t5,t6,t7,t8,t9,A,B,Y,u⟩:=J.ti p z;generalize yH j p=t at *;have C:=bI t.ring 0 1 V;have E:=bI t.group 0 3 U;have G:=bI t.ming 1 60 ⟨W,zB⟩;have I:=bI t.maxg 1 60 ⟨zB,t3⟩;have L:=bI t.yel 1 60 ⟨t4,t5⟩;have M:=bI t.red 0 60 ⟨t6,t7⟩;have O:=bI t.walk 0 60 ⟨t8,t9⟩;have R:=bI t.clear 0 60 ⟨A,B⟩;by_cases S:t.walk=0
 .have h1:=u.1 S;clear u;refine eM call133 λF hF=>?_
  exact ld (Nx C E G I L M O R)
 .have h1:¬t.clear=0:=λh=>S (u.2 h)
  clear u;refine eM call133 λF hF=>?_
  exact ld (Nx C E G I L M O R)
def Pm (j:Jn) (J:JV j):zO 134 [wD j] [] (bA true) []:=by
 have hl:=zA xQ j.ph;have L:=J.n;have hc:=J.c;refine eM call134 λF hF=>?_
 repeat' (first|(apply zG;first|refine wX tok Z Z ?_|refine gD tok Z Z Z Z ?_|apply uT)|first|refine SQ ?_|fail|apply vU|apply vV|apply xE)
 refine zN (ln j.ph) [1] [1] [1,9,10] [3,11,1,9,10] Z (λi T U=>⟨(3,bA true)::(11,iA i)::T,U⟩) (Lq ?_ ?_)
 .intro u G;have I:=zJ xQ j.ph u G
  change (j.ph.map xQ)[u]? =some (xQ (yH j u))at I
  refine WW ?_;refine zN (ln j.ph) [1,5] [1,5] [1,4,5,9,10,11,17,18] [3,19,1,4,5,9,10,11,17,18] Z (λi T U=>⟨(3,bA true)::(19,iA i)::T,U⟩) (Lq ?_ ?_)
  .intro v hv;have E:=zJ xQ j.ph v hv
   change (j.ph.map xQ)[v]? =some (xQ (yH j v))at E
   have B:=fX j.cf zB u v;have z:=J.ap u v G hv;by_cases A:u=v
   .have C:(u:Int)=v:=by omega
    clear z;generalize yH j u=a,yH j v=b at *;refine WW ?_;rfl
   have C:¬(u:Int)=v:=by omega
   by_cases h1:(yH j u).ring=(yH j v).ring
   .rw[z A (.inl h1)]at B;clear z;generalize yH j u=a,yH j v=b at *;refine zQ B ?_;rfl
   by_cases h2:(yH j u).group=(yH j v).group
   .clear z;generalize yH j u=a,yH j v=b at *;refine WW ?_;rfl
   .rw[z A (.inr h2)]at B;clear z;generalize yH j u=a,yH j v=b at *;refine zQ B ?_;rfl
  .generalize yH j u=a at *;refine WW ?_;rfl
 .exact lc
def IS (j:Jn) (i:Nat) (g:Nat):Bool:=(nm i).any λp=>(yH j p).group==(g:Int)
def Om (j:Jn) (i:Nat):IS j (i+1)=λg=>IS j i g||((yH j i).group==(g:Int)):=by grind [IS,yH]
def V6 (g:Nat) (h:g<4):p2 (g:Int)=fA (λx:Nat=>(g:Int)==(x:Int)) 8:=by
 have:g=0\/g=1\/g=2\/g=3:=by omega
 rcases this with rfl|rfl|rfl|rfl<;>decide
theorem S8:∀A u z B:Bool,(u=true->A=true)->(z=true->u=true)->(B=true->z=true)->jZ (fA (bq A u z B false false false false) 8) (fA (bq A u z B false false false false) 8+1)=0:=by decide +kernel
def yu (j:Jn) (J:JV j):jZ (fA (IS j (ln j.ph)) 8) (fA (IS j (ln j.ph)) 8+1)=0:=by
 have u:∀g:Nat,4<=g->IS j (ln j.ph) g=false:=λg A=>by
  unfold IS;rw[zCy];intro p z;have:=J.gp p (zA3.1 z);simp;omega
 have hd:∀g:Nat,IS j (ln j.ph) (g+1)=true->IS j (ln j.ph) g=true:=λg h=>by
  unfold IS at h⊢;rw[zBz]at h⊢;obtain⟨p,z,A⟩:=h;rw[zBl]at A;obtain⟨q,C,B⟩:=J.lo p (zA3.1 z) g zB zB
  grind
 have e:fA (IS j (ln j.ph)) 8=fA (bq (IS j (ln j.ph) 0) (IS j (ln j.ph) 1) (IS j (ln j.ph) 2) (IS j (ln j.ph) 3) false false false false) 8:=ZL 8 λi hi=>by
  match i,hi with
  |0,_=>rfl|1,_=>rfl|2,_=>rfl|3,_=>rfl
  |4,_=>exact u 4 zB
  |5,_=>exact u 5 zB
  |6,_=>exact u 6 zB
  |7,_=>exact u 7 zB
  |i+8,h=>omega
 grind [jZ,fA,IS,S8]
def OR (j:Jn) (J:JV j):zO 70 [wD j] [] (bA true) []:=by
 have hl:=zA xQ j.ph;have S:=zA iA j.cf;have hn:=J.n;have hc:=J.c;have E:=wi j J;have G:=bI j.st 0 60 J.st;have I:=Pm j J;have R:=yu j J;have O:=SJ (IS j (ln j.ph)) 8 zB;have V:p2 ((8:Nat):Int)=256:=by decide
 refine eM call70 λF hF=>?_
 refine yJ (xV E G) ?_;refine zN (ln j.ph) [1] [1] [1,34,35] [4,36,1,34,35] Z (λi T U=>⟨(4,iA (fA (IS j i) 8))::(36,iA i)::T,U⟩) (Lq ?_ ?_)
 .intro u C;have W:=zJ xQ j.ph u C
  change (j.ph.map xQ)[u]? =some (xQ (yH j u))at W
  have M:=Qm j J u C;have Y:=J.gp u C;have B:=Om j u;obtain⟨L,A⟩:∃n:Nat,(yH j u).group=n:=⟨(yH j u).group.toNat,zB⟩;have z:=qp (IS j u) (λx:Nat=>(L:Int)==(x:Int));rw[<-V6 L zB]at z;rw[A]at B;rw[B,<-z];generalize fA (IS j u) 8=b at *;rw[<-A];clear E G I z B;generalize yH j u=t at *;refine zQ M ?_;rfl
 .generalize fA (IS j (ln j.ph)) 8=b at *;exact lk I
