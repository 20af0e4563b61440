/- Part 17. -/
import Derived.Test.YteajjdidebfcjaaGreatU13
import Derived.Test.YteajjdidebfcjaaGreatU11
namespace Go.Proofs.YteajjdidebfcjaaGreat
namespace Av
open Tryz
set_option linter.all false
set_option maxRecDepth 4000
set_option maxHeartbeats 1000000
structure Li where
 lamp:Int
 tk:Int
structure Ct where
 li:List Li
 gr:Int
 nx:List Int
 wt:Int
instance:Inhabited Li:=⟨⟨0,0⟩⟩
def vN (l:Li):AV:= .agg [iA l.lamp,iA l.tk]
def ctA (c:Ct):AV:= .agg [zC vN c.li,iA c.gr,zC iA c.nx,iA c.wt]
def dB (rows:List Int) (p q:Int):Bool:=decide (0<=p/\0<=q/\p<rows.length/\q<rows.length)&&(gR (uS (rows.getD p.toNat default) q) 1==1)
def lnF (p:Ph):Int:=max p.ming (p.walk+p.clear)
def lpF (p:Ph) (l:Li) (lv:Bool):Li:=
 if l.lamp=1 then(if lv=true/\lnF p<=l.tk+1 then⟨2,0⟩else⟨1,min (l.tk+1) 1073741824⟩)
 else if l.lamp=2 then(if l.tk+1<p.yel then⟨2,l.tk+1⟩else if p.red=0 then⟨0,0⟩else⟨3,0⟩)
 else if l.lamp=3 then(if l.tk+1<p.red then⟨3,l.tk+1⟩else⟨0,0⟩)
 else l
def LZ (p:Ph) (l:Li):Bool:=if l.lamp=0 then decide (l.tk=0)else if l.lamp=1 then decide (0<=l.tk/\l.tk<=1073741824)else if l.lamp=2 then decide (0<=l.tk/\l.tk<p.yel)else if l.lamp=3 then decide (0<=l.tk/\l.tk<p.red)else false
def xF (j:Jn) (p:Nat):Ph:=j.ph.getD p default
def vJ (c:Ct) (p:Nat):Li:=c.li.getD p default
def InO (j:Jn) (r g p:Int):Prop:=0<=p/\p<j.ph.length/\(xF j p.toNat).ring=r/\(xF j p.toNat).group=g
def grN (ps:List Ph):Nat->Int
 |0=>0
 |i+1=>max (grN ps i) ((ps.getD i default).group+1)
def SD (j:Jn):Int:=grN j.ph j.ph.length
def zLp (ps:List Ph) (n:Nat):∀i,i<n->(ps.getD i default).group+1<=grN ps n:=by
 induction n with
 |zero=>intro i h;exact absurd h (yC3 _)
 |succ n ih=>
  intro i h;unfold grN;by_cases e:i=n
  ·subst e;omega
  ·have:=ih i zB;omega
def rpN (j:Jn) (r:Int) (i:Nat):List Nat:=(List.range i).filter λp=>(xF j p).ring==r
def LC (j:Jn) (r:Int):List Nat:=rpN j r j.ph.length
def XO {j:Jn} {r:Int} {p:Nat}:p∈LC j r↔p<j.ph.length/\(xF j p).ring=r:=by
 unfold LC rpN;rw[yDz,yA2,yBw]
def bY (j:Jn) (r g f:Int):Int:=match (LC j r).find? (λp:Nat=>decide (f<=(p:Int))&&(xF j p).group==g)with
 |some p=>p
 |none=> -1
def MM (j:Jn) (r g f:Int):bY j r g f= -1∨InO j r g (bY j r g f)/\f<=bY j r g f:=by
 unfold bY;split
 ·rename_i p h;have h1:=yGa h;have h2:=XO.1 (yE6 h);simp only[yAs,yBw,yAm]at h1;exact .inr ⟨⟨zB,zB,h2.2,h1.2⟩,h1.1⟩
 ·exact .inl Z
def etF (j:Jn) (c:Ct) (g:Int):Ct:=⟨c.li,g,[bY j 0 g 0,bY j 1 g 0],c.wt⟩
def UH (j:Jn) (c:Ct) (p:Int):Bool:=(List.range c.li.length).any λq=>(vJ c q).lamp != 0&&dB j.cf p q
def b1F (c:Ct) (p:Nat):Ct:=⟨c.li.set p ⟨1,0⟩,c.gr,c.nx,c.wt⟩
def BK (j:Jn) (c:Ct) (p:Nat):Ct:=if c.gr=(xF j p).group then b1F c p else etF j (b1F c p) (xF j p).group
def gC (j:Jn) (c:Ct) (p:Nat):Ct:=
 if UH j c p=true then c
 else⟨(BK j c p).li,(BK j c p).gr,(BK j c p).nx.set (xF j p).ring.toNat (bY j (xF j p).ring (xF j p).group (p+1)),(BK j c p).wt⟩
def dkF (j:Jn) (c:Ct) (r:Int):Bool:=(LC j r).all λp=>(vJ c p).lamp==0
def cmF (j:Jn) (x r t:Int):Int:=match (LC j r).find? (λp:Nat=>!dB j.cf p t&&decide (x≠ -1/\x<=(p:Int)))with
 |some p=>p
 |none=>match (LC j r).find? (λp:Nat=>!dB j.cf p t)with
  |some p=>p
  |none=> -1
def WH (j:Jn) (c:Ct) (r:Int) (t:Nat):Int:=if r=(xF j t).ring then t else cmF j (c.nx.getD r.toNat default) r t
def cX (j:Jn) (t:Nat) (c:Ct) (r:Int):Ct:=if dkF j c r=true then(if WH j c r t= -1 then c else gC j c (WH j c r t).toNat)else c
def arF (c:Ct):Bool:=c.li.all λl=>l.lamp==0
def cyO (c:Ct):Bool:=arF c&&c.nx.all λp=>p== -1
def cY (j:Jn) (c:Ct) (r:Int):Ct:=if dkF j c r=true/\c.nx.getD r.toNat default≠ -1 then gC j c (c.nx.getD r.toNat default).toNat else c
def cyF (j:Jn) (c:Ct):Ct:=cY j (cY j (if cyO c=true then etF j c ((c.gr+1) % SD j)else c) 0) 1
def KA (j:Jn) (t:Int):Bool:=decide (0<=t/\t<j.ph.length)
def lvS (j:Jn) (c:Ct) (t:Int) (p:Nat):Bool:=
 if KA j t=true then decide ((p:Int)≠t)&&(decide ((xF j p).maxg<=(vJ c p).tk+1)||dB j.cf p t)else decide ((xF j p).maxg<=(vJ c p).tk+1)
def JG (j:Jn) (c:Ct) (t:Int):List Li:=(List.range j.ph.length).map λp=>lpF (xF j p) (vJ c p) (lvS j c t p)
def stF (j:Jn) (c:Ct) (t:Int):Ct:=
 if 0<c.wt then⟨c.li,c.gr,c.nx,c.wt-1⟩
 else if KA j t=true then cX j t.toNat (cX j t.toNat ⟨JG j c t,c.gr,c.nx,c.wt⟩ 0) 1
 else cyF j ⟨JG j c t,c.gr,c.nx,c.wt⟩
structure JV (j:Jn):Prop where
 n:1<=j.ph.length/\j.ph.length<=8
 c:j.cf.length=j.ph.length
 row:∀i,i<j.ph.length->0<=j.cf.getD i default/\j.cf.getD i default<2 ^ j.ph.length
 ir:∀p:Nat,p<j.ph.length->dB j.cf p p=false
 sy:∀p q:Nat,p<j.ph.length->q<j.ph.length->dB j.cf p q=dB j.cf q p
 ap:∀p q:Nat,p<j.ph.length->q<j.ph.length->p≠q->(xF j p).ring=(xF j q).ring∨(xF j p).group≠(xF j q).group->dB j.cf p q=true
 rg:∀p:Nat,p<j.ph.length->0<=(xF j p).ring/\(xF j p).ring<=1
 gp:∀p:Nat,p<j.ph.length->0<=(xF j p).group/\(xF j p).group<=3
 ti:∀p:Nat,p<j.ph.length->1<=(xF j p).ming/\(xF j p).ming<=(xF j p).maxg/\(xF j p).maxg<=60/\1<=(xF j p).yel/\(xF j p).yel<=60/\0<=(xF j p).red/\(xF j p).red<=60/\0<=(xF j p).walk/\(xF j p).walk<=60/\0<=(xF j p).clear/\(xF j p).clear<=60/\(xF j p).walk+(xF j p).clear<=(xF j p).maxg/\((xF j p).walk=0↔(xF j p).clear=0)
 lo:∀p:Nat,p<j.ph.length->∀g:Int,0<=g->g<(xF j p).group->∃q:Nat,q<j.ph.length/\(xF j q).group=g
 st:0<=j.st/\j.st<=60
structure CV (j:Jn) (c:Ct):Prop where
 n:c.li.length=j.ph.length
 k:∀p,p<j.ph.length->LZ (xF j p) (vJ c p)=true
 x:∀p q:Nat,p<j.ph.length->q<j.ph.length->p≠q->(vJ c p).lamp≠0->(vJ c q).lamp≠0->dB j.cf p q=false
 g:0<=c.gr/\c.gr<SD j
 m:c.nx.length=2
 v:∀r:Nat,r<2->c.nx.getD r default= -1∨InO j r c.gr (c.nx.getD r default)
 w:0<=c.wt/\c.wt<=j.st
 z:c.wt=0∨∀p,p<j.ph.length->(vJ c p).lamp=0
def GM {j:Jn} (J:JV j):1<=SD j:=by
 have h1:=zLp j.ph j.ph.length 0 zDv;have h2:=J.gp 0 zDv;unfold xF at h2;unfold SD;omega
def zSv (j:Jn) (c:Ct) (g:Int):∀r:Nat,r<2->(etF j c g).nx.getD r default= -1∨InO j r g ((etF j c g).nx.getD r default):=by
 intro r hr;have:r=0∨r=1:=by omega
 rcases this with rfl|rfl
 ·rcases MM j 0 g 0 with h|h
  ·exact .inl h
  ·exact .inr h.1
 ·rcases MM j 1 g 0 with h|h
  ·exact .inl h
  ·exact .inr h.1
def zLq {j:Jn} {c:Ct} (C:CV j c) {g:Int} (hg:0<=g/\g<SD j):CV j (etF j c g):=
 ⟨C.n,C.k,C.x,hg,rfl,zSv j c g,C.w,C.z⟩
def zQ1 (c:Ct) (p q:Nat) (l:Li) (gr:Int) (nx:List Int) (wt:Int) (hp:p<c.li.length):vJ ⟨c.li.set p l,gr,nx,wt⟩ q=if q=p then l else vJ c q:=by
 unfold vJ;simp only[yAk,yCn];split
 ·rename_i h;subst h;simp[hp]
 ·rename_i h;rw[yAc (λe=>h e.symm)]
def zX4 {j:Jn} (J:JV j) {c:Ct} (C:CV j c) (h0:c.wt=0) {p:Nat} (hp:p<j.ph.length) (hk:UH j c p=false):CV j (b1F c p):=by
 have hl:=C.n
 have hs:∀q,vJ (b1F c p) q=if q=p then⟨1,0⟩else vJ c q:=λq=>zQ1 c p q _ _ _ _ zB
 unfold UH at hk;rw[yDe]at hk
 have hc:∀q:Nat,q<j.ph.length->(vJ c q).lamp≠0->dB j.cf p q=false:=λq hq hn=>by
  have:=hk q (yA2.2 zB);simp only[yAs,not_and,yCy]at this;exact this DW
 refine⟨by unfold b1F;simpa using hl,λq hq=>?_,λq r hq hr hqr h1 h2=>?_,C.g,C.m,C.v,C.w,.inl h0⟩
 ·rw[hs];split
  ·rfl
  ·exact C.k q hq
 ·rw[hs]at h1 h2;by_cases e1:q=p
  ·subst e1;rw[yAc (λe=>hqr e.symm)]at h2;exact hc r hr h2
  ·rw[yAc e1]at h1;by_cases e2:r=p
   ·subst e2;rw[J.sy q r hq hr];exact hc q hq h1
   ·rw[yAc e2]at h2;exact C.x q r hq hr hqr h1 h2
def zX5 {j:Jn} (J:JV j) {c:Ct} (C:CV j c) (h0:c.wt=0) {p:Nat} (hp:p<j.ph.length) (hk:UH j c p=false):CV j (BK j c p)/\(BK j c p).gr=(xF j p).group/\(BK j c p).wt=0:=by
 have h1:=zX4 J C h0 hp hk;unfold BK;split
 ·rename_i h;exact⟨h1,h,h0⟩
 ·have hg:=J.gp p hp;have:=zLp j.ph j.ph.length p hp;exact⟨zLq h1 ⟨hg.1,by unfold SD;unfold xF;omega⟩,rfl,h0⟩
def zSw {j:Jn} (J:JV j) {c:Ct} (C:CV j c) (h0:c.wt=0) {p:Nat} (hp:p<j.ph.length):CV j (gC j c p)/\(gC j c p).wt=0:=by
 unfold gC;split
 ·exact⟨C,h0⟩
 ·rename_i hk;obtain⟨B,hg,hw⟩:=zX5 J C h0 hp (by simpa using hk);have hr:=J.rg p hp;refine⟨⟨B.n,B.k,B.x,B.g,by rw[yB7];exact B.m,λr hr2=>?_,B.w,B.z⟩,hw⟩;have hs:=MM j (xF j p).ring (xF j p).group (p+1);generalize bY j (xF j p).ring (xF j p).group (p+1)=f at *;dsimp only
  have e:((BK j c p).nx.set (xF j p).ring.toNat f).getD r default=if r=(xF j p).ring.toNat then f else(BK j c p).nx.getD r default:=by
   simp only[yAk,yCn];split
   ·rename_i h;subst h;rw[yAd Z,B.m,yAd hr2];rfl
   ·rename_i h;rw[yAc (λe=>h e.symm)]
  rw[e];split
  ·rename_i h
   rcases hs with hs|hs
   ·exact .inl hs
   ·refine .inr ?_;rw[hg,show(r:Int)=(xF j p).ring by omega];exact hs.1
  ·exact B.v r hr2
def BL (j:Jn) (x r t:Int):cmF j x r t= -1∨∃p:Nat,cmF j x r t=p/\p<j.ph.length/\(xF j p).ring=r/\dB j.cf p t=false:=by
 unfold cmF;split
 ·rename_i p h;have h1:=yGa h;have h2:=XO.1 (yE6 h);simp only[yAs,yCz]at h1;exact .inr ⟨p,rfl,h2.1,h2.2,h1.1⟩
 ·split
  ·rename_i p h;have h1:=yGa h;have h2:=XO.1 (yE6 h);rw[yCz]at h1;exact .inr ⟨p,rfl,h2.1,h2.2,h1⟩
  ·exact .inl Z
def zLr {j:Jn} {c:Ct} {r:Int} {t:Nat} (ht:t<j.ph.length):WH j c r t= -1∨∃p:Nat,WH j c r t=p/\p<j.ph.length/\(xF j p).ring=r:=by
 unfold WH;split
 ·rename_i h;exact .inr ⟨t,rfl,ht,h.symm⟩
 ·rcases BL j (c.nx.getD r.toNat default) r t with h|⟨p,h1,h2,h3,_⟩
  ·exact .inl h
  ·exact .inr ⟨p,h1,h2,h3⟩
def zLs {j:Jn} (J:JV j) {c:Ct} (C:CV j c) (h0:c.wt=0) {t:Nat} (ht:t<j.ph.length) (r:Int):CV j (cX j t c r)/\(cX j t c r).wt=0:=by
 unfold cX;split
 ·split
  ·exact⟨C,h0⟩
  ·rename_i h
   rcases zLr (j:=j) (c:=c) (r:=r) ht with h1|⟨p,h1,h2,_⟩
   ·exact absurd h1 h
   ·rw[h1,yBq];exact zSw J C h0 h2
 ·exact⟨C,h0⟩
def GN {j:Jn} (J:JV j) {c:Ct} (C:CV j c) (h0:c.wt=0) {r:Nat} (hr:r<2):CV j (cY j c r)/\(cY j c r).wt=0:=by
 unfold cY;split
 ·rename_i h;rw[yBq]at h⊢
  rcases C.v r hr with h1|h1
  ·exact absurd h1 h.2
  ·exact zSw J C h0 (by have:=h1.2.1;have:=h1.1;omega)
 ·exact⟨C,h0⟩
def zX6 {j:Jn} (J:JV j) {c:Ct} (C:CV j c) (h0:c.wt=0):CV j (cyF j c):=by
 have h1:CV j (if cyO c=true then etF j c ((c.gr+1) % SD j)else c)/\(if cyO c=true then etF j c ((c.gr+1) % SD j)else c).wt=0:=by
  split
  ·have:=GM J;exact⟨zLq C ⟨yD8 _ zB,yDw _ zB⟩,h0⟩
  ·exact⟨C,h0⟩
 have h2:=GN J h1.1 h1.2 (r:=0) zB;exact(GN J h2.1 h2.2 (r:=1) zB).1
def zZr {p:Ph} {l:Li} {lv:Bool} (hy:1<=p.yel) (hr:0<=p.red) (h:LZ p l=true):LZ p (lpF p l lv)=true/\((lpF p l lv).lamp≠0->l.lamp≠0):=by
 unfold LZ at h;unfold lpF;by_cases h1:l.lamp=1
 ·rw[yAd h1];rw[yAc zB,yAd h1,yAm]at h;split
  ·refine⟨by unfold LZ;simp;omega,λ_=>by omega⟩
  ·refine⟨by unfold LZ;simp;omega,λ_=>by omega⟩
 by_cases h2:l.lamp=2
 ·rw[yAc h1,yAd h2];rw[yAc zB,yAc h1,yAd h2,yAm]at h;split
  ·refine⟨by unfold LZ;simp;omega,λ_=>by omega⟩
  ·split
   ·refine⟨by unfold LZ;simp,λh=>absurd Z h⟩
   ·refine⟨by unfold LZ;simp;omega,λ_=>by omega⟩
 by_cases h3:l.lamp=3
 ·rw[yAc h1,yAc h2,yAd h3];rw[yAc zB,yAc h1,yAc h2,yAd h3,yAm]at h;split
  ·refine⟨by unfold LZ;simp;omega,λ_=>by omega⟩
  ·refine⟨by unfold LZ;simp,λh=>absurd Z h⟩
 ·rw[yAc h1,yAc h2,yAc h3];exact⟨by unfold LZ;exact h,λh=>h⟩
def zLt {j:Jn} {c:Ct} (t gr:Int) (nx:List Int) (wt:Int) (p:Nat) (hp:p<j.ph.length):vJ ⟨JG j c t,gr,nx,wt⟩ p=lpF (xF j p) (vJ c p) (lvS j c t p):=by
 show(JG j c t).getD p default=_
 unfold JG;simp only[yAk,yAi,yBg hp];rfl
def zSx {j:Jn} (J:JV j) {c:Ct} (C:CV j c) (h0:c.wt=0) (t:Int):CV j ⟨JG j c t,c.gr,c.nx,c.wt⟩:=by
 have hs:=λp hp=>zZr (lv:=lvS j c t p) (by have:=J.ti p hp;omega) (by have:=J.ti p hp;omega) (C.k p hp)
 refine⟨by simp[JG],λp hp=>?_,λp q hp hq hpq h1 h2=>?_,C.g,C.m,C.v,C.w,.inl h0⟩
 ·rw[zLt _ _ _ _ _ hp];exact(hs p hp).1
 ·rw[zLt _ _ _ _ _ hp]at h1;rw[zLt _ _ _ _ _ hq]at h2;exact C.x p q hp hq hpq ((hs p hp).2 h1) ((hs q hq).2 h2)
def zSy {j:Jn} (J:JV j) {c:Ct} (C:CV j c) (t:Int):CV j (stF j c t):=by
 unfold stF;split
 ·rename_i h;have hz:=C.z;have hw:=C.w;refine⟨C.n,C.k,C.x,C.g,C.m,C.v,by dsimp only;omega,?_⟩
  rcases hz with hz|hz
  ·omega
  ·exact .inr hz
 ·have h0:c.wt=0:=by have:=C.w;omega
  have L:=zSx J C h0 t;split
  ·rename_i h;unfold KA at h;rw[yAm]at h;have h1:=zLs J L h0 (t:=t.toNat) zB 0;exact(zLs J h1.1 h1.2 (t:=t.toNat) zB 1).1
  ·exact zX6 J L h0
def gD (rows:List Int) (hn:rows.length<=40) (p q:Int):zN 210 [zC iA rows,iA p,iA q] [] (bA (dB rows p q)) []:=by
 have hl:=zA iA rows;unfold dB;by_cases h1:0<=p
 case neg=>
  rw[yAl (λh=>h1 h.1)];refine eM call210 λF hF=>?_
  refine WW ?_;exact zJ
 by_cases h2:0<=q
 case neg=>
  rw[yAl (λh=>h2 h.2.1)];refine eM call210 λF hF=>?_
  refine WW ?_;exact zJ
 by_cases h3:p<rows.length
 case neg=>
  rw[yAl (λh=>h3 h.2.2.1)];refine eM call210 λF hF=>?_
  refine WW ?_;exact zJ
 by_cases h4:q<rows.length
 case neg=>
  rw[yAl (λh=>h4 h.2.2.2)];refine eM call210 λF hF=>?_
  refine WW ?_;exact zJ
 rw[yAj ⟨h1,h2,h3,h4⟩,yA3];have hy:=yN iA rows p h1 h3;generalize rows.getD p.toNat default=x at *;by_cases h5:gR (uS x q) 1=1
 ·rw[show(gR (uS x q) 1==1)=true by rw[yBw];exact h5];refine eM call210 λF hF=>?_
  refine WW ?_;exact zJ
 ·rw[show(gR (uS x q) 1==1)=false by rw[yBm];exact h5];refine eM call210 λF hF=>?_
  refine WW ?_;exact zJ
def PhB (p:Ph):Prop:=0<=p.walk/\p.walk<=60/\0<=p.clear/\p.clear<=60
def zEc (p:Ph) (h:PhB p):zN 109 [vE p] [] (iA (lnF p)) []:=by
 obtain⟨h1,h2,h3,h4⟩:=h;refine eM call109 λF hF=>?_
 refine WW ?_;exact zJ
def zQ2 (p:Ph) (h:PhB p) (l:Li) (ht: -1000000000000<=l.tk/\l.tk<=1000000000000) (lv:Bool):zN 256 [vE p,vN l,bA lv] [] (vN (lpF p l lv)) []:=by
 have c:=zEc p h;unfold lpF;by_cases h1:l.lamp=1
 ·rw[yAd h1];generalize lnF p=n at*
  cases lv with
  |false=>
   rw[yAc (λh=>by cases h.1)];refine eM call256 λF hF=>?_
   refine WW ?_;exact zJ
  |true=>
  by_cases h2:n<=l.tk+1
  ·rw[yAd ⟨rfl,h2⟩];refine eM call256 λF hF=>?_
   refine zV c ?_;exact zJ
  ·rw[yAc (λh=>h2 h.2)];refine eM call256 λF hF=>?_
   refine zV c ?_;exact zJ
 rw[yAc h1];by_cases h2:l.lamp=2
 ·rw[yAd h2];by_cases h3:l.tk+1<p.yel
  ·rw[yAd h3];refine eM call256 λF hF=>?_
   refine WW ?_;exact zJ
  rw[yAc h3];by_cases h4:p.red=0
  ·rw[yAd h4];refine eM call256 λF hF=>?_
   refine WW ?_;exact zJ
  ·rw[yAc h4];refine eM call256 λF hF=>?_
   refine WW ?_;exact zJ
 rw[yAc h2];by_cases h3:l.lamp=3
 ·rw[yAd h3];by_cases h4:l.tk+1<p.red
  ·rw[yAd h4];refine eM call256 λF hF=>?_
   refine WW ?_;exact zJ
  ·rw[yAc h4];refine eM call256 λF hF=>?_
   refine WW ?_;exact zJ
 ·rw[yAc h3];refine eM call256 λF hF=>?_
  refine WW ?_;exact zJ
def zLu (p:Ph) (l:Li):zN 281 [vE p,vN l] [] (bA (LZ p l)) []:=by
 unfold LZ;by_cases h0:l.lamp=0
 ·rw[yAd h0];by_cases h:l.tk=0
  ·rw[yAj h];refine eM call281 λF hF=>?_
   refine WW ?_;exact zJ
  ·rw[yAl h];refine eM call281 λF hF=>?_
   refine WW ?_;exact zJ
 rw[yAc h0];by_cases h1:l.lamp=1
 ·rw[yAd h1];by_cases h:0<=l.tk
  ·by_cases h':l.tk<=1073741824
   ·rw[yAj ⟨h,h'⟩];refine eM call281 λF hF=>?_
    refine WW ?_;exact zJ
   ·rw[yAl (λk=>h' k.2)];refine eM call281 λF hF=>?_
    refine WW ?_;exact zJ
  ·rw[yAl (λk=>h k.1)];refine eM call281 λF hF=>?_
   refine WW ?_;exact zJ
 rw[yAc h1];by_cases h2:l.lamp=2
 ·rw[yAd h2];by_cases h:0<=l.tk
  ·by_cases h':l.tk<p.yel
   ·rw[yAj ⟨h,h'⟩];refine eM call281 λF hF=>?_
    refine WW ?_;exact zJ
   ·rw[yAl (λk=>h' k.2)];refine eM call281 λF hF=>?_
    refine WW ?_;exact zJ
  ·rw[yAl (λk=>h k.1)];refine eM call281 λF hF=>?_
   refine WW ?_;exact zJ
 rw[yAc h2];by_cases h3:l.lamp=3
 ·rw[yAd h3];by_cases h:0<=l.tk
  ·by_cases h':l.tk<p.red
   ·rw[yAj ⟨h,h'⟩];refine eM call281 λF hF=>?_
    refine WW ?_;exact zJ
   ·rw[yAl (λk=>h' k.2)];refine eM call281 λF hF=>?_
    refine WW ?_;exact zJ
  ·rw[yAl (λk=>h k.1)];refine eM call281 λF hF=>?_
   refine WW ?_;exact zJ
 ·rw[yAc h3];refine eM call281 λF hF=>?_
  refine WW ?_;exact zJ
def BM (j:Jn) (r:Int) (i:Nat):rpN j r (i+1)=if(xF j i).ring=r then rpN j r i++[i]else rpN j r i:=by
 unfold rpN;rw[yCx,yDx];by_cases h:(xF j i).ring=r
 ·rw[yAd h];simp[h]
 ·rw[yAc h];simp[h]
theorem zEd (j:Jn) (r:Int):∀n i,i<=n->∃l,rpN j r n=rpN j r i++l
 |0,i,h=>⟨[],by rw[Nat.le_zero.1 h];simp⟩
 | n+1,i,h=>by
  by_cases e:i=n+1
  ·exact⟨[],by rw[e];simp⟩
  ·obtain⟨l,hl⟩:=zEd j r n i zB;rw[BM];split
   ·exact⟨l++[n],by rw[hl,yA6]⟩
   ·exact⟨l,hl⟩
def zGi (j:Jn) (r:Int):List (Nat×xO):=[(1003,.box [zC vE j.ph,zC iA j.cf,iA j.st]),(1004,.box [iA r])]
def zLv (j:Jn) (r:Int):zN 227 [wC j,iA r] [] (.fn 250 [.ptr 1003 0 0,.ptr 1004 0 0]) (zGi j r):=by
 refine eM call227 λF hF=>?_
 repeat' (first|(refine zE ?_;first|refine uT (jC (v:=AV.agg _) 1003 Z Z) Z Z Z ?_|refine uT (jC (v:=AV.s _) 1004 Z Z) Z Z Z ?_|refine vF tok Z Z ?_|refine uQ ?_)|(first|refine xQ ?_|refine xE ?_|refine vG Z ?_|refine zX Z ?_|refine zU Z ?_|refine xK Z (λhc=>?_) λhc=>?_|refine xA ?_|refine yW ?_|refine xD ?_|refine yU ?_))
 exact zK [1003,1004] Z Z Z Z
def zBz (j:Jn) (hn:j.ph.length<=1000) (r:Int):aJ prog 250 [.ptr 1003 0 0,.ptr 1004 0 0] (zGi j r) ((LC j r).map λp:Nat=>[iA (p:Int)]):=by
 have hl:=zA vE j.ph;refine dL func250 Z (λargs w=>call250 args w) Z Z Z (λF y hro hit hY=>?_);unfold zGi;refine WW ?_;refine zO (j.ph.length) [1003,1004] [1003,1004] [0,2,7,8] [9,1000000,0,2,7,8] Z (λi T U=>⟨(9,iA i)::(1000000,.gh (rpN j r i).length)::T,U⟩) ?_;(conv=>whnf);refine⟨by rfl,?_,?_⟩
 ·intro i hi;have hy:=zM vE j.ph i hi;have es:=BM j r i
  change (j.ph.map vE)[i]? =some (vE (xF j i))at hy
  by_cases hr:(xF j i).ring=r
  ·rw[yAd hr]at es;obtain⟨l2,hpre⟩:=zEd j r j.ph.length (i+1) zB;rw[es]at hpre⊢
   have hys:((LC j r).map λp:Nat=>[iA (p:Int)])[(rpN j r i).length]? =some [iA (i:Int)]:=by
    unfold LC;rw[hpre,yAi,yA9 zS,yA4 (yAg _),yCm];rfl
   have hlen:=(yA5.1 hys).1;rw[yAf];generalize ((LC j r).map λp:Nat=>[iA (p:Int)])=xs at *;generalize (rpN j r i).length=k at *;generalize xF j i=t at*
   (repeat' (first|refine uP ?_|apply xM|apply xZ|intro hc|(refine zE ?_;refine xT ?_;first|(refine KP ?_;refine US hit hY Z Z hys Z Z Z ?_ ?_))|(refine zE ?_;first|refine SM ?_)|fail))
   ·rfl
   ·exact hG Z (.inr zB)
  ·rw[yAc hr]at es;rw[es];generalize (rpN j r i).length=k at *;generalize xF j i=t at *;refine WW ?_;rfl
 ·have e:(rpN j r j.ph.length).length=((LC j r).map λp:Nat=>[iA (p:Int)]).length:=by rw[yAe];rfl
  refine WW ?_;exact cK Z (.inl e)
def inS (s p:Int):Bool:=gR (uS s p) 1==1
def zV7:∀(s:_root_.Fin 256) (p:_root_.Fin 8),qT BinOp.eql (IntKind.u64.wrap ((BitVec.ofInt IntKind.u64.bits (Int.fdiv (s.val:Int) (2 ^ min (p.val:Int).toNat IntKind.u64.bits)) &&& BitVec.ofInt IntKind.u64.bits 1).toNat:Int)) 1=inS s.val p.val:=by decide +kernel
def BN (s p:Int) (hs:0<=s/\s<256) (hp:0<=p/\p<8):zN 304 [iA s,iA p] [] (bA (inS s p)) []:=by
 have hf:=zV7 ⟨s.toNat,zB⟩ ⟨p.toNat,zB⟩;rw[show((s.toNat:Nat):Int)=s by omega,show((p.toNat:Nat):Int)=p by omega]at hf;generalize inS s p=q at *;subst hf;refine eM call304 λF hF=>?_
 (repeat' (first|refine uP ?_|apply xM|apply xZ|intro hc|(refine zE ?_;first|(refine wE ?_;refine yJ (PZ Z Z) Z ?_))|fail))
 exact zJ
def zLw (p:Nat->Bool) (i:Nat) (hi:i<8):inS (dK p 8) i=p i:=zPr p i hi
def FQ (c:Ct) (p:Nat):Bool:=(vJ c p).lamp != 0
def seF (c:Ct):Int:=dK (FQ c) c.li.length
theorem GO (p:Nat->Bool):∀n m:Nat,n<=m->(∀i,n<=i->i<m->p i=false)->dK p m=dK p n
 |n,0,h,_=>by rw[Nat.le_zero.1 h]
 |n,m+1,h,hp=>by
  by_cases e:n=m+1
  ·rw[e]
  ·rw[dK,hp m zB zB];exact GO p n m zB λi h1 h2=>hp i h1 zB
def zV8 (p:Nat->Bool) (n:Nat) (hn:n<=25):orI (dK p n) (p2 n)=dK p n+p2 n:=by
 have h1:=NF p n;have h2:(2:Nat) ^ n<=2 ^ 25:=yEi zB hn;rw[DE,show p2 (n:Int)=((2 ^ n:Nat):Int) by unfold p2;simp,HA _ _ zB zB];have h3:=Nat.two_pow_add_eq_or_of_lt h1 1;rw[Nat.mul_one]at h3;rw[Nat.or_comm,<-h3];omega
def zX7 (c:Ct) (hn:c.li.length<=25):zN 283 [ctA c] [] (iA (seF c)) []:=by
 have hl:=zA vN c.li;unfold seF;refine eM call283 λF hF=>?_
 refine WW ?_;refine zO (c.li.length) [] [] [7,8] [3,9,7,8] Z (λi T U=>⟨(3,iA (dK (FQ c) i))::(9,iA i)::T,U⟩) ?_;(conv=>whnf);refine⟨by rfl,?_,?_⟩
 ·intro i hi;have hy:=zM vN c.li i hi
  change (c.li.map vN)[i]? =some (vN (vJ c i))at hy
  have ho:=zV8 (FQ c) i zB
  have e:dK (FQ c) (i+1)=if FQ c i=true then dK (FQ c) i+p2 i else dK (FQ c) i:=rfl
  rw[<-ho]at e;have hsb:FQ c i=((vJ c i).lamp != 0):=rfl;rw[e,hsb];generalize dK (FQ c) i=b at *;generalize vJ c i=t at *;by_cases h:t.lamp=0
  ·rw[yAc (by simp[h])];refine WW ?_;rfl
  ·rw[yAd (by simp[h])];refine WW ?_;rfl
 ·(refine WW ?_)
  exact zJ
def JH {P:Nat->Prop}:∀n,P n->∃m,m<=n/\P m/\∀k,k<m->¬P k:=by
 intro n
 induction n using Nat.strongRecOn with
 |_ n ih=>
  intro h;by_cases hx:∃k,k<n/\P k
  ·obtain⟨k,h1,h2⟩:=hx;obtain⟨m,h3,h4,h5⟩:=ih k h1 h2;exact⟨m,zB,h4,h5⟩
  ·exact⟨n,yAg _,h,λk h1 h2=>hx ⟨k,h1,h2⟩⟩
def FR (rows:List Int) (s:Int) (p q:Nat):Bool:=inS s p&&(decide (q≠p)&&(inS s q&&dB rows p q))
theorem zLx (rows:List Int) (hn:rows.length<=8) (s:Int) (hs:0<=s/\s<256):∃p q:Int,zN 282 [zC iA rows,iA s] [] (.tup [iA p,iA q]) []/\((p= -1/\∀a b:Nat,a<rows.length->b<rows.length->FR rows s a b=false)∨(0<=p/\∃a b:Nat,a<rows.length/\b<rows.length/\FR rows s a b=true)):=by
 have hl:=zA iA rows;by_cases hx:∃a,a<rows.length/\∃b,b<rows.length/\FR rows s a b=true
 ·obtain⟨a,ha,hx⟩:=hx;obtain⟨p,_,⟨hp,hx⟩,hpm⟩:=JH (P:=λa=>a<rows.length/\∃b,b<rows.length/\FR rows s a b=true) a ⟨ha,hx⟩;obtain⟨b,hb⟩:=hx;obtain⟨q,_,⟨hq,hc⟩,hqm⟩:=JH (P:=λb=>b<rows.length/\FR rows s p b=true) b hb;refine⟨p,q,?_,.inr ⟨zB,p,q,hp,hq,hc⟩⟩
  have hsp:inS s p=true:=by
   unfold FR at hc;rw[yAs]at hc;exact hc.1
  refine eM call282 λF hF=>?_
  refine WW ?_;refine xS (rows.length) [] [] [0,1,9] [10,0,1,9] Z (λi T U zs=>(i<=p)/\zs=⟨(10,iA i)::T,U⟩) ?_;(conv=>whnf);refine⟨?_,?_,?_⟩
  ·exact⟨yAt _,rfl⟩
  ·rintro u st hu ⟨hup,rfl⟩;have ci:=BN s u hs zB;by_cases hup2:u=p
   ·subst hup2;rw[hsp]at ci;refine zV ci ?_;refine xS (rows.length) [] [] [0,1,6,9,10,18] [19,0,1,6,9,10,18] Z (λi T U zs=>(i<=q)/\zs=⟨(19,iA i)::T,U⟩) ?_;(conv=>whnf);refine⟨?_,?_,?_⟩
    ·exact⟨yAt _,rfl⟩
    ·rintro v st hv ⟨hvq,rfl⟩;have cj:=BN s v hs zB;have ck:=gD rows zB u v;by_cases hvq2:v=q
     ·subst hvq2;unfold FR at hc;simp only[yAs,yAm]at hc;rw[hc.2.2.1]at cj;rw[hc.2.2.2]at ck;have hne:(v:Int)≠u:=by omega
      refine yQ (wV cj ck) ?_;exact zJ
     ·have hno:FR rows s u v=false:=by
       cases hcc:FR rows s u v with
       |false=>rfl
       |true=>exact absurd ⟨hv,hcc⟩ (hqm v zB)
      unfold FR at hno;rw[hsp,yA3]at hno;by_cases h1:v=u
      ·have hne:(v:Int)=u:=by omega
       refine WW ?_;exact⟨zB,rfl⟩
      have hne:(v:Int)≠u:=by omega
      rw[yAj h1,yA3]at hno
      cases h2:inS s v with
      |false=>
       rw[h2]at cj;refine zV cj ?_;exact⟨zB,rfl⟩
      |true=>
       rw[h2,yA3]at hno;rw[h2]at cj;rw[hno]at ck;refine yQ (wV cj ck) ?_;exact⟨zB,rfl⟩
    ·rintro st ⟨hvq,rfl⟩;exfalso;omega
   ·have hno:∀b,b<rows.length->FR rows s u b=false:=λb hb=>by
     cases hcc:FR rows s u b with
     |false=>rfl
     |true=>exact absurd ⟨hu,b,hb,hcc⟩ (hpm u zB)
    cases h3:inS s u with
    |false=>
     rw[h3]at ci;refine zV ci ?_;exact⟨zB,rfl⟩
    |true=>
    rw[h3]at ci;refine zV ci ?_;refine zO (rows.length) [] [] [0,1,6,9,10,18] [19,0,1,6,9,10,18] Z (λi T U=>⟨(19,iA i)::T,U⟩) ?_;(conv=>whnf);refine⟨by rfl,?_,?_⟩
    ·intro v hv;have cj:=BN s v hs zB;have ck:=gD rows zB u v;have hno:=hno v hv;unfold FR at hno;rw[h3,yA3]at hno;by_cases h1:v=u
     ·have hne:(v:Int)=u:=by omega
      refine WW ?_;rfl
     have hne:(v:Int)≠u:=by omega
     rw[yAj h1,yA3]at hno
     cases h2:inS s v with
     |false=>
      rw[h2]at cj;refine zV cj ?_;rfl
     |true=>
      rw[h2,yA3]at hno;rw[h2]at cj;rw[hno]at ck;refine yQ (wV cj ck) ?_;rfl
    ·(refine WW ?_)
     exact⟨zB,rfl⟩
  ·rintro st ⟨hup,rfl⟩;exfalso;omega
 ·have hno:∀a b,a<rows.length->b<rows.length->FR rows s a b=false:=λa b ha hb=>by
   cases hcc:FR rows s a b with
   |false=>rfl
   |true=>exact absurd ⟨a,ha,b,hb,hcc⟩ hx
  refine⟨-1,-1,?_,.inl ⟨rfl,hno⟩⟩;clear hx;refine eM call282 λF hF=>?_
  refine WW ?_;refine zO (rows.length) [] [] [0,1,9] [10,0,1,9] Z (λi T U=>⟨(10,iA i)::T,U⟩) ?_;(conv=>whnf);refine⟨by rfl,?_,?_⟩
  ·intro u hu;have ci:=BN s u hs zB
   cases h3:inS s u with
   |false=>
    rw[h3]at ci;refine zV ci ?_;rfl
   |true=>
   rw[h3]at ci;refine zV ci ?_;refine zO (rows.length) [] [] [0,1,6,9,10,18] [19,0,1,6,9,10,18] Z (λi T U=>⟨(19,iA i)::T,U⟩) ?_;(conv=>whnf);refine⟨by rfl,?_,?_⟩
   ·intro v hv;have cj:=BN s v hs zB;have ck:=gD rows zB u v;have hno:=hno u v hu hv;unfold FR at hno;rw[h3,yA3]at hno;by_cases h1:v=u
    ·have hne:(v:Int)=u:=by omega
     refine WW ?_;rfl
    have hne:(v:Int)≠u:=by omega
    rw[yAj h1,yA3]at hno
    cases h2:inS s v with
    |false=>
     rw[h2]at cj;refine zV cj ?_;rfl
    |true=>
     rw[h2,yA3]at hno;rw[h2]at cj;rw[hno]at ck;refine yQ (wV cj ck) ?_;rfl
   ·(refine WW ?_)
    rfl
  ·(refine WW ?_)
   exact zJ
def BO (j:Jn) (hn:j.ph.length<=1000) (hg:∀p:Nat,p<j.ph.length->0<=(xF j p).group/\(xF j p).group<=3):zN 284 [wC j] [] (iA (SD j)) []:=by
 have hl:=zA vE j.ph;unfold SD;refine eM call284 λF hF=>?_
 refine WW ?_;refine zO (j.ph.length) [] [] [7,8] [3,9,7,8] Z (λi T U=>⟨(3,iA (grN j.ph i))::(9,iA i)::T,U⟩) ?_;(conv=>whnf);refine⟨by rfl,?_,?_⟩
 ·intro i hi;have hy:=zM vE j.ph i hi;have hb:=hg i hi;unfold xF at hb;have e:grN j.ph (i+1)=max (grN j.ph i) ((j.ph.getD i default).group+1):=rfl;rw[e];generalize grN j.ph i=g at *;generalize j.ph.getD i default=t at *;refine WW ?_;rfl
 ·(refine WW ?_)
  exact zJ
def GP (j:Jn) (r g:Int) (i:Nat):List Nat:=(List.range i).filter λp=>(xF j p).ring==r&&(xF j p).group==g
def zLy (j:Jn) (r g:Int) (i:Nat):GP j r g (i+1)=if(xF j i).ring=r/\(xF j i).group=g then GP j r g i++[i]else GP j r g i:=by
 unfold GP;rw[yCx,yDx];by_cases h:(xF j i).ring=r/\(xF j i).group=g
 ·rw[yAd h];simp[h.1,h.2]
 ·rw[yAc h]
  have:((xF j i).ring==r&&(xF j i).group==g)=false:=by
   rw[Bool.and_eq_false_iff]
   rcases Classical.not_and_iff_not_or_not.1 h with h|h
   ·exact .inl TJ
   ·exact .inr TJ
  simp[this]
def zQ3 {α:Type} (f:α->AV) (l:List α):AV.sl false ((l.map f).take (l.map f).length)=zC f l:=by rw[yAh];rfl
def nA (p:Nat):AV:=iA (p:Int)
def zZs (j:Jn) (hn:j.ph.length<=1000) (r g:Int):zN 286 [wC j,iA r,iA g] [] (zC nA (GP j r g j.ph.length)) []:=by
 have hl:=zA vE j.ph;refine eM call286 λF hF=>?_
 refine WW ?_;refine xC 7 1001 1 Z Z Z ?_;refine zO (j.ph.length) [1001] [] [1,2,11,12] [7,13,1,2,11,12] Z (λi T U=>⟨(7,.ref 1001 0 ((GP j r g i).map nA).length)::(13,iA i)::T,(1001,.arr 1 ((GP j r g i).map nA) true)::U⟩) ?_;(conv=>whnf);refine⟨by rfl,?_,?_⟩
 ·intro i hi;have hy:=zM vE j.ph i hi
  change (j.ph.map vE)[i]? =some (vE (xF j i))at hy
  have es:=zLy j r g i
  have hlen:(GP j r g i).length<=1000:=by
   have:(GP j r g i).length<=(List.range i).length:=yCo _ _;rw[yB1]at this;omega
  have hlm:((GP j r g i).map nA).length<=1000:=by rw[yAe];exact hlen
  rw[es];generalize GP j r g i=o at *;generalize xF j i=t at *;by_cases h1:t.ring=r
  ·by_cases h2:t.group=g
   ·rw[yAd ⟨h1,h2⟩,yAn];generalize o.map nA=xs at *;refine WW ?_;rfl
   ·rw[yAc (λh=>h2 h.2)];refine WW ?_;rfl
  ·rw[yAc (λh=>h1 h.1)];refine WW ?_;rfl
 ·(refine WW ?_)
  exact zH [] Z Z (zQ3 _ _) Z
def GQ (l:List Nat) (x:Int):Bool:=l.any λp:Nat=>(p:Int)==x
def zLz (l:List Nat) (hn:l.length<=1000) (x:Int):∃k:Int,zN 305 [zC nA l,iA x] [] (iA k) []/\ -1<=k/\k<1000/\(GQ l x=decide (0<=k)):=by
 have hl:=zA nA l;by_cases hx:∃i,i<l.length/\((l.getD i default:Nat):Int)=x
 ·obtain⟨i0,h1,h2⟩:=hx;obtain⟨k,_,⟨hk,hkx⟩,hkm⟩:=JH (P:=λi=>i<l.length/\((l.getD i default:Nat):Int)=x) i0 ⟨h1,h2⟩;refine⟨k,?_,zB,zB,?_⟩
  ·(refine eM call305 λF hF=>?_)
   refine WW ?_;refine xS (l.length) [] [] [0,1,7] [8,0,1,7] Z (λi T U zs=>(i<=k)/\zs=⟨(8,iA i)::T,U⟩) ?_;(conv=>whnf);refine⟨?_,?_,?_⟩
   ·exact⟨yAt _,rfl⟩
   ·rintro u st hu ⟨huk,rfl⟩;have hy:=zM nA l u hu;by_cases e:u=k
    ·subst e;generalize l.getD u default=v at *;unfold nA at hy;refine WW ?_;exact zJ
    ·have hne:¬((l.getD u default:Nat):Int)=x:=λh=>hkm u zB ⟨hu,h⟩
     generalize l.getD u default=v at *;unfold nA at hy;refine WW ?_;exact⟨zB,rfl⟩
   ·rintro st ⟨huk,rfl⟩;exfalso;omega
  ·rw[yAj zB];unfold GQ;rw[yB8];exact⟨l.getD k default,by simp[List.getD,hk],by rw[yBw];exact hkx⟩
 ·refine⟨-1,?_,zB,zB,?_⟩
  ·(refine eM call305 λF hF=>?_)
   refine WW ?_;refine zO (l.length) [] [] [0,1,7] [8,0,1,7] Z (λi T U=>⟨(8,iA i)::T,U⟩) ?_;(conv=>whnf);refine⟨by rfl,?_,?_⟩
   ·intro u hu;have hy:=zM nA l u hu;have hne:¬((l.getD u default:Nat):Int)=x:=λh=>hx ⟨u,hu,h⟩
    generalize l.getD u default=v at *;unfold nA at hy;clear hx;refine WW ?_;rfl
   ·clear hx;refine WW ?_;exact zJ
  ·rw[yAl zB];unfold GQ;rw[yDe];intro p hp;obtain⟨i,hi,rfl⟩:=yCp hp;intro h;rw[yBw]at h;exact hx ⟨i,hi,by simpa [List.getD,hi]using h⟩
def zB0 (l:List Nat) (hn:l.length<=1000) (x:Int):zN 285 [zC nA l,iA x] [] (bA (GQ l x)) []:=by
 obtain⟨k,c,h1,h2,h3⟩:=zLz l hn x;rw[h3];by_cases h:0<=k
 ·rw[yAj h];refine eM call285 λF hF=>?_
  refine zV c ?_;exact zJ
 ·rw[yAl h];refine eM call285 λF hF=>?_
  refine zV c ?_;exact zJ
def zL0 (l:Li):zN 307 [vN l] [] (bA (l.lamp != 0)) []:=by
 by_cases h:l.lamp=0
 ·rw[show(l.lamp != 0)=false by simp[h]];refine eM call307 λF hF=>?_
  refine WW ?_;exact zJ
 ·rw[show(l.lamp != 0)=true by simp[h]];refine eM call307 λF hF=>?_
  refine WW ?_;exact zJ
def zV9 (c:Ct) (hn:c.li.length<=1000):∃k:Int,zN 309 [zC vN c.li,.fn 307 []] [] (iA k) []/\ -1<=k/\k<1000/\(arF c= !decide (0<=k)):=by
 have hl:=zA vN c.li;by_cases hx:∃i,i<c.li.length/\(vJ c i).lamp≠0
 ·obtain⟨i0,h1,h2⟩:=hx;obtain⟨k,_,⟨hk,hkx⟩,hkm⟩:=JH (P:=λi=>i<c.li.length/\(vJ c i).lamp≠0) i0 ⟨h1,h2⟩;refine⟨k,?_,zB,zB,?_⟩
  ·(refine eM call309 λF hF=>?_)
   refine WW ?_;refine xS (c.li.length) [] [] [0,1,7] [8,0,1,7] Z (λi T U zs=>(i<=k)/\zs=⟨(8,iA i)::T,U⟩) ?_;(conv=>whnf);refine⟨?_,?_,?_⟩
   ·exact⟨yAt _,rfl⟩
   ·rintro u st hu ⟨huk,rfl⟩;have hy:=zM vN c.li u hu
    change (c.li.map vN)[u]? =some (vN (vJ c u))at hy
    have cn:=zL0 (vJ c u);by_cases e:u=k
    ·subst e;rw[show((vJ c u).lamp != 0)=true by simpa using hkx]at cn;generalize vJ c u=v at *;refine zV cn ?_;exact zJ
    ·have hne:(vJ c u).lamp=0:=yB9 λh=>hkm u zB ⟨hu,h⟩
     rw[show((vJ c u).lamp != 0)=false by simpa using hne]at cn;generalize vJ c u=v at *;refine zV cn ?_;exact⟨zB,rfl⟩
   ·rintro st ⟨huk,rfl⟩;exfalso;omega
  ·rw[yAj zB];unfold arF;exact yDd.2 ⟨vJ c k,by simp[vJ,List.getD,hk],by simpa using hkx⟩
 ·have h0:∀i,i<c.li.length->(vJ c i).lamp=0:=λi hi=>yB9 λh=>hx ⟨i,hi,h⟩
  refine⟨-1,?_,zB,zB,?_⟩
  ·clear hx;refine eM call309 λF hF=>?_
   refine WW ?_;refine zO (c.li.length) [] [] [0,1,7] [8,0,1,7] Z (λi T U=>⟨(8,iA i)::T,U⟩) ?_;(conv=>whnf);refine⟨by rfl,?_,?_⟩
   ·intro u hu;have hy:=zM vN c.li u hu
    change (c.li.map vN)[u]? =some (vN (vJ c u))at hy
    have cn:=zL0 (vJ c u);have h0:=h0 u hu;rw[show((vJ c u).lamp != 0)=false by simpa using h0]at cn;generalize vJ c u=v at *;refine zV cn ?_;rfl
   ·(refine WW ?_)
    exact zJ
  ·rw[yAl zB];unfold arF;rw[yFg,yAu];intro l hl;obtain⟨i,hi,rfl⟩:=yCp hl;have:=h0 i hi;simpa [vJ,List.getD,hi]using this
def BP (c:Ct) (hn:c.li.length<=1000):zN 287 [ctA c] [] (bA (arF c)) []:=by
 obtain⟨k,c1,h1,h2,h3⟩:=zV9 c hn
 have c2:zN 306 [zC vN c.li,.fn 307 []] [] (bA (decide (0<=k))) []:=by
  by_cases h:0<=k
  ·rw[yAj h];refine eM call306 λF hF=>?_
   refine zV c1 ?_;exact zJ
  ·rw[yAl h];refine eM call306 λF hF=>?_
   refine zV c1 ?_;exact zJ
 rw[h3]
 cases hd:decide (0<=k)<;>rw[hd]at c2
 ·(refine eM call287 λF hF=>?_)
  refine zV c2 ?_;exact zJ
 ·(refine eM call287 λF hF=>?_)
  refine zV c2 ?_;exact zJ
def nvF (j:Jn) (c:Ct):Bool:=(List.range j.ph.length).all λp=>LZ (xF j p) (vJ c p)
def ncF (j:Jn) (c:Ct):Bool:=(List.range j.cf.length).all λa=>(List.range j.cf.length).all λb=>!FR j.cf (seF c) a b
def nxO (j:Jn) (c:Ct) (r:Nat):Bool:=decide (c.nx.getD r default= -1)||GQ (GP j r c.gr j.ph.length) (c.nx.getD r default)
def vcF (j:Jn) (c:Ct):Bool:=decide (c.li.length=j.ph.length/\c.nx.length=2)&&(nvF j c&&(ncF j c&&(decide (0<=c.gr/\c.gr<SD j)&&((List.range 2).all (nxO j c)&&(decide (0<=c.wt/\c.wt<=j.st)&&(decide (c.wt=0)||arF c))))))
structure JB (j:Jn):Prop where
 n:j.ph.length<=8
 c:j.cf.length<=8
 gp:∀p:Nat,p<j.ph.length->0<=(xF j p).group/\(xF j p).group<=3
theorem JV.b {j:Jn} (J:JV j):JB j:=⟨J.n.2,by rw[J.c];exact J.n.2,J.gp⟩
def zZt {n:Nat} (h:n<=8):p2 (n:Int)<=256:=by
 have:n=0∨n=1∨n=2∨n=3∨n=4∨n=5∨n=6∨n=7∨n=8:=by omega
 rcases this with rfl|rfl|rfl|rfl|rfl|rfl|rfl|rfl|rfl<;>decide
theorem zQ4 (j:Jn) (J:JB j) (c:Ct):zN 255 [wC j,ctA c] [] (bA (vcF j c)) []:=by
 have hlp:=zA vE j.ph;have hll:=zA vN c.li;have hln:=zA iA c.nx;have hn8:=J.n;unfold vcF;by_cases h1:c.li.length=j.ph.length
 case neg=>
  rw[yAl (λh=>h1 h.1)];refine eM call255 λF hF=>?_
  refine WW ?_;exact zJ
 by_cases h2:c.nx.length=2
 case neg=>
  rw[yAl (λh=>h2 h.2)];refine eM call255 λF hF=>?_
  refine WW ?_;exact zJ
 rw[yAj ⟨h1,h2⟩,yA3];have cs:=zX7 c zB;have hsb:=zA3 (FQ c) c.li.length zB;have hp8:=zZt (n:=c.li.length) zB
 change 0<=seF c/\seF c<p2 c.li.length at hsb
 obtain⟨cp,cq,cc,hcl⟩:=zLx j.cf J.c (seF c) zB
 have hnc:ncF j c=decide (cp= -1):=by
  unfold ncF
  rcases hcl with⟨h3,h4⟩|⟨h3,a,b,ha,hb,h4⟩
  ·rw[yAj h3,yAu];intro a ha;rw[yAu];intro b hb;rw[h4 a b (yA2.1 ha) (yA2.1 hb)];rfl
  ·rw[yAl zB,yDd];refine⟨a,yA2.2 ha,?_⟩;rw[yCy,yDd];exact⟨b,yA2.2 hb,by rw[h4];decide⟩
 have hcp:cp= -1∨0<=cp:=by
  rcases hcl with h|h
  ·exact .inl h.1
  ·exact .inr h.1
 have cg:=BO j zB J.gp;have ca:=BP c zB;clear hcl;rw[hnc];generalize seF c=se at *;generalize SD j=gm at *;generalize hra:arF c=ra at *;refine eM call255 λF hF=>?_
 refine WW ?_;refine xS (j.ph.length) [2,3] [2,3] [2,3,25,26] [27,2,3,25,26] Z (λi T U zs=>(∀s:Nat,s<i->LZ (xF j s) (vJ c s)=true)/\zs=⟨(27,iA i)::T,U⟩) ?_;(conv=>whnf);refine⟨?_,?_,?_⟩
 ·exact⟨λs hs=>absurd hs (yC3 _),rfl⟩
 ·rintro i st hi ⟨hp,rfl⟩;have hy:=zM vE j.ph i hi;have hyl:=zM vN c.li i zB
  change (j.ph.map vE)[i]? =some (vE (xF j i))at hy
  change (c.li.map vN)[i]? =some (vN (vJ c i))at hyl
  have cv:=zLu (xF j i) (vJ c i)
  cases hq:LZ (xF j i) (vJ c i)with
  | true=>
   rw[hq]at cv
   have hp2:∀s:Nat,s<i+1->LZ (xF j s) (vJ c s)=true:=λs hs=>by
    by_cases hsi:s=i
    ·subst hsi;assumption
    ·exact hp s zB
   clear hq hp;generalize xF j i=t at *;generalize vJ c i=l at *;clear cs cc cg ca;refine zV cv ?_;exact⟨hp2,rfl⟩
  |false=>
   have hnv:nvF j c=false:=yDd.2 ⟨i,yA2.2 hi,by rw[hq];decide⟩;rw[hq]at cv;rw[hnv,yB4];clear hq hp;generalize xF j i=t at *;generalize vJ c i=l at *;clear cs cc cg ca;refine zV cv ?_;exact zJ
 ·rintro st ⟨hp,rfl⟩;have hnv:nvF j c=true:=yAu.2 λi hi=>hp i (yA2.1 hi)
  rw[hnv,yA3];clear hp hnv;by_cases hcq:cp= -1
  case neg=>
   rw[yAl hcq];refine yQ (wV cs cc) ?_;exact zJ
  rw[yAj hcq,yA3];by_cases hg0:0<=c.gr
  case neg=>
   rw[yAl (λh=>hg0 h.1)];refine yQ (gG cs cc cg) ?_;exact zJ
  by_cases hg1:c.gr<gm
  case neg=>
   rw[yAl (λh=>hg1 h.2)];refine yQ (gG cs cc cg) ?_;exact zJ
  rw[yAj ⟨hg0,hg1⟩,yA3];refine yQ (gG cs cc cg) ?_;refine xS (c.nx.length) [2,3] [2,3] [2,3,62,63] [64,2,3,62,63] Z (λi T U zs=>(∀s:Nat,s<i->nxO j c s=true)/\zs=⟨(64,iA i)::T,U⟩) ?_;(conv=>whnf);refine⟨?_,?_,?_⟩
  ·exact⟨λs hs=>absurd hs (yC3 _),rfl⟩
  ·rintro i st hi ⟨hp,rfl⟩;have hy:=zM iA c.nx i hi;have co:=zZs j zB i c.gr
   have hlen:(GP j i c.gr j.ph.length).length<=1000:=by
    have:(GP j i c.gr j.ph.length).length<=(List.range j.ph.length).length:=yCo _ _;rw[yB1]at this;omega
   have ch:=zB0 (GP j i c.gr j.ph.length) hlen (c.nx.getD i default)
   have next:nxO j c i=true->∀s:Nat,s<i+1->nxO j c s=true:=λh s hs=>by
    by_cases hsi:s=i
    ·subst hsi;exact h
    ·exact hp s zB
   have stop:nxO j c i=false->((List.range 2).all (nxO j c))=false:=λh=>yDd.2 ⟨i,yA2.2 zB,by rw[h];decide⟩
   have ex:nxO j c i=(decide (c.nx.getD i default= -1)||GQ (GP j i c.gr j.ph.length) (c.nx.getD i default)):=rfl;clear hp cs cc cg ca;generalize GP j i c.gr j.ph.length=o at *;generalize GQ o (c.nx.getD i default)=hb at *;generalize c.nx.getD i default=x at *;generalize nxO j c i=q at *;by_cases hx:x= -1
   ·rw[yAj hx]at ex;have hnx:=next ex;refine WW ?_;exact⟨hnx,rfl⟩
   rw[yAl hx,yC9]at ex
   cases hb with
   |true=>
    have hnx:=next ex;refine yQ (wV co ch) ?_;exact⟨hnx,rfl⟩
   |false=>
    rw[stop ex,yB4];refine yQ (wV co ch) ?_;exact zJ
  ·rintro st ⟨hp,rfl⟩;have hall:((List.range 2).all (nxO j c))=true:=yAu.2 λi hi=>hp i (by have:=yA2.1 hi;omega)
   rw[hall,yA3];clear hp hall;by_cases hw0:0<=c.wt
   case neg=>
    rw[yAl (λh=>hw0 h.1)];refine WW ?_;exact zJ
   by_cases hw1:c.wt<=j.st
   case neg=>
    rw[yAl (λh=>hw1 h.2)];refine WW ?_;exact zJ
   rw[yAj ⟨hw0,hw1⟩,yA3];by_cases hz:c.wt=0
   ·rw[yAj hz];refine WW ?_;exact zJ
   ·rw[yAl hz,yC9];refine zV ca ?_;exact zJ
def zWa {j:Jn} (J:JV j) {c:Ct} (C:CV j c):vcF j c=true:=by
 have hn:=C.n;have hJ:=J.n;unfold vcF;have h1:nvF j c=true:=yAu.2 λp hp=>C.k p (yA2.1 hp)
 have h2:ncF j c=true:=by
  unfold ncF;rw[yAu];intro a ha;rw[yAu];intro b hb;have ha:=yA2.1 ha;have hb:=yA2.1 hb;rw[J.c]at ha hb
  have hin:∀p:Nat,p<j.ph.length->inS (seF c) p=FQ c p:=λp hp=>by
   unfold seF;have e:=GO (λq=>decide (q<c.li.length)&&FQ c q) c.li.length 8 zB (λi h1 h2=>by rw[yAl zB];rfl);have e2:dK (FQ c) c.li.length=dK (λq=>decide (q<c.li.length)&&FQ c q) c.li.length:=bH _ λi hi=>by rw[yAj hi];rfl
   rw[e2,<-e,zLw _ p zB,yAj zB];rfl
  rw[yCz];unfold FR;rw[hin a ha,hin b hb];by_cases hab:b=a
  ·rw[yAl (λh=>h hab)];simp
  ·cases hsa:FQ c a with
   |false=>rfl
   | true=>
    cases hsb:FQ c b with
    |false=>simp
    |true=>
     rw[C.x a b ha hb (λh=>hab h.symm) (by simpa [FQ]using hsa) (by simpa [FQ]using hsb)];simp
 have h3:((List.range 2).all (nxO j c))=true:=yAu.2 λr hr=>by
  have hr:=yA2.1 hr;unfold nxO
  rcases C.v r hr with h|h
  ·rw[yAj h];rfl
  ·have:GQ (GP j r c.gr j.ph.length) (c.nx.getD r default)=true:=by
    unfold GQ;rw[yB8];obtain⟨a,b,d,e⟩:=h;refine⟨(c.nx.getD r default).toNat,?_,by rw[yBw];omega⟩;unfold GP;rw[yDz,yA2];refine⟨zB,?_⟩;rw[d,e];simp
   rw[this,yD1]
 rw[yAj ⟨hn,C.m⟩,h1,h2,yAj C.g,h3,yAj C.w];simp only[yA3]
 rcases C.z with h|h
 ·rw[yAj h];rfl
 ·have:arF c=true:=by
   unfold arF;rw[yAu];intro l hl;obtain⟨i,hi,rfl⟩:=yCp hl;have:=h i zB;simpa [vJ,List.getD,hi]using this
  rw[this,yD1]
def zZu (y:Int):gR y 1=0∨gR y 1=1:=by
 show IntKind.i64.wrap (BitVec.ofInt 64 y &&& BitVec.ofInt 64 1).toNat=0∨IntKind.i64.wrap (BitVec.ofInt 64 y &&& BitVec.ofInt 64 1).toNat=1
 have e1:BitVec.ofInt 64 1=1#64:=by decide
 have h:(BitVec.ofInt 64 y &&& BitVec.ofInt 64 1).toNat=(BitVec.ofInt 64 y).toNat % 2:=by
  rw[e1,BitVec.toNat_and];exact Nat.and_one_is_mod _
 rw[h];have h2:(BitVec.ofInt 64 y).toNat % 2=0∨(BitVec.ofInt 64 y).toNat % 2=1:=by omega
 rcases h2 with h2|h2<;>rw[h2]
 ·exact .inl xL
 ·exact .inr xL
def GR {rows:List Int} {p q:Nat} (hp:p<rows.length) (hq:q<rows.length):gR (uS (rows.getD p default) q) 1=if dB rows p q=true then 1 else 0:=by
 unfold dB;rw[yAj zB,yA3,yBq];split
 ·rename_i h
  rwa [yBw]at h
 ·rename_i h;rw[yBw]at h
  rcases zZu (uS (rows.getD p default) q)with h1|h1
  ·exact h1
  ·exact absurd h1 h
def zZv {x:Int} {n:Nat} (h:0<=x/\x<2 ^ n):uS x n=0:=by
 unfold uS;rw[yBq];exact Int.fdiv_eq_zero_of_lt h.1 h.2
def zGj (j:Jn) (J:JV j):zN 183 [zC iA j.cf] [] (bA true) []:=by
 have hl:=zA iA j.cf;have hn:=J.n;have hc:=J.c;refine eM call183 λF hF=>?_
 refine WW ?_;refine zO (j.cf.length) [] [] [0,14,15] [16,0,14,15] Z (λi T U=>⟨(16,iA i)::T,U⟩) ?_;(conv=>whnf);refine⟨by rfl,?_,?_⟩
 ·intro u hu;have hy:=zM iA j.cf u hu;have hrow:=J.row u zB;have hs0:=zZv hrow;rw[<-hc,<-hl]at hs0;have hir:=GR (p:=u) (q:=u) hu hu;rw[J.ir u zB,yAc xL]at hir
  have hpq:∀v,v<j.cf.length->gR (uS (j.cf.getD u default) v) 1=gR (uS (j.cf.getD v default) u) 1:=λv hv=>by
   rw[GR hu hv,GR hv hu,J.sy u v zB zB]
  generalize j.cf.getD u default=x at *;refine WW ?_;refine zO (j.cf.length) [] [] [0,3,4,14,15,16,38] [39,0,3,4,14,15,16,38] Z (λi T U=>⟨(39,iA i)::T,U⟩) ?_;(conv=>whnf);refine⟨by rfl,?_,?_⟩
  ·intro v hv;have hyv:=zM iA j.cf v hv;have hpq:=hpq v hv;generalize j.cf.getD v default=y at *;refine WW ?_;rfl
  ·clear hpq;refine WW ?_;rfl
 ·(refine WW ?_)
  exact zJ
def dV (n a b:Int) (h:a<=n/\n<=b):zN 142 [iA n,iA a,iA b] [] (bA true) []:=by
 obtain⟨h1,h2⟩:=h;refine eM call142 λF hF=>?_
 refine WW ?_;exact zJ
def zL1 (j:Jn) (J:JV j) (p:Nat) (hp:p<j.ph.length):zN 184 [vE (xF j p)] [] (bA true) []:=by
 have hr:=J.rg p hp;have hg:=J.gp p hp;obtain⟨t1,t2,t3,t4,t5,t6,t7,t8,t9,t10,t11,t12,t13⟩:=J.ti p hp;generalize xF j p=t at *;have c1:=dV t.ring 0 1 hr;have c2:=dV t.group 0 3 hg;have c3:=dV t.ming 1 60 ⟨t1,zB⟩;have c4:=dV t.maxg 1 60 ⟨zB,t3⟩;have c5:=dV t.yel 1 60 ⟨t4,t5⟩;have c6:=dV t.red 0 60 ⟨t6,t7⟩;have c7:=dV t.walk 0 60 ⟨t8,t9⟩;have c8:=dV t.clear 0 60 ⟨t10,t11⟩;by_cases h0:t.walk=0
 ·have h1:=t13.1 h0;clear t13;refine eM call184 λF hF=>?_
  refine yQ (zt8 c1 c2 c3 c4 c5 c6 c7 c8) ?_;exact zJ
 ·have h1:¬t.clear=0:=λh=>h0 (t13.2 h)
  clear t13;refine eM call184 λF hF=>?_
  refine yQ (zt8 c1 c2 c3 c4 c5 c6 c7 c8) ?_;exact zJ
def zL2 (j:Jn) (J:JV j):zN 185 [wC j] [] (bA true) []:=by
 have hl:=zA vE j.ph;have hn:=J.n;have hc:=J.c;refine eM call185 λF hF=>?_
 repeat' (first|(refine zE ?_;first|refine vF tok Z Z ?_|refine aH tok Z Z Z Z ?_|refine uQ ?_)|first|refine SQ ?_|fail|refine vK ?_|refine vL ?_|refine yU ?_)
 refine zO (j.ph.length) [1] [1] [1,9,10] [3,11,1,9,10] Z (λi T U=>⟨(3,bA true)::(11,iA i)::T,U⟩) ?_;(conv=>whnf);refine⟨by rfl,?_,?_⟩
 ·intro u hu;have hy:=zM vE j.ph u hu
  change (j.ph.map vE)[u]? =some (vE (xF j u))at hy
  refine WW ?_;refine zO (j.ph.length) [1,5] [1,5] [1,4,5,9,10,11,17,18] [3,19,1,4,5,9,10,11,17,18] Z (λi T U=>⟨(3,bA true)::(19,iA i)::T,U⟩) ?_;(conv=>whnf);refine⟨by rfl,?_,?_⟩
  ·intro v hv;have hyv:=zM vE j.ph v hv
   change (j.ph.map vE)[v]? =some (vE (xF j v))at hyv
   have ck:=gD j.cf zB u v;have hap:=J.ap u v hu hv;by_cases huv:u=v
   ·have hne:(u:Int)=v:=by omega
    clear hap;generalize xF j u=a at *;generalize xF j v=b at *;refine WW ?_;rfl
   have hne:¬(u:Int)=v:=by omega
   by_cases h1:(xF j u).ring=(xF j v).ring
   ·rw[hap huv (.inl h1)]at ck;clear hap;generalize xF j u=a at *;generalize xF j v=b at *;refine zV ck ?_;rfl
   by_cases h2:(xF j u).group=(xF j v).group
   ·clear hap;generalize xF j u=a at *;generalize xF j v=b at *;refine WW ?_;rfl
   ·rw[hap huv (.inr h2)]at ck;clear hap;generalize xF j u=a at *;generalize xF j v=b at *;refine zV ck ?_;rfl
  ·generalize xF j u=a at *;refine WW ?_;rfl
 ·(refine WW ?_)
  exact zJ
def JJ (j:Jn) (i:Nat) (g:Nat):Bool:=(List.range i).any λp=>(xF j p).group==(g:Int)
def zL3 (j:Jn) (i:Nat):JJ j (i+1)=λg=>JJ j i g||((xF j i).group==(g:Int)):=by
 funext g
 unfold JJ;rw[yCx,List.any_append];simp
def zX8 (g:Nat) (h:g<4):p2 (g:Int)=dK (λx:Nat=>(g:Int)==(x:Int)) 8:=by
 have:g=0∨g=1∨g=2∨g=3:=by omega
 rcases this with rfl|rfl|rfl|rfl<;>decide
def zZw:∀b0 b1 b2 b3:Bool,(b1=true->b0=true)->(b2=true->b1=true)->(b3=true->b2=true)->gR (dK (bq b0 b1 b2 b3 false false false false) 8) (dK (bq b0 b1 b2 b3 false false false false) 8+1)=0:=by decide +kernel
def zQ5 (j:Jn) (J:JV j):gR (dK (JJ j j.ph.length) 8) (dK (JJ j j.ph.length) 8+1)=0:=by
 have hf:∀g:Nat,4<=g->JJ j j.ph.length g=false:=λg hg=>by
  unfold JJ;rw[yDe];intro p hp;have:=J.gp p (yA2.1 hp);simp;omega
 have hd:∀g:Nat,JJ j j.ph.length (g+1)=true->JJ j j.ph.length g=true:=λg h=>by
  unfold JJ at h⊢;rw[yB8]at h⊢;obtain⟨p,hp,hg⟩:=h;rw[yBw]at hg;obtain⟨q,hq,hqg⟩:=J.lo p (yA2.1 hp) g zB zB;exact⟨q,yA2.2 hq,by rw[yBw];exact hqg⟩
 have e:dK (JJ j j.ph.length) 8=dK (bq (JJ j j.ph.length 0) (JJ j j.ph.length 1) (JJ j j.ph.length 2) (JJ j j.ph.length 3) false false false false) 8:=bH 8 λi hi=>by
  match i,hi with
  |0,_=>rfl|1,_=>rfl|2,_=>rfl|3,_=>rfl
  |4,_=>exact hf 4 zB
  |5,_=>exact hf 5 zB
  |6,_=>exact hf 6 zB
  |7,_=>exact hf 7 zB
  |i+8,h=>omega
 rw[e];exact zZw _ _ _ _ (hd 0) (hd 1) (hd 2)
def QS (j:Jn) (J:JV j):zN 143 [wC j] [] (bA true) []:=by
 have hl:=zA vE j.ph;have hlc:=zA iA j.cf;have hn:=J.n;have hc:=J.c;have c1:=zGj j J;have c2:=dV j.st 0 60 J.st;have c3:=zL2 j J;have hgd:=zQ5 j J;have hbb:=zA3 (JJ j j.ph.length) 8 zB;have hp8:p2 ((8:Nat):Int)=256:=by decide
 refine eM call143 λF hF=>?_
 refine yQ (wV c1 c2) ?_;refine zO (j.ph.length) [1] [1] [1,34,35] [4,36,1,34,35] Z (λi T U=>⟨(4,iA (dK (JJ j i) 8))::(36,iA i)::T,U⟩) ?_;(conv=>whnf);refine⟨by rfl,?_,?_⟩
 ·intro u hu;have hy:=zM vE j.ph u hu
  change (j.ph.map vE)[u]? =some (vE (xF j u))at hy
  have cp:=zL1 j J u hu;have hg:=J.gp u hu;have es:=zL3 j u;obtain⟨gn,hgn⟩:∃n:Nat,(xF j u).group=n:=⟨(xF j u).group.toNat,zB⟩;have hor:=zUx (JJ j u) (λx:Nat=>(gn:Int)==(x:Int));rw[<-zX8 gn zB]at hor;rw[hgn]at es;rw[es,<-hor];generalize dK (JJ j u) 8=b at *;rw[<-hgn];clear c1 c2 c3 hor es;generalize xF j u=t at *;refine zV cp ?_;rfl
 ·generalize dK (JJ j j.ph.length) 8=b at *;refine zV c3 ?_;exact zJ
end Av
end Go.Proofs.YteajjdidebfcjaaGreat
