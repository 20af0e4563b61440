/- Part 23. -/
import Derived.Test.YteajjdidebfcjaaGreatN19
namespace Go.Proofs.YteajjdidebfcjaaGreat
namespace Av
open Tryz
set_option linter.all false
set_option maxRecDepth 4000
set_option maxHeartbeats 1000000
structure Li where
 lamp:Int
 tk:Int
structure Ct where
 li:List Li
 gr:Int
 nx:List Int
 wt:Int
instance:Inhabited Li:=⟨⟨0,0⟩⟩
def vG (l:Li):AV:= .agg [iA l.lamp,iA l.tk]
def ctA (c:Ct):AV:= .agg [zD vG c.li,iA c.gr,zD iA c.nx,iA c.wt]
def jQ (rows:List Int) (p q:Int):Bool:=decide (0<=p/\0<=q/\p<rows.length/\q<rows.length)&&(fX (uQ (rows.getD p.toNat default) q) 1==1)
def UZ (p:Ph):Int:=max p.ming (p.walk+p.clear)
def FE (p:Ph) (l:Li) (lv:Bool):Li:=
 if l.lamp=1 then(if lv=true/\UZ p<=l.tk+1 then⟨2,0⟩else⟨1,min (l.tk+1) 1073741824⟩)
 else if l.lamp=2 then(if l.tk+1<p.yel then⟨2,l.tk+1⟩else if p.red=0 then⟨0,0⟩else⟨3,0⟩)
 else if l.lamp=3 then(if l.tk+1<p.red then⟨3,l.tk+1⟩else⟨0,0⟩)
 else l
def TA (p:Ph) (l:Li):Bool:=if l.lamp=0 then decide (l.tk=0)else if l.lamp=1 then decide (0<=l.tk/\l.tk<=1073741824)else if l.lamp=2 then decide (0<=l.tk/\l.tk<p.yel)else if l.lamp=3 then decide (0<=l.tk/\l.tk<p.red)else false
def yP (j:Jn) (p:Nat):Ph:=j.ph.getD p default
def xN (c:Ct) (p:Nat):Li:=c.li.getD p default
def InO (j:Jn) (r g p:Int):Prop:=0<=p/\p<j.ph.length/\(yP j p.toNat).ring=r/\(yP j p.toNat).group=g
def grN (ps:List Ph):Nat->Int
 |0=>0
 |i+1=>max (grN ps i) ((ps.getD i default).group+1)
def YI (j:Jn):Int:=grN j.ph j.ph.length
def zJ7 (ps:List Ph) (n:Nat):∀i,i<n->(ps.getD i default).group+1<=grN ps n:=by
 induction n with
 |zero=>intro i h;exact absurd h (yDp _)
 |succ n ih=>
  intro i h;unfold grN;by_cases e:i=n
  ·subst e;omega
  ·have:=ih i zB;omega
def rpN (j:Jn) (r:Int) (i:Nat):List Nat:=(List.range i).filter λp=>(yP j p).ring==r
def NV (j:Jn) (r:Int):List Nat:=rpN j r j.ph.length
def dN {j:Jn} {r:Int} {p:Nat}:p∈NV j r↔p<j.ph.length/\(yP j p).ring=r:=by
 unfold NV rpN;rw[yEd,yBz,yCl]
def cS (j:Jn) (r g f:Int):Int:=match (NV j r).find? (λp:Nat=>decide (f<=(p:Int))&&(yP j p).group==g)with
 |some p=>p
 |none=> -1
def PM (j:Jn) (r g f:Int):cS j r g f= -1∨InO j r g (cS j r g f)/\f<=cS j r g f:=by
 unfold cS;split
 ·rename_i p h;have h1:=yHf h;have h2:=dN.1 (yGc h);simp only[yBq,yCl,yBi]at h1;exact .inr ⟨⟨zB,zB,h2.2,h1.2⟩,h1.1⟩
 ·exact .inl Z
def etF (j:Jn) (c:Ct) (g:Int):Ct:=⟨c.li,g,[cS j 0 g 0,cS j 1 g 0],c.wt⟩
def YJ (j:Jn) (c:Ct) (p:Int):Bool:=(List.range c.li.length).any λq=>(xN c q).lamp != 0&&jQ j.cf p q
def b1F (c:Ct) (p:Nat):Ct:=⟨c.li.set p ⟨1,0⟩,c.gr,c.nx,c.wt⟩
def ME (j:Jn) (c:Ct) (p:Nat):Ct:=if c.gr=(yP j p).group then b1F c p else etF j (b1F c p) (yP j p).group
def kZ (j:Jn) (c:Ct) (p:Nat):Ct:=
 if YJ j c p=true then c
 else⟨(ME j c p).li,(ME j c p).gr,(ME j c p).nx.set (yP j p).ring.toNat (cS j (yP j p).ring (yP j p).group (p+1)),(ME j c p).wt⟩
def FF (j:Jn) (c:Ct) (r:Int):Bool:=(NV j r).all λp=>(xN c p).lamp==0
def cmF (j:Jn) (x r t:Int):Int:=match (NV j r).find? (λp:Nat=>!jQ j.cf p t&&decide (x≠ -1/\x<=(p:Int)))with
 |some p=>p
 |none=>match (NV j r).find? (λp:Nat=>!jQ j.cf p t)with
  |some p=>p
  |none=> -1
def ZK (j:Jn) (c:Ct) (r:Int) (t:Nat):Int:=if r=(yP j t).ring then t else cmF j (c.nx.getD r.toNat default) r t
def jL (j:Jn) (t:Nat) (c:Ct) (r:Int):Ct:=if FF j c r=true then(if ZK j c r t= -1 then c else kZ j c (ZK j c r t).toNat)else c
def arF (c:Ct):Bool:=c.li.all λl=>l.lamp==0
def cyO (c:Ct):Bool:=arF c&&c.nx.all λp=>p== -1
def dJ (j:Jn) (c:Ct) (r:Int):Ct:=if FF j c r=true/\c.nx.getD r.toNat default≠ -1 then kZ j c (c.nx.getD r.toNat default).toNat else c
def cyF (j:Jn) (c:Ct):Ct:=dJ j (dJ j (if cyO c=true then etF j c ((c.gr+1) % YI j)else c) 0) 1
def TB (j:Jn) (t:Int):Bool:=decide (0<=t/\t<j.ph.length)
def FG (j:Jn) (c:Ct) (t:Int) (p:Nat):Bool:=
 if TB j t=true then decide ((p:Int)≠t)&&(decide ((yP j p).maxg<=(xN c p).tk+1)||jQ j.cf p t)else decide ((yP j p).maxg<=(xN c p).tk+1)
def aR (j:Jn) (c:Ct) (t:Int):List Li:=(List.range j.ph.length).map λp=>FE (yP j p) (xN c p) (FG j c t p)
def bU (j:Jn) (c:Ct) (t:Int):Ct:=
 if 0<c.wt then⟨c.li,c.gr,c.nx,c.wt-1⟩
 else if TB j t=true then jL j t.toNat (jL j t.toNat ⟨aR j c t,c.gr,c.nx,c.wt⟩ 0) 1
 else cyF j ⟨aR j c t,c.gr,c.nx,c.wt⟩
structure JV (j:Jn):Prop where
 n:1<=j.ph.length/\j.ph.length<=8
 c:j.cf.length=j.ph.length
 row:∀i,i<j.ph.length->0<=j.cf.getD i default/\j.cf.getD i default<2 ^ j.ph.length
 ir:∀p:Nat,p<j.ph.length->jQ j.cf p p=false
 sy:∀p q:Nat,p<j.ph.length->q<j.ph.length->jQ j.cf p q=jQ j.cf q p
 ap:∀p q:Nat,p<j.ph.length->q<j.ph.length->p≠q->(yP j p).ring=(yP j q).ring∨(yP j p).group≠(yP j q).group->jQ j.cf p q=true
 rg:∀p:Nat,p<j.ph.length->0<=(yP j p).ring/\(yP j p).ring<=1
 gp:∀p:Nat,p<j.ph.length->0<=(yP j p).group/\(yP j p).group<=3
 ti:∀p:Nat,p<j.ph.length->1<=(yP j p).ming/\(yP j p).ming<=(yP j p).maxg/\(yP j p).maxg<=60/\1<=(yP j p).yel/\(yP j p).yel<=60/\0<=(yP j p).red/\(yP j p).red<=60/\0<=(yP j p).walk/\(yP j p).walk<=60/\0<=(yP j p).clear/\(yP j p).clear<=60/\(yP j p).walk+(yP j p).clear<=(yP j p).maxg/\((yP j p).walk=0↔(yP j p).clear=0)
 lo:∀p:Nat,p<j.ph.length->∀g:Int,0<=g->g<(yP j p).group->∃q:Nat,q<j.ph.length/\(yP j q).group=g
 st:0<=j.st/\j.st<=60
structure CV (j:Jn) (c:Ct):Prop where
 n:c.li.length=j.ph.length
 k:∀p,p<j.ph.length->TA (yP j p) (xN c p)=true
 x:∀p q:Nat,p<j.ph.length->q<j.ph.length->p≠q->(xN c p).lamp≠0->(xN c q).lamp≠0->jQ j.cf p q=false
 g:0<=c.gr/\c.gr<YI j
 m:c.nx.length=2
 v:∀r:Nat,r<2->c.nx.getD r default= -1∨InO j r c.gr (c.nx.getD r default)
 w:0<=c.wt/\c.wt<=j.st
 z:c.wt=0∨∀p,p<j.ph.length->(xN c p).lamp=0
def QA {j:Jn} (J:JV j):1<=YI j:=by
 have h1:=zJ7 j.ph j.ph.length 0 KD;have h2:=J.gp 0 KD;unfold yP at h2;unfold YI;omega
def zTa (j:Jn) (c:Ct) (g:Int):∀r:Nat,r<2->(etF j c g).nx.getD r default= -1∨InO j r g ((etF j c g).nx.getD r default):=by
 intro r hr;have:r=0∨r=1:=by omega
 rcases this with rfl|rfl
 ·rcases PM j 0 g 0 with h|h
  ·exact .inl h
  ·exact .inr h.1
 ·rcases PM j 1 g 0 with h|h
  ·exact .inl h
  ·exact .inr h.1
def zDi {j:Jn} {c:Ct} (C:CV j c) {g:Int} (hg:0<=g/\g<YI j):CV j (etF j c g):=
 ⟨C.n,C.k,C.x,hg,rfl,zTa j c g,C.w,C.z⟩
def IE (c:Ct) (p q:Nat) (l:Li) (gr:Int) (nx:List Int) (wt:Int) (hp:p<c.li.length):xN ⟨c.li.set p l,gr,nx,wt⟩ q=if q=p then l else xN c q:=by
 unfold xN;simp only[yBl,yDe];split
 ·rename_i h;subst h;simp[hp]
 ·rename_i h;rw[yBc (λe=>h e.symm)]
def zYt {j:Jn} (J:JV j) {c:Ct} (C:CV j c) (h0:c.wt=0) {p:Nat} (hp:p<j.ph.length) (hk:YJ j c p=false):CV j (b1F c p):=by
 have hl:=C.n
 have hs:∀q,xN (b1F c p) q=if q=p then⟨1,0⟩else xN c q:=λq=>IE c p q _ _ _ _ zB
 unfold YJ at hk;rw[yD4]at hk
 have hc:∀q:Nat,q<j.ph.length->(xN c q).lamp≠0->jQ j.cf p q=false:=λq hq hn=>by
  have:=hk q (yBz.2 zB);simp only[yBq,not_and,yDz]at this;exact this OM
 refine⟨by unfold b1F;simpa using hl,λq hq=>?_,λq r hq hr hqr h1 h2=>?_,C.g,C.m,C.v,C.w,.inl h0⟩
 ·rw[hs];split
  ·rfl
  ·exact C.k q hq
 ·rw[hs]at h1 h2;by_cases e1:q=p
  ·subst e1;rw[yBc (λe=>hqr e.symm)]at h2;exact hc r hr h2
  ·rw[yBc e1]at h1;by_cases e2:r=p
   ·subst e2;rw[J.sy q r hq hr];exact hc q hq h1
   ·rw[yBc e2]at h2;exact C.x q r hq hr hqr h1 h2
def zYu {j:Jn} (J:JV j) {c:Ct} (C:CV j c) (h0:c.wt=0) {p:Nat} (hp:p<j.ph.length) (hk:YJ j c p=false):CV j (ME j c p)/\(ME j c p).gr=(yP j p).group/\(ME j c p).wt=0:=by
 have h1:=zYt J C h0 hp hk;unfold ME;split
 ·rename_i h;exact⟨h1,h,h0⟩
 ·have hg:=J.gp p hp;have:=zJ7 j.ph j.ph.length p hp;exact⟨zDi h1 ⟨hg.1,by unfold YI;unfold yP;omega⟩,rfl,h0⟩
def zTb {j:Jn} (J:JV j) {c:Ct} (C:CV j c) (h0:c.wt=0) {p:Nat} (hp:p<j.ph.length):CV j (kZ j c p)/\(kZ j c p).wt=0:=by
 unfold kZ;split
 ·exact⟨C,h0⟩
 ·rename_i hk;obtain⟨B,hg,hw⟩:=zYu J C h0 hp (by simpa using hk);have hr:=J.rg p hp;refine⟨⟨B.n,B.k,B.x,B.g,by rw[yC3];exact B.m,λr hr2=>?_,B.w,B.z⟩,hw⟩;have hs:=PM j (yP j p).ring (yP j p).group (p+1);generalize cS j (yP j p).ring (yP j p).group (p+1)=f at *;dsimp only
  have e:((ME j c p).nx.set (yP j p).ring.toNat f).getD r default=if r=(yP j p).ring.toNat then f else(ME j c p).nx.getD r default:=by
   simp only[yBl,yDe];split
   ·rename_i h;subst h;rw[yBd Z,B.m,yBd hr2];rfl
   ·rename_i h;rw[yBc (λe=>h e.symm)]
  rw[e];split
  ·rename_i h
   rcases hs with hs|hs
   ·exact .inl hs
   ·refine .inr ?_;rw[hg,show(r:Int)=(yP j p).ring by omega];exact hs.1
  ·exact B.v r hr2
def PN (j:Jn) (x r t:Int):cmF j x r t= -1∨∃p:Nat,cmF j x r t=p/\p<j.ph.length/\(yP j p).ring=r/\jQ j.cf p t=false:=by
 unfold cmF;split
 ·rename_i p h;have h1:=yHf h;have h2:=dN.1 (yGc h);simp only[yBq,yDj]at h1;exact .inr ⟨p,rfl,h2.1,h2.2,h1.1⟩
 ·split
  ·rename_i p h;have h1:=yHf h;have h2:=dN.1 (yGc h);rw[yDj]at h1;exact .inr ⟨p,rfl,h2.1,h2.2,h1⟩
  ·exact .inl Z
def DG {j:Jn} {c:Ct} {r:Int} {t:Nat} (ht:t<j.ph.length):ZK j c r t= -1∨∃p:Nat,ZK j c r t=p/\p<j.ph.length/\(yP j p).ring=r:=by
 unfold ZK;split
 ·rename_i h;exact .inr ⟨t,rfl,ht,h.symm⟩
 ·rcases PN j (c.nx.getD r.toNat default) r t with h|⟨p,h1,h2,h3,_⟩
  ·exact .inl h
  ·exact .inr ⟨p,h1,h2,h3⟩
def LO {j:Jn} (J:JV j) {c:Ct} (C:CV j c) (h0:c.wt=0) {t:Nat} (ht:t<j.ph.length) (r:Int):CV j (jL j t c r)/\(jL j t c r).wt=0:=by
 unfold jL;split
 ·split
  ·exact⟨C,h0⟩
  ·rename_i h
   rcases DG (j:=j) (c:=c) (r:=r) ht with h1|⟨p,h1,h2,_⟩
   ·exact absurd h1 h
   ·rw[h1,yB5];exact zTb J C h0 h2
 ·exact⟨C,h0⟩
def PO {j:Jn} (J:JV j) {c:Ct} (C:CV j c) (h0:c.wt=0) {r:Nat} (hr:r<2):CV j (dJ j c r)/\(dJ j c r).wt=0:=by
 unfold dJ;split
 ·rename_i h;rw[yB5]at h⊢
  rcases C.v r hr with h1|h1
  ·exact absurd h1 h.2
  ·exact zTb J C h0 (by have:=h1.2.1;have:=h1.1;omega)
 ·exact⟨C,h0⟩
def zYv {j:Jn} (J:JV j) {c:Ct} (C:CV j c) (h0:c.wt=0):CV j (cyF j c):=by
 have h1:CV j (if cyO c=true then etF j c ((c.gr+1) % YI j)else c)/\(if cyO c=true then etF j c ((c.gr+1) % YI j)else c).wt=0:=by
  split
  ·have:=QA J;exact⟨zDi C ⟨yEq _ zB,yEf _ zB⟩,h0⟩
  ·exact⟨C,h0⟩
 have h2:=PO J h1.1 h1.2 (r:=0) zB;exact(PO J h2.1 h2.2 (r:=1) zB).1
def yAo {p:Ph} {l:Li} {lv:Bool} (hy:1<=p.yel) (hr:0<=p.red) (h:TA p l=true):TA p (FE p l lv)=true/\((FE p l lv).lamp≠0->l.lamp≠0):=by
 unfold TA at h;unfold FE;by_cases h1:l.lamp=1
 ·rw[yBd h1];rw[yBc zB,yBd h1,yBi]at h;split
  ·refine⟨by unfold TA;simp;omega,λ_=>by omega⟩
  ·refine⟨by unfold TA;simp;omega,λ_=>by omega⟩
 by_cases h2:l.lamp=2
 ·rw[yBc h1,yBd h2];rw[yBc zB,yBc h1,yBd h2,yBi]at h;split
  ·refine⟨by unfold TA;simp;omega,λ_=>by omega⟩
  ·split
   ·refine⟨by unfold TA;simp,λh=>absurd Z h⟩
   ·refine⟨by unfold TA;simp;omega,λ_=>by omega⟩
 by_cases h3:l.lamp=3
 ·rw[yBc h1,yBc h2,yBd h3];rw[yBc zB,yBc h1,yBc h2,yBd h3,yBi]at h;split
  ·refine⟨by unfold TA;simp;omega,λ_=>by omega⟩
  ·refine⟨by unfold TA;simp,λh=>absurd Z h⟩
 ·rw[yBc h1,yBc h2,yBc h3];exact⟨by unfold TA;exact h,λh=>h⟩
def DH {j:Jn} {c:Ct} (t gr:Int) (nx:List Int) (wt:Int) (p:Nat) (hp:p<j.ph.length):xN ⟨aR j c t,gr,nx,wt⟩ p=FE (yP j p) (xN c p) (FG j c t p):=by
 show(aR j c t).getD p default=_
 unfold aR;simp only[yBl,yBh,yCe hp];rfl
def zDj {j:Jn} (J:JV j) {c:Ct} (C:CV j c) (h0:c.wt=0) (t:Int):CV j ⟨aR j c t,c.gr,c.nx,c.wt⟩:=by
 have hs:=λp hp=>yAo (lv:=FG j c t p) (by have:=J.ti p hp;omega) (by have:=J.ti p hp;omega) (C.k p hp)
 refine⟨by simp[aR],λp hp=>?_,λp q hp hq hpq h1 h2=>?_,C.g,C.m,C.v,C.w,.inl h0⟩
 ·rw[DH _ _ _ _ _ hp];exact(hs p hp).1
 ·rw[DH _ _ _ _ _ hp]at h1;rw[DH _ _ _ _ _ hq]at h2;exact C.x p q hp hq hpq ((hs p hp).2 h1) ((hs q hq).2 h2)
def zDk {j:Jn} (J:JV j) {c:Ct} (C:CV j c) (t:Int):CV j (bU j c t):=by
 unfold bU;split
 ·rename_i h;have hz:=C.z;have hw:=C.w;refine⟨C.n,C.k,C.x,C.g,C.m,C.v,by dsimp only;omega,?_⟩
  rcases hz with hz|hz
  ·omega
  ·exact .inr hz
 ·have h0:c.wt=0:=by have:=C.w;omega
  have L:=zDj J C h0 t;split
  ·rename_i h;unfold TB at h;rw[yBi]at h;have h1:=LO J L h0 (t:=t.toNat) zB 0;exact(LO J h1.1 h1.2 (t:=t.toNat) zB 1).1
  ·exact zYv J L h0
def jU (rows:List Int) (hn:rows.length<=40) (p q:Int):zO 210 [zD iA rows,iA p,iA q] [] (bA (jQ rows p q)) []:=by
 have hl:=zA iA rows;unfold jQ;by_cases h1:0<=p
 case neg=>
  rw[yBm (λh=>h1 h.1)];refine eM call210 λF hF=>?_
  refine WW ?_;exact zJ
 by_cases h2:0<=q
 case neg=>
  rw[yBm (λh=>h2 h.2.1)];refine eM call210 λF hF=>?_
  refine WW ?_;exact zJ
 by_cases h3:p<rows.length
 case neg=>
  rw[yBm (λh=>h3 h.2.2.1)];refine eM call210 λF hF=>?_
  refine WW ?_;exact zJ
 by_cases h4:q<rows.length
 case neg=>
  rw[yBm (λh=>h4 h.2.2.2)];refine eM call210 λF hF=>?_
  refine WW ?_;exact zJ
 rw[yBk ⟨h1,h2,h3,h4⟩,yB2];have hy:=yL iA rows p h1 h3;generalize rows.getD p.toNat default=x at *;by_cases h5:fX (uQ x q) 1=1
 ·rw[show(fX (uQ x q) 1==1)=true by rw[yCl];exact h5];refine eM call210 λF hF=>?_
  refine WW ?_;exact zJ
 ·rw[show(fX (uQ x q) 1==1)=false by rw[yCm];exact h5];refine eM call210 λF hF=>?_
  refine WW ?_;exact zJ
def PhB (p:Ph):Prop:=0<=p.walk/\p.walk<=60/\0<=p.clear/\p.clear<=60
def IF (p:Ph) (h:PhB p):zO 109 [wT p] [] (iA (UZ p)) []:=by
 obtain⟨h1,h2,h3,h4⟩:=h;refine eM call109 λF hF=>?_
 refine WW ?_;exact zJ
def zPu (p:Ph) (h:PhB p) (l:Li) (ht: -1000000000000<=l.tk/\l.tk<=1000000000000) (lv:Bool):zO 256 [wT p,vG l,bA lv] [] (vG (FE p l lv)) []:=by
 have c:=IF p h;unfold FE;by_cases h1:l.lamp=1
 ·rw[yBd h1];generalize UZ p=n at*
  cases lv with
  |false=>
   rw[yBc (λh=>by cases h.1)];refine eM call256 λF hF=>?_
   refine WW ?_;exact zJ
  |true=>
  by_cases h2:n<=l.tk+1
  ·rw[yBd ⟨rfl,h2⟩];refine eM call256 λF hF=>?_
   refine zW c ?_;exact zJ
  ·rw[yBc (λh=>h2 h.2)];refine eM call256 λF hF=>?_
   refine zW c ?_;exact zJ
 rw[yBc h1];by_cases h2:l.lamp=2
 ·rw[yBd h2];by_cases h3:l.tk+1<p.yel
  ·rw[yBd h3];refine eM call256 λF hF=>?_
   refine WW ?_;exact zJ
  rw[yBc h3];by_cases h4:p.red=0
  ·rw[yBd h4];refine eM call256 λF hF=>?_
   refine WW ?_;exact zJ
  ·rw[yBc h4];refine eM call256 λF hF=>?_
   refine WW ?_;exact zJ
 rw[yBc h2];by_cases h3:l.lamp=3
 ·rw[yBd h3];by_cases h4:l.tk+1<p.red
  ·rw[yBd h4];refine eM call256 λF hF=>?_
   refine WW ?_;exact zJ
  ·rw[yBc h4];refine eM call256 λF hF=>?_
   refine WW ?_;exact zJ
 ·rw[yBc h3];refine eM call256 λF hF=>?_
  refine WW ?_;exact zJ
def zJ8 (p:Ph) (l:Li):zO 281 [wT p,vG l] [] (bA (TA p l)) []:=by
 unfold TA;by_cases h0:l.lamp=0
 ·rw[yBd h0];by_cases h:l.tk=0
  ·rw[yBk h];refine eM call281 λF hF=>?_
   refine WW ?_;exact zJ
  ·rw[yBm h];refine eM call281 λF hF=>?_
   refine WW ?_;exact zJ
 rw[yBc h0];by_cases h1:l.lamp=1
 ·rw[yBd h1];by_cases h:0<=l.tk
  ·by_cases h':l.tk<=1073741824
   ·rw[yBk ⟨h,h'⟩];refine eM call281 λF hF=>?_
    refine WW ?_;exact zJ
   ·rw[yBm (λk=>h' k.2)];refine eM call281 λF hF=>?_
    refine WW ?_;exact zJ
  ·rw[yBm (λk=>h k.1)];refine eM call281 λF hF=>?_
   refine WW ?_;exact zJ
 rw[yBc h1];by_cases h2:l.lamp=2
 ·rw[yBd h2];by_cases h:0<=l.tk
  ·by_cases h':l.tk<p.yel
   ·rw[yBk ⟨h,h'⟩];refine eM call281 λF hF=>?_
    refine WW ?_;exact zJ
   ·rw[yBm (λk=>h' k.2)];refine eM call281 λF hF=>?_
    refine WW ?_;exact zJ
  ·rw[yBm (λk=>h k.1)];refine eM call281 λF hF=>?_
   refine WW ?_;exact zJ
 rw[yBc h2];by_cases h3:l.lamp=3
 ·rw[yBd h3];by_cases h:0<=l.tk
  ·by_cases h':l.tk<p.red
   ·rw[yBk ⟨h,h'⟩];refine eM call281 λF hF=>?_
    refine WW ?_;exact zJ
   ·rw[yBm (λk=>h' k.2)];refine eM call281 λF hF=>?_
    refine WW ?_;exact zJ
  ·rw[yBm (λk=>h k.1)];refine eM call281 λF hF=>?_
   refine WW ?_;exact zJ
 ·rw[yBc h3];refine eM call281 λF hF=>?_
  refine WW ?_;exact zJ
def DI (j:Jn) (r:Int) (i:Nat):rpN j r (i+1)=if(yP j i).ring=r then rpN j r i++[i]else rpN j r i:=by
 unfold rpN;rw[yDs,yEm];by_cases h:(yP j i).ring=r
 ·rw[yBd h];simp[h]
 ·rw[yBc h];simp[h]
theorem zDl (j:Jn) (r:Int):∀n i,i<=n->∃l,rpN j r n=rpN j r i++l
 |0,i,h=>⟨[],by rw[Nat.le_zero.1 h];simp⟩
 | n+1,i,h=>by
  by_cases e:i=n+1
  ·exact⟨[],by rw[e];simp⟩
  ·obtain⟨l,hl⟩:=zDl j r n i zB;rw[DI];split
   ·exact⟨l++[n],by rw[hl,yCa]⟩
   ·exact⟨l,hl⟩
def zFi (j:Jn) (r:Int):List (Nat×xM):=[(1003,.box [zD wT j.ph,zD iA j.cf,iA j.st]),(1004,.box [iA r])]
def zJ9 (j:Jn) (r:Int):zO 227 [wE j,iA r] [] (.fn 250 [.ptr 1003 0 0,.ptr 1004 0 0]) (zFi j r):=by
 refine eM call227 λF hF=>?_
 repeat' (first|(refine zE ?_;first|refine qA (jE (v:=AV.agg _) 1003 Z Z) Z Z Z ?_|refine qA (jE (v:=AV.s _) 1004 Z Z) Z Z Z ?_|refine vV tok Z Z ?_|refine qR ?_)|(first|refine xT ?_|refine xI ?_|refine vJ Z ?_|refine zZ Z ?_|refine zV Z ?_|refine xQ Z (λhc=>?_) λhc=>?_|refine xD ?_|refine yZ ?_|refine xJ ?_|refine yX ?_))
 exact zK [1003,1004] Z Z Z Z
def zAu (j:Jn) (hn:j.ph.length<=1000) (r:Int):ZW prog 250 [.ptr 1003 0 0,.ptr 1004 0 0] (zFi j r) ((NV j r).map λp:Nat=>[iA (p:Int)]):=by
 have hl:=zA wT j.ph;refine bI func250 Z (λargs w=>call250 args w) Z Z Z (λF y hro hit hY=>?_);unfold zFi;refine WW ?_;refine zN (j.ph.length) [1003,1004] [1003,1004] [0,2,7,8] [9,1000000,0,2,7,8] Z (λi T U=>⟨(9,iA i)::(1000000,.gh (rpN j r i).length)::T,U⟩) ?_;(conv=>whnf);refine⟨by rfl,?_,?_⟩
 ·intro i hi;have hy:=zM wT j.ph i hi;have es:=DI j r i
  change (j.ph.map wT)[i]? =some (wT (yP j i))at hy
  by_cases hr:(yP j i).ring=r
  ·rw[yBd hr]at es;obtain⟨l2,hpre⟩:=zDl j r j.ph.length (i+1) zB;rw[es]at hpre⊢
   have hys:((NV j r).map λp:Nat=>[iA (p:Int)])[(rpN j r i).length]? =some [iA (i:Int)]:=by
    unfold NV;rw[hpre,yBh,yCi zQ,yB9 (yBg _),yDh];rfl
   have hlen:=(yB0.1 hys).1;rw[yBf];generalize ((NV j r).map λp:Nat=>[iA (p:Int)])=xs at *;generalize (rpN j r i).length=k at *;generalize yP j i=t at*
   (repeat' (first|refine uC ?_|((first|apply xE|apply xV)<;>intro hc)|(refine zE ?_;refine wA ?_;first|(refine BV ?_;refine QM hit hY Z Z hys Z Z Z ?_ ?_))|(refine zE ?_;first|refine SM ?_)|fail))
   ·rfl
   ·exact cO Z (.inr zB)
  ·rw[yBc hr]at es;rw[es];generalize (rpN j r i).length=k at *;generalize yP j i=t at *;refine WW ?_;rfl
 ·have e:(rpN j r j.ph.length).length=((NV j r).map λp:Nat=>[iA (p:Int)]).length:=by rw[yBe];rfl
  refine WW ?_;exact ZD Z (.inl e)
def inS (s p:Int):Bool:=fX (uQ s p) 1==1
def zVn:∀(s:_root_.Fin 256) (p:_root_.Fin 8),qQ BinOp.eql (IntKind.u64.wrap ((BitVec.ofInt IntKind.u64.bits (Int.fdiv (s.val:Int) (2 ^ min (p.val:Int).toNat IntKind.u64.bits)) &&& BitVec.ofInt IntKind.u64.bits 1).toNat:Int)) 1=inS s.val p.val:=by decide +kernel
def DJ (s p:Int) (hs:0<=s/\s<256) (hp:0<=p/\p<8):zO 304 [iA s,iA p] [] (bA (inS s p)) []:=by
 have hf:=zVn ⟨s.toNat,zB⟩ ⟨p.toNat,zB⟩;rw[show((s.toNat:Nat):Int)=s by omega,show((p.toNat:Nat):Int)=p by omega]at hf;generalize inS s p=q at *;subst hf;refine eM call304 λF hF=>?_
 (repeat' (first|refine uC ?_|((first|apply xE|apply xV)<;>intro hc)|(refine zE ?_;first|(refine wO ?_;refine wK (QL Z Z) Z ?_))|fail))
 exact zJ
def zKa (p:Nat->Bool) (i:Nat) (hi:i<8):inS (eQ p 8) i=p i:=zQj p i hi
def FH (c:Ct) (p:Nat):Bool:=(xN c p).lamp != 0
def seF (c:Ct):Int:=eQ (FH c) c.li.length
theorem IG (p:Nat->Bool):∀n m:Nat,n<=m->(∀i,n<=i->i<m->p i=false)->eQ p m=eQ p n
 |n,0,h,_=>by rw[Nat.le_zero.1 h]
 |n,m+1,h,hp=>by
  by_cases e:n=m+1
  ·rw[e]
  ·rw[eQ,hp m zB zB];exact IG p n m zB λi h1 h2=>hp i h1 zB
def zVo (p:Nat->Bool) (n:Nat) (hn:n<=25):orI (eQ p n) (p2 n)=eQ p n+p2 n:=by
 have h1:=PV p n;have h2:(2:Nat) ^ n<=2 ^ 25:=yFm zB hn;rw[DX,show p2 (n:Int)=((2 ^ n:Nat):Int) by unfold p2;simp,IS _ _ zB zB];have h3:=Nat.two_pow_add_eq_or_of_lt h1 1;rw[Nat.mul_one]at h3;rw[Nat.or_comm,<-h3];omega
def zYw (c:Ct) (hn:c.li.length<=25):zO 283 [ctA c] [] (iA (seF c)) []:=by
 have hl:=zA vG c.li;unfold seF;refine eM call283 λF hF=>?_
 refine WW ?_;refine zN (c.li.length) [] [] [7,8] [3,9,7,8] Z (λi T U=>⟨(3,iA (eQ (FH c) i))::(9,iA i)::T,U⟩) ?_;(conv=>whnf);refine⟨by rfl,?_,?_⟩
 ·intro i hi;have hy:=zM vG c.li i hi
  change (c.li.map vG)[i]? =some (vG (xN c i))at hy
  have ho:=zVo (FH c) i zB
  have e:eQ (FH c) (i+1)=if FH c i=true then eQ (FH c) i+p2 i else eQ (FH c) i:=rfl
  rw[<-ho]at e;have hsb:FH c i=((xN c i).lamp != 0):=rfl;rw[e,hsb];generalize eQ (FH c) i=b at *;generalize xN c i=t at *;by_cases h:t.lamp=0
  ·rw[yBc (by simp[h])];refine WW ?_;rfl
  ·rw[yBd (by simp[h])];refine WW ?_;rfl
 ·(refine WW ?_)
  exact zJ
def LP {P:Nat->Prop}:∀n,P n->∃m,m<=n/\P m/\∀k,k<m->¬P k:=by
 intro n
 induction n using Nat.strongRecOn with
 |_ n ih=>
  intro h;by_cases hx:∃k,k<n/\P k
  ·obtain⟨k,h1,h2⟩:=hx;obtain⟨m,h3,h4,h5⟩:=ih k h1 h2;exact⟨m,zB,h4,h5⟩
  ·exact⟨n,yBg _,h,λk h1 h2=>hx ⟨k,h1,h2⟩⟩
def FI (rows:List Int) (s:Int) (p q:Nat):Bool:=inS s p&&(decide (q≠p)&&(inS s q&&jQ rows p q))
theorem zKb (rows:List Int) (hn:rows.length<=8) (s:Int) (hs:0<=s/\s<256):∃p q:Int,zO 282 [zD iA rows,iA s] [] (.tup [iA p,iA q]) []/\((p= -1/\∀a b:Nat,a<rows.length->b<rows.length->FI rows s a b=false)∨(0<=p/\∃a b:Nat,a<rows.length/\b<rows.length/\FI rows s a b=true)):=by
 have hl:=zA iA rows;by_cases hx:∃a,a<rows.length/\∃b,b<rows.length/\FI rows s a b=true
 ·obtain⟨a,ha,hx⟩:=hx;obtain⟨p,_,⟨hp,hx⟩,hpm⟩:=LP (P:=λa=>a<rows.length/\∃b,b<rows.length/\FI rows s a b=true) a ⟨ha,hx⟩;obtain⟨b,hb⟩:=hx;obtain⟨q,_,⟨hq,hc⟩,hqm⟩:=LP (P:=λb=>b<rows.length/\FI rows s p b=true) b hb;refine⟨p,q,?_,.inr ⟨zB,p,q,hp,hq,hc⟩⟩
  have hsp:inS s p=true:=by
   unfold FI at hc;rw[yBq]at hc;exact hc.1
  refine eM call282 λF hF=>?_
  refine WW ?_;refine xR (rows.length) [] [] [0,1,9] [10,0,1,9] Z (λi T U zs=>(i<=p)/\zs=⟨(10,iA i)::T,U⟩) ?_;(conv=>whnf);refine⟨?_,?_,?_⟩
  ·exact⟨yBt _,rfl⟩
  ·rintro u st hu ⟨hup,rfl⟩;have ci:=DJ s u hs zB;by_cases hup2:u=p
   ·subst hup2;rw[hsp]at ci;refine zW ci ?_;refine xR (rows.length) [] [] [0,1,6,9,10,18] [19,0,1,6,9,10,18] Z (λi T U zs=>(i<=q)/\zs=⟨(19,iA i)::T,U⟩) ?_;(conv=>whnf);refine⟨?_,?_,?_⟩
    ·exact⟨yBt _,rfl⟩
    ·rintro v st hv ⟨hvq,rfl⟩;have cj:=DJ s v hs zB;have ck:=jU rows zB u v;by_cases hvq2:v=q
     ·subst hvq2;unfold FI at hc;simp only[yBq,yBi]at hc;rw[hc.2.2.1]at cj;rw[hc.2.2.2]at ck;have hne:(v:Int)≠u:=by omega
      refine yS (vH cj ck) ?_;exact zJ
     ·have hno:FI rows s u v=false:=by
       cases hcc:FI rows s u v with
       |false=>rfl
       |true=>exact absurd ⟨hv,hcc⟩ (hqm v zB)
      unfold FI at hno;rw[hsp,yB2]at hno;by_cases h1:v=u
      ·have hne:(v:Int)=u:=by omega
       refine WW ?_;exact⟨zB,rfl⟩
      have hne:(v:Int)≠u:=by omega
      rw[yBk h1,yB2]at hno
      cases h2:inS s v with
      |false=>
       rw[h2]at cj;refine zW cj ?_;exact⟨zB,rfl⟩
      |true=>
       rw[h2,yB2]at hno;rw[h2]at cj;rw[hno]at ck;refine yS (vH cj ck) ?_;exact⟨zB,rfl⟩
    ·rintro st ⟨hvq,rfl⟩;exfalso;omega
   ·have hno:∀b,b<rows.length->FI rows s u b=false:=λb hb=>by
     cases hcc:FI rows s u b with
     |false=>rfl
     |true=>exact absurd ⟨hu,b,hb,hcc⟩ (hpm u zB)
    cases h3:inS s u with
    |false=>
     rw[h3]at ci;refine zW ci ?_;exact⟨zB,rfl⟩
    |true=>
    rw[h3]at ci;refine zW ci ?_;refine zN (rows.length) [] [] [0,1,6,9,10,18] [19,0,1,6,9,10,18] Z (λi T U=>⟨(19,iA i)::T,U⟩) ?_;(conv=>whnf);refine⟨by rfl,?_,?_⟩
    ·intro v hv;have cj:=DJ s v hs zB;have ck:=jU rows zB u v;have hno:=hno v hv;unfold FI at hno;rw[h3,yB2]at hno;by_cases h1:v=u
     ·have hne:(v:Int)=u:=by omega
      refine WW ?_;rfl
     have hne:(v:Int)≠u:=by omega
     rw[yBk h1,yB2]at hno
     cases h2:inS s v with
     |false=>
      rw[h2]at cj;refine zW cj ?_;rfl
     |true=>
      rw[h2,yB2]at hno;rw[h2]at cj;rw[hno]at ck;refine yS (vH cj ck) ?_;rfl
    ·(refine WW ?_)
     exact⟨zB,rfl⟩
  ·rintro st ⟨hup,rfl⟩;exfalso;omega
 ·have hno:∀a b,a<rows.length->b<rows.length->FI rows s a b=false:=λa b ha hb=>by
   cases hcc:FI rows s a b with
   |false=>rfl
   |true=>exact absurd ⟨a,ha,b,hb,hcc⟩ hx
  refine⟨-1,-1,?_,.inl ⟨rfl,hno⟩⟩;clear hx;refine eM call282 λF hF=>?_
  refine WW ?_;refine zN (rows.length) [] [] [0,1,9] [10,0,1,9] Z (λi T U=>⟨(10,iA i)::T,U⟩) ?_;(conv=>whnf);refine⟨by rfl,?_,?_⟩
  ·intro u hu;have ci:=DJ s u hs zB
   cases h3:inS s u with
   |false=>
    rw[h3]at ci;refine zW ci ?_;rfl
   |true=>
   rw[h3]at ci;refine zW ci ?_;refine zN (rows.length) [] [] [0,1,6,9,10,18] [19,0,1,6,9,10,18] Z (λi T U=>⟨(19,iA i)::T,U⟩) ?_;(conv=>whnf);refine⟨by rfl,?_,?_⟩
   ·intro v hv;have cj:=DJ s v hs zB;have ck:=jU rows zB u v;have hno:=hno u v hu hv;unfold FI at hno;rw[h3,yB2]at hno;by_cases h1:v=u
    ·have hne:(v:Int)=u:=by omega
     refine WW ?_;rfl
    have hne:(v:Int)≠u:=by omega
    rw[yBk h1,yB2]at hno
    cases h2:inS s v with
    |false=>
     rw[h2]at cj;refine zW cj ?_;rfl
    |true=>
     rw[h2,yB2]at hno;rw[h2]at cj;rw[hno]at ck;refine yS (vH cj ck) ?_;rfl
   ·(refine WW ?_)
    rfl
  ·(refine WW ?_)
   exact zJ
def DK (j:Jn) (hn:j.ph.length<=1000) (hg:∀p:Nat,p<j.ph.length->0<=(yP j p).group/\(yP j p).group<=3):zO 284 [wE j] [] (iA (YI j)) []:=by
 have hl:=zA wT j.ph;unfold YI;refine eM call284 λF hF=>?_
 refine WW ?_;refine zN (j.ph.length) [] [] [7,8] [3,9,7,8] Z (λi T U=>⟨(3,iA (grN j.ph i))::(9,iA i)::T,U⟩) ?_;(conv=>whnf);refine⟨by rfl,?_,?_⟩
 ·intro i hi;have hy:=zM wT j.ph i hi;have hb:=hg i hi;unfold yP at hb;have e:grN j.ph (i+1)=max (grN j.ph i) ((j.ph.getD i default).group+1):=rfl;rw[e];generalize grN j.ph i=g at *;generalize j.ph.getD i default=t at *;refine WW ?_;rfl
 ·(refine WW ?_)
  exact zJ
def IH (j:Jn) (r g:Int) (i:Nat):List Nat:=(List.range i).filter λp=>(yP j p).ring==r&&(yP j p).group==g
def zKc (j:Jn) (r g:Int) (i:Nat):IH j r g (i+1)=if(yP j i).ring=r/\(yP j i).group=g then IH j r g i++[i]else IH j r g i:=by
 unfold IH;rw[yDs,yEm];by_cases h:(yP j i).ring=r/\(yP j i).group=g
 ·rw[yBd h];simp[h.1,h.2]
 ·rw[yBc h]
  have:((yP j i).ring==r&&(yP j i).group==g)=false:=by
   rw[Bool.and_eq_false_iff]
   rcases Classical.not_and_iff_not_or_not.1 h with h|h
   ·exact .inl HO
   ·exact .inr HO
  simp[this]
def zPv {α:Type} (f:α->AV) (l:List α):AV.sl false ((l.map f).take (l.map f).length)=zD f l:=by rw[yBj];rfl
def nA (p:Nat):AV:=iA (p:Int)
def yAp (j:Jn) (hn:j.ph.length<=1000) (r g:Int):zO 286 [wE j,iA r,iA g] [] (zD nA (IH j r g j.ph.length)) []:=by
 have hl:=zA wT j.ph;refine eM call286 λF hF=>?_
 refine WW ?_;refine xC 7 1001 1 Z Z Z ?_;refine zN (j.ph.length) [1001] [] [1,2,11,12] [7,13,1,2,11,12] Z (λi T U=>⟨(7,.ref 1001 0 ((IH j r g i).map nA).length)::(13,iA i)::T,(1001,.arr 1 ((IH j r g i).map nA) true)::U⟩) ?_;(conv=>whnf);refine⟨by rfl,?_,?_⟩
 ·intro i hi;have hy:=zM wT j.ph i hi
  change (j.ph.map wT)[i]? =some (wT (yP j i))at hy
  have es:=zKc j r g i
  have hlen:(IH j r g i).length<=1000:=by
   have:(IH j r g i).length<=(List.range i).length:=yDr _ _;rw[yCy]at this;omega
  have hlm:((IH j r g i).map nA).length<=1000:=by rw[yBe];exact hlen
  rw[es];generalize IH j r g i=o at *;generalize yP j i=t at *;by_cases h1:t.ring=r
  ·by_cases h2:t.group=g
   ·rw[yBd ⟨h1,h2⟩,yBn];generalize o.map nA=xs at *;refine WW ?_;rfl
   ·rw[yBc (λh=>h2 h.2)];refine WW ?_;rfl
  ·rw[yBc (λh=>h1 h.1)];refine WW ?_;rfl
 ·(refine WW ?_)
  exact zH [] Z Z (zPv _ _) Z
def II (l:List Nat) (x:Int):Bool:=l.any λp:Nat=>(p:Int)==x
def zKd (l:List Nat) (hn:l.length<=1000) (x:Int):∃k:Int,zO 305 [zD nA l,iA x] [] (iA k) []/\ -1<=k/\k<1000/\(II l x=decide (0<=k)):=by
 have hl:=zA nA l;by_cases hx:∃i,i<l.length/\((l.getD i default:Nat):Int)=x
 ·obtain⟨i0,h1,h2⟩:=hx;obtain⟨k,_,⟨hk,hkx⟩,hkm⟩:=LP (P:=λi=>i<l.length/\((l.getD i default:Nat):Int)=x) i0 ⟨h1,h2⟩;refine⟨k,?_,zB,zB,?_⟩
  ·(refine eM call305 λF hF=>?_)
   refine WW ?_;refine xR (l.length) [] [] [0,1,7] [8,0,1,7] Z (λi T U zs=>(i<=k)/\zs=⟨(8,iA i)::T,U⟩) ?_;(conv=>whnf);refine⟨?_,?_,?_⟩
   ·exact⟨yBt _,rfl⟩
   ·rintro u st hu ⟨huk,rfl⟩;have hy:=zM nA l u hu;by_cases e:u=k
    ·subst e;generalize l.getD u default=v at *;unfold nA at hy;refine WW ?_;exact zJ
    ·have hne:¬((l.getD u default:Nat):Int)=x:=λh=>hkm u zB ⟨hu,h⟩
     generalize l.getD u default=v at *;unfold nA at hy;refine WW ?_;exact⟨zB,rfl⟩
   ·rintro st ⟨huk,rfl⟩;exfalso;omega
  ·rw[yBk zB];unfold II;rw[yCx];exact⟨l.getD k default,by simp[List.getD,hk],by rw[yCl];exact hkx⟩
 ·refine⟨-1,?_,zB,zB,?_⟩
  ·(refine eM call305 λF hF=>?_)
   refine WW ?_;refine zN (l.length) [] [] [0,1,7] [8,0,1,7] Z (λi T U=>⟨(8,iA i)::T,U⟩) ?_;(conv=>whnf);refine⟨by rfl,?_,?_⟩
   ·intro u hu;have hy:=zM nA l u hu;have hne:¬((l.getD u default:Nat):Int)=x:=λh=>hx ⟨u,hu,h⟩
    generalize l.getD u default=v at *;unfold nA at hy;clear hx;refine WW ?_;rfl
   ·clear hx;refine WW ?_;exact zJ
  ·rw[yBm zB];unfold II;rw[yD4];intro p hp;obtain⟨i,hi,rfl⟩:=yDn hp;intro h;rw[yCl]at h;exact hx ⟨i,hi,by simpa [List.getD,hi]using h⟩
def zAv (l:List Nat) (hn:l.length<=1000) (x:Int):zO 285 [zD nA l,iA x] [] (bA (II l x)) []:=by
 obtain⟨k,c,h1,h2,h3⟩:=zKd l hn x;rw[h3];by_cases h:0<=k
 ·rw[yBk h];refine eM call285 λF hF=>?_
  refine zW c ?_;exact zJ
 ·rw[yBm h];refine eM call285 λF hF=>?_
  refine zW c ?_;exact zJ
def zKe (l:Li):zO 307 [vG l] [] (bA (l.lamp != 0)) []:=by
 by_cases h:l.lamp=0
 ·rw[show(l.lamp != 0)=false by simp[h]];refine eM call307 λF hF=>?_
  refine WW ?_;exact zJ
 ·rw[show(l.lamp != 0)=true by simp[h]];refine eM call307 λF hF=>?_
  refine WW ?_;exact zJ
def zVp (c:Ct) (hn:c.li.length<=1000):∃k:Int,zO 309 [zD vG c.li,.fn 307 []] [] (iA k) []/\ -1<=k/\k<1000/\(arF c= !decide (0<=k)):=by
 have hl:=zA vG c.li;by_cases hx:∃i,i<c.li.length/\(xN c i).lamp≠0
 ·obtain⟨i0,h1,h2⟩:=hx;obtain⟨k,_,⟨hk,hkx⟩,hkm⟩:=LP (P:=λi=>i<c.li.length/\(xN c i).lamp≠0) i0 ⟨h1,h2⟩;refine⟨k,?_,zB,zB,?_⟩
  ·(refine eM call309 λF hF=>?_)
   refine WW ?_;refine xR (c.li.length) [] [] [0,1,7] [8,0,1,7] Z (λi T U zs=>(i<=k)/\zs=⟨(8,iA i)::T,U⟩) ?_;(conv=>whnf);refine⟨?_,?_,?_⟩
   ·exact⟨yBt _,rfl⟩
   ·rintro u st hu ⟨huk,rfl⟩;have hy:=zM vG c.li u hu
    change (c.li.map vG)[u]? =some (vG (xN c u))at hy
    have cn:=zKe (xN c u);by_cases e:u=k
    ·subst e;rw[show((xN c u).lamp != 0)=true by simpa using hkx]at cn;generalize xN c u=v at *;refine zW cn ?_;exact zJ
    ·have hne:(xN c u).lamp=0:=yD6 λh=>hkm u zB ⟨hu,h⟩
     rw[show((xN c u).lamp != 0)=false by simpa using hne]at cn;generalize xN c u=v at *;refine zW cn ?_;exact⟨zB,rfl⟩
   ·rintro st ⟨huk,rfl⟩;exfalso;omega
  ·rw[yBk zB];unfold arF;exact yD7.2 ⟨xN c k,by simp[xN,List.getD,hk],by simpa using hkx⟩
 ·have h0:∀i,i<c.li.length->(xN c i).lamp=0:=λi hi=>yD6 λh=>hx ⟨i,hi,h⟩
  refine⟨-1,?_,zB,zB,?_⟩
  ·clear hx;refine eM call309 λF hF=>?_
   refine WW ?_;refine zN (c.li.length) [] [] [0,1,7] [8,0,1,7] Z (λi T U=>⟨(8,iA i)::T,U⟩) ?_;(conv=>whnf);refine⟨by rfl,?_,?_⟩
   ·intro u hu;have hy:=zM vG c.li u hu
    change (c.li.map vG)[u]? =some (vG (xN c u))at hy
    have cn:=zKe (xN c u);have h0:=h0 u hu;rw[show((xN c u).lamp != 0)=false by simpa using h0]at cn;generalize xN c u=v at *;refine zW cn ?_;rfl
   ·(refine WW ?_)
    exact zJ
  ·rw[yBm zB];unfold arF;rw[yF3,yBr];intro l hl;obtain⟨i,hi,rfl⟩:=yDn hl;have:=h0 i hi;simpa [xN,List.getD,hi]using this
def DL (c:Ct) (hn:c.li.length<=1000):zO 287 [ctA c] [] (bA (arF c)) []:=by
 obtain⟨k,c1,h1,h2,h3⟩:=zVp c hn
 have c2:zO 306 [zD vG c.li,.fn 307 []] [] (bA (decide (0<=k))) []:=by
  by_cases h:0<=k
  ·rw[yBk h];refine eM call306 λF hF=>?_
   refine zW c1 ?_;exact zJ
  ·rw[yBm h];refine eM call306 λF hF=>?_
   refine zW c1 ?_;exact zJ
 rw[h3]
 cases hd:decide (0<=k)<;>rw[hd]at c2
 ·(refine eM call287 λF hF=>?_)
  refine zW c2 ?_;exact zJ
 ·(refine eM call287 λF hF=>?_)
  refine zW c2 ?_;exact zJ
def nvF (j:Jn) (c:Ct):Bool:=(List.range j.ph.length).all λp=>TA (yP j p) (xN c p)
def ncF (j:Jn) (c:Ct):Bool:=(List.range j.cf.length).all λa=>(List.range j.cf.length).all λb=>!FI j.cf (seF c) a b
def nxO (j:Jn) (c:Ct) (r:Nat):Bool:=decide (c.nx.getD r default= -1)||II (IH j r c.gr j.ph.length) (c.nx.getD r default)
def vcF (j:Jn) (c:Ct):Bool:=decide (c.li.length=j.ph.length/\c.nx.length=2)&&(nvF j c&&(ncF j c&&(decide (0<=c.gr/\c.gr<YI j)&&((List.range 2).all (nxO j c)&&(decide (0<=c.wt/\c.wt<=j.st)&&(decide (c.wt=0)||arF c))))))
structure JB (j:Jn):Prop where
 n:j.ph.length<=8
 c:j.cf.length<=8
 gp:∀p:Nat,p<j.ph.length->0<=(yP j p).group/\(yP j p).group<=3
theorem JV.b {j:Jn} (J:JV j):JB j:=⟨J.n.2,by rw[J.c];exact J.n.2,J.gp⟩
def yAq {n:Nat} (h:n<=8):p2 (n:Int)<=256:=by
 have:n=0∨n=1∨n=2∨n=3∨n=4∨n=5∨n=6∨n=7∨n=8:=by omega
 rcases this with rfl|rfl|rfl|rfl|rfl|rfl|rfl|rfl|rfl<;>decide
theorem zPw (j:Jn) (J:JB j) (c:Ct):zO 255 [wE j,ctA c] [] (bA (vcF j c)) []:=by
 have hlp:=zA wT j.ph;have hll:=zA vG c.li;have hln:=zA iA c.nx;have hn8:=J.n;unfold vcF;by_cases h1:c.li.length=j.ph.length
 case neg=>
  rw[yBm (λh=>h1 h.1)];refine eM call255 λF hF=>?_
  refine WW ?_;exact zJ
 by_cases h2:c.nx.length=2
 case neg=>
  rw[yBm (λh=>h2 h.2)];refine eM call255 λF hF=>?_
  refine WW ?_;exact zJ
 rw[yBk ⟨h1,h2⟩,yB2];have cs:=zYw c zB;have hsb:=zA6 (FH c) c.li.length zB;have hp8:=yAq (n:=c.li.length) zB
 change 0<=seF c/\seF c<p2 c.li.length at hsb
 obtain⟨cp,cq,cc,hcl⟩:=zKb j.cf J.c (seF c) zB
 have hnc:ncF j c=decide (cp= -1):=by
  unfold ncF
  rcases hcl with⟨h3,h4⟩|⟨h3,a,b,ha,hb,h4⟩
  ·rw[yBk h3,yBr];intro a ha;rw[yBr];intro b hb;rw[h4 a b (yBz.1 ha) (yBz.1 hb)];rfl
  ·rw[yBm zB,yD7];refine⟨a,yBz.2 ha,?_⟩;rw[yDz,yD7];exact⟨b,yBz.2 hb,by rw[h4];decide⟩
 have hcp:cp= -1∨0<=cp:=by
  rcases hcl with h|h
  ·exact .inl h.1
  ·exact .inr h.1
 have cg:=DK j zB J.gp;have ca:=DL c zB;clear hcl;rw[hnc];generalize seF c=se at *;generalize YI j=gm at *;generalize hra:arF c=ra at *;refine eM call255 λF hF=>?_
 refine WW ?_;refine xR (j.ph.length) [2,3] [2,3] [2,3,25,26] [27,2,3,25,26] Z (λi T U zs=>(∀s:Nat,s<i->TA (yP j s) (xN c s)=true)/\zs=⟨(27,iA i)::T,U⟩) ?_;(conv=>whnf);refine⟨?_,?_,?_⟩
 ·exact⟨λs hs=>absurd hs (yDp _),rfl⟩
 ·rintro i st hi ⟨hp,rfl⟩;have hy:=zM wT j.ph i hi;have hyl:=zM vG c.li i zB
  change (j.ph.map wT)[i]? =some (wT (yP j i))at hy
  change (c.li.map vG)[i]? =some (vG (xN c i))at hyl
  have cv:=zJ8 (yP j i) (xN c i)
  cases hq:TA (yP j i) (xN c i)with
  | true=>
   rw[hq]at cv
   have hp2:∀s:Nat,s<i+1->TA (yP j s) (xN c s)=true:=λs hs=>by
    by_cases hsi:s=i
    ·subst hsi;assumption
    ·exact hp s zB
   clear hq hp;generalize yP j i=t at *;generalize xN c i=l at *;clear cs cc cg ca;refine zW cv ?_;exact⟨hp2,rfl⟩
  |false=>
   have hnv:nvF j c=false:=yD7.2 ⟨i,yBz.2 hi,by rw[hq];decide⟩;rw[hq]at cv;rw[hnv,yC4];clear hq hp;generalize yP j i=t at *;generalize xN c i=l at *;clear cs cc cg ca;refine zW cv ?_;exact zJ
 ·rintro st ⟨hp,rfl⟩;have hnv:nvF j c=true:=yBr.2 λi hi=>hp i (yBz.1 hi)
  rw[hnv,yB2];clear hp hnv;by_cases hcq:cp= -1
  case neg=>
   rw[yBm hcq];refine yS (vH cs cc) ?_;exact zJ
  rw[yBk hcq,yB2];by_cases hg0:0<=c.gr
  case neg=>
   rw[yBm (λh=>hg0 h.1)];refine yS (gW cs cc cg) ?_;exact zJ
  by_cases hg1:c.gr<gm
  case neg=>
   rw[yBm (λh=>hg1 h.2)];refine yS (gW cs cc cg) ?_;exact zJ
  rw[yBk ⟨hg0,hg1⟩,yB2];refine yS (gW cs cc cg) ?_;refine xR (c.nx.length) [2,3] [2,3] [2,3,62,63] [64,2,3,62,63] Z (λi T U zs=>(∀s:Nat,s<i->nxO j c s=true)/\zs=⟨(64,iA i)::T,U⟩) ?_;(conv=>whnf);refine⟨?_,?_,?_⟩
  ·exact⟨λs hs=>absurd hs (yDp _),rfl⟩
  ·rintro i st hi ⟨hp,rfl⟩;have hy:=zM iA c.nx i hi;have co:=yAp j zB i c.gr
   have hlen:(IH j i c.gr j.ph.length).length<=1000:=by
    have:(IH j i c.gr j.ph.length).length<=(List.range j.ph.length).length:=yDr _ _;rw[yCy]at this;omega
   have ch:=zAv (IH j i c.gr j.ph.length) hlen (c.nx.getD i default)
   have next:nxO j c i=true->∀s:Nat,s<i+1->nxO j c s=true:=λh s hs=>by
    by_cases hsi:s=i
    ·subst hsi;exact h
    ·exact hp s zB
   have stop:nxO j c i=false->((List.range 2).all (nxO j c))=false:=λh=>yD7.2 ⟨i,yBz.2 zB,by rw[h];decide⟩
   have ex:nxO j c i=(decide (c.nx.getD i default= -1)||II (IH j i c.gr j.ph.length) (c.nx.getD i default)):=rfl;clear hp cs cc cg ca;generalize IH j i c.gr j.ph.length=o at *;generalize II o (c.nx.getD i default)=hb at *;generalize c.nx.getD i default=x at *;generalize nxO j c i=q at *;by_cases hx:x= -1
   ·rw[yBk hx]at ex;have hnx:=next ex;refine WW ?_;exact⟨hnx,rfl⟩
   rw[yBm hx,yEv]at ex
   cases hb with
   |true=>
    have hnx:=next ex;refine yS (vH co ch) ?_;exact⟨hnx,rfl⟩
   |false=>
    rw[stop ex,yC4];refine yS (vH co ch) ?_;exact zJ
  ·rintro st ⟨hp,rfl⟩;have hall:((List.range 2).all (nxO j c))=true:=yBr.2 λi hi=>hp i (by have:=yBz.1 hi;omega)
   rw[hall,yB2];clear hp hall;by_cases hw0:0<=c.wt
   case neg=>
    rw[yBm (λh=>hw0 h.1)];refine WW ?_;exact zJ
   by_cases hw1:c.wt<=j.st
   case neg=>
    rw[yBm (λh=>hw1 h.2)];refine WW ?_;exact zJ
   rw[yBk ⟨hw0,hw1⟩,yB2];by_cases hz:c.wt=0
   ·rw[yBk hz];refine WW ?_;exact zJ
   ·rw[yBm hz,yEv];refine zW ca ?_;exact zJ
def zVq {j:Jn} (J:JV j) {c:Ct} (C:CV j c):vcF j c=true:=by
 have hn:=C.n;have hJ:=J.n;unfold vcF;have h1:nvF j c=true:=yBr.2 λp hp=>C.k p (yBz.1 hp)
 have h2:ncF j c=true:=by
  unfold ncF;rw[yBr];intro a ha;rw[yBr];intro b hb;have ha:=yBz.1 ha;have hb:=yBz.1 hb;rw[J.c]at ha hb
  have hin:∀p:Nat,p<j.ph.length->inS (seF c) p=FH c p:=λp hp=>by
   unfold seF;have e:=IG (λq=>decide (q<c.li.length)&&FH c q) c.li.length 8 zB (λi h1 h2=>by rw[yBm zB];rfl);have e2:eQ (FH c) c.li.length=eQ (λq=>decide (q<c.li.length)&&FH c q) c.li.length:=cH _ λi hi=>by rw[yBk hi];rfl
   rw[e2,<-e,zKa _ p zB,yBk zB];rfl
  rw[yDj];unfold FI;rw[hin a ha,hin b hb];by_cases hab:b=a
  ·rw[yBm (λh=>h hab)];simp
  ·cases hsa:FH c a with
   |false=>rfl
   | true=>
    cases hsb:FH c b with
    |false=>simp
    |true=>
     rw[C.x a b ha hb (λh=>hab h.symm) (by simpa [FH]using hsa) (by simpa [FH]using hsb)];simp
 have h3:((List.range 2).all (nxO j c))=true:=yBr.2 λr hr=>by
  have hr:=yBz.1 hr;unfold nxO
  rcases C.v r hr with h|h
  ·rw[yBk h];rfl
  ·have:II (IH j r c.gr j.ph.length) (c.nx.getD r default)=true:=by
    unfold II;rw[yCx];obtain⟨a,b,d,e⟩:=h;refine⟨(c.nx.getD r default).toNat,?_,by rw[yCl];omega⟩;unfold IH;rw[yEd,yBz];refine⟨zB,?_⟩;rw[d,e];simp
   rw[this,yEl]
 rw[yBk ⟨hn,C.m⟩,h1,h2,yBk C.g,h3,yBk C.w];simp only[yB2]
 rcases C.z with h|h
 ·rw[yBk h];rfl
 ·have:arF c=true:=by
   unfold arF;rw[yBr];intro l hl;obtain⟨i,hi,rfl⟩:=yDn hl;have:=h i zB;simpa [xN,List.getD,hi]using this
  rw[this,yEl]
def yAr (y:Int):fX y 1=0∨fX y 1=1:=by
 show IntKind.i64.wrap (BitVec.ofInt 64 y &&& BitVec.ofInt 64 1).toNat=0∨IntKind.i64.wrap (BitVec.ofInt 64 y &&& BitVec.ofInt 64 1).toNat=1
 have e1:BitVec.ofInt 64 1=1#64:=by decide
 have h:(BitVec.ofInt 64 y &&& BitVec.ofInt 64 1).toNat=(BitVec.ofInt 64 y).toNat % 2:=by
  rw[e1,BitVec.toNat_and];exact Nat.and_one_is_mod _
 rw[h];have h2:(BitVec.ofInt 64 y).toNat % 2=0∨(BitVec.ofInt 64 y).toNat % 2=1:=by omega
 rcases h2 with h2|h2<;>rw[h2]
 ·exact .inl xO
 ·exact .inr xO
def IJ {rows:List Int} {p q:Nat} (hp:p<rows.length) (hq:q<rows.length):fX (uQ (rows.getD p default) q) 1=if jQ rows p q=true then 1 else 0:=by
 unfold jQ;rw[yBk zB,yB2,yB5];split
 ·rename_i h
  rwa [yCl]at h
 ·rename_i h;rw[yCl]at h
  rcases yAr (uQ (rows.getD p default) q)with h1|h1
  ·exact h1
  ·exact absurd h1 h
def yAs {x:Int} {n:Nat} (h:0<=x/\x<2 ^ n):uQ x n=0:=by
 unfold uQ;rw[yB5];exact Int.fdiv_eq_zero_of_lt h.1 h.2
def zFj (j:Jn) (J:JV j):zO 183 [zD iA j.cf] [] (bA true) []:=by
 have hl:=zA iA j.cf;have hn:=J.n;have hc:=J.c;refine eM call183 λF hF=>?_
 refine WW ?_;refine zN (j.cf.length) [] [] [0,14,15] [16,0,14,15] Z (λi T U=>⟨(16,iA i)::T,U⟩) ?_;(conv=>whnf);refine⟨by rfl,?_,?_⟩
 ·intro u hu;have hy:=zM iA j.cf u hu;have hrow:=J.row u zB;have hs0:=yAs hrow;rw[<-hc,<-hl]at hs0;have hir:=IJ (p:=u) (q:=u) hu hu;rw[J.ir u zB,yBc xO]at hir
  have hpq:∀v,v<j.cf.length->fX (uQ (j.cf.getD u default) v) 1=fX (uQ (j.cf.getD v default) u) 1:=λv hv=>by
   rw[IJ hu hv,IJ hv hu,J.sy u v zB zB]
  generalize j.cf.getD u default=x at *;refine WW ?_;refine zN (j.cf.length) [] [] [0,3,4,14,15,16,38] [39,0,3,4,14,15,16,38] Z (λi T U=>⟨(39,iA i)::T,U⟩) ?_;(conv=>whnf);refine⟨by rfl,?_,?_⟩
  ·intro v hv;have hyv:=zM iA j.cf v hv;have hpq:=hpq v hv;generalize j.cf.getD v default=y at *;refine WW ?_;rfl
  ·clear hpq;refine WW ?_;rfl
 ·(refine WW ?_)
  exact zJ
def eP (n a b:Int) (h:a<=n/\n<=b):zO 142 [iA n,iA a,iA b] [] (bA true) []:=by
 obtain⟨h1,h2⟩:=h;refine eM call142 λF hF=>?_
 refine WW ?_;exact zJ
def zKf (j:Jn) (J:JV j) (p:Nat) (hp:p<j.ph.length):zO 184 [wT (yP j p)] [] (bA true) []:=by
 have hr:=J.rg p hp;have hg:=J.gp p hp;obtain⟨t1,t2,t3,t4,t5,t6,t7,t8,t9,t10,t11,t12,t13⟩:=J.ti p hp;generalize yP j p=t at *;have c1:=eP t.ring 0 1 hr;have c2:=eP t.group 0 3 hg;have c3:=eP t.ming 1 60 ⟨t1,zB⟩;have c4:=eP t.maxg 1 60 ⟨zB,t3⟩;have c5:=eP t.yel 1 60 ⟨t4,t5⟩;have c6:=eP t.red 0 60 ⟨t6,t7⟩;have c7:=eP t.walk 0 60 ⟨t8,t9⟩;have c8:=eP t.clear 0 60 ⟨t10,t11⟩;by_cases h0:t.walk=0
 ·have h1:=t13.1 h0;clear t13;refine eM call184 λF hF=>?_
  refine yS (zt8 c1 c2 c3 c4 c5 c6 c7 c8) ?_;exact zJ
 ·have h1:¬t.clear=0:=λh=>h0 (t13.2 h)
  clear t13;refine eM call184 λF hF=>?_
  refine yS (zt8 c1 c2 c3 c4 c5 c6 c7 c8) ?_;exact zJ
def zKg (j:Jn) (J:JV j):zO 185 [wE j] [] (bA true) []:=by
 have hl:=zA wT j.ph;have hn:=J.n;have hc:=J.c;refine eM call185 λF hF=>?_
 repeat' (first|(refine zE ?_;first|refine vV tok Z Z ?_|refine QG tok Z Z Z Z ?_|refine qR ?_)|first|refine SQ ?_|fail|refine vE ?_|refine vF ?_|refine yX ?_)
 refine zN (j.ph.length) [1] [1] [1,9,10] [3,11,1,9,10] Z (λi T U=>⟨(3,bA true)::(11,iA i)::T,U⟩) ?_;(conv=>whnf);refine⟨by rfl,?_,?_⟩
 ·intro u hu;have hy:=zM wT j.ph u hu
  change (j.ph.map wT)[u]? =some (wT (yP j u))at hy
  refine WW ?_;refine zN (j.ph.length) [1,5] [1,5] [1,4,5,9,10,11,17,18] [3,19,1,4,5,9,10,11,17,18] Z (λi T U=>⟨(3,bA true)::(19,iA i)::T,U⟩) ?_;(conv=>whnf);refine⟨by rfl,?_,?_⟩
  ·intro v hv;have hyv:=zM wT j.ph v hv
   change (j.ph.map wT)[v]? =some (wT (yP j v))at hyv
   have ck:=jU j.cf zB u v;have hap:=J.ap u v hu hv;by_cases huv:u=v
   ·have hne:(u:Int)=v:=by omega
    clear hap;generalize yP j u=a at *;generalize yP j v=b at *;refine WW ?_;rfl
   have hne:¬(u:Int)=v:=by omega
   by_cases h1:(yP j u).ring=(yP j v).ring
   ·rw[hap huv (.inl h1)]at ck;clear hap;generalize yP j u=a at *;generalize yP j v=b at *;refine zW ck ?_;rfl
   by_cases h2:(yP j u).group=(yP j v).group
   ·clear hap;generalize yP j u=a at *;generalize yP j v=b at *;refine WW ?_;rfl
   ·rw[hap huv (.inr h2)]at ck;clear hap;generalize yP j u=a at *;generalize yP j v=b at *;refine zW ck ?_;rfl
  ·generalize yP j u=a at *;refine WW ?_;rfl
 ·(refine WW ?_)
  exact zJ
def LQ (j:Jn) (i:Nat) (g:Nat):Bool:=(List.range i).any λp=>(yP j p).group==(g:Int)
def zKh (j:Jn) (i:Nat):LQ j (i+1)=λg=>LQ j i g||((yP j i).group==(g:Int)):=by
 funext g
 unfold LQ;rw[yDs,List.any_append];simp
def zYx (g:Nat) (h:g<4):p2 (g:Int)=eQ (λx:Nat=>(g:Int)==(x:Int)) 8:=by
 have:g=0∨g=1∨g=2∨g=3:=by omega
 rcases this with rfl|rfl|rfl|rfl<;>decide
def yAt:∀b0 b1 b2 b3:Bool,(b1=true->b0=true)->(b2=true->b1=true)->(b3=true->b2=true)->fX (eQ (bq b0 b1 b2 b3 false false false false) 8) (eQ (bq b0 b1 b2 b3 false false false false) 8+1)=0:=by decide +kernel
def zPx (j:Jn) (J:JV j):fX (eQ (LQ j j.ph.length) 8) (eQ (LQ j j.ph.length) 8+1)=0:=by
 have hf:∀g:Nat,4<=g->LQ j j.ph.length g=false:=λg hg=>by
  unfold LQ;rw[yD4];intro p hp;have:=J.gp p (yBz.1 hp);simp;omega
 have hd:∀g:Nat,LQ j j.ph.length (g+1)=true->LQ j j.ph.length g=true:=λg h=>by
  unfold LQ at h⊢;rw[yCx]at h⊢;obtain⟨p,hp,hg⟩:=h;rw[yCl]at hg;obtain⟨q,hq,hqg⟩:=J.lo p (yBz.1 hp) g zB zB;exact⟨q,yBz.2 hq,by rw[yCl];exact hqg⟩
 have e:eQ (LQ j j.ph.length) 8=eQ (bq (LQ j j.ph.length 0) (LQ j j.ph.length 1) (LQ j j.ph.length 2) (LQ j j.ph.length 3) false false false false) 8:=cH 8 λi hi=>by
  match i,hi with
  |0,_=>rfl|1,_=>rfl|2,_=>rfl|3,_=>rfl
  |4,_=>exact hf 4 zB
  |5,_=>exact hf 5 zB
  |6,_=>exact hf 6 zB
  |7,_=>exact hf 7 zB
  |i+8,h=>omega
 rw[e];exact yAt _ _ _ _ (hd 0) (hd 1) (hd 2)
def SI (j:Jn) (J:JV j):zO 143 [wE j] [] (bA true) []:=by
 have hl:=zA wT j.ph;have hlc:=zA iA j.cf;have hn:=J.n;have hc:=J.c;have c1:=zFj j J;have c2:=eP j.st 0 60 J.st;have c3:=zKg j J;have hgd:=zPx j J;have hbb:=zA6 (LQ j j.ph.length) 8 zB;have hp8:p2 ((8:Nat):Int)=256:=by decide
 refine eM call143 λF hF=>?_
 refine yS (vH c1 c2) ?_;refine zN (j.ph.length) [1] [1] [1,34,35] [4,36,1,34,35] Z (λi T U=>⟨(4,iA (eQ (LQ j i) 8))::(36,iA i)::T,U⟩) ?_;(conv=>whnf);refine⟨by rfl,?_,?_⟩
 ·intro u hu;have hy:=zM wT j.ph u hu
  change (j.ph.map wT)[u]? =some (wT (yP j u))at hy
  have cp:=zKf j J u hu;have hg:=J.gp u hu;have es:=zKh j u;obtain⟨gn,hgn⟩:∃n:Nat,(yP j u).group=n:=⟨(yP j u).group.toNat,zB⟩;have hor:=zV5 (LQ j u) (λx:Nat=>(gn:Int)==(x:Int));rw[<-zYx gn zB]at hor;rw[hgn]at es;rw[es,<-hor];generalize eQ (LQ j u) 8=b at *;rw[<-hgn];clear c1 c2 c3 hor es;generalize yP j u=t at *;refine zW cp ?_;rfl
 ·generalize eQ (LQ j j.ph.length) 8=b at *;refine zW c3 ?_;exact zJ
end Av
end Go.Proofs.YteajjdidebfcjaaGreat
