/- Part 21. -/
import Derived.Test.YtaglbcjljlkjcaaGreatW14
namespace Go.Proofs.YtaglbcjljlkjcaaGreat.Av
open Tryz
set_option linter.all false
set_option maxRecDepth 4000
set_option maxHeartbeats 1000000
open List renaming length->ln,range->pb,getD->pi
open Inhabited renaming default->dd
variable {j:Jn}{p:Nat}
structure Li where
 lamp:Int
 tk:Int
structure Ct where
 li:List Li
 gr:Int
 nx:List Int
 wt:Int
variable {c:Ct}
instance:Inhabited Li:=⟨⟨0,0⟩⟩
def xE (l:Li):AV:= .agg [iA l.lamp,iA l.tk]
def JM (c:Ct):AV:= .agg [zE xE c.li,iA c.gr,zE iA c.nx,iA c.wt]
def kK (u:List Int) (p q:Int):Bool:=decide (0<=p/\0<=q/\p<ln u/\q<ln u)&&(jI (vT (u.getD p.toNat dd) q) 1==1)
def Be (p:Ph):Int:=max p.ming (p.walk+p.clear)
def BK (p:Ph) (l:Li) (lv:Bool):Li:=
 if l.lamp=1 then(if lv=true/\Be p<=l.tk+1 then⟨2,0⟩else⟨1,min (l.tk+1) 1073741824⟩)
 else if l.lamp=2 then(if l.tk+1<p.yel then⟨2,l.tk+1⟩else if p.red=0 then⟨0,0⟩else⟨3,0⟩)
 else if l.lamp=3 then(if l.tk+1<p.red then⟨3,l.tk+1⟩else⟨0,0⟩)
 else l
def Ba (p:Ph) (l:Li):Bool:=if l.lamp=0 then decide (l.tk=0)else if l.lamp=1 then decide (0<=l.tk/\l.tk<=1073741824)else if l.lamp=2 then decide (0<=l.tk/\l.tk<p.yel)else if l.lamp=3 then decide (0<=l.tk/\l.tk<p.red)else false
def yF (j:Jn) (p:Nat):Ph:=j.ph.getD p dd
def xS (c:Ct) (p:Nat):Li:=c.li.getD p dd
def BL (j:Jn) (r g p:Int):Prop:=0<=p/\p<ln j.ph/\(yF j p.toNat).ring=r/\(yF j p.toNat).group=g
def Aa (u:List Ph):Nat->Int
 |0=>0
 |i+1=>max (Aa u i) ((u.getD i dd).group+1)
def gM (j:Jn):Int:=Aa j.ph (ln j.ph)
theorem dm (u:List Ph) (n:Nat):∀i,i<n->(u.getD i dd).group+1<=Aa u n:=by
 induction n with
 |zero=>intro i h;exact absurd h (zCm _)
 |succ n z=>
  grind [Aa]
def LM (j:Jn) (r:Int) (i:Nat):List Nat:=(pb i).filter λp=>(yF j p).ring==r
def QS (j:Jn) (r:Int):List Nat:=LM j r (ln j.ph)
theorem cR {r:Int} :p∈QS j r↔p<ln j.ph/\(yF j p).ring=r:=by grind [QS,yF,LM]
def jH (j:Jn) (r g f:Int):Int:=match (QS j r).find? (λp:Nat=>decide (f<=(p:Int))&&(yF j p).group==g)with
 |some p=>p
 |none=> -1
theorem BM (j:Jn) (r g f:Int):jH j r g f= -1\/BL j r g (jH j r g f)/\f<=jH j r g f:=by
 unfold jH;split
 .rename_i p h;have h1:=List.find?_some h;have h2:=cR.1 (zF0 h)
  grind [jH,BL]
 .exact .inl Z
def QB (j:Jn) (c:Ct) (g:Int):Ct:=⟨c.li,g,[jH j 0 g 0,jH j 1 g 0],c.wt⟩
def dQ (j:Jn) (c:Ct) (p:Int):Bool:=(pb (ln c.li)).any λq=>(xS c q).lamp != 0&&kK j.cf p q
def BN (c:Ct) (p:Nat):Ct:=⟨c.li.set p ⟨1,0⟩,c.gr,c.nx,c.wt⟩
def NV (j:Jn) (c:Ct) (p:Nat):Ct:=if c.gr=(yF j p).group then BN c p else QB j (BN c p) (yF j p).group
def uC (j:Jn) (c:Ct) (p:Nat):Ct:=
 if dQ j c p=true then c
 else⟨(NV j c p).li,(NV j c p).gr,(NV j c p).nx.set (yF j p).ring.toNat (jH j (yF j p).ring (yF j p).group (p+1)),(NV j c p).wt⟩
def VG (j:Jn) (c:Ct) (r:Int):Bool:=(QS j r).all λp=>(xS c p).lamp==0
def EH (j:Jn) (x r t:Int):Int:=match (QS j r).find? (λp:Nat=>!kK j.cf p t&&decide (x≠ -1/\x<=(p:Int)))with
 |some p=>p
 |none=>match (QS j r).find? (λp:Nat=>!kK j.cf p t)with
  |some p=>p
  |none=> -1
def aU (j:Jn) (c:Ct) (r:Int) (t:Nat):Int:=if r=(yF j t).ring then t else EH j (c.nx.getD r.toNat dd) r t
def jC (j:Jn) (t:Nat) (c:Ct) (r:Int):Ct:=if VG j c r=true then(if aU j c r t= -1 then c else uC j c (aU j c r t).toNat)else c
def zb (c:Ct):Bool:=c.li.all λl=>l.lamp==0
def gj (c:Ct):Bool:=zb c&&c.nx.all λp=>p== -1
def vL (j:Jn) (c:Ct) (r:Int):Ct:=if VG j c r=true/\c.nx.getD r.toNat dd≠ -1 then uC j c (c.nx.getD r.toNat dd).toNat else c
def ub (j:Jn) (c:Ct):Ct:=vL j (vL j (if gj c=true then QB j c ((c.gr+1) % gM j)else c) 0) 1
def ZP (j:Jn) (t:Int):Bool:=decide (0<=t/\t<ln j.ph)
def GG (j:Jn) (c:Ct) (t:Int) (p:Nat):Bool:=
 if ZP j t=true then decide ((p:Int)≠t)&&(decide ((yF j p).maxg<=(xS c p).tk+1)||kK j.cf p t)else decide ((yF j p).maxg<=(xS c p).tk+1)
def UV (j:Jn) (c:Ct) (t:Int):List Li:=(pb (ln j.ph)).map λp=>BK (yF j p) (xS c p) (GG j c t p)
def GH (j:Jn) (c:Ct) (t:Int):Ct:=
 if 0<c.wt then⟨c.li,c.gr,c.nx,c.wt-1⟩
 else if ZP j t=true then jC j t.toNat (jC j t.toNat ⟨UV j c t,c.gr,c.nx,c.wt⟩ 0) 1
 else ub j ⟨UV j c t,c.gr,c.nx,c.wt⟩
structure JV (j:Jn):Prop where
 n:1<=j.ph.length/\j.ph.length<=8
 c:j.cf.length=j.ph.length
 row:∀i,i<j.ph.length->0<=j.cf.getD i default/\j.cf.getD i default<2 ^ j.ph.length
 ir:∀p:Nat,p<j.ph.length->kK j.cf p p=false
 sy:∀p q:Nat,p<j.ph.length->q<j.ph.length->kK j.cf p q=kK j.cf q p
 ap:∀p q:Nat,p<j.ph.length->q<j.ph.length->p≠q->(yF j p).ring=(yF j q).ring\/(yF j p).group≠(yF j q).group->kK j.cf p q=true
 rg:∀p:Nat,p<j.ph.length->0<=(yF j p).ring/\(yF j p).ring<=1
 gp:∀p:Nat,p<j.ph.length->0<=(yF j p).group/\(yF j p).group<=3
 ti:∀p:Nat,p<j.ph.length->1<=(yF j p).ming/\(yF j p).ming<=(yF j p).maxg/\(yF j p).maxg<=60/\1<=(yF j p).yel/\(yF j p).yel<=60/\0<=(yF j p).red/\(yF j p).red<=60/\0<=(yF j p).walk/\(yF j p).walk<=60/\0<=(yF j p).clear/\(yF j p).clear<=60/\(yF j p).walk+(yF j p).clear<=(yF j p).maxg/\((yF j p).walk=0↔(yF j p).clear=0)
 lo:∀p:Nat,p<j.ph.length->∀g:Int,0<=g->g<(yF j p).group->∃q:Nat,q<j.ph.length/\(yF j q).group=g
 st:0<=j.st/\j.st<=60
structure CV (j:Jn) (c:Ct):Prop where
 n:c.li.length=j.ph.length
 k:∀p,p<j.ph.length->Ba (yF j p) (xS c p)=true
 x:∀p q:Nat,p<j.ph.length->q<j.ph.length->p≠q->(xS c p).lamp≠0->(xS c q).lamp≠0->kK j.cf p q=false
 g:0<=c.gr/\c.gr<gM j
 m:c.nx.length=2
 v:∀r:Nat,r<2->c.nx.getD r default= -1\/BL j r c.gr (c.nx.getD r default)
 w:0<=c.wt/\c.wt<=j.st
 z:c.wt=0\/∀p,p<j.ph.length->(xS c p).lamp=0
theorem PR (J:JV j):1<=gM j:=by
 have h1:=dm j.ph (ln j.ph) 0 DX;have h2:=J.gp 0 DX
 grind [gM,yF]
theorem Hx (j:Jn) (c:Ct) (g:Int):∀r:Nat,r<2->(QB j c g).nx.getD r dd= -1\/BL j r g ((QB j c g).nx.getD r dd):=by
 intro r u;have:r=0\/r=1:=by omega
 grind [QB,BL,BM]
def BO (C:CV j c) {g:Int} (u:0<=g/\g<gM j):CV j (QB j c g):=
 ⟨C.n,C.k,C.x,u,rfl,Hx j c g,C.w,C.z⟩
theorem uu (c:Ct) (p q:Nat) (l:Li) (u:Int) (nx:List Int) (z:Int) (A:p<ln c.li):xS ⟨c.li.set p l,u,nx,z⟩ q=if q=p then l else xS c q:=by grind [nx,xS]
def D6 (J:JV j) (C:CV j c) (G:c.wt=0) (L:p<ln j.ph) (hk:dQ j c p=false):CV j (BN c p):=by
 have hl:=C.n
 have E:∀q,xS (BN c p) q=if q=p then⟨1,0⟩else xS c q:=λq=>uu c p q _ _ _ _ zB
 unfold dQ at hk;rw[zDa]at hk
 have hc:∀q:Nat,q<ln j.ph->(xS c q).lamp≠0->kK j.cf p q=false:=λq u I=>by
  grind
 refine⟨by unfold BN;simpa using hl,λq u=>?_,λq r u B z h1 h2=>?_,C.g,C.m,C.v,C.w,.inl G⟩
 .rw[E];split
  .rfl
  .exact C.k q u
 .rw[E]at h1 h2;by_cases e1:q=p
  .grind
  .rw[Os e1]at h1;by_cases A:r=p
   .subst A;rw[J.sy q r u B];exact hc q u h1
   .rw[Os A]at h2;exact C.x q r u B z h1 h2
def C6 (J:JV j) (C:CV j c) (u:c.wt=0) (z:p<ln j.ph) (hk:dQ j c p=false):CV j (NV j c p)/\(NV j c p).gr=(yF j p).group/\(NV j c p).wt=0:=by
 have h1:=D6 J C u z hk;unfold NV;split
 .rename_i h;exact⟨h1,h,u⟩
 .have A:=J.gp p z;have:=dm j.ph (ln j.ph) p z;exact⟨BO h1 ⟨A.1,by unfold gM;unfold yF;omega⟩,rfl,u⟩
theorem Gx (J:JV j) (C:CV j c) (A:c.wt=0) (E:p<ln j.ph):CV j (uC j c p)/\(uC j c p).wt=0:=by
 unfold uC;split
 .exact⟨C,A⟩
 .rename_i hk;obtain⟨B,I,G⟩:=C6 J C A E (by simpa using hk);have L:=J.rg p E;refine⟨⟨B.n,B.k,B.x,B.g,by rw[zB5];exact B.m,λr u=>?_,B.w,B.z⟩,G⟩;have M:=BM j (yF j p).ring (yF j p).group (p+1);generalize jH j (yF j p).ring (yF j p).group (p+1)=f at *;dsimp only
  have e:((NV j c p).nx.set (yF j p).ring.toNat f).getD r dd=if r=(yF j p).ring.toNat then f else(NV j c p).nx.getD r dd:=by
   simp only[zA0,zDz];split
   .rename_i h;subst h;rw[f5 Z,B.m,f5 u];rfl
   all_goals grind
  rw[e];split
  .grind
  .exact B.v r u
theorem BP (j:Jn) (x r t:Int):EH j x r t= -1\/∃p:Nat,EH j x r t=p/\p<ln j.ph/\(yF j p).ring=r/\kK j.cf p t=false:=by
 unfold EH;split
 .rename_i p h;have h1:=List.find?_some h;have h2:=cR.1 (zF0 h)
  grind
 all_goals grind [EH,yF,kK,cR,List.mem_of_find?_eq_some,Bool.not_eq_true']
theorem bm {r:Int} {t:Nat} (u:t<ln j.ph):aU j c r t= -1\/∃p:Nat,aU j c r t=p/\p<ln j.ph/\(yF j p).ring=r:=by grind [aU,yF,BP]
theorem am (J:JV j) (C:CV j c) (u:c.wt=0) {t:Nat} (z:t<ln j.ph) (r:Int):CV j (jC j t c r)/\(jC j t c r).wt=0:=by grind [jC,bm,Int.toNat_natCast,Gx]
theorem ZQ (J:JV j) (C:CV j c) (u:c.wt=0) {r:Nat} (z:r<2):CV j (vL j c r)/\(vL j c r).wt=0:=by
 unfold vL;split
 .rename_i h;rw[zBf]at h⊢
  rcases C.v r z with h1|h1
  .grind
  .exact Gx J C u (by have:=h1.2.1;have:=h1.1;omega)
 .exact⟨C,u⟩
theorem B6 (J:JV j) (C:CV j c) (u:c.wt=0):CV j (ub j c):=by
 have h1:CV j (if gj c=true then QB j c ((c.gr+1) % gM j)else c)/\(if gj c=true then QB j c ((c.gr+1) % gM j)else c).wt=0:=by
  split
  .have:=PR J;exact⟨BO C ⟨zD0 _ zB,zDj _ zB⟩,u⟩
  .exact⟨C,u⟩
 have h2:=ZQ J h1.1 h1.2 (r:=0) zB;exact(ZQ J h2.1 h2.2 (r:=1) zB).1
theorem F9 {p:Ph} {l:Li} {lv:Bool} (z:1<=p.yel) (u:0<=p.red) (h:Ba p l=true):Ba p (BK p l lv)=true/\((BK p l lv).lamp≠0->l.lamp≠0):=by grind [Ba,BK]
theorem pm (t u:Int) (nx:List Int) (z:Int) (p:Nat) (A:p<ln j.ph):xS ⟨UV j c t,u,nx,z⟩ p=BK (yF j p) (xS c p) (GG j c t p):=by grind [nx,xS,UV,BK,yF,GG]
theorem om (J:JV j) (C:CV j c) (E:c.wt=0) (t:Int):CV j ⟨UV j c t,c.gr,c.nx,c.wt⟩:=by
 have B:=λp u=>F9 (lv:=GG j c t p) (by have:=J.ti p u;omega) (by have:=J.ti p u;omega) (C.k p u)
 refine⟨by simp[UV],λp u=>?_,λp q u A z h1 h2=>?_,C.g,C.m,C.v,C.w,.inl E⟩
 .grind [UV,pm]
 .rw[pm _ _ _ _ _ u]at h1;rw[pm _ _ _ _ _ A]at h2;exact C.x p q u A z ((B p u).2 h1) ((B q A).2 h2)
theorem rm (J:JV j) (C:CV j c) (t:Int):CV j (GH j c t):=by
 unfold GH;split
 .rename_i h;have u:=C.z;have B:=C.w;refine⟨C.n,C.k,C.x,C.g,C.m,C.v,by dsimp only;omega,?_⟩
  rcases u with u|u
  .omega
  .exact .inr u
 .have A:c.wt=0:=by have:=C.w;omega
  grind [GH,om,ZP,am,B6]
def gT (u:List Int) (C:ln u<=40) (p q:Int):zN 257 [zE iA u,iA p,iA q] [] (bA (kK u p q)) []:=by
 have hl:=zA iA u;unfold kK;by_cases h1:0<=p
 case neg=>
  rw[zAs (λh=>h1 h.1)];refine eM call257 λF hF=>?_
  exact ly
 by_cases h2:0<=q
 case neg=>
  rw[zAs (λh=>h2 h.2.1)];refine eM call257 λF hF=>?_
  exact ly
 by_cases z:p<ln u
 case neg=>
  rw[zAs (λh=>z h.2.2.1)];refine eM call257 λF hF=>?_
  exact ly
 by_cases A:q<ln u
 case neg=>
  rw[zAs (λh=>A h.2.2.2)];refine eM call257 λF hF=>?_
  exact ly
 rw[zAu ⟨h1,h2,z,A⟩,zA3];have E:=yE iA u p h1 z;generalize u.getD p.toNat dd=x at *;by_cases B:jI (vT x q) 1=1
 .rw[show(jI (vT x q) 1==1)=true by rw[zB8];exact B];refine eM call257 λF hF=>?_
  exact ly
 .rw[show(jI (vT x q) 1==1)=false by rw[zBm];exact B];refine eM call257 λF hF=>?_
  exact ly
def Fx (p:Ph):Prop:=0<=p.walk/\p.walk<=60/\0<=p.clear/\p.clear<=60
def Ae (p:Ph) (h:Fx p):zN 209 [xN p] [] (iA (Be p)) []:=by
 obtain⟨h1,h2,u,z⟩:=h;refine eM call209 λF hF=>?_
 exact ly
def qu (p:Ph) (h:Fx p) (l:Li) (A: -1000000000000<=l.tk/\l.tk<=1000000000000) (lv:Bool):zN 282 [xN p,xE l,bA lv] [] (xE (BK p l lv)) []:=by
 have c:=Ae p h;unfold BK;by_cases h1:l.lamp=1
 .rw[f5 h1];generalize Be p=n at*
  cases lv with
  |false=>
   rw[Os (λh=>by cases h.1)];refine eM call282 λF hF=>?_
   exact ly
  |true=>
  by_cases h2:n<=l.tk+1
  .rw[f5 ⟨rfl,h2⟩];refine eM call282 λF hF=>?_
   exact ng c
  .rw[Os (λh=>h2 h.2)];refine eM call282 λF hF=>?_
   exact ng c
 rw[Os h1];by_cases h2:l.lamp=2
 .rw[f5 h2];by_cases u:l.tk+1<p.yel
  .rw[f5 u];refine eM call282 λF hF=>?_
   exact ly
  rw[Os u];by_cases z:p.red=0
  .rw[f5 z];refine eM call282 λF hF=>?_
   exact ly
  .rw[Os z];refine eM call282 λF hF=>?_
   exact ly
 rw[Os h2];by_cases u:l.lamp=3
 .rw[f5 u];by_cases z:l.tk+1<p.red
  .rw[f5 z];refine eM call282 λF hF=>?_
   exact ly
  .rw[Os z];refine eM call282 λF hF=>?_
   exact ly
 .rw[Os u];refine eM call282 λF hF=>?_
  exact ly
def sm (p:Ph) (l:Li):zN 316 [xN p,xE l] [] (bA (Ba p l)) []:=by
 unfold Ba;by_cases u:l.lamp=0
 .rw[f5 u];by_cases h:l.tk=0
  .rw[zAu h];refine eM call316 λF hF=>?_
   exact ly
  .rw[zAs h];refine eM call316 λF hF=>?_
   exact ly
 rw[Os u];by_cases h1:l.lamp=1
 .rw[f5 h1];by_cases h:0<=l.tk
  .by_cases h':l.tk<=1073741824
   .rw[zAu ⟨h,h'⟩];refine eM call316 λF hF=>?_
    exact ly
   .rw[zAs (λk=>h' k.2)];refine eM call316 λF hF=>?_
    exact ly
  .rw[zAs (λk=>h k.1)];refine eM call316 λF hF=>?_
   exact ly
 rw[Os h1];by_cases h2:l.lamp=2
 .rw[f5 h2];by_cases h:0<=l.tk
  .by_cases h':l.tk<p.yel
   .rw[zAu ⟨h,h'⟩];refine eM call316 λF hF=>?_
    exact ly
   .rw[zAs (λk=>h' k.2)];refine eM call316 λF hF=>?_
    exact ly
  .rw[zAs (λk=>h k.1)];refine eM call316 λF hF=>?_
   exact ly
 rw[Os h2];by_cases z:l.lamp=3
 .rw[f5 z];by_cases h:0<=l.tk
  .by_cases h':l.tk<p.red
   .rw[zAu ⟨h,h'⟩];refine eM call316 λF hF=>?_
    exact ly
   .rw[zAs (λk=>h' k.2)];refine eM call316 λF hF=>?_
    exact ly
  .rw[zAs (λk=>h k.1)];refine eM call316 λF hF=>?_
   exact ly
 .rw[Os z];refine eM call316 λF hF=>?_
  exact ly
theorem UW (j:Jn) (r:Int) (i:Nat):LM j r (i+1)=if(yF j i).ring=r then LM j r i++[i]else LM j r i:=by grind [LM,yF,List.range_succ]
theorem GI (j:Jn) (r:Int):∀n i,i<=n->∃l,LM j r n=LM j r i++l
 |0,i,h=>⟨[],by rw[Nat.le_zero.1 h];simp⟩
 | n+1,i,h=>by
  by_cases e:i=n+1
  .exact⟨[],by rw[e];simp⟩
  .obtain⟨l,hl⟩:=GI j r n i zB;rw[UW];split
   .exact⟨l++[n],by rw[hl,zBh]⟩
   .exact⟨l,hl⟩
def Qh (j:Jn) (r:Int):List (Nat×xW):=[(1003,.box [zE xN j.ph,zE iA j.cf,iA j.st]),(1004,.box [iA r])]
def im (j:Jn) (r:Int):zN 299 [wJ j,iA r] [] (.fn 339 [.ptr 1003 0 0,.ptr 1004 0 0]) (Qh j r):=by
 refine eM call299 λF hF=>?_
 repeat' (first|(apply zG;first|refine uU (dI (v:=AV.agg _) 1003 Z Z) Z Z Z ?_|refine uU (dI (v:=AV.s _) 1004 Z Z) Z Z Z ?_|refine uL tok Z Z ?_|apply kP)|(first|apply xY|apply xR|refine vZ Z ?_|refine yR Z ?_|refine yD Z ?_|refine xZ Z (λhc=>?_) λhc=>?_|apply xJ|apply xL|apply xQ|apply xC))
 exact zP [1003,1004] Z Z Z Z
def nc (j:Jn) (M:ln j.ph<=1000) (r:Int):TL prog 339 [.ptr 1003 0 0,.ptr 1004 0 0] (Qh j r) ((QS j r).map λp:Nat=>[iA (p:Int)]):=by
 have hl:=zA xN j.ph;refine VN func339 Z (λargs w=>call339 args w) Z Z Z (λF y I B G=>?_);unfold Qh;refine WW ?_;refine zO (ln j.ph) [1003,1004] [1003,1004] [0,2,7,8] [9,1000000,0,2,7,8] Z (λi T U=>⟨(9,iA i)::(1000000,.gh (LM j r i).length)::T,U⟩) (Lq ?_ ?_)
 .intro i hi;have L:=zJ xN j.ph i hi;have A:=UW j r i
  change (j.ph.map xN)[i]? =some (xN (yF j i))at L
  by_cases E:(yF j i).ring=r
  .rw[f5 E]at A;obtain⟨O,u⟩:=GI j r (ln j.ph) (i+1) zB;rw[A]at u⊢
   have z:((QS j r).map λp:Nat=>[iA (p:Int)])[(LM j r i).length]? =some [iA (i:Int)]:=by
    unfold QS;rw[u,zAz,zBp zV,zBq (zAw _),zC7];rfl
   have C:=(zBj.1 z).1;rw[zAv];generalize ((QS j r).map λp:Nat=>[iA (p:Int)])=xs,(LM j r i).length=k,yF j i=t at *
   (repeat' (first|refine uT ?_|apply yW|apply xI|intro hc|(apply zG;apply xP;first|(apply Of;refine GY B G Z Z z Z Z Z ?_ ?_))|(apply zG;first|refine SM ?_)|fail))
   .rfl
   .exact TM Z (.inr zB)
  .rw[Os E]at A;rw[A];generalize (LM j r i).length=k,yF j i=t at *;refine WW ?_;rfl
 .have e:(LM j r (ln j.ph)).length=((QS j r).map λp:Nat=>[iA (p:Int)]).length:=by rw[zAr];rfl
  refine WW ?_;exact ZT Z (.inl e)
def mc (s p:Int):Bool:=jI (vT s p) 1==1
def L0:∀(s:_root_.Fin 256) (p:_root_.Fin 8),uN BinOp.eql (IntKind.u64.wrap ((BitVec.ofInt IntKind.u64.bits (Int.fdiv (s.val:Int) (2 ^ min (p.val:Int).toNat IntKind.u64.bits)) &&& BitVec.ofInt IntKind.u64.bits 1).toNat:Int)) 1=mc s.val p.val:=by decide +kernel
def BQ (s p:Int) (A:0<=s/\s<256) (z:0<=p/\p<8):zN 359 [iA s,iA p] [] (bA (mc s p)) []:=by
 have u:=L0 ⟨s.toNat,zB⟩ ⟨p.toNat,zB⟩;rw[show((s.toNat:Nat):Int)=s by omega,show((p.toNat:Nat):Int)=p by omega]at u;generalize mc s p=q at *;subst u;refine eM call359 λF hF=>?_
 (repeat' (first|refine uT ?_|apply yW|apply xI|intro hc|(apply zG;first|(apply wV;refine wM (PI Z Z) Z ?_))|fail))
 exact zI
theorem Zm (p:Nat->Bool) (i:Nat) (hi:i<8):mc (hH p 8) i=p i:=Kf p i hi
def RA (c:Ct) (p:Nat):Bool:=(xS c p).lamp != 0
def LN (c:Ct):Int:=hH (RA c) (ln c.li)
theorem GJ (p:Nat->Bool):∀n m:Nat,n<=m->(∀i,n<=i->i<m->p i=false)->hH p m=hH p n
 |n,0,h,_=>by rw[Nat.le_zero.1 h]
 |n,m+1,h,u=>by
  by_cases e:n=m+1
  .rw[e]
  .rw[hH,u m zB zB];exact GJ p n m zB λi h1 h2=>u i h1 zB
theorem I0 (p:Nat->Bool) (n:Nat) (u:n<=25):pj (hH p n) (p2 n)=hH p n+p2 n:=by
 have h1:=MN p n;have h2:(2:Nat) ^ n<=2 ^ 25:=zEk zB u;rw[AS,show p2 (n:Int)=((2 ^ n:Nat):Int) by unfold p2;simp,FD _ _ zB zB];have z:=Nat.two_pow_add_eq_or_of_lt h1 1
 grind
def A6 (c:Ct) (B:ln c.li<=25):zN 318 [JM c] [] (iA (LN c)) []:=by
 have hl:=zA xE c.li;unfold LN;refine eM call318 λF hF=>?_
 refine WW ?_;refine zO (ln c.li) [] [] [7,8] [3,9,7,8] Z (λi T U=>⟨(3,iA (hH (RA c) i))::(9,iA i)::T,U⟩) (Lq ?_ ?_)
 .intro i hi;have A:=zJ xE c.li i hi
  change (c.li.map xE)[i]? =some (xE (xS c i))at A
  have z:=I0 (RA c) i zB
  have e:hH (RA c) (i+1)=if RA c i=true then hH (RA c) i+p2 i else hH (RA c) i:=rfl
  rw[<-z]at e;have u:RA c i=((xS c i).lamp != 0):=rfl;rw[e,u];generalize hH (RA c) i=b,xS c i=t at *;by_cases h:t.lamp=0
  .rw[Os (by simp[h])];refine WW ?_;rfl
  .rw[f5 (by simp[h])];refine WW ?_;rfl
 .exact ly
theorem NW {P:Nat->Prop}:∀n,P n->∃m,m<=n/\P m/\∀k,k<m->¬P k:=by
 intro n
 induction n using Nat.strongRecOn with
 |_ n u=>
  grind
def EJ (u:List Int) (s:Int) (p q:Nat):Bool:=mc s p&&(decide (q≠p)&&(mc s q&&kK u p q))
theorem Ym (z:List Int) (hn:ln z<=8) (s:Int) (M:0<=s/\s<256):∃p q:Int,zN 317 [zE iA z,iA s] [] (.tup [iA p,iA q]) []/\((p= -1/\∀a b:Nat,a<ln z->b<ln z->EJ z s a b=false)\/(0<=p/\∃a b:Nat,a<ln z/\b<ln z/\EJ z s a b=true)):=by
 have hl:=zA iA z;by_cases hx:∃a,a<ln z/\∃b,b<ln z/\EJ z s a b=true
 .obtain⟨a,V,hx⟩:=hx;obtain⟨p,_,⟨hp,hx⟩,W⟩:=NW (P:=λa=>a<ln z/\∃b,b<ln z/\EJ z s a b=true) a ⟨V,hx⟩;obtain⟨b,hb⟩:=hx;obtain⟨q,_,⟨hq,hc⟩,Y⟩:=NW (P:=λb=>b<ln z/\EJ z s p b=true) b hb;refine⟨p,q,?_,.inr ⟨zB,p,q,hp,hq,hc⟩⟩
  have O:mc s p=true:=by
   unfold EJ at hc;rw[zA2]at hc;exact hc.1
  refine eM call317 λF hF=>?_
  refine WW ?_;refine yU (ln z) [] [] [0,1,9] [10,0,1,9] Z (λi T U zs=>(i<=p)/\zs=⟨(10,iA i)::T,U⟩) (Lp ?_ ?_ ?_)
  .exact⟨zA9 _,rfl⟩
  .rintro u st hu ⟨hup,rfl⟩;have E:=BQ s u M zB;by_cases R:u=p
   .subst R;rw[O]at E;refine zS E ?_;refine yU (ln z) [] [] [0,1,6,9,10,18] [19,0,1,6,9,10,18] Z (λi T U zs=>(i<=q)/\zs=⟨(19,iA i)::T,U⟩) (Lp ?_ ?_ ?_)
    .exact⟨zA9 _,rfl⟩
    .rintro v st hv ⟨hvq,rfl⟩;have B:=BQ s v M zB;have I:=gT z zB u v;by_cases S:v=q
     .subst S;unfold EJ at hc;simp only[zA2,zAx]at hc;rw[hc.2.2.1]at B;rw[hc.2.2.2]at I;have C:(v:Int)≠u:=by omega
      exact mx (xV B I)
     .have A:EJ z s u v=false:=by
       cases G:EJ z s u v with
       |false=>rfl
       |true=>exact absurd ⟨hv,G⟩ (Y v zB)
      unfold EJ at A;rw[O,zA3]at A;by_cases h1:v=u
      .have C:(v:Int)=u:=by omega
       refine WW ?_;exact⟨zB,rfl⟩
      have C:(v:Int)≠u:=by omega
      rw[zAu h1,zA3]at A
      cases h2:mc s v with
      |false=>
       rw[h2]at B;refine zS B ?_;exact⟨zB,rfl⟩
      |true=>
       rw[h2,zA3]at A;rw[h2]at B;rw[A]at I;refine yG (xV B I) ?_;exact⟨zB,rfl⟩
    .rintro st ⟨hvq,rfl⟩;exfalso;omega
   .have A:∀b,b<ln z->EJ z s u b=false:=λb hb=>by
     cases G:EJ z s u b with
     |false=>rfl
     |true=>exact absurd ⟨hu,b,hb,G⟩ (W u zB)
    cases L:mc s u with
    |false=>
     rw[L]at E;refine zS E ?_;exact⟨zB,rfl⟩
    |true=>
    rw[L]at E;refine zS E ?_;refine zO (ln z) [] [] [0,1,6,9,10,18] [19,0,1,6,9,10,18] Z (λi T U=>⟨(19,iA i)::T,U⟩) (Lq ?_ ?_)
    .intro v hv;have B:=BQ s v M zB;have I:=gT z zB u v;have A:=A v hv;unfold EJ at A;rw[L,zA3]at A;by_cases h1:v=u
     .have C:(v:Int)=u:=by omega
      refine WW ?_;rfl
     have C:(v:Int)≠u:=by omega
     rw[zAu h1,zA3]at A
     cases h2:mc s v with
     |false=>
      rw[h2]at B;refine zS B ?_;rfl
     |true=>
      rw[h2,zA3]at A;rw[h2]at B;rw[A]at I;refine yG (xV B I) ?_;rfl
    ·(refine WW ?_)
     exact⟨zB,rfl⟩
  .rintro st ⟨hup,rfl⟩;exfalso;omega
 .have A:∀a b,a<ln z->b<ln z->EJ z s a b=false:=λa b V hb=>by
   cases G:EJ z s a b with
   |false=>rfl
   |true=>exact absurd ⟨a,V,b,hb,G⟩ hx
  refine⟨-1,-1,?_,.inl ⟨rfl,A⟩⟩;clear hx;refine eM call317 λF hF=>?_
  refine WW ?_;refine zO (ln z) [] [] [0,1,9] [10,0,1,9] Z (λi T U=>⟨(10,iA i)::T,U⟩) (Lq ?_ ?_)
  .intro u hu;have E:=BQ s u M zB
   cases L:mc s u with
   |false=>
    rw[L]at E;refine zS E ?_;rfl
   |true=>
   rw[L]at E;refine zS E ?_;refine zO (ln z) [] [] [0,1,6,9,10,18] [19,0,1,6,9,10,18] Z (λi T U=>⟨(19,iA i)::T,U⟩) (Lq ?_ ?_)
   .intro v hv;have B:=BQ s v M zB;have I:=gT z zB u v;have A:=A u v hu hv;unfold EJ at A;rw[L,zA3]at A;by_cases h1:v=u
    .have C:(v:Int)=u:=by omega
     refine WW ?_;rfl
    have C:(v:Int)≠u:=by omega
    rw[zAu h1,zA3]at A
    cases h2:mc s v with
    |false=>
     rw[h2]at B;refine zS B ?_;rfl
    |true=>
     rw[h2,zA3]at A;rw[h2]at B;rw[A]at I;refine yG (xV B I) ?_;rfl
   ·(refine WW ?_)
    rfl
  .exact ly
def BR (j:Jn) (z:ln j.ph<=1000) (u:∀p:Nat,p<ln j.ph->0<=(yF j p).group/\(yF j p).group<=3):zN 319 [wJ j] [] (iA (gM j)) []:=by
 have hl:=zA xN j.ph;unfold gM;refine eM call319 λF hF=>?_
 refine WW ?_;refine zO (ln j.ph) [] [] [7,8] [3,9,7,8] Z (λi T U=>⟨(3,iA (Aa j.ph i))::(9,iA i)::T,U⟩) (Lq ?_ ?_)
 .intro i hi;have A:=zJ xN j.ph i hi;have hb:=u i hi;unfold yF at hb;have e:Aa j.ph (i+1)=max (Aa j.ph i) ((j.ph.getD i dd).group+1):=rfl;rw[e];generalize Aa j.ph i=g,j.ph.getD i dd=t at *;refine WW ?_;rfl
 .exact ly
def VH (j:Jn) (r g:Int) (i:Nat):List Nat:=(pb i).filter λp=>(yF j p).ring==r&&(yF j p).group==g
theorem BS (j:Jn) (r g:Int) (i:Nat):VH j r g (i+1)=if(yF j i).ring=r/\(yF j i).group=g then VH j r g i++[i]else VH j r g i:=by grind [VH,yF,List.range_succ,Bool.and_eq_false_iff]
def yf {α:Type} (f:α->AV) (l:List α):AV.sl false ((l.map f).take (l.map f).length)=zE f l:=by rw[zAt];rfl
def nA (p:Nat):AV:=iA (p:Int)
def E9 (j:Jn) (C:ln j.ph<=1000) (r g:Int):zN 321 [wJ j,iA r,iA g] [] (zE nA (VH j r g (ln j.ph))) []:=by
 have hl:=zA xN j.ph;refine eM call321 λF hF=>?_
 refine WW ?_;refine zQ 7 1001 1 Z Z Z ?_;refine zO (ln j.ph) [1001] [] [1,2,11,12] [7,13,1,2,11,12] Z (λi T U=>⟨(7,.ref 1001 0 ((VH j r g i).map nA).length)::(13,iA i)::T,(1001,.arr 1 ((VH j r g i).map nA) true)::U⟩) (Lq ?_ ?_)
 .intro i hi;have B:=zJ xN j.ph i hi
  change (j.ph.map xN)[i]? =some (xN (yF j i))at B
  have z:=BS j r g i
  have u:(VH j r g i).length<=1000:=by
   have:(VH j r g i).length<=(pb i).length:=zCh _ _;rw[zB9]at this;omega
  have A:((VH j r g i).map nA).length<=1000:=by rw[zAr];exact u
  rw[z];generalize VH j r g i=o,yF j i=t at *;by_cases h1:t.ring=r
  .by_cases h2:t.group=g
   .rw[f5 ⟨h1,h2⟩,zAy];generalize o.map nA=xs at *;refine WW ?_;rfl
   .rw[Os (λh=>h2 h.2)];refine WW ?_;rfl
  .rw[Os (λh=>h1 h.1)];refine WW ?_;rfl
 ·(refine WW ?_)
  exact zH [] Z Z (yf _ _) Z
def GK (l:List Nat) (x:Int):Bool:=l.any λp:Nat=>(p:Int)==x
def Xm (l:List Nat) (M:ln l<=1000) (x:Int):∃k:Int,zN 360 [zE nA l,iA x] [] (iA k) []/\ -1<=k/\k<1000/\(GK l x=decide (0<=k)):=by
 have hl:=zA nA l;by_cases hx:∃i,i<ln l/\((l.getD i dd:Nat):Int)=x
 .obtain⟨I,h1,h2⟩:=hx;obtain⟨k,_,⟨hk,C⟩,B⟩:=NW (P:=λi=>i<ln l/\((l.getD i dd:Nat):Int)=x) I ⟨h1,h2⟩;refine⟨k,?_,zB,zB,?_⟩
  ·(refine eM call360 λF hF=>?_)
   refine WW ?_;refine yU (ln l) [] [] [0,1,7] [8,0,1,7] Z (λi T U L=>(i<=k)/\L=⟨(8,iA i)::T,U⟩) (Lp ?_ ?_ ?_)
   .exact⟨zA9 _,rfl⟩
   .rintro u st z ⟨huk,rfl⟩;have A:=zJ nA l u z;by_cases e:u=k
    .subst e;generalize l.getD u dd=v at *;unfold nA at A;exact ly
    .have E:¬((l.getD u dd:Nat):Int)=x:=λh=>B u zB ⟨z,h⟩
     generalize l.getD u dd=v at *;unfold nA at A;refine WW ?_;exact⟨zB,rfl⟩
   .rintro st ⟨huk,rfl⟩;exfalso;omega
  .rw[zAu zB];unfold GK;rw[zCi];exact⟨l.getD k dd,by simp[pi,hk],by rw[zB8];exact C⟩
 .refine⟨-1,?_,zB,zB,?_⟩
  ·(refine eM call360 λF hF=>?_)
   refine WW ?_;refine zO (ln l) [] [] [0,1,7] [8,0,1,7] Z (λi T U=>⟨(8,iA i)::T,U⟩) (Lq ?_ ?_)
   .intro u z;have A:=zJ nA l u z;have E:¬((l.getD u dd:Nat):Int)=x:=λh=>hx ⟨u,z,h⟩
    generalize l.getD u dd=v at *;unfold nA at A;clear hx;refine WW ?_;rfl
   .clear hx;exact ly
  .rw[zAs zB];unfold GK;rw[zDa];intro p G;obtain⟨i,hi,rfl⟩:=zC8 G;intro h;rw[zB8]at h;exact hx ⟨i,hi,by simpa [pi,hi]using h⟩
def tc (l:List Nat) (z:ln l<=1000) (x:Int):zN 320 [zE nA l,iA x] [] (bA (GK l x)) []:=by
 obtain⟨k,c,h1,h2,u⟩:=Xm l z x;rw[u];by_cases h:0<=k
 .rw[zAu h];refine eM call320 λF hF=>?_
  exact ng c
 .rw[zAs h];refine eM call320 λF hF=>?_
  exact ng c
def Wm (l:Li):zN 362 [xE l] [] (bA (l.lamp != 0)) []:=by
 by_cases h:l.lamp=0
 .rw[show(l.lamp != 0)=false by simp[h]];refine eM call362 λF hF=>?_
  exact ly
 .rw[show(l.lamp != 0)=true by simp[h]];refine eM call362 λF hF=>?_
  exact ly
def G0 (c:Ct) (O:ln c.li<=1000):∃k:Int,zN 388 [zE xE c.li,.fn 362 []] [] (iA k) []/\ -1<=k/\k<1000/\(zb c= !decide (0<=k)):=by
 have hl:=zA xE c.li;by_cases hx:∃i,i<ln c.li/\(xS c i).lamp≠0
 .obtain⟨L,h1,h2⟩:=hx;obtain⟨k,_,⟨hk,A⟩,E⟩:=NW (P:=λi=>i<ln c.li/\(xS c i).lamp≠0) L ⟨h1,h2⟩;refine⟨k,?_,zB,zB,?_⟩
  ·(refine eM call388 λF hF=>?_)
   refine WW ?_;refine yU (ln c.li) [] [] [0,1,7] [8,0,1,7] Z (λi T U M=>(i<=k)/\M=⟨(8,iA i)::T,U⟩) (Lp ?_ ?_ ?_)
   .exact⟨zA9 _,rfl⟩
   .rintro u st B ⟨huk,rfl⟩;have I:=zJ xE c.li u B
    change (c.li.map xE)[u]? =some (xE (xS c u))at I
    have z:=Wm (xS c u);by_cases e:u=k
    .subst e;rw[show((xS c u).lamp != 0)=true by simpa using A]at z;generalize xS c u=v at *;exact ng z
    .have G:(xS c u).lamp=0:=zDc λh=>E u zB ⟨B,h⟩
     rw[show((xS c u).lamp != 0)=false by simpa using G]at z;generalize xS c u=v at *;refine zS z ?_;exact⟨zB,rfl⟩
   .rintro st ⟨huk,rfl⟩;exfalso;omega
  .rw[zAu zB];unfold zb;exact zDy.2 ⟨xS c k,by simp[xS,pi,hk],by simpa using A⟩
 .have C:∀i,i<ln c.li->(xS c i).lamp=0:=λi hi=>zDc λh=>hx ⟨i,hi,h⟩
  refine⟨-1,?_,zB,zB,?_⟩
  .clear hx;refine eM call388 λF hF=>?_
   refine WW ?_;refine zO (ln c.li) [] [] [0,1,7] [8,0,1,7] Z (λi T U=>⟨(8,iA i)::T,U⟩) (Lq ?_ ?_)
   .intro u B;have I:=zJ xE c.li u B
    change (c.li.map xE)[u]? =some (xE (xS c u))at I
    have z:=Wm (xS c u);have C:=C u B;rw[show((xS c u).lamp != 0)=false by simpa using C]at z;generalize xS c u=v at *;refine zS z ?_;rfl
   .exact ly
  .rw[zAs zB];unfold zb;rw[zEp,zA5];intro l hl;obtain⟨i,hi,rfl⟩:=zC8 hl;have:=C i hi;simpa [xS,pi,hi]using this
def BT (c:Ct) (B:ln c.li<=1000):zN 322 [JM c] [] (bA (zb c)) []:=by
 obtain⟨k,u,h1,h2,A⟩:=G0 c B
 have z:zN 361 [zE xE c.li,.fn 362 []] [] (bA (decide (0<=k))) []:=by
  by_cases h:0<=k
  .rw[zAu h];refine eM call361 λF hF=>?_
   exact ng u
  .rw[zAs h];refine eM call361 λF hF=>?_
   exact ng u
 rw[A]
 cases hd:decide (0<=k)<;>rw[hd]at z
 all_goals
  (refine eM call322 λF hF=>?_)
  exact ng z
def j9 (j:Jn) (c:Ct):Bool:=(pb (ln j.ph)).all λp=>Ba (yF j p) (xS c p)
def v7 (j:Jn) (c:Ct):Bool:=(pb (ln j.cf)).all λa=>(pb (ln j.cf)).all λb=>!EJ j.cf (LN c) a b
def Vm (j:Jn) (c:Ct) (r:Nat):Bool:=decide (c.nx.getD r dd= -1)||GK (VH j r c.gr (ln j.ph)) (c.nx.getD r dd)
def F0 (j:Jn) (c:Ct):Bool:=decide (ln c.li=ln j.ph/\c.nx.length=2)&&(j9 j c&&(v7 j c&&(decide (0<=c.gr/\c.gr<gM j)&&((pb 2).all (Vm j c)&&(decide (0<=c.wt/\c.wt<=j.st)&&(decide (c.wt=0)||zb c))))))
structure JB (j:Jn):Prop where
 n:j.ph.length<=8
 c:j.cf.length<=8
 gp:∀p:Nat,p<j.ph.length->0<=(yF j p).group/\(yF j p).group<=3
theorem JV.b (J:JV j):JB j:=⟨J.n.2,by rw[J.c];exact J.n.2,J.gp⟩
theorem u7 {n:Nat} (h:n<=8):p2 (n:Int)<=256:=by
 have:n=0\/n=1\/n=2\/n=3\/n=4\/n=5\/n=6\/n=7\/n=8:=by omega
 grind [p2]
theorem ku (j:Jn) (J:JB j) (c:Ct):zN 281 [wJ j,JM c] [] (bA (F0 j c)) []:=by
 have a2:=zA xN j.ph;have az:=zA xE c.li;have a1:=zA iA c.nx;have a3:=J.n;unfold F0;by_cases h1:ln c.li=ln j.ph
 case neg=>
  rw[zAs (λh=>h1 h.1)];refine eM call281 λF hF=>?_
  exact ly
 by_cases h2:ln c.nx=2
 case neg=>
  rw[zAs (λh=>h2 h.2)];refine eM call281 λF hF=>?_
  exact ly
 rw[zAu ⟨h1,h2⟩,zA3];have cs:=A6 c zB;have au:=VO (RA c) (ln c.li) zB;have a4:=u7 (n:=ln c.li) zB
 change 0<=LN c/\LN c<p2 (ln c.li) at au
 obtain⟨cp,cq,B,C⟩:=Ym j.cf J.c (LN c) zB
 have ap:v7 j c=decide (cp= -1):=by
  unfold v7
  rcases C with⟨h3,h4⟩|⟨h3,a,b,ha,hb,h4⟩
  .rw[zAu h3,zA5];intro a ha;rw[zA5];intro b hb;rw[h4 a b (zBi.1 ha) (zBi.1 hb)];rfl
  .rw[zAs zB,zDy];refine⟨a,zBi.2 ha,?_⟩;rw[zEd,zDy];exact⟨b,zBi.2 hb,by rw[h4];decide⟩
 have ax:cp= -1\/0<=cp:=by
  rcases C with h|h
  .exact .inl h.1
  .exact .inr h.1
 have I:=BR j zB J.gp;have ca:=BT c zB;clear C;rw[ap];generalize LN c=se,gM j=gm at *;generalize a5:zb c=ra at *;refine eM call281 λF hF=>?_
 refine WW ?_;refine yU (ln j.ph) [2,3] [2,3] [2,3,25,26] [27,2,3,25,26] Z (λi T U zs=>(∀s:Nat,s<i->Ba (yF j s) (xS c s)=true)/\zs=⟨(27,iA i)::T,U⟩) (Lp ?_ ?_ ?_)
 .exact⟨λs W=>absurd W (zCm _),rfl⟩
 .rintro i st hi ⟨hp,rfl⟩;have hy:=zJ xN j.ph i hi;have av:=zJ xE c.li i zB
  change (j.ph.map xN)[i]? =some (xN (yF j i))at hy
  change (c.li.map xE)[i]? =some (xE (xS c i))at av
  have cv:=sm (yF j i) (xS c i)
  cases V:Ba (yF j i) (xS c i)with
  | true=>
   rw[V]at cv
   have ar:∀s:Nat,s<i+1->Ba (yF j s) (xS c s)=true:=λs W=>by
    by_cases G:s=i
    .subst G;assumption
    .exact hp s zB
   clear V hp;generalize yF j i=t,xS c i=l at *;clear cs B I ca;refine zS cv ?_;exact⟨ar,rfl⟩
  |false=>
   have u:j9 j c=false:=zDy.2 ⟨i,zBi.2 hi,by rw[V];decide⟩;rw[V]at cv;rw[u,zBt];clear V hp;generalize yF j i=t,xS c i=l at *;clear cs B I ca;exact ng cv
 .rintro st ⟨hp,rfl⟩;have u:j9 j c=true:=zA5.2 λi hi=>hp i (zBi.1 hi)
  rw[u,zA3];clear hp u;by_cases M:cp= -1
  case neg=>
   rw[zAs M];exact mx (xV cs B)
  rw[zAu M,zA3];by_cases O:0<=c.gr
  case neg=>
   rw[zAs (λh=>O h.1)];exact mx (qM cs B I)
  by_cases R:c.gr<gm
  case neg=>
   rw[zAs (λh=>R h.2)];exact mx (qM cs B I)
  rw[zAu ⟨O,R⟩,zA3];refine yG (qM cs B I) ?_;refine yU (ln c.nx) [2,3] [2,3] [2,3,62,63] [64,2,3,62,63] Z (λi T U zs=>(∀s:Nat,s<i->Vm j c s=true)/\zs=⟨(64,iA i)::T,U⟩) (Lp ?_ ?_ ?_)
  .exact⟨λs W=>absurd W (zCm _),rfl⟩
  .rintro i st hi ⟨hp,rfl⟩;have hy:=zJ iA c.nx i hi;have co:=E9 j zB i c.gr
   have S:(VH j i c.gr (ln j.ph)).length<=1000:=by
    have:(VH j i c.gr (ln j.ph)).length<=(pb (ln j.ph)).length:=zCh _ _;rw[zB9]at this;omega
   have ch:=tc (VH j i c.gr (ln j.ph)) S (c.nx.getD i dd)
   have A:Vm j c i=true->∀s:Nat,s<i+1->Vm j c s=true:=λh s W=>by
    by_cases G:s=i
    .subst G;exact h
    .exact hp s zB
   have ag:Vm j c i=false->((pb 2).all (Vm j c))=false:=λh=>zDy.2 ⟨i,zBi.2 zB,by rw[h];decide⟩
   have L:Vm j c i=(decide (c.nx.getD i dd= -1)||GK (VH j i c.gr (ln j.ph)) (c.nx.getD i dd)):=rfl;clear hp cs B I ca;generalize VH j i c.gr (ln j.ph)=o at *;generalize GK o (c.nx.getD i dd)=hb at *;generalize c.nx.getD i dd=x,Vm j c i=q at *;by_cases hx:x= -1
   .rw[zAu hx]at L;have E:=A L;refine WW ?_;exact⟨E,rfl⟩
   rw[zAs hx,zC5]at L
   cases hb with
   |true=>
    have E:=A L;refine yG (xV co ch) ?_;exact⟨E,rfl⟩
   |false=>
    rw[ag L,zBt];exact mx (xV co ch)
  .rintro st ⟨hp,rfl⟩;have z:((pb 2).all (Vm j c))=true:=zA5.2 λi hi=>hp i (by have:=zBi.1 hi;omega)
   rw[z,zA3];clear hp z;by_cases Y:0<=c.wt
   case neg=>
    rw[zAs (λh=>Y h.1)];exact ly
   by_cases ac:c.wt<=j.st
   case neg=>
    rw[zAs (λh=>ac h.2)];exact ly
   rw[zAu ⟨Y,ac⟩,zA3];by_cases hz:c.wt=0
   .rw[zAu hz];exact ly
   .rw[zAs hz,zC5];exact ng ca
theorem E0 (J:JV j) (C:CV j c):F0 j c=true:=by
 have O:=C.n;have R:=J.n;unfold F0;have h1:j9 j c=true:=zA5.2 λp L=>C.k p (zBi.1 L)
 have h2:v7 j c=true:=by
  unfold v7;rw[zA5];intro a u;rw[zA5];intro b hb;have u:=zBi.1 u;have hb:=zBi.1 hb;rw[J.c]at u hb
  have A:∀p:Nat,p<ln j.ph->mc (LN c) p=RA c p:=λp L=>by
   unfold LN;have e:=GJ (λq=>decide (q<ln c.li)&&RA c q) (ln c.li) 8 zB (λi h1 h2=>by rw[zAs zB];rfl)
   grind [F0,hH,RA,bT,Zm]
  rw[zC9];unfold EJ;rw[A a u,A b hb];by_cases B:b=a
  .grind
  .cases G:RA c a with
   |false=>rfl
   | true=>
    cases I:RA c b with
    |false=>simp
    |true=>
     rw[C.x a b u hb (λh=>B h.symm) (by simpa [RA]using G) (by simpa [RA]using I)];simp
 have M:((pb 2).all (Vm j c))=true:=zA5.2 λr E=>by
  have E:=zBi.1 E;unfold Vm
  rcases C.v r E with h|h
  .grind
  .have:GK (VH j r c.gr (ln j.ph)) (c.nx.getD r dd)=true:=by
    unfold GK;rw[zCi];obtain⟨a,b,d,e⟩:=h
    grind [F0,VH]
   grind
 rw[zAu ⟨O,C.m⟩,h1,h2,zAu C.g,M,zAu C.w];simp only[zA3]
 rcases C.z with h|h
 .grind
 .have:zb c=true:=by
   grind [F0,zb,List.all_eq_true,List.getElem_of_mem,xS,pi]
  grind
theorem D9 (y:Int):jI y 1=0\/jI y 1=1:=by
 show IntKind.i64.wrap (BitVec.ofInt 64 y &&& BitVec.ofInt 64 1).toNat=0\/IntKind.i64.wrap (BitVec.ofInt 64 y &&& BitVec.ofInt 64 1).toNat=1
 have e1:BitVec.ofInt 64 1=1#64:=by decide
 have h:(BitVec.ofInt 64 y &&& BitVec.ofInt 64 1).toNat=(BitVec.ofInt 64 y).toNat % 2:=by
  grind
 rw[h];have h2:(BitVec.ofInt 64 y).toNat % 2=0\/(BitVec.ofInt 64 y).toNat % 2=1:=by omega
 rcases h2 with h2|h2<;>rw[h2]
 .exact .inl yY
 .exact .inr yY
theorem GL {u:List Int} {q:Nat} (z:p<ln u) (A:q<ln u):jI (vT (u.getD p dd) q) 1=if kK u p q=true then 1 else 0:=by
 unfold kK;rw[zAu zB,zA3,zBf]
 grind [jI,vT,kK,D9]
theorem C9 {x:Int} {n:Nat} (h:0<=x/\x<2 ^ n):vT x n=0:=by grind [vT,Int.toNat_natCast,Int.fdiv_eq_zero_of_lt]
def Oh (j:Jn) (J:JV j):zN 202 [zE iA j.cf] [] (bA true) []:=by
 have hl:=zA iA j.cf;have I:=J.n;have hc:=J.c;refine eM call202 λF hF=>?_
 refine WW ?_;refine zO (ln j.cf) [] [] [0,14,15] [16,0,14,15] Z (λi T U=>⟨(16,iA i)::T,U⟩) (Lq ?_ ?_)
 .intro u B;have L:=zJ iA j.cf u B;have A:=J.row u zB;have E:=C9 A;rw[<-hc,<-hl]at E;have C:=GL (p:=u) (q:=u) B B;rw[J.ir u zB,Os yY]at C
  have z:∀v,v<ln j.cf->jI (vT (j.cf.getD u dd) v) 1=jI (vT (j.cf.getD v dd) u) 1:=λv hv=>by
   rw[GL B hv,GL hv B,J.sy u v zB zB]
  generalize j.cf.getD u dd=x at *;refine WW ?_;refine zO (ln j.cf) [] [] [0,3,4,14,15,16,38] [39,0,3,4,14,15,16,38] Z (λi T U=>⟨(39,iA i)::T,U⟩) (Lq ?_ ?_)
  .intro v hv;have G:=zJ iA j.cf v hv;have z:=z v hv;generalize j.cf.getD v dd=y at *;refine WW ?_;rfl
  .clear z;refine WW ?_;rfl
 .exact ly
def UX (n a b:Int) (h:a<=n/\n<=b):zN 148 [iA n,iA a,iA b] [] (bA true) []:=by
 obtain⟨h1,h2⟩:=h;refine eM call148 λF hF=>?_
 exact ly
def Um (j:Jn) (J:JV j) (p:Nat) (z:p<ln j.ph):zN 203 [xN (yF j p)] [] (bA true) []:=by
 have V:=J.rg p z;have U:=J.gp p z;obtain⟨W,t2,t3,t4,t5,t6,t7,t8,t9,A,B,Y,u⟩:=J.ti p z;generalize yF j p=t at *;have C:=UX t.ring 0 1 V;have E:=UX t.group 0 3 U;have G:=UX t.ming 1 60 ⟨W,zB⟩;have I:=UX t.maxg 1 60 ⟨zB,t3⟩;have L:=UX t.yel 1 60 ⟨t4,t5⟩;have M:=UX t.red 0 60 ⟨t6,t7⟩;have O:=UX t.walk 0 60 ⟨t8,t9⟩;have R:=UX t.clear 0 60 ⟨A,B⟩;by_cases S:t.walk=0
 .have h1:=u.1 S;clear u;refine eM call203 λF hF=>?_
  exact mx (zy C E G I L M O R)
 .have h1:¬t.clear=0:=λh=>S (u.2 h)
  clear u;refine eM call203 λF hF=>?_
  exact mx (zy C E G I L M O R)
def Tm (j:Jn) (J:JV j):zN 204 [wJ j] [] (bA true) []:=by
 have hl:=zA xN j.ph;have L:=J.n;have hc:=J.c;refine eM call204 λF hF=>?_
 repeat' (first|(apply zG;first|refine uL tok Z Z ?_|refine YU tok Z Z Z Z ?_|apply kP)|first|refine SQ ?_|fail|apply bU|apply bV|apply xC)
 refine zO (ln j.ph) [1] [1] [1,9,10] [3,11,1,9,10] Z (λi T U=>⟨(3,bA true)::(11,iA i)::T,U⟩) (Lq ?_ ?_)
 .intro u G;have I:=zJ xN j.ph u G
  change (j.ph.map xN)[u]? =some (xN (yF j u))at I
  refine WW ?_;refine zO (ln j.ph) [1,5] [1,5] [1,4,5,9,10,11,17,18] [3,19,1,4,5,9,10,11,17,18] Z (λi T U=>⟨(3,bA true)::(19,iA i)::T,U⟩) (Lq ?_ ?_)
  .intro v hv;have E:=zJ xN j.ph v hv
   change (j.ph.map xN)[v]? =some (xN (yF j v))at E
   have B:=gT j.cf zB u v;have z:=J.ap u v G hv;by_cases A:u=v
   .have C:(u:Int)=v:=by omega
    clear z;generalize yF j u=a,yF j v=b at *;refine WW ?_;rfl
   have C:¬(u:Int)=v:=by omega
   by_cases h1:(yF j u).ring=(yF j v).ring
   .rw[z A (.inl h1)]at B;clear z;generalize yF j u=a,yF j v=b at *;refine zS B ?_;rfl
   by_cases h2:(yF j u).group=(yF j v).group
   .clear z;generalize yF j u=a,yF j v=b at *;refine WW ?_;rfl
   .rw[z A (.inr h2)]at B;clear z;generalize yF j u=a,yF j v=b at *;refine zS B ?_;rfl
  .generalize yF j u=a at *;refine WW ?_;rfl
 .exact ly
def LW (j:Jn) (i:Nat) (g:Nat):Bool:=(pb i).any λp=>(yF j p).group==(g:Int)
theorem Sm (j:Jn) (i:Nat):LW j (i+1)=λg=>LW j i g||((yF j i).group==(g:Int)):=by grind [LW,yF]
def j7 (g:Nat) (h:g<4):p2 (g:Int)=hH (λx:Nat=>(g:Int)==(x:Int)) 8:=by
 have:g=0\/g=1\/g=2\/g=3:=by omega
 rcases this with rfl|rfl|rfl|rfl<;>decide
theorem B9:∀A u z B:Bool,(u=true->A=true)->(z=true->u=true)->(B=true->z=true)->jI (hH (bq A u z B false false false false) 8) (hH (bq A u z B false false false false) 8+1)=0:=by decide +kernel
theorem ju (j:Jn) (J:JV j):jI (hH (LW j (ln j.ph)) 8) (hH (LW j (ln j.ph)) 8+1)=0:=by
 have u:∀g:Nat,4<=g->LW j (ln j.ph) g=false:=λg A=>by
  unfold LW;rw[zDa];intro p z;have:=J.gp p (zBi.1 z);simp;omega
 have hd:∀g:Nat,LW j (ln j.ph) (g+1)=true->LW j (ln j.ph) g=true:=λg h=>by
  unfold LW at h⊢;rw[zCi]at h⊢;obtain⟨p,z,A⟩:=h;rw[zB8]at A;obtain⟨q,C,B⟩:=J.lo p (zBi.1 z) g zB zB
  grind
 have e:hH (LW j (ln j.ph)) 8=hH (bq (LW j (ln j.ph) 0) (LW j (ln j.ph) 1) (LW j (ln j.ph) 2) (LW j (ln j.ph) 3) false false false false) 8:=bT 8 λi hi=>by
  match i,hi with
  |0,_=>rfl|1,_=>rfl|2,_=>rfl|3,_=>rfl
  |4,_=>exact u 4 zB
  |5,_=>exact u 5 zB
  |6,_=>exact u 6 zB
  |7,_=>exact u 7 zB
  |i+8,h=>omega
 grind [jI,hH,LW,B9]
def BU (j:Jn) (J:JV j):zN 149 [wJ j] [] (bA true) []:=by
 have hl:=zA xN j.ph;have S:=zA iA j.cf;have hn:=J.n;have hc:=J.c;have E:=Oh j J;have G:=UX j.st 0 60 J.st;have I:=Tm j J;have R:=ju j J;have O:=VO (LW j (ln j.ph)) 8 zB;have V:p2 ((8:Nat):Int)=256:=by decide
 refine eM call149 λF hF=>?_
 refine yG (xV E G) ?_;refine zO (ln j.ph) [1] [1] [1,34,35] [4,36,1,34,35] Z (λi T U=>⟨(4,iA (hH (LW j i) 8))::(36,iA i)::T,U⟩) (Lq ?_ ?_)
 .intro u C;have W:=zJ xN j.ph u C
  change (j.ph.map xN)[u]? =some (xN (yF j u))at W
  have M:=Um j J u C;have Y:=J.gp u C;have B:=Sm j u;obtain⟨L,A⟩:∃n:Nat,(yF j u).group=n:=⟨(yF j u).group.toNat,zB⟩;have z:=ao (LW j u) (λx:Nat=>(L:Int)==(x:Int));rw[<-j7 L zB]at z;rw[A]at B;rw[B,<-z];generalize hH (LW j u) 8=b at *;rw[<-A];clear E G I z B;generalize yF j u=t at *;refine zS M ?_;rfl
 .generalize hH (LW j (ln j.ph)) 8=b at *;exact ng I
