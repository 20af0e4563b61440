/- Part 21. -/
import Derived.Test.YtaglbcjljlkjcaaGreatX14
namespace Go.Proofs.YtaglbcjljlkjcaaGreat.Av
open Tryz
set_option linter.all false
set_option maxRecDepth 4000
set_option maxHeartbeats 1000000
open List renaming length->ln,range->pb,getD->pi
open Inhabited renaming default->dd
variable {j:Jn}{p:Nat}
structure Li where
 lamp:Int
 tk:Int
structure Ct where
 li:List Li
 gr:Int
 nx:List Int
 wt:Int
variable {c:Ct}
instance:Inhabited Li:=⟨⟨0,0⟩⟩
def xG (l:Li):AV:= .agg [iA l.lamp,iA l.tk]
def JK (c:Ct):AV:= .agg [zE xG c.li,iA c.gr,zE iA c.nx,iA c.wt]
def kH (u:List Int) (p q:Int):Bool:=decide (0<=p/\0<=q/\p<ln u/\q<ln u)&&(jF (vX (u.getD p.toNat dd) q) 1==1)
def Fe (p:Ph):Int:=max p.ming (p.walk+p.clear)
def CR (p:Ph) (l:Li) (lv:Bool):Li:=
 if l.lamp=1 then(if lv=true/\Fe p<=l.tk+1 then⟨2,0⟩else⟨1,min (l.tk+1) 1073741824⟩)
 else if l.lamp=2 then(if l.tk+1<p.yel then⟨2,l.tk+1⟩else if p.red=0 then⟨0,0⟩else⟨3,0⟩)
 else if l.lamp=3 then(if l.tk+1<p.red then⟨3,l.tk+1⟩else⟨0,0⟩)
 else l
def mb (p:Ph) (l:Li):Bool:=if l.lamp=0 then decide (l.tk=0)else if l.lamp=1 then decide (0<=l.tk/\l.tk<=1073741824)else if l.lamp=2 then decide (0<=l.tk/\l.tk<p.yel)else if l.lamp=3 then decide (0<=l.tk/\l.tk<p.red)else false
def yH (j:Jn) (p:Nat):Ph:=j.ph.getD p dd
def xS (c:Ct) (p:Nat):Li:=c.li.getD p dd
def Xh (j:Jn) (r g p:Int):Prop:=0<=p/\p<ln j.ph/\(yH j p.toNat).ring=r/\(yH j p.toNat).group=g
def rb (u:List Ph):Nat->Int
 |0=>0
 |i+1=>max (rb u i) ((u.getD i dd).group+1)
def dZ (j:Jn):Int:=rb j.ph (ln j.ph)
theorem Sl (u:List Ph) (n:Nat):∀i,i<n->(u.getD i dd).group+1<=rb u n:=by
 induction n with
 |zero=>intro i h;exact absurd h (zC3 _)
 |succ n z=>
  grind [rb]
def LV (j:Jn) (r:Int) (i:Nat):List Nat:=(pb i).filter λp=>(yH j p).ring==r
def QV (j:Jn) (r:Int):List Nat:=LV j r (ln j.ph)
theorem cS {r:Int} :p∈QV j r↔p<ln j.ph/\(yH j p).ring=r:=by grind [QV,yH,LV]
def jJ (j:Jn) (r g f:Int):Int:=match (QV j r).find? (λp:Nat=>decide (f<=(p:Int))&&(yH j p).group==g)with
 |some p=>p
 |none=> -1
theorem CS (j:Jn) (r g f:Int):jJ j r g f= -1\/Xh j r g (jJ j r g f)/\f<=jJ j r g f:=by
 unfold jJ;split
 .rename_i p h;have h1:=List.find?_some h;have h2:=cS.1 (zGj h)
  grind [jJ,Xh]
 .exact .inl Z
def LZ (j:Jn) (c:Ct) (g:Int):Ct:=⟨c.li,g,[jJ j 0 g 0,jJ j 1 g 0],c.wt⟩
def dT (j:Jn) (c:Ct) (p:Int):Bool:=(pb (ln c.li)).any λq=>(xS c q).lamp != 0&&kH j.cf p q
def CT (c:Ct) (p:Nat):Ct:=⟨c.li.set p ⟨1,0⟩,c.gr,c.nx,c.wt⟩
def NP (j:Jn) (c:Ct) (p:Nat):Ct:=if c.gr=(yH j p).group then CT c p else LZ j (CT c p) (yH j p).group
def uY (j:Jn) (c:Ct) (p:Nat):Ct:=
 if dT j c p=true then c
 else⟨(NP j c p).li,(NP j c p).gr,(NP j c p).nx.set (yH j p).ring.toNat (jJ j (yH j p).ring (yH j p).group (p+1)),(NP j c p).wt⟩
def RB (j:Jn) (c:Ct) (r:Int):Bool:=(QV j r).all λp=>(xS c p).lamp==0
def EV (j:Jn) (x r t:Int):Int:=match (QV j r).find? (λp:Nat=>!kH j.cf p t&&decide (x≠ -1/\x<=(p:Int)))with
 |some p=>p
 |none=>match (QV j r).find? (λp:Nat=>!kH j.cf p t)with
  |some p=>p
  |none=> -1
def aY (j:Jn) (c:Ct) (r:Int) (t:Nat):Int:=if r=(yH j t).ring then t else EV j (c.nx.getD r.toNat dd) r t
def jA (j:Jn) (t:Nat) (c:Ct) (r:Int):Ct:=if RB j c r=true then(if aY j c r t= -1 then c else uY j c (aY j c r t).toNat)else c
def ib (c:Ct):Bool:=c.li.all λl=>l.lamp==0
def Rl (c:Ct):Bool:=ib c&&c.nx.all λp=>p== -1
def qY (j:Jn) (c:Ct) (r:Int):Ct:=if RB j c r=true/\c.nx.getD r.toNat dd≠ -1 then uY j c (c.nx.getD r.toNat dd).toNat else c
def tj (j:Jn) (c:Ct):Ct:=qY j (qY j (if Rl c=true then LZ j c ((c.gr+1) % dZ j)else c) 0) 1
def ZO (j:Jn) (t:Int):Bool:=decide (0<=t/\t<ln j.ph)
def GE (j:Jn) (c:Ct) (t:Int) (p:Nat):Bool:=
 if ZO j t=true then decide ((p:Int)≠t)&&(decide ((yH j p).maxg<=(xS c p).tk+1)||kH j.cf p t)else decide ((yH j p).maxg<=(xS c p).tk+1)
def UK (j:Jn) (c:Ct) (t:Int):List Li:=(pb (ln j.ph)).map λp=>CR (yH j p) (xS c p) (GE j c t p)
def GF (j:Jn) (c:Ct) (t:Int):Ct:=
 if 0<c.wt then⟨c.li,c.gr,c.nx,c.wt-1⟩
 else if ZO j t=true then jA j t.toNat (jA j t.toNat ⟨UK j c t,c.gr,c.nx,c.wt⟩ 0) 1
 else tj j ⟨UK j c t,c.gr,c.nx,c.wt⟩
structure JV (j:Jn):Prop where
 n:1<=j.ph.length/\j.ph.length<=8
 c:j.cf.length=j.ph.length
 row:∀i,i<j.ph.length->0<=j.cf.getD i default/\j.cf.getD i default<2 ^ j.ph.length
 ir:∀p:Nat,p<j.ph.length->kH j.cf p p=false
 sy:∀p q:Nat,p<j.ph.length->q<j.ph.length->kH j.cf p q=kH j.cf q p
 ap:∀p q:Nat,p<j.ph.length->q<j.ph.length->p≠q->(yH j p).ring=(yH j q).ring\/(yH j p).group≠(yH j q).group->kH j.cf p q=true
 rg:∀p:Nat,p<j.ph.length->0<=(yH j p).ring/\(yH j p).ring<=1
 gp:∀p:Nat,p<j.ph.length->0<=(yH j p).group/\(yH j p).group<=3
 ti:∀p:Nat,p<j.ph.length->1<=(yH j p).ming/\(yH j p).ming<=(yH j p).maxg/\(yH j p).maxg<=60/\1<=(yH j p).yel/\(yH j p).yel<=60/\0<=(yH j p).red/\(yH j p).red<=60/\0<=(yH j p).walk/\(yH j p).walk<=60/\0<=(yH j p).clear/\(yH j p).clear<=60/\(yH j p).walk+(yH j p).clear<=(yH j p).maxg/\((yH j p).walk=0↔(yH j p).clear=0)
 lo:∀p:Nat,p<j.ph.length->∀g:Int,0<=g->g<(yH j p).group->∃q:Nat,q<j.ph.length/\(yH j q).group=g
 st:0<=j.st/\j.st<=60
structure CV (j:Jn) (c:Ct):Prop where
 n:c.li.length=j.ph.length
 k:∀p,p<j.ph.length->mb (yH j p) (xS c p)=true
 x:∀p q:Nat,p<j.ph.length->q<j.ph.length->p≠q->(xS c p).lamp≠0->(xS c q).lamp≠0->kH j.cf p q=false
 g:0<=c.gr/\c.gr<dZ j
 m:c.nx.length=2
 v:∀r:Nat,r<2->c.nx.getD r default= -1\/Xh j r c.gr (c.nx.getD r default)
 w:0<=c.wt/\c.wt<=j.st
 z:c.wt=0\/∀p,p<j.ph.length->(xS c p).lamp=0
theorem PW (J:JV j):1<=dZ j:=by
 have h1:=Sl j.ph (ln j.ph) 0 BS;have h2:=J.gp 0 BS
 grind [dZ,yH]
theorem Cx (j:Jn) (c:Ct) (g:Int):∀r:Nat,r<2->(LZ j c g).nx.getD r dd= -1\/Xh j r g ((LZ j c g).nx.getD r dd):=by
 intro r u;have:r=0\/r=1:=by omega
 grind [LZ,Xh,CS]
def Ee (C:CV j c) {g:Int} (u:0<=g/\g<dZ j):CV j (LZ j c g):=
 ⟨C.n,C.k,C.x,u,rfl,Cx j c g,C.w,C.z⟩
theorem Nt (c:Ct) (p q:Nat) (l:Li) (u:Int) (nx:List Int) (z:Int) (A:p<ln c.li):xS ⟨c.li.set p l,u,nx,z⟩ q=if q=p then l else xS c q:=by grind [nx,xS]
def X7 (J:JV j) (C:CV j c) (G:c.wt=0) (L:p<ln j.ph) (hk:dT j c p=false):CV j (CT c p):=by
 have hl:=C.n
 have E:∀q,xS (CT c p) q=if q=p then⟨1,0⟩else xS c q:=λq=>Nt c p q _ _ _ _ zB
 unfold dT at hk;rw[zDp]at hk
 have hc:∀q:Nat,q<ln j.ph->(xS c q).lamp≠0->kH j.cf p q=false:=λq u I=>by
  grind
 refine⟨by unfold CT;simpa using hl,λq u=>?_,λq r u B z h1 h2=>?_,C.g,C.m,C.v,C.w,.inl G⟩
 .rw[E];split
  .rfl
  .exact C.k q u
 .rw[E]at h1 h2;by_cases e1:q=p
  .grind
  .rw[Os e1]at h1;by_cases A:r=p
   .subst A;rw[J.sy q r u B];exact hc q u h1
   .rw[Os A]at h2;exact C.x q r u B z h1 h2
def W7 (J:JV j) (C:CV j c) (u:c.wt=0) (z:p<ln j.ph) (hk:dT j c p=false):CV j (NP j c p)/\(NP j c p).gr=(yH j p).group/\(NP j c p).wt=0:=by
 have h1:=X7 J C u z hk;unfold NP;split
 .rename_i h;exact⟨h1,h,u⟩
 .have A:=J.gp p z;have:=Sl j.ph (ln j.ph) p z;exact⟨Ee h1 ⟨A.1,by unfold dZ;unfold yH;omega⟩,rfl,u⟩
theorem Bx (J:JV j) (C:CV j c) (A:c.wt=0) (E:p<ln j.ph):CV j (uY j c p)/\(uY j c p).wt=0:=by
 unfold uY;split
 .exact⟨C,A⟩
 .rename_i hk;obtain⟨B,I,G⟩:=W7 J C A E (by simpa using hk);have L:=J.rg p E;refine⟨⟨B.n,B.k,B.x,B.g,by rw[zCk];exact B.m,λr u=>?_,B.w,B.z⟩,G⟩;have M:=CS j (yH j p).ring (yH j p).group (p+1);generalize jJ j (yH j p).ring (yH j p).group (p+1)=f at *;dsimp only
  have e:((NP j c p).nx.set (yH j p).ring.toNat f).getD r dd=if r=(yH j p).ring.toNat then f else(NP j c p).nx.getD r dd:=by
   simp only[zBj,zD5];split
   .rename_i h;subst h;rw[zA5 Z,B.m,zA5 u];rfl
   all_goals grind
  rw[e];split
  .grind
  .exact B.v r u
theorem CU (j:Jn) (x r t:Int):EV j x r t= -1\/∃p:Nat,EV j x r t=p/\p<ln j.ph/\(yH j p).ring=r/\kH j.cf p t=false:=by
 unfold EV;split
 .rename_i p h;have h1:=List.find?_some h;have h2:=cS.1 (zGj h)
  grind
 all_goals grind [EV,yH,kH,cS,List.mem_of_find?_eq_some,Bool.not_eq_true']
theorem Ql {r:Int} {t:Nat} (u:t<ln j.ph):aY j c r t= -1\/∃p:Nat,aY j c r t=p/\p<ln j.ph/\(yH j p).ring=r:=by grind [aY,yH,CU]
theorem Pl (J:JV j) (C:CV j c) (u:c.wt=0) {t:Nat} (z:t<ln j.ph) (r:Int):CV j (jA j t c r)/\(jA j t c r).wt=0:=by grind [jA,Ql,Int.toNat_natCast,Bx]
theorem RC (J:JV j) (C:CV j c) (u:c.wt=0) {r:Nat} (z:r<2):CV j (qY j c r)/\(qY j c r).wt=0:=by
 unfold qY;split
 .rename_i h;rw[zBx]at h⊢
  rcases C.v r z with h1|h1
  .grind
  .exact Bx J C u (by have:=h1.2.1;have:=h1.1;omega)
 .exact⟨C,u⟩
theorem V7 (J:JV j) (C:CV j c) (u:c.wt=0):CV j (tj j c):=by
 have h1:CV j (if Rl c=true then LZ j c ((c.gr+1) % dZ j)else c)/\(if Rl c=true then LZ j c ((c.gr+1) % dZ j)else c).wt=0:=by
  split
  .have:=PW J;exact⟨Ee C ⟨zEe _ zB,zDy _ zB⟩,u⟩
  .exact⟨C,u⟩
 have h2:=RC J h1.1 h1.2 (r:=0) zB;exact(RC J h2.1 h2.2 (r:=1) zB).1
theorem zAf {p:Ph} {l:Li} {lv:Bool} (z:1<=p.yel) (u:0<=p.red) (h:mb p l=true):mb p (CR p l lv)=true/\((CR p l lv).lamp≠0->l.lamp≠0):=by grind [mb,CR]
theorem Ol (t u:Int) (nx:List Int) (z:Int) (p:Nat) (A:p<ln j.ph):xS ⟨UK j c t,u,nx,z⟩ p=CR (yH j p) (xS c p) (GE j c t p):=by grind [nx,xS,UK,CR,yH,GE]
theorem Nl (J:JV j) (C:CV j c) (E:c.wt=0) (t:Int):CV j ⟨UK j c t,c.gr,c.nx,c.wt⟩:=by
 have B:=λp u=>zAf (lv:=GE j c t p) (by have:=J.ti p u;omega) (by have:=J.ti p u;omega) (C.k p u)
 refine⟨by simp[UK],λp u=>?_,λp q u A z h1 h2=>?_,C.g,C.m,C.v,C.w,.inl E⟩
 .grind [UK,Ol]
 .rw[Ol _ _ _ _ _ u]at h1;rw[Ol _ _ _ _ _ A]at h2;exact C.x p q u A z ((B p u).2 h1) ((B q A).2 h2)
theorem Ml (J:JV j) (C:CV j c) (t:Int):CV j (GF j c t):=by
 unfold GF;split
 .rename_i h;have u:=C.z;have B:=C.w;refine⟨C.n,C.k,C.x,C.g,C.m,C.v,by dsimp only;omega,?_⟩
  rcases u with u|u
  .omega
  .exact .inr u
 .have A:c.wt=0:=by have:=C.w;omega
  grind [GF,Nl,ZO,Pl,V7]
def gT (u:List Int) (C:ln u<=40) (p q:Int):zO 257 [zE iA u,iA p,iA q] [] (bA (kH u p q)) []:=by
 have hl:=zA iA u;unfold kH;by_cases h1:0<=p
 case neg=>
  rw[zA7 (λh=>h1 h.1)];refine eM call257 λF hF=>?_
  exact ly
 by_cases h2:0<=q
 case neg=>
  rw[zA7 (λh=>h2 h.2.1)];refine eM call257 λF hF=>?_
  exact ly
 by_cases z:p<ln u
 case neg=>
  rw[zA7 (λh=>z h.2.2.1)];refine eM call257 λF hF=>?_
  exact ly
 by_cases A:q<ln u
 case neg=>
  rw[zA7 (λh=>A h.2.2.2)];refine eM call257 λF hF=>?_
  exact ly
 rw[zA9 ⟨h1,h2,z,A⟩,zBh];have E:=yF iA u p h1 z;generalize u.getD p.toNat dd=x at *;by_cases B:jF (vX x q) 1=1
 .rw[show(jF (vX x q) 1==1)=true by rw[zCp];exact B];refine eM call257 λF hF=>?_
  exact ly
 .rw[show(jF (vX x q) 1==1)=false by rw[zB3];exact B];refine eM call257 λF hF=>?_
  exact ly
def Ax (p:Ph):Prop:=0<=p.walk/\p.walk<=60/\0<=p.clear/\p.clear<=60
def De (p:Ph) (h:Ax p):zO 209 [xN p] [] (iA (Fe p)) []:=by
 obtain⟨h1,h2,u,z⟩:=h;refine eM call209 λF hF=>?_
 exact ly
def Mt (p:Ph) (h:Ax p) (l:Li) (A: -1000000000000<=l.tk/\l.tk<=1000000000000) (lv:Bool):zO 282 [xN p,xG l,bA lv] [] (xG (CR p l lv)) []:=by
 have c:=De p h;unfold CR;by_cases h1:l.lamp=1
 .rw[zA5 h1];generalize Fe p=n at*
  cases lv with
  |false=>
   rw[Os (λh=>by cases h.1)];refine eM call282 λF hF=>?_
   exact ly
  |true=>
  by_cases h2:n<=l.tk+1
  .rw[zA5 ⟨rfl,h2⟩];refine eM call282 λF hF=>?_
   exact ng c
  .rw[Os (λh=>h2 h.2)];refine eM call282 λF hF=>?_
   exact ng c
 rw[Os h1];by_cases h2:l.lamp=2
 .rw[zA5 h2];by_cases u:l.tk+1<p.yel
  .rw[zA5 u];refine eM call282 λF hF=>?_
   exact ly
  rw[Os u];by_cases z:p.red=0
  .rw[zA5 z];refine eM call282 λF hF=>?_
   exact ly
  .rw[Os z];refine eM call282 λF hF=>?_
   exact ly
 rw[Os h2];by_cases u:l.lamp=3
 .rw[zA5 u];by_cases z:l.tk+1<p.red
  .rw[zA5 z];refine eM call282 λF hF=>?_
   exact ly
  .rw[Os z];refine eM call282 λF hF=>?_
   exact ly
 .rw[Os u];refine eM call282 λF hF=>?_
  exact ly
def Ll (p:Ph) (l:Li):zO 316 [xN p,xG l] [] (bA (mb p l)) []:=by
 unfold mb;by_cases u:l.lamp=0
 .rw[zA5 u];by_cases h:l.tk=0
  .rw[zA9 h];refine eM call316 λF hF=>?_
   exact ly
  .rw[zA7 h];refine eM call316 λF hF=>?_
   exact ly
 rw[Os u];by_cases h1:l.lamp=1
 .rw[zA5 h1];by_cases h:0<=l.tk
  .by_cases h':l.tk<=1073741824
   .rw[zA9 ⟨h,h'⟩];refine eM call316 λF hF=>?_
    exact ly
   .rw[zA7 (λk=>h' k.2)];refine eM call316 λF hF=>?_
    exact ly
  .rw[zA7 (λk=>h k.1)];refine eM call316 λF hF=>?_
   exact ly
 rw[Os h1];by_cases h2:l.lamp=2
 .rw[zA5 h2];by_cases h:0<=l.tk
  .by_cases h':l.tk<p.yel
   .rw[zA9 ⟨h,h'⟩];refine eM call316 λF hF=>?_
    exact ly
   .rw[zA7 (λk=>h' k.2)];refine eM call316 λF hF=>?_
    exact ly
  .rw[zA7 (λk=>h k.1)];refine eM call316 λF hF=>?_
   exact ly
 rw[Os h2];by_cases z:l.lamp=3
 .rw[zA5 z];by_cases h:0<=l.tk
  .by_cases h':l.tk<p.red
   .rw[zA9 ⟨h,h'⟩];refine eM call316 λF hF=>?_
    exact ly
   .rw[zA7 (λk=>h' k.2)];refine eM call316 λF hF=>?_
    exact ly
  .rw[zA7 (λk=>h k.1)];refine eM call316 λF hF=>?_
   exact ly
 .rw[Os z];refine eM call316 λF hF=>?_
  exact ly
theorem UL (j:Jn) (r:Int) (i:Nat):LV j r (i+1)=if(yH j i).ring=r then LV j r i++[i]else LV j r i:=by grind [LV,yH,List.range_succ]
theorem GG (j:Jn) (r:Int):∀n i,i<=n->∃l,LV j r n=LV j r i++l
 |0,i,h=>⟨[],by rw[Nat.le_zero.1 h];simp⟩
 | n+1,i,h=>by
  by_cases e:i=n+1
  .exact⟨[],by rw[e];simp⟩
  .obtain⟨l,hl⟩:=GG j r n i zB;rw[UL];split
   .exact⟨l++[n],by rw[hl,zBy]⟩
   .exact⟨l,hl⟩
def Wh (j:Jn) (r:Int):List (Nat×xV):=[(1003,.box [zE xN j.ph,zE iA j.cf,iA j.st]),(1004,.box [iA r])]
def Kl (j:Jn) (r:Int):zO 299 [wK j,iA r] [] (.fn 339 [.ptr 1003 0 0,.ptr 1004 0 0]) (Wh j r):=by
 refine eM call299 λF hF=>?_
 repeat' (first|(apply zG;first|refine qA (dN (v:=AV.agg _) 1003 Z Z) Z Z Z ?_|refine qA (dN (v:=AV.s _) 1004 Z Z) Z Z Z ?_|refine uN tok Z Z ?_|apply kR)|(first|apply xY|apply xR|refine uD Z ?_|refine yR Z ?_|refine yC Z ?_|refine wA Z (λhc=>?_) λhc=>?_|apply xJ|apply xL|apply xO|apply xC))
 exact zP [1003,1004] Z Z Z Z
def qc (j:Jn) (M:ln j.ph<=1000) (r:Int):UQ prog 339 [.ptr 1003 0 0,.ptr 1004 0 0] (Wh j r) ((QV j r).map λp:Nat=>[iA (p:Int)]):=by
 have hl:=zA xN j.ph;refine VB func339 Z (λargs w=>call339 args w) Z Z Z (λF y I B G=>?_);unfold Wh;refine WW ?_;refine zN (ln j.ph) [1003,1004] [1003,1004] [0,2,7,8] [9,1000000,0,2,7,8] Z (λi T U=>⟨(9,iA i)::(1000000,.gh (LV j r i).length)::T,U⟩) (Lq ?_ ?_)
 .intro i hi;have L:=zJ xN j.ph i hi;have A:=UL j r i
  change (j.ph.map xN)[i]? =some (xN (yH j i))at L
  by_cases E:(yH j i).ring=r
  .rw[zA5 E]at A;obtain⟨O,u⟩:=GG j r (ln j.ph) (i+1) zB;rw[A]at u⊢
   have z:((QV j r).map λp:Nat=>[iA (p:Int)])[(LV j r i).length]? =some [iA (i:Int)]:=by
    unfold QV;rw[u,zBe,zB9 zV,zCe (zBb _),zEj];rfl
   have C:=(zBw.1 z).1;rw[zBa];generalize ((QV j r).map λp:Nat=>[iA (p:Int)])=xs,(LV j r i).length=k,yH j i=t at *
   (repeat' (first|refine uT ?_|apply yW|apply xH|intro hc|(apply zG;apply xQ;first|(apply nf;refine GR B G Z Z z Z Z Z ?_ ?_))|(apply zG;first|refine SM ?_)|fail))
   .rfl
   .exact UR Z (.inr zB)
  .rw[Os E]at A;rw[A];generalize (LV j r i).length=k,yH j i=t at *;refine WW ?_;rfl
 .have e:(LV j r (ln j.ph)).length=((QV j r).map λp:Nat=>[iA (p:Int)]).length:=by rw[zA6];rfl
  refine WW ?_;exact ZQ Z (.inl e)
def bc (s p:Int):Bool:=jF (vX s p) 1==1
def Y1:∀(s:_root_.Fin 256) (p:_root_.Fin 8),uS BinOp.eql (IntKind.u64.wrap ((BitVec.ofInt IntKind.u64.bits (Int.fdiv (s.val:Int) (2 ^ min (p.val:Int).toNat IntKind.u64.bits)) &&& BitVec.ofInt IntKind.u64.bits 1).toNat:Int)) 1=bc s.val p.val:=by decide +kernel
def CW (s p:Int) (A:0<=s/\s<256) (z:0<=p/\p<8):zO 359 [iA s,iA p] [] (bA (bc s p)) []:=by
 have u:=Y1 ⟨s.toNat,zB⟩ ⟨p.toNat,zB⟩;rw[show((s.toNat:Nat):Int)=s by omega,show((p.toNat:Nat):Int)=p by omega]at u;generalize bc s p=q at *;subst u;refine eM call359 λF hF=>?_
 (repeat' (first|refine uT ?_|apply yW|apply xH|intro hc|(apply zG;first|(apply wT;refine wJ (OC Z Z) Z ?_))|fail))
 exact zH
theorem Jl (p:Nat->Bool) (i:Nat) (hi:i<8):bc (gB p 8) i=p i:=zg p i hi
def RD (c:Ct) (p:Nat):Bool:=(xS c p).lamp != 0
def GH (c:Ct):Int:=gB (RD c) (ln c.li)
theorem GI (p:Nat->Bool):∀n m:Nat,n<=m->(∀i,n<=i->i<m->p i=false)->gB p m=gB p n
 |n,0,h,_=>by rw[Nat.le_zero.1 h]
 |n,m+1,h,u=>by
  by_cases e:n=m+1
  .rw[e]
  .rw[gB,u m zB zB];exact GI p n m zB λi h1 h2=>u i h1 zB
theorem W1 (p:Nat->Bool) (n:Nat) (u:n<=25):Yj (gB p n) (p2 n)=gB p n+p2 n:=by
 have h1:=LA p n;have h2:(2:Nat) ^ n<=2 ^ 25:=zEz zB u;rw[AU,show p2 (n:Int)=((2 ^ n:Nat):Int) by unfold p2;simp,EB _ _ zB zB];have z:=Nat.two_pow_add_eq_or_of_lt h1 1
 grind
def U7 (c:Ct) (B:ln c.li<=25):zO 318 [JK c] [] (iA (GH c)) []:=by
 have hl:=zA xG c.li;unfold GH;refine eM call318 λF hF=>?_
 refine WW ?_;refine zN (ln c.li) [] [] [7,8] [3,9,7,8] Z (λi T U=>⟨(3,iA (gB (RD c) i))::(9,iA i)::T,U⟩) (Lq ?_ ?_)
 .intro i hi;have A:=zJ xG c.li i hi
  change (c.li.map xG)[i]? =some (xG (xS c i))at A
  have z:=W1 (RD c) i zB
  have e:gB (RD c) (i+1)=if RD c i=true then gB (RD c) i+p2 i else gB (RD c) i:=rfl
  rw[<-z]at e;have u:RD c i=((xS c i).lamp != 0):=rfl;rw[e,u];generalize gB (RD c) i=b,xS c i=t at *;by_cases h:t.lamp=0
  .rw[Os (by simp[h])];refine WW ?_;rfl
  .rw[zA5 (by simp[h])];refine WW ?_;rfl
 .exact ly
theorem NQ {P:Nat->Prop}:∀n,P n->∃m,m<=n/\P m/\∀k,k<m->¬P k:=by
 intro n
 induction n using Nat.strongRecOn with
 |_ n u=>
  grind
def EW (u:List Int) (s:Int) (p q:Nat):Bool:=bc s p&&(decide (q≠p)&&(bc s q&&kH u p q))
theorem Il (z:List Int) (hn:ln z<=8) (s:Int) (O:0<=s/\s<256):∃p q:Int,zO 317 [zE iA z,iA s] [] (.tup [iA p,iA q]) []/\((p= -1/\∀a b:Nat,a<ln z->b<ln z->EW z s a b=false)\/(0<=p/\∃a b:Nat,a<ln z/\b<ln z/\EW z s a b=true)):=by
 have hl:=zA iA z;by_cases M:∃a,a<ln z/\∃b,b<ln z/\EW z s a b=true
 .obtain⟨a,W,M⟩:=M;obtain⟨p,_,⟨hp,M⟩,Y⟩:=NQ (P:=λa=>a<ln z/\∃b,b<ln z/\EW z s a b=true) a ⟨W,M⟩;obtain⟨b,hb⟩:=M;obtain⟨q,_,⟨hq,hc⟩,ac⟩:=NQ (P:=λb=>b<ln z/\EW z s p b=true) b hb;refine⟨p,q,?_,.inr ⟨zB,p,q,hp,hq,hc⟩⟩
  have R:bc s p=true:=by
   unfold EW at hc;rw[zBg]at hc;exact hc.1
  refine eM call317 λF hF=>?_
  refine WW ?_;refine yU (ln z) [] [] [0,1,9] [10,0,1,9] Z (λi T U zs=>(i<=p)/\zs=⟨(10,iA i)::T,U⟩) (Lp ?_ ?_ ?_)
  .exact⟨zBn _,rfl⟩
  .rintro u st hu ⟨hup,rfl⟩;have E:=CW s u O zB;by_cases S:u=p
   .subst S;rw[R]at E;refine zS E ?_;refine yU (ln z) [] [] [0,1,6,9,10,18] [19,0,1,6,9,10,18] Z (λi T U zs=>(i<=q)/\zs=⟨(19,iA i)::T,U⟩) (Lp ?_ ?_ ?_)
    .exact⟨zBn _,rfl⟩
    .rintro v st hv ⟨hvq,rfl⟩;have B:=CW s v O zB;have I:=gT z zB u v;by_cases V:v=q
     .subst V;unfold EW at hc;simp only[zBg,zBc]at hc;rw[hc.2.2.1]at B;rw[hc.2.2.2]at I;have C:(v:Int)≠u:=by omega
      exact mx (xW B I)
     .have A:EW z s u v=false:=by
       cases G:EW z s u v with
       |false=>rfl
       |true=>exact absurd ⟨hv,G⟩ (ac v zB)
      unfold EW at A;rw[R,zBh]at A;by_cases h1:v=u
      .have C:(v:Int)=u:=by omega
       refine WW ?_;exact⟨zB,rfl⟩
      have C:(v:Int)≠u:=by omega
      rw[zA9 h1,zBh]at A
      cases h2:bc s v with
      |false=>
       rw[h2]at B;refine zS B ?_;exact⟨zB,rfl⟩
      |true=>
       rw[h2,zBh]at A;rw[h2]at B;rw[A]at I;refine yJ (xW B I) ?_;exact⟨zB,rfl⟩
    .rintro st ⟨hvq,rfl⟩;exfalso;omega
   .have A:∀b,b<ln z->EW z s u b=false:=λb hb=>by
     cases G:EW z s u b with
     |false=>rfl
     |true=>exact absurd ⟨hu,b,hb,G⟩ (Y u zB)
    cases L:bc s u with
    |false=>
     rw[L]at E;refine zS E ?_;exact⟨zB,rfl⟩
    |true=>
    rw[L]at E;refine zS E ?_;refine zN (ln z) [] [] [0,1,6,9,10,18] [19,0,1,6,9,10,18] Z (λi T U=>⟨(19,iA i)::T,U⟩) (Lq ?_ ?_)
    .intro v hv;have B:=CW s v O zB;have I:=gT z zB u v;have A:=A v hv;unfold EW at A;rw[L,zBh]at A;by_cases h1:v=u
     .have C:(v:Int)=u:=by omega
      refine WW ?_;rfl
     have C:(v:Int)≠u:=by omega
     rw[zA9 h1,zBh]at A
     cases h2:bc s v with
     |false=>
      rw[h2]at B;refine zS B ?_;rfl
     |true=>
      rw[h2,zBh]at A;rw[h2]at B;rw[A]at I;refine yJ (xW B I) ?_;rfl
    ·(refine WW ?_)
     exact⟨zB,rfl⟩
  .rintro st ⟨hup,rfl⟩;exfalso;omega
 .have A:∀a b,a<ln z->b<ln z->EW z s a b=false:=λa b W hb=>by
   cases G:EW z s a b with
   |false=>rfl
   |true=>exact absurd ⟨a,W,b,hb,G⟩ M
  refine⟨-1,-1,?_,.inl ⟨rfl,A⟩⟩;clear M;refine eM call317 λF hF=>?_
  refine WW ?_;refine zN (ln z) [] [] [0,1,9] [10,0,1,9] Z (λi T U=>⟨(10,iA i)::T,U⟩) (Lq ?_ ?_)
  .intro u hu;have E:=CW s u O zB
   cases L:bc s u with
   |false=>
    rw[L]at E;refine zS E ?_;rfl
   |true=>
   rw[L]at E;refine zS E ?_;refine zN (ln z) [] [] [0,1,6,9,10,18] [19,0,1,6,9,10,18] Z (λi T U=>⟨(19,iA i)::T,U⟩) (Lq ?_ ?_)
   .intro v hv;have B:=CW s v O zB;have I:=gT z zB u v;have A:=A u v hu hv;unfold EW at A;rw[L,zBh]at A;by_cases h1:v=u
    .have C:(v:Int)=u:=by omega
     refine WW ?_;rfl
    have C:(v:Int)≠u:=by omega
    rw[zA9 h1,zBh]at A
    cases h2:bc s v with
    |false=>
     rw[h2]at B;refine zS B ?_;rfl
    |true=>
     rw[h2,zBh]at A;rw[h2]at B;rw[A]at I;refine yJ (xW B I) ?_;rfl
   ·(refine WW ?_)
    rfl
  .exact ly
def CX (j:Jn) (z:ln j.ph<=1000) (u:∀p:Nat,p<ln j.ph->0<=(yH j p).group/\(yH j p).group<=3):zO 319 [wK j] [] (iA (dZ j)) []:=by
 have hl:=zA xN j.ph;unfold dZ;refine eM call319 λF hF=>?_
 refine WW ?_;refine zN (ln j.ph) [] [] [7,8] [3,9,7,8] Z (λi T U=>⟨(3,iA (rb j.ph i))::(9,iA i)::T,U⟩) (Lq ?_ ?_)
 .intro i hi;have A:=zJ xN j.ph i hi;have hb:=u i hi;unfold yH at hb;have e:rb j.ph (i+1)=max (rb j.ph i) ((j.ph.getD i dd).group+1):=rfl;rw[e];generalize rb j.ph i=g,j.ph.getD i dd=t at *;refine WW ?_;rfl
 .exact ly
def WU (j:Jn) (r g:Int) (i:Nat):List Nat:=(pb i).filter λp=>(yH j p).ring==r&&(yH j p).group==g
theorem CY (j:Jn) (r g:Int) (i:Nat):WU j r g (i+1)=if(yH j i).ring=r/\(yH j i).group=g then WU j r g i++[i]else WU j r g i:=by grind [WU,yH,List.range_succ,Bool.and_eq_false_iff]
def Ce {α:Type} (f:α->AV) (l:List α):AV.sl false ((l.map f).take (l.map f).length)=zE f l:=by rw[zA8];rfl
def nA (p:Nat):AV:=iA (p:Int)
def zAg (j:Jn) (C:ln j.ph<=1000) (r g:Int):zO 321 [wK j,iA r,iA g] [] (zE nA (WU j r g (ln j.ph))) []:=by
 have hl:=zA xN j.ph;refine eM call321 λF hF=>?_
 refine WW ?_;refine zQ 7 1001 1 Z Z Z ?_;refine zN (ln j.ph) [1001] [] [1,2,11,12] [7,13,1,2,11,12] Z (λi T U=>⟨(7,.ref 1001 0 ((WU j r g i).map nA).length)::(13,iA i)::T,(1001,.arr 1 ((WU j r g i).map nA) true)::U⟩) (Lq ?_ ?_)
 .intro i hi;have B:=zJ xN j.ph i hi
  change (j.ph.map xN)[i]? =some (xN (yH j i))at B
  have z:=CY j r g i
  have u:(WU j r g i).length<=1000:=by
   have:(WU j r g i).length<=(pb i).length:=zCw _ _;rw[zCr]at this;omega
  have A:((WU j r g i).map nA).length<=1000:=by rw[zA6];exact u
  rw[z];generalize WU j r g i=o,yH j i=t at *;by_cases h1:t.ring=r
  .by_cases h2:t.group=g
   .rw[zA5 ⟨h1,h2⟩,zBd];generalize o.map nA=xs at *;refine WW ?_;rfl
   .rw[Os (λh=>h2 h.2)];refine WW ?_;rfl
  .rw[Os (λh=>h1 h.1)];refine WW ?_;rfl
 ·(refine WW ?_)
  exact zI [] Z Z (Ce _ _) Z
def GJ (l:List Nat) (x:Int):Bool:=l.any λp:Nat=>(p:Int)==x
def Hl (l:List Nat) (O:ln l<=1000) (x:Int):∃k:Int,zO 360 [zE nA l,iA x] [] (iA k) []/\ -1<=k/\k<1000/\(GJ l x=decide (0<=k)):=by
 have hl:=zA nA l;by_cases A:∃i,i<ln l/\((l.getD i dd:Nat):Int)=x
 .obtain⟨L,h1,h2⟩:=A;obtain⟨k,_,⟨hk,E⟩,C⟩:=NQ (P:=λi=>i<ln l/\((l.getD i dd:Nat):Int)=x) L ⟨h1,h2⟩;refine⟨k,?_,zB,zB,?_⟩
  ·(refine eM call360 λF hF=>?_)
   refine WW ?_;refine yU (ln l) [] [] [0,1,7] [8,0,1,7] Z (λi T U M=>(i<=k)/\M=⟨(8,iA i)::T,U⟩) (Lp ?_ ?_ ?_)
   .exact⟨zBn _,rfl⟩
   .rintro u st z ⟨huk,rfl⟩;have B:=zJ nA l u z;by_cases e:u=k
    .subst e;generalize l.getD u dd=v at *;unfold nA at B;exact ly
    .have G:¬((l.getD u dd:Nat):Int)=x:=λh=>C u zB ⟨z,h⟩
     generalize l.getD u dd=v at *;unfold nA at B;refine WW ?_;exact⟨zB,rfl⟩
   .rintro st ⟨huk,rfl⟩;exfalso;omega
  .rw[zA9 zB];unfold GJ;rw[zCx];exact⟨l.getD k dd,by simp[pi,hk],by rw[zCp];exact E⟩
 .refine⟨-1,?_,zB,zB,?_⟩
  ·(refine eM call360 λF hF=>?_)
   refine WW ?_;refine zN (ln l) [] [] [0,1,7] [8,0,1,7] Z (λi T U=>⟨(8,iA i)::T,U⟩) (Lq ?_ ?_)
   .intro u z;have B:=zJ nA l u z;have G:¬((l.getD u dd:Nat):Int)=x:=λh=>A ⟨u,z,h⟩
    generalize l.getD u dd=v at *;unfold nA at B;clear A;refine WW ?_;rfl
   .clear A;exact ly
  .rw[zA7 zB];unfold GJ;rw[zDp];intro p I;obtain⟨i,hi,rfl⟩:=zDn I;intro h;rw[zCp]at h;exact A ⟨i,hi,by simpa [pi,hi]using h⟩
def pc (l:List Nat) (z:ln l<=1000) (x:Int):zO 320 [zE nA l,iA x] [] (bA (GJ l x)) []:=by
 obtain⟨k,c,h1,h2,u⟩:=Hl l z x;rw[u];by_cases h:0<=k
 .rw[zA9 h];refine eM call320 λF hF=>?_
  exact ng c
 .rw[zA7 h];refine eM call320 λF hF=>?_
  exact ng c
def Gl (l:Li):zO 362 [xG l] [] (bA (l.lamp != 0)) []:=by
 by_cases h:l.lamp=0
 .rw[show(l.lamp != 0)=false by simp[h]];refine eM call362 λF hF=>?_
  exact ly
 .rw[show(l.lamp != 0)=true by simp[h]];refine eM call362 λF hF=>?_
  exact ly
def V1 (c:Ct) (R:ln c.li<=1000):∃k:Int,zO 388 [zE xG c.li,.fn 362 []] [] (iA k) []/\ -1<=k/\k<1000/\(ib c= !decide (0<=k)):=by
 have hl:=zA xG c.li;by_cases I:∃i,i<ln c.li/\(xS c i).lamp≠0
 .obtain⟨M,h1,h2⟩:=I;obtain⟨k,_,⟨hk,A⟩,E⟩:=NQ (P:=λi=>i<ln c.li/\(xS c i).lamp≠0) M ⟨h1,h2⟩;refine⟨k,?_,zB,zB,?_⟩
  ·(refine eM call388 λF hF=>?_)
   refine WW ?_;refine yU (ln c.li) [] [] [0,1,7] [8,0,1,7] Z (λi T U O=>(i<=k)/\O=⟨(8,iA i)::T,U⟩) (Lp ?_ ?_ ?_)
   .exact⟨zBn _,rfl⟩
   .rintro u st B ⟨huk,rfl⟩;have L:=zJ xG c.li u B
    change (c.li.map xG)[u]? =some (xG (xS c u))at L
    have z:=Gl (xS c u);by_cases e:u=k
    .subst e;rw[show((xS c u).lamp != 0)=true by simpa using A]at z;generalize xS c u=v at *;exact ng z
    .have G:(xS c u).lamp=0:=zDs λh=>E u zB ⟨B,h⟩
     rw[show((xS c u).lamp != 0)=false by simpa using G]at z;generalize xS c u=v at *;refine zS z ?_;exact⟨zB,rfl⟩
   .rintro st ⟨huk,rfl⟩;exfalso;omega
  .rw[zA9 zB];unfold ib;exact zEd.2 ⟨xS c k,by simp[xS,pi,hk],by simpa using A⟩
 .have C:∀i,i<ln c.li->(xS c i).lamp=0:=λi hi=>zDs λh=>I ⟨i,hi,h⟩
  refine⟨-1,?_,zB,zB,?_⟩
  .clear I;refine eM call388 λF hF=>?_
   refine WW ?_;refine zN (ln c.li) [] [] [0,1,7] [8,0,1,7] Z (λi T U=>⟨(8,iA i)::T,U⟩) (Lq ?_ ?_)
   .intro u B;have L:=zJ xG c.li u B
    change (c.li.map xG)[u]? =some (xG (xS c u))at L
    have z:=Gl (xS c u);have C:=C u B;rw[show((xS c u).lamp != 0)=false by simpa using C]at z;generalize xS c u=v at *;refine zS z ?_;rfl
   .exact ly
  .rw[zA7 zB];unfold ib;rw[zE4,zBk];intro l hl;obtain⟨i,hi,rfl⟩:=zDn hl;have:=C i hi;simpa [xS,pi,hi]using this
def CZ (c:Ct) (B:ln c.li<=1000):zO 322 [JK c] [] (bA (ib c)) []:=by
 obtain⟨k,u,h1,h2,A⟩:=V1 c B
 have z:zO 361 [zE xG c.li,.fn 362 []] [] (bA (decide (0<=k))) []:=by
  by_cases h:0<=k
  .rw[zA9 h];refine eM call361 λF hF=>?_
   exact ng u
  .rw[zA7 h];refine eM call361 λF hF=>?_
   exact ng u
 rw[A]
 cases hd:decide (0<=k)<;>rw[hd]at z
 all_goals
  (refine eM call322 λF hF=>?_)
  exact ng z
def L9 (j:Jn) (c:Ct):Bool:=(pb (ln j.ph)).all λp=>mb (yH j p) (xS c p)
def T7 (j:Jn) (c:Ct):Bool:=(pb (ln j.cf)).all λa=>(pb (ln j.cf)).all λb=>!EW j.cf (GH c) a b
def El (j:Jn) (c:Ct) (r:Nat):Bool:=decide (c.nx.getD r dd= -1)||GJ (WU j r c.gr (ln j.ph)) (c.nx.getD r dd)
def U1 (j:Jn) (c:Ct):Bool:=decide (ln c.li=ln j.ph/\c.nx.length=2)&&(L9 j c&&(T7 j c&&(decide (0<=c.gr/\c.gr<dZ j)&&((pb 2).all (El j c)&&(decide (0<=c.wt/\c.wt<=j.st)&&(decide (c.wt=0)||ib c))))))
structure JB (j:Jn):Prop where
 n:j.ph.length<=8
 c:j.cf.length<=8
 gp:∀p:Nat,p<j.ph.length->0<=(yH j p).group/\(yH j p).group<=3
theorem JV.b (J:JV j):JB j:=⟨J.n.2,by rw[J.c];exact J.n.2,J.gp⟩
theorem S7 {n:Nat} (h:n<=8):p2 (n:Int)<=256:=by
 have:n=0\/n=1\/n=2\/n=3\/n=4\/n=5\/n=6\/n=7\/n=8:=by omega
 grind [p2]
theorem Lt (j:Jn) (J:JB j) (c:Ct):zO 281 [wK j,JK c] [] (bA (U1 j c)) []:=by
 have a2:=zA xN j.ph;have az:=zA xG c.li;have a1:=zA iA c.nx;have a3:=J.n;unfold U1;by_cases h1:ln c.li=ln j.ph
 case neg=>
  rw[zA7 (λh=>h1 h.1)];refine eM call281 λF hF=>?_
  exact ly
 by_cases h2:ln c.nx=2
 case neg=>
  rw[zA7 (λh=>h2 h.2)];refine eM call281 λF hF=>?_
  exact ly
 rw[zA9 ⟨h1,h2⟩,zBh];have cs:=U7 c zB;have au:=VN (RD c) (ln c.li) zB;have a4:=S7 (n:=ln c.li) zB
 change 0<=GH c/\GH c<p2 (ln c.li) at au
 obtain⟨cp,cq,B,C⟩:=Il j.cf J.c (GH c) zB
 have ap:T7 j c=decide (cp= -1):=by
  unfold T7
  rcases C with⟨h3,h4⟩|⟨h3,a,b,ha,hb,h4⟩
  .rw[zA9 h3,zBk];intro a ha;rw[zBk];intro b hb;rw[h4 a b (zBu.1 ha) (zBu.1 hb)];rfl
  .rw[zA7 zB,zEd];refine⟨a,zBu.2 ha,?_⟩;rw[zEs,zEd];exact⟨b,zBu.2 hb,by rw[h4];decide⟩
 have ax:cp= -1\/0<=cp:=by
  rcases C with h|h
  .exact .inl h.1
  .exact .inr h.1
 have I:=CX j zB J.gp;have ca:=CZ c zB;clear C;rw[ap];generalize GH c=se,dZ j=gm at *;generalize a5:ib c=ra at *;refine eM call281 λF hF=>?_
 refine WW ?_;refine yU (ln j.ph) [2,3] [2,3] [2,3,25,26] [27,2,3,25,26] Z (λi T U zs=>(∀s:Nat,s<i->mb (yH j s) (xS c s)=true)/\zs=⟨(27,iA i)::T,U⟩) (Lp ?_ ?_ ?_)
 .exact⟨λs W=>absurd W (zC3 _),rfl⟩
 .rintro i st hi ⟨hp,rfl⟩;have hy:=zJ xN j.ph i hi;have av:=zJ xG c.li i zB
  change (j.ph.map xN)[i]? =some (xN (yH j i))at hy
  change (c.li.map xG)[i]? =some (xG (xS c i))at av
  have cv:=Ll (yH j i) (xS c i)
  cases V:mb (yH j i) (xS c i)with
  | true=>
   rw[V]at cv
   have ar:∀s:Nat,s<i+1->mb (yH j s) (xS c s)=true:=λs W=>by
    by_cases G:s=i
    .subst G;assumption
    .exact hp s zB
   clear V hp;generalize yH j i=t,xS c i=l at *;clear cs B I ca;refine zS cv ?_;exact⟨ar,rfl⟩
  |false=>
   have u:L9 j c=false:=zEd.2 ⟨i,zBu.2 hi,by rw[V];decide⟩;rw[V]at cv;rw[u,zB8];clear V hp;generalize yH j i=t,xS c i=l at *;clear cs B I ca;exact ng cv
 .rintro st ⟨hp,rfl⟩;have u:L9 j c=true:=zBk.2 λi hi=>hp i (zBu.1 hi)
  rw[u,zBh];clear hp u;by_cases M:cp= -1
  case neg=>
   rw[zA7 M];exact mx (xW cs B)
  rw[zA9 M,zBh];by_cases O:0<=c.gr
  case neg=>
   rw[zA7 (λh=>O h.1)];exact mx (qM cs B I)
  by_cases R:c.gr<gm
  case neg=>
   rw[zA7 (λh=>R h.2)];exact mx (qM cs B I)
  rw[zA9 ⟨O,R⟩,zBh];refine yJ (qM cs B I) ?_;refine yU (ln c.nx) [2,3] [2,3] [2,3,62,63] [64,2,3,62,63] Z (λi T U zs=>(∀s:Nat,s<i->El j c s=true)/\zs=⟨(64,iA i)::T,U⟩) (Lp ?_ ?_ ?_)
  .exact⟨λs W=>absurd W (zC3 _),rfl⟩
  .rintro i st hi ⟨hp,rfl⟩;have hy:=zJ iA c.nx i hi;have co:=zAg j zB i c.gr
   have S:(WU j i c.gr (ln j.ph)).length<=1000:=by
    have:(WU j i c.gr (ln j.ph)).length<=(pb (ln j.ph)).length:=zCw _ _;rw[zCr]at this;omega
   have ch:=pc (WU j i c.gr (ln j.ph)) S (c.nx.getD i dd)
   have A:El j c i=true->∀s:Nat,s<i+1->El j c s=true:=λh s W=>by
    by_cases G:s=i
    .subst G;exact h
    .exact hp s zB
   have ag:El j c i=false->((pb 2).all (El j c))=false:=λh=>zEd.2 ⟨i,zBu.2 zB,by rw[h];decide⟩
   have L:El j c i=(decide (c.nx.getD i dd= -1)||GJ (WU j i c.gr (ln j.ph)) (c.nx.getD i dd)):=rfl;clear hp cs B I ca;generalize WU j i c.gr (ln j.ph)=o at *;generalize GJ o (c.nx.getD i dd)=hb at *;generalize c.nx.getD i dd=x,El j c i=q at *;by_cases hx:x= -1
   .rw[zA9 hx]at L;have E:=A L;refine WW ?_;exact⟨E,rfl⟩
   rw[zA7 hx,zDk]at L
   cases hb with
   |true=>
    have E:=A L;refine yJ (xW co ch) ?_;exact⟨E,rfl⟩
   |false=>
    rw[ag L,zB8];exact mx (xW co ch)
  .rintro st ⟨hp,rfl⟩;have z:((pb 2).all (El j c))=true:=zBk.2 λi hi=>hp i (by have:=zBu.1 hi;omega)
   rw[z,zBh];clear hp z;by_cases Y:0<=c.wt
   case neg=>
    rw[zA7 (λh=>Y h.1)];exact ly
   by_cases ac:c.wt<=j.st
   case neg=>
    rw[zA7 (λh=>ac h.2)];exact ly
   rw[zA9 ⟨Y,ac⟩,zBh];by_cases hz:c.wt=0
   .rw[zA9 hz];exact ly
   .rw[zA7 hz,zDk];exact ng ca
theorem S1 (J:JV j) (C:CV j c):U1 j c=true:=by
 have O:=C.n;have R:=J.n;unfold U1;have h1:L9 j c=true:=zBk.2 λp L=>C.k p (zBu.1 L)
 have h2:T7 j c=true:=by
  unfold T7;rw[zBk];intro a u;rw[zBk];intro b hb;have u:=zBu.1 u;have hb:=zBu.1 hb;rw[J.c]at u hb
  have A:∀p:Nat,p<ln j.ph->bc (GH c) p=RD c p:=λp L=>by
   unfold GH;have e:=GI (λq=>decide (q<ln c.li)&&RD c q) (ln c.li) 8 zB (λi h1 h2=>by rw[zA7 zB];rfl)
   grind [U1,gB,RD,bY,Jl]
  rw[zDo];unfold EW;rw[A a u,A b hb];by_cases B:b=a
  .grind
  .cases G:RD c a with
   |false=>rfl
   | true=>
    cases I:RD c b with
    |false=>simp
    |true=>
     rw[C.x a b u hb (λh=>B h.symm) (by simpa [RD]using G) (by simpa [RD]using I)];simp
 have M:((pb 2).all (El j c))=true:=zBk.2 λr E=>by
  have E:=zBu.1 E;unfold El
  rcases C.v r E with h|h
  .grind
  .have:GJ (WU j r c.gr (ln j.ph)) (c.nx.getD r dd)=true:=by
    unfold GJ;rw[zCx];obtain⟨a,b,d,e⟩:=h
    grind [U1,WU]
   grind
 rw[zA9 ⟨O,C.m⟩,h1,h2,zA9 C.g,M,zA9 C.w];simp only[zBh]
 rcases C.z with h|h
 .grind
 .have:ib c=true:=by
   grind [U1,ib,List.all_eq_true,List.getElem_of_mem,xS,pi]
  grind
theorem zAh (y:Int):jF y 1=0\/jF y 1=1:=by
 show IntKind.i64.wrap (BitVec.ofInt 64 y &&& BitVec.ofInt 64 1).toNat=0\/IntKind.i64.wrap (BitVec.ofInt 64 y &&& BitVec.ofInt 64 1).toNat=1
 have e1:BitVec.ofInt 64 1=1#64:=by decide
 have h:(BitVec.ofInt 64 y &&& BitVec.ofInt 64 1).toNat=(BitVec.ofInt 64 y).toNat % 2:=by
  grind
 rw[h];have h2:(BitVec.ofInt 64 y).toNat % 2=0\/(BitVec.ofInt 64 y).toNat % 2=1:=by omega
 rcases h2 with h2|h2<;>rw[h2]
 .exact .inl xA
 .exact .inr xA
theorem GK {u:List Int} {q:Nat} (z:p<ln u) (A:q<ln u):jF (vX (u.getD p dd) q) 1=if kH u p q=true then 1 else 0:=by
 unfold kH;rw[zA9 zB,zBh,zBx]
 grind [jF,vX,kH,zAh]
theorem zAi {x:Int} {n:Nat} (h:0<=x/\x<2 ^ n):vX x n=0:=by grind [vX,Int.toNat_natCast,Int.fdiv_eq_zero_of_lt]
def Uh (j:Jn) (J:JV j):zO 202 [zE iA j.cf] [] (bA true) []:=by
 have hl:=zA iA j.cf;have I:=J.n;have hc:=J.c;refine eM call202 λF hF=>?_
 refine WW ?_;refine zN (ln j.cf) [] [] [0,14,15] [16,0,14,15] Z (λi T U=>⟨(16,iA i)::T,U⟩) (Lq ?_ ?_)
 .intro u B;have L:=zJ iA j.cf u B;have A:=J.row u zB;have E:=zAi A;rw[<-hc,<-hl]at E;have C:=GK (p:=u) (q:=u) B B;rw[J.ir u zB,Os xA]at C
  have z:∀v,v<ln j.cf->jF (vX (j.cf.getD u dd) v) 1=jF (vX (j.cf.getD v dd) u) 1:=λv hv=>by
   rw[GK B hv,GK hv B,J.sy u v zB zB]
  generalize j.cf.getD u dd=x at *;refine WW ?_;refine zN (ln j.cf) [] [] [0,3,4,14,15,16,38] [39,0,3,4,14,15,16,38] Z (λi T U=>⟨(39,iA i)::T,U⟩) (Lq ?_ ?_)
  .intro v hv;have G:=zJ iA j.cf v hv;have z:=z v hv;generalize j.cf.getD v dd=y at *;refine WW ?_;rfl
  .clear z;refine WW ?_;rfl
 .exact ly
def UM (n a b:Int) (h:a<=n/\n<=b):zO 148 [iA n,iA a,iA b] [] (bA true) []:=by
 obtain⟨h1,h2⟩:=h;refine eM call148 λF hF=>?_
 exact ly
def Dl (j:Jn) (J:JV j) (p:Nat) (z:p<ln j.ph):zO 203 [xN (yH j p)] [] (bA true) []:=by
 have V:=J.rg p z;have U:=J.gp p z;obtain⟨W,t2,t3,t4,t5,t6,t7,t8,t9,A,B,Y,u⟩:=J.ti p z;generalize yH j p=t at *;have C:=UM t.ring 0 1 V;have E:=UM t.group 0 3 U;have G:=UM t.ming 1 60 ⟨W,zB⟩;have I:=UM t.maxg 1 60 ⟨zB,t3⟩;have L:=UM t.yel 1 60 ⟨t4,t5⟩;have M:=UM t.red 0 60 ⟨t6,t7⟩;have O:=UM t.walk 0 60 ⟨t8,t9⟩;have R:=UM t.clear 0 60 ⟨A,B⟩;by_cases S:t.walk=0
 .have h1:=u.1 S;clear u;refine eM call203 λF hF=>?_
  exact mx (vy C E G I L M O R)
 .have h1:¬t.clear=0:=λh=>S (u.2 h)
  clear u;refine eM call203 λF hF=>?_
  exact mx (vy C E G I L M O R)
def Bl (j:Jn) (J:JV j):zO 204 [wK j] [] (bA true) []:=by
 have hl:=zA xN j.ph;have L:=J.n;have hc:=J.c;refine eM call204 λF hF=>?_
 repeat' (first|(apply zG;first|refine uN tok Z Z ?_|refine YZ tok Z Z Z Z ?_|apply kR)|first|refine SQ ?_|fail|apply bZ|apply aA|apply xC)
 refine zN (ln j.ph) [1] [1] [1,9,10] [3,11,1,9,10] Z (λi T U=>⟨(3,bA true)::(11,iA i)::T,U⟩) (Lq ?_ ?_)
 .intro u G;have I:=zJ xN j.ph u G
  change (j.ph.map xN)[u]? =some (xN (yH j u))at I
  refine WW ?_;refine zN (ln j.ph) [1,5] [1,5] [1,4,5,9,10,11,17,18] [3,19,1,4,5,9,10,11,17,18] Z (λi T U=>⟨(3,bA true)::(19,iA i)::T,U⟩) (Lq ?_ ?_)
  .intro v hv;have E:=zJ xN j.ph v hv
   change (j.ph.map xN)[v]? =some (xN (yH j v))at E
   have B:=gT j.cf zB u v;have z:=J.ap u v G hv;by_cases A:u=v
   .have C:(u:Int)=v:=by omega
    clear z;generalize yH j u=a,yH j v=b at *;refine WW ?_;rfl
   have C:¬(u:Int)=v:=by omega
   by_cases h1:(yH j u).ring=(yH j v).ring
   .rw[z A (.inl h1)]at B;clear z;generalize yH j u=a,yH j v=b at *;refine zS B ?_;rfl
   by_cases h2:(yH j u).group=(yH j v).group
   .clear z;generalize yH j u=a,yH j v=b at *;refine WW ?_;rfl
   .rw[z A (.inr h2)]at B;clear z;generalize yH j u=a,yH j v=b at *;refine zS B ?_;rfl
  .generalize yH j u=a at *;refine WW ?_;rfl
 .exact ly
def KA (j:Jn) (i:Nat) (g:Nat):Bool:=(pb i).any λp=>(yH j p).group==(g:Int)
theorem Al (j:Jn) (i:Nat):KA j (i+1)=λg=>KA j i g||((yH j i).group==(g:Int)):=by grind [KA,yH]
def R7 (g:Nat) (h:g<4):p2 (g:Int)=gB (λx:Nat=>(g:Int)==(x:Int)) 8:=by
 have:g=0\/g=1\/g=2\/g=3:=by omega
 rcases this with rfl|rfl|rfl|rfl<;>decide
theorem zAj:∀A u z B:Bool,(u=true->A=true)->(z=true->u=true)->(B=true->z=true)->jF (gB (bq A u z B false false false false) 8) (gB (bq A u z B false false false false) 8+1)=0:=by decide +kernel
theorem Kt (j:Jn) (J:JV j):jF (gB (KA j (ln j.ph)) 8) (gB (KA j (ln j.ph)) 8+1)=0:=by
 have u:∀g:Nat,4<=g->KA j (ln j.ph) g=false:=λg A=>by
  unfold KA;rw[zDp];intro p z;have:=J.gp p (zBu.1 z);simp;omega
 have hd:∀g:Nat,KA j (ln j.ph) (g+1)=true->KA j (ln j.ph) g=true:=λg h=>by
  unfold KA at h⊢;rw[zCx]at h⊢;obtain⟨p,z,A⟩:=h;rw[zCp]at A;obtain⟨q,C,B⟩:=J.lo p (zBu.1 z) g zB zB
  grind
 have e:gB (KA j (ln j.ph)) 8=gB (bq (KA j (ln j.ph) 0) (KA j (ln j.ph) 1) (KA j (ln j.ph) 2) (KA j (ln j.ph) 3) false false false false) 8:=bY 8 λi hi=>by
  match i,hi with
  |0,_=>rfl|1,_=>rfl|2,_=>rfl|3,_=>rfl
  |4,_=>exact u 4 zB
  |5,_=>exact u 5 zB
  |6,_=>exact u 6 zB
  |7,_=>exact u 7 zB
  |i+8,h=>omega
 grind [jF,gB,KA,zAj]
def BA (j:Jn) (J:JV j):zO 149 [wK j] [] (bA true) []:=by
 have hl:=zA xN j.ph;have S:=zA iA j.cf;have hn:=J.n;have hc:=J.c;have E:=Uh j J;have G:=UM j.st 0 60 J.st;have I:=Bl j J;have R:=Kt j J;have O:=VN (KA j (ln j.ph)) 8 zB;have V:p2 ((8:Nat):Int)=256:=by decide
 refine eM call149 λF hF=>?_
 refine yJ (xW E G) ?_;refine zN (ln j.ph) [1] [1] [1,34,35] [4,36,1,34,35] Z (λi T U=>⟨(4,iA (gB (KA j i) 8))::(36,iA i)::T,U⟩) (Lq ?_ ?_)
 .intro u C;have W:=zJ xN j.ph u C
  change (j.ph.map xN)[u]? =some (xN (yH j u))at W
  have M:=Dl j J u C;have Y:=J.gp u C;have B:=Al j u;obtain⟨L,A⟩:∃n:Nat,(yH j u).group=n:=⟨(yH j u).group.toNat,zB⟩;have z:=Fo (KA j u) (λx:Nat=>(L:Int)==(x:Int));rw[<-R7 L zB]at z;rw[A]at B;rw[B,<-z];generalize gB (KA j u) 8=b at *;rw[<-A];clear E G I z B;generalize yH j u=t at *;refine zS M ?_;rfl
 .generalize gB (KA j (ln j.ph)) 8=b at *;exact ng I
