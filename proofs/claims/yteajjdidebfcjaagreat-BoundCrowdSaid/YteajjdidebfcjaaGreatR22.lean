/- Part 22. -/
import Derived.Test.YteajjdidebfcjaaGreatR21
namespace Go.Proofs.YteajjdidebfcjaaGreat
namespace Av
open Tryz
set_option linter.all false
set_option maxRecDepth 4000
set_option maxHeartbeats 4000000
def cqF (l:List Rq) (v:List Vw) (now:Int) (i:Nat):Int:=if i/3<l.length/\i % 3<(l.getD (i/3) default).legs.length then cdF ((l.getD (i/3) default).legs.getD (i % 3) default) v now else 0
def cqL (l:List Rq) (v:List Vw) (now:Int) (n:Nat):List Int:=(List.range n).map (cqF l v now)
def EE (l:List Rq) (v:List Vw) (now:Int) (N i:Nat):List Int:=(List.range N).map λj=>if j<i then cqF l v now j else 0
def zCs (l:List Rq) (v:List Vw) (now:Int) (N i:Nat):(EE l v now N i).length=N:=by simp[EE]
def zJi (l:List Rq) (v:List Vw) (now:Int) (N:Nat):(EE l v now N 0).map yA=List.replicate N (yA 0):=by
 apply yBi;intro j;unfold EE;rw[yAa,yAa,yB2];by_cases hj:j<N
 ·rw[yA4 hj,zZ8 hj];simp
 ·rw[yAz vA,zZ7 hj];rfl
def zAc (l:List Rq) (v:List Vw) (now:Int) (N k j:Nat):((EE l v now N k).map yA)[j]? =if j<N then some (yA (if j<k then cqF l v now j else 0))else none:=by
 unfold EE;rw[yAa,yAa];by_cases hj:j<N
 ·rw[yA4 hj,zZ8 hj];rfl
 ·rw[yAz vA,zZ7 hj];rfl
def zJj (l:List Rq) (v:List Vw) (now:Int) (N i:Nat) (hi:i<N):(EE l v now N (i+1)).map yA=((EE l v now N i).map yA).set i (yA (cqF l v now i)):=by
 apply yBi;intro j;rw[yB8,zAc,zAc,zZ9,zCs];by_cases he:i=j
 ·subst he;rw[zZ8 hi,zZ8 Z,zZ8 hi,zZ8 (yF3 i)]
 ·rw[zZ7 he];by_cases hj:j<N
  ·rw[zZ8 hj,zZ8 hj];by_cases h2:j<i
   ·rw[zZ8 zB,zZ8 h2]
   ·rw[zZ7 zB,zZ7 h2]
  ·rw[zZ7 hj,zZ7 hj]
def zOy (l:List Rq) (v:List Vw) (now:Int) (N:Nat):EE l v now N N=cqL l v now N:=by
 unfold EE cqL;apply yDk;intro j hj;rw[zZ8 (yAt.1 hj)]
theorem zOz (l:List Rq) (q:Nat) (v:List Vw) (now:Int) (hq:q<=1000) (hl:l.length<=1000) (hlg:∀r∈l,r.legs.length<=1000) (hn:v.length<=1000) (hb:∀w∈v,w.co.length<=1000):
  zN 132 [zD yG l,iA q,zD vO v,iA now] [] (zD yA (cqL l v now (q*3))) []:=by
 have hll:=zA yG l;by_cases h0:q=0
 ·subst h0;refine eM call132 λF hF=>?_
  refine WW ?_;exact zJ
 have e0:=zJi l v now (q*3);have hvl:=zA vO v;refine eM call132 λF hF=>?_
 refine WW ?_;have hN9:q*3<=3000:=by omega
 generalize q*3=N at *;refine zO (N) [21] [] [0,2,3,9,23] [24,0,2,3,9,23] Z (λi T U=>⟨(24,iA i)::T,(21,.arr 1 ((EE l v now N i).map yA) false)::U⟩) ?_;(conv=>whnf);refine⟨by(rw[e0];rfl),?_,?_⟩
 ·intro i hi;have hr:(i:Int).tdiv 3=((i/3:Nat):Int):=by rw[yB3 zB];omega
  have hk:(i:Int).tmod 3=((i % 3:Nat):Int):=by rw[yBw zB];omega
  have hin:XN .i64 ((i:Int).tdiv 3):=⟨by show -9223372036854775808<=_;omega,by show _<=9223372036854775807;omega⟩;have hnl:((EE l v now N i).map yA).length=N:=by rw[zZ9,zCs]
  have e:=zJj l v now N i hi;rw[e];have hyx:((EE l v now N i).map yA)[i]? =some (yA (if i<i then cqF l v now i else 0)):=by rw[zAc,zZ8 hi]
  have hset:∀y:AV,(((EE l v now N i).map yA).set i y)[i]? =some y:=λy=>yBq zB
  by_cases hr1:i/3<l.length
  ·have hy:(l.map yG)[((i:Int).tdiv 3).toNat]? =some (yG (l.getD (i/3) default)):=by rw[hr];exact zM yG l _ hr1
   have hxl:(l.getD (i/3) default).legs.length<=1000:=hlg _ (by rw[yAg,yAn hr1];exact yCv _);have hxm:=zA xP (l.getD (i/3) default).legs
   have ec:cqF l v now i=if i % 3<(l.getD (i/3) default).legs.length then cdF ((l.getD (i/3) default).legs.getD (i % 3) default) v now else 0:=by
    unfold cqF;by_cases h:i % 3<(l.getD (i/3) default).legs.length
    ·rw[zZ8 ⟨hr1,h⟩,zZ8 h]
    ·rw[zZ7 (λh9=>h h9.2),zZ7 h]
   rw[ec];clear e ec e0;generalize l.getD (i/3) default=x at *;unfold yG zD at hy;by_cases hk1:i % 3<x.legs.length
   ·have hy2:(x.legs.map xP)[((i:Int).tmod 3).toNat]? =some (xP (x.legs.getD (i % 3) default)):=by rw[hk];exact zM xP x.legs _ hk1
    have cc:=zJ5 (x.legs.getD (i % 3) default) v now hn hb;have hcb:=zJ3 (x.legs.getD (i % 3) default) v now;rw[zZ8 hk1];generalize cdF (x.legs.getD (i % 3) default) v now=c at *;generalize x.legs.getD (i % 3) default=g at *;generalize (EE l v now N i).map yA=xs at*
    (have zc1:=cc;(repeat' (first|refine WTR ?_|((first|apply xM|apply wA)<;>intro hc)|(refine zE ?_;first|(refine XB ?_;refine zA8 tok Z Z Z (hset _) Z Z Z Z Z Z Z Z ?_)|refine SM ?_)|refine SB ?_|fail))<;>clear zc1)
    refine yA6 (St.mk _) ?_
    show [(21,xN.arr 1 ((xs.set i _).set i _) _)]=_
    rw[yEe];rfl
   ·rw[zZ7 hk1];generalize (EE l v now N i).map yA=xs at *;refine WW ?_;rfl
  ·have ec:cqF l v now i=0:=by unfold cqF;rw[zZ7 (λh=>hr1 h.1)]
   rw[ec];clear e ec e0;generalize (EE l v now N i).map yA=xs at *;refine WW ?_;rfl
 ·rw[zOy];refine WW ?_;refine zK [] Z Z ?_ Z;exact yA6 (AV.sl false) (yAj (by simp[cqL]))
def stM (now:Int) (v:List Vw) (b:List Int):Ms:=⟨17,[],[now],NC v++b⟩
def zUr (now:Int) (v:List Vw) (b:List Int) (hn:v.length<=1000) (hb:∀w∈v,VwB w) (hl:b.length<=10000):zN 133 [iA now,zD vO v,zD yA b] [] (yB (stM now v b)) []:=by
 have kr:=zJ2 v hn hb;have h1:=WB hb;have hrl:=zA yA (NC v);have hbl:=zA yA b;rw[show yB (stM now v b)= .agg [iA 17,.sl false [],.sl false [iA now],.sl false ((NC v).map yA++b.map yA)] by unfold stM yB zD;rw[yAi];rfl];generalize (NC v).map yA=xs at *;refine eM call133 λF hF=>?_
 refine WLo kr ?_;refine zK [] Z Z ?_ Z;exact yA6 (λz=>AV.agg [iA 17,AV.sl false [],AV.sl false [iA now],AV.sl false z]) yAf
def JN (d:yY) (v:List Vw) (now:Int):Ms:=stM now v (cqL d.rq v now (d.rg.ag.req.toNat*3))
def zJk (d:yY) (hd:fI d) (hq:0<=d.rg.ag.req/\d.rg.ag.req<=4) (v:List Vw) (now:Int) (hn:v.length<=1000) (hb:∀w∈v,VwB w):zN 96 [zI d,zD vO v,iA now] [] (yB (JN d v now)) []:=by
 have c1:=zOz d.rq d.rg.ag.req.toNat v now zB hd.q hd.g hn (λw hw=>yBm (hb w hw).n xG);rw[show((d.rg.ag.req.toNat:Nat):Int)=d.rg.ag.req by omega]at c1;have c2:=zUr now v (cqL d.rq v now (d.rg.ag.req.toNat*3)) hn hb (by simp[cqL];omega);unfold JN;generalize cqL d.rq v now (d.rg.ag.req.toNat*3)=cs at *;unfold yB at *;unfold zI wC;generalize NC v=rc at *;refine eM call96 λF hF=>?_
 refine yR (vH c1 c2) ?_;exact zJ
def vwZ (n:Nat):Vw:=⟨true,false,List.replicate n 0,List.replicate n 0⟩
def zXy {n:Nat} (h:n<=8):VwB (vwZ n):=⟨by simp[vwZ];exact h,by simp[vwZ];exact h,λc hc=>by
 have:=(yFu.1 hc).2
 omega⟩
structure Li where
 lamp:Int
 tk:Int
structure Ct where
 li:List Li
 gr:Int
 nx:List Int
 wt:Int
instance:Inhabited Li:=⟨⟨0,0⟩⟩
def vE (l:Li):AV:= .agg [iA l.lamp,iA l.tk]
def ctA (c:Ct):AV:= .agg [zD vE c.li,iA c.gr,zD iA c.nx,iA c.wt]
def jF (rows:List Int) (p q:Int):Bool:=decide (0<=p/\0<=q/\p<rows.length/\q<rows.length)&&(fH (uM (rows.getD p.toNat default) q) 1==1)
def UL (p:Ph):Int:=max p.ming (p.walk+p.clear)
def GF (p:Ph) (l:Li) (lv:Bool):Li:=
 if l.lamp=1 then(if lv=true/\UL p<=l.tk+1 then⟨2,0⟩else⟨1,min (l.tk+1) 1073741824⟩)
 else if l.lamp=2 then(if l.tk+1<p.yel then⟨2,l.tk+1⟩else if p.red=0 then⟨0,0⟩else⟨3,0⟩)
 else if l.lamp=3 then(if l.tk+1<p.red then⟨3,l.tk+1⟩else⟨0,0⟩)
 else l
def UM (p:Ph) (l:Li):Bool:=if l.lamp=0 then decide (l.tk=0)else if l.lamp=1 then decide (0<=l.tk/\l.tk<=1073741824)else if l.lamp=2 then decide (0<=l.tk/\l.tk<p.yel)else if l.lamp=3 then decide (0<=l.tk/\l.tk<p.red)else false
def yM (j:Jn) (p:Nat):Ph:=j.ph.getD p default
def xJ (c:Ct) (p:Nat):Li:=c.li.getD p default
def InO (j:Jn) (r g p:Int):Prop:=0<=p/\p<j.ph.length/\(yM j p.toNat).ring=r/\(yM j p.toNat).group=g
def grN (ps:List Ph):Nat->Int
 |0=>0
 |i+1=>max (grN ps i) ((ps.getD i default).group+1)
def ZQ (j:Jn):Int:=grN j.ph j.ph.length
def zJl (ps:List Ph) (n:Nat):∀i,i<n->(ps.getD i default).group+1<=grN ps n:=by
 induction n with
 |zero=>intro i h;exact absurd h (yCj _)
 |succ n ih=>
  intro i h;unfold grN;by_cases e:i=n
  ·subst e;omega
  ·have:=ih i zB;omega
def rpN (j:Jn) (r:Int) (i:Nat):List Nat:=(List.range i).filter λp=>(yM j p).ring==r
def NB (j:Jn) (r:Int):List Nat:=rpN j r j.ph.length
def eQ {j:Jn} {r:Int} {p:Nat}:p∈NB j r↔p<j.ph.length/\(yM j p).ring=r:=by
 unfold NB rpN;rw[yC5,yAt,yBf]
def dZ (j:Jn) (r g f:Int):Int:=match (NB j r).find? (λp:Nat=>decide (f<=(p:Int))&&(yM j p).group==g)with
 |some p=>p
 |none=> -1
def QV (j:Jn) (r g f:Int):dZ j r g f= -1∨InO j r g (dZ j r g f)/\f<=dZ j r g f:=by
 unfold dZ;split
 ·rename_i p h;have h1:=yF8 h;have h2:=eQ.1 (yE4 h);simp only[yAk,yBf,yAc]at h1;exact .inr ⟨⟨zB,zB,h2.2,h1.2⟩,h1.1⟩
 ·exact .inl Z
def BT (j:Jn) (c:Ct) (g:Int):Ct:=⟨c.li,g,[dZ j 0 g 0,dZ j 1 g 0],c.wt⟩
def ZR (j:Jn) (c:Ct) (p:Int):Bool:=(List.range c.li.length).any λq=>(xJ c q).lamp != 0&&jF j.cf p q
def b1F (c:Ct) (p:Nat):Ct:=⟨c.li.set p ⟨1,0⟩,c.gr,c.nx,c.wt⟩
def NN (j:Jn) (c:Ct) (p:Nat):Ct:=if c.gr=(yM j p).group then b1F c p else BT j (b1F c p) (yM j p).group
def kR (j:Jn) (c:Ct) (p:Nat):Ct:=
 if ZR j c p=true then c
 else⟨(NN j c p).li,(NN j c p).gr,(NN j c p).nx.set (yM j p).ring.toNat (dZ j (yM j p).ring (yM j p).group (p+1)),(NN j c p).wt⟩
def GG (j:Jn) (c:Ct) (r:Int):Bool:=(NB j r).all λp=>(xJ c p).lamp==0
def cmF (j:Jn) (x r t:Int):Int:=match (NB j r).find? (λp:Nat=>!jF j.cf p t&&decide (x≠ -1/\x<=(p:Int)))with
 |some p=>p
 |none=>match (NB j r).find? (λp:Nat=>!jF j.cf p t)with
  |some p=>p
  |none=> -1
def aS (j:Jn) (c:Ct) (r:Int) (t:Nat):Int:=if r=(yM j t).ring then t else cmF j (c.nx.getD r.toNat default) r t
def jB (j:Jn) (t:Nat) (c:Ct) (r:Int):Ct:=if GG j c r=true then(if aS j c r t= -1 then c else kR j c (aS j c r t).toNat)else c
def arF (c:Ct):Bool:=c.li.all λl=>l.lamp==0
def cyO (c:Ct):Bool:=arF c&&c.nx.all λp=>p== -1
def eO (j:Jn) (c:Ct) (r:Int):Ct:=if GG j c r=true/\c.nx.getD r.toNat default≠ -1 then kR j c (c.nx.getD r.toNat default).toNat else c
def cyF (j:Jn) (c:Ct):Ct:=eO j (eO j (if cyO c=true then BT j c ((c.gr+1) % ZQ j)else c) 0) 1
def UN (j:Jn) (t:Int):Bool:=decide (0<=t/\t<j.ph.length)
def GH (j:Jn) (c:Ct) (t:Int) (p:Nat):Bool:=
 if UN j t=true then decide ((p:Int)≠t)&&(decide ((yM j p).maxg<=(xJ c p).tk+1)||jF j.cf p t)else decide ((yM j p).maxg<=(xJ c p).tk+1)
def bY (j:Jn) (c:Ct) (t:Int):List Li:=(List.range j.ph.length).map λp=>GF (yM j p) (xJ c p) (GH j c t p)
def bG (j:Jn) (c:Ct) (t:Int):Ct:=
 if 0<c.wt then⟨c.li,c.gr,c.nx,c.wt-1⟩
 else if UN j t=true then jB j t.toNat (jB j t.toNat ⟨bY j c t,c.gr,c.nx,c.wt⟩ 0) 1
 else cyF j ⟨bY j c t,c.gr,c.nx,c.wt⟩
structure JV (j:Jn):Prop where
 n:1<=j.ph.length/\j.ph.length<=8
 c:j.cf.length=j.ph.length
 row:∀i,i<j.ph.length->0<=j.cf.getD i default/\j.cf.getD i default<2 ^ j.ph.length
 ir:∀p:Nat,p<j.ph.length->jF j.cf p p=false
 sy:∀p q:Nat,p<j.ph.length->q<j.ph.length->jF j.cf p q=jF j.cf q p
 ap:∀p q:Nat,p<j.ph.length->q<j.ph.length->p≠q->(yM j p).ring=(yM j q).ring∨(yM j p).group≠(yM j q).group->jF j.cf p q=true
 rg:∀p:Nat,p<j.ph.length->0<=(yM j p).ring/\(yM j p).ring<=1
 gp:∀p:Nat,p<j.ph.length->0<=(yM j p).group/\(yM j p).group<=3
 ti:∀p:Nat,p<j.ph.length->1<=(yM j p).ming/\(yM j p).ming<=(yM j p).maxg/\(yM j p).maxg<=60/\1<=(yM j p).yel/\(yM j p).yel<=60/\0<=(yM j p).red/\(yM j p).red<=60/\0<=(yM j p).walk/\(yM j p).walk<=60/\0<=(yM j p).clear/\(yM j p).clear<=60/\(yM j p).walk+(yM j p).clear<=(yM j p).maxg/\((yM j p).walk=0↔(yM j p).clear=0)
 lo:∀p:Nat,p<j.ph.length->∀g:Int,0<=g->g<(yM j p).group->∃q:Nat,q<j.ph.length/\(yM j q).group=g
 st:0<=j.st/\j.st<=60
structure CV (j:Jn) (c:Ct):Prop where
 n:c.li.length=j.ph.length
 k:∀p,p<j.ph.length->UM (yM j p) (xJ c p)=true
 x:∀p q:Nat,p<j.ph.length->q<j.ph.length->p≠q->(xJ c p).lamp≠0->(xJ c q).lamp≠0->jF j.cf p q=false
 g:0<=c.gr/\c.gr<ZQ j
 m:c.nx.length=2
 v:∀r:Nat,r<2->c.nx.getD r default= -1∨InO j r c.gr (c.nx.getD r default)
 w:0<=c.wt/\c.wt<=j.st
 z:c.wt=0∨∀p,p<j.ph.length->(xJ c p).lamp=0
def RJ {j:Jn} (J:JV j):1<=ZQ j:=by
 have h1:=zJl j.ph j.ph.length 0 LM;have h2:=J.gp 0 LM;unfold yM at h2;unfold ZQ;omega
def zSg (j:Jn) (c:Ct) (g:Int):∀r:Nat,r<2->(BT j c g).nx.getD r default= -1∨InO j r g ((BT j c g).nx.getD r default):=by
 intro r hr;have:r=0∨r=1:=by omega
 rcases this with rfl|rfl
 ·rcases QV j 0 g 0 with h|h
  ·exact .inl h
  ·exact .inr h.1
 ·rcases QV j 1 g 0 with h|h
  ·exact .inl h
  ·exact .inr h.1
def zCt {j:Jn} {c:Ct} (C:CV j c) {g:Int} (hg:0<=g/\g<ZQ j):CV j (BT j c g):=
 ⟨C.n,C.k,C.x,hg,rfl,zSg j c g,C.w,C.z⟩
def JO (c:Ct) (p q:Nat) (l:Li) (gr:Int) (nx:List Int) (wt:Int) (hp:p<c.li.length):xJ ⟨c.li.set p l,gr,nx,wt⟩ q=if q=p then l else xJ c q:=by
 unfold xJ;simp only[yAg,yB8];split
 ·rename_i h;subst h;simp[hp]
 ·rename_i h;rw[zZ7 (λe=>h e.symm)]
def zXz {j:Jn} (J:JV j) {c:Ct} (C:CV j c) (h0:c.wt=0) {p:Nat} (hp:p<j.ph.length) (hk:ZR j c p=false):CV j (b1F c p):=by
 have hl:=C.n
 have hs:∀q,xJ (b1F c p) q=if q=p then⟨1,0⟩else xJ c q:=λq=>JO c p q _ _ _ _ zB
 unfold ZR at hk;rw[yCy]at hk
 have hc:∀q:Nat,q<j.ph.length->(xJ c q).lamp≠0->jF j.cf p q=false:=λq hq hn=>by
  have:=hk q (yAt.2 zB);simp only[yAk,not_and,yCt]at this;exact this OA
 refine⟨by unfold b1F;simpa using hl,λq hq=>?_,λq r hq hr hqr h1 h2=>?_,C.g,C.m,C.v,C.w,.inl h0⟩
 ·rw[hs];split
  ·rfl
  ·exact C.k q hq
 ·rw[hs]at h1 h2;by_cases e1:q=p
  ·subst e1;rw[zZ7 (λe=>hqr e.symm)]at h2;exact hc r hr h2
  ·rw[zZ7 e1]at h1;by_cases e2:r=p
   ·subst e2;rw[J.sy q r hq hr];exact hc q hq h1
   ·rw[zZ7 e2]at h2;exact C.x q r hq hr hqr h1 h2
def zX0 {j:Jn} (J:JV j) {c:Ct} (C:CV j c) (h0:c.wt=0) {p:Nat} (hp:p<j.ph.length) (hk:ZR j c p=false):CV j (NN j c p)/\(NN j c p).gr=(yM j p).group/\(NN j c p).wt=0:=by
 have h1:=zXz J C h0 hp hk;unfold NN;split
 ·rename_i h;exact⟨h1,h,h0⟩
 ·have hg:=J.gp p hp;have:=zJl j.ph j.ph.length p hp;exact⟨zCt h1 ⟨hg.1,by unfold ZQ;unfold yM;omega⟩,rfl,h0⟩
def zSh {j:Jn} (J:JV j) {c:Ct} (C:CV j c) (h0:c.wt=0) {p:Nat} (hp:p<j.ph.length):CV j (kR j c p)/\(kR j c p).wt=0:=by
 unfold kR;split
 ·exact⟨C,h0⟩
 ·rename_i hk;obtain⟨B,hg,hw⟩:=zX0 J C h0 hp (by simpa using hk);have hr:=J.rg p hp;refine⟨⟨B.n,B.k,B.x,B.g,by rw[yBv];exact B.m,λr hr2=>?_,B.w,B.z⟩,hw⟩;have hs:=QV j (yM j p).ring (yM j p).group (p+1);generalize dZ j (yM j p).ring (yM j p).group (p+1)=f at *;dsimp only
  have e:((NN j c p).nx.set (yM j p).ring.toNat f).getD r default=if r=(yM j p).ring.toNat then f else(NN j c p).nx.getD r default:=by
   simp only[yAg,yB8];split
   ·rename_i h;subst h;rw[zZ8 Z,B.m,zZ8 hr2];rfl
   ·rename_i h;rw[zZ7 (λe=>h e.symm)]
  rw[e];split
  ·rename_i h
   rcases hs with hs|hs
   ·exact .inl hs
   ·refine .inr ?_;rw[hg,show(r:Int)=(yM j p).ring by omega];exact hs.1
  ·exact B.v r hr2
def QW (j:Jn) (x r t:Int):cmF j x r t= -1∨∃p:Nat,cmF j x r t=p/\p<j.ph.length/\(yM j p).ring=r/\jF j.cf p t=false:=by
 unfold cmF;split
 ·rename_i p h;have h1:=yF8 h;have h2:=eQ.1 (yE4 h);simp only[yAk,yCe]at h1;exact .inr ⟨p,rfl,h2.1,h2.2,h1.1⟩
 ·split
  ·rename_i p h;have h1:=yF8 h;have h2:=eQ.1 (yE4 h);rw[yCe]at h1;exact .inr ⟨p,rfl,h2.1,h2.2,h1⟩
  ·exact .inl Z
def EF {j:Jn} {c:Ct} {r:Int} {t:Nat} (ht:t<j.ph.length):aS j c r t= -1∨∃p:Nat,aS j c r t=p/\p<j.ph.length/\(yM j p).ring=r:=by
 unfold aS;split
 ·rename_i h;exact .inr ⟨t,rfl,ht,h.symm⟩
 ·rcases QW j (c.nx.getD r.toNat default) r t with h|⟨p,h1,h2,h3,_⟩
  ·exact .inl h
  ·exact .inr ⟨p,h1,h2,h3⟩
def MX {j:Jn} (J:JV j) {c:Ct} (C:CV j c) (h0:c.wt=0) {t:Nat} (ht:t<j.ph.length) (r:Int):CV j (jB j t c r)/\(jB j t c r).wt=0:=by
 unfold jB;split
 ·split
  ·exact⟨C,h0⟩
  ·rename_i h
   rcases EF (j:=j) (c:=c) (r:=r) ht with h1|⟨p,h1,h2,_⟩
   ·exact absurd h1 h
   ·rw[h1,yAx];exact zSh J C h0 h2
 ·exact⟨C,h0⟩
def QX {j:Jn} (J:JV j) {c:Ct} (C:CV j c) (h0:c.wt=0) {r:Nat} (hr:r<2):CV j (eO j c r)/\(eO j c r).wt=0:=by
 unfold eO;split
 ·rename_i h;rw[yAx]at h⊢
  rcases C.v r hr with h1|h1
  ·exact absurd h1 h.2
  ·exact zSh J C h0 (by have:=h1.2.1;have:=h1.1;omega)
 ·exact⟨C,h0⟩
def zX1 {j:Jn} (J:JV j) {c:Ct} (C:CV j c) (h0:c.wt=0):CV j (cyF j c):=by
 have h1:CV j (if cyO c=true then BT j c ((c.gr+1) % ZQ j)else c)/\(if cyO c=true then BT j c ((c.gr+1) % ZQ j)else c).wt=0:=by
  split
  ·have:=RJ J;exact⟨zCt C ⟨yEl _ zB,yD2 _ zB⟩,h0⟩
  ·exact⟨C,h0⟩
 have h2:=QX J h1.1 h1.2 (r:=0) zB;exact(QX J h2.1 h2.2 (r:=1) zB).1
def zZp {p:Ph} {l:Li} {lv:Bool} (hy:1<=p.yel) (hr:0<=p.red) (h:UM p l=true):UM p (GF p l lv)=true/\((GF p l lv).lamp≠0->l.lamp≠0):=by
 unfold UM at h;unfold GF;by_cases h1:l.lamp=1
 ·rw[zZ8 h1];rw[zZ7 zB,zZ8 h1,yAc]at h;split
  ·refine⟨by unfold UM;simp;omega,λ_=>by omega⟩
  ·refine⟨by unfold UM;simp;omega,λ_=>by omega⟩
 by_cases h2:l.lamp=2
 ·rw[zZ7 h1,zZ8 h2];rw[zZ7 zB,zZ7 h1,zZ8 h2,yAc]at h;split
  ·refine⟨by unfold UM;simp;omega,λ_=>by omega⟩
  ·split
   ·refine⟨by unfold UM;simp,λh=>absurd Z h⟩
   ·refine⟨by unfold UM;simp;omega,λ_=>by omega⟩
 by_cases h3:l.lamp=3
 ·rw[zZ7 h1,zZ7 h2,zZ8 h3];rw[zZ7 zB,zZ7 h1,zZ7 h2,zZ8 h3,yAc]at h;split
  ·refine⟨by unfold UM;simp;omega,λ_=>by omega⟩
  ·refine⟨by unfold UM;simp,λh=>absurd Z h⟩
 ·rw[zZ7 h1,zZ7 h2,zZ7 h3];exact⟨by unfold UM;exact h,λh=>h⟩
def EG {j:Jn} {c:Ct} (t gr:Int) (nx:List Int) (wt:Int) (p:Nat) (hp:p<j.ph.length):xJ ⟨bY j c t,gr,nx,wt⟩ p=GF (yM j p) (xJ c p) (GH j c t p):=by
 show(bY j c t).getD p default=_
 unfold bY;simp only[yAg,yAa,yA4 hp];rfl
def zCu {j:Jn} (J:JV j) {c:Ct} (C:CV j c) (h0:c.wt=0) (t:Int):CV j ⟨bY j c t,c.gr,c.nx,c.wt⟩:=by
 have hs:=λp hp=>zZp (lv:=GH j c t p) (by have:=J.ti p hp;omega) (by have:=J.ti p hp;omega) (C.k p hp)
 refine⟨by simp[bY],λp hp=>?_,λp q hp hq hpq h1 h2=>?_,C.g,C.m,C.v,C.w,.inl h0⟩
 ·rw[EG _ _ _ _ _ hp];exact(hs p hp).1
 ·rw[EG _ _ _ _ _ hp]at h1;rw[EG _ _ _ _ _ hq]at h2;exact C.x p q hp hq hpq ((hs p hp).2 h1) ((hs q hq).2 h2)
def zCv {j:Jn} (J:JV j) {c:Ct} (C:CV j c) (t:Int):CV j (bG j c t):=by
 unfold bG;split
 ·rename_i h;have hz:=C.z;have hw:=C.w;refine⟨C.n,C.k,C.x,C.g,C.m,C.v,by dsimp only;omega,?_⟩
  rcases hz with hz|hz
  ·omega
  ·exact .inr hz
 ·have h0:c.wt=0:=by have:=C.w;omega
  have L:=zCu J C h0 t;split
  ·rename_i h;unfold UN at h;rw[yAc]at h;have h1:=MX J L h0 (t:=t.toNat) zB 0;exact(MX J h1.1 h1.2 (t:=t.toNat) zB 1).1
  ·exact zX1 J L h0
def jJ (rows:List Int) (hn:rows.length<=40) (p q:Int):zN 210 [zD iA rows,iA p,iA q] [] (bA (jF rows p q)) []:=by
 have hl:=zA iA rows;unfold jF;by_cases h1:0<=p
 case neg=>
  rw[yAh (λh=>h1 h.1)];refine eM call210 λF hF=>?_
  refine WW ?_;exact zJ
 by_cases h2:0<=q
 case neg=>
  rw[yAh (λh=>h2 h.2.1)];refine eM call210 λF hF=>?_
  refine WW ?_;exact zJ
 by_cases h3:p<rows.length
 case neg=>
  rw[yAh (λh=>h3 h.2.2.1)];refine eM call210 λF hF=>?_
  refine WW ?_;exact zJ
 by_cases h4:q<rows.length
 case neg=>
  rw[yAh (λh=>h4 h.2.2.2)];refine eM call210 λF hF=>?_
  refine WW ?_;exact zJ
 rw[yAe ⟨h1,h2,h3,h4⟩,yAv];have hy:=yI iA rows p h1 h3;generalize rows.getD p.toNat default=x at *;by_cases h5:fH (uM x q) 1=1
 ·rw[show(fH (uM x q) 1==1)=true by rw[yBf];exact h5];refine eM call210 λF hF=>?_
  refine WW ?_;exact zJ
 ·rw[show(fH (uM x q) 1==1)=false by rw[yBg];exact h5];refine eM call210 λF hF=>?_
  refine WW ?_;exact zJ
def PhB (p:Ph):Prop:=0<=p.walk/\p.walk<=60/\0<=p.clear/\p.clear<=60
def JP (p:Ph) (h:PhB p):zN 109 [wS p] [] (iA (UL p)) []:=by
 obtain⟨h1,h2,h3,h4⟩:=h;refine eM call109 λF hF=>?_
 refine WW ?_;exact zJ
def zO0 (p:Ph) (h:PhB p) (l:Li) (ht: -1000000000000<=l.tk/\l.tk<=1000000000000) (lv:Bool):zN 256 [wS p,vE l,bA lv] [] (vE (GF p l lv)) []:=by
 have c:=JP p h;unfold GF;by_cases h1:l.lamp=1
 ·rw[zZ8 h1];generalize UL p=n at*
  cases lv with
  |false=>
   rw[zZ7 (λh=>by cases h.1)];refine eM call256 λF hF=>?_
   refine WW ?_;exact zJ
  |true=>
  by_cases h2:n<=l.tk+1
  ·rw[zZ8 ⟨rfl,h2⟩];refine eM call256 λF hF=>?_
   refine zV c ?_;exact zJ
  ·rw[zZ7 (λh=>h2 h.2)];refine eM call256 λF hF=>?_
   refine zV c ?_;exact zJ
 rw[zZ7 h1];by_cases h2:l.lamp=2
 ·rw[zZ8 h2];by_cases h3:l.tk+1<p.yel
  ·rw[zZ8 h3];refine eM call256 λF hF=>?_
   refine WW ?_;exact zJ
  rw[zZ7 h3];by_cases h4:p.red=0
  ·rw[zZ8 h4];refine eM call256 λF hF=>?_
   refine WW ?_;exact zJ
  ·rw[zZ7 h4];refine eM call256 λF hF=>?_
   refine WW ?_;exact zJ
 rw[zZ7 h2];by_cases h3:l.lamp=3
 ·rw[zZ8 h3];by_cases h4:l.tk+1<p.red
  ·rw[zZ8 h4];refine eM call256 λF hF=>?_
   refine WW ?_;exact zJ
  ·rw[zZ7 h4];refine eM call256 λF hF=>?_
   refine WW ?_;exact zJ
 ·rw[zZ7 h3];refine eM call256 λF hF=>?_
  refine WW ?_;exact zJ
def zJm (p:Ph) (l:Li):zN 281 [wS p,vE l] [] (bA (UM p l)) []:=by
 unfold UM;by_cases h0:l.lamp=0
 ·rw[zZ8 h0];by_cases h:l.tk=0
  ·rw[yAe h];refine eM call281 λF hF=>?_
   refine WW ?_;exact zJ
  ·rw[yAh h];refine eM call281 λF hF=>?_
   refine WW ?_;exact zJ
 rw[zZ7 h0];by_cases h1:l.lamp=1
 ·rw[zZ8 h1];by_cases h:0<=l.tk
  ·by_cases h':l.tk<=1073741824
   ·rw[yAe ⟨h,h'⟩];refine eM call281 λF hF=>?_
    refine WW ?_;exact zJ
   ·rw[yAh (λk=>h' k.2)];refine eM call281 λF hF=>?_
    refine WW ?_;exact zJ
  ·rw[yAh (λk=>h k.1)];refine eM call281 λF hF=>?_
   refine WW ?_;exact zJ
 rw[zZ7 h1];by_cases h2:l.lamp=2
 ·rw[zZ8 h2];by_cases h:0<=l.tk
  ·by_cases h':l.tk<p.yel
   ·rw[yAe ⟨h,h'⟩];refine eM call281 λF hF=>?_
    refine WW ?_;exact zJ
   ·rw[yAh (λk=>h' k.2)];refine eM call281 λF hF=>?_
    refine WW ?_;exact zJ
  ·rw[yAh (λk=>h k.1)];refine eM call281 λF hF=>?_
   refine WW ?_;exact zJ
 rw[zZ7 h2];by_cases h3:l.lamp=3
 ·rw[zZ8 h3];by_cases h:0<=l.tk
  ·by_cases h':l.tk<p.red
   ·rw[yAe ⟨h,h'⟩];refine eM call281 λF hF=>?_
    refine WW ?_;exact zJ
   ·rw[yAh (λk=>h' k.2)];refine eM call281 λF hF=>?_
    refine WW ?_;exact zJ
  ·rw[yAh (λk=>h k.1)];refine eM call281 λF hF=>?_
   refine WW ?_;exact zJ
 ·rw[zZ7 h3];refine eM call281 λF hF=>?_
  refine WW ?_;exact zJ
def EH (j:Jn) (r:Int) (i:Nat):rpN j r (i+1)=if(yM j i).ring=r then rpN j r i++[i]else rpN j r i:=by
 unfold rpN;rw[yCm,yDc];by_cases h:(yM j i).ring=r
 ·rw[zZ8 h];simp[h]
 ·rw[zZ7 h];simp[h]
theorem zCw (j:Jn) (r:Int):∀n i,i<=n->∃l,rpN j r n=rpN j r i++l
 |0,i,h=>⟨[],by rw[Nat.le_zero.1 h];simp⟩
 | n+1,i,h=>by
  by_cases e:i=n+1
  ·exact⟨[],by rw[e];simp⟩
  ·obtain⟨l,hl⟩:=zCw j r n i zB;rw[EH];split
   ·exact⟨l++[n],by rw[hl,yA7]⟩
   ·exact⟨l,hl⟩
def zEo (j:Jn) (r:Int):List (Nat×xN):=[(1003,.box [zD wS j.ph,zD iA j.cf,iA j.st]),(1004,.box [iA r])]
def zJn (j:Jn) (r:Int):zN 227 [wJ j,iA r] [] (.fn 250 [.ptr 1003 0 0,.ptr 1004 0 0]) (zEo j r):=by
 refine eM call227 λF hF=>?_
 repeat' (first|(refine zE ?_;first|refine uS (kW (v:=AV.agg _) 1003 Z Z) Z Z Z ?_|refine uS (kW (v:=AV.s _) 1004 Z Z) Z Z Z ?_|refine vW tok Z Z ?_|refine qJ ?_)|(first|refine xS ?_|refine xD ?_|refine vI Z ?_|refine zY Z ?_|refine zS Z ?_|refine xL Z (λhc=>?_) λhc=>?_|refine xA ?_|refine yT ?_|refine xF ?_|refine yW ?_))
 exact zL [1003,1004] Z Z Z Z
def zAd (j:Jn) (hn:j.ph.length<=1000) (r:Int):ZE prog 250 [.ptr 1003 0 0,.ptr 1004 0 0] (zEo j r) ((NB j r).map λp:Nat=>[iA (p:Int)]):=by
 have hl:=zA wS j.ph;refine cT func250 Z (λargs w=>call250 args w) Z Z Z (λF y hro hit hY=>?_);unfold zEo;refine WW ?_;refine zO (j.ph.length) [1003,1004] [1003,1004] [0,2,7,8] [9,1000000,0,2,7,8] Z (λi T U=>⟨(9,iA i)::(1000000,.gh (rpN j r i).length)::T,U⟩) ?_;(conv=>whnf);refine⟨by rfl,?_,?_⟩
 ·intro i hi;have hy:=zM wS j.ph i hi;have es:=EH j r i
  change (j.ph.map wS)[i]? =some (wS (yM j i))at hy
  by_cases hr:(yM j i).ring=r
  ·rw[zZ8 hr]at es;obtain⟨l2,hpre⟩:=zCw j r j.ph.length (i+1) zB;rw[es]at hpre⊢
   have hys:((NB j r).map λp:Nat=>[iA (p:Int)])[(rpN j r i).length]? =some [iA (i:Int)]:=by
    unfold NB;rw[hpre,yAa,yBe zU,yA1 (yAb _),yB9];rfl
   have hlen:=(yAu.1 hys).1;rw[yAd];generalize ((NB j r).map λp:Nat=>[iA (p:Int)])=xs at *;generalize (rpN j r i).length=k at *;generalize yM j i=t at*
   (repeat' (first|refine uL ?_|((first|apply xM|apply wA)<;>intro hc)|(refine zE ?_;refine xT ?_;first|(refine CS ?_;refine RV hit hY Z Z hys Z Z Z ?_ ?_))|(refine zE ?_;first|refine SM ?_)|fail))
   ·rfl
   ·exact dV Z (.inr zB)
  ·rw[zZ7 hr]at es;rw[es];generalize (rpN j r i).length=k at *;generalize yM j i=t at *;refine WW ?_;rfl
 ·have e:(rpN j r j.ph.length).length=((NB j r).map λp:Nat=>[iA (p:Int)]).length:=by rw[zZ9];rfl
  refine WW ?_;exact aL Z (.inl e)
def inS (s p:Int):Bool:=fH (uM s p) 1==1
def zUs:∀(s:_root_.Fin 256) (p:_root_.Fin 8),qN BinOp.eql (IntKind.u64.wrap ((BitVec.ofInt IntKind.u64.bits (Int.fdiv (s.val:Int) (2 ^ min (p.val:Int).toNat IntKind.u64.bits)) &&& BitVec.ofInt IntKind.u64.bits 1).toNat:Int)) 1=inS s.val p.val:=by decide +kernel
def EJ (s p:Int) (hs:0<=s/\s<256) (hp:0<=p/\p<8):zN 304 [iA s,iA p] [] (bA (inS s p)) []:=by
 have hf:=zUs ⟨s.toNat,zB⟩ ⟨p.toNat,zB⟩;rw[show((s.toNat:Nat):Int)=s by omega,show((p.toNat:Nat):Int)=p by omega]at hf;generalize inS s p=q at *;subst hf;refine eM call304 λF hF=>?_
 (repeat' (first|refine uL ?_|((first|apply xM|apply wA)<;>intro hc)|(refine zE ?_;first|(refine wL ?_;refine wG (RU Z Z) Z ?_))|fail))
 exact zJ
def zJo (p:Nat->Bool) (i:Nat) (hi:i<8):inS (fT p 8) i=p i:=zPm p i hi
def GJ (c:Ct) (p:Nat):Bool:=(xJ c p).lamp != 0
def seF (c:Ct):Int:=fT (GJ c) c.li.length
theorem JQ (p:Nat->Bool):∀n m:Nat,n<=m->(∀i,n<=i->i<m->p i=false)->fT p m=fT p n
 |n,0,h,_=>by rw[Nat.le_zero.1 h]
 |n,m+1,h,hp=>by
  by_cases e:n=m+1
  ·rw[e]
  ·rw[fT,hp m zB zB];exact JQ p n m zB λi h1 h2=>hp i h1 zB
def zUt (p:Nat->Bool) (n:Nat) (hn:n<=25):orI (fT p n) (p2 n)=fT p n+p2 n:=by
 have h1:=PH p n;have h2:(2:Nat) ^ n<=2 ^ 25:=yEb zB hn;rw[EV,show p2 (n:Int)=((2 ^ n:Nat):Int) by unfold p2;simp,IG _ _ zB zB];have h3:=Nat.two_pow_add_eq_or_of_lt h1 1;rw[Nat.mul_one]at h3;rw[Nat.or_comm,<-h3];omega
def zX2 (c:Ct) (hn:c.li.length<=25):zN 283 [ctA c] [] (iA (seF c)) []:=by
 have hl:=zA vE c.li;unfold seF;refine eM call283 λF hF=>?_
 refine WW ?_;refine zO (c.li.length) [] [] [7,8] [3,9,7,8] Z (λi T U=>⟨(3,iA (fT (GJ c) i))::(9,iA i)::T,U⟩) ?_;(conv=>whnf);refine⟨by rfl,?_,?_⟩
 ·intro i hi;have hy:=zM vE c.li i hi
  change (c.li.map vE)[i]? =some (vE (xJ c i))at hy
  have ho:=zUt (GJ c) i zB
  have e:fT (GJ c) (i+1)=if GJ c i=true then fT (GJ c) i+p2 i else fT (GJ c) i:=rfl
  rw[<-ho]at e;have hsb:GJ c i=((xJ c i).lamp != 0):=rfl;rw[e,hsb];generalize fT (GJ c) i=b at *;generalize xJ c i=t at *;by_cases h:t.lamp=0
  ·rw[zZ7 (by simp[h])];refine WW ?_;rfl
  ·rw[zZ8 (by simp[h])];refine WW ?_;rfl
 ·(refine WW ?_)
  exact zJ
def MY {P:Nat->Prop}:∀n,P n->∃m,m<=n/\P m/\∀k,k<m->¬P k:=by
 intro n
 induction n using Nat.strongRecOn with
 |_ n ih=>
  intro h;by_cases hx:∃k,k<n/\P k
  ·obtain⟨k,h1,h2⟩:=hx;obtain⟨m,h3,h4,h5⟩:=ih k h1 h2;exact⟨m,zB,h4,h5⟩
  ·exact⟨n,yAb _,h,λk h1 h2=>hx ⟨k,h1,h2⟩⟩
def GK (rows:List Int) (s:Int) (p q:Nat):Bool:=inS s p&&(decide (q≠p)&&(inS s q&&jF rows p q))
theorem zJp (rows:List Int) (hn:rows.length<=8) (s:Int) (hs:0<=s/\s<256):∃p q:Int,zN 282 [zD iA rows,iA s] [] (.tup [iA p,iA q]) []/\((p= -1/\∀a b:Nat,a<rows.length->b<rows.length->GK rows s a b=false)∨(0<=p/\∃a b:Nat,a<rows.length/\b<rows.length/\GK rows s a b=true)):=by
 have hl:=zA iA rows;by_cases hx:∃a,a<rows.length/\∃b,b<rows.length/\GK rows s a b=true
 ·obtain⟨a,ha,hx⟩:=hx;obtain⟨p,_,⟨hp,hx⟩,hpm⟩:=MY (P:=λa=>a<rows.length/\∃b,b<rows.length/\GK rows s a b=true) a ⟨ha,hx⟩;obtain⟨b,hb⟩:=hx;obtain⟨q,_,⟨hq,hc⟩,hqm⟩:=MY (P:=λb=>b<rows.length/\GK rows s p b=true) b hb;refine⟨p,q,?_,.inr ⟨zB,p,q,hp,hq,hc⟩⟩
  have hsp:inS s p=true:=by
   unfold GK at hc;rw[yAk]at hc;exact hc.1
  refine eM call282 λF hF=>?_
  refine WW ?_;refine xR (rows.length) [] [] [0,1,9] [10,0,1,9] Z (λi T U zs=>(i<=p)/\zs=⟨(10,iA i)::T,U⟩) ?_;(conv=>whnf);refine⟨?_,?_,?_⟩
  ·exact⟨yAp _,rfl⟩
  ·rintro u st hu ⟨hup,rfl⟩;have ci:=EJ s u hs zB;by_cases hup2:u=p
   ·subst hup2;rw[hsp]at ci;refine zV ci ?_;refine xR (rows.length) [] [] [0,1,6,9,10,18] [19,0,1,6,9,10,18] Z (λi T U zs=>(i<=q)/\zs=⟨(19,iA i)::T,U⟩) ?_;(conv=>whnf);refine⟨?_,?_,?_⟩
    ·exact⟨yAp _,rfl⟩
    ·rintro v st hv ⟨hvq,rfl⟩;have cj:=EJ s v hs zB;have ck:=jJ rows zB u v;by_cases hvq2:v=q
     ·subst hvq2;unfold GK at hc;simp only[yAk,yAc]at hc;rw[hc.2.2.1]at cj;rw[hc.2.2.2]at ck;have hne:(v:Int)≠u:=by omega
      refine yR (vH cj ck) ?_;exact zJ
     ·have hno:GK rows s u v=false:=by
       cases hcc:GK rows s u v with
       |false=>rfl
       |true=>exact absurd ⟨hv,hcc⟩ (hqm v zB)
      unfold GK at hno;rw[hsp,yAv]at hno;by_cases h1:v=u
      ·have hne:(v:Int)=u:=by omega
       refine WW ?_;exact⟨zB,rfl⟩
      have hne:(v:Int)≠u:=by omega
      rw[yAe h1,yAv]at hno
      cases h2:inS s v with
      |false=>
       rw[h2]at cj;refine zV cj ?_;exact⟨zB,rfl⟩
      |true=>
       rw[h2,yAv]at hno;rw[h2]at cj;rw[hno]at ck;refine yR (vH cj ck) ?_;exact⟨zB,rfl⟩
    ·rintro st ⟨hvq,rfl⟩;exfalso;omega
   ·have hno:∀b,b<rows.length->GK rows s u b=false:=λb hb=>by
     cases hcc:GK rows s u b with
     |false=>rfl
     |true=>exact absurd ⟨hu,b,hb,hcc⟩ (hpm u zB)
    cases h3:inS s u with
    |false=>
     rw[h3]at ci;refine zV ci ?_;exact⟨zB,rfl⟩
    |true=>
    rw[h3]at ci;refine zV ci ?_;refine zO (rows.length) [] [] [0,1,6,9,10,18] [19,0,1,6,9,10,18] Z (λi T U=>⟨(19,iA i)::T,U⟩) ?_;(conv=>whnf);refine⟨by rfl,?_,?_⟩
    ·intro v hv;have cj:=EJ s v hs zB;have ck:=jJ rows zB u v;have hno:=hno v hv;unfold GK at hno;rw[h3,yAv]at hno;by_cases h1:v=u
     ·have hne:(v:Int)=u:=by omega
      refine WW ?_;rfl
     have hne:(v:Int)≠u:=by omega
     rw[yAe h1,yAv]at hno
     cases h2:inS s v with
     |false=>
      rw[h2]at cj;refine zV cj ?_;rfl
     |true=>
      rw[h2,yAv]at hno;rw[h2]at cj;rw[hno]at ck;refine yR (vH cj ck) ?_;rfl
    ·(refine WW ?_)
     exact⟨zB,rfl⟩
  ·rintro st ⟨hup,rfl⟩;exfalso;omega
 ·have hno:∀a b,a<rows.length->b<rows.length->GK rows s a b=false:=λa b ha hb=>by
   cases hcc:GK rows s a b with
   |false=>rfl
   |true=>exact absurd ⟨a,ha,b,hb,hcc⟩ hx
  refine⟨-1,-1,?_,.inl ⟨rfl,hno⟩⟩;clear hx;refine eM call282 λF hF=>?_
  refine WW ?_;refine zO (rows.length) [] [] [0,1,9] [10,0,1,9] Z (λi T U=>⟨(10,iA i)::T,U⟩) ?_;(conv=>whnf);refine⟨by rfl,?_,?_⟩
  ·intro u hu;have ci:=EJ s u hs zB
   cases h3:inS s u with
   |false=>
    rw[h3]at ci;refine zV ci ?_;rfl
   |true=>
   rw[h3]at ci;refine zV ci ?_;refine zO (rows.length) [] [] [0,1,6,9,10,18] [19,0,1,6,9,10,18] Z (λi T U=>⟨(19,iA i)::T,U⟩) ?_;(conv=>whnf);refine⟨by rfl,?_,?_⟩
   ·intro v hv;have cj:=EJ s v hs zB;have ck:=jJ rows zB u v;have hno:=hno u v hu hv;unfold GK at hno;rw[h3,yAv]at hno;by_cases h1:v=u
    ·have hne:(v:Int)=u:=by omega
     refine WW ?_;rfl
    have hne:(v:Int)≠u:=by omega
    rw[yAe h1,yAv]at hno
    cases h2:inS s v with
    |false=>
     rw[h2]at cj;refine zV cj ?_;rfl
    |true=>
     rw[h2,yAv]at hno;rw[h2]at cj;rw[hno]at ck;refine yR (vH cj ck) ?_;rfl
   ·(refine WW ?_)
    rfl
  ·(refine WW ?_)
   exact zJ
def EK (j:Jn) (hn:j.ph.length<=1000) (hg:∀p:Nat,p<j.ph.length->0<=(yM j p).group/\(yM j p).group<=3):zN 284 [wJ j] [] (iA (ZQ j)) []:=by
 have hl:=zA wS j.ph;unfold ZQ;refine eM call284 λF hF=>?_
 refine WW ?_;refine zO (j.ph.length) [] [] [7,8] [3,9,7,8] Z (λi T U=>⟨(3,iA (grN j.ph i))::(9,iA i)::T,U⟩) ?_;(conv=>whnf);refine⟨by rfl,?_,?_⟩
 ·intro i hi;have hy:=zM wS j.ph i hi;have hb:=hg i hi;unfold yM at hb;have e:grN j.ph (i+1)=max (grN j.ph i) ((j.ph.getD i default).group+1):=rfl;rw[e];generalize grN j.ph i=g at *;generalize j.ph.getD i default=t at *;refine WW ?_;rfl
 ·(refine WW ?_)
  exact zJ
def JR (j:Jn) (r g:Int) (i:Nat):List Nat:=(List.range i).filter λp=>(yM j p).ring==r&&(yM j p).group==g
def zJq (j:Jn) (r g:Int) (i:Nat):JR j r g (i+1)=if(yM j i).ring=r/\(yM j i).group=g then JR j r g i++[i]else JR j r g i:=by
 unfold JR;rw[yCm,yDc];by_cases h:(yM j i).ring=r/\(yM j i).group=g
 ·rw[zZ8 h];simp[h.1,h.2]
 ·rw[zZ7 h]
  have:((yM j i).ring==r&&(yM j i).group==g)=false:=by
   rw[Bool.and_eq_false_iff]
   rcases Classical.not_and_iff_not_or_not.1 h with h|h
   ·exact .inl IY
   ·exact .inr IY
  simp[this]
def zO1 {α:Type} (f:α->AV) (l:List α):AV.sl false ((l.map f).take (l.map f).length)=zD f l:=by rw[yAf];rfl
def nA (p:Nat):AV:=iA (p:Int)
def zZq (j:Jn) (hn:j.ph.length<=1000) (r g:Int):zN 286 [wJ j,iA r,iA g] [] (zD nA (JR j r g j.ph.length)) []:=by
 have hl:=zA wS j.ph;refine eM call286 λF hF=>?_
 refine WW ?_;refine yZ 7 1001 1 Z Z Z ?_;refine zO (j.ph.length) [1001] [] [1,2,11,12] [7,13,1,2,11,12] Z (λi T U=>⟨(7,.ref 1001 0 ((JR j r g i).map nA).length)::(13,iA i)::T,(1001,.arr 1 ((JR j r g i).map nA) true)::U⟩) ?_;(conv=>whnf);refine⟨by rfl,?_,?_⟩
 ·intro i hi;have hy:=zM wS j.ph i hi
  change (j.ph.map wS)[i]? =some (wS (yM j i))at hy
  have es:=zJq j r g i
  have hlen:(JR j r g i).length<=1000:=by
   have:(JR j r g i).length<=(List.range i).length:=yCl _ _;rw[yBp]at this;omega
  have hlm:((JR j r g i).map nA).length<=1000:=by rw[zZ9];exact hlen
  rw[es];generalize JR j r g i=o at *;generalize yM j i=t at *;by_cases h1:t.ring=r
  ·by_cases h2:t.group=g
   ·rw[zZ8 ⟨h1,h2⟩,yAi];generalize o.map nA=xs at *;refine WW ?_;rfl
   ·rw[zZ7 (λh=>h2 h.2)];refine WW ?_;rfl
  ·rw[zZ7 (λh=>h1 h.1)];refine WW ?_;rfl
 ·(refine WW ?_)
  exact zK [] Z Z (zO1 _ _) Z
def JS (l:List Nat) (x:Int):Bool:=l.any λp:Nat=>(p:Int)==x
def zJr (l:List Nat) (hn:l.length<=1000) (x:Int):∃k:Int,zN 305 [zD nA l,iA x] [] (iA k) []/\ -1<=k/\k<1000/\(JS l x=decide (0<=k)):=by
 have hl:=zA nA l;by_cases hx:∃i,i<l.length/\((l.getD i default:Nat):Int)=x
 ·obtain⟨i0,h1,h2⟩:=hx;obtain⟨k,_,⟨hk,hkx⟩,hkm⟩:=MY (P:=λi=>i<l.length/\((l.getD i default:Nat):Int)=x) i0 ⟨h1,h2⟩;refine⟨k,?_,zB,zB,?_⟩
  ·(refine eM call305 λF hF=>?_)
   refine WW ?_;refine xR (l.length) [] [] [0,1,7] [8,0,1,7] Z (λi T U zs=>(i<=k)/\zs=⟨(8,iA i)::T,U⟩) ?_;(conv=>whnf);refine⟨?_,?_,?_⟩
   ·exact⟨yAp _,rfl⟩
   ·rintro u st hu ⟨huk,rfl⟩;have hy:=zM nA l u hu;by_cases e:u=k
    ·subst e;generalize l.getD u default=v at *;unfold nA at hy;refine WW ?_;exact zJ
    ·have hne:¬((l.getD u default:Nat):Int)=x:=λh=>hkm u zB ⟨hu,h⟩
     generalize l.getD u default=v at *;unfold nA at hy;refine WW ?_;exact⟨zB,rfl⟩
   ·rintro st ⟨huk,rfl⟩;exfalso;omega
  ·rw[yAe zB];unfold JS;rw[yBo];exact⟨l.getD k default,by simp[List.getD,hk],by rw[yBf];exact hkx⟩
 ·refine⟨-1,?_,zB,zB,?_⟩
  ·(refine eM call305 λF hF=>?_)
   refine WW ?_;refine zO (l.length) [] [] [0,1,7] [8,0,1,7] Z (λi T U=>⟨(8,iA i)::T,U⟩) ?_;(conv=>whnf);refine⟨by rfl,?_,?_⟩
   ·intro u hu;have hy:=zM nA l u hu;have hne:¬((l.getD u default:Nat):Int)=x:=λh=>hx ⟨u,hu,h⟩
    generalize l.getD u default=v at *;unfold nA at hy;clear hx;refine WW ?_;rfl
   ·clear hx;refine WW ?_;exact zJ
  ·rw[yAh zB];unfold JS;rw[yCy];intro p hp;obtain⟨i,hi,rfl⟩:=yCh hp;intro h;rw[yBf]at h;exact hx ⟨i,hi,by simpa [List.getD,hi]using h⟩
def zAe (l:List Nat) (hn:l.length<=1000) (x:Int):zN 285 [zD nA l,iA x] [] (bA (JS l x)) []:=by
 obtain⟨k,c,h1,h2,h3⟩:=zJr l hn x;rw[h3];by_cases h:0<=k
 ·rw[yAe h];refine eM call285 λF hF=>?_
  refine zV c ?_;exact zJ
 ·rw[yAh h];refine eM call285 λF hF=>?_
  refine zV c ?_;exact zJ
def zJs (l:Li):zN 307 [vE l] [] (bA (l.lamp != 0)) []:=by
 by_cases h:l.lamp=0
 ·rw[show(l.lamp != 0)=false by simp[h]];refine eM call307 λF hF=>?_
  refine WW ?_;exact zJ
 ·rw[show(l.lamp != 0)=true by simp[h]];refine eM call307 λF hF=>?_
  refine WW ?_;exact zJ
def zUu (c:Ct) (hn:c.li.length<=1000):∃k:Int,zN 309 [zD vE c.li,.fn 307 []] [] (iA k) []/\ -1<=k/\k<1000/\(arF c= !decide (0<=k)):=by
 have hl:=zA vE c.li;by_cases hx:∃i,i<c.li.length/\(xJ c i).lamp≠0
 ·obtain⟨i0,h1,h2⟩:=hx;obtain⟨k,_,⟨hk,hkx⟩,hkm⟩:=MY (P:=λi=>i<c.li.length/\(xJ c i).lamp≠0) i0 ⟨h1,h2⟩;refine⟨k,?_,zB,zB,?_⟩
  ·(refine eM call309 λF hF=>?_)
   refine WW ?_;refine xR (c.li.length) [] [] [0,1,7] [8,0,1,7] Z (λi T U zs=>(i<=k)/\zs=⟨(8,iA i)::T,U⟩) ?_;(conv=>whnf);refine⟨?_,?_,?_⟩
   ·exact⟨yAp _,rfl⟩
   ·rintro u st hu ⟨huk,rfl⟩;have hy:=zM vE c.li u hu
    change (c.li.map vE)[u]? =some (vE (xJ c u))at hy
    have cn:=zJs (xJ c u);by_cases e:u=k
    ·subst e;rw[show((xJ c u).lamp != 0)=true by simpa using hkx]at cn;generalize xJ c u=v at *;refine zV cn ?_;exact zJ
    ·have hne:(xJ c u).lamp=0:=yD7 λh=>hkm u zB ⟨hu,h⟩
     rw[show((xJ c u).lamp != 0)=false by simpa using hne]at cn;generalize xJ c u=v at *;refine zV cn ?_;exact⟨zB,rfl⟩
   ·rintro st ⟨huk,rfl⟩;exfalso;omega
  ·rw[yAe zB];unfold arF;exact yC1.2 ⟨xJ c k,by simp[xJ,List.getD,hk],by simpa using hkx⟩
 ·have h0:∀i,i<c.li.length->(xJ c i).lamp=0:=λi hi=>yD7 λh=>hx ⟨i,hi,h⟩
  refine⟨-1,?_,zB,zB,?_⟩
  ·clear hx;refine eM call309 λF hF=>?_
   refine WW ?_;refine zO (c.li.length) [] [] [0,1,7] [8,0,1,7] Z (λi T U=>⟨(8,iA i)::T,U⟩) ?_;(conv=>whnf);refine⟨by rfl,?_,?_⟩
   ·intro u hu;have hy:=zM vE c.li u hu
    change (c.li.map vE)[u]? =some (vE (xJ c u))at hy
    have cn:=zJs (xJ c u);have h0:=h0 u hu;rw[show((xJ c u).lamp != 0)=false by simpa using h0]at cn;generalize xJ c u=v at *;refine zV cn ?_;rfl
   ·(refine WW ?_)
    exact zJ
  ·rw[yAh zB];unfold arF;rw[yEt,yAm];intro l hl;obtain⟨i,hi,rfl⟩:=yCh hl;have:=h0 i hi;simpa [xJ,List.getD,hi]using this
def EL (c:Ct) (hn:c.li.length<=1000):zN 287 [ctA c] [] (bA (arF c)) []:=by
 obtain⟨k,c1,h1,h2,h3⟩:=zUu c hn
 have c2:zN 306 [zD vE c.li,.fn 307 []] [] (bA (decide (0<=k))) []:=by
  by_cases h:0<=k
  ·rw[yAe h];refine eM call306 λF hF=>?_
   refine zV c1 ?_;exact zJ
  ·rw[yAh h];refine eM call306 λF hF=>?_
   refine zV c1 ?_;exact zJ
 rw[h3]
 cases hd:decide (0<=k)<;>rw[hd]at c2
 ·(refine eM call287 λF hF=>?_)
  refine zV c2 ?_;exact zJ
 ·(refine eM call287 λF hF=>?_)
  refine zV c2 ?_;exact zJ
def nvF (j:Jn) (c:Ct):Bool:=(List.range j.ph.length).all λp=>UM (yM j p) (xJ c p)
def ncF (j:Jn) (c:Ct):Bool:=(List.range j.cf.length).all λa=>(List.range j.cf.length).all λb=>!GK j.cf (seF c) a b
def nxO (j:Jn) (c:Ct) (r:Nat):Bool:=decide (c.nx.getD r default= -1)||JS (JR j r c.gr j.ph.length) (c.nx.getD r default)
def vcF (j:Jn) (c:Ct):Bool:=decide (c.li.length=j.ph.length/\c.nx.length=2)&&(nvF j c&&(ncF j c&&(decide (0<=c.gr/\c.gr<ZQ j)&&((List.range 2).all (nxO j c)&&(decide (0<=c.wt/\c.wt<=j.st)&&(decide (c.wt=0)||arF c))))))
structure JB (j:Jn):Prop where
 n:j.ph.length<=8
 c:j.cf.length<=8
 gp:∀p:Nat,p<j.ph.length->0<=(yM j p).group/\(yM j p).group<=3
theorem JV.b {j:Jn} (J:JV j):JB j:=⟨J.n.2,by rw[J.c];exact J.n.2,J.gp⟩
def zZr {n:Nat} (h:n<=8):p2 (n:Int)<=256:=by
 have:n=0∨n=1∨n=2∨n=3∨n=4∨n=5∨n=6∨n=7∨n=8:=by omega
 rcases this with rfl|rfl|rfl|rfl|rfl|rfl|rfl|rfl|rfl<;>decide
theorem zO2 (j:Jn) (J:JB j) (c:Ct):zN 255 [wJ j,ctA c] [] (bA (vcF j c)) []:=by
 have hlp:=zA wS j.ph;have hll:=zA vE c.li;have hln:=zA iA c.nx;have hn8:=J.n;unfold vcF;by_cases h1:c.li.length=j.ph.length
 case neg=>
  rw[yAh (λh=>h1 h.1)];refine eM call255 λF hF=>?_
  refine WW ?_;exact zJ
 by_cases h2:c.nx.length=2
 case neg=>
  rw[yAh (λh=>h2 h.2)];refine eM call255 λF hF=>?_
  refine WW ?_;exact zJ
 rw[yAe ⟨h1,h2⟩,yAv];have cs:=zX2 c zB;have hsb:=zAm (GJ c) c.li.length zB;have hp8:=zZr (n:=c.li.length) zB
 change 0<=seF c/\seF c<p2 c.li.length at hsb
 obtain⟨cp,cq,cc,hcl⟩:=zJp j.cf J.c (seF c) zB
 have hnc:ncF j c=decide (cp= -1):=by
  unfold ncF
  rcases hcl with⟨h3,h4⟩|⟨h3,a,b,ha,hb,h4⟩
  ·rw[yAe h3,yAm];intro a ha;rw[yAm];intro b hb;rw[h4 a b (yAt.1 ha) (yAt.1 hb)];rfl
  ·rw[yAh zB,yC1];refine⟨a,yAt.2 ha,?_⟩;rw[yCt,yC1];exact⟨b,yAt.2 hb,by rw[h4];decide⟩
 have hcp:cp= -1∨0<=cp:=by
  rcases hcl with h|h
  ·exact .inl h.1
  ·exact .inr h.1
 have cg:=EK j zB J.gp;have ca:=EL c zB;clear hcl;rw[hnc];generalize seF c=se at *;generalize ZQ j=gm at *;generalize hra:arF c=ra at *;refine eM call255 λF hF=>?_
 refine WW ?_;refine xR (j.ph.length) [2,3] [2,3] [2,3,25,26] [27,2,3,25,26] Z (λi T U zs=>(∀s:Nat,s<i->UM (yM j s) (xJ c s)=true)/\zs=⟨(27,iA i)::T,U⟩) ?_;(conv=>whnf);refine⟨?_,?_,?_⟩
 ·exact⟨λs hs=>absurd hs (yCj _),rfl⟩
 ·rintro i st hi ⟨hp,rfl⟩;have hy:=zM wS j.ph i hi;have hyl:=zM vE c.li i zB
  change (j.ph.map wS)[i]? =some (wS (yM j i))at hy
  change (c.li.map vE)[i]? =some (vE (xJ c i))at hyl
  have cv:=zJm (yM j i) (xJ c i)
  cases hq:UM (yM j i) (xJ c i)with
  | true=>
   rw[hq]at cv
   have hp2:∀s:Nat,s<i+1->UM (yM j s) (xJ c s)=true:=λs hs=>by
    by_cases hsi:s=i
    ·subst hsi;assumption
    ·exact hp s zB
   clear hq hp;generalize yM j i=t at *;generalize xJ c i=l at *;clear cs cc cg ca;refine zV cv ?_;exact⟨hp2,rfl⟩
  |false=>
   have hnv:nvF j c=false:=yC1.2 ⟨i,yAt.2 hi,by rw[hq];decide⟩;rw[hq]at cv;rw[hnv,yBy];clear hq hp;generalize yM j i=t at *;generalize xJ c i=l at *;clear cs cc cg ca;refine zV cv ?_;exact zJ
 ·rintro st ⟨hp,rfl⟩;have hnv:nvF j c=true:=yAm.2 λi hi=>hp i (yAt.1 hi)
  rw[hnv,yAv];clear hp hnv;by_cases hcq:cp= -1
  case neg=>
   rw[yAh hcq];refine yR (vH cs cc) ?_;exact zJ
  rw[yAe hcq,yAv];by_cases hg0:0<=c.gr
  case neg=>
   rw[yAh (λh=>hg0 h.1)];refine yR (gK cs cc cg) ?_;exact zJ
  by_cases hg1:c.gr<gm
  case neg=>
   rw[yAh (λh=>hg1 h.2)];refine yR (gK cs cc cg) ?_;exact zJ
  rw[yAe ⟨hg0,hg1⟩,yAv];refine yR (gK cs cc cg) ?_;refine xR (c.nx.length) [2,3] [2,3] [2,3,62,63] [64,2,3,62,63] Z (λi T U zs=>(∀s:Nat,s<i->nxO j c s=true)/\zs=⟨(64,iA i)::T,U⟩) ?_;(conv=>whnf);refine⟨?_,?_,?_⟩
  ·exact⟨λs hs=>absurd hs (yCj _),rfl⟩
  ·rintro i st hi ⟨hp,rfl⟩;have hy:=zM iA c.nx i hi;have co:=zZq j zB i c.gr
   have hlen:(JR j i c.gr j.ph.length).length<=1000:=by
    have:(JR j i c.gr j.ph.length).length<=(List.range j.ph.length).length:=yCl _ _;rw[yBp]at this;omega
   have ch:=zAe (JR j i c.gr j.ph.length) hlen (c.nx.getD i default)
   have next:nxO j c i=true->∀s:Nat,s<i+1->nxO j c s=true:=λh s hs=>by
    by_cases hsi:s=i
    ·subst hsi;exact h
    ·exact hp s zB
   have stop:nxO j c i=false->((List.range 2).all (nxO j c))=false:=λh=>yC1.2 ⟨i,yAt.2 zB,by rw[h];decide⟩
   have ex:nxO j c i=(decide (c.nx.getD i default= -1)||JS (JR j i c.gr j.ph.length) (c.nx.getD i default)):=rfl;clear hp cs cc cg ca;generalize JR j i c.gr j.ph.length=o at *;generalize JS o (c.nx.getD i default)=hb at *;generalize c.nx.getD i default=x at *;generalize nxO j c i=q at *;by_cases hx:x= -1
   ·rw[yAe hx]at ex;have hnx:=next ex;refine WW ?_;exact⟨hnx,rfl⟩
   rw[yAh hx,yDm]at ex
   cases hb with
   |true=>
    have hnx:=next ex;refine yR (vH co ch) ?_;exact⟨hnx,rfl⟩
   |false=>
    rw[stop ex,yBy];refine yR (vH co ch) ?_;exact zJ
  ·rintro st ⟨hp,rfl⟩;have hall:((List.range 2).all (nxO j c))=true:=yAm.2 λi hi=>hp i (by have:=yAt.1 hi;omega)
   rw[hall,yAv];clear hp hall;by_cases hw0:0<=c.wt
   case neg=>
    rw[yAh (λh=>hw0 h.1)];refine WW ?_;exact zJ
   by_cases hw1:c.wt<=j.st
   case neg=>
    rw[yAh (λh=>hw1 h.2)];refine WW ?_;exact zJ
   rw[yAe ⟨hw0,hw1⟩,yAv];by_cases hz:c.wt=0
   ·rw[yAe hz];refine WW ?_;exact zJ
   ·rw[yAh hz,yDm];refine zV ca ?_;exact zJ
def zUv {j:Jn} (J:JV j) {c:Ct} (C:CV j c):vcF j c=true:=by
 have hn:=C.n;have hJ:=J.n;unfold vcF;have h1:nvF j c=true:=yAm.2 λp hp=>C.k p (yAt.1 hp)
 have h2:ncF j c=true:=by
  unfold ncF;rw[yAm];intro a ha;rw[yAm];intro b hb;have ha:=yAt.1 ha;have hb:=yAt.1 hb;rw[J.c]at ha hb
  have hin:∀p:Nat,p<j.ph.length->inS (seF c) p=GJ c p:=λp hp=>by
   unfold seF;have e:=JQ (λq=>decide (q<c.li.length)&&GJ c q) c.li.length 8 zB (λi h1 h2=>by rw[yAh zB];rfl);have e2:fT (GJ c) c.li.length=fT (λq=>decide (q<c.li.length)&&GJ c q) c.li.length:=dO _ λi hi=>by rw[yAe hi];rfl
   rw[e2,<-e,zJo _ p zB,yAe zB];rfl
  rw[yCe];unfold GK;rw[hin a ha,hin b hb];by_cases hab:b=a
  ·rw[yAh (λh=>h hab)];simp
  ·cases hsa:GJ c a with
   |false=>rfl
   | true=>
    cases hsb:GJ c b with
    |false=>simp
    |true=>
     rw[C.x a b ha hb (λh=>hab h.symm) (by simpa [GJ]using hsa) (by simpa [GJ]using hsb)];simp
 have h3:((List.range 2).all (nxO j c))=true:=yAm.2 λr hr=>by
  have hr:=yAt.1 hr;unfold nxO
  rcases C.v r hr with h|h
  ·rw[yAe h];rfl
  ·have:JS (JR j r c.gr j.ph.length) (c.nx.getD r default)=true:=by
    unfold JS;rw[yBo];obtain⟨a,b,d,e⟩:=h;refine⟨(c.nx.getD r default).toNat,?_,by rw[yBf];omega⟩;unfold JR;rw[yC5,yAt];refine⟨zB,?_⟩;rw[d,e];simp
   rw[this,yDb]
 rw[yAe ⟨hn,C.m⟩,h1,h2,yAe C.g,h3,yAe C.w];simp only[yAv]
 rcases C.z with h|h
 ·rw[yAe h];rfl
 ·have:arF c=true:=by
   unfold arF;rw[yAm];intro l hl;obtain⟨i,hi,rfl⟩:=yCh hl;have:=h i zB;simpa [xJ,List.getD,hi]using this
  rw[this,yDb]
end Av
end Go.Proofs.YteajjdidebfcjaaGreat
