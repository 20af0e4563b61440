/- Part 24. -/
import Derived.Test.YteajjdidebfcjaaGreatN23
namespace Go.Proofs.YteajjdidebfcjaaGreat
namespace Av
open Tryz
set_option linter.all false
set_option maxRecDepth 4000
set_option maxHeartbeats 1000000
theorem PL {p:Nat->Bool}:∀(l:List Nat) (i x:Nat),l[i]? =some x->(∀y∈l.take i,p y=false)->p x=true->l.find? p=some x
 | [],i,x,h,_,_=>by simp at h
 |y::l,0,x,h,_,hp=>by
  simp at h;subst h;rw[yHe,hp]
 |y::l,i+1,x,h,ha,hp=>by
  rw[yHe,ha y zQ];exact PL l i x HO (λz hz=>ha z (by simp[hz])) hp
def zDg {p:Nat->Bool} {l:List Nat} (h:∀y∈l,p y=false):l.find? p=none:=yGg.2 λy hy=>by rw[h y hy];decide
def UY {l:List Nat} {i x z:Nat} (hx:l[i]? =some x) (hz:z∈l.take (i+1)):z∈l.take i∨z=x:=by
 rw[yD8,hx]at hz;simpa using hz
def YX (j:Jn) (hn:j.ph.length<=1000) (r g f:Int):zO 211 [wE j,iA r,iA g,iA f] [] (iA (cS j r g f)) []:=by
 have c:=zJ9 j r;unfold zFi at c;have hl:=zA wT j.ph;refine eM call211 λF hF=>?_
 refine zW c ?_;refine uH hF (zAu j hn r) Z [4,6,7,8] [4,6,7,8] Z Z Z Z Z Z Z Z Z (λi ys h=>?_) (λ_=>[(4,.box [zD wT j.ph,zD iA j.cf,iA j.st]),(6,.box [iA g]),(7,.box [iA f]),(8,.box [iA 0])]) (λi=>∀x∈(NV j r).take i,(decide (f<=(x:Int))&&(yP j x).group==g)=false) (T:=[(4,.ptr 4 0 0),(6,.ptr 6 0 0),(7,.ptr 7 0 0),(8,.ptr 8 0 0)]) Z zQ (λi ys y hys hI F1 h1 h2=>?_) (λhI=>?_)
 ·rw[yBh,yBs]at h;obtain⟨x,_,rfl⟩:=h;rfl
 ·rw[yBh,yBs]at hys;obtain⟨x,hx,rfl⟩:=hys
  show vO _ F1 _ _ ⟨[(13,iA (x:Int)),(4,.ptr 4 0 0),(6,.ptr 6 0 0),(7,.ptr 7 0 0),(8,.ptr 8 0 0)],[(4,.box [zD wT j.ph,zD iA j.cf,iA j.st]),(6,.box [iA g]),(7,.box [iA f]),(8,.box [iA 0])]⟩ _
  have hxn:=(dN.1 (yCz hx)).1;have hy:(j.ph.map wT)[x]? =some (wT (yP j x)):=zM wT j.ph x hxn
  have next:(decide (f<=(x:Int))&&(yP j x).group==g)=false->∀z∈(NV j r).take (i+1),(decide (f<=(z:Int))&&(yP j z).group==g)=false:=λhb z hz=>by
   rcases UY hx hz with h|rfl
   ·exact hI z h
   ·exact hb
  have hit:(decide (f<=(x:Int))&&(yP j x).group==g)=true->cS j r g f=x:=λhb=>by
   unfold cS;rw[PL _ i x hx hI hb]
  clear hI hx;generalize yP j x=t at *;refine WW ?_;refine⟨rfl,λF2 g1 g2=>?_⟩;by_cases h3:f<=(x:Int)
  ·by_cases h4:t.group=g
   ·rw[hit (by rw[yBk h3,yCl.2 h4];rfl)];refine WW ?_;exact zJ
   ·have hnx:=next (by rw[yCm.2 h4,yEx]);refine WW ?_;exact⟨rfl,hnx⟩
  ·have hnx:=next (by rw[yBm h3,yC4]);refine WW ?_;exact⟨rfl,hnx⟩
 ·rw[yBe,yBj]at hI
  have hno:cS j r g f= -1:=by
   unfold cS;rw[zDg hI]
  rw[hno];refine WW ?_;exact zJ
def zVk (j:Jn) (hn:j.ph.length<=1000) (c:Ct) (hc:c.li.length=j.ph.length) (r:Int):zO 288 [wE j,ctA c,iA r] [] (bA (FF j c r)) []:=by
 have cp:=zJ9 j r;unfold zFi at cp;have hl:=zA wT j.ph;have hl2:=zA vG c.li;refine eM call288 λF hF=>?_
 refine zW cp ?_;refine uH hF (zAu j hn r) Z [3,4,6] [3,4,6] Z Z Z Z Z Z Z Z Z (λi ys h=>?_) (λ_=>[(3,.box [zD wT j.ph,zD iA j.cf,iA j.st]),(4,.box [zD vG c.li,iA c.gr,zD iA c.nx,iA c.wt]),(6,.box [bA false])]) (λi=>∀x∈(NV j r).take i,((xN c x).lamp==0)=true) (T:=[(3,.ptr 3 0 0),(4,.ptr 4 0 0),(6,.ptr 6 0 0)]) Z zQ (λi ys y hys hI F1 h1 h2=>?_) (λhI=>?_)
 ·rw[yBh,yBs]at h;obtain⟨x,_,rfl⟩:=h;rfl
 ·rw[yBh,yBs]at hys;obtain⟨x,hx,rfl⟩:=hys
  show vO _ F1 _ _ ⟨[(11,iA (x:Int)),(3,.ptr 3 0 0),(4,.ptr 4 0 0),(6,.ptr 6 0 0)],[(3,.box [zD wT j.ph,zD iA j.cf,iA j.st]),(4,.box [zD vG c.li,iA c.gr,zD iA c.nx,iA c.wt]),(6,.box [bA false])]⟩ _
  have hmem:=yCz hx;have hxn:=(dN.1 hmem).1;have hy:(c.li.map vG)[x]? =some (vG (xN c x)):=zM vG c.li x zB
  have next:((xN c x).lamp==0)=true->∀z∈(NV j r).take (i+1),((xN c z).lamp==0)=true:=λhb z hz=>by
   rcases UY hx hz with h|rfl
   ·exact hI z h
   ·exact hb
  have hit:((xN c x).lamp==0)=false->FF j c r=false:=λhb=>by
   unfold FF;exact yD7.2 ⟨x,hmem,by rw[hb];decide⟩
  clear hI hx;generalize xN c x=t at *;refine WW ?_;refine⟨rfl,λF2 g1 g2=>?_⟩;by_cases h4:t.lamp=0
  ·have hnx:=next (yCl.2 h4);refine WW ?_;exact⟨rfl,hnx⟩
  ·rw[hit (yCm.2 h4)];refine WW ?_;exact zJ
 ·rw[yBe,yBj]at hI;have hd:FF j c r=true:=yBr.2 hI;rw[hd];refine WW ?_;exact zJ
def lsN (j:Jn) (r t:Int) (i:Nat):Int:=match ((NV j r).take i).find? (λp:Nat=>!jQ j.cf p t)with
 |some p=>p
 |none=> -1
def zJ3 {j:Jn} {r t:Int} {i x:Nat} (hx:(NV j r)[i]? =some x):lsN j r t (i+1)=if jQ j.cf x t=true then lsN j r t i else if lsN j r t i= -1 then(x:Int)else lsN j r t i:=by
 unfold lsN;rw[yD8,hx,yG7]
 cases hf:((NV j r).take i).find? (λp:Nat=>!jQ j.cf p t)with
 |some p=>
  show((p:Nat):Int)=if jQ j.cf x t=true then(p:Int)else if(p:Int)= -1 then(x:Int)else(p:Int)
  split
  ·rfl
  ·rw[yBc zB]
 |none=>
  simp only[Option.none_or,yG2,yHe,List.find?_nil]
  cases jQ j.cf x t<;>rfl
theorem zVl (j:Jn) (hn:j.ph.length<=1000) (hcf:j.cf.length<=40) (c:Ct) (hm:c.nx.length=2) (r t:Int) (hr:0<=r/\r<2):zO 289 [wE j,ctA c,iA r,iA t] [] (iA (cmF j (c.nx.getD r.toNat default) r t)) []:=by
 have cp:=zJ9 j r;unfold zFi at cp;have hl:=zA wT j.ph;have hl2:=zA iA c.nx;have hyn:=yL iA c.nx r hr.1 zB;generalize hxe:c.nx.getD r.toNat default=xn at *;refine eM call289 λF hF=>?_
 refine zW cp ?_;refine uH hF (zAu j hn r) Z [4,5,6,7,8,9] [4,5,6,7,8,9] Z Z Z Z Z Z Z Z Z (λi ys h=>?_) (λi=>[(4,.box [zD wT j.ph,zD iA j.cf,iA j.st]),(5,.box [zD vG c.li,iA c.gr,zD iA c.nx,iA c.wt]),(6,.box [iA r]),(7,.box [iA t]),(8,.box [iA 0]),(9,.box [iA (lsN j r t i)])]) (λi=>∀x∈(NV j r).take i,(!jQ j.cf x t&&decide (xn≠ -1/\xn<=(x:Int)))=false) (T:=[(4,.ptr 4 0 0),(5,.ptr 5 0 0),(6,.ptr 6 0 0),(7,.ptr 7 0 0),(8,.ptr 8 0 0),(9,.ptr 9 0 0)]) Z zQ (λi ys y hys hI F1 h1 h2=>?_) (λhI=>?_)
 ·rw[yBh,yBs]at h;obtain⟨x,_,rfl⟩:=h;rfl
 ·rw[yBh,yBs]at hys;obtain⟨x,hx,rfl⟩:=hys
  show vO _ F1 _ _ ⟨[(14,iA (x:Int)),(4,.ptr 4 0 0),(5,.ptr 5 0 0),(6,.ptr 6 0 0),(7,.ptr 7 0 0),(8,.ptr 8 0 0),(9,.ptr 9 0 0)],[(4,.box [zD wT j.ph,zD iA j.cf,iA j.st]),(5,.box [zD vG c.li,iA c.gr,zD iA c.nx,iA c.wt]),(6,.box [iA r]),(7,.box [iA t]),(8,.box [iA 0]),(9,.box [iA (lsN j r t i)])]⟩ _
  have hxn:=(dN.1 (yCz hx)).1;have ck:=jU j.cf hcf x t;have es:=zJ3 (t:=t) hx
  have next:(!jQ j.cf x t&&decide (xn≠ -1/\xn<=(x:Int)))=false->∀z∈(NV j r).take (i+1),(!jQ j.cf z t&&decide (xn≠ -1/\xn<=(z:Int)))=false:=λhb z hz=>by
   rcases UY hx hz with h|rfl
   ·exact hI z h
   ·exact hb
  have hit:(!jQ j.cf x t&&decide (xn≠ -1/\xn<=(x:Int)))=true->cmF j xn r t=x:=λhb=>by
   unfold cmF;rw[PL _ i x hx hI hb]
  clear hI hx hxe;generalize jQ j.cf x t=q at *;generalize lsN j r t (i+1)=l2 at *;generalize lsN j r t i=l1 at *;refine WW ?_;refine⟨rfl,λF2 g1 g2=>?_⟩
  cases q with
  |true=>
   rw[yBd Z]at es;have hnx:=next Z;subst es;refine zW ck ?_;exact⟨rfl,hnx⟩
  |false=>
  rw[yBc xO]at es;by_cases h3:xn= -1
  ·have hnx:=next (by rw[yBm (λh=>h.1 h3)];rfl);by_cases h4:l1= -1
   ·rw[yBd h4]at es;subst es;refine zW ck ?_;exact⟨rfl,hnx⟩
   ·rw[yBc h4]at es;subst es;refine zW ck ?_;exact⟨rfl,hnx⟩
  by_cases h5:xn<=(x:Int)
  ·rw[hit (by rw[yBk ⟨h3,h5⟩];rfl)];refine zW ck ?_;exact zJ
  ·have hnx:=next (by rw[yBm (λh=>h5 h.2)];rfl);by_cases h4:l1= -1
   ·rw[yBd h4]at es;subst es;refine zW ck ?_;exact⟨rfl,hnx⟩
   ·rw[yBc h4]at es;subst es;refine zW ck ?_;exact⟨rfl,hnx⟩
 ·rw[yBe,yBj]at hI
  have hno:cmF j xn r t=lsN j r t (NV j r).length:=by
   unfold cmF lsN;rw[zDg hI,yBj];rfl
  rw[hno,yBe];generalize lsN j r t (NV j r).length=l1 at *;refine WW ?_;exact zJ
def kY {TT:List TI} {rs:List ResultVar} {h0:List (Nat×xM)} {r:AV} {h1:List (Nat×xM)} {st:St} {vs:List AV} (K:List Nat) (h:MP TT st rs=some vs) (hK:(yT h0).all (K.contains ·)=true) (hr:wH K (zC st.h) (CW vs)=r) (hh:wS K (zC st.h)=h1):
 Fin TT rs h0 r h1 .normal st:=⟨.inl Z,vs,K,h,hK,.inl hr.symm,by rw[hh]⟩
def enN (f0 f1:Int):Nat->List AV
 |0=>[iA 0,iA 0]
 |1=>[iA f0,iA 0]
 |_+2=>[iA f0,iA f1]
def zDh (j:Jn) (hn:j.ph.length<=1000) (g gr wt:Int) (L N:List AV) (nL nN:Nat):zO 186 [wE j,.ptr 3000 0 0,iA g] [(3000,.box [.ref 1001 0 nL,iA gr,.ref 1002 0 nN,iA wt]),(1001,.arr 2 L false),(1002,.arr 1 N false)] (.tup [])
  [(3000,.box [.ref 1001 0 nL,iA g,.ref 2001 0 2,iA wt]),(1001,.arr 2 L false),(1002,.arr 1 N false),(2001,.arr 1 [iA (cS j 0 g 0),iA (cS j 1 g 0)] false)]:=by
 have c0:=YX j hn 0 g 0;have c1:=YX j hn 1 g 0;generalize cS j 0 g 0=f0 at *;generalize cS j 1 g 0=f1 at *;obtain⟨N2,hN2⟩:∃n:Nat,n=2:=⟨2,rfl⟩;refine eM call186 λF hF=>?_
 (repeat' (first|refine uC ?_|((first|apply xE|apply xV)<;>intro hc)|(refine zE ?_;first|(refine hH ?_;refine dD 2001 tok Z Z Z Z Z Z Z Z Z Z Z Z Z zB zB Z Z Z ?_))|fail))
 refine zN (N2) [3000,2001,3,1001,1002] [3,1001,1002] [1,2,3] [20,19,1,2,3] Z (λi T U=>⟨(20,iA i)::(19,iA N2)::T,(3000,.box [.ref 1001 0 nL,iA g,.ref 2001 0 N2,iA wt])::(2001,.arr 1 (enN f0 f1 i) false)::U⟩) ?_;(conv=>whnf);refine⟨by(rw[hN2];rfl),?_,?_⟩
 ·intro i hi;have:i=0∨i=1:=by omega
  rcases this with rfl|rfl
  ·have hy:(enN f0 f1 0)[((0:Nat):Int).toNat]? =some (iA 0):=rfl;have hl:(enN f0 f1 0).length=2:=rfl;refine zW c0 ?_;rfl
  ·have hy:(enN f0 f1 1)[((1:Nat):Int).toNat]? =some (iA 0):=rfl;have hl:(enN f0 f1 1).length=2:=rfl;refine zW c1 ?_;rfl
 ·have e2:enN f0 f1 N2=[iA f0,iA f1]:=by rw[hN2];rfl
  rw[e2];refine WW ?_;subst hN2;exact kY [3000,1001,1002,2001] Z Z Z Z
def cD (c:Ct) (kn:Nat):List (Nat×xM):=[(3000,.box [.ref 1001 0 (c.li.map vG).length,iA c.gr,.ref kn 0 (c.nx.map iA).length,iA c.wt]),(1001,.arr 2 (c.li.map vG) false),(kn,.arr 1 (c.nx.map iA) false)]
def IC (c:Ct) (o:List Int):List (Nat×xM):=[(3000,.box [.ref 1001 0 (c.li.map vG).length,iA c.gr,.ref 2001 0 (c.nx.map iA).length,iA c.wt]),(1001,.arr 2 (c.li.map vG) false),(1002,.arr 1 (o.map iA) false),(2001,.arr 1 (c.nx.map iA) false)]
theorem ZJ (j:Jn) (hn:j.ph.length<=1000) (hcf:j.cf.length<=40) (c:Ct) (hc:c.li.length=j.ph.length) (hm:c.nx.length=2) (p:Nat) (hp:p<j.ph.length) (hr:0<=(yP j p).ring/\(yP j p).ring<=1) (hg:YJ j c p=true∨c.gr=(yP j p).group):
  zO 290 [wE j,.ptr 3000 0 0,iA (p:Int)] (cD c 1002) (.tup []) (cD (kZ j c p) 1002):=by
 have hlp:=zA wT j.ph;have hll:=zA vG c.li;have hln:=zA iA c.nx;have hyp:=zM wT j.ph p hp
 change (j.ph.map wT)[p]? =some (wT (yP j p))at hyp
 have cf:=YX j hn (yP j p).ring (yP j p).group (p+1);unfold kZ;by_cases hk:YJ j c p=true
 case pos=>
  rw[yBd hk];unfold YJ at hk;rw[yCx]at hk;obtain⟨q0,hq0,hk⟩:=hk;rw[yBz]at hq0;unfold cD;refine eM call290 λF hF=>?_
  refine WW ?_;refine xR (c.li.length) [3,3000,1001,1002] [3,3000,1001,1002] [1,2,3,12,13] [14,1,2,3,12,13] Z (λi T U zs=>(i<=q0)/\zs=⟨(14,iA i)::T,U⟩) ?_;(conv=>whnf);refine⟨?_,?_,?_⟩
  ·exact⟨yBt _,rfl⟩
  ·rintro i st hi ⟨hiq,rfl⟩;have hy:=zM vG c.li i hi
   change (c.li.map vG)[i]? =some (vG (xN c i))at hy
   have ck:=jU j.cf hcf p i;by_cases hb:((xN c i).lamp != 0&&jQ j.cf p i)=true
   ·rw[yBq]at hb;have h1:(xN c i).lamp≠0:=by simpa using hb.1
    rw[hb.2]at ck;generalize xN c i=t at *;clear hb cf hk;refine zW ck ?_;exact zK [3000,1001,1002] Z Z Z Z
   ·have hne:i<q0:=by
     rcases Nat.lt_or_ge i q0 with h|h
     ·exact h
     ·rw[show i=q0 by omega]at hb;exact absurd hk hb
    rw[yBq]at hb;by_cases h1:(xN c i).lamp=0
    ·generalize xN c i=t at *;clear hb hk;refine WW ?_;exact⟨zB,rfl⟩
    ·have hq:jQ j.cf p i=false:=by
      cases hq:jQ j.cf p i with
      |false=>rfl
      |true=>exact absurd ⟨by simpa using h1,hq⟩ hb
     rw[hq]at ck;generalize xN c i=t at *;clear hb hk;refine zW ck ?_;exact⟨zB,rfl⟩
  ·rintro st ⟨hiq,rfl⟩;exfalso;omega
 have hkf:YJ j c p=false:=by simpa using hk
 have hg2:c.gr=(yP j p).group:=by
  rcases hg with hg|hg
  ·exact absurd hg hk
  ·exact hg
 rw[yBc hk];have eb:ME j c p=b1F c p:=by unfold ME;rw[yBd hg2]
 rw[eb];unfold YJ at hkf;rw[yD4]at hkf;have h0:∀q,q<c.li.length->((xN c q).lamp != 0&&jQ j.cf p q)=false:=λq hq=>by simpa using hkf q (yBz.2 hq)
 unfold b1F cD;dsimp only;rw[yDa,yDa,yC3,yC3];clear hkf hk eb hg;generalize cS j (yP j p).ring (yP j p).group (p+1)=fo at *;obtain⟨rn,hrn⟩:∃n:Nat,(yP j p).ring=n:=⟨(yP j p).ring.toNat,zB⟩;have hyl:=zM vG c.li p zB;have hyr:=zM iA c.nx rn zB;generalize hx1:xN c p=l0 at*
 change (c.li.map vG)[p]? =some (vG (xN c p))at hyl
 rw[hx1]at hyl;generalize c.nx.getD rn default=n0 at *;refine eM call290 λF hF=>?_
 refine WW ?_;refine zN (c.li.length) [3,3000,1001,1002] [3,3000,1001,1002] [1,2,3,12,13] [14,1,2,3,12,13] Z (λi T U=>⟨(14,iA i)::T,U⟩) ?_;(conv=>whnf);refine⟨by rfl,?_,?_⟩
 ·intro i hi;have hy:=zM vG c.li i hi
  change (c.li.map vG)[i]? =some (vG (xN c i))at hy
  have ck:=jU j.cf hcf p i;have hb:=h0 i hi;clear h0 hyl hyr cf;by_cases h1:(xN c i).lamp=0
  ·generalize xN c i=t at *;clear hb;refine WW ?_;rfl
  ·have hq:jQ j.cf p i=false:=by
    cases hq:jQ j.cf p i with
    |false=>rfl
    |true=>
     rw[hq,yFu]at hb;exact absurd (by simpa using hb) h1
   rw[hq]at ck;generalize xN c i=t at *;clear hb;refine zW ck ?_;rfl
 ·clear h0;generalize yP j p=t at *;rw[hrn,yB5];have et:wT t= .agg [iA rn,iA t.group,iA t.ming,iA t.maxg,iA t.yel,iA t.red,iA t.walk,iA t.clear]:=by rw[<-hrn];rfl
  rw[et]at hyp;rw[hrn]at cf;refine zW cf ?_;exact kY [3000,1001,1002] Z Z Z Z
theorem RY (j:Jn) (hn:j.ph.length<=1000) (hcf:j.cf.length<=40) (c:Ct) (hc:c.li.length=j.ph.length) (hm:c.nx.length=2) (p:Nat) (hp:p<j.ph.length) (hr:0<=(yP j p).ring/\(yP j p).ring<=1) (hg:YJ j c p=true∨c.gr=(yP j p).group):
  zO 290 [wE j,.ptr 3000 0 0,iA (p:Int)] (cD c 2001) (.tup []) (cD (kZ j c p) 2001):=by
 have hlp:=zA wT j.ph;have hll:=zA vG c.li;have hln:=zA iA c.nx;have hyp:=zM wT j.ph p hp
 change (j.ph.map wT)[p]? =some (wT (yP j p))at hyp
 have cf:=YX j hn (yP j p).ring (yP j p).group (p+1);unfold kZ;by_cases hk:YJ j c p=true
 case pos=>
  rw[yBd hk];unfold YJ at hk;rw[yCx]at hk;obtain⟨q0,hq0,hk⟩:=hk;rw[yBz]at hq0;unfold cD;refine eM call290 λF hF=>?_
  refine WW ?_;refine xR (c.li.length) [3,3000,1001,2001] [3,3000,1001,2001] [1,2,3,12,13] [14,1,2,3,12,13] Z (λi T U zs=>(i<=q0)/\zs=⟨(14,iA i)::T,U⟩) ?_;(conv=>whnf);refine⟨?_,?_,?_⟩
  ·exact⟨yBt _,rfl⟩
  ·rintro i st hi ⟨hiq,rfl⟩;have hy:=zM vG c.li i hi
   change (c.li.map vG)[i]? =some (vG (xN c i))at hy
   have ck:=jU j.cf hcf p i;by_cases hb:((xN c i).lamp != 0&&jQ j.cf p i)=true
   ·rw[yBq]at hb;have h1:(xN c i).lamp≠0:=by simpa using hb.1
    rw[hb.2]at ck;generalize xN c i=t at *;clear hb cf hk;refine zW ck ?_;exact zK [3000,1001,2001] Z Z Z Z
   ·have hne:i<q0:=by
     rcases Nat.lt_or_ge i q0 with h|h
     ·exact h
     ·rw[show i=q0 by omega]at hb;exact absurd hk hb
    rw[yBq]at hb;by_cases h1:(xN c i).lamp=0
    ·generalize xN c i=t at *;clear hb hk;refine WW ?_;exact⟨zB,rfl⟩
    ·have hq:jQ j.cf p i=false:=by
      cases hq:jQ j.cf p i with
      |false=>rfl
      |true=>exact absurd ⟨by simpa using h1,hq⟩ hb
     rw[hq]at ck;generalize xN c i=t at *;clear hb hk;refine zW ck ?_;exact⟨zB,rfl⟩
  ·rintro st ⟨hiq,rfl⟩;exfalso;omega
 have hkf:YJ j c p=false:=by simpa using hk
 have hg2:c.gr=(yP j p).group:=by
  rcases hg with hg|hg
  ·exact absurd hg hk
  ·exact hg
 rw[yBc hk];have eb:ME j c p=b1F c p:=by unfold ME;rw[yBd hg2]
 rw[eb];unfold YJ at hkf;rw[yD4]at hkf;have h0:∀q,q<c.li.length->((xN c q).lamp != 0&&jQ j.cf p q)=false:=λq hq=>by simpa using hkf q (yBz.2 hq)
 unfold b1F cD;dsimp only;rw[yDa,yDa,yC3,yC3];clear hkf hk eb hg;generalize cS j (yP j p).ring (yP j p).group (p+1)=fo at *;obtain⟨rn,hrn⟩:∃n:Nat,(yP j p).ring=n:=⟨(yP j p).ring.toNat,zB⟩;have hyl:=zM vG c.li p zB;have hyr:=zM iA c.nx rn zB;generalize hx1:xN c p=l0 at*
 change (c.li.map vG)[p]? =some (vG (xN c p))at hyl
 rw[hx1]at hyl;generalize c.nx.getD rn default=n0 at *;refine eM call290 λF hF=>?_
 refine WW ?_;refine zN (c.li.length) [3,3000,1001,2001] [3,3000,1001,2001] [1,2,3,12,13] [14,1,2,3,12,13] Z (λi T U=>⟨(14,iA i)::T,U⟩) ?_;(conv=>whnf);refine⟨by rfl,?_,?_⟩
 ·intro i hi;have hy:=zM vG c.li i hi
  change (c.li.map vG)[i]? =some (vG (xN c i))at hy
  have ck:=jU j.cf hcf p i;have hb:=h0 i hi;clear h0 hyl hyr cf;by_cases h1:(xN c i).lamp=0
  ·generalize xN c i=t at *;clear hb;refine WW ?_;rfl
  ·have hq:jQ j.cf p i=false:=by
    cases hq:jQ j.cf p i with
    |false=>rfl
    |true=>
     rw[hq,yFu]at hb;exact absurd (by simpa using hb) h1
   rw[hq]at ck;generalize xN c i=t at *;clear hb;refine zW ck ?_;rfl
 ·clear h0;generalize yP j p=t at *;rw[hrn,yB5];have et:wT t= .agg [iA rn,iA t.group,iA t.ming,iA t.maxg,iA t.yel,iA t.red,iA t.walk,iA t.clear]:=by rw[<-hrn];rfl
  rw[et]at hyp;rw[hrn]at cf;refine zW cf ?_;exact kY [3000,1001,2001] Z Z Z Z
theorem RZ (j:Jn) (hn:j.ph.length<=1000) (hcf:j.cf.length<=40) (c:Ct) (hc:c.li.length=j.ph.length) (hm:c.nx.length=2) (p:Nat) (hp:p<j.ph.length) (hr:0<=(yP j p).ring/\(yP j p).ring<=1) (hkf:YJ j c p=false) (hg2:c.gr≠(yP j p).group):
  zO 290 [wE j,.ptr 3000 0 0,iA (p:Int)] (cD c 1002) (.tup []) (IC (kZ j c p) c.nx):=by
 have hlp:=zA wT j.ph;have hll:=zA vG c.li;have hln:=zA iA c.nx;have hyp:=zM wT j.ph p hp
 change (j.ph.map wT)[p]? =some (wT (yP j p))at hyp
 have cf:=YX j hn (yP j p).ring (yP j p).group (p+1);unfold kZ;rw[yBc (by rw[hkf];decide)];have eb:ME j c p=etF j (b1F c p) (yP j p).group:=by unfold ME;rw[yBc hg2]
 rw[eb];unfold YJ at hkf;rw[yD4]at hkf;have h0:∀q,q<c.li.length->((xN c q).lamp != 0&&jQ j.cf p q)=false:=λq hq=>by simpa using hkf q (yBz.2 hq)
 have ce:=zDh j hn (yP j p).group c.gr c.wt ((c.li.map vG).set p (vG ⟨1,0⟩)) (c.nx.map iA) (c.li.map vG).length (c.nx.map iA).length;unfold etF b1F cD IC;dsimp only;rw[yDa,yDa,yC3,yC3];rw[show([cS j 0 (yP j p).group 0,cS j 1 (yP j p).group 0].map iA)=[iA (cS j 0 (yP j p).group 0),iA (cS j 1 (yP j p).group 0)]from Z];have hfx:(([iA (cS j 0 (yP j p).group 0),iA (cS j 1 (yP j p).group 0)]:List AV)).length=2:=rfl;rw[hfx]
 have hyf:∃v,([iA (cS j 0 (yP j p).group 0),iA (cS j 1 (yP j p).group 0)]:List AV)[(yP j p).ring.toNat]? =some (iA v):=by
  have:(yP j p).ring=0∨(yP j p).ring=1:=by omega
  rcases this with h|h<;>rw[h]
  ·exact⟨_,rfl⟩
  ·exact⟨_,rfl⟩
 obtain⟨v0,hyf⟩:=hyf;generalize ([iA (cS j 0 (yP j p).group 0),iA (cS j 1 (yP j p).group 0)]:List AV)=fx at *;clear hkf eb;generalize cS j (yP j p).ring (yP j p).group (p+1)=fo at *;obtain⟨rn,hrn⟩:∃n:Nat,(yP j p).ring=n:=⟨(yP j p).ring.toNat,zB⟩;have hyl:=zM vG c.li p zB;rw[hrn,yB5]at hyf;generalize hx1:xN c p=l0 at*
 change (c.li.map vG)[p]? =some (vG (xN c p))at hyl
 rw[hx1]at hyl;refine eM call290 λF hF=>?_
 refine WW ?_;refine zN (c.li.length) [3,3000,1001,1002] [3,3000,1001,1002] [1,2,3,12,13] [14,1,2,3,12,13] Z (λi T U=>⟨(14,iA i)::T,U⟩) ?_;(conv=>whnf);refine⟨by rfl,?_,?_⟩
 ·intro i hi;have hy:=zM vG c.li i hi
  change (c.li.map vG)[i]? =some (vG (xN c i))at hy
  have ck:=jU j.cf hcf p i;have hb:=h0 i hi;clear h0 hyl cf ce;by_cases h1:(xN c i).lamp=0
  ·generalize xN c i=t at *;clear hb;refine WW ?_;rfl
  ·have hq:jQ j.cf p i=false:=by
    cases hq:jQ j.cf p i with
    |false=>rfl
    |true=>
     rw[hq,yFu]at hb;exact absurd (by simpa using hb) h1
   rw[hq]at ck;generalize xN c i=t at *;clear hb;refine zW ck ?_;rfl
 ·clear h0;generalize yP j p=t at *;rw[hrn,yB5];have et:wT t= .agg [iA rn,iA t.group,iA t.ming,iA t.maxg,iA t.yel,iA t.red,iA t.walk,iA t.clear]:=by rw[<-hrn];rfl
  rw[et]at hyp;rw[hrn]at cf;refine yS (vH ce cf) ?_;exact kY [3000,1001,1002,2001] Z Z Z Z
def ctT (c:Ct):AV:= .agg [.sl false ((c.li.map vG).take (c.li.map vG).length),iA c.gr,.sl false ((c.nx.map iA).take (c.nx.map iA).length),iA c.wt]
def aQ (c:Ct):ctT c=ctA c:=by unfold ctT;rw[yBj,yBj];rfl
def YY (j:Jn) (hn:j.ph.length<=1000) (c:Ct) (hc:c.li.length=j.ph.length) (r:Int):zO 288 [wE j,ctT c,iA r] [] (bA (FF j c r)) []:=by rw[aQ];exact zVk j hn c hc r
def zAt (j:Jn) (hn:j.ph.length<=1000) (hcf:j.cf.length<=40) (c:Ct) (hm:c.nx.length=2) (r t:Int) (hr:0<=r/\r<2):zO 289 [wE j,ctT c,iA r,iA t] [] (iA (cmF j (c.nx.getD r.toNat default) r t)) []:=by rw[aQ];exact zVl j hn hcf c hm r t hr
def ID {j:Jn} (J:JV j) {c:Ct} {r:Int} {t:Nat} (ht:t<j.ph.length) (h:ZK j c r t≠ -1):∃p:Nat,ZK j c r t=p/\p<j.ph.length/\(yP j p).group=(yP j t).group:=by
 unfold ZK at h⊢;split
 ·exact⟨t,rfl,ht,rfl⟩
 ·rename_i hr;rw[yBc hr]at h
  rcases PN j (c.nx.getD r.toNat default) r t with h1|⟨p,h1,h2,_,h4⟩
  ·exact absurd h1 h
  ·refine⟨p,h1,h2,?_⟩;by_cases hpt:p=t
   ·rw[hpt]
   ·exact yD6 λhg=>by
     have:=J.ap p t h2 ht hpt (.inr hg);rw[h4]at this;cases this
def fK (j:Jn) (c:Ct) (p:Nat):(YJ j c p=true/\kZ j c p=c)∨(YJ j c p=false/\(kZ j c p).gr=(yP j p).group):=by
 unfold kZ;split
 ·rename_i h;exact .inl ⟨h,rfl⟩
 ·rename_i h;refine .inr ⟨by simpa using h,?_⟩;dsimp only;unfold ME;split
  ·rename_i h2;exact h2
  ·rfl
def ctX (e:Bool) (c:Ct) (o:List Int):List (Nat×xM):=if e=true then IC c o else cD c 1002
def zVm {j:Jn} (J:JV j) {c:Ct} {r:Int} {t:Nat} (ht:t<j.ph.length):(jL j t c r).gr=c.gr∨(jL j t c r).gr=(yP j t).group:=by
 unfold jL;split
 ·split
  ·exact .inl Z
  ·rename_i h;obtain⟨p,hpe,hp,hpg⟩:=ID J (c:=c) (r:=r) ht h;rw[hpe,yB5]
   rcases fK j c p with h|h
   ·rw[h.2];exact .inl Z
   ·rw[h.2,hpg];exact .inr Z
 ·exact .inl Z
def zJ4 (e:Bool) (c:Ct) (o:List Int):vK (ctX e c o)=true:=by cases e<;>rfl
def zFh (j:Jn) (t:Nat) (e:Bool) (i:Int) (c:Ct) (o:List Int):St:=⟨[(8,iA i),(1,.ptr 3000 0 0),(2,iA t),(3,.ptr 3 0 0)],ctX e c o++[(3,.box [zD wT j.ph,zD iA j.cf,iA j.st])]⟩
theorem zPs (j:Jn) (J:JV j) (c:Ct) (C:CV j c) (h0:c.wt=0) (t:Nat) (ht:t<j.ph.length):zO 257 [wE j,.ptr 3000 0 0,iA (t:Int)] (cD c 1002) (.tup []) (ctX (decide ((jL j t (jL j t c 0) 1).gr≠c.gr)) (jL j t (jL j t c 0) 1) (if(jL j t c 0).gr=c.gr then(jL j t c 0).nx else c.nx)):=by
 have hn:=J.n;have hn8:j.ph.length<=1000:=by omega
 have hjc:=J.c;have hlp:=zA wT j.ph;have hyt:=zM wT j.ph t ht
 change (j.ph.map wT)[t]? =some (wT (yP j t))at hyt
 have hc_c:=C.n;have hm_c:=C.m;obtain⟨C1,h01⟩:=LO J C h0 ht 0;have hc_c1:=C1.n;have hm_c1:=C1.m;have hgr1:=zVm J (c:=c) (r:=0) ht;have heq_c:c.gr=c.gr:=rfl;refine XL tok func257 Z (λargs w=>call257 args w) Z Z (zJ4 _ _ _) (λF hF=>?_);refine WW ?_;refine ZX [3000,1001,1002,2001,3] [8,1,2,3] (zFh j t false 0 c c.nx) (zFh j t (decide ((jL j t c 0).gr≠c.gr)) 1 (jL j t c 0) c.nx) (zFh j t (decide ((jL j t (jL j t c 0) 1).gr≠c.gr)) 2 (jL j t (jL j t c 0) 1) (if(jL j t c 0).gr=c.gr then(jL j t c 0).nx else c.nx)) Z Z ?_ ?_ ?_
 ·unfold zFh;clear C1 hgr1 hc_c1 hm_c1 h01;rw[show ctX false c c.nx=cD c 1002 from Z];unfold cD;have cd:=YY j hn8 c hc_c 0
  cases hd:FF j c 0 with
  |false=>
   rw[hd]at cd;rw[show jL j t c 0=c by unfold jL;rw[yBc (by rw[hd];decide)]];rw[show decide (c.gr≠c.gr)=false from yBm (λh=>h heq_c)];clear hd;refine zW cd ?_;rfl
  |true=>
  rw[hd]at cd
  have hsv:jL j t c 0=if ZK j c 0 t= -1 then c else kZ j c (ZK j c 0 t).toNat:=by unfold jL;rw[yBd hd]
  by_cases hrt:0=(yP j t).ring
  ·
   have hP:ZK j c 0 t=t:=by unfold ZK;rw[yBd hrt]
   rw[hP]at hsv;rw[yBc zB,yB5]at hsv;by_cases hk:YJ j c t=true∨c.gr=(yP j t).group
   ·have cb:=ZJ j hn8 zB c hc_c hm_c t ht (J.rg t ht) hk
    have hg2:(kZ j c t).gr=c.gr:=by
     rcases fK j c t with h|h
     ·exact(yB8 Ct.gr h.2).trans heq_c
     ·rcases hk with hk|hk
      ·rw[hk]at h;cases h.1
      ·exact h.2.trans (hk.symm.trans heq_c)
    rw[hsv,show decide ((kZ j c t).gr≠c.gr)=false from yBm (λh=>h hg2)];generalize kZ j c t=b at *;clear hd hsv hg2 hk;unfold cD at cb;refine yS (vH cd cb) ?_;rfl
   ·have hk1:YJ j c t=false:=by
     cases h:YJ j c t with
     |false=>rfl
     |true=>exact absurd (.inl h) hk
    have hk2:c.gr≠(yP j t).group:=λh=>hk (.inr h)
    have cb:=RZ j hn8 zB c hc_c hm_c t ht (J.rg t ht) hk1 hk2
    have hg2:(kZ j c t).gr≠c.gr:=by
     rcases fK j c t with h|h
     ·rw[hk1]at h;cases h.1
     ·rw[h.2,<-heq_c];exact λh=>hk2 h.symm
    rw[hsv,show decide ((kZ j c t).gr≠c.gr)=true from yBk hg2];generalize kZ j c t=b at *;clear hd hsv hg2 hk hk1 hk2;unfold cD IC at cb;refine yS (vH cd cb) ?_;rfl
  ·
   have cm:=zAt j hn8 zB c hm_c 0 t zB;have hP:ZK j c 0 t=cmF j (c.nx.getD (0:Int).toNat default) 0 t:=by unfold ZK;rw[yBc hrt]
   rw[<-hP]at cm;by_cases hm1:ZK j c 0 t= -1
   ·rw[yBd hm1]at hsv;rw[hsv];rw[show decide (c.gr≠c.gr)=false from yBm (λh=>h heq_c)];generalize ZK j c 0 t=pp at *;clear hP hd hsv;refine yS (vH cd cm) ?_;rfl
   obtain⟨p,hpe,hp,hpg⟩:=ID J (c:=c) (r:=0) ht hm1;rw[yBc hm1,hpe,yB5]at hsv;rw[hpe]at cm;clear hP hm1 hpe;by_cases hk:YJ j c p=true∨c.gr=(yP j p).group
   ·have cb:=ZJ j hn8 zB c hc_c hm_c p hp (J.rg p hp) hk
    have hg2:(kZ j c p).gr=c.gr:=by
     rcases fK j c p with h|h
     ·exact(yB8 Ct.gr h.2).trans heq_c
     ·rcases hk with hk|hk
      ·rw[hk]at h;cases h.1
      ·exact h.2.trans (hk.symm.trans heq_c)
    rw[hsv,show decide ((kZ j c p).gr≠c.gr)=false from yBm (λh=>h hg2)];generalize kZ j c p=b at *;clear hd hsv hg2 hk;unfold cD at cb;refine yS (gW cd cm cb) ?_;rfl
   ·have hk1:YJ j c p=false:=by
     cases h:YJ j c p with
     |false=>rfl
     |true=>exact absurd (.inl h) hk
    have hk2:c.gr≠(yP j p).group:=λh=>hk (.inr h)
    have cb:=RZ j hn8 zB c hc_c hm_c p hp (J.rg p hp) hk1 hk2
    have hg2:(kZ j c p).gr≠c.gr:=by
     rcases fK j c p with h|h
     ·rw[hk1]at h;cases h.1
     ·rw[h.2,<-heq_c];exact λh=>hk2 h.symm
    rw[hsv,show decide ((kZ j c p).gr≠c.gr)=true from yBk hg2];generalize kZ j c p=b at *;clear hd hsv hg2 hk hk1 hk2;unfold cD IC at cb;refine yS (gW cd cm cb) ?_;rfl
 ·clear hc_c hm_c heq_c;have he1:=hgr1;generalize jL j t c 0=c1 at *;unfold zFh;by_cases heq_c1:c1.gr=c.gr
  ·rw [yBd heq_c1,yBm (λh=>h heq_c1)];rw[show ctX false c1 c.nx=cD c1 1002 from Z];unfold cD;have cd:=YY j hn8 c1 hc_c1 1
   cases hd:FF j c1 1 with
   |false=>
    rw[hd]at cd;rw[show jL j t c1 1=c1 by unfold jL;rw[yBc (by rw[hd];decide)]];rw[show decide (c1.gr≠c.gr)=false from yBm (λh=>h heq_c1)];clear hd;refine zW cd ?_;rfl
   |true=>
   rw[hd]at cd
   have hsv:jL j t c1 1=if ZK j c1 1 t= -1 then c1 else kZ j c1 (ZK j c1 1 t).toNat:=by unfold jL;rw[yBd hd]
   by_cases hrt:1=(yP j t).ring
   ·
    have hP:ZK j c1 1 t=t:=by unfold ZK;rw[yBd hrt]
    rw[hP]at hsv;rw[yBc zB,yB5]at hsv;by_cases hk:YJ j c1 t=true∨c1.gr=(yP j t).group
    ·have cb:=ZJ j hn8 zB c1 hc_c1 hm_c1 t ht (J.rg t ht) hk
     have hg2:(kZ j c1 t).gr=c.gr:=by
      rcases fK j c1 t with h|h
      ·exact(yB8 Ct.gr h.2).trans heq_c1
      ·rcases hk with hk|hk
       ·rw[hk]at h;cases h.1
       ·exact h.2.trans (hk.symm.trans heq_c1)
     rw[hsv,show decide ((kZ j c1 t).gr≠c.gr)=false from yBm (λh=>h hg2)];generalize kZ j c1 t=b at *;clear hd hsv hg2 hk;unfold cD at cb;refine yS (vH cd cb) ?_;rfl
    ·have hk1:YJ j c1 t=false:=by
      cases h:YJ j c1 t with
      |false=>rfl
      |true=>exact absurd (.inl h) hk
     have hk2:c1.gr≠(yP j t).group:=λh=>hk (.inr h)
     have cb:=RZ j hn8 zB c1 hc_c1 hm_c1 t ht (J.rg t ht) hk1 hk2
     have hg2:(kZ j c1 t).gr≠c.gr:=by
      rcases fK j c1 t with h|h
      ·rw[hk1]at h;cases h.1
      ·rw[h.2,<-heq_c1];exact λh=>hk2 h.symm
     rw[hsv,show decide ((kZ j c1 t).gr≠c.gr)=true from yBk hg2];generalize kZ j c1 t=b at *;clear hd hsv hg2 hk hk1 hk2;unfold cD IC at cb;refine yS (vH cd cb) ?_;rfl
   ·
    have cm:=zAt j hn8 zB c1 hm_c1 1 t zB;have hP:ZK j c1 1 t=cmF j (c1.nx.getD (1:Int).toNat default) 1 t:=by unfold ZK;rw[yBc hrt]
    rw[<-hP]at cm;by_cases hm1:ZK j c1 1 t= -1
    ·rw[yBd hm1]at hsv;rw[hsv];rw[show decide (c1.gr≠c.gr)=false from yBm (λh=>h heq_c1)];generalize ZK j c1 1 t=pp at *;clear hP hd hsv;refine yS (vH cd cm) ?_;rfl
    obtain⟨p,hpe,hp,hpg⟩:=ID J (c:=c1) (r:=1) ht hm1;rw[yBc hm1,hpe,yB5]at hsv;rw[hpe]at cm;clear hP hm1 hpe;by_cases hk:YJ j c1 p=true∨c1.gr=(yP j p).group
    ·have cb:=ZJ j hn8 zB c1 hc_c1 hm_c1 p hp (J.rg p hp) hk
     have hg2:(kZ j c1 p).gr=c.gr:=by
      rcases fK j c1 p with h|h
      ·exact(yB8 Ct.gr h.2).trans heq_c1
      ·rcases hk with hk|hk
       ·rw[hk]at h;cases h.1
       ·exact h.2.trans (hk.symm.trans heq_c1)
     rw[hsv,show decide ((kZ j c1 p).gr≠c.gr)=false from yBm (λh=>h hg2)];generalize kZ j c1 p=b at *;clear hd hsv hg2 hk;unfold cD at cb;refine yS (gW cd cm cb) ?_;rfl
    ·have hk1:YJ j c1 p=false:=by
      cases h:YJ j c1 p with
      |false=>rfl
      |true=>exact absurd (.inl h) hk
     have hk2:c1.gr≠(yP j p).group:=λh=>hk (.inr h)
     have cb:=RZ j hn8 zB c1 hc_c1 hm_c1 p hp (J.rg p hp) hk1 hk2
     have hg2:(kZ j c1 p).gr≠c.gr:=by
      rcases fK j c1 p with h|h
      ·rw[hk1]at h;cases h.1
      ·rw[h.2,<-heq_c1];exact λh=>hk2 h.symm
     rw[hsv,show decide ((kZ j c1 p).gr≠c.gr)=true from yBk hg2];generalize kZ j c1 p=b at *;clear hd hsv hg2 hk hk1 hk2;unfold cD IC at cb;refine yS (gW cd cm cb) ?_;rfl
  ·have hne_c1:c1.gr≠c.gr:=heq_c1
   have hgt_c1:c1.gr=(yP j t).group:=by
    rcases he1 with h|h
    ·exact absurd h hne_c1
    ·exact h
   rw[yBc heq_c1,yBk hne_c1];rw[show ctX true c1 c.nx=IC c1 c.nx from Z];unfold IC;have cd:=YY j hn8 c1 hc_c1 1
   cases hd:FF j c1 1 with
   |false=>
    rw[hd]at cd;rw[show jL j t c1 1=c1 by unfold jL;rw[yBc (by rw[hd];decide)]];rw[show decide (c1.gr≠c.gr)=true from yBk hne_c1];clear hd;refine zW cd ?_;rfl
   |true=>
   rw[hd]at cd
   have hsv:jL j t c1 1=if ZK j c1 1 t= -1 then c1 else kZ j c1 (ZK j c1 1 t).toNat:=by unfold jL;rw[yBd hd]
   by_cases hrt:1=(yP j t).ring
   ·
    have hP:ZK j c1 1 t=t:=by unfold ZK;rw[yBd hrt]
    rw[hP]at hsv;rw[yBc zB,yB5]at hsv;have cb:=RY j hn8 zB c1 hc_c1 hm_c1 t ht (J.rg t ht) (.inr (hgt_c1.trans (rfl:(yP j t).group=(yP j t).group).symm))
    have hg2:(kZ j c1 t).gr≠c.gr:=by
     rcases fK j c1 t with h|h
     ·rw[h.2];exact hne_c1
     ·rw[h.2,(rfl:(yP j t).group=(yP j t).group),<-hgt_c1];exact hne_c1
    rw[hsv,show decide ((kZ j c1 t).gr≠c.gr)=true from yBk hg2];generalize kZ j c1 t=b at *;clear hd hsv hg2;unfold cD at cb;refine yS (vH cd cb) ?_;rfl
   ·
    have cm:=zAt j hn8 zB c1 hm_c1 1 t zB;have hP:ZK j c1 1 t=cmF j (c1.nx.getD (1:Int).toNat default) 1 t:=by unfold ZK;rw[yBc hrt]
    rw[<-hP]at cm;by_cases hm1:ZK j c1 1 t= -1
    ·rw[yBd hm1]at hsv;rw[hsv];rw[show decide (c1.gr≠c.gr)=true from yBk hne_c1];generalize ZK j c1 1 t=pp at *;clear hP hd hsv;refine yS (vH cd cm) ?_;rfl
    obtain⟨p,hpe,hp,hpg⟩:=ID J (c:=c1) (r:=1) ht hm1;rw[yBc hm1,hpe,yB5]at hsv;rw[hpe]at cm;clear hP hm1 hpe;have cb:=RY j hn8 zB c1 hc_c1 hm_c1 p hp (J.rg p hp) (.inr (hgt_c1.trans (hpg:(yP j p).group=(yP j t).group).symm))
    have hg2:(kZ j c1 p).gr≠c.gr:=by
     rcases fK j c1 p with h|h
     ·rw[h.2];exact hne_c1
     ·rw[h.2,(hpg:(yP j p).group=(yP j t).group),<-hgt_c1];exact hne_c1
    rw[hsv,show decide ((kZ j c1 p).gr≠c.gr)=true from yBk hg2];generalize kZ j c1 p=b at *;clear hd hsv hg2;unfold cD at cb;refine yS (gW cd cm cb) ?_;rfl
 ·generalize (if(jL j t c 0).gr=c.gr then(jL j t c 0).nx else c.nx)=o at *;generalize jL j t (jL j t c 0) 1=c2 at *;unfold zFh;by_cases he:c2.gr=c.gr
  ·rw[yBm (λh=>h he)];refine WW ?_;exact kY [3000,1001,1002] Z Z Z Z
  ·rw[yBk he];refine WW ?_;exact kY [3000,1001,1002,2001] Z Z Z Z
def zJ5 (c:Ct) (hn:c.li.length<=1000):zO 287 [ctT c] [] (bA (arF c)) []:=by rw[aQ];exact DL c hn
def ovN (c:Ct) (i:Nat):Bool:=arF c&&(c.nx.take i).all λp=>p== -1
def zJ6 (c:Ct) (i:Nat) (hi:i<c.nx.length):ovN c (i+1)=(ovN c i&&(c.nx.getD i default== -1)):=by
 unfold ovN;rw[<-yFp hi,List.all_append];simp[List.getD,hi,Bool.and_assoc]
def RE (j:Jn) (e:Bool) (i:Int) (c:Ct) (o:List Int):St:=⟨[(36,iA i),(1,.ptr 3000 0 0),(2,.ptr 2 0 0)],ctX e c o++[(2,.box [zD wT j.ph,zD iA j.cf,iA j.st])]⟩
theorem zPt (j:Jn) (J:JV j) (c:Ct) (C:CV j c) (h0:c.wt=0):zO 258 [wE j,.ptr 3000 0 0] (cD c 1002) (.tup []) (ctX (cyO c) (cyF j c) c.nx):=by
 have hn:=J.n;have hn8:j.ph.length<=1000:=by omega
 have hjc:=J.c;have hlp:=zA wT j.ph;have hll:=zA vG c.li;have hln:=zA iA c.nx;have hcn:=C.n;have hcm:=C.m;have ca:=zJ5 c zB;have cg:=DK j hn8 J.gp;have hgp:=QA J
 have hgl:YI j<=4:=by
  have:∀n,n<=j.ph.length->grN j.ph n<=4:=λn=>by
   induction n with
   |zero=>intro _;show(0:Int)<=4;omega
   |succ n ih=>
    intro h;have h1:=ih zB;have h2:=J.gp n zB;unfold yP at h2;unfold grN;omega
  exact this _ (yBg _)
 have hcg:=C.g;have htm:(c.gr+1).tmod (YI j)=(c.gr+1) % YI j:=yC2 zB;have hO:ovN c c.nx.length=cyO c:=by unfold ovN cyO;rw[yBj]
 refine XL tok func258 Z (λargs w=>call258 args w) Z Z (zJ4 _ _ _) (λF hF=>?_);unfold cD;have ho0:ovN c 0=arF c:=by unfold ovN;simp
 rw[<-ho0]at ca;refine zW ca ?_;refine zN (c.nx.length) [2,3000,1001,1002] [2,3000,1001,1002] [1,2,15,16] [4,17,1,2,15,16] Z (λi T U=>⟨(4,bA (ovN c i))::(17,iA i)::T,U⟩) ?_;(conv=>whnf);refine⟨by rfl,?_,?_⟩
 ·intro i hi;have hy:=zM iA c.nx i hi;have es:=zJ6 c i hi;rw[es];generalize ovN c i=o at *;generalize c.nx.getD i default=x at *;by_cases hx:x= -1
  ·rw[show(x== -1)=true by rw[yCl];exact hx,yFu];clear ca cg;refine WW ?_;rfl
  ·rw[show(x== -1)=false by rw[yCm];exact hx,yEx];clear ca cg;refine WW ?_;rfl
 ·rw [hO];clear hO ho0 ca
  cases hco:cyO c with
  | true=>
   have hcy:cyF j c=dJ j (dJ j (etF j c ((c.gr+1) % YI j)) 0) 1:=by unfold cyF;rw[yBd hco]
   rw[hcy];have hgm:0<=(c.gr+1) % YI j/\(c.gr+1) % YI j<YI j:=⟨yEq _ zB,yEf _ zB⟩;have C_c0:=zDi C hgm;have hw0:(etF j c ((c.gr+1) % YI j)).wt=0:=h0;have ce:=zDh j hn8 ((c.gr+1) % YI j) c.gr c.wt (c.li.map vG) (c.nx.map iA) (c.li.map vG).length (c.nx.map iA).length;rw[show([(3000,.box [.ref 1001 0 (c.li.map vG).length,iA ((c.gr+1) % YI j),.ref 2001 0 2,iA c.wt]),(1001,.arr 2 (c.li.map vG) false),(1002,.arr 1 (c.nx.map iA) false),(2001,.arr 1 [iA (cS j 0 ((c.gr+1) % YI j) 0),iA (cS j 1 ((c.gr+1) % YI j) 0)] false)]:List (Nat×xM))=IC (etF j c ((c.gr+1) % YI j)) c.nx from Z]at ce;rw[<-htm]at ce;rw[htm]at ce;generalize hc0:etF j c ((c.gr+1) % YI j)=c0 at *;rw[<-htm]at ce;have hne:¬YI j=0:=by omega
   generalize YI j=gm at *;have hc_c0:=C_c0.n;have hm_c0:=C_c0.m;obtain⟨C_c1,h01⟩:=PO J C_c0 hw0 (r:=0) zB;have hc_c1:=C_c1.n;have hm_c1:=C_c1.m
   change CV j (dJ j c0 0)at C_c1
   change (dJ j c0 0).li.length=j.ph.length at hc_c1
   change (dJ j c0 0).nx.length=2 at hm_c1
   clear hcy hc0 C;unfold IC at ce;refine yS (vH cg ce) ?_;refine ZX [3000,1001,1002,2001,2] [36,1,2] (RE j true 0 c0 c.nx) (RE j true 1 (dJ j c0 0) c.nx) (RE j true 2 (dJ j (dJ j c0 0) 1) c.nx) Z Z ?_ ?_ ?_
   ·unfold RE;rw[show ctX true c0 c.nx=IC c0 c.nx from Z];unfold IC;have cd:=YY j hn8 c0 hc_c0 0;have hyn:=zM iA c0.nx 0 zB;have hv:=C_c0.v 0 zB;have hnl:(c0.nx.map iA).length=2:=by rw[yBe];exact hm_c0
    cases hd:FF j c0 0 with
    |false=>
     rw[hd]at cd;rw[show dJ j c0 0=c0 by unfold dJ;rw[yBc (by rw[hd];simp)]];clear hd;refine zW cd ?_;rfl
    |true=>
    rw[hd]at cd
    have hsv:dJ j c0 0=if c0.nx.getD 0 default= -1 then c0 else kZ j c0 (c0.nx.getD 0 default).toNat:=by
     unfold dJ;rw[hd]
     show(if true=true/\c0.nx.getD 0 default≠ -1 then kZ j c0 (c0.nx.getD 0 default).toNat else c0)=_
     by_cases h:c0.nx.getD 0 default= -1
     ·rw[yBd h,yBc (λk=>k.2 h)]
     ·rw[yBc h,yBd ⟨rfl,h⟩]
    clear hd;by_cases hm1:c0.nx.getD 0 default= -1
    ·rw[yBd hm1]at hsv;rw[hsv];clear hsv hv;generalize c0.nx.getD 0 default=x at *;refine zW cd ?_;rfl
    ·rw[yBc hm1]at hsv
     have hin:InO j (0:Nat) c0.gr (c0.nx.getD 0 default):=by
      rcases hv with h|h
      ·exact absurd h hm1
      ·exact h
     obtain⟨i1,i2,i3,i4⟩:=hin;obtain⟨p,hpe⟩:∃p:Nat,c0.nx.getD 0 default=p:=⟨(c0.nx.getD 0 default).toNat,zB⟩;rw[hpe]at hsv hyn hm1 i2 i4;rw[yB5]at hsv i4;have hp:p<j.ph.length:=by omega
     have cb:=RY j hn8 zB c0 hc_c0 hm_c0 p hp (J.rg p hp) (.inr i4.symm);rw[hsv];clear hsv hv i1 i2 i3 i4 hpe;generalize kZ j c0 p=b at *;unfold cD at cb;refine yS (vH cd cb) ?_;rfl
   ·generalize dJ j c0 0=c1 at *;unfold RE;rw[show ctX true c1 c.nx=IC c1 c.nx from Z];unfold IC;have cd:=YY j hn8 c1 hc_c1 1;have hyn:=zM iA c1.nx 1 zB;have hv:=C_c1.v 1 zB;have hnl:(c1.nx.map iA).length=2:=by rw[yBe];exact hm_c1
    cases hd:FF j c1 1 with
    |false=>
     rw[hd]at cd;rw[show dJ j c1 1=c1 by unfold dJ;rw[yBc (by rw[hd];simp)]];clear hd;refine zW cd ?_;rfl
    |true=>
    rw[hd]at cd
    have hsv:dJ j c1 1=if c1.nx.getD 1 default= -1 then c1 else kZ j c1 (c1.nx.getD 1 default).toNat:=by
     unfold dJ;rw[hd]
     show(if true=true/\c1.nx.getD 1 default≠ -1 then kZ j c1 (c1.nx.getD 1 default).toNat else c1)=_
     by_cases h:c1.nx.getD 1 default= -1
     ·rw[yBd h,yBc (λk=>k.2 h)]
     ·rw[yBc h,yBd ⟨rfl,h⟩]
    clear hd;by_cases hm1:c1.nx.getD 1 default= -1
    ·rw[yBd hm1]at hsv;rw[hsv];clear hsv hv;generalize c1.nx.getD 1 default=x at *;refine zW cd ?_;rfl
    ·rw[yBc hm1]at hsv
     have hin:InO j (1:Nat) c1.gr (c1.nx.getD 1 default):=by
      rcases hv with h|h
      ·exact absurd h hm1
      ·exact h
     obtain⟨i1,i2,i3,i4⟩:=hin;obtain⟨p,hpe⟩:∃p:Nat,c1.nx.getD 1 default=p:=⟨(c1.nx.getD 1 default).toNat,zB⟩;rw[hpe]at hsv hyn hm1 i2 i4;rw[yB5]at hsv i4;have hp:p<j.ph.length:=by omega
     have cb:=RY j hn8 zB c1 hc_c1 hm_c1 p hp (J.rg p hp) (.inr i4.symm);rw[hsv];clear hsv hv i1 i2 i3 i4 hpe;generalize kZ j c1 p=b at *;unfold cD at cb;refine yS (vH cd cb) ?_;rfl
   ·generalize dJ j (dJ j c0 0) 1=c2 at *;unfold RE;refine WW ?_;exact kY [3000,1001,1002,2001] Z Z Z Z
  | false=>
   have hcy:cyF j c=dJ j (dJ j c 0) 1:=by unfold cyF;rw[yBc (by rw[hco];decide)]
   rw[hcy];clear cg htm hcy hgp hgl hcg;have C_c:=C;have hc_c:=hcn;have hm_c:=hcm;obtain⟨C_c1,h01⟩:=PO J C h0 (r:=0) zB;have hc_c1:=C_c1.n;have hm_c1:=C_c1.m
   change CV j (dJ j c 0)at C_c1
   change (dJ j c 0).li.length=j.ph.length at hc_c1
   change (dJ j c 0).nx.length=2 at hm_c1
   refine WW ?_;clear hco;refine ZX [3000,1001,1002,2001,2] [36,1,2] (RE j false 0 c c.nx) (RE j false 1 (dJ j c 0) c.nx) (RE j false 2 (dJ j (dJ j c 0) 1) c.nx) Z Z ?_ ?_ ?_
   ·unfold RE;rw[show ctX false c c.nx=cD c 1002 from Z];unfold cD;have cd:=YY j hn8 c hc_c 0;have hyn:=zM iA c.nx 0 zB;have hv:=C_c.v 0 zB;have hnl:(c.nx.map iA).length=2:=by rw[yBe];exact hm_c
    cases hd:FF j c 0 with
    |false=>
     rw[hd]at cd;rw[show dJ j c 0=c by unfold dJ;rw[yBc (by rw[hd];simp)]];clear hd;refine zW cd ?_;rfl
    |true=>
    rw[hd]at cd
    have hsv:dJ j c 0=if c.nx.getD 0 default= -1 then c else kZ j c (c.nx.getD 0 default).toNat:=by
     unfold dJ;rw[hd]
     show(if true=true/\c.nx.getD 0 default≠ -1 then kZ j c (c.nx.getD 0 default).toNat else c)=_
     by_cases h:c.nx.getD 0 default= -1
     ·rw[yBd h,yBc (λk=>k.2 h)]
     ·rw[yBc h,yBd ⟨rfl,h⟩]
    clear hd;by_cases hm1:c.nx.getD 0 default= -1
    ·rw[yBd hm1]at hsv;rw[hsv];clear hsv hv;generalize c.nx.getD 0 default=x at *;refine zW cd ?_;rfl
    ·rw[yBc hm1]at hsv
     have hin:InO j (0:Nat) c.gr (c.nx.getD 0 default):=by
      rcases hv with h|h
      ·exact absurd h hm1
      ·exact h
     obtain⟨i1,i2,i3,i4⟩:=hin;obtain⟨p,hpe⟩:∃p:Nat,c.nx.getD 0 default=p:=⟨(c.nx.getD 0 default).toNat,zB⟩;rw[hpe]at hsv hyn hm1 i2 i4;rw[yB5]at hsv i4;have hp:p<j.ph.length:=by omega
     have cb:=ZJ j hn8 zB c hc_c hm_c p hp (J.rg p hp) (.inr i4.symm);rw[hsv];clear hsv hv i1 i2 i3 i4 hpe;generalize kZ j c p=b at *;unfold cD at cb;refine yS (vH cd cb) ?_;rfl
   ·generalize dJ j c 0=c1 at *;unfold RE;rw[show ctX false c1 c.nx=cD c1 1002 from Z];unfold cD;have cd:=YY j hn8 c1 hc_c1 1;have hyn:=zM iA c1.nx 1 zB;have hv:=C_c1.v 1 zB;have hnl:(c1.nx.map iA).length=2:=by rw[yBe];exact hm_c1
    cases hd:FF j c1 1 with
    |false=>
     rw[hd]at cd;rw[show dJ j c1 1=c1 by unfold dJ;rw[yBc (by rw[hd];simp)]];clear hd;refine zW cd ?_;rfl
    |true=>
    rw[hd]at cd
    have hsv:dJ j c1 1=if c1.nx.getD 1 default= -1 then c1 else kZ j c1 (c1.nx.getD 1 default).toNat:=by
     unfold dJ;rw[hd]
     show(if true=true/\c1.nx.getD 1 default≠ -1 then kZ j c1 (c1.nx.getD 1 default).toNat else c1)=_
     by_cases h:c1.nx.getD 1 default= -1
     ·rw[yBd h,yBc (λk=>k.2 h)]
     ·rw[yBc h,yBd ⟨rfl,h⟩]
    clear hd;by_cases hm1:c1.nx.getD 1 default= -1
    ·rw[yBd hm1]at hsv;rw[hsv];clear hsv hv;generalize c1.nx.getD 1 default=x at *;refine zW cd ?_;rfl
    ·rw[yBc hm1]at hsv
     have hin:InO j (1:Nat) c1.gr (c1.nx.getD 1 default):=by
      rcases hv with h|h
      ·exact absurd h hm1
      ·exact h
     obtain⟨i1,i2,i3,i4⟩:=hin;obtain⟨p,hpe⟩:∃p:Nat,c1.nx.getD 1 default=p:=⟨(c1.nx.getD 1 default).toNat,zB⟩;rw[hpe]at hsv hyn hm1 i2 i4;rw[yB5]at hsv i4;have hp:p<j.ph.length:=by omega
     have cb:=ZJ j hn8 zB c1 hc_c1 hm_c1 p hp (J.rg p hp) (.inr i4.symm);rw[hsv];clear hsv hv i1 i2 i3 i4 hpe;generalize kZ j c1 p=b at *;unfold cD at cb;refine yS (vH cd cb) ?_;rfl
   ·generalize dJ j (dJ j c 0) 1=c2 at *;unfold RE;refine WW ?_;exact kY [3000,1001,1002] Z Z Z Z
end Av
end Go.Proofs.YteajjdidebfcjaaGreat
