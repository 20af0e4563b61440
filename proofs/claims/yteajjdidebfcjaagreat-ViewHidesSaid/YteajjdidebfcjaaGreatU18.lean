/- Part 18. -/
import Derived.Test.YteajjdidebfcjaaGreatU17
namespace Go.Proofs.YteajjdidebfcjaaGreat
namespace Av
open Tryz
set_option linter.all false
set_option maxRecDepth 4000
set_option maxHeartbeats 1000000
theorem ML {p:Nat->Bool}:∀(l:List Nat) (i x:Nat),l[i]? =some x->(∀y∈l.take i,p y=false)->p x=true->l.find? p=some x
 | [],i,x,h,_,_=>by simp at h
 |y::l,0,x,h,_,hp=>by
  simp at h;subst h;rw[yF9,hp]
 |y::l,i+1,x,h,ha,hp=>by
  rw[yF9,ha y zS];exact ML l i x TJ (λz hz=>ha z (by simp[hz])) hp
def zEa {p:Nat->Bool} {l:List Nat} (h:∀y∈l,p y=false):l.find? p=none:=yFb.2 λy hy=>by rw[h y hy];decide
def RZ {l:List Nat} {i x z:Nat} (hx:l[i]? =some x) (hz:z∈l.take (i+1)):z∈l.take i∨z=x:=by
 rw[yCt,hx]at hz;simpa using hz
def VS (j:Jn) (hn:j.ph.length<=1000) (r g f:Int):zN 211 [wC j,iA r,iA g,iA f] [] (iA (bY j r g f)) []:=by
 have c:=zLv j r;unfold zGi at c;have hl:=zA vE j.ph;refine eM call211 λF hF=>?_
 refine zV c ?_;refine wW hF (zBz j hn r) Z [4,6,7,8] [4,6,7,8] Z Z Z Z Z Z Z Z Z (λi ys h=>?_) (λ_=>[(4,.box [zC vE j.ph,zC iA j.cf,iA j.st]),(6,.box [iA g]),(7,.box [iA f]),(8,.box [iA 0])]) (λi=>∀x∈(LC j r).take i,(decide (f<=(x:Int))&&(xF j x).group==g)=false) (T:=[(4,.ptr 4 0 0),(6,.ptr 6 0 0),(7,.ptr 7 0 0),(8,.ptr 8 0 0)]) Z zS (λi ys y hys hI F1 h1 h2=>?_) (λhI=>?_)
 ·rw[yAi,yAq]at h;obtain⟨x,_,rfl⟩:=h;rfl
 ·rw[yAi,yAq]at hys;obtain⟨x,hx,rfl⟩:=hys
  show vZ _ F1 _ _ ⟨[(13,iA (x:Int)),(4,.ptr 4 0 0),(6,.ptr 6 0 0),(7,.ptr 7 0 0),(8,.ptr 8 0 0)],[(4,.box [zC vE j.ph,zC iA j.cf,iA j.st]),(6,.box [iA g]),(7,.box [iA f]),(8,.box [iA 0])]⟩ _
  have hxn:=(XO.1 (yBp hx)).1;have hy:(j.ph.map vE)[x]? =some (vE (xF j x)):=zM vE j.ph x hxn
  have next:(decide (f<=(x:Int))&&(xF j x).group==g)=false->∀z∈(LC j r).take (i+1),(decide (f<=(z:Int))&&(xF j z).group==g)=false:=λhb z hz=>by
   rcases RZ hx hz with h|rfl
   ·exact hI z h
   ·exact hb
  have hit:(decide (f<=(x:Int))&&(xF j x).group==g)=true->bY j r g f=x:=λhb=>by
   unfold bY;rw[ML _ i x hx hI hb]
  clear hI hx;generalize xF j x=t at *;refine WW ?_;refine⟨rfl,λF2 g1 g2=>?_⟩;by_cases h3:f<=(x:Int)
  ·by_cases h4:t.group=g
   ·rw[hit (by rw[yAj h3,yBw.2 h4];rfl)];refine WW ?_;exact zJ
   ·have hnx:=next (by rw[yBm.2 h4,yD5]);refine WW ?_;exact⟨rfl,hnx⟩
  ·have hnx:=next (by rw[yAl h3,yB4]);refine WW ?_;exact⟨rfl,hnx⟩
 ·rw[yAe,yAh]at hI
  have hno:bY j r g f= -1:=by
   unfold bY;rw[zEa hI]
  rw[hno];refine WW ?_;exact zJ
def zV4 (j:Jn) (hn:j.ph.length<=1000) (c:Ct) (hc:c.li.length=j.ph.length) (r:Int):zN 288 [wC j,ctA c,iA r] [] (bA (dkF j c r)) []:=by
 have cp:=zLv j r;unfold zGi at cp;have hl:=zA vE j.ph;have hl2:=zA vN c.li;refine eM call288 λF hF=>?_
 refine zV cp ?_;refine wW hF (zBz j hn r) Z [3,4,6] [3,4,6] Z Z Z Z Z Z Z Z Z (λi ys h=>?_) (λ_=>[(3,.box [zC vE j.ph,zC iA j.cf,iA j.st]),(4,.box [zC vN c.li,iA c.gr,zC iA c.nx,iA c.wt]),(6,.box [bA false])]) (λi=>∀x∈(LC j r).take i,((vJ c x).lamp==0)=true) (T:=[(3,.ptr 3 0 0),(4,.ptr 4 0 0),(6,.ptr 6 0 0)]) Z zS (λi ys y hys hI F1 h1 h2=>?_) (λhI=>?_)
 ·rw[yAi,yAq]at h;obtain⟨x,_,rfl⟩:=h;rfl
 ·rw[yAi,yAq]at hys;obtain⟨x,hx,rfl⟩:=hys
  show vZ _ F1 _ _ ⟨[(11,iA (x:Int)),(3,.ptr 3 0 0),(4,.ptr 4 0 0),(6,.ptr 6 0 0)],[(3,.box [zC vE j.ph,zC iA j.cf,iA j.st]),(4,.box [zC vN c.li,iA c.gr,zC iA c.nx,iA c.wt]),(6,.box [bA false])]⟩ _
  have hmem:=yBp hx;have hxn:=(XO.1 hmem).1;have hy:(c.li.map vN)[x]? =some (vN (vJ c x)):=zM vN c.li x zB
  have next:((vJ c x).lamp==0)=true->∀z∈(LC j r).take (i+1),((vJ c z).lamp==0)=true:=λhb z hz=>by
   rcases RZ hx hz with h|rfl
   ·exact hI z h
   ·exact hb
  have hit:((vJ c x).lamp==0)=false->dkF j c r=false:=λhb=>by
   unfold dkF;exact yDd.2 ⟨x,hmem,by rw[hb];decide⟩
  clear hI hx;generalize vJ c x=t at *;refine WW ?_;refine⟨rfl,λF2 g1 g2=>?_⟩;by_cases h4:t.lamp=0
  ·have hnx:=next (yBw.2 h4);refine WW ?_;exact⟨rfl,hnx⟩
  ·rw[hit (yBm.2 h4)];refine WW ?_;exact zJ
 ·rw[yAe,yAh]at hI;have hd:dkF j c r=true:=yAu.2 hI;rw[hd];refine WW ?_;exact zJ
def lsN (j:Jn) (r t:Int) (i:Nat):Int:=match ((LC j r).take i).find? (λp:Nat=>!dB j.cf p t)with
 |some p=>p
 |none=> -1
def zLl {j:Jn} {r t:Int} {i x:Nat} (hx:(LC j r)[i]? =some x):lsN j r t (i+1)=if dB j.cf x t=true then lsN j r t i else if lsN j r t i= -1 then(x:Int)else lsN j r t i:=by
 unfold lsN;rw[yCt,hx,yF1]
 cases hf:((LC j r).take i).find? (λp:Nat=>!dB j.cf p t)with
 |some p=>
  show((p:Nat):Int)=if dB j.cf x t=true then(p:Int)else if(p:Int)= -1 then(x:Int)else(p:Int)
  split
  ·rfl
  ·rw[yAc zB]
 |none=>
  simp only[Option.none_or,yFy,yF9,List.find?_nil]
  cases dB j.cf x t<;>rfl
theorem zV5 (j:Jn) (hn:j.ph.length<=1000) (hcf:j.cf.length<=40) (c:Ct) (hm:c.nx.length=2) (r t:Int) (hr:0<=r/\r<2):zN 289 [wC j,ctA c,iA r,iA t] [] (iA (cmF j (c.nx.getD r.toNat default) r t)) []:=by
 have cp:=zLv j r;unfold zGi at cp;have hl:=zA vE j.ph;have hl2:=zA iA c.nx;have hyn:=yN iA c.nx r hr.1 zB;generalize hxe:c.nx.getD r.toNat default=xn at *;refine eM call289 λF hF=>?_
 refine zV cp ?_;refine wW hF (zBz j hn r) Z [4,5,6,7,8,9] [4,5,6,7,8,9] Z Z Z Z Z Z Z Z Z (λi ys h=>?_) (λi=>[(4,.box [zC vE j.ph,zC iA j.cf,iA j.st]),(5,.box [zC vN c.li,iA c.gr,zC iA c.nx,iA c.wt]),(6,.box [iA r]),(7,.box [iA t]),(8,.box [iA 0]),(9,.box [iA (lsN j r t i)])]) (λi=>∀x∈(LC j r).take i,(!dB j.cf x t&&decide (xn≠ -1/\xn<=(x:Int)))=false) (T:=[(4,.ptr 4 0 0),(5,.ptr 5 0 0),(6,.ptr 6 0 0),(7,.ptr 7 0 0),(8,.ptr 8 0 0),(9,.ptr 9 0 0)]) Z zS (λi ys y hys hI F1 h1 h2=>?_) (λhI=>?_)
 ·rw[yAi,yAq]at h;obtain⟨x,_,rfl⟩:=h;rfl
 ·rw[yAi,yAq]at hys;obtain⟨x,hx,rfl⟩:=hys
  show vZ _ F1 _ _ ⟨[(14,iA (x:Int)),(4,.ptr 4 0 0),(5,.ptr 5 0 0),(6,.ptr 6 0 0),(7,.ptr 7 0 0),(8,.ptr 8 0 0),(9,.ptr 9 0 0)],[(4,.box [zC vE j.ph,zC iA j.cf,iA j.st]),(5,.box [zC vN c.li,iA c.gr,zC iA c.nx,iA c.wt]),(6,.box [iA r]),(7,.box [iA t]),(8,.box [iA 0]),(9,.box [iA (lsN j r t i)])]⟩ _
  have hxn:=(XO.1 (yBp hx)).1;have ck:=gD j.cf hcf x t;have es:=zLl (t:=t) hx
  have next:(!dB j.cf x t&&decide (xn≠ -1/\xn<=(x:Int)))=false->∀z∈(LC j r).take (i+1),(!dB j.cf z t&&decide (xn≠ -1/\xn<=(z:Int)))=false:=λhb z hz=>by
   rcases RZ hx hz with h|rfl
   ·exact hI z h
   ·exact hb
  have hit:(!dB j.cf x t&&decide (xn≠ -1/\xn<=(x:Int)))=true->cmF j xn r t=x:=λhb=>by
   unfold cmF;rw[ML _ i x hx hI hb]
  clear hI hx hxe;generalize dB j.cf x t=q at *;generalize lsN j r t (i+1)=l2 at *;generalize lsN j r t i=l1 at *;refine WW ?_;refine⟨rfl,λF2 g1 g2=>?_⟩
  cases q with
  |true=>
   rw[yAd Z]at es;have hnx:=next Z;subst es;refine zV ck ?_;exact⟨rfl,hnx⟩
  |false=>
  rw[yAc xL]at es;by_cases h3:xn= -1
  ·have hnx:=next (by rw[yAl (λh=>h.1 h3)];rfl);by_cases h4:l1= -1
   ·rw[yAd h4]at es;subst es;refine zV ck ?_;exact⟨rfl,hnx⟩
   ·rw[yAc h4]at es;subst es;refine zV ck ?_;exact⟨rfl,hnx⟩
  by_cases h5:xn<=(x:Int)
  ·rw[hit (by rw[yAj ⟨h3,h5⟩];rfl)];refine zV ck ?_;exact zJ
  ·have hnx:=next (by rw[yAl (λh=>h5 h.2)];rfl);by_cases h4:l1= -1
   ·rw[yAd h4]at es;subst es;refine zV ck ?_;exact⟨rfl,hnx⟩
   ·rw[yAc h4]at es;subst es;refine zV ck ?_;exact⟨rfl,hnx⟩
 ·rw[yAe,yAh]at hI
  have hno:cmF j xn r t=lsN j r t (LC j r).length:=by
   unfold cmF lsN;rw[zEa hI,yAh];rfl
  rw[hno,yAe];generalize lsN j r t (LC j r).length=l1 at *;refine WW ?_;exact zJ
def jK {TT:List TI} {rs:List ResultVar} {h0:List (Nat×xO)} {r:AV} {h1:List (Nat×xO)} {st:St} {vs:List AV} (K:List Nat) (h:LR TT st rs=some vs) (hK:(yX h0).all (K.contains ·)=true) (hr:wP K (zD st.h) (DN vs)=r) (hh:wX K (zD st.h)=h1):
 Fin TT rs h0 r h1 .normal st:=⟨.inl Z,vs,K,h,hK,.inl hr.symm,by rw[hh]⟩
def enN (f0 f1:Int):Nat->List AV
 |0=>[iA 0,iA 0]
 |1=>[iA f0,iA 0]
 |_+2=>[iA f0,iA f1]
def zEb (j:Jn) (hn:j.ph.length<=1000) (g gr wt:Int) (L N:List AV) (nL nN:Nat):zN 186 [wC j,.ptr 3000 0 0,iA g] [(3000,.box [.ref 1001 0 nL,iA gr,.ref 1002 0 nN,iA wt]),(1001,.arr 2 L false),(1002,.arr 1 N false)] (.tup [])
  [(3000,.box [.ref 1001 0 nL,iA g,.ref 2001 0 2,iA wt]),(1001,.arr 2 L false),(1002,.arr 1 N false),(2001,.arr 1 [iA (bY j 0 g 0),iA (bY j 1 g 0)] false)]:=by
 have c0:=VS j hn 0 g 0;have c1:=VS j hn 1 g 0;generalize bY j 0 g 0=f0 at *;generalize bY j 1 g 0=f1 at *;obtain⟨N2,hN2⟩:∃n:Nat,n=2:=⟨2,rfl⟩;refine eM call186 λF hF=>?_
 (repeat' (first|refine uP ?_|apply xM|apply xZ|intro hc|(refine zE ?_;first|(refine gP ?_;refine cW 2001 tok Z Z Z Z Z Z Z Z Z Z Z Z Z zB zB Z Z Z ?_))|fail))
 refine zO (N2) [3000,2001,3,1001,1002] [3,1001,1002] [1,2,3] [20,19,1,2,3] Z (λi T U=>⟨(20,iA i)::(19,iA N2)::T,(3000,.box [.ref 1001 0 nL,iA g,.ref 2001 0 N2,iA wt])::(2001,.arr 1 (enN f0 f1 i) false)::U⟩) ?_;(conv=>whnf);refine⟨by(rw[hN2];rfl),?_,?_⟩
 ·intro i hi;have:i=0∨i=1:=by omega
  rcases this with rfl|rfl
  ·have hy:(enN f0 f1 0)[((0:Nat):Int).toNat]? =some (iA 0):=rfl;have hl:(enN f0 f1 0).length=2:=rfl;refine zV c0 ?_;rfl
  ·have hy:(enN f0 f1 1)[((1:Nat):Int).toNat]? =some (iA 0):=rfl;have hl:(enN f0 f1 1).length=2:=rfl;refine zV c1 ?_;rfl
 ·have e2:enN f0 f1 N2=[iA f0,iA f1]:=by rw[hN2];rfl
  rw[e2];refine WW ?_;subst hN2;exact jK [3000,1001,1002,2001] Z Z Z Z
def bD (c:Ct) (kn:Nat):List (Nat×xO):=[(3000,.box [.ref 1001 0 (c.li.map vN).length,iA c.gr,.ref kn 0 (c.nx.map iA).length,iA c.wt]),(1001,.arr 2 (c.li.map vN) false),(kn,.arr 1 (c.nx.map iA) false)]
def GK (c:Ct) (o:List Int):List (Nat×xO):=[(3000,.box [.ref 1001 0 (c.li.map vN).length,iA c.gr,.ref 2001 0 (c.nx.map iA).length,iA c.wt]),(1001,.arr 2 (c.li.map vN) false),(1002,.arr 1 (o.map iA) false),(2001,.arr 1 (c.nx.map iA) false)]
theorem XN (j:Jn) (hn:j.ph.length<=1000) (hcf:j.cf.length<=40) (c:Ct) (hc:c.li.length=j.ph.length) (hm:c.nx.length=2) (p:Nat) (hp:p<j.ph.length) (hr:0<=(xF j p).ring/\(xF j p).ring<=1) (hg:UH j c p=true∨c.gr=(xF j p).group):
  zN 290 [wC j,.ptr 3000 0 0,iA (p:Int)] (bD c 1002) (.tup []) (bD (gC j c p) 1002):=by
 have hlp:=zA vE j.ph;have hll:=zA vN c.li;have hln:=zA iA c.nx;have hyp:=zM vE j.ph p hp
 change (j.ph.map vE)[p]? =some (vE (xF j p))at hyp
 have cf:=VS j hn (xF j p).ring (xF j p).group (p+1);unfold gC;by_cases hk:UH j c p=true
 case pos=>
  rw[yAd hk];unfold UH at hk;rw[yB8]at hk;obtain⟨q0,hq0,hk⟩:=hk;rw[yA2]at hq0;unfold bD;refine eM call290 λF hF=>?_
  refine WW ?_;refine xS (c.li.length) [3,3000,1001,1002] [3,3000,1001,1002] [1,2,3,12,13] [14,1,2,3,12,13] Z (λi T U zs=>(i<=q0)/\zs=⟨(14,iA i)::T,U⟩) ?_;(conv=>whnf);refine⟨?_,?_,?_⟩
  ·exact⟨yAt _,rfl⟩
  ·rintro i st hi ⟨hiq,rfl⟩;have hy:=zM vN c.li i hi
   change (c.li.map vN)[i]? =some (vN (vJ c i))at hy
   have ck:=gD j.cf hcf p i;by_cases hb:((vJ c i).lamp != 0&&dB j.cf p i)=true
   ·rw[yAs]at hb;have h1:(vJ c i).lamp≠0:=by simpa using hb.1
    rw[hb.2]at ck;generalize vJ c i=t at *;clear hb cf hk;refine zV ck ?_;exact zK [3000,1001,1002] Z Z Z Z
   ·have hne:i<q0:=by
     rcases Nat.lt_or_ge i q0 with h|h
     ·exact h
     ·rw[show i=q0 by omega]at hb;exact absurd hk hb
    rw[yAs]at hb;by_cases h1:(vJ c i).lamp=0
    ·generalize vJ c i=t at *;clear hb hk;refine WW ?_;exact⟨zB,rfl⟩
    ·have hq:dB j.cf p i=false:=by
      cases hq:dB j.cf p i with
      |false=>rfl
      |true=>exact absurd ⟨by simpa using h1,hq⟩ hb
     rw[hq]at ck;generalize vJ c i=t at *;clear hb hk;refine zV ck ?_;exact⟨zB,rfl⟩
  ·rintro st ⟨hiq,rfl⟩;exfalso;omega
 have hkf:UH j c p=false:=by simpa using hk
 have hg2:c.gr=(xF j p).group:=by
  rcases hg with hg|hg
  ·exact absurd hg hk
  ·exact hg
 rw[yAc hk];have eb:BK j c p=b1F c p:=by unfold BK;rw[yAd hg2]
 rw[eb];unfold UH at hkf;rw[yDe]at hkf;have h0:∀q,q<c.li.length->((vJ c q).lamp != 0&&dB j.cf p q)=false:=λq hq=>by simpa using hkf q (yA2.2 hq)
 unfold b1F bD;dsimp only;rw[yCk,yCk,yB7,yB7];clear hkf hk eb hg;generalize bY j (xF j p).ring (xF j p).group (p+1)=fo at *;obtain⟨rn,hrn⟩:∃n:Nat,(xF j p).ring=n:=⟨(xF j p).ring.toNat,zB⟩;have hyl:=zM vN c.li p zB;have hyr:=zM iA c.nx rn zB;generalize hx1:vJ c p=l0 at*
 change (c.li.map vN)[p]? =some (vN (vJ c p))at hyl
 rw[hx1]at hyl;generalize c.nx.getD rn default=n0 at *;refine eM call290 λF hF=>?_
 refine WW ?_;refine zO (c.li.length) [3,3000,1001,1002] [3,3000,1001,1002] [1,2,3,12,13] [14,1,2,3,12,13] Z (λi T U=>⟨(14,iA i)::T,U⟩) ?_;(conv=>whnf);refine⟨by rfl,?_,?_⟩
 ·intro i hi;have hy:=zM vN c.li i hi
  change (c.li.map vN)[i]? =some (vN (vJ c i))at hy
  have ck:=gD j.cf hcf p i;have hb:=h0 i hi;clear h0 hyl hyr cf;by_cases h1:(vJ c i).lamp=0
  ·generalize vJ c i=t at *;clear hb;refine WW ?_;rfl
  ·have hq:dB j.cf p i=false:=by
    cases hq:dB j.cf p i with
    |false=>rfl
    |true=>
     rw[hq,yEp]at hb;exact absurd (by simpa using hb) h1
   rw[hq]at ck;generalize vJ c i=t at *;clear hb;refine zV ck ?_;rfl
 ·clear h0;generalize xF j p=t at *;rw[hrn,yBq];have et:vE t= .agg [iA rn,iA t.group,iA t.ming,iA t.maxg,iA t.yel,iA t.red,iA t.walk,iA t.clear]:=by rw[<-hrn];rfl
  rw[et]at hyp;rw[hrn]at cf;refine zV cf ?_;exact jK [3000,1001,1002] Z Z Z Z
theorem OH (j:Jn) (hn:j.ph.length<=1000) (hcf:j.cf.length<=40) (c:Ct) (hc:c.li.length=j.ph.length) (hm:c.nx.length=2) (p:Nat) (hp:p<j.ph.length) (hr:0<=(xF j p).ring/\(xF j p).ring<=1) (hg:UH j c p=true∨c.gr=(xF j p).group):
  zN 290 [wC j,.ptr 3000 0 0,iA (p:Int)] (bD c 2001) (.tup []) (bD (gC j c p) 2001):=by
 have hlp:=zA vE j.ph;have hll:=zA vN c.li;have hln:=zA iA c.nx;have hyp:=zM vE j.ph p hp
 change (j.ph.map vE)[p]? =some (vE (xF j p))at hyp
 have cf:=VS j hn (xF j p).ring (xF j p).group (p+1);unfold gC;by_cases hk:UH j c p=true
 case pos=>
  rw[yAd hk];unfold UH at hk;rw[yB8]at hk;obtain⟨q0,hq0,hk⟩:=hk;rw[yA2]at hq0;unfold bD;refine eM call290 λF hF=>?_
  refine WW ?_;refine xS (c.li.length) [3,3000,1001,2001] [3,3000,1001,2001] [1,2,3,12,13] [14,1,2,3,12,13] Z (λi T U zs=>(i<=q0)/\zs=⟨(14,iA i)::T,U⟩) ?_;(conv=>whnf);refine⟨?_,?_,?_⟩
  ·exact⟨yAt _,rfl⟩
  ·rintro i st hi ⟨hiq,rfl⟩;have hy:=zM vN c.li i hi
   change (c.li.map vN)[i]? =some (vN (vJ c i))at hy
   have ck:=gD j.cf hcf p i;by_cases hb:((vJ c i).lamp != 0&&dB j.cf p i)=true
   ·rw[yAs]at hb;have h1:(vJ c i).lamp≠0:=by simpa using hb.1
    rw[hb.2]at ck;generalize vJ c i=t at *;clear hb cf hk;refine zV ck ?_;exact zK [3000,1001,2001] Z Z Z Z
   ·have hne:i<q0:=by
     rcases Nat.lt_or_ge i q0 with h|h
     ·exact h
     ·rw[show i=q0 by omega]at hb;exact absurd hk hb
    rw[yAs]at hb;by_cases h1:(vJ c i).lamp=0
    ·generalize vJ c i=t at *;clear hb hk;refine WW ?_;exact⟨zB,rfl⟩
    ·have hq:dB j.cf p i=false:=by
      cases hq:dB j.cf p i with
      |false=>rfl
      |true=>exact absurd ⟨by simpa using h1,hq⟩ hb
     rw[hq]at ck;generalize vJ c i=t at *;clear hb hk;refine zV ck ?_;exact⟨zB,rfl⟩
  ·rintro st ⟨hiq,rfl⟩;exfalso;omega
 have hkf:UH j c p=false:=by simpa using hk
 have hg2:c.gr=(xF j p).group:=by
  rcases hg with hg|hg
  ·exact absurd hg hk
  ·exact hg
 rw[yAc hk];have eb:BK j c p=b1F c p:=by unfold BK;rw[yAd hg2]
 rw[eb];unfold UH at hkf;rw[yDe]at hkf;have h0:∀q,q<c.li.length->((vJ c q).lamp != 0&&dB j.cf p q)=false:=λq hq=>by simpa using hkf q (yA2.2 hq)
 unfold b1F bD;dsimp only;rw[yCk,yCk,yB7,yB7];clear hkf hk eb hg;generalize bY j (xF j p).ring (xF j p).group (p+1)=fo at *;obtain⟨rn,hrn⟩:∃n:Nat,(xF j p).ring=n:=⟨(xF j p).ring.toNat,zB⟩;have hyl:=zM vN c.li p zB;have hyr:=zM iA c.nx rn zB;generalize hx1:vJ c p=l0 at*
 change (c.li.map vN)[p]? =some (vN (vJ c p))at hyl
 rw[hx1]at hyl;generalize c.nx.getD rn default=n0 at *;refine eM call290 λF hF=>?_
 refine WW ?_;refine zO (c.li.length) [3,3000,1001,2001] [3,3000,1001,2001] [1,2,3,12,13] [14,1,2,3,12,13] Z (λi T U=>⟨(14,iA i)::T,U⟩) ?_;(conv=>whnf);refine⟨by rfl,?_,?_⟩
 ·intro i hi;have hy:=zM vN c.li i hi
  change (c.li.map vN)[i]? =some (vN (vJ c i))at hy
  have ck:=gD j.cf hcf p i;have hb:=h0 i hi;clear h0 hyl hyr cf;by_cases h1:(vJ c i).lamp=0
  ·generalize vJ c i=t at *;clear hb;refine WW ?_;rfl
  ·have hq:dB j.cf p i=false:=by
    cases hq:dB j.cf p i with
    |false=>rfl
    |true=>
     rw[hq,yEp]at hb;exact absurd (by simpa using hb) h1
   rw[hq]at ck;generalize vJ c i=t at *;clear hb;refine zV ck ?_;rfl
 ·clear h0;generalize xF j p=t at *;rw[hrn,yBq];have et:vE t= .agg [iA rn,iA t.group,iA t.ming,iA t.maxg,iA t.yel,iA t.red,iA t.walk,iA t.clear]:=by rw[<-hrn];rfl
  rw[et]at hyp;rw[hrn]at cf;refine zV cf ?_;exact jK [3000,1001,2001] Z Z Z Z
theorem OI (j:Jn) (hn:j.ph.length<=1000) (hcf:j.cf.length<=40) (c:Ct) (hc:c.li.length=j.ph.length) (hm:c.nx.length=2) (p:Nat) (hp:p<j.ph.length) (hr:0<=(xF j p).ring/\(xF j p).ring<=1) (hkf:UH j c p=false) (hg2:c.gr≠(xF j p).group):
  zN 290 [wC j,.ptr 3000 0 0,iA (p:Int)] (bD c 1002) (.tup []) (GK (gC j c p) c.nx):=by
 have hlp:=zA vE j.ph;have hll:=zA vN c.li;have hln:=zA iA c.nx;have hyp:=zM vE j.ph p hp
 change (j.ph.map vE)[p]? =some (vE (xF j p))at hyp
 have cf:=VS j hn (xF j p).ring (xF j p).group (p+1);unfold gC;rw[yAc (by rw[hkf];decide)];have eb:BK j c p=etF j (b1F c p) (xF j p).group:=by unfold BK;rw[yAc hg2]
 rw[eb];unfold UH at hkf;rw[yDe]at hkf;have h0:∀q,q<c.li.length->((vJ c q).lamp != 0&&dB j.cf p q)=false:=λq hq=>by simpa using hkf q (yA2.2 hq)
 have ce:=zEb j hn (xF j p).group c.gr c.wt ((c.li.map vN).set p (vN ⟨1,0⟩)) (c.nx.map iA) (c.li.map vN).length (c.nx.map iA).length;unfold etF b1F bD GK;dsimp only;rw[yCk,yCk,yB7,yB7];rw[show([bY j 0 (xF j p).group 0,bY j 1 (xF j p).group 0].map iA)=[iA (bY j 0 (xF j p).group 0),iA (bY j 1 (xF j p).group 0)]from Z];have hfx:(([iA (bY j 0 (xF j p).group 0),iA (bY j 1 (xF j p).group 0)]:List AV)).length=2:=rfl;rw[hfx]
 have hyf:∃v,([iA (bY j 0 (xF j p).group 0),iA (bY j 1 (xF j p).group 0)]:List AV)[(xF j p).ring.toNat]? =some (iA v):=by
  have:(xF j p).ring=0∨(xF j p).ring=1:=by omega
  rcases this with h|h<;>rw[h]
  ·exact⟨_,rfl⟩
  ·exact⟨_,rfl⟩
 obtain⟨v0,hyf⟩:=hyf;generalize ([iA (bY j 0 (xF j p).group 0),iA (bY j 1 (xF j p).group 0)]:List AV)=fx at *;clear hkf eb;generalize bY j (xF j p).ring (xF j p).group (p+1)=fo at *;obtain⟨rn,hrn⟩:∃n:Nat,(xF j p).ring=n:=⟨(xF j p).ring.toNat,zB⟩;have hyl:=zM vN c.li p zB;rw[hrn,yBq]at hyf;generalize hx1:vJ c p=l0 at*
 change (c.li.map vN)[p]? =some (vN (vJ c p))at hyl
 rw[hx1]at hyl;refine eM call290 λF hF=>?_
 refine WW ?_;refine zO (c.li.length) [3,3000,1001,1002] [3,3000,1001,1002] [1,2,3,12,13] [14,1,2,3,12,13] Z (λi T U=>⟨(14,iA i)::T,U⟩) ?_;(conv=>whnf);refine⟨by rfl,?_,?_⟩
 ·intro i hi;have hy:=zM vN c.li i hi
  change (c.li.map vN)[i]? =some (vN (vJ c i))at hy
  have ck:=gD j.cf hcf p i;have hb:=h0 i hi;clear h0 hyl cf ce;by_cases h1:(vJ c i).lamp=0
  ·generalize vJ c i=t at *;clear hb;refine WW ?_;rfl
  ·have hq:dB j.cf p i=false:=by
    cases hq:dB j.cf p i with
    |false=>rfl
    |true=>
     rw[hq,yEp]at hb;exact absurd (by simpa using hb) h1
   rw[hq]at ck;generalize vJ c i=t at *;clear hb;refine zV ck ?_;rfl
 ·clear h0;generalize xF j p=t at *;rw[hrn,yBq];have et:vE t= .agg [iA rn,iA t.group,iA t.ming,iA t.maxg,iA t.yel,iA t.red,iA t.walk,iA t.clear]:=by rw[<-hrn];rfl
  rw[et]at hyp;rw[hrn]at cf;refine yQ (wV ce cf) ?_;exact jK [3000,1001,1002,2001] Z Z Z Z
def ctT (c:Ct):AV:= .agg [.sl false ((c.li.map vN).take (c.li.map vN).length),iA c.gr,.sl false ((c.nx.map iA).take (c.nx.map iA).length),iA c.wt]
def YN (c:Ct):ctT c=ctA c:=by unfold ctT;rw[yAh,yAh];rfl
def VT (j:Jn) (hn:j.ph.length<=1000) (c:Ct) (hc:c.li.length=j.ph.length) (r:Int):zN 288 [wC j,ctT c,iA r] [] (bA (dkF j c r)) []:=by rw[YN];exact zV4 j hn c hc r
def zBy (j:Jn) (hn:j.ph.length<=1000) (hcf:j.cf.length<=40) (c:Ct) (hm:c.nx.length=2) (r t:Int) (hr:0<=r/\r<2):zN 289 [wC j,ctT c,iA r,iA t] [] (iA (cmF j (c.nx.getD r.toNat default) r t)) []:=by rw[YN];exact zV5 j hn hcf c hm r t hr
def GL {j:Jn} (J:JV j) {c:Ct} {r:Int} {t:Nat} (ht:t<j.ph.length) (h:WH j c r t≠ -1):∃p:Nat,WH j c r t=p/\p<j.ph.length/\(xF j p).group=(xF j t).group:=by
 unfold WH at h⊢;split
 ·exact⟨t,rfl,ht,rfl⟩
 ·rename_i hr;rw[yAc hr]at h
  rcases BL j (c.nx.getD r.toNat default) r t with h1|⟨p,h1,h2,_,h4⟩
  ·exact absurd h1 h
  ·refine⟨p,h1,h2,?_⟩;by_cases hpt:p=t
   ·rw[hpt]
   ·exact yB9 λhg=>by
     have:=J.ap p t h2 ht hpt (.inr hg);rw[h4]at this;cases this
def dU (j:Jn) (c:Ct) (p:Nat):(UH j c p=true/\gC j c p=c)∨(UH j c p=false/\(gC j c p).gr=(xF j p).group):=by
 unfold gC;split
 ·rename_i h;exact .inl ⟨h,rfl⟩
 ·rename_i h;refine .inr ⟨by simpa using h,?_⟩;dsimp only;unfold BK;split
  ·rename_i h2;exact h2
  ·rfl
def AY (e:Bool) (c:Ct) (o:List Int):List (Nat×xO):=if e=true then GK c o else bD c 1002
def zV6 {j:Jn} (J:JV j) {c:Ct} {r:Int} {t:Nat} (ht:t<j.ph.length):(cX j t c r).gr=c.gr∨(cX j t c r).gr=(xF j t).group:=by
 unfold cX;split
 ·split
  ·exact .inl Z
  ·rename_i h;obtain⟨p,hpe,hp,hpg⟩:=GL J (c:=c) (r:=r) ht h;rw[hpe,yBq]
   rcases dU j c p with h|h
   ·rw[h.2];exact .inl Z
   ·rw[h.2,hpg];exact .inr Z
 ·exact .inl Z
def zLm (e:Bool) (c:Ct) (o:List Int):vT (AY e c o)=true:=by cases e<;>rfl
def zGh (j:Jn) (t:Nat) (e:Bool) (i:Int) (c:Ct) (o:List Int):St:=⟨[(8,iA i),(1,.ptr 3000 0 0),(2,iA t),(3,.ptr 3 0 0)],AY e c o++[(3,.box [zC vE j.ph,zC iA j.cf,iA j.st])]⟩
theorem zQz (j:Jn) (J:JV j) (c:Ct) (C:CV j c) (h0:c.wt=0) (t:Nat) (ht:t<j.ph.length):zN 257 [wC j,.ptr 3000 0 0,iA (t:Int)] (bD c 1002) (.tup []) (AY (decide ((cX j t (cX j t c 0) 1).gr≠c.gr)) (cX j t (cX j t c 0) 1) (if(cX j t c 0).gr=c.gr then(cX j t c 0).nx else c.nx)):=by
 have hn:=J.n;have hn8:j.ph.length<=1000:=by omega
 have hjc:=J.c;have hlp:=zA vE j.ph;have hyt:=zM vE j.ph t ht
 change (j.ph.map vE)[t]? =some (vE (xF j t))at hyt
 have hc_c:=C.n;have hm_c:=C.m;obtain⟨C1,h01⟩:=zLs J C h0 ht 0;have hc_c1:=C1.n;have hm_c1:=C1.m;have hgr1:=zV6 J (c:=c) (r:=0) ht;have heq_c:c.gr=c.gr:=rfl;refine VK tok func257 Z (λargs w=>call257 args w) Z Z (zLm _ _ _) (λF hF=>?_);refine WW ?_;refine XJ [3000,1001,1002,2001,3] [8,1,2,3] (zGh j t false 0 c c.nx) (zGh j t (decide ((cX j t c 0).gr≠c.gr)) 1 (cX j t c 0) c.nx) (zGh j t (decide ((cX j t (cX j t c 0) 1).gr≠c.gr)) 2 (cX j t (cX j t c 0) 1) (if(cX j t c 0).gr=c.gr then(cX j t c 0).nx else c.nx)) Z Z ?_ ?_ ?_
 ·unfold zGh;clear C1 hgr1 hc_c1 hm_c1 h01;rw[show AY false c c.nx=bD c 1002 from Z];unfold bD;have cd:=VT j hn8 c hc_c 0
  cases hd:dkF j c 0 with
  |false=>
   rw[hd]at cd;rw[show cX j t c 0=c by unfold cX;rw[yAc (by rw[hd];decide)]];rw[show decide (c.gr≠c.gr)=false from yAl (λh=>h heq_c)];clear hd;refine zV cd ?_;rfl
  |true=>
  rw[hd]at cd
  have hsv:cX j t c 0=if WH j c 0 t= -1 then c else gC j c (WH j c 0 t).toNat:=by unfold cX;rw[yAd hd]
  by_cases hrt:0=(xF j t).ring
  ·
   have hP:WH j c 0 t=t:=by unfold WH;rw[yAd hrt]
   rw[hP]at hsv;rw[yAc zB,yBq]at hsv;by_cases hk:UH j c t=true∨c.gr=(xF j t).group
   ·have cb:=XN j hn8 zB c hc_c hm_c t ht (J.rg t ht) hk
    have hg2:(gC j c t).gr=c.gr:=by
     rcases dU j c t with h|h
     ·exact(yBa Ct.gr h.2).trans heq_c
     ·rcases hk with hk|hk
      ·rw[hk]at h;cases h.1
      ·exact h.2.trans (hk.symm.trans heq_c)
    rw[hsv,show decide ((gC j c t).gr≠c.gr)=false from yAl (λh=>h hg2)];generalize gC j c t=b at *;clear hd hsv hg2 hk;unfold bD at cb;refine yQ (wV cd cb) ?_;rfl
   ·have hk1:UH j c t=false:=by
     cases h:UH j c t with
     |false=>rfl
     |true=>exact absurd (.inl h) hk
    have hk2:c.gr≠(xF j t).group:=λh=>hk (.inr h)
    have cb:=OI j hn8 zB c hc_c hm_c t ht (J.rg t ht) hk1 hk2
    have hg2:(gC j c t).gr≠c.gr:=by
     rcases dU j c t with h|h
     ·rw[hk1]at h;cases h.1
     ·rw[h.2,<-heq_c];exact λh=>hk2 h.symm
    rw[hsv,show decide ((gC j c t).gr≠c.gr)=true from yAj hg2];generalize gC j c t=b at *;clear hd hsv hg2 hk hk1 hk2;unfold bD GK at cb;refine yQ (wV cd cb) ?_;rfl
  ·
   have cm:=zBy j hn8 zB c hm_c 0 t zB;have hP:WH j c 0 t=cmF j (c.nx.getD (0:Int).toNat default) 0 t:=by unfold WH;rw[yAc hrt]
   rw[<-hP]at cm;by_cases hm1:WH j c 0 t= -1
   ·rw[yAd hm1]at hsv;rw[hsv];rw[show decide (c.gr≠c.gr)=false from yAl (λh=>h heq_c)];generalize WH j c 0 t=pp at *;clear hP hd hsv;refine yQ (wV cd cm) ?_;rfl
   obtain⟨p,hpe,hp,hpg⟩:=GL J (c:=c) (r:=0) ht hm1;rw[yAc hm1,hpe,yBq]at hsv;rw[hpe]at cm;clear hP hm1 hpe;by_cases hk:UH j c p=true∨c.gr=(xF j p).group
   ·have cb:=XN j hn8 zB c hc_c hm_c p hp (J.rg p hp) hk
    have hg2:(gC j c p).gr=c.gr:=by
     rcases dU j c p with h|h
     ·exact(yBa Ct.gr h.2).trans heq_c
     ·rcases hk with hk|hk
      ·rw[hk]at h;cases h.1
      ·exact h.2.trans (hk.symm.trans heq_c)
    rw[hsv,show decide ((gC j c p).gr≠c.gr)=false from yAl (λh=>h hg2)];generalize gC j c p=b at *;clear hd hsv hg2 hk;unfold bD at cb;refine yQ (gG cd cm cb) ?_;rfl
   ·have hk1:UH j c p=false:=by
     cases h:UH j c p with
     |false=>rfl
     |true=>exact absurd (.inl h) hk
    have hk2:c.gr≠(xF j p).group:=λh=>hk (.inr h)
    have cb:=OI j hn8 zB c hc_c hm_c p hp (J.rg p hp) hk1 hk2
    have hg2:(gC j c p).gr≠c.gr:=by
     rcases dU j c p with h|h
     ·rw[hk1]at h;cases h.1
     ·rw[h.2,<-heq_c];exact λh=>hk2 h.symm
    rw[hsv,show decide ((gC j c p).gr≠c.gr)=true from yAj hg2];generalize gC j c p=b at *;clear hd hsv hg2 hk hk1 hk2;unfold bD GK at cb;refine yQ (gG cd cm cb) ?_;rfl
 ·clear hc_c hm_c heq_c;have he1:=hgr1;generalize cX j t c 0=c1 at *;unfold zGh;by_cases heq_c1:c1.gr=c.gr
  ·rw [yAd heq_c1,yAl (λh=>h heq_c1)];rw[show AY false c1 c.nx=bD c1 1002 from Z];unfold bD;have cd:=VT j hn8 c1 hc_c1 1
   cases hd:dkF j c1 1 with
   |false=>
    rw[hd]at cd;rw[show cX j t c1 1=c1 by unfold cX;rw[yAc (by rw[hd];decide)]];rw[show decide (c1.gr≠c.gr)=false from yAl (λh=>h heq_c1)];clear hd;refine zV cd ?_;rfl
   |true=>
   rw[hd]at cd
   have hsv:cX j t c1 1=if WH j c1 1 t= -1 then c1 else gC j c1 (WH j c1 1 t).toNat:=by unfold cX;rw[yAd hd]
   by_cases hrt:1=(xF j t).ring
   ·
    have hP:WH j c1 1 t=t:=by unfold WH;rw[yAd hrt]
    rw[hP]at hsv;rw[yAc zB,yBq]at hsv;by_cases hk:UH j c1 t=true∨c1.gr=(xF j t).group
    ·have cb:=XN j hn8 zB c1 hc_c1 hm_c1 t ht (J.rg t ht) hk
     have hg2:(gC j c1 t).gr=c.gr:=by
      rcases dU j c1 t with h|h
      ·exact(yBa Ct.gr h.2).trans heq_c1
      ·rcases hk with hk|hk
       ·rw[hk]at h;cases h.1
       ·exact h.2.trans (hk.symm.trans heq_c1)
     rw[hsv,show decide ((gC j c1 t).gr≠c.gr)=false from yAl (λh=>h hg2)];generalize gC j c1 t=b at *;clear hd hsv hg2 hk;unfold bD at cb;refine yQ (wV cd cb) ?_;rfl
    ·have hk1:UH j c1 t=false:=by
      cases h:UH j c1 t with
      |false=>rfl
      |true=>exact absurd (.inl h) hk
     have hk2:c1.gr≠(xF j t).group:=λh=>hk (.inr h)
     have cb:=OI j hn8 zB c1 hc_c1 hm_c1 t ht (J.rg t ht) hk1 hk2
     have hg2:(gC j c1 t).gr≠c.gr:=by
      rcases dU j c1 t with h|h
      ·rw[hk1]at h;cases h.1
      ·rw[h.2,<-heq_c1];exact λh=>hk2 h.symm
     rw[hsv,show decide ((gC j c1 t).gr≠c.gr)=true from yAj hg2];generalize gC j c1 t=b at *;clear hd hsv hg2 hk hk1 hk2;unfold bD GK at cb;refine yQ (wV cd cb) ?_;rfl
   ·
    have cm:=zBy j hn8 zB c1 hm_c1 1 t zB;have hP:WH j c1 1 t=cmF j (c1.nx.getD (1:Int).toNat default) 1 t:=by unfold WH;rw[yAc hrt]
    rw[<-hP]at cm;by_cases hm1:WH j c1 1 t= -1
    ·rw[yAd hm1]at hsv;rw[hsv];rw[show decide (c1.gr≠c.gr)=false from yAl (λh=>h heq_c1)];generalize WH j c1 1 t=pp at *;clear hP hd hsv;refine yQ (wV cd cm) ?_;rfl
    obtain⟨p,hpe,hp,hpg⟩:=GL J (c:=c1) (r:=1) ht hm1;rw[yAc hm1,hpe,yBq]at hsv;rw[hpe]at cm;clear hP hm1 hpe;by_cases hk:UH j c1 p=true∨c1.gr=(xF j p).group
    ·have cb:=XN j hn8 zB c1 hc_c1 hm_c1 p hp (J.rg p hp) hk
     have hg2:(gC j c1 p).gr=c.gr:=by
      rcases dU j c1 p with h|h
      ·exact(yBa Ct.gr h.2).trans heq_c1
      ·rcases hk with hk|hk
       ·rw[hk]at h;cases h.1
       ·exact h.2.trans (hk.symm.trans heq_c1)
     rw[hsv,show decide ((gC j c1 p).gr≠c.gr)=false from yAl (λh=>h hg2)];generalize gC j c1 p=b at *;clear hd hsv hg2 hk;unfold bD at cb;refine yQ (gG cd cm cb) ?_;rfl
    ·have hk1:UH j c1 p=false:=by
      cases h:UH j c1 p with
      |false=>rfl
      |true=>exact absurd (.inl h) hk
     have hk2:c1.gr≠(xF j p).group:=λh=>hk (.inr h)
     have cb:=OI j hn8 zB c1 hc_c1 hm_c1 p hp (J.rg p hp) hk1 hk2
     have hg2:(gC j c1 p).gr≠c.gr:=by
      rcases dU j c1 p with h|h
      ·rw[hk1]at h;cases h.1
      ·rw[h.2,<-heq_c1];exact λh=>hk2 h.symm
     rw[hsv,show decide ((gC j c1 p).gr≠c.gr)=true from yAj hg2];generalize gC j c1 p=b at *;clear hd hsv hg2 hk hk1 hk2;unfold bD GK at cb;refine yQ (gG cd cm cb) ?_;rfl
  ·have hne_c1:c1.gr≠c.gr:=heq_c1
   have hgt_c1:c1.gr=(xF j t).group:=by
    rcases he1 with h|h
    ·exact absurd h hne_c1
    ·exact h
   rw[yAc heq_c1,yAj hne_c1];rw[show AY true c1 c.nx=GK c1 c.nx from Z];unfold GK;have cd:=VT j hn8 c1 hc_c1 1
   cases hd:dkF j c1 1 with
   |false=>
    rw[hd]at cd;rw[show cX j t c1 1=c1 by unfold cX;rw[yAc (by rw[hd];decide)]];rw[show decide (c1.gr≠c.gr)=true from yAj hne_c1];clear hd;refine zV cd ?_;rfl
   |true=>
   rw[hd]at cd
   have hsv:cX j t c1 1=if WH j c1 1 t= -1 then c1 else gC j c1 (WH j c1 1 t).toNat:=by unfold cX;rw[yAd hd]
   by_cases hrt:1=(xF j t).ring
   ·
    have hP:WH j c1 1 t=t:=by unfold WH;rw[yAd hrt]
    rw[hP]at hsv;rw[yAc zB,yBq]at hsv;have cb:=OH j hn8 zB c1 hc_c1 hm_c1 t ht (J.rg t ht) (.inr (hgt_c1.trans (rfl:(xF j t).group=(xF j t).group).symm))
    have hg2:(gC j c1 t).gr≠c.gr:=by
     rcases dU j c1 t with h|h
     ·rw[h.2];exact hne_c1
     ·rw[h.2,(rfl:(xF j t).group=(xF j t).group),<-hgt_c1];exact hne_c1
    rw[hsv,show decide ((gC j c1 t).gr≠c.gr)=true from yAj hg2];generalize gC j c1 t=b at *;clear hd hsv hg2;unfold bD at cb;refine yQ (wV cd cb) ?_;rfl
   ·
    have cm:=zBy j hn8 zB c1 hm_c1 1 t zB;have hP:WH j c1 1 t=cmF j (c1.nx.getD (1:Int).toNat default) 1 t:=by unfold WH;rw[yAc hrt]
    rw[<-hP]at cm;by_cases hm1:WH j c1 1 t= -1
    ·rw[yAd hm1]at hsv;rw[hsv];rw[show decide (c1.gr≠c.gr)=true from yAj hne_c1];generalize WH j c1 1 t=pp at *;clear hP hd hsv;refine yQ (wV cd cm) ?_;rfl
    obtain⟨p,hpe,hp,hpg⟩:=GL J (c:=c1) (r:=1) ht hm1;rw[yAc hm1,hpe,yBq]at hsv;rw[hpe]at cm;clear hP hm1 hpe;have cb:=OH j hn8 zB c1 hc_c1 hm_c1 p hp (J.rg p hp) (.inr (hgt_c1.trans (hpg:(xF j p).group=(xF j t).group).symm))
    have hg2:(gC j c1 p).gr≠c.gr:=by
     rcases dU j c1 p with h|h
     ·rw[h.2];exact hne_c1
     ·rw[h.2,(hpg:(xF j p).group=(xF j t).group),<-hgt_c1];exact hne_c1
    rw[hsv,show decide ((gC j c1 p).gr≠c.gr)=true from yAj hg2];generalize gC j c1 p=b at *;clear hd hsv hg2;unfold bD at cb;refine yQ (gG cd cm cb) ?_;rfl
 ·generalize (if(cX j t c 0).gr=c.gr then(cX j t c 0).nx else c.nx)=o at *;generalize cX j t (cX j t c 0) 1=c2 at *;unfold zGh;by_cases he:c2.gr=c.gr
  ·rw[yAl (λh=>h he)];refine WW ?_;exact jK [3000,1001,1002] Z Z Z Z
  ·rw[yAj he];refine WW ?_;exact jK [3000,1001,1002,2001] Z Z Z Z
def zLn (c:Ct) (hn:c.li.length<=1000):zN 287 [ctT c] [] (bA (arF c)) []:=by rw[YN];exact BP c hn
def ovN (c:Ct) (i:Nat):Bool:=arF c&&(c.nx.take i).all λp=>p== -1
def zLo (c:Ct) (i:Nat) (hi:i<c.nx.length):ovN c (i+1)=(ovN c i&&(c.nx.getD i default== -1)):=by
 unfold ovN;rw[<-yFd hi,List.all_append];simp[List.getD,hi,Bool.and_assoc]
def PF (j:Jn) (e:Bool) (i:Int) (c:Ct) (o:List Int):St:=⟨[(36,iA i),(1,.ptr 3000 0 0),(2,.ptr 2 0 0)],AY e c o++[(2,.box [zC vE j.ph,zC iA j.cf,iA j.st])]⟩
theorem zQ0 (j:Jn) (J:JV j) (c:Ct) (C:CV j c) (h0:c.wt=0):zN 258 [wC j,.ptr 3000 0 0] (bD c 1002) (.tup []) (AY (cyO c) (cyF j c) c.nx):=by
 have hn:=J.n;have hn8:j.ph.length<=1000:=by omega
 have hjc:=J.c;have hlp:=zA vE j.ph;have hll:=zA vN c.li;have hln:=zA iA c.nx;have hcn:=C.n;have hcm:=C.m;have ca:=zLn c zB;have cg:=BO j hn8 J.gp;have hgp:=GM J
 have hgl:SD j<=4:=by
  have:∀n,n<=j.ph.length->grN j.ph n<=4:=λn=>by
   induction n with
   |zero=>intro _;show(0:Int)<=4;omega
   |succ n ih=>
    intro h;have h1:=ih zB;have h2:=J.gp n zB;unfold xF at h2;unfold grN;omega
  exact this _ (yAg _)
 have hcg:=C.g;have htm:(c.gr+1).tmod (SD j)=(c.gr+1) % SD j:=yBz zB;have hO:ovN c c.nx.length=cyO c:=by unfold ovN cyO;rw[yAh]
 refine VK tok func258 Z (λargs w=>call258 args w) Z Z (zLm _ _ _) (λF hF=>?_);unfold bD;have ho0:ovN c 0=arF c:=by unfold ovN;simp
 rw[<-ho0]at ca;refine zV ca ?_;refine zO (c.nx.length) [2,3000,1001,1002] [2,3000,1001,1002] [1,2,15,16] [4,17,1,2,15,16] Z (λi T U=>⟨(4,bA (ovN c i))::(17,iA i)::T,U⟩) ?_;(conv=>whnf);refine⟨by rfl,?_,?_⟩
 ·intro i hi;have hy:=zM iA c.nx i hi;have es:=zLo c i hi;rw[es];generalize ovN c i=o at *;generalize c.nx.getD i default=x at *;by_cases hx:x= -1
  ·rw[show(x== -1)=true by rw[yBw];exact hx,yEp];clear ca cg;refine WW ?_;rfl
  ·rw[show(x== -1)=false by rw[yBm];exact hx,yD5];clear ca cg;refine WW ?_;rfl
 ·rw [hO];clear hO ho0 ca
  cases hco:cyO c with
  | true=>
   have hcy:cyF j c=cY j (cY j (etF j c ((c.gr+1) % SD j)) 0) 1:=by unfold cyF;rw[yAd hco]
   rw[hcy];have hgm:0<=(c.gr+1) % SD j/\(c.gr+1) % SD j<SD j:=⟨yD8 _ zB,yDw _ zB⟩;have C_c0:=zLq C hgm;have hw0:(etF j c ((c.gr+1) % SD j)).wt=0:=h0;have ce:=zEb j hn8 ((c.gr+1) % SD j) c.gr c.wt (c.li.map vN) (c.nx.map iA) (c.li.map vN).length (c.nx.map iA).length;rw[show([(3000,.box [.ref 1001 0 (c.li.map vN).length,iA ((c.gr+1) % SD j),.ref 2001 0 2,iA c.wt]),(1001,.arr 2 (c.li.map vN) false),(1002,.arr 1 (c.nx.map iA) false),(2001,.arr 1 [iA (bY j 0 ((c.gr+1) % SD j) 0),iA (bY j 1 ((c.gr+1) % SD j) 0)] false)]:List (Nat×xO))=GK (etF j c ((c.gr+1) % SD j)) c.nx from Z]at ce;rw[<-htm]at ce;rw[htm]at ce;generalize hc0:etF j c ((c.gr+1) % SD j)=c0 at *;rw[<-htm]at ce;have hne:¬SD j=0:=by omega
   generalize SD j=gm at *;have hc_c0:=C_c0.n;have hm_c0:=C_c0.m;obtain⟨C_c1,h01⟩:=GN J C_c0 hw0 (r:=0) zB;have hc_c1:=C_c1.n;have hm_c1:=C_c1.m
   change CV j (cY j c0 0)at C_c1
   change (cY j c0 0).li.length=j.ph.length at hc_c1
   change (cY j c0 0).nx.length=2 at hm_c1
   clear hcy hc0 C;unfold GK at ce;refine yQ (wV cg ce) ?_;refine XJ [3000,1001,1002,2001,2] [36,1,2] (PF j true 0 c0 c.nx) (PF j true 1 (cY j c0 0) c.nx) (PF j true 2 (cY j (cY j c0 0) 1) c.nx) Z Z ?_ ?_ ?_
   ·unfold PF;rw[show AY true c0 c.nx=GK c0 c.nx from Z];unfold GK;have cd:=VT j hn8 c0 hc_c0 0;have hyn:=zM iA c0.nx 0 zB;have hv:=C_c0.v 0 zB;have hnl:(c0.nx.map iA).length=2:=by rw[yAe];exact hm_c0
    cases hd:dkF j c0 0 with
    |false=>
     rw[hd]at cd;rw[show cY j c0 0=c0 by unfold cY;rw[yAc (by rw[hd];simp)]];clear hd;refine zV cd ?_;rfl
    |true=>
    rw[hd]at cd
    have hsv:cY j c0 0=if c0.nx.getD 0 default= -1 then c0 else gC j c0 (c0.nx.getD 0 default).toNat:=by
     unfold cY;rw[hd]
     show(if true=true/\c0.nx.getD 0 default≠ -1 then gC j c0 (c0.nx.getD 0 default).toNat else c0)=_
     by_cases h:c0.nx.getD 0 default= -1
     ·rw[yAd h,yAc (λk=>k.2 h)]
     ·rw[yAc h,yAd ⟨rfl,h⟩]
    clear hd;by_cases hm1:c0.nx.getD 0 default= -1
    ·rw[yAd hm1]at hsv;rw[hsv];clear hsv hv;generalize c0.nx.getD 0 default=x at *;refine zV cd ?_;rfl
    ·rw[yAc hm1]at hsv
     have hin:InO j (0:Nat) c0.gr (c0.nx.getD 0 default):=by
      rcases hv with h|h
      ·exact absurd h hm1
      ·exact h
     obtain⟨i1,i2,i3,i4⟩:=hin;obtain⟨p,hpe⟩:∃p:Nat,c0.nx.getD 0 default=p:=⟨(c0.nx.getD 0 default).toNat,zB⟩;rw[hpe]at hsv hyn hm1 i2 i4;rw[yBq]at hsv i4;have hp:p<j.ph.length:=by omega
     have cb:=OH j hn8 zB c0 hc_c0 hm_c0 p hp (J.rg p hp) (.inr i4.symm);rw[hsv];clear hsv hv i1 i2 i3 i4 hpe;generalize gC j c0 p=b at *;unfold bD at cb;refine yQ (wV cd cb) ?_;rfl
   ·generalize cY j c0 0=c1 at *;unfold PF;rw[show AY true c1 c.nx=GK c1 c.nx from Z];unfold GK;have cd:=VT j hn8 c1 hc_c1 1;have hyn:=zM iA c1.nx 1 zB;have hv:=C_c1.v 1 zB;have hnl:(c1.nx.map iA).length=2:=by rw[yAe];exact hm_c1
    cases hd:dkF j c1 1 with
    |false=>
     rw[hd]at cd;rw[show cY j c1 1=c1 by unfold cY;rw[yAc (by rw[hd];simp)]];clear hd;refine zV cd ?_;rfl
    |true=>
    rw[hd]at cd
    have hsv:cY j c1 1=if c1.nx.getD 1 default= -1 then c1 else gC j c1 (c1.nx.getD 1 default).toNat:=by
     unfold cY;rw[hd]
     show(if true=true/\c1.nx.getD 1 default≠ -1 then gC j c1 (c1.nx.getD 1 default).toNat else c1)=_
     by_cases h:c1.nx.getD 1 default= -1
     ·rw[yAd h,yAc (λk=>k.2 h)]
     ·rw[yAc h,yAd ⟨rfl,h⟩]
    clear hd;by_cases hm1:c1.nx.getD 1 default= -1
    ·rw[yAd hm1]at hsv;rw[hsv];clear hsv hv;generalize c1.nx.getD 1 default=x at *;refine zV cd ?_;rfl
    ·rw[yAc hm1]at hsv
     have hin:InO j (1:Nat) c1.gr (c1.nx.getD 1 default):=by
      rcases hv with h|h
      ·exact absurd h hm1
      ·exact h
     obtain⟨i1,i2,i3,i4⟩:=hin;obtain⟨p,hpe⟩:∃p:Nat,c1.nx.getD 1 default=p:=⟨(c1.nx.getD 1 default).toNat,zB⟩;rw[hpe]at hsv hyn hm1 i2 i4;rw[yBq]at hsv i4;have hp:p<j.ph.length:=by omega
     have cb:=OH j hn8 zB c1 hc_c1 hm_c1 p hp (J.rg p hp) (.inr i4.symm);rw[hsv];clear hsv hv i1 i2 i3 i4 hpe;generalize gC j c1 p=b at *;unfold bD at cb;refine yQ (wV cd cb) ?_;rfl
   ·generalize cY j (cY j c0 0) 1=c2 at *;unfold PF;refine WW ?_;exact jK [3000,1001,1002,2001] Z Z Z Z
  | false=>
   have hcy:cyF j c=cY j (cY j c 0) 1:=by unfold cyF;rw[yAc (by rw[hco];decide)]
   rw[hcy];clear cg htm hcy hgp hgl hcg;have C_c:=C;have hc_c:=hcn;have hm_c:=hcm;obtain⟨C_c1,h01⟩:=GN J C h0 (r:=0) zB;have hc_c1:=C_c1.n;have hm_c1:=C_c1.m
   change CV j (cY j c 0)at C_c1
   change (cY j c 0).li.length=j.ph.length at hc_c1
   change (cY j c 0).nx.length=2 at hm_c1
   refine WW ?_;clear hco;refine XJ [3000,1001,1002,2001,2] [36,1,2] (PF j false 0 c c.nx) (PF j false 1 (cY j c 0) c.nx) (PF j false 2 (cY j (cY j c 0) 1) c.nx) Z Z ?_ ?_ ?_
   ·unfold PF;rw[show AY false c c.nx=bD c 1002 from Z];unfold bD;have cd:=VT j hn8 c hc_c 0;have hyn:=zM iA c.nx 0 zB;have hv:=C_c.v 0 zB;have hnl:(c.nx.map iA).length=2:=by rw[yAe];exact hm_c
    cases hd:dkF j c 0 with
    |false=>
     rw[hd]at cd;rw[show cY j c 0=c by unfold cY;rw[yAc (by rw[hd];simp)]];clear hd;refine zV cd ?_;rfl
    |true=>
    rw[hd]at cd
    have hsv:cY j c 0=if c.nx.getD 0 default= -1 then c else gC j c (c.nx.getD 0 default).toNat:=by
     unfold cY;rw[hd]
     show(if true=true/\c.nx.getD 0 default≠ -1 then gC j c (c.nx.getD 0 default).toNat else c)=_
     by_cases h:c.nx.getD 0 default= -1
     ·rw[yAd h,yAc (λk=>k.2 h)]
     ·rw[yAc h,yAd ⟨rfl,h⟩]
    clear hd;by_cases hm1:c.nx.getD 0 default= -1
    ·rw[yAd hm1]at hsv;rw[hsv];clear hsv hv;generalize c.nx.getD 0 default=x at *;refine zV cd ?_;rfl
    ·rw[yAc hm1]at hsv
     have hin:InO j (0:Nat) c.gr (c.nx.getD 0 default):=by
      rcases hv with h|h
      ·exact absurd h hm1
      ·exact h
     obtain⟨i1,i2,i3,i4⟩:=hin;obtain⟨p,hpe⟩:∃p:Nat,c.nx.getD 0 default=p:=⟨(c.nx.getD 0 default).toNat,zB⟩;rw[hpe]at hsv hyn hm1 i2 i4;rw[yBq]at hsv i4;have hp:p<j.ph.length:=by omega
     have cb:=XN j hn8 zB c hc_c hm_c p hp (J.rg p hp) (.inr i4.symm);rw[hsv];clear hsv hv i1 i2 i3 i4 hpe;generalize gC j c p=b at *;unfold bD at cb;refine yQ (wV cd cb) ?_;rfl
   ·generalize cY j c 0=c1 at *;unfold PF;rw[show AY false c1 c.nx=bD c1 1002 from Z];unfold bD;have cd:=VT j hn8 c1 hc_c1 1;have hyn:=zM iA c1.nx 1 zB;have hv:=C_c1.v 1 zB;have hnl:(c1.nx.map iA).length=2:=by rw[yAe];exact hm_c1
    cases hd:dkF j c1 1 with
    |false=>
     rw[hd]at cd;rw[show cY j c1 1=c1 by unfold cY;rw[yAc (by rw[hd];simp)]];clear hd;refine zV cd ?_;rfl
    |true=>
    rw[hd]at cd
    have hsv:cY j c1 1=if c1.nx.getD 1 default= -1 then c1 else gC j c1 (c1.nx.getD 1 default).toNat:=by
     unfold cY;rw[hd]
     show(if true=true/\c1.nx.getD 1 default≠ -1 then gC j c1 (c1.nx.getD 1 default).toNat else c1)=_
     by_cases h:c1.nx.getD 1 default= -1
     ·rw[yAd h,yAc (λk=>k.2 h)]
     ·rw[yAc h,yAd ⟨rfl,h⟩]
    clear hd;by_cases hm1:c1.nx.getD 1 default= -1
    ·rw[yAd hm1]at hsv;rw[hsv];clear hsv hv;generalize c1.nx.getD 1 default=x at *;refine zV cd ?_;rfl
    ·rw[yAc hm1]at hsv
     have hin:InO j (1:Nat) c1.gr (c1.nx.getD 1 default):=by
      rcases hv with h|h
      ·exact absurd h hm1
      ·exact h
     obtain⟨i1,i2,i3,i4⟩:=hin;obtain⟨p,hpe⟩:∃p:Nat,c1.nx.getD 1 default=p:=⟨(c1.nx.getD 1 default).toNat,zB⟩;rw[hpe]at hsv hyn hm1 i2 i4;rw[yBq]at hsv i4;have hp:p<j.ph.length:=by omega
     have cb:=XN j hn8 zB c1 hc_c1 hm_c1 p hp (J.rg p hp) (.inr i4.symm);rw[hsv];clear hsv hv i1 i2 i3 i4 hpe;generalize gC j c1 p=b at *;unfold bD at cb;refine yQ (wV cd cb) ?_;rfl
   ·generalize cY j (cY j c 0) 1=c2 at *;unfold PF;refine WW ?_;exact jK [3000,1001,1002] Z Z Z Z
end Av
end Go.Proofs.YteajjdidebfcjaaGreat
