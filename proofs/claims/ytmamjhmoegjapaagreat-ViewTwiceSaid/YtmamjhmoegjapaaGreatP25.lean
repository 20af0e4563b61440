/- Part 25. -/
import Derived.Test.YtmamjhmoegjapaaGreatP24
namespace Go.Proofs.YtmamjhmoegjapaaGreat
namespace Av
open Tryz
set_option linter.all false
set_option maxRecDepth 4000
set_option maxHeartbeats 1000000
theorem jJ {TT:List TI} {rs:List ResultVar} {h0:List (Nat×xP)} {r:AV} {h1:List (Nat×xP)} {st:St} {vs:List AV} (K:List Nat) (h:MN TT st rs=some vs) (hK:(yC h0).all (K.contains ·)=true) (hr:wQ K (zC st.h) (FX vs)=r) (hh:wV K (zC st.h)=h1):
 Fin TT rs h0 r h1 .normal st:=⟨.inl rfl,vs,K,h,hK,.inl hr.symm,by rw[hh]⟩
def enN (f0 f1:Int):Nat->List AV
 |0=>[iA 0,iA 0]
 |1=>[iA f0,iA 0]
 |_+2=>[iA f0,iA f1]
theorem zDg (j:Jn) (hn:j.ph.length<=1000) (g gr wt:Int) (L N:List AV) (nL nN:Nat):zO 181 [wC j,.ptr 3000 0 0,iA g] [(3000,.box [.ref 1001 0 nL,iA gr,.ref 1002 0 nN,iA wt]),(1001,.arr 2 L false),(1002,.arr 1 N false)] (.tup [])
  [(3000,.box [.ref 1001 0 nL,iA g,.ref 2001 0 2,iA wt]),(1001,.arr 2 L false),(1002,.arr 1 N false),(2001,.arr 1 [iA (bE j 0 g 0),iA (bE j 1 g 0)] false)]:=by
 have c0:=WP j hn 0 g 0;have c1:=WP j hn 1 g 0;generalize bE j 0 g 0=f0 at *;generalize bE j 1 g 0=f1 at *;obtain⟨N2,hN2⟩:∃n:Nat,n=2:=⟨2,rfl⟩;refine eM call181 λF hF=>?_
 (repeat' (first|refine qS ?_|refine xR (λhc=>?_) (λhc=>?_)|refine wE (λhc=>?_)|(refine zE ?_;first|(refine gT ?_;refine cI 2001 tok rfl rfl rfl rfl rfl rfl rfl rfl rfl rfl rfl rfl rfl zB zB rfl rfl rfl ?_))|fail))
 refine zP (N2) [3000,2001,3,1001,1002] [3,1001,1002] [1,2,3] [20,19,1,2,3] rfl (λi T U=>⟨(20,iA i)::(19,iA N2)::T,(3000,.box [.ref 1001 0 nL,iA g,.ref 2001 0 N2,iA wt])::(2001,.arr 1 (enN f0 f1 i) false)::U⟩) ?_;(conv=>whnf);refine⟨by(rw[hN2];rfl),?_,?_⟩
 ·intro i hi;have:i=0∨i=1:=by omega
  rcases this with rfl|rfl
  ·have hy:(enN f0 f1 0)[((0:Nat):Int).toNat]? =some (iA 0):=rfl;have hl:(enN f0 f1 0).length=2:=rfl;refine zW c0 ?_;rfl
  ·have hy:(enN f0 f1 1)[((1:Nat):Int).toNat]? =some (iA 0):=rfl;have hl:(enN f0 f1 1).length=2:=rfl;refine zW c1 ?_;rfl
 ·have e2:enN f0 f1 N2=[iA f0,iA f1]:=by rw[hN2];rfl
  rw[e2];refine WW ?_;subst hN2;exact jJ [3000,1001,1002,2001] rfl rfl rfl rfl
def cP (c:Ct) (kn:Nat):List (Nat×xP):=[(3000,.box [.ref 1001 0 (c.li.map vM).length,iA c.gr,.ref kn 0 (c.nx.map iA).length,iA c.wt]),(1001,.arr 2 (c.li.map vM) false),(kn,.arr 1 (c.nx.map iA) false)]
def HU (c:Ct) (o:List Int):List (Nat×xP):=[(3000,.box [.ref 1001 0 (c.li.map vM).length,iA c.gr,.ref 2001 0 (c.nx.map iA).length,iA c.wt]),(1001,.arr 2 (c.li.map vM) false),(1002,.arr 1 (o.map iA) false),(2001,.arr 1 (c.nx.map iA) false)]
theorem YN (j:Jn) (hn:j.ph.length<=1000) (hcf:j.cf.length<=40) (c:Ct) (hc:c.li.length=j.ph.length) (hm:c.nx.length=2) (p:Nat) (hp:p<j.ph.length) (hr:0<=(xI j p).ring/\(xI j p).ring<=1) (hg:WX j c p=true∨c.gr=(xI j p).group):
  zO 254 [wC j,.ptr 3000 0 0,iA (p:Int)] (cP c 1002) (.tup []) (cP (gE j c p) 1002):=by
 have hlp:=zA vE j.ph;have hll:=zA vM c.li;have hln:=zA iA c.nx;have hyp:=zN vE j.ph p hp
 change (j.ph.map vE)[p]? =some (vE (xI j p))at hyp
 have cf:=WP j hn (xI j p).ring (xI j p).group (p+1);unfold gE;by_cases hk:WX j c p=true
 case pos=>
  rw[zYp hk];unfold WX at hk;rw[yAd]at hk;obtain⟨q0,hq0,hk⟩:=hk;rw[zZi]at hq0;unfold cP;refine eM call254 λF hF=>?_
  refine WW ?_;refine xV (c.li.length) [3,3000,1001,1002] [3,3000,1001,1002] [1,2,3,12,13] [14,1,2,3,12,13] rfl (λi T U zs=>(i<=q0)/\zs=⟨(14,iA i)::T,U⟩) ?_;(conv=>whnf);refine⟨?_,?_,?_⟩
  ·exact⟨zY4 _,rfl⟩
  ·rintro i st hi ⟨hiq,rfl⟩;have hy:=zN vM c.li i hi
   change (c.li.map vM)[i]? =some (vM (vI c i))at hy
   have ck:=gD j.cf hcf p i;by_cases hb:((vI c i).lamp != 0&&eO j.cf p i)=true
   ·rw[zY6]at hb;have h1:(vI c i).lamp≠0:=by simpa using hb.1
    rw[hb.2]at ck;generalize vI c i=t at *;clear hb cf hk;refine zW ck ?_;exact zJ [3000,1001,1002] rfl rfl rfl rfl
   ·have hne:i<q0:=by
     rcases Nat.lt_or_ge i q0 with h|h
     ·exact h
     ·rw[show i=q0 by omega]at hb;exact absurd hk hb
    rw[zY6]at hb;by_cases h1:(vI c i).lamp=0
    ·generalize vI c i=t at *;clear hb hk;refine WW ?_;exact⟨zB,rfl⟩
    ·have hq:eO j.cf p i=false:=by
      cases hq:eO j.cf p i with
      |false=>rfl
      |true=>exact absurd ⟨by simpa using h1,hq⟩ hb
     rw[hq]at ck;generalize vI c i=t at *;clear hb hk;refine zW ck ?_;exact⟨zB,rfl⟩
  ·rintro st ⟨hiq,rfl⟩;exfalso;omega
 have hkf:WX j c p=false:=by simpa using hk
 have hg2:c.gr=(xI j p).group:=by
  rcases hg with hg|hg
  ·exact absurd hg hk
  ·exact hg
 rw[zYo hk];have eb:BB j c p=b1F c p:=by unfold BB;rw[zYp hg2]
 rw[eb];unfold WX at hkf;rw[yBq]at hkf;have h0:∀q,q<c.li.length->((vI c q).lamp != 0&&eO j.cf p q)=false:=λq hq=>by simpa using hkf q (zZi.2 hq)
 unfold b1F cP;dsimp only;rw[yAw,yAw,yAk,yAk];clear hkf hk eb hg;generalize bE j (xI j p).ring (xI j p).group (p+1)=fo at *;obtain⟨rn,hrn⟩:∃n:Nat,(xI j p).ring=n:=⟨(xI j p).ring.toNat,zB⟩;have hyl:=zN vM c.li p zB;have hyr:=zN iA c.nx rn zB;generalize hx1:vI c p=l0 at*
 change (c.li.map vM)[p]? =some (vM (vI c p))at hyl
 rw[hx1]at hyl;generalize c.nx.getD rn default=n0 at *;refine eM call254 λF hF=>?_
 refine WW ?_;refine zP (c.li.length) [3,3000,1001,1002] [3,3000,1001,1002] [1,2,3,12,13] [14,1,2,3,12,13] rfl (λi T U=>⟨(14,iA i)::T,U⟩) ?_;(conv=>whnf);refine⟨by rfl,?_,?_⟩
 ·intro i hi;have hy:=zN vM c.li i hi
  change (c.li.map vM)[i]? =some (vM (vI c i))at hy
  have ck:=gD j.cf hcf p i;have hb:=h0 i hi;clear h0 hyl hyr cf;by_cases h1:(vI c i).lamp=0
  ·generalize vI c i=t at *;clear hb;refine WW ?_;rfl
  ·have hq:eO j.cf p i=false:=by
    cases hq:eO j.cf p i with
    |false=>rfl
    |true=>
     rw[hq,yCx]at hb;exact absurd (by simpa using hb) h1
   rw[hq]at ck;generalize vI c i=t at *;clear hb;refine zW ck ?_;rfl
 ·clear h0;generalize xI j p=t at *;rw[hrn,yAc];have et:vE t= .agg [iA rn,iA t.group,iA t.ming,iA t.maxg,iA t.yel,iA t.red,iA t.walk,iA t.clear]:=by rw[<-hrn];rfl
  rw[et]at hyp;rw[hrn]at cf;refine zW cf ?_;exact jJ [3000,1001,1002] rfl rfl rfl rfl
theorem QR (j:Jn) (hn:j.ph.length<=1000) (hcf:j.cf.length<=40) (c:Ct) (hc:c.li.length=j.ph.length) (hm:c.nx.length=2) (p:Nat) (hp:p<j.ph.length) (hr:0<=(xI j p).ring/\(xI j p).ring<=1) (hg:WX j c p=true∨c.gr=(xI j p).group):
  zO 254 [wC j,.ptr 3000 0 0,iA (p:Int)] (cP c 2001) (.tup []) (cP (gE j c p) 2001):=by
 have hlp:=zA vE j.ph;have hll:=zA vM c.li;have hln:=zA iA c.nx;have hyp:=zN vE j.ph p hp
 change (j.ph.map vE)[p]? =some (vE (xI j p))at hyp
 have cf:=WP j hn (xI j p).ring (xI j p).group (p+1);unfold gE;by_cases hk:WX j c p=true
 case pos=>
  rw[zYp hk];unfold WX at hk;rw[yAd]at hk;obtain⟨q0,hq0,hk⟩:=hk;rw[zZi]at hq0;unfold cP;refine eM call254 λF hF=>?_
  refine WW ?_;refine xV (c.li.length) [3,3000,1001,2001] [3,3000,1001,2001] [1,2,3,12,13] [14,1,2,3,12,13] rfl (λi T U zs=>(i<=q0)/\zs=⟨(14,iA i)::T,U⟩) ?_;(conv=>whnf);refine⟨?_,?_,?_⟩
  ·exact⟨zY4 _,rfl⟩
  ·rintro i st hi ⟨hiq,rfl⟩;have hy:=zN vM c.li i hi
   change (c.li.map vM)[i]? =some (vM (vI c i))at hy
   have ck:=gD j.cf hcf p i;by_cases hb:((vI c i).lamp != 0&&eO j.cf p i)=true
   ·rw[zY6]at hb;have h1:(vI c i).lamp≠0:=by simpa using hb.1
    rw[hb.2]at ck;generalize vI c i=t at *;clear hb cf hk;refine zW ck ?_;exact zJ [3000,1001,2001] rfl rfl rfl rfl
   ·have hne:i<q0:=by
     rcases Nat.lt_or_ge i q0 with h|h
     ·exact h
     ·rw[show i=q0 by omega]at hb;exact absurd hk hb
    rw[zY6]at hb;by_cases h1:(vI c i).lamp=0
    ·generalize vI c i=t at *;clear hb hk;refine WW ?_;exact⟨zB,rfl⟩
    ·have hq:eO j.cf p i=false:=by
      cases hq:eO j.cf p i with
      |false=>rfl
      |true=>exact absurd ⟨by simpa using h1,hq⟩ hb
     rw[hq]at ck;generalize vI c i=t at *;clear hb hk;refine zW ck ?_;exact⟨zB,rfl⟩
  ·rintro st ⟨hiq,rfl⟩;exfalso;omega
 have hkf:WX j c p=false:=by simpa using hk
 have hg2:c.gr=(xI j p).group:=by
  rcases hg with hg|hg
  ·exact absurd hg hk
  ·exact hg
 rw[zYo hk];have eb:BB j c p=b1F c p:=by unfold BB;rw[zYp hg2]
 rw[eb];unfold WX at hkf;rw[yBq]at hkf;have h0:∀q,q<c.li.length->((vI c q).lamp != 0&&eO j.cf p q)=false:=λq hq=>by simpa using hkf q (zZi.2 hq)
 unfold b1F cP;dsimp only;rw[yAw,yAw,yAk,yAk];clear hkf hk eb hg;generalize bE j (xI j p).ring (xI j p).group (p+1)=fo at *;obtain⟨rn,hrn⟩:∃n:Nat,(xI j p).ring=n:=⟨(xI j p).ring.toNat,zB⟩;have hyl:=zN vM c.li p zB;have hyr:=zN iA c.nx rn zB;generalize hx1:vI c p=l0 at*
 change (c.li.map vM)[p]? =some (vM (vI c p))at hyl
 rw[hx1]at hyl;generalize c.nx.getD rn default=n0 at *;refine eM call254 λF hF=>?_
 refine WW ?_;refine zP (c.li.length) [3,3000,1001,2001] [3,3000,1001,2001] [1,2,3,12,13] [14,1,2,3,12,13] rfl (λi T U=>⟨(14,iA i)::T,U⟩) ?_;(conv=>whnf);refine⟨by rfl,?_,?_⟩
 ·intro i hi;have hy:=zN vM c.li i hi
  change (c.li.map vM)[i]? =some (vM (vI c i))at hy
  have ck:=gD j.cf hcf p i;have hb:=h0 i hi;clear h0 hyl hyr cf;by_cases h1:(vI c i).lamp=0
  ·generalize vI c i=t at *;clear hb;refine WW ?_;rfl
  ·have hq:eO j.cf p i=false:=by
    cases hq:eO j.cf p i with
    |false=>rfl
    |true=>
     rw[hq,yCx]at hb;exact absurd (by simpa using hb) h1
   rw[hq]at ck;generalize vI c i=t at *;clear hb;refine zW ck ?_;rfl
 ·clear h0;generalize xI j p=t at *;rw[hrn,yAc];have et:vE t= .agg [iA rn,iA t.group,iA t.ming,iA t.maxg,iA t.yel,iA t.red,iA t.walk,iA t.clear]:=by rw[<-hrn];rfl
  rw[et]at hyp;rw[hrn]at cf;refine zW cf ?_;exact jJ [3000,1001,2001] rfl rfl rfl rfl
theorem QS (j:Jn) (hn:j.ph.length<=1000) (hcf:j.cf.length<=40) (c:Ct) (hc:c.li.length=j.ph.length) (hm:c.nx.length=2) (p:Nat) (hp:p<j.ph.length) (hr:0<=(xI j p).ring/\(xI j p).ring<=1) (hkf:WX j c p=false) (hg2:c.gr≠(xI j p).group):
  zO 254 [wC j,.ptr 3000 0 0,iA (p:Int)] (cP c 1002) (.tup []) (HU (gE j c p) c.nx):=by
 have hlp:=zA vE j.ph;have hll:=zA vM c.li;have hln:=zA iA c.nx;have hyp:=zN vE j.ph p hp
 change (j.ph.map vE)[p]? =some (vE (xI j p))at hyp
 have cf:=WP j hn (xI j p).ring (xI j p).group (p+1);unfold gE;rw[zYo (by rw[hkf];decide)];have eb:BB j c p=etF j (b1F c p) (xI j p).group:=by unfold BB;rw[zYo hg2]
 rw[eb];unfold WX at hkf;rw[yBq]at hkf;have h0:∀q,q<c.li.length->((vI c q).lamp != 0&&eO j.cf p q)=false:=λq hq=>by simpa using hkf q (zZi.2 hq)
 have ce:=zDg j hn (xI j p).group c.gr c.wt ((c.li.map vM).set p (vM ⟨1,0⟩)) (c.nx.map iA) (c.li.map vM).length (c.nx.map iA).length;unfold etF b1F cP HU;dsimp only;rw[yAw,yAw,yAk,yAk];rw[show([bE j 0 (xI j p).group 0,bE j 1 (xI j p).group 0].map iA)=[iA (bE j 0 (xI j p).group 0),iA (bE j 1 (xI j p).group 0)]from rfl];have hfx:(([iA (bE j 0 (xI j p).group 0),iA (bE j 1 (xI j p).group 0)]:List AV)).length=2:=rfl;rw[hfx]
 have hyf:∃v,([iA (bE j 0 (xI j p).group 0),iA (bE j 1 (xI j p).group 0)]:List AV)[(xI j p).ring.toNat]? =some (iA v):=by
  have:(xI j p).ring=0∨(xI j p).ring=1:=by omega
  rcases this with h|h<;>rw[h]
  ·exact⟨_,rfl⟩
  ·exact⟨_,rfl⟩
 obtain⟨v0,hyf⟩:=hyf;generalize ([iA (bE j 0 (xI j p).group 0),iA (bE j 1 (xI j p).group 0)]:List AV)=fx at *;clear hkf eb;generalize bE j (xI j p).ring (xI j p).group (p+1)=fo at *;obtain⟨rn,hrn⟩:∃n:Nat,(xI j p).ring=n:=⟨(xI j p).ring.toNat,zB⟩;have hyl:=zN vM c.li p zB;rw[hrn,yAc]at hyf;generalize hx1:vI c p=l0 at*
 change (c.li.map vM)[p]? =some (vM (vI c p))at hyl
 rw[hx1]at hyl;refine eM call254 λF hF=>?_
 refine WW ?_;refine zP (c.li.length) [3,3000,1001,1002] [3,3000,1001,1002] [1,2,3,12,13] [14,1,2,3,12,13] rfl (λi T U=>⟨(14,iA i)::T,U⟩) ?_;(conv=>whnf);refine⟨by rfl,?_,?_⟩
 ·intro i hi;have hy:=zN vM c.li i hi
  change (c.li.map vM)[i]? =some (vM (vI c i))at hy
  have ck:=gD j.cf hcf p i;have hb:=h0 i hi;clear h0 hyl cf ce;by_cases h1:(vI c i).lamp=0
  ·generalize vI c i=t at *;clear hb;refine WW ?_;rfl
  ·have hq:eO j.cf p i=false:=by
    cases hq:eO j.cf p i with
    |false=>rfl
    |true=>
     rw[hq,yCx]at hb;exact absurd (by simpa using hb) h1
   rw[hq]at ck;generalize vI c i=t at *;clear hb;refine zW ck ?_;rfl
 ·clear h0;generalize xI j p=t at *;rw[hrn,yAc];have et:vE t= .agg [iA rn,iA t.group,iA t.ming,iA t.maxg,iA t.yel,iA t.red,iA t.walk,iA t.clear]:=by rw[<-hrn];rfl
  rw[et]at hyp;rw[hrn]at cf;refine xA (vD ce cf) ?_;exact jJ [3000,1001,1002,2001] rfl rfl rfl rfl
def ctT (c:Ct):AV:= .agg [.sl false ((c.li.map vM).take (c.li.map vM).length),iA c.gr,.sl false ((c.nx.map iA).take (c.nx.map iA).length),iA c.wt]
theorem ZR (c:Ct):ctT c=ctA c:=by unfold ctT;rw[zYv,zYv];rfl
theorem WN (j:Jn) (hn:j.ph.length<=1000) (c:Ct) (hc:c.li.length=j.ph.length) (r:Int):zO 252 [wC j,ctT c,iA r] [] (bA (dkF j c r)) []:=by rw[ZR];exact zVa j hn c hc r
theorem zBf (j:Jn) (hn:j.ph.length<=1000) (hcf:j.cf.length<=40) (c:Ct) (hm:c.nx.length=2) (r t:Int) (hr:0<=r/\r<2):zO 253 [wC j,ctT c,iA r,iA t] [] (iA (cmF j (c.nx.getD r.toNat default) r t)) []:=by rw[ZR];exact zVb j hn hcf c hm r t hr
theorem HV {j:Jn} (J:JV j) {c:Ct} {r:Int} {t:Nat} (ht:t<j.ph.length) (h:XF j c r t≠ -1):∃p:Nat,XF j c r t=p/\p<j.ph.length/\(xI j p).group=(xI j t).group:=by
 unfold XF at h⊢;split
 ·exact⟨t,rfl,ht,rfl⟩
 ·rename_i hr;rw[zYo hr]at h
  rcases BC j (c.nx.getD r.toNat default) r t with h1|⟨p,h1,h2,_,h4⟩
  ·exact absurd h1 h
  ·refine⟨p,h1,h2,?_⟩;by_cases hpt:p=t
   ·rw[hpt]
   ·exact yBx λhg=>by
     have:=J.ap p t h2 ht hpt (.inr hg);rw[h4]at this;cases this
theorem dN (j:Jn) (c:Ct) (p:Nat):(WX j c p=true/\gE j c p=c)∨(WX j c p=false/\(gE j c p).gr=(xI j p).group):=by
 unfold gE;split
 ·rename_i h;exact .inl ⟨h,rfl⟩
 ·rename_i h;refine .inr ⟨by simpa using h,?_⟩;dsimp only;unfold BB;split
  ·rename_i h2;exact h2
  ·rfl
def BR (e:Bool) (c:Ct) (o:List Int):List (Nat×xP):=if e=true then HU c o else cP c 1002
theorem zU4 {j:Jn} (J:JV j) {c:Ct} {r:Int} {t:Nat} (ht:t<j.ph.length):(cM j t c r).gr=c.gr∨(cM j t c r).gr=(xI j t).group:=by
 unfold cM;split
 ·split
  ·exact .inl rfl
  ·rename_i h;obtain⟨p,hpe,hp,hpg⟩:=HV J (c:=c) (r:=r) ht h;rw[hpe,yAc]
   rcases dN j c p with h|h
   ·rw[h.2];exact .inl rfl
   ·rw[h.2,hpg];exact .inr rfl
 ·exact .inl rfl
theorem zK6 (e:Bool) (c:Ct) (o:List Int):uC (BR e c o)=true:=by cases e<;>rfl
def zFm (j:Jn) (t:Nat) (e:Bool) (i:Int) (c:Ct) (o:List Int):St:=⟨[(8,iA i),(1,.ptr 3000 0 0),(2,iA t),(3,.ptr 3 0 0)],BR e c o++[(3,.box [zD vE j.ph,zD iA j.cf,iA j.st])]⟩
theorem zP7 (j:Jn) (J:JV j) (c:Ct) (C:CV j c) (h0:c.wt=0) (t:Nat) (ht:t<j.ph.length):zO 228 [wC j,.ptr 3000 0 0,iA (t:Int)] (cP c 1002) (.tup []) (BR (decide ((cM j t (cM j t c 0) 1).gr≠c.gr)) (cM j t (cM j t c 0) 1) (if(cM j t c 0).gr=c.gr then(cM j t c 0).nx else c.nx)):=by
 have hn:=J.n;have hn8:j.ph.length<=1000:=by omega
 have hjc:=J.c;have hlp:=zA vE j.ph;have hyt:=zN vE j.ph t ht
 change (j.ph.map vE)[t]? =some (vE (xI j t))at hyt
 have hc_c:=C.n;have hm_c:=C.m;obtain⟨C1,h01⟩:=zL0 J C h0 ht 0;have hc_c1:=C1.n;have hm_c1:=C1.m;have hgr1:=zU4 J (c:=c) (r:=0) ht;have heq_c:c.gr=c.gr:=rfl;refine XT tok func228 rfl (λargs w=>call228 args w) rfl rfl (zK6 _ _ _) (λF hF=>?_);refine WW ?_;refine YI [3000,1001,1002,2001,3] [8,1,2,3] (zFm j t false 0 c c.nx) (zFm j t (decide ((cM j t c 0).gr≠c.gr)) 1 (cM j t c 0) c.nx) (zFm j t (decide ((cM j t (cM j t c 0) 1).gr≠c.gr)) 2 (cM j t (cM j t c 0) 1) (if(cM j t c 0).gr=c.gr then(cM j t c 0).nx else c.nx)) rfl rfl ?_ ?_ ?_
 ·unfold zFm;clear C1 hgr1 hc_c1 hm_c1 h01;rw[show BR false c c.nx=cP c 1002 from rfl];unfold cP;have cd:=WN j hn8 c hc_c 0
  cases hd:dkF j c 0 with
  |false=>
   rw[hd]at cd;rw[show cM j t c 0=c by unfold cM;rw[zYo (by rw[hd];decide)]];rw[show decide (c.gr≠c.gr)=false from zYw (λh=>h heq_c)];clear hd;refine zW cd ?_;rfl
  |true=>
  rw[hd]at cd
  have hsv:cM j t c 0=if XF j c 0 t= -1 then c else gE j c (XF j c 0 t).toNat:=by unfold cM;rw[zYp hd]
  by_cases hrt:0=(xI j t).ring
  ·
   have hP:XF j c 0 t=t:=by unfold XF;rw[zYp hrt]
   rw[hP]at hsv;rw[zYo zB,yAc]at hsv;by_cases hk:WX j c t=true∨c.gr=(xI j t).group
   ·have cb:=YN j hn8 zB c hc_c hm_c t ht (J.rg t ht) hk
    have hg2:(gE j c t).gr=c.gr:=by
     rcases dN j c t with h|h
     ·exact(zZl Ct.gr h.2).trans heq_c
     ·rcases hk with hk|hk
      ·rw[hk]at h;cases h.1
      ·exact h.2.trans (hk.symm.trans heq_c)
    rw[hsv,show decide ((gE j c t).gr≠c.gr)=false from zYw (λh=>h hg2)];generalize gE j c t=b at *;clear hd hsv hg2 hk;unfold cP at cb;refine xA (vD cd cb) ?_;rfl
   ·have hk1:WX j c t=false:=by
     cases h:WX j c t with
     |false=>rfl
     |true=>exact absurd (.inl h) hk
    have hk2:c.gr≠(xI j t).group:=λh=>hk (.inr h)
    have cb:=QS j hn8 zB c hc_c hm_c t ht (J.rg t ht) hk1 hk2
    have hg2:(gE j c t).gr≠c.gr:=by
     rcases dN j c t with h|h
     ·rw[hk1]at h;cases h.1
     ·rw[h.2,<-heq_c];exact λh=>hk2 h.symm
    rw[hsv,show decide ((gE j c t).gr≠c.gr)=true from zYu hg2];generalize gE j c t=b at *;clear hd hsv hg2 hk hk1 hk2;unfold cP HU at cb;refine xA (vD cd cb) ?_;rfl
  ·
   have cm:=zBf j hn8 zB c hm_c 0 t zB;have hP:XF j c 0 t=cmF j (c.nx.getD (0:Int).toNat default) 0 t:=by unfold XF;rw[zYo hrt]
   rw[<-hP]at cm;by_cases hm1:XF j c 0 t= -1
   ·rw[zYp hm1]at hsv;rw[hsv];rw[show decide (c.gr≠c.gr)=false from zYw (λh=>h heq_c)];generalize XF j c 0 t=pp at *;clear hP hd hsv;refine xA (vD cd cm) ?_;rfl
   obtain⟨p,hpe,hp,hpg⟩:=HV J (c:=c) (r:=0) ht hm1;rw[zYo hm1,hpe,yAc]at hsv;rw[hpe]at cm;clear hP hm1 hpe;by_cases hk:WX j c p=true∨c.gr=(xI j p).group
   ·have cb:=YN j hn8 zB c hc_c hm_c p hp (J.rg p hp) hk
    have hg2:(gE j c p).gr=c.gr:=by
     rcases dN j c p with h|h
     ·exact(zZl Ct.gr h.2).trans heq_c
     ·rcases hk with hk|hk
      ·rw[hk]at h;cases h.1
      ·exact h.2.trans (hk.symm.trans heq_c)
    rw[hsv,show decide ((gE j c p).gr≠c.gr)=false from zYw (λh=>h hg2)];generalize gE j c p=b at *;clear hd hsv hg2 hk;unfold cP at cb;refine xA (gK cd cm cb) ?_;rfl
   ·have hk1:WX j c p=false:=by
     cases h:WX j c p with
     |false=>rfl
     |true=>exact absurd (.inl h) hk
    have hk2:c.gr≠(xI j p).group:=λh=>hk (.inr h)
    have cb:=QS j hn8 zB c hc_c hm_c p hp (J.rg p hp) hk1 hk2
    have hg2:(gE j c p).gr≠c.gr:=by
     rcases dN j c p with h|h
     ·rw[hk1]at h;cases h.1
     ·rw[h.2,<-heq_c];exact λh=>hk2 h.symm
    rw[hsv,show decide ((gE j c p).gr≠c.gr)=true from zYu hg2];generalize gE j c p=b at *;clear hd hsv hg2 hk hk1 hk2;unfold cP HU at cb;refine xA (gK cd cm cb) ?_;rfl
 ·clear hc_c hm_c heq_c;have he1:=hgr1;generalize cM j t c 0=c1 at *;unfold zFm;by_cases heq_c1:c1.gr=c.gr
  ·rw [zYp heq_c1,zYw (λh=>h heq_c1)];rw[show BR false c1 c.nx=cP c1 1002 from rfl];unfold cP;have cd:=WN j hn8 c1 hc_c1 1
   cases hd:dkF j c1 1 with
   |false=>
    rw[hd]at cd;rw[show cM j t c1 1=c1 by unfold cM;rw[zYo (by rw[hd];decide)]];rw[show decide (c1.gr≠c.gr)=false from zYw (λh=>h heq_c1)];clear hd;refine zW cd ?_;rfl
   |true=>
   rw[hd]at cd
   have hsv:cM j t c1 1=if XF j c1 1 t= -1 then c1 else gE j c1 (XF j c1 1 t).toNat:=by unfold cM;rw[zYp hd]
   by_cases hrt:1=(xI j t).ring
   ·
    have hP:XF j c1 1 t=t:=by unfold XF;rw[zYp hrt]
    rw[hP]at hsv;rw[zYo zB,yAc]at hsv;by_cases hk:WX j c1 t=true∨c1.gr=(xI j t).group
    ·have cb:=YN j hn8 zB c1 hc_c1 hm_c1 t ht (J.rg t ht) hk
     have hg2:(gE j c1 t).gr=c.gr:=by
      rcases dN j c1 t with h|h
      ·exact(zZl Ct.gr h.2).trans heq_c1
      ·rcases hk with hk|hk
       ·rw[hk]at h;cases h.1
       ·exact h.2.trans (hk.symm.trans heq_c1)
     rw[hsv,show decide ((gE j c1 t).gr≠c.gr)=false from zYw (λh=>h hg2)];generalize gE j c1 t=b at *;clear hd hsv hg2 hk;unfold cP at cb;refine xA (vD cd cb) ?_;rfl
    ·have hk1:WX j c1 t=false:=by
      cases h:WX j c1 t with
      |false=>rfl
      |true=>exact absurd (.inl h) hk
     have hk2:c1.gr≠(xI j t).group:=λh=>hk (.inr h)
     have cb:=QS j hn8 zB c1 hc_c1 hm_c1 t ht (J.rg t ht) hk1 hk2
     have hg2:(gE j c1 t).gr≠c.gr:=by
      rcases dN j c1 t with h|h
      ·rw[hk1]at h;cases h.1
      ·rw[h.2,<-heq_c1];exact λh=>hk2 h.symm
     rw[hsv,show decide ((gE j c1 t).gr≠c.gr)=true from zYu hg2];generalize gE j c1 t=b at *;clear hd hsv hg2 hk hk1 hk2;unfold cP HU at cb;refine xA (vD cd cb) ?_;rfl
   ·
    have cm:=zBf j hn8 zB c1 hm_c1 1 t zB;have hP:XF j c1 1 t=cmF j (c1.nx.getD (1:Int).toNat default) 1 t:=by unfold XF;rw[zYo hrt]
    rw[<-hP]at cm;by_cases hm1:XF j c1 1 t= -1
    ·rw[zYp hm1]at hsv;rw[hsv];rw[show decide (c1.gr≠c.gr)=false from zYw (λh=>h heq_c1)];generalize XF j c1 1 t=pp at *;clear hP hd hsv;refine xA (vD cd cm) ?_;rfl
    obtain⟨p,hpe,hp,hpg⟩:=HV J (c:=c1) (r:=1) ht hm1;rw[zYo hm1,hpe,yAc]at hsv;rw[hpe]at cm;clear hP hm1 hpe;by_cases hk:WX j c1 p=true∨c1.gr=(xI j p).group
    ·have cb:=YN j hn8 zB c1 hc_c1 hm_c1 p hp (J.rg p hp) hk
     have hg2:(gE j c1 p).gr=c.gr:=by
      rcases dN j c1 p with h|h
      ·exact(zZl Ct.gr h.2).trans heq_c1
      ·rcases hk with hk|hk
       ·rw[hk]at h;cases h.1
       ·exact h.2.trans (hk.symm.trans heq_c1)
     rw[hsv,show decide ((gE j c1 p).gr≠c.gr)=false from zYw (λh=>h hg2)];generalize gE j c1 p=b at *;clear hd hsv hg2 hk;unfold cP at cb;refine xA (gK cd cm cb) ?_;rfl
    ·have hk1:WX j c1 p=false:=by
      cases h:WX j c1 p with
      |false=>rfl
      |true=>exact absurd (.inl h) hk
     have hk2:c1.gr≠(xI j p).group:=λh=>hk (.inr h)
     have cb:=QS j hn8 zB c1 hc_c1 hm_c1 p hp (J.rg p hp) hk1 hk2
     have hg2:(gE j c1 p).gr≠c.gr:=by
      rcases dN j c1 p with h|h
      ·rw[hk1]at h;cases h.1
      ·rw[h.2,<-heq_c1];exact λh=>hk2 h.symm
     rw[hsv,show decide ((gE j c1 p).gr≠c.gr)=true from zYu hg2];generalize gE j c1 p=b at *;clear hd hsv hg2 hk hk1 hk2;unfold cP HU at cb;refine xA (gK cd cm cb) ?_;rfl
  ·have hne_c1:c1.gr≠c.gr:=heq_c1
   have hgt_c1:c1.gr=(xI j t).group:=by
    rcases he1 with h|h
    ·exact absurd h hne_c1
    ·exact h
   rw[zYo heq_c1,zYu hne_c1];rw[show BR true c1 c.nx=HU c1 c.nx from rfl];unfold HU;have cd:=WN j hn8 c1 hc_c1 1
   cases hd:dkF j c1 1 with
   |false=>
    rw[hd]at cd;rw[show cM j t c1 1=c1 by unfold cM;rw[zYo (by rw[hd];decide)]];rw[show decide (c1.gr≠c.gr)=true from zYu hne_c1];clear hd;refine zW cd ?_;rfl
   |true=>
   rw[hd]at cd
   have hsv:cM j t c1 1=if XF j c1 1 t= -1 then c1 else gE j c1 (XF j c1 1 t).toNat:=by unfold cM;rw[zYp hd]
   by_cases hrt:1=(xI j t).ring
   ·
    have hP:XF j c1 1 t=t:=by unfold XF;rw[zYp hrt]
    rw[hP]at hsv;rw[zYo zB,yAc]at hsv;have cb:=QR j hn8 zB c1 hc_c1 hm_c1 t ht (J.rg t ht) (.inr (hgt_c1.trans (rfl:(xI j t).group=(xI j t).group).symm))
    have hg2:(gE j c1 t).gr≠c.gr:=by
     rcases dN j c1 t with h|h
     ·rw[h.2];exact hne_c1
     ·rw[h.2,(rfl:(xI j t).group=(xI j t).group),<-hgt_c1];exact hne_c1
    rw[hsv,show decide ((gE j c1 t).gr≠c.gr)=true from zYu hg2];generalize gE j c1 t=b at *;clear hd hsv hg2;unfold cP at cb;refine xA (vD cd cb) ?_;rfl
   ·
    have cm:=zBf j hn8 zB c1 hm_c1 1 t zB;have hP:XF j c1 1 t=cmF j (c1.nx.getD (1:Int).toNat default) 1 t:=by unfold XF;rw[zYo hrt]
    rw[<-hP]at cm;by_cases hm1:XF j c1 1 t= -1
    ·rw[zYp hm1]at hsv;rw[hsv];rw[show decide (c1.gr≠c.gr)=true from zYu hne_c1];generalize XF j c1 1 t=pp at *;clear hP hd hsv;refine xA (vD cd cm) ?_;rfl
    obtain⟨p,hpe,hp,hpg⟩:=HV J (c:=c1) (r:=1) ht hm1;rw[zYo hm1,hpe,yAc]at hsv;rw[hpe]at cm;clear hP hm1 hpe;have cb:=QR j hn8 zB c1 hc_c1 hm_c1 p hp (J.rg p hp) (.inr (hgt_c1.trans (hpg:(xI j p).group=(xI j t).group).symm))
    have hg2:(gE j c1 p).gr≠c.gr:=by
     rcases dN j c1 p with h|h
     ·rw[h.2];exact hne_c1
     ·rw[h.2,(hpg:(xI j p).group=(xI j t).group),<-hgt_c1];exact hne_c1
    rw[hsv,show decide ((gE j c1 p).gr≠c.gr)=true from zYu hg2];generalize gE j c1 p=b at *;clear hd hsv hg2;unfold cP at cb;refine xA (gK cd cm cb) ?_;rfl
 ·generalize (if(cM j t c 0).gr=c.gr then(cM j t c 0).nx else c.nx)=o at *;generalize cM j t (cM j t c 0) 1=c2 at *;unfold zFm;by_cases he:c2.gr=c.gr
  ·rw[zYw (λh=>h he)];refine WW ?_;exact jJ [3000,1001,1002] rfl rfl rfl rfl
  ·rw[zYu he];refine WW ?_;exact jJ [3000,1001,1002,2001] rfl rfl rfl rfl
theorem zK7 (c:Ct) (hn:c.li.length<=1000):zO 251 [ctT c] [] (bA (arF c)) []:=by rw[ZR];exact CW c hn
def ovN (c:Ct) (i:Nat):Bool:=arF c&&(c.nx.take i).all λp=>p== -1
theorem zK8 (c:Ct) (i:Nat) (hi:i<c.nx.length):ovN c (i+1)=(ovN c i&&(c.nx.getD i default== -1)):=by
 unfold ovN;rw[<-yDm hi,List.all_append];simp[List.getD,hi,Bool.and_assoc]
def RU (j:Jn) (e:Bool) (i:Int) (c:Ct) (o:List Int):St:=⟨[(36,iA i),(1,.ptr 3000 0 0),(2,.ptr 2 0 0)],BR e c o++[(2,.box [zD vE j.ph,zD iA j.cf,iA j.st])]⟩
theorem zP8 (j:Jn) (J:JV j) (c:Ct) (C:CV j c) (h0:c.wt=0):zO 229 [wC j,.ptr 3000 0 0] (cP c 1002) (.tup []) (BR (cyO c) (cyF j c) c.nx):=by
 have hn:=J.n;have hn8:j.ph.length<=1000:=by omega
 have hjc:=J.c;have hlp:=zA vE j.ph;have hll:=zA vM c.li;have hln:=zA iA c.nx;have hcn:=C.n;have hcm:=C.m;have ca:=zK7 c zB;have cg:=CU j hn8 J.gp;have hgp:=GC J
 have hgl:UY j<=4:=by
  have:∀n,n<=j.ph.length->grN j.ph n<=4:=λn=>by
   induction n with
   |zero=>intro _;show(0:Int)<=4;omega
   |succ n ih=>
    intro h;have h1:=ih zB;have h2:=J.gp n zB;unfold xI at h2;unfold grN;omega
  exact this _ (zYs _)
 have hcg:=C.g;have htm:(c.gr+1).tmod (UY j)=(c.gr+1) % UY j:=yAi zB;have hO:ovN c c.nx.length=cyO c:=by unfold ovN cyO;rw[zYv]
 refine XT tok func229 rfl (λargs w=>call229 args w) rfl rfl (zK6 _ _ _) (λF hF=>?_);unfold cP;have ho0:ovN c 0=arF c:=by unfold ovN;simp
 rw[<-ho0]at ca;refine zW ca ?_;refine zP (c.nx.length) [2,3000,1001,1002] [2,3000,1001,1002] [1,2,15,16] [4,17,1,2,15,16] rfl (λi T U=>⟨(4,bA (ovN c i))::(17,iA i)::T,U⟩) ?_;(conv=>whnf);refine⟨by rfl,?_,?_⟩
 ·intro i hi;have hy:=zN iA c.nx i hi;have es:=zK8 c i hi;rw[es];generalize ovN c i=o at *;generalize c.nx.getD i default=x at *;by_cases hx:x= -1
  ·rw[show(x== -1)=true by rw[zZ7];exact hx,yCx];clear ca cg;refine WW ?_;rfl
  ·rw[show(x== -1)=false by rw[zZw];exact hx,yCh];clear ca cg;refine WW ?_;rfl
 ·rw [hO];clear hO ho0 ca
  cases hco:cyO c with
  | true=>
   have hcy:cyF j c=cN j (cN j (etF j c ((c.gr+1) % UY j)) 0) 1:=by unfold cyF;rw[zYp hco]
   rw[hcy];have hgm:0<=(c.gr+1) % UY j/\(c.gr+1) % UY j<UY j:=⟨yB4 _ zB,yBu _ zB⟩;have C_c0:=zLy C hgm;have hw0:(etF j c ((c.gr+1) % UY j)).wt=0:=h0;have ce:=zDg j hn8 ((c.gr+1) % UY j) c.gr c.wt (c.li.map vM) (c.nx.map iA) (c.li.map vM).length (c.nx.map iA).length;rw[show([(3000,.box [.ref 1001 0 (c.li.map vM).length,iA ((c.gr+1) % UY j),.ref 2001 0 2,iA c.wt]),(1001,.arr 2 (c.li.map vM) false),(1002,.arr 1 (c.nx.map iA) false),(2001,.arr 1 [iA (bE j 0 ((c.gr+1) % UY j) 0),iA (bE j 1 ((c.gr+1) % UY j) 0)] false)]:List (Nat×xP))=HU (etF j c ((c.gr+1) % UY j)) c.nx from rfl]at ce;rw[<-htm]at ce;rw[htm]at ce;generalize hc0:etF j c ((c.gr+1) % UY j)=c0 at *;rw[<-htm]at ce;have hne:¬UY j=0:=by omega
   generalize UY j=gm at *;have hc_c0:=C_c0.n;have hm_c0:=C_c0.m;obtain⟨C_c1,h01⟩:=GD J C_c0 hw0 (r:=0) zB;have hc_c1:=C_c1.n;have hm_c1:=C_c1.m
   change CV j (cN j c0 0)at C_c1
   change (cN j c0 0).li.length=j.ph.length at hc_c1
   change (cN j c0 0).nx.length=2 at hm_c1
   clear hcy hc0 C;unfold HU at ce;refine xA (vD cg ce) ?_;refine YI [3000,1001,1002,2001,2] [36,1,2] (RU j true 0 c0 c.nx) (RU j true 1 (cN j c0 0) c.nx) (RU j true 2 (cN j (cN j c0 0) 1) c.nx) rfl rfl ?_ ?_ ?_
   ·unfold RU;rw[show BR true c0 c.nx=HU c0 c.nx from rfl];unfold HU;have cd:=WN j hn8 c0 hc_c0 0;have hyn:=zN iA c0.nx 0 zB;have hv:=C_c0.v 0 zB;have hnl:(c0.nx.map iA).length=2:=by rw[zYq];exact hm_c0
    cases hd:dkF j c0 0 with
    |false=>
     rw[hd]at cd;rw[show cN j c0 0=c0 by unfold cN;rw[zYo (by rw[hd];simp)]];clear hd;refine zW cd ?_;rfl
    |true=>
    rw[hd]at cd
    have hsv:cN j c0 0=if c0.nx.getD 0 default= -1 then c0 else gE j c0 (c0.nx.getD 0 default).toNat:=by
     unfold cN;rw[hd]
     show(if true=true/\c0.nx.getD 0 default≠ -1 then gE j c0 (c0.nx.getD 0 default).toNat else c0)=_
     by_cases h:c0.nx.getD 0 default= -1
     ·rw[zYp h,zYo (λk=>k.2 h)]
     ·rw[zYo h,zYp ⟨rfl,h⟩]
    clear hd;by_cases hm1:c0.nx.getD 0 default= -1
    ·rw[zYp hm1]at hsv;rw[hsv];clear hsv hv;generalize c0.nx.getD 0 default=x at *;refine zW cd ?_;rfl
    ·rw[zYo hm1]at hsv
     have hin:InO j (0:Nat) c0.gr (c0.nx.getD 0 default):=by
      rcases hv with h|h
      ·exact absurd h hm1
      ·exact h
     obtain⟨i1,i2,i3,i4⟩:=hin;obtain⟨p,hpe⟩:∃p:Nat,c0.nx.getD 0 default=p:=⟨(c0.nx.getD 0 default).toNat,zB⟩;rw[hpe]at hsv hyn hm1 i2 i4;rw[yAc]at hsv i4;have hp:p<j.ph.length:=by omega
     have cb:=QR j hn8 zB c0 hc_c0 hm_c0 p hp (J.rg p hp) (.inr i4.symm);rw[hsv];clear hsv hv i1 i2 i3 i4 hpe;generalize gE j c0 p=b at *;unfold cP at cb;refine xA (vD cd cb) ?_;rfl
   ·generalize cN j c0 0=c1 at *;unfold RU;rw[show BR true c1 c.nx=HU c1 c.nx from rfl];unfold HU;have cd:=WN j hn8 c1 hc_c1 1;have hyn:=zN iA c1.nx 1 zB;have hv:=C_c1.v 1 zB;have hnl:(c1.nx.map iA).length=2:=by rw[zYq];exact hm_c1
    cases hd:dkF j c1 1 with
    |false=>
     rw[hd]at cd;rw[show cN j c1 1=c1 by unfold cN;rw[zYo (by rw[hd];simp)]];clear hd;refine zW cd ?_;rfl
    |true=>
    rw[hd]at cd
    have hsv:cN j c1 1=if c1.nx.getD 1 default= -1 then c1 else gE j c1 (c1.nx.getD 1 default).toNat:=by
     unfold cN;rw[hd]
     show(if true=true/\c1.nx.getD 1 default≠ -1 then gE j c1 (c1.nx.getD 1 default).toNat else c1)=_
     by_cases h:c1.nx.getD 1 default= -1
     ·rw[zYp h,zYo (λk=>k.2 h)]
     ·rw[zYo h,zYp ⟨rfl,h⟩]
    clear hd;by_cases hm1:c1.nx.getD 1 default= -1
    ·rw[zYp hm1]at hsv;rw[hsv];clear hsv hv;generalize c1.nx.getD 1 default=x at *;refine zW cd ?_;rfl
    ·rw[zYo hm1]at hsv
     have hin:InO j (1:Nat) c1.gr (c1.nx.getD 1 default):=by
      rcases hv with h|h
      ·exact absurd h hm1
      ·exact h
     obtain⟨i1,i2,i3,i4⟩:=hin;obtain⟨p,hpe⟩:∃p:Nat,c1.nx.getD 1 default=p:=⟨(c1.nx.getD 1 default).toNat,zB⟩;rw[hpe]at hsv hyn hm1 i2 i4;rw[yAc]at hsv i4;have hp:p<j.ph.length:=by omega
     have cb:=QR j hn8 zB c1 hc_c1 hm_c1 p hp (J.rg p hp) (.inr i4.symm);rw[hsv];clear hsv hv i1 i2 i3 i4 hpe;generalize gE j c1 p=b at *;unfold cP at cb;refine xA (vD cd cb) ?_;rfl
   ·generalize cN j (cN j c0 0) 1=c2 at *;unfold RU;refine WW ?_;exact jJ [3000,1001,1002,2001] rfl rfl rfl rfl
  | false=>
   have hcy:cyF j c=cN j (cN j c 0) 1:=by unfold cyF;rw[zYo (by rw[hco];decide)]
   rw[hcy];clear cg htm hcy hgp hgl hcg;have C_c:=C;have hc_c:=hcn;have hm_c:=hcm;obtain⟨C_c1,h01⟩:=GD J C h0 (r:=0) zB;have hc_c1:=C_c1.n;have hm_c1:=C_c1.m
   change CV j (cN j c 0)at C_c1
   change (cN j c 0).li.length=j.ph.length at hc_c1
   change (cN j c 0).nx.length=2 at hm_c1
   refine WW ?_;clear hco;refine YI [3000,1001,1002,2001,2] [36,1,2] (RU j false 0 c c.nx) (RU j false 1 (cN j c 0) c.nx) (RU j false 2 (cN j (cN j c 0) 1) c.nx) rfl rfl ?_ ?_ ?_
   ·unfold RU;rw[show BR false c c.nx=cP c 1002 from rfl];unfold cP;have cd:=WN j hn8 c hc_c 0;have hyn:=zN iA c.nx 0 zB;have hv:=C_c.v 0 zB;have hnl:(c.nx.map iA).length=2:=by rw[zYq];exact hm_c
    cases hd:dkF j c 0 with
    |false=>
     rw[hd]at cd;rw[show cN j c 0=c by unfold cN;rw[zYo (by rw[hd];simp)]];clear hd;refine zW cd ?_;rfl
    |true=>
    rw[hd]at cd
    have hsv:cN j c 0=if c.nx.getD 0 default= -1 then c else gE j c (c.nx.getD 0 default).toNat:=by
     unfold cN;rw[hd]
     show(if true=true/\c.nx.getD 0 default≠ -1 then gE j c (c.nx.getD 0 default).toNat else c)=_
     by_cases h:c.nx.getD 0 default= -1
     ·rw[zYp h,zYo (λk=>k.2 h)]
     ·rw[zYo h,zYp ⟨rfl,h⟩]
    clear hd;by_cases hm1:c.nx.getD 0 default= -1
    ·rw[zYp hm1]at hsv;rw[hsv];clear hsv hv;generalize c.nx.getD 0 default=x at *;refine zW cd ?_;rfl
    ·rw[zYo hm1]at hsv
     have hin:InO j (0:Nat) c.gr (c.nx.getD 0 default):=by
      rcases hv with h|h
      ·exact absurd h hm1
      ·exact h
     obtain⟨i1,i2,i3,i4⟩:=hin;obtain⟨p,hpe⟩:∃p:Nat,c.nx.getD 0 default=p:=⟨(c.nx.getD 0 default).toNat,zB⟩;rw[hpe]at hsv hyn hm1 i2 i4;rw[yAc]at hsv i4;have hp:p<j.ph.length:=by omega
     have cb:=YN j hn8 zB c hc_c hm_c p hp (J.rg p hp) (.inr i4.symm);rw[hsv];clear hsv hv i1 i2 i3 i4 hpe;generalize gE j c p=b at *;unfold cP at cb;refine xA (vD cd cb) ?_;rfl
   ·generalize cN j c 0=c1 at *;unfold RU;rw[show BR false c1 c.nx=cP c1 1002 from rfl];unfold cP;have cd:=WN j hn8 c1 hc_c1 1;have hyn:=zN iA c1.nx 1 zB;have hv:=C_c1.v 1 zB;have hnl:(c1.nx.map iA).length=2:=by rw[zYq];exact hm_c1
    cases hd:dkF j c1 1 with
    |false=>
     rw[hd]at cd;rw[show cN j c1 1=c1 by unfold cN;rw[zYo (by rw[hd];simp)]];clear hd;refine zW cd ?_;rfl
    |true=>
    rw[hd]at cd
    have hsv:cN j c1 1=if c1.nx.getD 1 default= -1 then c1 else gE j c1 (c1.nx.getD 1 default).toNat:=by
     unfold cN;rw[hd]
     show(if true=true/\c1.nx.getD 1 default≠ -1 then gE j c1 (c1.nx.getD 1 default).toNat else c1)=_
     by_cases h:c1.nx.getD 1 default= -1
     ·rw[zYp h,zYo (λk=>k.2 h)]
     ·rw[zYo h,zYp ⟨rfl,h⟩]
    clear hd;by_cases hm1:c1.nx.getD 1 default= -1
    ·rw[zYp hm1]at hsv;rw[hsv];clear hsv hv;generalize c1.nx.getD 1 default=x at *;refine zW cd ?_;rfl
    ·rw[zYo hm1]at hsv
     have hin:InO j (1:Nat) c1.gr (c1.nx.getD 1 default):=by
      rcases hv with h|h
      ·exact absurd h hm1
      ·exact h
     obtain⟨i1,i2,i3,i4⟩:=hin;obtain⟨p,hpe⟩:∃p:Nat,c1.nx.getD 1 default=p:=⟨(c1.nx.getD 1 default).toNat,zB⟩;rw[hpe]at hsv hyn hm1 i2 i4;rw[yAc]at hsv i4;have hp:p<j.ph.length:=by omega
     have cb:=YN j hn8 zB c1 hc_c1 hm_c1 p hp (J.rg p hp) (.inr i4.symm);rw[hsv];clear hsv hv i1 i2 i3 i4 hpe;generalize gE j c1 p=b at *;unfold cP at cb;refine xA (vD cd cb) ?_;rfl
   ·generalize cN j (cN j c 0) 1=c2 at *;unfold RU;refine WW ?_;exact jJ [3000,1001,1002] rfl rfl rfl rfl
theorem zBg (l:List Li) (hl:l.length<=1073741824):zO 155 [zD vM l] [] (.ref 1001 0 (l.map vM).length) [(1001,.arr 2 (l.map vM) false)]:=by
 have hll:=zA vM l;refine eM call155 λF hF=>?_
 refine xD 0 rfl (λcap hx=>?_) ?_
 ·have:l=[]:=by simpa using hx
  subst this
  (repeat' (first|refine AX ?_|refine xR (λhc=>?_) (λhc=>?_)|refine wE (λhc=>?_)|fail))
  refine uB 2 1001 2 rfl rfl rfl (yQ ?_);exact zJ [1001] rfl rfl rfl rfl
 ·repeat' (first|(refine zE ?_;first|refine wZ tok rfl rfl ?_|(refine wS ?_;refine yF (yM tok (.inl ⟨rfl,rfl⟩) rfl rfl rfl rfl) rfl ?_)|(refine yZ ?_;refine uF (nw:=[1001]) (yK tok 1001 (xs:=[]) rfl rfl rfl rfl rfl rfl rfl rfl rfl) rfl rfl rfl ?_)|(refine yW ?_;refine xX tok rfl rfl rfl rfl rfl rfl rfl (yY _ _ (λ_=>rfl)) rfl rfl rfl zB rfl ?_)|refine uM ?_)|(first|refine xM ?_|refine xB ?_|refine wU rfl ?_|refine zV rfl ?_|refine zQ rfl ?_|refine xF rfl (λhc=>?_) (λhc=>?_)|refine yV ?_|refine yQ ?_|refine xC ?_|refine yN ?_))
  exact zJ [1001] rfl rfl rfl rfl
theorem CR (l:List Int) (hl:l.length<=1073741824):zO 107 [zD iA l] [] (.ref 1002 0 (l.map iA).length) [(1002,.arr 1 (l.map iA) false)]:=by
 have hll:=zA iA l;refine eM call107 λF hF=>?_
 refine xD 0 rfl (λcap hx=>?_) ?_
 ·have:l=[]:=by simpa using hx
  subst this
  (repeat' (first|refine AX ?_|refine xR (λhc=>?_) (λhc=>?_)|refine wE (λhc=>?_)|fail))
  refine uB 2 1002 1 rfl rfl rfl (yQ ?_);exact zJ [1002] rfl rfl rfl rfl
 ·repeat' (first|(refine zE ?_;first|refine wZ tok rfl rfl ?_|(refine wS ?_;refine yF (yM tok (.inl ⟨rfl,rfl⟩) rfl rfl rfl rfl) rfl ?_)|(refine yZ ?_;refine uF (nw:=[1002]) (yK tok 1002 (xs:=[]) rfl rfl rfl rfl rfl rfl rfl rfl rfl) rfl rfl rfl ?_)|(refine yW ?_;refine xX tok rfl rfl rfl rfl rfl rfl rfl (yY _ _ (λ_=>rfl)) rfl rfl rfl zB rfl ?_)|refine uM ?_)|(first|refine xM ?_|refine xB ?_|refine wU rfl ?_|refine zV rfl ?_|refine zQ rfl ?_|refine xF rfl (λhc=>?_) (λhc=>?_)|refine yV ?_|refine yQ ?_|refine xC ?_|refine yN ?_))
  exact zJ [1002] rfl rfl rfl rfl
def BS (j:Jn) (c:Ct) (t:Int) (i:Nat):List Li:=(List.range j.ph.length).map λp=>if p<i then lpF (xI j p) (vI c p) (lvS j c t p)else vI c p
theorem zDh (j:Jn) (c:Ct) (t:Int) (i:Nat):(BS j c t i).length=j.ph.length:=by simp[BS]
theorem zK9 {j:Jn} {c:Ct} (hc:c.li.length=j.ph.length) (t:Int):BS j c t 0=c.li:=by
 unfold BS;apply zZ9;intro p;rw[zYt];by_cases h:p<j.ph.length
 ·rw[zZr h];simp[vI,List.getD,hc,h]
 ·rw[zZj wI,zZj zB];rfl
theorem zP9 (j:Jn) (c:Ct) (t:Int):BS j c t j.ph.length=KR j c t:=by
 unfold BS KR;apply yB7;intro p hp;rw[zZi]at hp;rw[zYp hp]
theorem zLa (j:Jn) (c:Ct) (t:Int) (i:Nat):BS j c t (i+1)=(BS j c t i).set i (lpF (xI j i) (vI c i) (lvS j c t i)):=by
 unfold BS;apply zZ9;intro p;rw[yAx,zYt,zYt];by_cases h:p<j.ph.length
 ·rw[zZr h];by_cases hs:i=p
  ·subst hs;simp[h]
  ·rw[zYo hs];by_cases hp:p<i
   ·simp[hp,show p<i+1 by omega]
   ·simp[hp,show¬p<i+1 by omega]
 ·rw[zZj wI]
  split<;>simp;omega
theorem zXf {p:Ph} {l:Li} (h:LD p l=true) (hy:p.yel<=60) (hr:p.red<=60):0<=l.tk/\l.tk<=1073741824:=by
 unfold LD at h;split at h
 ·rw[zYx]at h;omega
 split at h
 ·rw[zYx]at h;omega
 split at h
 ·rw[zYx]at h;omega
 split at h
 ·rw[zYx]at h;omega
 ·cases h
theorem zLb {P:Program} {K0:List Nat} {F:Fr K0} {m:Nat} {ops:Array Oper} {rest:List Oper} {Q:List FP->St->Prop} {dr:Bool} {fs:List FP} {ty T:Nat} {pos:String} {after:Array Edge} {st:St} (hk:zY P F m ops dr (⟨some 7,.alloc T,ty,pos,after,none⟩::rest) st fs Q):zY P F m ops dr (⟨some 7,.alloc T,ty,pos,after,none⟩::rest) st fs Q:=hk
theorem zU5 (j:Jn) (J:JV j) (c:Ct) (C:CV j c) (t:Int):zO 197 [wC j,ctA c,iA t] [] (ctA (stF j c t)) []:=by
 have hn:=J.n;have hjc:=J.c;have hcn:=C.n;have hcm:=C.m;have hcw:=C.w;have hst:=J.st;have hlp:=zA vE j.ph;have hll:(c.li.map vM).length=j.ph.length:=by rw[zYq];exact hcn
 have hln:(c.nx.map iA).length=2:=by rw[zYq];exact hcm
 have k1:=RG j J;have k2:=zQc j J.b c;rw[zU9 J C]at k2;have k3:=zBg c.li zB;have k4:=CR c.nx zB;unfold stF;by_cases hw:0<c.wt
 ·rw[zYp hw];refine eM call197 λF hF=>?_
  refine xA (vD k1 k2) ?_
  repeat' (first|(refine zE ?_;first|(refine zLb ?_;refine uF (nw:=[3000]) (YB tok 3000 rfl rfl) rfl rfl rfl ?_)|refine wZ tok rfl rfl ?_|(refine xT ?_;(first|(refine vT 155 ?_;first|refine yF (zH (k3) rfl rfl rfl rfl rfl) rfl ?_|refine uF (zH (k3) rfl rfl rfl rfl rfl) rfl rfl rfl ?_|refine bJ (zH (k3) rfl rfl rfl rfl rfl) rfl rfl rfl ?_)|(refine vT 107 ?_;first|refine yF (zH (k4) rfl rfl rfl rfl rfl) rfl ?_|refine uF (zH (k4) rfl rfl rfl rfl rfl) rfl rfl rfl ?_|refine bJ (zH (k4) rfl rfl rfl rfl rfl) rfl rfl rfl ?_)))|(refine dE ?_;refine fY tok rfl rfl rfl ?_)|refine aY OE ?_|refine uM ?_)|first|refine SQ ?_|fail)
  refine WW ?_;exact zI [] rfl rfl (ZR ⟨c.li,c.gr,c.nx,c.wt-1⟩) rfl
 rw[zYo hw];have h0:c.wt=0:=by omega
 have CL:=zRr J C h0 t;have ls0:=zK9 hcn t;have lsE:=zP9 j c t;rw[hll]at k3;have hN:∀i,((BS j c t i).map vM).length=j.ph.length:=λi=>by rw[zYq];exact zDh j c t i
 refine eM call197 λF hF=>?_
 refine xA (vD k1 k2) ?_
 repeat' (first|(refine zE ?_;first|(refine zLb ?_;refine uF (nw:=[3000]) (YB tok 3000 rfl rfl) rfl rfl rfl ?_)|refine wZ tok rfl rfl ?_|(refine xT ?_;(first|(refine vT 155 ?_;first|refine yF (zH (k3) rfl rfl rfl rfl rfl) rfl ?_|refine uF (zH (k3) rfl rfl rfl rfl rfl) rfl rfl rfl ?_|refine bJ (zH (k3) rfl rfl rfl rfl rfl) rfl rfl rfl ?_)|(refine vT 107 ?_;first|refine yF (zH (k4) rfl rfl rfl rfl rfl) rfl ?_|refine uF (zH (k4) rfl rfl rfl rfl rfl) rfl rfl rfl ?_|refine bJ (zH (k4) rfl rfl rfl rfl rfl) rfl rfl rfl ?_)))|(refine dE ?_;refine fY tok rfl rfl rfl ?_)|refine aY OE ?_|refine uM ?_)|first|refine SQ ?_|fail)
 (repeat' (first|refine WZB ?_|refine xR (λhc=>?_) (λhc=>?_)|refine wE (λhc=>?_)|(refine zE ?_;first|refine SM ?_)|fail))
 refine zQ rfl (yV ?_);refine xM ?_;refine UH [3000,1001,1002,3,4,6] [2,3,4,6,7,8] ⟨[(2,iA t),(3,.ptr 3 0 0),(4,.ptr 4 0 0),(6,.ptr 6 0 0),(7,.ptr 3000 0 0),(8,bA (LE j t))],[(3000,.box [.ref 1001 0 j.ph.length,iA c.gr,.ref 1002 0 (c.nx.map iA).length,iA c.wt]),(1001,.arr 2 (c.li.map vM) false),(1002,.arr 1 (c.nx.map iA) false),(3,.box [zD vE j.ph,zD iA j.cf,iA j.st]),(4,.box [zD vM c.li,iA c.gr,zD iA c.nx,iA c.wt]),(6,.box [.s (.slice none 0 0),iA 0,.s (.slice none 0 0),iA 0])]⟩ rfl ?_ ?_
 ·clear k1 k2 k3 k4 CL;by_cases a1:0<=t
  ·by_cases a2:t<j.ph.length
   ·rw[show LE j t=true from zYu ⟨a1,a2⟩];refine WW ?_;exact⟨rfl,rfl⟩
   ·rw[show LE j t=false from zYw (λh=>a2 h.2)];refine WW ?_;exact⟨rfl,rfl⟩
  ·rw[show LE j t=false from zYw (λh=>a1 h.1)];refine WW ?_;exact⟨rfl,rfl⟩
 clear k1 k2 k3 k4;refine WW ?_;refine zP (j.ph.length) [1001,3,4,6,3000,1002] [3,4,6,3000,1002] [2,3,4,6,7,8,51,52] [53,2,3,4,6,7,8,51,52] rfl (λi T U=>⟨(53,iA i)::T,(1001,.arr 2 ((BS j c t i).map vM) false)::U⟩) ?_;(conv=>whnf);refine⟨by(rw[ls0];rfl),?_,?_⟩
 ·intro i hi;have hy:=zN vE j.ph i hi
  change (j.ph.map vE)[i]? =some (vE (xI j i))at hy
  have hyl:=zN vM c.li i zB
  change (c.li.map vM)[i]? =some (vM (vI c i))at hyl
  have hym:∃l,((BS j c t i).map vM)[i]? =some (vM l):=⟨_,zN vM (BS j c t i) i (by rw[zDh];exact hi)⟩;obtain⟨lm,hym⟩:=hym;have hti:=J.ti i hi;have htk:=zXf (C.k i hi) zB zB;have hph:PhB (xI j i):=⟨zB,zB,zB,zB⟩;have hNi:=hN i;have ls:=λlv=>zQa (xI j i) hph (vI c i) zB lv
  have ck:=gD j.cf zB i t;have es:=zLa j c t i;have em:(BS j c t (i+1)).map vM=((BS j c t i).map vM).set i (vM (lpF (xI j i) (vI c i) (lvS j c t i))):=by rw[es,yAw]
  rw[em];have elv:lvS j c t i=_:=rfl
  conv at elv=>rhs;unfold lvS
  have lsv:=ls (lvS j c t i);clear ls es em CL hN ls0 lsE;generalize lpF (xI j i) (vI c i) (lvS j c t i)=ln at *;generalize (BS j c t i).map vM=xs at *;generalize lvS j c t i=lv at *;generalize eO j.cf i t=cq at*
  cases ha:LE j t with
  |false=>
   rw[ha]at elv;rw[zYo xN]at elv;generalize xI j i=ph at *;generalize vI c i=l at *;by_cases hm:ph.maxg<=l.tk+1
   ·rw[zYu hm]at elv;subst elv;refine zW lsv ?_;rfl
   ·rw[zYw hm]at elv;subst elv;refine zW lsv ?_;rfl
  | true=>
   rw[ha]at elv;rw[zYp rfl]at elv;generalize xI j i=ph at *;generalize vI c i=l at *;by_cases hpt:(i:Int)=t
   ·rw[zYw (λh=>h hpt)]at elv;rw[yAf]at elv;subst elv;by_cases hm:ph.maxg<=l.tk+1
    ·(refine zW lsv ?_)
     rfl
    ·(refine zW lsv ?_)
     rfl
   rw[zYu hpt,zZh]at elv;by_cases hm:ph.maxg<=l.tk+1
   ·rw[zYu hm,yA4]at elv;subst elv;refine zW lsv ?_;rfl
   ·rw[zYw hm,yBh]at elv;rw[elv]at lsv;clear elv
    cases cq with
    |true=>
     refine xA (vD ck lsv) ?_;rfl
    |false=>
     refine xA (vD ck lsv) ?_;rfl
 ·rw[lsE];have e1:((KR j c t).map vM).length=j.ph.length:=by simp[KR]
  clear lsE ls0 hN
  cases ha:LE j t with
  | true=>
   rw[zYp rfl];unfold LE at ha;rw[zYx]at ha;obtain⟨tn,rfl⟩:∃tn:Nat,t=tn:=⟨t.toNat,zB⟩;rw[yAc];have cs:=zP7 j J ⟨KR j c tn,c.gr,c.nx,c.wt⟩ CL h0 tn zB;unfold cP at cs;dsimp only at cs;rw[e1]at cs;generalize cM j tn (cM j tn ⟨KR j c tn,c.gr,c.nx,c.wt⟩ 0) 1=c2 at *;generalize (if(cM j tn ⟨KR j c tn,c.gr,c.nx,c.wt⟩ 0).gr=c.gr then(cM j tn ⟨KR j c tn,c.gr,c.nx,c.wt⟩ 0).nx else c.nx)=o at *;generalize (KR j c tn).map vM=xs at *;clear CL
   cases hE:decide (c2.gr≠c.gr)with
   |true=>
    rw[hE,show BR true c2 o=HU c2 o from rfl]at cs;unfold HU at cs;clear hE;refine zW cs ?_;exact zI [] rfl rfl (ZR c2) rfl
   |false=>
    rw[hE,show BR false c2 o=cP c2 1002 from rfl]at cs;unfold cP at cs;clear hE;refine zW cs ?_;exact zI [] rfl rfl (ZR c2) rfl
  | false=>
   rw[zYo xN];have cs:=zP8 j J ⟨KR j c t,c.gr,c.nx,c.wt⟩ CL h0;unfold cP at cs;dsimp only at cs;rw[e1]at cs;generalize cyF j ⟨KR j c t,c.gr,c.nx,c.wt⟩=c2 at *;generalize cyO ⟨KR j c t,c.gr,c.nx,c.wt⟩=e at *;generalize (KR j c t).map vM=xs at *;clear CL
   cases e with
   |true=>
    rw[show BR true c2 c.nx=HU c2 c.nx from rfl]at cs;unfold HU at cs;refine zW cs ?_;exact zI [] rfl rfl (ZR c2) rfl
   |false=>
    rw[show BR false c2 c.nx=cP c2 1002 from rfl]at cs;unfold cP at cs;refine zW cs ?_;exact zI [] rfl rfl (ZR c2) rfl
end Av
end Go.Proofs.YtmamjhmoegjapaaGreat
