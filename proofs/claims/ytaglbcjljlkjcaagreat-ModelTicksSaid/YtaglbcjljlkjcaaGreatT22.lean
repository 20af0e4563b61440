/- Part 22. -/
import Derived.Test.YtaglbcjljlkjcaaGreatT21
namespace Go.Proofs.YtaglbcjljlkjcaaGreat.Av
open Tryz
set_option linter.all false
set_option maxRecDepth 4000
set_option maxHeartbeats 1000000
open List renaming length->ln,getD->oj
open Inhabited renaming default->dd
variable {c:Ct}{r:Int}{j:Jn}
theorem MA {p:Nat->Bool}:∀(l:List Nat) (i x:Nat),l[i]? =some x->(∀y∈l.take i,p y=false)->p x=true->l.find? p=some x
 | [],i,x,h,_,_=>by simp at h
 |y::l,0,x,h,_,u=>by
  simp at h;subst h;rw[List.find?_cons,u]
 |y::l,i+1,x,h,A,u=>by
  rw[List.find?_cons,A y zW];exact MA l i x NG (λz B=>A z (by simp[B])) u
def PS {p:Nat->Bool} {l:List Nat} (h:∀y∈l,p y=false):l.find? p=none:=List.find?_eq_none.2 λy u=>by rw[h y u];decide
theorem RF {l:List Nat} {i x z:Nat} (u:l[i]? =some x) (A:z∈l.take (i+1)):z∈l.take i\/z=x:=by grind [List.take_add_one]
def VG (j:Jn) (S:ln j.ph<=1000) (r g f:Int):zM 259 [wK j,iA r,iA g,iA f] [] (iA (jI j r g f)) []:=by
 have c:=Vm j r;unfold Hh at c;have hl:=zA xN j.ph;refine eM call259 λF hF=>?_
 refine zU c ?_;refine qQ hF (Rc j S r) Z [4,6,7,8] [4,6,7,8] Z Z Z Z Z Z Z Z Z (λi ys h=>?_) (λ_=>[(4,.box [zE xN j.ph,zE iA j.cf,iA j.st]),(6,.box [iA g]),(7,.box [iA f]),(8,.box [iA 0])]) (λi=>∀x∈(QX j r).take i,(decide (f<=(x:Int))&&(yG j x).group==g)=false) (T:=[(4,.ptr 4 0 0),(6,.ptr 6 0 0),(7,.ptr 7 0 0),(8,.ptr 8 0 0)]) Z zW (λi ys y C B R h1 h2=>?_) (λB=>?_)
 .rw[zBd,zBo]at h;obtain⟨x,_,rfl⟩:=h;rfl
 .rw[zBd,zBo]at C;obtain⟨x,E,rfl⟩:=C
  show uG _ R _ _ ⟨[(13,iA (x:Int)),(4,.ptr 4 0 0),(6,.ptr 6 0 0),(7,.ptr 7 0 0),(8,.ptr 8 0 0)],[(4,.box [zE xN j.ph,zE iA j.cf,iA j.st]),(6,.box [iA g]),(7,.box [iA f]),(8,.box [iA 0])]⟩ _
  have L:=(cU.1 (zCq E)).1;have hy:(j.ph.map xN)[x]? =some (xN (yG j x)):=zJ xN j.ph x L
  have u:(decide (f<=(x:Int))&&(yG j x).group==g)=false->∀z∈(QX j r).take (i+1),(decide (f<=(z:Int))&&(yG j z).group==g)=false:=λhb z U=>by
   rcases RF E U with h|rfl
   .exact B z h
   .exact hb
  have G:(decide (f<=(x:Int))&&(yG j x).group==g)=true->jI j r g f=x:=λhb=>by
   unfold jI;rw[MA _ i x E B hb]
  clear B E;generalize yG j x=t at *;refine WW ?_;refine⟨rfl,λV W Y=>?_⟩;by_cases M:f<=(x:Int)
  .by_cases O:t.group=g
   .rw[G (by rw[zA7 M,zCm.2 O];rfl)];exact ly
   .have A:=u (by rw[zB0.2 O,zC4]);refine WW ?_;exact⟨rfl,A⟩
  .have A:=u (by rw[zA6 M,zB7]);refine WW ?_;exact⟨rfl,A⟩
 .rw[zA5,zA8]at B
  have I:jI j r g f= -1:=by
   unfold jI;rw[PS B]
  rw[I];exact ly
def N1 (j:Jn) (S:ln j.ph<=1000) (c:Ct) (hc:ln c.li=ln j.ph) (r:Int):zM 323 [wK j,LR c,iA r] [] (bA (VJ j c r)) []:=by
 have L:=Vm j r;unfold Hh at L;have hl:=zA xN j.ph;have R:=zA xE c.li;refine eM call323 λF hF=>?_
 refine zU L ?_;refine qQ hF (Rc j S r) Z [3,4,6] [3,4,6] Z Z Z Z Z Z Z Z Z (λi ys h=>?_) (λ_=>[(3,.box [zE xN j.ph,zE iA j.cf,iA j.st]),(4,.box [zE xE c.li,iA c.gr,zE iA c.nx,iA c.wt]),(6,.box [bA false])]) (λi=>∀x∈(QX j r).take i,((xT c x).lamp==0)=true) (T:=[(3,.ptr 3 0 0),(4,.ptr 4 0 0),(6,.ptr 6 0 0)]) Z zW (λi ys y B A O h1 h2=>?_) (λA=>?_)
 .rw[zBd,zBo]at h;obtain⟨x,_,rfl⟩:=h;rfl
 .rw[zBd,zBo]at B;obtain⟨x,I,rfl⟩:=B
  show uG _ O _ _ ⟨[(11,iA (x:Int)),(3,.ptr 3 0 0),(4,.ptr 4 0 0),(6,.ptr 6 0 0)],[(3,.box [zE xN j.ph,zE iA j.cf,iA j.st]),(4,.box [zE xE c.li,iA c.gr,zE iA c.nx,iA c.wt]),(6,.box [bA false])]⟩ _
  have u:=zCq I;have U:=(cU.1 u).1;have hy:(c.li.map xE)[x]? =some (xE (xT c x)):=zJ xE c.li x zB
  have C:((xT c x).lamp==0)=true->∀z∈(QX j r).take (i+1),((xT c z).lamp==0)=true:=λhb z V=>by
   rcases RF I V with h|rfl
   .exact A z h
   .exact hb
  have E:((xT c x).lamp==0)=false->VJ j c r=false:=λhb=>by
   unfold VJ;exact zEd.2 ⟨x,u,by rw[hb];decide⟩
  clear A I;generalize xT c x=t at *;refine WW ?_;refine⟨rfl,λW Y g2=>?_⟩;by_cases M:t.lamp=0
  .have G:=C (zCm.2 M);refine WW ?_;exact⟨rfl,G⟩
  .rw[E (zB0.2 M)];exact ly
 .rw[zA5,zA8]at A;have hd:VJ j c r=true:=zBi.2 A;rw[hd];exact ly
def sj (j:Jn) (r t:Int) (i:Nat):Int:=match ((QX j r).take i).find? (λp:Nat=>!kK j.cf p t)with
 |some p=>p
 |none=> -1
theorem dm {t:Int} {i x:Nat} (u:(QX j r)[i]? =some x):sj j r t (i+1)=if kK j.cf x t=true then sj j r t i else if sj j r t i= -1 then(x:Int)else sj j r t i:=by
 unfold sj;rw[zD4,u,List.find?_append]
 grind
theorem M1 (j:Jn) (hn:ln j.ph<=1000) (O:ln j.cf<=40) (c:Ct) (hm:ln c.nx=2) (r t:Int) (hr:0<=r/\r<2):zM 324 [wK j,LR c,iA r,iA t] [] (iA (ES j (c.nx.getD r.toNat dd) r t)) []:=by
 have W:=Vm j r;unfold Hh at W;have hl:=zA xN j.ph;have ac:=zA iA c.nx;have ap:=yF iA c.nx r hr.1 zB;generalize U:c.nx.getD r.toNat dd=A at *;refine eM call324 λF hF=>?_
 refine zU W ?_;refine qQ hF (Rc j hn r) Z [4,5,6,7,8,9] [4,5,6,7,8,9] Z Z Z Z Z Z Z Z Z (λi ys h=>?_) (λi=>[(4,.box [zE xN j.ph,zE iA j.cf,iA j.st]),(5,.box [zE xE c.li,iA c.gr,zE iA c.nx,iA c.wt]),(6,.box [iA r]),(7,.box [iA t]),(8,.box [iA 0]),(9,.box [iA (sj j r t i)])]) (λi=>∀x∈(QX j r).take i,(!kK j.cf x t&&decide (A≠ -1/\A<=(x:Int)))=false) (T:=[(4,.ptr 4 0 0),(5,.ptr 5 0 0),(6,.ptr 6 0 0),(7,.ptr 7 0 0),(8,.ptr 8 0 0),(9,.ptr 9 0 0)]) Z zW (λi ys y M G F1 h1 h2=>?_) (λG=>?_)
 .rw[zBd,zBo]at h;obtain⟨x,_,rfl⟩:=h;rfl
 .rw[zBd,zBo]at M;obtain⟨x,L,rfl⟩:=M
  show uG _ F1 _ _ ⟨[(14,iA (x:Int)),(4,.ptr 4 0 0),(5,.ptr 5 0 0),(6,.ptr 6 0 0),(7,.ptr 7 0 0),(8,.ptr 8 0 0),(9,.ptr 9 0 0)],[(4,.box [zE xN j.ph,zE iA j.cf,iA j.st]),(5,.box [zE xE c.li,iA c.gr,zE iA c.nx,iA c.wt]),(6,.box [iA r]),(7,.box [iA t]),(8,.box [iA 0]),(9,.box [iA (sj j r t i)])]⟩ _
  have ag:=(cU.1 (zCq L)).1;have E:=gW j.cf O x t;have B:=dm (t:=t) L
  have C:(!kK j.cf x t&&decide (A≠ -1/\A<=(x:Int)))=false->∀z∈(QX j r).take (i+1),(!kK j.cf z t&&decide (A≠ -1/\A<=(z:Int)))=false:=λhb z hz=>by
   rcases RF L hz with h|rfl
   .exact G z h
   .exact hb
  have R:(!kK j.cf x t&&decide (A≠ -1/\A<=(x:Int)))=true->ES j A r t=x:=λhb=>by
   unfold ES;rw[MA _ i x L G hb]
  clear G L U;generalize kK j.cf x t=q,sj j r t (i+1)=l2,sj j r t i=V at *;refine WW ?_;refine⟨rfl,λF2 g1 g2=>?_⟩
  cases q with
  |true=>
   rw[zA4 Z]at B;have u:=C Z;subst B;refine zU E ?_;exact⟨rfl,u⟩
  |false=>
  rw[Os xA]at B;by_cases Y:A= -1
  .have u:=C (by rw[zA6 (λh=>h.1 Y)];rfl);by_cases I:V= -1
   .rw[zA4 I]at B;subst B;refine zU E ?_;exact⟨rfl,u⟩
   .rw[Os I]at B;subst B;refine zU E ?_;exact⟨rfl,u⟩
  by_cases h5:A<=(x:Int)
  .rw[R (by rw[zA7 ⟨Y,h5⟩];rfl)];exact mx E
  .have u:=C (by rw[zA6 (λh=>h5 h.2)];rfl);by_cases I:V= -1
   .rw[zA4 I]at B;subst B;refine zU E ?_;exact⟨rfl,u⟩
   .rw[Os I]at B;subst B;refine zU E ?_;exact⟨rfl,u⟩
 .rw[zA5,zA8]at G
  have S:ES j A r t=sj j r t (QX j r).length:=by
   unfold ES sj;rw[PS G,zA8];rfl
  rw[S,zA5];generalize sj j r t (QX j r).length=V at *;exact ly
def uZ {TT:List TI} {z:List ResultVar} {u:List (Nat×xW)} {r:AV} {h1:List (Nat×xW)} {st:St} {vs:List AV} (K:List Nat) (h:LX TT st z=some vs) (A:(xC u).all (K.contains ·)=true) (B:wW K (zD st.h) (CB vs)=r) (hh:wX K (zD st.h)=h1):
 Fin TT z u r h1 .normal st:=⟨.inl Z,vs,K,h,A,.inl B.symm,by rw[hh]⟩
def tj (u z:Int):Nat->List AV
 |0=>[iA 0,iA 0]
 |1=>[iA u,iA 0]
 |_+2=>[iA u,iA z]
def gf (j:Jn) (G:ln j.ph<=1000) (g R E:Int) (L N:List AV) (C V:Nat):zM 208 [wK j,.ptr 3000 0 0,iA g] [(3000,.box [.ref 1001 0 C,iA R,.ref 1002 0 V,iA E]),(1001,.arr 2 L false),(1002,.arr 1 N false)] (.tup [])
  [(3000,.box [.ref 1001 0 C,iA g,.ref 2001 0 2,iA E]),(1001,.arr 2 L false),(1002,.arr 1 N false),(2001,.arr 1 [iA (jI j 0 g 0),iA (jI j 1 g 0)] false)]:=by
 have I:=VG j G 0 g 0;have M:=VG j G 1 g 0;generalize jI j 0 g 0=u,jI j 1 g 0=z at *;obtain⟨B,A⟩:∃n:Nat,n=2:=⟨2,rfl⟩;refine eM call208 λF hF=>?_
 (repeat' (first|refine uQ ?_|apply yW|apply xG|intro hc|(apply zG;first|(apply fS;refine bG 2001 tok Z Z Z Z Z Z Z Z Z Z Z Z Z zB zB Z Z Z ?_))|fail))
 refine zO (B) [3000,2001,3,1001,1002] [3,1001,1002] [1,2,3] [20,19,1,2,3] Z (λi T U=>⟨(20,iA i)::(19,iA B)::T,(3000,.box [.ref 1001 0 C,iA g,.ref 2001 0 B,iA E])::(2001,.arr 1 (tj u z i) false)::U⟩) ?_;(conv=>whnf);refine⟨by(rw[A];rfl),?_,?_⟩
 .intro i hi;have:i=0\/i=1:=by omega
  rcases this with rfl|rfl
  .have S:(tj u z 0)[((0:Nat):Int).toNat]? =some (iA 0):=rfl;have hl:(tj u z 0).length=2:=rfl;refine zU I ?_;rfl
  .have S:(tj u z 1)[((1:Nat):Int).toNat]? =some (iA 0):=rfl;have hl:(tj u z 1).length=2:=rfl;refine zU M ?_;rfl
 .have O:tj u z B=[iA u,iA z]:=by rw[A];rfl
  rw[O];refine WW ?_;subst A;exact uZ [3000,1001,1002,2001] Z Z Z Z
def qW (c:Ct) (kn:Nat):List (Nat×xW):=[(3000,.box [.ref 1001 0 (c.li.map xE).length,iA c.gr,.ref kn 0 (c.nx.map iA).length,iA c.wt]),(1001,.arr 2 (c.li.map xE) false),(kn,.arr 1 (c.nx.map iA) false)]
def aP (c:Ct) (o:List Int):List (Nat×xW):=[(3000,.box [.ref 1001 0 (c.li.map xE).length,iA c.gr,.ref 2001 0 (c.nx.map iA).length,iA c.wt]),(1001,.arr 2 (c.li.map xE) false),(1002,.arr 1 (o.map iA) false),(2001,.arr 1 (c.nx.map iA) false)]
theorem YZ (j:Jn) (hn:ln j.ph<=1000) (G:ln j.cf<=40) (c:Ct) (hc:ln c.li=ln j.ph) (hm:ln c.nx=2) (p:Nat) (hp:p<ln j.ph) (hr:0<=(yG j p).ring/\(yG j p).ring<=1) (E:dT j c p=true\/c.gr=(yG j p).group):
  zM 325 [wK j,.ptr 3000 0 0,iA (p:Int)] (qW c 1002) (.tup []) (qW (uF j c p) 1002):=by
 have ap:=zA xN j.ph;have ac:=zA xE c.li;have ag:=zA iA c.nx;have I:=zJ xN j.ph p hp
 change (j.ph.map xN)[p]? =some (xN (yG j p))at I
 have L:=VG j hn (yG j p).ring (yG j p).group (p+1);unfold uF;by_cases hk:dT j c p=true
 case pos=>
  rw[zA4 hk];unfold dT at hk;rw[zCw]at hk;obtain⟨M,S,hk⟩:=hk;rw[zBv]at S;unfold qW;refine eM call325 λF hF=>?_
  refine WW ?_;refine yV (ln c.li) [3,3000,1001,1002] [3,3000,1001,1002] [1,2,3,12,13] [14,1,2,3,12,13] Z (λi T U zs=>(i<=M)/\zs=⟨(14,iA i)::T,U⟩) (Lp ?_ ?_ ?_)
  .exact⟨zBn _,rfl⟩
  .rintro i st hi ⟨hiq,rfl⟩;have W:=zJ xE c.li i hi
   change (c.li.map xE)[i]? =some (xE (xT c i))at W
   have A:=gW j.cf G p i;by_cases hb:((xT c i).lamp != 0&&kK j.cf p i)=true
   .rw[zBe]at hb;have h1:(xT c i).lamp≠0:=by simpa using hb.1
    rw[hb.2]at A;generalize xT c i=t at *;clear hb L hk;refine zU A ?_;exact zP [3000,1001,1002] Z Z Z Z
   .have ar:i<M:=by
     rcases zGk i M with h|h
     .exact h
     .rw[show i=M by omega]at hb;exact absurd hk hb
    rw[zBe]at hb;by_cases h1:(xT c i).lamp=0
    .generalize xT c i=t at *;clear hb hk;refine WW ?_;exact⟨zB,rfl⟩
    .have z:kK j.cf p i=false:=by
      cases z:kK j.cf p i with
      |false=>rfl
      |true=>exact absurd ⟨by simpa using h1,z⟩ hb
     rw[z]at A;generalize xT c i=t at *;clear hb hk;refine zU A ?_;exact⟨zB,rfl⟩
  .rintro st ⟨hiq,rfl⟩;exfalso;omega
 have u:dT j c p=false:=by simpa using hk
 have R:c.gr=(yG j p).group:=by
  rcases E with E|E
  .exact absurd E hk
  .exact E
 rw[Os hk];have eb:MD j c p=BT c p:=by unfold MD;rw[zA4 R]
 rw[eb];unfold dT at u;rw[zDn]at u;have O:∀q,q<ln c.li->((xT c q).lamp != 0&&kK j.cf p q)=false:=λq z=>by simpa using u q (zBv.2 z)
 unfold BT qW;dsimp only;rw[zCs,zCs,zCj,zCj];clear u hk eb E;generalize jI j (yG j p).ring (yG j p).group (p+1)=fo at *;obtain⟨rn,B⟩:∃n:Nat,(yG j p).ring=n:=⟨(yG j p).ring.toNat,zB⟩;have C:=zJ xE c.li p zB;have Y:=zJ iA c.nx rn zB;generalize V:xT c p=l0 at*
 change (c.li.map xE)[p]? =some (xE (xT c p))at C
 rw[V]at C;generalize c.nx.getD rn dd=n0 at *;refine eM call325 λF hF=>?_
 refine WW ?_;refine zO (ln c.li) [3,3000,1001,1002] [3,3000,1001,1002] [1,2,3,12,13] [14,1,2,3,12,13] Z (λi T U=>⟨(14,iA i)::T,U⟩) (Lq ?_ ?_)
 .intro i hi;have W:=zJ xE c.li i hi
  change (c.li.map xE)[i]? =some (xE (xT c i))at W
  have A:=gW j.cf G p i;have hb:=O i hi;clear O C Y L;by_cases h1:(xT c i).lamp=0
  .generalize xT c i=t at *;clear hb;refine WW ?_;rfl
  .have z:kK j.cf p i=false:=by
    cases z:kK j.cf p i with
    |false=>rfl
    |true=>
     rw[z,zDr]at hb;exact absurd JM h1
   rw[z]at A;generalize xT c i=t at *;clear hb;refine zU A ?_;rfl
 .clear O;generalize yG j p=t at *;rw[B,zBu];have et:xN t= .agg [iA rn,iA t.group,iA t.ming,iA t.maxg,iA t.yel,iA t.red,iA t.walk,iA t.clear]:=by rw[<-B];rfl
  rw[et]at I;rw[B]at L;refine zU L ?_;exact uZ [3000,1001,1002] Z Z Z Z
theorem PU (j:Jn) (hn:ln j.ph<=1000) (G:ln j.cf<=40) (c:Ct) (hc:ln c.li=ln j.ph) (hm:ln c.nx=2) (p:Nat) (hp:p<ln j.ph) (hr:0<=(yG j p).ring/\(yG j p).ring<=1) (E:dT j c p=true\/c.gr=(yG j p).group):
  zM 325 [wK j,.ptr 3000 0 0,iA (p:Int)] (qW c 2001) (.tup []) (qW (uF j c p) 2001):=by
 have ap:=zA xN j.ph;have ac:=zA xE c.li;have ag:=zA iA c.nx;have I:=zJ xN j.ph p hp
 change (j.ph.map xN)[p]? =some (xN (yG j p))at I
 have L:=VG j hn (yG j p).ring (yG j p).group (p+1);unfold uF;by_cases hk:dT j c p=true
 case pos=>
  rw[zA4 hk];unfold dT at hk;rw[zCw]at hk;obtain⟨M,S,hk⟩:=hk;rw[zBv]at S;unfold qW;refine eM call325 λF hF=>?_
  refine WW ?_;refine yV (ln c.li) [3,3000,1001,2001] [3,3000,1001,2001] [1,2,3,12,13] [14,1,2,3,12,13] Z (λi T U zs=>(i<=M)/\zs=⟨(14,iA i)::T,U⟩) (Lp ?_ ?_ ?_)
  .exact⟨zBn _,rfl⟩
  .rintro i st hi ⟨hiq,rfl⟩;have W:=zJ xE c.li i hi
   change (c.li.map xE)[i]? =some (xE (xT c i))at W
   have A:=gW j.cf G p i;by_cases hb:((xT c i).lamp != 0&&kK j.cf p i)=true
   .rw[zBe]at hb;have h1:(xT c i).lamp≠0:=by simpa using hb.1
    rw[hb.2]at A;generalize xT c i=t at *;clear hb L hk;refine zU A ?_;exact zP [3000,1001,2001] Z Z Z Z
   .have ar:i<M:=by
     rcases zGk i M with h|h
     .exact h
     .rw[show i=M by omega]at hb;exact absurd hk hb
    rw[zBe]at hb;by_cases h1:(xT c i).lamp=0
    .generalize xT c i=t at *;clear hb hk;refine WW ?_;exact⟨zB,rfl⟩
    .have z:kK j.cf p i=false:=by
      cases z:kK j.cf p i with
      |false=>rfl
      |true=>exact absurd ⟨by simpa using h1,z⟩ hb
     rw[z]at A;generalize xT c i=t at *;clear hb hk;refine zU A ?_;exact⟨zB,rfl⟩
  .rintro st ⟨hiq,rfl⟩;exfalso;omega
 have u:dT j c p=false:=by simpa using hk
 have R:c.gr=(yG j p).group:=by
  rcases E with E|E
  .exact absurd E hk
  .exact E
 rw[Os hk];have eb:MD j c p=BT c p:=by unfold MD;rw[zA4 R]
 rw[eb];unfold dT at u;rw[zDn]at u;have O:∀q,q<ln c.li->((xT c q).lamp != 0&&kK j.cf p q)=false:=λq z=>by simpa using u q (zBv.2 z)
 unfold BT qW;dsimp only;rw[zCs,zCs,zCj,zCj];clear u hk eb E;generalize jI j (yG j p).ring (yG j p).group (p+1)=fo at *;obtain⟨rn,B⟩:∃n:Nat,(yG j p).ring=n:=⟨(yG j p).ring.toNat,zB⟩;have C:=zJ xE c.li p zB;have Y:=zJ iA c.nx rn zB;generalize V:xT c p=l0 at*
 change (c.li.map xE)[p]? =some (xE (xT c p))at C
 rw[V]at C;generalize c.nx.getD rn dd=n0 at *;refine eM call325 λF hF=>?_
 refine WW ?_;refine zO (ln c.li) [3,3000,1001,2001] [3,3000,1001,2001] [1,2,3,12,13] [14,1,2,3,12,13] Z (λi T U=>⟨(14,iA i)::T,U⟩) (Lq ?_ ?_)
 .intro i hi;have W:=zJ xE c.li i hi
  change (c.li.map xE)[i]? =some (xE (xT c i))at W
  have A:=gW j.cf G p i;have hb:=O i hi;clear O C Y L;by_cases h1:(xT c i).lamp=0
  .generalize xT c i=t at *;clear hb;refine WW ?_;rfl
  .have z:kK j.cf p i=false:=by
    cases z:kK j.cf p i with
    |false=>rfl
    |true=>
     rw[z,zDr]at hb;exact absurd JM h1
   rw[z]at A;generalize xT c i=t at *;clear hb;refine zU A ?_;rfl
 .clear O;generalize yG j p=t at *;rw[B,zBu];have et:xN t= .agg [iA rn,iA t.group,iA t.ming,iA t.maxg,iA t.yel,iA t.red,iA t.walk,iA t.clear]:=by rw[<-B];rfl
  rw[et]at I;rw[B]at L;refine zU L ?_;exact uZ [3000,1001,2001] Z Z Z Z
theorem PV (j:Jn) (Y:ln j.ph<=1000) (L:ln j.cf<=40) (c:Ct) (hc:ln c.li=ln j.ph) (hm:ln c.nx=2) (p:Nat) (hp:p<ln j.ph) (hr:0<=(yG j p).ring/\(yG j p).ring<=1) (u:dT j c p=false) (O:c.gr≠(yG j p).group):
  zM 325 [wK j,.ptr 3000 0 0,iA (p:Int)] (qW c 1002) (.tup []) (aP (uF j c p) c.nx):=by
 have ap:=zA xN j.ph;have ac:=zA xE c.li;have ag:=zA iA c.nx;have E:=zJ xN j.ph p hp
 change (j.ph.map xN)[p]? =some (xN (yG j p))at E
 have G:=VG j Y (yG j p).ring (yG j p).group (p+1);unfold uF;rw[Os (by rw[u];decide)];have W:MD j c p=QF j (BT c p) (yG j p).group:=by unfold MD;rw[Os O]
 rw[W];unfold dT at u;rw[zDn]at u;have I:∀q,q<ln c.li->((xT c q).lamp != 0&&kK j.cf p q)=false:=λq C=>by simpa using u q (zBv.2 C)
 have S:=gf j Y (yG j p).group c.gr c.wt ((c.li.map xE).set p (xE ⟨1,0⟩)) (c.nx.map iA) (c.li.map xE).length (c.nx.map iA).length;unfold QF BT qW aP;dsimp only;rw[zCs,zCs,zCj,zCj];rw[show([jI j 0 (yG j p).group 0,jI j 1 (yG j p).group 0].map iA)=[iA (jI j 0 (yG j p).group 0),iA (jI j 1 (yG j p).group 0)]from Z];have M:(([iA (jI j 0 (yG j p).group 0),iA (jI j 1 (yG j p).group 0)]:List AV)).length=2:=rfl;rw[M]
 have A:∃v,([iA (jI j 0 (yG j p).group 0),iA (jI j 1 (yG j p).group 0)]:List AV)[(yG j p).ring.toNat]? =some (iA v):=by
  have:(yG j p).ring=0\/(yG j p).ring=1:=by omega
  rcases this with h|h<;>rw[h]
  all_goals exact⟨_,rfl⟩
 obtain⟨v0,A⟩:=A;generalize ([iA (jI j 0 (yG j p).group 0),iA (jI j 1 (yG j p).group 0)]:List AV)=fx at *;clear u W;generalize jI j (yG j p).ring (yG j p).group (p+1)=fo at *;obtain⟨rn,z⟩:∃n:Nat,(yG j p).ring=n:=⟨(yG j p).ring.toNat,zB⟩;have B:=zJ xE c.li p zB;rw[z,zBu]at A;generalize R:xT c p=l0 at*
 change (c.li.map xE)[p]? =some (xE (xT c p))at B
 rw[R]at B;refine eM call325 λF hF=>?_
 refine WW ?_;refine zO (ln c.li) [3,3000,1001,1002] [3,3000,1001,1002] [1,2,3,12,13] [14,1,2,3,12,13] Z (λi T U=>⟨(14,iA i)::T,U⟩) (Lq ?_ ?_)
 .intro i hi;have hy:=zJ xE c.li i hi
  change (c.li.map xE)[i]? =some (xE (xT c i))at hy
  have V:=gW j.cf L p i;have hb:=I i hi;clear I B G S;by_cases h1:(xT c i).lamp=0
  .generalize xT c i=t at *;clear hb;refine WW ?_;rfl
  .have C:kK j.cf p i=false:=by
    cases C:kK j.cf p i with
    |false=>rfl
    |true=>
     rw[C,zDr]at hb;exact absurd JM h1
   rw[C]at V;generalize xT c i=t at *;clear hb;refine zU V ?_;rfl
 .clear I;generalize yG j p=t at *;rw[z,zBu];have et:xN t= .agg [iA rn,iA t.group,iA t.ming,iA t.maxg,iA t.yel,iA t.red,iA t.walk,iA t.clear]:=by rw[<-z];rfl
  rw[et]at E;rw[z]at G;refine yH (xU S G) ?_;exact uZ [3000,1001,1002,2001] Z Z Z Z
def uu (c:Ct):AV:= .agg [.sl false ((c.li.map xE).take (c.li.map xE).length),iA c.gr,.sl false ((c.nx.map iA).take (c.nx.map iA).length),iA c.wt]
def kY (c:Ct):uu c=LR c:=by unfold uu;rw[zA8,zA8];rfl
def VH (j:Jn) (u:ln j.ph<=1000) (c:Ct) (hc:ln c.li=ln j.ph) (r:Int):zM 323 [wK j,uu c,iA r] [] (bA (VJ j c r)) []:=by rw[kY];exact N1 j u c hc r
def Tc (j:Jn) (A:ln j.ph<=1000) (u:ln j.cf<=40) (c:Ct) (z:ln c.nx=2) (r t:Int) (B:0<=r/\r<2):zM 324 [wK j,uu c,iA r,iA t] [] (iA (ES j (c.nx.getD r.toNat dd) r t)) []:=by rw[kY];exact M1 j A u c z r t B
def VI (J:JV j) {t:Nat} (B:t<ln j.ph) (h:aY j c r t≠ -1):∃p:Nat,aY j c r t=p/\p<ln j.ph/\(yG j p).group=(yG j t).group:=by
 unfold aY at h⊢;split
 .grind
 .rename_i A;rw[Os A]at h
  rcases BV j (c.nx.getD r.toNat dd) r t with h1|⟨p,h1,h2,_,h4⟩
  .exact absurd h1 h
  .refine⟨p,h1,h2,?_⟩;by_cases u:p=t
   .rw[u]
   .exact zDq λz=>by
     have:=J.ap p t h2 B u (.inr z)
     grind
theorem jW (j:Jn) (c:Ct) (p:Nat):(dT j c p=true/\uF j c p=c)\/(dT j c p=false/\(uF j c p).gr=(yG j p).group):=by
 unfold uF;split
 .grind
 .rename_i h;refine .inr ⟨by simpa using h,?_⟩;dsimp only;unfold MD;split
  .rename_i h2;exact h2
  .rfl
def WK (e:Bool) (c:Ct) (o:List Int):List (Nat×xW):=if e=true then aP c o else qW c 1002
def bm (J:JV j) {t:Nat} (A:t<ln j.ph):(jB j t c r).gr=c.gr\/(jB j t c r).gr=(yG j t).group:=by
 unfold jB;split
 .split
  .exact .inl Z
  .rename_i h;obtain⟨p,u,B,z⟩:=VI J (c:=c) (r:=r) A h;rw[u,zBu]
   rcases jW j c p with h|h
   all_goals grind
 .exact .inl Z
def am (e:Bool) (c:Ct) (o:List Int):uB (WK e c o)=true:=by cases e<;>rfl
def Ih (j:Jn) (t:Nat) (e:Bool) (i:Int) (c:Ct) (o:List Int):St:=⟨[(8,iA i),(1,.ptr 3000 0 0),(2,iA t),(3,.ptr 3 0 0)],WK e c o++[(3,.box [zE xN j.ph,zE iA j.cf,iA j.st])]⟩
theorem qu (j:Jn) (J:JV j) (c:Ct) (C:CV j c) (h0:c.wt=0) (t:Nat) (ht:t<ln j.ph):zM 283 [wK j,.ptr 3000 0 0,iA (t:Int)] (qW c 1002) (.tup []) (WK (decide ((jB j t (jB j t c 0) 1).gr≠c.gr)) (jB j t (jB j t c 0) 1) (if(jB j t c 0).gr=c.gr then(jB j t c 0).nx else c.nx)):=by
 have hn:=J.n;have M:ln j.ph<=1000:=by omega
 have a1:=J.c;have a2:=zA xN j.ph;have az:=zJ xN j.ph t ht
 change (j.ph.map xN)[t]? =some (xN (yG j t))at az
 have ac:=C.n;have ag:=C.m;obtain⟨C1,av⟩:=im J C h0 ht 0;have G:=C1.n;have L:=C1.m;have au:=bm J (c:=c) (r:=0) ht;have I:c.gr=c.gr:=rfl;refine WU tok func283 Z (λargs w=>call283 args w) Z Z (am _ _ _) (λF hF=>?_);refine WW ?_;refine fD [3000,1001,1002,2001,3] [8,1,2,3] (Ih j t false 0 c c.nx) (Ih j t (decide ((jB j t c 0).gr≠c.gr)) 1 (jB j t c 0) c.nx) (Ih j t (decide ((jB j t (jB j t c 0) 1).gr≠c.gr)) 2 (jB j t (jB j t c 0) 1) (if(jB j t c 0).gr=c.gr then(jB j t c 0).nx else c.nx)) Z Z ?_ ?_ ?_
 .unfold Ih;clear C1 au G L av;rw[show WK false c c.nx=qW c 1002 from Z];unfold qW;have V:=VH j M c ac 0
  cases hd:VJ j c 0 with
  |false=>
   rw[hd]at V;rw[show jB j t c 0=c by unfold jB;rw[Os JL]];rw[show decide (c.gr≠c.gr)=false from zA6 (λh=>h I)];clear hd;refine zU V ?_;rfl
  |true=>
  rw[hd]at V
  have z:jB j t c 0=if aY j c 0 t= -1 then c else uF j c (aY j c 0 t).toNat:=by unfold jB;rw[zA4 hd]
  by_cases ap:0=(yG j t).ring
  ·
   have hP:aY j c 0 t=t:=by unfold aY;rw[zA4 ap]
   rw[hP]at z;rw[Os zB,zBu]at z;by_cases hk:dT j c t=true\/c.gr=(yG j t).group
   .have S:=YZ j M zB c ac ag t ht (J.rg t ht) hk
    have B:(uF j c t).gr=c.gr:=by
     rcases jW j c t with h|h
     .exact(zBp Ct.gr h.2).trans I
     .rcases hk with hk|hk
      .rw[hk]at h;cases h.1
      .exact h.2.trans (hk.symm.trans I)
    rw[z,show decide ((uF j c t).gr≠c.gr)=false from zA6 (λh=>h B)];generalize uF j c t=b at *;clear hd z B hk;unfold qW at S;refine yH (xU V S) ?_;rfl
   .have O:dT j c t=false:=by
     cases h:dT j c t with
     |false=>rfl
     |true=>exact absurd (.inl h) hk
    have R:c.gr≠(yG j t).group:=λh=>hk (.inr h)
    have S:=PV j M zB c ac ag t ht (J.rg t ht) O R
    have B:(uF j c t).gr≠c.gr:=by
     rcases jW j c t with h|h
     .rw[O]at h;cases h.1
     .rw[h.2,<-I];exact λh=>R h.symm
    rw[z,show decide ((uF j c t).gr≠c.gr)=true from zA7 B];generalize uF j c t=b at *;clear hd z B hk O R;unfold qW aP at S;refine yH (xU V S) ?_;rfl
  ·
   have cm:=Tc j M zB c ag 0 t zB;have hP:aY j c 0 t=ES j (c.nx.getD (0:Int).toNat dd) 0 t:=by unfold aY;rw[Os ap]
   rw[<-hP]at cm;by_cases U:aY j c 0 t= -1
   .rw[zA4 U]at z;rw[z];rw[show decide (c.gr≠c.gr)=false from zA6 (λh=>h I)];generalize aY j c 0 t=pp at *;clear hP hd z;refine yH (xU V cm) ?_;rfl
   obtain⟨p,Y,hp,ar⟩:=VI J (c:=c) (r:=0) ht U;rw[Os U,Y,zBu]at z;rw[Y]at cm;clear hP U Y;by_cases hk:dT j c p=true\/c.gr=(yG j p).group
   .have S:=YZ j M zB c ac ag p hp (J.rg p hp) hk
    have B:(uF j c p).gr=c.gr:=by
     rcases jW j c p with h|h
     .exact(zBp Ct.gr h.2).trans I
     .rcases hk with hk|hk
      .rw[hk]at h;cases h.1
      .exact h.2.trans (hk.symm.trans I)
    rw[z,show decide ((uF j c p).gr≠c.gr)=false from zA6 (λh=>h B)];generalize uF j c p=b at *;clear hd z B hk;unfold qW at S;refine yH (qL V cm S) ?_;rfl
   .have O:dT j c p=false:=by
     cases h:dT j c p with
     |false=>rfl
     |true=>exact absurd (.inl h) hk
    have R:c.gr≠(yG j p).group:=λh=>hk (.inr h)
    have S:=PV j M zB c ac ag p hp (J.rg p hp) O R
    have B:(uF j c p).gr≠c.gr:=by
     rcases jW j c p with h|h
     .rw[O]at h;cases h.1
     .rw[h.2,<-I];exact λh=>R h.symm
    rw[z,show decide ((uF j c p).gr≠c.gr)=true from zA7 B];generalize uF j c p=b at *;clear hd z B hk O R;unfold qW aP at S;refine yH (qL V cm S) ?_;rfl
 .clear ac ag I;have ax:=au;generalize jB j t c 0=u at *;unfold Ih;by_cases A:u.gr=c.gr
  .rw [zA4 A,zA6 (λh=>h A)];rw[show WK false u c.nx=qW u 1002 from Z];unfold qW;have V:=VH j M u G 1
   cases hd:VJ j u 1 with
   |false=>
    rw[hd]at V;rw[show jB j t u 1=u by unfold jB;rw[Os JL]];rw[show decide (u.gr≠c.gr)=false from zA6 (λh=>h A)];clear hd;refine zU V ?_;rfl
   |true=>
   rw[hd]at V
   have z:jB j t u 1=if aY j u 1 t= -1 then u else uF j u (aY j u 1 t).toNat:=by unfold jB;rw[zA4 hd]
   by_cases ap:1=(yG j t).ring
   ·
    have hP:aY j u 1 t=t:=by unfold aY;rw[zA4 ap]
    rw[hP]at z;rw[Os zB,zBu]at z;by_cases hk:dT j u t=true\/u.gr=(yG j t).group
    .have S:=YZ j M zB u G L t ht (J.rg t ht) hk
     have B:(uF j u t).gr=c.gr:=by
      rcases jW j u t with h|h
      .exact(zBp Ct.gr h.2).trans A
      .rcases hk with hk|hk
       .rw[hk]at h;cases h.1
       .exact h.2.trans (hk.symm.trans A)
     rw[z,show decide ((uF j u t).gr≠c.gr)=false from zA6 (λh=>h B)];generalize uF j u t=b at *;clear hd z B hk;unfold qW at S;refine yH (xU V S) ?_;rfl
    .have O:dT j u t=false:=by
      cases h:dT j u t with
      |false=>rfl
      |true=>exact absurd (.inl h) hk
     have R:u.gr≠(yG j t).group:=λh=>hk (.inr h)
     have S:=PV j M zB u G L t ht (J.rg t ht) O R
     have B:(uF j u t).gr≠c.gr:=by
      rcases jW j u t with h|h
      .rw[O]at h;cases h.1
      .rw[h.2,<-A];exact λh=>R h.symm
     rw[z,show decide ((uF j u t).gr≠c.gr)=true from zA7 B];generalize uF j u t=b at *;clear hd z B hk O R;unfold qW aP at S;refine yH (xU V S) ?_;rfl
   ·
    have cm:=Tc j M zB u L 1 t zB;have hP:aY j u 1 t=ES j (u.nx.getD (1:Int).toNat dd) 1 t:=by unfold aY;rw[Os ap]
    rw[<-hP]at cm;by_cases U:aY j u 1 t= -1
    .rw[zA4 U]at z;rw[z];rw[show decide (u.gr≠c.gr)=false from zA6 (λh=>h A)];generalize aY j u 1 t=pp at *;clear hP hd z;refine yH (xU V cm) ?_;rfl
    obtain⟨p,Y,hp,ar⟩:=VI J (c:=u) (r:=1) ht U;rw[Os U,Y,zBu]at z;rw[Y]at cm;clear hP U Y;by_cases hk:dT j u p=true\/u.gr=(yG j p).group
    .have S:=YZ j M zB u G L p hp (J.rg p hp) hk
     have B:(uF j u p).gr=c.gr:=by
      rcases jW j u p with h|h
      .exact(zBp Ct.gr h.2).trans A
      .rcases hk with hk|hk
       .rw[hk]at h;cases h.1
       .exact h.2.trans (hk.symm.trans A)
     rw[z,show decide ((uF j u p).gr≠c.gr)=false from zA6 (λh=>h B)];generalize uF j u p=b at *;clear hd z B hk;unfold qW at S;refine yH (qL V cm S) ?_;rfl
    .have O:dT j u p=false:=by
      cases h:dT j u p with
      |false=>rfl
      |true=>exact absurd (.inl h) hk
     have R:u.gr≠(yG j p).group:=λh=>hk (.inr h)
     have S:=PV j M zB u G L p hp (J.rg p hp) O R
     have B:(uF j u p).gr≠c.gr:=by
      rcases jW j u p with h|h
      .rw[O]at h;cases h.1
      .rw[h.2,<-A];exact λh=>R h.symm
     rw[z,show decide ((uF j u p).gr≠c.gr)=true from zA7 B];generalize uF j u p=b at *;clear hd z B hk O R;unfold qW aP at S;refine yH (qL V cm S) ?_;rfl
  .have E:u.gr≠c.gr:=A
   have W:u.gr=(yG j t).group:=by
    rcases ax with h|h
    .exact absurd h E
    .exact h
   rw[Os A,zA7 E];rw[show WK true u c.nx=aP u c.nx from Z];unfold aP;have V:=VH j M u G 1
   cases hd:VJ j u 1 with
   |false=>
    rw[hd]at V;rw[show jB j t u 1=u by unfold jB;rw[Os JL]];rw[show decide (u.gr≠c.gr)=true from zA7 E];clear hd;refine zU V ?_;rfl
   |true=>
   rw[hd]at V
   have z:jB j t u 1=if aY j u 1 t= -1 then u else uF j u (aY j u 1 t).toNat:=by unfold jB;rw[zA4 hd]
   by_cases ap:1=(yG j t).ring
   ·
    have hP:aY j u 1 t=t:=by unfold aY;rw[zA4 ap]
    rw[hP]at z;rw[Os zB,zBu]at z;have S:=PU j M zB u G L t ht (J.rg t ht) (.inr (W.trans (rfl:(yG j t).group=(yG j t).group).symm))
    have B:(uF j u t).gr≠c.gr:=by
     rcases jW j u t with h|h
     .rw[h.2];exact E
     .rw[h.2,(rfl:(yG j t).group=(yG j t).group),<-W];exact E
    rw[z,show decide ((uF j u t).gr≠c.gr)=true from zA7 B];generalize uF j u t=b at *;clear hd z B;unfold qW at S;refine yH (xU V S) ?_;rfl
   ·
    have cm:=Tc j M zB u L 1 t zB;have hP:aY j u 1 t=ES j (u.nx.getD (1:Int).toNat dd) 1 t:=by unfold aY;rw[Os ap]
    rw[<-hP]at cm;by_cases U:aY j u 1 t= -1
    .rw[zA4 U]at z;rw[z];rw[show decide (u.gr≠c.gr)=true from zA7 E];generalize aY j u 1 t=pp at *;clear hP hd z;refine yH (xU V cm) ?_;rfl
    obtain⟨p,Y,hp,ar⟩:=VI J (c:=u) (r:=1) ht U;rw[Os U,Y,zBu]at z;rw[Y]at cm;clear hP U Y;have S:=PU j M zB u G L p hp (J.rg p hp) (.inr (W.trans (ar:(yG j p).group=(yG j t).group).symm))
    have B:(uF j u p).gr≠c.gr:=by
     rcases jW j u p with h|h
     .rw[h.2];exact E
     .rw[h.2,(ar:(yG j p).group=(yG j t).group),<-W];exact E
    rw[z,show decide ((uF j u p).gr≠c.gr)=true from zA7 B];generalize uF j u p=b at *;clear hd z B;unfold qW at S;refine yH (qL V cm S) ?_;rfl
 .generalize (if(jB j t c 0).gr=c.gr then(jB j t c 0).nx else c.nx)=o at *;generalize jB j t (jB j t c 0) 1=c2 at *;unfold Ih;by_cases he:c2.gr=c.gr
  .rw[zA6 (λh=>h he)];refine WW ?_;exact uZ [3000,1001,1002] Z Z Z Z
  .rw[zA7 he];refine WW ?_;exact uZ [3000,1001,1002,2001] Z Z Z Z
def pm (c:Ct) (u:ln c.li<=1000):zM 322 [uu c] [] (bA (Yb c)) []:=by rw[kY];exact AA c u
def BM (c:Ct) (i:Nat):Bool:=Yb c&&(c.nx.take i).all λp=>p== -1
theorem MB (c:Ct) (i:Nat) (hi:i<ln c.nx):BM c (i+1)=(BM c i&&(c.nx.getD i dd== -1)):=by grind [BM,List.take_append_getElem,oj,Bool.and_assoc]
def QW (j:Jn) (e:Bool) (i:Int) (c:Ct) (o:List Int):St:=⟨[(36,iA i),(1,.ptr 3000 0 0),(2,.ptr 2 0 0)],WK e c o++[(2,.box [zE xN j.ph,zE iA j.cf,iA j.st])]⟩
theorem ku (j:Jn) (J:JV j) (c:Ct) (C:CV j c) (h0:c.wt=0):zM 284 [wK j,.ptr 3000 0 0] (qW c 1002) (.tup []) (WK (ij c) (Xb j c) c.nx):=by
 have hn:=J.n;have O:ln j.ph<=1000:=by omega
 have bd:=J.c;have bl:=zA xN j.ph;have bf:=zA xE c.li;have bk:=zA iA c.nx;have a7:=C.n;have a6:=C.m;have ca:=pm c zB;have cg:=BX j O J.gp;have ba:=PX J
 have a8:gN j<=4:=by
  have:∀n,n<=ln j.ph->Zb j.ph n<=4:=λn=>by
   induction n with
   |zero=>intro _;show(0:Int)<=4;omega
   |succ n ih=>
    intro h;have h1:=ih zB;have h2:=J.gp n zB;unfold yG at h2;unfold Zb;omega
  exact this _ (zBa _)
 have a5:=C.g;have ar:(c.gr+1).tmod (gN j)=(c.gr+1) % gN j:=zCf zB;have hO:BM c (ln c.nx)=ij c:=by unfold BM ij;rw[zA8]
 refine WU tok func284 Z (λargs w=>call284 args w) Z Z (am _ _ _) (λF hF=>?_);unfold qW;have a1:BM c 0=Yb c:=by unfold BM;simp
 rw[<-a1]at ca;refine zU ca ?_;refine zO (ln c.nx) [2,3000,1001,1002] [2,3000,1001,1002] [1,2,15,16] [4,17,1,2,15,16] Z (λi T U=>⟨(4,bA (BM c i))::(17,iA i)::T,U⟩) (Lq ?_ ?_)
 .intro i hi;have hy:=zJ iA c.nx i hi;have es:=MB c i hi;rw[es];generalize BM c i=o at *;generalize c.nx.getD i dd=x at *;by_cases hx:x= -1
  .rw[show(x== -1)=true by rw[zCm];exact hx,zDr];clear ca cg;refine WW ?_;rfl
  .rw[show(x== -1)=false by rw[zB0];exact hx,zC4];clear ca cg;refine WW ?_;rfl
 .rw [hO];clear hO a1 ca
  cases ax:ij c with
  | true=>
   have ag:Xb j c=vM j (vM j (QF j c ((c.gr+1) % gN j)) 0) 1:=by unfold Xb;rw[zA4 ax]
   rw[ag];have a9:0<=(c.gr+1) % gN j/\(c.gr+1) % gN j<gN j:=⟨zD6 _ zB,zDp _ zB⟩;have W:=BU C a9;have bb:(QF j c ((c.gr+1) % gN j)).wt=0:=h0;have ce:=gf j O ((c.gr+1) % gN j) c.gr c.wt (c.li.map xE) (c.nx.map iA) (c.li.map xE).length (c.nx.map iA).length;rw[show([(3000,.box [.ref 1001 0 (c.li.map xE).length,iA ((c.gr+1) % gN j),.ref 2001 0 2,iA c.wt]),(1001,.arr 2 (c.li.map xE) false),(1002,.arr 1 (c.nx.map iA) false),(2001,.arr 1 [iA (jI j 0 ((c.gr+1) % gN j) 0),iA (jI j 1 ((c.gr+1) % gN j) 0)] false)]:List (Nat×xW))=aP (QF j c ((c.gr+1) % gN j)) c.nx from Z]at ce;rw[<-ar]at ce;rw[ar]at ce;generalize a4:QF j c ((c.gr+1) % gN j)=B at *;rw[<-ar]at ce;have br:¬gN j=0:=by omega
   generalize gN j=gm at *;have ac:=W.n;have ap:=W.m;obtain⟨I,a3⟩:=ZT J W bb (r:=0) zB;have E:=I.n;have G:=I.m
   change CV j (vM j B 0)at I
   change (vM j B 0).li.length=ln j.ph at E
   change (vM j B 0).nx.length=2 at G
   clear ag a4 C;unfold aP at ce;refine yH (xU cg ce) ?_;refine fD [3000,1001,1002,2001,2] [36,1,2] (QW j true 0 B c.nx) (QW j true 1 (vM j B 0) c.nx) (QW j true 2 (vM j (vM j B 0) 1) c.nx) Z Z ?_ ?_ ?_
   .unfold QW;rw[show WK true B c.nx=aP B c.nx from Z];unfold aP;have L:=VH j O B ac 0;have V:=zJ iA B.nx 0 zB;have hv:=W.v 0 zB;have az:(B.nx.map iA).length=2:=by rw[zA5];exact ap
    cases hd:VJ j B 0 with
    |false=>
     rw[hd]at L;rw[show vM j B 0=B by unfold vM;rw[Os QR]];clear hd;refine zU L ?_;rfl
    |true=>
    rw[hd]at L
    have u:vM j B 0=if B.nx.getD 0 dd= -1 then B else uF j B (B.nx.getD 0 dd).toNat:=by
     unfold vM;rw[hd]
     show(if true=true/\B.nx.getD 0 dd≠ -1 then uF j B (B.nx.getD 0 dd).toNat else B)=_
     by_cases h:B.nx.getD 0 dd= -1
     .rw[zA4 h,Os (λk=>k.2 h)]
     .rw[Os h,zA4 ⟨rfl,h⟩]
    clear hd;by_cases A:B.nx.getD 0 dd= -1
    .rw[zA4 A]at u;rw[u];clear u hv;generalize B.nx.getD 0 dd=x at *;refine zU L ?_;rfl
    .rw[Os A]at u
     have S:BR j (0:Nat) B.gr (B.nx.getD 0 dd):=by
      rcases hv with h|h
      .exact absurd h A
      .exact h
     obtain⟨i1,i2,i3,R⟩:=S;obtain⟨p,M⟩:∃p:Nat,B.nx.getD 0 dd=p:=⟨(B.nx.getD 0 dd).toNat,zB⟩;rw[M]at u V A i2 R;rw[zBu]at u R;have hp:p<ln j.ph:=by omega
     have Y:=PU j O zB B ac ap p hp (J.rg p hp) (.inr R.symm);rw[u];clear u hv i1 i2 i3 R M;generalize uF j B p=b at *;unfold qW at Y;refine yH (xU L Y) ?_;rfl
   .generalize vM j B 0=z at *;unfold QW;rw[show WK true z c.nx=aP z c.nx from Z];unfold aP;have L:=VH j O z E 1;have V:=zJ iA z.nx 1 zB;have hv:=I.v 1 zB;have az:(z.nx.map iA).length=2:=by rw[zA5];exact G
    cases hd:VJ j z 1 with
    |false=>
     rw[hd]at L;rw[show vM j z 1=z by unfold vM;rw[Os QR]];clear hd;refine zU L ?_;rfl
    |true=>
    rw[hd]at L
    have u:vM j z 1=if z.nx.getD 1 dd= -1 then z else uF j z (z.nx.getD 1 dd).toNat:=by
     unfold vM;rw[hd]
     show(if true=true/\z.nx.getD 1 dd≠ -1 then uF j z (z.nx.getD 1 dd).toNat else z)=_
     by_cases h:z.nx.getD 1 dd= -1
     .rw[zA4 h,Os (λk=>k.2 h)]
     .rw[Os h,zA4 ⟨rfl,h⟩]
    clear hd;by_cases A:z.nx.getD 1 dd= -1
    .rw[zA4 A]at u;rw[u];clear u hv;generalize z.nx.getD 1 dd=x at *;refine zU L ?_;rfl
    .rw[Os A]at u
     have S:BR j (1:Nat) z.gr (z.nx.getD 1 dd):=by
      rcases hv with h|h
      .exact absurd h A
      .exact h
     obtain⟨i1,i2,i3,R⟩:=S;obtain⟨p,M⟩:∃p:Nat,z.nx.getD 1 dd=p:=⟨(z.nx.getD 1 dd).toNat,zB⟩;rw[M]at u V A i2 R;rw[zBu]at u R;have hp:p<ln j.ph:=by omega
     have Y:=PU j O zB z E G p hp (J.rg p hp) (.inr R.symm);rw[u];clear u hv i1 i2 i3 R M;generalize uF j z p=b at *;unfold qW at Y;refine yH (xU L Y) ?_;rfl
   .generalize vM j (vM j B 0) 1=c2 at *;unfold QW;refine WW ?_;exact uZ [3000,1001,1002,2001] Z Z Z Z
  | false=>
   have ag:Xb j c=vM j (vM j c 0) 1:=by unfold Xb;rw[Os (by rw[ax];decide)]
   rw[ag];clear cg ar ag ba a8 a5;have a2:=C;have au:=a7;have av:=a6;obtain⟨I,a3⟩:=ZT J C h0 (r:=0) zB;have E:=I.n;have G:=I.m
   change CV j (vM j c 0)at I
   change (vM j c 0).li.length=ln j.ph at E
   change (vM j c 0).nx.length=2 at G
   refine WW ?_;clear ax;refine fD [3000,1001,1002,2001,2] [36,1,2] (QW j false 0 c c.nx) (QW j false 1 (vM j c 0) c.nx) (QW j false 2 (vM j (vM j c 0) 1) c.nx) Z Z ?_ ?_ ?_
   .unfold QW;rw[show WK false c c.nx=qW c 1002 from Z];unfold qW;have L:=VH j O c au 0;have V:=zJ iA c.nx 0 zB;have hv:=a2.v 0 zB;have az:(c.nx.map iA).length=2:=by rw[zA5];exact av
    cases hd:VJ j c 0 with
    |false=>
     rw[hd]at L;rw[show vM j c 0=c by unfold vM;rw[Os QR]];clear hd;refine zU L ?_;rfl
    |true=>
    rw[hd]at L
    have u:vM j c 0=if c.nx.getD 0 dd= -1 then c else uF j c (c.nx.getD 0 dd).toNat:=by
     unfold vM;rw[hd]
     show(if true=true/\c.nx.getD 0 dd≠ -1 then uF j c (c.nx.getD 0 dd).toNat else c)=_
     by_cases h:c.nx.getD 0 dd= -1
     .rw[zA4 h,Os (λk=>k.2 h)]
     .rw[Os h,zA4 ⟨rfl,h⟩]
    clear hd;by_cases A:c.nx.getD 0 dd= -1
    .rw[zA4 A]at u;rw[u];clear u hv;generalize c.nx.getD 0 dd=x at *;refine zU L ?_;rfl
    .rw[Os A]at u
     have S:BR j (0:Nat) c.gr (c.nx.getD 0 dd):=by
      rcases hv with h|h
      .exact absurd h A
      .exact h
     obtain⟨i1,i2,i3,R⟩:=S;obtain⟨p,M⟩:∃p:Nat,c.nx.getD 0 dd=p:=⟨(c.nx.getD 0 dd).toNat,zB⟩;rw[M]at u V A i2 R;rw[zBu]at u R;have hp:p<ln j.ph:=by omega
     have Y:=YZ j O zB c au av p hp (J.rg p hp) (.inr R.symm);rw[u];clear u hv i1 i2 i3 R M;generalize uF j c p=b at *;unfold qW at Y;refine yH (xU L Y) ?_;rfl
   .generalize vM j c 0=z at *;unfold QW;rw[show WK false z c.nx=qW z 1002 from Z];unfold qW;have L:=VH j O z E 1;have V:=zJ iA z.nx 1 zB;have hv:=I.v 1 zB;have az:(z.nx.map iA).length=2:=by rw[zA5];exact G
    cases hd:VJ j z 1 with
    |false=>
     rw[hd]at L;rw[show vM j z 1=z by unfold vM;rw[Os QR]];clear hd;refine zU L ?_;rfl
    |true=>
    rw[hd]at L
    have u:vM j z 1=if z.nx.getD 1 dd= -1 then z else uF j z (z.nx.getD 1 dd).toNat:=by
     unfold vM;rw[hd]
     show(if true=true/\z.nx.getD 1 dd≠ -1 then uF j z (z.nx.getD 1 dd).toNat else z)=_
     by_cases h:z.nx.getD 1 dd= -1
     .rw[zA4 h,Os (λk=>k.2 h)]
     .rw[Os h,zA4 ⟨rfl,h⟩]
    clear hd;by_cases A:z.nx.getD 1 dd= -1
    .rw[zA4 A]at u;rw[u];clear u hv;generalize z.nx.getD 1 dd=x at *;refine zU L ?_;rfl
    .rw[Os A]at u
     have S:BR j (1:Nat) z.gr (z.nx.getD 1 dd):=by
      rcases hv with h|h
      .exact absurd h A
      .exact h
     obtain⟨i1,i2,i3,R⟩:=S;obtain⟨p,M⟩:∃p:Nat,z.nx.getD 1 dd=p:=⟨(z.nx.getD 1 dd).toNat,zB⟩;rw[M]at u V A i2 R;rw[zBu]at u R;have hp:p<ln j.ph:=by omega
     have Y:=YZ j O zB z E G p hp (J.rg p hp) (.inr R.symm);rw[u];clear u hv i1 i2 i3 R M;generalize uF j z p=b at *;unfold qW at Y;refine yH (xU L Y) ?_;rfl
   .generalize vM j (vM j c 0) 1=c2 at *;unfold QW;refine WW ?_;exact uZ [3000,1001,1002] Z Z Z Z
def Sc (l:List Li) (hl:ln l<=1073741824):zM 172 [zE xE l] [] (.ref 1001 0 (l.map xE).length) [(1001,.arr 2 (l.map xE) false)]:=by
 have u:=zA xE l;refine eM call172 λF hF=>?_
 refine xI 0 Z (λcap z=>?_) ?_
 .have:l=[]:=by simpa using z
  subst this
  (repeat' (first|refine Yf ?_|apply yW|apply xG|intro hc|fail))
  refine qG 2 1001 2 Z Z Z (xL ?_);exact zP [1001] Z Z Z Z
 .repeat' (first|(apply zG;first|refine uN tok Z Z ?_|(apply wR;refine wJ (xY tok (.inl ⟨rfl,rfl⟩) Z Z Z Z) Z ?_)|(apply yI;refine uX (nw:=[1001]) (yX tok 1001 (xs:=[]) Z Z Z Z Z Z Z Z Z) Z Z Z ?_)|(apply yD;refine vD tok Z Z Z Z Z Z Z (yM _ _ (λ_=>rfl)) Z Z Z zB Z ?_)|apply kP)|(first|apply xZ|apply xR|refine uD Z ?_|refine yR Z ?_|refine yE Z ?_|refine wA Z (λhc=>?_) λhc=>?_|apply xJ|apply xL|apply xQ|apply xB))
  exact zP [1001] Z Z Z Z
def BN (l:List Int) (hl:ln l<=1073741824):zM 111 [zE iA l] [] (.ref 1002 0 (l.map iA).length) [(1002,.arr 1 (l.map iA) false)]:=by
 have u:=zA iA l;refine eM call111 λF hF=>?_
 refine xI 0 Z (λcap z=>?_) ?_
 .have:l=[]:=by simpa using z
  subst this
  (repeat' (first|refine Yf ?_|apply yW|apply xG|intro hc|fail))
  refine qG 2 1002 1 Z Z Z (xL ?_);exact zP [1002] Z Z Z Z
 .repeat' (first|(apply zG;first|refine uN tok Z Z ?_|(apply wR;refine wJ (xY tok (.inl ⟨rfl,rfl⟩) Z Z Z Z) Z ?_)|(apply yI;refine uX (nw:=[1002]) (yX tok 1002 (xs:=[]) Z Z Z Z Z Z Z Z Z) Z Z Z ?_)|(apply yD;refine vD tok Z Z Z Z Z Z Z (yM _ _ (λ_=>rfl)) Z Z Z zB Z ?_)|apply kP)|(first|apply xZ|apply xR|refine uD Z ?_|refine yR Z ?_|refine yE Z ?_|refine wA Z (λhc=>?_) λhc=>?_|apply xJ|apply xL|apply xQ|apply xB))
  exact zP [1002] Z Z Z Z
def MC (j:Jn) (c:Ct) (t:Int) (i:Nat):List Li:=(List.range (ln j.ph)).map λp=>if p<i then BQ (yG j p) (xT c p) (GR j c t p)else xT c p
def PW (j:Jn) (c:Ct) (t:Int) (i:Nat):(MC j c t i).length=ln j.ph:=by simp[MC]
theorem BO (hc:ln c.li=ln j.ph) (t:Int):MC j c t 0=c.li:=by apply zCe<;>grind [MC,List.getElem?_range,xT,oj,List.getElem?_eq_none]
theorem df (j:Jn) (c:Ct) (t:Int):MC j c t (ln j.ph)=UX j c t:=by grind [MC,UX,List.map_congr_left]
theorem BP (j:Jn) (c:Ct) (t:Int) (i:Nat):MC j c t (i+1)=(MC j c t i).set i (BQ (yG j i) (xT c i) (GR j c t i)):=by apply zCe<;>grind [MC,BQ,yG,xT,GR,List.getElem?_range,List.getElem?_eq_none]
theorem om {p:Ph} {l:Li} (h:ib p l=true) (z:p.yel<=60) (u:p.red<=60):0<=l.tk/\l.tk<=1073741824:=by grind [ib]
def GQ {P:Program} {C:List Nat} {F:Fr C} {m:Nat} {A:Array Oper} {z:List Oper} {Q:List FP->St->Prop} {B:Bool} {fs:List FP} {ty T:Nat} {pos:String} {u:Array Edge} {st:St} (hk:yP P F m A B (⟨some 7,.alloc T,ty,pos,u,none⟩::z) st fs Q):yP P F m A B (⟨some 7,.alloc T,ty,pos,u,none⟩::z) st fs Q:=hk
theorem L1 (j:Jn) (J:JV j) (c:Ct) (C:CV j c) (t:Int):zM 229 [wK j,LR c,iA t] [] (LR (GT j c t)) []:=by
 have hn:=J.n;have ax:=J.c;have S:=C.n;have ac:=C.m;have av:=C.w;have a4:=J.st;have a3:=zA xN j.ph;have ag:(c.li.map xE).length=j.ph.length:=by rw[zA5];exact S
 have az:(c.nx.map iA).length=2:=by rw[zA5];exact ac
 have k1:=AB j J;have Y:=fu j J.b c;rw[Y2 J C]at Y;have E:=Sc c.li zB;have G:=BN c.nx zB;unfold GT;by_cases hw:0<c.wt
 .rw[zA4 hw];refine eM call229 λF hF=>?_
  refine yH (xU k1 Y) ?_
  repeat' (first|(apply zG;first|(apply GQ;refine uX (nw:=[3000]) (fM tok 3000 Z Z) Z Z Z ?_)|refine uN tok Z Z ?_|(apply xP;(first|(refine vH 172 ?_;first|refine wJ (zL (E) Z Z Z Z Z) Z ?_|refine uX (zL (E) Z Z Z Z Z) Z Z Z ?_|refine aK (zL (E) Z Z Z Z Z) Z Z Z ?_)|(refine vH 111 ?_;first|refine wJ (zL (G) Z Z Z Z Z) Z ?_|refine uX (zL (G) Z Z Z Z Z) Z Z Z ?_|refine aK (zL (G) Z Z Z Z Z) Z Z Z ?_)))|(apply cA;refine cR tok Z Z Z ?_)|refine VA gS ?_|apply kP)|first|refine SQ ?_|fail)
  refine WW ?_;exact zI [] Z Z (kY ⟨c.li,c.gr,c.nx,c.wt-1⟩) Z
 rw[Os hw];have h0:c.wt=0:=by omega
 have M:=Ym J C h0 t;have I:=BO S t;have L:=df j c t;rw[ag]at E;have hN:∀i,((MC j c t i).map xE).length=j.ph.length:=λi=>by rw[zA5];exact PW j c t i
 refine eM call229 λF hF=>?_
 refine yH (xU k1 Y) ?_
 repeat' (first|(apply zG;first|(apply GQ;refine uX (nw:=[3000]) (fM tok 3000 Z Z) Z Z Z ?_)|refine uN tok Z Z ?_|(apply xP;(first|(refine vH 172 ?_;first|refine wJ (zL (E) Z Z Z Z Z) Z ?_|refine uX (zL (E) Z Z Z Z Z) Z Z Z ?_|refine aK (zL (E) Z Z Z Z Z) Z Z Z ?_)|(refine vH 111 ?_;first|refine wJ (zL (G) Z Z Z Z Z) Z ?_|refine uX (zL (G) Z Z Z Z Z) Z Z Z ?_|refine aK (zL (G) Z Z Z Z Z) Z Z Z ?_)))|(apply cA;refine cR tok Z Z Z ?_)|refine VA gS ?_|apply kP)|first|refine SQ ?_|fail)
 (repeat' (first|refine AF ?_|apply yW|apply xG|intro hc|(apply zG;first|refine SM ?_)|fail))
 refine yE Z (xJ ?_);apply xZ;refine gY [3000,1001,1002,3,4,6] [2,3,4,6,7,8] ⟨[(2,iA t),(3,.ptr 3 0 0),(4,.ptr 4 0 0),(6,.ptr 6 0 0),(7,.ptr 3000 0 0),(8,bA (ZS j t))],[(3000,.box [.ref 1001 0 j.ph.length,iA c.gr,.ref 1002 0 (c.nx.map iA).length,iA c.wt]),(1001,.arr 2 (c.li.map xE) false),(1002,.arr 1 (c.nx.map iA) false),(3,.box [zE xN j.ph,zE iA j.cf,iA j.st]),(4,.box [zE xE c.li,iA c.gr,zE iA c.nx,iA c.wt]),(6,.box [.s (.slice none 0 0),iA 0,.s (.slice none 0 0),iA 0])]⟩ rfl ?_ ?_
 .clear k1 Y E G M;by_cases a1:0<=t
  .by_cases a2:t<j.ph.length
   .rw[show ZS j t=true from zA7 ⟨a1,a2⟩];refine WW ?_;exact⟨rfl,rfl⟩
   .rw[show ZS j t=false from zA6 (λh=>a2 h.2)];refine WW ?_;exact⟨rfl,rfl⟩
  .rw[show ZS j t=false from zA6 (λh=>a1 h.1)];refine WW ?_;exact⟨rfl,rfl⟩
 clear k1 Y E G;refine WW ?_;refine zO (j.ph.length) [1001,3,4,6,3000,1002] [3,4,6,3000,1002] [2,3,4,6,7,8,51,52] [53,2,3,4,6,7,8,51,52] Z (λi T U=>⟨(53,iA i)::T,(1001,.arr 2 ((MC j c t i).map xE) false)::U⟩) ?_;(conv=>whnf);refine⟨by(rw[I];rfl),?_,?_⟩
 .intro i hi;have hy:=zJ xN j.ph i hi
  change (j.ph.map xN)[i]? =some (xN (yG j i))at hy
  have ar:=zJ xE c.li i zB
  change (c.li.map xE)[i]? =some (xE (xT c i))at ar
  have W:∃l,((MC j c t i).map xE)[i]? =some (xE l):=⟨_,zJ xE (MC j c t i) i (by rw[PW];exact hi)⟩;obtain⟨lm,W⟩:=W;have a5:=J.ti i hi;have a6:=om (C.k i hi) zB zB;have ap:dy (yG j i):=⟨zB,zB,zB,zB⟩;have au:=hN i;have ls:=λlv=>gu (yG j i) ap (xT c i) zB lv
  have ck:=gW j.cf zB i t;have es:=BP j c t i;have em:(MC j c t (i+1)).map xE=((MC j c t i).map xE).set i (xE (BQ (yG j i) (xT c i) (GR j c t i))):=by rw[es,zCs]
  rw[em];have u:GR j c t i=_:=rfl
  conv at u=>rhs;unfold GR
  have z:=ls (GR j c t i);clear ls es em M hN I L;generalize BQ (yG j i) (xT c i) (GR j c t i)=ln,(MC j c t i).map xE=xs at *;generalize GR j c t i=lv at *;generalize kK j.cf i t=cq at*
  cases R:ZS j t with
  |false=>
   rw[R]at u;rw[Os xA]at u;generalize yG j i=ph,xT c i=l at *;by_cases O:ph.maxg<=l.tk+1
   .rw[zA7 O]at u;subst u;refine zU z ?_;rfl
   .rw[zA6 O]at u;subst u;refine zU z ?_;rfl
  | true=>
   rw[R]at u;rw[zA4 Z]at u;generalize yG j i=ph,xT c i=l at *;by_cases V:(i:Int)=t
   .rw[zA6 (λh=>h V)]at u;rw[zB7]at u;subst u;by_cases O:ph.maxg<=l.tk+1
    all_goals
     (refine zU z ?_)
     rfl
   rw[zA7 V,zBg]at u;by_cases O:ph.maxg<=l.tk+1
   .rw[zA7 O,zDs]at u;subst u;refine zU z ?_;rfl
   .rw[zA6 O,zDj]at u;rw[u]at z;clear u
    cases cq with
    |true=>
     refine yH (xU ck z) ?_;rfl
    |false=>
     refine yH (xU ck z) ?_;rfl
 .rw[L];have e1:((UX j c t).map xE).length=j.ph.length:=by simp[UX]
  clear L I hN
  cases R:ZS j t with
  | true=>
   rw[zA4 Z];unfold ZS at R;rw[zBb]at R;obtain⟨B,rfl⟩:∃B:Nat,t=B:=⟨t.toNat,zB⟩;rw[zBu];have cs:=qu j J ⟨UX j c B,c.gr,c.nx,c.wt⟩ M h0 B zB;unfold qW at cs;dsimp only at cs;rw[e1]at cs;generalize jB j B (jB j B ⟨UX j c B,c.gr,c.nx,c.wt⟩ 0) 1=A,(if(jB j B ⟨UX j c B,c.gr,c.nx,c.wt⟩ 0).gr=c.gr then(jB j B ⟨UX j c B,c.gr,c.nx,c.wt⟩ 0).nx else c.nx)=o,(UX j c B).map xE=xs at *;clear M
   cases hE:decide (A.gr≠c.gr)with
   |true=>
    rw[hE,show WK true A o=aP A o from Z]at cs;unfold aP at cs;clear hE;refine zU cs ?_;exact zI [] Z Z (kY A) Z
   |false=>
    rw[hE,show WK false A o=qW A 1002 from Z]at cs;unfold qW at cs;clear hE;refine zU cs ?_;exact zI [] Z Z (kY A) Z
  | false=>
   rw[Os xA];have cs:=ku j J ⟨UX j c t,c.gr,c.nx,c.wt⟩ M h0;unfold qW at cs;dsimp only at cs;rw[e1]at cs;generalize Xb j ⟨UX j c t,c.gr,c.nx,c.wt⟩=A,ij ⟨UX j c t,c.gr,c.nx,c.wt⟩=e,(UX j c t).map xE=xs at *;clear M
   cases e with
   |true=>
    rw[show WK true A c.nx=aP A c.nx from Z]at cs;unfold aP at cs;refine zU cs ?_;exact zI [] Z Z (kY A) Z
   |false=>
    rw[show WK false A c.nx=qW A 1002 from Z]at cs;unfold qW at cs;refine zU cs ?_;exact zI [] Z Z (kY A) Z
