/- Part 22. -/
import Derived.Test.YtaglbcjljlkjcaaGreatU21
namespace Go.Proofs.YtaglbcjljlkjcaaGreat.Av
open Tryz
set_option linter.all false
set_option maxRecDepth 4000
set_option maxHeartbeats 1000000
open List renaming length->ln,getD->pi
open Inhabited renaming default->dd
variable {c:Ct}{r:Int}{j:Jn}
theorem MA {p:Nat->Bool}:∀(l:List Nat) (i x:Nat),l[i]? =some x->(∀y∈l.take i,p y=false)->p x=true->l.find? p=some x
 | [],i,x,h,_,_=>by simp at h
 |y::l,0,x,h,_,u=>by
  simp at h;subst h;rw[List.find?_cons,u]
 |y::l,i+1,x,h,A,u=>by
  rw[List.find?_cons,A y zV];exact MA l i x NH (λz B=>A z (by simp[B])) u
def PQ {p:Nat->Bool} {l:List Nat} (h:∀y∈l,p y=false):l.find? p=none:=List.find?_eq_none.2 λy u=>by rw[h y u];decide
theorem RC {l:List Nat} {i x z:Nat} (u:l[i]? =some x) (A:z∈l.take (i+1)):z∈l.take i\/z=x:=by grind [List.take_add_one]
def VE (j:Jn) (U:ln j.ph<=1000) (r g f:Int):zN 259 [wD j,iA r,iA g,iA f] [] (iA (jH j r g f)) []:=by
 have c:=Wm j r;unfold Oh at c;have hl:=zA xN j.ph;refine eM call259 λF hF=>?_
 refine zS c ?_;refine qN hF (nc j U r) Z [4,6,7,8] [4,6,7,8] Z Z Z Z Z Z Z Z Z (λi ys h=>?_) (λ_=>[(4,.box [zE xN j.ph,zE iA j.cf,iA j.st]),(6,.box [iA g]),(7,.box [iA f]),(8,.box [iA 0])]) (λi=>∀x∈(QU j r).take i,(decide (f<=(x:Int))&&(yG j x).group==g)=false) (T:=[(4,.ptr 4 0 0),(6,.ptr 6 0 0),(7,.ptr 7 0 0),(8,.ptr 8 0 0)]) Z zV (λi ys y C B S h1 h2=>?_) (λB=>?_)
 .rw[zA1,zBc]at h;obtain⟨x,_,rfl⟩:=h;rfl
 .rw[zA1,zBc]at C;obtain⟨x,E,rfl⟩:=C
  show uE _ S _ _ ⟨[(13,iA (x:Int)),(4,.ptr 4 0 0),(6,.ptr 6 0 0),(7,.ptr 7 0 0),(8,.ptr 8 0 0)],[(4,.box [zE xN j.ph,zE iA j.cf,iA j.st]),(6,.box [iA g]),(7,.box [iA f]),(8,.box [iA 0])]⟩ _
  have L:=(cT.1 (zCf E)).1;have hy:(j.ph.map xN)[x]? =some (xN (yG j x)):=zJ xN j.ph x L
  have u:(decide (f<=(x:Int))&&(yG j x).group==g)=false->∀z∈(QU j r).take (i+1),(decide (f<=(z:Int))&&(yG j z).group==g)=false:=λhb z V=>by
   rcases RC E V with h|rfl
   .exact B z h
   .exact hb
  have G:(decide (f<=(x:Int))&&(yG j x).group==g)=true->jH j r g f=x:=λhb=>by
   unfold jH;rw[MA _ i x E B hb]
  clear B E;generalize yG j x=t at *;refine WW ?_;refine⟨rfl,λW Y g2=>?_⟩;by_cases M:f<=(x:Int)
  .by_cases O:t.group=g
   .rw[G (by rw[zAw M,zB8.2 O];rfl)];exact mx
   .have A:=u (by rw[zBn.2 O,zCs]);refine WW ?_;exact⟨rfl,A⟩
  .have A:=u (by rw[zAu M,zBt]);refine WW ?_;exact⟨rfl,A⟩
 .rw[zAt,zAv]at B
  have I:jH j r g f= -1:=by
   unfold jH;rw[PQ B]
  rw[I];exact mx
def Q0 (j:Jn) (U:ln j.ph<=1000) (c:Ct) (hc:ln c.li=ln j.ph) (r:Int):zN 323 [wD j,JU c,iA r] [] (bA (VH j c r)) []:=by
 have L:=Wm j r;unfold Oh at L;have hl:=zA xN j.ph;have S:=zA xE c.li;refine eM call323 λF hF=>?_
 refine zS L ?_;refine qN hF (nc j U r) Z [3,4,6] [3,4,6] Z Z Z Z Z Z Z Z Z (λi ys h=>?_) (λ_=>[(3,.box [zE xN j.ph,zE iA j.cf,iA j.st]),(4,.box [zE xE c.li,iA c.gr,zE iA c.nx,iA c.wt]),(6,.box [bA false])]) (λi=>∀x∈(QU j r).take i,((xR c x).lamp==0)=true) (T:=[(3,.ptr 3 0 0),(4,.ptr 4 0 0),(6,.ptr 6 0 0)]) Z zV (λi ys y B A O h1 h2=>?_) (λA=>?_)
 .rw[zA1,zBc]at h;obtain⟨x,_,rfl⟩:=h;rfl
 .rw[zA1,zBc]at B;obtain⟨x,I,rfl⟩:=B
  show uE _ O _ _ ⟨[(11,iA (x:Int)),(3,.ptr 3 0 0),(4,.ptr 4 0 0),(6,.ptr 6 0 0)],[(3,.box [zE xN j.ph,zE iA j.cf,iA j.st]),(4,.box [zE xE c.li,iA c.gr,zE iA c.nx,iA c.wt]),(6,.box [bA false])]⟩ _
  have u:=zCf I;have V:=(cT.1 u).1;have hy:(c.li.map xE)[x]? =some (xE (xR c x)):=zJ xE c.li x zB
  have C:((xR c x).lamp==0)=true->∀z∈(QU j r).take (i+1),((xR c z).lamp==0)=true:=λhb z W=>by
   rcases RC I W with h|rfl
   .exact A z h
   .exact hb
  have E:((xR c x).lamp==0)=false->VH j c r=false:=λhb=>by
   unfold VH;exact zD0.2 ⟨x,u,by rw[hb];decide⟩
  clear A I;generalize xR c x=t at *;refine WW ?_;refine⟨rfl,λY g1 g2=>?_⟩;by_cases M:t.lamp=0
  .have G:=C (zB8.2 M);refine WW ?_;exact⟨rfl,G⟩
  .rw[E (zBn.2 M)];exact mx
 .rw[zAt,zAv]at A;have hd:VH j c r=true:=zA7.2 A;rw[hd];exact mx
def aj (j:Jn) (r t:Int) (i:Nat):Int:=match ((QU j r).take i).find? (λp:Nat=>!kC j.cf p t)with
 |some p=>p
 |none=> -1
theorem jm {t:Int} {i x:Nat} (u:(QU j r)[i]? =some x):aj j r t (i+1)=if kC j.cf x t=true then aj j r t i else if aj j r t i= -1 then(x:Int)else aj j r t i:=by
 unfold aj;rw[zDs,u,List.find?_append]
 grind
theorem N0 (j:Jn) (hn:ln j.ph<=1000) (O:ln j.cf<=40) (c:Ct) (hm:ln c.nx=2) (r t:Int) (hr:0<=r/\r<2):zN 324 [wD j,JU c,iA r,iA t] [] (iA (EL j (c.nx.getD r.toNat dd) r t)) []:=by
 have Y:=Wm j r;unfold Oh at Y;have hl:=zA xN j.ph;have ac:=zA iA c.nx;have ap:=yE iA c.nx r hr.1 zB;generalize V:c.nx.getD r.toNat dd=A at *;refine eM call324 λF hF=>?_
 refine zS Y ?_;refine qN hF (nc j hn r) Z [4,5,6,7,8,9] [4,5,6,7,8,9] Z Z Z Z Z Z Z Z Z (λi ys h=>?_) (λi=>[(4,.box [zE xN j.ph,zE iA j.cf,iA j.st]),(5,.box [zE xE c.li,iA c.gr,zE iA c.nx,iA c.wt]),(6,.box [iA r]),(7,.box [iA t]),(8,.box [iA 0]),(9,.box [iA (aj j r t i)])]) (λi=>∀x∈(QU j r).take i,(!kC j.cf x t&&decide (A≠ -1/\A<=(x:Int)))=false) (T:=[(4,.ptr 4 0 0),(5,.ptr 5 0 0),(6,.ptr 6 0 0),(7,.ptr 7 0 0),(8,.ptr 8 0 0),(9,.ptr 9 0 0)]) Z zV (λi ys y M G F1 h1 h2=>?_) (λG=>?_)
 .rw[zA1,zBc]at h;obtain⟨x,_,rfl⟩:=h;rfl
 .rw[zA1,zBc]at M;obtain⟨x,L,rfl⟩:=M
  show uE _ F1 _ _ ⟨[(14,iA (x:Int)),(4,.ptr 4 0 0),(5,.ptr 5 0 0),(6,.ptr 6 0 0),(7,.ptr 7 0 0),(8,.ptr 8 0 0),(9,.ptr 9 0 0)],[(4,.box [zE xN j.ph,zE iA j.cf,iA j.st]),(5,.box [zE xE c.li,iA c.gr,zE iA c.nx,iA c.wt]),(6,.box [iA r]),(7,.box [iA t]),(8,.box [iA 0]),(9,.box [iA (aj j r t i)])]⟩ _
  have ag:=(cT.1 (zCf L)).1;have E:=gU j.cf O x t;have B:=jm (t:=t) L
  have C:(!kC j.cf x t&&decide (A≠ -1/\A<=(x:Int)))=false->∀z∈(QU j r).take (i+1),(!kC j.cf z t&&decide (A≠ -1/\A<=(z:Int)))=false:=λhb z hz=>by
   rcases RC L hz with h|rfl
   .exact G z h
   .exact hb
  have S:(!kC j.cf x t&&decide (A≠ -1/\A<=(x:Int)))=true->EL j A r t=x:=λhb=>by
   unfold EL;rw[MA _ i x L G hb]
  clear G L V;generalize kC j.cf x t=q,aj j r t (i+1)=l2,aj j r t i=W at *;refine WW ?_;refine⟨rfl,λF2 g1 g2=>?_⟩
  cases q with
  |true=>
   rw[zAs Z]at B;have u:=C Z;subst B;refine zS E ?_;exact⟨rfl,u⟩
  |false=>
  rw[Os yY]at B;by_cases h3:A= -1
  .have u:=C (by rw[zAu (λh=>h.1 h3)];rfl);by_cases I:W= -1
   .rw[zAs I]at B;subst B;refine zS E ?_;exact⟨rfl,u⟩
   .rw[Os I]at B;subst B;refine zS E ?_;exact⟨rfl,u⟩
  by_cases h5:A<=(x:Int)
  .rw[S (by rw[zAw ⟨h3,h5⟩];rfl)];exact nl E
  .have u:=C (by rw[zAu (λh=>h5 h.2)];rfl);by_cases I:W= -1
   .rw[zAs I]at B;subst B;refine zS E ?_;exact⟨rfl,u⟩
   .rw[Os I]at B;subst B;refine zS E ?_;exact⟨rfl,u⟩
 .rw[zAt,zAv]at G
  have U:EL j A r t=aj j r t (QU j r).length:=by
   unfold EL aj;rw[PQ G,zAv];rfl
  rw[U,zAt];generalize aj j r t (QU j r).length=W at *;exact mx
def uV {TT:List TI} {z:List ResultVar} {u:List (Nat×xW)} {r:AV} {h1:List (Nat×xW)} {st:St} {vs:List AV} (K:List Nat) (h:LZ TT st z=some vs) (A:(xC u).all (K.contains ·)=true) (B:wW K (zD st.h) (DS vs)=r) (hh:wX K (zD st.h)=h1):
 Fin TT z u r h1 .normal st:=⟨.inl Z,vs,K,h,A,.inl B.symm,by rw[hh]⟩
def pj (u z:Int):Nat->List AV
 |0=>[iA 0,iA 0]
 |1=>[iA u,iA 0]
 |_+2=>[iA u,iA z]
def Be (j:Jn) (G:ln j.ph<=1000) (g S E:Int) (L N:List AV) (C W:Nat):zN 208 [wD j,.ptr 3000 0 0,iA g] [(3000,.box [.ref 1001 0 C,iA S,.ref 1002 0 W,iA E]),(1001,.arr 2 L false),(1002,.arr 1 N false)] (.tup [])
  [(3000,.box [.ref 1001 0 C,iA g,.ref 2001 0 2,iA E]),(1001,.arr 2 L false),(1002,.arr 1 N false),(2001,.arr 1 [iA (jH j 0 g 0),iA (jH j 1 g 0)] false)]:=by
 have I:=VE j G 0 g 0;have M:=VE j G 1 g 0;generalize jH j 0 g 0=u,jH j 1 g 0=z at *;obtain⟨B,A⟩:∃n:Nat,n=2:=⟨2,rfl⟩;refine eM call208 λF hF=>?_
 (repeat' (first|refine uS ?_|apply yW|apply xH|intro hc|(apply zG;first|(apply fQ;refine bE 2001 tok Z Z Z Z Z Z Z Z Z Z Z Z Z zB zB Z Z Z ?_))|fail))
 refine zO (B) [3000,2001,3,1001,1002] [3,1001,1002] [1,2,3] [20,19,1,2,3] Z (λi T U=>⟨(20,iA i)::(19,iA B)::T,(3000,.box [.ref 1001 0 C,iA g,.ref 2001 0 B,iA E])::(2001,.arr 1 (pj u z i) false)::U⟩) ?_;(conv=>whnf);refine⟨by(rw[A];rfl),?_,?_⟩
 .intro i hi;have:i=0\/i=1:=by omega
  rcases this with rfl|rfl
  .have V:(pj u z 0)[((0:Nat):Int).toNat]? =some (iA 0):=rfl;have hl:(pj u z 0).length=2:=rfl;refine zS I ?_;rfl
  .have V:(pj u z 1)[((1:Nat):Int).toNat]? =some (iA 0):=rfl;have hl:(pj u z 1).length=2:=rfl;refine zS M ?_;rfl
 .have O:pj u z B=[iA u,iA z]:=by rw[A];rfl
  rw[O];refine WW ?_;subst A;exact uV [3000,1001,1002,2001] Z Z Z Z
def qU (c:Ct) (kn:Nat):List (Nat×xW):=[(3000,.box [.ref 1001 0 (c.li.map xE).length,iA c.gr,.ref kn 0 (c.nx.map iA).length,iA c.wt]),(1001,.arr 2 (c.li.map xE) false),(kn,.arr 1 (c.nx.map iA) false)]
def aN (c:Ct) (o:List Int):List (Nat×xW):=[(3000,.box [.ref 1001 0 (c.li.map xE).length,iA c.gr,.ref 2001 0 (c.nx.map iA).length,iA c.wt]),(1001,.arr 2 (c.li.map xE) false),(1002,.arr 1 (o.map iA) false),(2001,.arr 1 (c.nx.map iA) false)]
theorem YX (j:Jn) (hn:ln j.ph<=1000) (G:ln j.cf<=40) (c:Ct) (hc:ln c.li=ln j.ph) (hm:ln c.nx=2) (p:Nat) (hp:p<ln j.ph) (hr:0<=(yG j p).ring/\(yG j p).ring<=1) (E:dQ j c p=true\/c.gr=(yG j p).group):
  zN 325 [wD j,.ptr 3000 0 0,iA (p:Int)] (qU c 1002) (.tup []) (qU (uD j c p) 1002):=by
 have ar:=zA xN j.ph;have ag:=zA xE c.li;have ap:=zA iA c.nx;have I:=zJ xN j.ph p hp
 change (j.ph.map xN)[p]? =some (xN (yG j p))at I
 have L:=VE j hn (yG j p).ring (yG j p).group (p+1);unfold uD;by_cases hk:dQ j c p=true
 case pos=>
  rw[zAs hk];unfold dQ at hk;rw[zCl]at hk;obtain⟨M,V,hk⟩:=hk;rw[zBj]at V;unfold qU;refine eM call325 λF hF=>?_
  refine WW ?_;refine yU (ln c.li) [3,3000,1001,1002] [3,3000,1001,1002] [1,2,3,12,13] [14,1,2,3,12,13] Z (λi T U zs=>(i<=M)/\zs=⟨(14,iA i)::T,U⟩) (Lp ?_ ?_ ?_)
  .exact⟨zBb _,rfl⟩
  .rintro i st hi ⟨hiq,rfl⟩;have Y:=zJ xE c.li i hi
   change (c.li.map xE)[i]? =some (xE (xR c i))at Y
   have A:=gU j.cf G p i;by_cases hb:((xR c i).lamp != 0&&kC j.cf p i)=true
   .rw[zA4]at hb;have h1:(xR c i).lamp≠0:=by simpa using hb.1
    rw[hb.2]at A;generalize xR c i=t at *;clear hb L hk;refine zS A ?_;exact zP [3000,1001,1002] Z Z Z Z
   .have au:i<M:=by
     rcases zF7 i M with h|h
     .exact h
     .rw[show i=M by omega]at hb;exact absurd hk hb
    rw[zA4]at hb;by_cases h1:(xR c i).lamp=0
    .generalize xR c i=t at *;clear hb hk;refine WW ?_;exact⟨zB,rfl⟩
    .have z:kC j.cf p i=false:=by
      cases z:kC j.cf p i with
      |false=>rfl
      |true=>exact absurd ⟨by simpa using h1,z⟩ hb
     rw[z]at A;generalize xR c i=t at *;clear hb hk;refine zS A ?_;exact⟨zB,rfl⟩
  .rintro st ⟨hiq,rfl⟩;exfalso;omega
 have u:dQ j c p=false:=by simpa using hk
 have S:c.gr=(yG j p).group:=by
  rcases E with E|E
  .exact absurd E hk
  .exact E
 rw[Os hk];have eb:MD j c p=BM c p:=by unfold MD;rw[zAs S]
 rw[eb];unfold dQ at u;rw[zDc]at u;have O:∀q,q<ln c.li->((xR c q).lamp != 0&&kC j.cf p q)=false:=λq z=>by simpa using u q (zBj.2 z)
 unfold BM qU;dsimp only;rw[zCe,zCe,zB9,zB9];clear u hk eb E;generalize jH j (yG j p).ring (yG j p).group (p+1)=fo at *;obtain⟨rn,B⟩:∃n:Nat,(yG j p).ring=n:=⟨(yG j p).ring.toNat,zB⟩;have C:=zJ xE c.li p zB;have ac:=zJ iA c.nx rn zB;generalize W:xR c p=l0 at*
 change (c.li.map xE)[p]? =some (xE (xR c p))at C
 rw[W]at C;generalize c.nx.getD rn dd=n0 at *;refine eM call325 λF hF=>?_
 refine WW ?_;refine zO (ln c.li) [3,3000,1001,1002] [3,3000,1001,1002] [1,2,3,12,13] [14,1,2,3,12,13] Z (λi T U=>⟨(14,iA i)::T,U⟩) (Lq ?_ ?_)
 .intro i hi;have Y:=zJ xE c.li i hi
  change (c.li.map xE)[i]? =some (xE (xR c i))at Y
  have A:=gU j.cf G p i;have hb:=O i hi;clear O C ac L;by_cases h1:(xR c i).lamp=0
  .generalize xR c i=t at *;clear hb;refine WW ?_;rfl
  .have z:kC j.cf p i=false:=by
    cases z:kC j.cf p i with
    |false=>rfl
    |true=>
     rw[z,zDe]at hb;exact absurd JK h1
   rw[z]at A;generalize xR c i=t at *;clear hb;refine zS A ?_;rfl
 .clear O;generalize yG j p=t at *;rw[B,zBh];have et:xN t= .agg [iA rn,iA t.group,iA t.ming,iA t.maxg,iA t.yel,iA t.red,iA t.walk,iA t.clear]:=by rw[<-B];rfl
  rw[et]at I;rw[B]at L;refine zS L ?_;exact uV [3000,1001,1002] Z Z Z Z
theorem PR (j:Jn) (hn:ln j.ph<=1000) (G:ln j.cf<=40) (c:Ct) (hc:ln c.li=ln j.ph) (hm:ln c.nx=2) (p:Nat) (hp:p<ln j.ph) (hr:0<=(yG j p).ring/\(yG j p).ring<=1) (E:dQ j c p=true\/c.gr=(yG j p).group):
  zN 325 [wD j,.ptr 3000 0 0,iA (p:Int)] (qU c 2001) (.tup []) (qU (uD j c p) 2001):=by
 have ar:=zA xN j.ph;have ag:=zA xE c.li;have ap:=zA iA c.nx;have I:=zJ xN j.ph p hp
 change (j.ph.map xN)[p]? =some (xN (yG j p))at I
 have L:=VE j hn (yG j p).ring (yG j p).group (p+1);unfold uD;by_cases hk:dQ j c p=true
 case pos=>
  rw[zAs hk];unfold dQ at hk;rw[zCl]at hk;obtain⟨M,V,hk⟩:=hk;rw[zBj]at V;unfold qU;refine eM call325 λF hF=>?_
  refine WW ?_;refine yU (ln c.li) [3,3000,1001,2001] [3,3000,1001,2001] [1,2,3,12,13] [14,1,2,3,12,13] Z (λi T U zs=>(i<=M)/\zs=⟨(14,iA i)::T,U⟩) (Lp ?_ ?_ ?_)
  .exact⟨zBb _,rfl⟩
  .rintro i st hi ⟨hiq,rfl⟩;have Y:=zJ xE c.li i hi
   change (c.li.map xE)[i]? =some (xE (xR c i))at Y
   have A:=gU j.cf G p i;by_cases hb:((xR c i).lamp != 0&&kC j.cf p i)=true
   .rw[zA4]at hb;have h1:(xR c i).lamp≠0:=by simpa using hb.1
    rw[hb.2]at A;generalize xR c i=t at *;clear hb L hk;refine zS A ?_;exact zP [3000,1001,2001] Z Z Z Z
   .have au:i<M:=by
     rcases zF7 i M with h|h
     .exact h
     .rw[show i=M by omega]at hb;exact absurd hk hb
    rw[zA4]at hb;by_cases h1:(xR c i).lamp=0
    .generalize xR c i=t at *;clear hb hk;refine WW ?_;exact⟨zB,rfl⟩
    .have z:kC j.cf p i=false:=by
      cases z:kC j.cf p i with
      |false=>rfl
      |true=>exact absurd ⟨by simpa using h1,z⟩ hb
     rw[z]at A;generalize xR c i=t at *;clear hb hk;refine zS A ?_;exact⟨zB,rfl⟩
  .rintro st ⟨hiq,rfl⟩;exfalso;omega
 have u:dQ j c p=false:=by simpa using hk
 have S:c.gr=(yG j p).group:=by
  rcases E with E|E
  .exact absurd E hk
  .exact E
 rw[Os hk];have eb:MD j c p=BM c p:=by unfold MD;rw[zAs S]
 rw[eb];unfold dQ at u;rw[zDc]at u;have O:∀q,q<ln c.li->((xR c q).lamp != 0&&kC j.cf p q)=false:=λq z=>by simpa using u q (zBj.2 z)
 unfold BM qU;dsimp only;rw[zCe,zCe,zB9,zB9];clear u hk eb E;generalize jH j (yG j p).ring (yG j p).group (p+1)=fo at *;obtain⟨rn,B⟩:∃n:Nat,(yG j p).ring=n:=⟨(yG j p).ring.toNat,zB⟩;have C:=zJ xE c.li p zB;have ac:=zJ iA c.nx rn zB;generalize W:xR c p=l0 at*
 change (c.li.map xE)[p]? =some (xE (xR c p))at C
 rw[W]at C;generalize c.nx.getD rn dd=n0 at *;refine eM call325 λF hF=>?_
 refine WW ?_;refine zO (ln c.li) [3,3000,1001,2001] [3,3000,1001,2001] [1,2,3,12,13] [14,1,2,3,12,13] Z (λi T U=>⟨(14,iA i)::T,U⟩) (Lq ?_ ?_)
 .intro i hi;have Y:=zJ xE c.li i hi
  change (c.li.map xE)[i]? =some (xE (xR c i))at Y
  have A:=gU j.cf G p i;have hb:=O i hi;clear O C ac L;by_cases h1:(xR c i).lamp=0
  .generalize xR c i=t at *;clear hb;refine WW ?_;rfl
  .have z:kC j.cf p i=false:=by
    cases z:kC j.cf p i with
    |false=>rfl
    |true=>
     rw[z,zDe]at hb;exact absurd JK h1
   rw[z]at A;generalize xR c i=t at *;clear hb;refine zS A ?_;rfl
 .clear O;generalize yG j p=t at *;rw[B,zBh];have et:xN t= .agg [iA rn,iA t.group,iA t.ming,iA t.maxg,iA t.yel,iA t.red,iA t.walk,iA t.clear]:=by rw[<-B];rfl
  rw[et]at I;rw[B]at L;refine zS L ?_;exact uV [3000,1001,2001] Z Z Z Z
theorem PS (j:Jn) (hn:ln j.ph<=1000) (L:ln j.cf<=40) (c:Ct) (hc:ln c.li=ln j.ph) (hm:ln c.nx=2) (p:Nat) (hp:p<ln j.ph) (hr:0<=(yG j p).ring/\(yG j p).ring<=1) (u:dQ j c p=false) (O:c.gr≠(yG j p).group):
  zN 325 [wD j,.ptr 3000 0 0,iA (p:Int)] (qU c 1002) (.tup []) (aN (uD j c p) c.nx):=by
 have ap:=zA xN j.ph;have ac:=zA xE c.li;have ag:=zA iA c.nx;have E:=zJ xN j.ph p hp
 change (j.ph.map xN)[p]? =some (xN (yG j p))at E
 have G:=VE j hn (yG j p).ring (yG j p).group (p+1);unfold uD;rw[Os (by rw[u];decide)];have Y:MD j c p=QD j (BM c p) (yG j p).group:=by unfold MD;rw[Os O]
 rw[Y];unfold dQ at u;rw[zDc]at u;have I:∀q,q<ln c.li->((xR c q).lamp != 0&&kC j.cf p q)=false:=λq C=>by simpa using u q (zBj.2 C)
 have V:=Be j hn (yG j p).group c.gr c.wt ((c.li.map xE).set p (xE ⟨1,0⟩)) (c.nx.map iA) (c.li.map xE).length (c.nx.map iA).length;unfold QD BM qU aN;dsimp only;rw[zCe,zCe,zB9,zB9];rw[show([jH j 0 (yG j p).group 0,jH j 1 (yG j p).group 0].map iA)=[iA (jH j 0 (yG j p).group 0),iA (jH j 1 (yG j p).group 0)]from Z];have M:(([iA (jH j 0 (yG j p).group 0),iA (jH j 1 (yG j p).group 0)]:List AV)).length=2:=rfl;rw[M]
 have A:∃v,([iA (jH j 0 (yG j p).group 0),iA (jH j 1 (yG j p).group 0)]:List AV)[(yG j p).ring.toNat]? =some (iA v):=by
  have:(yG j p).ring=0\/(yG j p).ring=1:=by omega
  rcases this with h|h<;>rw[h]
  all_goals exact⟨_,rfl⟩
 obtain⟨v0,A⟩:=A;generalize ([iA (jH j 0 (yG j p).group 0),iA (jH j 1 (yG j p).group 0)]:List AV)=fx at *;clear u Y;generalize jH j (yG j p).ring (yG j p).group (p+1)=fo at *;obtain⟨rn,z⟩:∃n:Nat,(yG j p).ring=n:=⟨(yG j p).ring.toNat,zB⟩;have B:=zJ xE c.li p zB;rw[z,zBh]at A;generalize S:xR c p=l0 at*
 change (c.li.map xE)[p]? =some (xE (xR c p))at B
 rw[S]at B;refine eM call325 λF hF=>?_
 refine WW ?_;refine zO (ln c.li) [3,3000,1001,1002] [3,3000,1001,1002] [1,2,3,12,13] [14,1,2,3,12,13] Z (λi T U=>⟨(14,iA i)::T,U⟩) (Lq ?_ ?_)
 .intro i hi;have hy:=zJ xE c.li i hi
  change (c.li.map xE)[i]? =some (xE (xR c i))at hy
  have W:=gU j.cf L p i;have hb:=I i hi;clear I B G V;by_cases h1:(xR c i).lamp=0
  .generalize xR c i=t at *;clear hb;refine WW ?_;rfl
  .have C:kC j.cf p i=false:=by
    cases C:kC j.cf p i with
    |false=>rfl
    |true=>
     rw[C,zDe]at hb;exact absurd JK h1
   rw[C]at W;generalize xR c i=t at *;clear hb;refine zS W ?_;rfl
 .clear I;generalize yG j p=t at *;rw[z,zBh];have et:xN t= .agg [iA rn,iA t.group,iA t.ming,iA t.maxg,iA t.yel,iA t.red,iA t.walk,iA t.clear]:=by rw[<-z];rfl
  rw[et]at E;rw[z]at G;refine yF (xQ V G) ?_;exact uV [3000,1001,1002,2001] Z Z Z Z
def yu (c:Ct):AV:= .agg [.sl false ((c.li.map xE).take (c.li.map xE).length),iA c.gr,.sl false ((c.nx.map iA).take (c.nx.map iA).length),iA c.wt]
def jA (c:Ct):yu c=JU c:=by unfold yu;rw[zAv,zAv];rfl
def VF (j:Jn) (u:ln j.ph<=1000) (c:Ct) (hc:ln c.li=ln j.ph) (r:Int):zN 323 [wD j,yu c,iA r] [] (bA (VH j c r)) []:=by rw[jA];exact Q0 j u c hc r
def bc (j:Jn) (A:ln j.ph<=1000) (u:ln j.cf<=40) (c:Ct) (z:ln c.nx=2) (r t:Int) (B:0<=r/\r<2):zN 324 [wD j,yu c,iA r,iA t] [] (iA (EL j (c.nx.getD r.toNat dd) r t)) []:=by rw[jA];exact N0 j A u c z r t B
def VG (J:JV j) {t:Nat} (B:t<ln j.ph) (h:aW j c r t≠ -1):∃p:Nat,aW j c r t=p/\p<ln j.ph/\(yG j p).group=(yG j t).group:=by
 unfold aW at h⊢;split
 .grind
 .rename_i A;rw[Os A]at h
  rcases BO j (c.nx.getD r.toNat dd) r t with h1|⟨p,h1,h2,_,h4⟩
  .exact absurd h1 h
  .refine⟨p,h1,h2,?_⟩;by_cases u:p=t
   .rw[u]
   .exact zDd λz=>by
     have:=J.ap p t h2 B u (.inr z)
     grind
theorem jX (j:Jn) (c:Ct) (p:Nat):(dQ j c p=true/\uD j c p=c)\/(dQ j c p=false/\(uD j c p).gr=(yG j p).group):=by
 unfold uD;split
 .grind
 .rename_i h;refine .inr ⟨by simpa using h,?_⟩;dsimp only;unfold MD;split
  .rename_i h2;exact h2
  .rfl
def WI (e:Bool) (c:Ct) (o:List Int):List (Nat×xW):=if e=true then aN c o else qU c 1002
def dm (J:JV j) {t:Nat} (A:t<ln j.ph):(jC j t c r).gr=c.gr\/(jC j t c r).gr=(yG j t).group:=by
 unfold jC;split
 .split
  .exact .inl Z
  .rename_i h;obtain⟨p,u,B,z⟩:=VG J (c:=c) (r:=r) A h;rw[u,zBh]
   rcases jX j c p with h|h
   all_goals grind
 .exact .inl Z
def bm (e:Bool) (c:Ct) (o:List Int):vX (WI e c o)=true:=by cases e<;>rfl
def Qh (j:Jn) (t:Nat) (e:Bool) (i:Int) (c:Ct) (o:List Int):St:=⟨[(8,iA i),(1,.ptr 3000 0 0),(2,iA t),(3,.ptr 3 0 0)],WI e c o++[(3,.box [zE xN j.ph,zE iA j.cf,iA j.st])]⟩
theorem wu (j:Jn) (J:JV j) (c:Ct) (C:CV j c) (h0:c.wt=0) (t:Nat) (ht:t<ln j.ph):zN 283 [wD j,.ptr 3000 0 0,iA (t:Int)] (qU c 1002) (.tup []) (WI (decide ((jC j t (jC j t c 0) 1).gr≠c.gr)) (jC j t (jC j t c 0) 1) (if(jC j t c 0).gr=c.gr then(jC j t c 0).nx else c.nx)):=by
 have hn:=J.n;have M:ln j.ph<=1000:=by omega
 have a2:=J.c;have a3:=zA xN j.ph;have a1:=zJ xN j.ph t ht
 change (j.ph.map xN)[t]? =some (xN (yG j t))at a1
 have ag:=C.n;have ap:=C.m;obtain⟨C1,ax⟩:=sm J C h0 ht 0;have G:=C1.n;have L:=C1.m;have av:=dm J (c:=c) (r:=0) ht;have I:c.gr=c.gr:=rfl;refine WQ tok func283 Z (λargs w=>call283 args w) Z Z (bm _ _ _) (λF hF=>?_);refine WW ?_;refine gZ [3000,1001,1002,2001,3] [8,1,2,3] (Qh j t false 0 c c.nx) (Qh j t (decide ((jC j t c 0).gr≠c.gr)) 1 (jC j t c 0) c.nx) (Qh j t (decide ((jC j t (jC j t c 0) 1).gr≠c.gr)) 2 (jC j t (jC j t c 0) 1) (if(jC j t c 0).gr=c.gr then(jC j t c 0).nx else c.nx)) Z Z ?_ ?_ ?_
 .unfold Qh;clear C1 av G L ax;rw[show WI false c c.nx=qU c 1002 from Z];unfold qU;have W:=VF j M c ag 0
  cases hd:VH j c 0 with
  |false=>
   rw[hd]at W;rw[show jC j t c 0=c by unfold jC;rw[Os JJ]];rw[show decide (c.gr≠c.gr)=false from zAu (λh=>h I)];clear hd;refine zS W ?_;rfl
  |true=>
  rw[hd]at W
  have z:jC j t c 0=if aW j c 0 t= -1 then c else uD j c (aW j c 0 t).toNat:=by unfold jC;rw[zAs hd]
  by_cases ar:0=(yG j t).ring
  ·
   have hP:aW j c 0 t=t:=by unfold aW;rw[zAs ar]
   rw[hP]at z;rw[Os zB,zBh]at z;by_cases hk:dQ j c t=true\/c.gr=(yG j t).group
   .have U:=YX j M zB c ag ap t ht (J.rg t ht) hk
    have B:(uD j c t).gr=c.gr:=by
     rcases jX j c t with h|h
     .exact(zBd Ct.gr h.2).trans I
     .rcases hk with hk|hk
      .rw[hk]at h;cases h.1
      .exact h.2.trans (hk.symm.trans I)
    rw[z,show decide ((uD j c t).gr≠c.gr)=false from zAu (λh=>h B)];generalize uD j c t=b at *;clear hd z B hk;unfold qU at U;refine yF (xQ W U) ?_;rfl
   .have O:dQ j c t=false:=by
     cases h:dQ j c t with
     |false=>rfl
     |true=>exact absurd (.inl h) hk
    have S:c.gr≠(yG j t).group:=λh=>hk (.inr h)
    have U:=PS j M zB c ag ap t ht (J.rg t ht) O S
    have B:(uD j c t).gr≠c.gr:=by
     rcases jX j c t with h|h
     .rw[O]at h;cases h.1
     .rw[h.2,<-I];exact λh=>S h.symm
    rw[z,show decide ((uD j c t).gr≠c.gr)=true from zAw B];generalize uD j c t=b at *;clear hd z B hk O S;unfold qU aN at U;refine yF (xQ W U) ?_;rfl
  ·
   have cm:=bc j M zB c ap 0 t zB;have hP:aW j c 0 t=EL j (c.nx.getD (0:Int).toNat dd) 0 t:=by unfold aW;rw[Os ar]
   rw[<-hP]at cm;by_cases V:aW j c 0 t= -1
   .rw[zAs V]at z;rw[z];rw[show decide (c.gr≠c.gr)=false from zAu (λh=>h I)];generalize aW j c 0 t=pp at *;clear hP hd z;refine yF (xQ W cm) ?_;rfl
   obtain⟨p,ac,hp,au⟩:=VG J (c:=c) (r:=0) ht V;rw[Os V,ac,zBh]at z;rw[ac]at cm;clear hP V ac;by_cases hk:dQ j c p=true\/c.gr=(yG j p).group
   .have U:=YX j M zB c ag ap p hp (J.rg p hp) hk
    have B:(uD j c p).gr=c.gr:=by
     rcases jX j c p with h|h
     .exact(zBd Ct.gr h.2).trans I
     .rcases hk with hk|hk
      .rw[hk]at h;cases h.1
      .exact h.2.trans (hk.symm.trans I)
    rw[z,show decide ((uD j c p).gr≠c.gr)=false from zAu (λh=>h B)];generalize uD j c p=b at *;clear hd z B hk;unfold qU at U;refine yF (qC W cm U) ?_;rfl
   .have O:dQ j c p=false:=by
     cases h:dQ j c p with
     |false=>rfl
     |true=>exact absurd (.inl h) hk
    have S:c.gr≠(yG j p).group:=λh=>hk (.inr h)
    have U:=PS j M zB c ag ap p hp (J.rg p hp) O S
    have B:(uD j c p).gr≠c.gr:=by
     rcases jX j c p with h|h
     .rw[O]at h;cases h.1
     .rw[h.2,<-I];exact λh=>S h.symm
    rw[z,show decide ((uD j c p).gr≠c.gr)=true from zAw B];generalize uD j c p=b at *;clear hd z B hk O S;unfold qU aN at U;refine yF (qC W cm U) ?_;rfl
 .clear ag ap I;have az:=av;generalize jC j t c 0=u at *;unfold Qh;by_cases A:u.gr=c.gr
  .rw [zAs A,zAu (λh=>h A)];rw[show WI false u c.nx=qU u 1002 from Z];unfold qU;have W:=VF j M u G 1
   cases hd:VH j u 1 with
   |false=>
    rw[hd]at W;rw[show jC j t u 1=u by unfold jC;rw[Os JJ]];rw[show decide (u.gr≠c.gr)=false from zAu (λh=>h A)];clear hd;refine zS W ?_;rfl
   |true=>
   rw[hd]at W
   have z:jC j t u 1=if aW j u 1 t= -1 then u else uD j u (aW j u 1 t).toNat:=by unfold jC;rw[zAs hd]
   by_cases ar:1=(yG j t).ring
   ·
    have hP:aW j u 1 t=t:=by unfold aW;rw[zAs ar]
    rw[hP]at z;rw[Os zB,zBh]at z;by_cases hk:dQ j u t=true\/u.gr=(yG j t).group
    .have U:=YX j M zB u G L t ht (J.rg t ht) hk
     have B:(uD j u t).gr=c.gr:=by
      rcases jX j u t with h|h
      .exact(zBd Ct.gr h.2).trans A
      .rcases hk with hk|hk
       .rw[hk]at h;cases h.1
       .exact h.2.trans (hk.symm.trans A)
     rw[z,show decide ((uD j u t).gr≠c.gr)=false from zAu (λh=>h B)];generalize uD j u t=b at *;clear hd z B hk;unfold qU at U;refine yF (xQ W U) ?_;rfl
    .have O:dQ j u t=false:=by
      cases h:dQ j u t with
      |false=>rfl
      |true=>exact absurd (.inl h) hk
     have S:u.gr≠(yG j t).group:=λh=>hk (.inr h)
     have U:=PS j M zB u G L t ht (J.rg t ht) O S
     have B:(uD j u t).gr≠c.gr:=by
      rcases jX j u t with h|h
      .rw[O]at h;cases h.1
      .rw[h.2,<-A];exact λh=>S h.symm
     rw[z,show decide ((uD j u t).gr≠c.gr)=true from zAw B];generalize uD j u t=b at *;clear hd z B hk O S;unfold qU aN at U;refine yF (xQ W U) ?_;rfl
   ·
    have cm:=bc j M zB u L 1 t zB;have hP:aW j u 1 t=EL j (u.nx.getD (1:Int).toNat dd) 1 t:=by unfold aW;rw[Os ar]
    rw[<-hP]at cm;by_cases V:aW j u 1 t= -1
    .rw[zAs V]at z;rw[z];rw[show decide (u.gr≠c.gr)=false from zAu (λh=>h A)];generalize aW j u 1 t=pp at *;clear hP hd z;refine yF (xQ W cm) ?_;rfl
    obtain⟨p,ac,hp,au⟩:=VG J (c:=u) (r:=1) ht V;rw[Os V,ac,zBh]at z;rw[ac]at cm;clear hP V ac;by_cases hk:dQ j u p=true\/u.gr=(yG j p).group
    .have U:=YX j M zB u G L p hp (J.rg p hp) hk
     have B:(uD j u p).gr=c.gr:=by
      rcases jX j u p with h|h
      .exact(zBd Ct.gr h.2).trans A
      .rcases hk with hk|hk
       .rw[hk]at h;cases h.1
       .exact h.2.trans (hk.symm.trans A)
     rw[z,show decide ((uD j u p).gr≠c.gr)=false from zAu (λh=>h B)];generalize uD j u p=b at *;clear hd z B hk;unfold qU at U;refine yF (qC W cm U) ?_;rfl
    .have O:dQ j u p=false:=by
      cases h:dQ j u p with
      |false=>rfl
      |true=>exact absurd (.inl h) hk
     have S:u.gr≠(yG j p).group:=λh=>hk (.inr h)
     have U:=PS j M zB u G L p hp (J.rg p hp) O S
     have B:(uD j u p).gr≠c.gr:=by
      rcases jX j u p with h|h
      .rw[O]at h;cases h.1
      .rw[h.2,<-A];exact λh=>S h.symm
     rw[z,show decide ((uD j u p).gr≠c.gr)=true from zAw B];generalize uD j u p=b at *;clear hd z B hk O S;unfold qU aN at U;refine yF (qC W cm U) ?_;rfl
  .have E:u.gr≠c.gr:=A
   have Y:u.gr=(yG j t).group:=by
    rcases az with h|h
    .exact absurd h E
    .exact h
   rw[Os A,zAw E];rw[show WI true u c.nx=aN u c.nx from Z];unfold aN;have W:=VF j M u G 1
   cases hd:VH j u 1 with
   |false=>
    rw[hd]at W;rw[show jC j t u 1=u by unfold jC;rw[Os JJ]];rw[show decide (u.gr≠c.gr)=true from zAw E];clear hd;refine zS W ?_;rfl
   |true=>
   rw[hd]at W
   have z:jC j t u 1=if aW j u 1 t= -1 then u else uD j u (aW j u 1 t).toNat:=by unfold jC;rw[zAs hd]
   by_cases ar:1=(yG j t).ring
   ·
    have hP:aW j u 1 t=t:=by unfold aW;rw[zAs ar]
    rw[hP]at z;rw[Os zB,zBh]at z;have U:=PR j M zB u G L t ht (J.rg t ht) (.inr (Y.trans (rfl:(yG j t).group=(yG j t).group).symm))
    have B:(uD j u t).gr≠c.gr:=by
     rcases jX j u t with h|h
     .rw[h.2];exact E
     .rw[h.2,(rfl:(yG j t).group=(yG j t).group),<-Y];exact E
    rw[z,show decide ((uD j u t).gr≠c.gr)=true from zAw B];generalize uD j u t=b at *;clear hd z B;unfold qU at U;refine yF (xQ W U) ?_;rfl
   ·
    have cm:=bc j M zB u L 1 t zB;have hP:aW j u 1 t=EL j (u.nx.getD (1:Int).toNat dd) 1 t:=by unfold aW;rw[Os ar]
    rw[<-hP]at cm;by_cases V:aW j u 1 t= -1
    .rw[zAs V]at z;rw[z];rw[show decide (u.gr≠c.gr)=true from zAw E];generalize aW j u 1 t=pp at *;clear hP hd z;refine yF (xQ W cm) ?_;rfl
    obtain⟨p,ac,hp,au⟩:=VG J (c:=u) (r:=1) ht V;rw[Os V,ac,zBh]at z;rw[ac]at cm;clear hP V ac;have U:=PR j M zB u G L p hp (J.rg p hp) (.inr (Y.trans (au:(yG j p).group=(yG j t).group).symm))
    have B:(uD j u p).gr≠c.gr:=by
     rcases jX j u p with h|h
     .rw[h.2];exact E
     .rw[h.2,(au:(yG j p).group=(yG j t).group),<-Y];exact E
    rw[z,show decide ((uD j u p).gr≠c.gr)=true from zAw B];generalize uD j u p=b at *;clear hd z B;unfold qU at U;refine yF (qC W cm U) ?_;rfl
 .generalize (if(jC j t c 0).gr=c.gr then(jC j t c 0).nx else c.nx)=o at *;generalize jC j t (jC j t c 0) 1=c2 at *;unfold Qh;by_cases he:c2.gr=c.gr
  .rw[zAu (λh=>h he)];refine WW ?_;exact uV [3000,1001,1002] Z Z Z Z
  .rw[zAw he];refine WW ?_;exact uV [3000,1001,1002,2001] Z Z Z Z
def am (c:Ct) (u:ln c.li<=1000):zN 322 [yu c] [] (bA (Ca c)) []:=by rw[jA];exact BS c u
def BF (c:Ct) (i:Nat):Bool:=Ca c&&(c.nx.take i).all λp=>p== -1
theorem MB (c:Ct) (i:Nat) (hi:i<ln c.nx):BF c (i+1)=(BF c i&&(c.nx.getD i dd== -1)):=by grind [BF,List.take_append_getElem,pi,Bool.and_assoc]
def QT (j:Jn) (e:Bool) (i:Int) (c:Ct) (o:List Int):St:=⟨[(36,iA i),(1,.ptr 3000 0 0),(2,.ptr 2 0 0)],WI e c o++[(2,.box [zE xN j.ph,zE iA j.cf,iA j.st])]⟩
theorem vu (j:Jn) (J:JV j) (c:Ct) (C:CV j c) (h0:c.wt=0):zN 284 [wD j,.ptr 3000 0 0] (qU c 1002) (.tup []) (WI (nj c) (Ba j c) c.nx):=by
 have hn:=J.n;have O:ln j.ph<=1000:=by omega
 have bd:=J.c;have bl:=zA xN j.ph;have bf:=zA xE c.li;have bk:=zA iA c.nx;have a7:=C.n;have a6:=C.m;have ca:=am c zB;have cg:=BQ j O J.gp;have ba:=PV J
 have a8:gN j<=4:=by
  have:∀n,n<=ln j.ph->Da j.ph n<=4:=λn=>by
   induction n with
   |zero=>intro _;show(0:Int)<=4;omega
   |succ n ih=>
    intro h;have h1:=ih zB;have h2:=J.gp n zB;unfold yG at h2;unfold Da;omega
  exact this _ (zAy _)
 have a5:=C.g;have ar:(c.gr+1).tmod (gN j)=(c.gr+1) % gN j:=zB3 zB;have hO:BF c (ln c.nx)=nj c:=by unfold BF nj;rw[zAv]
 refine WQ tok func284 Z (λargs w=>call284 args w) Z Z (bm _ _ _) (λF hF=>?_);unfold qU;have a1:BF c 0=Ca c:=by unfold BF;simp
 rw[<-a1]at ca;refine zS ca ?_;refine zO (ln c.nx) [2,3000,1001,1002] [2,3000,1001,1002] [1,2,15,16] [4,17,1,2,15,16] Z (λi T U=>⟨(4,bA (BF c i))::(17,iA i)::T,U⟩) (Lq ?_ ?_)
 .intro i hi;have hy:=zJ iA c.nx i hi;have es:=MB c i hi;rw[es];generalize BF c i=o at *;generalize c.nx.getD i dd=x at *;by_cases hx:x= -1
  .rw[show(x== -1)=true by rw[zB8];exact hx,zDe];clear ca cg;refine WW ?_;rfl
  .rw[show(x== -1)=false by rw[zBn];exact hx,zCs];clear ca cg;refine WW ?_;rfl
 .rw [hO];clear hO a1 ca
  cases ax:nj c with
  | true=>
   have ag:Ba j c=vL j (vL j (QD j c ((c.gr+1) % gN j)) 0) 1:=by unfold Ba;rw[zAs ax]
   rw[ag];have a9:0<=(c.gr+1) % gN j/\(c.gr+1) % gN j<gN j:=⟨zD2 _ zB,zDk _ zB⟩;have Y:=BN C a9;have bb:(QD j c ((c.gr+1) % gN j)).wt=0:=h0;have ce:=Be j O ((c.gr+1) % gN j) c.gr c.wt (c.li.map xE) (c.nx.map iA) (c.li.map xE).length (c.nx.map iA).length;rw[show([(3000,.box [.ref 1001 0 (c.li.map xE).length,iA ((c.gr+1) % gN j),.ref 2001 0 2,iA c.wt]),(1001,.arr 2 (c.li.map xE) false),(1002,.arr 1 (c.nx.map iA) false),(2001,.arr 1 [iA (jH j 0 ((c.gr+1) % gN j) 0),iA (jH j 1 ((c.gr+1) % gN j) 0)] false)]:List (Nat×xW))=aN (QD j c ((c.gr+1) % gN j)) c.nx from Z]at ce;rw[<-ar]at ce;rw[ar]at ce;generalize a4:QD j c ((c.gr+1) % gN j)=B at *;rw[<-ar]at ce;have br:¬gN j=0:=by omega
   generalize gN j=gm at *;have ac:=Y.n;have ap:=Y.m;obtain⟨I,a3⟩:=ZT J Y bb (r:=0) zB;have E:=I.n;have G:=I.m
   change CV j (vL j B 0)at I
   change (vL j B 0).li.length=ln j.ph at E
   change (vL j B 0).nx.length=2 at G
   clear ag a4 C;unfold aN at ce;refine yF (xQ cg ce) ?_;refine gZ [3000,1001,1002,2001,2] [36,1,2] (QT j true 0 B c.nx) (QT j true 1 (vL j B 0) c.nx) (QT j true 2 (vL j (vL j B 0) 1) c.nx) Z Z ?_ ?_ ?_
   .unfold QT;rw[show WI true B c.nx=aN B c.nx from Z];unfold aN;have L:=VF j O B ac 0;have W:=zJ iA B.nx 0 zB;have hv:=Y.v 0 zB;have az:(B.nx.map iA).length=2:=by rw[zAt];exact ap
    cases hd:VH j B 0 with
    |false=>
     rw[hd]at L;rw[show vL j B 0=B by unfold vL;rw[Os QN]];clear hd;refine zS L ?_;rfl
    |true=>
    rw[hd]at L
    have u:vL j B 0=if B.nx.getD 0 dd= -1 then B else uD j B (B.nx.getD 0 dd).toNat:=by
     unfold vL;rw[hd]
     show(if true=true/\B.nx.getD 0 dd≠ -1 then uD j B (B.nx.getD 0 dd).toNat else B)=_
     by_cases h:B.nx.getD 0 dd= -1
     .rw[zAs h,Os (λk=>k.2 h)]
     .rw[Os h,zAs ⟨rfl,h⟩]
    clear hd;by_cases A:B.nx.getD 0 dd= -1
    .rw[zAs A]at u;rw[u];clear u hv;generalize B.nx.getD 0 dd=x at *;refine zS L ?_;rfl
    .rw[Os A]at u
     have V:BK j (0:Nat) B.gr (B.nx.getD 0 dd):=by
      rcases hv with h|h
      .exact absurd h A
      .exact h
     obtain⟨i1,i2,i3,S⟩:=V;obtain⟨p,M⟩:∃p:Nat,B.nx.getD 0 dd=p:=⟨(B.nx.getD 0 dd).toNat,zB⟩;rw[M]at u W A i2 S;rw[zBh]at u S;have hp:p<ln j.ph:=by omega
     have cb:=PR j O zB B ac ap p hp (J.rg p hp) (.inr S.symm);rw[u];clear u hv i1 i2 i3 S M;generalize uD j B p=b at *;unfold qU at cb;refine yF (xQ L cb) ?_;rfl
   .generalize vL j B 0=z at *;unfold QT;rw[show WI true z c.nx=aN z c.nx from Z];unfold aN;have L:=VF j O z E 1;have W:=zJ iA z.nx 1 zB;have hv:=I.v 1 zB;have az:(z.nx.map iA).length=2:=by rw[zAt];exact G
    cases hd:VH j z 1 with
    |false=>
     rw[hd]at L;rw[show vL j z 1=z by unfold vL;rw[Os QN]];clear hd;refine zS L ?_;rfl
    |true=>
    rw[hd]at L
    have u:vL j z 1=if z.nx.getD 1 dd= -1 then z else uD j z (z.nx.getD 1 dd).toNat:=by
     unfold vL;rw[hd]
     show(if true=true/\z.nx.getD 1 dd≠ -1 then uD j z (z.nx.getD 1 dd).toNat else z)=_
     by_cases h:z.nx.getD 1 dd= -1
     .rw[zAs h,Os (λk=>k.2 h)]
     .rw[Os h,zAs ⟨rfl,h⟩]
    clear hd;by_cases A:z.nx.getD 1 dd= -1
    .rw[zAs A]at u;rw[u];clear u hv;generalize z.nx.getD 1 dd=x at *;refine zS L ?_;rfl
    .rw[Os A]at u
     have V:BK j (1:Nat) z.gr (z.nx.getD 1 dd):=by
      rcases hv with h|h
      .exact absurd h A
      .exact h
     obtain⟨i1,i2,i3,S⟩:=V;obtain⟨p,M⟩:∃p:Nat,z.nx.getD 1 dd=p:=⟨(z.nx.getD 1 dd).toNat,zB⟩;rw[M]at u W A i2 S;rw[zBh]at u S;have hp:p<ln j.ph:=by omega
     have cb:=PR j O zB z E G p hp (J.rg p hp) (.inr S.symm);rw[u];clear u hv i1 i2 i3 S M;generalize uD j z p=b at *;unfold qU at cb;refine yF (xQ L cb) ?_;rfl
   .generalize vL j (vL j B 0) 1=c2 at *;unfold QT;refine WW ?_;exact uV [3000,1001,1002,2001] Z Z Z Z
  | false=>
   have ag:Ba j c=vL j (vL j c 0) 1:=by unfold Ba;rw[Os (by rw[ax];decide)]
   rw[ag];clear cg ar ag ba a8 a5;have a2:=C;have au:=a7;have av:=a6;obtain⟨I,a3⟩:=ZT J C h0 (r:=0) zB;have E:=I.n;have G:=I.m
   change CV j (vL j c 0)at I
   change (vL j c 0).li.length=ln j.ph at E
   change (vL j c 0).nx.length=2 at G
   refine WW ?_;clear ax;refine gZ [3000,1001,1002,2001,2] [36,1,2] (QT j false 0 c c.nx) (QT j false 1 (vL j c 0) c.nx) (QT j false 2 (vL j (vL j c 0) 1) c.nx) Z Z ?_ ?_ ?_
   .unfold QT;rw[show WI false c c.nx=qU c 1002 from Z];unfold qU;have L:=VF j O c au 0;have W:=zJ iA c.nx 0 zB;have hv:=a2.v 0 zB;have az:(c.nx.map iA).length=2:=by rw[zAt];exact av
    cases hd:VH j c 0 with
    |false=>
     rw[hd]at L;rw[show vL j c 0=c by unfold vL;rw[Os QN]];clear hd;refine zS L ?_;rfl
    |true=>
    rw[hd]at L
    have u:vL j c 0=if c.nx.getD 0 dd= -1 then c else uD j c (c.nx.getD 0 dd).toNat:=by
     unfold vL;rw[hd]
     show(if true=true/\c.nx.getD 0 dd≠ -1 then uD j c (c.nx.getD 0 dd).toNat else c)=_
     by_cases h:c.nx.getD 0 dd= -1
     .rw[zAs h,Os (λk=>k.2 h)]
     .rw[Os h,zAs ⟨rfl,h⟩]
    clear hd;by_cases A:c.nx.getD 0 dd= -1
    .rw[zAs A]at u;rw[u];clear u hv;generalize c.nx.getD 0 dd=x at *;refine zS L ?_;rfl
    .rw[Os A]at u
     have V:BK j (0:Nat) c.gr (c.nx.getD 0 dd):=by
      rcases hv with h|h
      .exact absurd h A
      .exact h
     obtain⟨i1,i2,i3,S⟩:=V;obtain⟨p,M⟩:∃p:Nat,c.nx.getD 0 dd=p:=⟨(c.nx.getD 0 dd).toNat,zB⟩;rw[M]at u W A i2 S;rw[zBh]at u S;have hp:p<ln j.ph:=by omega
     have cb:=YX j O zB c au av p hp (J.rg p hp) (.inr S.symm);rw[u];clear u hv i1 i2 i3 S M;generalize uD j c p=b at *;unfold qU at cb;refine yF (xQ L cb) ?_;rfl
   .generalize vL j c 0=z at *;unfold QT;rw[show WI false z c.nx=qU z 1002 from Z];unfold qU;have L:=VF j O z E 1;have W:=zJ iA z.nx 1 zB;have hv:=I.v 1 zB;have az:(z.nx.map iA).length=2:=by rw[zAt];exact G
    cases hd:VH j z 1 with
    |false=>
     rw[hd]at L;rw[show vL j z 1=z by unfold vL;rw[Os QN]];clear hd;refine zS L ?_;rfl
    |true=>
    rw[hd]at L
    have u:vL j z 1=if z.nx.getD 1 dd= -1 then z else uD j z (z.nx.getD 1 dd).toNat:=by
     unfold vL;rw[hd]
     show(if true=true/\z.nx.getD 1 dd≠ -1 then uD j z (z.nx.getD 1 dd).toNat else z)=_
     by_cases h:z.nx.getD 1 dd= -1
     .rw[zAs h,Os (λk=>k.2 h)]
     .rw[Os h,zAs ⟨rfl,h⟩]
    clear hd;by_cases A:z.nx.getD 1 dd= -1
    .rw[zAs A]at u;rw[u];clear u hv;generalize z.nx.getD 1 dd=x at *;refine zS L ?_;rfl
    .rw[Os A]at u
     have V:BK j (1:Nat) z.gr (z.nx.getD 1 dd):=by
      rcases hv with h|h
      .exact absurd h A
      .exact h
     obtain⟨i1,i2,i3,S⟩:=V;obtain⟨p,M⟩:∃p:Nat,z.nx.getD 1 dd=p:=⟨(z.nx.getD 1 dd).toNat,zB⟩;rw[M]at u W A i2 S;rw[zBh]at u S;have hp:p<ln j.ph:=by omega
     have cb:=YX j O zB z E G p hp (J.rg p hp) (.inr S.symm);rw[u];clear u hv i1 i2 i3 S M;generalize uD j z p=b at *;unfold qU at cb;refine yF (xQ L cb) ?_;rfl
   .generalize vL j (vL j c 0) 1=c2 at *;unfold QT;refine WW ?_;exact uV [3000,1001,1002] Z Z Z Z
def pc (l:List Li) (hl:ln l<=1073741824):zN 172 [zE xE l] [] (.ref 1001 0 (l.map xE).length) [(1001,.arr 2 (l.map xE) false)]:=by
 have u:=zA xE l;refine eM call172 λF hF=>?_
 refine xI 0 Z (λcap z=>?_) ?_
 .have:l=[]:=by simpa using z
  subst this
  (repeat' (first|refine Xf ?_|apply yW|apply xH|intro hc|fail))
  refine qH 2 1001 2 Z Z Z (xL ?_);exact zP [1001] Z Z Z Z
 .repeat' (first|(apply zG;first|refine uM tok Z Z ?_|(apply wY;refine wM (xY tok (.inl ⟨rfl,rfl⟩) Z Z Z Z) Z ?_)|(apply yH;refine uT (nw:=[1001]) (yV tok 1001 (xs:=[]) Z Z Z Z Z Z Z Z Z) Z Z Z ?_)|(apply yC;refine vB tok Z Z Z Z Z Z Z (yM _ _ (λ_=>rfl)) Z Z Z zB Z ?_)|apply kQ)|(first|apply xX|apply xT|refine vZ Z ?_|refine yS Z ?_|refine yD Z ?_|refine xZ Z (λhc=>?_) λhc=>?_|apply xJ|apply xL|apply xS|apply xB))
  exact zP [1001] Z Z Z Z
def BG (l:List Int) (hl:ln l<=1073741824):zN 111 [zE iA l] [] (.ref 1002 0 (l.map iA).length) [(1002,.arr 1 (l.map iA) false)]:=by
 have u:=zA iA l;refine eM call111 λF hF=>?_
 refine xI 0 Z (λcap z=>?_) ?_
 .have:l=[]:=by simpa using z
  subst this
  (repeat' (first|refine Xf ?_|apply yW|apply xH|intro hc|fail))
  refine qH 2 1002 1 Z Z Z (xL ?_);exact zP [1002] Z Z Z Z
 .repeat' (first|(apply zG;first|refine uM tok Z Z ?_|(apply wY;refine wM (xY tok (.inl ⟨rfl,rfl⟩) Z Z Z Z) Z ?_)|(apply yH;refine uT (nw:=[1002]) (yV tok 1002 (xs:=[]) Z Z Z Z Z Z Z Z Z) Z Z Z ?_)|(apply yC;refine vB tok Z Z Z Z Z Z Z (yM _ _ (λ_=>rfl)) Z Z Z zB Z ?_)|apply kQ)|(first|apply xX|apply xT|refine vZ Z ?_|refine yS Z ?_|refine yD Z ?_|refine xZ Z (λhc=>?_) λhc=>?_|apply xJ|apply xL|apply xS|apply xB))
  exact zP [1002] Z Z Z Z
def MC (j:Jn) (c:Ct) (t:Int) (i:Nat):List Li:=(List.range (ln j.ph)).map λp=>if p<i then BJ (yG j p) (xR c p) (GK j c t p)else xR c p
def PU (j:Jn) (c:Ct) (t:Int) (i:Nat):(MC j c t i).length=ln j.ph:=by simp[MC]
theorem BH (hc:ln c.li=ln j.ph) (t:Int):MC j c t 0=c.li:=by apply zB2<;>grind [MC,List.getElem?_range,xR,pi,List.getElem?_eq_none]
theorem Ae (j:Jn) (c:Ct) (t:Int):MC j c t (ln j.ph)=UV j c t:=by grind [MC,UV,List.map_congr_left]
theorem BI (j:Jn) (c:Ct) (t:Int) (i:Nat):MC j c t (i+1)=(MC j c t i).set i (BJ (yG j i) (xR c i) (GK j c t i)):=by apply zB2<;>grind [MC,BJ,yG,xR,GK,List.getElem?_range,List.getElem?_eq_none]
theorem pm {p:Ph} {l:Li} (h:Ea p l=true) (z:p.yel<=60) (u:p.red<=60):0<=l.tk/\l.tk<=1073741824:=by grind [Ea]
def GJ {P:Program} {C:List Nat} {F:Fr C} {m:Nat} {A:Array Oper} {z:List Oper} {Q:List FP->St->Prop} {B:Bool} {fs:List FP} {ty T:Nat} {pos:String} {u:Array Edge} {st:St} (hk:yN P F m A B (⟨some 7,.alloc T,ty,pos,u,none⟩::z) st fs Q):yN P F m A B (⟨some 7,.alloc T,ty,pos,u,none⟩::z) st fs Q:=hk
theorem M0 (j:Jn) (J:JV j) (c:Ct) (C:CV j c) (t:Int):zN 229 [wD j,JU c,iA t] [] (JU (GL j c t)) []:=by
 have hn:=J.n;have ax:=J.c;have V:=C.n;have ac:=C.m;have av:=C.w;have a4:=J.st;have a3:=zA xN j.ph;have ag:(c.li.map xE).length=j.ph.length:=by rw[zAt];exact V
 have az:(c.nx.map iA).length=2:=by rw[zAt];exact ac
 have k1:=BT j J;have k2:=ku j J.b c;rw[E0 J C]at k2;have E:=pc c.li zB;have G:=BG c.nx zB;unfold GL;by_cases hw:0<c.wt
 .rw[zAs hw];refine eM call229 λF hF=>?_
  refine yF (xQ k1 k2) ?_
  repeat' (first|(apply zG;first|(apply GJ;refine uT (nw:=[3000]) (fK tok 3000 Z Z) Z Z Z ?_)|refine uM tok Z Z ?_|(apply xP;(first|(refine vH 172 ?_;first|refine wM (zL (E) Z Z Z Z Z) Z ?_|refine uT (zL (E) Z Z Z Z Z) Z Z Z ?_|refine aI (zL (E) Z Z Z Z Z) Z Z Z ?_)|(refine vH 111 ?_;first|refine wM (zL (G) Z Z Z Z Z) Z ?_|refine uT (zL (G) Z Z Z Z Z) Z Z Z ?_|refine aI (zL (G) Z Z Z Z Z) Z Z Z ?_)))|(apply dX;refine cQ tok Z Z Z ?_)|refine WU NI ?_|apply kQ)|first|refine SQ ?_|fail)
  refine WW ?_;exact zI [] Z Z (jA ⟨c.li,c.gr,c.nx,c.wt-1⟩) Z
 rw[Os hw];have h0:c.wt=0:=by omega
 have M:=Zm J C h0 t;have I:=BH V t;have L:=Ae j c t;rw[ag]at E;have hN:∀i,((MC j c t i).map xE).length=j.ph.length:=λi=>by rw[zAt];exact PU j c t i
 refine eM call229 λF hF=>?_
 refine yF (xQ k1 k2) ?_
 repeat' (first|(apply zG;first|(apply GJ;refine uT (nw:=[3000]) (fK tok 3000 Z Z) Z Z Z ?_)|refine uM tok Z Z ?_|(apply xP;(first|(refine vH 172 ?_;first|refine wM (zL (E) Z Z Z Z Z) Z ?_|refine uT (zL (E) Z Z Z Z Z) Z Z Z ?_|refine aI (zL (E) Z Z Z Z Z) Z Z Z ?_)|(refine vH 111 ?_;first|refine wM (zL (G) Z Z Z Z Z) Z ?_|refine uT (zL (G) Z Z Z Z Z) Z Z Z ?_|refine aI (zL (G) Z Z Z Z Z) Z Z Z ?_)))|(apply dX;refine cQ tok Z Z Z ?_)|refine WU NI ?_|apply kQ)|first|refine SQ ?_|fail)
 (repeat' (first|refine ub ?_|apply yW|apply xH|intro hc|(apply zG;first|refine SM ?_)|fail))
 refine yD Z (xJ ?_);apply xX;refine gB [3000,1001,1002,3,4,6] [2,3,4,6,7,8] ⟨[(2,iA t),(3,.ptr 3 0 0),(4,.ptr 4 0 0),(6,.ptr 6 0 0),(7,.ptr 3000 0 0),(8,bA (ZS j t))],[(3000,.box [.ref 1001 0 j.ph.length,iA c.gr,.ref 1002 0 (c.nx.map iA).length,iA c.wt]),(1001,.arr 2 (c.li.map xE) false),(1002,.arr 1 (c.nx.map iA) false),(3,.box [zE xN j.ph,zE iA j.cf,iA j.st]),(4,.box [zE xE c.li,iA c.gr,zE iA c.nx,iA c.wt]),(6,.box [.s (.slice none 0 0),iA 0,.s (.slice none 0 0),iA 0])]⟩ rfl ?_ ?_
 .clear k1 k2 E G M;by_cases a1:0<=t
  .by_cases a2:t<j.ph.length
   .rw[show ZS j t=true from zAw ⟨a1,a2⟩];refine WW ?_;exact⟨rfl,rfl⟩
   .rw[show ZS j t=false from zAu (λh=>a2 h.2)];refine WW ?_;exact⟨rfl,rfl⟩
  .rw[show ZS j t=false from zAu (λh=>a1 h.1)];refine WW ?_;exact⟨rfl,rfl⟩
 clear k1 k2 E G;refine WW ?_;refine zO (j.ph.length) [1001,3,4,6,3000,1002] [3,4,6,3000,1002] [2,3,4,6,7,8,51,52] [53,2,3,4,6,7,8,51,52] Z (λi T U=>⟨(53,iA i)::T,(1001,.arr 2 ((MC j c t i).map xE) false)::U⟩) ?_;(conv=>whnf);refine⟨by(rw[I];rfl),?_,?_⟩
 .intro i hi;have hy:=zJ xN j.ph i hi
  change (j.ph.map xN)[i]? =some (xN (yG j i))at hy
  have ar:=zJ xE c.li i zB
  change (c.li.map xE)[i]? =some (xE (xR c i))at ar
  have Y:∃l,((MC j c t i).map xE)[i]? =some (xE l):=⟨_,zJ xE (MC j c t i) i (by rw[PU];exact hi)⟩;obtain⟨lm,Y⟩:=Y;have a5:=J.ti i hi;have a6:=pm (C.k i hi) zB zB;have ap:Ex (yG j i):=⟨zB,zB,zB,zB⟩;have au:=hN i;have ls:=λlv=>qu (yG j i) ap (xR c i) zB lv
  have ck:=gU j.cf zB i t;have es:=BI j c t i;have em:(MC j c t (i+1)).map xE=((MC j c t i).map xE).set i (xE (BJ (yG j i) (xR c i) (GK j c t i))):=by rw[es,zCe]
  rw[em];have u:GK j c t i=_:=rfl
  conv at u=>rhs;unfold GK
  have z:=ls (GK j c t i);clear ls es em M hN I L;generalize BJ (yG j i) (xR c i) (GK j c t i)=ln,(MC j c t i).map xE=xs at *;generalize GK j c t i=lv at *;generalize kC j.cf i t=cq at*
  cases S:ZS j t with
  |false=>
   rw[S]at u;rw[Os yY]at u;generalize yG j i=ph,xR c i=l at *;by_cases O:ph.maxg<=l.tk+1
   .rw[zAw O]at u;subst u;refine zS z ?_;rfl
   .rw[zAu O]at u;subst u;refine zS z ?_;rfl
  | true=>
   rw[S]at u;rw[zAs Z]at u;generalize yG j i=ph,xR c i=l at *;by_cases W:(i:Int)=t
   .rw[zAu (λh=>h W)]at u;rw[zBt]at u;subst u;by_cases O:ph.maxg<=l.tk+1
    all_goals
     (refine zS z ?_)
     rfl
   rw[zAw W,zA3]at u;by_cases O:ph.maxg<=l.tk+1
   .rw[zAw O,zDf]at u;subst u;refine zS z ?_;rfl
   .rw[zAu O,zC7]at u;rw[u]at z;clear u
    cases cq with
    |true=>
     refine yF (xQ ck z) ?_;rfl
    |false=>
     refine yF (xQ ck z) ?_;rfl
 .rw[L];have e1:((UV j c t).map xE).length=j.ph.length:=by simp[UV]
  clear L I hN
  cases S:ZS j t with
  | true=>
   rw[zAs Z];unfold ZS at S;rw[zAz]at S;obtain⟨B,rfl⟩:∃B:Nat,t=B:=⟨t.toNat,zB⟩;rw[zBh];have cs:=wu j J ⟨UV j c B,c.gr,c.nx,c.wt⟩ M h0 B zB;unfold qU at cs;dsimp only at cs;rw[e1]at cs;generalize jC j B (jC j B ⟨UV j c B,c.gr,c.nx,c.wt⟩ 0) 1=A,(if(jC j B ⟨UV j c B,c.gr,c.nx,c.wt⟩ 0).gr=c.gr then(jC j B ⟨UV j c B,c.gr,c.nx,c.wt⟩ 0).nx else c.nx)=o,(UV j c B).map xE=xs at *;clear M
   cases hE:decide (A.gr≠c.gr)with
   |true=>
    rw[hE,show WI true A o=aN A o from Z]at cs;unfold aN at cs;clear hE;refine zS cs ?_;exact zI [] Z Z (jA A) Z
   |false=>
    rw[hE,show WI false A o=qU A 1002 from Z]at cs;unfold qU at cs;clear hE;refine zS cs ?_;exact zI [] Z Z (jA A) Z
  | false=>
   rw[Os yY];have cs:=vu j J ⟨UV j c t,c.gr,c.nx,c.wt⟩ M h0;unfold qU at cs;dsimp only at cs;rw[e1]at cs;generalize Ba j ⟨UV j c t,c.gr,c.nx,c.wt⟩=A,nj ⟨UV j c t,c.gr,c.nx,c.wt⟩=e,(UV j c t).map xE=xs at *;clear M
   cases e with
   |true=>
    rw[show WI true A c.nx=aN A c.nx from Z]at cs;unfold aN at cs;refine zS cs ?_;exact zI [] Z Z (jA A) Z
   |false=>
    rw[show WI false A c.nx=qU A 1002 from Z]at cs;unfold qU at cs;refine zS cs ?_;exact zI [] Z Z (jA A) Z
