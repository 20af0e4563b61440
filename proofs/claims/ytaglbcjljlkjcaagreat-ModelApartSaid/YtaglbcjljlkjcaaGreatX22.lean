/- Part 22. -/
import Derived.Test.YtaglbcjljlkjcaaGreatX21
namespace Go.Proofs.YtaglbcjljlkjcaaGreat.Av
open Tryz
set_option linter.all false
set_option maxRecDepth 4000
set_option maxHeartbeats 1000000
open List renaming length->ln,getD->pb
open Inhabited renaming default->dd
variable {c:Ct}{r:Int}{j:Jn}
theorem NM {p:Nat->Bool}:∀(l:List Nat) (i x:Nat),l[i]? =some x->(∀y∈l.take i,p y=false)->p x=true->l.find? p=some x
 | [],i,x,h,_,_=>by simp at h
 |y::l,0,x,h,_,u=>by
  simp at h;subst h;rw[List.find?_cons,u]
 |y::l,i+1,x,h,A,u=>by
  rw[List.find?_cons,A y zV];exact NM l i x MJ (λz B=>A z (by simp[B])) u
def PR {p:Nat->Bool} {l:List Nat} (h:∀y∈l,p y=false):l.find? p=none:=List.find?_eq_none.2 λy u=>by rw[h y u];decide
theorem SZ {l:List Nat} {i x z:Nat} (u:l[i]? =some x) (A:z∈l.take (i+1)):z∈l.take i\/z=x:=by grind [List.take_add_one]
def WP (j:Jn) (S:ln j.ph<=1000) (r g f:Int):zO 259 [wK j,iA r,iA g,iA f] [] (iA (jJ j r g f)) []:=by
 have c:=Kl j r;unfold Wh at c;have hl:=zA xN j.ph;refine eM call259 λF hF=>?_
 refine zS c ?_;refine qR hF (qc j S r) Z [4,6,7,8] [4,6,7,8] Z Z Z Z Z Z Z Z Z (λi ys h=>?_) (λ_=>[(4,.box [zE xN j.ph,zE iA j.cf,iA j.st]),(6,.box [iA g]),(7,.box [iA f]),(8,.box [iA 0])]) (λi=>∀x∈(QV j r).take i,(decide (f<=(x:Int))&&(yH j x).group==g)=false) (T:=[(4,.ptr 4 0 0),(6,.ptr 6 0 0),(7,.ptr 7 0 0),(8,.ptr 8 0 0)]) Z zV (λi ys y C B R h1 h2=>?_) (λB=>?_)
 .rw[zBe,zBp]at h;obtain⟨x,_,rfl⟩:=h;rfl
 .rw[zBe,zBp]at C;obtain⟨x,E,rfl⟩:=C
  show uG _ R _ _ ⟨[(13,iA (x:Int)),(4,.ptr 4 0 0),(6,.ptr 6 0 0),(7,.ptr 7 0 0),(8,.ptr 8 0 0)],[(4,.box [zE xN j.ph,zE iA j.cf,iA j.st]),(6,.box [iA g]),(7,.box [iA f]),(8,.box [iA 0])]⟩ _
  have L:=(cS.1 (zCq E)).1;have hy:(j.ph.map xN)[x]? =some (xN (yH j x)):=zJ xN j.ph x L
  have u:(decide (f<=(x:Int))&&(yH j x).group==g)=false->∀z∈(QV j r).take (i+1),(decide (f<=(z:Int))&&(yH j z).group==g)=false:=λhb z U=>by
   rcases SZ E U with h|rfl
   .exact B z h
   .exact hb
  have G:(decide (f<=(x:Int))&&(yH j x).group==g)=true->jJ j r g f=x:=λhb=>by
   unfold jJ;rw[NM _ i x E B hb]
  clear B E;generalize yH j x=t at *;refine WW ?_;refine⟨rfl,λV W Y=>?_⟩;by_cases M:f<=(x:Int)
  .by_cases O:t.group=g
   .rw[G (by rw[zA9 M,zCp.2 O];rfl)];exact ly
   .have A:=u (by rw[zB3.2 O,zC6]);refine WW ?_;exact⟨rfl,A⟩
  .have A:=u (by rw[zA7 M,zB8]);refine WW ?_;exact⟨rfl,A⟩
 .rw[zA6,zA8]at B
  have I:jJ j r g f= -1:=by
   unfold jJ;rw[PR B]
  rw[I];exact ly
def B0 (j:Jn) (S:ln j.ph<=1000) (c:Ct) (hc:ln c.li=ln j.ph) (r:Int):zO 323 [wK j,JK c,iA r] [] (bA (RB j c r)) []:=by
 have L:=Kl j r;unfold Wh at L;have hl:=zA xN j.ph;have R:=zA xG c.li;refine eM call323 λF hF=>?_
 refine zS L ?_;refine qR hF (qc j S r) Z [3,4,6] [3,4,6] Z Z Z Z Z Z Z Z Z (λi ys h=>?_) (λ_=>[(3,.box [zE xN j.ph,zE iA j.cf,iA j.st]),(4,.box [zE xG c.li,iA c.gr,zE iA c.nx,iA c.wt]),(6,.box [bA false])]) (λi=>∀x∈(QV j r).take i,((xS c x).lamp==0)=true) (T:=[(3,.ptr 3 0 0),(4,.ptr 4 0 0),(6,.ptr 6 0 0)]) Z zV (λi ys y B A O h1 h2=>?_) (λA=>?_)
 .rw[zBe,zBp]at h;obtain⟨x,_,rfl⟩:=h;rfl
 .rw[zBe,zBp]at B;obtain⟨x,I,rfl⟩:=B
  show uG _ O _ _ ⟨[(11,iA (x:Int)),(3,.ptr 3 0 0),(4,.ptr 4 0 0),(6,.ptr 6 0 0)],[(3,.box [zE xN j.ph,zE iA j.cf,iA j.st]),(4,.box [zE xG c.li,iA c.gr,zE iA c.nx,iA c.wt]),(6,.box [bA false])]⟩ _
  have u:=zCq I;have U:=(cS.1 u).1;have hy:(c.li.map xG)[x]? =some (xG (xS c x)):=zJ xG c.li x zB
  have C:((xS c x).lamp==0)=true->∀z∈(QV j r).take (i+1),((xS c z).lamp==0)=true:=λhb z V=>by
   rcases SZ I V with h|rfl
   .exact A z h
   .exact hb
  have E:((xS c x).lamp==0)=false->RB j c r=false:=λhb=>by
   unfold RB;exact zEd.2 ⟨x,u,by rw[hb];decide⟩
  clear A I;generalize xS c x=t at *;refine WW ?_;refine⟨rfl,λW Y g2=>?_⟩;by_cases M:t.lamp=0
  .have G:=C (zCp.2 M);refine WW ?_;exact⟨rfl,G⟩
  .rw[E (zB3.2 M)];exact ly
 .rw[zA6,zA8]at A;have hd:RB j c r=true:=zBk.2 A;rw[hd];exact ly
def rj (j:Jn) (r t:Int) (i:Nat):Int:=match ((QV j r).take i).find? (λp:Nat=>!kH j.cf p t)with
 |some p=>p
 |none=> -1
theorem Xl {t:Int} {i x:Nat} (u:(QV j r)[i]? =some x):rj j r t (i+1)=if kH j.cf x t=true then rj j r t i else if rj j r t i= -1 then(x:Int)else rj j r t i:=by
 unfold rj;rw[zD7,u,List.find?_append]
 grind
theorem A0 (j:Jn) (hn:ln j.ph<=1000) (O:ln j.cf<=40) (c:Ct) (hm:ln c.nx=2) (r t:Int) (hr:0<=r/\r<2):zO 324 [wK j,JK c,iA r,iA t] [] (iA (EV j (c.nx.getD r.toNat dd) r t)) []:=by
 have W:=Kl j r;unfold Wh at W;have hl:=zA xN j.ph;have ac:=zA iA c.nx;have ap:=yF iA c.nx r hr.1 zB;generalize U:c.nx.getD r.toNat dd=A at *;refine eM call324 λF hF=>?_
 refine zS W ?_;refine qR hF (qc j hn r) Z [4,5,6,7,8,9] [4,5,6,7,8,9] Z Z Z Z Z Z Z Z Z (λi ys h=>?_) (λi=>[(4,.box [zE xN j.ph,zE iA j.cf,iA j.st]),(5,.box [zE xG c.li,iA c.gr,zE iA c.nx,iA c.wt]),(6,.box [iA r]),(7,.box [iA t]),(8,.box [iA 0]),(9,.box [iA (rj j r t i)])]) (λi=>∀x∈(QV j r).take i,(!kH j.cf x t&&decide (A≠ -1/\A<=(x:Int)))=false) (T:=[(4,.ptr 4 0 0),(5,.ptr 5 0 0),(6,.ptr 6 0 0),(7,.ptr 7 0 0),(8,.ptr 8 0 0),(9,.ptr 9 0 0)]) Z zV (λi ys y M G F1 h1 h2=>?_) (λG=>?_)
 .rw[zBe,zBp]at h;obtain⟨x,_,rfl⟩:=h;rfl
 .rw[zBe,zBp]at M;obtain⟨x,L,rfl⟩:=M
  show uG _ F1 _ _ ⟨[(14,iA (x:Int)),(4,.ptr 4 0 0),(5,.ptr 5 0 0),(6,.ptr 6 0 0),(7,.ptr 7 0 0),(8,.ptr 8 0 0),(9,.ptr 9 0 0)],[(4,.box [zE xN j.ph,zE iA j.cf,iA j.st]),(5,.box [zE xG c.li,iA c.gr,zE iA c.nx,iA c.wt]),(6,.box [iA r]),(7,.box [iA t]),(8,.box [iA 0]),(9,.box [iA (rj j r t i)])]⟩ _
  have ag:=(cS.1 (zCq L)).1;have E:=gT j.cf O x t;have B:=Xl (t:=t) L
  have C:(!kH j.cf x t&&decide (A≠ -1/\A<=(x:Int)))=false->∀z∈(QV j r).take (i+1),(!kH j.cf z t&&decide (A≠ -1/\A<=(z:Int)))=false:=λhb z hz=>by
   rcases SZ L hz with h|rfl
   .exact G z h
   .exact hb
  have R:(!kH j.cf x t&&decide (A≠ -1/\A<=(x:Int)))=true->EV j A r t=x:=λhb=>by
   unfold EV;rw[NM _ i x L G hb]
  clear G L U;generalize kH j.cf x t=q,rj j r t (i+1)=l2,rj j r t i=V at *;refine WW ?_;refine⟨rfl,λF2 g1 g2=>?_⟩
  cases q with
  |true=>
   rw[zA5 Z]at B;have u:=C Z;subst B;refine zS E ?_;exact⟨rfl,u⟩
  |false=>
  rw[Os xA]at B;by_cases Y:A= -1
  .have u:=C (by rw[zA7 (λh=>h.1 Y)];rfl);by_cases I:V= -1
   .rw[zA5 I]at B;subst B;refine zS E ?_;exact⟨rfl,u⟩
   .rw[Os I]at B;subst B;refine zS E ?_;exact⟨rfl,u⟩
  by_cases h5:A<=(x:Int)
  .rw[R (by rw[zA9 ⟨Y,h5⟩];rfl)];exact ng E
  .have u:=C (by rw[zA7 (λh=>h5 h.2)];rfl);by_cases I:V= -1
   .rw[zA5 I]at B;subst B;refine zS E ?_;exact⟨rfl,u⟩
   .rw[Os I]at B;subst B;refine zS E ?_;exact⟨rfl,u⟩
 .rw[zA6,zA8]at G
  have S:EV j A r t=rj j r t (QV j r).length:=by
   unfold EV rj;rw[PR G,zA8];rfl
  rw[S,zA6];generalize rj j r t (QV j r).length=V at *;exact ly
def uX {TT:List TI} {z:List ResultVar} {u:List (Nat×xV)} {r:AV} {h1:List (Nat×xV)} {st:St} {vs:List AV} (K:List Nat) (h:KB TT st z=some vs) (A:(xB u).all (K.contains ·)=true) (B:wY K (zD st.h) (BO vs)=r) (hh:wZ K (zD st.h)=h1):
 Fin TT z u r h1 .normal st:=⟨.inl Z,vs,K,h,A,.inl B.symm,by rw[hh]⟩
def sj (u z:Int):Nat->List AV
 |0=>[iA 0,iA 0]
 |1=>[iA u,iA 0]
 |_+2=>[iA u,iA z]
def Ie (j:Jn) (G:ln j.ph<=1000) (g R E:Int) (L N:List AV) (C V:Nat):zO 208 [wK j,.ptr 3000 0 0,iA g] [(3000,.box [.ref 1001 0 C,iA R,.ref 1002 0 V,iA E]),(1001,.arr 2 L false),(1002,.arr 1 N false)] (.tup [])
  [(3000,.box [.ref 1001 0 C,iA g,.ref 2001 0 2,iA E]),(1001,.arr 2 L false),(1002,.arr 1 N false),(2001,.arr 1 [iA (jJ j 0 g 0),iA (jJ j 1 g 0)] false)]:=by
 have I:=WP j G 0 g 0;have M:=WP j G 1 g 0;generalize jJ j 0 g 0=u,jJ j 1 g 0=z at *;obtain⟨B,A⟩:∃n:Nat,n=2:=⟨2,rfl⟩;refine eM call208 λF hF=>?_
 (repeat' (first|refine uT ?_|apply yW|apply xH|intro hc|(apply zG;first|(apply fN;refine bG 2001 tok Z Z Z Z Z Z Z Z Z Z Z Z Z zB zB Z Z Z ?_))|fail))
 refine zN (B) [3000,2001,3,1001,1002] [3,1001,1002] [1,2,3] [20,19,1,2,3] Z (λi T U=>⟨(20,iA i)::(19,iA B)::T,(3000,.box [.ref 1001 0 C,iA g,.ref 2001 0 B,iA E])::(2001,.arr 1 (sj u z i) false)::U⟩) ?_;(conv=>whnf);refine⟨by(rw[A];rfl),?_,?_⟩
 .intro i hi;have:i=0\/i=1:=by omega
  rcases this with rfl|rfl
  .have S:(sj u z 0)[((0:Nat):Int).toNat]? =some (iA 0):=rfl;have hl:(sj u z 0).length=2:=rfl;refine zS I ?_;rfl
  .have S:(sj u z 1)[((1:Nat):Int).toNat]? =some (iA 0):=rfl;have hl:(sj u z 1).length=2:=rfl;refine zS M ?_;rfl
 .have O:sj u z B=[iA u,iA z]:=by rw[A];rfl
  rw[O];refine WW ?_;subst A;exact uX [3000,1001,1002,2001] Z Z Z Z
def jC (c:Ct) (kn:Nat):List (Nat×xV):=[(3000,.box [.ref 1001 0 (c.li.map xG).length,iA c.gr,.ref kn 0 (c.nx.map iA).length,iA c.wt]),(1001,.arr 2 (c.li.map xG) false),(kn,.arr 1 (c.nx.map iA) false)]
def XW (c:Ct) (o:List Int):List (Nat×xV):=[(3000,.box [.ref 1001 0 (c.li.map xG).length,iA c.gr,.ref 2001 0 (c.nx.map iA).length,iA c.wt]),(1001,.arr 2 (c.li.map xG) false),(1002,.arr 1 (o.map iA) false),(2001,.arr 1 (c.nx.map iA) false)]
theorem YS (j:Jn) (hn:ln j.ph<=1000) (G:ln j.cf<=40) (c:Ct) (hc:ln c.li=ln j.ph) (hm:ln c.nx=2) (p:Nat) (hp:p<ln j.ph) (hr:0<=(yH j p).ring/\(yH j p).ring<=1) (E:dT j c p=true\/c.gr=(yH j p).group):
  zO 325 [wK j,.ptr 3000 0 0,iA (p:Int)] (jC c 1002) (.tup []) (jC (uY j c p) 1002):=by
 have ap:=zA xN j.ph;have ac:=zA xG c.li;have ag:=zA iA c.nx;have I:=zJ xN j.ph p hp
 change (j.ph.map xN)[p]? =some (xN (yH j p))at I
 have L:=WP j hn (yH j p).ring (yH j p).group (p+1);unfold uY;by_cases hk:dT j c p=true
 case pos=>
  rw[zA5 hk];unfold dT at hk;rw[zCx]at hk;obtain⟨M,S,hk⟩:=hk;rw[zBu]at S;unfold jC;refine eM call325 λF hF=>?_
  refine WW ?_;refine yU (ln c.li) [3,3000,1001,1002] [3,3000,1001,1002] [1,2,3,12,13] [14,1,2,3,12,13] Z (λi T U zs=>(i<=M)/\zs=⟨(14,iA i)::T,U⟩) (Lp ?_ ?_ ?_)
  .exact⟨zBn _,rfl⟩
  .rintro i st hi ⟨hiq,rfl⟩;have W:=zJ xG c.li i hi
   change (c.li.map xG)[i]? =some (xG (xS c i))at W
   have A:=gT j.cf G p i;by_cases hb:((xS c i).lamp != 0&&kH j.cf p i)=true
   .rw[zBg]at hb;have h1:(xS c i).lamp≠0:=by simpa using hb.1
    rw[hb.2]at A;generalize xS c i=t at *;clear hb L hk;refine zS A ?_;exact zP [3000,1001,1002] Z Z Z Z
   .have ar:i<M:=by
     rcases zGo i M with h|h
     .exact h
     .rw[show i=M by omega]at hb;exact absurd hk hb
    rw[zBg]at hb;by_cases h1:(xS c i).lamp=0
    .generalize xS c i=t at *;clear hb hk;refine WW ?_;exact⟨zB,rfl⟩
    .have z:kH j.cf p i=false:=by
      cases z:kH j.cf p i with
      |false=>rfl
      |true=>exact absurd ⟨by simpa using h1,z⟩ hb
     rw[z]at A;generalize xS c i=t at *;clear hb hk;refine zS A ?_;exact⟨zB,rfl⟩
  .rintro st ⟨hiq,rfl⟩;exfalso;omega
 have u:dT j c p=false:=by simpa using hk
 have R:c.gr=(yH j p).group:=by
  rcases E with E|E
  .exact absurd E hk
  .exact E
 rw[Os hk];have eb:NP j c p=CT c p:=by unfold NP;rw[zA5 R]
 rw[eb];unfold dT at u;rw[zDp]at u;have O:∀q,q<ln c.li->((xS c q).lamp != 0&&kH j.cf p q)=false:=λq z=>by simpa using u q (zBu.2 z)
 unfold CT jC;dsimp only;rw[zCs,zCs,zCk,zCk];clear u hk eb E;generalize jJ j (yH j p).ring (yH j p).group (p+1)=fo at *;obtain⟨rn,B⟩:∃n:Nat,(yH j p).ring=n:=⟨(yH j p).ring.toNat,zB⟩;have C:=zJ xG c.li p zB;have Y:=zJ iA c.nx rn zB;generalize V:xS c p=l0 at*
 change (c.li.map xG)[p]? =some (xG (xS c p))at C
 rw[V]at C;generalize c.nx.getD rn dd=n0 at *;refine eM call325 λF hF=>?_
 refine WW ?_;refine zN (ln c.li) [3,3000,1001,1002] [3,3000,1001,1002] [1,2,3,12,13] [14,1,2,3,12,13] Z (λi T U=>⟨(14,iA i)::T,U⟩) (Lq ?_ ?_)
 .intro i hi;have W:=zJ xG c.li i hi
  change (c.li.map xG)[i]? =some (xG (xS c i))at W
  have A:=gT j.cf G p i;have hb:=O i hi;clear O C Y L;by_cases h1:(xS c i).lamp=0
  .generalize xS c i=t at *;clear hb;refine WW ?_;rfl
  .have z:kH j.cf p i=false:=by
    cases z:kH j.cf p i with
    |false=>rfl
    |true=>
     rw[z,zD1]at hb;exact absurd IB h1
   rw[z]at A;generalize xS c i=t at *;clear hb;refine zS A ?_;rfl
 .clear O;generalize yH j p=t at *;rw[B,zBx];have et:xN t= .agg [iA rn,iA t.group,iA t.ming,iA t.maxg,iA t.yel,iA t.red,iA t.walk,iA t.clear]:=by rw[<-B];rfl
  rw[et]at I;rw[B]at L;refine zS L ?_;exact uX [3000,1001,1002] Z Z Z Z
theorem PS (j:Jn) (hn:ln j.ph<=1000) (G:ln j.cf<=40) (c:Ct) (hc:ln c.li=ln j.ph) (hm:ln c.nx=2) (p:Nat) (hp:p<ln j.ph) (hr:0<=(yH j p).ring/\(yH j p).ring<=1) (E:dT j c p=true\/c.gr=(yH j p).group):
  zO 325 [wK j,.ptr 3000 0 0,iA (p:Int)] (jC c 2001) (.tup []) (jC (uY j c p) 2001):=by
 have ap:=zA xN j.ph;have ac:=zA xG c.li;have ag:=zA iA c.nx;have I:=zJ xN j.ph p hp
 change (j.ph.map xN)[p]? =some (xN (yH j p))at I
 have L:=WP j hn (yH j p).ring (yH j p).group (p+1);unfold uY;by_cases hk:dT j c p=true
 case pos=>
  rw[zA5 hk];unfold dT at hk;rw[zCx]at hk;obtain⟨M,S,hk⟩:=hk;rw[zBu]at S;unfold jC;refine eM call325 λF hF=>?_
  refine WW ?_;refine yU (ln c.li) [3,3000,1001,2001] [3,3000,1001,2001] [1,2,3,12,13] [14,1,2,3,12,13] Z (λi T U zs=>(i<=M)/\zs=⟨(14,iA i)::T,U⟩) (Lp ?_ ?_ ?_)
  .exact⟨zBn _,rfl⟩
  .rintro i st hi ⟨hiq,rfl⟩;have W:=zJ xG c.li i hi
   change (c.li.map xG)[i]? =some (xG (xS c i))at W
   have A:=gT j.cf G p i;by_cases hb:((xS c i).lamp != 0&&kH j.cf p i)=true
   .rw[zBg]at hb;have h1:(xS c i).lamp≠0:=by simpa using hb.1
    rw[hb.2]at A;generalize xS c i=t at *;clear hb L hk;refine zS A ?_;exact zP [3000,1001,2001] Z Z Z Z
   .have ar:i<M:=by
     rcases zGo i M with h|h
     .exact h
     .rw[show i=M by omega]at hb;exact absurd hk hb
    rw[zBg]at hb;by_cases h1:(xS c i).lamp=0
    .generalize xS c i=t at *;clear hb hk;refine WW ?_;exact⟨zB,rfl⟩
    .have z:kH j.cf p i=false:=by
      cases z:kH j.cf p i with
      |false=>rfl
      |true=>exact absurd ⟨by simpa using h1,z⟩ hb
     rw[z]at A;generalize xS c i=t at *;clear hb hk;refine zS A ?_;exact⟨zB,rfl⟩
  .rintro st ⟨hiq,rfl⟩;exfalso;omega
 have u:dT j c p=false:=by simpa using hk
 have R:c.gr=(yH j p).group:=by
  rcases E with E|E
  .exact absurd E hk
  .exact E
 rw[Os hk];have eb:NP j c p=CT c p:=by unfold NP;rw[zA5 R]
 rw[eb];unfold dT at u;rw[zDp]at u;have O:∀q,q<ln c.li->((xS c q).lamp != 0&&kH j.cf p q)=false:=λq z=>by simpa using u q (zBu.2 z)
 unfold CT jC;dsimp only;rw[zCs,zCs,zCk,zCk];clear u hk eb E;generalize jJ j (yH j p).ring (yH j p).group (p+1)=fo at *;obtain⟨rn,B⟩:∃n:Nat,(yH j p).ring=n:=⟨(yH j p).ring.toNat,zB⟩;have C:=zJ xG c.li p zB;have Y:=zJ iA c.nx rn zB;generalize V:xS c p=l0 at*
 change (c.li.map xG)[p]? =some (xG (xS c p))at C
 rw[V]at C;generalize c.nx.getD rn dd=n0 at *;refine eM call325 λF hF=>?_
 refine WW ?_;refine zN (ln c.li) [3,3000,1001,2001] [3,3000,1001,2001] [1,2,3,12,13] [14,1,2,3,12,13] Z (λi T U=>⟨(14,iA i)::T,U⟩) (Lq ?_ ?_)
 .intro i hi;have W:=zJ xG c.li i hi
  change (c.li.map xG)[i]? =some (xG (xS c i))at W
  have A:=gT j.cf G p i;have hb:=O i hi;clear O C Y L;by_cases h1:(xS c i).lamp=0
  .generalize xS c i=t at *;clear hb;refine WW ?_;rfl
  .have z:kH j.cf p i=false:=by
    cases z:kH j.cf p i with
    |false=>rfl
    |true=>
     rw[z,zD1]at hb;exact absurd IB h1
   rw[z]at A;generalize xS c i=t at *;clear hb;refine zS A ?_;rfl
 .clear O;generalize yH j p=t at *;rw[B,zBx];have et:xN t= .agg [iA rn,iA t.group,iA t.ming,iA t.maxg,iA t.yel,iA t.red,iA t.walk,iA t.clear]:=by rw[<-B];rfl
  rw[et]at I;rw[B]at L;refine zS L ?_;exact uX [3000,1001,2001] Z Z Z Z
theorem PU (j:Jn) (Y:ln j.ph<=1000) (L:ln j.cf<=40) (c:Ct) (hc:ln c.li=ln j.ph) (hm:ln c.nx=2) (p:Nat) (hp:p<ln j.ph) (hr:0<=(yH j p).ring/\(yH j p).ring<=1) (u:dT j c p=false) (O:c.gr≠(yH j p).group):
  zO 325 [wK j,.ptr 3000 0 0,iA (p:Int)] (jC c 1002) (.tup []) (XW (uY j c p) c.nx):=by
 have ap:=zA xN j.ph;have ac:=zA xG c.li;have ag:=zA iA c.nx;have E:=zJ xN j.ph p hp
 change (j.ph.map xN)[p]? =some (xN (yH j p))at E
 have G:=WP j Y (yH j p).ring (yH j p).group (p+1);unfold uY;rw[Os (by rw[u];decide)];have W:NP j c p=LZ j (CT c p) (yH j p).group:=by unfold NP;rw[Os O]
 rw[W];unfold dT at u;rw[zDp]at u;have I:∀q,q<ln c.li->((xS c q).lamp != 0&&kH j.cf p q)=false:=λq C=>by simpa using u q (zBu.2 C)
 have S:=Ie j Y (yH j p).group c.gr c.wt ((c.li.map xG).set p (xG ⟨1,0⟩)) (c.nx.map iA) (c.li.map xG).length (c.nx.map iA).length;unfold LZ CT jC XW;dsimp only;rw[zCs,zCs,zCk,zCk];rw[show([jJ j 0 (yH j p).group 0,jJ j 1 (yH j p).group 0].map iA)=[iA (jJ j 0 (yH j p).group 0),iA (jJ j 1 (yH j p).group 0)]from Z];have M:(([iA (jJ j 0 (yH j p).group 0),iA (jJ j 1 (yH j p).group 0)]:List AV)).length=2:=rfl;rw[M]
 have A:∃v,([iA (jJ j 0 (yH j p).group 0),iA (jJ j 1 (yH j p).group 0)]:List AV)[(yH j p).ring.toNat]? =some (iA v):=by
  have:(yH j p).ring=0\/(yH j p).ring=1:=by omega
  rcases this with h|h<;>rw[h]
  all_goals exact⟨_,rfl⟩
 obtain⟨v0,A⟩:=A;generalize ([iA (jJ j 0 (yH j p).group 0),iA (jJ j 1 (yH j p).group 0)]:List AV)=fx at *;clear u W;generalize jJ j (yH j p).ring (yH j p).group (p+1)=fo at *;obtain⟨rn,z⟩:∃n:Nat,(yH j p).ring=n:=⟨(yH j p).ring.toNat,zB⟩;have B:=zJ xG c.li p zB;rw[z,zBx]at A;generalize R:xS c p=l0 at*
 change (c.li.map xG)[p]? =some (xG (xS c p))at B
 rw[R]at B;refine eM call325 λF hF=>?_
 refine WW ?_;refine zN (ln c.li) [3,3000,1001,1002] [3,3000,1001,1002] [1,2,3,12,13] [14,1,2,3,12,13] Z (λi T U=>⟨(14,iA i)::T,U⟩) (Lq ?_ ?_)
 .intro i hi;have hy:=zJ xG c.li i hi
  change (c.li.map xG)[i]? =some (xG (xS c i))at hy
  have V:=gT j.cf L p i;have hb:=I i hi;clear I B G S;by_cases h1:(xS c i).lamp=0
  .generalize xS c i=t at *;clear hb;refine WW ?_;rfl
  .have C:kH j.cf p i=false:=by
    cases C:kH j.cf p i with
    |false=>rfl
    |true=>
     rw[C,zD1]at hb;exact absurd IB h1
   rw[C]at V;generalize xS c i=t at *;clear hb;refine zS V ?_;rfl
 .clear I;generalize yH j p=t at *;rw[z,zBx];have et:xN t= .agg [iA rn,iA t.group,iA t.ming,iA t.maxg,iA t.yel,iA t.red,iA t.walk,iA t.clear]:=by rw[<-z];rfl
  rw[et]at E;rw[z]at G;refine yJ (xW S G) ?_;exact uX [3000,1001,1002,2001] Z Z Z Z
def Qt (c:Ct):AV:= .agg [.sl false ((c.li.map xG).take (c.li.map xG).length),iA c.gr,.sl false ((c.nx.map iA).take (c.nx.map iA).length),iA c.wt]
def jV (c:Ct):Qt c=JK c:=by unfold Qt;rw[zA8,zA8];rfl
def WQ (j:Jn) (u:ln j.ph<=1000) (c:Ct) (hc:ln c.li=ln j.ph) (r:Int):zO 323 [wK j,Qt c,iA r] [] (bA (RB j c r)) []:=by rw[jV];exact B0 j u c hc r
def wc (j:Jn) (A:ln j.ph<=1000) (u:ln j.cf<=40) (c:Ct) (z:ln c.nx=2) (r t:Int) (B:0<=r/\r<2):zO 324 [wK j,Qt c,iA r,iA t] [] (iA (EV j (c.nx.getD r.toNat dd) r t)) []:=by rw[jV];exact A0 j A u c z r t B
def WR (J:JV j) {t:Nat} (B:t<ln j.ph) (h:aY j c r t≠ -1):∃p:Nat,aY j c r t=p/\p<ln j.ph/\(yH j p).group=(yH j t).group:=by
 unfold aY at h⊢;split
 .grind
 .rename_i A;rw[Os A]at h
  rcases CU j (c.nx.getD r.toNat dd) r t with h1|⟨p,h1,h2,_,h4⟩
  .exact absurd h1 h
  .refine⟨p,h1,h2,?_⟩;by_cases u:p=t
   .rw[u]
   .exact zDs λz=>by
     have:=J.ap p t h2 B u (.inr z)
     grind
theorem jW (j:Jn) (c:Ct) (p:Nat):(dT j c p=true/\uY j c p=c)\/(dT j c p=false/\(uY j c p).gr=(yH j p).group):=by
 unfold uY;split
 .grind
 .rename_i h;refine .inr ⟨by simpa using h,?_⟩;dsimp only;unfold NP;split
  .rename_i h2;exact h2
  .rfl
def RA (e:Bool) (c:Ct) (o:List Int):List (Nat×xV):=if e=true then XW c o else jC c 1002
def Wl (J:JV j) {t:Nat} (A:t<ln j.ph):(jA j t c r).gr=c.gr\/(jA j t c r).gr=(yH j t).group:=by
 unfold jA;split
 .split
  .exact .inl Z
  .rename_i h;obtain⟨p,u,B,z⟩:=WR J (c:=c) (r:=r) A h;rw[u,zBx]
   rcases jW j c p with h|h
   all_goals grind
 .exact .inl Z
def Vl (e:Bool) (c:Ct) (o:List Int):uB (RA e c o)=true:=by cases e<;>rfl
def Yh (j:Jn) (t:Nat) (e:Bool) (i:Int) (c:Ct) (o:List Int):St:=⟨[(8,iA i),(1,.ptr 3000 0 0),(2,iA t),(3,.ptr 3 0 0)],RA e c o++[(3,.box [zE xN j.ph,zE iA j.cf,iA j.st])]⟩
theorem Pt (j:Jn) (J:JV j) (c:Ct) (C:CV j c) (h0:c.wt=0) (t:Nat) (ht:t<ln j.ph):zO 283 [wK j,.ptr 3000 0 0,iA (t:Int)] (jC c 1002) (.tup []) (RA (decide ((jA j t (jA j t c 0) 1).gr≠c.gr)) (jA j t (jA j t c 0) 1) (if(jA j t c 0).gr=c.gr then(jA j t c 0).nx else c.nx)):=by
 have hn:=J.n;have M:ln j.ph<=1000:=by omega
 have a1:=J.c;have a2:=zA xN j.ph;have az:=zJ xN j.ph t ht
 change (j.ph.map xN)[t]? =some (xN (yH j t))at az
 have ac:=C.n;have ag:=C.m;obtain⟨C1,av⟩:=Pl J C h0 ht 0;have G:=C1.n;have L:=C1.m;have au:=Wl J (c:=c) (r:=0) ht;have I:c.gr=c.gr:=rfl;refine VF tok func283 Z (λargs w=>call283 args w) Z Z (Vl _ _ _) (λF hF=>?_);refine WW ?_;refine dR [3000,1001,1002,2001,3] [8,1,2,3] (Yh j t false 0 c c.nx) (Yh j t (decide ((jA j t c 0).gr≠c.gr)) 1 (jA j t c 0) c.nx) (Yh j t (decide ((jA j t (jA j t c 0) 1).gr≠c.gr)) 2 (jA j t (jA j t c 0) 1) (if(jA j t c 0).gr=c.gr then(jA j t c 0).nx else c.nx)) Z Z ?_ ?_ ?_
 .unfold Yh;clear C1 au G L av;rw[show RA false c c.nx=jC c 1002 from Z];unfold jC;have V:=WQ j M c ac 0
  cases hd:RB j c 0 with
  |false=>
   rw[hd]at V;rw[show jA j t c 0=c by unfold jA;rw[Os IA]];rw[show decide (c.gr≠c.gr)=false from zA7 (λh=>h I)];clear hd;refine zS V ?_;rfl
  |true=>
  rw[hd]at V
  have z:jA j t c 0=if aY j c 0 t= -1 then c else uY j c (aY j c 0 t).toNat:=by unfold jA;rw[zA5 hd]
  by_cases ap:0=(yH j t).ring
  ·
   have hP:aY j c 0 t=t:=by unfold aY;rw[zA5 ap]
   rw[hP]at z;rw[Os zB,zBx]at z;by_cases hk:dT j c t=true\/c.gr=(yH j t).group
   .have S:=YS j M zB c ac ag t ht (J.rg t ht) hk
    have B:(uY j c t).gr=c.gr:=by
     rcases jW j c t with h|h
     .exact(zBq Ct.gr h.2).trans I
     .rcases hk with hk|hk
      .rw[hk]at h;cases h.1
      .exact h.2.trans (hk.symm.trans I)
    rw[z,show decide ((uY j c t).gr≠c.gr)=false from zA7 (λh=>h B)];generalize uY j c t=b at *;clear hd z B hk;unfold jC at S;refine yJ (xW V S) ?_;rfl
   .have O:dT j c t=false:=by
     cases h:dT j c t with
     |false=>rfl
     |true=>exact absurd (.inl h) hk
    have R:c.gr≠(yH j t).group:=λh=>hk (.inr h)
    have S:=PU j M zB c ac ag t ht (J.rg t ht) O R
    have B:(uY j c t).gr≠c.gr:=by
     rcases jW j c t with h|h
     .rw[O]at h;cases h.1
     .rw[h.2,<-I];exact λh=>R h.symm
    rw[z,show decide ((uY j c t).gr≠c.gr)=true from zA9 B];generalize uY j c t=b at *;clear hd z B hk O R;unfold jC XW at S;refine yJ (xW V S) ?_;rfl
  ·
   have cm:=wc j M zB c ag 0 t zB;have hP:aY j c 0 t=EV j (c.nx.getD (0:Int).toNat dd) 0 t:=by unfold aY;rw[Os ap]
   rw[<-hP]at cm;by_cases U:aY j c 0 t= -1
   .rw[zA5 U]at z;rw[z];rw[show decide (c.gr≠c.gr)=false from zA7 (λh=>h I)];generalize aY j c 0 t=pp at *;clear hP hd z;refine yJ (xW V cm) ?_;rfl
   obtain⟨p,Y,hp,ar⟩:=WR J (c:=c) (r:=0) ht U;rw[Os U,Y,zBx]at z;rw[Y]at cm;clear hP U Y;by_cases hk:dT j c p=true\/c.gr=(yH j p).group
   .have S:=YS j M zB c ac ag p hp (J.rg p hp) hk
    have B:(uY j c p).gr=c.gr:=by
     rcases jW j c p with h|h
     .exact(zBq Ct.gr h.2).trans I
     .rcases hk with hk|hk
      .rw[hk]at h;cases h.1
      .exact h.2.trans (hk.symm.trans I)
    rw[z,show decide ((uY j c p).gr≠c.gr)=false from zA7 (λh=>h B)];generalize uY j c p=b at *;clear hd z B hk;unfold jC at S;refine yJ (qM V cm S) ?_;rfl
   .have O:dT j c p=false:=by
     cases h:dT j c p with
     |false=>rfl
     |true=>exact absurd (.inl h) hk
    have R:c.gr≠(yH j p).group:=λh=>hk (.inr h)
    have S:=PU j M zB c ac ag p hp (J.rg p hp) O R
    have B:(uY j c p).gr≠c.gr:=by
     rcases jW j c p with h|h
     .rw[O]at h;cases h.1
     .rw[h.2,<-I];exact λh=>R h.symm
    rw[z,show decide ((uY j c p).gr≠c.gr)=true from zA9 B];generalize uY j c p=b at *;clear hd z B hk O R;unfold jC XW at S;refine yJ (qM V cm S) ?_;rfl
 .clear ac ag I;have ax:=au;generalize jA j t c 0=u at *;unfold Yh;by_cases A:u.gr=c.gr
  .rw [zA5 A,zA7 (λh=>h A)];rw[show RA false u c.nx=jC u 1002 from Z];unfold jC;have V:=WQ j M u G 1
   cases hd:RB j u 1 with
   |false=>
    rw[hd]at V;rw[show jA j t u 1=u by unfold jA;rw[Os IA]];rw[show decide (u.gr≠c.gr)=false from zA7 (λh=>h A)];clear hd;refine zS V ?_;rfl
   |true=>
   rw[hd]at V
   have z:jA j t u 1=if aY j u 1 t= -1 then u else uY j u (aY j u 1 t).toNat:=by unfold jA;rw[zA5 hd]
   by_cases ap:1=(yH j t).ring
   ·
    have hP:aY j u 1 t=t:=by unfold aY;rw[zA5 ap]
    rw[hP]at z;rw[Os zB,zBx]at z;by_cases hk:dT j u t=true\/u.gr=(yH j t).group
    .have S:=YS j M zB u G L t ht (J.rg t ht) hk
     have B:(uY j u t).gr=c.gr:=by
      rcases jW j u t with h|h
      .exact(zBq Ct.gr h.2).trans A
      .rcases hk with hk|hk
       .rw[hk]at h;cases h.1
       .exact h.2.trans (hk.symm.trans A)
     rw[z,show decide ((uY j u t).gr≠c.gr)=false from zA7 (λh=>h B)];generalize uY j u t=b at *;clear hd z B hk;unfold jC at S;refine yJ (xW V S) ?_;rfl
    .have O:dT j u t=false:=by
      cases h:dT j u t with
      |false=>rfl
      |true=>exact absurd (.inl h) hk
     have R:u.gr≠(yH j t).group:=λh=>hk (.inr h)
     have S:=PU j M zB u G L t ht (J.rg t ht) O R
     have B:(uY j u t).gr≠c.gr:=by
      rcases jW j u t with h|h
      .rw[O]at h;cases h.1
      .rw[h.2,<-A];exact λh=>R h.symm
     rw[z,show decide ((uY j u t).gr≠c.gr)=true from zA9 B];generalize uY j u t=b at *;clear hd z B hk O R;unfold jC XW at S;refine yJ (xW V S) ?_;rfl
   ·
    have cm:=wc j M zB u L 1 t zB;have hP:aY j u 1 t=EV j (u.nx.getD (1:Int).toNat dd) 1 t:=by unfold aY;rw[Os ap]
    rw[<-hP]at cm;by_cases U:aY j u 1 t= -1
    .rw[zA5 U]at z;rw[z];rw[show decide (u.gr≠c.gr)=false from zA7 (λh=>h A)];generalize aY j u 1 t=pp at *;clear hP hd z;refine yJ (xW V cm) ?_;rfl
    obtain⟨p,Y,hp,ar⟩:=WR J (c:=u) (r:=1) ht U;rw[Os U,Y,zBx]at z;rw[Y]at cm;clear hP U Y;by_cases hk:dT j u p=true\/u.gr=(yH j p).group
    .have S:=YS j M zB u G L p hp (J.rg p hp) hk
     have B:(uY j u p).gr=c.gr:=by
      rcases jW j u p with h|h
      .exact(zBq Ct.gr h.2).trans A
      .rcases hk with hk|hk
       .rw[hk]at h;cases h.1
       .exact h.2.trans (hk.symm.trans A)
     rw[z,show decide ((uY j u p).gr≠c.gr)=false from zA7 (λh=>h B)];generalize uY j u p=b at *;clear hd z B hk;unfold jC at S;refine yJ (qM V cm S) ?_;rfl
    .have O:dT j u p=false:=by
      cases h:dT j u p with
      |false=>rfl
      |true=>exact absurd (.inl h) hk
     have R:u.gr≠(yH j p).group:=λh=>hk (.inr h)
     have S:=PU j M zB u G L p hp (J.rg p hp) O R
     have B:(uY j u p).gr≠c.gr:=by
      rcases jW j u p with h|h
      .rw[O]at h;cases h.1
      .rw[h.2,<-A];exact λh=>R h.symm
     rw[z,show decide ((uY j u p).gr≠c.gr)=true from zA9 B];generalize uY j u p=b at *;clear hd z B hk O R;unfold jC XW at S;refine yJ (qM V cm S) ?_;rfl
  .have E:u.gr≠c.gr:=A
   have W:u.gr=(yH j t).group:=by
    rcases ax with h|h
    .exact absurd h E
    .exact h
   rw[Os A,zA9 E];rw[show RA true u c.nx=XW u c.nx from Z];unfold XW;have V:=WQ j M u G 1
   cases hd:RB j u 1 with
   |false=>
    rw[hd]at V;rw[show jA j t u 1=u by unfold jA;rw[Os IA]];rw[show decide (u.gr≠c.gr)=true from zA9 E];clear hd;refine zS V ?_;rfl
   |true=>
   rw[hd]at V
   have z:jA j t u 1=if aY j u 1 t= -1 then u else uY j u (aY j u 1 t).toNat:=by unfold jA;rw[zA5 hd]
   by_cases ap:1=(yH j t).ring
   ·
    have hP:aY j u 1 t=t:=by unfold aY;rw[zA5 ap]
    rw[hP]at z;rw[Os zB,zBx]at z;have S:=PS j M zB u G L t ht (J.rg t ht) (.inr (W.trans (rfl:(yH j t).group=(yH j t).group).symm))
    have B:(uY j u t).gr≠c.gr:=by
     rcases jW j u t with h|h
     .rw[h.2];exact E
     .rw[h.2,(rfl:(yH j t).group=(yH j t).group),<-W];exact E
    rw[z,show decide ((uY j u t).gr≠c.gr)=true from zA9 B];generalize uY j u t=b at *;clear hd z B;unfold jC at S;refine yJ (xW V S) ?_;rfl
   ·
    have cm:=wc j M zB u L 1 t zB;have hP:aY j u 1 t=EV j (u.nx.getD (1:Int).toNat dd) 1 t:=by unfold aY;rw[Os ap]
    rw[<-hP]at cm;by_cases U:aY j u 1 t= -1
    .rw[zA5 U]at z;rw[z];rw[show decide (u.gr≠c.gr)=true from zA9 E];generalize aY j u 1 t=pp at *;clear hP hd z;refine yJ (xW V cm) ?_;rfl
    obtain⟨p,Y,hp,ar⟩:=WR J (c:=u) (r:=1) ht U;rw[Os U,Y,zBx]at z;rw[Y]at cm;clear hP U Y;have S:=PS j M zB u G L p hp (J.rg p hp) (.inr (W.trans (ar:(yH j p).group=(yH j t).group).symm))
    have B:(uY j u p).gr≠c.gr:=by
     rcases jW j u p with h|h
     .rw[h.2];exact E
     .rw[h.2,(ar:(yH j p).group=(yH j t).group),<-W];exact E
    rw[z,show decide ((uY j u p).gr≠c.gr)=true from zA9 B];generalize uY j u p=b at *;clear hd z B;unfold jC at S;refine yJ (qM V cm S) ?_;rfl
 .generalize (if(jA j t c 0).gr=c.gr then(jA j t c 0).nx else c.nx)=o at *;generalize jA j t (jA j t c 0) 1=c2 at *;unfold Yh;by_cases he:c2.gr=c.gr
  .rw[zA7 (λh=>h he)];refine WW ?_;exact uX [3000,1001,1002] Z Z Z Z
  .rw[zA9 he];refine WW ?_;exact uX [3000,1001,1002,2001] Z Z Z Z
def Ul (c:Ct) (u:ln c.li<=1000):zO 322 [Qt c] [] (bA (ib c)) []:=by rw[jV];exact CZ c u
def vc (c:Ct) (i:Nat):Bool:=ib c&&(c.nx.take i).all λp=>p== -1
theorem CN (c:Ct) (i:Nat) (hi:i<ln c.nx):vc c (i+1)=(vc c i&&(c.nx.getD i dd== -1)):=by grind [vc,List.take_append_getElem,pb,Bool.and_assoc]
def QU (j:Jn) (e:Bool) (i:Int) (c:Ct) (o:List Int):St:=⟨[(36,iA i),(1,.ptr 3000 0 0),(2,.ptr 2 0 0)],RA e c o++[(2,.box [zE xN j.ph,zE iA j.cf,iA j.st])]⟩
theorem Ot (j:Jn) (J:JV j) (c:Ct) (C:CV j c) (h0:c.wt=0):zO 284 [wK j,.ptr 3000 0 0] (jC c 1002) (.tup []) (RA (Rl c) (tj j c) c.nx):=by
 have hn:=J.n;have O:ln j.ph<=1000:=by omega
 have bd:=J.c;have bl:=zA xN j.ph;have bf:=zA xG c.li;have bk:=zA iA c.nx;have a7:=C.n;have a6:=C.m;have ca:=Ul c zB;have cg:=CX j O J.gp;have ba:=PW J
 have a8:dZ j<=4:=by
  have:∀n,n<=ln j.ph->rb j.ph n<=4:=λn=>by
   induction n with
   |zero=>intro _;show(0:Int)<=4;omega
   |succ n ih=>
    intro h;have h1:=ih zB;have h2:=J.gp n zB;unfold yH at h2;unfold rb;omega
  exact this _ (zBb _)
 have a5:=C.g;have ar:(c.gr+1).tmod (dZ j)=(c.gr+1) % dZ j:=zCg zB;have hO:vc c (ln c.nx)=Rl c:=by unfold vc Rl;rw[zA8]
 refine VF tok func284 Z (λargs w=>call284 args w) Z Z (Vl _ _ _) (λF hF=>?_);unfold jC;have a1:vc c 0=ib c:=by unfold vc;simp
 rw[<-a1]at ca;refine zS ca ?_;refine zN (ln c.nx) [2,3000,1001,1002] [2,3000,1001,1002] [1,2,15,16] [4,17,1,2,15,16] Z (λi T U=>⟨(4,bA (vc c i))::(17,iA i)::T,U⟩) (Lq ?_ ?_)
 .intro i hi;have hy:=zJ iA c.nx i hi;have es:=CN c i hi;rw[es];generalize vc c i=o at *;generalize c.nx.getD i dd=x at *;by_cases hx:x= -1
  .rw[show(x== -1)=true by rw[zCp];exact hx,zD1];clear ca cg;refine WW ?_;rfl
  .rw[show(x== -1)=false by rw[zB3];exact hx,zC6];clear ca cg;refine WW ?_;rfl
 .rw [hO];clear hO a1 ca
  cases ax:Rl c with
  | true=>
   have ag:tj j c=qY j (qY j (LZ j c ((c.gr+1) % dZ j)) 0) 1:=by unfold tj;rw[zA5 ax]
   rw[ag];have a9:0<=(c.gr+1) % dZ j/\(c.gr+1) % dZ j<dZ j:=⟨zEe _ zB,zDy _ zB⟩;have W:=Ee C a9;have bb:(LZ j c ((c.gr+1) % dZ j)).wt=0:=h0;have ce:=Ie j O ((c.gr+1) % dZ j) c.gr c.wt (c.li.map xG) (c.nx.map iA) (c.li.map xG).length (c.nx.map iA).length;rw[show([(3000,.box [.ref 1001 0 (c.li.map xG).length,iA ((c.gr+1) % dZ j),.ref 2001 0 2,iA c.wt]),(1001,.arr 2 (c.li.map xG) false),(1002,.arr 1 (c.nx.map iA) false),(2001,.arr 1 [iA (jJ j 0 ((c.gr+1) % dZ j) 0),iA (jJ j 1 ((c.gr+1) % dZ j) 0)] false)]:List (Nat×xV))=XW (LZ j c ((c.gr+1) % dZ j)) c.nx from Z]at ce;rw[<-ar]at ce;rw[ar]at ce;generalize a4:LZ j c ((c.gr+1) % dZ j)=B at *;rw[<-ar]at ce;have br:¬dZ j=0:=by omega
   generalize dZ j=gm at *;have ac:=W.n;have ap:=W.m;obtain⟨I,a3⟩:=RC J W bb (r:=0) zB;have E:=I.n;have G:=I.m
   change CV j (qY j B 0)at I
   change (qY j B 0).li.length=ln j.ph at E
   change (qY j B 0).nx.length=2 at G
   clear ag a4 C;unfold XW at ce;refine yJ (xW cg ce) ?_;refine dR [3000,1001,1002,2001,2] [36,1,2] (QU j true 0 B c.nx) (QU j true 1 (qY j B 0) c.nx) (QU j true 2 (qY j (qY j B 0) 1) c.nx) Z Z ?_ ?_ ?_
   .unfold QU;rw[show RA true B c.nx=XW B c.nx from Z];unfold XW;have L:=WQ j O B ac 0;have V:=zJ iA B.nx 0 zB;have hv:=W.v 0 zB;have az:(B.nx.map iA).length=2:=by rw[zA6];exact ap
    cases hd:RB j B 0 with
    |false=>
     rw[hd]at L;rw[show qY j B 0=B by unfold qY;rw[Os QG]];clear hd;refine zS L ?_;rfl
    |true=>
    rw[hd]at L
    have u:qY j B 0=if B.nx.getD 0 dd= -1 then B else uY j B (B.nx.getD 0 dd).toNat:=by
     unfold qY;rw[hd]
     show(if true=true/\B.nx.getD 0 dd≠ -1 then uY j B (B.nx.getD 0 dd).toNat else B)=_
     by_cases h:B.nx.getD 0 dd= -1
     .rw[zA5 h,Os (λk=>k.2 h)]
     .rw[Os h,zA5 ⟨rfl,h⟩]
    clear hd;by_cases A:B.nx.getD 0 dd= -1
    .rw[zA5 A]at u;rw[u];clear u hv;generalize B.nx.getD 0 dd=x at *;refine zS L ?_;rfl
    .rw[Os A]at u
     have S:Xh j (0:Nat) B.gr (B.nx.getD 0 dd):=by
      rcases hv with h|h
      .exact absurd h A
      .exact h
     obtain⟨i1,i2,i3,R⟩:=S;obtain⟨p,M⟩:∃p:Nat,B.nx.getD 0 dd=p:=⟨(B.nx.getD 0 dd).toNat,zB⟩;rw[M]at u V A i2 R;rw[zBx]at u R;have hp:p<ln j.ph:=by omega
     have Y:=PS j O zB B ac ap p hp (J.rg p hp) (.inr R.symm);rw[u];clear u hv i1 i2 i3 R M;generalize uY j B p=b at *;unfold jC at Y;refine yJ (xW L Y) ?_;rfl
   .generalize qY j B 0=z at *;unfold QU;rw[show RA true z c.nx=XW z c.nx from Z];unfold XW;have L:=WQ j O z E 1;have V:=zJ iA z.nx 1 zB;have hv:=I.v 1 zB;have az:(z.nx.map iA).length=2:=by rw[zA6];exact G
    cases hd:RB j z 1 with
    |false=>
     rw[hd]at L;rw[show qY j z 1=z by unfold qY;rw[Os QG]];clear hd;refine zS L ?_;rfl
    |true=>
    rw[hd]at L
    have u:qY j z 1=if z.nx.getD 1 dd= -1 then z else uY j z (z.nx.getD 1 dd).toNat:=by
     unfold qY;rw[hd]
     show(if true=true/\z.nx.getD 1 dd≠ -1 then uY j z (z.nx.getD 1 dd).toNat else z)=_
     by_cases h:z.nx.getD 1 dd= -1
     .rw[zA5 h,Os (λk=>k.2 h)]
     .rw[Os h,zA5 ⟨rfl,h⟩]
    clear hd;by_cases A:z.nx.getD 1 dd= -1
    .rw[zA5 A]at u;rw[u];clear u hv;generalize z.nx.getD 1 dd=x at *;refine zS L ?_;rfl
    .rw[Os A]at u
     have S:Xh j (1:Nat) z.gr (z.nx.getD 1 dd):=by
      rcases hv with h|h
      .exact absurd h A
      .exact h
     obtain⟨i1,i2,i3,R⟩:=S;obtain⟨p,M⟩:∃p:Nat,z.nx.getD 1 dd=p:=⟨(z.nx.getD 1 dd).toNat,zB⟩;rw[M]at u V A i2 R;rw[zBx]at u R;have hp:p<ln j.ph:=by omega
     have Y:=PS j O zB z E G p hp (J.rg p hp) (.inr R.symm);rw[u];clear u hv i1 i2 i3 R M;generalize uY j z p=b at *;unfold jC at Y;refine yJ (xW L Y) ?_;rfl
   .generalize qY j (qY j B 0) 1=c2 at *;unfold QU;refine WW ?_;exact uX [3000,1001,1002,2001] Z Z Z Z
  | false=>
   have ag:tj j c=qY j (qY j c 0) 1:=by unfold tj;rw[Os (by rw[ax];decide)]
   rw[ag];clear cg ar ag ba a8 a5;have a2:=C;have au:=a7;have av:=a6;obtain⟨I,a3⟩:=RC J C h0 (r:=0) zB;have E:=I.n;have G:=I.m
   change CV j (qY j c 0)at I
   change (qY j c 0).li.length=ln j.ph at E
   change (qY j c 0).nx.length=2 at G
   refine WW ?_;clear ax;refine dR [3000,1001,1002,2001,2] [36,1,2] (QU j false 0 c c.nx) (QU j false 1 (qY j c 0) c.nx) (QU j false 2 (qY j (qY j c 0) 1) c.nx) Z Z ?_ ?_ ?_
   .unfold QU;rw[show RA false c c.nx=jC c 1002 from Z];unfold jC;have L:=WQ j O c au 0;have V:=zJ iA c.nx 0 zB;have hv:=a2.v 0 zB;have az:(c.nx.map iA).length=2:=by rw[zA6];exact av
    cases hd:RB j c 0 with
    |false=>
     rw[hd]at L;rw[show qY j c 0=c by unfold qY;rw[Os QG]];clear hd;refine zS L ?_;rfl
    |true=>
    rw[hd]at L
    have u:qY j c 0=if c.nx.getD 0 dd= -1 then c else uY j c (c.nx.getD 0 dd).toNat:=by
     unfold qY;rw[hd]
     show(if true=true/\c.nx.getD 0 dd≠ -1 then uY j c (c.nx.getD 0 dd).toNat else c)=_
     by_cases h:c.nx.getD 0 dd= -1
     .rw[zA5 h,Os (λk=>k.2 h)]
     .rw[Os h,zA5 ⟨rfl,h⟩]
    clear hd;by_cases A:c.nx.getD 0 dd= -1
    .rw[zA5 A]at u;rw[u];clear u hv;generalize c.nx.getD 0 dd=x at *;refine zS L ?_;rfl
    .rw[Os A]at u
     have S:Xh j (0:Nat) c.gr (c.nx.getD 0 dd):=by
      rcases hv with h|h
      .exact absurd h A
      .exact h
     obtain⟨i1,i2,i3,R⟩:=S;obtain⟨p,M⟩:∃p:Nat,c.nx.getD 0 dd=p:=⟨(c.nx.getD 0 dd).toNat,zB⟩;rw[M]at u V A i2 R;rw[zBx]at u R;have hp:p<ln j.ph:=by omega
     have Y:=YS j O zB c au av p hp (J.rg p hp) (.inr R.symm);rw[u];clear u hv i1 i2 i3 R M;generalize uY j c p=b at *;unfold jC at Y;refine yJ (xW L Y) ?_;rfl
   .generalize qY j c 0=z at *;unfold QU;rw[show RA false z c.nx=jC z 1002 from Z];unfold jC;have L:=WQ j O z E 1;have V:=zJ iA z.nx 1 zB;have hv:=I.v 1 zB;have az:(z.nx.map iA).length=2:=by rw[zA6];exact G
    cases hd:RB j z 1 with
    |false=>
     rw[hd]at L;rw[show qY j z 1=z by unfold qY;rw[Os QG]];clear hd;refine zS L ?_;rfl
    |true=>
    rw[hd]at L
    have u:qY j z 1=if z.nx.getD 1 dd= -1 then z else uY j z (z.nx.getD 1 dd).toNat:=by
     unfold qY;rw[hd]
     show(if true=true/\z.nx.getD 1 dd≠ -1 then uY j z (z.nx.getD 1 dd).toNat else z)=_
     by_cases h:z.nx.getD 1 dd= -1
     .rw[zA5 h,Os (λk=>k.2 h)]
     .rw[Os h,zA5 ⟨rfl,h⟩]
    clear hd;by_cases A:z.nx.getD 1 dd= -1
    .rw[zA5 A]at u;rw[u];clear u hv;generalize z.nx.getD 1 dd=x at *;refine zS L ?_;rfl
    .rw[Os A]at u
     have S:Xh j (1:Nat) z.gr (z.nx.getD 1 dd):=by
      rcases hv with h|h
      .exact absurd h A
      .exact h
     obtain⟨i1,i2,i3,R⟩:=S;obtain⟨p,M⟩:∃p:Nat,z.nx.getD 1 dd=p:=⟨(z.nx.getD 1 dd).toNat,zB⟩;rw[M]at u V A i2 R;rw[zBx]at u R;have hp:p<ln j.ph:=by omega
     have Y:=YS j O zB z E G p hp (J.rg p hp) (.inr R.symm);rw[u];clear u hv i1 i2 i3 R M;generalize uY j z p=b at *;unfold jC at Y;refine yJ (xW L Y) ?_;rfl
   .generalize qY j (qY j c 0) 1=c2 at *;unfold QU;refine WW ?_;exact uX [3000,1001,1002] Z Z Z Z
def uc (l:List Li) (hl:ln l<=1073741824):zO 172 [zE xG l] [] (.ref 1001 0 (l.map xG).length) [(1001,.arr 2 (l.map xG) false)]:=by
 have u:=zA xG l;refine eM call172 λF hF=>?_
 refine xI 0 Z (λcap z=>?_) ?_
 .have:l=[]:=by simpa using z
  subst this
  (repeat' (first|refine yf ?_|apply yW|apply xH|intro hc|fail))
  refine qH 2 1001 2 Z Z Z (xL ?_);exact zP [1001] Z Z Z Z
 .repeat' (first|(apply zG;first|refine uN tok Z Z ?_|(apply wT;refine wJ (xX tok (.inl ⟨rfl,rfl⟩) Z Z Z Z) Z ?_)|(apply yI;refine qA (nw:=[1001]) (yV tok 1001 (xs:=[]) Z Z Z Z Z Z Z Z Z) Z Z Z ?_)|(apply yE;refine vC tok Z Z Z Z Z Z Z (yM _ _ (λ_=>rfl)) Z Z Z zB Z ?_)|apply kR)|(first|apply xY|apply xR|refine uD Z ?_|refine yR Z ?_|refine yC Z ?_|refine wA Z (λhc=>?_) λhc=>?_|apply xJ|apply xL|apply xO|apply xC))
  exact zP [1001] Z Z Z Z
def CO (l:List Int) (hl:ln l<=1073741824):zO 111 [zE iA l] [] (.ref 1002 0 (l.map iA).length) [(1002,.arr 1 (l.map iA) false)]:=by
 have u:=zA iA l;refine eM call111 λF hF=>?_
 refine xI 0 Z (λcap z=>?_) ?_
 .have:l=[]:=by simpa using z
  subst this
  (repeat' (first|refine yf ?_|apply yW|apply xH|intro hc|fail))
  refine qH 2 1002 1 Z Z Z (xL ?_);exact zP [1002] Z Z Z Z
 .repeat' (first|(apply zG;first|refine uN tok Z Z ?_|(apply wT;refine wJ (xX tok (.inl ⟨rfl,rfl⟩) Z Z Z Z) Z ?_)|(apply yI;refine qA (nw:=[1002]) (yV tok 1002 (xs:=[]) Z Z Z Z Z Z Z Z Z) Z Z Z ?_)|(apply yE;refine vC tok Z Z Z Z Z Z Z (yM _ _ (λ_=>rfl)) Z Z Z zB Z ?_)|apply kR)|(first|apply xY|apply xR|refine uD Z ?_|refine yR Z ?_|refine yC Z ?_|refine wA Z (λhc=>?_) λhc=>?_|apply xJ|apply xL|apply xO|apply xC))
  exact zP [1002] Z Z Z Z
def NN (j:Jn) (c:Ct) (t:Int) (i:Nat):List Li:=(List.range (ln j.ph)).map λp=>if p<i then CR (yH j p) (xS c p) (GE j c t p)else xS c p
def PV (j:Jn) (c:Ct) (t:Int) (i:Nat):(NN j c t i).length=ln j.ph:=by simp[NN]
theorem CP (hc:ln c.li=ln j.ph) (t:Int):NN j c t 0=c.li:=by apply zCf<;>grind [NN,List.getElem?_range,xS,pb,List.getElem?_eq_none]
theorem Ge (j:Jn) (c:Ct) (t:Int):NN j c t (ln j.ph)=UK j c t:=by grind [NN,UK,List.map_congr_left]
theorem CQ (j:Jn) (c:Ct) (t:Int) (i:Nat):NN j c t (i+1)=(NN j c t i).set i (CR (yH j i) (xS c i) (GE j c t i)):=by apply zCf<;>grind [NN,CR,yH,xS,GE,List.getElem?_range,List.getElem?_eq_none]
theorem Tl {p:Ph} {l:Li} (h:mb p l=true) (z:p.yel<=60) (u:p.red<=60):0<=l.tk/\l.tk<=1073741824:=by grind [mb]
def GD {P:Program} {C:List Nat} {F:Fr C} {m:Nat} {A:Array Oper} {z:List Oper} {Q:List FP->St->Prop} {B:Bool} {fs:List FP} {ty T:Nat} {pos:String} {u:Array Edge} {st:St} (hk:yP P F m A B (⟨some 7,.alloc T,ty,pos,u,none⟩::z) st fs Q):yP P F m A B (⟨some 7,.alloc T,ty,pos,u,none⟩::z) st fs Q:=hk
theorem Z1 (j:Jn) (J:JV j) (c:Ct) (C:CV j c) (t:Int):zO 229 [wK j,JK c,iA t] [] (JK (GF j c t)) []:=by
 have hn:=J.n;have ax:=J.c;have S:=C.n;have ac:=C.m;have av:=C.w;have a4:=J.st;have a3:=zA xN j.ph;have ag:(c.li.map xG).length=j.ph.length:=by rw[zA6];exact S
 have az:(c.nx.map iA).length=2:=by rw[zA6];exact ac
 have k1:=BA j J;have Y:=Lt j J.b c;rw[S1 J C]at Y;have E:=uc c.li zB;have G:=CO c.nx zB;unfold GF;by_cases hw:0<c.wt
 .rw[zA5 hw];refine eM call229 λF hF=>?_
  refine yJ (xW k1 Y) ?_
  repeat' (first|(apply zG;first|(apply GD;refine qA (nw:=[3000]) (fP tok 3000 Z Z) Z Z Z ?_)|refine uN tok Z Z ?_|(apply xQ;(first|(refine vJ 172 ?_;first|refine wJ (zL (E) Z Z Z Z Z) Z ?_|refine qA (zL (E) Z Z Z Z Z) Z Z Z ?_|refine aO (zL (E) Z Z Z Z Z) Z Z Z ?_)|(refine vJ 111 ?_;first|refine wJ (zL (G) Z Z Z Z Z) Z ?_|refine qA (zL (G) Z Z Z Z Z) Z Z Z ?_|refine aO (zL (G) Z Z Z Z Z) Z Z Z ?_)))|(apply cE;refine cV tok Z Z Z ?_)|refine VH gY ?_|apply kR)|first|refine SQ ?_|fail)
  refine WW ?_;exact zI [] Z Z (jV ⟨c.li,c.gr,c.nx,c.wt-1⟩) Z
 rw[Os hw];have h0:c.wt=0:=by omega
 have M:=Nl J C h0 t;have I:=CP S t;have L:=Ge j c t;rw[ag]at E;have hN:∀i,((NN j c t i).map xG).length=j.ph.length:=λi=>by rw[zA6];exact PV j c t i
 refine eM call229 λF hF=>?_
 refine yJ (xW k1 Y) ?_
 repeat' (first|(apply zG;first|(apply GD;refine qA (nw:=[3000]) (fP tok 3000 Z Z) Z Z Z ?_)|refine uN tok Z Z ?_|(apply xQ;(first|(refine vJ 172 ?_;first|refine wJ (zL (E) Z Z Z Z Z) Z ?_|refine qA (zL (E) Z Z Z Z Z) Z Z Z ?_|refine aO (zL (E) Z Z Z Z Z) Z Z Z ?_)|(refine vJ 111 ?_;first|refine wJ (zL (G) Z Z Z Z Z) Z ?_|refine qA (zL (G) Z Z Z Z Z) Z Z Z ?_|refine aO (zL (G) Z Z Z Z Z) Z Z Z ?_)))|(apply cE;refine cV tok Z Z Z ?_)|refine VH gY ?_|apply kR)|first|refine SQ ?_|fail)
 (repeat' (first|refine Tc ?_|apply yW|apply xH|intro hc|(apply zG;first|refine SM ?_)|fail))
 refine yC Z (xJ ?_);apply xY;refine eQ [3000,1001,1002,3,4,6] [2,3,4,6,7,8] ⟨[(2,iA t),(3,.ptr 3 0 0),(4,.ptr 4 0 0),(6,.ptr 6 0 0),(7,.ptr 3000 0 0),(8,bA (ZO j t))],[(3000,.box [.ref 1001 0 j.ph.length,iA c.gr,.ref 1002 0 (c.nx.map iA).length,iA c.wt]),(1001,.arr 2 (c.li.map xG) false),(1002,.arr 1 (c.nx.map iA) false),(3,.box [zE xN j.ph,zE iA j.cf,iA j.st]),(4,.box [zE xG c.li,iA c.gr,zE iA c.nx,iA c.wt]),(6,.box [.s (.slice none 0 0),iA 0,.s (.slice none 0 0),iA 0])]⟩ rfl ?_ ?_
 .clear k1 Y E G M;by_cases a1:0<=t
  .by_cases a2:t<j.ph.length
   .rw[show ZO j t=true from zA9 ⟨a1,a2⟩];refine WW ?_;exact⟨rfl,rfl⟩
   .rw[show ZO j t=false from zA7 (λh=>a2 h.2)];refine WW ?_;exact⟨rfl,rfl⟩
  .rw[show ZO j t=false from zA7 (λh=>a1 h.1)];refine WW ?_;exact⟨rfl,rfl⟩
 clear k1 Y E G;refine WW ?_;refine zN (j.ph.length) [1001,3,4,6,3000,1002] [3,4,6,3000,1002] [2,3,4,6,7,8,51,52] [53,2,3,4,6,7,8,51,52] Z (λi T U=>⟨(53,iA i)::T,(1001,.arr 2 ((NN j c t i).map xG) false)::U⟩) ?_;(conv=>whnf);refine⟨by(rw[I];rfl),?_,?_⟩
 .intro i hi;have hy:=zJ xN j.ph i hi
  change (j.ph.map xN)[i]? =some (xN (yH j i))at hy
  have ar:=zJ xG c.li i zB
  change (c.li.map xG)[i]? =some (xG (xS c i))at ar
  have W:∃l,((NN j c t i).map xG)[i]? =some (xG l):=⟨_,zJ xG (NN j c t i) i (by rw[PV];exact hi)⟩;obtain⟨lm,W⟩:=W;have a5:=J.ti i hi;have a6:=Tl (C.k i hi) zB zB;have ap:Ax (yH j i):=⟨zB,zB,zB,zB⟩;have au:=hN i;have ls:=λlv=>Mt (yH j i) ap (xS c i) zB lv
  have ck:=gT j.cf zB i t;have es:=CQ j c t i;have em:(NN j c t (i+1)).map xG=((NN j c t i).map xG).set i (xG (CR (yH j i) (xS c i) (GE j c t i))):=by rw[es,zCs]
  rw[em];have u:GE j c t i=_:=rfl
  conv at u=>rhs;unfold GE
  have z:=ls (GE j c t i);clear ls es em M hN I L;generalize CR (yH j i) (xS c i) (GE j c t i)=ln,(NN j c t i).map xG=xs at *;generalize GE j c t i=lv at *;generalize kH j.cf i t=cq at*
  cases R:ZO j t with
  |false=>
   rw[R]at u;rw[Os xA]at u;generalize yH j i=ph,xS c i=l at *;by_cases O:ph.maxg<=l.tk+1
   .rw[zA9 O]at u;subst u;refine zS z ?_;rfl
   .rw[zA7 O]at u;subst u;refine zS z ?_;rfl
  | true=>
   rw[R]at u;rw[zA5 Z]at u;generalize yH j i=ph,xS c i=l at *;by_cases V:(i:Int)=t
   .rw[zA7 (λh=>h V)]at u;rw[zB8]at u;subst u;by_cases O:ph.maxg<=l.tk+1
    all_goals
     (refine zS z ?_)
     rfl
   rw[zA9 V,zBh]at u;by_cases O:ph.maxg<=l.tk+1
   .rw[zA9 O,zDt]at u;subst u;refine zS z ?_;rfl
   .rw[zA7 O,zDk]at u;rw[u]at z;clear u
    cases cq with
    |true=>
     refine yJ (xW ck z) ?_;rfl
    |false=>
     refine yJ (xW ck z) ?_;rfl
 .rw[L];have e1:((UK j c t).map xG).length=j.ph.length:=by simp[UK]
  clear L I hN
  cases R:ZO j t with
  | true=>
   rw[zA5 Z];unfold ZO at R;rw[zBc]at R;obtain⟨B,rfl⟩:∃B:Nat,t=B:=⟨t.toNat,zB⟩;rw[zBx];have cs:=Pt j J ⟨UK j c B,c.gr,c.nx,c.wt⟩ M h0 B zB;unfold jC at cs;dsimp only at cs;rw[e1]at cs;generalize jA j B (jA j B ⟨UK j c B,c.gr,c.nx,c.wt⟩ 0) 1=A,(if(jA j B ⟨UK j c B,c.gr,c.nx,c.wt⟩ 0).gr=c.gr then(jA j B ⟨UK j c B,c.gr,c.nx,c.wt⟩ 0).nx else c.nx)=o,(UK j c B).map xG=xs at *;clear M
   cases hE:decide (A.gr≠c.gr)with
   |true=>
    rw[hE,show RA true A o=XW A o from Z]at cs;unfold XW at cs;clear hE;refine zS cs ?_;exact zI [] Z Z (jV A) Z
   |false=>
    rw[hE,show RA false A o=jC A 1002 from Z]at cs;unfold jC at cs;clear hE;refine zS cs ?_;exact zI [] Z Z (jV A) Z
  | false=>
   rw[Os xA];have cs:=Ot j J ⟨UK j c t,c.gr,c.nx,c.wt⟩ M h0;unfold jC at cs;dsimp only at cs;rw[e1]at cs;generalize tj j ⟨UK j c t,c.gr,c.nx,c.wt⟩=A,Rl ⟨UK j c t,c.gr,c.nx,c.wt⟩=e,(UK j c t).map xG=xs at *;clear M
   cases e with
   |true=>
    rw[show RA true A c.nx=XW A c.nx from Z]at cs;unfold XW at cs;refine zS cs ?_;exact zI [] Z Z (jV A) Z
   |false=>
    rw[show RA false A c.nx=jC A 1002 from Z]at cs;unfold jC at cs;refine zS cs ?_;exact zI [] Z Z (jV A) Z
