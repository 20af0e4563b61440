/- Part 22. -/
import Derived.Test.YtaglbcjljlkjcaaGreatW21
namespace Go.Proofs.YtaglbcjljlkjcaaGreat.Av
open Tryz
set_option linter.all false
set_option maxRecDepth 4000
set_option maxHeartbeats 1000000
open List renaming length->ln,getD->pb
open Inhabited renaming default->dd
variable {c:Ct}{r:Int}{j:Jn}
theorem NS {p:Nat->Bool}:∀(l:List Nat) (i x:Nat),l[i]? =some x->(∀y∈l.take i,p y=false)->p x=true->l.find? p=some x
 | [],i,x,h,_,_=>by simp at h
 |y::l,0,x,h,_,u=>by
  simp at h;subst h;rw[List.find?_cons,u]
 |y::l,i+1,x,h,A,u=>by
  rw[List.find?_cons,A y zV];exact NS l i x OZ (λz B=>A z (by simp[B])) u
def PN {p:Nat->Bool} {l:List Nat} (h:∀y∈l,p y=false):l.find? p=none:=List.find?_eq_none.2 λy u=>by rw[h y u];decide
theorem SZ {l:List Nat} {i x z:Nat} (hx:l[i]? =some x) (u:z∈l.take (i+1)):z∈l.take i\/z=x:=by grind [List.take_add_one]
def VD (j:Jn) (R:ln j.ph<=1000) (r g f:Int):zN 259 [wJ j,iA r,iA g,iA f] [] (iA (jH j r g f)) []:=by
 have c:=im j r;unfold Qh at c;have hl:=zA xN j.ph;refine eM call259 λF hF=>?_
 refine zS c ?_;refine qO hF (nc j R r) Z [4,6,7,8] [4,6,7,8] Z Z Z Z Z Z Z Z Z (λi ys h=>?_) (λ_=>[(4,.box [zE xN j.ph,zE iA j.cf,iA j.st]),(6,.box [iA g]),(7,.box [iA f]),(8,.box [iA 0])]) (λi=>∀x∈(QS j r).take i,(decide (f<=(x:Int))&&(yF j x).group==g)=false) (T:=[(4,.ptr 4 0 0),(6,.ptr 6 0 0),(7,.ptr 7 0 0),(8,.ptr 8 0 0)]) Z zV (λi ys y C B O h1 h2=>?_) (λB=>?_)
 .rw[zAz,zBa]at h;obtain⟨x,_,rfl⟩:=h;rfl
 .rw[zAz,zBa]at C;obtain⟨x,hx,rfl⟩:=C
  show uD _ O _ _ ⟨[(13,iA (x:Int)),(4,.ptr 4 0 0),(6,.ptr 6 0 0),(7,.ptr 7 0 0),(8,.ptr 8 0 0)],[(4,.box [zE xN j.ph,zE iA j.cf,iA j.st]),(6,.box [iA g]),(7,.box [iA f]),(8,.box [iA 0])]⟩ _
  have I:=(cR.1 (zCc hx)).1;have Y:(j.ph.map xN)[x]? =some (xN (yF j x)):=zJ xN j.ph x I
  have u:(decide (f<=(x:Int))&&(yF j x).group==g)=false->∀z∈(QS j r).take (i+1),(decide (f<=(z:Int))&&(yF j z).group==g)=false:=λhb z S=>by
   rcases SZ hx S with h|rfl
   .exact B z h
   .exact hb
  have E:(decide (f<=(x:Int))&&(yF j x).group==g)=true->jH j r g f=x:=λhb=>by
   unfold jH;rw[NS _ i x hx B hb]
  clear B hx;generalize yF j x=t at *;refine WW ?_;refine⟨rfl,λU V W=>?_⟩;by_cases L:f<=(x:Int)
  .by_cases M:t.group=g
   .rw[E (by rw[zAu L,zB8.2 M];rfl)];exact ly
   .have A:=u (by rw[zBm.2 M,zCp]);refine WW ?_;exact⟨rfl,A⟩
  .have A:=u (by rw[zAs L,zBt]);refine WW ?_;exact⟨rfl,A⟩
 .rw[zAr,zAt]at B
  have G:jH j r g f= -1:=by
   unfold jH;rw[PN B]
  rw[G];exact ly
def Q0 (j:Jn) (R:ln j.ph<=1000) (c:Ct) (hc:ln c.li=ln j.ph) (r:Int):zN 323 [wJ j,JM c,iA r] [] (bA (VG j c r)) []:=by
 have I:=im j r;unfold Qh at I;have hl:=zA xN j.ph;have O:=zA xE c.li;refine eM call323 λF hF=>?_
 refine zS I ?_;refine qO hF (nc j R r) Z [3,4,6] [3,4,6] Z Z Z Z Z Z Z Z Z (λi ys h=>?_) (λ_=>[(3,.box [zE xN j.ph,zE iA j.cf,iA j.st]),(4,.box [zE xE c.li,iA c.gr,zE iA c.nx,iA c.wt]),(6,.box [bA false])]) (λi=>∀x∈(QS j r).take i,((xS c x).lamp==0)=true) (T:=[(3,.ptr 3 0 0),(4,.ptr 4 0 0),(6,.ptr 6 0 0)]) Z zV (λi ys y B A M h1 h2=>?_) (λA=>?_)
 .rw[zAz,zBa]at h;obtain⟨x,_,rfl⟩:=h;rfl
 .rw[zAz,zBa]at B;obtain⟨x,hx,rfl⟩:=B
  show uD _ M _ _ ⟨[(11,iA (x:Int)),(3,.ptr 3 0 0),(4,.ptr 4 0 0),(6,.ptr 6 0 0)],[(3,.box [zE xN j.ph,zE iA j.cf,iA j.st]),(4,.box [zE xE c.li,iA c.gr,zE iA c.nx,iA c.wt]),(6,.box [bA false])]⟩ _
  have u:=zCc hx;have S:=(cR.1 u).1;have hy:(c.li.map xE)[x]? =some (xE (xS c x)):=zJ xE c.li x zB
  have C:((xS c x).lamp==0)=true->∀z∈(QS j r).take (i+1),((xS c z).lamp==0)=true:=λhb z U=>by
   rcases SZ hx U with h|rfl
   .exact A z h
   .exact hb
  have E:((xS c x).lamp==0)=false->VG j c r=false:=λhb=>by
   unfold VG;exact zDy.2 ⟨x,u,by rw[hb];decide⟩
  clear A hx;generalize xS c x=t at *;refine WW ?_;refine⟨rfl,λV W Y=>?_⟩;by_cases L:t.lamp=0
  .have G:=C (zB8.2 L);refine WW ?_;exact⟨rfl,G⟩
  .rw[E (zBm.2 L)];exact ly
 .rw[zAr,zAt]at A;have hd:VG j c r=true:=zA5.2 A;rw[hd];exact ly
def uj (j:Jn) (r t:Int) (i:Nat):Int:=match ((QS j r).take i).find? (λp:Nat=>!kK j.cf p t)with
 |some p=>p
 |none=> -1
theorem wm {t:Int} {i x:Nat} (hx:(QS j r)[i]? =some x):uj j r t (i+1)=if kK j.cf x t=true then uj j r t i else if uj j r t i= -1 then(x:Int)else uj j r t i:=by
 unfold uj;rw[zDr,hx,List.find?_append]
 grind
theorem N0 (j:Jn) (hn:ln j.ph<=1000) (M:ln j.cf<=40) (c:Ct) (hm:ln c.nx=2) (r t:Int) (hr:0<=r/\r<2):zN 324 [wJ j,JM c,iA r,iA t] [] (iA (EH j (c.nx.getD r.toNat dd) r t)) []:=by
 have V:=im j r;unfold Qh at V;have hl:=zA xN j.ph;have ac:=zA iA c.nx;have ap:=yE iA c.nx r hr.1 zB;generalize S:c.nx.getD r.toNat dd=A at *;refine eM call324 λF hF=>?_
 refine zS V ?_;refine qO hF (nc j hn r) Z [4,5,6,7,8,9] [4,5,6,7,8,9] Z Z Z Z Z Z Z Z Z (λi ys h=>?_) (λi=>[(4,.box [zE xN j.ph,zE iA j.cf,iA j.st]),(5,.box [zE xE c.li,iA c.gr,zE iA c.nx,iA c.wt]),(6,.box [iA r]),(7,.box [iA t]),(8,.box [iA 0]),(9,.box [iA (uj j r t i)])]) (λi=>∀x∈(QS j r).take i,(!kK j.cf x t&&decide (A≠ -1/\A<=(x:Int)))=false) (T:=[(4,.ptr 4 0 0),(5,.ptr 5 0 0),(6,.ptr 6 0 0),(7,.ptr 7 0 0),(8,.ptr 8 0 0),(9,.ptr 9 0 0)]) Z zV (λi ys y L G F1 h1 h2=>?_) (λG=>?_)
 .rw[zAz,zBa]at h;obtain⟨x,_,rfl⟩:=h;rfl
 .rw[zAz,zBa]at L;obtain⟨x,hx,rfl⟩:=L
  show uD _ F1 _ _ ⟨[(14,iA (x:Int)),(4,.ptr 4 0 0),(5,.ptr 5 0 0),(6,.ptr 6 0 0),(7,.ptr 7 0 0),(8,.ptr 8 0 0),(9,.ptr 9 0 0)],[(4,.box [zE xN j.ph,zE iA j.cf,iA j.st]),(5,.box [zE xE c.li,iA c.gr,zE iA c.nx,iA c.wt]),(6,.box [iA r]),(7,.box [iA t]),(8,.box [iA 0]),(9,.box [iA (uj j r t i)])]⟩ _
  have ag:=(cR.1 (zCc hx)).1;have E:=gT j.cf M x t;have B:=wm (t:=t) hx
  have C:(!kK j.cf x t&&decide (A≠ -1/\A<=(x:Int)))=false->∀z∈(QS j r).take (i+1),(!kK j.cf z t&&decide (A≠ -1/\A<=(z:Int)))=false:=λhb z hz=>by
   rcases SZ hx hz with h|rfl
   .exact G z h
   .exact hb
  have O:(!kK j.cf x t&&decide (A≠ -1/\A<=(x:Int)))=true->EH j A r t=x:=λhb=>by
   unfold EH;rw[NS _ i x hx G hb]
  clear G hx S;generalize kK j.cf x t=q,uj j r t (i+1)=l2,uj j r t i=U at *;refine WW ?_;refine⟨rfl,λF2 g1 g2=>?_⟩
  cases q with
  |true=>
   rw[f5 Z]at B;have u:=C Z;subst B;refine zS E ?_;exact⟨rfl,u⟩
  |false=>
  rw[Os yY]at B;by_cases W:A= -1
  .have u:=C (by rw[zAs (λh=>h.1 W)];rfl);by_cases I:U= -1
   .rw[f5 I]at B;subst B;refine zS E ?_;exact⟨rfl,u⟩
   .rw[Os I]at B;subst B;refine zS E ?_;exact⟨rfl,u⟩
  by_cases Y:A<=(x:Int)
  .rw[O (by rw[zAu ⟨W,Y⟩];rfl)];exact ng E
  .have u:=C (by rw[zAs (λh=>Y h.2)];rfl);by_cases I:U= -1
   .rw[f5 I]at B;subst B;refine zS E ?_;exact⟨rfl,u⟩
   .rw[Os I]at B;subst B;refine zS E ?_;exact⟨rfl,u⟩
 .rw[zAr,zAt]at G
  have R:EH j A r t=uj j r t (QS j r).length:=by
   unfold EH uj;rw[PN G,zAt];rfl
  rw[R,zAr];generalize uj j r t (QS j r).length=U at *;exact ly
def uW {TT:List TI} {z:List ResultVar} {u:List (Nat×xW)} {r:AV} {h1:List (Nat×xW)} {st:St} {vs:List AV} (K:List Nat) (h:LQ TT st z=some vs) (A:(xB u).all (K.contains ·)=true) (B:wT K (zD st.h) (DS vs)=r) (hh:wU K (zD st.h)=h1):
 Fin TT z u r h1 .normal st:=⟨.inl Z,vs,K,h,A,.inl B.symm,by rw[hh]⟩
def qj (u z:Int):Nat->List AV
 |0=>[iA 0,iA 0]
 |1=>[iA u,iA 0]
 |_+2=>[iA u,iA z]
def De (j:Jn) (G:ln j.ph<=1000) (g R E:Int) (L N:List AV) (C V:Nat):zN 208 [wJ j,.ptr 3000 0 0,iA g] [(3000,.box [.ref 1001 0 C,iA R,.ref 1002 0 V,iA E]),(1001,.arr 2 L false),(1002,.arr 1 N false)] (.tup [])
  [(3000,.box [.ref 1001 0 C,iA g,.ref 2001 0 2,iA E]),(1001,.arr 2 L false),(1002,.arr 1 N false),(2001,.arr 1 [iA (jH j 0 g 0),iA (jH j 1 g 0)] false)]:=by
 have I:=VD j G 0 g 0;have M:=VD j G 1 g 0;generalize jH j 0 g 0=u,jH j 1 g 0=z at *;obtain⟨B,A⟩:∃n:Nat,n=2:=⟨2,rfl⟩;refine eM call208 λF hF=>?_
 (repeat' (first|refine uT ?_|apply yW|apply xI|intro hc|(apply zG;first|(apply fP;refine bD 2001 tok Z Z Z Z Z Z Z Z Z Z Z Z Z zB zB Z Z Z ?_))|fail))
 refine zO (B) [3000,2001,3,1001,1002] [3,1001,1002] [1,2,3] [20,19,1,2,3] Z (λi T U=>⟨(20,iA i)::(19,iA B)::T,(3000,.box [.ref 1001 0 C,iA g,.ref 2001 0 B,iA E])::(2001,.arr 1 (qj u z i) false)::U⟩) ?_;(conv=>whnf);refine⟨by(rw[A];rfl),?_,?_⟩
 .intro i hi;have:i=0\/i=1:=by omega
  rcases this with rfl|rfl
  .have S:(qj u z 0)[((0:Nat):Int).toNat]? =some (iA 0):=rfl;have hl:(qj u z 0).length=2:=rfl;refine zS I ?_;rfl
  .have S:(qj u z 1)[((1:Nat):Int).toNat]? =some (iA 0):=rfl;have hl:(qj u z 1).length=2:=rfl;refine zS M ?_;rfl
 .have O:qj u z B=[iA u,iA z]:=by rw[A];rfl
  rw[O];refine WW ?_;subst A;exact uW [3000,1001,1002,2001] Z Z Z Z
def qW (c:Ct) (kn:Nat):List (Nat×xW):=[(3000,.box [.ref 1001 0 (c.li.map xE).length,iA c.gr,.ref kn 0 (c.nx.map iA).length,iA c.wt]),(1001,.arr 2 (c.li.map xE) false),(kn,.arr 1 (c.nx.map iA) false)]
def aK (c:Ct) (o:List Int):List (Nat×xW):=[(3000,.box [.ref 1001 0 (c.li.map xE).length,iA c.gr,.ref 2001 0 (c.nx.map iA).length,iA c.wt]),(1001,.arr 2 (c.li.map xE) false),(1002,.arr 1 (o.map iA) false),(2001,.arr 1 (c.nx.map iA) false)]
theorem YY (j:Jn) (hn:ln j.ph<=1000) (G:ln j.cf<=40) (c:Ct) (hc:ln c.li=ln j.ph) (hm:ln c.nx=2) (p:Nat) (hp:p<ln j.ph) (hr:0<=(yF j p).ring/\(yF j p).ring<=1) (E:dQ j c p=true\/c.gr=(yF j p).group):
  zN 325 [wJ j,.ptr 3000 0 0,iA (p:Int)] (qW c 1002) (.tup []) (qW (uC j c p) 1002):=by
 have ap:=zA xN j.ph;have ac:=zA xE c.li;have ag:=zA iA c.nx;have I:=zJ xN j.ph p hp
 change (j.ph.map xN)[p]? =some (xN (yF j p))at I
 have L:=VD j hn (yF j p).ring (yF j p).group (p+1);unfold uC;by_cases hk:dQ j c p=true
 case pos=>
  rw[f5 hk];unfold dQ at hk;rw[zCi]at hk;obtain⟨M,S,hk⟩:=hk;rw[zBi]at S;unfold qW;refine eM call325 λF hF=>?_
  refine WW ?_;refine yU (ln c.li) [3,3000,1001,1002] [3,3000,1001,1002] [1,2,3,12,13] [14,1,2,3,12,13] Z (λi T U zs=>(i<=M)/\zs=⟨(14,iA i)::T,U⟩) (Lp ?_ ?_ ?_)
  .exact⟨zA9 _,rfl⟩
  .rintro i st hi ⟨hiq,rfl⟩;have W:=zJ xE c.li i hi
   change (c.li.map xE)[i]? =some (xE (xS c i))at W
   have A:=gT j.cf G p i;by_cases hb:((xS c i).lamp != 0&&kK j.cf p i)=true
   .rw[zA2]at hb;have h1:(xS c i).lamp≠0:=by simpa using hb.1
    rw[hb.2]at A;generalize xS c i=t at *;clear hb L hk;refine zS A ?_;exact zP [3000,1001,1002] Z Z Z Z
   .have ar:i<M:=by
     rcases zF5 i M with h|h
     .exact h
     .rw[show i=M by omega]at hb;exact absurd hk hb
    rw[zA2]at hb;by_cases h1:(xS c i).lamp=0
    .generalize xS c i=t at *;clear hb hk;refine WW ?_;exact⟨zB,rfl⟩
    .have z:kK j.cf p i=false:=by
      cases z:kK j.cf p i with
      |false=>rfl
      |true=>exact absurd ⟨by simpa using h1,z⟩ hb
     rw[z]at A;generalize xS c i=t at *;clear hb hk;refine zS A ?_;exact⟨zB,rfl⟩
  .rintro st ⟨hiq,rfl⟩;exfalso;omega
 have u:dQ j c p=false:=by simpa using hk
 have R:c.gr=(yF j p).group:=by
  rcases E with E|E
  .exact absurd E hk
  .exact E
 rw[Os hk];have eb:NV j c p=BN c p:=by unfold NV;rw[f5 R]
 rw[eb];unfold dQ at u;rw[zDa]at u;have O:∀q,q<ln c.li->((xS c q).lamp != 0&&kK j.cf p q)=false:=λq z=>by simpa using u q (zBi.2 z)
 unfold BN qW;dsimp only;rw[zCe,zCe,zB5,zB5];clear u hk eb E;generalize jH j (yF j p).ring (yF j p).group (p+1)=fo at *;obtain⟨rn,B⟩:∃n:Nat,(yF j p).ring=n:=⟨(yF j p).ring.toNat,zB⟩;have C:=zJ xE c.li p zB;have Y:=zJ iA c.nx rn zB;generalize V:xS c p=l0 at*
 change (c.li.map xE)[p]? =some (xE (xS c p))at C
 rw[V]at C;generalize c.nx.getD rn dd=n0 at *;refine eM call325 λF hF=>?_
 refine WW ?_;refine zO (ln c.li) [3,3000,1001,1002] [3,3000,1001,1002] [1,2,3,12,13] [14,1,2,3,12,13] Z (λi T U=>⟨(14,iA i)::T,U⟩) (Lq ?_ ?_)
 .intro i hi;have W:=zJ xE c.li i hi
  change (c.li.map xE)[i]? =some (xE (xS c i))at W
  have A:=gT j.cf G p i;have hb:=O i hi;clear O C Y L;by_cases h1:(xS c i).lamp=0
  .generalize xS c i=t at *;clear hb;refine WW ?_;rfl
  .have z:kK j.cf p i=false:=by
    cases z:kK j.cf p i with
    |false=>rfl
    |true=>
     rw[z,zDd]at hb;exact absurd JC h1
   rw[z]at A;generalize xS c i=t at *;clear hb;refine zS A ?_;rfl
 .clear O;generalize yF j p=t at *;rw[B,zBf];have et:xN t= .agg [iA rn,iA t.group,iA t.ming,iA t.maxg,iA t.yel,iA t.red,iA t.walk,iA t.clear]:=by rw[<-B];rfl
  rw[et]at I;rw[B]at L;refine zS L ?_;exact uW [3000,1001,1002] Z Z Z Z
theorem PO (j:Jn) (hn:ln j.ph<=1000) (G:ln j.cf<=40) (c:Ct) (hc:ln c.li=ln j.ph) (hm:ln c.nx=2) (p:Nat) (hp:p<ln j.ph) (hr:0<=(yF j p).ring/\(yF j p).ring<=1) (E:dQ j c p=true\/c.gr=(yF j p).group):
  zN 325 [wJ j,.ptr 3000 0 0,iA (p:Int)] (qW c 2001) (.tup []) (qW (uC j c p) 2001):=by
 have ap:=zA xN j.ph;have ac:=zA xE c.li;have ag:=zA iA c.nx;have I:=zJ xN j.ph p hp
 change (j.ph.map xN)[p]? =some (xN (yF j p))at I
 have L:=VD j hn (yF j p).ring (yF j p).group (p+1);unfold uC;by_cases hk:dQ j c p=true
 case pos=>
  rw[f5 hk];unfold dQ at hk;rw[zCi]at hk;obtain⟨M,S,hk⟩:=hk;rw[zBi]at S;unfold qW;refine eM call325 λF hF=>?_
  refine WW ?_;refine yU (ln c.li) [3,3000,1001,2001] [3,3000,1001,2001] [1,2,3,12,13] [14,1,2,3,12,13] Z (λi T U zs=>(i<=M)/\zs=⟨(14,iA i)::T,U⟩) (Lp ?_ ?_ ?_)
  .exact⟨zA9 _,rfl⟩
  .rintro i st hi ⟨hiq,rfl⟩;have W:=zJ xE c.li i hi
   change (c.li.map xE)[i]? =some (xE (xS c i))at W
   have A:=gT j.cf G p i;by_cases hb:((xS c i).lamp != 0&&kK j.cf p i)=true
   .rw[zA2]at hb;have h1:(xS c i).lamp≠0:=by simpa using hb.1
    rw[hb.2]at A;generalize xS c i=t at *;clear hb L hk;refine zS A ?_;exact zP [3000,1001,2001] Z Z Z Z
   .have ar:i<M:=by
     rcases zF5 i M with h|h
     .exact h
     .rw[show i=M by omega]at hb;exact absurd hk hb
    rw[zA2]at hb;by_cases h1:(xS c i).lamp=0
    .generalize xS c i=t at *;clear hb hk;refine WW ?_;exact⟨zB,rfl⟩
    .have z:kK j.cf p i=false:=by
      cases z:kK j.cf p i with
      |false=>rfl
      |true=>exact absurd ⟨by simpa using h1,z⟩ hb
     rw[z]at A;generalize xS c i=t at *;clear hb hk;refine zS A ?_;exact⟨zB,rfl⟩
  .rintro st ⟨hiq,rfl⟩;exfalso;omega
 have u:dQ j c p=false:=by simpa using hk
 have R:c.gr=(yF j p).group:=by
  rcases E with E|E
  .exact absurd E hk
  .exact E
 rw[Os hk];have eb:NV j c p=BN c p:=by unfold NV;rw[f5 R]
 rw[eb];unfold dQ at u;rw[zDa]at u;have O:∀q,q<ln c.li->((xS c q).lamp != 0&&kK j.cf p q)=false:=λq z=>by simpa using u q (zBi.2 z)
 unfold BN qW;dsimp only;rw[zCe,zCe,zB5,zB5];clear u hk eb E;generalize jH j (yF j p).ring (yF j p).group (p+1)=fo at *;obtain⟨rn,B⟩:∃n:Nat,(yF j p).ring=n:=⟨(yF j p).ring.toNat,zB⟩;have C:=zJ xE c.li p zB;have Y:=zJ iA c.nx rn zB;generalize V:xS c p=l0 at*
 change (c.li.map xE)[p]? =some (xE (xS c p))at C
 rw[V]at C;generalize c.nx.getD rn dd=n0 at *;refine eM call325 λF hF=>?_
 refine WW ?_;refine zO (ln c.li) [3,3000,1001,2001] [3,3000,1001,2001] [1,2,3,12,13] [14,1,2,3,12,13] Z (λi T U=>⟨(14,iA i)::T,U⟩) (Lq ?_ ?_)
 .intro i hi;have W:=zJ xE c.li i hi
  change (c.li.map xE)[i]? =some (xE (xS c i))at W
  have A:=gT j.cf G p i;have hb:=O i hi;clear O C Y L;by_cases h1:(xS c i).lamp=0
  .generalize xS c i=t at *;clear hb;refine WW ?_;rfl
  .have z:kK j.cf p i=false:=by
    cases z:kK j.cf p i with
    |false=>rfl
    |true=>
     rw[z,zDd]at hb;exact absurd JC h1
   rw[z]at A;generalize xS c i=t at *;clear hb;refine zS A ?_;rfl
 .clear O;generalize yF j p=t at *;rw[B,zBf];have et:xN t= .agg [iA rn,iA t.group,iA t.ming,iA t.maxg,iA t.yel,iA t.red,iA t.walk,iA t.clear]:=by rw[<-B];rfl
  rw[et]at I;rw[B]at L;refine zS L ?_;exact uW [3000,1001,2001] Z Z Z Z
theorem PP (j:Jn) (Y:ln j.ph<=1000) (L:ln j.cf<=40) (c:Ct) (hc:ln c.li=ln j.ph) (hm:ln c.nx=2) (p:Nat) (hp:p<ln j.ph) (hr:0<=(yF j p).ring/\(yF j p).ring<=1) (u:dQ j c p=false) (O:c.gr≠(yF j p).group):
  zN 325 [wJ j,.ptr 3000 0 0,iA (p:Int)] (qW c 1002) (.tup []) (aK (uC j c p) c.nx):=by
 have ap:=zA xN j.ph;have ac:=zA xE c.li;have ag:=zA iA c.nx;have E:=zJ xN j.ph p hp
 change (j.ph.map xN)[p]? =some (xN (yF j p))at E
 have G:=VD j Y (yF j p).ring (yF j p).group (p+1);unfold uC;rw[Os (by rw[u];decide)];have W:NV j c p=QB j (BN c p) (yF j p).group:=by unfold NV;rw[Os O]
 rw[W];unfold dQ at u;rw[zDa]at u;have I:∀q,q<ln c.li->((xS c q).lamp != 0&&kK j.cf p q)=false:=λq C=>by simpa using u q (zBi.2 C)
 have S:=De j Y (yF j p).group c.gr c.wt ((c.li.map xE).set p (xE ⟨1,0⟩)) (c.nx.map iA) (c.li.map xE).length (c.nx.map iA).length;unfold QB BN qW aK;dsimp only;rw[zCe,zCe,zB5,zB5];rw[show([jH j 0 (yF j p).group 0,jH j 1 (yF j p).group 0].map iA)=[iA (jH j 0 (yF j p).group 0),iA (jH j 1 (yF j p).group 0)]from Z];have M:(([iA (jH j 0 (yF j p).group 0),iA (jH j 1 (yF j p).group 0)]:List AV)).length=2:=rfl;rw[M]
 have A:∃v,([iA (jH j 0 (yF j p).group 0),iA (jH j 1 (yF j p).group 0)]:List AV)[(yF j p).ring.toNat]? =some (iA v):=by
  have:(yF j p).ring=0\/(yF j p).ring=1:=by omega
  rcases this with h|h<;>rw[h]
  all_goals exact⟨_,rfl⟩
 obtain⟨v0,A⟩:=A;generalize ([iA (jH j 0 (yF j p).group 0),iA (jH j 1 (yF j p).group 0)]:List AV)=fx at *;clear u W;generalize jH j (yF j p).ring (yF j p).group (p+1)=fo at *;obtain⟨rn,z⟩:∃n:Nat,(yF j p).ring=n:=⟨(yF j p).ring.toNat,zB⟩;have B:=zJ xE c.li p zB;rw[z,zBf]at A;generalize R:xS c p=l0 at*
 change (c.li.map xE)[p]? =some (xE (xS c p))at B
 rw[R]at B;refine eM call325 λF hF=>?_
 refine WW ?_;refine zO (ln c.li) [3,3000,1001,1002] [3,3000,1001,1002] [1,2,3,12,13] [14,1,2,3,12,13] Z (λi T U=>⟨(14,iA i)::T,U⟩) (Lq ?_ ?_)
 .intro i hi;have hy:=zJ xE c.li i hi
  change (c.li.map xE)[i]? =some (xE (xS c i))at hy
  have V:=gT j.cf L p i;have hb:=I i hi;clear I B G S;by_cases h1:(xS c i).lamp=0
  .generalize xS c i=t at *;clear hb;refine WW ?_;rfl
  .have C:kK j.cf p i=false:=by
    cases C:kK j.cf p i with
    |false=>rfl
    |true=>
     rw[C,zDd]at hb;exact absurd JC h1
   rw[C]at V;generalize xS c i=t at *;clear hb;refine zS V ?_;rfl
 .clear I;generalize yF j p=t at *;rw[z,zBf];have et:xN t= .agg [iA rn,iA t.group,iA t.ming,iA t.maxg,iA t.yel,iA t.red,iA t.walk,iA t.clear]:=by rw[<-z];rfl
  rw[et]at E;rw[z]at G;refine yG (xV S G) ?_;exact uW [3000,1001,1002,2001] Z Z Z Z
def yu (c:Ct):AV:= .agg [.sl false ((c.li.map xE).take (c.li.map xE).length),iA c.gr,.sl false ((c.nx.map iA).take (c.nx.map iA).length),iA c.wt]
def kZ (c:Ct):yu c=JM c:=by unfold yu;rw[zAt,zAt];rfl
def VE (j:Jn) (u:ln j.ph<=1000) (c:Ct) (hc:ln c.li=ln j.ph) (r:Int):zN 323 [wJ j,yu c,iA r] [] (bA (VG j c r)) []:=by rw[kZ];exact Q0 j u c hc r
def bc (j:Jn) (A:ln j.ph<=1000) (u:ln j.cf<=40) (c:Ct) (z:ln c.nx=2) (r t:Int) (B:0<=r/\r<2):zN 324 [wJ j,yu c,iA r,iA t] [] (iA (EH j (c.nx.getD r.toNat dd) r t)) []:=by rw[kZ];exact N0 j A u c z r t B
def VF (J:JV j) {t:Nat} (B:t<ln j.ph) (h:aU j c r t≠ -1):∃p:Nat,aU j c r t=p/\p<ln j.ph/\(yF j p).group=(yF j t).group:=by
 unfold aU at h⊢;split
 .grind
 .rename_i A;rw[Os A]at h
  rcases BP j (c.nx.getD r.toNat dd) r t with h1|⟨p,h1,h2,_,h4⟩
  .exact absurd h1 h
  .refine⟨p,h1,h2,?_⟩;by_cases u:p=t
   .rw[u]
   .exact zDc λz=>by
     have:=J.ap p t h2 B u (.inr z)
     grind
theorem jV (j:Jn) (c:Ct) (p:Nat):(dQ j c p=true/\uC j c p=c)\/(dQ j c p=false/\(uC j c p).gr=(yF j p).group):=by
 unfold uC;split
 .grind
 .rename_i h;refine .inr ⟨by simpa using h,?_⟩;dsimp only;unfold NV;split
  .rename_i h2;exact h2
  .rfl
def WF (e:Bool) (c:Ct) (o:List Int):List (Nat×xW):=if e=true then aK c o else qW c 1002
def vm (J:JV j) {t:Nat} (A:t<ln j.ph):(jC j t c r).gr=c.gr\/(jC j t c r).gr=(yF j t).group:=by
 unfold jC;split
 .split
  .exact .inl Z
  .rename_i h;obtain⟨p,u,B,z⟩:=VF J (c:=c) (r:=r) A h;rw[u,zBf]
   rcases jV j c p with h|h
   all_goals grind
 .exact .inl Z
def um (e:Bool) (c:Ct) (o:List Int):vX (WF e c o)=true:=by cases e<;>rfl
def Rh (j:Jn) (t:Nat) (e:Bool) (i:Int) (c:Ct) (o:List Int):St:=⟨[(8,iA i),(1,.ptr 3000 0 0),(2,iA t),(3,.ptr 3 0 0)],WF e c o++[(3,.box [zE xN j.ph,zE iA j.cf,iA j.st])]⟩
theorem wu (j:Jn) (J:JV j) (c:Ct) (C:CV j c) (h0:c.wt=0) (t:Nat) (ht:t<ln j.ph):zN 283 [wJ j,.ptr 3000 0 0,iA (t:Int)] (qW c 1002) (.tup []) (WF (decide ((jC j t (jC j t c 0) 1).gr≠c.gr)) (jC j t (jC j t c 0) 1) (if(jC j t c 0).gr=c.gr then(jC j t c 0).nx else c.nx)):=by
 have hn:=J.n;have M:ln j.ph<=1000:=by omega
 have a1:=J.c;have a2:=zA xN j.ph;have az:=zJ xN j.ph t ht
 change (j.ph.map xN)[t]? =some (xN (yF j t))at az
 have ac:=C.n;have ag:=C.m;obtain⟨C1,av⟩:=am J C h0 ht 0;have G:=C1.n;have L:=C1.m;have au:=vm J (c:=c) (r:=0) ht;have I:c.gr=c.gr:=rfl;refine WP tok func283 Z (λargs w=>call283 args w) Z Z (um _ _ _) (λF hF=>?_);refine WW ?_;refine gY [3000,1001,1002,2001,3] [8,1,2,3] (Rh j t false 0 c c.nx) (Rh j t (decide ((jC j t c 0).gr≠c.gr)) 1 (jC j t c 0) c.nx) (Rh j t (decide ((jC j t (jC j t c 0) 1).gr≠c.gr)) 2 (jC j t (jC j t c 0) 1) (if(jC j t c 0).gr=c.gr then(jC j t c 0).nx else c.nx)) Z Z ?_ ?_ ?_
 .unfold Rh;clear C1 au G L av;rw[show WF false c c.nx=qW c 1002 from Z];unfold qW;have V:=VE j M c ac 0
  cases hd:VG j c 0 with
  |false=>
   rw[hd]at V;rw[show jC j t c 0=c by unfold jC;rw[Os KZ]];rw[show decide (c.gr≠c.gr)=false from zAs (λh=>h I)];clear hd;refine zS V ?_;rfl
  |true=>
  rw[hd]at V
  have z:jC j t c 0=if aU j c 0 t= -1 then c else uC j c (aU j c 0 t).toNat:=by unfold jC;rw[f5 hd]
  by_cases ap:0=(yF j t).ring
  ·
   have hP:aU j c 0 t=t:=by unfold aU;rw[f5 ap]
   rw[hP]at z;rw[Os zB,zBf]at z;by_cases hk:dQ j c t=true\/c.gr=(yF j t).group
   .have S:=YY j M zB c ac ag t ht (J.rg t ht) hk
    have B:(uC j c t).gr=c.gr:=by
     rcases jV j c t with h|h
     .exact(zBb Ct.gr h.2).trans I
     .rcases hk with hk|hk
      .rw[hk]at h;cases h.1
      .exact h.2.trans (hk.symm.trans I)
    rw[z,show decide ((uC j c t).gr≠c.gr)=false from zAs (λh=>h B)];generalize uC j c t=b at *;clear hd z B hk;unfold qW at S;refine yG (xV V S) ?_;rfl
   .have O:dQ j c t=false:=by
     cases h:dQ j c t with
     |false=>rfl
     |true=>exact absurd (.inl h) hk
    have R:c.gr≠(yF j t).group:=λh=>hk (.inr h)
    have S:=PP j M zB c ac ag t ht (J.rg t ht) O R
    have B:(uC j c t).gr≠c.gr:=by
     rcases jV j c t with h|h
     .rw[O]at h;cases h.1
     .rw[h.2,<-I];exact λh=>R h.symm
    rw[z,show decide ((uC j c t).gr≠c.gr)=true from zAu B];generalize uC j c t=b at *;clear hd z B hk O R;unfold qW aK at S;refine yG (xV V S) ?_;rfl
  ·
   have cm:=bc j M zB c ag 0 t zB;have hP:aU j c 0 t=EH j (c.nx.getD (0:Int).toNat dd) 0 t:=by unfold aU;rw[Os ap]
   rw[<-hP]at cm;by_cases U:aU j c 0 t= -1
   .rw[f5 U]at z;rw[z];rw[show decide (c.gr≠c.gr)=false from zAs (λh=>h I)];generalize aU j c 0 t=pp at *;clear hP hd z;refine yG (xV V cm) ?_;rfl
   obtain⟨p,Y,hp,ar⟩:=VF J (c:=c) (r:=0) ht U;rw[Os U,Y,zBf]at z;rw[Y]at cm;clear hP U Y;by_cases hk:dQ j c p=true\/c.gr=(yF j p).group
   .have S:=YY j M zB c ac ag p hp (J.rg p hp) hk
    have B:(uC j c p).gr=c.gr:=by
     rcases jV j c p with h|h
     .exact(zBb Ct.gr h.2).trans I
     .rcases hk with hk|hk
      .rw[hk]at h;cases h.1
      .exact h.2.trans (hk.symm.trans I)
    rw[z,show decide ((uC j c p).gr≠c.gr)=false from zAs (λh=>h B)];generalize uC j c p=b at *;clear hd z B hk;unfold qW at S;refine yG (qM V cm S) ?_;rfl
   .have O:dQ j c p=false:=by
     cases h:dQ j c p with
     |false=>rfl
     |true=>exact absurd (.inl h) hk
    have R:c.gr≠(yF j p).group:=λh=>hk (.inr h)
    have S:=PP j M zB c ac ag p hp (J.rg p hp) O R
    have B:(uC j c p).gr≠c.gr:=by
     rcases jV j c p with h|h
     .rw[O]at h;cases h.1
     .rw[h.2,<-I];exact λh=>R h.symm
    rw[z,show decide ((uC j c p).gr≠c.gr)=true from zAu B];generalize uC j c p=b at *;clear hd z B hk O R;unfold qW aK at S;refine yG (qM V cm S) ?_;rfl
 .clear ac ag I;have ax:=au;generalize jC j t c 0=u at *;unfold Rh;by_cases A:u.gr=c.gr
  .rw [f5 A,zAs (λh=>h A)];rw[show WF false u c.nx=qW u 1002 from Z];unfold qW;have V:=VE j M u G 1
   cases hd:VG j u 1 with
   |false=>
    rw[hd]at V;rw[show jC j t u 1=u by unfold jC;rw[Os KZ]];rw[show decide (u.gr≠c.gr)=false from zAs (λh=>h A)];clear hd;refine zS V ?_;rfl
   |true=>
   rw[hd]at V
   have z:jC j t u 1=if aU j u 1 t= -1 then u else uC j u (aU j u 1 t).toNat:=by unfold jC;rw[f5 hd]
   by_cases ap:1=(yF j t).ring
   ·
    have hP:aU j u 1 t=t:=by unfold aU;rw[f5 ap]
    rw[hP]at z;rw[Os zB,zBf]at z;by_cases hk:dQ j u t=true\/u.gr=(yF j t).group
    .have S:=YY j M zB u G L t ht (J.rg t ht) hk
     have B:(uC j u t).gr=c.gr:=by
      rcases jV j u t with h|h
      .exact(zBb Ct.gr h.2).trans A
      .rcases hk with hk|hk
       .rw[hk]at h;cases h.1
       .exact h.2.trans (hk.symm.trans A)
     rw[z,show decide ((uC j u t).gr≠c.gr)=false from zAs (λh=>h B)];generalize uC j u t=b at *;clear hd z B hk;unfold qW at S;refine yG (xV V S) ?_;rfl
    .have O:dQ j u t=false:=by
      cases h:dQ j u t with
      |false=>rfl
      |true=>exact absurd (.inl h) hk
     have R:u.gr≠(yF j t).group:=λh=>hk (.inr h)
     have S:=PP j M zB u G L t ht (J.rg t ht) O R
     have B:(uC j u t).gr≠c.gr:=by
      rcases jV j u t with h|h
      .rw[O]at h;cases h.1
      .rw[h.2,<-A];exact λh=>R h.symm
     rw[z,show decide ((uC j u t).gr≠c.gr)=true from zAu B];generalize uC j u t=b at *;clear hd z B hk O R;unfold qW aK at S;refine yG (xV V S) ?_;rfl
   ·
    have cm:=bc j M zB u L 1 t zB;have hP:aU j u 1 t=EH j (u.nx.getD (1:Int).toNat dd) 1 t:=by unfold aU;rw[Os ap]
    rw[<-hP]at cm;by_cases U:aU j u 1 t= -1
    .rw[f5 U]at z;rw[z];rw[show decide (u.gr≠c.gr)=false from zAs (λh=>h A)];generalize aU j u 1 t=pp at *;clear hP hd z;refine yG (xV V cm) ?_;rfl
    obtain⟨p,Y,hp,ar⟩:=VF J (c:=u) (r:=1) ht U;rw[Os U,Y,zBf]at z;rw[Y]at cm;clear hP U Y;by_cases hk:dQ j u p=true\/u.gr=(yF j p).group
    .have S:=YY j M zB u G L p hp (J.rg p hp) hk
     have B:(uC j u p).gr=c.gr:=by
      rcases jV j u p with h|h
      .exact(zBb Ct.gr h.2).trans A
      .rcases hk with hk|hk
       .rw[hk]at h;cases h.1
       .exact h.2.trans (hk.symm.trans A)
     rw[z,show decide ((uC j u p).gr≠c.gr)=false from zAs (λh=>h B)];generalize uC j u p=b at *;clear hd z B hk;unfold qW at S;refine yG (qM V cm S) ?_;rfl
    .have O:dQ j u p=false:=by
      cases h:dQ j u p with
      |false=>rfl
      |true=>exact absurd (.inl h) hk
     have R:u.gr≠(yF j p).group:=λh=>hk (.inr h)
     have S:=PP j M zB u G L p hp (J.rg p hp) O R
     have B:(uC j u p).gr≠c.gr:=by
      rcases jV j u p with h|h
      .rw[O]at h;cases h.1
      .rw[h.2,<-A];exact λh=>R h.symm
     rw[z,show decide ((uC j u p).gr≠c.gr)=true from zAu B];generalize uC j u p=b at *;clear hd z B hk O R;unfold qW aK at S;refine yG (qM V cm S) ?_;rfl
  .have E:u.gr≠c.gr:=A
   have W:u.gr=(yF j t).group:=by
    rcases ax with h|h
    .exact absurd h E
    .exact h
   rw[Os A,zAu E];rw[show WF true u c.nx=aK u c.nx from Z];unfold aK;have V:=VE j M u G 1
   cases hd:VG j u 1 with
   |false=>
    rw[hd]at V;rw[show jC j t u 1=u by unfold jC;rw[Os KZ]];rw[show decide (u.gr≠c.gr)=true from zAu E];clear hd;refine zS V ?_;rfl
   |true=>
   rw[hd]at V
   have z:jC j t u 1=if aU j u 1 t= -1 then u else uC j u (aU j u 1 t).toNat:=by unfold jC;rw[f5 hd]
   by_cases ap:1=(yF j t).ring
   ·
    have hP:aU j u 1 t=t:=by unfold aU;rw[f5 ap]
    rw[hP]at z;rw[Os zB,zBf]at z;have S:=PO j M zB u G L t ht (J.rg t ht) (.inr (W.trans (rfl:(yF j t).group=(yF j t).group).symm))
    have B:(uC j u t).gr≠c.gr:=by
     rcases jV j u t with h|h
     .rw[h.2];exact E
     .rw[h.2,(rfl:(yF j t).group=(yF j t).group),<-W];exact E
    rw[z,show decide ((uC j u t).gr≠c.gr)=true from zAu B];generalize uC j u t=b at *;clear hd z B;unfold qW at S;refine yG (xV V S) ?_;rfl
   ·
    have cm:=bc j M zB u L 1 t zB;have hP:aU j u 1 t=EH j (u.nx.getD (1:Int).toNat dd) 1 t:=by unfold aU;rw[Os ap]
    rw[<-hP]at cm;by_cases U:aU j u 1 t= -1
    .rw[f5 U]at z;rw[z];rw[show decide (u.gr≠c.gr)=true from zAu E];generalize aU j u 1 t=pp at *;clear hP hd z;refine yG (xV V cm) ?_;rfl
    obtain⟨p,Y,hp,ar⟩:=VF J (c:=u) (r:=1) ht U;rw[Os U,Y,zBf]at z;rw[Y]at cm;clear hP U Y;have S:=PO j M zB u G L p hp (J.rg p hp) (.inr (W.trans (ar:(yF j p).group=(yF j t).group).symm))
    have B:(uC j u p).gr≠c.gr:=by
     rcases jV j u p with h|h
     .rw[h.2];exact E
     .rw[h.2,(ar:(yF j p).group=(yF j t).group),<-W];exact E
    rw[z,show decide ((uC j u p).gr≠c.gr)=true from zAu B];generalize uC j u p=b at *;clear hd z B;unfold qW at S;refine yG (qM V cm S) ?_;rfl
 .generalize (if(jC j t c 0).gr=c.gr then(jC j t c 0).nx else c.nx)=o at *;generalize jC j t (jC j t c 0) 1=c2 at *;unfold Rh;by_cases he:c2.gr=c.gr
  .rw[zAs (λh=>h he)];refine WW ?_;exact uW [3000,1001,1002] Z Z Z Z
  .rw[zAu he];refine WW ?_;exact uW [3000,1001,1002,2001] Z Z Z Z
def qm (c:Ct) (u:ln c.li<=1000):zN 322 [yu c] [] (bA (zb c)) []:=by rw[kZ];exact BT c u
def BG (c:Ct) (i:Nat):Bool:=zb c&&(c.nx.take i).all λp=>p== -1
theorem NT (c:Ct) (i:Nat) (hi:i<ln c.nx):BG c (i+1)=(BG c i&&(c.nx.getD i dd== -1)):=by grind [BG,List.take_append_getElem,pb,Bool.and_assoc]
def QR (j:Jn) (e:Bool) (i:Int) (c:Ct) (o:List Int):St:=⟨[(36,iA i),(1,.ptr 3000 0 0),(2,.ptr 2 0 0)],WF e c o++[(2,.box [zE xN j.ph,zE iA j.cf,iA j.st])]⟩
theorem vu (j:Jn) (J:JV j) (c:Ct) (C:CV j c) (h0:c.wt=0):zN 284 [wJ j,.ptr 3000 0 0] (qW c 1002) (.tup []) (WF (gj c) (ub j c) c.nx):=by
 have hn:=J.n;have O:ln j.ph<=1000:=by omega
 have bd:=J.c;have bl:=zA xN j.ph;have bf:=zA xE c.li;have bk:=zA iA c.nx;have a7:=C.n;have a6:=C.m;have ca:=qm c zB;have cg:=BR j O J.gp;have ba:=PR J
 have a8:gM j<=4:=by
  have:∀n,n<=ln j.ph->Aa j.ph n<=4:=λn=>by
   induction n with
   |zero=>intro _;show(0:Int)<=4;omega
   |succ n ih=>
    intro h;have h1:=ih zB;have h2:=J.gp n zB;unfold yF at h2;unfold Aa;omega
  exact this _ (zAw _)
 have a5:=C.g;have ar:(c.gr+1).tmod (gM j)=(c.gr+1) % gM j:=zB1 zB;have hO:BG c (ln c.nx)=gj c:=by unfold BG gj;rw[zAt]
 refine WP tok func284 Z (λargs w=>call284 args w) Z Z (um _ _ _) (λF hF=>?_);unfold qW;have a1:BG c 0=zb c:=by unfold BG;simp
 rw[<-a1]at ca;refine zS ca ?_;refine zO (ln c.nx) [2,3000,1001,1002] [2,3000,1001,1002] [1,2,15,16] [4,17,1,2,15,16] Z (λi T U=>⟨(4,bA (BG c i))::(17,iA i)::T,U⟩) (Lq ?_ ?_)
 .intro i hi;have hy:=zJ iA c.nx i hi;have es:=NT c i hi;rw[es];generalize BG c i=o at *;generalize c.nx.getD i dd=x at *;by_cases hx:x= -1
  .rw[show(x== -1)=true by rw[zB8];exact hx,zDd];clear ca cg;refine WW ?_;rfl
  .rw[show(x== -1)=false by rw[zBm];exact hx,zCp];clear ca cg;refine WW ?_;rfl
 .rw [hO];clear hO a1 ca
  cases ax:gj c with
  | true=>
   have ag:ub j c=vL j (vL j (QB j c ((c.gr+1) % gM j)) 0) 1:=by unfold ub;rw[f5 ax]
   rw[ag];have a9:0<=(c.gr+1) % gM j/\(c.gr+1) % gM j<gM j:=⟨zD0 _ zB,zDj _ zB⟩;have W:=BO C a9;have bb:(QB j c ((c.gr+1) % gM j)).wt=0:=h0;have ce:=De j O ((c.gr+1) % gM j) c.gr c.wt (c.li.map xE) (c.nx.map iA) (c.li.map xE).length (c.nx.map iA).length;rw[show([(3000,.box [.ref 1001 0 (c.li.map xE).length,iA ((c.gr+1) % gM j),.ref 2001 0 2,iA c.wt]),(1001,.arr 2 (c.li.map xE) false),(1002,.arr 1 (c.nx.map iA) false),(2001,.arr 1 [iA (jH j 0 ((c.gr+1) % gM j) 0),iA (jH j 1 ((c.gr+1) % gM j) 0)] false)]:List (Nat×xW))=aK (QB j c ((c.gr+1) % gM j)) c.nx from Z]at ce;rw[<-ar]at ce;rw[ar]at ce;generalize a4:QB j c ((c.gr+1) % gM j)=B at *;rw[<-ar]at ce;have br:¬gM j=0:=by omega
   generalize gM j=gm at *;have ac:=W.n;have ap:=W.m;obtain⟨I,a3⟩:=ZQ J W bb (r:=0) zB;have E:=I.n;have G:=I.m
   change CV j (vL j B 0)at I
   change (vL j B 0).li.length=ln j.ph at E
   change (vL j B 0).nx.length=2 at G
   clear ag a4 C;unfold aK at ce;refine yG (xV cg ce) ?_;refine gY [3000,1001,1002,2001,2] [36,1,2] (QR j true 0 B c.nx) (QR j true 1 (vL j B 0) c.nx) (QR j true 2 (vL j (vL j B 0) 1) c.nx) Z Z ?_ ?_ ?_
   .unfold QR;rw[show WF true B c.nx=aK B c.nx from Z];unfold aK;have L:=VE j O B ac 0;have V:=zJ iA B.nx 0 zB;have hv:=W.v 0 zB;have az:(B.nx.map iA).length=2:=by rw[zAr];exact ap
    cases hd:VG j B 0 with
    |false=>
     rw[hd]at L;rw[show vL j B 0=B by unfold vL;rw[Os QL]];clear hd;refine zS L ?_;rfl
    |true=>
    rw[hd]at L
    have u:vL j B 0=if B.nx.getD 0 dd= -1 then B else uC j B (B.nx.getD 0 dd).toNat:=by
     unfold vL;rw[hd]
     show(if true=true/\B.nx.getD 0 dd≠ -1 then uC j B (B.nx.getD 0 dd).toNat else B)=_
     by_cases h:B.nx.getD 0 dd= -1
     .rw[f5 h,Os (λk=>k.2 h)]
     .rw[Os h,f5 ⟨rfl,h⟩]
    clear hd;by_cases A:B.nx.getD 0 dd= -1
    .rw[f5 A]at u;rw[u];clear u hv;generalize B.nx.getD 0 dd=x at *;refine zS L ?_;rfl
    .rw[Os A]at u
     have S:BL j (0:Nat) B.gr (B.nx.getD 0 dd):=by
      rcases hv with h|h
      .exact absurd h A
      .exact h
     obtain⟨i1,i2,i3,R⟩:=S;obtain⟨p,M⟩:∃p:Nat,B.nx.getD 0 dd=p:=⟨(B.nx.getD 0 dd).toNat,zB⟩;rw[M]at u V A i2 R;rw[zBf]at u R;have hp:p<ln j.ph:=by omega
     have Y:=PO j O zB B ac ap p hp (J.rg p hp) (.inr R.symm);rw[u];clear u hv i1 i2 i3 R M;generalize uC j B p=b at *;unfold qW at Y;refine yG (xV L Y) ?_;rfl
   .generalize vL j B 0=z at *;unfold QR;rw[show WF true z c.nx=aK z c.nx from Z];unfold aK;have L:=VE j O z E 1;have V:=zJ iA z.nx 1 zB;have hv:=I.v 1 zB;have az:(z.nx.map iA).length=2:=by rw[zAr];exact G
    cases hd:VG j z 1 with
    |false=>
     rw[hd]at L;rw[show vL j z 1=z by unfold vL;rw[Os QL]];clear hd;refine zS L ?_;rfl
    |true=>
    rw[hd]at L
    have u:vL j z 1=if z.nx.getD 1 dd= -1 then z else uC j z (z.nx.getD 1 dd).toNat:=by
     unfold vL;rw[hd]
     show(if true=true/\z.nx.getD 1 dd≠ -1 then uC j z (z.nx.getD 1 dd).toNat else z)=_
     by_cases h:z.nx.getD 1 dd= -1
     .rw[f5 h,Os (λk=>k.2 h)]
     .rw[Os h,f5 ⟨rfl,h⟩]
    clear hd;by_cases A:z.nx.getD 1 dd= -1
    .rw[f5 A]at u;rw[u];clear u hv;generalize z.nx.getD 1 dd=x at *;refine zS L ?_;rfl
    .rw[Os A]at u
     have S:BL j (1:Nat) z.gr (z.nx.getD 1 dd):=by
      rcases hv with h|h
      .exact absurd h A
      .exact h
     obtain⟨i1,i2,i3,R⟩:=S;obtain⟨p,M⟩:∃p:Nat,z.nx.getD 1 dd=p:=⟨(z.nx.getD 1 dd).toNat,zB⟩;rw[M]at u V A i2 R;rw[zBf]at u R;have hp:p<ln j.ph:=by omega
     have Y:=PO j O zB z E G p hp (J.rg p hp) (.inr R.symm);rw[u];clear u hv i1 i2 i3 R M;generalize uC j z p=b at *;unfold qW at Y;refine yG (xV L Y) ?_;rfl
   .generalize vL j (vL j B 0) 1=c2 at *;unfold QR;refine WW ?_;exact uW [3000,1001,1002,2001] Z Z Z Z
  | false=>
   have ag:ub j c=vL j (vL j c 0) 1:=by unfold ub;rw[Os (by rw[ax];decide)]
   rw[ag];clear cg ar ag ba a8 a5;have a2:=C;have au:=a7;have av:=a6;obtain⟨I,a3⟩:=ZQ J C h0 (r:=0) zB;have E:=I.n;have G:=I.m
   change CV j (vL j c 0)at I
   change (vL j c 0).li.length=ln j.ph at E
   change (vL j c 0).nx.length=2 at G
   refine WW ?_;clear ax;refine gY [3000,1001,1002,2001,2] [36,1,2] (QR j false 0 c c.nx) (QR j false 1 (vL j c 0) c.nx) (QR j false 2 (vL j (vL j c 0) 1) c.nx) Z Z ?_ ?_ ?_
   .unfold QR;rw[show WF false c c.nx=qW c 1002 from Z];unfold qW;have L:=VE j O c au 0;have V:=zJ iA c.nx 0 zB;have hv:=a2.v 0 zB;have az:(c.nx.map iA).length=2:=by rw[zAr];exact av
    cases hd:VG j c 0 with
    |false=>
     rw[hd]at L;rw[show vL j c 0=c by unfold vL;rw[Os QL]];clear hd;refine zS L ?_;rfl
    |true=>
    rw[hd]at L
    have u:vL j c 0=if c.nx.getD 0 dd= -1 then c else uC j c (c.nx.getD 0 dd).toNat:=by
     unfold vL;rw[hd]
     show(if true=true/\c.nx.getD 0 dd≠ -1 then uC j c (c.nx.getD 0 dd).toNat else c)=_
     by_cases h:c.nx.getD 0 dd= -1
     .rw[f5 h,Os (λk=>k.2 h)]
     .rw[Os h,f5 ⟨rfl,h⟩]
    clear hd;by_cases A:c.nx.getD 0 dd= -1
    .rw[f5 A]at u;rw[u];clear u hv;generalize c.nx.getD 0 dd=x at *;refine zS L ?_;rfl
    .rw[Os A]at u
     have S:BL j (0:Nat) c.gr (c.nx.getD 0 dd):=by
      rcases hv with h|h
      .exact absurd h A
      .exact h
     obtain⟨i1,i2,i3,R⟩:=S;obtain⟨p,M⟩:∃p:Nat,c.nx.getD 0 dd=p:=⟨(c.nx.getD 0 dd).toNat,zB⟩;rw[M]at u V A i2 R;rw[zBf]at u R;have hp:p<ln j.ph:=by omega
     have Y:=YY j O zB c au av p hp (J.rg p hp) (.inr R.symm);rw[u];clear u hv i1 i2 i3 R M;generalize uC j c p=b at *;unfold qW at Y;refine yG (xV L Y) ?_;rfl
   .generalize vL j c 0=z at *;unfold QR;rw[show WF false z c.nx=qW z 1002 from Z];unfold qW;have L:=VE j O z E 1;have V:=zJ iA z.nx 1 zB;have hv:=I.v 1 zB;have az:(z.nx.map iA).length=2:=by rw[zAr];exact G
    cases hd:VG j z 1 with
    |false=>
     rw[hd]at L;rw[show vL j z 1=z by unfold vL;rw[Os QL]];clear hd;refine zS L ?_;rfl
    |true=>
    rw[hd]at L
    have u:vL j z 1=if z.nx.getD 1 dd= -1 then z else uC j z (z.nx.getD 1 dd).toNat:=by
     unfold vL;rw[hd]
     show(if true=true/\z.nx.getD 1 dd≠ -1 then uC j z (z.nx.getD 1 dd).toNat else z)=_
     by_cases h:z.nx.getD 1 dd= -1
     .rw[f5 h,Os (λk=>k.2 h)]
     .rw[Os h,f5 ⟨rfl,h⟩]
    clear hd;by_cases A:z.nx.getD 1 dd= -1
    .rw[f5 A]at u;rw[u];clear u hv;generalize z.nx.getD 1 dd=x at *;refine zS L ?_;rfl
    .rw[Os A]at u
     have S:BL j (1:Nat) z.gr (z.nx.getD 1 dd):=by
      rcases hv with h|h
      .exact absurd h A
      .exact h
     obtain⟨i1,i2,i3,R⟩:=S;obtain⟨p,M⟩:∃p:Nat,z.nx.getD 1 dd=p:=⟨(z.nx.getD 1 dd).toNat,zB⟩;rw[M]at u V A i2 R;rw[zBf]at u R;have hp:p<ln j.ph:=by omega
     have Y:=YY j O zB z E G p hp (J.rg p hp) (.inr R.symm);rw[u];clear u hv i1 i2 i3 R M;generalize uC j z p=b at *;unfold qW at Y;refine yG (xV L Y) ?_;rfl
   .generalize vL j (vL j c 0) 1=c2 at *;unfold QR;refine WW ?_;exact uW [3000,1001,1002] Z Z Z Z
def pc (l:List Li) (hl:ln l<=1073741824):zN 172 [zE xE l] [] (.ref 1001 0 (l.map xE).length) [(1001,.arr 2 (l.map xE) false)]:=by
 have u:=zA xE l;refine eM call172 λF hF=>?_
 refine xH 0 Z (λcap hx=>?_) ?_
 .have:l=[]:=by simpa using hx
  subst this
  (repeat' (first|refine Zf ?_|apply yW|apply xI|intro hc|fail))
  refine qH 2 1001 2 Z Z Z (xL ?_);exact zP [1001] Z Z Z Z
 .repeat' (first|(apply zG;first|refine uL tok Z Z ?_|(apply wV;refine wM (xX tok (.inl ⟨rfl,rfl⟩) Z Z Z Z) Z ?_)|(apply yH;refine uU (nw:=[1001]) (yV tok 1001 (xs:=[]) Z Z Z Z Z Z Z Z Z) Z Z Z ?_)|(apply yC;refine vA tok Z Z Z Z Z Z Z (yM _ _ (λ_=>rfl)) Z Z Z zB Z ?_)|apply kP)|(first|apply xY|apply xR|refine vZ Z ?_|refine yR Z ?_|refine yD Z ?_|refine xZ Z (λhc=>?_) λhc=>?_|apply xJ|apply xL|apply xQ|apply xC))
  exact zP [1001] Z Z Z Z
def BH (l:List Int) (hl:ln l<=1073741824):zN 111 [zE iA l] [] (.ref 1002 0 (l.map iA).length) [(1002,.arr 1 (l.map iA) false)]:=by
 have u:=zA iA l;refine eM call111 λF hF=>?_
 refine xH 0 Z (λcap hx=>?_) ?_
 .have:l=[]:=by simpa using hx
  subst this
  (repeat' (first|refine Zf ?_|apply yW|apply xI|intro hc|fail))
  refine qH 2 1002 1 Z Z Z (xL ?_);exact zP [1002] Z Z Z Z
 .repeat' (first|(apply zG;first|refine uL tok Z Z ?_|(apply wV;refine wM (xX tok (.inl ⟨rfl,rfl⟩) Z Z Z Z) Z ?_)|(apply yH;refine uU (nw:=[1002]) (yV tok 1002 (xs:=[]) Z Z Z Z Z Z Z Z Z) Z Z Z ?_)|(apply yC;refine vA tok Z Z Z Z Z Z Z (yM _ _ (λ_=>rfl)) Z Z Z zB Z ?_)|apply kP)|(first|apply xY|apply xR|refine vZ Z ?_|refine yR Z ?_|refine yD Z ?_|refine xZ Z (λhc=>?_) λhc=>?_|apply xJ|apply xL|apply xQ|apply xC))
  exact zP [1002] Z Z Z Z
def NU (j:Jn) (c:Ct) (t:Int) (i:Nat):List Li:=(List.range (ln j.ph)).map λp=>if p<i then BK (yF j p) (xS c p) (GG j c t p)else xS c p
def PQ (j:Jn) (c:Ct) (t:Int) (i:Nat):(NU j c t i).length=ln j.ph:=by simp[NU]
theorem BI (hc:ln c.li=ln j.ph) (t:Int):NU j c t 0=c.li:=by apply zB0<;>grind [NU,List.getElem?_range,xS,pb,List.getElem?_eq_none]
theorem Ce (j:Jn) (c:Ct) (t:Int):NU j c t (ln j.ph)=UV j c t:=by grind [NU,UV,List.map_congr_left]
theorem BJ (j:Jn) (c:Ct) (t:Int) (i:Nat):NU j c t (i+1)=(NU j c t i).set i (BK (yF j i) (xS c i) (GG j c t i)):=by apply zB0<;>grind [NU,BK,yF,xS,GG,List.getElem?_range,List.getElem?_eq_none]
theorem jm {p:Ph} {l:Li} (h:Ba p l=true) (z:p.yel<=60) (u:p.red<=60):0<=l.tk/\l.tk<=1073741824:=by grind [Ba]
def GF {P:Program} {C:List Nat} {F:Fr C} {m:Nat} {A:Array Oper} {z:List Oper} {Q:List FP->St->Prop} {B:Bool} {fs:List FP} {ty T:Nat} {pos:String} {u:Array Edge} {st:St} (hk:yN P F m A B (⟨some 7,.alloc T,ty,pos,u,none⟩::z) st fs Q):yN P F m A B (⟨some 7,.alloc T,ty,pos,u,none⟩::z) st fs Q:=hk
theorem M0 (j:Jn) (J:JV j) (c:Ct) (C:CV j c) (t:Int):zN 229 [wJ j,JM c,iA t] [] (JM (GH j c t)) []:=by
 have hn:=J.n;have ax:=J.c;have S:=C.n;have ac:=C.m;have av:=C.w;have a4:=J.st;have a3:=zA xN j.ph;have ag:(c.li.map xE).length=j.ph.length:=by rw[zAr];exact S
 have az:(c.nx.map iA).length=2:=by rw[zAr];exact ac
 have k1:=BU j J;have Y:=ku j J.b c;rw[E0 J C]at Y;have E:=pc c.li zB;have G:=BH c.nx zB;unfold GH;by_cases hw:0<c.wt
 .rw[f5 hw];refine eM call229 λF hF=>?_
  refine yG (xV k1 Y) ?_
  repeat' (first|(apply zG;first|(apply GF;refine uU (nw:=[3000]) (fJ tok 3000 Z Z) Z Z Z ?_)|refine uL tok Z Z ?_|(apply xP;(first|(refine vG 172 ?_;first|refine wM (zL (E) Z Z Z Z Z) Z ?_|refine uU (zL (E) Z Z Z Z Z) Z Z Z ?_|refine aF (zL (E) Z Z Z Z Z) Z Z Z ?_)|(refine vG 111 ?_;first|refine wM (zL (G) Z Z Z Z Z) Z ?_|refine uU (zL (G) Z Z Z Z Z) Z Z Z ?_|refine aF (zL (G) Z Z Z Z Z) Z Z Z ?_)))|(apply dX;refine cO tok Z Z Z ?_)|refine WR NA ?_|apply kP)|first|refine SQ ?_|fail)
  refine WW ?_;exact zH [] Z Z (kZ ⟨c.li,c.gr,c.nx,c.wt-1⟩) Z
 rw[Os hw];have h0:c.wt=0:=by omega
 have M:=om J C h0 t;have I:=BI S t;have L:=Ce j c t;rw[ag]at E;have hN:∀i,((NU j c t i).map xE).length=j.ph.length:=λi=>by rw[zAr];exact PQ j c t i
 refine eM call229 λF hF=>?_
 refine yG (xV k1 Y) ?_
 repeat' (first|(apply zG;first|(apply GF;refine uU (nw:=[3000]) (fJ tok 3000 Z Z) Z Z Z ?_)|refine uL tok Z Z ?_|(apply xP;(first|(refine vG 172 ?_;first|refine wM (zL (E) Z Z Z Z Z) Z ?_|refine uU (zL (E) Z Z Z Z Z) Z Z Z ?_|refine aF (zL (E) Z Z Z Z Z) Z Z Z ?_)|(refine vG 111 ?_;first|refine wM (zL (G) Z Z Z Z Z) Z ?_|refine uU (zL (G) Z Z Z Z Z) Z Z Z ?_|refine aF (zL (G) Z Z Z Z Z) Z Z Z ?_)))|(apply dX;refine cO tok Z Z Z ?_)|refine WR NA ?_|apply kP)|first|refine SQ ?_|fail)
 (repeat' (first|refine Yf ?_|apply yW|apply xI|intro hc|(apply zG;first|refine SM ?_)|fail))
 refine yD Z (xJ ?_);apply xY;refine eQ [3000,1001,1002,3,4,6] [2,3,4,6,7,8] ⟨[(2,iA t),(3,.ptr 3 0 0),(4,.ptr 4 0 0),(6,.ptr 6 0 0),(7,.ptr 3000 0 0),(8,bA (ZP j t))],[(3000,.box [.ref 1001 0 j.ph.length,iA c.gr,.ref 1002 0 (c.nx.map iA).length,iA c.wt]),(1001,.arr 2 (c.li.map xE) false),(1002,.arr 1 (c.nx.map iA) false),(3,.box [zE xN j.ph,zE iA j.cf,iA j.st]),(4,.box [zE xE c.li,iA c.gr,zE iA c.nx,iA c.wt]),(6,.box [.s (.slice none 0 0),iA 0,.s (.slice none 0 0),iA 0])]⟩ rfl ?_ ?_
 .clear k1 Y E G M;by_cases a1:0<=t
  .by_cases a2:t<j.ph.length
   .rw[show ZP j t=true from zAu ⟨a1,a2⟩];refine WW ?_;exact⟨rfl,rfl⟩
   .rw[show ZP j t=false from zAs (λh=>a2 h.2)];refine WW ?_;exact⟨rfl,rfl⟩
  .rw[show ZP j t=false from zAs (λh=>a1 h.1)];refine WW ?_;exact⟨rfl,rfl⟩
 clear k1 Y E G;refine WW ?_;refine zO (j.ph.length) [1001,3,4,6,3000,1002] [3,4,6,3000,1002] [2,3,4,6,7,8,51,52] [53,2,3,4,6,7,8,51,52] Z (λi T U=>⟨(53,iA i)::T,(1001,.arr 2 ((NU j c t i).map xE) false)::U⟩) ?_;(conv=>whnf);refine⟨by(rw[I];rfl),?_,?_⟩
 .intro i hi;have hy:=zJ xN j.ph i hi
  change (j.ph.map xN)[i]? =some (xN (yF j i))at hy
  have ar:=zJ xE c.li i zB
  change (c.li.map xE)[i]? =some (xE (xS c i))at ar
  have W:∃l,((NU j c t i).map xE)[i]? =some (xE l):=⟨_,zJ xE (NU j c t i) i (by rw[PQ];exact hi)⟩;obtain⟨lm,W⟩:=W;have a5:=J.ti i hi;have a6:=jm (C.k i hi) zB zB;have ap:Fx (yF j i):=⟨zB,zB,zB,zB⟩;have au:=hN i;have ls:=λlv=>qu (yF j i) ap (xS c i) zB lv
  have ck:=gT j.cf zB i t;have es:=BJ j c t i;have em:(NU j c t (i+1)).map xE=((NU j c t i).map xE).set i (xE (BK (yF j i) (xS c i) (GG j c t i))):=by rw[es,zCe]
  rw[em];have u:GG j c t i=_:=rfl
  conv at u=>rhs;unfold GG
  have z:=ls (GG j c t i);clear ls es em M hN I L;generalize BK (yF j i) (xS c i) (GG j c t i)=ln,(NU j c t i).map xE=xs at *;generalize GG j c t i=lv at *;generalize kK j.cf i t=cq at*
  cases R:ZP j t with
  |false=>
   rw[R]at u;rw[Os yY]at u;generalize yF j i=ph,xS c i=l at *;by_cases O:ph.maxg<=l.tk+1
   .rw[zAu O]at u;subst u;refine zS z ?_;rfl
   .rw[zAs O]at u;subst u;refine zS z ?_;rfl
  | true=>
   rw[R]at u;rw[f5 Z]at u;generalize yF j i=ph,xS c i=l at *;by_cases V:(i:Int)=t
   .rw[zAs (λh=>h V)]at u;rw[zBt]at u;subst u;by_cases O:ph.maxg<=l.tk+1
    all_goals
     (refine zS z ?_)
     rfl
   rw[zAu V,zA3]at u;by_cases O:ph.maxg<=l.tk+1
   .rw[zAu O,zDe]at u;subst u;refine zS z ?_;rfl
   .rw[zAs O,zC5]at u;rw[u]at z;clear u
    cases cq with
    |true=>
     refine yG (xV ck z) ?_;rfl
    |false=>
     refine yG (xV ck z) ?_;rfl
 .rw[L];have e1:((UV j c t).map xE).length=j.ph.length:=by simp[UV]
  clear L I hN
  cases R:ZP j t with
  | true=>
   rw[f5 Z];unfold ZP at R;rw[zAx]at R;obtain⟨B,rfl⟩:∃B:Nat,t=B:=⟨t.toNat,zB⟩;rw[zBf];have cs:=wu j J ⟨UV j c B,c.gr,c.nx,c.wt⟩ M h0 B zB;unfold qW at cs;dsimp only at cs;rw[e1]at cs;generalize jC j B (jC j B ⟨UV j c B,c.gr,c.nx,c.wt⟩ 0) 1=A,(if(jC j B ⟨UV j c B,c.gr,c.nx,c.wt⟩ 0).gr=c.gr then(jC j B ⟨UV j c B,c.gr,c.nx,c.wt⟩ 0).nx else c.nx)=o,(UV j c B).map xE=xs at *;clear M
   cases hE:decide (A.gr≠c.gr)with
   |true=>
    rw[hE,show WF true A o=aK A o from Z]at cs;unfold aK at cs;clear hE;refine zS cs ?_;exact zH [] Z Z (kZ A) Z
   |false=>
    rw[hE,show WF false A o=qW A 1002 from Z]at cs;unfold qW at cs;clear hE;refine zS cs ?_;exact zH [] Z Z (kZ A) Z
  | false=>
   rw[Os yY];have cs:=vu j J ⟨UV j c t,c.gr,c.nx,c.wt⟩ M h0;unfold qW at cs;dsimp only at cs;rw[e1]at cs;generalize ub j ⟨UV j c t,c.gr,c.nx,c.wt⟩=A,gj ⟨UV j c t,c.gr,c.nx,c.wt⟩=e,(UV j c t).map xE=xs at *;clear M
   cases e with
   |true=>
    rw[show WF true A c.nx=aK A c.nx from Z]at cs;unfold aK at cs;refine zS cs ?_;exact zH [] Z Z (kZ A) Z
   |false=>
    rw[show WF false A c.nx=qW A 1002 from Z]at cs;unfold qW at cs;refine zS cs ?_;exact zH [] Z Z (kZ A) Z
