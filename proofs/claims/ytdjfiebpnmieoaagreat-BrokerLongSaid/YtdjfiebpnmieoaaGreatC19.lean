/- Part 19. -/
import Derived.Test.YtdjfiebpnmieoaaGreatC18
namespace Go.Proofs.YtdjfiebpnmieoaaGreat.Av
open Tryz
set_option linter.all false
set_option maxRecDepth 4000
set_option maxHeartbeats 1000000
open List renaming length->ln,getD->nm
open Inhabited renaming default->dd
variable {c:Ct}{r:Int}{j:Jn}
theorem LZ {p:Nat->Bool}:∀(l:List Nat) (i x:Nat),l[i]? =some x->(∀y∈l.take i,p y=false)->p x=true->l.find? p=some x
 | [],i,x,h,_,_=>by simp at h
 |y::l,0,x,h,_,u=>by
  simp at h;subst h;rw[List.find?_cons,u]
 |y::l,i+1,x,h,A,u=>by
  rw[List.find?_cons,A y zW];exact LZ l i x WC (λz B=>A z (by simp[B])) u
def ME {p:Nat->Bool} {l:List Nat} (h:∀y∈l,p y=false):l.find? p=none:=List.find?_eq_none.2 λy u=>by rw[h y u];decide
def PQ {l:List Nat} {i x z:Nat} (hx:l[i]? =some x) (u:z∈l.take (i+1)):z∈l.take i\/z=x:=by grind [List.take_add_one]
def TG (j:Jn) (R:ln j.ph<=1000) (r g f:Int):zO 190 [wD j,iA r,iA g,iA f] [] (iA (jV j r g f)) []:=by
 have c:=Ym j r;unfold xi at c;have hl:=zA xQ j.ph;refine eM call190 λF hF=>?_
 refine zQ c ?_;refine qH hF (Bc j R r) Z [4,6,7,8] [4,6,7,8] Z Z Z Z Z Z Z Z Z (λi ys h=>?_) (λ_=>[(4,.box [zD xQ j.ph,zD iA j.cf,iA j.st]),(6,.box [iA g]),(7,.box [iA f]),(8,.box [iA 0])]) (λi=>∀x∈(NG j r).take i,(decide (f<=(x:Int))&&(yH j x).group==g)=false) (T:=[(4,.ptr 4 0 0),(6,.ptr 6 0 0),(7,.ptr 7 0 0),(8,.ptr 8 0 0)]) Z zW (λi ys y C B O h1 h2=>?_) (λB=>?_)
 .rw[zAi,zAs]at h;obtain⟨x,_,rfl⟩:=h;rfl
 .rw[zAi,zAs]at C;obtain⟨x,hx,rfl⟩:=C
  show uR _ O _ _ ⟨[(13,iA (x:Int)),(4,.ptr 4 0 0),(6,.ptr 6 0 0),(7,.ptr 7 0 0),(8,.ptr 8 0 0)],[(4,.box [zD xQ j.ph,zD iA j.cf,iA j.st]),(6,.box [iA g]),(7,.box [iA f]),(8,.box [iA 0])]⟩ _
  have I:=(bZ.1 (zB1 hx)).1;have Y:(j.ph.map xQ)[x]? =some (xQ (yH j x)):=zJ xQ j.ph x I
  have u:(decide (f<=(x:Int))&&(yH j x).group==g)=false->∀z∈(NG j r).take (i+1),(decide (f<=(z:Int))&&(yH j z).group==g)=false:=λhb z S=>by
   rcases PQ hx S with h|rfl
   .exact B z h
   .exact hb
  have E:(decide (f<=(x:Int))&&(yH j x).group==g)=true->jV j r g f=x:=λhb=>by
   unfold jV;rw[LZ _ i x hx B hb]
  clear B hx;generalize yH j x=t at *;refine WW ?_;refine⟨rfl,λU V W=>?_⟩;by_cases L:f<=(x:Int)
  .by_cases M:t.group=g
   .rw[E (by rw[zAd L,zBl.2 M];rfl)];exact lc
   .have A:=u (by rw[zAy.2 M,zCa]);refine WW ?_;exact⟨rfl,A⟩
  .have A:=u (by rw[zAc L,zA7]);refine WW ?_;exact⟨rfl,A⟩
 .rw[zAa,zAb]at B
  have G:jV j r g f= -1:=by
   unfold jV;rw[ME B]
  rw[G];exact lc
def Bz (j:Jn) (R:ln j.ph<=1000) (c:Ct) (hc:ln c.li=ln j.ph) (r:Int):zO 322 [wD j,HX c,iA r] [] (bA (TK j c r)) []:=by
 have I:=Ym j r;unfold xi at I;have hl:=zA xQ j.ph;have O:=zA xH c.li;refine eM call322 λF hF=>?_
 refine zQ I ?_;refine qH hF (Bc j R r) Z [3,4,6] [3,4,6] Z Z Z Z Z Z Z Z Z (λi ys h=>?_) (λ_=>[(3,.box [zD xQ j.ph,zD iA j.cf,iA j.st]),(4,.box [zD xH c.li,iA c.gr,zD iA c.nx,iA c.wt]),(6,.box [bA false])]) (λi=>∀x∈(NG j r).take i,((xT c x).lamp==0)=true) (T:=[(3,.ptr 3 0 0),(4,.ptr 4 0 0),(6,.ptr 6 0 0)]) Z zW (λi ys y B A M h1 h2=>?_) (λA=>?_)
 .rw[zAi,zAs]at h;obtain⟨x,_,rfl⟩:=h;rfl
 .rw[zAi,zAs]at B;obtain⟨x,hx,rfl⟩:=B
  show uR _ M _ _ ⟨[(11,iA (x:Int)),(3,.ptr 3 0 0),(4,.ptr 4 0 0),(6,.ptr 6 0 0)],[(3,.box [zD xQ j.ph,zD iA j.cf,iA j.st]),(4,.box [zD xH c.li,iA c.gr,zD iA c.nx,iA c.wt]),(6,.box [bA false])]⟩ _
  have u:=zB1 hx;have S:=(bZ.1 u).1;have hy:(c.li.map xH)[x]? =some (xH (xT c x)):=zJ xH c.li x zB
  have C:((xT c x).lamp==0)=true->∀z∈(NG j r).take (i+1),((xT c z).lamp==0)=true:=λhb z U=>by
   rcases PQ hx U with h|rfl
   .exact A z h
   .exact hb
  have E:((xT c x).lamp==0)=false->TK j c r=false:=λhb=>by
   unfold TK;exact zDj.2 ⟨x,u,by rw[hb];decide⟩
  clear A hx;generalize xT c x=t at *;refine WW ?_;refine⟨rfl,λV W Y=>?_⟩;by_cases L:t.lamp=0
  .have G:=C (zBl.2 L);refine WW ?_;exact⟨rfl,G⟩
  .rw[E (zAy.2 L)];exact lc
 .rw[zAa,zAb]at A;have hd:TK j c r=true:=zAq.2 A;rw[hd];exact lc
def Yj (j:Jn) (r t:Int) (i:Nat):Int:=match ((NG j r).take i).find? (λp:Nat=>!kX j.cf p t)with
 |some p=>p
 |none=> -1
def um {t:Int} {i x:Nat} (hx:(NG j r)[i]? =some x):Yj j r t (i+1)=if kX j.cf x t=true then Yj j r t i else if Yj j r t i= -1 then(x:Int)else Yj j r t i:=by
 unfold Yj;rw[zCz,hx,List.find?_append]
 grind
theorem Az (j:Jn) (hn:ln j.ph<=1000) (M:ln j.cf<=40) (c:Ct) (hm:ln c.nx=2) (r t:Int) (hr:0<=r/\r<2):zO 323 [wD j,HX c,iA r,iA t] [] (iA (CK j (c.nx.getD r.toNat dd) r t)) []:=by
 have V:=Ym j r;unfold xi at V;have hl:=zA xQ j.ph;have ac:=zA iA c.nx;have ap:=yF iA c.nx r hr.1 zB;generalize S:c.nx.getD r.toNat dd=A at *;refine eM call323 λF hF=>?_
 refine zQ V ?_;refine qH hF (Bc j hn r) Z [4,5,6,7,8,9] [4,5,6,7,8,9] Z Z Z Z Z Z Z Z Z (λi ys h=>?_) (λi=>[(4,.box [zD xQ j.ph,zD iA j.cf,iA j.st]),(5,.box [zD xH c.li,iA c.gr,zD iA c.nx,iA c.wt]),(6,.box [iA r]),(7,.box [iA t]),(8,.box [iA 0]),(9,.box [iA (Yj j r t i)])]) (λi=>∀x∈(NG j r).take i,(!kX j.cf x t&&decide (A≠ -1/\A<=(x:Int)))=false) (T:=[(4,.ptr 4 0 0),(5,.ptr 5 0 0),(6,.ptr 6 0 0),(7,.ptr 7 0 0),(8,.ptr 8 0 0),(9,.ptr 9 0 0)]) Z zW (λi ys y L G F1 h1 h2=>?_) (λG=>?_)
 .rw[zAi,zAs]at h;obtain⟨x,_,rfl⟩:=h;rfl
 .rw[zAi,zAs]at L;obtain⟨x,hx,rfl⟩:=L
  show uR _ F1 _ _ ⟨[(14,iA (x:Int)),(4,.ptr 4 0 0),(5,.ptr 5 0 0),(6,.ptr 6 0 0),(7,.ptr 7 0 0),(8,.ptr 8 0 0),(9,.ptr 9 0 0)],[(4,.box [zD xQ j.ph,zD iA j.cf,iA j.st]),(5,.box [zD xH c.li,iA c.gr,zD iA c.nx,iA c.wt]),(6,.box [iA r]),(7,.box [iA t]),(8,.box [iA 0]),(9,.box [iA (Yj j r t i)])]⟩ _
  have ag:=(bZ.1 (zB1 hx)).1;have E:=fX j.cf M x t;have B:=um (t:=t) hx
  have C:(!kX j.cf x t&&decide (A≠ -1/\A<=(x:Int)))=false->∀z∈(NG j r).take (i+1),(!kX j.cf z t&&decide (A≠ -1/\A<=(z:Int)))=false:=λhb z hz=>by
   rcases PQ hx hz with h|rfl
   .exact G z h
   .exact hb
  have O:(!kX j.cf x t&&decide (A≠ -1/\A<=(x:Int)))=true->CK j A r t=x:=λhb=>by
   unfold CK;rw[LZ _ i x hx G hb]
  clear G hx S;generalize kX j.cf x t=q,Yj j r t (i+1)=l2,Yj j r t i=U at *;refine WW ?_;refine⟨rfl,λF2 g1 g2=>?_⟩
  cases q with
  |true=>
   rw[Os Z]at B;have u:=C Z;subst B;refine zQ E ?_;exact⟨rfl,u⟩
  |false=>
  rw[Of yX]at B;by_cases W:A= -1
  .have u:=C (by rw[zAc (λh=>h.1 W)];rfl);by_cases I:U= -1
   .rw[Os I]at B;subst B;refine zQ E ?_;exact⟨rfl,u⟩
   .rw[Of I]at B;subst B;refine zQ E ?_;exact⟨rfl,u⟩
  by_cases Y:A<=(x:Int)
  .rw[O (by rw[zAd ⟨W,Y⟩];rfl)];exact lk E
  .have u:=C (by rw[zAc (λh=>Y h.2)];rfl);by_cases I:U= -1
   .rw[Os I]at B;subst B;refine zQ E ?_;exact⟨rfl,u⟩
   .rw[Of I]at B;subst B;refine zQ E ?_;exact⟨rfl,u⟩
 .rw[zAa,zAb]at G
  have R:CK j A r t=Yj j r t (NG j r).length:=by
   unfold CK Yj;rw[ME G,zAb];rfl
  rw[R,zAa];generalize Yj j r t (NG j r).length=U at *;exact lc
def qM {TT:List TI} {z:List ResultVar} {u:List (Nat×wB)} {r:AV} {h1:List (Nat×wB)} {st:St} {vs:List AV} (K:List Nat) (h:IZ TT st z=some vs) (A:(xD u).all (K.contains ·)=true) (B:wQ K (zE st.h) (Va vs)=r) (hh:vH K (zE st.h)=h1):
 Fin TT z u r h1 .normal st:=⟨.inl Z,vs,K,h,A,.inl B.symm,by rw[hh]⟩
def Xj (u z:Int):Nat->List AV
 |0=>[iA 0,iA 0]
 |1=>[iA u,iA 0]
 |_+2=>[iA u,iA z]
def Nf (j:Jn) (G:ln j.ph<=1000) (g R E:Int) (L N:List AV) (C V:Nat):zO 138 [wD j,.ptr 3000 0 0,iA g] [(3000,.box [.ref 1001 0 C,iA R,.ref 1002 0 V,iA E]),(1001,.arr 2 L false),(1002,.arr 1 N false)] (.tup [])
  [(3000,.box [.ref 1001 0 C,iA g,.ref 2001 0 2,iA E]),(1001,.arr 2 L false),(1002,.arr 1 N false),(2001,.arr 1 [iA (jV j 0 g 0),iA (jV j 1 g 0)] false)]:=by
 have I:=TG j G 0 g 0;have M:=TG j G 1 g 0;generalize jV j 0 g 0=u,jV j 1 g 0=z at *;obtain⟨B,A⟩:∃n:Nat,n=2:=⟨2,rfl⟩;refine eM call138 λF hF=>?_
 (repeat' (first|refine uD ?_|apply yZ|apply xM|intro hc|(apply zG;first|(apply eJ;refine cJ 2001 tok Z Z Z Z Z Z Z Z Z Z Z Z Z zB zB Z Z Z ?_))|fail))
 refine zN (B) [3000,2001,3,1001,1002] [3,1001,1002] [1,2,3] [20,19,1,2,3] Z (λi T U=>⟨(20,iA i)::(19,iA B)::T,(3000,.box [.ref 1001 0 C,iA g,.ref 2001 0 B,iA E])::(2001,.arr 1 (Xj u z i) false)::U⟩) ?_;(conv=>whnf);refine⟨by(rw[A];rfl),?_,?_⟩
 .intro i hi;have:i=0\/i=1:=by omega
  rcases this with rfl|rfl
  .have S:(Xj u z 0)[((0:Nat):Int).toNat]? =some (iA 0):=rfl;have hl:(Xj u z 0).length=2:=rfl;refine zQ I ?_;rfl
  .have S:(Xj u z 1)[((1:Nat):Int).toNat]? =some (iA 0):=rfl;have hl:(Xj u z 1).length=2:=rfl;refine zQ M ?_;rfl
 .have O:Xj u z B=[iA u,iA z]:=by rw[A];rfl
  rw[O];refine WW ?_;subst A;exact qM [3000,1001,1002,2001] Z Z Z Z
def kP (c:Ct) (kn:Nat):List (Nat×wB):=[(3000,.box [.ref 1001 0 (c.li.map xH).length,iA c.gr,.ref kn 0 (c.nx.map iA).length,iA c.wt]),(1001,.arr 2 (c.li.map xH) false),(kn,.arr 1 (c.nx.map iA) false)]
def ZV (c:Ct) (o:List Int):List (Nat×wB):=[(3000,.box [.ref 1001 0 (c.li.map xH).length,iA c.gr,.ref 2001 0 (c.nx.map iA).length,iA c.wt]),(1001,.arr 2 (c.li.map xH) false),(1002,.arr 1 (o.map iA) false),(2001,.arr 1 (c.nx.map iA) false)]
theorem VM (j:Jn) (hn:ln j.ph<=1000) (G:ln j.cf<=40) (c:Ct) (hc:ln c.li=ln j.ph) (hm:ln c.nx=2) (p:Nat) (hp:p<ln j.ph) (hr:0<=(yH j p).ring/\(yH j p).ring<=1) (E:cW j c p=true\/c.gr=(yH j p).group):
  zO 324 [wD j,.ptr 3000 0 0,iA (p:Int)] (kP c 1002) (.tup []) (kP (uM j c p) 1002):=by
 have ap:=zA xQ j.ph;have ac:=zA xH c.li;have ag:=zA iA c.nx;have I:=zJ xQ j.ph p hp
 change (j.ph.map xQ)[p]? =some (xQ (yH j p))at I
 have L:=TG j hn (yH j p).ring (yH j p).group (p+1);unfold uM;by_cases hk:cW j c p=true
 case pos=>
  rw[Os hk];unfold cW at hk;rw[zBz]at hk;obtain⟨M,S,hk⟩:=hk;rw[zA3]at S;unfold kP;refine eM call324 λF hF=>?_
  refine WW ?_;refine yW (ln c.li) [3,3000,1001,1002] [3,3000,1001,1002] [1,2,3,12,13] [14,1,2,3,12,13] Z (λi T U zs=>(i<=M)/\zs=⟨(14,iA i)::T,U⟩) (Lp ?_ ?_ ?_)
  .exact⟨zAr _,rfl⟩
  .rintro i st hi ⟨hiq,rfl⟩;have W:=zJ xH c.li i hi
   change (c.li.map xH)[i]? =some (xH (xT c i))at W
   have A:=fX j.cf G p i;by_cases hb:((xT c i).lamp != 0&&kX j.cf p i)=true
   .rw[zAn]at hb;have h1:(xT c i).lamp≠0:=by simpa using hb.1
    rw[hb.2]at A;generalize xT c i=t at *;clear hb L hk;refine zQ A ?_;exact zP [3000,1001,1002] Z Z Z Z
   .have ar:i<M:=by
     rcases zFr i M with h|h
     .exact h
     .rw[show i=M by omega]at hb;exact absurd hk hb
    rw[zAn]at hb;by_cases h1:(xT c i).lamp=0
    .generalize xT c i=t at *;clear hb hk;refine WW ?_;exact⟨zB,rfl⟩
    .have z:kX j.cf p i=false:=by
      cases z:kX j.cf p i with
      |false=>rfl
      |true=>exact absurd ⟨by simpa using h1,z⟩ hb
     rw[z]at A;generalize xT c i=t at *;clear hb hk;refine zQ A ?_;exact⟨zB,rfl⟩
  .rintro st ⟨hiq,rfl⟩;exfalso;omega
 have u:cW j c p=false:=by simpa using hk
 have R:c.gr=(yH j p).group:=by
  rcases E with E|E
  .exact absurd E hk
  .exact E
 rw[Of hk];have eb:KC j c p=AN c p:=by unfold KC;rw[Os R]
 rw[eb];unfold cW at u;rw[zCy]at u;have O:∀q,q<ln c.li->((xT c q).lamp != 0&&kX j.cf p q)=false:=λq z=>by simpa using u q (zA3.2 z)
 unfold AN kP;dsimp only;rw[zBs,zBs,zBp,zBp];clear u hk eb E;generalize jV j (yH j p).ring (yH j p).group (p+1)=fo at *;obtain⟨rn,B⟩:∃n:Nat,(yH j p).ring=n:=⟨(yH j p).ring.toNat,zB⟩;have C:=zJ xH c.li p zB;have Y:=zJ iA c.nx rn zB;generalize V:xT c p=l0 at*
 change (c.li.map xH)[p]? =some (xH (xT c p))at C
 rw[V]at C;generalize c.nx.getD rn dd=n0 at *;refine eM call324 λF hF=>?_
 refine WW ?_;refine zN (ln c.li) [3,3000,1001,1002] [3,3000,1001,1002] [1,2,3,12,13] [14,1,2,3,12,13] Z (λi T U=>⟨(14,iA i)::T,U⟩) (Lq ?_ ?_)
 .intro i hi;have W:=zJ xH c.li i hi
  change (c.li.map xH)[i]? =some (xH (xT c i))at W
  have A:=fX j.cf G p i;have hb:=O i hi;clear O C Y L;by_cases h1:(xT c i).lamp=0
  .generalize xT c i=t at *;clear hb;refine WW ?_;rfl
  .have z:kX j.cf p i=false:=by
    cases z:kX j.cf p i with
    |false=>rfl
    |true=>
     rw[z,zC3]at hb;exact absurd GP h1
   rw[z]at A;generalize xT c i=t at *;clear hb;refine zQ A ?_;rfl
 .clear O;generalize yH j p=t at *;rw[B,zAx];have et:xQ t= .agg [iA rn,iA t.group,iA t.ming,iA t.maxg,iA t.yel,iA t.red,iA t.walk,iA t.clear]:=by rw[<-B];rfl
  rw[et]at I;rw[B]at L;refine zQ L ?_;exact qM [3000,1001,1002] Z Z Z Z
theorem MF (j:Jn) (hn:ln j.ph<=1000) (G:ln j.cf<=40) (c:Ct) (hc:ln c.li=ln j.ph) (hm:ln c.nx=2) (p:Nat) (hp:p<ln j.ph) (hr:0<=(yH j p).ring/\(yH j p).ring<=1) (E:cW j c p=true\/c.gr=(yH j p).group):
  zO 324 [wD j,.ptr 3000 0 0,iA (p:Int)] (kP c 2001) (.tup []) (kP (uM j c p) 2001):=by
 have ap:=zA xQ j.ph;have ac:=zA xH c.li;have ag:=zA iA c.nx;have I:=zJ xQ j.ph p hp
 change (j.ph.map xQ)[p]? =some (xQ (yH j p))at I
 have L:=TG j hn (yH j p).ring (yH j p).group (p+1);unfold uM;by_cases hk:cW j c p=true
 case pos=>
  rw[Os hk];unfold cW at hk;rw[zBz]at hk;obtain⟨M,S,hk⟩:=hk;rw[zA3]at S;unfold kP;refine eM call324 λF hF=>?_
  refine WW ?_;refine yW (ln c.li) [3,3000,1001,2001] [3,3000,1001,2001] [1,2,3,12,13] [14,1,2,3,12,13] Z (λi T U zs=>(i<=M)/\zs=⟨(14,iA i)::T,U⟩) (Lp ?_ ?_ ?_)
  .exact⟨zAr _,rfl⟩
  .rintro i st hi ⟨hiq,rfl⟩;have W:=zJ xH c.li i hi
   change (c.li.map xH)[i]? =some (xH (xT c i))at W
   have A:=fX j.cf G p i;by_cases hb:((xT c i).lamp != 0&&kX j.cf p i)=true
   .rw[zAn]at hb;have h1:(xT c i).lamp≠0:=by simpa using hb.1
    rw[hb.2]at A;generalize xT c i=t at *;clear hb L hk;refine zQ A ?_;exact zP [3000,1001,2001] Z Z Z Z
   .have ar:i<M:=by
     rcases zFr i M with h|h
     .exact h
     .rw[show i=M by omega]at hb;exact absurd hk hb
    rw[zAn]at hb;by_cases h1:(xT c i).lamp=0
    .generalize xT c i=t at *;clear hb hk;refine WW ?_;exact⟨zB,rfl⟩
    .have z:kX j.cf p i=false:=by
      cases z:kX j.cf p i with
      |false=>rfl
      |true=>exact absurd ⟨by simpa using h1,z⟩ hb
     rw[z]at A;generalize xT c i=t at *;clear hb hk;refine zQ A ?_;exact⟨zB,rfl⟩
  .rintro st ⟨hiq,rfl⟩;exfalso;omega
 have u:cW j c p=false:=by simpa using hk
 have R:c.gr=(yH j p).group:=by
  rcases E with E|E
  .exact absurd E hk
  .exact E
 rw[Of hk];have eb:KC j c p=AN c p:=by unfold KC;rw[Os R]
 rw[eb];unfold cW at u;rw[zCy]at u;have O:∀q,q<ln c.li->((xT c q).lamp != 0&&kX j.cf p q)=false:=λq z=>by simpa using u q (zA3.2 z)
 unfold AN kP;dsimp only;rw[zBs,zBs,zBp,zBp];clear u hk eb E;generalize jV j (yH j p).ring (yH j p).group (p+1)=fo at *;obtain⟨rn,B⟩:∃n:Nat,(yH j p).ring=n:=⟨(yH j p).ring.toNat,zB⟩;have C:=zJ xH c.li p zB;have Y:=zJ iA c.nx rn zB;generalize V:xT c p=l0 at*
 change (c.li.map xH)[p]? =some (xH (xT c p))at C
 rw[V]at C;generalize c.nx.getD rn dd=n0 at *;refine eM call324 λF hF=>?_
 refine WW ?_;refine zN (ln c.li) [3,3000,1001,2001] [3,3000,1001,2001] [1,2,3,12,13] [14,1,2,3,12,13] Z (λi T U=>⟨(14,iA i)::T,U⟩) (Lq ?_ ?_)
 .intro i hi;have W:=zJ xH c.li i hi
  change (c.li.map xH)[i]? =some (xH (xT c i))at W
  have A:=fX j.cf G p i;have hb:=O i hi;clear O C Y L;by_cases h1:(xT c i).lamp=0
  .generalize xT c i=t at *;clear hb;refine WW ?_;rfl
  .have z:kX j.cf p i=false:=by
    cases z:kX j.cf p i with
    |false=>rfl
    |true=>
     rw[z,zC3]at hb;exact absurd GP h1
   rw[z]at A;generalize xT c i=t at *;clear hb;refine zQ A ?_;rfl
 .clear O;generalize yH j p=t at *;rw[B,zAx];have et:xQ t= .agg [iA rn,iA t.group,iA t.ming,iA t.maxg,iA t.yel,iA t.red,iA t.walk,iA t.clear]:=by rw[<-B];rfl
  rw[et]at I;rw[B]at L;refine zQ L ?_;exact qM [3000,1001,2001] Z Z Z Z
theorem MG (j:Jn) (Y:ln j.ph<=1000) (L:ln j.cf<=40) (c:Ct) (hc:ln c.li=ln j.ph) (hm:ln c.nx=2) (p:Nat) (hp:p<ln j.ph) (hr:0<=(yH j p).ring/\(yH j p).ring<=1) (u:cW j c p=false) (O:c.gr≠(yH j p).group):
  zO 324 [wD j,.ptr 3000 0 0,iA (p:Int)] (kP c 1002) (.tup []) (ZV (uM j c p) c.nx):=by
 have ap:=zA xQ j.ph;have ac:=zA xH c.li;have ag:=zA iA c.nx;have E:=zJ xQ j.ph p hp
 change (j.ph.map xQ)[p]? =some (xQ (yH j p))at E
 have G:=TG j Y (yH j p).ring (yH j p).group (p+1);unfold uM;rw[Of (by rw[u];decide)];have W:KC j c p=OQ j (AN c p) (yH j p).group:=by unfold KC;rw[Of O]
 rw[W];unfold cW at u;rw[zCy]at u;have I:∀q,q<ln c.li->((xT c q).lamp != 0&&kX j.cf p q)=false:=λq C=>by simpa using u q (zA3.2 C)
 have S:=Nf j Y (yH j p).group c.gr c.wt ((c.li.map xH).set p (xH ⟨1,0⟩)) (c.nx.map iA) (c.li.map xH).length (c.nx.map iA).length;unfold OQ AN kP ZV;dsimp only;rw[zBs,zBs,zBp,zBp];rw[show([jV j 0 (yH j p).group 0,jV j 1 (yH j p).group 0].map iA)=[iA (jV j 0 (yH j p).group 0),iA (jV j 1 (yH j p).group 0)]from Z];have M:(([iA (jV j 0 (yH j p).group 0),iA (jV j 1 (yH j p).group 0)]:List AV)).length=2:=rfl;rw[M]
 have A:∃v,([iA (jV j 0 (yH j p).group 0),iA (jV j 1 (yH j p).group 0)]:List AV)[(yH j p).ring.toNat]? =some (iA v):=by
  have:(yH j p).ring=0\/(yH j p).ring=1:=by omega
  rcases this with h|h<;>rw[h]
  all_goals exact⟨_,rfl⟩
 obtain⟨v0,A⟩:=A;generalize ([iA (jV j 0 (yH j p).group 0),iA (jV j 1 (yH j p).group 0)]:List AV)=fx at *;clear u W;generalize jV j (yH j p).ring (yH j p).group (p+1)=fo at *;obtain⟨rn,z⟩:∃n:Nat,(yH j p).ring=n:=⟨(yH j p).ring.toNat,zB⟩;have B:=zJ xH c.li p zB;rw[z,zAx]at A;generalize R:xT c p=l0 at*
 change (c.li.map xH)[p]? =some (xH (xT c p))at B
 rw[R]at B;refine eM call324 λF hF=>?_
 refine WW ?_;refine zN (ln c.li) [3,3000,1001,1002] [3,3000,1001,1002] [1,2,3,12,13] [14,1,2,3,12,13] Z (λi T U=>⟨(14,iA i)::T,U⟩) (Lq ?_ ?_)
 .intro i hi;have hy:=zJ xH c.li i hi
  change (c.li.map xH)[i]? =some (xH (xT c i))at hy
  have V:=fX j.cf L p i;have hb:=I i hi;clear I B G S;by_cases h1:(xT c i).lamp=0
  .generalize xT c i=t at *;clear hb;refine WW ?_;rfl
  .have C:kX j.cf p i=false:=by
    cases C:kX j.cf p i with
    |false=>rfl
    |true=>
     rw[C,zC3]at hb;exact absurd GP h1
   rw[C]at V;generalize xT c i=t at *;clear hb;refine zQ V ?_;rfl
 .clear I;generalize yH j p=t at *;rw[z,zAx];have et:xQ t= .agg [iA rn,iA t.group,iA t.ming,iA t.maxg,iA t.yel,iA t.red,iA t.walk,iA t.clear]:=by rw[<-z];rfl
  rw[et]at E;rw[z]at G;refine yJ (xV S G) ?_;exact qM [3000,1001,1002,2001] Z Z Z Z
def Jt (c:Ct):AV:= .agg [.sl false ((c.li.map xH).take (c.li.map xH).length),iA c.gr,.sl false ((c.nx.map iA).take (c.nx.map iA).length),iA c.wt]
def jM (c:Ct):Jt c=HX c:=by unfold Jt;rw[zAb,zAb];rfl
def TH (j:Jn) (u:ln j.ph<=1000) (c:Ct) (hc:ln c.li=ln j.ph) (r:Int):zO 322 [wD j,Jt c,iA r] [] (bA (TK j c r)) []:=by rw[jM];exact Bz j u c hc r
def Dc (j:Jn) (A:ln j.ph<=1000) (u:ln j.cf<=40) (c:Ct) (z:ln c.nx=2) (r t:Int) (B:0<=r/\r<2):zO 323 [wD j,Jt c,iA r,iA t] [] (iA (CK j (c.nx.getD r.toNat dd) r t)) []:=by rw[jM];exact Az j A u c z r t B
def TJ (J:JV j) {t:Nat} (B:t<ln j.ph) (h:YV j c r t≠ -1):∃p:Nat,YV j c r t=p/\p<ln j.ph/\(yH j p).group=(yH j t).group:=by
 unfold YV at h⊢;split
 .grind
 .rename_i A;rw[Of A]at h
  rcases AP j (c.nx.getD r.toNat dd) r t with h1|⟨p,h1,h2,_,h4⟩
  .exact absurd h1 h
  .refine⟨p,h1,h2,?_⟩;by_cases u:p=t
   .rw[u]
   .exact zD6 λz=>by
     have:=J.ap p t h2 B u (.inr z)
     grind
def gT (j:Jn) (c:Ct) (p:Nat):(cW j c p=true/\uM j c p=c)\/(cW j c p=false/\(uM j c p).gr=(yH j p).group):=by
 unfold uM;split
 .grind
 .rename_i h;refine .inr ⟨by simpa using h,?_⟩;dsimp only;unfold KC;split
  .rename_i h2;exact h2
  .rfl
def UR (e:Bool) (c:Ct) (o:List Int):List (Nat×wB):=if e=true then ZV c o else kP c 1002
def qm (J:JV j) {t:Nat} (A:t<ln j.ph):(jQ j t c r).gr=c.gr\/(jQ j t c r).gr=(yH j t).group:=by
 unfold jQ;split
 .split
  .exact .inl Z
  .rename_i h;obtain⟨p,u,B,z⟩:=TJ J (c:=c) (r:=r) A h;rw[u,zAx]
   rcases gT j c p with h|h
   all_goals grind
 .exact .inl Z
def jm (e:Bool) (c:Ct) (o:List Int):uN (UR e c o)=true:=by cases e<;>rfl
def yi (j:Jn) (t:Nat) (e:Bool) (i:Int) (c:Ct) (o:List Int):St:=⟨[(8,iA i),(1,.ptr 3000 0 0),(2,iA t),(3,.ptr 3 0 0)],UR e c o++[(3,.box [zD xQ j.ph,zD iA j.cf,iA j.st])]⟩
theorem Gt (j:Jn) (J:JV j) (c:Ct) (C:CV j c) (h0:c.wt=0) (t:Nat) (ht:t<ln j.ph):zO 272 [wD j,.ptr 3000 0 0,iA (t:Int)] (kP c 1002) (.tup []) (UR (decide ((jQ j t (jQ j t c 0) 1).gr≠c.gr)) (jQ j t (jQ j t c 0) 1) (if(jQ j t c 0).gr=c.gr then(jQ j t c 0).nx else c.nx)):=by
 have hn:=J.n;have M:ln j.ph<=1000:=by omega
 have a1:=J.c;have a2:=zA xQ j.ph;have az:=zJ xQ j.ph t ht
 change (j.ph.map xQ)[t]? =some (xQ (yH j t))at az
 have ac:=C.n;have ag:=C.m;obtain⟨C1,av⟩:=om J C h0 ht 0;have G:=C1.n;have L:=C1.m;have au:=qm J (c:=c) (r:=0) ht;have I:c.gr=c.gr:=rfl;refine TZ tok func272 Z (λargs w=>call272 args w) Z Z (jm _ _ _) (λF hF=>?_);refine WW ?_;refine eK [3000,1001,1002,2001,3] [8,1,2,3] (yi j t false 0 c c.nx) (yi j t (decide ((jQ j t c 0).gr≠c.gr)) 1 (jQ j t c 0) c.nx) (yi j t (decide ((jQ j t (jQ j t c 0) 1).gr≠c.gr)) 2 (jQ j t (jQ j t c 0) 1) (if(jQ j t c 0).gr=c.gr then(jQ j t c 0).nx else c.nx)) Z Z ?_ ?_ ?_
 .unfold yi;clear C1 au G L av;rw[show UR false c c.nx=kP c 1002 from Z];unfold kP;have V:=TH j M c ac 0
  cases hd:TK j c 0 with
  |false=>
   rw[hd]at V;rw[show jQ j t c 0=c by unfold jQ;rw[Of GO]];rw[show decide (c.gr≠c.gr)=false from zAc (λh=>h I)];clear hd;refine zQ V ?_;rfl
  |true=>
  rw[hd]at V
  have z:jQ j t c 0=if YV j c 0 t= -1 then c else uM j c (YV j c 0 t).toNat:=by unfold jQ;rw[Os hd]
  by_cases ap:0=(yH j t).ring
  ·
   have hP:YV j c 0 t=t:=by unfold YV;rw[Os ap]
   rw[hP]at z;rw[Of zB,zAx]at z;by_cases hk:cW j c t=true\/c.gr=(yH j t).group
   .have S:=VM j M zB c ac ag t ht (J.rg t ht) hk
    have B:(uM j c t).gr=c.gr:=by
     rcases gT j c t with h|h
     .exact(zAv Ct.gr h.2).trans I
     .rcases hk with hk|hk
      .rw[hk]at h;cases h.1
      .exact h.2.trans (hk.symm.trans I)
    rw[z,show decide ((uM j c t).gr≠c.gr)=false from zAc (λh=>h B)];generalize uM j c t=b at *;clear hd z B hk;unfold kP at S;refine yJ (xV V S) ?_;rfl
   .have O:cW j c t=false:=by
     cases h:cW j c t with
     |false=>rfl
     |true=>exact absurd (.inl h) hk
    have R:c.gr≠(yH j t).group:=λh=>hk (.inr h)
    have S:=MG j M zB c ac ag t ht (J.rg t ht) O R
    have B:(uM j c t).gr≠c.gr:=by
     rcases gT j c t with h|h
     .rw[O]at h;cases h.1
     .rw[h.2,<-I];exact λh=>R h.symm
    rw[z,show decide ((uM j c t).gr≠c.gr)=true from zAd B];generalize uM j c t=b at *;clear hd z B hk O R;unfold kP ZV at S;refine yJ (xV V S) ?_;rfl
  ·
   have cm:=Dc j M zB c ag 0 t zB;have hP:YV j c 0 t=CK j (c.nx.getD (0:Int).toNat dd) 0 t:=by unfold YV;rw[Of ap]
   rw[<-hP]at cm;by_cases U:YV j c 0 t= -1
   .rw[Os U]at z;rw[z];rw[show decide (c.gr≠c.gr)=false from zAc (λh=>h I)];generalize YV j c 0 t=pp at *;clear hP hd z;refine yJ (xV V cm) ?_;rfl
   obtain⟨p,Y,hp,ar⟩:=TJ J (c:=c) (r:=0) ht U;rw[Of U,Y,zAx]at z;rw[Y]at cm;clear hP U Y;by_cases hk:cW j c p=true\/c.gr=(yH j p).group
   .have S:=VM j M zB c ac ag p hp (J.rg p hp) hk
    have B:(uM j c p).gr=c.gr:=by
     rcases gT j c p with h|h
     .exact(zAv Ct.gr h.2).trans I
     .rcases hk with hk|hk
      .rw[hk]at h;cases h.1
      .exact h.2.trans (hk.symm.trans I)
    rw[z,show decide ((uM j c p).gr≠c.gr)=false from zAc (λh=>h B)];generalize uM j c p=b at *;clear hd z B hk;unfold kP at S;refine yJ (kC V cm S) ?_;rfl
   .have O:cW j c p=false:=by
     cases h:cW j c p with
     |false=>rfl
     |true=>exact absurd (.inl h) hk
    have R:c.gr≠(yH j p).group:=λh=>hk (.inr h)
    have S:=MG j M zB c ac ag p hp (J.rg p hp) O R
    have B:(uM j c p).gr≠c.gr:=by
     rcases gT j c p with h|h
     .rw[O]at h;cases h.1
     .rw[h.2,<-I];exact λh=>R h.symm
    rw[z,show decide ((uM j c p).gr≠c.gr)=true from zAd B];generalize uM j c p=b at *;clear hd z B hk O R;unfold kP ZV at S;refine yJ (kC V cm S) ?_;rfl
 .clear ac ag I;have ax:=au;generalize jQ j t c 0=u at *;unfold yi;by_cases A:u.gr=c.gr
  .rw [Os A,zAc (λh=>h A)];rw[show UR false u c.nx=kP u 1002 from Z];unfold kP;have V:=TH j M u G 1
   cases hd:TK j u 1 with
   |false=>
    rw[hd]at V;rw[show jQ j t u 1=u by unfold jQ;rw[Of GO]];rw[show decide (u.gr≠c.gr)=false from zAc (λh=>h A)];clear hd;refine zQ V ?_;rfl
   |true=>
   rw[hd]at V
   have z:jQ j t u 1=if YV j u 1 t= -1 then u else uM j u (YV j u 1 t).toNat:=by unfold jQ;rw[Os hd]
   by_cases ap:1=(yH j t).ring
   ·
    have hP:YV j u 1 t=t:=by unfold YV;rw[Os ap]
    rw[hP]at z;rw[Of zB,zAx]at z;by_cases hk:cW j u t=true\/u.gr=(yH j t).group
    .have S:=VM j M zB u G L t ht (J.rg t ht) hk
     have B:(uM j u t).gr=c.gr:=by
      rcases gT j u t with h|h
      .exact(zAv Ct.gr h.2).trans A
      .rcases hk with hk|hk
       .rw[hk]at h;cases h.1
       .exact h.2.trans (hk.symm.trans A)
     rw[z,show decide ((uM j u t).gr≠c.gr)=false from zAc (λh=>h B)];generalize uM j u t=b at *;clear hd z B hk;unfold kP at S;refine yJ (xV V S) ?_;rfl
    .have O:cW j u t=false:=by
      cases h:cW j u t with
      |false=>rfl
      |true=>exact absurd (.inl h) hk
     have R:u.gr≠(yH j t).group:=λh=>hk (.inr h)
     have S:=MG j M zB u G L t ht (J.rg t ht) O R
     have B:(uM j u t).gr≠c.gr:=by
      rcases gT j u t with h|h
      .rw[O]at h;cases h.1
      .rw[h.2,<-A];exact λh=>R h.symm
     rw[z,show decide ((uM j u t).gr≠c.gr)=true from zAd B];generalize uM j u t=b at *;clear hd z B hk O R;unfold kP ZV at S;refine yJ (xV V S) ?_;rfl
   ·
    have cm:=Dc j M zB u L 1 t zB;have hP:YV j u 1 t=CK j (u.nx.getD (1:Int).toNat dd) 1 t:=by unfold YV;rw[Of ap]
    rw[<-hP]at cm;by_cases U:YV j u 1 t= -1
    .rw[Os U]at z;rw[z];rw[show decide (u.gr≠c.gr)=false from zAc (λh=>h A)];generalize YV j u 1 t=pp at *;clear hP hd z;refine yJ (xV V cm) ?_;rfl
    obtain⟨p,Y,hp,ar⟩:=TJ J (c:=u) (r:=1) ht U;rw[Of U,Y,zAx]at z;rw[Y]at cm;clear hP U Y;by_cases hk:cW j u p=true\/u.gr=(yH j p).group
    .have S:=VM j M zB u G L p hp (J.rg p hp) hk
     have B:(uM j u p).gr=c.gr:=by
      rcases gT j u p with h|h
      .exact(zAv Ct.gr h.2).trans A
      .rcases hk with hk|hk
       .rw[hk]at h;cases h.1
       .exact h.2.trans (hk.symm.trans A)
     rw[z,show decide ((uM j u p).gr≠c.gr)=false from zAc (λh=>h B)];generalize uM j u p=b at *;clear hd z B hk;unfold kP at S;refine yJ (kC V cm S) ?_;rfl
    .have O:cW j u p=false:=by
      cases h:cW j u p with
      |false=>rfl
      |true=>exact absurd (.inl h) hk
     have R:u.gr≠(yH j p).group:=λh=>hk (.inr h)
     have S:=MG j M zB u G L p hp (J.rg p hp) O R
     have B:(uM j u p).gr≠c.gr:=by
      rcases gT j u p with h|h
      .rw[O]at h;cases h.1
      .rw[h.2,<-A];exact λh=>R h.symm
     rw[z,show decide ((uM j u p).gr≠c.gr)=true from zAd B];generalize uM j u p=b at *;clear hd z B hk O R;unfold kP ZV at S;refine yJ (kC V cm S) ?_;rfl
  .have E:u.gr≠c.gr:=A
   have W:u.gr=(yH j t).group:=by
    rcases ax with h|h
    .exact absurd h E
    .exact h
   rw[Of A,zAd E];rw[show UR true u c.nx=ZV u c.nx from Z];unfold ZV;have V:=TH j M u G 1
   cases hd:TK j u 1 with
   |false=>
    rw[hd]at V;rw[show jQ j t u 1=u by unfold jQ;rw[Of GO]];rw[show decide (u.gr≠c.gr)=true from zAd E];clear hd;refine zQ V ?_;rfl
   |true=>
   rw[hd]at V
   have z:jQ j t u 1=if YV j u 1 t= -1 then u else uM j u (YV j u 1 t).toNat:=by unfold jQ;rw[Os hd]
   by_cases ap:1=(yH j t).ring
   ·
    have hP:YV j u 1 t=t:=by unfold YV;rw[Os ap]
    rw[hP]at z;rw[Of zB,zAx]at z;have S:=MF j M zB u G L t ht (J.rg t ht) (.inr (W.trans (rfl:(yH j t).group=(yH j t).group).symm))
    have B:(uM j u t).gr≠c.gr:=by
     rcases gT j u t with h|h
     .rw[h.2];exact E
     .rw[h.2,(rfl:(yH j t).group=(yH j t).group),<-W];exact E
    rw[z,show decide ((uM j u t).gr≠c.gr)=true from zAd B];generalize uM j u t=b at *;clear hd z B;unfold kP at S;refine yJ (xV V S) ?_;rfl
   ·
    have cm:=Dc j M zB u L 1 t zB;have hP:YV j u 1 t=CK j (u.nx.getD (1:Int).toNat dd) 1 t:=by unfold YV;rw[Of ap]
    rw[<-hP]at cm;by_cases U:YV j u 1 t= -1
    .rw[Os U]at z;rw[z];rw[show decide (u.gr≠c.gr)=true from zAd E];generalize YV j u 1 t=pp at *;clear hP hd z;refine yJ (xV V cm) ?_;rfl
    obtain⟨p,Y,hp,ar⟩:=TJ J (c:=u) (r:=1) ht U;rw[Of U,Y,zAx]at z;rw[Y]at cm;clear hP U Y;have S:=MF j M zB u G L p hp (J.rg p hp) (.inr (W.trans (ar:(yH j p).group=(yH j t).group).symm))
    have B:(uM j u p).gr≠c.gr:=by
     rcases gT j u p with h|h
     .rw[h.2];exact E
     .rw[h.2,(ar:(yH j p).group=(yH j t).group),<-W];exact E
    rw[z,show decide ((uM j u p).gr≠c.gr)=true from zAd B];generalize uM j u p=b at *;clear hd z B;unfold kP at S;refine yJ (kC V cm S) ?_;rfl
 .generalize (if(jQ j t c 0).gr=c.gr then(jQ j t c 0).nx else c.nx)=o at *;generalize jQ j t (jQ j t c 0) 1=c2 at *;unfold yi;by_cases he:c2.gr=c.gr
  .rw[zAc (λh=>h he)];refine WW ?_;exact qM [3000,1001,1002] Z Z Z Z
  .rw[zAd he];refine WW ?_;exact qM [3000,1001,1002,2001] Z Z Z Z
def dm (c:Ct) (u:ln c.li<=1000):zO 321 [Jt c] [] (bA (qc c)) []:=by rw[jM];exact AT c u
def AG (c:Ct) (i:Nat):Bool:=qc c&&(c.nx.take i).all λp=>p== -1
def KA (c:Ct) (i:Nat) (hi:i<ln c.nx):AG c (i+1)=(AG c i&&(c.nx.getD i dd== -1)):=by grind [AG,List.take_append_getElem,nm,Bool.and_assoc]
def NF (j:Jn) (e:Bool) (i:Int) (c:Ct) (o:List Int):St:=⟨[(36,iA i),(1,.ptr 3000 0 0),(2,.ptr 2 0 0)],UR e c o++[(2,.box [zD xQ j.ph,zD iA j.cf,iA j.st])]⟩
theorem Ft (j:Jn) (J:JV j) (c:Ct) (C:CV j c) (h0:c.wt=0):zO 273 [wD j,.ptr 3000 0 0] (kP c 1002) (.tup []) (UR (Wj c) (bc j c) c.nx):=by
 have hn:=J.n;have O:ln j.ph<=1000:=by omega
 have bd:=J.c;have bl:=zA xQ j.ph;have bf:=zA xH c.li;have bk:=zA iA c.nx;have a7:=C.n;have a6:=C.m;have ca:=dm c zB;have cg:=AR j O J.gp;have ba:=MI J
 have a8:fT j<=4:=by
  have:∀n,n<=ln j.ph->uc j.ph n<=4:=λn=>by
   induction n with
   |zero=>intro _;show(0:Int)<=4;omega
   |succ n ih=>
    intro h;have h1:=ih zB;have h2:=J.gp n zB;unfold yH at h2;unfold uc;omega
  exact this _ (zAg _)
 have a5:=C.g;have ar:(c.gr+1).tmod (fT j)=(c.gr+1) % fT j:=zBm zB;have hO:AG c (ln c.nx)=Wj c:=by unfold AG Wj;rw[zAb]
 refine TZ tok func273 Z (λargs w=>call273 args w) Z Z (jm _ _ _) (λF hF=>?_);unfold kP;have a1:AG c 0=qc c:=by unfold AG;simp
 rw[<-a1]at ca;refine zQ ca ?_;refine zN (ln c.nx) [2,3000,1001,1002] [2,3000,1001,1002] [1,2,15,16] [4,17,1,2,15,16] Z (λi T U=>⟨(4,bA (AG c i))::(17,iA i)::T,U⟩) (Lq ?_ ?_)
 .intro i hi;have hy:=zJ iA c.nx i hi;have es:=KA c i hi;rw[es];generalize AG c i=o at *;generalize c.nx.getD i dd=x at *;by_cases hx:x= -1
  .rw[show(x== -1)=true by rw[zBl];exact hx,zC3];clear ca cg;refine WW ?_;rfl
  .rw[show(x== -1)=false by rw[zAy];exact hx,zCa];clear ca cg;refine WW ?_;rfl
 .rw [hO];clear hO a1 ca
  cases ax:Wj c with
  | true=>
   have ag:bc j c=vM j (vM j (OQ j c ((c.gr+1) % fT j)) 0) 1:=by unfold bc;rw[Os ax]
   rw[ag];have a9:0<=(c.gr+1) % fT j/\(c.gr+1) % fT j<fT j:=⟨zD4 _ zB,zDq _ zB⟩;have W:=AO C a9;have bb:(OQ j c ((c.gr+1) % fT j)).wt=0:=h0;have ce:=Nf j O ((c.gr+1) % fT j) c.gr c.wt (c.li.map xH) (c.nx.map iA) (c.li.map xH).length (c.nx.map iA).length;rw[show([(3000,.box [.ref 1001 0 (c.li.map xH).length,iA ((c.gr+1) % fT j),.ref 2001 0 2,iA c.wt]),(1001,.arr 2 (c.li.map xH) false),(1002,.arr 1 (c.nx.map iA) false),(2001,.arr 1 [iA (jV j 0 ((c.gr+1) % fT j) 0),iA (jV j 1 ((c.gr+1) % fT j) 0)] false)]:List (Nat×wB))=ZV (OQ j c ((c.gr+1) % fT j)) c.nx from Z]at ce;rw[<-ar]at ce;rw[ar]at ce;generalize a4:OQ j c ((c.gr+1) % fT j)=B at *;rw[<-ar]at ce;have br:¬fT j=0:=by omega
   generalize fT j=gm at *;have ac:=W.n;have ap:=W.m;obtain⟨I,a3⟩:=XR J W bb (r:=0) zB;have E:=I.n;have G:=I.m
   change CV j (vM j B 0)at I
   change (vM j B 0).li.length=ln j.ph at E
   change (vM j B 0).nx.length=2 at G
   clear ag a4 C;unfold ZV at ce;refine yJ (xV cg ce) ?_;refine eK [3000,1001,1002,2001,2] [36,1,2] (NF j true 0 B c.nx) (NF j true 1 (vM j B 0) c.nx) (NF j true 2 (vM j (vM j B 0) 1) c.nx) Z Z ?_ ?_ ?_
   .unfold NF;rw[show UR true B c.nx=ZV B c.nx from Z];unfold ZV;have L:=TH j O B ac 0;have V:=zJ iA B.nx 0 zB;have hv:=W.v 0 zB;have az:(B.nx.map iA).length=2:=by rw[zAa];exact ap
    cases hd:TK j B 0 with
    |false=>
     rw[hd]at L;rw[show vM j B 0=B by unfold vM;rw[Of YZ]];clear hd;refine zQ L ?_;rfl
    |true=>
    rw[hd]at L
    have u:vM j B 0=if B.nx.getD 0 dd= -1 then B else uM j B (B.nx.getD 0 dd).toNat:=by
     unfold vM;rw[hd]
     show(if true=true/\B.nx.getD 0 dd≠ -1 then uM j B (B.nx.getD 0 dd).toNat else B)=_
     by_cases h:B.nx.getD 0 dd= -1
     .rw[Os h,Of (λk=>k.2 h)]
     .rw[Of h,Os ⟨rfl,h⟩]
    clear hd;by_cases A:B.nx.getD 0 dd= -1
    .rw[Os A]at u;rw[u];clear u hv;generalize B.nx.getD 0 dd=x at *;refine zQ L ?_;rfl
    .rw[Of A]at u
     have S:AL j (0:Nat) B.gr (B.nx.getD 0 dd):=by
      rcases hv with h|h
      .exact absurd h A
      .exact h
     obtain⟨i1,i2,i3,R⟩:=S;obtain⟨p,M⟩:∃p:Nat,B.nx.getD 0 dd=p:=⟨(B.nx.getD 0 dd).toNat,zB⟩;rw[M]at u V A i2 R;rw[zAx]at u R;have hp:p<ln j.ph:=by omega
     have Y:=MF j O zB B ac ap p hp (J.rg p hp) (.inr R.symm);rw[u];clear u hv i1 i2 i3 R M;generalize uM j B p=b at *;unfold kP at Y;refine yJ (xV L Y) ?_;rfl
   .generalize vM j B 0=z at *;unfold NF;rw[show UR true z c.nx=ZV z c.nx from Z];unfold ZV;have L:=TH j O z E 1;have V:=zJ iA z.nx 1 zB;have hv:=I.v 1 zB;have az:(z.nx.map iA).length=2:=by rw[zAa];exact G
    cases hd:TK j z 1 with
    |false=>
     rw[hd]at L;rw[show vM j z 1=z by unfold vM;rw[Of YZ]];clear hd;refine zQ L ?_;rfl
    |true=>
    rw[hd]at L
    have u:vM j z 1=if z.nx.getD 1 dd= -1 then z else uM j z (z.nx.getD 1 dd).toNat:=by
     unfold vM;rw[hd]
     show(if true=true/\z.nx.getD 1 dd≠ -1 then uM j z (z.nx.getD 1 dd).toNat else z)=_
     by_cases h:z.nx.getD 1 dd= -1
     .rw[Os h,Of (λk=>k.2 h)]
     .rw[Of h,Os ⟨rfl,h⟩]
    clear hd;by_cases A:z.nx.getD 1 dd= -1
    .rw[Os A]at u;rw[u];clear u hv;generalize z.nx.getD 1 dd=x at *;refine zQ L ?_;rfl
    .rw[Of A]at u
     have S:AL j (1:Nat) z.gr (z.nx.getD 1 dd):=by
      rcases hv with h|h
      .exact absurd h A
      .exact h
     obtain⟨i1,i2,i3,R⟩:=S;obtain⟨p,M⟩:∃p:Nat,z.nx.getD 1 dd=p:=⟨(z.nx.getD 1 dd).toNat,zB⟩;rw[M]at u V A i2 R;rw[zAx]at u R;have hp:p<ln j.ph:=by omega
     have Y:=MF j O zB z E G p hp (J.rg p hp) (.inr R.symm);rw[u];clear u hv i1 i2 i3 R M;generalize uM j z p=b at *;unfold kP at Y;refine yJ (xV L Y) ?_;rfl
   .generalize vM j (vM j B 0) 1=c2 at *;unfold NF;refine WW ?_;exact qM [3000,1001,1002,2001] Z Z Z Z
  | false=>
   have ag:bc j c=vM j (vM j c 0) 1:=by unfold bc;rw[Of (by rw[ax];decide)]
   rw[ag];clear cg ar ag ba a8 a5;have a2:=C;have au:=a7;have av:=a6;obtain⟨I,a3⟩:=XR J C h0 (r:=0) zB;have E:=I.n;have G:=I.m
   change CV j (vM j c 0)at I
   change (vM j c 0).li.length=ln j.ph at E
   change (vM j c 0).nx.length=2 at G
   refine WW ?_;clear ax;refine eK [3000,1001,1002,2001,2] [36,1,2] (NF j false 0 c c.nx) (NF j false 1 (vM j c 0) c.nx) (NF j false 2 (vM j (vM j c 0) 1) c.nx) Z Z ?_ ?_ ?_
   .unfold NF;rw[show UR false c c.nx=kP c 1002 from Z];unfold kP;have L:=TH j O c au 0;have V:=zJ iA c.nx 0 zB;have hv:=a2.v 0 zB;have az:(c.nx.map iA).length=2:=by rw[zAa];exact av
    cases hd:TK j c 0 with
    |false=>
     rw[hd]at L;rw[show vM j c 0=c by unfold vM;rw[Of YZ]];clear hd;refine zQ L ?_;rfl
    |true=>
    rw[hd]at L
    have u:vM j c 0=if c.nx.getD 0 dd= -1 then c else uM j c (c.nx.getD 0 dd).toNat:=by
     unfold vM;rw[hd]
     show(if true=true/\c.nx.getD 0 dd≠ -1 then uM j c (c.nx.getD 0 dd).toNat else c)=_
     by_cases h:c.nx.getD 0 dd= -1
     .rw[Os h,Of (λk=>k.2 h)]
     .rw[Of h,Os ⟨rfl,h⟩]
    clear hd;by_cases A:c.nx.getD 0 dd= -1
    .rw[Os A]at u;rw[u];clear u hv;generalize c.nx.getD 0 dd=x at *;refine zQ L ?_;rfl
    .rw[Of A]at u
     have S:AL j (0:Nat) c.gr (c.nx.getD 0 dd):=by
      rcases hv with h|h
      .exact absurd h A
      .exact h
     obtain⟨i1,i2,i3,R⟩:=S;obtain⟨p,M⟩:∃p:Nat,c.nx.getD 0 dd=p:=⟨(c.nx.getD 0 dd).toNat,zB⟩;rw[M]at u V A i2 R;rw[zAx]at u R;have hp:p<ln j.ph:=by omega
     have Y:=VM j O zB c au av p hp (J.rg p hp) (.inr R.symm);rw[u];clear u hv i1 i2 i3 R M;generalize uM j c p=b at *;unfold kP at Y;refine yJ (xV L Y) ?_;rfl
   .generalize vM j c 0=z at *;unfold NF;rw[show UR false z c.nx=kP z 1002 from Z];unfold kP;have L:=TH j O z E 1;have V:=zJ iA z.nx 1 zB;have hv:=I.v 1 zB;have az:(z.nx.map iA).length=2:=by rw[zAa];exact G
    cases hd:TK j z 1 with
    |false=>
     rw[hd]at L;rw[show vM j z 1=z by unfold vM;rw[Of YZ]];clear hd;refine zQ L ?_;rfl
    |true=>
    rw[hd]at L
    have u:vM j z 1=if z.nx.getD 1 dd= -1 then z else uM j z (z.nx.getD 1 dd).toNat:=by
     unfold vM;rw[hd]
     show(if true=true/\z.nx.getD 1 dd≠ -1 then uM j z (z.nx.getD 1 dd).toNat else z)=_
     by_cases h:z.nx.getD 1 dd= -1
     .rw[Os h,Of (λk=>k.2 h)]
     .rw[Of h,Os ⟨rfl,h⟩]
    clear hd;by_cases A:z.nx.getD 1 dd= -1
    .rw[Os A]at u;rw[u];clear u hv;generalize z.nx.getD 1 dd=x at *;refine zQ L ?_;rfl
    .rw[Of A]at u
     have S:AL j (1:Nat) z.gr (z.nx.getD 1 dd):=by
      rcases hv with h|h
      .exact absurd h A
      .exact h
     obtain⟨i1,i2,i3,R⟩:=S;obtain⟨p,M⟩:∃p:Nat,z.nx.getD 1 dd=p:=⟨(z.nx.getD 1 dd).toNat,zB⟩;rw[M]at u V A i2 R;rw[zAx]at u R;have hp:p<ln j.ph:=by omega
     have Y:=VM j O zB z E G p hp (J.rg p hp) (.inr R.symm);rw[u];clear u hv i1 i2 i3 R M;generalize uM j z p=b at *;unfold kP at Y;refine yJ (xV L Y) ?_;rfl
   .generalize vM j (vM j c 0) 1=c2 at *;unfold NF;refine WW ?_;exact qM [3000,1001,1002] Z Z Z Z
def Cc (l:List Li) (hl:ln l<=1073741824):zO 168 [zD xH l] [] (.ref 1001 0 (l.map xH).length) [(1001,.arr 2 (l.map xH) false)]:=by
 have u:=zA xH l;refine eM call168 λF hF=>?_
 refine xI 0 Z (λcap hx=>?_) ?_
 .have:l=[]:=by simpa using hx
  subst this
  (repeat' (first|refine Md ?_|apply yZ|apply xM|intro hc|fail))
  refine qK 2 1001 2 Z Z Z (xG ?_);exact zP [1001] Z Z Z Z
 .repeat' (first|(apply zG;first|refine wX tok Z Z ?_|(apply xZ;refine yE (yU tok (.inl ⟨rfl,rfl⟩) Z Z Z Z) Z ?_)|(apply yR;refine qB (nw:=[1001]) (yT tok 1001 (xs:=[]) Z Z Z Z Z Z Z Z Z) Z Z Z ?_)|(apply yG;refine xW tok Z Z Z Z Z Z Z (zZ _ _ (λ_=>rfl)) Z Z Z zB Z ?_)|apply uT)|(first|apply xK|apply xF|refine vQ Z ?_|refine yM Z ?_|refine yB Z ?_|refine xU Z (λhc=>?_) λhc=>?_|apply xB|apply xG|apply xJ|apply xE))
  exact zP [1001] Z Z Z Z
def AH (l:List Int) (hl:ln l<=1073741824):zO 103 [zD iA l] [] (.ref 1002 0 (l.map iA).length) [(1002,.arr 1 (l.map iA) false)]:=by
 have u:=zA iA l;refine eM call103 λF hF=>?_
 refine xI 0 Z (λcap hx=>?_) ?_
 .have:l=[]:=by simpa using hx
  subst this
  (repeat' (first|refine Md ?_|apply yZ|apply xM|intro hc|fail))
  refine qK 2 1002 1 Z Z Z (xG ?_);exact zP [1002] Z Z Z Z
 .repeat' (first|(apply zG;first|refine wX tok Z Z ?_|(apply xZ;refine yE (yU tok (.inl ⟨rfl,rfl⟩) Z Z Z Z) Z ?_)|(apply yR;refine qB (nw:=[1002]) (yT tok 1002 (xs:=[]) Z Z Z Z Z Z Z Z Z) Z Z Z ?_)|(apply yG;refine xW tok Z Z Z Z Z Z Z (zZ _ _ (λ_=>rfl)) Z Z Z zB Z ?_)|apply uT)|(first|apply xK|apply xF|refine vQ Z ?_|refine yM Z ?_|refine yB Z ?_|refine xU Z (λhc=>?_) λhc=>?_|apply xB|apply xG|apply xJ|apply xE))
  exact zP [1002] Z Z Z Z
def KB (j:Jn) (c:Ct) (t:Int) (i:Nat):List Li:=(List.range (ln j.ph)).map λp=>if p<i then AK (yH j p) (xT c p) (EA j c t p)else xT c p
def MH (j:Jn) (c:Ct) (t:Int) (i:Nat):(KB j c t i).length=ln j.ph:=by simp[KB]
def AI (hc:ln c.li=ln j.ph) (t:Int):KB j c t 0=c.li:=by apply zBb<;>grind [KB,List.getElem?_range,xT,nm,List.getElem?_eq_none]
def Mf (j:Jn) (c:Ct) (t:Int):KB j c t (ln j.ph)=RQ j c t:=by grind [KB,RQ,List.map_congr_left]
def AJ (j:Jn) (c:Ct) (t:Int) (i:Nat):KB j c t (i+1)=(KB j c t i).set i (AK (yH j i) (xT c i) (EA j c t i)):=by apply zBb<;>grind [KB,AK,yH,xT,EA,List.getElem?_range,List.getElem?_eq_none]
def bm {p:Ph} {l:Li} (h:vc p l=true) (z:p.yel<=60) (u:p.red<=60):0<=l.tk/\l.tk<=1073741824:=by grind [vc]
def FZ {P:Program} {C:List Nat} {F:Fr C} {m:Nat} {A:Array Oper} {z:List Oper} {Q:List FP->St->Prop} {B:Bool} {fs:List FP} {ty T:Nat} {pos:String} {u:Array Edge} {st:St} (hk:yQ P F m A B (⟨some 7,.alloc T,ty,pos,u,none⟩::z) st fs Q):yQ P F m A B (⟨some 7,.alloc T,ty,pos,u,none⟩::z) st fs Q:=hk
theorem o0 (j:Jn) (J:JV j) (c:Ct) (C:CV j c) (t:Int):zO 223 [wD j,HX c,iA t] [] (HX (EB j c t)) []:=by
 have hn:=J.n;have ax:=J.c;have S:=C.n;have ac:=C.m;have av:=C.w;have a4:=J.st;have a3:=zA xQ j.ph;have ag:(c.li.map xH).length=j.ph.length:=by rw[zAa];exact S
 have az:(c.nx.map iA).length=2:=by rw[zAa];exact ac
 have k1:=OR j J;have Y:=zu j J.b c;rw[U0 J C]at Y;have E:=Cc c.li zB;have G:=AH c.nx zB;unfold EB;by_cases hw:0<c.wt
 .rw[Os hw];refine eM call223 λF hF=>?_
  refine yJ (xV k1 Y) ?_
  repeat' (first|(apply zG;first|(apply FZ;refine qB (nw:=[3000]) (dJ tok 3000 Z Z) Z Z Z ?_)|refine wX tok Z Z ?_|(apply xO;(first|(refine vG 168 ?_;first|refine yE (zL (E) Z Z Z Z Z) Z ?_|refine qB (zL (E) Z Z Z Z Z) Z Z Z ?_|refine ZR (zL (E) Z Z Z Z Z) Z Z Z ?_)|(refine vG 103 ?_;first|refine yE (zL (G) Z Z Z Z Z) Z ?_|refine qB (zL (G) Z Z Z Z Z) Z Z Z ?_|refine ZR (zL (G) Z Z Z Z Z) Z Z Z ?_)))|(apply gA;refine jR tok Z Z Z ?_)|refine dH UH ?_|apply uT)|first|refine SQ ?_|fail)
  refine WW ?_;exact zH [] Z Z (jM ⟨c.li,c.gr,c.nx,c.wt-1⟩) Z
 rw[Of hw];have h0:c.wt=0:=by omega
 have M:=sm J C h0 t;have I:=AI S t;have L:=Mf j c t;rw[ag]at E;have hN:∀i,((KB j c t i).map xH).length=j.ph.length:=λi=>by rw[zAa];exact MH j c t i
 refine eM call223 λF hF=>?_
 refine yJ (xV k1 Y) ?_
 repeat' (first|(apply zG;first|(apply FZ;refine qB (nw:=[3000]) (dJ tok 3000 Z Z) Z Z Z ?_)|refine wX tok Z Z ?_|(apply xO;(first|(refine vG 168 ?_;first|refine yE (zL (E) Z Z Z Z Z) Z ?_|refine qB (zL (E) Z Z Z Z Z) Z Z Z ?_|refine ZR (zL (E) Z Z Z Z Z) Z Z Z ?_)|(refine vG 103 ?_;first|refine yE (zL (G) Z Z Z Z Z) Z ?_|refine qB (zL (G) Z Z Z Z Z) Z Z Z ?_|refine ZR (zL (G) Z Z Z Z Z) Z Z Z ?_)))|(apply gA;refine jR tok Z Z Z ?_)|refine dH UH ?_|apply uT)|first|refine SQ ?_|fail)
 (repeat' (first|refine Xu ?_|apply yZ|apply xM|intro hc|(apply zG;first|refine SM ?_)|fail))
 refine yB Z (xB ?_);apply xK;refine WA [3000,1001,1002,3,4,6] [2,3,4,6,7,8] ⟨[(2,iA t),(3,.ptr 3 0 0),(4,.ptr 4 0 0),(6,.ptr 6 0 0),(7,.ptr 3000 0 0),(8,bA (XQ j t))],[(3000,.box [.ref 1001 0 j.ph.length,iA c.gr,.ref 1002 0 (c.nx.map iA).length,iA c.wt]),(1001,.arr 2 (c.li.map xH) false),(1002,.arr 1 (c.nx.map iA) false),(3,.box [zD xQ j.ph,zD iA j.cf,iA j.st]),(4,.box [zD xH c.li,iA c.gr,zD iA c.nx,iA c.wt]),(6,.box [.s (.slice none 0 0),iA 0,.s (.slice none 0 0),iA 0])]⟩ rfl ?_ ?_
 .clear k1 Y E G M;by_cases a1:0<=t
  .by_cases a2:t<j.ph.length
   .rw[show XQ j t=true from zAd ⟨a1,a2⟩];refine WW ?_;exact⟨rfl,rfl⟩
   .rw[show XQ j t=false from zAc (λh=>a2 h.2)];refine WW ?_;exact⟨rfl,rfl⟩
  .rw[show XQ j t=false from zAc (λh=>a1 h.1)];refine WW ?_;exact⟨rfl,rfl⟩
 clear k1 Y E G;refine WW ?_;refine zN (j.ph.length) [1001,3,4,6,3000,1002] [3,4,6,3000,1002] [2,3,4,6,7,8,51,52] [53,2,3,4,6,7,8,51,52] Z (λi T U=>⟨(53,iA i)::T,(1001,.arr 2 ((KB j c t i).map xH) false)::U⟩) ?_;(conv=>whnf);refine⟨by(rw[I];rfl),?_,?_⟩
 .intro i hi;have hy:=zJ xQ j.ph i hi
  change (j.ph.map xQ)[i]? =some (xQ (yH j i))at hy
  have ar:=zJ xH c.li i zB
  change (c.li.map xH)[i]? =some (xH (xT c i))at ar
  have W:∃l,((KB j c t i).map xH)[i]? =some (xH l):=⟨_,zJ xH (KB j c t i) i (by rw[MH];exact hi)⟩;obtain⟨lm,W⟩:=W;have a5:=J.ti i hi;have a6:=bm (C.k i hi) zB zB;have ap:Tx (yH j i):=⟨zB,zB,zB,zB⟩;have au:=hN i;have ls:=λlv=>Bt (yH j i) ap (xT c i) zB lv
  have ck:=fX j.cf zB i t;have es:=AJ j c t i;have em:(KB j c t (i+1)).map xH=((KB j c t i).map xH).set i (xH (AK (yH j i) (xT c i) (EA j c t i))):=by rw[es,zBs]
  rw[em];have u:EA j c t i=_:=rfl
  conv at u=>rhs;unfold EA
  have z:=ls (EA j c t i);clear ls es em M hN I L;generalize AK (yH j i) (xT c i) (EA j c t i)=ln,(KB j c t i).map xH=xs at *;generalize EA j c t i=lv at *;generalize kX j.cf i t=cq at*
  cases R:XQ j t with
  |false=>
   rw[R]at u;rw[Of yX]at u;generalize yH j i=ph,xT c i=l at *;by_cases O:ph.maxg<=l.tk+1
   .rw[zAd O]at u;subst u;refine zQ z ?_;rfl
   .rw[zAc O]at u;subst u;refine zQ z ?_;rfl
  | true=>
   rw[R]at u;rw[Os Z]at u;generalize yH j i=ph,xT c i=l at *;by_cases V:(i:Int)=t
   .rw[zAc (λh=>h V)]at u;rw[zA7]at u;subst u;by_cases O:ph.maxg<=l.tk+1
    all_goals
     (refine zQ z ?_)
     rfl
   rw[zAd V,zAo]at u;by_cases O:ph.maxg<=l.tk+1
   .rw[zAd O,zC6]at u;subst u;refine zQ z ?_;rfl
   .rw[zAc O,zCp]at u;rw[u]at z;clear u
    cases cq with
    |true=>
     refine yJ (xV ck z) ?_;rfl
    |false=>
     refine yJ (xV ck z) ?_;rfl
 .rw[L];have e1:((RQ j c t).map xH).length=j.ph.length:=by simp[RQ]
  clear L I hN
  cases R:XQ j t with
  | true=>
   rw[Os Z];unfold XQ at R;rw[zAe]at R;obtain⟨B,rfl⟩:∃B:Nat,t=B:=⟨t.toNat,zB⟩;rw[zAx];have cs:=Gt j J ⟨RQ j c B,c.gr,c.nx,c.wt⟩ M h0 B zB;unfold kP at cs;dsimp only at cs;rw[e1]at cs;generalize jQ j B (jQ j B ⟨RQ j c B,c.gr,c.nx,c.wt⟩ 0) 1=A,(if(jQ j B ⟨RQ j c B,c.gr,c.nx,c.wt⟩ 0).gr=c.gr then(jQ j B ⟨RQ j c B,c.gr,c.nx,c.wt⟩ 0).nx else c.nx)=o,(RQ j c B).map xH=xs at *;clear M
   cases hE:decide (A.gr≠c.gr)with
   |true=>
    rw[hE,show UR true A o=ZV A o from Z]at cs;unfold ZV at cs;clear hE;refine zQ cs ?_;exact zH [] Z Z (jM A) Z
   |false=>
    rw[hE,show UR false A o=kP A 1002 from Z]at cs;unfold kP at cs;clear hE;refine zQ cs ?_;exact zH [] Z Z (jM A) Z
  | false=>
   rw[Of yX];have cs:=Ft j J ⟨RQ j c t,c.gr,c.nx,c.wt⟩ M h0;unfold kP at cs;dsimp only at cs;rw[e1]at cs;generalize bc j ⟨RQ j c t,c.gr,c.nx,c.wt⟩=A,Wj ⟨RQ j c t,c.gr,c.nx,c.wt⟩=e,(RQ j c t).map xH=xs at *;clear M
   cases e with
   |true=>
    rw[show UR true A c.nx=ZV A c.nx from Z]at cs;unfold ZV at cs;refine zQ cs ?_;exact zH [] Z Z (jM A) Z
   |false=>
    rw[show UR false A c.nx=kP A 1002 from Z]at cs;unfold kP at cs;refine zQ cs ?_;exact zH [] Z Z (jM A) Z
