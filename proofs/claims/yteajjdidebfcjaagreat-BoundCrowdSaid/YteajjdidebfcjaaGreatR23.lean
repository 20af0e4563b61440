/- Part 23. -/
import Derived.Test.YteajjdidebfcjaaGreatR22
namespace Go.Proofs.YteajjdidebfcjaaGreat
namespace Av
open Tryz
set_option linter.all false
set_option maxRecDepth 4000
set_option maxHeartbeats 1000000
def zZm (y:Int):fH y 1=0∨fH y 1=1:=by
 show IntKind.i64.wrap (BitVec.ofInt 64 y &&& BitVec.ofInt 64 1).toNat=0∨IntKind.i64.wrap (BitVec.ofInt 64 y &&& BitVec.ofInt 64 1).toNat=1
 have e1:BitVec.ofInt 64 1=1#64:=by decide
 have h:(BitVec.ofInt 64 y &&& BitVec.ofInt 64 1).toNat=(BitVec.ofInt 64 y).toNat % 2:=by
  rw[e1,BitVec.toNat_and];exact Nat.and_one_is_mod _
 rw[h];have h2:(BitVec.ofInt 64 y).toNat % 2=0∨(BitVec.ofInt 64 y).toNat % 2=1:=by omega
 rcases h2 with h2|h2<;>rw[h2]
 ·exact .inl xG
 ·exact .inr xG
def JK {rows:List Int} {p q:Nat} (hp:p<rows.length) (hq:q<rows.length):fH (uM (rows.getD p default) q) 1=if jF rows p q=true then 1 else 0:=by
 unfold jF;rw[yAe zB,yAv,yAx];split
 ·rename_i h
  rwa [yBf]at h
 ·rename_i h;rw[yBf]at h
  rcases zZm (uM (rows.getD p default) q)with h1|h1
  ·exact h1
  ·exact absurd h1 h
def zZn {x:Int} {n:Nat} (h:0<=x/\x<2 ^ n):uM x n=0:=by
 unfold uM;rw[yAx];exact Int.fdiv_eq_zero_of_lt h.1 h.2
def zEm (j:Jn) (J:JV j):zN 183 [zD iA j.cf] [] (bA true) []:=by
 have hl:=zA iA j.cf;have hn:=J.n;have hc:=J.c;refine eM call183 λF hF=>?_
 refine WW ?_;refine zO (j.cf.length) [] [] [0,14,15] [16,0,14,15] Z (λi T U=>⟨(16,iA i)::T,U⟩) ?_;(conv=>whnf);refine⟨by rfl,?_,?_⟩
 ·intro u hu;have hy:=zM iA j.cf u hu;have hrow:=J.row u zB;have hs0:=zZn hrow;rw[<-hc,<-hl]at hs0;have hir:=JK (p:=u) (q:=u) hu hu;rw[J.ir u zB,zZ7 xG]at hir
  have hpq:∀v,v<j.cf.length->fH (uM (j.cf.getD u default) v) 1=fH (uM (j.cf.getD v default) u) 1:=λv hv=>by
   rw[JK hu hv,JK hv hu,J.sy u v zB zB]
  generalize j.cf.getD u default=x at *;refine WW ?_;refine zO (j.cf.length) [] [] [0,3,4,14,15,16,38] [39,0,3,4,14,15,16,38] Z (λi T U=>⟨(39,iA i)::T,U⟩) ?_;(conv=>whnf);refine⟨by rfl,?_,?_⟩
  ·intro v hv;have hyv:=zM iA j.cf v hv;have hpq:=hpq v hv;generalize j.cf.getD v default=y at *;refine WW ?_;rfl
  ·clear hpq;refine WW ?_;rfl
 ·(refine WW ?_)
  exact zJ
def fR (n a b:Int) (h:a<=n/\n<=b):zN 142 [iA n,iA a,iA b] [] (bA true) []:=by
 obtain⟨h1,h2⟩:=h;refine eM call142 λF hF=>?_
 refine WW ?_;exact zJ
def zJb (j:Jn) (J:JV j) (p:Nat) (hp:p<j.ph.length):zN 184 [wS (yM j p)] [] (bA true) []:=by
 have hr:=J.rg p hp;have hg:=J.gp p hp;obtain⟨t1,t2,t3,t4,t5,t6,t7,t8,t9,t10,t11,t12,t13⟩:=J.ti p hp;generalize yM j p=t at *;have c1:=fR t.ring 0 1 hr;have c2:=fR t.group 0 3 hg;have c3:=fR t.ming 1 60 ⟨t1,zB⟩;have c4:=fR t.maxg 1 60 ⟨zB,t3⟩;have c5:=fR t.yel 1 60 ⟨t4,t5⟩;have c6:=fR t.red 0 60 ⟨t6,t7⟩;have c7:=fR t.walk 0 60 ⟨t8,t9⟩;have c8:=fR t.clear 0 60 ⟨t10,t11⟩;by_cases h0:t.walk=0
 ·have h1:=t13.1 h0;clear t13;refine eM call184 λF hF=>?_
  refine yR (zt8 c1 c2 c3 c4 c5 c6 c7 c8) ?_;exact zJ
 ·have h1:¬t.clear=0:=λh=>h0 (t13.2 h)
  clear t13;refine eM call184 λF hF=>?_
  refine yR (zt8 c1 c2 c3 c4 c5 c6 c7 c8) ?_;exact zJ
def zJc (j:Jn) (J:JV j):zN 185 [wJ j] [] (bA true) []:=by
 have hl:=zA wS j.ph;have hn:=J.n;have hc:=J.c;refine eM call185 λF hF=>?_
 repeat' (first|(refine zE ?_;first|refine vW tok Z Z ?_|refine RQ tok Z Z Z Z ?_|refine qJ ?_)|first|refine SQ ?_|fail|refine vC ?_|refine vD ?_|refine yW ?_)
 refine zO (j.ph.length) [1] [1] [1,9,10] [3,11,1,9,10] Z (λi T U=>⟨(3,bA true)::(11,iA i)::T,U⟩) ?_;(conv=>whnf);refine⟨by rfl,?_,?_⟩
 ·intro u hu;have hy:=zM wS j.ph u hu
  change (j.ph.map wS)[u]? =some (wS (yM j u))at hy
  refine WW ?_;refine zO (j.ph.length) [1,5] [1,5] [1,4,5,9,10,11,17,18] [3,19,1,4,5,9,10,11,17,18] Z (λi T U=>⟨(3,bA true)::(19,iA i)::T,U⟩) ?_;(conv=>whnf);refine⟨by rfl,?_,?_⟩
  ·intro v hv;have hyv:=zM wS j.ph v hv
   change (j.ph.map wS)[v]? =some (wS (yM j v))at hyv
   have ck:=jJ j.cf zB u v;have hap:=J.ap u v hu hv;by_cases huv:u=v
   ·have hne:(u:Int)=v:=by omega
    clear hap;generalize yM j u=a at *;generalize yM j v=b at *;refine WW ?_;rfl
   have hne:¬(u:Int)=v:=by omega
   by_cases h1:(yM j u).ring=(yM j v).ring
   ·rw[hap huv (.inl h1)]at ck;clear hap;generalize yM j u=a at *;generalize yM j v=b at *;refine zV ck ?_;rfl
   by_cases h2:(yM j u).group=(yM j v).group
   ·clear hap;generalize yM j u=a at *;generalize yM j v=b at *;refine WW ?_;rfl
   ·rw[hap huv (.inr h2)]at ck;clear hap;generalize yM j u=a at *;generalize yM j v=b at *;refine zV ck ?_;rfl
  ·generalize yM j u=a at *;refine WW ?_;rfl
 ·(refine WW ?_)
  exact zJ
def MW (j:Jn) (i:Nat) (g:Nat):Bool:=(List.range i).any λp=>(yM j p).group==(g:Int)
def zJd (j:Jn) (i:Nat):MW j (i+1)=λg=>MW j i g||((yM j i).group==(g:Int)):=by
 funext g
 unfold MW;rw[yCm,List.any_append];simp
def zXx (g:Nat) (h:g<4):p2 (g:Int)=fT (λx:Nat=>(g:Int)==(x:Int)) 8:=by
 have:g=0∨g=1∨g=2∨g=3:=by omega
 rcases this with rfl|rfl|rfl|rfl<;>decide
def zZo:∀b0 b1 b2 b3:Bool,(b1=true->b0=true)->(b2=true->b1=true)->(b3=true->b2=true)->fH (fT (bq b0 b1 b2 b3 false false false false) 8) (fT (bq b0 b1 b2 b3 false false false false) 8+1)=0:=by decide +kernel
def zOv (j:Jn) (J:JV j):fH (fT (MW j j.ph.length) 8) (fT (MW j j.ph.length) 8+1)=0:=by
 have hf:∀g:Nat,4<=g->MW j j.ph.length g=false:=λg hg=>by
  unfold MW;rw[yCy];intro p hp;have:=J.gp p (yAt.1 hp);simp;omega
 have hd:∀g:Nat,MW j j.ph.length (g+1)=true->MW j j.ph.length g=true:=λg h=>by
  unfold MW at h⊢;rw[yBo]at h⊢;obtain⟨p,hp,hg⟩:=h;rw[yBf]at hg;obtain⟨q,hq,hqg⟩:=J.lo p (yAt.1 hp) g zB zB;exact⟨q,yAt.2 hq,by rw[yBf];exact hqg⟩
 have e:fT (MW j j.ph.length) 8=fT (bq (MW j j.ph.length 0) (MW j j.ph.length 1) (MW j j.ph.length 2) (MW j j.ph.length 3) false false false false) 8:=dO 8 λi hi=>by
  match i,hi with
  |0,_=>rfl|1,_=>rfl|2,_=>rfl|3,_=>rfl
  |4,_=>exact hf 4 zB
  |5,_=>exact hf 5 zB
  |6,_=>exact hf 6 zB
  |7,_=>exact hf 7 zB
  |i+8,h=>omega
 rw[e];exact zZo _ _ _ _ (hd 0) (hd 1) (hd 2)
def TN (j:Jn) (J:JV j):zN 143 [wJ j] [] (bA true) []:=by
 have hl:=zA wS j.ph;have hlc:=zA iA j.cf;have hn:=J.n;have hc:=J.c;have c1:=zEm j J;have c2:=fR j.st 0 60 J.st;have c3:=zJc j J;have hgd:=zOv j J;have hbb:=zAm (MW j j.ph.length) 8 zB;have hp8:p2 ((8:Nat):Int)=256:=by decide
 refine eM call143 λF hF=>?_
 refine yR (vH c1 c2) ?_;refine zO (j.ph.length) [1] [1] [1,34,35] [4,36,1,34,35] Z (λi T U=>⟨(4,iA (fT (MW j i) 8))::(36,iA i)::T,U⟩) ?_;(conv=>whnf);refine⟨by rfl,?_,?_⟩
 ·intro u hu;have hy:=zM wS j.ph u hu
  change (j.ph.map wS)[u]? =some (wS (yM j u))at hy
  have cp:=zJb j J u hu;have hg:=J.gp u hu;have es:=zJd j u;obtain⟨gn,hgn⟩:∃n:Nat,(yM j u).group=n:=⟨(yM j u).group.toNat,zB⟩;have hor:=zVe (MW j u) (λx:Nat=>(gn:Int)==(x:Int));rw[<-zXx gn zB]at hor;rw[hgn]at es;rw[es,<-hor];generalize fT (MW j u) 8=b at *;rw[<-hgn];clear c1 c2 c3 hor es;generalize yM j u=t at *;refine zV cp ?_;rfl
 ·generalize fT (MW j j.ph.length) 8=b at *;refine zV c3 ?_;exact zJ
theorem QU {p:Nat->Bool}:∀(l:List Nat) (i x:Nat),l[i]? =some x->(∀y∈l.take i,p y=false)->p x=true->l.find? p=some x
 | [],i,x,h,_,_=>by simp at h
 |y::l,0,x,h,_,hp=>by
  simp at h;subst h;rw[yF7,hp]
 |y::l,i+1,x,h,ha,hp=>by
  rw[yF7,ha y zU];exact QU l i x IY (λz hz=>ha z (by simp[hz])) hp
def zCq {p:Nat->Bool} {l:List Nat} (h:∀y∈l,p y=false):l.find? p=none:=yE8.2 λy hy=>by rw[h y hy];decide
def UK {l:List Nat} {i x z:Nat} (hx:l[i]? =some x) (hz:z∈l.take (i+1)):z∈l.take i∨z=x:=by
 rw[yC2,hx]at hz;simpa using hz
def YH (j:Jn) (hn:j.ph.length<=1000) (r g f:Int):zN 211 [wJ j,iA r,iA g,iA f] [] (iA (dZ j r g f)) []:=by
 have c:=zJn j r;unfold zEo at c;have hl:=zA wS j.ph;refine eM call211 λF hF=>?_
 refine zV c ?_;refine uE hF (zAd j hn r) Z [4,6,7,8] [4,6,7,8] Z Z Z Z Z Z Z Z Z (λi ys h=>?_) (λ_=>[(4,.box [zD wS j.ph,zD iA j.cf,iA j.st]),(6,.box [iA g]),(7,.box [iA f]),(8,.box [iA 0])]) (λi=>∀x∈(NB j r).take i,(decide (f<=(x:Int))&&(yM j x).group==g)=false) (T:=[(4,.ptr 4 0 0),(6,.ptr 6 0 0),(7,.ptr 7 0 0),(8,.ptr 8 0 0)]) Z zU (λi ys y hys hI F1 h1 h2=>?_) (λhI=>?_)
 ·rw[yAa,yAo]at h;obtain⟨x,_,rfl⟩:=h;rfl
 ·rw[yAa,yAo]at hys;obtain⟨x,hx,rfl⟩:=hys
  show vK _ F1 _ _ ⟨[(13,iA (x:Int)),(4,.ptr 4 0 0),(6,.ptr 6 0 0),(7,.ptr 7 0 0),(8,.ptr 8 0 0)],[(4,.box [zD wS j.ph,zD iA j.cf,iA j.st]),(6,.box [iA g]),(7,.box [iA f]),(8,.box [iA 0])]⟩ _
  have hxn:=(eQ.1 (yBx hx)).1;have hy:(j.ph.map wS)[x]? =some (wS (yM j x)):=zM wS j.ph x hxn
  have next:(decide (f<=(x:Int))&&(yM j x).group==g)=false->∀z∈(NB j r).take (i+1),(decide (f<=(z:Int))&&(yM j z).group==g)=false:=λhb z hz=>by
   rcases UK hx hz with h|rfl
   ·exact hI z h
   ·exact hb
  have hit:(decide (f<=(x:Int))&&(yM j x).group==g)=true->dZ j r g f=x:=λhb=>by
   unfold dZ;rw[QU _ i x hx hI hb]
  clear hI hx;generalize yM j x=t at *;refine WW ?_;refine⟨rfl,λF2 g1 g2=>?_⟩;by_cases h3:f<=(x:Int)
  ·by_cases h4:t.group=g
   ·rw[hit (by rw[yAe h3,yBf.2 h4];rfl)];refine WW ?_;exact zJ
   ·have hnx:=next (by rw[yBg.2 h4,yDp]);refine WW ?_;exact⟨rfl,hnx⟩
  ·have hnx:=next (by rw[yAh h3,yBy]);refine WW ?_;exact⟨rfl,hnx⟩
 ·rw[zZ9,yAf]at hI
  have hno:dZ j r g f= -1:=by
   unfold dZ;rw[zCq hI]
  rw[hno];refine WW ?_;exact zJ
def zUo (j:Jn) (hn:j.ph.length<=1000) (c:Ct) (hc:c.li.length=j.ph.length) (r:Int):zN 288 [wJ j,ctA c,iA r] [] (bA (GG j c r)) []:=by
 have cp:=zJn j r;unfold zEo at cp;have hl:=zA wS j.ph;have hl2:=zA vE c.li;refine eM call288 λF hF=>?_
 refine zV cp ?_;refine uE hF (zAd j hn r) Z [3,4,6] [3,4,6] Z Z Z Z Z Z Z Z Z (λi ys h=>?_) (λ_=>[(3,.box [zD wS j.ph,zD iA j.cf,iA j.st]),(4,.box [zD vE c.li,iA c.gr,zD iA c.nx,iA c.wt]),(6,.box [bA false])]) (λi=>∀x∈(NB j r).take i,((xJ c x).lamp==0)=true) (T:=[(3,.ptr 3 0 0),(4,.ptr 4 0 0),(6,.ptr 6 0 0)]) Z zU (λi ys y hys hI F1 h1 h2=>?_) (λhI=>?_)
 ·rw[yAa,yAo]at h;obtain⟨x,_,rfl⟩:=h;rfl
 ·rw[yAa,yAo]at hys;obtain⟨x,hx,rfl⟩:=hys
  show vK _ F1 _ _ ⟨[(11,iA (x:Int)),(3,.ptr 3 0 0),(4,.ptr 4 0 0),(6,.ptr 6 0 0)],[(3,.box [zD wS j.ph,zD iA j.cf,iA j.st]),(4,.box [zD vE c.li,iA c.gr,zD iA c.nx,iA c.wt]),(6,.box [bA false])]⟩ _
  have hmem:=yBx hx;have hxn:=(eQ.1 hmem).1;have hy:(c.li.map vE)[x]? =some (vE (xJ c x)):=zM vE c.li x zB
  have next:((xJ c x).lamp==0)=true->∀z∈(NB j r).take (i+1),((xJ c z).lamp==0)=true:=λhb z hz=>by
   rcases UK hx hz with h|rfl
   ·exact hI z h
   ·exact hb
  have hit:((xJ c x).lamp==0)=false->GG j c r=false:=λhb=>by
   unfold GG;exact yC1.2 ⟨x,hmem,by rw[hb];decide⟩
  clear hI hx;generalize xJ c x=t at *;refine WW ?_;refine⟨rfl,λF2 g1 g2=>?_⟩;by_cases h4:t.lamp=0
  ·have hnx:=next (yBf.2 h4);refine WW ?_;exact⟨rfl,hnx⟩
  ·rw[hit (yBg.2 h4)];refine WW ?_;exact zJ
 ·rw[zZ9,yAf]at hI;have hd:GG j c r=true:=yAm.2 hI;rw[hd];refine WW ?_;exact zJ
def lsN (j:Jn) (r t:Int) (i:Nat):Int:=match ((NB j r).take i).find? (λp:Nat=>!jF j.cf p t)with
 |some p=>p
 |none=> -1
def zJe {j:Jn} {r t:Int} {i x:Nat} (hx:(NB j r)[i]? =some x):lsN j r t (i+1)=if jF j.cf x t=true then lsN j r t i else if lsN j r t i= -1 then(x:Int)else lsN j r t i:=by
 unfold lsN;rw[yC2,hx,yF0]
 cases hf:((NB j r).take i).find? (λp:Nat=>!jF j.cf p t)with
 |some p=>
  show((p:Nat):Int)=if jF j.cf x t=true then(p:Int)else if(p:Int)= -1 then(x:Int)else(p:Int)
  split
  ·rfl
  ·rw[zZ7 zB]
 |none=>
  simp only[Option.none_or,yFv,yF7,List.find?_nil]
  cases jF j.cf x t<;>rfl
theorem zUp (j:Jn) (hn:j.ph.length<=1000) (hcf:j.cf.length<=40) (c:Ct) (hm:c.nx.length=2) (r t:Int) (hr:0<=r/\r<2):zN 289 [wJ j,ctA c,iA r,iA t] [] (iA (cmF j (c.nx.getD r.toNat default) r t)) []:=by
 have cp:=zJn j r;unfold zEo at cp;have hl:=zA wS j.ph;have hl2:=zA iA c.nx;have hyn:=yI iA c.nx r hr.1 zB;generalize hxe:c.nx.getD r.toNat default=xn at *;refine eM call289 λF hF=>?_
 refine zV cp ?_;refine uE hF (zAd j hn r) Z [4,5,6,7,8,9] [4,5,6,7,8,9] Z Z Z Z Z Z Z Z Z (λi ys h=>?_) (λi=>[(4,.box [zD wS j.ph,zD iA j.cf,iA j.st]),(5,.box [zD vE c.li,iA c.gr,zD iA c.nx,iA c.wt]),(6,.box [iA r]),(7,.box [iA t]),(8,.box [iA 0]),(9,.box [iA (lsN j r t i)])]) (λi=>∀x∈(NB j r).take i,(!jF j.cf x t&&decide (xn≠ -1/\xn<=(x:Int)))=false) (T:=[(4,.ptr 4 0 0),(5,.ptr 5 0 0),(6,.ptr 6 0 0),(7,.ptr 7 0 0),(8,.ptr 8 0 0),(9,.ptr 9 0 0)]) Z zU (λi ys y hys hI F1 h1 h2=>?_) (λhI=>?_)
 ·rw[yAa,yAo]at h;obtain⟨x,_,rfl⟩:=h;rfl
 ·rw[yAa,yAo]at hys;obtain⟨x,hx,rfl⟩:=hys
  show vK _ F1 _ _ ⟨[(14,iA (x:Int)),(4,.ptr 4 0 0),(5,.ptr 5 0 0),(6,.ptr 6 0 0),(7,.ptr 7 0 0),(8,.ptr 8 0 0),(9,.ptr 9 0 0)],[(4,.box [zD wS j.ph,zD iA j.cf,iA j.st]),(5,.box [zD vE c.li,iA c.gr,zD iA c.nx,iA c.wt]),(6,.box [iA r]),(7,.box [iA t]),(8,.box [iA 0]),(9,.box [iA (lsN j r t i)])]⟩ _
  have hxn:=(eQ.1 (yBx hx)).1;have ck:=jJ j.cf hcf x t;have es:=zJe (t:=t) hx
  have next:(!jF j.cf x t&&decide (xn≠ -1/\xn<=(x:Int)))=false->∀z∈(NB j r).take (i+1),(!jF j.cf z t&&decide (xn≠ -1/\xn<=(z:Int)))=false:=λhb z hz=>by
   rcases UK hx hz with h|rfl
   ·exact hI z h
   ·exact hb
  have hit:(!jF j.cf x t&&decide (xn≠ -1/\xn<=(x:Int)))=true->cmF j xn r t=x:=λhb=>by
   unfold cmF;rw[QU _ i x hx hI hb]
  clear hI hx hxe;generalize jF j.cf x t=q at *;generalize lsN j r t (i+1)=l2 at *;generalize lsN j r t i=l1 at *;refine WW ?_;refine⟨rfl,λF2 g1 g2=>?_⟩
  cases q with
  |true=>
   rw[zZ8 Z]at es;have hnx:=next Z;subst es;refine zV ck ?_;exact⟨rfl,hnx⟩
  |false=>
  rw[zZ7 xG]at es;by_cases h3:xn= -1
  ·have hnx:=next (by rw[yAh (λh=>h.1 h3)];rfl);by_cases h4:l1= -1
   ·rw[zZ8 h4]at es;subst es;refine zV ck ?_;exact⟨rfl,hnx⟩
   ·rw[zZ7 h4]at es;subst es;refine zV ck ?_;exact⟨rfl,hnx⟩
  by_cases h5:xn<=(x:Int)
  ·rw[hit (by rw[yAe ⟨h3,h5⟩];rfl)];refine zV ck ?_;exact zJ
  ·have hnx:=next (by rw[yAh (λh=>h5 h.2)];rfl);by_cases h4:l1= -1
   ·rw[zZ8 h4]at es;subst es;refine zV ck ?_;exact⟨rfl,hnx⟩
   ·rw[zZ7 h4]at es;subst es;refine zV ck ?_;exact⟨rfl,hnx⟩
 ·rw[zZ9,yAf]at hI
  have hno:cmF j xn r t=lsN j r t (NB j r).length:=by
   unfold cmF lsN;rw[zCq hI,yAf];rfl
  rw[hno,zZ9];generalize lsN j r t (NB j r).length=l1 at *;refine WW ?_;exact zJ
def kQ {TT:List TI} {rs:List ResultVar} {h0:List (Nat×xN)} {r:AV} {h1:List (Nat×xN)} {st:St} {vs:List AV} (K:List Nat) (h:NZ TT st rs=some vs) (hK:(yO h0).all (K.contains ·)=true) (hr:wD K (zC st.h) (DQ vs)=r) (hh:wY K (zC st.h)=h1):
 Fin TT rs h0 r h1 .normal st:=⟨.inl Z,vs,K,h,hK,.inl hr.symm,by rw[hh]⟩
def enN (f0 f1:Int):Nat->List AV
 |0=>[iA 0,iA 0]
 |1=>[iA f0,iA 0]
 |_+2=>[iA f0,iA f1]
def zCr (j:Jn) (hn:j.ph.length<=1000) (g gr wt:Int) (L N:List AV) (nL nN:Nat):zN 186 [wJ j,.ptr 3000 0 0,iA g] [(3000,.box [.ref 1001 0 nL,iA gr,.ref 1002 0 nN,iA wt]),(1001,.arr 2 L false),(1002,.arr 1 N false)] (.tup [])
  [(3000,.box [.ref 1001 0 nL,iA g,.ref 2001 0 2,iA wt]),(1001,.arr 2 L false),(1002,.arr 1 N false),(2001,.arr 1 [iA (dZ j 0 g 0),iA (dZ j 1 g 0)] false)]:=by
 have c0:=YH j hn 0 g 0;have c1:=YH j hn 1 g 0;generalize dZ j 0 g 0=f0 at *;generalize dZ j 1 g 0=f1 at *;obtain⟨N2,hN2⟩:∃n:Nat,n=2:=⟨2,rfl⟩;refine eM call186 λF hF=>?_
 (repeat' (first|refine uL ?_|((first|apply xM|apply wA)<;>intro hc)|(refine zE ?_;first|(refine gB ?_;refine fZ 2001 tok Z Z Z Z Z Z Z Z Z Z Z Z Z zB zB Z Z Z ?_))|fail))
 refine zO (N2) [3000,2001,3,1001,1002] [3,1001,1002] [1,2,3] [20,19,1,2,3] Z (λi T U=>⟨(20,iA i)::(19,iA N2)::T,(3000,.box [.ref 1001 0 nL,iA g,.ref 2001 0 N2,iA wt])::(2001,.arr 1 (enN f0 f1 i) false)::U⟩) ?_;(conv=>whnf);refine⟨by(rw[hN2];rfl),?_,?_⟩
 ·intro i hi;have:i=0∨i=1:=by omega
  rcases this with rfl|rfl
  ·have hy:(enN f0 f1 0)[((0:Nat):Int).toNat]? =some (iA 0):=rfl;have hl:(enN f0 f1 0).length=2:=rfl;refine zV c0 ?_;rfl
  ·have hy:(enN f0 f1 1)[((1:Nat):Int).toNat]? =some (iA 0):=rfl;have hl:(enN f0 f1 1).length=2:=rfl;refine zV c1 ?_;rfl
 ·have e2:enN f0 f1 N2=[iA f0,iA f1]:=by rw[hN2];rfl
  rw[e2];refine WW ?_;subst hN2;exact kQ [3000,1001,1002,2001] Z Z Z Z
def dK (c:Ct) (kn:Nat):List (Nat×xN):=[(3000,.box [.ref 1001 0 (c.li.map vE).length,iA c.gr,.ref kn 0 (c.nx.map iA).length,iA c.wt]),(1001,.arr 2 (c.li.map vE) false),(kn,.arr 1 (c.nx.map iA) false)]
def JL (c:Ct) (o:List Int):List (Nat×xN):=[(3000,.box [.ref 1001 0 (c.li.map vE).length,iA c.gr,.ref 2001 0 (c.nx.map iA).length,iA c.wt]),(1001,.arr 2 (c.li.map vE) false),(1002,.arr 1 (o.map iA) false),(2001,.arr 1 (c.nx.map iA) false)]
theorem aR (j:Jn) (hn:j.ph.length<=1000) (hcf:j.cf.length<=40) (c:Ct) (hc:c.li.length=j.ph.length) (hm:c.nx.length=2) (p:Nat) (hp:p<j.ph.length) (hr:0<=(yM j p).ring/\(yM j p).ring<=1) (hg:ZR j c p=true∨c.gr=(yM j p).group):
  zN 290 [wJ j,.ptr 3000 0 0,iA (p:Int)] (dK c 1002) (.tup []) (dK (kR j c p) 1002):=by
 have hlp:=zA wS j.ph;have hll:=zA vE c.li;have hln:=zA iA c.nx;have hyp:=zM wS j.ph p hp
 change (j.ph.map wS)[p]? =some (wS (yM j p))at hyp
 have cf:=YH j hn (yM j p).ring (yM j p).group (p+1);unfold kR;by_cases hk:ZR j c p=true
 case pos=>
  rw[zZ8 hk];unfold ZR at hk;rw[yBo]at hk;obtain⟨q0,hq0,hk⟩:=hk;rw[yAt]at hq0;unfold dK;refine eM call290 λF hF=>?_
  refine WW ?_;refine xR (c.li.length) [3,3000,1001,1002] [3,3000,1001,1002] [1,2,3,12,13] [14,1,2,3,12,13] Z (λi T U zs=>(i<=q0)/\zs=⟨(14,iA i)::T,U⟩) ?_;(conv=>whnf);refine⟨?_,?_,?_⟩
  ·exact⟨yAp _,rfl⟩
  ·rintro i st hi ⟨hiq,rfl⟩;have hy:=zM vE c.li i hi
   change (c.li.map vE)[i]? =some (vE (xJ c i))at hy
   have ck:=jJ j.cf hcf p i;by_cases hb:((xJ c i).lamp != 0&&jF j.cf p i)=true
   ·rw[yAk]at hb;have h1:(xJ c i).lamp≠0:=by simpa using hb.1
    rw[hb.2]at ck;generalize xJ c i=t at *;clear hb cf hk;refine zV ck ?_;exact zL [3000,1001,1002] Z Z Z Z
   ·have hne:i<q0:=by
     rcases Nat.lt_or_ge i q0 with h|h
     ·exact h
     ·rw[show i=q0 by omega]at hb;exact absurd hk hb
    rw[yAk]at hb;by_cases h1:(xJ c i).lamp=0
    ·generalize xJ c i=t at *;clear hb hk;refine WW ?_;exact⟨zB,rfl⟩
    ·have hq:jF j.cf p i=false:=by
      cases hq:jF j.cf p i with
      |false=>rfl
      |true=>exact absurd ⟨by simpa using h1,hq⟩ hb
     rw[hq]at ck;generalize xJ c i=t at *;clear hb hk;refine zV ck ?_;exact⟨zB,rfl⟩
  ·rintro st ⟨hiq,rfl⟩;exfalso;omega
 have hkf:ZR j c p=false:=by simpa using hk
 have hg2:c.gr=(yM j p).group:=by
  rcases hg with hg|hg
  ·exact absurd hg hk
  ·exact hg
 rw[zZ7 hk];have eb:NN j c p=b1F c p:=by unfold NN;rw[zZ8 hg2]
 rw[eb];unfold ZR at hkf;rw[yCy]at hkf;have h0:∀q,q<c.li.length->((xJ c q).lamp != 0&&jF j.cf p q)=false:=λq hq=>by simpa using hkf q (yAt.2 hq)
 unfold b1F dK;dsimp only;rw[yB4,yB4,yBv,yBv];clear hkf hk eb hg;generalize dZ j (yM j p).ring (yM j p).group (p+1)=fo at *;obtain⟨rn,hrn⟩:∃n:Nat,(yM j p).ring=n:=⟨(yM j p).ring.toNat,zB⟩;have hyl:=zM vE c.li p zB;have hyr:=zM iA c.nx rn zB;generalize hx1:xJ c p=l0 at*
 change (c.li.map vE)[p]? =some (vE (xJ c p))at hyl
 rw[hx1]at hyl;generalize c.nx.getD rn default=n0 at *;refine eM call290 λF hF=>?_
 refine WW ?_;refine zO (c.li.length) [3,3000,1001,1002] [3,3000,1001,1002] [1,2,3,12,13] [14,1,2,3,12,13] Z (λi T U=>⟨(14,iA i)::T,U⟩) ?_;(conv=>whnf);refine⟨by rfl,?_,?_⟩
 ·intro i hi;have hy:=zM vE c.li i hi
  change (c.li.map vE)[i]? =some (vE (xJ c i))at hy
  have ck:=jJ j.cf hcf p i;have hb:=h0 i hi;clear h0 hyl hyr cf;by_cases h1:(xJ c i).lamp=0
  ·generalize xJ c i=t at *;clear hb;refine WW ?_;rfl
  ·have hq:jF j.cf p i=false:=by
    cases hq:jF j.cf p i with
    |false=>rfl
    |true=>
     rw[hq,yEj]at hb;exact absurd (by simpa using hb) h1
   rw[hq]at ck;generalize xJ c i=t at *;clear hb;refine zV ck ?_;rfl
 ·clear h0;generalize yM j p=t at *;rw[hrn,yAx];have et:wS t= .agg [iA rn,iA t.group,iA t.ming,iA t.maxg,iA t.yel,iA t.red,iA t.walk,iA t.clear]:=by rw[<-hrn];rfl
  rw[et]at hyp;rw[hrn]at cf;refine zV cf ?_;exact kQ [3000,1001,1002] Z Z Z Z
theorem RH (j:Jn) (hn:j.ph.length<=1000) (hcf:j.cf.length<=40) (c:Ct) (hc:c.li.length=j.ph.length) (hm:c.nx.length=2) (p:Nat) (hp:p<j.ph.length) (hr:0<=(yM j p).ring/\(yM j p).ring<=1) (hg:ZR j c p=true∨c.gr=(yM j p).group):
  zN 290 [wJ j,.ptr 3000 0 0,iA (p:Int)] (dK c 2001) (.tup []) (dK (kR j c p) 2001):=by
 have hlp:=zA wS j.ph;have hll:=zA vE c.li;have hln:=zA iA c.nx;have hyp:=zM wS j.ph p hp
 change (j.ph.map wS)[p]? =some (wS (yM j p))at hyp
 have cf:=YH j hn (yM j p).ring (yM j p).group (p+1);unfold kR;by_cases hk:ZR j c p=true
 case pos=>
  rw[zZ8 hk];unfold ZR at hk;rw[yBo]at hk;obtain⟨q0,hq0,hk⟩:=hk;rw[yAt]at hq0;unfold dK;refine eM call290 λF hF=>?_
  refine WW ?_;refine xR (c.li.length) [3,3000,1001,2001] [3,3000,1001,2001] [1,2,3,12,13] [14,1,2,3,12,13] Z (λi T U zs=>(i<=q0)/\zs=⟨(14,iA i)::T,U⟩) ?_;(conv=>whnf);refine⟨?_,?_,?_⟩
  ·exact⟨yAp _,rfl⟩
  ·rintro i st hi ⟨hiq,rfl⟩;have hy:=zM vE c.li i hi
   change (c.li.map vE)[i]? =some (vE (xJ c i))at hy
   have ck:=jJ j.cf hcf p i;by_cases hb:((xJ c i).lamp != 0&&jF j.cf p i)=true
   ·rw[yAk]at hb;have h1:(xJ c i).lamp≠0:=by simpa using hb.1
    rw[hb.2]at ck;generalize xJ c i=t at *;clear hb cf hk;refine zV ck ?_;exact zL [3000,1001,2001] Z Z Z Z
   ·have hne:i<q0:=by
     rcases Nat.lt_or_ge i q0 with h|h
     ·exact h
     ·rw[show i=q0 by omega]at hb;exact absurd hk hb
    rw[yAk]at hb;by_cases h1:(xJ c i).lamp=0
    ·generalize xJ c i=t at *;clear hb hk;refine WW ?_;exact⟨zB,rfl⟩
    ·have hq:jF j.cf p i=false:=by
      cases hq:jF j.cf p i with
      |false=>rfl
      |true=>exact absurd ⟨by simpa using h1,hq⟩ hb
     rw[hq]at ck;generalize xJ c i=t at *;clear hb hk;refine zV ck ?_;exact⟨zB,rfl⟩
  ·rintro st ⟨hiq,rfl⟩;exfalso;omega
 have hkf:ZR j c p=false:=by simpa using hk
 have hg2:c.gr=(yM j p).group:=by
  rcases hg with hg|hg
  ·exact absurd hg hk
  ·exact hg
 rw[zZ7 hk];have eb:NN j c p=b1F c p:=by unfold NN;rw[zZ8 hg2]
 rw[eb];unfold ZR at hkf;rw[yCy]at hkf;have h0:∀q,q<c.li.length->((xJ c q).lamp != 0&&jF j.cf p q)=false:=λq hq=>by simpa using hkf q (yAt.2 hq)
 unfold b1F dK;dsimp only;rw[yB4,yB4,yBv,yBv];clear hkf hk eb hg;generalize dZ j (yM j p).ring (yM j p).group (p+1)=fo at *;obtain⟨rn,hrn⟩:∃n:Nat,(yM j p).ring=n:=⟨(yM j p).ring.toNat,zB⟩;have hyl:=zM vE c.li p zB;have hyr:=zM iA c.nx rn zB;generalize hx1:xJ c p=l0 at*
 change (c.li.map vE)[p]? =some (vE (xJ c p))at hyl
 rw[hx1]at hyl;generalize c.nx.getD rn default=n0 at *;refine eM call290 λF hF=>?_
 refine WW ?_;refine zO (c.li.length) [3,3000,1001,2001] [3,3000,1001,2001] [1,2,3,12,13] [14,1,2,3,12,13] Z (λi T U=>⟨(14,iA i)::T,U⟩) ?_;(conv=>whnf);refine⟨by rfl,?_,?_⟩
 ·intro i hi;have hy:=zM vE c.li i hi
  change (c.li.map vE)[i]? =some (vE (xJ c i))at hy
  have ck:=jJ j.cf hcf p i;have hb:=h0 i hi;clear h0 hyl hyr cf;by_cases h1:(xJ c i).lamp=0
  ·generalize xJ c i=t at *;clear hb;refine WW ?_;rfl
  ·have hq:jF j.cf p i=false:=by
    cases hq:jF j.cf p i with
    |false=>rfl
    |true=>
     rw[hq,yEj]at hb;exact absurd (by simpa using hb) h1
   rw[hq]at ck;generalize xJ c i=t at *;clear hb;refine zV ck ?_;rfl
 ·clear h0;generalize yM j p=t at *;rw[hrn,yAx];have et:wS t= .agg [iA rn,iA t.group,iA t.ming,iA t.maxg,iA t.yel,iA t.red,iA t.walk,iA t.clear]:=by rw[<-hrn];rfl
  rw[et]at hyp;rw[hrn]at cf;refine zV cf ?_;exact kQ [3000,1001,2001] Z Z Z Z
theorem RI (j:Jn) (hn:j.ph.length<=1000) (hcf:j.cf.length<=40) (c:Ct) (hc:c.li.length=j.ph.length) (hm:c.nx.length=2) (p:Nat) (hp:p<j.ph.length) (hr:0<=(yM j p).ring/\(yM j p).ring<=1) (hkf:ZR j c p=false) (hg2:c.gr≠(yM j p).group):
  zN 290 [wJ j,.ptr 3000 0 0,iA (p:Int)] (dK c 1002) (.tup []) (JL (kR j c p) c.nx):=by
 have hlp:=zA wS j.ph;have hll:=zA vE c.li;have hln:=zA iA c.nx;have hyp:=zM wS j.ph p hp
 change (j.ph.map wS)[p]? =some (wS (yM j p))at hyp
 have cf:=YH j hn (yM j p).ring (yM j p).group (p+1);unfold kR;rw[zZ7 (by rw[hkf];decide)];have eb:NN j c p=BT j (b1F c p) (yM j p).group:=by unfold NN;rw[zZ7 hg2]
 rw[eb];unfold ZR at hkf;rw[yCy]at hkf;have h0:∀q,q<c.li.length->((xJ c q).lamp != 0&&jF j.cf p q)=false:=λq hq=>by simpa using hkf q (yAt.2 hq)
 have ce:=zCr j hn (yM j p).group c.gr c.wt ((c.li.map vE).set p (vE ⟨1,0⟩)) (c.nx.map iA) (c.li.map vE).length (c.nx.map iA).length;unfold BT b1F dK JL;dsimp only;rw[yB4,yB4,yBv,yBv];rw[show([dZ j 0 (yM j p).group 0,dZ j 1 (yM j p).group 0].map iA)=[iA (dZ j 0 (yM j p).group 0),iA (dZ j 1 (yM j p).group 0)]from Z];have hfx:(([iA (dZ j 0 (yM j p).group 0),iA (dZ j 1 (yM j p).group 0)]:List AV)).length=2:=rfl;rw[hfx]
 have hyf:∃v,([iA (dZ j 0 (yM j p).group 0),iA (dZ j 1 (yM j p).group 0)]:List AV)[(yM j p).ring.toNat]? =some (iA v):=by
  have:(yM j p).ring=0∨(yM j p).ring=1:=by omega
  rcases this with h|h<;>rw[h]
  ·exact⟨_,rfl⟩
  ·exact⟨_,rfl⟩
 obtain⟨v0,hyf⟩:=hyf;generalize ([iA (dZ j 0 (yM j p).group 0),iA (dZ j 1 (yM j p).group 0)]:List AV)=fx at *;clear hkf eb;generalize dZ j (yM j p).ring (yM j p).group (p+1)=fo at *;obtain⟨rn,hrn⟩:∃n:Nat,(yM j p).ring=n:=⟨(yM j p).ring.toNat,zB⟩;have hyl:=zM vE c.li p zB;rw[hrn,yAx]at hyf;generalize hx1:xJ c p=l0 at*
 change (c.li.map vE)[p]? =some (vE (xJ c p))at hyl
 rw[hx1]at hyl;refine eM call290 λF hF=>?_
 refine WW ?_;refine zO (c.li.length) [3,3000,1001,1002] [3,3000,1001,1002] [1,2,3,12,13] [14,1,2,3,12,13] Z (λi T U=>⟨(14,iA i)::T,U⟩) ?_;(conv=>whnf);refine⟨by rfl,?_,?_⟩
 ·intro i hi;have hy:=zM vE c.li i hi
  change (c.li.map vE)[i]? =some (vE (xJ c i))at hy
  have ck:=jJ j.cf hcf p i;have hb:=h0 i hi;clear h0 hyl cf ce;by_cases h1:(xJ c i).lamp=0
  ·generalize xJ c i=t at *;clear hb;refine WW ?_;rfl
  ·have hq:jF j.cf p i=false:=by
    cases hq:jF j.cf p i with
    |false=>rfl
    |true=>
     rw[hq,yEj]at hb;exact absurd (by simpa using hb) h1
   rw[hq]at ck;generalize xJ c i=t at *;clear hb;refine zV ck ?_;rfl
 ·clear h0;generalize yM j p=t at *;rw[hrn,yAx];have et:wS t= .agg [iA rn,iA t.group,iA t.ming,iA t.maxg,iA t.yel,iA t.red,iA t.walk,iA t.clear]:=by rw[<-hrn];rfl
  rw[et]at hyp;rw[hrn]at cf;refine yR (vH ce cf) ?_;exact kQ [3000,1001,1002,2001] Z Z Z Z
def ctT (c:Ct):AV:= .agg [.sl false ((c.li.map vE).take (c.li.map vE).length),iA c.gr,.sl false ((c.nx.map iA).take (c.nx.map iA).length),iA c.wt]
def bX (c:Ct):ctT c=ctA c:=by unfold ctT;rw[yAf,yAf];rfl
def YI (j:Jn) (hn:j.ph.length<=1000) (c:Ct) (hc:c.li.length=j.ph.length) (r:Int):zN 288 [wJ j,ctT c,iA r] [] (bA (GG j c r)) []:=by rw[bX];exact zUo j hn c hc r
def zAb (j:Jn) (hn:j.ph.length<=1000) (hcf:j.cf.length<=40) (c:Ct) (hm:c.nx.length=2) (r t:Int) (hr:0<=r/\r<2):zN 289 [wJ j,ctT c,iA r,iA t] [] (iA (cmF j (c.nx.getD r.toNat default) r t)) []:=by rw[bX];exact zUp j hn hcf c hm r t hr
def JM {j:Jn} (J:JV j) {c:Ct} {r:Int} {t:Nat} (ht:t<j.ph.length) (h:aS j c r t≠ -1):∃p:Nat,aS j c r t=p/\p<j.ph.length/\(yM j p).group=(yM j t).group:=by
 unfold aS at h⊢;split
 ·exact⟨t,rfl,ht,rfl⟩
 ·rename_i hr;rw[zZ7 hr]at h
  rcases QW j (c.nx.getD r.toNat default) r t with h1|⟨p,h1,h2,_,h4⟩
  ·exact absurd h1 h
  ·refine⟨p,h1,h2,?_⟩;by_cases hpt:p=t
   ·rw[hpt]
   ·exact yD7 λhg=>by
     have:=J.ap p t h2 ht hpt (.inr hg);rw[h4]at this;cases this
def gT (j:Jn) (c:Ct) (p:Nat):(ZR j c p=true/\kR j c p=c)∨(ZR j c p=false/\(kR j c p).gr=(yM j p).group):=by
 unfold kR;split
 ·rename_i h;exact .inl ⟨h,rfl⟩
 ·rename_i h;refine .inr ⟨by simpa using h,?_⟩;dsimp only;unfold NN;split
  ·rename_i h2;exact h2
  ·rfl
def BS (e:Bool) (c:Ct) (o:List Int):List (Nat×xN):=if e=true then JL c o else dK c 1002
def zUq {j:Jn} (J:JV j) {c:Ct} {r:Int} {t:Nat} (ht:t<j.ph.length):(jB j t c r).gr=c.gr∨(jB j t c r).gr=(yM j t).group:=by
 unfold jB;split
 ·split
  ·exact .inl Z
  ·rename_i h;obtain⟨p,hpe,hp,hpg⟩:=JM J (c:=c) (r:=r) ht h;rw[hpe,yAx]
   rcases gT j c p with h|h
   ·rw[h.2];exact .inl Z
   ·rw[h.2,hpg];exact .inr Z
 ·exact .inl Z
def zJf (e:Bool) (c:Ct) (o:List Int):vJ (BS e c o)=true:=by cases e<;>rfl
def zEn (j:Jn) (t:Nat) (e:Bool) (i:Int) (c:Ct) (o:List Int):St:=⟨[(8,iA i),(1,.ptr 3000 0 0),(2,iA t),(3,.ptr 3 0 0)],BS e c o++[(3,.box [zD wS j.ph,zD iA j.cf,iA j.st])]⟩
theorem zOw (j:Jn) (J:JV j) (c:Ct) (C:CV j c) (h0:c.wt=0) (t:Nat) (ht:t<j.ph.length):zN 257 [wJ j,.ptr 3000 0 0,iA (t:Int)] (dK c 1002) (.tup []) (BS (decide ((jB j t (jB j t c 0) 1).gr≠c.gr)) (jB j t (jB j t c 0) 1) (if(jB j t c 0).gr=c.gr then(jB j t c 0).nx else c.nx)):=by
 have hn:=J.n;have hn8:j.ph.length<=1000:=by omega
 have hjc:=J.c;have hlp:=zA wS j.ph;have hyt:=zM wS j.ph t ht
 change (j.ph.map wS)[t]? =some (wS (yM j t))at hyt
 have hc_c:=C.n;have hm_c:=C.m;obtain⟨C1,h01⟩:=MX J C h0 ht 0;have hc_c1:=C1.n;have hm_c1:=C1.m;have hgr1:=zUq J (c:=c) (r:=0) ht;have heq_c:c.gr=c.gr:=rfl;refine YZ tok func257 Z (λargs w=>call257 args w) Z Z (zJf _ _ _) (λF hF=>?_);refine WW ?_;refine ZH [3000,1001,1002,2001,3] [8,1,2,3] (zEn j t false 0 c c.nx) (zEn j t (decide ((jB j t c 0).gr≠c.gr)) 1 (jB j t c 0) c.nx) (zEn j t (decide ((jB j t (jB j t c 0) 1).gr≠c.gr)) 2 (jB j t (jB j t c 0) 1) (if(jB j t c 0).gr=c.gr then(jB j t c 0).nx else c.nx)) Z Z ?_ ?_ ?_
 ·unfold zEn;clear C1 hgr1 hc_c1 hm_c1 h01;rw[show BS false c c.nx=dK c 1002 from Z];unfold dK;have cd:=YI j hn8 c hc_c 0
  cases hd:GG j c 0 with
  |false=>
   rw[hd]at cd;rw[show jB j t c 0=c by unfold jB;rw[zZ7 (by rw[hd];decide)]];rw[show decide (c.gr≠c.gr)=false from yAh (λh=>h heq_c)];clear hd;refine zV cd ?_;rfl
  |true=>
  rw[hd]at cd
  have hsv:jB j t c 0=if aS j c 0 t= -1 then c else kR j c (aS j c 0 t).toNat:=by unfold jB;rw[zZ8 hd]
  by_cases hrt:0=(yM j t).ring
  ·
   have hP:aS j c 0 t=t:=by unfold aS;rw[zZ8 hrt]
   rw[hP]at hsv;rw[zZ7 zB,yAx]at hsv;by_cases hk:ZR j c t=true∨c.gr=(yM j t).group
   ·have cb:=aR j hn8 zB c hc_c hm_c t ht (J.rg t ht) hk
    have hg2:(kR j c t).gr=c.gr:=by
     rcases gT j c t with h|h
     ·exact(yA6 Ct.gr h.2).trans heq_c
     ·rcases hk with hk|hk
      ·rw[hk]at h;cases h.1
      ·exact h.2.trans (hk.symm.trans heq_c)
    rw[hsv,show decide ((kR j c t).gr≠c.gr)=false from yAh (λh=>h hg2)];generalize kR j c t=b at *;clear hd hsv hg2 hk;unfold dK at cb;refine yR (vH cd cb) ?_;rfl
   ·have hk1:ZR j c t=false:=by
     cases h:ZR j c t with
     |false=>rfl
     |true=>exact absurd (.inl h) hk
    have hk2:c.gr≠(yM j t).group:=λh=>hk (.inr h)
    have cb:=RI j hn8 zB c hc_c hm_c t ht (J.rg t ht) hk1 hk2
    have hg2:(kR j c t).gr≠c.gr:=by
     rcases gT j c t with h|h
     ·rw[hk1]at h;cases h.1
     ·rw[h.2,<-heq_c];exact λh=>hk2 h.symm
    rw[hsv,show decide ((kR j c t).gr≠c.gr)=true from yAe hg2];generalize kR j c t=b at *;clear hd hsv hg2 hk hk1 hk2;unfold dK JL at cb;refine yR (vH cd cb) ?_;rfl
  ·
   have cm:=zAb j hn8 zB c hm_c 0 t zB;have hP:aS j c 0 t=cmF j (c.nx.getD (0:Int).toNat default) 0 t:=by unfold aS;rw[zZ7 hrt]
   rw[<-hP]at cm;by_cases hm1:aS j c 0 t= -1
   ·rw[zZ8 hm1]at hsv;rw[hsv];rw[show decide (c.gr≠c.gr)=false from yAh (λh=>h heq_c)];generalize aS j c 0 t=pp at *;clear hP hd hsv;refine yR (vH cd cm) ?_;rfl
   obtain⟨p,hpe,hp,hpg⟩:=JM J (c:=c) (r:=0) ht hm1;rw[zZ7 hm1,hpe,yAx]at hsv;rw[hpe]at cm;clear hP hm1 hpe;by_cases hk:ZR j c p=true∨c.gr=(yM j p).group
   ·have cb:=aR j hn8 zB c hc_c hm_c p hp (J.rg p hp) hk
    have hg2:(kR j c p).gr=c.gr:=by
     rcases gT j c p with h|h
     ·exact(yA6 Ct.gr h.2).trans heq_c
     ·rcases hk with hk|hk
      ·rw[hk]at h;cases h.1
      ·exact h.2.trans (hk.symm.trans heq_c)
    rw[hsv,show decide ((kR j c p).gr≠c.gr)=false from yAh (λh=>h hg2)];generalize kR j c p=b at *;clear hd hsv hg2 hk;unfold dK at cb;refine yR (gK cd cm cb) ?_;rfl
   ·have hk1:ZR j c p=false:=by
     cases h:ZR j c p with
     |false=>rfl
     |true=>exact absurd (.inl h) hk
    have hk2:c.gr≠(yM j p).group:=λh=>hk (.inr h)
    have cb:=RI j hn8 zB c hc_c hm_c p hp (J.rg p hp) hk1 hk2
    have hg2:(kR j c p).gr≠c.gr:=by
     rcases gT j c p with h|h
     ·rw[hk1]at h;cases h.1
     ·rw[h.2,<-heq_c];exact λh=>hk2 h.symm
    rw[hsv,show decide ((kR j c p).gr≠c.gr)=true from yAe hg2];generalize kR j c p=b at *;clear hd hsv hg2 hk hk1 hk2;unfold dK JL at cb;refine yR (gK cd cm cb) ?_;rfl
 ·clear hc_c hm_c heq_c;have he1:=hgr1;generalize jB j t c 0=c1 at *;unfold zEn;by_cases heq_c1:c1.gr=c.gr
  ·rw [zZ8 heq_c1,yAh (λh=>h heq_c1)];rw[show BS false c1 c.nx=dK c1 1002 from Z];unfold dK;have cd:=YI j hn8 c1 hc_c1 1
   cases hd:GG j c1 1 with
   |false=>
    rw[hd]at cd;rw[show jB j t c1 1=c1 by unfold jB;rw[zZ7 (by rw[hd];decide)]];rw[show decide (c1.gr≠c.gr)=false from yAh (λh=>h heq_c1)];clear hd;refine zV cd ?_;rfl
   |true=>
   rw[hd]at cd
   have hsv:jB j t c1 1=if aS j c1 1 t= -1 then c1 else kR j c1 (aS j c1 1 t).toNat:=by unfold jB;rw[zZ8 hd]
   by_cases hrt:1=(yM j t).ring
   ·
    have hP:aS j c1 1 t=t:=by unfold aS;rw[zZ8 hrt]
    rw[hP]at hsv;rw[zZ7 zB,yAx]at hsv;by_cases hk:ZR j c1 t=true∨c1.gr=(yM j t).group
    ·have cb:=aR j hn8 zB c1 hc_c1 hm_c1 t ht (J.rg t ht) hk
     have hg2:(kR j c1 t).gr=c.gr:=by
      rcases gT j c1 t with h|h
      ·exact(yA6 Ct.gr h.2).trans heq_c1
      ·rcases hk with hk|hk
       ·rw[hk]at h;cases h.1
       ·exact h.2.trans (hk.symm.trans heq_c1)
     rw[hsv,show decide ((kR j c1 t).gr≠c.gr)=false from yAh (λh=>h hg2)];generalize kR j c1 t=b at *;clear hd hsv hg2 hk;unfold dK at cb;refine yR (vH cd cb) ?_;rfl
    ·have hk1:ZR j c1 t=false:=by
      cases h:ZR j c1 t with
      |false=>rfl
      |true=>exact absurd (.inl h) hk
     have hk2:c1.gr≠(yM j t).group:=λh=>hk (.inr h)
     have cb:=RI j hn8 zB c1 hc_c1 hm_c1 t ht (J.rg t ht) hk1 hk2
     have hg2:(kR j c1 t).gr≠c.gr:=by
      rcases gT j c1 t with h|h
      ·rw[hk1]at h;cases h.1
      ·rw[h.2,<-heq_c1];exact λh=>hk2 h.symm
     rw[hsv,show decide ((kR j c1 t).gr≠c.gr)=true from yAe hg2];generalize kR j c1 t=b at *;clear hd hsv hg2 hk hk1 hk2;unfold dK JL at cb;refine yR (vH cd cb) ?_;rfl
   ·
    have cm:=zAb j hn8 zB c1 hm_c1 1 t zB;have hP:aS j c1 1 t=cmF j (c1.nx.getD (1:Int).toNat default) 1 t:=by unfold aS;rw[zZ7 hrt]
    rw[<-hP]at cm;by_cases hm1:aS j c1 1 t= -1
    ·rw[zZ8 hm1]at hsv;rw[hsv];rw[show decide (c1.gr≠c.gr)=false from yAh (λh=>h heq_c1)];generalize aS j c1 1 t=pp at *;clear hP hd hsv;refine yR (vH cd cm) ?_;rfl
    obtain⟨p,hpe,hp,hpg⟩:=JM J (c:=c1) (r:=1) ht hm1;rw[zZ7 hm1,hpe,yAx]at hsv;rw[hpe]at cm;clear hP hm1 hpe;by_cases hk:ZR j c1 p=true∨c1.gr=(yM j p).group
    ·have cb:=aR j hn8 zB c1 hc_c1 hm_c1 p hp (J.rg p hp) hk
     have hg2:(kR j c1 p).gr=c.gr:=by
      rcases gT j c1 p with h|h
      ·exact(yA6 Ct.gr h.2).trans heq_c1
      ·rcases hk with hk|hk
       ·rw[hk]at h;cases h.1
       ·exact h.2.trans (hk.symm.trans heq_c1)
     rw[hsv,show decide ((kR j c1 p).gr≠c.gr)=false from yAh (λh=>h hg2)];generalize kR j c1 p=b at *;clear hd hsv hg2 hk;unfold dK at cb;refine yR (gK cd cm cb) ?_;rfl
    ·have hk1:ZR j c1 p=false:=by
      cases h:ZR j c1 p with
      |false=>rfl
      |true=>exact absurd (.inl h) hk
     have hk2:c1.gr≠(yM j p).group:=λh=>hk (.inr h)
     have cb:=RI j hn8 zB c1 hc_c1 hm_c1 p hp (J.rg p hp) hk1 hk2
     have hg2:(kR j c1 p).gr≠c.gr:=by
      rcases gT j c1 p with h|h
      ·rw[hk1]at h;cases h.1
      ·rw[h.2,<-heq_c1];exact λh=>hk2 h.symm
     rw[hsv,show decide ((kR j c1 p).gr≠c.gr)=true from yAe hg2];generalize kR j c1 p=b at *;clear hd hsv hg2 hk hk1 hk2;unfold dK JL at cb;refine yR (gK cd cm cb) ?_;rfl
  ·have hne_c1:c1.gr≠c.gr:=heq_c1
   have hgt_c1:c1.gr=(yM j t).group:=by
    rcases he1 with h|h
    ·exact absurd h hne_c1
    ·exact h
   rw[zZ7 heq_c1,yAe hne_c1];rw[show BS true c1 c.nx=JL c1 c.nx from Z];unfold JL;have cd:=YI j hn8 c1 hc_c1 1
   cases hd:GG j c1 1 with
   |false=>
    rw[hd]at cd;rw[show jB j t c1 1=c1 by unfold jB;rw[zZ7 (by rw[hd];decide)]];rw[show decide (c1.gr≠c.gr)=true from yAe hne_c1];clear hd;refine zV cd ?_;rfl
   |true=>
   rw[hd]at cd
   have hsv:jB j t c1 1=if aS j c1 1 t= -1 then c1 else kR j c1 (aS j c1 1 t).toNat:=by unfold jB;rw[zZ8 hd]
   by_cases hrt:1=(yM j t).ring
   ·
    have hP:aS j c1 1 t=t:=by unfold aS;rw[zZ8 hrt]
    rw[hP]at hsv;rw[zZ7 zB,yAx]at hsv;have cb:=RH j hn8 zB c1 hc_c1 hm_c1 t ht (J.rg t ht) (.inr (hgt_c1.trans (rfl:(yM j t).group=(yM j t).group).symm))
    have hg2:(kR j c1 t).gr≠c.gr:=by
     rcases gT j c1 t with h|h
     ·rw[h.2];exact hne_c1
     ·rw[h.2,(rfl:(yM j t).group=(yM j t).group),<-hgt_c1];exact hne_c1
    rw[hsv,show decide ((kR j c1 t).gr≠c.gr)=true from yAe hg2];generalize kR j c1 t=b at *;clear hd hsv hg2;unfold dK at cb;refine yR (vH cd cb) ?_;rfl
   ·
    have cm:=zAb j hn8 zB c1 hm_c1 1 t zB;have hP:aS j c1 1 t=cmF j (c1.nx.getD (1:Int).toNat default) 1 t:=by unfold aS;rw[zZ7 hrt]
    rw[<-hP]at cm;by_cases hm1:aS j c1 1 t= -1
    ·rw[zZ8 hm1]at hsv;rw[hsv];rw[show decide (c1.gr≠c.gr)=true from yAe hne_c1];generalize aS j c1 1 t=pp at *;clear hP hd hsv;refine yR (vH cd cm) ?_;rfl
    obtain⟨p,hpe,hp,hpg⟩:=JM J (c:=c1) (r:=1) ht hm1;rw[zZ7 hm1,hpe,yAx]at hsv;rw[hpe]at cm;clear hP hm1 hpe;have cb:=RH j hn8 zB c1 hc_c1 hm_c1 p hp (J.rg p hp) (.inr (hgt_c1.trans (hpg:(yM j p).group=(yM j t).group).symm))
    have hg2:(kR j c1 p).gr≠c.gr:=by
     rcases gT j c1 p with h|h
     ·rw[h.2];exact hne_c1
     ·rw[h.2,(hpg:(yM j p).group=(yM j t).group),<-hgt_c1];exact hne_c1
    rw[hsv,show decide ((kR j c1 p).gr≠c.gr)=true from yAe hg2];generalize kR j c1 p=b at *;clear hd hsv hg2;unfold dK at cb;refine yR (gK cd cm cb) ?_;rfl
 ·generalize (if(jB j t c 0).gr=c.gr then(jB j t c 0).nx else c.nx)=o at *;generalize jB j t (jB j t c 0) 1=c2 at *;unfold zEn;by_cases he:c2.gr=c.gr
  ·rw[yAh (λh=>h he)];refine WW ?_;exact kQ [3000,1001,1002] Z Z Z Z
  ·rw[yAe he];refine WW ?_;exact kQ [3000,1001,1002,2001] Z Z Z Z
def zJg (c:Ct) (hn:c.li.length<=1000):zN 287 [ctT c] [] (bA (arF c)) []:=by rw[bX];exact EL c hn
def ovN (c:Ct) (i:Nat):Bool:=arF c&&(c.nx.take i).all λp=>p== -1
def zJh (c:Ct) (i:Nat) (hi:i<c.nx.length):ovN c (i+1)=(ovN c i&&(c.nx.getD i default== -1)):=by
 unfold ovN;rw[<-yEf hi,List.all_append];simp[List.getD,hi,Bool.and_assoc]
def SE (j:Jn) (e:Bool) (i:Int) (c:Ct) (o:List Int):St:=⟨[(36,iA i),(1,.ptr 3000 0 0),(2,.ptr 2 0 0)],BS e c o++[(2,.box [zD wS j.ph,zD iA j.cf,iA j.st])]⟩
theorem zOx (j:Jn) (J:JV j) (c:Ct) (C:CV j c) (h0:c.wt=0):zN 258 [wJ j,.ptr 3000 0 0] (dK c 1002) (.tup []) (BS (cyO c) (cyF j c) c.nx):=by
 have hn:=J.n;have hn8:j.ph.length<=1000:=by omega
 have hjc:=J.c;have hlp:=zA wS j.ph;have hll:=zA vE c.li;have hln:=zA iA c.nx;have hcn:=C.n;have hcm:=C.m;have ca:=zJg c zB;have cg:=EK j hn8 J.gp;have hgp:=RJ J
 have hgl:ZQ j<=4:=by
  have:∀n,n<=j.ph.length->grN j.ph n<=4:=λn=>by
   induction n with
   |zero=>intro _;show(0:Int)<=4;omega
   |succ n ih=>
    intro h;have h1:=ih zB;have h2:=J.gp n zB;unfold yM at h2;unfold grN;omega
  exact this _ (yAb _)
 have hcg:=C.g;have htm:(c.gr+1).tmod (ZQ j)=(c.gr+1) % ZQ j:=yBw zB;have hO:ovN c c.nx.length=cyO c:=by unfold ovN cyO;rw[yAf]
 refine YZ tok func258 Z (λargs w=>call258 args w) Z Z (zJf _ _ _) (λF hF=>?_);unfold dK;have ho0:ovN c 0=arF c:=by unfold ovN;simp
 rw[<-ho0]at ca;refine zV ca ?_;refine zO (c.nx.length) [2,3000,1001,1002] [2,3000,1001,1002] [1,2,15,16] [4,17,1,2,15,16] Z (λi T U=>⟨(4,bA (ovN c i))::(17,iA i)::T,U⟩) ?_;(conv=>whnf);refine⟨by rfl,?_,?_⟩
 ·intro i hi;have hy:=zM iA c.nx i hi;have es:=zJh c i hi;rw[es];generalize ovN c i=o at *;generalize c.nx.getD i default=x at *;by_cases hx:x= -1
  ·rw[show(x== -1)=true by rw[yBf];exact hx,yEj];clear ca cg;refine WW ?_;rfl
  ·rw[show(x== -1)=false by rw[yBg];exact hx,yDp];clear ca cg;refine WW ?_;rfl
 ·rw [hO];clear hO ho0 ca
  cases hco:cyO c with
  | true=>
   have hcy:cyF j c=eO j (eO j (BT j c ((c.gr+1) % ZQ j)) 0) 1:=by unfold cyF;rw[zZ8 hco]
   rw[hcy];have hgm:0<=(c.gr+1) % ZQ j/\(c.gr+1) % ZQ j<ZQ j:=⟨yEl _ zB,yD2 _ zB⟩;have C_c0:=zCt C hgm;have hw0:(BT j c ((c.gr+1) % ZQ j)).wt=0:=h0;have ce:=zCr j hn8 ((c.gr+1) % ZQ j) c.gr c.wt (c.li.map vE) (c.nx.map iA) (c.li.map vE).length (c.nx.map iA).length;rw[show([(3000,.box [.ref 1001 0 (c.li.map vE).length,iA ((c.gr+1) % ZQ j),.ref 2001 0 2,iA c.wt]),(1001,.arr 2 (c.li.map vE) false),(1002,.arr 1 (c.nx.map iA) false),(2001,.arr 1 [iA (dZ j 0 ((c.gr+1) % ZQ j) 0),iA (dZ j 1 ((c.gr+1) % ZQ j) 0)] false)]:List (Nat×xN))=JL (BT j c ((c.gr+1) % ZQ j)) c.nx from Z]at ce;rw[<-htm]at ce;rw[htm]at ce;generalize hc0:BT j c ((c.gr+1) % ZQ j)=c0 at *;rw[<-htm]at ce;have hne:¬ZQ j=0:=by omega
   generalize ZQ j=gm at *;have hc_c0:=C_c0.n;have hm_c0:=C_c0.m;obtain⟨C_c1,h01⟩:=QX J C_c0 hw0 (r:=0) zB;have hc_c1:=C_c1.n;have hm_c1:=C_c1.m
   change CV j (eO j c0 0)at C_c1
   change (eO j c0 0).li.length=j.ph.length at hc_c1
   change (eO j c0 0).nx.length=2 at hm_c1
   clear hcy hc0 C;unfold JL at ce;refine yR (vH cg ce) ?_;refine ZH [3000,1001,1002,2001,2] [36,1,2] (SE j true 0 c0 c.nx) (SE j true 1 (eO j c0 0) c.nx) (SE j true 2 (eO j (eO j c0 0) 1) c.nx) Z Z ?_ ?_ ?_
   ·unfold SE;rw[show BS true c0 c.nx=JL c0 c.nx from Z];unfold JL;have cd:=YI j hn8 c0 hc_c0 0;have hyn:=zM iA c0.nx 0 zB;have hv:=C_c0.v 0 zB;have hnl:(c0.nx.map iA).length=2:=by rw[zZ9];exact hm_c0
    cases hd:GG j c0 0 with
    |false=>
     rw[hd]at cd;rw[show eO j c0 0=c0 by unfold eO;rw[zZ7 (by rw[hd];simp)]];clear hd;refine zV cd ?_;rfl
    |true=>
    rw[hd]at cd
    have hsv:eO j c0 0=if c0.nx.getD 0 default= -1 then c0 else kR j c0 (c0.nx.getD 0 default).toNat:=by
     unfold eO;rw[hd]
     show(if true=true/\c0.nx.getD 0 default≠ -1 then kR j c0 (c0.nx.getD 0 default).toNat else c0)=_
     by_cases h:c0.nx.getD 0 default= -1
     ·rw[zZ8 h,zZ7 (λk=>k.2 h)]
     ·rw[zZ7 h,zZ8 ⟨rfl,h⟩]
    clear hd;by_cases hm1:c0.nx.getD 0 default= -1
    ·rw[zZ8 hm1]at hsv;rw[hsv];clear hsv hv;generalize c0.nx.getD 0 default=x at *;refine zV cd ?_;rfl
    ·rw[zZ7 hm1]at hsv
     have hin:InO j (0:Nat) c0.gr (c0.nx.getD 0 default):=by
      rcases hv with h|h
      ·exact absurd h hm1
      ·exact h
     obtain⟨i1,i2,i3,i4⟩:=hin;obtain⟨p,hpe⟩:∃p:Nat,c0.nx.getD 0 default=p:=⟨(c0.nx.getD 0 default).toNat,zB⟩;rw[hpe]at hsv hyn hm1 i2 i4;rw[yAx]at hsv i4;have hp:p<j.ph.length:=by omega
     have cb:=RH j hn8 zB c0 hc_c0 hm_c0 p hp (J.rg p hp) (.inr i4.symm);rw[hsv];clear hsv hv i1 i2 i3 i4 hpe;generalize kR j c0 p=b at *;unfold dK at cb;refine yR (vH cd cb) ?_;rfl
   ·generalize eO j c0 0=c1 at *;unfold SE;rw[show BS true c1 c.nx=JL c1 c.nx from Z];unfold JL;have cd:=YI j hn8 c1 hc_c1 1;have hyn:=zM iA c1.nx 1 zB;have hv:=C_c1.v 1 zB;have hnl:(c1.nx.map iA).length=2:=by rw[zZ9];exact hm_c1
    cases hd:GG j c1 1 with
    |false=>
     rw[hd]at cd;rw[show eO j c1 1=c1 by unfold eO;rw[zZ7 (by rw[hd];simp)]];clear hd;refine zV cd ?_;rfl
    |true=>
    rw[hd]at cd
    have hsv:eO j c1 1=if c1.nx.getD 1 default= -1 then c1 else kR j c1 (c1.nx.getD 1 default).toNat:=by
     unfold eO;rw[hd]
     show(if true=true/\c1.nx.getD 1 default≠ -1 then kR j c1 (c1.nx.getD 1 default).toNat else c1)=_
     by_cases h:c1.nx.getD 1 default= -1
     ·rw[zZ8 h,zZ7 (λk=>k.2 h)]
     ·rw[zZ7 h,zZ8 ⟨rfl,h⟩]
    clear hd;by_cases hm1:c1.nx.getD 1 default= -1
    ·rw[zZ8 hm1]at hsv;rw[hsv];clear hsv hv;generalize c1.nx.getD 1 default=x at *;refine zV cd ?_;rfl
    ·rw[zZ7 hm1]at hsv
     have hin:InO j (1:Nat) c1.gr (c1.nx.getD 1 default):=by
      rcases hv with h|h
      ·exact absurd h hm1
      ·exact h
     obtain⟨i1,i2,i3,i4⟩:=hin;obtain⟨p,hpe⟩:∃p:Nat,c1.nx.getD 1 default=p:=⟨(c1.nx.getD 1 default).toNat,zB⟩;rw[hpe]at hsv hyn hm1 i2 i4;rw[yAx]at hsv i4;have hp:p<j.ph.length:=by omega
     have cb:=RH j hn8 zB c1 hc_c1 hm_c1 p hp (J.rg p hp) (.inr i4.symm);rw[hsv];clear hsv hv i1 i2 i3 i4 hpe;generalize kR j c1 p=b at *;unfold dK at cb;refine yR (vH cd cb) ?_;rfl
   ·generalize eO j (eO j c0 0) 1=c2 at *;unfold SE;refine WW ?_;exact kQ [3000,1001,1002,2001] Z Z Z Z
  | false=>
   have hcy:cyF j c=eO j (eO j c 0) 1:=by unfold cyF;rw[zZ7 (by rw[hco];decide)]
   rw[hcy];clear cg htm hcy hgp hgl hcg;have C_c:=C;have hc_c:=hcn;have hm_c:=hcm;obtain⟨C_c1,h01⟩:=QX J C h0 (r:=0) zB;have hc_c1:=C_c1.n;have hm_c1:=C_c1.m
   change CV j (eO j c 0)at C_c1
   change (eO j c 0).li.length=j.ph.length at hc_c1
   change (eO j c 0).nx.length=2 at hm_c1
   refine WW ?_;clear hco;refine ZH [3000,1001,1002,2001,2] [36,1,2] (SE j false 0 c c.nx) (SE j false 1 (eO j c 0) c.nx) (SE j false 2 (eO j (eO j c 0) 1) c.nx) Z Z ?_ ?_ ?_
   ·unfold SE;rw[show BS false c c.nx=dK c 1002 from Z];unfold dK;have cd:=YI j hn8 c hc_c 0;have hyn:=zM iA c.nx 0 zB;have hv:=C_c.v 0 zB;have hnl:(c.nx.map iA).length=2:=by rw[zZ9];exact hm_c
    cases hd:GG j c 0 with
    |false=>
     rw[hd]at cd;rw[show eO j c 0=c by unfold eO;rw[zZ7 (by rw[hd];simp)]];clear hd;refine zV cd ?_;rfl
    |true=>
    rw[hd]at cd
    have hsv:eO j c 0=if c.nx.getD 0 default= -1 then c else kR j c (c.nx.getD 0 default).toNat:=by
     unfold eO;rw[hd]
     show(if true=true/\c.nx.getD 0 default≠ -1 then kR j c (c.nx.getD 0 default).toNat else c)=_
     by_cases h:c.nx.getD 0 default= -1
     ·rw[zZ8 h,zZ7 (λk=>k.2 h)]
     ·rw[zZ7 h,zZ8 ⟨rfl,h⟩]
    clear hd;by_cases hm1:c.nx.getD 0 default= -1
    ·rw[zZ8 hm1]at hsv;rw[hsv];clear hsv hv;generalize c.nx.getD 0 default=x at *;refine zV cd ?_;rfl
    ·rw[zZ7 hm1]at hsv
     have hin:InO j (0:Nat) c.gr (c.nx.getD 0 default):=by
      rcases hv with h|h
      ·exact absurd h hm1
      ·exact h
     obtain⟨i1,i2,i3,i4⟩:=hin;obtain⟨p,hpe⟩:∃p:Nat,c.nx.getD 0 default=p:=⟨(c.nx.getD 0 default).toNat,zB⟩;rw[hpe]at hsv hyn hm1 i2 i4;rw[yAx]at hsv i4;have hp:p<j.ph.length:=by omega
     have cb:=aR j hn8 zB c hc_c hm_c p hp (J.rg p hp) (.inr i4.symm);rw[hsv];clear hsv hv i1 i2 i3 i4 hpe;generalize kR j c p=b at *;unfold dK at cb;refine yR (vH cd cb) ?_;rfl
   ·generalize eO j c 0=c1 at *;unfold SE;rw[show BS false c1 c.nx=dK c1 1002 from Z];unfold dK;have cd:=YI j hn8 c1 hc_c1 1;have hyn:=zM iA c1.nx 1 zB;have hv:=C_c1.v 1 zB;have hnl:(c1.nx.map iA).length=2:=by rw[zZ9];exact hm_c1
    cases hd:GG j c1 1 with
    |false=>
     rw[hd]at cd;rw[show eO j c1 1=c1 by unfold eO;rw[zZ7 (by rw[hd];simp)]];clear hd;refine zV cd ?_;rfl
    |true=>
    rw[hd]at cd
    have hsv:eO j c1 1=if c1.nx.getD 1 default= -1 then c1 else kR j c1 (c1.nx.getD 1 default).toNat:=by
     unfold eO;rw[hd]
     show(if true=true/\c1.nx.getD 1 default≠ -1 then kR j c1 (c1.nx.getD 1 default).toNat else c1)=_
     by_cases h:c1.nx.getD 1 default= -1
     ·rw[zZ8 h,zZ7 (λk=>k.2 h)]
     ·rw[zZ7 h,zZ8 ⟨rfl,h⟩]
    clear hd;by_cases hm1:c1.nx.getD 1 default= -1
    ·rw[zZ8 hm1]at hsv;rw[hsv];clear hsv hv;generalize c1.nx.getD 1 default=x at *;refine zV cd ?_;rfl
    ·rw[zZ7 hm1]at hsv
     have hin:InO j (1:Nat) c1.gr (c1.nx.getD 1 default):=by
      rcases hv with h|h
      ·exact absurd h hm1
      ·exact h
     obtain⟨i1,i2,i3,i4⟩:=hin;obtain⟨p,hpe⟩:∃p:Nat,c1.nx.getD 1 default=p:=⟨(c1.nx.getD 1 default).toNat,zB⟩;rw[hpe]at hsv hyn hm1 i2 i4;rw[yAx]at hsv i4;have hp:p<j.ph.length:=by omega
     have cb:=aR j hn8 zB c1 hc_c1 hm_c1 p hp (J.rg p hp) (.inr i4.symm);rw[hsv];clear hsv hv i1 i2 i3 i4 hpe;generalize kR j c1 p=b at *;unfold dK at cb;refine yR (vH cd cb) ?_;rfl
   ·generalize eO j (eO j c 0) 1=c2 at *;unfold SE;refine WW ?_;exact kQ [3000,1001,1002] Z Z Z Z
end Av
end Go.Proofs.YteajjdidebfcjaaGreat
