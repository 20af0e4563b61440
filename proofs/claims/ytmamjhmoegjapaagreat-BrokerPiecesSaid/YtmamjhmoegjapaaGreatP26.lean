/- Part 26. -/
import Derived.Test.YtmamjhmoegjapaaGreatP25
import Derived.Test.YtmamjhmoegjapaaGreatP18
import Derived.Test.YtmamjhmoegjapaaGreatP16
import Derived.Test.YtmamjhmoegjapaaGreatP12
import Derived.Test.YtmamjhmoegjapaaGreatP20
import Derived.Test.YtmamjhmoegjapaaGreatP08
namespace Go.Proofs.YtmamjhmoegjapaaGreat
namespace Av
open Tryz
set_option linter.unusedSimpArgs false
set_option linter.unusedVariables false
set_option maxRecDepth 4000
set_option maxHeartbeats 1000000
def nrB (a:Int):Bool:=decide (a=1∨a=2)
theorem aX (a:Int):zN 230 [iA a] [] (bA (nrB a)) []:=by
 unfold nrB
 (cases hb:decide (a=1∨a=2)with|false=>((refine eM call230 λF hF=>?_);((refine WW (I2 (λhc=>?_) (λhc=>?_))));all_goals (first|exact zJ|(simp only[nrB,zYn]at hb;first|exact zXO|exact BK)))|true=>(simp only[nrB,zX9]at hb;(refine eM call230 λF hF=>?_);((refine WW (I2 (λhc=>?_) (λhc=>?_))));all_goals (first|exact zJ|exact zXO|exact BK)))
def snF (li:List Li) (k:Int) (p:Nat):Int:=if(p:Int)=k then 1 else(li.getD p default).lamp
def YV (li:List Li) (k:Int):List Int:=(List.range li.length).map (snF li k)
theorem zGg (li:List Li) (k:Int):(YV li k).length=li.length:=by simp[YV]
theorem zGh (f:Nat->Int) (n i:Nat) (h:i<n) (x:Int) (hx:x=f i):(((List.range i).map f++List.replicate (n-i) 0).map iA).set i (iA x)=((List.range (i+1)).map f++List.replicate (n-(i+1)) 0).map iA:=by
 subst hx;rw[<-zZ9,show n-i=(n-(i+1))+1 by omega,yBl,yA0 _ _ zS,zX2,zZk,yAe,yB8,yAh];simp
theorem FI (f:Nat->Int) (n i:Nat) (h:i<=n):(((List.range i).map f++List.replicate (n-i) 0).map iA).length=n:=by
 simp;omega
theorem zL6 (f:Nat->Int) (n i:Nat) (h:i<n):(((List.range i).map f++List.replicate (n-i) 0).map iA)[i]? =some (iA 0):=by
 simp[show 0<n-i by omega]
theorem zRt (li:List Li) (hn:li.length<=1000) (k:Int):zN 198 [zD vF li,iA k] [] (zD iA (YV li k)) []:=by
 have hl:=zA vF li;have e0:List.replicate li.length (AV.s (.int .i64 0))=((List.range 0).map (snF li k)++List.replicate (li.length-0) 0).map iA:=by simp[iA]
 obtain⟨n,hnn⟩:∃n,li.length=n:=⟨_,rfl⟩;refine eM call198 λF hF=>?_
 refine WW ?_;refine zP (li.length) [10] [] [1,5,11,12] [13,1,5,11,12] rfl (λi T U=>⟨(13,iA i)::T,(10,.arr 1 (((List.range i).map (snF li k)++List.replicate (li.length-i) 0).map iA) false)::U⟩) ?_;(conv=>whnf);refine⟨by(rw[<-e0,<-hl];rfl),?_,?_⟩
 ·intro i hi;have hy:=zM vF li i hi;have hfl:=FI (snF li k) li.length i zB;have hfa:=zL6 (snF li k) li.length i hi;have hs:=zGh (snF li k) li.length i hi (snF li k i) rfl
  have hsd:snF li k i=if(i:Int)=k then 1 else(li.getD i default).lamp:=rfl
  generalize ((List.range i).map (snF li k)++List.replicate (li.length-i) 0).map iA=xs at *;generalize ((List.range (i+1)).map (snF li k)++List.replicate (li.length-(i+1)) 0).map iA=ys at *;generalize snF li k i=v at *;generalize li.getD i default=t at *;rw[<-hs];clear hs e0 hnn;by_cases hk:(i:Int)=k
  ·rw[zX1 hk]at hsd;subst hsd;have hfb:(xs.set i (iA t.lamp))[i]? =some (iA t.lamp):=by rw[zZo zB]
   have hls:(xs.set i (iA t.lamp)).length=li.length:=by simp[hfl]
   rw[<-yB1 (iA t.lamp)];refine WW ?_;rfl
  ·rw[zX0 hk]at hsd;subst hsd;refine WW ?_;rfl
 ·have hfl:=FI (snF li k) li.length li.length (zX6 _)
  have e:zD iA (YV li k)= .sl false ((((List.range li.length).map (snF li k)++List.replicate (li.length-li.length) 0).map iA).take (li.map vF).length):=by
   rw[zYb zB,yAe,yCk,zY5];rfl
  rw[e];clear e e0;generalize ((List.range li.length).map (snF li k)++List.replicate (li.length-li.length) 0).map iA=xs at *;refine WW ?_;exact zJ
def fpB (cf ls:List Int) (p q:Nat):Bool:=nrB (ls.getD p default)&&(nrB (ls.getD q default)&&fO cf p q)
def fbF (cf ls:List Int):Bool:=(List.range ls.length).any λp=>(List.range ls.length).any λq=>fpB cf ls p q
theorem zU9 {cf ls:List Int} (h:fbF cf ls=false) (p q:Nat) (hp:p<ls.length) (hq:q<ls.length):fpB cf ls p q=false:=by
 unfold fbF at h;rw[yAx]at h;have h1:=h p (zYr.2 hp);rw[yAs,yAx]at h1;have h2:=h1 q (zYr.2 hq)
 rwa [yAs]at h2
theorem zRu {cf ls:List Int} (h:fbF cf ls=true):∃p q:Nat,p<ls.length/\q<ls.length/\fpB cf ls p q=true/\(∀u,u<p->∀v,v<ls.length->fpB cf ls u v=false)/\(∀v,v<q->fpB cf ls p v=false):=by
 unfold fbF at h;rw[zZp]at h;obtain⟨a,ha,h⟩:=h;rw[zZp]at h;obtain⟨b,hb,h⟩:=h;obtain⟨p,hpa,⟨v,hv,hp⟩,hpm⟩:=LB (P:=λp=>∃v,v<ls.length/\fpB cf ls p v=true) a ⟨b,zYr.1 hb,h⟩;obtain⟨q,hqv,hq,hqm⟩:=LB (P:=λq=>fpB cf ls p q=true) v hp;have:=zYr.1 ha
 exact⟨p,q,zB,zB,hq,λu hu v hv=>by
  have:=hpm u hu
  cases h:fpB cf ls u v with
  |false=>rfl
  |true=>exact absurd ⟨v,hv,h⟩ this,λv hv=>by
  have:=hqm v hv
  rwa [yAs]at this⟩
theorem zRv (cf ls:List Int) (hcf:cf.length<=40) (hn:ls.length<=1000):zN 199 [zD iA cf,zD iA ls] [] (bA (fbF cf ls)) []:=by
 have hl:=zA iA ls
 cases hf:fbF cf ls with
 | false=>
  have hno:=zU9 hf;clear hf;refine eM call199 λF hF=>?_
  (repeat' (first|refine WS ?_|refine SG (I2 (λhc=>?_) (λhc=>?_))|refine SG (λhc=>?_)|(refine zE ?_;first|refine SM ?_)|(first|first|refine SR ?_|refine SK (I2 (λhc=>?_) (λhc=>?_))|refine SK (λhc=>?_)|fail|refine vH ?_|refine vI ?_)|fail))
  refine zP (ls.length) [] [] [0,1,10,11] [5,12,0,1,10,11] rfl (λi T U=>⟨(5,bA false)::(12,iA i)::T,U⟩) ?_;(conv=>whnf);refine⟨by rfl,?_,?_⟩
  ·intro u hu;have hy:=zM iA ls u hu;have c1:=aX (ls.getD u default);have hnu:=hno u;unfold fpB at hnu;clear hno
   cases hb:nrB (ls.getD u default)with
   |false=>
    rw[hb]at c1;generalize ls.getD u default=a at *;clear hnu;refine zU c1 ?_;rfl
   | true=>
    rw[hb]at c1;generalize ls.getD u default=a at *;refine zU c1 ?_;refine zP (ls.length) [] [] [0,1,6,10,11,12,20,21] [5,22,0,1,6,10,11,12,20,21] rfl (λi T U=>⟨(5,bA false)::(22,iA i)::T,U⟩) ?_;(conv=>whnf);refine⟨by rfl,?_,?_⟩
    ·intro v hv;have hyv:=zM iA ls v hv;have c2:=aX (ls.getD v default);have c3:=jV cf hcf u v;have h:=hnu v hu hv;rw[hb,zYp]at h;generalize ls.getD v default=b at *;clear hnu c1
     cases hb2:nrB b with
     |false=>
      rw[hb2]at c2;refine zU c2 ?_;rfl
     |true=>
      rw[hb2,zYp]at h;rw[hb2]at c2;rw[h]at c3;refine yQ (wZ c2 c3) ?_;rfl
    ·(refine WW ?_)
     rfl
  ·(repeat' (first|refine WS ?_|refine SG (I2 (λhc=>?_) (λhc=>?_))|refine SG (λhc=>?_)|(refine zE ?_;first|refine SM ?_)|(first|first|refine SR ?_|refine SK (I2 (λhc=>?_) (λhc=>?_))|refine SK (λhc=>?_)|fail|refine vH ?_|refine vI ?_)|fail))
   exact zJ
 | true=>
  obtain⟨p,q,hp,hq,hpq,hpm,hqm⟩:=zRu hf;clear hf;have hpp:nrB (ls.getD p default)=true:=by unfold fpB at hpq;rw[zYh]at hpq;exact hpq.1
  have hqq:nrB (ls.getD q default)=true:=by unfold fpB at hpq;rw[zYh,zYh]at hpq;exact hpq.2.1
  have hcc:fO cf p q=true:=by unfold fpB at hpq;rw[zYh,zYh]at hpq;exact hpq.2.2
  clear hpq;refine eM call199 λF hF=>?_
  (repeat' (first|refine WS ?_|refine SG (I2 (λhc=>?_) (λhc=>?_))|refine SG (λhc=>?_)|(refine zE ?_;first|refine SM ?_)|(first|first|refine SR ?_|refine SK (I2 (λhc=>?_) (λhc=>?_))|refine SK (λhc=>?_)|fail|refine vH ?_|refine vI ?_)|fail))
  refine xV (ls.length) [] [] [0,1,10,11] [5,12,0,1,10,11] rfl (λi T U zs=>(i<=p)/\zs=⟨(5,bA false)::(12,iA i)::T,U⟩) ?_;(conv=>whnf);refine⟨?_,?_,?_⟩
  ·exact⟨zYe _,rfl⟩
  ·rintro u st hu ⟨hup,rfl⟩;have hy:=zM iA ls u hu;have c1:=aX (ls.getD u default);by_cases hup2:u=p
   ·subst hup2;rw[hpp]at c1
    have hqm2:∀v,v<q->(nrB (ls.getD v default)&&fO cf u v)=false:=λv hv=>by
     have h:=hqm v hv;unfold fpB at h;rw[hpp,zYp]at h;exact h
    clear hpm hqm;generalize ls.getD u default=a at *;refine zU c1 ?_;refine xV (ls.length) [] [] [0,1,6,10,11,12,20,21] [5,22,0,1,6,10,11,12,20,21] rfl (λi T U zs=>(i<=q)/\zs=⟨(5,bA false)::(22,iA i)::T,U⟩) ?_;(conv=>whnf);refine⟨?_,?_,?_⟩
    ·exact⟨zYe _,rfl⟩
    ·rintro v st hv ⟨hvq,rfl⟩;have hyv:=zM iA ls v hv;have c2:=aX (ls.getD v default);have c3:=jV cf hcf u v;by_cases hvq2:v=q
     ·subst hvq2;rw[hqq]at c2;rw[hcc]at c3;clear hqq hcc hqm2 c1;generalize ls.getD v default=b at*
      (have zc1:=c2;have zc2:=c3;(repeat' (first|refine WS ?_|refine SG (I2 (λhc=>?_) (λhc=>?_))|refine SG (λhc=>?_)|(refine zE ?_;first|refine SM ?_)|(first|first|refine SR ?_|refine SK (I2 (λhc=>?_) (λhc=>?_))|refine SK (λhc=>?_)|fail|refine vH ?_|refine vI ?_)|fail))<;>clear zc1 zc2)
      exact zJ
     ·have h:=hqm2 v zB;clear hqq hcc hqm2 c1;generalize ls.getD v default=b at*
      cases hb2:nrB b with
      |false=>
       rw[hb2]at c2;refine zU c2 ?_;exact⟨zB,rfl⟩
      |true=>
       rw[hb2,zYp]at h;rw[hb2]at c2;rw[h]at c3;refine yQ (wZ c2 c3) ?_;exact⟨zB,rfl⟩
    ·rintro st ⟨hvq,rfl⟩;exfalso;omega
   ·have hnu:=hpm u zB;unfold fpB at hnu;clear hpp hqq hcc hpm hqm
    cases hb:nrB (ls.getD u default)with
    |false=>
     rw[hb]at c1;generalize ls.getD u default=a at *;clear hnu;refine zU c1 ?_;exact⟨zB,rfl⟩
    | true=>
     rw[hb]at c1;generalize ls.getD u default=a at *;refine zU c1 ?_;refine zP (ls.length) [] [] [0,1,6,10,11,12,20,21] [5,22,0,1,6,10,11,12,20,21] rfl (λi T U=>⟨(5,bA false)::(22,iA i)::T,U⟩) ?_;(conv=>whnf);refine⟨by rfl,?_,?_⟩
     ·intro v hv;have hyv:=zM iA ls v hv;have c2:=aX (ls.getD v default);have c3:=jV cf hcf u v;have h:=hnu v hv;rw[hb,zYp]at h;generalize ls.getD v default=b at *;clear hnu c1
      cases hb2:nrB b with
      |false=>
       rw[hb2]at c2;refine zU c2 ?_;rfl
      |true=>
       rw[hb2,zYp]at h;rw[hb2]at c2;rw[h]at c3;refine yQ (wZ c2 c3) ?_;rfl
     ·(refine WW ?_)
      exact⟨zB,rfl⟩
  ·rintro st ⟨hup,rfl⟩;exfalso;omega
def BU (j:Jn) (c c':Ct):Prop:=∀q:Nat,q<j.ph.length->xY c' q=xY c q∨((xY c q).lamp=0/\xY c' q=⟨1,0⟩)
theorem BU.refl (j:Jn) (c:Ct):BU j c c:=λq _=> .inl rfl
theorem BU.trans {j:Jn} {a b c:Ct} (h:BU j a b) (g:BU j b c):BU j a c:=λq hq=>by
 rcases h q hq with h|⟨h1,h2⟩<;>rcases g q hq with g|⟨g1,g2⟩
 ·exact .inl (g.trans h)
 ·exact .inr ⟨by rw[<-h];exact g1,g2⟩
 ·exact .inr ⟨h1,g.trans h2⟩
 ·rw[h2]at g1;exact absurd g1 yZ
theorem zRw {j:Jn} {c:Ct} (hc:c.li.length=j.ph.length) {p:Nat} (hp:p<j.ph.length) (q:Nat):xY (jD j c p) q=xY c q∨(q=p/\xY (jD j c p) q=⟨1,0⟩):=by
 rcases fQ j c p with h|⟨hk,_⟩
 ·rw[h.2];exact .inl rfl
 ·have hli:xY (jD j c p) q=if q=p then⟨1,0⟩else xY c q:=by
   unfold jD;rw[zX0 (by rw[hk];decide)]
   have:(JH j c p).li=c.li.set p ⟨1,0⟩:=by unfold JH;split<;>rfl
   unfold xY;dsimp only;rw[this];exact zBx c p q _ 0 [] 0 zB
  rw[hli];by_cases e:q=p
  ·rw[zX1 e];exact .inr ⟨e,rfl⟩
  ·rw[zX0 e];exact .inl rfl
theorem zGi {j:Jn} {c:Ct} {r:Int} {p:Nat} (h:BC j c r=true) (hp:p<j.ph.length) (hr:(yW j p).ring=r):(xY c p).lamp=0:=by
 unfold BC at h;rw[zYf]at h;simpa using h p (bG.2 ⟨hp,hr⟩)
theorem zGj {j:Jn} {c:Ct} (hc:c.li.length=j.ph.length) {p:Nat} (hp:p<j.ph.length) (h0:(xY c p).lamp=0):BU j c (jD j c p):=λq hq=>by
 rcases zRw hc hp q with h|⟨rfl,h⟩
 ·exact .inl h
 ·exact .inr ⟨h0,h⟩
theorem zP9 {j:Jn} {c:Ct} (C:CV j c) {t:Nat} (ht:t<j.ph.length) (r:Int):BU j c (dP j t c r):=by
 unfold dP;split
 ·rename_i hd;split
  ·exact BU.refl j c
  ·rename_i h
   rcases FV (j:=j) (c:=c) (r:=r) ht with h1|⟨p,h1,h2,h3⟩
   ·exact absurd h1 h
   ·rw[h1,zZh];exact zGj C.n h2 (zGi hd h2 h3)
 ·exact BU.refl j c
theorem zGk {j:Jn} {c:Ct} (C:CV j c) {r:Nat} (hr:r<2):BU j c (dQ j c r):=by
 unfold dQ;split
 ·rename_i h;rw[zZh]at h⊢
  rcases C.v r hr with h1|h1
  ·exact absurd h1 h.2
  ·obtain⟨a,b,d,_⟩:=h1;exact zGj C.n zB (zGi h.1 zB d)
 ·exact BU.refl j c
theorem zVa {j:Jn} (J:JV j) {c:Ct} (C:CV j c) (t:Int) (p:Nat) (hp:p<j.ph.length):(xY (NS j c t) p=xY c p/\(xY c p).lamp=0)∨xY (NS j c t) p=LD (yW j p) (xY c p) (AD j c t p)∨((LD (yW j p) (xY c p) (AD j c t p)).lamp=0/\xY (NS j c t) p=⟨1,0⟩):=by
 unfold NS;split
 ·rename_i hw
  rcases C.z with h|h
  ·omega
  ·exact .inl ⟨rfl,h p hp⟩
 ·have h0:c.wt=0:=by have:=C.w;omega
  have L:=zHl J C h0 t
  have fin:∀c',BU j ⟨XR j c t,c.gr,c.nx,c.wt⟩ c'->(xY c' p=LD (yW j p) (xY c p) (AD j c t p)∨((LD (yW j p) (xY c p) (AD j c t p)).lamp=0/\xY c' p=⟨1,0⟩)):=λc' h=>by
   have:=h p hp;rw[zBz _ _ _ _ _ hp]at this;exact this
  split
  ·rename_i h;unfold PE at h;rw[zX9]at h;have h1:=zBy J L h0 (t:=t.toNat) zB 0;exact .inr (fin _ ((zP9 L zB 0).trans (zP9 h1.1 zB 1)))
  ·unfold cyF
   have h1:CV j (if cyO ⟨XR j c t,c.gr,c.nx,c.wt⟩=true then BB j ⟨XR j c t,c.gr,c.nx,c.wt⟩ ((c.gr+1) % YX j)else⟨XR j c t,c.gr,c.nx,c.wt⟩)/\(if cyO ⟨XR j c t,c.gr,c.nx,c.wt⟩=true then BB j ⟨XR j c t,c.gr,c.nx,c.wt⟩ ((c.gr+1) % YX j)else⟨XR j c t,c.gr,c.nx,c.wt⟩).wt=0/\BU j ⟨XR j c t,c.gr,c.nx,c.wt⟩ (if cyO ⟨XR j c t,c.gr,c.nx,c.wt⟩=true then BB j ⟨XR j c t,c.gr,c.nx,c.wt⟩ ((c.gr+1) % YX j)else⟨XR j c t,c.gr,c.nx,c.wt⟩):=by
    split
    ·have hp:=RT J;exact⟨zBw L ⟨yBd _ zB,yA2 _ zB⟩,h0,λq _=> .inl rfl⟩
    ·exact⟨L,h0,BU.refl _ _⟩
   have h2:=PF J h1.1 h1.2.1 (r:=0) zB;exact .inr (fin _ ((h1.2.2.trans (zGk h1.1 (r:=0) zB)).trans (zGk h2.1 (r:=1) zB)))
def snU (a b:Li) (s:Int):Int:=if a.lamp=b.lamp then s+1 else 0
theorem zRx (ph:Ph) (a b:Li) (s:Int) (lv:Bool) (hv:RS ph a=true) (hs:a.lamp≠0->s=a.tk) (hs1:s<=1000) (hb:(b=a/\a.lamp=0)∨b=LD ph a lv∨((LD ph a lv).lamp=0/\b=⟨1,0⟩)):
  (b.lamp≠0->snU a b s=b.tk)/\(a.lamp=b.lamp∨(a.lamp=0/\b.lamp=1)∨(a.lamp=1/\b.lamp=2/\lnF ph<=s+1)∨(a.lamp=2/\s+1=ph.yel/\b.lamp=3/\ph.red≠0)∨(a.lamp=2/\s+1=ph.yel/\(b.lamp=0∨b.lamp=1)/\ph.red=0)∨(a.lamp=3/\s+1=ph.red/\(b.lamp=0∨b.lamp=1))):=by
 unfold RS at hv;unfold snU;unfold LD at hb;obtain⟨al,at'⟩:=a;dsimp only at *;by_cases h0:al=0
 ·subst h0;rw[zX0 zB,zX0 zB,zX0 zB]at hb
  rcases hb with⟨rfl,_⟩|rfl|⟨_,rfl⟩
  ·exact⟨λh=>absurd rfl h,.inl rfl⟩
  ·exact⟨λh=>absurd rfl h,.inl rfl⟩
  ·exact⟨λ_=>by rw[zX0 yZ],.inr (.inl ⟨rfl,rfl⟩)⟩
 have hs:=hs h0;rw[zX0 h0]at hv;by_cases h1:al=1
 ·subst h1;rw[zX1 rfl,zX9]at hv;rw[zX1 rfl]at hb;by_cases hl:lv=true/\lnF ph<=at'+1
  ·rw[zX1 hl]at hb
   rcases hb with⟨_,h⟩|rfl|⟨h,_⟩
   ·exact absurd h h0
   ·exact⟨λ_=>by rw[zX0 yZ],.inr (.inr (.inl ⟨rfl,rfl,zB⟩))⟩
   ·exact absurd h CF
  ·rw[zX0 hl]at hb
   rcases hb with⟨_,h⟩|rfl|⟨h,_⟩
   ·exact absurd h h0
   ·exact⟨λ_=>by rw[zX1 rfl];dsimp only;omega,.inl rfl⟩
   ·exact absurd h CF
 rw[zX0 h1]at hv hb;by_cases h2:al=2
 ·subst h2;rw[zX1 rfl,zX9]at hv;rw[zX1 rfl]at hb;by_cases hl:at'+1<ph.yel
  ·rw[zX1 hl]at hb
   rcases hb with⟨_,h⟩|rfl|⟨h,_⟩
   ·exact absurd h h0
   ·exact⟨λ_=>by rw[zX1 rfl];dsimp only;omega,.inl rfl⟩
   ·exact absurd h CF
  ·rw[zX0 hl]at hb;by_cases hr:ph.red=0
   ·rw[zX1 hr]at hb
    rcases hb with⟨_,h⟩|rfl|⟨_,rfl⟩
    ·exact absurd h h0
    ·exact⟨λh=>absurd rfl h,.inr (.inr (.inr (.inr (.inl ⟨rfl,zB,.inl rfl,hr⟩))))⟩
    ·exact⟨λ_=>by rw[zX0 yZ],.inr (.inr (.inr (.inr (.inl ⟨rfl,zB,.inr rfl,hr⟩))))⟩
   ·rw[zX0 hr]at hb
    rcases hb with⟨_,h⟩|rfl|⟨h,_⟩
    ·exact absurd h h0
    ·exact⟨λ_=>by rw[zX0 yZ],.inr (.inr (.inr (.inl ⟨rfl,zB,rfl,hr⟩)))⟩
    ·exact absurd h CF
 rw[zX0 h2]at hv hb;by_cases h3:al=3
 ·subst h3;rw[zX1 rfl,zX9]at hv;rw[zX1 rfl]at hb;by_cases hl:at'+1<ph.red
  ·rw[zX1 hl]at hb
   rcases hb with⟨_,h⟩|rfl|⟨h,_⟩
   ·exact absurd h h0
   ·exact⟨λ_=>by rw[zX1 rfl];dsimp only;omega,.inl rfl⟩
   ·exact absurd h CF
  ·rw[zX0 hl]at hb
   rcases hb with⟨_,h⟩|rfl|⟨_,rfl⟩
   ·exact absurd h h0
   ·exact⟨λh=>absurd rfl h,.inr (.inr (.inr (.inr (.inr ⟨rfl,zB,.inl rfl⟩))))⟩
   ·exact⟨λ_=>by rw[zX0 yZ],.inr (.inr (.inr (.inr (.inr ⟨rfl,zB,.inr rfl⟩))))⟩
 ·rw[zX0 h3]at hv;cases hv
theorem zL7 (p:Ph) (h:PhB p):zN 35 [wU p] [] (iA (lnF p)) []:=by
 obtain⟨h1,h2,h3,h4⟩:=h;refine eM call35 λF hF=>?_
 refine WW ?_;exact zJ
theorem zL8 (c:Ct) (h1:c.li.length<=1000000) (h2:c.nx.length<=1000000):zN 123 [ctA c,ctA c] [] (bA true) []:=by
 have hl:=zA vF c.li;have hn:=zA iA c.nx;refine eM call123 λF hF=>?_
 refine WW ?_;refine zY (c.li) [2,3] [2,3] [2,3,40,41] [42,2,3,40,41] rfl (λi pre T U=>⟨(42,iA i)::T,U⟩) ?_;(conv=>whnf);refine⟨by rfl,?_,?_⟩
 ·intro i pre x post hx hi;have hy:=yI vF hx hi;have hlt:=yB hx hi;clear hx
  (repeat' (first|refine qB ?_|refine xO (λhc=>?_) (λhc=>?_)|refine wB (λhc=>?_)|(refine zE ?_;first|refine SE ?_)|fail))
  all_goals (first|rfl|(exfalso;first|(simp[xL]at hc;done)|(revert hc;simp[xL];done)))
 ·(refine WW ?_)
  refine zY (c.nx) [3] [3] [3,56,57] [58,3,56,57] rfl (λi pre T U=>⟨(58,iA i)::T,U⟩) ?_;(conv=>whnf);refine⟨by rfl,?_,?_⟩
  ·intro i pre x post hx hi;have hy:=yI iA hx hi;have hlt:=yB hx hi;clear hx;refine WW ?_
   all_goals (first|rfl|(exfalso;first|(simp[xL]at hc;done)|(revert hc;simp[xL];done)))
  ·(refine WW ?_)
   exact zJ
structure Sg where
 c:Ct
 lat:Bool
def wV (s:Sg):AV:= .agg [zD vF s.c.li,iA s.c.gr,zD iA s.c.nx,iA s.c.wt,bA s.lat]
def kS (j:Jn):Sg:=⟨inF j,false⟩
def sjF (j:Jn) (s:Sg) (t k:Int):Sg:=if s.lat=true then s else⟨NS j s.c t,fbF j.cf (YV (NS j s.c t).li k)⟩
def CY (j:Jn) (s:Sg):Sg:=if s.lat=true then kS j else s
theorem FJ {α:Type} (f:α->AV) (l:List α):AV.sl false ((l.map f).take (l.map f).length)=zD f l:=by rw[zX7];rfl
theorem MZ (l:List Int) (hl:l.length<=1073741824):zN 107 [zD iA l] [] (zD iA l) []:=by
 have hll:=zA iA l;refine eM call107 λF hF=>?_
 refine xA 0 rfl (λcap hx=>?_) ?_
 ·have:l=[]:=by simpa using hx
  subst this;refine WW ?_;exact zJ
 ·(refine WW ?_)
  refine zI [] rfl rfl (FJ _ _) rfl
theorem LA (l:List Li) (hl:l.length<=1073741824):zN 155 [zD vF l] [] (zD vF l) []:=by
 have hll:=zA vF l;refine eM call155 λF hF=>?_
 refine xA 0 rfl (λcap hx=>?_) ?_
 ·have:l=[]:=by simpa using hx
  subst this;refine WW ?_;exact zJ
 ·(refine WW ?_)
  refine zI [] rfl rfl (FJ _ _) rfl
theorem FK (s:Sg) (h1:s.c.li.length<=1073741824) (h2:s.c.nx.length<=1073741824):zN 111 [wV s] [] (wV s) []:=by
 have c1:=LA s.c.li h1;have c2:=MZ s.c.nx h2;refine eM call111 λF hF=>?_
 refine yQ (wZ c1 c2) ?_;exact zJ
theorem zGl (j:Jn) (J:JV j):zN 91 [wH j] [] (wV (kS j)) []:=by
 have c1:=zR6 j zCw;unfold kS;generalize inF j=c at *;refine eM call91 λF hF=>?_
 refine zU c1 ?_;exact zJ
theorem zL9 (j:Jn) (J:JV j) (s:Sg) (C:CV j s.c) (t k:Int):zN 162 [wH j,wV s,iA t,iA k] [] (wV (sjF j s t k)) []:=by
 have hJ:=J.n;have hc:=J.c;have hn:=C.n;have hm:=C.m;have c0:=FK s zB zB;have c1:=zR4 j J s.c C t;have C1:=zQf J C t;have c2:=zRt (NS j s.c t).li (by have:=C1.n;omega) k;have c3:=zRv j.cf (YV (NS j s.c t).li k) zB (by rw[zGg];have:=C1.n;omega);unfold sjF;generalize fbF j.cf (YV (NS j s.c t).li k)=f at *;generalize YV (NS j s.c t).li k=ls at *;generalize NS j s.c t=c at *;obtain⟨sc,lat⟩:=s
 cases lat with
 |true=>
  rw[zX1 rfl];refine eM call162 λF hF=>?_
  refine zU c0 ?_;exact zJ
 |false=>
  rw[zX0 zYk];refine eM call162 λF hF=>?_
  refine yQ (fB c1 c2 c3) ?_;exact zJ
theorem zGm (j:Jn) (J:JV j) (s:Sg) (h1:s.c.li.length<=1073741824) (h2:s.c.nx.length<=1073741824):zN 63 [wH j,wV s] [] (.tup [wV (CY j s),bA s.lat]) []:=by
 have c0:=FK s h1 h2;have c1:=zGl j J;unfold CY;generalize kS j=z at *;obtain⟨sc,lat⟩:=s
 cases lat with
 |true=>
  rw[zX1 rfl];refine eM call63 λF hF=>?_
  refine zU c1 ?_;exact zJ
 |false=>
  rw[zX0 zYk];refine eM call63 λF hF=>?_
  refine zU c0 ?_;exact zJ
theorem zMa (s:Sg) (h1:s.c.li.length<=1000000) (h2:s.c.nx.length<=1000000):zN 70 [wV s,wV s] [] (bA true) []:=by
 have c1:=zL8 s.c h1 h2;obtain⟨sc,lat⟩:=s
 cases lat with
 |true=>
  refine eM call70 λF hF=>?_
  refine zU c1 ?_;exact zJ
 |false=>
  refine eM call70 λF hF=>?_
  refine zU c1 ?_;exact zJ
def ph0:Ph:=⟨0,0,2,3,1,1,0,0⟩
def j0:Jn:=⟨[ph0,ph0],[2,1],0⟩
theorem two {p:Nat} (h:p<j0.ph.length):p=0∨p=1:=by
 have:j0.ph.length=2:=rfl;omega
theorem zVb {j:Jn} (J:JV j) {s:Sg} (C:CV j s.c) (t k:Int):CV j (sjF j s t k).c:=by
 unfold sjF;split
 ·exact C
 ·exact zQf J C t
theorem zXb {j:Jn} (J:JV j) {s:Sg} (C:CV j s.c):CV j (CY j s).c:=by
 unfold CY;split
 ·exact FN J
 ·exact C
def ph1:Ph:=⟨0,0,2,3,1,0,0,0⟩
def j1:Jn:=⟨[ph1,ph1],[2,1],0⟩
theorem WG {p q:Prop} (k:q) (h:bE q->p:=by(intro hq;((repeat' (first|(refine zE ?_;first|refine vN tok rfl rfl ?_|(refine wD ?_;first|((first|refine WF zc1 ?_|refine ZP ?_);first|refine xI (zH (zc1) rfl rfl rfl rfl rfl) rfl ?_|refine uN (zH (zc1) rfl rfl rfl rfl rfl) rfl rfl rfl ?_|refine aN (zH (zc1) rfl rfl rfl rfl rfl) rfl rfl rfl ?_|refine xI (wG (zc1) rfl rfl rfl rfl rfl) rfl ?_|refine uN (wG (zc1) rfl rfl rfl rfl rfl) rfl rfl rfl ?_)|((first|refine WF zc2 ?_|refine ZP ?_);first|refine xI (zH (zc2) rfl rfl rfl rfl rfl) rfl ?_|refine uN (zH (zc2) rfl rfl rfl rfl rfl) rfl rfl rfl ?_|refine aN (zH (zc2) rfl rfl rfl rfl rfl) rfl rfl rfl ?_|refine xI (wG (zc2) rfl rfl rfl rfl rfl) rfl ?_|refine uN (wG (zc2) rfl rfl rfl rfl rfl) rfl rfl rfl ?_)|((first|refine WF zc3 ?_|refine ZP ?_);first|refine xI (zH (zc3) rfl rfl rfl rfl rfl) rfl ?_|refine uN (zH (zc3) rfl rfl rfl rfl rfl) rfl rfl rfl ?_|refine aN (zH (zc3) rfl rfl rfl rfl rfl) rfl rfl rfl ?_|refine xI (wG (zc3) rfl rfl rfl rfl rfl) rfl ?_|refine uN (wG (zc3) rfl rfl rfl rfl rfl) rfl rfl rfl ?_)|((first|refine WF zc4 ?_|refine ZP ?_);first|refine xI (zH (zc4) rfl rfl rfl rfl rfl) rfl ?_|refine uN (zH (zc4) rfl rfl rfl rfl rfl) rfl rfl rfl ?_|refine aN (zH (zc4) rfl rfl rfl rfl rfl) rfl rfl rfl ?_|refine xI (wG (zc4) rfl rfl rfl rfl rfl) rfl ?_|refine uN (wG (zc4) rfl rfl rfl rfl rfl) rfl rfl rfl ?_)|((first|refine WF zc5 ?_|refine ZP ?_);first|refine xI (zH (zc5) rfl rfl rfl rfl rfl) rfl ?_|refine uN (zH (zc5) rfl rfl rfl rfl rfl) rfl rfl rfl ?_|refine aN (zH (zc5) rfl rfl rfl rfl rfl) rfl rfl rfl ?_|refine xI (wG (zc5) rfl rfl rfl rfl rfl) rfl ?_|refine uN (wG (zc5) rfl rfl rfl rfl rfl) rfl rfl rfl ?_)|((first|refine WF zc6 ?_|refine ZP ?_);first|refine xI (zH (zc6) rfl rfl rfl rfl rfl) rfl ?_|refine uN (zH (zc6) rfl rfl rfl rfl rfl) rfl rfl rfl ?_|refine aN (zH (zc6) rfl rfl rfl rfl rfl) rfl rfl rfl ?_|refine xI (wG (zc6) rfl rfl rfl rfl rfl) rfl ?_|refine uN (wG (zc6) rfl rfl rfl rfl rfl) rfl rfl rfl ?_))|(refine WM ?_;first|refine zUi rfl rfl ?_|refine zKq rfl rfl rfl rfl ?_|refine cX rfl rfl (λhc=>?_) (λhc=>?_))|(refine wW ?_;first|refine xI (TK rfl rfl rfl (by unfold IP;omega)) rfl ?_|refine xI (TL rfl rfl rfl (by unfold IP;omega)) rfl ?_|refine xI (IQ rfl rfl rfl) rfl ?_|refine xI (HF rfl rfl ⟨zB,zB⟩) rfl ?_|refine xI (HG rfl rfl ⟨zB,zB⟩) rfl ?_|refine xI (HI rfl rfl ⟨zB,zB⟩) rfl ?_|refine xI (HJ rfl rfl (by assumption) zB) rfl ?_|refine xI (HL rfl rfl zB) rfl ?_|refine xI (HN rfl rfl) rfl ?_|refine xI (jS (.inl ⟨rfl,rfl⟩) rfl rfl zB) rfl ?_|refine xI (jS (.inr ⟨rfl,rfl⟩) rfl rfl zB) rfl ?_|refine xI (eV tok rfl rfl rfl rfl (.inl ⟨rfl,rfl⟩)) rfl ?_|refine xI (eV tok rfl rfl rfl rfl (.inr ⟨rfl,rfl⟩)) rfl ?_|refine xI (WQ tok (.inl ⟨rfl,rfl⟩) rfl rfl rfl) rfl ?_|refine xI (yX tok (.inl ⟨rfl,rfl⟩) rfl rfl rfl rfl) rfl ?_)|(refine zAo ?_;first|refine xI (gP tok rfl rfl rfl rfl rfl zB cH rfl rfl) rfl ?_|refine xI (gK tok rfl rfl rfl rfl rfl rfl zB zB rfl) rfl ?_|refine xI (hG tok rfl rfl rfl rfl rfl rfl zB zB) rfl ?_)|(refine IV ?_;first|refine xI (bP tok rfl rfl rfl cH rfl) rfl ?_|refine xI (bO tok rfl rfl rfl cH rfl) rfl ?_|refine xI (cF tok rfl rfl rfl rfl cH rfl) rfl ?_|refine xI (cE tok rfl rfl rfl rfl cH rfl) rfl ?_)|(refine zAp ?_;first|refine xI (jZ tok rfl rfl rfl rfl rfl rfl rfl rfl) rfl ?_|refine xI (gO tok rfl cH rfl rfl rfl rfl rfl rfl) rfl ?_)|(refine yV ?_;first|refine qE tok rfl rfl rfl rfl rfl rfl rfl rfl rfl rfl rfl (by first|(intro y hy;cases hy;rfl)|exact xT _ _ (λ_=>rfl)) (by first|omega|(simp;done)|(simp;omega)) rfl ?_)|(refine OI ?_;first|refine xI (HU rfl ⟨zB,zB⟩) rfl ?_)|(refine IR ?_;first|refine xI (ZI tok rfl rfl rfl rfl ⟨zB,zB⟩) rfl ?_|refine xI (UG tok rfl rfl rfl rfl) rfl ?_)|refine YH tok rfl rfl rfl rfl ?_|(refine bR ?_;first|refine zA8 tok rfl rfl rfl rfl rfl rfl ?_|refine bQ tok rfl rfl rfl ?_)|refine qF ?_|refine TO gS ?_)|(first|refine xS ?_|refine xD ?_|refine vD rfl ?_|refine zX rfl ?_|refine zQ rfl ?_|refine xK rfl (λhc=>?_) (λhc=>?_)|refine yY ?_|refine yU ?_|refine xE ?_|refine yT ?_))));exact hq.h)):p:=h ⟨k⟩
theorem WO {p q:Prop} (k:q) (h:bE q->p:=by(intro hq;(repeat' (first|(refine zE ?_;(first|refine vN tok rfl rfl ?_|(refine WM ?_;first|refine zUi rfl rfl ?_|refine zKq rfl rfl rfl rfl ?_|refine cX rfl rfl (λhc=>?_) (λhc=>?_))|(refine wW ?_;first|refine xI (TK rfl rfl rfl (by unfold IP;omega)) rfl ?_|refine xI (TL rfl rfl rfl (by unfold IP;omega)) rfl ?_|refine xI (IQ rfl rfl rfl) rfl ?_|refine xI (HF rfl rfl ⟨zB,zB⟩) rfl ?_|refine xI (HG rfl rfl ⟨zB,zB⟩) rfl ?_|refine xI (HI rfl rfl ⟨zB,zB⟩) rfl ?_|refine xI (HJ rfl rfl (by assumption) zB) rfl ?_|refine xI (HL rfl rfl zB) rfl ?_|refine xI (HN rfl rfl) rfl ?_|refine xI (jS (.inl ⟨rfl,rfl⟩) rfl rfl zB) rfl ?_|refine xI (jS (.inr ⟨rfl,rfl⟩) rfl rfl zB) rfl ?_|refine xI (eV tok rfl rfl rfl rfl (.inl ⟨rfl,rfl⟩)) rfl ?_|refine xI (eV tok rfl rfl rfl rfl (.inr ⟨rfl,rfl⟩)) rfl ?_|refine xI (WQ tok (.inl ⟨rfl,rfl⟩) rfl rfl rfl) rfl ?_|refine xI (yX tok (.inl ⟨rfl,rfl⟩) rfl rfl rfl rfl) rfl ?_)|(refine zAo ?_;first|refine xI (gP tok rfl rfl rfl rfl rfl zB cH rfl rfl) rfl ?_|refine xI (gK tok rfl rfl rfl rfl rfl rfl zB zB rfl) rfl ?_|refine xI (hG tok rfl rfl rfl rfl rfl rfl zB zB) rfl ?_)|(refine IV ?_;first|refine xI (bP tok rfl rfl rfl cH rfl) rfl ?_|refine xI (bO tok rfl rfl rfl cH rfl) rfl ?_|refine xI (cF tok rfl rfl rfl rfl cH rfl) rfl ?_|refine xI (cE tok rfl rfl rfl rfl cH rfl) rfl ?_)|(refine zAp ?_;first|refine xI (jZ tok rfl rfl rfl rfl rfl rfl rfl rfl) rfl ?_|refine xI (gO tok rfl cH rfl rfl rfl rfl rfl rfl) rfl ?_)|(refine yV ?_;first|refine qE tok rfl rfl rfl rfl rfl rfl rfl rfl rfl rfl rfl (by first|(intro y hy;cases hy;rfl)|exact xT _ _ (λ_=>rfl)) (by first|omega|(simp;done)|(simp;omega)) rfl ?_)|(refine OI ?_;first|refine xI (HU rfl ⟨zB,zB⟩) rfl ?_)|(refine IR ?_;first|refine xI (ZI tok rfl rfl rfl rfl ⟨zB,zB⟩) rfl ?_|refine xI (UG tok rfl rfl rfl rfl) rfl ?_)|refine YH tok rfl rfl rfl rfl ?_|(refine bR ?_;first|refine zA8 tok rfl rfl rfl rfl rfl rfl ?_|refine bQ tok rfl rfl rfl ?_)|refine qF ?_|refine TO gS ?_))|(first|refine xS ?_|refine xD ?_|refine vD rfl ?_|refine zX rfl ?_|refine zQ rfl ?_|refine xK rfl (λhc=>?_) (λhc=>?_)|refine yY ?_|refine yU ?_|refine xE ?_|refine yT ?_)));exact hq.h)):p:=h ⟨k⟩
def e1 (d:Dk) (now:Int):Int:=[-1,0,max (-1) (now-nx d 6)].getD (nx (ad d) 3).toNat 0
def d0 (xs:List Int) (hl:xs.length<=9223372036854775807):Dk:=⟨xs,0,zYe _,hl⟩
def XK (es:List Int) (ph:Int):Int:=if ph<0∨(es.length:Int)<=ph then -1 else es.getD ph.toNat 0
def YW (k:Int):Bool:=k==2||k==3
def VF (es:List Int) (ph si:Int):Int:=max si (XK es ph)
theorem RP (s:Sv) (c:Cl):zN 242 [wT s,dT c] [] (iA (XK s.en c.ph)) []:=by
 have hl:(s.en.map iA).length=s.en.length:=by simp
 by_cases h1:c.ph<0
 ·rw[show XK s.en c.ph= -1 by simp[XK,h1]];refine eM call242 λF hF=>?_
  refine WO ?_;exact zJ
 ·by_cases h2:(s.en.length:Int)<=c.ph
  ·rw[show XK s.en c.ph= -1 by simp[XK,h2]];refine eM call242 λF hF=>?_
   refine WO ?_;exact zJ
  ·rw[show XK s.en c.ph=s.en.getD c.ph.toNat 0 by unfold XK;rw[zX0 zB]];have hy:=yM iA s.en c.ph zB zB;refine eM call242 λF hF=>?_
   refine WO ?_;exact zJ
theorem kK (c:Cl):zN 222 [dT c] [] (bA (YW c.k)) []:=by
 unfold YW;by_cases h:c.k=2
 ·rw[show(c.k==2||c.k==3)=true by simp[h]];refine eM call222 λF hF=>?_
  refine WO ?_;exact zJ
 ·rw[show(c.k==2||c.k==3)=(c.k==3) by simp[h]];refine eM call222 λF hF=>?_
  refine WO ?_;exact zJ
theorem VG (s:Sv) (c:Cl):zN 244 [wT s,dT c] [] (iA (VF s.en c.ph c.si)) []:=by
 refine eM call244 λF hF=>?_
 (repeat' (first|refine YF ?_|refine xO (λhc=>?_) (λhc=>?_)|(refine zE ?_;refine wD ?_;refine xI (zH (RP ⟨_,_,_⟩ ⟨_,_,_,_,_⟩) rfl rfl rfl rfl rfl) rfl ?_)|fail))
 exact zJ
theorem BV (n d:Int) (hd:1<=d) (hm:n.tmod d=0):n.tdiv d=n/d:=by
 have h1:=Int.tmod_add_mul_tdiv n d;rw[hm]at h1;have h2:n=d*n.tdiv d:=by omega
 exact(Int.ediv_eq_of_eq_mul_right zB h2).symm
theorem KX (n d:Int) (hn:n<0) (hd:1<=d) (hm:n.tmod d≠0):n.tdiv d-1=n/d:=by
 have h1:=Int.tmod_add_mul_tdiv n d;have h0:n.tmod d= -((-n).tmod d):=by rw[Int.neg_tmod];omega
 have h3: -d<n.tmod d:=by
  have:=yDe (-n) (show 0<d by omega);omega
 have h4:n.tmod d<=0:=by
  have:=yDp d (show 0<= -n by omega);omega
 clear h0;have h5:n=d*(n.tdiv d-1)+(n.tmod d+d):=by rw[Int.mul_sub];omega
 generalize n.tdiv d=q at *;generalize n.tmod d=r at*
 have h6:n/d=q-1:=by
  rw[h5,Int.mul_add_ediv_left _ _ zB,Int.ediv_eq_zero_of_lt zB zB];omega
 omega
theorem zMb (n d:Int) (hd:1<=d) (h1: -4611686018427387904<=n) (h2:n<=4611686018427387904): -4611686018427387904<=n.tdiv d/\n.tdiv d<=4611686018427387904:=by
 by_cases h:0<=n
 ·have:=IntWalk.tdiv_le n d h hd;rw[zZt h];omega
 ·have h3:n.tdiv d= -((-n).tdiv d):=by rw[Int.neg_tdiv];omega
  have:=IntWalk.tdiv_le (-n) d zB hd;rw[h3,zZt zB];omega
theorem XL (n d:Int) (hd:1<=d) (h1: -4611686018427387904<=n) (h2:n<=4611686018427387904):zN 273 [iA n,iA d] [] (iA (n/d)) []:=by
 have hb:=zMb n d hd h1 h2;have hq:XC .i64 (n.tdiv d):=⟨zB,zB⟩;by_cases hm:n.tmod d=0
 ·rw[<-BV n d hd hm];refine eM call273 λF hF=>?_
  refine WO ?_;exact zJ
 ·by_cases h0:n<0
  ·rw[<-KX n d h0 hd hm];refine eM call273 λF hF=>?_
   refine WO ?_;exact zJ
  ·rw[<-zZt (show 0<=n by omega)];refine eM call273 λF hF=>?_
   refine WO ?_;exact zJ
def zMc (per cap:Int) (es:List Int) (now ph k si:Int):Int:=min cap (k+(now-VF es ph si)/per)
structure COk (per now:Int) (es:List Int) (c:Cl):Prop where
 p:1<=per
 k0: -1000<=c.k
 k1:c.k<=1000
 n0: -1099511627776<=now
 n1:now<=1099511627776
 s0: -1099511627776<=VF es c.ph c.si
 s1:VF es c.ph c.si<=1099511627776
 e0: -1099511627776<=XK es c.ph
 e1:XK es c.ph<=1099511627776
theorem zRy (n d:Int) (hd:1<=d) (h1: -4611686018427387904<=n) (h2:n<=4611686018427387904): -4611686018427387904<=n/d/\n/d<=4611686018427387904:=by
 constructor
 ·refine(Int.le_ediv_iff_mul_le zB).2 ?_;have:(4611686018427387904:Int)*1<=4611686018427387904*d:=Int.mul_le_mul_of_nonneg_left hd zB;omega
 ·have:n/d<=4611686018427387904/1:=by
   rw[Int.ediv_one];refine Int.le_of_lt_add_one ((Int.ediv_lt_iff_lt_mul zB).2 ?_);have:(4611686018427387904+1:Int)*1<=(4611686018427387904+1)*d:=Int.mul_le_mul_of_nonneg_left hd zB;omega
  omega
theorem zBq (g:Cf) (s:Sv) (c:Cl) (now:Int) (ok:COk g.per now s.en c):zN 243 [wP g,wT s,dT c,iA now] [] (iA (zMc g.per g.cap s.en now c.ph c.k c.si)) []:=by
 obtain⟨p,k0,k1,n0,n1,s0,s1,_,_⟩:=ok;have hq:=zRy (now-VF s.en c.ph c.si) g.per p zB zB;refine eM call243 λF hF=>?_
 (repeat' (first|refine YF ?_|refine xO (λhc=>?_) (λhc=>?_)|(refine zE ?_;refine wD ?_;(first|(refine uQ 244 ?_;first|refine xI (zH (VG s c) rfl rfl rfl rfl rfl) rfl ?_|refine uN (zH (VG s c) rfl rfl rfl rfl rfl) rfl rfl rfl ?_|refine aN (zH (VG s c) rfl rfl rfl rfl rfl) rfl rfl rfl ?_)|(refine uQ 273 ?_;first|refine xI (zH (XL _ _ zB zB zB) rfl rfl rfl rfl rfl) rfl ?_|refine uN (zH (XL _ _ zB zB zB) rfl rfl rfl rfl rfl) rfl rfl rfl ?_|refine aN (zH (XL _ _ zB zB zB) rfl rfl rfl rfl rfl) rfl rfl rfl ?_)))|fail))
 exact zJ
def zGn (lock:Int) (es:List Int) (now ph k:Int):Bool:=!YW k&&(XK es ph != -1&&decide (now-XK es ph<=lock))
theorem zGo (g:Cf) (s:Sv) (c:Cl) (now:Int) (ok:COk g.per now s.en c):zN 224 [wP g,wT s,dT c,iA now] [] (bA (zGn g.lock s.en now c.ph c.k)) []:=by
 obtain⟨p,k0,k1,n0,n1,s0,s1,e0,e1⟩:=ok;unfold zGn;refine eM call224 λF hF=>?_
 (repeat' (first|refine YF ?_|refine xO (λhc=>?_) (λhc=>?_)|(refine zE ?_;refine wD ?_;(first|(refine uQ 242 ?_;first|refine xI (zH (RP _ _) rfl rfl rfl rfl rfl) rfl ?_|refine uN (zH (RP _ _) rfl rfl rfl rfl rfl) rfl rfl rfl ?_|refine aN (zH (RP _ _) rfl rfl rfl rfl rfl) rfl rfl rfl ?_)|(refine uQ 222 ?_;first|refine xI (zH (kK _) rfl rfl rfl rfl rfl) rfl ?_|refine uN (zH (kK _) rfl rfl rfl rfl rfl) rfl rfl rfl ?_|refine aN (zH (kK _) rfl rfl rfl rfl rfl) rfl rfl rfl ?_)))|fail))
 all_goals refine zI [] rfl rfl (zY0 bA ?_) rfl
 all_goals simp_all [kE]
def SY (per cap:Int) (es:List Int) (now:Int) (x:Cl):Int:=if YW x.k then x.k else zMc per cap es now x.ph x.k x.si
def dW (per cap:Int) (es:List Int) (now:Int) (x y:Cl):Bool:=
 if YW x.k≠YW y.k then YW x.k
 else if SY per cap es now x≠SY per cap es now y then decide (SY per cap es now y<SY per cap es now x)
 else if VF es x.ph x.si≠VF es y.ph y.si then decide (VF es x.ph x.si<VF es y.ph y.si)
 else if x.ag≠y.ag then decide (x.ag<y.ag)else decide (x.id<y.id)
theorem zRz (g:Cf) (s:Sv) (x y:Cl) (now:Int) (okx:COk g.per now s.en x) (oky:COk g.per now s.en y):zN 225 [wP g,wT s,iA now,dT x,dT y] [] (bA (dW g.per g.cap s.en now x y)) []:=by
 have ex:=kK x;have ey:=kK y;have lx:=zBq g s x now okx;have ly:=zBq g s y now oky;have sx:=VG s x;have sy:=VG s y
 cases hx:YW x.k<;>cases hy:YW y.k<;>rw[hx]at ex<;>rw[hy]at ey
 ·by_cases h1:zMc g.per g.cap s.en now x.ph x.k x.si=zMc g.per g.cap s.en now y.ph y.k y.si
  ·by_cases h2:VF s.en x.ph x.si=VF s.en y.ph y.si
   ·by_cases h3:x.ag=y.ag
    ·(refine eM call225 λF hF=>?_)
     (have zc1:=ex;have zc2:=ey;have zc3:=lx;have zc4:=ly;have zc5:=sx;have zc6:=sy;refine WG ?_;clear zc1 zc2 zc3 zc4 zc5 zc6)
     refine zI [] rfl rfl (zY0 bA ?_) rfl;simp[dW,SY,hx,hy,h1,h2,h3,kE]
    ·(refine eM call225 λF hF=>?_)
     (have zc1:=ex;have zc2:=ey;have zc3:=lx;have zc4:=ly;have zc5:=sx;have zc6:=sy;refine WG ?_;clear zc1 zc2 zc3 zc4 zc5 zc6)
     refine zI [] rfl rfl (zY0 bA ?_) rfl;simp[dW,SY,hx,hy,h1,h2,h3,kE]
   ·(refine eM call225 λF hF=>?_)
    (have zc1:=ex;have zc2:=ey;have zc3:=lx;have zc4:=ly;have zc5:=sx;have zc6:=sy;refine WG ?_;clear zc1 zc2 zc3 zc4 zc5 zc6)
    refine zI [] rfl rfl (zY0 bA ?_) rfl;simp[dW,SY,hx,hy,h1,h2,kE]
  ·(refine eM call225 λF hF=>?_)
   (have zc1:=ex;have zc2:=ey;have zc3:=lx;have zc4:=ly;have zc5:=sx;have zc6:=sy;refine WG ?_;clear zc1 zc2 zc3 zc4 zc5 zc6)
   refine zI [] rfl rfl (zY0 bA ?_) rfl;simp[dW,SY,hx,hy,h1,kE]
 ·(refine eM call225 λF hF=>?_)
  (have zc1:=ex;have zc2:=ey;have zc3:=lx;have zc4:=ly;have zc5:=sx;have zc6:=sy;refine WG ?_;clear zc1 zc2 zc3 zc4 zc5 zc6)
  refine zI [] rfl rfl (zY0 bA ?_) rfl;simp[dW,hx,hy]
 ·(refine eM call225 λF hF=>?_)
  (have zc1:=ex;have zc2:=ey;have zc3:=lx;have zc4:=ly;have zc5:=sx;have zc6:=sy;refine WG ?_;clear zc1 zc2 zc3 zc4 zc5 zc6)
  refine zI [] rfl rfl (zY0 bA ?_) rfl;simp[dW,hx,hy]
 ·by_cases h1:x.k=y.k
  ·by_cases h2:VF s.en x.ph x.si=VF s.en y.ph y.si
   ·by_cases h3:x.ag=y.ag
    ·(refine eM call225 λF hF=>?_)
     (have zc1:=ex;have zc2:=ey;have zc3:=lx;have zc4:=ly;have zc5:=sx;have zc6:=sy;refine WG ?_;clear zc1 zc2 zc3 zc4 zc5 zc6)
     refine zI [] rfl rfl (zY0 bA ?_) rfl;simp[dW,SY,hx,hy,h1,h2,h3,kE]
    ·(refine eM call225 λF hF=>?_)
     (have zc1:=ex;have zc2:=ey;have zc3:=lx;have zc4:=ly;have zc5:=sx;have zc6:=sy;refine WG ?_;clear zc1 zc2 zc3 zc4 zc5 zc6)
     refine zI [] rfl rfl (zY0 bA ?_) rfl;simp[dW,SY,hx,hy,h1,h2,h3,kE]
   ·(refine eM call225 λF hF=>?_)
    (have zc1:=ex;have zc2:=ey;have zc3:=lx;have zc4:=ly;have zc5:=sx;have zc6:=sy;refine WG ?_;clear zc1 zc2 zc3 zc4 zc5 zc6)
    refine zI [] rfl rfl (zY0 bA ?_) rfl;simp[dW,SY,hx,hy,h1,h2,kE]
  ·(refine eM call225 λF hF=>?_)
   (have zc1:=ex;have zc2:=ey;have zc3:=lx;have zc4:=ly;have zc5:=sx;have zc6:=sy;refine WG ?_;clear zc1 zc2 zc3 zc4 zc5 zc6)
   refine zI [] rfl rfl (zY0 bA ?_) rfl;simp[dW,SY,hx,hy,h1,kE]
def kL (g:Cf) (s:Sv) (now:Int) (xs:List Cl):Nat->Int
 |0=> -1
 |i+1=>if zGn g.lock s.en now (xs.getD i default).ph (xs.getD i default).k then kL g s now xs i
  else if kL g s now xs i<0 then i
  else if dW g.per g.cap s.en now (xs.getD i default) (xs.getD (kL g s now xs i).toNat default)then i else kL g s now xs i
theorem VH (g:Cf) (s:Sv) (now:Int) (xs:List Cl):∀i,-1<=kL g s now xs i/\kL g s now xs i<i∨kL g s now xs i= -1
 |0=> .inr rfl
 | i+1=>by
  have:=VH g s now xs i;unfold kL;split
  ·omega
  ·split
   ·omega
   ·split<;>omega
theorem BW (g:Cf) (s:Sv) (now:Int) (xs:List Cl) (i:Nat):kL g s now xs (i+1)=if zGn g.lock s.en now (xs.getD i default).ph (xs.getD i default).k=true then kL g s now xs i
 else if kL g s now xs i<0 then(i:Int)
 else if dW g.per g.cap s.en now (xs.getD i default) (xs.getD (kL g s now xs i).toNat default)=true then(i:Int)else kL g s now xs i:=rfl
theorem zR0 (g:Cf) (s:Sv) (now:Int) (xs:List Cl) (hlen:xs.length<=1099511627776) (ok:∀i,i<xs.length->COk g.per now s.en (xs.getD i default)):zN 196 [wP g,wT s,iA now,zD dT xs] [] (iA (kL g s now xs xs.length)) []:=by
 have hl:(xs.map dT).length=xs.length:=by simp
 refine eM call196 λF hF=>?_
 refine WO ?_
 refine vA (λn st=>∃i:Nat,n+i=xs.length/\st=⟨[(2,iA now),(3,zD dT xs),(4,.ptr 4 0 0),(5,.ptr 5 0 0),(9,iA (kL g s now xs i)),(12,zD dT xs),(13,iA xs.length),(14,iA i)],[(4,.box [zD wH g.js,zD vC g.ags,iA g.per,iA g.cap,iA g.hold,iA g.lock]),(5,.box [iA s.ph,iA s.gr,zD iA s.en])]⟩)
  xs.length [4,5] [2,3,4,5,9,12,13,14] rfl ⟨0,rfl,by rw[<-hl];rfl⟩ ?_
 rintro n st ⟨i,hi,rfl⟩;by_cases hlt:i<xs.length
 ·have hy:=yM dT xs i zB zB;have ok1:=ok i hlt;have hb:=VH g s now xs i;have hn:=BW g s now xs i;have lk:=zGo g s (xs.getD i default) now ok1;rw[show((i:Int)).toNat=i from rfl]at hy
  cases hL:zGn g.lock s.en now (xs.getD i default).ph (xs.getD i default).k<;>rw[hL]at lk hn
  ·rw[zX0 zS]at hn;by_cases h0:kL g s now xs i<0
   ·rw[zX1 h0]at hn
    (have zc1:=lk;refine WG ?_;clear zc1)
    exact⟨n-1,zB,i+1,zB,by rw[hn];rfl⟩
   ·rw[zX0 h0]at hn;have hy2:=yM dT xs (kL g s now xs i) zB zB;have ls:=zRz g s (xs.getD i default) (xs.getD (kL g s now xs i).toNat default) now ok1 (ok _ zB)
    cases hS:dW g.per g.cap s.en now (xs.getD i default) (xs.getD (kL g s now xs i).toNat default)<;>rw[hS]at ls hn
    ·rw[zX0 zS]at hn
     (have zc1:=lk;have zc2:=ls;refine WG ?_;clear zc1 zc2)
     exact⟨n-1,zB,i+1,zB,by rw[hn];rfl⟩
    ·rw[zX1 rfl]at hn
     (have zc1:=lk;have zc2:=ls;refine WG ?_;clear zc1 zc2)
     exact⟨n-1,zB,i+1,zB,by rw[hn];rfl⟩
  ·rw[zX1 rfl]at hn
   (have zc1:=lk;refine WG ?_;clear zc1)
   exact⟨n-1,zB,i+1,zB,by rw[hn];rfl⟩
 ·obtain rfl:i=xs.length:=by omega
  refine WO ?_;exact zJ
theorem ZW {α:Type} (P:α->Prop) (d:α):∀(l:List α) (i:Nat),(∀x∈l,P x)->i<l.length->P (l.getD i d)
 |l,i,h,hi=>by simp only[zX5,zYi hi,zZ3];exact h _ (yAn hi)
theorem zMd (es:List Int) (now ph:Int) (h:0<=now) (he:∀e∈es,-1<=e/\e<=now): -1<=XK es ph/\XK es ph<=now:=by
 unfold XK;split
 ·omega
 ·exact ZW (λe=> -1<=e/\e<=now) 0 es ph.toNat he zB
structure ClB (ph now:Int) (c:Cl):Prop where
 k0:0<=c.k
 k1:c.k<=3
 s0:0<=c.si
 s1:c.si<=now
 a0:0<=c.ag
 a1:c.ag<=2
 i0:0<=c.id
 i1:c.id<=3
 p0:0<=c.ph
 p1:c.ph<ph
theorem zGp {α:Type} (f:α->AV) (l:List α):AV.sl false ((l.map f).take (l.map f).length)=zD f l:=by rw[zX7];rfl
theorem BX (l:List Int) (hl:l.length<=1073741824):zN 107 [zD iA l] [] (.ref 1001 0 (l.map iA).length) [(1001,.arr 1 (l.map iA) false)]:=by
 have hll:=zA iA l;refine eM call107 λF hF=>?_
 refine xA 0 rfl (λcap hx=>?_) ?_
 ·have:l=[]:=by simpa using hx
  subst this
  (repeat' (first|refine WZN ?_|refine xO (λhc=>?_) (λhc=>?_)|refine wB (λhc=>?_)|fail))
  refine uM 2 1001 1 rfl rfl rfl (yU ?_);exact zL [1001] rfl rfl rfl rfl
 ·repeat' (first|(refine zE ?_;first|refine vN tok rfl rfl ?_|(refine wW ?_;refine xI (yX tok (.inl ⟨rfl,rfl⟩) rfl rfl rfl rfl) rfl ?_)|(refine yS ?_;refine uN (nw:=[1001]) (yL tok 1001 (xs:=[]) rfl rfl rfl rfl rfl rfl rfl rfl rfl) rfl rfl rfl ?_)|(refine yV ?_;refine wO tok rfl rfl rfl rfl rfl rfl rfl (xT _ _ (λ_=>rfl)) rfl rfl rfl zB rfl ?_)|refine qF ?_)|(first|refine xS ?_|refine xD ?_|refine vD rfl ?_|refine zX rfl ?_|refine zQ rfl ?_|refine xK rfl (λhc=>?_) (λhc=>?_)|refine yY ?_|refine yU ?_|refine xE ?_|refine yT ?_))
  exact zL [1001] rfl rfl rfl rfl
theorem zDl (l:List Int) (hl:l.length<=1073741824):zN 107 [zD iA l] [] (zD iA l) []:=by
 have hll:=zA iA l;refine eM call107 λF hF=>?_
 refine xA 0 rfl (λcap hx=>?_) ?_
 ·have:l=[]:=by simpa using hx
  subst this;refine WW ?_;exact zJ
 ·(refine WW ?_)
  refine zI [] rfl rfl (zGp _ _) rfl
structure SvB (s:Sv):Prop where
 n:s.en.length<=100000
theorem zDm (s:Sv) (h:SvB s):zN 106 [wT s] [] (.agg [iA s.ph,iA s.gr,.ref 1001 0 (s.en.map iA).length]) [(1001,.arr 1 (s.en.map iA) false)]:=by
 have c:=BX s.en (by have:=h.n;omega);refine eM call106 λF hF=>?_
 refine zU c ?_;exact zL [1001] rfl rfl rfl rfl
theorem VI (s:Sv) (h:SvB s):zN 106 [wT s] [] (wT s) []:=by
 have c:=zDl s.en (by have:=h.n;omega);refine eM call106 λF hF=>?_
 refine zU c ?_;exact zJ
def dO (s:Sv) (green:Bool):Sv:=if green=true/\s.ph≠ -1 then⟨s.ph,min s.gr 59+1,s.en⟩else s
theorem zMe (s:Sv) (h:SvB s) (b:Bool) (hg: -1000000<=s.gr):zN 163 [wT s,bA b] [] (wT (dO s b)) []:=by
 have c:=VI s h;by_cases h1:b=true
 ·subst h1;by_cases h2:s.ph= -1
  ·rw[show dO s true=s by simp[dO,h2]];refine eM call163 λF hF=>?_
   refine zU c ?_;exact zJ
  ·rw[show dO s true=⟨s.ph,min s.gr 59+1,s.en⟩ by simp[dO,h2]];refine eM call163 λF hF=>?_
   refine zU c ?_;exact zJ
 ·obtain rfl:b=false:=by simpa using h1
  rw[show dO s false=s by simp[dO]];refine eM call163 λF hF=>?_
  refine zU c ?_;exact zJ
def fJ (s:Sv) (now:Int):Sv:=⟨-1,0,if 0<s.gr/\0<=s.ph/\s.ph<s.en.length then s.en.set s.ph.toNat now else s.en⟩
theorem zGq {α:Type} (f:α->AV) (l:List α) (i:Nat) (x:α) (n:Nat) (hn:n=l.length):AV.sl false (((l.map f).set i (f x)).take n)=zD f (l.set i x):=by
 rw[<-zZ9,zYb wQ];rfl
theorem zGr (s:Sv) (h:SvB s) (now:Int):zN 160 [wT s,iA now] [] (wT (fJ s now)) []:=by
 have c:=zDm s h;have hl:=zA iA s.en;by_cases h1:0<s.gr/\0<=s.ph/\s.ph<s.en.length
 ·obtain⟨h2,h3,h4⟩:=h1;have hy:=yM iA s.en s.ph h3 h4;rw[show fJ s now=⟨-1,0,s.en.set s.ph.toNat now⟩ by simp[fJ,h2,h3,h4]];refine eM call160 λF hF=>?_
  refine zU c ?_;refine zI [] rfl rfl (zY0 (λx=>AV.agg [iA (-1),iA 0,x]) (zGq iA s.en s.ph.toNat now _ hl)) rfl
 ·rw[show fJ s now=⟨-1,0,s.en⟩ by unfold fJ;rw[zX0 h1]];refine eM call160 λF hF=>?_
  (have zc1:=c;(repeat' (first|refine qB ?_|refine xO (λhc=>?_) (λhc=>?_)|refine wB (λhc=>?_)|(refine zE ?_;first|refine SM ?_)|fail))<;>clear zc1)
  all_goals (try omega)
  all_goals refine zI [] rfl rfl (zY0 (λx=>AV.agg [iA (-1),iA 0,x]) (zGp iA s.en)) rfl
def zMf (n:Nat):Sv:=⟨-1,0,List.replicate n (-1)⟩
theorem zMg (n i:Nat) (h:i<n):((List.replicate i (-1:Int)++List.replicate (n-i) 0).map iA).set i (iA (-1))=(List.replicate (i+1) (-1:Int)++List.replicate (n-(i+1)) 0).map iA:=by
 rw[<-zZ9,show n-i=(n-(i+1))+1 by omega,yBl,yA0 _ _ zS,zZd,yAe,yB8,yC6,zYv];rfl
theorem zR1 (n:Nat) (h:n<=100000):zN 92 [iA n] [] (wT (zMf n)) []:=by
 by_cases h0:n=0
 ·subst h0;refine eM call92 λF hF=>?_
  refine WW ?_;refine zP (0) [2,3] [2,3] [2,3,17] [18,2,3,17] rfl (λi T U=>⟨(18,iA i)::T,U⟩) ?_;(conv=>whnf);refine⟨by rfl,?_,?_⟩
  ·intro i hi;omega
  ·(refine WW ?_)
   exact zJ
 ·have e0:List.replicate n (AV.s (.int .i64 0))=(List.replicate 0 (-1:Int)++List.replicate (n-0) 0).map iA:=by simp[iA]
  refine eM call92 λF hF=>?_
  refine WW ?_;refine zP (n) [13,2,3] [2,3] [2,3,17] [18,2,3,17] rfl (λi T U=>⟨(18,iA i)::T,(13,.arr 1 ((List.replicate i (-1:Int)++List.replicate (n-i) 0).map iA) false)::U⟩) ?_;(conv=>whnf);refine⟨by(rw[<-e0];rfl),?_,?_⟩
  ·intro i hi;have hy:((List.replicate i (-1:Int)++List.replicate (n-i) 0).map iA)[i]? =some (iA 0):=by simp[show 0<n-i by omega]
   have e:=zMg n i hi;generalize (List.replicate i (-1:Int)++List.replicate (n-i) 0).map iA=xs at *;generalize (List.replicate (i+1) (-1:Int)++List.replicate (n-(i+1)) 0).map iA=ys at *;subst e;refine WW ?_;rfl
  ·rw[show n-n=0 by omega,yCk,zY5];refine WW ?_;exact zI [] rfl rfl (zY0 (λx=>AV.agg [iA (-1),iA 0,AV.sl false x]) (zYb zS)) rfl
def FL (a b:Sv):Bool:=decide (a.ph=b.ph/\a.gr=b.gr/\a.en=b.en)
theorem zR2 (a b:Sv) (ha:SvB a) (hb:SvB b):zN 71 [wT a,wT b] [] (bA (FL a b)) []:=by
 have hla:=zA iA a.en;have hlb:=zA iA b.en;have:=ha.n;by_cases h:a.ph=b.ph/\a.gr=b.gr/\a.en.length=b.en.length
 case neg=>
  rw[show FL a b=false from zYa (λg=>h ⟨g.1,g.2.1,zY0 _ g.2.2⟩)];refine eM call71 λF hF=>?_
  (repeat' (first|refine qB ?_|refine xO (λhc=>?_) (λhc=>?_)|refine wB (λhc=>?_)|(refine zE ?_;first|refine SM ?_)|fail))
  all_goals (first|omega|exact zJ)
 obtain⟨h1,h2,h3⟩:=h;refine eM call71 λF hF=>?_
 refine WW ?_;refine qM (a.en) [3] [3] [3,29,30] [31,3,29,30] rfl (λi pre T U zs=>(pre=b.en.take i)/\zs=⟨(31,iA i)::T,U⟩) ?_;(conv=>whnf);refine⟨?_,?_,?_⟩
 ·exact⟨by simp,rfl⟩
 ·rintro i pre x post st hx hi ⟨hp,rfl⟩;have hy:=yI iA hx hi;have hlt:=yB hx hi;have hz:=zUo iA b.en i zB;by_cases hv:b.en[i]=x
  ·rw[hv]at hz;refine WW ?_;exact⟨by rw[<-hv,hp,yB2],rfl⟩
  ·rw[show FL a b=false from zYa (λg=>hv (by
    have e:=g.2.2;have:a.en[i]'(by omega)=x:=by simp only[hx,<-hi];simp
    rw[<-this];simp only[e]))]
   refine WW ?_
   all_goals (first|omega|exact zJ)
 ·rintro st ⟨hp,rfl⟩;rw[show FL a b=true from zX8 ⟨h1,h2,by rw[hp,h3,zX7]⟩];refine WW ?_;exact zJ
end Av
end Go.Proofs.YtmamjhmoegjapaaGreat
