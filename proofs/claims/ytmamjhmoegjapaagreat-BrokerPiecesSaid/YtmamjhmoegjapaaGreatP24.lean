/- Part 24. -/
import Derived.Test.YtmamjhmoegjapaaGreatP23
import Derived.Test.YtmamjhmoegjapaaGreatP12
import Derived.Test.YtmamjhmoegjapaaGreatP18
namespace Go.Proofs.YtmamjhmoegjapaaGreat
namespace Av
open Tryz
set_option linter.unusedSimpArgs false
set_option linter.unusedVariables false
set_option maxRecDepth 4000
set_option maxHeartbeats 1000000
def PB (s p:Int):Bool:=jU (uB s p) 1==1
theorem zR8:∀(s:_root_.Fin 256) (p:_root_.Fin 8),kE BinOp.eql (IntKind.u64.wrap ((BitVec.ofInt IntKind.u64.bits (Int.fdiv (s.val:Int) (2 ^ min (p.val:Int).toNat IntKind.u64.bits)) &&& BitVec.ofInt IntKind.u64.bits 1).toNat:Int)) 1=PB s.val p.val:=by decide +kernel
theorem FQ (s p:Int) (hs:0<=s/\s<256) (hp:0<=p/\p<8):zN 274 [iA s,iA p] [] (bA (PB s p)) []:=by
 have hf:=zR8 ⟨s.toNat,zB⟩ ⟨p.toNat,zB⟩;rw[show((s.toNat:Nat):Int)=s by omega,show((p.toNat:Nat):Int)=p by omega]at hf;generalize PB s p=q at *;subst hf;refine eM call274 λF hF=>?_
 (repeat' (first|refine qB ?_|refine xO (λhc=>?_) (λhc=>?_)|refine wB (λhc=>?_)|(refine zE ?_;first|(refine wW ?_;refine xI (QI rfl rfl) rfl ?_))|fail))
 exact zJ
theorem zG2 (p:Nat->Bool) (i:Nat) (hi:i<8):PB (gB p 8) i=p i:=zO9 p i hi
def GH (c:Ct) (p:Nat):Bool:=(xY c p).lamp != 0
def seF (c:Ct):Int:=gB (GH c) c.li.length
theorem KY (p:Nat->Bool):∀n m:Nat,n<=m->(∀i,n<=i->i<m->p i=false)->gB p m=gB p n
 |n,0,h,_=>by rw[Nat.le_zero.1 h]
 |n,m+1,h,hp=>by
  by_cases e:n=m+1
  ·rw[e]
  ·rw[gB,hp m zB zB];exact KY p n m zB λi h1 h2=>hp i h1 zB
theorem zG3 (p:Nat->Bool) (n:Nat) (hn:n<=25):orI (gB p n) (p2 n)=gB p n+p2 n:=by
 have h1:=OE p n;have h2:(2:Nat) ^ n<=2 ^ 25:=yBy zB hn;rw[DL,show p2 (n:Int)=((2 ^ n:Nat):Int) by unfold p2;simp,IM _ _ zB zB];have h3:=Nat.two_pow_add_eq_or_of_lt h1 1;rw[Nat.mul_one]at h3;rw[Nat.or_comm,<-h3];omega
theorem zVf (c:Ct) (hn:c.li.length<=25):zN 247 [ctA c] [] (iA (seF c)) []:=by
 have hl:=zA vF c.li;unfold seF;refine eM call247 λF hF=>?_
 refine WW ?_;refine zP (c.li.length) [] [] [7,8] [3,9,7,8] rfl (λi T U=>⟨(3,iA (gB (GH c) i))::(9,iA i)::T,U⟩) ?_;(conv=>whnf);refine⟨by rfl,?_,?_⟩
 ·intro i hi;have hy:=zM vF c.li i hi
  change (c.li.map vF)[i]? =some (vF (xY c i))at hy
  have ho:=zG3 (GH c) i zB
  have e:gB (GH c) (i+1)=if GH c i=true then gB (GH c) i+p2 i else gB (GH c) i:=rfl
  rw[<-ho]at e;have hsb:GH c i=((xY c i).lamp != 0):=rfl;rw[e,hsb];generalize gB (GH c) i=b at *;generalize xY c i=t at *;by_cases h:t.lamp=0
  ·rw[zX0 (by simp[h])];refine WW ?_;rfl
  ·rw[zX1 (by simp[h])];refine WW ?_;rfl
 ·(refine WW ?_)
  exact zJ
theorem LB {P:Nat->Prop}:∀n,P n->∃m,m<=n/\P m/\∀k,k<m->¬P k:=by
 intro n
 induction n using Nat.strongRecOn with
 |_ n ih=>
  intro h;by_cases hx:∃k,k<n/\P k
  ·obtain⟨k,h1,h2⟩:=hx;obtain⟨m,h3,h4,h5⟩:=ih k h1 h2;exact⟨m,zB,h4,h5⟩
  ·exact⟨n,zX6 _,h,λk h1 h2=>hx ⟨k,h1,h2⟩⟩
def GI (rows:List Int) (s:Int) (p q:Nat):Bool:=PB s p&&(decide (q≠p)&&(PB s q&&fO rows p q))
theorem zG4 (rows:List Int) (hn:rows.length<=8) (s:Int) (hs:0<=s/\s<256):∃p q:Int,zN 246 [zD iA rows,iA s] [] (.tup [iA p,iA q]) []/\((p= -1/\∀a b:Nat,a<rows.length->b<rows.length->GI rows s a b=false)∨(0<=p/\∃a b:Nat,a<rows.length/\b<rows.length/\GI rows s a b=true)):=by
 have hl:=zA iA rows;by_cases hx:∃a,a<rows.length/\∃b,b<rows.length/\GI rows s a b=true
 ·obtain⟨a,ha,hx⟩:=hx;obtain⟨p,_,⟨hp,hx⟩,hpm⟩:=LB (P:=λa=>a<rows.length/\∃b,b<rows.length/\GI rows s a b=true) a ⟨ha,hx⟩;obtain⟨b,hb⟩:=hx;obtain⟨q,_,⟨hq,hc⟩,hqm⟩:=LB (P:=λb=>b<rows.length/\GI rows s p b=true) b hb;refine⟨p,q,?_,.inr ⟨zB,p,q,hp,hq,hc⟩⟩
  have hsp:PB s p=true:=by
   unfold GI at hc;rw[zYh]at hc;exact hc.1
  refine eM call246 λF hF=>?_
  refine WW ?_;refine xV (rows.length) [] [] [0,1,9] [10,0,1,9] rfl (λi T U zs=>(i<=p)/\zs=⟨(10,iA i)::T,U⟩) ?_;(conv=>whnf);refine⟨?_,?_,?_⟩
  ·exact⟨zYe _,rfl⟩
  ·rintro u st hu ⟨hup,rfl⟩;have ci:=FQ s u hs zB;by_cases hup2:u=p
   ·subst hup2;rw[hsp]at ci;refine zU ci ?_;refine xV (rows.length) [] [] [0,1,6,9,10,18] [19,0,1,6,9,10,18] rfl (λi T U zs=>(i<=q)/\zs=⟨(19,iA i)::T,U⟩) ?_;(conv=>whnf);refine⟨?_,?_,?_⟩
    ·exact⟨zYe _,rfl⟩
    ·rintro v st hv ⟨hvq,rfl⟩;have cj:=FQ s v hs zB;have ck:=jV rows zB u v;by_cases hvq2:v=q
     ·subst hvq2;unfold GI at hc;simp only[zYh,zX9]at hc;rw[hc.2.2.1]at cj;rw[hc.2.2.2]at ck;have hne:(v:Int)≠u:=by omega
      refine yQ (wZ cj ck) ?_;exact zJ
     ·have hno:GI rows s u v=false:=by
       cases hcc:GI rows s u v with
       |false=>rfl
       |true=>exact absurd ⟨hv,hcc⟩ (hqm v zB)
      unfold GI at hno;rw[hsp,zYp]at hno;by_cases h1:v=u
      ·have hne:(v:Int)=u:=by omega
       refine WW ?_;exact⟨zB,rfl⟩
      have hne:(v:Int)≠u:=by omega
      rw[zX8 h1,zYp]at hno
      cases h2:PB s v with
      |false=>
       rw[h2]at cj;refine zU cj ?_;exact⟨zB,rfl⟩
      |true=>
       rw[h2,zYp]at hno;rw[h2]at cj;rw[hno]at ck;refine yQ (wZ cj ck) ?_;exact⟨zB,rfl⟩
    ·rintro st ⟨hvq,rfl⟩;exfalso;omega
   ·have hno:∀b,b<rows.length->GI rows s u b=false:=λb hb=>by
     cases hcc:GI rows s u b with
     |false=>rfl
     |true=>exact absurd ⟨hu,b,hb,hcc⟩ (hpm u zB)
    cases h3:PB s u with
    |false=>
     rw[h3]at ci;refine zU ci ?_;exact⟨zB,rfl⟩
    |true=>
    rw[h3]at ci;refine zU ci ?_;refine zP (rows.length) [] [] [0,1,6,9,10,18] [19,0,1,6,9,10,18] rfl (λi T U=>⟨(19,iA i)::T,U⟩) ?_;(conv=>whnf);refine⟨by rfl,?_,?_⟩
    ·intro v hv;have cj:=FQ s v hs zB;have ck:=jV rows zB u v;have hno:=hno v hv;unfold GI at hno;rw[h3,zYp]at hno;by_cases h1:v=u
     ·have hne:(v:Int)=u:=by omega
      refine WW ?_;rfl
     have hne:(v:Int)≠u:=by omega
     rw[zX8 h1,zYp]at hno
     cases h2:PB s v with
     |false=>
      rw[h2]at cj;refine zU cj ?_;rfl
     |true=>
      rw[h2,zYp]at hno;rw[h2]at cj;rw[hno]at ck;refine yQ (wZ cj ck) ?_;rfl
    ·(refine WW ?_)
     exact⟨zB,rfl⟩
  ·rintro st ⟨hup,rfl⟩;exfalso;omega
 ·have hno:∀a b,a<rows.length->b<rows.length->GI rows s a b=false:=λa b ha hb=>by
   cases hcc:GI rows s a b with
   |false=>rfl
   |true=>exact absurd ⟨a,ha,b,hb,hcc⟩ hx
  refine⟨-1,-1,?_,.inl ⟨rfl,hno⟩⟩;clear hx;refine eM call246 λF hF=>?_
  refine WW ?_;refine zP (rows.length) [] [] [0,1,9] [10,0,1,9] rfl (λi T U=>⟨(10,iA i)::T,U⟩) ?_;(conv=>whnf);refine⟨by rfl,?_,?_⟩
  ·intro u hu;have ci:=FQ s u hs zB
   cases h3:PB s u with
   |false=>
    rw[h3]at ci;refine zU ci ?_;rfl
   |true=>
   rw[h3]at ci;refine zU ci ?_;refine zP (rows.length) [] [] [0,1,6,9,10,18] [19,0,1,6,9,10,18] rfl (λi T U=>⟨(19,iA i)::T,U⟩) ?_;(conv=>whnf);refine⟨by rfl,?_,?_⟩
   ·intro v hv;have cj:=FQ s v hs zB;have ck:=jV rows zB u v;have hno:=hno u v hu hv;unfold GI at hno;rw[h3,zYp]at hno;by_cases h1:v=u
    ·have hne:(v:Int)=u:=by omega
     refine WW ?_;rfl
    have hne:(v:Int)≠u:=by omega
    rw[zX8 h1,zYp]at hno
    cases h2:PB s v with
    |false=>
     rw[h2]at cj;refine zU cj ?_;rfl
    |true=>
     rw[h2,zYp]at hno;rw[h2]at cj;rw[hno]at ck;refine yQ (wZ cj ck) ?_;rfl
   ·(refine WW ?_)
    rfl
  ·(refine WW ?_)
   exact zJ
theorem FR (j:Jn) (hn:j.ph.length<=1000) (hg:∀p:Nat,p<j.ph.length->0<=(yW j p).group/\(yW j p).group<=3):zN 248 [wH j] [] (iA (YX j)) []:=by
 have hl:=zA wU j.ph;unfold YX;refine eM call248 λF hF=>?_
 refine WW ?_;refine zP (j.ph.length) [] [] [7,8] [3,9,7,8] rfl (λi T U=>⟨(3,iA (grN j.ph i))::(9,iA i)::T,U⟩) ?_;(conv=>whnf);refine⟨by rfl,?_,?_⟩
 ·intro i hi;have hy:=zM wU j.ph i hi;have hb:=hg i hi;unfold yW at hb;have e:grN j.ph (i+1)=max (grN j.ph i) ((j.ph.getD i default).group+1):=rfl;rw[e];generalize grN j.ph i=g at *;generalize j.ph.getD i default=t at *;refine WW ?_;rfl
 ·(refine WW ?_)
  exact zJ
def KZ (j:Jn) (r g:Int) (i:Nat):List Nat:=(List.range i).filter λp=>(yW j p).ring==r&&(yW j p).group==g
theorem zG5 (j:Jn) (r g:Int) (i:Nat):KZ j r g (i+1)=if(yW j i).ring=r/\(yW j i).group=g then KZ j r g i++[i]else KZ j r g i:=by
 unfold KZ;rw[yAh,yBq];by_cases h:(yW j i).ring=r/\(yW j i).group=g
 ·rw[zX1 h];simp[h.1,h.2]
 ·rw[zX0 h]
  have:((yW j i).ring==r&&(yW j i).group==g)=false:=by
   rw[Bool.and_eq_false_iff]
   rcases Classical.not_and_iff_not_or_not.1 h with h|h
   ·exact .inl UD
   ·exact .inr UD
  simp[this]
theorem zMm {α:Type} (f:α->AV) (l:List α):AV.sl false ((l.map f).take (l.map f).length)=zD f l:=by rw[zX7];rfl
def nA (p:Nat):AV:=iA (p:Int)
theorem zXc (j:Jn) (hn:j.ph.length<=1000) (r g:Int):zN 250 [wH j,iA r,iA g] [] (zD nA (KZ j r g j.ph.length)) []:=by
 have hl:=zA wU j.ph;refine eM call250 λF hF=>?_
 refine WW ?_;refine xC 7 1001 1 rfl rfl rfl ?_;refine zP (j.ph.length) [1001] [] [1,2,11,12] [7,13,1,2,11,12] rfl (λi T U=>⟨(7,.ref 1001 0 ((KZ j r g i).map nA).length)::(13,iA i)::T,(1001,.arr 1 ((KZ j r g i).map nA) true)::U⟩) ?_;(conv=>whnf);refine⟨by rfl,?_,?_⟩
 ·intro i hi;have hy:=zM wU j.ph i hi
  change (j.ph.map wU)[i]? =some (wU (yW j i))at hy
  have es:=zG5 j r g i
  have hlen:(KZ j r g i).length<=1000:=by
   have:(KZ j r g i).length<=(List.range i).length:=yAd _ _;rw[zZk]at this;omega
  have hlm:((KZ j r g i).map nA).length<=1000:=by rw[zX2];exact hlen
  rw[es];generalize KZ j r g i=o at *;generalize yW j i=t at *;by_cases h1:t.ring=r
  ·by_cases h2:t.group=g
   ·rw[zX1 ⟨h1,h2⟩,zYc];generalize o.map nA=xs at *;refine WW ?_;rfl
   ·rw[zX0 (λh=>h2 h.2)];refine WW ?_;rfl
  ·rw[zX0 (λh=>h1 h.1)];refine WW ?_;rfl
 ·(refine WW ?_)
  exact zI [] rfl rfl (zMm _ _) rfl
def JC (l:List Nat) (x:Int):Bool:=l.any λp:Nat=>(p:Int)==x
theorem zG6 (l:List Nat) (hn:l.length<=1000) (x:Int):∃k:Int,zN 275 [zD nA l,iA x] [] (iA k) []/\ -1<=k/\k<1000/\(JC l x=decide (0<=k)):=by
 have hl:=zA nA l;by_cases hx:∃i,i<l.length/\((l.getD i default:Nat):Int)=x
 ·obtain⟨i0,h1,h2⟩:=hx;obtain⟨k,_,⟨hk,hkx⟩,hkm⟩:=LB (P:=λi=>i<l.length/\((l.getD i default:Nat):Int)=x) i0 ⟨h1,h2⟩;refine⟨k,?_,zB,zB,?_⟩
  ·(refine eM call275 λF hF=>?_)
   refine WW ?_;refine xV (l.length) [] [] [0,1,7] [8,0,1,7] rfl (λi T U zs=>(i<=k)/\zs=⟨(8,iA i)::T,U⟩) ?_;(conv=>whnf);refine⟨?_,?_,?_⟩
   ·exact⟨zYe _,rfl⟩
   ·rintro u st hu ⟨huk,rfl⟩;have hy:=zM nA l u hu;by_cases e:u=k
    ·subst e;generalize l.getD u default=v at *;unfold nA at hy;refine WW ?_;exact zJ
    ·have hne:¬((l.getD u default:Nat):Int)=x:=λh=>hkm u zB ⟨hu,h⟩
     generalize l.getD u default=v at *;unfold nA at hy;refine WW ?_;exact⟨zB,rfl⟩
   ·rintro st ⟨huk,rfl⟩;exfalso;omega
  ·rw[zX8 zB];unfold JC;rw[zZp];exact⟨l.getD k default,by simp[List.getD,hk],by rw[zZg];exact hkx⟩
 ·refine⟨-1,?_,zB,zB,?_⟩
  ·(refine eM call275 λF hF=>?_)
   refine WW ?_;refine zP (l.length) [] [] [0,1,7] [8,0,1,7] rfl (λi T U=>⟨(8,iA i)::T,U⟩) ?_;(conv=>whnf);refine⟨by rfl,?_,?_⟩
   ·intro u hu;have hy:=zM nA l u hu;have hne:¬((l.getD u default:Nat):Int)=x:=λh=>hx ⟨u,hu,h⟩
    generalize l.getD u default=v at *;unfold nA at hy;clear hx;refine WW ?_;rfl
   ·clear hx;refine WW ?_;exact zJ
  ·rw[zYa zB];unfold JC;rw[yAx];intro p hp;obtain⟨i,hi,rfl⟩:=yAa hp;intro h;rw[zZg]at h;exact hx ⟨i,hi,by simpa [List.getD,hi]using h⟩
theorem AA (l:List Nat) (hn:l.length<=1000) (x:Int):zN 249 [zD nA l,iA x] [] (bA (JC l x)) []:=by
 obtain⟨k,c,h1,h2,h3⟩:=zG6 l hn x;rw[h3];by_cases h:0<=k
 ·rw[zX8 h];refine eM call249 λF hF=>?_
  refine zU c ?_;exact zJ
 ·rw[zYa h];refine eM call249 λF hF=>?_
  refine zU c ?_;exact zJ
theorem zG7 (l:Li):zN 277 [vF l] [] (bA (l.lamp != 0)) []:=by
 by_cases h:l.lamp=0
 ·rw[show(l.lamp != 0)=false by simp[h]];refine eM call277 λF hF=>?_
  refine WW ?_;exact zJ
 ·rw[show(l.lamp != 0)=true by simp[h]];refine eM call277 λF hF=>?_
  refine WW ?_;exact zJ
theorem zR9 (c:Ct) (hn:c.li.length<=1000):∃k:Int,zN 296 [zD vF c.li,.fn 277 []] [] (iA k) []/\ -1<=k/\k<1000/\(arF c= !decide (0<=k)):=by
 have hl:=zA vF c.li;by_cases hx:∃i,i<c.li.length/\(xY c i).lamp≠0
 ·obtain⟨i0,h1,h2⟩:=hx;obtain⟨k,_,⟨hk,hkx⟩,hkm⟩:=LB (P:=λi=>i<c.li.length/\(xY c i).lamp≠0) i0 ⟨h1,h2⟩;refine⟨k,?_,zB,zB,?_⟩
  ·(refine eM call296 λF hF=>?_)
   refine WW ?_;refine xV (c.li.length) [] [] [0,1,7] [8,0,1,7] rfl (λi T U zs=>(i<=k)/\zs=⟨(8,iA i)::T,U⟩) ?_;(conv=>whnf);refine⟨?_,?_,?_⟩
   ·exact⟨zYe _,rfl⟩
   ·rintro u st hu ⟨huk,rfl⟩;have hy:=zM vF c.li u hu
    change (c.li.map vF)[u]? =some (vF (xY c u))at hy
    have cn:=zG7 (xY c u);by_cases e:u=k
    ·subst e;rw[show((xY c u).lamp != 0)=true by simpa using hkx]at cn;generalize xY c u=v at *;refine zU cn ?_;exact zJ
    ·have hne:(xY c u).lamp=0:=yA6 λh=>hkm u zB ⟨hu,h⟩
     rw[show((xY c u).lamp != 0)=false by simpa using hne]at cn;generalize xY c u=v at *;refine zU cn ?_;exact⟨zB,rfl⟩
   ·rintro st ⟨huk,rfl⟩;exfalso;omega
  ·rw[zX8 zB];unfold arF;exact yAw.2 ⟨xY c k,by simp[xY,List.getD,hk],by simpa using hkx⟩
 ·have h0:∀i,i<c.li.length->(xY c i).lamp=0:=λi hi=>yA6 λh=>hx ⟨i,hi,h⟩
  refine⟨-1,?_,zB,zB,?_⟩
  ·clear hx;refine eM call296 λF hF=>?_
   refine WW ?_;refine zP (c.li.length) [] [] [0,1,7] [8,0,1,7] rfl (λi T U=>⟨(8,iA i)::T,U⟩) ?_;(conv=>whnf);refine⟨by rfl,?_,?_⟩
   ·intro u hu;have hy:=zM vF c.li u hu
    change (c.li.map vF)[u]? =some (vF (xY c u))at hy
    have cn:=zG7 (xY c u);have h0:=h0 u hu;rw[show((xY c u).lamp != 0)=false by simpa using h0]at cn;generalize xY c u=v at *;refine zU cn ?_;rfl
   ·(refine WW ?_)
    exact zJ
  ·rw[zYa zB];unfold arF;rw[yCs,zYf];intro l hl;obtain⟨i,hi,rfl⟩:=yAa hl;have:=h0 i hi;simpa [xY,List.getD,hi]using this
theorem FS (c:Ct) (hn:c.li.length<=1000):zN 251 [ctA c] [] (bA (arF c)) []:=by
 obtain⟨k,c1,h1,h2,h3⟩:=zR9 c hn
 have c2:zN 276 [zD vF c.li,.fn 277 []] [] (bA (decide (0<=k))) []:=by
  by_cases h:0<=k
  ·rw[zX8 h];refine eM call276 λF hF=>?_
   refine zU c1 ?_;exact zJ
  ·rw[zYa h];refine eM call276 λF hF=>?_
   refine zU c1 ?_;exact zJ
 rw[h3]
 cases hd:decide (0<=k)<;>rw[hd]at c2
 ·(refine eM call251 λF hF=>?_)
  refine zU c2 ?_;exact zJ
 ·(refine eM call251 λF hF=>?_)
  refine zU c2 ?_;exact zJ
def nvF (j:Jn) (c:Ct):Bool:=(List.range j.ph.length).all λp=>RS (yW j p) (xY c p)
def ncF (j:Jn) (c:Ct):Bool:=(List.range j.cf.length).all λa=>(List.range j.cf.length).all λb=>!GI j.cf (seF c) a b
def nxO (j:Jn) (c:Ct) (r:Nat):Bool:=decide (c.nx.getD r default= -1)||JC (KZ j r c.gr j.ph.length) (c.nx.getD r default)
def vcF (j:Jn) (c:Ct):Bool:=decide (c.li.length=j.ph.length/\c.nx.length=2)&&(nvF j c&&(ncF j c&&(decide (0<=c.gr/\c.gr<YX j)&&((List.range 2).all (nxO j c)&&(decide (0<=c.wt/\c.wt<=j.st)&&(decide (c.wt=0)||arF c))))))
structure JB (j:Jn):Prop where
 n:j.ph.length<=8
 c:j.cf.length<=8
 gp:∀p:Nat,p<j.ph.length->0<=(yW j p).group/\(yW j p).group<=3
theorem JV.b {j:Jn} (J:JV j):JB j:=⟨J.n.2,by rw[J.c];exact J.n.2,J.gp⟩
theorem zVg {n:Nat} (h:n<=8):p2 (n:Int)<=256:=by
 have:n=0∨n=1∨n=2∨n=3∨n=4∨n=5∨n=6∨n=7∨n=8:=by omega
 rcases this with rfl|rfl|rfl|rfl|rfl|rfl|rfl|rfl|rfl<;>decide
theorem zMn (j:Jn) (J:JB j) (c:Ct):zN 226 [wH j,ctA c] [] (bA (vcF j c)) []:=by
 have hlp:=zA wU j.ph;have hll:=zA vF c.li;have hln:=zA iA c.nx;have hn8:=J.n;unfold vcF;by_cases h1:c.li.length=j.ph.length
 case neg=>
  rw[zYa (λh=>h1 h.1)];refine eM call226 λF hF=>?_
  refine WW ?_;exact zJ
 by_cases h2:c.nx.length=2
 case neg=>
  rw[zYa (λh=>h2 h.2)];refine eM call226 λF hF=>?_
  refine WW ?_;exact zJ
 rw[zX8 ⟨h1,h2⟩,zYp];have cs:=zVf c zB;have hsb:=IL (GH c) c.li.length zB;have hp8:=zVg (n:=c.li.length) zB
 change 0<=seF c/\seF c<p2 c.li.length at hsb
 obtain⟨cp,cq,cc,hcl⟩:=zG4 j.cf J.c (seF c) zB
 have hnc:ncF j c=decide (cp= -1):=by
  unfold ncF
  rcases hcl with⟨h3,h4⟩|⟨h3,a,b,ha,hb,h4⟩
  ·rw[zX8 h3,zYf];intro a ha;rw[zYf];intro b hb;rw[h4 a b (zYr.1 ha) (zYr.1 hb)];rfl
  ·rw[zYa zB,yAw];refine⟨a,zYr.2 ha,?_⟩;rw[yAs,yAw];exact⟨b,zYr.2 hb,by rw[h4];decide⟩
 have hcp:cp= -1∨0<=cp:=by
  rcases hcl with h|h
  ·exact .inl h.1
  ·exact .inr h.1
 have cg:=FR j zB J.gp;have ca:=FS c zB;clear hcl;rw[hnc];generalize seF c=se at *;generalize YX j=gm at *;generalize hra:arF c=ra at *;refine eM call226 λF hF=>?_
 refine WW ?_;refine xV (j.ph.length) [2,3] [2,3] [2,3,25,26] [27,2,3,25,26] rfl (λi T U zs=>(∀s:Nat,s<i->RS (yW j s) (xY c s)=true)/\zs=⟨(27,iA i)::T,U⟩) ?_;(conv=>whnf);refine⟨?_,?_,?_⟩
 ·exact⟨λs hs=>absurd hs (yAi _),rfl⟩
 ·rintro i st hi ⟨hp,rfl⟩;have hy:=zM wU j.ph i hi;have hyl:=zM vF c.li i zB
  change (j.ph.map wU)[i]? =some (wU (yW j i))at hy
  change (c.li.map vF)[i]? =some (vF (xY c i))at hyl
  have cv:=zHm (yW j i) (xY c i)
  cases hq:RS (yW j i) (xY c i)with
  | true=>
   rw[hq]at cv
   have hp2:∀s:Nat,s<i+1->RS (yW j s) (xY c s)=true:=λs hs=>by
    by_cases hsi:s=i
    ·subst hsi;assumption
    ·exact hp s zB
   clear hq hp;generalize yW j i=t at *;generalize xY c i=l at *;clear cs cc cg ca;refine zU cv ?_;exact⟨hp2,rfl⟩
  |false=>
   have hnv:nvF j c=false:=yAw.2 ⟨i,zYr.2 hi,by rw[hq];decide⟩;rw[hq]at cv;rw[hnv,zZw];clear hq hp;generalize yW j i=t at *;generalize xY c i=l at *;clear cs cc cg ca;refine zU cv ?_;exact zJ
 ·rintro st ⟨hp,rfl⟩;have hnv:nvF j c=true:=zYf.2 λi hi=>hp i (zYr.1 hi)
  rw[hnv,zYp];clear hp hnv;by_cases hcq:cp= -1
  case neg=>
   rw[zYa hcq];refine yQ (wZ cs cc) ?_;exact zJ
  rw[zX8 hcq,zYp];by_cases hg0:0<=c.gr
  case neg=>
   rw[zYa (λh=>hg0 h.1)];refine yQ (fB cs cc cg) ?_;exact zJ
  by_cases hg1:c.gr<gm
  case neg=>
   rw[zYa (λh=>hg1 h.2)];refine yQ (fB cs cc cg) ?_;exact zJ
  rw[zX8 ⟨hg0,hg1⟩,zYp];refine yQ (fB cs cc cg) ?_;refine xV (c.nx.length) [2,3] [2,3] [2,3,62,63] [64,2,3,62,63] rfl (λi T U zs=>(∀s:Nat,s<i->nxO j c s=true)/\zs=⟨(64,iA i)::T,U⟩) ?_;(conv=>whnf);refine⟨?_,?_,?_⟩
  ·exact⟨λs hs=>absurd hs (yAi _),rfl⟩
  ·rintro i st hi ⟨hp,rfl⟩;have hy:=zM iA c.nx i hi;have co:=zXc j zB i c.gr
   have hlen:(KZ j i c.gr j.ph.length).length<=1000:=by
    have:(KZ j i c.gr j.ph.length).length<=(List.range j.ph.length).length:=yAd _ _;rw[zZk]at this;omega
   have ch:=AA (KZ j i c.gr j.ph.length) hlen (c.nx.getD i default)
   have next:nxO j c i=true->∀s:Nat,s<i+1->nxO j c s=true:=λh s hs=>by
    by_cases hsi:s=i
    ·subst hsi;exact h
    ·exact hp s zB
   have stop:nxO j c i=false->((List.range 2).all (nxO j c))=false:=λh=>yAw.2 ⟨i,zYr.2 zB,by rw[h];decide⟩
   have ex:nxO j c i=(decide (c.nx.getD i default= -1)||JC (KZ j i c.gr j.ph.length) (c.nx.getD i default)):=rfl;clear hp cs cc cg ca;generalize KZ j i c.gr j.ph.length=o at *;generalize JC o (c.nx.getD i default)=hb at *;generalize c.nx.getD i default=x at *;generalize nxO j c i=q at *;by_cases hx:x= -1
   ·rw[zX8 hx]at ex;have hnx:=next ex;refine WW ?_;exact⟨hnx,rfl⟩
   rw[zYa hx,yBa]at ex
   cases hb with
   |true=>
    have hnx:=next ex;refine yQ (wZ co ch) ?_;exact⟨hnx,rfl⟩
   |false=>
    rw[stop ex,zZw];refine yQ (wZ co ch) ?_;exact zJ
  ·rintro st ⟨hp,rfl⟩;have hall:((List.range 2).all (nxO j c))=true:=zYf.2 λi hi=>hp i (by have:=zYr.1 hi;omega)
   rw[hall,zYp];clear hp hall;by_cases hw0:0<=c.wt
   case neg=>
    rw[zYa (λh=>hw0 h.1)];refine WW ?_;exact zJ
   by_cases hw1:c.wt<=j.st
   case neg=>
    rw[zYa (λh=>hw1 h.2)];refine WW ?_;exact zJ
   rw[zX8 ⟨hw0,hw1⟩,zYp];by_cases hz:c.wt=0
   ·rw[zX8 hz];refine WW ?_;exact zJ
   ·rw[zYa hz,yBa];refine zU ca ?_;exact zJ
theorem zSa {j:Jn} (J:JV j) {c:Ct} (C:CV j c):vcF j c=true:=by
 have hn:=C.n;have hJ:=J.n;unfold vcF;have h1:nvF j c=true:=zYf.2 λp hp=>C.k p (zYr.1 hp)
 have h2:ncF j c=true:=by
  unfold ncF;rw[zYf];intro a ha;rw[zYf];intro b hb;have ha:=zYr.1 ha;have hb:=zYr.1 hb;rw[J.c]at ha hb
  have hin:∀p:Nat,p<j.ph.length->PB (seF c) p=GH c p:=λp hp=>by
   unfold seF;have e:=KY (λq=>decide (q<c.li.length)&&GH c q) c.li.length 8 zB (λi h1 h2=>by rw[zYa zB];rfl);have e2:gB (GH c) c.li.length=gB (λq=>decide (q<c.li.length)&&GH c q) c.li.length:=cV _ λi hi=>by rw[zX8 hi];rfl
   rw[e2,<-e,zG2 _ p zB,zX8 zB];rfl
  rw[yAb];unfold GI;rw[hin a ha,hin b hb];by_cases hab:b=a
  ·rw[zYa (λh=>h hab)];simp
  ·cases hsa:GH c a with
   |false=>rfl
   | true=>
    cases hsb:GH c b with
    |false=>simp
    |true=>
     rw[C.x a b ha hb (λh=>hab h.symm) (by simpa [GH]using hsa) (by simpa [GH]using hsb)];simp
 have h3:((List.range 2).all (nxO j c))=true:=zYf.2 λr hr=>by
  have hr:=zYr.1 hr;unfold nxO
  rcases C.v r hr with h|h
  ·rw[zX8 h];rfl
  ·have:JC (KZ j r c.gr j.ph.length) (c.nx.getD r default)=true:=by
    unfold JC;rw[zZp];obtain⟨a,b,d,e⟩:=h;refine⟨(c.nx.getD r default).toNat,?_,by rw[zZg];omega⟩;unfold KZ;rw[yA7,zYr];refine⟨zB,?_⟩;rw[d,e];simp
   rw[this,yAk]
 rw[zX8 ⟨hn,C.m⟩,h1,h2,zX8 C.g,h3,zX8 C.w];simp only[zYp]
 rcases C.z with h|h
 ·rw[zX8 h];rfl
 ·have:arF c=true:=by
   unfold arF;rw[zYf];intro l hl;obtain⟨i,hi,rfl⟩:=yAa hl;have:=h i zB;simpa [xY,List.getD,hi]using this
  rw[this,yAk]
theorem zXd (y:Int):jU y 1=0∨jU y 1=1:=by
 show IntKind.i64.wrap (BitVec.ofInt 64 y &&& BitVec.ofInt 64 1).toNat=0∨IntKind.i64.wrap (BitVec.ofInt 64 y &&& BitVec.ofInt 64 1).toNat=1
 have e1:BitVec.ofInt 64 1=1#64:=by decide
 have h:(BitVec.ofInt 64 y &&& BitVec.ofInt 64 1).toNat=(BitVec.ofInt 64 y).toNat % 2:=by
  rw[e1,BitVec.toNat_and];exact Nat.and_one_is_mod _
 rw[h];have h2:(BitVec.ofInt 64 y).toNat % 2=0∨(BitVec.ofInt 64 y).toNat % 2=1:=by omega
 rcases h2 with h2|h2<;>rw[h2]
 ·exact .inl yZ
 ·exact .inr yZ
theorem JD {rows:List Int} {p q:Nat} (hp:p<rows.length) (hq:q<rows.length):jU (uB (rows.getD p default) q) 1=if fO rows p q=true then 1 else 0:=by
 unfold fO;rw[zX8 zB,zYp,zZh];split
 ·rename_i h
  rwa [zZg]at h
 ·rename_i h;rw[zZg]at h
  rcases zXd (uB (rows.getD p default) q)with h1|h1
  ·exact h1
  ·exact absurd h1 h
theorem zXe {x:Int} {n:Nat} (h:0<=x/\x<2 ^ n):uB x n=0:=by
 unfold uB;rw[zZh];exact Int.fdiv_eq_zero_of_lt h.1 h.2
theorem zDo (j:Jn) (J:JV j):zN 175 [zD iA j.cf] [] (bA true) []:=by
 have hl:=zA iA j.cf;have hn:=J.n;have hc:=J.c;refine eM call175 λF hF=>?_
 refine WW ?_;refine zP (j.cf.length) [] [] [0,14,15] [16,0,14,15] rfl (λi T U=>⟨(16,iA i)::T,U⟩) ?_;(conv=>whnf);refine⟨by rfl,?_,?_⟩
 ·intro u hu;have hy:=zM iA j.cf u hu;have hrow:=J.row u zB;have hs0:=zXe hrow;rw[<-hc,<-hl]at hs0;have hir:=JD (p:=u) (q:=u) hu hu;rw[J.ir u zB,zX0 yZ]at hir
  have hpq:∀v,v<j.cf.length->jU (uB (j.cf.getD u default) v) 1=jU (uB (j.cf.getD v default) u) 1:=λv hv=>by
   rw[JD hu hv,JD hv hu,J.sy u v zB zB]
  generalize j.cf.getD u default=x at *;refine WW ?_;refine zP (j.cf.length) [] [] [0,3,4,14,15,16,38] [39,0,3,4,14,15,16,38] rfl (λi T U=>⟨(39,iA i)::T,U⟩) ?_;(conv=>whnf);refine⟨by rfl,?_,?_⟩
  ·intro v hv;have hyv:=zM iA j.cf v hv;have hpq:=hpq v hv;generalize j.cf.getD v default=y at *;refine WW ?_;rfl
  ·clear hpq;refine WW ?_;rfl
 ·(refine WW ?_)
  exact zJ
theorem dB (n a b:Int) (h:a<=n/\n<=b):zN 141 [iA n,iA a,iA b] [] (bA true) []:=by
 obtain⟨h1,h2⟩:=h;refine eM call141 λF hF=>?_
 refine WW ?_;exact zJ
theorem zG8 (j:Jn) (J:JV j) (p:Nat) (hp:p<j.ph.length):zN 176 [wU (yW j p)] [] (bA true) []:=by
 have hr:=J.rg p hp;have hg:=J.gp p hp;obtain⟨t1,t2,t3,t4,t5,t6,t7,t8,t9,t10,t11,t12,t13⟩:=J.ti p hp;generalize yW j p=t at *;have c1:=dB t.ring 0 1 hr;have c2:=dB t.group 0 3 hg;have c3:=dB t.ming 1 60 ⟨t1,zB⟩;have c4:=dB t.maxg 1 60 ⟨zB,t3⟩;have c5:=dB t.yel 1 60 ⟨t4,t5⟩;have c6:=dB t.red 0 60 ⟨t6,t7⟩;have c7:=dB t.walk 0 60 ⟨t8,t9⟩;have c8:=dB t.clear 0 60 ⟨t10,t11⟩;by_cases h0:t.walk=0
 ·have h1:=t13.1 h0;clear t13;refine eM call176 λF hF=>?_
  refine yQ (zt8 c1 c2 c3 c4 c5 c6 c7 c8) ?_;exact zJ
 ·have h1:¬t.clear=0:=λh=>h0 (t13.2 h)
  clear t13;refine eM call176 λF hF=>?_
  refine yQ (zt8 c1 c2 c3 c4 c5 c6 c7 c8) ?_;exact zJ
theorem zG9 (j:Jn) (J:JV j):zN 177 [wH j] [] (bA true) []:=by
 have hl:=zA wU j.ph;have hn:=J.n;have hc:=J.c;refine eM call177 λF hF=>?_
 repeat' (first|(refine zE ?_;first|refine vN tok rfl rfl ?_|refine YH tok rfl rfl rfl rfl ?_|refine qF ?_)|first|refine SQ ?_|fail|refine vH ?_|refine vI ?_|refine yT ?_)
 refine zP (j.ph.length) [1] [1] [1,9,10] [3,11,1,9,10] rfl (λi T U=>⟨(3,bA true)::(11,iA i)::T,U⟩) ?_;(conv=>whnf);refine⟨by rfl,?_,?_⟩
 ·intro u hu;have hy:=zM wU j.ph u hu
  change (j.ph.map wU)[u]? =some (wU (yW j u))at hy
  refine WW ?_;refine zP (j.ph.length) [1,5] [1,5] [1,4,5,9,10,11,17,18] [3,19,1,4,5,9,10,11,17,18] rfl (λi T U=>⟨(3,bA true)::(19,iA i)::T,U⟩) ?_;(conv=>whnf);refine⟨by rfl,?_,?_⟩
  ·intro v hv;have hyv:=zM wU j.ph v hv
   change (j.ph.map wU)[v]? =some (wU (yW j v))at hyv
   have ck:=jV j.cf zB u v;have hap:=J.ap u v hu hv;by_cases huv:u=v
   ·have hne:(u:Int)=v:=by omega
    clear hap;generalize yW j u=a at *;generalize yW j v=b at *;refine WW ?_;rfl
   have hne:¬(u:Int)=v:=by omega
   by_cases h1:(yW j u).ring=(yW j v).ring
   ·rw[hap huv (.inl h1)]at ck;clear hap;generalize yW j u=a at *;generalize yW j v=b at *;refine zU ck ?_;rfl
   by_cases h2:(yW j u).group=(yW j v).group
   ·clear hap;generalize yW j u=a at *;generalize yW j v=b at *;refine WW ?_;rfl
   ·rw[hap huv (.inr h2)]at ck;clear hap;generalize yW j u=a at *;generalize yW j v=b at *;refine zU ck ?_;rfl
  ·generalize yW j u=a at *;refine WW ?_;rfl
 ·(refine WW ?_)
  exact zJ
def LC (j:Jn) (i:Nat) (g:Nat):Bool:=(List.range i).any λp=>(yW j p).group==(g:Int)
theorem zHa (j:Jn) (i:Nat):LC j (i+1)=λg=>LC j i g||((yW j i).group==(g:Int)):=by
 funext g
 unfold LC;rw[yAh,List.any_append];simp
theorem zVh (g:Nat) (h:g<4):p2 (g:Int)=gB (λx:Nat=>(g:Int)==(x:Int)) 8:=by
 have:g=0∨g=1∨g=2∨g=3:=by omega
 rcases this with rfl|rfl|rfl|rfl<;>decide
theorem zXf:∀b0 b1 b2 b3:Bool,(b1=true->b0=true)->(b2=true->b1=true)->(b3=true->b2=true)->jU (gB (bq b0 b1 b2 b3 false false false false) 8) (gB (bq b0 b1 b2 b3 false false false false) 8+1)=0:=by decide +kernel
theorem zMo (j:Jn) (J:JV j):jU (gB (LC j j.ph.length) 8) (gB (LC j j.ph.length) 8+1)=0:=by
 have hf:∀g:Nat,4<=g->LC j j.ph.length g=false:=λg hg=>by
  unfold LC;rw[yAx];intro p hp;have:=J.gp p (zYr.1 hp);simp;omega
 have hd:∀g:Nat,LC j j.ph.length (g+1)=true->LC j j.ph.length g=true:=λg h=>by
  unfold LC at h⊢;rw[zZp]at h⊢;obtain⟨p,hp,hg⟩:=h;rw[zZg]at hg;obtain⟨q,hq,hqg⟩:=J.lo p (zYr.1 hp) g zB zB;exact⟨q,zYr.2 hq,by rw[zZg];exact hqg⟩
 have e:gB (LC j j.ph.length) 8=gB (bq (LC j j.ph.length 0) (LC j j.ph.length 1) (LC j j.ph.length 2) (LC j j.ph.length 3) false false false false) 8:=cV 8 λi hi=>by
  match i,hi with
  |0,_=>rfl|1,_=>rfl|2,_=>rfl|3,_=>rfl
  |4,_=>exact hf 4 zB
  |5,_=>exact hf 5 zB
  |6,_=>exact hf 6 zB
  |7,_=>exact hf 7 zB
  |i+8,h=>omega
 rw[e];exact zXf _ _ _ _ (hd 0) (hd 1) (hd 2)
theorem TX (j:Jn) (J:JV j):zN 142 [wH j] [] (bA true) []:=by
 have hl:=zA wU j.ph;have hlc:=zA iA j.cf;have hn:=J.n;have hc:=J.c;have c1:=zDo j J;have c2:=dB j.st 0 60 J.st;have c3:=zG9 j J;have hgd:=zMo j J;have hbb:=IL (LC j j.ph.length) 8 zB;have hp8:p2 ((8:Nat):Int)=256:=by decide
 refine eM call142 λF hF=>?_
 refine yQ (wZ c1 c2) ?_;refine zP (j.ph.length) [1] [1] [1,34,35] [4,36,1,34,35] rfl (λi T U=>⟨(4,iA (gB (LC j i) 8))::(36,iA i)::T,U⟩) ?_;(conv=>whnf);refine⟨by rfl,?_,?_⟩
 ·intro u hu;have hy:=zM wU j.ph u hu
  change (j.ph.map wU)[u]? =some (wU (yW j u))at hy
  have cp:=zG8 j J u hu;have hg:=J.gp u hu;have es:=zHa j u;obtain⟨gn,hgn⟩:∃n:Nat,(yW j u).group=n:=⟨(yW j u).group.toNat,zB⟩;have hor:=zUe (LC j u) (λx:Nat=>(gn:Int)==(x:Int));rw[<-zVh gn zB]at hor;rw[hgn]at es;rw[es,<-hor];generalize gB (LC j u) 8=b at *;rw[<-hgn];clear c1 c2 c3 hor es;generalize yW j u=t at *;refine zU cp ?_;rfl
 ·generalize gB (LC j j.ph.length) 8=b at *;refine zU c3 ?_;exact zJ
theorem PC {p:Nat->Bool}:∀(l:List Nat) (i x:Nat),l[i]? =some x->(∀y∈l.take i,p y=false)->p x=true->l.find? p=some x
 | [],i,x,h,_,_=>by simp at h
 |y::l,0,x,h,_,hp=>by
  simp at h;subst h;rw[yDq,hp]
 |y::l,i+1,x,h,ha,hp=>by
  rw[yDq,ha y zS];exact PC l i x UD (λz hz=>ha z (by simp[hz])) hp
theorem zBt {p:Nat->Bool} {l:List Nat} (h:∀y∈l,p y=false):l.find? p=none:=yCo.2 λy hy=>by rw[h y hy];decide
theorem UV {l:List Nat} {i x z:Nat} (hx:l[i]? =some x) (hz:z∈l.take (i+1)):z∈l.take i∨z=x:=by
 rw[yAz,hx]at hz;simpa using hz
theorem XN (j:Jn) (hn:j.ph.length<=1000) (r g f:Int):zN 206 [wH j,iA r,iA g,iA f] [] (iA (bC j r g f)) []:=by
 have c:=zHn j r;unfold zDp at c;have hl:=zA wU j.ph;refine eM call206 λF hF=>?_
 refine zU c ?_;refine uJ hF (AE j hn r) rfl [4,6,7,8] [4,6,7,8] rfl rfl rfl rfl rfl rfl rfl rfl rfl (λi ys h=>?_) (λ_=>[(4,.box [zD wU j.ph,zD iA j.cf,iA j.st]),(6,.box [iA g]),(7,.box [iA f]),(8,.box [iA 0])]) (λi=>∀x∈(NR j r).take i,(decide (f<=(x:Int))&&(yW j x).group==g)=false) (T:=[(4,.ptr 4 0 0),(6,.ptr 6 0 0),(7,.ptr 7 0 0),(8,.ptr 8 0 0)]) rfl zS (λi ys y hys hI F1 h1 h2=>?_) (λhI=>?_)
 ·rw[zX4,zYg]at h;obtain⟨x,_,rfl⟩:=h;rfl
 ·rw[zX4,zYg]at hys;obtain⟨x,hx,rfl⟩:=hys
  show uG _ F1 _ _ ⟨[(13,iA (x:Int)),(4,.ptr 4 0 0),(6,.ptr 6 0 0),(7,.ptr 7 0 0),(8,.ptr 8 0 0)],[(4,.box [zD wU j.ph,zD iA j.cf,iA j.st]),(6,.box [iA g]),(7,.box [iA f]),(8,.box [iA 0])]⟩ _
  have hxn:=(bG.1 (zZn hx)).1;have hy:(j.ph.map wU)[x]? =some (wU (yW j x)):=zM wU j.ph x hxn
  have next:(decide (f<=(x:Int))&&(yW j x).group==g)=false->∀z∈(NR j r).take (i+1),(decide (f<=(z:Int))&&(yW j z).group==g)=false:=λhb z hz=>by
   rcases UV hx hz with h|rfl
   ·exact hI z h
   ·exact hb
  have hit:(decide (f<=(x:Int))&&(yW j x).group==g)=true->bC j r g f=x:=λhb=>by
   unfold bC;rw[PC _ i x hx hI hb]
  clear hI hx;generalize yW j x=t at *;refine WW ?_;refine⟨rfl,λF2 g1 g2=>?_⟩;by_cases h3:f<=(x:Int)
  ·by_cases h4:t.group=g
   ·rw[hit (by rw[zX8 h3,zZg.2 h4];rfl)];refine WW ?_;exact zJ
   ·have hnx:=next (by rw[zY9.2 h4,yBz]);refine WW ?_;exact⟨rfl,hnx⟩
  ·have hnx:=next (by rw[zYa h3,zZw]);refine WW ?_;exact⟨rfl,hnx⟩
 ·rw[zX2,zX7]at hI
  have hno:bC j r g f= -1:=by
   unfold bC;rw[zBt hI]
  rw[hno];refine WW ?_;exact zJ
theorem zSb (j:Jn) (hn:j.ph.length<=1000) (c:Ct) (hc:c.li.length=j.ph.length) (r:Int):zN 252 [wH j,ctA c,iA r] [] (bA (BC j c r)) []:=by
 have cp:=zHn j r;unfold zDp at cp;have hl:=zA wU j.ph;have hl2:=zA vF c.li;refine eM call252 λF hF=>?_
 refine zU cp ?_;refine uJ hF (AE j hn r) rfl [3,4,6] [3,4,6] rfl rfl rfl rfl rfl rfl rfl rfl rfl (λi ys h=>?_) (λ_=>[(3,.box [zD wU j.ph,zD iA j.cf,iA j.st]),(4,.box [zD vF c.li,iA c.gr,zD iA c.nx,iA c.wt]),(6,.box [bA false])]) (λi=>∀x∈(NR j r).take i,((xY c x).lamp==0)=true) (T:=[(3,.ptr 3 0 0),(4,.ptr 4 0 0),(6,.ptr 6 0 0)]) rfl zS (λi ys y hys hI F1 h1 h2=>?_) (λhI=>?_)
 ·rw[zX4,zYg]at h;obtain⟨x,_,rfl⟩:=h;rfl
 ·rw[zX4,zYg]at hys;obtain⟨x,hx,rfl⟩:=hys
  show uG _ F1 _ _ ⟨[(11,iA (x:Int)),(3,.ptr 3 0 0),(4,.ptr 4 0 0),(6,.ptr 6 0 0)],[(3,.box [zD wU j.ph,zD iA j.cf,iA j.st]),(4,.box [zD vF c.li,iA c.gr,zD iA c.nx,iA c.wt]),(6,.box [bA false])]⟩ _
  have hmem:=zZn hx;have hxn:=(bG.1 hmem).1;have hy:(c.li.map vF)[x]? =some (vF (xY c x)):=zM vF c.li x zB
  have next:((xY c x).lamp==0)=true->∀z∈(NR j r).take (i+1),((xY c z).lamp==0)=true:=λhb z hz=>by
   rcases UV hx hz with h|rfl
   ·exact hI z h
   ·exact hb
  have hit:((xY c x).lamp==0)=false->BC j c r=false:=λhb=>by
   unfold BC;exact yAw.2 ⟨x,hmem,by rw[hb];decide⟩
  clear hI hx;generalize xY c x=t at *;refine WW ?_;refine⟨rfl,λF2 g1 g2=>?_⟩;by_cases h4:t.lamp=0
  ·have hnx:=next (zZg.2 h4);refine WW ?_;exact⟨rfl,hnx⟩
  ·rw[hit (zY9.2 h4)];refine WW ?_;exact zJ
 ·rw[zX2,zX7]at hI;have hd:BC j c r=true:=zYf.2 hI;rw[hd];refine WW ?_;exact zJ
def lsN (j:Jn) (r t:Int) (i:Nat):Int:=match ((NR j r).take i).find? (λp:Nat=>!fO j.cf p t)with
 |some p=>p
 |none=> -1
theorem zHb {j:Jn} {r t:Int} {i x:Nat} (hx:(NR j r)[i]? =some x):lsN j r t (i+1)=if fO j.cf x t=true then lsN j r t i else if lsN j r t i= -1 then(x:Int)else lsN j r t i:=by
 unfold lsN;rw[yAz,hx,yDj]
 cases hf:((NR j r).take i).find? (λp:Nat=>!fO j.cf p t)with
 |some p=>
  show((p:Nat):Int)=if fO j.cf x t=true then(p:Int)else if(p:Int)= -1 then(x:Int)else(p:Int)
  split
  ·rfl
  ·rw[zX0 zB]
 |none=>
  simp only[Option.none_or,yDf,yDq,List.find?_nil]
  cases fO j.cf x t<;>rfl
theorem zSc (j:Jn) (hn:j.ph.length<=1000) (hcf:j.cf.length<=40) (c:Ct) (hm:c.nx.length=2) (r t:Int) (hr:0<=r/\r<2):zN 253 [wH j,ctA c,iA r,iA t] [] (iA (cmF j (c.nx.getD r.toNat default) r t)) []:=by
 have cp:=zHn j r;unfold zDp at cp;have hl:=zA wU j.ph;have hl2:=zA iA c.nx;have hyn:=yM iA c.nx r hr.1 zB;generalize hxe:c.nx.getD r.toNat default=xn at *;refine eM call253 λF hF=>?_
 refine zU cp ?_;refine uJ hF (AE j hn r) rfl [4,5,6,7,8,9] [4,5,6,7,8,9] rfl rfl rfl rfl rfl rfl rfl rfl rfl (λi ys h=>?_) (λi=>[(4,.box [zD wU j.ph,zD iA j.cf,iA j.st]),(5,.box [zD vF c.li,iA c.gr,zD iA c.nx,iA c.wt]),(6,.box [iA r]),(7,.box [iA t]),(8,.box [iA 0]),(9,.box [iA (lsN j r t i)])]) (λi=>∀x∈(NR j r).take i,(!fO j.cf x t&&decide (xn≠ -1/\xn<=(x:Int)))=false) (T:=[(4,.ptr 4 0 0),(5,.ptr 5 0 0),(6,.ptr 6 0 0),(7,.ptr 7 0 0),(8,.ptr 8 0 0),(9,.ptr 9 0 0)]) rfl zS (λi ys y hys hI F1 h1 h2=>?_) (λhI=>?_)
 ·rw[zX4,zYg]at h;obtain⟨x,_,rfl⟩:=h;rfl
 ·rw[zX4,zYg]at hys;obtain⟨x,hx,rfl⟩:=hys
  show uG _ F1 _ _ ⟨[(14,iA (x:Int)),(4,.ptr 4 0 0),(5,.ptr 5 0 0),(6,.ptr 6 0 0),(7,.ptr 7 0 0),(8,.ptr 8 0 0),(9,.ptr 9 0 0)],[(4,.box [zD wU j.ph,zD iA j.cf,iA j.st]),(5,.box [zD vF c.li,iA c.gr,zD iA c.nx,iA c.wt]),(6,.box [iA r]),(7,.box [iA t]),(8,.box [iA 0]),(9,.box [iA (lsN j r t i)])]⟩ _
  have hxn:=(bG.1 (zZn hx)).1;have ck:=jV j.cf hcf x t;have es:=zHb (t:=t) hx
  have next:(!fO j.cf x t&&decide (xn≠ -1/\xn<=(x:Int)))=false->∀z∈(NR j r).take (i+1),(!fO j.cf z t&&decide (xn≠ -1/\xn<=(z:Int)))=false:=λhb z hz=>by
   rcases UV hx hz with h|rfl
   ·exact hI z h
   ·exact hb
  have hit:(!fO j.cf x t&&decide (xn≠ -1/\xn<=(x:Int)))=true->cmF j xn r t=x:=λhb=>by
   unfold cmF;rw[PC _ i x hx hI hb]
  clear hI hx hxe;generalize fO j.cf x t=q at *;generalize lsN j r t (i+1)=l2 at *;generalize lsN j r t i=l1 at *;refine WW ?_;refine⟨rfl,λF2 g1 g2=>?_⟩
  cases q with
  |true=>
   rw[zX1 rfl]at es;have hnx:=next rfl;subst es;refine zU ck ?_;exact⟨rfl,hnx⟩
  |false=>
  rw[zX0 yZ]at es;by_cases h3:xn= -1
  ·have hnx:=next (by rw[zYa (λh=>h.1 h3)];rfl);by_cases h4:l1= -1
   ·rw[zX1 h4]at es;subst es;refine zU ck ?_;exact⟨rfl,hnx⟩
   ·rw[zX0 h4]at es;subst es;refine zU ck ?_;exact⟨rfl,hnx⟩
  by_cases h5:xn<=(x:Int)
  ·rw[hit (by rw[zX8 ⟨h3,h5⟩];rfl)];refine zU ck ?_;exact zJ
  ·have hnx:=next (by rw[zYa (λh=>h5 h.2)];rfl);by_cases h4:l1= -1
   ·rw[zX1 h4]at es;subst es;refine zU ck ?_;exact⟨rfl,hnx⟩
   ·rw[zX0 h4]at es;subst es;refine zU ck ?_;exact⟨rfl,hnx⟩
 ·rw[zX2,zX7]at hI
  have hno:cmF j xn r t=lsN j r t (NR j r).length:=by
   unfold cmF lsN;rw[zBt hI,zX7];rfl
  rw[hno,zX2];generalize lsN j r t (NR j r).length=l1 at *;refine WW ?_;exact zJ
theorem jA {TT:List TI} {rs:List ResultVar} {h0:List (Nat×xN)} {r:AV} {h1:List (Nat×xN)} {st:St} {vs:List AV} (K:List Nat) (h:MN TT st rs=some vs) (hK:(yD h0).all (K.contains ·)=true) (hr:wN K (zC st.h) (DS vs)=r) (hh:wX K (zC st.h)=h1):
 Fin TT rs h0 r h1 .normal st:=⟨.inl rfl,vs,K,h,hK,.inl hr.symm,by rw[hh]⟩
def enN (f0 f1:Int):Nat->List AV
 |0=>[iA 0,iA 0]
 |1=>[iA f0,iA 0]
 |_+2=>[iA f0,iA f1]
theorem zBu (j:Jn) (hn:j.ph.length<=1000) (g gr wt:Int) (L N:List AV) (nL nN:Nat):zN 181 [wH j,.ptr 3000 0 0,iA g] [(3000,.box [.ref 1001 0 nL,iA gr,.ref 1002 0 nN,iA wt]),(1001,.arr 2 L false),(1002,.arr 1 N false)] (.tup [])
  [(3000,.box [.ref 1001 0 nL,iA g,.ref 2001 0 2,iA wt]),(1001,.arr 2 L false),(1002,.arr 1 N false),(2001,.arr 1 [iA (bC j 0 g 0),iA (bC j 1 g 0)] false)]:=by
 have c0:=XN j hn 0 g 0;have c1:=XN j hn 1 g 0;generalize bC j 0 g 0=f0 at *;generalize bC j 1 g 0=f1 at *;obtain⟨N2,hN2⟩:∃n:Nat,n=2:=⟨2,rfl⟩;refine eM call181 λF hF=>?_
 (repeat' (first|refine qB ?_|refine xO (λhc=>?_) (λhc=>?_)|refine wB (λhc=>?_)|(refine zE ?_;first|(refine gU ?_;refine cK 2001 tok rfl rfl rfl rfl rfl rfl rfl rfl rfl rfl rfl rfl rfl zB zB rfl rfl rfl ?_))|fail))
 refine zP (N2) [3000,2001,3,1001,1002] [3,1001,1002] [1,2,3] [20,19,1,2,3] rfl (λi T U=>⟨(20,iA i)::(19,iA N2)::T,(3000,.box [.ref 1001 0 nL,iA g,.ref 2001 0 N2,iA wt])::(2001,.arr 1 (enN f0 f1 i) false)::U⟩) ?_;(conv=>whnf);refine⟨by(rw[hN2];rfl),?_,?_⟩
 ·intro i hi;have:i=0∨i=1:=by omega
  rcases this with rfl|rfl
  ·have hy:(enN f0 f1 0)[((0:Nat):Int).toNat]? =some (iA 0):=rfl;have hl:(enN f0 f1 0).length=2:=rfl;refine zU c0 ?_;rfl
  ·have hy:(enN f0 f1 1)[((1:Nat):Int).toNat]? =some (iA 0):=rfl;have hl:(enN f0 f1 1).length=2:=rfl;refine zU c1 ?_;rfl
 ·have e2:enN f0 f1 N2=[iA f0,iA f1]:=by rw[hN2];rfl
  rw[e2];refine WW ?_;subst hN2;exact jA [3000,1001,1002,2001] rfl rfl rfl rfl
def cL (c:Ct) (kn:Nat):List (Nat×xN):=[(3000,.box [.ref 1001 0 (c.li.map vF).length,iA c.gr,.ref kn 0 (c.nx.map iA).length,iA c.wt]),(1001,.arr 2 (c.li.map vF) false),(kn,.arr 1 (c.nx.map iA) false)]
def JE (c:Ct) (o:List Int):List (Nat×xN):=[(3000,.box [.ref 1001 0 (c.li.map vF).length,iA c.gr,.ref 2001 0 (c.nx.map iA).length,iA c.wt]),(1001,.arr 2 (c.li.map vF) false),(1002,.arr 1 (o.map iA) false),(2001,.arr 1 (c.nx.map iA) false)]
theorem ZX (j:Jn) (hn:j.ph.length<=1000) (hcf:j.cf.length<=40) (c:Ct) (hc:c.li.length=j.ph.length) (hm:c.nx.length=2) (p:Nat) (hp:p<j.ph.length) (hr:0<=(yW j p).ring/\(yW j p).ring<=1) (hg:WX j c p=true∨c.gr=(yW j p).group):
  zN 254 [wH j,.ptr 3000 0 0,iA (p:Int)] (cL c 1002) (.tup []) (cL (jD j c p) 1002):=by
 have hlp:=zA wU j.ph;have hll:=zA vF c.li;have hln:=zA iA c.nx;have hyp:=zM wU j.ph p hp
 change (j.ph.map wU)[p]? =some (wU (yW j p))at hyp
 have cf:=XN j hn (yW j p).ring (yW j p).group (p+1);unfold jD;by_cases hk:WX j c p=true
 case pos=>
  rw[zX1 hk];unfold WX at hk;rw[zZp]at hk;obtain⟨q0,hq0,hk⟩:=hk;rw[zYr]at hq0;unfold cL;refine eM call254 λF hF=>?_
  refine WW ?_;refine xV (c.li.length) [3,3000,1001,1002] [3,3000,1001,1002] [1,2,3,12,13] [14,1,2,3,12,13] rfl (λi T U zs=>(i<=q0)/\zs=⟨(14,iA i)::T,U⟩) ?_;(conv=>whnf);refine⟨?_,?_,?_⟩
  ·exact⟨zYe _,rfl⟩
  ·rintro i st hi ⟨hiq,rfl⟩;have hy:=zM vF c.li i hi
   change (c.li.map vF)[i]? =some (vF (xY c i))at hy
   have ck:=jV j.cf hcf p i;by_cases hb:((xY c i).lamp != 0&&fO j.cf p i)=true
   ·rw[zYh]at hb;have h1:(xY c i).lamp≠0:=by simpa using hb.1
    rw[hb.2]at ck;generalize xY c i=t at *;clear hb cf hk;refine zU ck ?_;exact zL [3000,1001,1002] rfl rfl rfl rfl
   ·have hne:i<q0:=by
     rcases Nat.lt_or_ge i q0 with h|h
     ·exact h
     ·rw[show i=q0 by omega]at hb;exact absurd hk hb
    rw[zYh]at hb;by_cases h1:(xY c i).lamp=0
    ·generalize xY c i=t at *;clear hb hk;refine WW ?_;exact⟨zB,rfl⟩
    ·have hq:fO j.cf p i=false:=by
      cases hq:fO j.cf p i with
      |false=>rfl
      |true=>exact absurd ⟨by simpa using h1,hq⟩ hb
     rw[hq]at ck;generalize xY c i=t at *;clear hb hk;refine zU ck ?_;exact⟨zB,rfl⟩
  ·rintro st ⟨hiq,rfl⟩;exfalso;omega
 have hkf:WX j c p=false:=by simpa using hk
 have hg2:c.gr=(yW j p).group:=by
  rcases hg with hg|hg
  ·exact absurd hg hk
  ·exact hg
 rw[zX0 hk];have eb:JH j c p=b1F c p:=by unfold JH;rw[zX1 hg2]
 rw[eb];unfold WX at hkf;rw[yAx]at hkf;have h0:∀q,q<c.li.length->((xY c q).lamp != 0&&fO j.cf p q)=false:=λq hq=>by simpa using hkf q (zYr.2 hq)
 unfold b1F cL;dsimp only;rw[zZ9,zZ9,zZm,zZm];clear hkf hk eb hg;generalize bC j (yW j p).ring (yW j p).group (p+1)=fo at *;obtain⟨rn,hrn⟩:∃n:Nat,(yW j p).ring=n:=⟨(yW j p).ring.toNat,zB⟩;have hyl:=zM vF c.li p zB;have hyr:=zM iA c.nx rn zB;generalize hx1:xY c p=l0 at*
 change (c.li.map vF)[p]? =some (vF (xY c p))at hyl
 rw[hx1]at hyl;generalize c.nx.getD rn default=n0 at *;refine eM call254 λF hF=>?_
 refine WW ?_;refine zP (c.li.length) [3,3000,1001,1002] [3,3000,1001,1002] [1,2,3,12,13] [14,1,2,3,12,13] rfl (λi T U=>⟨(14,iA i)::T,U⟩) ?_;(conv=>whnf);refine⟨by rfl,?_,?_⟩
 ·intro i hi;have hy:=zM vF c.li i hi
  change (c.li.map vF)[i]? =some (vF (xY c i))at hy
  have ck:=jV j.cf hcf p i;have hb:=h0 i hi;clear h0 hyl hyr cf;by_cases h1:(xY c i).lamp=0
  ·generalize xY c i=t at *;clear hb;refine WW ?_;rfl
  ·have hq:fO j.cf p i=false:=by
    cases hq:fO j.cf p i with
    |false=>rfl
    |true=>
     rw[hq,yB5]at hb;exact absurd (by simpa using hb) h1
   rw[hq]at ck;generalize xY c i=t at *;clear hb;refine zU ck ?_;rfl
 ·clear h0;generalize yW j p=t at *;rw[hrn,zZh];have et:wU t= .agg [iA rn,iA t.group,iA t.ming,iA t.maxg,iA t.yel,iA t.red,iA t.walk,iA t.clear]:=by rw[<-hrn];rfl
  rw[et]at hyp;rw[hrn]at cf;refine zU cf ?_;exact jA [3000,1001,1002] rfl rfl rfl rfl
theorem RQ (j:Jn) (hn:j.ph.length<=1000) (hcf:j.cf.length<=40) (c:Ct) (hc:c.li.length=j.ph.length) (hm:c.nx.length=2) (p:Nat) (hp:p<j.ph.length) (hr:0<=(yW j p).ring/\(yW j p).ring<=1) (hg:WX j c p=true∨c.gr=(yW j p).group):
  zN 254 [wH j,.ptr 3000 0 0,iA (p:Int)] (cL c 2001) (.tup []) (cL (jD j c p) 2001):=by
 have hlp:=zA wU j.ph;have hll:=zA vF c.li;have hln:=zA iA c.nx;have hyp:=zM wU j.ph p hp
 change (j.ph.map wU)[p]? =some (wU (yW j p))at hyp
 have cf:=XN j hn (yW j p).ring (yW j p).group (p+1);unfold jD;by_cases hk:WX j c p=true
 case pos=>
  rw[zX1 hk];unfold WX at hk;rw[zZp]at hk;obtain⟨q0,hq0,hk⟩:=hk;rw[zYr]at hq0;unfold cL;refine eM call254 λF hF=>?_
  refine WW ?_;refine xV (c.li.length) [3,3000,1001,2001] [3,3000,1001,2001] [1,2,3,12,13] [14,1,2,3,12,13] rfl (λi T U zs=>(i<=q0)/\zs=⟨(14,iA i)::T,U⟩) ?_;(conv=>whnf);refine⟨?_,?_,?_⟩
  ·exact⟨zYe _,rfl⟩
  ·rintro i st hi ⟨hiq,rfl⟩;have hy:=zM vF c.li i hi
   change (c.li.map vF)[i]? =some (vF (xY c i))at hy
   have ck:=jV j.cf hcf p i;by_cases hb:((xY c i).lamp != 0&&fO j.cf p i)=true
   ·rw[zYh]at hb;have h1:(xY c i).lamp≠0:=by simpa using hb.1
    rw[hb.2]at ck;generalize xY c i=t at *;clear hb cf hk;refine zU ck ?_;exact zL [3000,1001,2001] rfl rfl rfl rfl
   ·have hne:i<q0:=by
     rcases Nat.lt_or_ge i q0 with h|h
     ·exact h
     ·rw[show i=q0 by omega]at hb;exact absurd hk hb
    rw[zYh]at hb;by_cases h1:(xY c i).lamp=0
    ·generalize xY c i=t at *;clear hb hk;refine WW ?_;exact⟨zB,rfl⟩
    ·have hq:fO j.cf p i=false:=by
      cases hq:fO j.cf p i with
      |false=>rfl
      |true=>exact absurd ⟨by simpa using h1,hq⟩ hb
     rw[hq]at ck;generalize xY c i=t at *;clear hb hk;refine zU ck ?_;exact⟨zB,rfl⟩
  ·rintro st ⟨hiq,rfl⟩;exfalso;omega
 have hkf:WX j c p=false:=by simpa using hk
 have hg2:c.gr=(yW j p).group:=by
  rcases hg with hg|hg
  ·exact absurd hg hk
  ·exact hg
 rw[zX0 hk];have eb:JH j c p=b1F c p:=by unfold JH;rw[zX1 hg2]
 rw[eb];unfold WX at hkf;rw[yAx]at hkf;have h0:∀q,q<c.li.length->((xY c q).lamp != 0&&fO j.cf p q)=false:=λq hq=>by simpa using hkf q (zYr.2 hq)
 unfold b1F cL;dsimp only;rw[zZ9,zZ9,zZm,zZm];clear hkf hk eb hg;generalize bC j (yW j p).ring (yW j p).group (p+1)=fo at *;obtain⟨rn,hrn⟩:∃n:Nat,(yW j p).ring=n:=⟨(yW j p).ring.toNat,zB⟩;have hyl:=zM vF c.li p zB;have hyr:=zM iA c.nx rn zB;generalize hx1:xY c p=l0 at*
 change (c.li.map vF)[p]? =some (vF (xY c p))at hyl
 rw[hx1]at hyl;generalize c.nx.getD rn default=n0 at *;refine eM call254 λF hF=>?_
 refine WW ?_;refine zP (c.li.length) [3,3000,1001,2001] [3,3000,1001,2001] [1,2,3,12,13] [14,1,2,3,12,13] rfl (λi T U=>⟨(14,iA i)::T,U⟩) ?_;(conv=>whnf);refine⟨by rfl,?_,?_⟩
 ·intro i hi;have hy:=zM vF c.li i hi
  change (c.li.map vF)[i]? =some (vF (xY c i))at hy
  have ck:=jV j.cf hcf p i;have hb:=h0 i hi;clear h0 hyl hyr cf;by_cases h1:(xY c i).lamp=0
  ·generalize xY c i=t at *;clear hb;refine WW ?_;rfl
  ·have hq:fO j.cf p i=false:=by
    cases hq:fO j.cf p i with
    |false=>rfl
    |true=>
     rw[hq,yB5]at hb;exact absurd (by simpa using hb) h1
   rw[hq]at ck;generalize xY c i=t at *;clear hb;refine zU ck ?_;rfl
 ·clear h0;generalize yW j p=t at *;rw[hrn,zZh];have et:wU t= .agg [iA rn,iA t.group,iA t.ming,iA t.maxg,iA t.yel,iA t.red,iA t.walk,iA t.clear]:=by rw[<-hrn];rfl
  rw[et]at hyp;rw[hrn]at cf;refine zU cf ?_;exact jA [3000,1001,2001] rfl rfl rfl rfl
theorem RR (j:Jn) (hn:j.ph.length<=1000) (hcf:j.cf.length<=40) (c:Ct) (hc:c.li.length=j.ph.length) (hm:c.nx.length=2) (p:Nat) (hp:p<j.ph.length) (hr:0<=(yW j p).ring/\(yW j p).ring<=1) (hkf:WX j c p=false) (hg2:c.gr≠(yW j p).group):
  zN 254 [wH j,.ptr 3000 0 0,iA (p:Int)] (cL c 1002) (.tup []) (JE (jD j c p) c.nx):=by
 have hlp:=zA wU j.ph;have hll:=zA vF c.li;have hln:=zA iA c.nx;have hyp:=zM wU j.ph p hp
 change (j.ph.map wU)[p]? =some (wU (yW j p))at hyp
 have cf:=XN j hn (yW j p).ring (yW j p).group (p+1);unfold jD;rw[zX0 (by rw[hkf];decide)];have eb:JH j c p=BB j (b1F c p) (yW j p).group:=by unfold JH;rw[zX0 hg2]
 rw[eb];unfold WX at hkf;rw[yAx]at hkf;have h0:∀q,q<c.li.length->((xY c q).lamp != 0&&fO j.cf p q)=false:=λq hq=>by simpa using hkf q (zYr.2 hq)
 have ce:=zBu j hn (yW j p).group c.gr c.wt ((c.li.map vF).set p (vF ⟨1,0⟩)) (c.nx.map iA) (c.li.map vF).length (c.nx.map iA).length;unfold BB b1F cL JE;dsimp only;rw[zZ9,zZ9,zZm,zZm];rw[show([bC j 0 (yW j p).group 0,bC j 1 (yW j p).group 0].map iA)=[iA (bC j 0 (yW j p).group 0),iA (bC j 1 (yW j p).group 0)]from rfl];have hfx:(([iA (bC j 0 (yW j p).group 0),iA (bC j 1 (yW j p).group 0)]:List AV)).length=2:=rfl;rw[hfx]
 have hyf:∃v,([iA (bC j 0 (yW j p).group 0),iA (bC j 1 (yW j p).group 0)]:List AV)[(yW j p).ring.toNat]? =some (iA v):=by
  have:(yW j p).ring=0∨(yW j p).ring=1:=by omega
  rcases this with h|h<;>rw[h]
  ·exact⟨_,rfl⟩
  ·exact⟨_,rfl⟩
 obtain⟨v0,hyf⟩:=hyf;generalize ([iA (bC j 0 (yW j p).group 0),iA (bC j 1 (yW j p).group 0)]:List AV)=fx at *;clear hkf eb;generalize bC j (yW j p).ring (yW j p).group (p+1)=fo at *;obtain⟨rn,hrn⟩:∃n:Nat,(yW j p).ring=n:=⟨(yW j p).ring.toNat,zB⟩;have hyl:=zM vF c.li p zB;rw[hrn,zZh]at hyf;generalize hx1:xY c p=l0 at*
 change (c.li.map vF)[p]? =some (vF (xY c p))at hyl
 rw[hx1]at hyl;refine eM call254 λF hF=>?_
 refine WW ?_;refine zP (c.li.length) [3,3000,1001,1002] [3,3000,1001,1002] [1,2,3,12,13] [14,1,2,3,12,13] rfl (λi T U=>⟨(14,iA i)::T,U⟩) ?_;(conv=>whnf);refine⟨by rfl,?_,?_⟩
 ·intro i hi;have hy:=zM vF c.li i hi
  change (c.li.map vF)[i]? =some (vF (xY c i))at hy
  have ck:=jV j.cf hcf p i;have hb:=h0 i hi;clear h0 hyl cf ce;by_cases h1:(xY c i).lamp=0
  ·generalize xY c i=t at *;clear hb;refine WW ?_;rfl
  ·have hq:fO j.cf p i=false:=by
    cases hq:fO j.cf p i with
    |false=>rfl
    |true=>
     rw[hq,yB5]at hb;exact absurd (by simpa using hb) h1
   rw[hq]at ck;generalize xY c i=t at *;clear hb;refine zU ck ?_;rfl
 ·clear h0;generalize yW j p=t at *;rw[hrn,zZh];have et:wU t= .agg [iA rn,iA t.group,iA t.ming,iA t.maxg,iA t.yel,iA t.red,iA t.walk,iA t.clear]:=by rw[<-hrn];rfl
  rw[et]at hyp;rw[hrn]at cf;refine yQ (wZ ce cf) ?_;exact jA [3000,1001,1002,2001] rfl rfl rfl rfl
def ctT (c:Ct):AV:= .agg [.sl false ((c.li.map vF).take (c.li.map vF).length),iA c.gr,.sl false ((c.nx.map iA).take (c.nx.map iA).length),iA c.wt]
theorem aY (c:Ct):ctT c=ctA c:=by unfold ctT;rw[zX7,zX7];rfl
theorem XO (j:Jn) (hn:j.ph.length<=1000) (c:Ct) (hc:c.li.length=j.ph.length) (r:Int):zN 252 [wH j,ctT c,iA r] [] (bA (BC j c r)) []:=by rw[aY];exact zSb j hn c hc r
theorem AB (j:Jn) (hn:j.ph.length<=1000) (hcf:j.cf.length<=40) (c:Ct) (hm:c.nx.length=2) (r t:Int) (hr:0<=r/\r<2):zN 253 [wH j,ctT c,iA r,iA t] [] (iA (cmF j (c.nx.getD r.toNat default) r t)) []:=by rw[aY];exact zSc j hn hcf c hm r t hr
theorem JF {j:Jn} (J:JV j) {c:Ct} {r:Int} {t:Nat} (ht:t<j.ph.length) (h:YY j c r t≠ -1):∃p:Nat,YY j c r t=p/\p<j.ph.length/\(yW j p).group=(yW j t).group:=by
 unfold YY at h⊢;split
 ·exact⟨t,rfl,ht,rfl⟩
 ·rename_i hr;rw[zX0 hr]at h
  rcases FU j (c.nx.getD r.toNat default) r t with h1|⟨p,h1,h2,_,h4⟩
  ·exact absurd h1 h
  ·refine⟨p,h1,h2,?_⟩;by_cases hpt:p=t
   ·rw[hpt]
   ·exact yA6 λhg=>by
     have:=J.ap p t h2 ht hpt (.inr hg);rw[h4]at this;cases this
theorem fQ (j:Jn) (c:Ct) (p:Nat):(WX j c p=true/\jD j c p=c)∨(WX j c p=false/\(jD j c p).gr=(yW j p).group):=by
 unfold jD;split
 ·rename_i h;exact .inl ⟨h,rfl⟩
 ·rename_i h;refine .inr ⟨by simpa using h,?_⟩;dsimp only;unfold JH;split
  ·rename_i h2;exact h2
  ·rfl
def BA (e:Bool) (c:Ct) (o:List Int):List (Nat×xN):=if e=true then JE c o else cL c 1002
end Av
end Go.Proofs.YtmamjhmoegjapaaGreat
