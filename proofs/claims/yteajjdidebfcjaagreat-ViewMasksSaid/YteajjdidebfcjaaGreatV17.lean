/- Part 17. -/
import Derived.Test.YteajjdidebfcjaaGreatV16
namespace Go.Proofs.YteajjdidebfcjaaGreat
namespace Av
open Tryz
set_option linter.all false
set_option maxRecDepth 4000
set_option maxHeartbeats 1000000
def inS (s p:Int):Bool:=fH (qG s p) 1==1
def zSg:∀(s:_root_.Fin 256) (p:_root_.Fin 8),qQ BinOp.eql (IntKind.u64.wrap ((BitVec.ofInt IntKind.u64.bits (Int.fdiv (s.val:Int) (2 ^ min (p.val:Int).toNat IntKind.u64.bits)) &&& BitVec.ofInt IntKind.u64.bits 1).toNat:Int)) 1=inS s.val p.val:=by decide +kernel
def FO (s p:Int) (hs:0<=s/\s<256) (hp:0<=p/\p<8):zO 304 [iA s,iA p] [] (bA (inS s p)) []:=by
 have hf:=zSg ⟨s.toNat,zB⟩ ⟨p.toNat,zB⟩;rw[show((s.toNat:Nat):Int)=s by omega,show((p.toNat:Nat):Int)=p by omega]at hf;generalize inS s p=q at *;subst hf;refine eM call304 λF hF=>?_
 (repeat' (first|refine uJ ?_|apply xL|apply wB|intro hc|(refine zE ?_;first|(refine xM ?_;refine zP (PF Z Z) Z ?_))|fail))
 exact zJ
def zHd (p:Nat->Bool) (i:Nat) (hi:i<8):inS (cF p 8) i=p i:=zOh p i hi
def GG (c:Ct) (p:Nat):Bool:=(vN c p).lamp != 0
def seF (c:Ct):Int:=cF (GG c) c.li.length
theorem JK (p:Nat->Bool):∀n m:Nat,n<=m->(∀i,n<=i->i<m->p i=false)->cF p m=cF p n
 |n,0,h,_=>by rw[Nat.le_zero.1 h]
 |n,m+1,h,hp=>by
  by_cases e:n=m+1
  ·rw[e]
  ·rw[cF,hp m zB zB];exact JK p n m zB λi h1 h2=>hp i h1 zB
def zSh (p:Nat->Bool) (n:Nat) (hn:n<=25):orI (cF p n) (p2 n)=cF p n+p2 n:=by
 have h1:=OJ p n;have h2:(2:Nat) ^ n<=2 ^ 25:=yCb zB hn;rw[EX,show p2 (n:Int)=((2 ^ n:Nat):Int) by unfold p2;simp,IE _ _ zB zB];have h3:=Nat.two_pow_add_eq_or_of_lt h1 1;rw[Nat.mul_one]at h3;rw[Nat.or_comm,<-h3];omega
def zVi (c:Ct) (hn:c.li.length<=25):zO 283 [ctA c] [] (iA (seF c)) []:=by
 have hl:=zA vT c.li;unfold seF;refine eM call283 λF hF=>?_
 refine WW ?_;refine zS (c.li.length) [] [] [7,8] [3,9,7,8] Z (λi T U=>⟨(3,iA (cF (GG c) i))::(9,iA i)::T,U⟩) ?_;(conv=>whnf);refine⟨by rfl,?_,?_⟩
 ·intro i hi;have hy:=zM vT c.li i hi
  change (c.li.map vT)[i]? =some (vT (vN c i))at hy
  have ho:=zSh (GG c) i zB
  have e:cF (GG c) (i+1)=if GG c i=true then cF (GG c) i+p2 i else cF (GG c) i:=rfl
  rw[<-ho]at e;have hsb:GG c i=((vN c i).lamp != 0):=rfl;rw[e,hsb];generalize cF (GG c) i=b at *;generalize vN c i=t at *;by_cases h:t.lamp=0
  ·rw[zX2 (by simp[h])];refine WW ?_;rfl
  ·rw[zX3 (by simp[h])];refine WW ?_;rfl
 ·(refine WW ?_)
  exact zJ
def LL {P:Nat->Prop}:∀n,P n->∃m,m<=n/\P m/\∀k,k<m->¬P k:=by
 intro n
 induction n using Nat.strongRecOn with
 |_ n ih=>
  intro h;by_cases hx:∃k,k<n/\P k
  ·obtain⟨k,h1,h2⟩:=hx;obtain⟨m,h3,h4,h5⟩:=ih k h1 h2;exact⟨m,zB,h4,h5⟩
  ·exact⟨n,zX7 _,h,λk h1 h2=>hx ⟨k,h1,h2⟩⟩
def GH (rows:List Int) (s:Int) (p q:Nat):Bool:=inS s p&&(decide (q≠p)&&(inS s q&&dV rows p q))
theorem zHe (rows:List Int) (hn:rows.length<=8) (s:Int) (hs:0<=s/\s<256):∃p q:Int,zO 282 [zD iA rows,iA s] [] (.tup [iA p,iA q]) []/\((p= -1/\∀a b:Nat,a<rows.length->b<rows.length->GH rows s a b=false)∨(0<=p/\∃a b:Nat,a<rows.length/\b<rows.length/\GH rows s a b=true)):=by
 have hl:=zA iA rows;by_cases hx:∃a,a<rows.length/\∃b,b<rows.length/\GH rows s a b=true
 ·obtain⟨a,ha,hx⟩:=hx;obtain⟨p,_,⟨hp,hx⟩,hpm⟩:=LL (P:=λa=>a<rows.length/\∃b,b<rows.length/\GH rows s a b=true) a ⟨ha,hx⟩;obtain⟨b,hb⟩:=hx;obtain⟨q,_,⟨hq,hc⟩,hqm⟩:=LL (P:=λb=>b<rows.length/\GH rows s p b=true) b hb;refine⟨p,q,?_,.inr ⟨zB,p,q,hp,hq,hc⟩⟩
  have hsp:inS s p=true:=by
   unfold GH at hc;rw[zYg]at hc;exact hc.1
  refine eM call282 λF hF=>?_
  refine WW ?_;refine xT (rows.length) [] [] [0,1,9] [10,0,1,9] Z (λi T U zs=>(i<=p)/\zs=⟨(10,iA i)::T,U⟩) ?_;(conv=>whnf);refine⟨?_,?_,?_⟩
  ·exact⟨zYl _,rfl⟩
  ·rintro u st hu ⟨hup,rfl⟩;have ci:=FO s u hs zB;by_cases hup2:u=p
   ·subst hup2;rw[hsp]at ci;refine zY ci ?_;refine xT (rows.length) [] [] [0,1,6,9,10,18] [19,0,1,6,9,10,18] Z (λi T U zs=>(i<=q)/\zs=⟨(19,iA i)::T,U⟩) ?_;(conv=>whnf);refine⟨?_,?_,?_⟩
    ·exact⟨zYl _,rfl⟩
    ·rintro v st hv ⟨hvq,rfl⟩;have cj:=FO s v hs zB;have ck:=gJ rows zB u v;by_cases hvq2:v=q
     ·subst hvq2;unfold GH at hc;simp only[zYg,zX9]at hc;rw[hc.2.2.1]at cj;rw[hc.2.2.2]at ck;have hne:(v:Int)≠u:=by omega
      refine yR (wZ cj ck) ?_;exact zJ
     ·have hno:GH rows s u v=false:=by
       cases hcc:GH rows s u v with
       |false=>rfl
       |true=>exact absurd ⟨hv,hcc⟩ (hqm v zB)
      unfold GH at hno;rw[hsp,zYr]at hno;by_cases h1:v=u
      ·have hne:(v:Int)=u:=by omega
       refine WW ?_;exact⟨zB,rfl⟩
      have hne:(v:Int)≠u:=by omega
      rw[zYa h1,zYr]at hno
      cases h2:inS s v with
      |false=>
       rw[h2]at cj;refine zY cj ?_;exact⟨zB,rfl⟩
      |true=>
       rw[h2,zYr]at hno;rw[h2]at cj;rw[hno]at ck;refine yR (wZ cj ck) ?_;exact⟨zB,rfl⟩
    ·rintro st ⟨hvq,rfl⟩;exfalso;omega
   ·have hno:∀b,b<rows.length->GH rows s u b=false:=λb hb=>by
     cases hcc:GH rows s u b with
     |false=>rfl
     |true=>exact absurd ⟨hu,b,hb,hcc⟩ (hpm u zB)
    cases h3:inS s u with
    |false=>
     rw[h3]at ci;refine zY ci ?_;exact⟨zB,rfl⟩
    |true=>
    rw[h3]at ci;refine zY ci ?_;refine zS (rows.length) [] [] [0,1,6,9,10,18] [19,0,1,6,9,10,18] Z (λi T U=>⟨(19,iA i)::T,U⟩) ?_;(conv=>whnf);refine⟨by rfl,?_,?_⟩
    ·intro v hv;have cj:=FO s v hs zB;have ck:=gJ rows zB u v;have hno:=hno v hv;unfold GH at hno;rw[h3,zYr]at hno;by_cases h1:v=u
     ·have hne:(v:Int)=u:=by omega
      refine WW ?_;rfl
     have hne:(v:Int)≠u:=by omega
     rw[zYa h1,zYr]at hno
     cases h2:inS s v with
     |false=>
      rw[h2]at cj;refine zY cj ?_;rfl
     |true=>
      rw[h2,zYr]at hno;rw[h2]at cj;rw[hno]at ck;refine yR (wZ cj ck) ?_;rfl
    ·(refine WW ?_)
     exact⟨zB,rfl⟩
  ·rintro st ⟨hup,rfl⟩;exfalso;omega
 ·have hno:∀a b,a<rows.length->b<rows.length->GH rows s a b=false:=λa b ha hb=>by
   cases hcc:GH rows s a b with
   |false=>rfl
   |true=>exact absurd ⟨a,ha,b,hb,hcc⟩ hx
  refine⟨-1,-1,?_,.inl ⟨rfl,hno⟩⟩;clear hx;refine eM call282 λF hF=>?_
  refine WW ?_;refine zS (rows.length) [] [] [0,1,9] [10,0,1,9] Z (λi T U=>⟨(10,iA i)::T,U⟩) ?_;(conv=>whnf);refine⟨by rfl,?_,?_⟩
  ·intro u hu;have ci:=FO s u hs zB
   cases h3:inS s u with
   |false=>
    rw[h3]at ci;refine zY ci ?_;rfl
   |true=>
   rw[h3]at ci;refine zY ci ?_;refine zS (rows.length) [] [] [0,1,6,9,10,18] [19,0,1,6,9,10,18] Z (λi T U=>⟨(19,iA i)::T,U⟩) ?_;(conv=>whnf);refine⟨by rfl,?_,?_⟩
   ·intro v hv;have cj:=FO s v hs zB;have ck:=gJ rows zB u v;have hno:=hno u v hu hv;unfold GH at hno;rw[h3,zYr]at hno;by_cases h1:v=u
    ·have hne:(v:Int)=u:=by omega
     refine WW ?_;rfl
    have hne:(v:Int)≠u:=by omega
    rw[zYa h1,zYr]at hno
    cases h2:inS s v with
    |false=>
     rw[h2]at cj;refine zY cj ?_;rfl
    |true=>
     rw[h2,zYr]at hno;rw[h2]at cj;rw[hno]at ck;refine yR (wZ cj ck) ?_;rfl
   ·(refine WW ?_)
    rfl
  ·(refine WW ?_)
   exact zJ
def FQ (j:Jn) (hn:j.ph.length<=1000) (hg:∀p:Nat,p<j.ph.length->0<=(xD j p).group/\(xD j p).group<=3):zO 284 [vC j] [] (iA (UH j)) []:=by
 have hl:=zA vK j.ph;unfold UH;refine eM call284 λF hF=>?_
 refine WW ?_;refine zS (j.ph.length) [] [] [7,8] [3,9,7,8] Z (λi T U=>⟨(3,iA (grN j.ph i))::(9,iA i)::T,U⟩) ?_;(conv=>whnf);refine⟨by rfl,?_,?_⟩
 ·intro i hi;have hy:=zM vK j.ph i hi;have hb:=hg i hi;unfold xD at hb;have e:grN j.ph (i+1)=max (grN j.ph i) ((j.ph.getD i default).group+1):=rfl;rw[e];generalize grN j.ph i=g at *;generalize j.ph.getD i default=t at *;refine WW ?_;rfl
 ·(refine WW ?_)
  exact zJ
def JL (j:Jn) (r g:Int) (i:Nat):List Nat:=(List.range i).filter λp=>(xD j p).ring==r&&(xD j p).group==g
def zHf (j:Jn) (r g:Int) (i:Nat):JL j r g (i+1)=if(xD j i).ring=r/\(xD j i).group=g then JL j r g i++[i]else JL j r g i:=by
 unfold JL;rw[yAw,yBv];by_cases h:(xD j i).ring=r/\(xD j i).group=g
 ·rw[zX3 h];simp[h.1,h.2]
 ·rw[zX2 h]
  have:((xD j i).ring==r&&(xD j i).group==g)=false:=by
   rw[Bool.and_eq_false_iff]
   rcases Classical.not_and_iff_not_or_not.1 h with h|h
   ·exact .inl TJ
   ·exact .inr TJ
  simp[this]
def zM5 {α:Type} (f:α->AV) (l:List α):AV.sl false ((l.map f).take (l.map f).length)=zD f l:=by rw[zX6];rfl
def nA (p:Nat):AV:=iA (p:Int)
def zW8 (j:Jn) (hn:j.ph.length<=1000) (r g:Int):zO 286 [vC j,iA r,iA g] [] (zD nA (JL j r g j.ph.length)) []:=by
 have hl:=zA vK j.ph;refine eM call286 λF hF=>?_
 refine WW ?_;refine xA 7 1001 1 Z Z Z ?_;refine zS (j.ph.length) [1001] [] [1,2,11,12] [7,13,1,2,11,12] Z (λi T U=>⟨(7,.ref 1001 0 ((JL j r g i).map nA).length)::(13,iA i)::T,(1001,.arr 1 ((JL j r g i).map nA) true)::U⟩) ?_;(conv=>whnf);refine⟨by rfl,?_,?_⟩
 ·intro i hi;have hy:=zM vK j.ph i hi
  change (j.ph.map vK)[i]? =some (vK (xD j i))at hy
  have es:=zHf j r g i
  have hlen:(JL j r g i).length<=1000:=by
   have:(JL j r g i).length<=(List.range i).length:=yAd _ _;rw[zZr]at this;omega
  have hlm:((JL j r g i).map nA).length<=1000:=by rw[zX5];exact hlen
  rw[es];generalize JL j r g i=o at *;generalize xD j i=t at *;by_cases h1:t.ring=r
  ·by_cases h2:t.group=g
   ·rw[zX3 ⟨h1,h2⟩,zYd];generalize o.map nA=xs at *;refine WW ?_;rfl
   ·rw[zX2 (λh=>h2 h.2)];refine WW ?_;rfl
  ·rw[zX2 (λh=>h1 h.1)];refine WW ?_;rfl
 ·(refine WW ?_)
  exact zI [] Z Z (zM5 _ _) Z
def JM (l:List Nat) (x:Int):Bool:=l.any λp:Nat=>(p:Int)==x
def zHg (l:List Nat) (hn:l.length<=1000) (x:Int):∃k:Int,zO 305 [zD nA l,iA x] [] (iA k) []/\ -1<=k/\k<1000/\(JM l x=decide (0<=k)):=by
 have hl:=zA nA l;by_cases hx:∃i,i<l.length/\((l.getD i default:Nat):Int)=x
 ·obtain⟨i0,h1,h2⟩:=hx;obtain⟨k,_,⟨hk,hkx⟩,hkm⟩:=LL (P:=λi=>i<l.length/\((l.getD i default:Nat):Int)=x) i0 ⟨h1,h2⟩;refine⟨k,?_,zB,zB,?_⟩
  ·(refine eM call305 λF hF=>?_)
   refine WW ?_;refine xT (l.length) [] [] [0,1,7] [8,0,1,7] Z (λi T U zs=>(i<=k)/\zs=⟨(8,iA i)::T,U⟩) ?_;(conv=>whnf);refine⟨?_,?_,?_⟩
   ·exact⟨zYl _,rfl⟩
   ·rintro u st hu ⟨huk,rfl⟩;have hy:=zM nA l u hu;by_cases e:u=k
    ·subst e;generalize l.getD u default=v at *;unfold nA at hy;refine WW ?_;exact zJ
    ·have hne:¬((l.getD u default:Nat):Int)=x:=λh=>hkm u zB ⟨hu,h⟩
     generalize l.getD u default=v at *;unfold nA at hy;refine WW ?_;exact⟨zB,rfl⟩
   ·rintro st ⟨huk,rfl⟩;exfalso;omega
  ·rw[zYa zB];unfold JM;rw[zZy];exact⟨l.getD k default,by simp[List.getD,hk],by rw[zZb];exact hkx⟩
 ·refine⟨-1,?_,zB,zB,?_⟩
  ·(refine eM call305 λF hF=>?_)
   refine WW ?_;refine zS (l.length) [] [] [0,1,7] [8,0,1,7] Z (λi T U=>⟨(8,iA i)::T,U⟩) ?_;(conv=>whnf);refine⟨by rfl,?_,?_⟩
   ·intro u hu;have hy:=zM nA l u hu;have hne:¬((l.getD u default:Nat):Int)=x:=λh=>hx ⟨u,hu,h⟩
    generalize l.getD u default=v at *;unfold nA at hy;clear hx;refine WW ?_;rfl
   ·clear hx;refine WW ?_;exact zJ
  ·rw[zYb zB];unfold JM;rw[yA5];intro p hp;obtain⟨i,hi,rfl⟩:=yAf hp;intro h;rw[zZb]at h;exact hx ⟨i,hi,by simpa [List.getD,hi]using h⟩
def AM (l:List Nat) (hn:l.length<=1000) (x:Int):zO 285 [zD nA l,iA x] [] (bA (JM l x)) []:=by
 obtain⟨k,c,h1,h2,h3⟩:=zHg l hn x;rw[h3];by_cases h:0<=k
 ·rw[zYa h];refine eM call285 λF hF=>?_
  refine zY c ?_;exact zJ
 ·rw[zYb h];refine eM call285 λF hF=>?_
  refine zY c ?_;exact zJ
def zHh (l:Li):zO 307 [vT l] [] (bA (l.lamp != 0)) []:=by
 by_cases h:l.lamp=0
 ·rw[show(l.lamp != 0)=false by simp[h]];refine eM call307 λF hF=>?_
  refine WW ?_;exact zJ
 ·rw[show(l.lamp != 0)=true by simp[h]];refine eM call307 λF hF=>?_
  refine WW ?_;exact zJ
def zSi (c:Ct) (hn:c.li.length<=1000):∃k:Int,zO 309 [zD vT c.li,.fn 307 []] [] (iA k) []/\ -1<=k/\k<1000/\(arF c= !decide (0<=k)):=by
 have hl:=zA vT c.li;by_cases hx:∃i,i<c.li.length/\(vN c i).lamp≠0
 ·obtain⟨i0,h1,h2⟩:=hx;obtain⟨k,_,⟨hk,hkx⟩,hkm⟩:=LL (P:=λi=>i<c.li.length/\(vN c i).lamp≠0) i0 ⟨h1,h2⟩;refine⟨k,?_,zB,zB,?_⟩
  ·(refine eM call309 λF hF=>?_)
   refine WW ?_;refine xT (c.li.length) [] [] [0,1,7] [8,0,1,7] Z (λi T U zs=>(i<=k)/\zs=⟨(8,iA i)::T,U⟩) ?_;(conv=>whnf);refine⟨?_,?_,?_⟩
   ·exact⟨zYl _,rfl⟩
   ·rintro u st hu ⟨huk,rfl⟩;have hy:=zM vT c.li u hu
    change (c.li.map vT)[u]? =some (vT (vN c u))at hy
    have cn:=zHh (vN c u);by_cases e:u=k
    ·subst e;rw[show((vN c u).lamp != 0)=true by simpa using hkx]at cn;generalize vN c u=v at *;refine zY cn ?_;exact zJ
    ·have hne:(vN c u).lamp=0:=yA1 λh=>hkm u zB ⟨hu,h⟩
     rw[show((vN c u).lamp != 0)=false by simpa using hne]at cn;generalize vN c u=v at *;refine zY cn ?_;exact⟨zB,rfl⟩
   ·rintro st ⟨huk,rfl⟩;exfalso;omega
  ·rw[zYa zB];unfold arF;exact yA4.2 ⟨vN c k,by simp[vN,List.getD,hk],by simpa using hkx⟩
 ·have h0:∀i,i<c.li.length->(vN c i).lamp=0:=λi hi=>yA1 λh=>hx ⟨i,hi,h⟩
  refine⟨-1,?_,zB,zB,?_⟩
  ·clear hx;refine eM call309 λF hF=>?_
   refine WW ?_;refine zS (c.li.length) [] [] [0,1,7] [8,0,1,7] Z (λi T U=>⟨(8,iA i)::T,U⟩) ?_;(conv=>whnf);refine⟨by rfl,?_,?_⟩
   ·intro u hu;have hy:=zM vT c.li u hu
    change (c.li.map vT)[u]? =some (vT (vN c u))at hy
    have cn:=zHh (vN c u);have h0:=h0 u hu;rw[show((vN c u).lamp != 0)=false by simpa using h0]at cn;generalize vN c u=v at *;refine zY cn ?_;rfl
   ·(refine WW ?_)
    exact zJ
  ·rw[zYb zB];unfold arF;rw[yC1,zYi];intro l hl;obtain⟨i,hi,rfl⟩:=yAf hl;have:=h0 i hi;simpa [vN,List.getD,hi]using this
def FR (c:Ct) (hn:c.li.length<=1000):zO 287 [ctA c] [] (bA (arF c)) []:=by
 obtain⟨k,c1,h1,h2,h3⟩:=zSi c hn
 have c2:zO 306 [zD vT c.li,.fn 307 []] [] (bA (decide (0<=k))) []:=by
  by_cases h:0<=k
  ·rw[zYa h];refine eM call306 λF hF=>?_
   refine zY c1 ?_;exact zJ
  ·rw[zYb h];refine eM call306 λF hF=>?_
   refine zY c1 ?_;exact zJ
 rw[h3]
 cases hd:decide (0<=k)<;>rw[hd]at c2
 ·(refine eM call287 λF hF=>?_)
  refine zY c2 ?_;exact zJ
 ·(refine eM call287 λF hF=>?_)
  refine zY c2 ?_;exact zJ
def nvF (j:Jn) (c:Ct):Bool:=(List.range j.ph.length).all λp=>ML (xD j p) (vN c p)
def ncF (j:Jn) (c:Ct):Bool:=(List.range j.cf.length).all λa=>(List.range j.cf.length).all λb=>!GH j.cf (seF c) a b
def nxO (j:Jn) (c:Ct) (r:Nat):Bool:=decide (c.nx.getD r default= -1)||JM (JL j r c.gr j.ph.length) (c.nx.getD r default)
def vcF (j:Jn) (c:Ct):Bool:=decide (c.li.length=j.ph.length/\c.nx.length=2)&&(nvF j c&&(ncF j c&&(decide (0<=c.gr/\c.gr<UH j)&&((List.range 2).all (nxO j c)&&(decide (0<=c.wt/\c.wt<=j.st)&&(decide (c.wt=0)||arF c))))))
structure JB (j:Jn):Prop where
 n:j.ph.length<=8
 c:j.cf.length<=8
 gp:∀p:Nat,p<j.ph.length->0<=(xD j p).group/\(xD j p).group<=3
theorem JV.b {j:Jn} (J:JV j):JB j:=⟨J.n.2,by rw[J.c];exact J.n.2,J.gp⟩
def zW9 {n:Nat} (h:n<=8):p2 (n:Int)<=256:=by
 have:n=0∨n=1∨n=2∨n=3∨n=4∨n=5∨n=6∨n=7∨n=8:=by omega
 rcases this with rfl|rfl|rfl|rfl|rfl|rfl|rfl|rfl|rfl<;>decide
theorem zM6 (j:Jn) (J:JB j) (c:Ct):zO 255 [vC j,ctA c] [] (bA (vcF j c)) []:=by
 have hlp:=zA vK j.ph;have hll:=zA vT c.li;have hln:=zA iA c.nx;have hn8:=J.n;unfold vcF;by_cases h1:c.li.length=j.ph.length
 case neg=>
  rw[zYb (λh=>h1 h.1)];refine eM call255 λF hF=>?_
  refine WW ?_;exact zJ
 by_cases h2:c.nx.length=2
 case neg=>
  rw[zYb (λh=>h2 h.2)];refine eM call255 λF hF=>?_
  refine WW ?_;exact zJ
 rw[zYa ⟨h1,h2⟩,zYr];have cs:=zVi c zB;have hsb:=zAj (GG c) c.li.length zB;have hp8:=zW9 (n:=c.li.length) zB
 change 0<=seF c/\seF c<p2 c.li.length at hsb
 obtain⟨cp,cq,cc,hcl⟩:=zHe j.cf J.c (seF c) zB
 have hnc:ncF j c=decide (cp= -1):=by
  unfold ncF
  rcases hcl with⟨h3,h4⟩|⟨h3,a,b,ha,hb,h4⟩
  ·rw[zYa h3,zYi];intro a ha;rw[zYi];intro b hb;rw[h4 a b (zYs.1 ha) (zYs.1 hb)];rfl
  ·rw[zYb zB,yA4];refine⟨a,zYs.2 ha,?_⟩;rw[zZ4,yA4];exact⟨b,zYs.2 hb,by rw[h4];decide⟩
 have hcp:cp= -1∨0<=cp:=by
  rcases hcl with h|h
  ·exact .inl h.1
  ·exact .inr h.1
 have cg:=FQ j zB J.gp;have ca:=FR c zB;clear hcl;rw[hnc];generalize seF c=se at *;generalize UH j=gm at *;generalize hra:arF c=ra at *;refine eM call255 λF hF=>?_
 refine WW ?_;refine xT (j.ph.length) [2,3] [2,3] [2,3,25,26] [27,2,3,25,26] Z (λi T U zs=>(∀s:Nat,s<i->ML (xD j s) (vN c s)=true)/\zs=⟨(27,iA i)::T,U⟩) ?_;(conv=>whnf);refine⟨?_,?_,?_⟩
 ·exact⟨λs hs=>absurd hs (yAp _),rfl⟩
 ·rintro i st hi ⟨hp,rfl⟩;have hy:=zM vK j.ph i hi;have hyl:=zM vT c.li i zB
  change (j.ph.map vK)[i]? =some (vK (xD j i))at hy
  change (c.li.map vT)[i]? =some (vT (vN c i))at hyl
  have cv:=zHy (xD j i) (vN c i)
  cases hq:ML (xD j i) (vN c i)with
  | true=>
   rw[hq]at cv
   have hp2:∀s:Nat,s<i+1->ML (xD j s) (vN c s)=true:=λs hs=>by
    by_cases hsi:s=i
    ·subst hsi;assumption
    ·exact hp s zB
   clear hq hp;generalize xD j i=t at *;generalize vN c i=l at *;clear cs cc cg ca;refine zY cv ?_;exact⟨hp2,rfl⟩
  |false=>
   have hnv:nvF j c=false:=yA4.2 ⟨i,zYs.2 hi,by rw[hq];decide⟩;rw[hq]at cv;rw[hnv,zZv];clear hq hp;generalize xD j i=t at *;generalize vN c i=l at *;clear cs cc cg ca;refine zY cv ?_;exact zJ
 ·rintro st ⟨hp,rfl⟩;have hnv:nvF j c=true:=zYi.2 λi hi=>hp i (zYs.1 hi)
  rw[hnv,zYr];clear hp hnv;by_cases hcq:cp= -1
  case neg=>
   rw[zYb hcq];refine yR (wZ cs cc) ?_;exact zJ
  rw[zYa hcq,zYr];by_cases hg0:0<=c.gr
  case neg=>
   rw[zYb (λh=>hg0 h.1)];refine yR (fQ cs cc cg) ?_;exact zJ
  by_cases hg1:c.gr<gm
  case neg=>
   rw[zYb (λh=>hg1 h.2)];refine yR (fQ cs cc cg) ?_;exact zJ
  rw[zYa ⟨hg0,hg1⟩,zYr];refine yR (fQ cs cc cg) ?_;refine xT (c.nx.length) [2,3] [2,3] [2,3,62,63] [64,2,3,62,63] Z (λi T U zs=>(∀s:Nat,s<i->nxO j c s=true)/\zs=⟨(64,iA i)::T,U⟩) ?_;(conv=>whnf);refine⟨?_,?_,?_⟩
  ·exact⟨λs hs=>absurd hs (yAp _),rfl⟩
  ·rintro i st hi ⟨hp,rfl⟩;have hy:=zM iA c.nx i hi;have co:=zW8 j zB i c.gr
   have hlen:(JL j i c.gr j.ph.length).length<=1000:=by
    have:(JL j i c.gr j.ph.length).length<=(List.range j.ph.length).length:=yAd _ _;rw[zZr]at this;omega
   have ch:=AM (JL j i c.gr j.ph.length) hlen (c.nx.getD i default)
   have next:nxO j c i=true->∀s:Nat,s<i+1->nxO j c s=true:=λh s hs=>by
    by_cases hsi:s=i
    ·subst hsi;exact h
    ·exact hp s zB
   have stop:nxO j c i=false->((List.range 2).all (nxO j c))=false:=λh=>yA4.2 ⟨i,zYs.2 zB,by rw[h];decide⟩
   have ex:nxO j c i=(decide (c.nx.getD i default= -1)||JM (JL j i c.gr j.ph.length) (c.nx.getD i default)):=rfl;clear hp cs cc cg ca;generalize JL j i c.gr j.ph.length=o at *;generalize JM o (c.nx.getD i default)=hb at *;generalize c.nx.getD i default=x at *;generalize nxO j c i=q at *;by_cases hx:x= -1
   ·rw[zYa hx]at ex;have hnx:=next ex;refine WW ?_;exact⟨hnx,rfl⟩
   rw[zYb hx,yA7]at ex
   cases hb with
   |true=>
    have hnx:=next ex;refine yR (wZ co ch) ?_;exact⟨hnx,rfl⟩
   |false=>
    rw[stop ex,zZv];refine yR (wZ co ch) ?_;exact zJ
  ·rintro st ⟨hp,rfl⟩;have hall:((List.range 2).all (nxO j c))=true:=zYi.2 λi hi=>hp i (by have:=zYs.1 hi;omega)
   rw[hall,zYr];clear hp hall;by_cases hw0:0<=c.wt
   case neg=>
    rw[zYb (λh=>hw0 h.1)];refine WW ?_;exact zJ
   by_cases hw1:c.wt<=j.st
   case neg=>
    rw[zYb (λh=>hw1 h.2)];refine WW ?_;exact zJ
   rw[zYa ⟨hw0,hw1⟩,zYr];by_cases hz:c.wt=0
   ·rw[zYa hz];refine WW ?_;exact zJ
   ·rw[zYb hz,yA7];refine zY ca ?_;exact zJ
def zSj {j:Jn} (J:JV j) {c:Ct} (C:CV j c):vcF j c=true:=by
 have hn:=C.n;have hJ:=J.n;unfold vcF;have h1:nvF j c=true:=zYi.2 λp hp=>C.k p (zYs.1 hp)
 have h2:ncF j c=true:=by
  unfold ncF;rw[zYi];intro a ha;rw[zYi];intro b hb;have ha:=zYs.1 ha;have hb:=zYs.1 hb;rw[J.c]at ha hb
  have hin:∀p:Nat,p<j.ph.length->inS (seF c) p=GG c p:=λp hp=>by
   unfold seF;have e:=JK (λq=>decide (q<c.li.length)&&GG c q) c.li.length 8 zB (λi h1 h2=>by rw[zYb zB];rfl);have e2:cF (GG c) c.li.length=cF (λq=>decide (q<c.li.length)&&GG c q) c.li.length:=bT _ λi hi=>by rw[zYa hi];rfl
   rw[e2,<-e,zHd _ p zB,zYa zB];rfl
  rw[yAn];unfold GH;rw[hin a ha,hin b hb];by_cases hab:b=a
  ·rw[zYb (λh=>h hab)];simp
  ·cases hsa:GG c a with
   |false=>rfl
   | true=>
    cases hsb:GG c b with
    |false=>simp
    |true=>
     rw[C.x a b ha hb (λh=>hab h.symm) (by simpa [GG]using hsa) (by simpa [GG]using hsb)];simp
 have h3:((List.range 2).all (nxO j c))=true:=zYi.2 λr hr=>by
  have hr:=zYs.1 hr;unfold nxO
  rcases C.v r hr with h|h
  ·rw[zYa h];rfl
  ·have:JM (JL j r c.gr j.ph.length) (c.nx.getD r default)=true:=by
    unfold JM;rw[zZy];obtain⟨a,b,d,e⟩:=h;refine⟨(c.nx.getD r default).toNat,?_,by rw[zZb];omega⟩;unfold JL;rw[yBn,zYs];refine⟨zB,?_⟩;rw[d,e];simp
   rw[this,yBp]
 rw[zYa ⟨hn,C.m⟩,h1,h2,zYa C.g,h3,zYa C.w];simp only[zYr]
 rcases C.z with h|h
 ·rw[zYa h];rfl
 ·have:arF c=true:=by
   unfold arF;rw[zYi];intro l hl;obtain⟨i,hi,rfl⟩:=yAf hl;have:=h i zB;simpa [vN,List.getD,hi]using this
  rw[this,yBp]
def zXa (y:Int):fH y 1=0∨fH y 1=1:=by
 show IntKind.i64.wrap (BitVec.ofInt 64 y &&& BitVec.ofInt 64 1).toNat=0∨IntKind.i64.wrap (BitVec.ofInt 64 y &&& BitVec.ofInt 64 1).toNat=1
 have e1:BitVec.ofInt 64 1=1#64:=by decide
 have h:(BitVec.ofInt 64 y &&& BitVec.ofInt 64 1).toNat=(BitVec.ofInt 64 y).toNat % 2:=by
  rw[e1,BitVec.toNat_and];exact Nat.and_one_is_mod _
 rw[h];have h2:(BitVec.ofInt 64 y).toNat % 2=0∨(BitVec.ofInt 64 y).toNat % 2=1:=by omega
 rcases h2 with h2|h2<;>rw[h2]
 ·exact .inl zV
 ·exact .inr zV
def JN {rows:List Int} {p q:Nat} (hp:p<rows.length) (hq:q<rows.length):fH (qG (rows.getD p default) q) 1=if dV rows p q=true then 1 else 0:=by
 unfold dV;rw[zYa zB,zYr,zZp];split
 ·rename_i h
  rwa [zZb]at h
 ·rename_i h;rw[zZb]at h
  rcases zXa (qG (rows.getD p default) q)with h1|h1
  ·exact h1
  ·exact absurd h1 h
def zXb {x:Int} {n:Nat} (h:0<=x/\x<2 ^ n):qG x n=0:=by
 unfold qG;rw[zZp];exact Int.fdiv_eq_zero_of_lt h.1 h.2
def zEe (j:Jn) (J:JV j):zO 183 [zD iA j.cf] [] (bA true) []:=by
 have hl:=zA iA j.cf;have hn:=J.n;have hc:=J.c;refine eM call183 λF hF=>?_
 refine WW ?_;refine zS (j.cf.length) [] [] [0,14,15] [16,0,14,15] Z (λi T U=>⟨(16,iA i)::T,U⟩) ?_;(conv=>whnf);refine⟨by rfl,?_,?_⟩
 ·intro u hu;have hy:=zM iA j.cf u hu;have hrow:=J.row u zB;have hs0:=zXb hrow;rw[<-hc,<-hl]at hs0;have hir:=JN (p:=u) (q:=u) hu hu;rw[J.ir u zB,zX2 zV]at hir
  have hpq:∀v,v<j.cf.length->fH (qG (j.cf.getD u default) v) 1=fH (qG (j.cf.getD v default) u) 1:=λv hv=>by
   rw[JN hu hv,JN hv hu,J.sy u v zB zB]
  generalize j.cf.getD u default=x at *;refine WW ?_;refine zS (j.cf.length) [] [] [0,3,4,14,15,16,38] [39,0,3,4,14,15,16,38] Z (λi T U=>⟨(39,iA i)::T,U⟩) ?_;(conv=>whnf);refine⟨by rfl,?_,?_⟩
  ·intro v hv;have hyv:=zM iA j.cf v hv;have hpq:=hpq v hv;generalize j.cf.getD v default=y at *;refine WW ?_;rfl
  ·clear hpq;refine WW ?_;rfl
 ·(refine WW ?_)
  exact zJ
def cB (n a b:Int) (h:a<=n/\n<=b):zO 142 [iA n,iA a,iA b] [] (bA true) []:=by
 obtain⟨h1,h2⟩:=h;refine eM call142 λF hF=>?_
 refine WW ?_;exact zJ
def zHi (j:Jn) (J:JV j) (p:Nat) (hp:p<j.ph.length):zO 184 [vK (xD j p)] [] (bA true) []:=by
 have hr:=J.rg p hp;have hg:=J.gp p hp;obtain⟨t1,t2,t3,t4,t5,t6,t7,t8,t9,t10,t11,t12,t13⟩:=J.ti p hp;generalize xD j p=t at *;have c1:=cB t.ring 0 1 hr;have c2:=cB t.group 0 3 hg;have c3:=cB t.ming 1 60 ⟨t1,zB⟩;have c4:=cB t.maxg 1 60 ⟨zB,t3⟩;have c5:=cB t.yel 1 60 ⟨t4,t5⟩;have c6:=cB t.red 0 60 ⟨t6,t7⟩;have c7:=cB t.walk 0 60 ⟨t8,t9⟩;have c8:=cB t.clear 0 60 ⟨t10,t11⟩;by_cases h0:t.walk=0
 ·have h1:=t13.1 h0;clear t13;refine eM call184 λF hF=>?_
  refine yR (zt8 c1 c2 c3 c4 c5 c6 c7 c8) ?_;exact zJ
 ·have h1:¬t.clear=0:=λh=>h0 (t13.2 h)
  clear t13;refine eM call184 λF hF=>?_
  refine yR (zt8 c1 c2 c3 c4 c5 c6 c7 c8) ?_;exact zJ
def zHj (j:Jn) (J:JV j):zO 185 [vC j] [] (bA true) []:=by
 have hl:=zA vK j.ph;have hn:=J.n;have hc:=J.c;refine eM call185 λF hF=>?_
 repeat' (first|(refine zE ?_;first|refine wL tok Z Z ?_|refine jX tok Z Z Z Z ?_|refine uI ?_)|first|refine SQ ?_|fail|refine vR ?_|refine vS ?_|refine yQ ?_)
 refine zS (j.ph.length) [1] [1] [1,9,10] [3,11,1,9,10] Z (λi T U=>⟨(3,bA true)::(11,iA i)::T,U⟩) ?_;(conv=>whnf);refine⟨by rfl,?_,?_⟩
 ·intro u hu;have hy:=zM vK j.ph u hu
  change (j.ph.map vK)[u]? =some (vK (xD j u))at hy
  refine WW ?_;refine zS (j.ph.length) [1,5] [1,5] [1,4,5,9,10,11,17,18] [3,19,1,4,5,9,10,11,17,18] Z (λi T U=>⟨(3,bA true)::(19,iA i)::T,U⟩) ?_;(conv=>whnf);refine⟨by rfl,?_,?_⟩
  ·intro v hv;have hyv:=zM vK j.ph v hv
   change (j.ph.map vK)[v]? =some (vK (xD j v))at hyv
   have ck:=gJ j.cf zB u v;have hap:=J.ap u v hu hv;by_cases huv:u=v
   ·have hne:(u:Int)=v:=by omega
    clear hap;generalize xD j u=a at *;generalize xD j v=b at *;refine WW ?_;rfl
   have hne:¬(u:Int)=v:=by omega
   by_cases h1:(xD j u).ring=(xD j v).ring
   ·rw[hap huv (.inl h1)]at ck;clear hap;generalize xD j u=a at *;generalize xD j v=b at *;refine zY ck ?_;rfl
   by_cases h2:(xD j u).group=(xD j v).group
   ·clear hap;generalize xD j u=a at *;generalize xD j v=b at *;refine WW ?_;rfl
   ·rw[hap huv (.inr h2)]at ck;clear hap;generalize xD j u=a at *;generalize xD j v=b at *;refine zY ck ?_;rfl
  ·generalize xD j u=a at *;refine WW ?_;rfl
 ·(refine WW ?_)
  exact zJ
def LM (j:Jn) (i:Nat) (g:Nat):Bool:=(List.range i).any λp=>(xD j p).group==(g:Int)
def zHk (j:Jn) (i:Nat):LM j (i+1)=λg=>LM j i g||((xD j i).group==(g:Int)):=by
 funext g
 unfold LM;rw[yAw,List.any_append];simp
def zVj (g:Nat) (h:g<4):p2 (g:Int)=cF (λx:Nat=>(g:Int)==(x:Int)) 8:=by
 have:g=0∨g=1∨g=2∨g=3:=by omega
 rcases this with rfl|rfl|rfl|rfl<;>decide
def zXc:∀b0 b1 b2 b3:Bool,(b1=true->b0=true)->(b2=true->b1=true)->(b3=true->b2=true)->fH (cF (bq b0 b1 b2 b3 false false false false) 8) (cF (bq b0 b1 b2 b3 false false false false) 8+1)=0:=by decide +kernel
def zM7 (j:Jn) (J:JV j):fH (cF (LM j j.ph.length) 8) (cF (LM j j.ph.length) 8+1)=0:=by
 have hf:∀g:Nat,4<=g->LM j j.ph.length g=false:=λg hg=>by
  unfold LM;rw[yA5];intro p hp;have:=J.gp p (zYs.1 hp);simp;omega
 have hd:∀g:Nat,LM j j.ph.length (g+1)=true->LM j j.ph.length g=true:=λg h=>by
  unfold LM at h⊢;rw[zZy]at h⊢;obtain⟨p,hp,hg⟩:=h;rw[zZb]at hg;obtain⟨q,hq,hqg⟩:=J.lo p (zYs.1 hp) g zB zB;exact⟨q,zYs.2 hq,by rw[zZb];exact hqg⟩
 have e:cF (LM j j.ph.length) 8=cF (bq (LM j j.ph.length 0) (LM j j.ph.length 1) (LM j j.ph.length 2) (LM j j.ph.length 3) false false false false) 8:=bT 8 λi hi=>by
  match i,hi with
  |0,_=>rfl|1,_=>rfl|2,_=>rfl|3,_=>rfl
  |4,_=>exact hf 4 zB
  |5,_=>exact hf 5 zB
  |6,_=>exact hf 6 zB
  |7,_=>exact hf 7 zB
  |i+8,h=>omega
 rw[e];exact zXc _ _ _ _ (hd 0) (hd 1) (hd 2)
def RV (j:Jn) (J:JV j):zO 143 [vC j] [] (bA true) []:=by
 have hl:=zA vK j.ph;have hlc:=zA iA j.cf;have hn:=J.n;have hc:=J.c;have c1:=zEe j J;have c2:=cB j.st 0 60 J.st;have c3:=zHj j J;have hgd:=zM7 j J;have hbb:=zAj (LM j j.ph.length) 8 zB;have hp8:p2 ((8:Nat):Int)=256:=by decide
 refine eM call143 λF hF=>?_
 refine yR (wZ c1 c2) ?_;refine zS (j.ph.length) [1] [1] [1,34,35] [4,36,1,34,35] Z (λi T U=>⟨(4,iA (cF (LM j i) 8))::(36,iA i)::T,U⟩) ?_;(conv=>whnf);refine⟨by rfl,?_,?_⟩
 ·intro u hu;have hy:=zM vK j.ph u hu
  change (j.ph.map vK)[u]? =some (vK (xD j u))at hy
  have cp:=zHi j J u hu;have hg:=J.gp u hu;have es:=zHk j u;obtain⟨gn,hgn⟩:∃n:Nat,(xD j u).group=n:=⟨(xD j u).group.toNat,zB⟩;have hor:=zTe (LM j u) (λx:Nat=>(gn:Int)==(x:Int));rw[<-zVj gn zB]at hor;rw[hgn]at es;rw[es,<-hor];generalize cF (LM j u) 8=b at *;rw[<-hgn];clear c1 c2 c3 hor es;generalize xD j u=t at *;refine zY cp ?_;rfl
 ·generalize cF (LM j j.ph.length) 8=b at *;refine zY c3 ?_;exact zJ
theorem OA {p:Nat->Bool}:∀(l:List Nat) (i x:Nat),l[i]? =some x->(∀y∈l.take i,p y=false)->p x=true->l.find? p=some x
 | [],i,x,h,_,_=>by simp at h
 |y::l,0,x,h,_,hp=>by
  simp at h;subst h;rw[yDu,hp]
 |y::l,i+1,x,h,ha,hp=>by
  rw[yDu,ha y zW];exact OA l i x TJ (λz hz=>ha z (by simp[hz])) hp
def zCa {p:Nat->Bool} {l:List Nat} (h:∀y∈l,p y=false):l.find? p=none:=yCx.2 λy hy=>by rw[h y hy];decide
def SZ {l:List Nat} {i x z:Nat} (hx:l[i]? =some x) (hz:z∈l.take (i+1)):z∈l.take i∨z=x:=by
 rw[yAj,hx]at hz;simpa using hz
def WI (j:Jn) (hn:j.ph.length<=1000) (r g f:Int):zO 211 [vC j,iA r,iA g,iA f] [] (iA (aG j r g f)) []:=by
 have c:=zHz j r;unfold zEf at c;have hl:=zA vK j.ph;refine eM call211 λF hF=>?_
 refine zY c ?_;refine vM hF (AP j hn r) Z [4,6,7,8] [4,6,7,8] Z Z Z Z Z Z Z Z Z (λi ys h=>?_) (λ_=>[(4,.box [zD vK j.ph,zD iA j.cf,iA j.st]),(6,.box [iA g]),(7,.box [iA f]),(8,.box [iA 0])]) (λi=>∀x∈(MB j r).take i,(decide (f<=(x:Int))&&(xD j x).group==g)=false) (T:=[(4,.ptr 4 0 0),(6,.ptr 6 0 0),(7,.ptr 7 0 0),(8,.ptr 8 0 0)]) Z zW (λi ys y hys hI F1 h1 h2=>?_) (λhI=>?_)
 ·rw[zX8,zYf]at h;obtain⟨x,_,rfl⟩:=h;rfl
 ·rw[zX8,zYf]at hys;obtain⟨x,hx,rfl⟩:=hys
  show uQ _ F1 _ _ ⟨[(13,iA (x:Int)),(4,.ptr 4 0 0),(6,.ptr 6 0 0),(7,.ptr 7 0 0),(8,.ptr 8 0 0)],[(4,.box [zD vK j.ph,zD iA j.cf,iA j.st]),(6,.box [iA g]),(7,.box [iA f]),(8,.box [iA 0])]⟩ _
  have hxn:=(YX.1 (zZk hx)).1;have hy:(j.ph.map vK)[x]? =some (vK (xD j x)):=zM vK j.ph x hxn
  have next:(decide (f<=(x:Int))&&(xD j x).group==g)=false->∀z∈(MB j r).take (i+1),(decide (f<=(z:Int))&&(xD j z).group==g)=false:=λhb z hz=>by
   rcases SZ hx hz with h|rfl
   ·exact hI z h
   ·exact hb
  have hit:(decide (f<=(x:Int))&&(xD j x).group==g)=true->aG j r g f=x:=λhb=>by
   unfold aG;rw[OA _ i x hx hI hb]
  clear hI hx;generalize xD j x=t at *;refine WW ?_;refine⟨rfl,λF2 g1 g2=>?_⟩;by_cases h3:f<=(x:Int)
  ·by_cases h4:t.group=g
   ·rw[hit (by rw[zYa h3,zZb.2 h4];rfl)];refine WW ?_;exact zJ
   ·have hnx:=next (by rw[zY6.2 h4,yBt]);refine WW ?_;exact⟨rfl,hnx⟩
  ·have hnx:=next (by rw[zYb h3,zZv]);refine WW ?_;exact⟨rfl,hnx⟩
 ·rw[zX5,zX6]at hI
  have hno:aG j r g f= -1:=by
   unfold aG;rw[zCa hI]
  rw[hno];refine WW ?_;exact zJ
def zSk (j:Jn) (hn:j.ph.length<=1000) (c:Ct) (hc:c.li.length=j.ph.length) (r:Int):zO 288 [vC j,ctA c,iA r] [] (bA (dkF j c r)) []:=by
 have cp:=zHz j r;unfold zEf at cp;have hl:=zA vK j.ph;have hl2:=zA vT c.li;refine eM call288 λF hF=>?_
 refine zY cp ?_;refine vM hF (AP j hn r) Z [3,4,6] [3,4,6] Z Z Z Z Z Z Z Z Z (λi ys h=>?_) (λ_=>[(3,.box [zD vK j.ph,zD iA j.cf,iA j.st]),(4,.box [zD vT c.li,iA c.gr,zD iA c.nx,iA c.wt]),(6,.box [bA false])]) (λi=>∀x∈(MB j r).take i,((vN c x).lamp==0)=true) (T:=[(3,.ptr 3 0 0),(4,.ptr 4 0 0),(6,.ptr 6 0 0)]) Z zW (λi ys y hys hI F1 h1 h2=>?_) (λhI=>?_)
 ·rw[zX8,zYf]at h;obtain⟨x,_,rfl⟩:=h;rfl
 ·rw[zX8,zYf]at hys;obtain⟨x,hx,rfl⟩:=hys
  show uQ _ F1 _ _ ⟨[(11,iA (x:Int)),(3,.ptr 3 0 0),(4,.ptr 4 0 0),(6,.ptr 6 0 0)],[(3,.box [zD vK j.ph,zD iA j.cf,iA j.st]),(4,.box [zD vT c.li,iA c.gr,zD iA c.nx,iA c.wt]),(6,.box [bA false])]⟩ _
  have hmem:=zZk hx;have hxn:=(YX.1 hmem).1;have hy:(c.li.map vT)[x]? =some (vT (vN c x)):=zM vT c.li x zB
  have next:((vN c x).lamp==0)=true->∀z∈(MB j r).take (i+1),((vN c z).lamp==0)=true:=λhb z hz=>by
   rcases SZ hx hz with h|rfl
   ·exact hI z h
   ·exact hb
  have hit:((vN c x).lamp==0)=false->dkF j c r=false:=λhb=>by
   unfold dkF;exact yA4.2 ⟨x,hmem,by rw[hb];decide⟩
  clear hI hx;generalize vN c x=t at *;refine WW ?_;refine⟨rfl,λF2 g1 g2=>?_⟩;by_cases h4:t.lamp=0
  ·have hnx:=next (zZb.2 h4);refine WW ?_;exact⟨rfl,hnx⟩
  ·rw[hit (zY6.2 h4)];refine WW ?_;exact zJ
 ·rw[zX5,zX6]at hI;have hd:dkF j c r=true:=zYi.2 hI;rw[hd];refine WW ?_;exact zJ
def lsN (j:Jn) (r t:Int) (i:Nat):Int:=match ((MB j r).take i).find? (λp:Nat=>!dV j.cf p t)with
 |some p=>p
 |none=> -1
def zHl {j:Jn} {r t:Int} {i x:Nat} (hx:(MB j r)[i]? =some x):lsN j r t (i+1)=if dV j.cf x t=true then lsN j r t i else if lsN j r t i= -1 then(x:Int)else lsN j r t i:=by
 unfold lsN;rw[yAj,hx,yDn]
 cases hf:((MB j r).take i).find? (λp:Nat=>!dV j.cf p t)with
 |some p=>
  show((p:Nat):Int)=if dV j.cf x t=true then(p:Int)else if(p:Int)= -1 then(x:Int)else(p:Int)
  split
  ·rfl
  ·rw[zX2 zB]
 |none=>
  simp only[Option.none_or,yDi,yDu,List.find?_nil]
  cases dV j.cf x t<;>rfl
theorem zSl (j:Jn) (hn:j.ph.length<=1000) (hcf:j.cf.length<=40) (c:Ct) (hm:c.nx.length=2) (r t:Int) (hr:0<=r/\r<2):zO 289 [vC j,ctA c,iA r,iA t] [] (iA (cmF j (c.nx.getD r.toNat default) r t)) []:=by
 have cp:=zHz j r;unfold zEf at cp;have hl:=zA vK j.ph;have hl2:=zA iA c.nx;have hyn:=yN iA c.nx r hr.1 zB;generalize hxe:c.nx.getD r.toNat default=xn at *;refine eM call289 λF hF=>?_
 refine zY cp ?_;refine vM hF (AP j hn r) Z [4,5,6,7,8,9] [4,5,6,7,8,9] Z Z Z Z Z Z Z Z Z (λi ys h=>?_) (λi=>[(4,.box [zD vK j.ph,zD iA j.cf,iA j.st]),(5,.box [zD vT c.li,iA c.gr,zD iA c.nx,iA c.wt]),(6,.box [iA r]),(7,.box [iA t]),(8,.box [iA 0]),(9,.box [iA (lsN j r t i)])]) (λi=>∀x∈(MB j r).take i,(!dV j.cf x t&&decide (xn≠ -1/\xn<=(x:Int)))=false) (T:=[(4,.ptr 4 0 0),(5,.ptr 5 0 0),(6,.ptr 6 0 0),(7,.ptr 7 0 0),(8,.ptr 8 0 0),(9,.ptr 9 0 0)]) Z zW (λi ys y hys hI F1 h1 h2=>?_) (λhI=>?_)
 ·rw[zX8,zYf]at h;obtain⟨x,_,rfl⟩:=h;rfl
 ·rw[zX8,zYf]at hys;obtain⟨x,hx,rfl⟩:=hys
  show uQ _ F1 _ _ ⟨[(14,iA (x:Int)),(4,.ptr 4 0 0),(5,.ptr 5 0 0),(6,.ptr 6 0 0),(7,.ptr 7 0 0),(8,.ptr 8 0 0),(9,.ptr 9 0 0)],[(4,.box [zD vK j.ph,zD iA j.cf,iA j.st]),(5,.box [zD vT c.li,iA c.gr,zD iA c.nx,iA c.wt]),(6,.box [iA r]),(7,.box [iA t]),(8,.box [iA 0]),(9,.box [iA (lsN j r t i)])]⟩ _
  have hxn:=(YX.1 (zZk hx)).1;have ck:=gJ j.cf hcf x t;have es:=zHl (t:=t) hx
  have next:(!dV j.cf x t&&decide (xn≠ -1/\xn<=(x:Int)))=false->∀z∈(MB j r).take (i+1),(!dV j.cf z t&&decide (xn≠ -1/\xn<=(z:Int)))=false:=λhb z hz=>by
   rcases SZ hx hz with h|rfl
   ·exact hI z h
   ·exact hb
  have hit:(!dV j.cf x t&&decide (xn≠ -1/\xn<=(x:Int)))=true->cmF j xn r t=x:=λhb=>by
   unfold cmF;rw[OA _ i x hx hI hb]
  clear hI hx hxe;generalize dV j.cf x t=q at *;generalize lsN j r t (i+1)=l2 at *;generalize lsN j r t i=l1 at *;refine WW ?_;refine⟨rfl,λF2 g1 g2=>?_⟩
  cases q with
  |true=>
   rw[zX3 Z]at es;have hnx:=next Z;subst es;refine zY ck ?_;exact⟨rfl,hnx⟩
  |false=>
  rw[zX2 zV]at es;by_cases h3:xn= -1
  ·have hnx:=next (by rw[zYb (λh=>h.1 h3)];rfl);by_cases h4:l1= -1
   ·rw[zX3 h4]at es;subst es;refine zY ck ?_;exact⟨rfl,hnx⟩
   ·rw[zX2 h4]at es;subst es;refine zY ck ?_;exact⟨rfl,hnx⟩
  by_cases h5:xn<=(x:Int)
  ·rw[hit (by rw[zYa ⟨h3,h5⟩];rfl)];refine zY ck ?_;exact zJ
  ·have hnx:=next (by rw[zYb (λh=>h5 h.2)];rfl);by_cases h4:l1= -1
   ·rw[zX3 h4]at es;subst es;refine zY ck ?_;exact⟨rfl,hnx⟩
   ·rw[zX2 h4]at es;subst es;refine zY ck ?_;exact⟨rfl,hnx⟩
 ·rw[zX5,zX6]at hI
  have hno:cmF j xn r t=lsN j r t (MB j r).length:=by
   unfold cmF lsN;rw[zCa hI,zX6];rfl
  rw[hno,zX5];generalize lsN j r t (MB j r).length=l1 at *;refine WW ?_;exact zJ
def jT {TT:List TI} {rs:List ResultVar} {h0:List (Nat×xN)} {r:AV} {h1:List (Nat×xN)} {st:St} {vs:List AV} (K:List Nat) (h:MU TT st rs=some vs) (hK:(yS h0).all (K.contains ·)=true) (hr:wQ K (zC st.h) (DF vs)=r) (hh:vD K (zC st.h)=h1):
 Fin TT rs h0 r h1 .normal st:=⟨.inl Z,vs,K,h,hK,.inl hr.symm,by rw[hh]⟩
def enN (f0 f1:Int):Nat->List AV
 |0=>[iA 0,iA 0]
 |1=>[iA f0,iA 0]
 |_+2=>[iA f0,iA f1]
def zCb (j:Jn) (hn:j.ph.length<=1000) (g gr wt:Int) (L N:List AV) (nL nN:Nat):zO 186 [vC j,.ptr 3000 0 0,iA g] [(3000,.box [.ref 1001 0 nL,iA gr,.ref 1002 0 nN,iA wt]),(1001,.arr 2 L false),(1002,.arr 1 N false)] (.tup [])
  [(3000,.box [.ref 1001 0 nL,iA g,.ref 2001 0 2,iA wt]),(1001,.arr 2 L false),(1002,.arr 1 N false),(2001,.arr 1 [iA (aG j 0 g 0),iA (aG j 1 g 0)] false)]:=by
 have c0:=WI j hn 0 g 0;have c1:=WI j hn 1 g 0;generalize aG j 0 g 0=f0 at *;generalize aG j 1 g 0=f1 at *;obtain⟨N2,hN2⟩:∃n:Nat,n=2:=⟨2,rfl⟩;refine eM call186 λF hF=>?_
 (repeat' (first|refine uJ ?_|apply xL|apply wB|intro hc|(refine zE ?_;first|(refine eP ?_;refine bM 2001 tok Z Z Z Z Z Z Z Z Z Z Z Z Z zB zB Z Z Z ?_))|fail))
 refine zS (N2) [3000,2001,3,1001,1002] [3,1001,1002] [1,2,3] [20,19,1,2,3] Z (λi T U=>⟨(20,iA i)::(19,iA N2)::T,(3000,.box [.ref 1001 0 nL,iA g,.ref 2001 0 N2,iA wt])::(2001,.arr 1 (enN f0 f1 i) false)::U⟩) ?_;(conv=>whnf);refine⟨by(rw[hN2];rfl),?_,?_⟩
 ·intro i hi;have:i=0∨i=1:=by omega
  rcases this with rfl|rfl
  ·have hy:(enN f0 f1 0)[((0:Nat):Int).toNat]? =some (iA 0):=rfl;have hl:(enN f0 f1 0).length=2:=rfl;refine zY c0 ?_;rfl
  ·have hy:(enN f0 f1 1)[((1:Nat):Int).toNat]? =some (iA 0):=rfl;have hl:(enN f0 f1 1).length=2:=rfl;refine zY c1 ?_;rfl
 ·have e2:enN f0 f1 N2=[iA f0,iA f1]:=by rw[hN2];rfl
  rw[e2];refine WW ?_;subst hN2;exact jT [3000,1001,1002,2001] Z Z Z Z
def bP (c:Ct) (kn:Nat):List (Nat×xN):=[(3000,.box [.ref 1001 0 (c.li.map vT).length,iA c.gr,.ref kn 0 (c.nx.map iA).length,iA c.wt]),(1001,.arr 2 (c.li.map vT) false),(kn,.arr 1 (c.nx.map iA) false)]
def JO (c:Ct) (o:List Int):List (Nat×xN):=[(3000,.box [.ref 1001 0 (c.li.map vT).length,iA c.gr,.ref 2001 0 (c.nx.map iA).length,iA c.wt]),(1001,.arr 2 (c.li.map vT) false),(1002,.arr 1 (o.map iA) false),(2001,.arr 1 (c.nx.map iA) false)]
theorem YW (j:Jn) (hn:j.ph.length<=1000) (hcf:j.cf.length<=40) (c:Ct) (hc:c.li.length=j.ph.length) (hm:c.nx.length=2) (p:Nat) (hp:p<j.ph.length) (hr:0<=(xD j p).ring/\(xD j p).ring<=1) (hg:VW j c p=true∨c.gr=(xD j p).group):
  zO 290 [vC j,.ptr 3000 0 0,iA (p:Int)] (bP c 1002) (.tup []) (bP (gI j c p) 1002):=by
 have hlp:=zA vK j.ph;have hll:=zA vT c.li;have hln:=zA iA c.nx;have hyp:=zM vK j.ph p hp
 change (j.ph.map vK)[p]? =some (vK (xD j p))at hyp
 have cf:=WI j hn (xD j p).ring (xD j p).group (p+1);unfold gI;by_cases hk:VW j c p=true
 case pos=>
  rw[zX3 hk];unfold VW at hk;rw[zZy]at hk;obtain⟨q0,hq0,hk⟩:=hk;rw[zYs]at hq0;unfold bP;refine eM call290 λF hF=>?_
  refine WW ?_;refine xT (c.li.length) [3,3000,1001,1002] [3,3000,1001,1002] [1,2,3,12,13] [14,1,2,3,12,13] Z (λi T U zs=>(i<=q0)/\zs=⟨(14,iA i)::T,U⟩) ?_;(conv=>whnf);refine⟨?_,?_,?_⟩
  ·exact⟨zYl _,rfl⟩
  ·rintro i st hi ⟨hiq,rfl⟩;have hy:=zM vT c.li i hi
   change (c.li.map vT)[i]? =some (vT (vN c i))at hy
   have ck:=gJ j.cf hcf p i;by_cases hb:((vN c i).lamp != 0&&dV j.cf p i)=true
   ·rw[zYg]at hb;have h1:(vN c i).lamp≠0:=by simpa using hb.1
    rw[hb.2]at ck;generalize vN c i=t at *;clear hb cf hk;refine zY ck ?_;exact zL [3000,1001,1002] Z Z Z Z
   ·have hne:i<q0:=by
     rcases Nat.lt_or_ge i q0 with h|h
     ·exact h
     ·rw[show i=q0 by omega]at hb;exact absurd hk hb
    rw[zYg]at hb;by_cases h1:(vN c i).lamp=0
    ·generalize vN c i=t at *;clear hb hk;refine WW ?_;exact⟨zB,rfl⟩
    ·have hq:dV j.cf p i=false:=by
      cases hq:dV j.cf p i with
      |false=>rfl
      |true=>exact absurd ⟨by simpa using h1,hq⟩ hb
     rw[hq]at ck;generalize vN c i=t at *;clear hb hk;refine zY ck ?_;exact⟨zB,rfl⟩
  ·rintro st ⟨hiq,rfl⟩;exfalso;omega
 have hkf:VW j c p=false:=by simpa using hk
 have hg2:c.gr=(xD j p).group:=by
  rcases hg with hg|hg
  ·exact absurd hg hk
  ·exact hg
 rw[zX2 hk];have eb:FU j c p=b1F c p:=by unfold FU;rw[zX3 hg2]
 rw[eb];unfold VW at hkf;rw[yA5]at hkf;have h0:∀q,q<c.li.length->((vN c q).lamp != 0&&dV j.cf p q)=false:=λq hq=>by simpa using hkf q (zYs.2 hq)
 unfold b1F bP;dsimp only;rw[zZ8,zZ8,zZx,zZx];clear hkf hk eb hg;generalize aG j (xD j p).ring (xD j p).group (p+1)=fo at *;obtain⟨rn,hrn⟩:∃n:Nat,(xD j p).ring=n:=⟨(xD j p).ring.toNat,zB⟩;have hyl:=zM vT c.li p zB;have hyr:=zM iA c.nx rn zB;generalize hx1:vN c p=l0 at*
 change (c.li.map vT)[p]? =some (vT (vN c p))at hyl
 rw[hx1]at hyl;generalize c.nx.getD rn default=n0 at *;refine eM call290 λF hF=>?_
 refine WW ?_;refine zS (c.li.length) [3,3000,1001,1002] [3,3000,1001,1002] [1,2,3,12,13] [14,1,2,3,12,13] Z (λi T U=>⟨(14,iA i)::T,U⟩) ?_;(conv=>whnf);refine⟨by rfl,?_,?_⟩
 ·intro i hi;have hy:=zM vT c.li i hi
  change (c.li.map vT)[i]? =some (vT (vN c i))at hy
  have ck:=gJ j.cf hcf p i;have hb:=h0 i hi;clear h0 hyl hyr cf;by_cases h1:(vN c i).lamp=0
  ·generalize vN c i=t at *;clear hb;refine WW ?_;rfl
  ·have hq:dV j.cf p i=false:=by
    cases hq:dV j.cf p i with
    |false=>rfl
    |true=>
     rw[hq,yCg]at hb;exact absurd (by simpa using hb) h1
   rw[hq]at ck;generalize vN c i=t at *;clear hb;refine zY ck ?_;rfl
 ·clear h0;generalize xD j p=t at *;rw[hrn,zZp];have et:vK t= .agg [iA rn,iA t.group,iA t.ming,iA t.maxg,iA t.yel,iA t.red,iA t.walk,iA t.clear]:=by rw[<-hrn];rfl
  rw[et]at hyp;rw[hrn]at cf;refine zY cf ?_;exact jT [3000,1001,1002] Z Z Z Z
theorem QW (j:Jn) (hn:j.ph.length<=1000) (hcf:j.cf.length<=40) (c:Ct) (hc:c.li.length=j.ph.length) (hm:c.nx.length=2) (p:Nat) (hp:p<j.ph.length) (hr:0<=(xD j p).ring/\(xD j p).ring<=1) (hg:VW j c p=true∨c.gr=(xD j p).group):
  zO 290 [vC j,.ptr 3000 0 0,iA (p:Int)] (bP c 2001) (.tup []) (bP (gI j c p) 2001):=by
 have hlp:=zA vK j.ph;have hll:=zA vT c.li;have hln:=zA iA c.nx;have hyp:=zM vK j.ph p hp
 change (j.ph.map vK)[p]? =some (vK (xD j p))at hyp
 have cf:=WI j hn (xD j p).ring (xD j p).group (p+1);unfold gI;by_cases hk:VW j c p=true
 case pos=>
  rw[zX3 hk];unfold VW at hk;rw[zZy]at hk;obtain⟨q0,hq0,hk⟩:=hk;rw[zYs]at hq0;unfold bP;refine eM call290 λF hF=>?_
  refine WW ?_;refine xT (c.li.length) [3,3000,1001,2001] [3,3000,1001,2001] [1,2,3,12,13] [14,1,2,3,12,13] Z (λi T U zs=>(i<=q0)/\zs=⟨(14,iA i)::T,U⟩) ?_;(conv=>whnf);refine⟨?_,?_,?_⟩
  ·exact⟨zYl _,rfl⟩
  ·rintro i st hi ⟨hiq,rfl⟩;have hy:=zM vT c.li i hi
   change (c.li.map vT)[i]? =some (vT (vN c i))at hy
   have ck:=gJ j.cf hcf p i;by_cases hb:((vN c i).lamp != 0&&dV j.cf p i)=true
   ·rw[zYg]at hb;have h1:(vN c i).lamp≠0:=by simpa using hb.1
    rw[hb.2]at ck;generalize vN c i=t at *;clear hb cf hk;refine zY ck ?_;exact zL [3000,1001,2001] Z Z Z Z
   ·have hne:i<q0:=by
     rcases Nat.lt_or_ge i q0 with h|h
     ·exact h
     ·rw[show i=q0 by omega]at hb;exact absurd hk hb
    rw[zYg]at hb;by_cases h1:(vN c i).lamp=0
    ·generalize vN c i=t at *;clear hb hk;refine WW ?_;exact⟨zB,rfl⟩
    ·have hq:dV j.cf p i=false:=by
      cases hq:dV j.cf p i with
      |false=>rfl
      |true=>exact absurd ⟨by simpa using h1,hq⟩ hb
     rw[hq]at ck;generalize vN c i=t at *;clear hb hk;refine zY ck ?_;exact⟨zB,rfl⟩
  ·rintro st ⟨hiq,rfl⟩;exfalso;omega
 have hkf:VW j c p=false:=by simpa using hk
 have hg2:c.gr=(xD j p).group:=by
  rcases hg with hg|hg
  ·exact absurd hg hk
  ·exact hg
 rw[zX2 hk];have eb:FU j c p=b1F c p:=by unfold FU;rw[zX3 hg2]
 rw[eb];unfold VW at hkf;rw[yA5]at hkf;have h0:∀q,q<c.li.length->((vN c q).lamp != 0&&dV j.cf p q)=false:=λq hq=>by simpa using hkf q (zYs.2 hq)
 unfold b1F bP;dsimp only;rw[zZ8,zZ8,zZx,zZx];clear hkf hk eb hg;generalize aG j (xD j p).ring (xD j p).group (p+1)=fo at *;obtain⟨rn,hrn⟩:∃n:Nat,(xD j p).ring=n:=⟨(xD j p).ring.toNat,zB⟩;have hyl:=zM vT c.li p zB;have hyr:=zM iA c.nx rn zB;generalize hx1:vN c p=l0 at*
 change (c.li.map vT)[p]? =some (vT (vN c p))at hyl
 rw[hx1]at hyl;generalize c.nx.getD rn default=n0 at *;refine eM call290 λF hF=>?_
 refine WW ?_;refine zS (c.li.length) [3,3000,1001,2001] [3,3000,1001,2001] [1,2,3,12,13] [14,1,2,3,12,13] Z (λi T U=>⟨(14,iA i)::T,U⟩) ?_;(conv=>whnf);refine⟨by rfl,?_,?_⟩
 ·intro i hi;have hy:=zM vT c.li i hi
  change (c.li.map vT)[i]? =some (vT (vN c i))at hy
  have ck:=gJ j.cf hcf p i;have hb:=h0 i hi;clear h0 hyl hyr cf;by_cases h1:(vN c i).lamp=0
  ·generalize vN c i=t at *;clear hb;refine WW ?_;rfl
  ·have hq:dV j.cf p i=false:=by
    cases hq:dV j.cf p i with
    |false=>rfl
    |true=>
     rw[hq,yCg]at hb;exact absurd (by simpa using hb) h1
   rw[hq]at ck;generalize vN c i=t at *;clear hb;refine zY ck ?_;rfl
 ·clear h0;generalize xD j p=t at *;rw[hrn,zZp];have et:vK t= .agg [iA rn,iA t.group,iA t.ming,iA t.maxg,iA t.yel,iA t.red,iA t.walk,iA t.clear]:=by rw[<-hrn];rfl
  rw[et]at hyp;rw[hrn]at cf;refine zY cf ?_;exact jT [3000,1001,2001] Z Z Z Z
theorem QX (j:Jn) (hn:j.ph.length<=1000) (hcf:j.cf.length<=40) (c:Ct) (hc:c.li.length=j.ph.length) (hm:c.nx.length=2) (p:Nat) (hp:p<j.ph.length) (hr:0<=(xD j p).ring/\(xD j p).ring<=1) (hkf:VW j c p=false) (hg2:c.gr≠(xD j p).group):
  zO 290 [vC j,.ptr 3000 0 0,iA (p:Int)] (bP c 1002) (.tup []) (JO (gI j c p) c.nx):=by
 have hlp:=zA vK j.ph;have hll:=zA vT c.li;have hln:=zA iA c.nx;have hyp:=zM vK j.ph p hp
 change (j.ph.map vK)[p]? =some (vK (xD j p))at hyp
 have cf:=WI j hn (xD j p).ring (xD j p).group (p+1);unfold gI;rw[zX2 (by rw[hkf];decide)];have eb:FU j c p=etF j (b1F c p) (xD j p).group:=by unfold FU;rw[zX2 hg2]
 rw[eb];unfold VW at hkf;rw[yA5]at hkf;have h0:∀q,q<c.li.length->((vN c q).lamp != 0&&dV j.cf p q)=false:=λq hq=>by simpa using hkf q (zYs.2 hq)
 have ce:=zCb j hn (xD j p).group c.gr c.wt ((c.li.map vT).set p (vT ⟨1,0⟩)) (c.nx.map iA) (c.li.map vT).length (c.nx.map iA).length;unfold etF b1F bP JO;dsimp only;rw[zZ8,zZ8,zZx,zZx];rw[show([aG j 0 (xD j p).group 0,aG j 1 (xD j p).group 0].map iA)=[iA (aG j 0 (xD j p).group 0),iA (aG j 1 (xD j p).group 0)]from Z];have hfx:(([iA (aG j 0 (xD j p).group 0),iA (aG j 1 (xD j p).group 0)]:List AV)).length=2:=rfl;rw[hfx]
 have hyf:∃v,([iA (aG j 0 (xD j p).group 0),iA (aG j 1 (xD j p).group 0)]:List AV)[(xD j p).ring.toNat]? =some (iA v):=by
  have:(xD j p).ring=0∨(xD j p).ring=1:=by omega
  rcases this with h|h<;>rw[h]
  ·exact⟨_,rfl⟩
  ·exact⟨_,rfl⟩
 obtain⟨v0,hyf⟩:=hyf;generalize ([iA (aG j 0 (xD j p).group 0),iA (aG j 1 (xD j p).group 0)]:List AV)=fx at *;clear hkf eb;generalize aG j (xD j p).ring (xD j p).group (p+1)=fo at *;obtain⟨rn,hrn⟩:∃n:Nat,(xD j p).ring=n:=⟨(xD j p).ring.toNat,zB⟩;have hyl:=zM vT c.li p zB;rw[hrn,zZp]at hyf;generalize hx1:vN c p=l0 at*
 change (c.li.map vT)[p]? =some (vT (vN c p))at hyl
 rw[hx1]at hyl;refine eM call290 λF hF=>?_
 refine WW ?_;refine zS (c.li.length) [3,3000,1001,1002] [3,3000,1001,1002] [1,2,3,12,13] [14,1,2,3,12,13] Z (λi T U=>⟨(14,iA i)::T,U⟩) ?_;(conv=>whnf);refine⟨by rfl,?_,?_⟩
 ·intro i hi;have hy:=zM vT c.li i hi
  change (c.li.map vT)[i]? =some (vT (vN c i))at hy
  have ck:=gJ j.cf hcf p i;have hb:=h0 i hi;clear h0 hyl cf ce;by_cases h1:(vN c i).lamp=0
  ·generalize vN c i=t at *;clear hb;refine WW ?_;rfl
  ·have hq:dV j.cf p i=false:=by
    cases hq:dV j.cf p i with
    |false=>rfl
    |true=>
     rw[hq,yCg]at hb;exact absurd (by simpa using hb) h1
   rw[hq]at ck;generalize vN c i=t at *;clear hb;refine zY ck ?_;rfl
 ·clear h0;generalize xD j p=t at *;rw[hrn,zZp];have et:vK t= .agg [iA rn,iA t.group,iA t.ming,iA t.maxg,iA t.yel,iA t.red,iA t.walk,iA t.clear]:=by rw[<-hrn];rfl
  rw[et]at hyp;rw[hrn]at cf;refine yR (wZ ce cf) ?_;exact jT [3000,1001,1002,2001] Z Z Z Z
def ctT (c:Ct):AV:= .agg [.sl false ((c.li.map vT).take (c.li.map vT).length),iA c.gr,.sl false ((c.nx.map iA).take (c.nx.map iA).length),iA c.wt]
def ZW (c:Ct):ctT c=ctA c:=by unfold ctT;rw[zX6,zX6];rfl
def WJ (j:Jn) (hn:j.ph.length<=1000) (c:Ct) (hc:c.li.length=j.ph.length) (r:Int):zO 288 [vC j,ctT c,iA r] [] (bA (dkF j c r)) []:=by rw[ZW];exact zSk j hn c hc r
def AN (j:Jn) (hn:j.ph.length<=1000) (hcf:j.cf.length<=40) (c:Ct) (hm:c.nx.length=2) (r t:Int) (hr:0<=r/\r<2):zO 289 [vC j,ctT c,iA r,iA t] [] (iA (cmF j (c.nx.getD r.toNat default) r t)) []:=by rw[ZW];exact zSl j hn hcf c hm r t hr
def JP {j:Jn} (J:JV j) {c:Ct} {r:Int} {t:Nat} (ht:t<j.ph.length) (h:XS j c r t≠ -1):∃p:Nat,XS j c r t=p/\p<j.ph.length/\(xD j p).group=(xD j t).group:=by
 unfold XS at h⊢;split
 ·exact⟨t,rfl,ht,rfl⟩
 ·rename_i hr;rw[zX2 hr]at h
  rcases FV j (c.nx.getD r.toNat default) r t with h1|⟨p,h1,h2,_,h4⟩
  ·exact absurd h1 h
  ·refine⟨p,h1,h2,?_⟩;by_cases hpt:p=t
   ·rw[hpt]
   ·exact yA1 λhg=>by
     have:=J.ap p t h2 ht hpt (.inr hg);rw[h4]at this;cases this
def cC (j:Jn) (c:Ct) (p:Nat):(VW j c p=true/\gI j c p=c)∨(VW j c p=false/\(gI j c p).gr=(xD j p).group):=by
 unfold gI;split
 ·rename_i h;exact .inl ⟨h,rfl⟩
 ·rename_i h;refine .inr ⟨by simpa using h,?_⟩;dsimp only;unfold FU;split
  ·rename_i h2;exact h2
  ·rfl
def BK (e:Bool) (c:Ct) (o:List Int):List (Nat×xN):=if e=true then JO c o else bP c 1002
end Av
end Go.Proofs.YteajjdidebfcjaaGreat
