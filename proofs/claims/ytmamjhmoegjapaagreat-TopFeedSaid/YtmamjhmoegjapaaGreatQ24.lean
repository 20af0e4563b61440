/- Part 24. -/
import Derived.Test.YtmamjhmoegjapaaGreatQ23
namespace Go.Proofs.YtmamjhmoegjapaaGreat
namespace Av
open Tryz
set_option linter.all false
set_option maxRecDepth 4000
set_option maxHeartbeats 1000000
def inS (s p:Int):Bool:=fV (vR s p) 1==1
theorem zQx:∀(s:_root_.Fin 256) (p:_root_.Fin 8),qZ BinOp.eql (IntKind.u64.wrap ((BitVec.ofInt IntKind.u64.bits (Int.fdiv (s.val:Int) (2 ^ min (p.val:Int).toNat IntKind.u64.bits)) &&& BitVec.ofInt IntKind.u64.bits 1).toNat:Int)) 1=inS s.val p.val:=by decide +kernel
theorem GA (s p:Int) (hs:0<=s/\s<256) (hp:0<=p/\p<8):zN 274 [iA s,iA p] [] (bA (inS s p)) []:=by
 have hf:=zQx ⟨s.toNat,zB⟩ ⟨p.toNat,zB⟩;rw[show((s.toNat:Nat):Int)=s by omega,show((p.toNat:Nat):Int)=p by omega]at hf;generalize inS s p=q at *;subst hf;refine eM call274 λF hF=>?_
 (repeat' (first|refine qA ?_|refine xQ (λhc=>?_) (λhc=>?_)|refine wD (λhc=>?_)|(refine zE ?_;first|(refine wZ ?_;refine xK (RN rfl rfl) rfl ?_))|fail))
 exact zK
theorem zE9 (p:Nat->Bool) (i:Nat) (hi:i<8):inS (eX p 8) i=p i:=zNy p i hi
def IY (c:Ct) (p:Nat):Bool:=(vD c p).lamp != 0
def seF (c:Ct):Int:=eX (IY c) c.li.length
theorem LM (p:Nat->Bool):∀n m:Nat,n<=m->(∀i,n<=i->i<m->p i=false)->eX p m=eX p n
 |n,0,h,_=>by rw[Nat.le_zero.1 h]
 |n,m+1,h,hp=>by
  by_cases e:n=m+1
  ·rw[e]
  ·rw[eX,hp m zB zB];exact LM p n m zB λi h1 h2=>hp i h1 zB
theorem zQy (p:Nat->Bool) (n:Nat) (hn:n<=25):orI (eX p n) (p2 n)=eX p n+p2 n:=by
 have h1:=QX p n;have h2:(2:Nat) ^ n<=2 ^ 25:=yA9 zB hn;rw[FZ,show p2 (n:Int)=((2 ^ n:Nat):Int) by unfold p2;simp,KX _ _ zB zB];have h3:=Nat.two_pow_add_eq_or_of_lt h1 1;rw[Nat.mul_one]at h3;rw[Nat.or_comm,<-h3];omega
theorem zUh (c:Ct) (hn:c.li.length<=25):zN 247 [ctA c] [] (iA (seF c)) []:=by
 have hl:=zA vG c.li;unfold seF;refine eM call247 λF hF=>?_
 refine WW ?_;refine zP (c.li.length) [] [] [7,8] [3,9,7,8] rfl (λi T U=>⟨(3,iA (eX (IY c) i))::(9,iA i)::T,U⟩) ?_;(conv=>whnf);refine⟨by rfl,?_,?_⟩
 ·intro i hi;have hy:=zM vG c.li i hi
  change (c.li.map vG)[i]? =some (vG (vD c i))at hy
  have ho:=zQy (IY c) i zB
  have e:eX (IY c) (i+1)=if IY c i=true then eX (IY c) i+p2 i else eX (IY c) i:=rfl
  rw[<-ho]at e;have hsb:IY c i=((vD c i).lamp != 0):=rfl;rw[e,hsb];generalize eX (IY c) i=b at *;generalize vD c i=t at *;by_cases h:t.lamp=0
  ·rw[zW8 (by simp[h])];refine WW ?_;rfl
  ·rw[zW9 (by simp[h])];refine WW ?_;rfl
 ·(refine WW ?_)
  exact zK
theorem MA {P:Nat->Prop}:∀n,P n->∃m,m<=n/\P m/\∀k,k<m->¬P k:=by
 intro n
 induction n using Nat.strongRecOn with
 |_ n ih=>
  intro h;by_cases hx:∃k,k<n/\P k
  ·obtain⟨k,h1,h2⟩:=hx;obtain⟨m,h3,h4,h5⟩:=ih k h1 h2;exact⟨m,zB,h4,h5⟩
  ·exact⟨n,zXc _,h,λk h1 h2=>hx ⟨k,h1,h2⟩⟩
def IZ (rows:List Int) (s:Int) (p q:Nat):Bool:=inS s p&&(decide (q≠p)&&(inS s q&&fX rows p q))
theorem zFa (rows:List Int) (hn:rows.length<=8) (s:Int) (hs:0<=s/\s<256):∃p q:Int,zN 246 [zD iA rows,iA s] [] (.tup [iA p,iA q]) []/\((p= -1/\∀a b:Nat,a<rows.length->b<rows.length->IZ rows s a b=false)∨(0<=p/\∃a b:Nat,a<rows.length/\b<rows.length/\IZ rows s a b=true)):=by
 have hl:=zA iA rows;by_cases hx:∃a,a<rows.length/\∃b,b<rows.length/\IZ rows s a b=true
 ·obtain⟨a,ha,hx⟩:=hx;obtain⟨p,_,⟨hp,hx⟩,hpm⟩:=MA (P:=λa=>a<rows.length/\∃b,b<rows.length/\IZ rows s a b=true) a ⟨ha,hx⟩;obtain⟨b,hb⟩:=hx;obtain⟨q,_,⟨hq,hc⟩,hqm⟩:=MA (P:=λb=>b<rows.length/\IZ rows s p b=true) b hb;refine⟨p,q,?_,.inr ⟨zB,p,q,hp,hq,hc⟩⟩
  have hsp:inS s p=true:=by
   unfold IZ at hc;rw[zXo]at hc;exact hc.1
  refine eM call246 λF hF=>?_
  refine WW ?_;refine xT (rows.length) [] [] [0,1,9] [10,0,1,9] rfl (λi T U zs=>(i<=p)/\zs=⟨(10,iA i)::T,U⟩) ?_;(conv=>whnf);refine⟨?_,?_,?_⟩
  ·exact⟨zXp _,rfl⟩
  ·rintro u st hu ⟨hup,rfl⟩;have ci:=GA s u hs zB;by_cases hup2:u=p
   ·subst hup2;rw[hsp]at ci;refine zU ci ?_;refine xT (rows.length) [] [] [0,1,6,9,10,18] [19,0,1,6,9,10,18] rfl (λi T U zs=>(i<=q)/\zs=⟨(19,iA i)::T,U⟩) ?_;(conv=>whnf);refine⟨?_,?_,?_⟩
    ·exact⟨zXp _,rfl⟩
    ·rintro v st hv ⟨hvq,rfl⟩;have cj:=GA s v hs zB;have ck:=jO rows zB u v;by_cases hvq2:v=q
     ·subst hvq2;unfold IZ at hc;simp only[zXo,zXi]at hc;rw[hc.2.2.1]at cj;rw[hc.2.2.2]at ck;have hne:(v:Int)≠u:=by omega
      refine yO (wW cj ck) ?_;exact zK
     ·have hno:IZ rows s u v=false:=by
       cases hcc:IZ rows s u v with
       |false=>rfl
       |true=>exact absurd ⟨hv,hcc⟩ (hqm v zB)
      unfold IZ at hno;rw[hsp,zX1]at hno;by_cases h1:v=u
      ·have hne:(v:Int)=u:=by omega
       refine WW ?_;exact⟨zB,rfl⟩
      have hne:(v:Int)≠u:=by omega
      rw[zXg h1,zX1]at hno
      cases h2:inS s v with
      |false=>
       rw[h2]at cj;refine zU cj ?_;exact⟨zB,rfl⟩
      |true=>
       rw[h2,zX1]at hno;rw[h2]at cj;rw[hno]at ck;refine yO (wW cj ck) ?_;exact⟨zB,rfl⟩
    ·rintro st ⟨hvq,rfl⟩;exfalso;omega
   ·have hno:∀b,b<rows.length->IZ rows s u b=false:=λb hb=>by
     cases hcc:IZ rows s u b with
     |false=>rfl
     |true=>exact absurd ⟨hu,b,hb,hcc⟩ (hpm u zB)
    cases h3:inS s u with
    |false=>
     rw[h3]at ci;refine zU ci ?_;exact⟨zB,rfl⟩
    |true=>
    rw[h3]at ci;refine zU ci ?_;refine zP (rows.length) [] [] [0,1,6,9,10,18] [19,0,1,6,9,10,18] rfl (λi T U=>⟨(19,iA i)::T,U⟩) ?_;(conv=>whnf);refine⟨by rfl,?_,?_⟩
    ·intro v hv;have cj:=GA s v hs zB;have ck:=jO rows zB u v;have hno:=hno v hv;unfold IZ at hno;rw[h3,zX1]at hno;by_cases h1:v=u
     ·have hne:(v:Int)=u:=by omega
      refine WW ?_;rfl
     have hne:(v:Int)≠u:=by omega
     rw[zXg h1,zX1]at hno
     cases h2:inS s v with
     |false=>
      rw[h2]at cj;refine zU cj ?_;rfl
     |true=>
      rw[h2,zX1]at hno;rw[h2]at cj;rw[hno]at ck;refine yO (wW cj ck) ?_;rfl
    ·(refine WW ?_)
     exact⟨zB,rfl⟩
  ·rintro st ⟨hup,rfl⟩;exfalso;omega
 ·have hno:∀a b,a<rows.length->b<rows.length->IZ rows s a b=false:=λa b ha hb=>by
   cases hcc:IZ rows s a b with
   |false=>rfl
   |true=>exact absurd ⟨a,ha,b,hb,hcc⟩ hx
  refine⟨-1,-1,?_,.inl ⟨rfl,hno⟩⟩;clear hx;refine eM call246 λF hF=>?_
  refine WW ?_;refine zP (rows.length) [] [] [0,1,9] [10,0,1,9] rfl (λi T U=>⟨(10,iA i)::T,U⟩) ?_;(conv=>whnf);refine⟨by rfl,?_,?_⟩
  ·intro u hu;have ci:=GA s u hs zB
   cases h3:inS s u with
   |false=>
    rw[h3]at ci;refine zU ci ?_;rfl
   |true=>
   rw[h3]at ci;refine zU ci ?_;refine zP (rows.length) [] [] [0,1,6,9,10,18] [19,0,1,6,9,10,18] rfl (λi T U=>⟨(19,iA i)::T,U⟩) ?_;(conv=>whnf);refine⟨by rfl,?_,?_⟩
   ·intro v hv;have cj:=GA s v hs zB;have ck:=jO rows zB u v;have hno:=hno u v hu hv;unfold IZ at hno;rw[h3,zX1]at hno;by_cases h1:v=u
    ·have hne:(v:Int)=u:=by omega
     refine WW ?_;rfl
    have hne:(v:Int)≠u:=by omega
    rw[zXg h1,zX1]at hno
    cases h2:inS s v with
    |false=>
     rw[h2]at cj;refine zU cj ?_;rfl
    |true=>
     rw[h2,zX1]at hno;rw[h2]at cj;rw[hno]at ck;refine yO (wW cj ck) ?_;rfl
   ·(refine WW ?_)
    rfl
  ·(refine WW ?_)
   exact zK
theorem GB (j:Jn) (hn:j.ph.length<=1000) (hg:∀p:Nat,p<j.ph.length->0<=(xC j p).group/\(xC j p).group<=3):zN 248 [wP j] [] (iA (WH j)) []:=by
 have hl:=zA wY j.ph;unfold WH;refine eM call248 λF hF=>?_
 refine WW ?_;refine zP (j.ph.length) [] [] [7,8] [3,9,7,8] rfl (λi T U=>⟨(3,iA (grN j.ph i))::(9,iA i)::T,U⟩) ?_;(conv=>whnf);refine⟨by rfl,?_,?_⟩
 ·intro i hi;have hy:=zM wY j.ph i hi;have hb:=hg i hi;unfold xC at hb;have e:grN j.ph (i+1)=max (grN j.ph i) ((j.ph.getD i default).group+1):=rfl;rw[e];generalize grN j.ph i=g at *;generalize j.ph.getD i default=t at *;refine WW ?_;rfl
 ·(refine WW ?_)
  exact zK
def LN (j:Jn) (r g:Int) (i:Nat):List Nat:=(List.range i).filter λp=>(xC j p).ring==r&&(xC j p).group==g
theorem zFb (j:Jn) (r g:Int) (i:Nat):LN j r g (i+1)=if(xC j i).ring=r/\(xC j i).group=g then LN j r g i++[i]else LN j r g i:=by
 unfold LN;rw[zZp,yAz];by_cases h:(xC j i).ring=r/\(xC j i).group=g
 ·rw[zW9 h];simp[h.1,h.2]
 ·rw[zW8 h]
  have:((xC j i).ring==r&&(xC j i).group==g)=false:=by
   rw[Bool.and_eq_false_iff]
   rcases Classical.not_and_iff_not_or_not.1 h with h|h
   ·exact .inl NS
   ·exact .inr NS
  simp[this]
theorem zLf {α:Type} (f:α->AV) (l:List α):AV.sl false ((l.map f).take (l.map f).length)=zD f l:=by rw[zXe];rfl
def nA (p:Nat):AV:=iA (p:Int)
theorem zWb (j:Jn) (hn:j.ph.length<=1000) (r g:Int):zN 250 [wP j,iA r,iA g] [] (zD nA (LN j r g j.ph.length)) []:=by
 have hl:=zA wY j.ph;refine eM call250 λF hF=>?_
 refine WW ?_;refine xG 7 1001 1 rfl rfl rfl ?_;refine zP (j.ph.length) [1001] [] [1,2,11,12] [7,13,1,2,11,12] rfl (λi T U=>⟨(7,.ref 1001 0 ((LN j r g i).map nA).length)::(13,iA i)::T,(1001,.arr 1 ((LN j r g i).map nA) true)::U⟩) ?_;(conv=>whnf);refine⟨by rfl,?_,?_⟩
 ·intro i hi;have hy:=zM wY j.ph i hi
  change (j.ph.map wY)[i]? =some (wY (xC j i))at hy
  have es:=zFb j r g i
  have hlen:(LN j r g i).length<=1000:=by
   have:(LN j r g i).length<=(List.range i).length:=zZn _ _;rw[zYu]at this;omega
  have hlm:((LN j r g i).map nA).length<=1000:=by rw[zXa];exact hlen
  rw[es];generalize LN j r g i=o at *;generalize xC j i=t at *;by_cases h1:t.ring=r
  ·by_cases h2:t.group=g
   ·rw[zW9 ⟨h1,h2⟩,zXf];generalize o.map nA=xs at *;refine WW ?_;rfl
   ·rw[zW8 (λh=>h2 h.2)];refine WW ?_;rfl
  ·rw[zW8 (λh=>h1 h.1)];refine WW ?_;rfl
 ·(refine WW ?_)
  exact zH [] rfl rfl (zLf _ _) rfl
def LO (l:List Nat) (x:Int):Bool:=l.any λp:Nat=>(p:Int)==x
theorem zFc (l:List Nat) (hn:l.length<=1000) (x:Int):∃k:Int,zN 275 [zD nA l,iA x] [] (iA k) []/\ -1<=k/\k<1000/\(LO l x=decide (0<=k)):=by
 have hl:=zA nA l;by_cases hx:∃i,i<l.length/\((l.getD i default:Nat):Int)=x
 ·obtain⟨i0,h1,h2⟩:=hx;obtain⟨k,_,⟨hk,hkx⟩,hkm⟩:=MA (P:=λi=>i<l.length/\((l.getD i default:Nat):Int)=x) i0 ⟨h1,h2⟩;refine⟨k,?_,zB,zB,?_⟩
  ·(refine eM call275 λF hF=>?_)
   refine WW ?_;refine xT (l.length) [] [] [0,1,7] [8,0,1,7] rfl (λi T U zs=>(i<=k)/\zs=⟨(8,iA i)::T,U⟩) ?_;(conv=>whnf);refine⟨?_,?_,?_⟩
   ·exact⟨zXp _,rfl⟩
   ·rintro u st hu ⟨huk,rfl⟩;have hy:=zM nA l u hu;by_cases e:u=k
    ·subst e;generalize l.getD u default=v at *;unfold nA at hy;refine WW ?_;exact zK
    ·have hne:¬((l.getD u default:Nat):Int)=x:=λh=>hkm u zB ⟨hu,h⟩
     generalize l.getD u default=v at *;unfold nA at hy;refine WW ?_;exact⟨zB,rfl⟩
   ·rintro st ⟨huk,rfl⟩;exfalso;omega
  ·rw[zXg zB];unfold LO;rw[zYv];exact⟨l.getD k default,by simp[List.getD,hk],by rw[zYr];exact hkx⟩
 ·refine⟨-1,?_,zB,zB,?_⟩
  ·(refine eM call275 λF hF=>?_)
   refine WW ?_;refine zP (l.length) [] [] [0,1,7] [8,0,1,7] rfl (λi T U=>⟨(8,iA i)::T,U⟩) ?_;(conv=>whnf);refine⟨by rfl,?_,?_⟩
   ·intro u hu;have hy:=zM nA l u hu;have hne:¬((l.getD u default:Nat):Int)=x:=λh=>hx ⟨u,hu,h⟩
    generalize l.getD u default=v at *;unfold nA at hy;clear hx;refine WW ?_;rfl
   ·clear hx;refine WW ?_;exact zK
  ·rw[zXj zB];unfold LO;rw[zZ8];intro p hp;obtain⟨i,hi,rfl⟩:=zZk hp;intro h;rw[zYr]at h;exact hx ⟨i,hi,by simpa [List.getD,hi]using h⟩
theorem CS (l:List Nat) (hn:l.length<=1000) (x:Int):zN 249 [zD nA l,iA x] [] (bA (LO l x)) []:=by
 obtain⟨k,c,h1,h2,h3⟩:=zFc l hn x;rw[h3];by_cases h:0<=k
 ·rw[zXg h];refine eM call249 λF hF=>?_
  refine zU c ?_;exact zK
 ·rw[zXj h];refine eM call249 λF hF=>?_
  refine zU c ?_;exact zK
theorem zFd (l:Li):zN 277 [vG l] [] (bA (l.lamp != 0)) []:=by
 by_cases h:l.lamp=0
 ·rw[show(l.lamp != 0)=false by simp[h]];refine eM call277 λF hF=>?_
  refine WW ?_;exact zK
 ·rw[show(l.lamp != 0)=true by simp[h]];refine eM call277 λF hF=>?_
  refine WW ?_;exact zK
theorem zQz (c:Ct) (hn:c.li.length<=1000):∃k:Int,zN 296 [zD vG c.li,.fn 277 []] [] (iA k) []/\ -1<=k/\k<1000/\(arF c= !decide (0<=k)):=by
 have hl:=zA vG c.li;by_cases hx:∃i,i<c.li.length/\(vD c i).lamp≠0
 ·obtain⟨i0,h1,h2⟩:=hx;obtain⟨k,_,⟨hk,hkx⟩,hkm⟩:=MA (P:=λi=>i<c.li.length/\(vD c i).lamp≠0) i0 ⟨h1,h2⟩;refine⟨k,?_,zB,zB,?_⟩
  ·(refine eM call296 λF hF=>?_)
   refine WW ?_;refine xT (c.li.length) [] [] [0,1,7] [8,0,1,7] rfl (λi T U zs=>(i<=k)/\zs=⟨(8,iA i)::T,U⟩) ?_;(conv=>whnf);refine⟨?_,?_,?_⟩
   ·exact⟨zXp _,rfl⟩
   ·rintro u st hu ⟨huk,rfl⟩;have hy:=zM vG c.li u hu
    change (c.li.map vG)[u]? =some (vG (vD c u))at hy
    have cn:=zFd (vD c u);by_cases e:u=k
    ·subst e;rw[show((vD c u).lamp != 0)=true by simpa using hkx]at cn;generalize vD c u=v at *;refine zU cn ?_;exact zK
    ·have hne:(vD c u).lamp=0:=yAi λh=>hkm u zB ⟨hu,h⟩
     rw[show((vD c u).lamp != 0)=false by simpa using hne]at cn;generalize vD c u=v at *;refine zU cn ?_;exact⟨zB,rfl⟩
   ·rintro st ⟨huk,rfl⟩;exfalso;omega
  ·rw[zXg zB];unfold arF;exact zZ7.2 ⟨vD c k,by simp[vD,List.getD,hk],by simpa using hkx⟩
 ·have h0:∀i,i<c.li.length->(vD c i).lamp=0:=λi hi=>yAi λh=>hx ⟨i,hi,h⟩
  refine⟨-1,?_,zB,zB,?_⟩
  ·clear hx;refine eM call296 λF hF=>?_
   refine WW ?_;refine zP (c.li.length) [] [] [0,1,7] [8,0,1,7] rfl (λi T U=>⟨(8,iA i)::T,U⟩) ?_;(conv=>whnf);refine⟨by rfl,?_,?_⟩
   ·intro u hu;have hy:=zM vG c.li u hu
    change (c.li.map vG)[u]? =some (vG (vD c u))at hy
    have cn:=zFd (vD c u);have h0:=h0 u hu;rw[show((vD c u).lamp != 0)=false by simpa using h0]at cn;generalize vD c u=v at *;refine zU cn ?_;rfl
   ·(refine WW ?_)
    exact zK
  ·rw[zXj zB];unfold arF;rw[yB5,zXm];intro l hl;obtain⟨i,hi,rfl⟩:=zZk hl;have:=h0 i hi;simpa [vD,List.getD,hi]using this
theorem GC (c:Ct) (hn:c.li.length<=1000):zN 251 [ctA c] [] (bA (arF c)) []:=by
 obtain⟨k,c1,h1,h2,h3⟩:=zQz c hn
 have c2:zN 276 [zD vG c.li,.fn 277 []] [] (bA (decide (0<=k))) []:=by
  by_cases h:0<=k
  ·rw[zXg h];refine eM call276 λF hF=>?_
   refine zU c1 ?_;exact zK
  ·rw[zXj h];refine eM call276 λF hF=>?_
   refine zU c1 ?_;exact zK
 rw[h3]
 cases hd:decide (0<=k)<;>rw[hd]at c2
 ·(refine eM call251 λF hF=>?_)
  refine zU c2 ?_;exact zK
 ·(refine eM call251 λF hF=>?_)
  refine zU c2 ?_;exact zK
def nvF (j:Jn) (c:Ct):Bool:=(List.range j.ph.length).all λp=>OW (xC j p) (vD c p)
def ncF (j:Jn) (c:Ct):Bool:=(List.range j.cf.length).all λa=>(List.range j.cf.length).all λb=>!IZ j.cf (seF c) a b
def nxO (j:Jn) (c:Ct) (r:Nat):Bool:=decide (c.nx.getD r default= -1)||LO (LN j r c.gr j.ph.length) (c.nx.getD r default)
def vcF (j:Jn) (c:Ct):Bool:=decide (c.li.length=j.ph.length/\c.nx.length=2)&&(nvF j c&&(ncF j c&&(decide (0<=c.gr/\c.gr<WH j)&&((List.range 2).all (nxO j c)&&(decide (0<=c.wt/\c.wt<=j.st)&&(decide (c.wt=0)||arF c))))))
structure JB (j:Jn):Prop where
 n:j.ph.length<=8
 c:j.cf.length<=8
 gp:∀p:Nat,p<j.ph.length->0<=(xC j p).group/\(xC j p).group<=3
theorem JV.b {j:Jn} (J:JV j):JB j:=⟨J.n.2,by rw[J.c];exact J.n.2,J.gp⟩
theorem zWc {n:Nat} (h:n<=8):p2 (n:Int)<=256:=by
 have:n=0∨n=1∨n=2∨n=3∨n=4∨n=5∨n=6∨n=7∨n=8:=by omega
 rcases this with rfl|rfl|rfl|rfl|rfl|rfl|rfl|rfl|rfl<;>decide
theorem zLg (j:Jn) (J:JB j) (c:Ct):zN 226 [wP j,ctA c] [] (bA (vcF j c)) []:=by
 have hlp:=zA wY j.ph;have hll:=zA vG c.li;have hln:=zA iA c.nx;have hn8:=J.n;unfold vcF;by_cases h1:c.li.length=j.ph.length
 case neg=>
  rw[zXj (λh=>h1 h.1)];refine eM call226 λF hF=>?_
  refine WW ?_;exact zK
 by_cases h2:c.nx.length=2
 case neg=>
  rw[zXj (λh=>h2 h.2)];refine eM call226 λF hF=>?_
  refine WW ?_;exact zK
 rw[zXg ⟨h1,h2⟩,zX1];have cs:=zUh c zB;have hsb:=AH (IY c) c.li.length zB;have hp8:=zWc (n:=c.li.length) zB
 change 0<=seF c/\seF c<p2 c.li.length at hsb
 obtain⟨cp,cq,cc,hcl⟩:=zFa j.cf J.c (seF c) zB
 have hnc:ncF j c=decide (cp= -1):=by
  unfold ncF
  rcases hcl with⟨h3,h4⟩|⟨h3,a,b,ha,hb,h4⟩
  ·rw[zXg h3,zXm];intro a ha;rw[zXm];intro b hb;rw[h4 a b (zXz.1 ha) (zXz.1 hb)];rfl
  ·rw[zXj zB,zZ7];refine⟨a,zXz.2 ha,?_⟩;rw[zZ4,zZ7];exact⟨b,zXz.2 hb,by rw[h4];decide⟩
 have hcp:cp= -1∨0<=cp:=by
  rcases hcl with h|h
  ·exact .inl h.1
  ·exact .inr h.1
 have cg:=GB j zB J.gp;have ca:=GC c zB;clear hcl;rw[hnc];generalize seF c=se at *;generalize WH j=gm at *;generalize hra:arF c=ra at *;refine eM call226 λF hF=>?_
 refine WW ?_;refine xT (j.ph.length) [2,3] [2,3] [2,3,25,26] [27,2,3,25,26] rfl (λi T U zs=>(∀s:Nat,s<i->OW (xC j s) (vD c s)=true)/\zs=⟨(27,iA i)::T,U⟩) ?_;(conv=>whnf);refine⟨?_,?_,?_⟩
 ·exact⟨λs hs=>absurd hs (zZq _),rfl⟩
 ·rintro i st hi ⟨hp,rfl⟩;have hy:=zM wY j.ph i hi;have hyl:=zM vG c.li i zB
  change (j.ph.map wY)[i]? =some (wY (xC j i))at hy
  change (c.li.map vG)[i]? =some (vG (vD c i))at hyl
  have cv:=zFu (xC j i) (vD c i)
  cases hq:OW (xC j i) (vD c i)with
  | true=>
   rw[hq]at cv
   have hp2:∀s:Nat,s<i+1->OW (xC j s) (vD c s)=true:=λs hs=>by
    by_cases hsi:s=i
    ·subst hsi;assumption
    ·exact hp s zB
   clear hq hp;generalize xC j i=t at *;generalize vD c i=l at *;clear cs cc cg ca;refine zU cv ?_;exact⟨hp2,rfl⟩
  |false=>
   have hnv:nvF j c=false:=zZ7.2 ⟨i,zXz.2 hi,by rw[hq];decide⟩;rw[hq]at cv;rw[hnv,zY2];clear hq hp;generalize xC j i=t at *;generalize vD c i=l at *;clear cs cc cg ca;refine zU cv ?_;exact zK
 ·rintro st ⟨hp,rfl⟩;have hnv:nvF j c=true:=zXm.2 λi hi=>hp i (zXz.1 hi)
  rw[hnv,zX1];clear hp hnv;by_cases hcq:cp= -1
  case neg=>
   rw[zXj hcq];refine yO (wW cs cc) ?_;exact zK
  rw[zXg hcq,zX1];by_cases hg0:0<=c.gr
  case neg=>
   rw[zXj (λh=>hg0 h.1)];refine yO (gU cs cc cg) ?_;exact zK
  by_cases hg1:c.gr<gm
  case neg=>
   rw[zXj (λh=>hg1 h.2)];refine yO (gU cs cc cg) ?_;exact zK
  rw[zXg ⟨hg0,hg1⟩,zX1];refine yO (gU cs cc cg) ?_;refine xT (c.nx.length) [2,3] [2,3] [2,3,62,63] [64,2,3,62,63] rfl (λi T U zs=>(∀s:Nat,s<i->nxO j c s=true)/\zs=⟨(64,iA i)::T,U⟩) ?_;(conv=>whnf);refine⟨?_,?_,?_⟩
  ·exact⟨λs hs=>absurd hs (zZq _),rfl⟩
  ·rintro i st hi ⟨hp,rfl⟩;have hy:=zM iA c.nx i hi;have co:=zWb j zB i c.gr
   have hlen:(LN j i c.gr j.ph.length).length<=1000:=by
    have:(LN j i c.gr j.ph.length).length<=(List.range j.ph.length).length:=zZn _ _;rw[zYu]at this;omega
   have ch:=CS (LN j i c.gr j.ph.length) hlen (c.nx.getD i default)
   have next:nxO j c i=true->∀s:Nat,s<i+1->nxO j c s=true:=λh s hs=>by
    by_cases hsi:s=i
    ·subst hsi;exact h
    ·exact hp s zB
   have stop:nxO j c i=false->((List.range 2).all (nxO j c))=false:=λh=>zZ7.2 ⟨i,zXz.2 zB,by rw[h];decide⟩
   have ex:nxO j c i=(decide (c.nx.getD i default= -1)||LO (LN j i c.gr j.ph.length) (c.nx.getD i default)):=rfl;clear hp cs cc cg ca;generalize LN j i c.gr j.ph.length=o at *;generalize LO o (c.nx.getD i default)=hb at *;generalize c.nx.getD i default=x at *;generalize nxO j c i=q at *;by_cases hx:x= -1
   ·rw[zXg hx]at ex;have hnx:=next ex;refine WW ?_;exact⟨hnx,rfl⟩
   rw[zXj hx,yAr]at ex
   cases hb with
   |true=>
    have hnx:=next ex;refine yO (wW co ch) ?_;exact⟨hnx,rfl⟩
   |false=>
    rw[stop ex,zY2];refine yO (wW co ch) ?_;exact zK
  ·rintro st ⟨hp,rfl⟩;have hall:((List.range 2).all (nxO j c))=true:=zXm.2 λi hi=>hp i (by have:=zXz.1 hi;omega)
   rw[hall,zX1];clear hp hall;by_cases hw0:0<=c.wt
   case neg=>
    rw[zXj (λh=>hw0 h.1)];refine WW ?_;exact zK
   by_cases hw1:c.wt<=j.st
   case neg=>
    rw[zXj (λh=>hw1 h.2)];refine WW ?_;exact zK
   rw[zXg ⟨hw0,hw1⟩,zX1];by_cases hz:c.wt=0
   ·rw[zXg hz];refine WW ?_;exact zK
   ·rw[zXj hz,yAr];refine zU ca ?_;exact zK
theorem zQ0 {j:Jn} (J:JV j) {c:Ct} (C:CV j c):vcF j c=true:=by
 have hn:=C.n;have hJ:=J.n;unfold vcF;have h1:nvF j c=true:=zXm.2 λp hp=>C.k p (zXz.1 hp)
 have h2:ncF j c=true:=by
  unfold ncF;rw[zXm];intro a ha;rw[zXm];intro b hb;have ha:=zXz.1 ha;have hb:=zXz.1 hb;rw[J.c]at ha hb
  have hin:∀p:Nat,p<j.ph.length->inS (seF c) p=IY c p:=λp hp=>by
   unfold seF;have e:=LM (λq=>decide (q<c.li.length)&&IY c q) c.li.length 8 zB (λi h1 h2=>by rw[zXj zB];rfl);have e2:eX (IY c) c.li.length=eX (λq=>decide (q<c.li.length)&&IY c q) c.li.length:=cN _ λi hi=>by rw[zXg hi];rfl
   rw[e2,<-e,zE9 _ p zB,zXg zB];rfl
  rw[zZl];unfold IZ;rw[hin a ha,hin b hb];by_cases hab:b=a
  ·rw[zXj (λh=>h hab)];simp
  ·cases hsa:IY c a with
   |false=>rfl
   | true=>
    cases hsb:IY c b with
    |false=>simp
    |true=>
     rw[C.x a b ha hb (λh=>hab h.symm) (by simpa [IY]using hsa) (by simpa [IY]using hsb)];simp
 have h3:((List.range 2).all (nxO j c))=true:=zXm.2 λr hr=>by
  have hr:=zXz.1 hr;unfold nxO
  rcases C.v r hr with h|h
  ·rw[zXg h];rfl
  ·have:LO (LN j r c.gr j.ph.length) (c.nx.getD r default)=true:=by
    unfold LO;rw[zYv];obtain⟨a,b,d,e⟩:=h;refine⟨(c.nx.getD r default).toNat,?_,by rw[zYr];omega⟩;unfold LN;rw[yAj,zXz];refine⟨zB,?_⟩;rw[d,e];simp
   rw[this,zZu]
 rw[zXg ⟨hn,C.m⟩,h1,h2,zXg C.g,h3,zXg C.w];simp only[zX1]
 rcases C.z with h|h
 ·rw[zXg h];rfl
 ·have:arF c=true:=by
   unfold arF;rw[zXm];intro l hl;obtain⟨i,hi,rfl⟩:=zZk hl;have:=h i zB;simpa [vD,List.getD,hi]using this
  rw[this,zZu]
theorem zWd (y:Int):fV y 1=0∨fV y 1=1:=by
 show IntKind.i64.wrap (BitVec.ofInt 64 y &&& BitVec.ofInt 64 1).toNat=0∨IntKind.i64.wrap (BitVec.ofInt 64 y &&& BitVec.ofInt 64 1).toNat=1
 have e1:BitVec.ofInt 64 1=1#64:=by decide
 have h:(BitVec.ofInt 64 y &&& BitVec.ofInt 64 1).toNat=(BitVec.ofInt 64 y).toNat % 2:=by
  rw[e1,BitVec.toNat_and];exact Nat.and_one_is_mod _
 rw[h];have h2:(BitVec.ofInt 64 y).toNat % 2=0∨(BitVec.ofInt 64 y).toNat % 2=1:=by omega
 rcases h2 with h2|h2<;>rw[h2]
 ·exact .inl xL
 ·exact .inr xL
theorem LP {rows:List Int} {p q:Nat} (hp:p<rows.length) (hq:q<rows.length):fV (vR (rows.getD p default) q) 1=if fX rows p q=true then 1 else 0:=by
 unfold fX;rw[zXg zB,zX1,zYs];split
 ·rename_i h
  rwa [zYr]at h
 ·rename_i h;rw[zYr]at h
  rcases zWd (vR (rows.getD p default) q)with h1|h1
  ·exact h1
  ·exact absurd h1 h
theorem zWe {x:Int} {n:Nat} (h:0<=x/\x<2 ^ n):vR x n=0:=by
 unfold vR;rw[zYs];exact Int.fdiv_eq_zero_of_lt h.1 h.2
theorem zCp (j:Jn) (J:JV j):zN 175 [zD iA j.cf] [] (bA true) []:=by
 have hl:=zA iA j.cf;have hn:=J.n;have hc:=J.c;refine eM call175 λF hF=>?_
 refine WW ?_;refine zP (j.cf.length) [] [] [0,14,15] [16,0,14,15] rfl (λi T U=>⟨(16,iA i)::T,U⟩) ?_;(conv=>whnf);refine⟨by rfl,?_,?_⟩
 ·intro u hu;have hy:=zM iA j.cf u hu;have hrow:=J.row u zB;have hs0:=zWe hrow;rw[<-hc,<-hl]at hs0;have hir:=LP (p:=u) (q:=u) hu hu;rw[J.ir u zB,zW8 xL]at hir
  have hpq:∀v,v<j.cf.length->fV (vR (j.cf.getD u default) v) 1=fV (vR (j.cf.getD v default) u) 1:=λv hv=>by
   rw[LP hu hv,LP hv hu,J.sy u v zB zB]
  generalize j.cf.getD u default=x at *;refine WW ?_;refine zP (j.cf.length) [] [] [0,3,4,14,15,16,38] [39,0,3,4,14,15,16,38] rfl (λi T U=>⟨(39,iA i)::T,U⟩) ?_;(conv=>whnf);refine⟨by rfl,?_,?_⟩
  ·intro v hv;have hyv:=zM iA j.cf v hv;have hpq:=hpq v hv;generalize j.cf.getD v default=y at *;refine WW ?_;rfl
  ·clear hpq;refine WW ?_;rfl
 ·(refine WW ?_)
  exact zK
theorem eK (n a b:Int) (h:a<=n/\n<=b):zN 141 [iA n,iA a,iA b] [] (bA true) []:=by
 obtain⟨h1,h2⟩:=h;refine eM call141 λF hF=>?_
 refine WW ?_;exact zK
theorem zFe (j:Jn) (J:JV j) (p:Nat) (hp:p<j.ph.length):zN 176 [wY (xC j p)] [] (bA true) []:=by
 have hr:=J.rg p hp;have hg:=J.gp p hp;obtain⟨t1,t2,t3,t4,t5,t6,t7,t8,t9,t10,t11,t12,t13⟩:=J.ti p hp;generalize xC j p=t at *;have c1:=eK t.ring 0 1 hr;have c2:=eK t.group 0 3 hg;have c3:=eK t.ming 1 60 ⟨t1,zB⟩;have c4:=eK t.maxg 1 60 ⟨zB,t3⟩;have c5:=eK t.yel 1 60 ⟨t4,t5⟩;have c6:=eK t.red 0 60 ⟨t6,t7⟩;have c7:=eK t.walk 0 60 ⟨t8,t9⟩;have c8:=eK t.clear 0 60 ⟨t10,t11⟩;by_cases h0:t.walk=0
 ·have h1:=t13.1 h0;clear t13;refine eM call176 λF hF=>?_
  refine yO (zt8 c1 c2 c3 c4 c5 c6 c7 c8) ?_;exact zK
 ·have h1:¬t.clear=0:=λh=>h0 (t13.2 h)
  clear t13;refine eM call176 λF hF=>?_
  refine yO (zt8 c1 c2 c3 c4 c5 c6 c7 c8) ?_;exact zK
theorem zFf (j:Jn) (J:JV j):zN 177 [wP j] [] (bA true) []:=by
 have hl:=zA wY j.ph;have hn:=J.n;have hc:=J.c;refine eM call177 λF hF=>?_
 repeat' (first|(refine zE ?_;first|refine vK tok rfl rfl ?_|refine ZW tok rfl rfl rfl rfl ?_|refine qC ?_)|first|refine SQ ?_|fail|refine wJ ?_|refine wK ?_|refine yS ?_)
 refine zP (j.ph.length) [1] [1] [1,9,10] [3,11,1,9,10] rfl (λi T U=>⟨(3,bA true)::(11,iA i)::T,U⟩) ?_;(conv=>whnf);refine⟨by rfl,?_,?_⟩
 ·intro u hu;have hy:=zM wY j.ph u hu
  change (j.ph.map wY)[u]? =some (wY (xC j u))at hy
  refine WW ?_;refine zP (j.ph.length) [1,5] [1,5] [1,4,5,9,10,11,17,18] [3,19,1,4,5,9,10,11,17,18] rfl (λi T U=>⟨(3,bA true)::(19,iA i)::T,U⟩) ?_;(conv=>whnf);refine⟨by rfl,?_,?_⟩
  ·intro v hv;have hyv:=zM wY j.ph v hv
   change (j.ph.map wY)[v]? =some (wY (xC j v))at hyv
   have ck:=jO j.cf zB u v;have hap:=J.ap u v hu hv;by_cases huv:u=v
   ·have hne:(u:Int)=v:=by omega
    clear hap;generalize xC j u=a at *;generalize xC j v=b at *;refine WW ?_;rfl
   have hne:¬(u:Int)=v:=by omega
   by_cases h1:(xC j u).ring=(xC j v).ring
   ·rw[hap huv (.inl h1)]at ck;clear hap;generalize xC j u=a at *;generalize xC j v=b at *;refine zU ck ?_;rfl
   by_cases h2:(xC j u).group=(xC j v).group
   ·clear hap;generalize xC j u=a at *;generalize xC j v=b at *;refine WW ?_;rfl
   ·rw[hap huv (.inr h2)]at ck;clear hap;generalize xC j u=a at *;generalize xC j v=b at *;refine zU ck ?_;rfl
  ·generalize xC j u=a at *;refine WW ?_;rfl
 ·(refine WW ?_)
  exact zK
def MB (j:Jn) (i:Nat) (g:Nat):Bool:=(List.range i).any λp=>(xC j p).group==(g:Int)
theorem zFg (j:Jn) (i:Nat):MB j (i+1)=λg=>MB j i g||((xC j i).group==(g:Int)):=by
 funext g
 unfold MB;rw[zZp,List.any_append];simp
theorem zUi (g:Nat) (h:g<4):p2 (g:Int)=eX (λx:Nat=>(g:Int)==(x:Int)) 8:=by
 have:g=0∨g=1∨g=2∨g=3:=by omega
 rcases this with rfl|rfl|rfl|rfl<;>decide
theorem zWf:∀b0 b1 b2 b3:Bool,(b1=true->b0=true)->(b2=true->b1=true)->(b3=true->b2=true)->fV (eX (bq b0 b1 b2 b3 false false false false) 8) (eX (bq b0 b1 b2 b3 false false false false) 8+1)=0:=by decide +kernel
theorem zLh (j:Jn) (J:JV j):fV (eX (MB j j.ph.length) 8) (eX (MB j j.ph.length) 8+1)=0:=by
 have hf:∀g:Nat,4<=g->MB j j.ph.length g=false:=λg hg=>by
  unfold MB;rw[zZ8];intro p hp;have:=J.gp p (zXz.1 hp);simp;omega
 have hd:∀g:Nat,MB j j.ph.length (g+1)=true->MB j j.ph.length g=true:=λg h=>by
  unfold MB at h⊢;rw[zYv]at h⊢;obtain⟨p,hp,hg⟩:=h;rw[zYr]at hg;obtain⟨q,hq,hqg⟩:=J.lo p (zXz.1 hp) g zB zB;exact⟨q,zXz.2 hq,by rw[zYr];exact hqg⟩
 have e:eX (MB j j.ph.length) 8=eX (bq (MB j j.ph.length 0) (MB j j.ph.length 1) (MB j j.ph.length 2) (MB j j.ph.length 3) false false false false) 8:=cN 8 λi hi=>by
  match i,hi with
  |0,_=>rfl|1,_=>rfl|2,_=>rfl|3,_=>rfl
  |4,_=>exact hf 4 zB
  |5,_=>exact hf 5 zB
  |6,_=>exact hf 6 zB
  |7,_=>exact hf 7 zB
  |i+8,h=>omega
 rw[e];exact zWf _ _ _ _ (hd 0) (hd 1) (hd 2)
theorem TF (j:Jn) (J:JV j):zN 142 [wP j] [] (bA true) []:=by
 have hl:=zA wY j.ph;have hlc:=zA iA j.cf;have hn:=J.n;have hc:=J.c;have c1:=zCp j J;have c2:=eK j.st 0 60 J.st;have c3:=zFf j J;have hgd:=zLh j J;have hbb:=AH (MB j j.ph.length) 8 zB;have hp8:p2 ((8:Nat):Int)=256:=by decide
 refine eM call142 λF hF=>?_
 refine yO (wW c1 c2) ?_;refine zP (j.ph.length) [1] [1] [1,34,35] [4,36,1,34,35] rfl (λi T U=>⟨(4,iA (eX (MB j i) 8))::(36,iA i)::T,U⟩) ?_;(conv=>whnf);refine⟨by rfl,?_,?_⟩
 ·intro u hu;have hy:=zM wY j.ph u hu
  change (j.ph.map wY)[u]? =some (wY (xC j u))at hy
  have cp:=zFe j J u hu;have hg:=J.gp u hu;have es:=zFg j u;obtain⟨gn,hgn⟩:∃n:Nat,(xC j u).group=n:=⟨(xC j u).group.toNat,zB⟩;have hor:=zS0 (MB j u) (λx:Nat=>(gn:Int)==(x:Int));rw[<-zUi gn zB]at hor;rw[hgn]at es;rw[es,<-hor];generalize eX (MB j u) 8=b at *;rw[<-hgn];clear c1 c2 c3 hor es;generalize xC j u=t at *;refine zU cp ?_;rfl
 ·generalize eX (MB j j.ph.length) 8=b at *;refine zU c3 ?_;exact zK
theorem RY {p:Nat->Bool}:∀(l:List Nat) (i x:Nat),l[i]? =some x->(∀y∈l.take i,p y=false)->p x=true->l.find? p=some x
 | [],i,x,h,_,_=>by simp at h
 |y::l,0,x,h,_,hp=>by
  simp at h;subst h;rw[yC3,hp]
 |y::l,i+1,x,h,ha,hp=>by
  rw[yC3,ha y zS];exact RY l i x NS (λz hz=>ha z (by simp[hz])) hp
theorem zAu {p:Nat->Bool} {l:List Nat} (h:∀y∈l,p y=false):l.find? p=none:=yB0.2 λy hy=>by rw[h y hy];decide
theorem UG {l:List Nat} {i x z:Nat} (hx:l[i]? =some x) (hz:z∈l.take (i+1)):z∈l.take i∨z=x:=by
 rw[zZv,hx]at hz;simpa using hz
theorem YV (j:Jn) (hn:j.ph.length<=1000) (r g f:Int):zN 206 [wP j,iA r,iA g,iA f] [] (iA (cU j r g f)) []:=by
 have c:=zFv j r;unfold zCq at c;have hl:=zA wY j.ph;refine eM call206 λF hF=>?_
 refine zU c ?_;refine vO hF (CW j hn r) rfl [4,6,7,8] [4,6,7,8] rfl rfl rfl rfl rfl rfl rfl rfl rfl (λi ys h=>?_) (λ_=>[(4,.box [zD wY j.ph,zD iA j.cf,iA j.st]),(6,.box [iA g]),(7,.box [iA f]),(8,.box [iA 0])]) (λi=>∀x∈(OK j r).take i,(decide (f<=(x:Int))&&(xC j x).group==g)=false) (T:=[(4,.ptr 4 0 0),(6,.ptr 6 0 0),(7,.ptr 7 0 0),(8,.ptr 8 0 0)]) rfl zS (λi ys y hys hI F1 h1 h2=>?_) (λhI=>?_)
 ·rw[zXd,zXn]at h;obtain⟨x,_,rfl⟩:=h;rfl
 ·rw[zXd,zXn]at hys;obtain⟨x,hx,rfl⟩:=hys
  show uC _ F1 _ _ ⟨[(13,iA (x:Int)),(4,.ptr 4 0 0),(6,.ptr 6 0 0),(7,.ptr 7 0 0),(8,.ptr 8 0 0)],[(4,.box [zD wY j.ph,zD iA j.cf,iA j.st]),(6,.box [iA g]),(7,.box [iA f]),(8,.box [iA 0])]⟩ _
  have hxn:=(ZN.1 (zYt hx)).1;have hy:(j.ph.map wY)[x]? =some (wY (xC j x)):=zM wY j.ph x hxn
  have next:(decide (f<=(x:Int))&&(xC j x).group==g)=false->∀z∈(OK j r).take (i+1),(decide (f<=(z:Int))&&(xC j z).group==g)=false:=λhb z hz=>by
   rcases UG hx hz with h|rfl
   ·exact hI z h
   ·exact hb
  have hit:(decide (f<=(x:Int))&&(xC j x).group==g)=true->cU j r g f=x:=λhb=>by
   unfold cU;rw[RY _ i x hx hI hb]
  clear hI hx;generalize xC j x=t at *;refine WW ?_;refine⟨rfl,λF2 g1 g2=>?_⟩;by_cases h3:f<=(x:Int)
  ·by_cases h4:t.group=g
   ·rw[hit (by rw[zXg h3,zYr.2 h4];rfl)];refine WW ?_;exact zK
   ·have hnx:=next (by rw[zYm.2 h4,yBa]);refine WW ?_;exact⟨rfl,hnx⟩
  ·have hnx:=next (by rw[zXj h3,zY2]);refine WW ?_;exact⟨rfl,hnx⟩
 ·rw[zXa,zXe]at hI
  have hno:cU j r g f= -1:=by
   unfold cU;rw[zAu hI]
  rw[hno];refine WW ?_;exact zK
theorem zQ1 (j:Jn) (hn:j.ph.length<=1000) (c:Ct) (hc:c.li.length=j.ph.length) (r:Int):zN 252 [wP j,ctA c,iA r] [] (bA (dkF j c r)) []:=by
 have cp:=zFv j r;unfold zCq at cp;have hl:=zA wY j.ph;have hl2:=zA vG c.li;refine eM call252 λF hF=>?_
 refine zU cp ?_;refine vO hF (CW j hn r) rfl [3,4,6] [3,4,6] rfl rfl rfl rfl rfl rfl rfl rfl rfl (λi ys h=>?_) (λ_=>[(3,.box [zD wY j.ph,zD iA j.cf,iA j.st]),(4,.box [zD vG c.li,iA c.gr,zD iA c.nx,iA c.wt]),(6,.box [bA false])]) (λi=>∀x∈(OK j r).take i,((vD c x).lamp==0)=true) (T:=[(3,.ptr 3 0 0),(4,.ptr 4 0 0),(6,.ptr 6 0 0)]) rfl zS (λi ys y hys hI F1 h1 h2=>?_) (λhI=>?_)
 ·rw[zXd,zXn]at h;obtain⟨x,_,rfl⟩:=h;rfl
 ·rw[zXd,zXn]at hys;obtain⟨x,hx,rfl⟩:=hys
  show uC _ F1 _ _ ⟨[(11,iA (x:Int)),(3,.ptr 3 0 0),(4,.ptr 4 0 0),(6,.ptr 6 0 0)],[(3,.box [zD wY j.ph,zD iA j.cf,iA j.st]),(4,.box [zD vG c.li,iA c.gr,zD iA c.nx,iA c.wt]),(6,.box [bA false])]⟩ _
  have hmem:=zYt hx;have hxn:=(ZN.1 hmem).1;have hy:(c.li.map vG)[x]? =some (vG (vD c x)):=zM vG c.li x zB
  have next:((vD c x).lamp==0)=true->∀z∈(OK j r).take (i+1),((vD c z).lamp==0)=true:=λhb z hz=>by
   rcases UG hx hz with h|rfl
   ·exact hI z h
   ·exact hb
  have hit:((vD c x).lamp==0)=false->dkF j c r=false:=λhb=>by
   unfold dkF;exact zZ7.2 ⟨x,hmem,by rw[hb];decide⟩
  clear hI hx;generalize vD c x=t at *;refine WW ?_;refine⟨rfl,λF2 g1 g2=>?_⟩;by_cases h4:t.lamp=0
  ·have hnx:=next (zYr.2 h4);refine WW ?_;exact⟨rfl,hnx⟩
  ·rw[hit (zYm.2 h4)];refine WW ?_;exact zK
 ·rw[zXa,zXe]at hI;have hd:dkF j c r=true:=zXm.2 hI;rw[hd];refine WW ?_;exact zK
def lsN (j:Jn) (r t:Int) (i:Nat):Int:=match ((OK j r).take i).find? (λp:Nat=>!fX j.cf p t)with
 |some p=>p
 |none=> -1
theorem zFh {j:Jn} {r t:Int} {i x:Nat} (hx:(OK j r)[i]? =some x):lsN j r t (i+1)=if fX j.cf x t=true then lsN j r t i else if lsN j r t i= -1 then(x:Int)else lsN j r t i:=by
 unfold lsN;rw[zZv,hx,yCv]
 cases hf:((OK j r).take i).find? (λp:Nat=>!fX j.cf p t)with
 |some p=>
  show((p:Nat):Int)=if fX j.cf x t=true then(p:Int)else if(p:Int)= -1 then(x:Int)else(p:Int)
  split
  ·rfl
  ·rw[zW8 zB]
 |none=>
  simp only[Option.none_or,yCs,yC3,List.find?_nil]
  cases fX j.cf x t<;>rfl
theorem zQ2 (j:Jn) (hn:j.ph.length<=1000) (hcf:j.cf.length<=40) (c:Ct) (hm:c.nx.length=2) (r t:Int) (hr:0<=r/\r<2):zN 253 [wP j,ctA c,iA r,iA t] [] (iA (cmF j (c.nx.getD r.toNat default) r t)) []:=by
 have cp:=zFv j r;unfold zCq at cp;have hl:=zA wY j.ph;have hl2:=zA iA c.nx;have hyn:=yM iA c.nx r hr.1 zB;generalize hxe:c.nx.getD r.toNat default=xn at *;refine eM call253 λF hF=>?_
 refine zU cp ?_;refine vO hF (CW j hn r) rfl [4,5,6,7,8,9] [4,5,6,7,8,9] rfl rfl rfl rfl rfl rfl rfl rfl rfl (λi ys h=>?_) (λi=>[(4,.box [zD wY j.ph,zD iA j.cf,iA j.st]),(5,.box [zD vG c.li,iA c.gr,zD iA c.nx,iA c.wt]),(6,.box [iA r]),(7,.box [iA t]),(8,.box [iA 0]),(9,.box [iA (lsN j r t i)])]) (λi=>∀x∈(OK j r).take i,(!fX j.cf x t&&decide (xn≠ -1/\xn<=(x:Int)))=false) (T:=[(4,.ptr 4 0 0),(5,.ptr 5 0 0),(6,.ptr 6 0 0),(7,.ptr 7 0 0),(8,.ptr 8 0 0),(9,.ptr 9 0 0)]) rfl zS (λi ys y hys hI F1 h1 h2=>?_) (λhI=>?_)
 ·rw[zXd,zXn]at h;obtain⟨x,_,rfl⟩:=h;rfl
 ·rw[zXd,zXn]at hys;obtain⟨x,hx,rfl⟩:=hys
  show uC _ F1 _ _ ⟨[(14,iA (x:Int)),(4,.ptr 4 0 0),(5,.ptr 5 0 0),(6,.ptr 6 0 0),(7,.ptr 7 0 0),(8,.ptr 8 0 0),(9,.ptr 9 0 0)],[(4,.box [zD wY j.ph,zD iA j.cf,iA j.st]),(5,.box [zD vG c.li,iA c.gr,zD iA c.nx,iA c.wt]),(6,.box [iA r]),(7,.box [iA t]),(8,.box [iA 0]),(9,.box [iA (lsN j r t i)])]⟩ _
  have hxn:=(ZN.1 (zYt hx)).1;have ck:=jO j.cf hcf x t;have es:=zFh (t:=t) hx
  have next:(!fX j.cf x t&&decide (xn≠ -1/\xn<=(x:Int)))=false->∀z∈(OK j r).take (i+1),(!fX j.cf z t&&decide (xn≠ -1/\xn<=(z:Int)))=false:=λhb z hz=>by
   rcases UG hx hz with h|rfl
   ·exact hI z h
   ·exact hb
  have hit:(!fX j.cf x t&&decide (xn≠ -1/\xn<=(x:Int)))=true->cmF j xn r t=x:=λhb=>by
   unfold cmF;rw[RY _ i x hx hI hb]
  clear hI hx hxe;generalize fX j.cf x t=q at *;generalize lsN j r t (i+1)=l2 at *;generalize lsN j r t i=l1 at *;refine WW ?_;refine⟨rfl,λF2 g1 g2=>?_⟩
  cases q with
  |true=>
   rw[zW9 rfl]at es;have hnx:=next rfl;subst es;refine zU ck ?_;exact⟨rfl,hnx⟩
  |false=>
  rw[zW8 xL]at es;by_cases h3:xn= -1
  ·have hnx:=next (by rw[zXj (λh=>h.1 h3)];rfl);by_cases h4:l1= -1
   ·rw[zW9 h4]at es;subst es;refine zU ck ?_;exact⟨rfl,hnx⟩
   ·rw[zW8 h4]at es;subst es;refine zU ck ?_;exact⟨rfl,hnx⟩
  by_cases h5:xn<=(x:Int)
  ·rw[hit (by rw[zXg ⟨h3,h5⟩];rfl)];refine zU ck ?_;exact zK
  ·have hnx:=next (by rw[zXj (λh=>h5 h.2)];rfl);by_cases h4:l1= -1
   ·rw[zW9 h4]at es;subst es;refine zU ck ?_;exact⟨rfl,hnx⟩
   ·rw[zW8 h4]at es;subst es;refine zU ck ?_;exact⟨rfl,hnx⟩
 ·rw[zXa,zXe]at hI
  have hno:cmF j xn r t=lsN j r t (OK j r).length:=by
   unfold cmF lsN;rw[zAu hI,zXe];rfl
  rw[hno,zXa];generalize lsN j r t (OK j r).length=l1 at *;refine WW ?_;exact zK
theorem kT {TT:List TI} {rs:List ResultVar} {h0:List (Nat×xN)} {r:AV} {h1:List (Nat×xN)} {st:St} {vs:List AV} (K:List Nat) (h:NN TT st rs=some vs) (hK:(yD h0).all (K.contains ·)=true) (hr:wN K (zC st.h) (ED vs)=r) (hh:wS K (zC st.h)=h1):
 Fin TT rs h0 r h1 .normal st:=⟨.inl rfl,vs,K,h,hK,.inl hr.symm,by rw[hh]⟩
def enN (f0 f1:Int):Nat->List AV
 |0=>[iA 0,iA 0]
 |1=>[iA f0,iA 0]
 |_+2=>[iA f0,iA f1]
theorem zAv (j:Jn) (hn:j.ph.length<=1000) (g gr wt:Int) (L N:List AV) (nL nN:Nat):zN 181 [wP j,.ptr 3000 0 0,iA g] [(3000,.box [.ref 1001 0 nL,iA gr,.ref 1002 0 nN,iA wt]),(1001,.arr 2 L false),(1002,.arr 1 N false)] (.tup [])
  [(3000,.box [.ref 1001 0 nL,iA g,.ref 2001 0 2,iA wt]),(1001,.arr 2 L false),(1002,.arr 1 N false),(2001,.arr 1 [iA (cU j 0 g 0),iA (cU j 1 g 0)] false)]:=by
 have c0:=YV j hn 0 g 0;have c1:=YV j hn 1 g 0;generalize cU j 0 g 0=f0 at *;generalize cU j 1 g 0=f1 at *;obtain⟨N2,hN2⟩:∃n:Nat,n=2:=⟨2,rfl⟩;refine eM call181 λF hF=>?_
 (repeat' (first|refine qA ?_|refine xQ (λhc=>?_) (λhc=>?_)|refine wD (λhc=>?_)|(refine zE ?_;first|(refine gO ?_;refine cE 2001 tok rfl rfl rfl rfl rfl rfl rfl rfl rfl rfl rfl rfl rfl zB zB rfl rfl rfl ?_))|fail))
 refine zP (N2) [3000,2001,3,1001,1002] [3,1001,1002] [1,2,3] [20,19,1,2,3] rfl (λi T U=>⟨(20,iA i)::(19,iA N2)::T,(3000,.box [.ref 1001 0 nL,iA g,.ref 2001 0 N2,iA wt])::(2001,.arr 1 (enN f0 f1 i) false)::U⟩) ?_;(conv=>whnf);refine⟨by(rw[hN2];rfl),?_,?_⟩
 ·intro i hi;have:i=0∨i=1:=by omega
  rcases this with rfl|rfl
  ·have hy:(enN f0 f1 0)[((0:Nat):Int).toNat]? =some (iA 0):=rfl;have hl:(enN f0 f1 0).length=2:=rfl;refine zU c0 ?_;rfl
  ·have hy:(enN f0 f1 1)[((1:Nat):Int).toNat]? =some (iA 0):=rfl;have hl:(enN f0 f1 1).length=2:=rfl;refine zU c1 ?_;rfl
 ·have e2:enN f0 f1 N2=[iA f0,iA f1]:=by rw[hN2];rfl
  rw[e2];refine WW ?_;subst hN2;exact kT [3000,1001,1002,2001] rfl rfl rfl rfl
def cH (c:Ct) (kn:Nat):List (Nat×xN):=[(3000,.box [.ref 1001 0 (c.li.map vG).length,iA c.gr,.ref kn 0 (c.nx.map iA).length,iA c.wt]),(1001,.arr 2 (c.li.map vG) false),(kn,.arr 1 (c.nx.map iA) false)]
def LQ (c:Ct) (o:List Int):List (Nat×xN):=[(3000,.box [.ref 1001 0 (c.li.map vG).length,iA c.gr,.ref 2001 0 (c.nx.map iA).length,iA c.wt]),(1001,.arr 2 (c.li.map vG) false),(1002,.arr 1 (o.map iA) false),(2001,.arr 1 (c.nx.map iA) false)]
theorem ZL (j:Jn) (hn:j.ph.length<=1000) (hcf:j.cf.length<=40) (c:Ct) (hc:c.li.length=j.ph.length) (hm:c.nx.length=2) (p:Nat) (hp:p<j.ph.length) (hr:0<=(xC j p).ring/\(xC j p).ring<=1) (hg:XW j c p=true∨c.gr=(xC j p).group):
  zN 254 [wP j,.ptr 3000 0 0,iA (p:Int)] (cH c 1002) (.tup []) (cH (jN j c p) 1002):=by
 have hlp:=zA wY j.ph;have hll:=zA vG c.li;have hln:=zA iA c.nx;have hyp:=zM wY j.ph p hp
 change (j.ph.map wY)[p]? =some (wY (xC j p))at hyp
 have cf:=YV j hn (xC j p).ring (xC j p).group (p+1);unfold jN;by_cases hk:XW j c p=true
 case pos=>
  rw[zW9 hk];unfold XW at hk;rw[zYv]at hk;obtain⟨q0,hq0,hk⟩:=hk;rw[zXz]at hq0;unfold cH;refine eM call254 λF hF=>?_
  refine WW ?_;refine xT (c.li.length) [3,3000,1001,1002] [3,3000,1001,1002] [1,2,3,12,13] [14,1,2,3,12,13] rfl (λi T U zs=>(i<=q0)/\zs=⟨(14,iA i)::T,U⟩) ?_;(conv=>whnf);refine⟨?_,?_,?_⟩
  ·exact⟨zXp _,rfl⟩
  ·rintro i st hi ⟨hiq,rfl⟩;have hy:=zM vG c.li i hi
   change (c.li.map vG)[i]? =some (vG (vD c i))at hy
   have ck:=jO j.cf hcf p i;by_cases hb:((vD c i).lamp != 0&&fX j.cf p i)=true
   ·rw[zXo]at hb;have h1:(vD c i).lamp≠0:=by simpa using hb.1
    rw[hb.2]at ck;generalize vD c i=t at *;clear hb cf hk;refine zU ck ?_;exact zL [3000,1001,1002] rfl rfl rfl rfl
   ·have hne:i<q0:=by
     rcases Nat.lt_or_ge i q0 with h|h
     ·exact h
     ·rw[show i=q0 by omega]at hb;exact absurd hk hb
    rw[zXo]at hb;by_cases h1:(vD c i).lamp=0
    ·generalize vD c i=t at *;clear hb hk;refine WW ?_;exact⟨zB,rfl⟩
    ·have hq:fX j.cf p i=false:=by
      cases hq:fX j.cf p i with
      |false=>rfl
      |true=>exact absurd ⟨by simpa using h1,hq⟩ hb
     rw[hq]at ck;generalize vD c i=t at *;clear hb hk;refine zU ck ?_;exact⟨zB,rfl⟩
  ·rintro st ⟨hiq,rfl⟩;exfalso;omega
 have hkf:XW j c p=false:=by simpa using hk
 have hg2:c.gr=(xC j p).group:=by
  rcases hg with hg|hg
  ·exact absurd hg hk
  ·exact hg
 rw[zW8 hk];have eb:GF j c p=b1F c p:=by unfold GF;rw[zW9 hg2]
 rw[eb];unfold XW at hkf;rw[zZ8]at hkf;have h0:∀q,q<c.li.length->((vD c q).lamp != 0&&fX j.cf p q)=false:=λq hq=>by simpa using hkf q (zXz.2 hq)
 unfold b1F cH;dsimp only;rw[zZh,zZh,zY3,zY3];clear hkf hk eb hg;generalize cU j (xC j p).ring (xC j p).group (p+1)=fo at *;obtain⟨rn,hrn⟩:∃n:Nat,(xC j p).ring=n:=⟨(xC j p).ring.toNat,zB⟩;have hyl:=zM vG c.li p zB;have hyr:=zM iA c.nx rn zB;generalize hx1:vD c p=l0 at*
 change (c.li.map vG)[p]? =some (vG (vD c p))at hyl
 rw[hx1]at hyl;generalize c.nx.getD rn default=n0 at *;refine eM call254 λF hF=>?_
 refine WW ?_;refine zP (c.li.length) [3,3000,1001,1002] [3,3000,1001,1002] [1,2,3,12,13] [14,1,2,3,12,13] rfl (λi T U=>⟨(14,iA i)::T,U⟩) ?_;(conv=>whnf);refine⟨by rfl,?_,?_⟩
 ·intro i hi;have hy:=zM vG c.li i hi
  change (c.li.map vG)[i]? =some (vG (vD c i))at hy
  have ck:=jO j.cf hcf p i;have hb:=h0 i hi;clear h0 hyl hyr cf;by_cases h1:(vD c i).lamp=0
  ·generalize vD c i=t at *;clear hb;refine WW ?_;rfl
  ·have hq:fX j.cf p i=false:=by
    cases hq:fX j.cf p i with
    |false=>rfl
    |true=>
     rw[hq,yBf]at hb;exact absurd (by simpa using hb) h1
   rw[hq]at ck;generalize vD c i=t at *;clear hb;refine zU ck ?_;rfl
 ·clear h0;generalize xC j p=t at *;rw[hrn,zYs];have et:wY t= .agg [iA rn,iA t.group,iA t.ming,iA t.maxg,iA t.yel,iA t.red,iA t.walk,iA t.clear]:=by rw[<-hrn];rfl
  rw[et]at hyp;rw[hrn]at cf;refine zU cf ?_;exact kT [3000,1001,1002] rfl rfl rfl rfl
theorem SU (j:Jn) (hn:j.ph.length<=1000) (hcf:j.cf.length<=40) (c:Ct) (hc:c.li.length=j.ph.length) (hm:c.nx.length=2) (p:Nat) (hp:p<j.ph.length) (hr:0<=(xC j p).ring/\(xC j p).ring<=1) (hg:XW j c p=true∨c.gr=(xC j p).group):
  zN 254 [wP j,.ptr 3000 0 0,iA (p:Int)] (cH c 2001) (.tup []) (cH (jN j c p) 2001):=by
 have hlp:=zA wY j.ph;have hll:=zA vG c.li;have hln:=zA iA c.nx;have hyp:=zM wY j.ph p hp
 change (j.ph.map wY)[p]? =some (wY (xC j p))at hyp
 have cf:=YV j hn (xC j p).ring (xC j p).group (p+1);unfold jN;by_cases hk:XW j c p=true
 case pos=>
  rw[zW9 hk];unfold XW at hk;rw[zYv]at hk;obtain⟨q0,hq0,hk⟩:=hk;rw[zXz]at hq0;unfold cH;refine eM call254 λF hF=>?_
  refine WW ?_;refine xT (c.li.length) [3,3000,1001,2001] [3,3000,1001,2001] [1,2,3,12,13] [14,1,2,3,12,13] rfl (λi T U zs=>(i<=q0)/\zs=⟨(14,iA i)::T,U⟩) ?_;(conv=>whnf);refine⟨?_,?_,?_⟩
  ·exact⟨zXp _,rfl⟩
  ·rintro i st hi ⟨hiq,rfl⟩;have hy:=zM vG c.li i hi
   change (c.li.map vG)[i]? =some (vG (vD c i))at hy
   have ck:=jO j.cf hcf p i;by_cases hb:((vD c i).lamp != 0&&fX j.cf p i)=true
   ·rw[zXo]at hb;have h1:(vD c i).lamp≠0:=by simpa using hb.1
    rw[hb.2]at ck;generalize vD c i=t at *;clear hb cf hk;refine zU ck ?_;exact zL [3000,1001,2001] rfl rfl rfl rfl
   ·have hne:i<q0:=by
     rcases Nat.lt_or_ge i q0 with h|h
     ·exact h
     ·rw[show i=q0 by omega]at hb;exact absurd hk hb
    rw[zXo]at hb;by_cases h1:(vD c i).lamp=0
    ·generalize vD c i=t at *;clear hb hk;refine WW ?_;exact⟨zB,rfl⟩
    ·have hq:fX j.cf p i=false:=by
      cases hq:fX j.cf p i with
      |false=>rfl
      |true=>exact absurd ⟨by simpa using h1,hq⟩ hb
     rw[hq]at ck;generalize vD c i=t at *;clear hb hk;refine zU ck ?_;exact⟨zB,rfl⟩
  ·rintro st ⟨hiq,rfl⟩;exfalso;omega
 have hkf:XW j c p=false:=by simpa using hk
 have hg2:c.gr=(xC j p).group:=by
  rcases hg with hg|hg
  ·exact absurd hg hk
  ·exact hg
 rw[zW8 hk];have eb:GF j c p=b1F c p:=by unfold GF;rw[zW9 hg2]
 rw[eb];unfold XW at hkf;rw[zZ8]at hkf;have h0:∀q,q<c.li.length->((vD c q).lamp != 0&&fX j.cf p q)=false:=λq hq=>by simpa using hkf q (zXz.2 hq)
 unfold b1F cH;dsimp only;rw[zZh,zZh,zY3,zY3];clear hkf hk eb hg;generalize cU j (xC j p).ring (xC j p).group (p+1)=fo at *;obtain⟨rn,hrn⟩:∃n:Nat,(xC j p).ring=n:=⟨(xC j p).ring.toNat,zB⟩;have hyl:=zM vG c.li p zB;have hyr:=zM iA c.nx rn zB;generalize hx1:vD c p=l0 at*
 change (c.li.map vG)[p]? =some (vG (vD c p))at hyl
 rw[hx1]at hyl;generalize c.nx.getD rn default=n0 at *;refine eM call254 λF hF=>?_
 refine WW ?_;refine zP (c.li.length) [3,3000,1001,2001] [3,3000,1001,2001] [1,2,3,12,13] [14,1,2,3,12,13] rfl (λi T U=>⟨(14,iA i)::T,U⟩) ?_;(conv=>whnf);refine⟨by rfl,?_,?_⟩
 ·intro i hi;have hy:=zM vG c.li i hi
  change (c.li.map vG)[i]? =some (vG (vD c i))at hy
  have ck:=jO j.cf hcf p i;have hb:=h0 i hi;clear h0 hyl hyr cf;by_cases h1:(vD c i).lamp=0
  ·generalize vD c i=t at *;clear hb;refine WW ?_;rfl
  ·have hq:fX j.cf p i=false:=by
    cases hq:fX j.cf p i with
    |false=>rfl
    |true=>
     rw[hq,yBf]at hb;exact absurd (by simpa using hb) h1
   rw[hq]at ck;generalize vD c i=t at *;clear hb;refine zU ck ?_;rfl
 ·clear h0;generalize xC j p=t at *;rw[hrn,zYs];have et:wY t= .agg [iA rn,iA t.group,iA t.ming,iA t.maxg,iA t.yel,iA t.red,iA t.walk,iA t.clear]:=by rw[<-hrn];rfl
  rw[et]at hyp;rw[hrn]at cf;refine zU cf ?_;exact kT [3000,1001,2001] rfl rfl rfl rfl
theorem SW (j:Jn) (hn:j.ph.length<=1000) (hcf:j.cf.length<=40) (c:Ct) (hc:c.li.length=j.ph.length) (hm:c.nx.length=2) (p:Nat) (hp:p<j.ph.length) (hr:0<=(xC j p).ring/\(xC j p).ring<=1) (hkf:XW j c p=false) (hg2:c.gr≠(xC j p).group):
  zN 254 [wP j,.ptr 3000 0 0,iA (p:Int)] (cH c 1002) (.tup []) (LQ (jN j c p) c.nx):=by
 have hlp:=zA wY j.ph;have hll:=zA vG c.li;have hln:=zA iA c.nx;have hyp:=zM wY j.ph p hp
 change (j.ph.map wY)[p]? =some (wY (xC j p))at hyp
 have cf:=YV j hn (xC j p).ring (xC j p).group (p+1);unfold jN;rw[zW8 (by rw[hkf];decide)];have eb:GF j c p=etF j (b1F c p) (xC j p).group:=by unfold GF;rw[zW8 hg2]
 rw[eb];unfold XW at hkf;rw[zZ8]at hkf;have h0:∀q,q<c.li.length->((vD c q).lamp != 0&&fX j.cf p q)=false:=λq hq=>by simpa using hkf q (zXz.2 hq)
 have ce:=zAv j hn (xC j p).group c.gr c.wt ((c.li.map vG).set p (vG ⟨1,0⟩)) (c.nx.map iA) (c.li.map vG).length (c.nx.map iA).length;unfold etF b1F cH LQ;dsimp only;rw[zZh,zZh,zY3,zY3];rw[show([cU j 0 (xC j p).group 0,cU j 1 (xC j p).group 0].map iA)=[iA (cU j 0 (xC j p).group 0),iA (cU j 1 (xC j p).group 0)]from rfl];have hfx:(([iA (cU j 0 (xC j p).group 0),iA (cU j 1 (xC j p).group 0)]:List AV)).length=2:=rfl;rw[hfx]
 have hyf:∃v,([iA (cU j 0 (xC j p).group 0),iA (cU j 1 (xC j p).group 0)]:List AV)[(xC j p).ring.toNat]? =some (iA v):=by
  have:(xC j p).ring=0∨(xC j p).ring=1:=by omega
  rcases this with h|h<;>rw[h]
  ·exact⟨_,rfl⟩
  ·exact⟨_,rfl⟩
 obtain⟨v0,hyf⟩:=hyf;generalize ([iA (cU j 0 (xC j p).group 0),iA (cU j 1 (xC j p).group 0)]:List AV)=fx at *;clear hkf eb;generalize cU j (xC j p).ring (xC j p).group (p+1)=fo at *;obtain⟨rn,hrn⟩:∃n:Nat,(xC j p).ring=n:=⟨(xC j p).ring.toNat,zB⟩;have hyl:=zM vG c.li p zB;rw[hrn,zYs]at hyf;generalize hx1:vD c p=l0 at*
 change (c.li.map vG)[p]? =some (vG (vD c p))at hyl
 rw[hx1]at hyl;refine eM call254 λF hF=>?_
 refine WW ?_;refine zP (c.li.length) [3,3000,1001,1002] [3,3000,1001,1002] [1,2,3,12,13] [14,1,2,3,12,13] rfl (λi T U=>⟨(14,iA i)::T,U⟩) ?_;(conv=>whnf);refine⟨by rfl,?_,?_⟩
 ·intro i hi;have hy:=zM vG c.li i hi
  change (c.li.map vG)[i]? =some (vG (vD c i))at hy
  have ck:=jO j.cf hcf p i;have hb:=h0 i hi;clear h0 hyl cf ce;by_cases h1:(vD c i).lamp=0
  ·generalize vD c i=t at *;clear hb;refine WW ?_;rfl
  ·have hq:fX j.cf p i=false:=by
    cases hq:fX j.cf p i with
    |false=>rfl
    |true=>
     rw[hq,yBf]at hb;exact absurd (by simpa using hb) h1
   rw[hq]at ck;generalize vD c i=t at *;clear hb;refine zU ck ?_;rfl
 ·clear h0;generalize xC j p=t at *;rw[hrn,zYs];have et:wY t= .agg [iA rn,iA t.group,iA t.ming,iA t.maxg,iA t.yel,iA t.red,iA t.walk,iA t.clear]:=by rw[<-hrn];rfl
  rw[et]at hyp;rw[hrn]at cf;refine yO (wW ce cf) ?_;exact kT [3000,1001,1002,2001] rfl rfl rfl rfl
def ctT (c:Ct):AV:= .agg [.sl false ((c.li.map vG).take (c.li.map vG).length),iA c.gr,.sl false ((c.nx.map iA).take (c.nx.map iA).length),iA c.wt]
theorem aM (c:Ct):ctT c=ctA c:=by unfold ctT;rw[zXe,zXe];rfl
theorem YW (j:Jn) (hn:j.ph.length<=1000) (c:Ct) (hc:c.li.length=j.ph.length) (r:Int):zN 252 [wP j,ctT c,iA r] [] (bA (dkF j c r)) []:=by rw[aM];exact zQ1 j hn c hc r
theorem CT (j:Jn) (hn:j.ph.length<=1000) (hcf:j.cf.length<=40) (c:Ct) (hm:c.nx.length=2) (r t:Int) (hr:0<=r/\r<2):zN 253 [wP j,ctT c,iA r,iA t] [] (iA (cmF j (c.nx.getD r.toNat default) r t)) []:=by rw[aM];exact zQ2 j hn hcf c hm r t hr
theorem LR {j:Jn} (J:JV j) {c:Ct} {r:Int} {t:Nat} (ht:t<j.ph.length) (h:YL j c r t≠ -1):∃p:Nat,YL j c r t=p/\p<j.ph.length/\(xC j p).group=(xC j t).group:=by
 unfold YL at h⊢;split
 ·exact⟨t,rfl,ht,rfl⟩
 ·rename_i hr;rw[zW8 hr]at h
  rcases GG j (c.nx.getD r.toNat default) r t with h1|⟨p,h1,h2,_,h4⟩
  ·exact absurd h1 h
  ·refine⟨p,h1,h2,?_⟩;by_cases hpt:p=t
   ·rw[hpt]
   ·exact yAi λhg=>by
     have:=J.ap p t h2 ht hpt (.inr hg);rw[h4]at this;cases this
theorem eO (j:Jn) (c:Ct) (p:Nat):(XW j c p=true/\jN j c p=c)∨(XW j c p=false/\(jN j c p).gr=(xC j p).group):=by
 unfold jN;split
 ·rename_i h;exact .inl ⟨h,rfl⟩
 ·rename_i h;refine .inr ⟨by simpa using h,?_⟩;dsimp only;unfold GF;split
  ·rename_i h2;exact h2
  ·rfl
def DW (e:Bool) (c:Ct) (o:List Int):List (Nat×xN):=if e=true then LQ c o else cH c 1002
end Av
end Go.Proofs.YtmamjhmoegjapaaGreat
