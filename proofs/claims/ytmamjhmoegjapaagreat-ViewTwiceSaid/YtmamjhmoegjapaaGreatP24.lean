/- Part 24. -/
import Derived.Test.YtmamjhmoegjapaaGreatP23
namespace Go.Proofs.YtmamjhmoegjapaaGreat
namespace Av
open Tryz
set_option linter.all false
set_option maxRecDepth 4000
set_option maxHeartbeats 1000000
theorem gD (rows:List Int) (hn:rows.length<=40) (p q:Int):zO 204 [zD iA rows,iA p,iA q] [] (bA (eO rows p q)) []:=by
 have hl:=zA iA rows;unfold eO;by_cases h1:0<=p
 case neg=>
  rw[zYw (λh=>h1 h.1)];refine eM call204 λF hF=>?_
  refine WW ?_;exact zL
 by_cases h2:0<=q
 case neg=>
  rw[zYw (λh=>h2 h.2.1)];refine eM call204 λF hF=>?_
  refine WW ?_;exact zL
 by_cases h3:p<rows.length
 case neg=>
  rw[zYw (λh=>h3 h.2.2.1)];refine eM call204 λF hF=>?_
  refine WW ?_;exact zL
 by_cases h4:q<rows.length
 case neg=>
  rw[zYw (λh=>h4 h.2.2.2)];refine eM call204 λF hF=>?_
  refine WW ?_;exact zL
 rw[zYu ⟨h1,h2,h3,h4⟩,zZh];have hy:=yP iA rows p h1 h3;generalize rows.getD p.toNat default=x at *;by_cases h5:eI (uT x q) 1=1
 ·rw[show(eI (uT x q) 1==1)=true by rw[zZ7];exact h5];refine eM call204 λF hF=>?_
  refine WW ?_;exact zL
 ·rw[show(eI (uT x q) 1==1)=false by rw[zZw];exact h5];refine eM call204 λF hF=>?_
  refine WW ?_;exact zL
def PhB (p:Ph):Prop:=0<=p.walk/\p.walk<=60/\0<=p.clear/\p.clear<=60
theorem zDi (p:Ph) (h:PhB p):zO 182 [vE p] [] (iA (lnF p)) []:=by
 obtain⟨h1,h2,h3,h4⟩:=h;refine eM call182 λF hF=>?_
 refine WW ?_;exact zL
theorem zQa (p:Ph) (h:PhB p) (l:Li) (ht: -1000000000000<=l.tk/\l.tk<=1000000000000) (lv:Bool):zO 227 [vE p,vM l,bA lv] [] (vM (lpF p l lv)) []:=by
 have c:=zDi p h;unfold lpF;by_cases h1:l.lamp=1
 ·rw[zYp h1];generalize lnF p=n at*
  cases lv with
  |false=>
   rw[zYo (λh=>by cases h.1)];refine eM call227 λF hF=>?_
   refine WW ?_;exact zL
  |true=>
  by_cases h2:n<=l.tk+1
  ·rw[zYp ⟨rfl,h2⟩];refine eM call227 λF hF=>?_
   refine zW c ?_;exact zL
  ·rw[zYo (λh=>h2 h.2)];refine eM call227 λF hF=>?_
   refine zW c ?_;exact zL
 rw[zYo h1];by_cases h2:l.lamp=2
 ·rw[zYp h2];by_cases h3:l.tk+1<p.yel
  ·rw[zYp h3];refine eM call227 λF hF=>?_
   refine WW ?_;exact zL
  rw[zYo h3];by_cases h4:p.red=0
  ·rw[zYp h4];refine eM call227 λF hF=>?_
   refine WW ?_;exact zL
  ·rw[zYo h4];refine eM call227 λF hF=>?_
   refine WW ?_;exact zL
 rw[zYo h2];by_cases h3:l.lamp=3
 ·rw[zYp h3];by_cases h4:l.tk+1<p.red
  ·rw[zYp h4];refine eM call227 λF hF=>?_
   refine WW ?_;exact zL
  ·rw[zYo h4];refine eM call227 λF hF=>?_
   refine WW ?_;exact zL
 ·rw[zYo h3];refine eM call227 λF hF=>?_
  refine WW ?_;exact zL
theorem zLc (p:Ph) (l:Li):zO 245 [vE p,vM l] [] (bA (LD p l)) []:=by
 unfold LD;by_cases h0:l.lamp=0
 ·rw[zYp h0];by_cases h:l.tk=0
  ·rw[zYu h];refine eM call245 λF hF=>?_
   refine WW ?_;exact zL
  ·rw[zYw h];refine eM call245 λF hF=>?_
   refine WW ?_;exact zL
 rw[zYo h0];by_cases h1:l.lamp=1
 ·rw[zYp h1];by_cases h:0<=l.tk
  ·by_cases h':l.tk<=1073741824
   ·rw[zYu ⟨h,h'⟩];refine eM call245 λF hF=>?_
    refine WW ?_;exact zL
   ·rw[zYw (λk=>h' k.2)];refine eM call245 λF hF=>?_
    refine WW ?_;exact zL
  ·rw[zYw (λk=>h k.1)];refine eM call245 λF hF=>?_
   refine WW ?_;exact zL
 rw[zYo h1];by_cases h2:l.lamp=2
 ·rw[zYp h2];by_cases h:0<=l.tk
  ·by_cases h':l.tk<p.yel
   ·rw[zYu ⟨h,h'⟩];refine eM call245 λF hF=>?_
    refine WW ?_;exact zL
   ·rw[zYw (λk=>h' k.2)];refine eM call245 λF hF=>?_
    refine WW ?_;exact zL
  ·rw[zYw (λk=>h k.1)];refine eM call245 λF hF=>?_
   refine WW ?_;exact zL
 rw[zYo h2];by_cases h3:l.lamp=3
 ·rw[zYp h3];by_cases h:0<=l.tk
  ·by_cases h':l.tk<p.red
   ·rw[zYu ⟨h,h'⟩];refine eM call245 λF hF=>?_
    refine WW ?_;exact zL
   ·rw[zYw (λk=>h' k.2)];refine eM call245 λF hF=>?_
    refine WW ?_;exact zL
  ·rw[zYw (λk=>h k.1)];refine eM call245 λF hF=>?_
   refine WW ?_;exact zL
 ·rw[zYo h3];refine eM call245 λF hF=>?_
  refine WW ?_;exact zL
theorem CS (j:Jn) (r:Int) (i:Nat):rpN j r (i+1)=if(xI j i).ring=r then rpN j r i++[i]else rpN j r i:=by
 unfold rpN;rw[yBa,yBz];by_cases h:(xI j i).ring=r
 ·rw[zYp h];simp[h]
 ·rw[zYo h];simp[h]
theorem zDj (j:Jn) (r:Int):∀n i,i<=n->∃l,rpN j r n=rpN j r i++l
 |0,i,h=>⟨[],by rw[Nat.le_zero.1 h];simp⟩
 | n+1,i,h=>by
  by_cases e:i=n+1
  ·exact⟨[],by rw[e];simp⟩
  ·obtain⟨l,hl⟩:=zDj j r n i zB;rw[CS];split
   ·exact⟨l++[n],by rw[hl,zZc]⟩
   ·exact⟨l,hl⟩
def zFn (j:Jn) (r:Int):List (Nat×xP):=[(1003,.box [zD vE j.ph,zD iA j.cf,iA j.st]),(1004,.box [iA r])]
theorem zLd (j:Jn) (r:Int):zO 231 [wC j,iA r] [] (.fn 255 [.ptr 1003 0 0,.ptr 1004 0 0]) (zFn j r):=by
 refine eM call231 λF hF=>?_
 repeat' (first|(refine zE ?_;first|refine uF (kZ (v:=AV.agg _) 1003 rfl rfl) rfl rfl rfl ?_|refine uF (kZ (v:=AV.s _) 1004 rfl rfl) rfl rfl rfl ?_|refine wZ tok rfl rfl ?_|refine uM ?_)|(first|refine xM ?_|refine xB ?_|refine wU rfl ?_|refine zV rfl ?_|refine zQ rfl ?_|refine xF rfl (λhc=>?_) (λhc=>?_)|refine yV ?_|refine yQ ?_|refine xC ?_|refine yN ?_))
 exact zJ [1003,1004] rfl rfl rfl rfl
theorem zBh (j:Jn) (hn:j.ph.length<=1000) (r:Int):bR prog 255 [.ptr 1003 0 0,.ptr 1004 0 0] (zFn j r) ((MD j r).map λp:Nat=>[iA (p:Int)]):=by
 have hl:=zA vE j.ph;refine dJ func255 rfl (λargs w=>call255 args w) rfl rfl rfl (λF y hro hit hY=>?_);unfold zFn;refine WW ?_;refine zP (j.ph.length) [1003,1004] [1003,1004] [0,2,7,8] [9,1000000,0,2,7,8] rfl (λi T U=>⟨(9,iA i)::(1000000,.gh (rpN j r i).length)::T,U⟩) ?_;(conv=>whnf);refine⟨by rfl,?_,?_⟩
 ·intro i hi;have hy:=zN vE j.ph i hi;have es:=CS j r i
  change (j.ph.map vE)[i]? =some (vE (xI j i))at hy
  by_cases hr:(xI j i).ring=r
  ·rw[zYp hr]at es;obtain⟨l2,hpre⟩:=zDj j r j.ph.length (i+1) zB;rw[es]at hpre⊢
   have hys:((MD j r).map λp:Nat=>[iA (p:Int)])[(rpN j r i).length]? =some [iA (i:Int)]:=by
    unfold MD;rw[hpre,zYt,zZf zU,zZe (zYs _),yA0];rfl
   have hlen:=(zZg.1 hys).1;rw[zYr];generalize ((MD j r).map λp:Nat=>[iA (p:Int)])=xs at *;generalize (rpN j r i).length=k at *;generalize xI j i=t at*
   (repeat' (first|refine qS ?_|refine xR (λhc=>?_) (λhc=>?_)|refine wE (λhc=>?_)|(refine zE ?_;refine xT ?_;first|(refine aB ?_;refine UI hit hY rfl rfl hys rfl rfl rfl ?_ ?_))|(refine zE ?_;first|refine SM ?_)|fail))
   ·rfl
   ·exact gA rfl (.inr zB)
  ·rw[zYo hr]at es;rw[es];generalize (rpN j r i).length=k at *;generalize xI j i=t at *;refine WW ?_;rfl
 ·have e:(rpN j r j.ph.length).length=((MD j r).map λp:Nat=>[iA (p:Int)]).length:=by rw[zYq];rfl
  refine WW ?_;exact cB rfl (.inl e)
def inS (s p:Int):Bool:=eI (uT s p) 1==1
theorem zU6:∀(s:_root_.Fin 256) (p:_root_.Fin 8),qT BinOp.eql (IntKind.u64.wrap ((BitVec.ofInt IntKind.u64.bits (Int.fdiv (s.val:Int) (2 ^ min (p.val:Int).toNat IntKind.u64.bits)) &&& BitVec.ofInt IntKind.u64.bits 1).toNat:Int)) 1=inS s.val p.val:=by decide +kernel
theorem CT (s p:Int) (hs:0<=s/\s<256) (hp:0<=p/\p<8):zO 274 [iA s,iA p] [] (bA (inS s p)) []:=by
 have hf:=zU6 ⟨s.toNat,zB⟩ ⟨p.toNat,zB⟩;rw[show((s.toNat:Nat):Int)=s by omega,show((p.toNat:Nat):Int)=p by omega]at hf;generalize inS s p=q at *;subst hf;refine eM call274 λF hF=>?_
 (repeat' (first|refine qS ?_|refine xR (λhc=>?_) (λhc=>?_)|refine wE (λhc=>?_)|(refine zE ?_;first|(refine wS ?_;refine yF (QF rfl rfl) rfl ?_))|fail))
 exact zL
theorem zLe (p:Nat->Bool) (i:Nat) (hi:i<8):inS (eV p 8) i=p i:=zNs p i hi
def GP (c:Ct) (p:Nat):Bool:=(vI c p).lamp != 0
def seF (c:Ct):Int:=eV (GP c) c.li.length
theorem HW (p:Nat->Bool):∀n m:Nat,n<=m->(∀i,n<=i->i<m->p i=false)->eV p m=eV p n
 |n,0,h,_=>by rw[Nat.le_zero.1 h]
 |n,m+1,h,hp=>by
  by_cases e:n=m+1
  ·rw[e]
  ·rw[eV,hp m zB zB];exact HW p n m zB λi h1 h2=>hp i h1 zB
theorem zU7 (p:Nat->Bool) (n:Nat) (hn:n<=25):orI (eV p n) (p2 n)=eV p n+p2 n:=by
 have h1:=PH p n;have h2:(2:Nat) ^ n<=2 ^ 25:=yCs zB hn;rw[FK,show p2 (n:Int)=((2 ^ n:Nat):Int) by unfold p2;simp,JM _ _ zB zB];have h3:=Nat.two_pow_add_eq_or_of_lt h1 1;rw[Nat.mul_one]at h3;rw[Nat.or_comm,<-h3];omega
theorem zXg (c:Ct) (hn:c.li.length<=25):zO 247 [ctA c] [] (iA (seF c)) []:=by
 have hl:=zA vM c.li;unfold seF;refine eM call247 λF hF=>?_
 refine WW ?_;refine zP (c.li.length) [] [] [7,8] [3,9,7,8] rfl (λi T U=>⟨(3,iA (eV (GP c) i))::(9,iA i)::T,U⟩) ?_;(conv=>whnf);refine⟨by rfl,?_,?_⟩
 ·intro i hi;have hy:=zN vM c.li i hi
  change (c.li.map vM)[i]? =some (vM (vI c i))at hy
  have ho:=zU7 (GP c) i zB
  have e:eV (GP c) (i+1)=if GP c i=true then eV (GP c) i+p2 i else eV (GP c) i:=rfl
  rw[<-ho]at e;have hsb:GP c i=((vI c i).lamp != 0):=rfl;rw[e,hsb];generalize eV (GP c) i=b at *;generalize vI c i=t at *;by_cases h:t.lamp=0
  ·rw[zYo (by simp[h])];refine WW ?_;rfl
  ·rw[zYp (by simp[h])];refine WW ?_;rfl
 ·(refine WW ?_)
  exact zL
theorem KP {P:Nat->Prop}:∀n,P n->∃m,m<=n/\P m/\∀k,k<m->¬P k:=by
 intro n
 induction n using Nat.strongRecOn with
 |_ n ih=>
  intro h;by_cases hx:∃k,k<n/\P k
  ·obtain⟨k,h1,h2⟩:=hx;obtain⟨m,h3,h4,h5⟩:=ih k h1 h2;exact⟨m,zB,h4,h5⟩
  ·exact⟨n,zYs _,h,λk h1 h2=>hx ⟨k,h1,h2⟩⟩
def GQ (rows:List Int) (s:Int) (p q:Nat):Bool:=inS s p&&(decide (q≠p)&&(inS s q&&eO rows p q))
theorem zLf (rows:List Int) (hn:rows.length<=8) (s:Int) (hs:0<=s/\s<256):∃p q:Int,zO 246 [zD iA rows,iA s] [] (.tup [iA p,iA q]) []/\((p= -1/\∀a b:Nat,a<rows.length->b<rows.length->GQ rows s a b=false)∨(0<=p/\∃a b:Nat,a<rows.length/\b<rows.length/\GQ rows s a b=true)):=by
 have hl:=zA iA rows;by_cases hx:∃a,a<rows.length/\∃b,b<rows.length/\GQ rows s a b=true
 ·obtain⟨a,ha,hx⟩:=hx;obtain⟨p,_,⟨hp,hx⟩,hpm⟩:=KP (P:=λa=>a<rows.length/\∃b,b<rows.length/\GQ rows s a b=true) a ⟨ha,hx⟩;obtain⟨b,hb⟩:=hx;obtain⟨q,_,⟨hq,hc⟩,hqm⟩:=KP (P:=λb=>b<rows.length/\GQ rows s p b=true) b hb;refine⟨p,q,?_,.inr ⟨zB,p,q,hp,hq,hc⟩⟩
  have hsp:inS s p=true:=by
   unfold GQ at hc;rw[zY6]at hc;exact hc.1
  refine eM call246 λF hF=>?_
  refine WW ?_;refine xV (rows.length) [] [] [0,1,9] [10,0,1,9] rfl (λi T U zs=>(i<=p)/\zs=⟨(10,iA i)::T,U⟩) ?_;(conv=>whnf);refine⟨?_,?_,?_⟩
  ·exact⟨zY4 _,rfl⟩
  ·rintro u st hu ⟨hup,rfl⟩;have ci:=CT s u hs zB;by_cases hup2:u=p
   ·subst hup2;rw[hsp]at ci;refine zW ci ?_;refine xV (rows.length) [] [] [0,1,6,9,10,18] [19,0,1,6,9,10,18] rfl (λi T U zs=>(i<=q)/\zs=⟨(19,iA i)::T,U⟩) ?_;(conv=>whnf);refine⟨?_,?_,?_⟩
    ·exact⟨zY4 _,rfl⟩
    ·rintro v st hv ⟨hvq,rfl⟩;have cj:=CT s v hs zB;have ck:=gD rows zB u v;by_cases hvq2:v=q
     ·subst hvq2;unfold GQ at hc;simp only[zY6,zYx]at hc;rw[hc.2.2.1]at cj;rw[hc.2.2.2]at ck;have hne:(v:Int)≠u:=by omega
      refine xA (vD cj ck) ?_;exact zL
     ·have hno:GQ rows s u v=false:=by
       cases hcc:GQ rows s u v with
       |false=>rfl
       |true=>exact absurd ⟨hv,hcc⟩ (hqm v zB)
      unfold GQ at hno;rw[hsp,zZh]at hno;by_cases h1:v=u
      ·have hne:(v:Int)=u:=by omega
       refine WW ?_;exact⟨zB,rfl⟩
      have hne:(v:Int)≠u:=by omega
      rw[zYu h1,zZh]at hno
      cases h2:inS s v with
      |false=>
       rw[h2]at cj;refine zW cj ?_;exact⟨zB,rfl⟩
      |true=>
       rw[h2,zZh]at hno;rw[h2]at cj;rw[hno]at ck;refine xA (vD cj ck) ?_;exact⟨zB,rfl⟩
    ·rintro st ⟨hvq,rfl⟩;exfalso;omega
   ·have hno:∀b,b<rows.length->GQ rows s u b=false:=λb hb=>by
     cases hcc:GQ rows s u b with
     |false=>rfl
     |true=>exact absurd ⟨hu,b,hb,hcc⟩ (hpm u zB)
    cases h3:inS s u with
    |false=>
     rw[h3]at ci;refine zW ci ?_;exact⟨zB,rfl⟩
    |true=>
    rw[h3]at ci;refine zW ci ?_;refine zP (rows.length) [] [] [0,1,6,9,10,18] [19,0,1,6,9,10,18] rfl (λi T U=>⟨(19,iA i)::T,U⟩) ?_;(conv=>whnf);refine⟨by rfl,?_,?_⟩
    ·intro v hv;have cj:=CT s v hs zB;have ck:=gD rows zB u v;have hno:=hno v hv;unfold GQ at hno;rw[h3,zZh]at hno;by_cases h1:v=u
     ·have hne:(v:Int)=u:=by omega
      refine WW ?_;rfl
     have hne:(v:Int)≠u:=by omega
     rw[zYu h1,zZh]at hno
     cases h2:inS s v with
     |false=>
      rw[h2]at cj;refine zW cj ?_;rfl
     |true=>
      rw[h2,zZh]at hno;rw[h2]at cj;rw[hno]at ck;refine xA (vD cj ck) ?_;rfl
    ·(refine WW ?_)
     exact⟨zB,rfl⟩
  ·rintro st ⟨hup,rfl⟩;exfalso;omega
 ·have hno:∀a b,a<rows.length->b<rows.length->GQ rows s a b=false:=λa b ha hb=>by
   cases hcc:GQ rows s a b with
   |false=>rfl
   |true=>exact absurd ⟨a,ha,b,hb,hcc⟩ hx
  refine⟨-1,-1,?_,.inl ⟨rfl,hno⟩⟩;clear hx;refine eM call246 λF hF=>?_
  refine WW ?_;refine zP (rows.length) [] [] [0,1,9] [10,0,1,9] rfl (λi T U=>⟨(10,iA i)::T,U⟩) ?_;(conv=>whnf);refine⟨by rfl,?_,?_⟩
  ·intro u hu;have ci:=CT s u hs zB
   cases h3:inS s u with
   |false=>
    rw[h3]at ci;refine zW ci ?_;rfl
   |true=>
   rw[h3]at ci;refine zW ci ?_;refine zP (rows.length) [] [] [0,1,6,9,10,18] [19,0,1,6,9,10,18] rfl (λi T U=>⟨(19,iA i)::T,U⟩) ?_;(conv=>whnf);refine⟨by rfl,?_,?_⟩
   ·intro v hv;have cj:=CT s v hs zB;have ck:=gD rows zB u v;have hno:=hno u v hu hv;unfold GQ at hno;rw[h3,zZh]at hno;by_cases h1:v=u
    ·have hne:(v:Int)=u:=by omega
     refine WW ?_;rfl
    have hne:(v:Int)≠u:=by omega
    rw[zYu h1,zZh]at hno
    cases h2:inS s v with
    |false=>
     rw[h2]at cj;refine zW cj ?_;rfl
    |true=>
     rw[h2,zZh]at hno;rw[h2]at cj;rw[hno]at ck;refine xA (vD cj ck) ?_;rfl
   ·(refine WW ?_)
    rfl
  ·(refine WW ?_)
   exact zL
theorem CU (j:Jn) (hn:j.ph.length<=1000) (hg:∀p:Nat,p<j.ph.length->0<=(xI j p).group/\(xI j p).group<=3):zO 248 [wC j] [] (iA (UY j)) []:=by
 have hl:=zA vE j.ph;unfold UY;refine eM call248 λF hF=>?_
 refine WW ?_;refine zP (j.ph.length) [] [] [7,8] [3,9,7,8] rfl (λi T U=>⟨(3,iA (grN j.ph i))::(9,iA i)::T,U⟩) ?_;(conv=>whnf);refine⟨by rfl,?_,?_⟩
 ·intro i hi;have hy:=zN vE j.ph i hi;have hb:=hg i hi;unfold xI at hb;have e:grN j.ph (i+1)=max (grN j.ph i) ((j.ph.getD i default).group+1):=rfl;rw[e];generalize grN j.ph i=g at *;generalize j.ph.getD i default=t at *;refine WW ?_;rfl
 ·(refine WW ?_)
  exact zL
def HX (j:Jn) (r g:Int) (i:Nat):List Nat:=(List.range i).filter λp=>(xI j p).ring==r&&(xI j p).group==g
theorem zLg (j:Jn) (r g:Int) (i:Nat):HX j r g (i+1)=if(xI j i).ring=r/\(xI j i).group=g then HX j r g i++[i]else HX j r g i:=by
 unfold HX;rw[yBa,yBz];by_cases h:(xI j i).ring=r/\(xI j i).group=g
 ·rw[zYp h];simp[h.1,h.2]
 ·rw[zYo h]
  have:((xI j i).ring==r&&(xI j i).group==g)=false:=by
   rw[Bool.and_eq_false_iff]
   rcases Classical.not_and_iff_not_or_not.1 h with h|h
   ·exact .inl VV
   ·exact .inr VV
  simp[this]
theorem zQb {α:Type} (f:α->AV) (l:List α):AV.sl false ((l.map f).take (l.map f).length)=zD f l:=by rw[zYv];rfl
def nA (p:Nat):AV:=iA (p:Int)
theorem zYg (j:Jn) (hn:j.ph.length<=1000) (r g:Int):zO 250 [wC j,iA r,iA g] [] (zD nA (HX j r g j.ph.length)) []:=by
 have hl:=zA vE j.ph;refine eM call250 λF hF=>?_
 refine WW ?_;refine xK 7 1001 1 rfl rfl rfl ?_;refine zP (j.ph.length) [1001] [] [1,2,11,12] [7,13,1,2,11,12] rfl (λi T U=>⟨(7,.ref 1001 0 ((HX j r g i).map nA).length)::(13,iA i)::T,(1001,.arr 1 ((HX j r g i).map nA) true)::U⟩) ?_;(conv=>whnf);refine⟨by rfl,?_,?_⟩
 ·intro i hi;have hy:=zN vE j.ph i hi
  change (j.ph.map vE)[i]? =some (vE (xI j i))at hy
  have es:=zLg j r g i
  have hlen:(HX j r g i).length<=1000:=by
   have:(HX j r g i).length<=(List.range i).length:=yAv _ _;rw[yAe]at this;omega
  have hlm:((HX j r g i).map nA).length<=1000:=by rw[zYq];exact hlen
  rw[es];generalize HX j r g i=o at *;generalize xI j i=t at *;by_cases h1:t.ring=r
  ·by_cases h2:t.group=g
   ·rw[zYp ⟨h1,h2⟩,zYz];generalize o.map nA=xs at *;refine WW ?_;rfl
   ·rw[zYo (λh=>h2 h.2)];refine WW ?_;rfl
  ·rw[zYo (λh=>h1 h.1)];refine WW ?_;rfl
 ·(refine WW ?_)
  exact zI [] rfl rfl (zQb _ _) rfl
def HY (l:List Nat) (x:Int):Bool:=l.any λp:Nat=>(p:Int)==x
theorem zLh (l:List Nat) (hn:l.length<=1000) (x:Int):∃k:Int,zO 275 [zD nA l,iA x] [] (iA k) []/\ -1<=k/\k<1000/\(HY l x=decide (0<=k)):=by
 have hl:=zA nA l;by_cases hx:∃i,i<l.length/\((l.getD i default:Nat):Int)=x
 ·obtain⟨i0,h1,h2⟩:=hx;obtain⟨k,_,⟨hk,hkx⟩,hkm⟩:=KP (P:=λi=>i<l.length/\((l.getD i default:Nat):Int)=x) i0 ⟨h1,h2⟩;refine⟨k,?_,zB,zB,?_⟩
  ·(refine eM call275 λF hF=>?_)
   refine WW ?_;refine xV (l.length) [] [] [0,1,7] [8,0,1,7] rfl (λi T U zs=>(i<=k)/\zs=⟨(8,iA i)::T,U⟩) ?_;(conv=>whnf);refine⟨?_,?_,?_⟩
   ·exact⟨zY4 _,rfl⟩
   ·rintro u st hu ⟨huk,rfl⟩;have hy:=zN nA l u hu;by_cases e:u=k
    ·subst e;generalize l.getD u default=v at *;unfold nA at hy;refine WW ?_;exact zL
    ·have hne:¬((l.getD u default:Nat):Int)=x:=λh=>hkm u zB ⟨hu,h⟩
     generalize l.getD u default=v at *;unfold nA at hy;refine WW ?_;exact⟨zB,rfl⟩
   ·rintro st ⟨huk,rfl⟩;exfalso;omega
  ·rw[zYu zB];unfold HY;rw[yAd];exact⟨l.getD k default,by simp[List.getD,hk],by rw[zZ7];exact hkx⟩
 ·refine⟨-1,?_,zB,zB,?_⟩
  ·(refine eM call275 λF hF=>?_)
   refine WW ?_;refine zP (l.length) [] [] [0,1,7] [8,0,1,7] rfl (λi T U=>⟨(8,iA i)::T,U⟩) ?_;(conv=>whnf);refine⟨by rfl,?_,?_⟩
   ·intro u hu;have hy:=zN nA l u hu;have hne:¬((l.getD u default:Nat):Int)=x:=λh=>hx ⟨u,hu,h⟩
    generalize l.getD u default=v at *;unfold nA at hy;clear hx;refine WW ?_;rfl
   ·clear hx;refine WW ?_;exact zL
  ·rw[zYw zB];unfold HY;rw[yBq];intro p hp;obtain⟨i,hi,rfl⟩:=yAz hp;intro h;rw[zZ7]at h;exact hx ⟨i,hi,by simpa [List.getD,hi]using h⟩
theorem zBi (l:List Nat) (hn:l.length<=1000) (x:Int):zO 249 [zD nA l,iA x] [] (bA (HY l x)) []:=by
 obtain⟨k,c,h1,h2,h3⟩:=zLh l hn x;rw[h3];by_cases h:0<=k
 ·rw[zYu h];refine eM call249 λF hF=>?_
  refine zW c ?_;exact zL
 ·rw[zYw h];refine eM call249 λF hF=>?_
  refine zW c ?_;exact zL
theorem zLi (l:Li):zO 277 [vM l] [] (bA (l.lamp != 0)) []:=by
 by_cases h:l.lamp=0
 ·rw[show(l.lamp != 0)=false by simp[h]];refine eM call277 λF hF=>?_
  refine WW ?_;exact zL
 ·rw[show(l.lamp != 0)=true by simp[h]];refine eM call277 λF hF=>?_
  refine WW ?_;exact zL
theorem zU8 (c:Ct) (hn:c.li.length<=1000):∃k:Int,zO 296 [zD vM c.li,.fn 277 []] [] (iA k) []/\ -1<=k/\k<1000/\(arF c= !decide (0<=k)):=by
 have hl:=zA vM c.li;by_cases hx:∃i,i<c.li.length/\(vI c i).lamp≠0
 ·obtain⟨i0,h1,h2⟩:=hx;obtain⟨k,_,⟨hk,hkx⟩,hkm⟩:=KP (P:=λi=>i<c.li.length/\(vI c i).lamp≠0) i0 ⟨h1,h2⟩;refine⟨k,?_,zB,zB,?_⟩
  ·(refine eM call296 λF hF=>?_)
   refine WW ?_;refine xV (c.li.length) [] [] [0,1,7] [8,0,1,7] rfl (λi T U zs=>(i<=k)/\zs=⟨(8,iA i)::T,U⟩) ?_;(conv=>whnf);refine⟨?_,?_,?_⟩
   ·exact⟨zY4 _,rfl⟩
   ·rintro u st hu ⟨huk,rfl⟩;have hy:=zN vM c.li u hu
    change (c.li.map vM)[u]? =some (vM (vI c u))at hy
    have cn:=zLi (vI c u);by_cases e:u=k
    ·subst e;rw[show((vI c u).lamp != 0)=true by simpa using hkx]at cn;generalize vI c u=v at *;refine zW cn ?_;exact zL
    ·have hne:(vI c u).lamp=0:=yBx λh=>hkm u zB ⟨hu,h⟩
     rw[show((vI c u).lamp != 0)=false by simpa using hne]at cn;generalize vI c u=v at *;refine zW cn ?_;exact⟨zB,rfl⟩
   ·rintro st ⟨huk,rfl⟩;exfalso;omega
  ·rw[zYu zB];unfold arF;exact yBp.2 ⟨vI c k,by simp[vI,List.getD,hk],by simpa using hkx⟩
 ·have h0:∀i,i<c.li.length->(vI c i).lamp=0:=λi hi=>yBx λh=>hx ⟨i,hi,h⟩
  refine⟨-1,?_,zB,zB,?_⟩
  ·clear hx;refine eM call296 λF hF=>?_
   refine WW ?_;refine zP (c.li.length) [] [] [0,1,7] [8,0,1,7] rfl (λi T U=>⟨(8,iA i)::T,U⟩) ?_;(conv=>whnf);refine⟨by rfl,?_,?_⟩
   ·intro u hu;have hy:=zN vM c.li u hu
    change (c.li.map vM)[u]? =some (vM (vI c u))at hy
    have cn:=zLi (vI c u);have h0:=h0 u hu;rw[show((vI c u).lamp != 0)=false by simpa using h0]at cn;generalize vI c u=v at *;refine zW cn ?_;rfl
   ·(refine WW ?_)
    exact zL
  ·rw[zYw zB];unfold arF;rw[yDp,zY3];intro l hl;obtain⟨i,hi,rfl⟩:=yAz hl;have:=h0 i hi;simpa [vI,List.getD,hi]using this
theorem CW (c:Ct) (hn:c.li.length<=1000):zO 251 [ctA c] [] (bA (arF c)) []:=by
 obtain⟨k,c1,h1,h2,h3⟩:=zU8 c hn
 have c2:zO 276 [zD vM c.li,.fn 277 []] [] (bA (decide (0<=k))) []:=by
  by_cases h:0<=k
  ·rw[zYu h];refine eM call276 λF hF=>?_
   refine zW c1 ?_;exact zL
  ·rw[zYw h];refine eM call276 λF hF=>?_
   refine zW c1 ?_;exact zL
 rw[h3]
 cases hd:decide (0<=k)<;>rw[hd]at c2
 ·(refine eM call251 λF hF=>?_)
  refine zW c2 ?_;exact zL
 ·(refine eM call251 λF hF=>?_)
  refine zW c2 ?_;exact zL
def nvF (j:Jn) (c:Ct):Bool:=(List.range j.ph.length).all λp=>LD (xI j p) (vI c p)
def ncF (j:Jn) (c:Ct):Bool:=(List.range j.cf.length).all λa=>(List.range j.cf.length).all λb=>!GQ j.cf (seF c) a b
def nxO (j:Jn) (c:Ct) (r:Nat):Bool:=decide (c.nx.getD r default= -1)||HY (HX j r c.gr j.ph.length) (c.nx.getD r default)
def vcF (j:Jn) (c:Ct):Bool:=decide (c.li.length=j.ph.length/\c.nx.length=2)&&(nvF j c&&(ncF j c&&(decide (0<=c.gr/\c.gr<UY j)&&((List.range 2).all (nxO j c)&&(decide (0<=c.wt/\c.wt<=j.st)&&(decide (c.wt=0)||arF c))))))
structure JB (j:Jn):Prop where
 n:j.ph.length<=8
 c:j.cf.length<=8
 gp:∀p:Nat,p<j.ph.length->0<=(xI j p).group/\(xI j p).group<=3
theorem JV.b {j:Jn} (J:JV j):JB j:=⟨J.n.2,by rw[J.c];exact J.n.2,J.gp⟩
theorem zYh {n:Nat} (h:n<=8):p2 (n:Int)<=256:=by
 have:n=0∨n=1∨n=2∨n=3∨n=4∨n=5∨n=6∨n=7∨n=8:=by omega
 rcases this with rfl|rfl|rfl|rfl|rfl|rfl|rfl|rfl|rfl<;>decide
theorem zQc (j:Jn) (J:JB j) (c:Ct):zO 226 [wC j,ctA c] [] (bA (vcF j c)) []:=by
 have hlp:=zA vE j.ph;have hll:=zA vM c.li;have hln:=zA iA c.nx;have hn8:=J.n;unfold vcF;by_cases h1:c.li.length=j.ph.length
 case neg=>
  rw[zYw (λh=>h1 h.1)];refine eM call226 λF hF=>?_
  refine WW ?_;exact zL
 by_cases h2:c.nx.length=2
 case neg=>
  rw[zYw (λh=>h2 h.2)];refine eM call226 λF hF=>?_
  refine WW ?_;exact zL
 rw[zYu ⟨h1,h2⟩,zZh];have cs:=zXg c zB;have hsb:=AS (GP c) c.li.length zB;have hp8:=zYh (n:=c.li.length) zB
 change 0<=seF c/\seF c<p2 c.li.length at hsb
 obtain⟨cp,cq,cc,hcl⟩:=zLf j.cf J.c (seF c) zB
 have hnc:ncF j c=decide (cp= -1):=by
  unfold ncF
  rcases hcl with⟨h3,h4⟩|⟨h3,a,b,ha,hb,h4⟩
  ·rw[zYu h3,zY3];intro a ha;rw[zY3];intro b hb;rw[h4 a b (zZi.1 ha) (zZi.1 hb)];rfl
  ·rw[zYw zB,yBp];refine⟨a,zZi.2 ha,?_⟩;rw[yBc,yBp];exact⟨b,zZi.2 hb,by rw[h4];decide⟩
 have hcp:cp= -1∨0<=cp:=by
  rcases hcl with h|h
  ·exact .inl h.1
  ·exact .inr h.1
 have cg:=CU j zB J.gp;have ca:=CW c zB;clear hcl;rw[hnc];generalize seF c=se at *;generalize UY j=gm at *;generalize hra:arF c=ra at *;refine eM call226 λF hF=>?_
 refine WW ?_;refine xV (j.ph.length) [2,3] [2,3] [2,3,25,26] [27,2,3,25,26] rfl (λi T U zs=>(∀s:Nat,s<i->LD (xI j s) (vI c s)=true)/\zs=⟨(27,iA i)::T,U⟩) ?_;(conv=>whnf);refine⟨?_,?_,?_⟩
 ·exact⟨λs hs=>absurd hs (yBb _),rfl⟩
 ·rintro i st hi ⟨hp,rfl⟩;have hy:=zN vE j.ph i hi;have hyl:=zN vM c.li i zB
  change (j.ph.map vE)[i]? =some (vE (xI j i))at hy
  change (c.li.map vM)[i]? =some (vM (vI c i))at hyl
  have cv:=zLc (xI j i) (vI c i)
  cases hq:LD (xI j i) (vI c i)with
  | true=>
   rw[hq]at cv
   have hp2:∀s:Nat,s<i+1->LD (xI j s) (vI c s)=true:=λs hs=>by
    by_cases hsi:s=i
    ·subst hsi;assumption
    ·exact hp s zB
   clear hq hp;generalize xI j i=t at *;generalize vI c i=l at *;clear cs cc cg ca;refine zW cv ?_;exact⟨hp2,rfl⟩
  |false=>
   have hnv:nvF j c=false:=yBp.2 ⟨i,zZi.2 hi,by rw[hq];decide⟩;rw[hq]at cv;rw[hnv,yAf];clear hq hp;generalize xI j i=t at *;generalize vI c i=l at *;clear cs cc cg ca;refine zW cv ?_;exact zL
 ·rintro st ⟨hp,rfl⟩;have hnv:nvF j c=true:=zY3.2 λi hi=>hp i (zZi.1 hi)
  rw[hnv,zZh];clear hp hnv;by_cases hcq:cp= -1
  case neg=>
   rw[zYw hcq];refine xA (vD cs cc) ?_;exact zL
  rw[zYu hcq,zZh];by_cases hg0:0<=c.gr
  case neg=>
   rw[zYw (λh=>hg0 h.1)];refine xA (gK cs cc cg) ?_;exact zL
  by_cases hg1:c.gr<gm
  case neg=>
   rw[zYw (λh=>hg1 h.2)];refine xA (gK cs cc cg) ?_;exact zL
  rw[zYu ⟨hg0,hg1⟩,zZh];refine xA (gK cs cc cg) ?_;refine xV (c.nx.length) [2,3] [2,3] [2,3,62,63] [64,2,3,62,63] rfl (λi T U zs=>(∀s:Nat,s<i->nxO j c s=true)/\zs=⟨(64,iA i)::T,U⟩) ?_;(conv=>whnf);refine⟨?_,?_,?_⟩
  ·exact⟨λs hs=>absurd hs (yBb _),rfl⟩
  ·rintro i st hi ⟨hp,rfl⟩;have hy:=zN iA c.nx i hi;have co:=zYg j zB i c.gr
   have hlen:(HX j i c.gr j.ph.length).length<=1000:=by
    have:(HX j i c.gr j.ph.length).length<=(List.range j.ph.length).length:=yAv _ _;rw[yAe]at this;omega
   have ch:=zBi (HX j i c.gr j.ph.length) hlen (c.nx.getD i default)
   have next:nxO j c i=true->∀s:Nat,s<i+1->nxO j c s=true:=λh s hs=>by
    by_cases hsi:s=i
    ·subst hsi;exact h
    ·exact hp s zB
   have stop:nxO j c i=false->((List.range 2).all (nxO j c))=false:=λh=>yBp.2 ⟨i,zZi.2 zB,by rw[h];decide⟩
   have ex:nxO j c i=(decide (c.nx.getD i default= -1)||HY (HX j i c.gr j.ph.length) (c.nx.getD i default)):=rfl;clear hp cs cc cg ca;generalize HX j i c.gr j.ph.length=o at *;generalize HY o (c.nx.getD i default)=hb at *;generalize c.nx.getD i default=x at *;generalize nxO j c i=q at *;by_cases hx:x= -1
   ·rw[zYu hx]at ex;have hnx:=next ex;refine WW ?_;exact⟨hnx,rfl⟩
   rw[zYw hx,yBh]at ex
   cases hb with
   |true=>
    have hnx:=next ex;refine xA (vD co ch) ?_;exact⟨hnx,rfl⟩
   |false=>
    rw[stop ex,yAf];refine xA (vD co ch) ?_;exact zL
  ·rintro st ⟨hp,rfl⟩;have hall:((List.range 2).all (nxO j c))=true:=zY3.2 λi hi=>hp i (by have:=zZi.1 hi;omega)
   rw[hall,zZh];clear hp hall;by_cases hw0:0<=c.wt
   case neg=>
    rw[zYw (λh=>hw0 h.1)];refine WW ?_;exact zL
   by_cases hw1:c.wt<=j.st
   case neg=>
    rw[zYw (λh=>hw1 h.2)];refine WW ?_;exact zL
   rw[zYu ⟨hw0,hw1⟩,zZh];by_cases hz:c.wt=0
   ·rw[zYu hz];refine WW ?_;exact zL
   ·rw[zYw hz,yBh];refine zW ca ?_;exact zL
theorem zU9 {j:Jn} (J:JV j) {c:Ct} (C:CV j c):vcF j c=true:=by
 have hn:=C.n;have hJ:=J.n;unfold vcF;have h1:nvF j c=true:=zY3.2 λp hp=>C.k p (zZi.1 hp)
 have h2:ncF j c=true:=by
  unfold ncF;rw[zY3];intro a ha;rw[zY3];intro b hb;have ha:=zZi.1 ha;have hb:=zZi.1 hb;rw[J.c]at ha hb
  have hin:∀p:Nat,p<j.ph.length->inS (seF c) p=GP c p:=λp hp=>by
   unfold seF;have e:=HW (λq=>decide (q<c.li.length)&&GP c q) c.li.length 8 zB (λi h1 h2=>by rw[zYw zB];rfl);have e2:eV (GP c) c.li.length=eV (λq=>decide (q<c.li.length)&&GP c q) c.li.length:=cS _ λi hi=>by rw[zYu hi];rfl
   rw[e2,<-e,zLe _ p zB,zYu zB];rfl
  rw[yA3];unfold GQ;rw[hin a ha,hin b hb];by_cases hab:b=a
  ·rw[zYw (λh=>h hab)];simp
  ·cases hsa:GP c a with
   |false=>rfl
   | true=>
    cases hsb:GP c b with
    |false=>simp
    |true=>
     rw[C.x a b ha hb (λh=>hab h.symm) (by simpa [GP]using hsa) (by simpa [GP]using hsb)];simp
 have h3:((List.range 2).all (nxO j c))=true:=zY3.2 λr hr=>by
  have hr:=zZi.1 hr;unfold nxO
  rcases C.v r hr with h|h
  ·rw[zYu h];rfl
  ·have:HY (HX j r c.gr j.ph.length) (c.nx.getD r default)=true:=by
    unfold HY;rw[yAd];obtain⟨a,b,d,e⟩:=h;refine⟨(c.nx.getD r default).toNat,?_,by rw[zZ7];omega⟩;unfold HX;rw[yBl,zZi];refine⟨zB,?_⟩;rw[d,e];simp
   rw[this,yBe]
 rw[zYu ⟨hn,C.m⟩,h1,h2,zYu C.g,h3,zYu C.w];simp only[zZh]
 rcases C.z with h|h
 ·rw[zYu h];rfl
 ·have:arF c=true:=by
   unfold arF;rw[zY3];intro l hl;obtain⟨i,hi,rfl⟩:=yAz hl;have:=h i zB;simpa [vI,List.getD,hi]using this
  rw[this,yBe]
theorem zYi (y:Int):eI y 1=0∨eI y 1=1:=by
 show IntKind.i64.wrap (BitVec.ofInt 64 y &&& BitVec.ofInt 64 1).toNat=0∨IntKind.i64.wrap (BitVec.ofInt 64 y &&& BitVec.ofInt 64 1).toNat=1
 have e1:BitVec.ofInt 64 1=1#64:=by decide
 have h:(BitVec.ofInt 64 y &&& BitVec.ofInt 64 1).toNat=(BitVec.ofInt 64 y).toNat % 2:=by
  rw[e1,BitVec.toNat_and];exact Nat.and_one_is_mod _
 rw[h];have h2:(BitVec.ofInt 64 y).toNat % 2=0∨(BitVec.ofInt 64 y).toNat % 2=1:=by omega
 rcases h2 with h2|h2<;>rw[h2]
 ·exact .inl xN
 ·exact .inr xN
theorem HZ {rows:List Int} {p q:Nat} (hp:p<rows.length) (hq:q<rows.length):eI (uT (rows.getD p default) q) 1=if eO rows p q=true then 1 else 0:=by
 unfold eO;rw[zYu zB,zZh,yAc];split
 ·rename_i h
  rwa [zZ7]at h
 ·rename_i h;rw[zZ7]at h
  rcases zYi (uT (rows.getD p default) q)with h1|h1
  ·exact h1
  ·exact absurd h1 h
theorem zYj {x:Int} {n:Nat} (h:0<=x/\x<2 ^ n):uT x n=0:=by
 unfold uT;rw[yAc];exact Int.fdiv_eq_zero_of_lt h.1 h.2
theorem zFo (j:Jn) (J:JV j):zO 175 [zD iA j.cf] [] (bA true) []:=by
 have hl:=zA iA j.cf;have hn:=J.n;have hc:=J.c;refine eM call175 λF hF=>?_
 refine WW ?_;refine zP (j.cf.length) [] [] [0,14,15] [16,0,14,15] rfl (λi T U=>⟨(16,iA i)::T,U⟩) ?_;(conv=>whnf);refine⟨by rfl,?_,?_⟩
 ·intro u hu;have hy:=zN iA j.cf u hu;have hrow:=J.row u zB;have hs0:=zYj hrow;rw[<-hc,<-hl]at hs0;have hir:=HZ (p:=u) (q:=u) hu hu;rw[J.ir u zB,zYo xN]at hir
  have hpq:∀v,v<j.cf.length->eI (uT (j.cf.getD u default) v) 1=eI (uT (j.cf.getD v default) u) 1:=λv hv=>by
   rw[HZ hu hv,HZ hv hu,J.sy u v zB zB]
  generalize j.cf.getD u default=x at *;refine WW ?_;refine zP (j.cf.length) [] [] [0,3,4,14,15,16,38] [39,0,3,4,14,15,16,38] rfl (λi T U=>⟨(39,iA i)::T,U⟩) ?_;(conv=>whnf);refine⟨by rfl,?_,?_⟩
  ·intro v hv;have hyv:=zN iA j.cf v hv;have hpq:=hpq v hv;generalize j.cf.getD v default=y at *;refine WW ?_;rfl
  ·clear hpq;refine WW ?_;rfl
 ·(refine WW ?_)
  exact zL
theorem dO (n a b:Int) (h:a<=n/\n<=b):zO 141 [iA n,iA a,iA b] [] (bA true) []:=by
 obtain⟨h1,h2⟩:=h;refine eM call141 λF hF=>?_
 refine WW ?_;exact zL
theorem zLj (j:Jn) (J:JV j) (p:Nat) (hp:p<j.ph.length):zO 176 [vE (xI j p)] [] (bA true) []:=by
 have hr:=J.rg p hp;have hg:=J.gp p hp;obtain⟨t1,t2,t3,t4,t5,t6,t7,t8,t9,t10,t11,t12,t13⟩:=J.ti p hp;generalize xI j p=t at *;have c1:=dO t.ring 0 1 hr;have c2:=dO t.group 0 3 hg;have c3:=dO t.ming 1 60 ⟨t1,zB⟩;have c4:=dO t.maxg 1 60 ⟨zB,t3⟩;have c5:=dO t.yel 1 60 ⟨t4,t5⟩;have c6:=dO t.red 0 60 ⟨t6,t7⟩;have c7:=dO t.walk 0 60 ⟨t8,t9⟩;have c8:=dO t.clear 0 60 ⟨t10,t11⟩;by_cases h0:t.walk=0
 ·have h1:=t13.1 h0;clear t13;refine eM call176 λF hF=>?_
  refine xA (zt8 c1 c2 c3 c4 c5 c6 c7 c8) ?_;exact zL
 ·have h1:¬t.clear=0:=λh=>h0 (t13.2 h)
  clear t13;refine eM call176 λF hF=>?_
  refine xA (zt8 c1 c2 c3 c4 c5 c6 c7 c8) ?_;exact zL
theorem zLk (j:Jn) (J:JV j):zO 177 [wC j] [] (bA true) []:=by
 have hl:=zA vE j.ph;have hn:=J.n;have hc:=J.c;refine eM call177 λF hF=>?_
 repeat' (first|(refine zE ?_;first|refine wZ tok rfl rfl ?_|refine dX tok rfl rfl rfl rfl ?_|refine uM ?_)|first|refine SQ ?_|fail|refine vK ?_|refine vL ?_|refine yN ?_)
 refine zP (j.ph.length) [1] [1] [1,9,10] [3,11,1,9,10] rfl (λi T U=>⟨(3,bA true)::(11,iA i)::T,U⟩) ?_;(conv=>whnf);refine⟨by rfl,?_,?_⟩
 ·intro u hu;have hy:=zN vE j.ph u hu
  change (j.ph.map vE)[u]? =some (vE (xI j u))at hy
  refine WW ?_;refine zP (j.ph.length) [1,5] [1,5] [1,4,5,9,10,11,17,18] [3,19,1,4,5,9,10,11,17,18] rfl (λi T U=>⟨(3,bA true)::(19,iA i)::T,U⟩) ?_;(conv=>whnf);refine⟨by rfl,?_,?_⟩
  ·intro v hv;have hyv:=zN vE j.ph v hv
   change (j.ph.map vE)[v]? =some (vE (xI j v))at hyv
   have ck:=gD j.cf zB u v;have hap:=J.ap u v hu hv;by_cases huv:u=v
   ·have hne:(u:Int)=v:=by omega
    clear hap;generalize xI j u=a at *;generalize xI j v=b at *;refine WW ?_;rfl
   have hne:¬(u:Int)=v:=by omega
   by_cases h1:(xI j u).ring=(xI j v).ring
   ·rw[hap huv (.inl h1)]at ck;clear hap;generalize xI j u=a at *;generalize xI j v=b at *;refine zW ck ?_;rfl
   by_cases h2:(xI j u).group=(xI j v).group
   ·clear hap;generalize xI j u=a at *;generalize xI j v=b at *;refine WW ?_;rfl
   ·rw[hap huv (.inr h2)]at ck;clear hap;generalize xI j u=a at *;generalize xI j v=b at *;refine zW ck ?_;rfl
  ·generalize xI j u=a at *;refine WW ?_;rfl
 ·(refine WW ?_)
  exact zL
def KQ (j:Jn) (i:Nat) (g:Nat):Bool:=(List.range i).any λp=>(xI j p).group==(g:Int)
theorem zLl (j:Jn) (i:Nat):KQ j (i+1)=λg=>KQ j i g||((xI j i).group==(g:Int)):=by
 funext g
 unfold KQ;rw[yBa,List.any_append];simp
theorem zXh (g:Nat) (h:g<4):p2 (g:Int)=eV (λx:Nat=>(g:Int)==(x:Int)) 8:=by
 have:g=0∨g=1∨g=2∨g=3:=by omega
 rcases this with rfl|rfl|rfl|rfl<;>decide
theorem zYk:∀b0 b1 b2 b3:Bool,(b1=true->b0=true)->(b2=true->b1=true)->(b3=true->b2=true)->eI (eV (bq b0 b1 b2 b3 false false false false) 8) (eV (bq b0 b1 b2 b3 false false false false) 8+1)=0:=by decide +kernel
theorem zQd (j:Jn) (J:JV j):eI (eV (KQ j j.ph.length) 8) (eV (KQ j j.ph.length) 8+1)=0:=by
 have hf:∀g:Nat,4<=g->KQ j j.ph.length g=false:=λg hg=>by
  unfold KQ;rw[yBq];intro p hp;have:=J.gp p (zZi.1 hp);simp;omega
 have hd:∀g:Nat,KQ j j.ph.length (g+1)=true->KQ j j.ph.length g=true:=λg h=>by
  unfold KQ at h⊢;rw[yAd]at h⊢;obtain⟨p,hp,hg⟩:=h;rw[zZ7]at hg;obtain⟨q,hq,hqg⟩:=J.lo p (zZi.1 hp) g zB zB;exact⟨q,zZi.2 hq,by rw[zZ7];exact hqg⟩
 have e:eV (KQ j j.ph.length) 8=eV (bq (KQ j j.ph.length 0) (KQ j j.ph.length 1) (KQ j j.ph.length 2) (KQ j j.ph.length 3) false false false false) 8:=cS 8 λi hi=>by
  match i,hi with
  |0,_=>rfl|1,_=>rfl|2,_=>rfl|3,_=>rfl
  |4,_=>exact hf 4 zB
  |5,_=>exact hf 5 zB
  |6,_=>exact hf 6 zB
  |7,_=>exact hf 7 zB
  |i+8,h=>omega
 rw[e];exact zYk _ _ _ _ (hd 0) (hd 1) (hd 2)
theorem RG (j:Jn) (J:JV j):zO 142 [wC j] [] (bA true) []:=by
 have hl:=zA vE j.ph;have hlc:=zA iA j.cf;have hn:=J.n;have hc:=J.c;have c1:=zFo j J;have c2:=dO j.st 0 60 J.st;have c3:=zLk j J;have hgd:=zQd j J;have hbb:=AS (KQ j j.ph.length) 8 zB;have hp8:p2 ((8:Nat):Int)=256:=by decide
 refine eM call142 λF hF=>?_
 refine xA (vD c1 c2) ?_;refine zP (j.ph.length) [1] [1] [1,34,35] [4,36,1,34,35] rfl (λi T U=>⟨(4,iA (eV (KQ j i) 8))::(36,iA i)::T,U⟩) ?_;(conv=>whnf);refine⟨by rfl,?_,?_⟩
 ·intro u hu;have hy:=zN vE j.ph u hu
  change (j.ph.map vE)[u]? =some (vE (xI j u))at hy
  have cp:=zLj j J u hu;have hg:=J.gp u hu;have es:=zLl j u;obtain⟨gn,hgn⟩:∃n:Nat,(xI j u).group=n:=⟨(xI j u).group.toNat,zB⟩;have hor:=zSr (KQ j u) (λx:Nat=>(gn:Int)==(x:Int));rw[<-zXh gn zB]at hor;rw[hgn]at es;rw[es,<-hor];generalize eV (KQ j u) 8=b at *;rw[<-hgn];clear c1 c2 c3 hor es;generalize xI j u=t at *;refine zW cp ?_;rfl
 ·generalize eV (KQ j j.ph.length) 8=b at *;refine zW c3 ?_;exact zL
theorem NS {p:Nat->Bool}:∀(l:List Nat) (i x:Nat),l[i]? =some x->(∀y∈l.take i,p y=false)->p x=true->l.find? p=some x
 | [],i,x,h,_,_=>by simp at h
 |y::l,0,x,h,_,hp=>by
  simp at h;subst h;rw[yEj,hp]
 |y::l,i+1,x,h,ha,hp=>by
  rw[yEj,ha y zU];exact NS l i x VV (λz hz=>ha z (by simp[hz])) hp
theorem zDk {p:Nat->Bool} {l:List Nat} (h:∀y∈l,p y=false):l.find? p=none:=yDk.2 λy hy=>by rw[h y hy];decide
theorem SJ {l:List Nat} {i x z:Nat} (hx:l[i]? =some x) (hz:z∈l.take (i+1)):z∈l.take i∨z=x:=by
 rw[yA6,hx]at hz;simpa using hz
theorem WP (j:Jn) (hn:j.ph.length<=1000) (r g f:Int):zO 206 [wC j,iA r,iA g,iA f] [] (iA (bE j r g f)) []:=by
 have c:=zLd j r;unfold zFn at c;have hl:=zA vE j.ph;refine eM call206 λF hF=>?_
 refine zW c ?_;refine wW hF (zBh j hn r) rfl [4,6,7,8] [4,6,7,8] rfl rfl rfl rfl rfl rfl rfl rfl rfl (λi ys h=>?_) (λ_=>[(4,.box [zD vE j.ph,zD iA j.cf,iA j.st]),(6,.box [iA g]),(7,.box [iA f]),(8,.box [iA 0])]) (λi=>∀x∈(MD j r).take i,(decide (f<=(x:Int))&&(xI j x).group==g)=false) (T:=[(4,.ptr 4 0 0),(6,.ptr 6 0 0),(7,.ptr 7 0 0),(8,.ptr 8 0 0)]) rfl zU (λi ys y hys hI F1 h1 h2=>?_) (λhI=>?_)
 ·rw[zYt,zY1]at h;obtain⟨x,_,rfl⟩:=h;rfl
 ·rw[zYt,zY1]at hys;obtain⟨x,hx,rfl⟩:=hys
  show uI _ F1 _ _ ⟨[(13,iA (x:Int)),(4,.ptr 4 0 0),(6,.ptr 6 0 0),(7,.ptr 7 0 0),(8,.ptr 8 0 0)],[(4,.box [zD vE j.ph,zD iA j.cf,iA j.st]),(6,.box [iA g]),(7,.box [iA f]),(8,.box [iA 0])]⟩ _
  have hxn:=(YO.1 (zZ4 hx)).1;have hy:(j.ph.map vE)[x]? =some (vE (xI j x)):=zN vE j.ph x hxn
  have next:(decide (f<=(x:Int))&&(xI j x).group==g)=false->∀z∈(MD j r).take (i+1),(decide (f<=(z:Int))&&(xI j z).group==g)=false:=λhb z hz=>by
   rcases SJ hx hz with h|rfl
   ·exact hI z h
   ·exact hb
  have hit:(decide (f<=(x:Int))&&(xI j x).group==g)=true->bE j r g f=x:=λhb=>by
   unfold bE;rw[NS _ i x hx hI hb]
  clear hI hx;generalize xI j x=t at *;refine WW ?_;refine⟨rfl,λF2 g1 g2=>?_⟩;by_cases h3:f<=(x:Int)
  ·by_cases h4:t.group=g
   ·rw[hit (by rw[zYu h3,zZ7.2 h4];rfl)];refine WW ?_;exact zL
   ·have hnx:=next (by rw[zZw.2 h4,yCh]);refine WW ?_;exact⟨rfl,hnx⟩
  ·have hnx:=next (by rw[zYw h3,yAf]);refine WW ?_;exact⟨rfl,hnx⟩
 ·rw[zYq,zYv]at hI
  have hno:bE j r g f= -1:=by
   unfold bE;rw[zDk hI]
  rw[hno];refine WW ?_;exact zL
theorem zVa (j:Jn) (hn:j.ph.length<=1000) (c:Ct) (hc:c.li.length=j.ph.length) (r:Int):zO 252 [wC j,ctA c,iA r] [] (bA (dkF j c r)) []:=by
 have cp:=zLd j r;unfold zFn at cp;have hl:=zA vE j.ph;have hl2:=zA vM c.li;refine eM call252 λF hF=>?_
 refine zW cp ?_;refine wW hF (zBh j hn r) rfl [3,4,6] [3,4,6] rfl rfl rfl rfl rfl rfl rfl rfl rfl (λi ys h=>?_) (λ_=>[(3,.box [zD vE j.ph,zD iA j.cf,iA j.st]),(4,.box [zD vM c.li,iA c.gr,zD iA c.nx,iA c.wt]),(6,.box [bA false])]) (λi=>∀x∈(MD j r).take i,((vI c x).lamp==0)=true) (T:=[(3,.ptr 3 0 0),(4,.ptr 4 0 0),(6,.ptr 6 0 0)]) rfl zU (λi ys y hys hI F1 h1 h2=>?_) (λhI=>?_)
 ·rw[zYt,zY1]at h;obtain⟨x,_,rfl⟩:=h;rfl
 ·rw[zYt,zY1]at hys;obtain⟨x,hx,rfl⟩:=hys
  show uI _ F1 _ _ ⟨[(11,iA (x:Int)),(3,.ptr 3 0 0),(4,.ptr 4 0 0),(6,.ptr 6 0 0)],[(3,.box [zD vE j.ph,zD iA j.cf,iA j.st]),(4,.box [zD vM c.li,iA c.gr,zD iA c.nx,iA c.wt]),(6,.box [bA false])]⟩ _
  have hmem:=zZ4 hx;have hxn:=(YO.1 hmem).1;have hy:(c.li.map vM)[x]? =some (vM (vI c x)):=zN vM c.li x zB
  have next:((vI c x).lamp==0)=true->∀z∈(MD j r).take (i+1),((vI c z).lamp==0)=true:=λhb z hz=>by
   rcases SJ hx hz with h|rfl
   ·exact hI z h
   ·exact hb
  have hit:((vI c x).lamp==0)=false->dkF j c r=false:=λhb=>by
   unfold dkF;exact yBp.2 ⟨x,hmem,by rw[hb];decide⟩
  clear hI hx;generalize vI c x=t at *;refine WW ?_;refine⟨rfl,λF2 g1 g2=>?_⟩;by_cases h4:t.lamp=0
  ·have hnx:=next (zZ7.2 h4);refine WW ?_;exact⟨rfl,hnx⟩
  ·rw[hit (zZw.2 h4)];refine WW ?_;exact zL
 ·rw[zYq,zYv]at hI;have hd:dkF j c r=true:=zY3.2 hI;rw[hd];refine WW ?_;exact zL
def lsN (j:Jn) (r t:Int) (i:Nat):Int:=match ((MD j r).take i).find? (λp:Nat=>!eO j.cf p t)with
 |some p=>p
 |none=> -1
theorem zLm {j:Jn} {r t:Int} {i x:Nat} (hx:(MD j r)[i]? =some x):lsN j r t (i+1)=if eO j.cf x t=true then lsN j r t i else if lsN j r t i= -1 then(x:Int)else lsN j r t i:=by
 unfold lsN;rw[yA6,hx,yEb]
 cases hf:((MD j r).take i).find? (λp:Nat=>!eO j.cf p t)with
 |some p=>
  show((p:Nat):Int)=if eO j.cf x t=true then(p:Int)else if(p:Int)= -1 then(x:Int)else(p:Int)
  split
  ·rfl
  ·rw[zYo zB]
 |none=>
  simp only[Option.none_or,yD8,yEj,List.find?_nil]
  cases eO j.cf x t<;>rfl
theorem zVb (j:Jn) (hn:j.ph.length<=1000) (hcf:j.cf.length<=40) (c:Ct) (hm:c.nx.length=2) (r t:Int) (hr:0<=r/\r<2):zO 253 [wC j,ctA c,iA r,iA t] [] (iA (cmF j (c.nx.getD r.toNat default) r t)) []:=by
 have cp:=zLd j r;unfold zFn at cp;have hl:=zA vE j.ph;have hl2:=zA iA c.nx;have hyn:=yP iA c.nx r hr.1 zB;generalize hxe:c.nx.getD r.toNat default=xn at *;refine eM call253 λF hF=>?_
 refine zW cp ?_;refine wW hF (zBh j hn r) rfl [4,5,6,7,8,9] [4,5,6,7,8,9] rfl rfl rfl rfl rfl rfl rfl rfl rfl (λi ys h=>?_) (λi=>[(4,.box [zD vE j.ph,zD iA j.cf,iA j.st]),(5,.box [zD vM c.li,iA c.gr,zD iA c.nx,iA c.wt]),(6,.box [iA r]),(7,.box [iA t]),(8,.box [iA 0]),(9,.box [iA (lsN j r t i)])]) (λi=>∀x∈(MD j r).take i,(!eO j.cf x t&&decide (xn≠ -1/\xn<=(x:Int)))=false) (T:=[(4,.ptr 4 0 0),(5,.ptr 5 0 0),(6,.ptr 6 0 0),(7,.ptr 7 0 0),(8,.ptr 8 0 0),(9,.ptr 9 0 0)]) rfl zU (λi ys y hys hI F1 h1 h2=>?_) (λhI=>?_)
 ·rw[zYt,zY1]at h;obtain⟨x,_,rfl⟩:=h;rfl
 ·rw[zYt,zY1]at hys;obtain⟨x,hx,rfl⟩:=hys
  show uI _ F1 _ _ ⟨[(14,iA (x:Int)),(4,.ptr 4 0 0),(5,.ptr 5 0 0),(6,.ptr 6 0 0),(7,.ptr 7 0 0),(8,.ptr 8 0 0),(9,.ptr 9 0 0)],[(4,.box [zD vE j.ph,zD iA j.cf,iA j.st]),(5,.box [zD vM c.li,iA c.gr,zD iA c.nx,iA c.wt]),(6,.box [iA r]),(7,.box [iA t]),(8,.box [iA 0]),(9,.box [iA (lsN j r t i)])]⟩ _
  have hxn:=(YO.1 (zZ4 hx)).1;have ck:=gD j.cf hcf x t;have es:=zLm (t:=t) hx
  have next:(!eO j.cf x t&&decide (xn≠ -1/\xn<=(x:Int)))=false->∀z∈(MD j r).take (i+1),(!eO j.cf z t&&decide (xn≠ -1/\xn<=(z:Int)))=false:=λhb z hz=>by
   rcases SJ hx hz with h|rfl
   ·exact hI z h
   ·exact hb
  have hit:(!eO j.cf x t&&decide (xn≠ -1/\xn<=(x:Int)))=true->cmF j xn r t=x:=λhb=>by
   unfold cmF;rw[NS _ i x hx hI hb]
  clear hI hx hxe;generalize eO j.cf x t=q at *;generalize lsN j r t (i+1)=l2 at *;generalize lsN j r t i=l1 at *;refine WW ?_;refine⟨rfl,λF2 g1 g2=>?_⟩
  cases q with
  |true=>
   rw[zYp rfl]at es;have hnx:=next rfl;subst es;refine zW ck ?_;exact⟨rfl,hnx⟩
  |false=>
  rw[zYo xN]at es;by_cases h3:xn= -1
  ·have hnx:=next (by rw[zYw (λh=>h.1 h3)];rfl);by_cases h4:l1= -1
   ·rw[zYp h4]at es;subst es;refine zW ck ?_;exact⟨rfl,hnx⟩
   ·rw[zYo h4]at es;subst es;refine zW ck ?_;exact⟨rfl,hnx⟩
  by_cases h5:xn<=(x:Int)
  ·rw[hit (by rw[zYu ⟨h3,h5⟩];rfl)];refine zW ck ?_;exact zL
  ·have hnx:=next (by rw[zYw (λh=>h5 h.2)];rfl);by_cases h4:l1= -1
   ·rw[zYp h4]at es;subst es;refine zW ck ?_;exact⟨rfl,hnx⟩
   ·rw[zYo h4]at es;subst es;refine zW ck ?_;exact⟨rfl,hnx⟩
 ·rw[zYq,zYv]at hI
  have hno:cmF j xn r t=lsN j r t (MD j r).length:=by
   unfold cmF lsN;rw[zDk hI,zYv];rfl
  rw[hno,zYq];generalize lsN j r t (MD j r).length=l1 at *;refine WW ?_;exact zL
end Av
end Go.Proofs.YtmamjhmoegjapaaGreat
