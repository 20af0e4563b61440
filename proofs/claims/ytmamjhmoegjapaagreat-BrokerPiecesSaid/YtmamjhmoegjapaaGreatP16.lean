/- Part 16. -/
import Derived.Test.YtmamjhmoegjapaaGreatP15
import Derived.Test.YtmamjhmoegjapaaGreatP12
import Derived.Test.YtmamjhmoegjapaaGreatP07
import Derived.WalkKit
import Derived.ProofKit
import Derived.Test.YtmamjhmoegjapaaGreatP09
namespace Go.Proofs.YtmamjhmoegjapaaGreat
namespace Av
open Tryz
set_option linter.unusedSimpArgs false
set_option linter.unusedVariables false
set_option maxRecDepth 4000
set_option maxHeartbeats 2000000
theorem JT (r:Rg) (hb:GM r):zN 150 [uX r] [] (uX r) []:=by
 have hs:=hb.s;have hlm:=hb.l;have k1:=vB r.ag.sec zB;have k2:=VQ r.ag.lim zB;have hn:=hb.tk.n;have hv:=hb.v;have c2:=WC r.tk zB;have c3:=DF r.vh zB;have hll:=zA xB r.tk;refine eM call150 λF hF=>?_
 refine yQ (fB k1 k2 c2) ?_;refine zP ((r.tk.map xB).length) [1001,1,2] [1,2] [1,2,22] [23,1,2,22] rfl (λi T U=>⟨(23,iA i)::T,(1001,.arr 6 (kY i (r.tk.map xB)) false)::U⟩) ?_;(conv=>whnf);refine⟨by rfl,?_,?_⟩
 ·intro i hi;have hi':i<r.tk.length:=by omega
  have hy:(kY i (r.tk.map xB))[i]? =some (xB (r.tk.getD i default)):=zM xB r.tk i hi';have e:=kO xB r.tk i hi';have c2:=vB (r.tk.getD i default).sec (by have:=hb.tk.s (r.tk.getD i default) aI;omega);generalize (r.tk.getD i default)=t at *;generalize kY i (r.tk.map xB)=xs at *;generalize kY (i+1) (r.tk.map xB)=ys at *;subst e;refine zU c2 ?_;rfl
 ·(refine zU c3 ?_)
  exact zI [] rfl rfl (zY0 (rgX r) zX7) rfl
structure xQ where
 rg:Rg
 rq:List Rq
 dr:List (List Int)
 au:List Bool
def kH (l:List Int):AV:=zD yA l
def wI (r:Rg) (a b c:AV):AV:= .agg [iA r.num,zD yA r.ag.sec,iA r.ag.rights,iA r.ag.cls,zD iA r.ag.lim,iA r.ag.req,iA r.ag.ses,iA r.ag.rate,iA r.ag.burst,zD xB r.tk,zD vT r.vh,iA r.bk.level,iA r.bk.rate,iA r.bk.burst,a,b,c]
def zK (d:xQ):AV:=wI d.rg (zD yK d.rq) (zD kH d.dr) (zD bA d.au)
structure eE (d:xQ):Prop where
 rg:GM d.rg
 q:d.rq.length<=1000
 g:∀r∈d.rq,r.legs.length<=1000
 n:d.dr.length<=1000
 e:∀b∈d.dr,b.length<=1000
 a:d.au.length<=1000
theorem XY (l:List Rq) (hl:l.length<=1073741824):zN 151 [zD yK l] [] (.ref 1001 0 (l.map yK).length) [(1001,.arr 5 (l.map yK) false)]:=by
 have hll:=zA yK l;refine eM call151 λF hF=>?_
 refine xA 0 rfl (λcap hx=>?_) ?_
 ·have:l=[]:=by simpa using hx
  subst this
  (repeat' (first|refine WZN ?_|refine xO (λhc=>?_) (λhc=>?_)|refine wB (λhc=>?_)|fail))
  refine uM 2 1001 5 rfl rfl rfl (yU ?_);exact zL [1001] rfl rfl rfl rfl
 ·repeat' (first|(refine zE ?_;first|refine vN tok rfl rfl ?_|(refine wW ?_;refine xI (yX tok (.inl ⟨rfl,rfl⟩) rfl rfl rfl rfl) rfl ?_)|(refine yS ?_;refine uN (nw:=[1001]) (yL tok 1001 (xs:=[]) rfl rfl rfl rfl rfl rfl rfl rfl rfl) rfl rfl rfl ?_)|(refine yV ?_;refine wO tok rfl rfl rfl rfl rfl rfl rfl (xT _ _ (λ_=>rfl)) rfl rfl rfl zB rfl ?_)|refine qF ?_)|(first|refine xS ?_|refine xD ?_|refine vD rfl ?_|refine zX rfl ?_|refine zQ rfl ?_|refine xK rfl (λhc=>?_) (λhc=>?_)|refine yY ?_|refine yU ?_|refine xE ?_|refine yT ?_))
  exact zL [1001] rfl rfl rfl rfl
theorem PP (l:List (List Int)) (hl:l.length<=1073741824):zN 153 [zD kH l] [] (.ref 1002 0 (l.map kH).length) [(1002,.arr 1 (l.map kH) false)]:=by
 have hll:=zA kH l;refine eM call153 λF hF=>?_
 refine xA 0 rfl (λcap hx=>?_) ?_
 ·have:l=[]:=by simpa using hx
  subst this
  (repeat' (first|refine WZN ?_|refine xO (λhc=>?_) (λhc=>?_)|refine wB (λhc=>?_)|fail))
  refine uM 2 1002 1 rfl rfl rfl (yU ?_);exact zL [1002] rfl rfl rfl rfl
 ·repeat' (first|(refine zE ?_;first|refine vN tok rfl rfl ?_|(refine wW ?_;refine xI (yX tok (.inl ⟨rfl,rfl⟩) rfl rfl rfl rfl) rfl ?_)|(refine yS ?_;refine uN (nw:=[1002]) (yL tok 1002 (xs:=[]) rfl rfl rfl rfl rfl rfl rfl rfl rfl) rfl rfl rfl ?_)|(refine yV ?_;refine wO tok rfl rfl rfl rfl rfl rfl rfl (xT _ _ (λ_=>rfl)) rfl rfl rfl zB rfl ?_)|refine qF ?_)|(first|refine xS ?_|refine xD ?_|refine vD rfl ?_|refine zX rfl ?_|refine zQ rfl ?_|refine xK rfl (λhc=>?_) (λhc=>?_)|refine yY ?_|refine yU ?_|refine xE ?_|refine yT ?_))
  exact zL [1002] rfl rfl rfl rfl
theorem EQ (l:List Bool) (hl:l.length<=1073741824):zN 154 [zD bA l] [] (zD bA l) []:=by
 have hll:=zA bA l;refine eM call154 λF hF=>?_
 refine xA 0 rfl (λcap hx=>?_) ?_
 ·have:l=[]:=by simpa using hx
  subst this;refine WW ?_;exact zJ
 ·(refine WW ?_)
  refine zI [] rfl rfl (bM _ _) rfl
theorem cS (d:xQ) (hb:eE d):zN 102 [zK d] [] (zK d) []:=by
 have k1:=JT d.rg hb.rg;have hq:=hb.q;have hdn:=hb.n;have hau:=hb.a;have k2:=XY d.rq zB;have k3:=PP d.dr zB;have k4:=EQ d.au zB;have hlq:=zA yK d.rq;have hld:=zA kH d.dr;unfold zK wI;unfold uX at k1;refine eM call102 λF hF=>?_
 refine yQ (wZ k1 k2) ?_;refine zP ((d.rq.map yK).length) [1001,1,2] [1,2] [1,2,15] [16,1,2,15] rfl (λi T U=>⟨(16,iA i)::T,(1001,.arr 5 (kY i (d.rq.map yK)) false)::U⟩) ?_;(conv=>whnf);refine⟨by rfl,?_,?_⟩
 ·intro i hi;have hi':i<d.rq.length:=by omega
  have hy:(kY i (d.rq.map yK))[i]? =some (yK (d.rq.getD i default)):=zM yK d.rq i hi';have e:=kO yK d.rq i hi';have c2:=cU (d.rq.getD i default).legs (hb.g (d.rq.getD i default) aI);generalize (d.rq.getD i default)=t at *;generalize kY i (d.rq.map yK)=xs at *;generalize kY (i+1) (d.rq.map yK)=ys at *;subst e;refine zU c2 ?_;rfl
 ·(refine zU k3 ?_)
  refine zP ((d.dr.map kH).length) [1002,1,2,1001] [1,2,1001] [1,2,38] [39,1,2,38] rfl (λi T U=>⟨(39,iA i)::T,(1002,.arr 1 (kY i (d.dr.map kH)) false)::U⟩) ?_;(conv=>whnf);refine⟨by rfl,?_,?_⟩
  ·intro i hi;have hi':i<d.dr.length:=by omega
   have hy:(kY i (d.dr.map kH))[i]? =some (kH (d.dr.getD i default)):=zM kH d.dr i hi';have e:=kO kH d.dr i hi';have c2:=vB (d.dr.getD i default) (by have:=hb.e (d.dr.getD i default) aI;omega);generalize (d.dr.getD i default)=t at *;generalize kY i (d.dr.map kH)=xs at *;generalize kY (i+1) (d.dr.map kH)=ys at *;subst e;refine zU c2 ?_;rfl
  ·(refine zU k4 ?_)
   refine zI [] rfl rfl ?_ rfl
   show wI d.rg (.sl false ((d.rq.map yK).take (d.rq.map yK).length)) (.sl false ((d.dr.map kH).take (d.dr.map kH).length)) (zD bA d.au)=_
   rw[zX7,zX7];rfl
theorem jJ (d:xQ) (hb:eE d):yR [zK d] [] (zK d) []:=yG
def zIt (t:Tk):Bool:=decide ((t.sec.length:Int)=8/\0<=t.cls/\t.cls<=3/\0<=t.til/\t.til<=2147483648)
def soF (t:Tk):Bool:=BJ t.rights&&zIt t
theorem JU (t:Tk):zN 297 [xB t] [] (bA (soF t)) []:=by
 have c:=YE t.rights;have hl:=zA yA t.sec;unfold soF;generalize BJ t.rights=v at *;cases v
 ·rw[zZw];refine eM call297 λF hF=>?_
  refine zU c (I2 (λhc=>?_) (λhc=>?_))
  all_goals exact zJ
 ·rw[zYp]
  (cases hb:zIt t with|false=>((refine eM call297 λF hF=>?_);((refine zU c (I5 (λhc hc hc hc=>?_) (λhc hc hc hc=>?_) (λhc hc hc=>?_) (λhc hc=>?_) (λhc=>?_))));all_goals (first|exact zJ|(simp only[zIt,zYn]at hb;first|exact zXO|exact BK)))|true=>(simp only[zIt,zX9]at hb;(refine eM call297 λF hF=>?_);((refine zU c ?_));all_goals (first|exact zJ|exact zXO|exact BK)))
def ER (t:Tk):Bool:=decide ((t.sec.length:Int)=0/\t.par= -1/\t.rights=0/\t.cls=0/\t.til=0)
def NU (u:Bool) (t:Tk):AV:= .agg [bA u,zD yA t.sec,iA t.par,iA t.rights,iA t.cls,iA t.til]
theorem zIu (t:Tk):zN 298 [NU false t] [] (bA (ER t)) []:=by
 have hl:=zA yA t.sec
 (cases hb:ER t with|false=>((refine eM call298 λF hF=>?_);((refine WW (I5 (λhc hc hc hc=>?_) (λhc hc hc hc=>?_) (λhc hc hc=>?_) (λhc hc=>?_) (λhc=>?_))));all_goals (first|exact zJ|(simp only[ER,zYn]at hb;first|exact zXO|exact BK)))|true=>(simp only[ER,zX9]at hb;(refine eM call298 λF hF=>?_);((refine WW ?_));all_goals (first|exact zJ|exact zXO|exact BK)))
def PQ (l:List Tk) (s:Int):Bool:=if(l.getD s.toNat default).used=true then soF (l.getD s.toNat default)&&deF l s 0&&(wiF (l.getD s.toNat default).rights (l.getD (l.getD s.toNat default).par.toNat default).rights&&decide ((l.getD s.toNat default).cls<=(l.getD (l.getD s.toNat default).par.toNat default).cls)&& !laF (l.getD s.toNat default).til (l.getD (l.getD s.toNat default).par.toNat default).til)
 else ER (l.getD s.toNat default)
def LH (t:Tk):Bool:=t.used&&decide (t.par= -1/\t.til=0)&&soF t
def ME (l:List Tk):Bool:=decide ((l.length:Int)=8)&&(LH (l.getD 0 default)&&(List.range 7).all λi=>PQ l ((i:Int)+1))
theorem zS9 {l:List Tk} {i:Nat} (hi:i<7) (h:PQ l ((i:Int)+1)=false):ME l=false:=by
 unfold ME;have:((List.range 7).all λi=>PQ l ((i:Int)+1))=false:=yAw.2 ⟨i,zYr.2 hi,by simp[h]⟩;rw[this];simp
theorem zN4 {l:List Tk} {s:Int} (h:deF l s 0=true) (h0:s≠0):fT l (l.getD s.toNat default).par=true:=by
 unfold deF at h;rw[jC l 7 s]at h
 cases hu:fT l s<;>rw[hu]at h
 ·simp at h
 ·rw[zZc,List.any_cons]at h;have:(s==0)=false:=by simpa using h0
  rw[this,yBa,jC l 6]at h;cases hp:fT l (l.getD s.toNat default).par
  ·rw[hp]at h;simp at h
  ·rfl
theorem VM (l:List Tk):zN 280 [zD xB l] [] (bA (ME l)) []:=by
 have hll:=zA xB l;by_cases h8:(l.length:Int)=8
 case neg=>
  rw[show ME l=false by unfold ME;rw[zYa h8];rfl];refine eM call280 λF hF=>?_
  refine WW ?_;exact zJ
 have hy0:=yM xB l 0 zB zB
 change (l.map xB)[0]? =some (xB (l.getD 0 default))at hy0
 cases hr:LH (l.getD 0 default)
 ·rw [show ME l=false by unfold ME;rw[hr];simp];have c:=JU (l.getD 0 default);unfold LH at hr;generalize l.getD 0 default=t at *;generalize soF t=q at *;cases hu:t.used
  ·rw[show xB t=NU false t by unfold xB NU;rw[hu]]at *; unfold NU at *;refine eM call280 λF hF=>?_
   refine zU c ?_;exact zJ
  ·rw[show xB t=NU true t by unfold xB NU;rw[hu]]at *; unfold NU at *;by_cases h1:t.par= -1
   ·by_cases h2:t.til=0
    ·rw[hu,zX8 ⟨h1,h2⟩,zYp,zYp]at hr;subst hr;refine eM call280 λF hF=>?_
     refine zU c ?_;exact zJ
    ·(refine eM call280 λF hF=>?_)
     refine zU c ?_;exact zJ
   ·(refine eM call280 λF hF=>?_)
    refine zU c ?_;exact zJ
 have c0:=JU (l.getD 0 default);have hr':=hr;unfold LH at hr';simp only[zYh,zX9]at hr';obtain⟨⟨hu,h1,h2⟩,h3⟩:=hr';have hy0':=hy0;rw[h3]at c0;rw[show xB (l.getD 0 default)=NU true (l.getD 0 default) by unfold xB NU;rw[hu]]at hy0' c0;unfold NU at hy0' c0;clear hy0;generalize ht0:l.getD 0 default=t0 at hy0' c0 h1 h2;refine eM call280 λF hF=>?_
 refine zU c0 ?_;refine xV (7) [] [] [0] [4,0] rfl (λi T U zs=>(∀s:Nat,s<i->PQ l ((s:Int)+1)=true)/\zs=⟨(4,iA ((i:Int)+1))::T,U⟩) ?_;(conv=>whnf);refine⟨?_,?_,?_⟩
 ·exact⟨λs hs=>absurd hs (yAi _),rfl⟩
 ·rintro i st hi ⟨hp,rfl⟩
  have next:PQ l ((i:Int)+1)=true->∀s:Nat,s<i+1->PQ l ((s:Int)+1)=true:=λh s hs=>by
   by_cases hsi:s=i
   ·subst hsi;exact h
   ·exact hp s zB
  have stop:=λh=>zS9 (l:=l) hi h
  have hy:=yM xB l ((i:Int)+1) zB zB;have c1:=JU (l.getD ((i:Int)+1).toNat default);have c2:=zIu (l.getD ((i:Int)+1).toNat default);have c3:=zJg l ((i:Int)+1) 0;have hpar:=zN4 (l:=l) (s:=(i:Int)+1);have htok:PQ l ((i:Int)+1)=_:=rfl
  conv at htok=>rhs;unfold PQ
  generalize l.getD ((i:Int)+1).toNat default=t at *;generalize PQ l ((i:Int)+1)=tk at *;cases hu:t.used
  ·rw[show xB t=NU false t by unfold xB NU;rw[hu]]at hy;rw[hu,zX0 zS]at htok;rw[<-htok]at c2;unfold NU at hy c2;cases tk
   ·rw[stop rfl];refine zU c2 ?_;exact zJ
   ·(refine zU c2 ?_)
    exact⟨next rfl,by rw[Int.natCast_succ];rfl⟩
  ·rw[show xB t=NU true t by unfold xB NU;rw[hu]]at hy c1;rw[hu,zX1 rfl]at htok;unfold NU at hy c1;generalize soF t=q1 at *;generalize hq2:deF l ((i:Int)+1) 0=q2 at *;cases q1
   ·rw[zZw,zZw]at htok;rw[stop htok];refine zU c1 ?_;exact zJ
   cases q2
   ·rw[zYp,zZw]at htok;rw[stop htok];refine yQ (wZ c1 c3) ?_;exact zJ
   rw[zYp,zYp]at htok;obtain⟨p0,p1⟩:=WA (hpar rfl zB);have hyp:=yM xB l t.par p0 p1;generalize l.getD t.par.toNat default=p at *;have c4:=DD t.rights p.rights;have c5:=zCi t.til p.til;generalize wiF t.rights p.rights=q3 at *;generalize laF t.til p.til=q4 at *;cases q3
   ·rw[zZw,zZw]at htok;rw[stop htok];refine yQ (fB c1 c3 c4) ?_;exact zJ
   by_cases hcl:t.cls<=p.cls
   ·rw[zX8 hcl,zYp,zYp]at htok;cases q4
    ·(refine yQ (aB c1 c3 c4 c5) ?_)
     exact⟨next htok,by rw[Int.natCast_succ];rfl⟩
    ·rw[stop htok];refine yQ (aB c1 c3 c4 c5) ?_;exact zJ
   ·rw[zYa hcl,zYp,zZw]at htok;rw[stop htok];refine yQ (aB c1 c3 c4 c5) ?_;exact zJ
 ·rintro st ⟨hp,rfl⟩
  rw[show ME l=true by
   unfold ME;rw[zX8 h8,hr,zYp,zYp]
   exact zYf.2 λi hi=>hp i (zYr.1 hi)]
  refine WW ?_;exact zJ
def ldF (l:List Tk):Nat->Int->Int->Bool
 |0,_,_=>false
 |n+1,f,t=>fT l f&&(f==t||ldF l n (l.getD f.toNat default).par t)
theorem zIv (l:List Tk) (n:Nat) (f t:Int):ldF l (n+1) f t=(fT l f&&(f==t||ldF l n (l.getD f.toNat default).par t)):=rfl
theorem zIw (l:List Tk) (t:Int):∀(n:Nat) (f:Int),ldF l n f t=(YZ l n f).any λa=>a==t
 |0,_=>rfl
 |n+1,f=>by
  rw[zIv,jC];cases fT l f
  ·rfl
  ·rw[zZc,List.any_cons,zIw l t n,zYp]
def SA (l:List Tk) (s:Nat):Bool:=if(l.getD s default).used=true then soF (l.getD s default)&&ldF l (l.length+1) s 0&&(decide (s=0)||(wiF (l.getD s default).rights (l.getD (l.getD s default).par.toNat default).rights&&decide ((l.getD s default).cls<=(l.getD (l.getD s default).par.toNat default).cls)&& !laF (l.getD s default).til (l.getD (l.getD s default).par.toNat default).til))
 else ER (l.getD s default)
def PR (t:Tk):Bool:=t.used&&decide (t.par= -1/\t.til=0)
def zIx (l:List Tk):Bool:=decide ((l.length:Int)=8)&&(PR (l.getD 0 default)&&(List.range l.length).all λi=>SA l i)
theorem LI (l:List Tk):yR [zD xB l] [] (bA (zIx l)) []:=yG
theorem zN5 (l:List Tk) (s:Int) (hn:l.length=8):yR [zD xB l,iA s] [] (iA (gB (λi=>ldF l (l.length+1) i s) 8)) []:=yG
def frB (p:Nat->Bool) (l:List Tk) (n:Nat):List Tk:=(List.range l.length).map λj=>if j<n/\p j=true then frT else l.getD j default
theorem zN6 (l:List Tk) (hb:GL l) (p:Nat->Bool) (hn:l.length=8):yR [zD xB l,iA (gB p 8)] [] (zD xB (frB p l 8)) []:=yG
theorem zIy:∀(n:Nat) (f:Nat->Nat),(∀i,i<=n->f i<n)->∃i j,i<j/\j<=n/\f i=f j
 |0,f,h=>absurd (h 0 (zX6 _)) (yAi _)
 | n+1,f,h=>by
  by_cases hx:∃i,i<=n/\f i=f (n+1)
  ·obtain⟨i,h1,h2⟩:=hx;exact⟨i,n+1,zB,zX6 _,h2⟩
  ·obtain⟨i,j,h1,h2,h3⟩:=zIy n (λi=>if f i<f (n+1)then f i else f i-1) λi hi=>by
    have h4:=h i zB;have h5:=h (n+1) (zX6 _);have h6:f i≠f (n+1):=λe=>hx ⟨i,hi,e⟩
    split<;>omega
   refine⟨i,j,h1,zB,?_⟩;have h4:f i≠f (n+1):=λe=>hx ⟨i,zB,e⟩
   have h5:f j≠f (n+1):=λe=>hx ⟨j,h2,e⟩
   split at h3<;>split at h3<;>omega
def par (l:List Tk) (s:Int):Int:=(l.getD s.toNat default).par
def ES (l:List Tk) (s:Int):Nat->Int
 |0=>s
 |k+1=>par l (ES l s k)
theorem ZA (l:List Tk) (s:Int):∀k,ES l s (k+1)=ES l (par l s) k
 |0=>rfl
 |k+1=>by rw[ES,ZA l s k];rfl
theorem JW (l:List Tk) (s:Int) (i:Nat):∀k,ES l s (i+k)=ES l (ES l s i) k
 |0=>rfl
 |k+1=>by rw[<-yCw,ES,JW l s i k];rfl
theorem bI (l:List Tk) (t:Int):∀(n:Nat) (s:Int),t∈YZ l n s↔∃k,k<n/\(∀j,j<=k->fT l (ES l s j)=true)/\ES l s k=t
 |0,s=>by simp[YZ]
 | n +1,s=>by
  rw[jC];constructor
  ·intro h;cases hu:fT l s
   ·rw[hu]at h;simp at h
   ·rw[hu,zZc,zZi]at h
    rcases h with rfl|h
    ·exact⟨0,zB,λj hj=>by rw[Nat.le_zero.1 hj];exact hu,rfl⟩
    ·obtain⟨k,h1,h2,h3⟩:=(bI l t n _).1 h;refine⟨k+1,zB,λj hj=>?_,by rw[ZA];exact h3⟩
     cases j with
     |zero=>exact hu
     |succ j=>rw[ZA];exact h2 j zB
  ·rintro⟨k,h1,h2,h3⟩;have hu:=h2 0 (zYe _)
   change fT l s=true at hu
   rw[hu,zZc,zZi]
   cases k with
   |zero=>exact .inl h3.symm
   |succ k=>
    rw[ZA]at h3;refine .inr ((bI l t n _).2 ⟨k,zB,λj hj=>?_,h3⟩);have:=h2 (j+1) zB;rw[ZA]at this;exact this
theorem zQo {l:List Tk} (h8:l.length=8) (s t:Int) (n:Nat) (h:t∈YZ l n s):t∈YZ l 8 s:=by
 obtain⟨k,_,h2,h3⟩:=(bI l t n s).1 h;clear h
 suffices ∀m k,k<=m->(∀j,j<=k->fT l (ES l s j)=true)->ES l s k=t->t∈YZ l 8 s from this k k (zX6 _) h2 h3
 intro m
 induction m with
 |zero=>intro k hk h2 h3;exact(bI l t 8 s).2 ⟨k,zB,h2,h3⟩
 | succ m ih=>
  intro k hk h2 h3;by_cases h:k<8
  ·exact(bI l t 8 s).2 ⟨k,h,h2,h3⟩
  obtain⟨i,j,h4,h5,h6⟩:=zIy 8 (λi=>(ES l s i).toNat) λi hi=>by
   have:=WA (h2 i zB);omega
  have e1:=WA (h2 i zB);have e2:=WA (h2 j zB);have e3:ES l s i=ES l s j:=by omega
  have e4:∀r,ES l s (i+r)=ES l s (j+r):=λr=>by rw[JW,JW,e3]
  refine ih (i+(k-j)) zB (λr hr=>h2 r zB) ?_;rw[e4,show j+(k-j)=k by omega];exact h3
theorem zIz (l:List Tk) {t s:Int} {n m:Nat} (hnm:n<=m) (h:t∈YZ l n s):t∈YZ l m s:=by
 obtain⟨k,h1,h2,h3⟩:=(bI l t n s).1 h;exact(bI l t m s).2 ⟨k,zB,h2,h3⟩
inductive Rch (l:List Tk):Int->Int->Prop
 |base (s:Int):fT l s=true->Rch l s s
 |step (s t:Int):fT l s=true->Rch l (par l s) t->Rch l s t
theorem AT (l:List Tk) (t:Int):∀(n:Nat) (s:Int),t∈YZ l n s->Rch l s t
 |0,s,h=>by simp[YZ]at h
 | n+1,s,h=>by
  rw[jC]at h;cases hu:fT l s
  ·rw[hu]at h;simp at h
  ·rw[hu,zZc,zZi]at h
   rcases h with rfl|h
   ·exact .base _ hu
   ·exact .step _ _ hu (AT l t n _ h)
theorem zB9 {l:List Tk} {s t:Int} (h:Rch l s t):∃n,t∈YZ l n s:=by
 induction h with
 |base s hu=>exact⟨1,by rw[jC,hu,zZc];exact List.mem_cons_self⟩
 |step s t hu _ ih=>
  obtain⟨n,hn⟩:=ih;exact⟨n+1,by rw[jC,hu,zZc];exact List.mem_cons_of_mem _ hn⟩
theorem JX {l:List Tk} (h8:l.length=8) (s t:Int):ldF l 9 s t=true↔Rch l s t:=by
 rw[zIw,zZp];constructor
 ·rintro⟨x,h1,h2⟩;rw[zZg]at h2;subst h2;exact AT l _ _ _ h1
 ·intro h;obtain⟨n,hn⟩:=zB9 h;exact⟨t,zIz l zB (zQo h8 s t n hn),by simp⟩
theorem zTa {l:List Tk} (h8:l.length=8) (s t:Int):deF l s t=true↔Rch l s t:=by
 unfold deF;rw[zZp];constructor
 ·rintro⟨x,h1,h2⟩;rw[zZg]at h2;subst h2;exact AT l _ _ _ h1
 ·intro h;obtain⟨n,hn⟩:=zB9 h;exact⟨t,zQo h8 s t n hn,by simp⟩
theorem zQp {l:List Tk} (h8:l.length=8) (s t:Int):deF l s t=ldF l 9 s t:=by
 rw[yCl,zTa h8,JX h8]
theorem zI0 (l:List Tk):ME l=zIx l:=by
 unfold ME zIx;by_cases h8:l.length=8
 case neg=>rw[zYa zB];rfl
 rw[zX8 zB,zYp,zYp,h8,yCl];simp only[zYh,zYf,zYr]
 have hs:∀i:Nat,i<7->(PQ l ((i:Int)+1)=SA l (i+1)):=λi hi=>by
  unfold PQ SA;rw[zQp h8,h8,show(((i+1:Nat):Int)=(i:Int)+1) by omega,show((i:Int)+1).toNat=i+1 by omega,zYa (by omega:¬i+1=0),yBa]
 constructor
 ·rintro⟨h1,h2⟩;unfold LH at h1;simp only[zYh,zX9]at h1;obtain⟨⟨u,p,q⟩,r⟩:=h1;refine⟨by unfold PR;rw[u,p,q];rfl,λi hi=>?_⟩
  cases i with
  |zero=>
   unfold SA;rw[zX1 u,r,h8];have:ldF l 9 ((0:Nat):Int) 0=true:=(JX h8 _ _).2 (.base _ (by unfold fT;rw[zX8 zB];exact u));rw[show(8+1)=9 from rfl,this];rfl
  |succ i=>rw[<-hs i zB];exact h2 i zB
 ·rintro⟨h1,h2⟩;have h3:=h2 0 zB;unfold PR at h1;simp only[zYh,zX9]at h1;obtain⟨u,p,q⟩:=h1;unfold SA at h3;rw[zX1 u]at h3;simp only[zYh]at h3;refine⟨by unfold LH;rw[u,p,q,h3.1.1];rfl,λi hi=>by rw[hs i hi];exact h2 (i+1) zB⟩
structure TV (l:List Tk):Prop where
 n:l.length=8
 u:(l.getD 0 default).used=true
 p:(l.getD 0 default).par= -1
 e:(l.getD 0 default).til=0
 f:∀i,i<8->(l.getD i default).used=false->ER (l.getD i default)=true
 s:∀i,i<8->(l.getD i default).used=true->soF (l.getD i default)=true/\Rch l i 0/\(i≠0->wiF (l.getD i default).rights (l.getD (l.getD i default).par.toNat default).rights=true/\(l.getD i default).cls<=(l.getD (l.getD i default).par.toNat default).cls/\laF (l.getD i default).til (l.getD (l.getD i default).par.toNat default).til=false)
theorem zTb (l:List Tk):zIx l=true↔TV l:=by
 unfold zIx;simp only[zYh,zX9,zYf,zYr];constructor
 ·rintro⟨h8,h1,h2⟩;have h8:l.length=8:=by omega
  unfold PR at h1;simp only[zYh,zX9]at h1;refine⟨h8,h1.1,h1.2.1,h1.2.2,λi hi hu=>?_,λi hi hu=>?_⟩
  ·have:=h2 i zB;unfold SA at this;rw[zX0 (by rw[hu];simp)]at this;exact this
  ·have:=h2 i zB;unfold SA at this;rw[zX1 hu,h8]at this;simp only[zYh,zZ6,zX9,yAb]at this;obtain⟨⟨a,b⟩,c⟩:=this;refine⟨a,(JX h8 _ _).1 b,λh0=>?_⟩
   rcases c with c|c
   ·exact absurd c h0
   ·exact⟨c.1.1,c.1.2,c.2⟩
 ·rintro⟨h8,u,p,e,f,s⟩;refine⟨zB,by unfold PR;rw[u,p,e];rfl,λi hi=>?_⟩;unfold SA;cases hu:(l.getD i default).used
  ·rw[zX0 zS];exact f i zB hu
  ·rw[zX1 rfl,h8];obtain⟨a,b,c⟩:=s i zB hu;simp only[zYh,zZ6,zX9,yAb];refine⟨⟨a,(JX h8 _ _).2 b⟩,?_⟩;by_cases h0:i=0
   ·exact .inl h0
   ·have c:=c h0;exact .inr ⟨⟨c.1,c.2.1⟩,c.2.2⟩
theorem Rch.us {l:List Tk} {s t:Int} (h:Rch l s t):fT l s=true:=by
 cases h<;>assumption
theorem Rch.trans {l:List Tk} {s t u:Int} (h:Rch l s t) (g:Rch l t u):Rch l s u:=by
 induction h with
 |base _ _=>exact g
 |step s t hu _ ih=>exact .step _ _ hu (ih g)
def jT (n a b:Int):Bool:=decide (a<=n/\n<=b)
theorem vV (n a b:Int):zN 141 [iA n,iA a,iA b] [] (bA (jT n a b)) []:=by
 (cases hb:jT n a b with|false=>((refine eM call141 λF hF=>?_);((refine WW (I2 (λhc=>?_) (λhc=>?_))));all_goals (first|exact zJ|(simp only[jT,zYn]at hb;first|exact zXO|exact BK)))|true=>(simp only[jT,zX9]at hb;(refine eM call141 λF hF=>?_);((refine WW ?_));all_goals (first|exact zJ|exact zXO|exact BK)))
structure AgV (a:Ag):Prop where
 s:(a.sec.length:Int)=8
 l:(a.lim.length:Int)=4
 li:∀n∈a.lim,0<=n/\n<=8
 r:0<=a.rights/\a.rights<=63
 c:0<=a.cls/\a.cls<=3
 q:0<=a.req/\a.req<=4
 e:1<=a.ses/\a.ses<=2
 b:0<=a.burst/\a.burst<=1000
 t:0<=a.rate/\a.rate<=a.burst
theorem zQq {n a b:Int} (h:a<=n/\n<=b):jT n a b=true:=zX8 h
theorem zD4 (a:Ag) (h:AgV a):zN 143 [vC a] [] (bA true) []:=by
 obtain⟨h1,h2,h3,h4,h5,h6,h7,h8,h9⟩:=h;have hs:=zA yA a.sec;have hl:=zA iA a.lim;have c1:=vV a.rights 0 63;have c2:=vV a.cls 0 3;have c3:=vV a.req 0 4;have c4:=vV a.ses 1 2;have c5:=vV a.burst 0 1000;have c6:=vV a.rate 0 a.burst;rw[zQq zB]at c1 c2 c3 c4 c5 c6;refine eM call143 λF hF=>?_
 refine WW ?_;refine zY (a.lim) [1] [1] [1,16,17] [18,1,16,17] rfl (λi pre T U=>⟨(18,iA i)::T,U⟩) ?_;(conv=>whnf);refine⟨by rfl,?_,?_⟩
 ·intro i pre x post hx hi;have hy:=yI iA hx hi;have hlt:=yB hx hi;have hm:=h3 x (xX hx);have c:=vV x 0 8;rw[zQq zB]at c;clear hx;refine zU c ?_;rfl
 ·(refine yQ (zt6 c1 c2 c3 c4 c5 c6) ?_)
  exact zJ
def a0:Ag:=⟨dS 1,1,0,[1,1,1,1],0,1,0,2⟩
theorem jB (n:Int):(dS n).length=8:=by simp[dS]
theorem zN7 (n:Int):0<=IntKind.u8.wrap n/\IntKind.u8.wrap n<256:=by
 have:IntKind.u8.wrap n=n % 256:=rfl;omega
theorem YA (n:Int):BY (dS n):=λx hx=>by
 unfold dS at hx;rw[zZj]at hx;obtain⟨i,_,rfl⟩:=hx;exact zN7 _
theorem JY {g s:Int} {l:List Int} (hg:0<=g/\g<256) (hs:0<=s/\s<256) (hl:BY l):BY (g::s::l):=λx hx=>by
 simp only[zZi]at hx
 rcases hx with rfl|rfl|hx
 ·exact hg
 ·exact hs
 ·exact hl x hx
theorem zWi (n:Int) (a:Ag) (h:AgV a):GM (EW n a):=by
 have h1:=h.s;have h2:=h.l;refine⟨⟨by simp[EW,tkN],λt ht=>?_⟩,by unfold EW;dsimp only;omega,by unfold EW;dsimp only;omega,by simp[EW]⟩;simp only[EW,tkN,zZi]at ht
 rcases ht with rfl|ht
 ·dsimp only;omega
 ·rw[List.eq_of_mem_replicate ht];simp[frT]
section
open Go.RowKit
def LIn (k:IntKind) (w:World) (A:Option Addr) (n c:Nat) (xs:List Int):Prop:=
 xs.length=n/\n<=c/\c<=9223372036854775807/\(0<n->∃b o,A=some ⟨b,o,none⟩/\b<w.heap.size/\∀j,j<n->w.cell? ⟨b,o+j,none⟩=some (.int k (xs.getD j 0)))
theorem LIn.of_row {k:IntKind} {w:World} {a:Option Addr} {len cap:Nat} {zs:List Int}
  (h:(a=none/\len=0/\cap=0/\zs=[])∨∃x,a=some x/\len<=cap/\cap<=maxLen/\zs.length=cap/\(∀i,i<zs.length->w.cell? (x.add i)=some (.int k (zs.getD i 0)))/\∀n∈zs,(Lit.int k n).wf=true):
  LIn k w a len cap (zs.take len):=by
 rcases h with⟨rfl,rfl,rfl,rfl⟩|⟨x,rfl,h1,h2,h3,h4,_⟩
 ·exact⟨rfl,zX6 _,zB,λh=>absurd h zB⟩
 ·refine⟨by simp;omega,h1,by unfold maxLen at h2;omega,λhn=>?_⟩;obtain⟨b,off,spot⟩:=x;have hc:=h4 0 zB;have hspot:spot=none:=by simpa [Addr.add]using World.cell?_spot hc
  subst hspot;have hc0:w.cell? ⟨b,off,none⟩=some (.int k (zs.getD 0 0)):=by simpa [Addr.add]using hc
  refine⟨b,off,rfl,World.block_lt_of_cell? w _ hc0,λj hj=>?_⟩;have hcj:=h4 j zB
  have e:(⟨b,off,none⟩:Addr).add j=⟨b,off+j,none⟩:=by unfold Addr.add;split<;>simp_all
  rw[e]at hcj;rw[hcj];have hjz:j<zs.length:=by omega
  simp[List.getD,hj,hjz]
theorem LIn.repf {k:IntKind} {w:World} {A:Option Addr} {n c:Nat} {xs:List Int} (h:LIn k w A n c xs) {D:Nat->Prop} (hD:∀b,¬D b):xG w D (.sl false (xs.map λn=> .s (.int k n))) (.slice A n c):=by
 obtain⟨rfl,h2,h3,h4⟩:=h
 cases hx:xs with
 |nil=>exact .nil A c
 | cons x r=>
  rw[<-hx];obtain⟨b,o,rfl,hb,hc⟩:=h4 OX
  have:=xG.sl (w:=w) (D:=D) false (xs.map λn=>AV.s (.int k n)) b o 1 c (λi _=> .int k (xs.getD i 0)) OX
   ⟨hb,hD b,zX6 _,by simp[cI];omega,λi y hy=>by
    rw[zX4,zYg]at hy;obtain⟨z,_,rfl⟩:=hy
    rfl,λi j hi hj=>by
    obtain rfl:j=0:=by omega
    rw[Nat.mul_one,yAr]
    exact hc i OZ,λ_ _ _ _=>rfl⟩ NA (λi y j v hy hv=>by
    rw[zX4,zYg]at hy;obtain⟨z,hz,rfl⟩:=hy
    cases j with
    |zero=>
     simp[AV.cells]at hv;subst hv;have:xs.getD i 0=z:=by simp[List.getD,hz]
     rw[this];exact .s _
    |succ j=>simp[AV.cells]at hv)
  simpa using this
theorem xP.law {P:Program} {f:Nat} {args:List AV} (h:xP P f args [] (.s (.bool true)) []) {cargs:Array Value} {w:World} (hl:cargs.size=args.length)
  (hr:∀(i:Nat) v,args[i]? =some v->xG w (xH (λ_=>False) λ_=>[]) v (cargs.getD i undef)):Calls P f cargs w λe w'=>e= .returned (.bool true)/\Below w.heap.size w w':=by
 have H:kQ (λ_=>False) (zC []) (λ_=>[]) w:=⟨λk e he=>by simp[zC]at he,λ_ _=>rfl,λk k' b n n' h1 _=>by simp at h1,λk b n h1=>by simp at h1,λb hd=>by
  rcases hd with hd|⟨_,_,hd⟩
  ·exact hd.elim
  ·simp at hd⟩
 refine Calls.mono (h.sim (λ_=>False) w (λ_=>[]) cargs hl H λi v hv=> .fz _ _ (hr i v hv)) ?_;rintro e w' ⟨c,β',rfl,G,hc⟩;have:c= .bool true:=hc.s_inv;subst this;exact⟨rfl,G.os,G.tape,G.output,G.size,λk hk=>G.keep k hk λ_ _ hm=>by simp at hm⟩
theorem dom0:∀b,¬xH (λ_=>False) (λ_=>[]) b:=λb hd=>by
 rcases hd with hd|⟨_,_,hd⟩
 ·exact hd
 ·simp at hd
def ZB (w:World):List AV->List Value->Prop
 | [],[]=>True
 |a::r,c::s=>xG w (xH (λ_=>False) λ_=>[]) a c/\ZB w r s
 |_,_=>False
theorem ZB.len {w:World}:∀{l:List AV} {s:List Value},ZB w l s->s.length=l.length
 | [],[],_=>rfl
 |_::_,_::_,h=>by simp[ZB.len h.2]
 | [],_::_,h=>h.elim
 |_::_,[],h=>h.elim
theorem ZB.at {w:World}:∀{l:List AV} {s:List Value},ZB w l s->∀(i:Nat) v,l[i]? =some v->xG w (xH (λ_=>False) λ_=>[]) v (s.getD i undef)
 | [],[],_,i,v,hv=>by simp at hv
 |a::_,c::_,h,0,v,hv=>by simp at hv;subst hv;exact h.1
 |_::_,_::_,h,i+1,v,hv=>by simpa using ZB.at h.2 i v CG
 | [],_::_,h,_,_,_=>h.elim
 |_::_,[],h,_,_,_=>h.elim
theorem xP.lawL {P:Program} {f:Nat} {args:List AV} (h:xP P f args [] (.s (.bool true)) []) {cs:List Value} {w:World} (hr:ZB w args cs):Calls P f cs.toArray w λe w'=>e= .returned (.bool true)/\Below w.heap.size w w':=
 h.law (by simpa using hr.len) λi v hv=>by simpa [zYy,List.getD]using hr.at i v hv
theorem LIn.le {k:IntKind} {w:World} {A:Option Addr} {n c:Nat} {xs:List Int} (h:LIn k w A n c xs):xs.length<=9223372036854775807:=by
 obtain⟨h1,h2,h3,_⟩:=h;omega
end
def rem (d:Dk):Nat:=d.l.length-d.a
theorem wM (d:Dk):rem (ad d)<=rem d:=by unfold ad;split;(unfold rem;dsimp only;omega);exact zX6 _
theorem zI1 (d:Dk) (h:d.a<d.l.length):rem (ad d)+1<=rem d:=by unfold ad;rw[yDu h];unfold rem;dsimp only;omega
theorem zCa (l:List Int) (hl:l.length<=9223372036854775807):zN 9 [zD iA l] [] (bA (decide (l.length<=300))) []:=by
 have hll:=zA iA l;by_cases h:l.length<=300
 ·rw[zX8 h];refine eM call9 λF hF=>?_
  refine WW ?_;exact zJ
 ·rw[zYa h];refine eM call9 λF hF=>?_
  refine WW ?_;exact zJ
theorem AU (d:Dk):zN 21 [.ptr 1000 0 0] [(1000,dU d)] (bA (decide (d.a<d.l.length))) [(1000,dU d)]:=by
 have hl:(d.l.map iA).length=d.l.length:=by simp
 refine eM call21 λF hF=>?_
 (repeat' (first|refine YF ?_|refine xO (λhc=>?_) (λhc=>?_)|fail))
 refine zL [1000] rfl rfl (zY0 bA ?_) rfl;simp[kE]
structure TkP (l:List Tk):Prop where
 n:l.length=8
 y:∀t∈l,BY t.sec/\t.sec.length<=8/\(t.used=true->t.sec.length=8/\BJ t.rights=true/\0<=t.til/\t.til<=2147483648)
 v:TV l
theorem TkP.b {l:List Tk} (h:TkP l):GL l:=⟨by have:=h.n;omega,λt ht=>by have:=(h.y t ht).2.1;omega⟩
def cT (l:List Vh) (id:Int):Vh:=(l.find? λv=>v.id==id).getD ⟨0,0⟩
def TB (l:List Vh) (id:Int):Bool:=l.any λv=>v.id==id
theorem zD5 {l pre post:List Vh} {x:Vh} {id:Int} (h:l=pre++x::post) (hn:∀y∈pre,y.id≠id) (hx:x.id=id):cT l id=x/\TB l id=true:=by
 subst h;have h1:pre.find? (λv=>v.id==id)=none:=yCo.2 λy hy=>by simpa using hn y hy
 refine⟨?_,by simp[TB,hx]⟩;unfold cT;rw[yDj,h1];simp[hx]
theorem AW {l:List Vh} {id:Int} (hn:∀y∈l,y.id≠id):cT l id=⟨0,0⟩/\TB l id=false:=by
 have h1:l.find? (λv=>v.id==id)=none:=yCo.2 λy hy=>by simpa using hn y hy
 exact⟨by unfold cT;rw[h1];rfl,by simpa [TB]using hn⟩
theorem zN8 (l:List Vh) (id:Int) (hn:l.length<=1000000):yR [zD vT l,iA id] [] (.tup [vT (cT l id),bA (TB l id)]) []:=yG
def kX (l:List Vh) (c:Int):Nat:=(l.filter λv=>v.cls==c).length
theorem zI2 (l:List Vh) (c:Int) (hn:l.length<=1000000):yR [zD vT l,iA c] [] (iA (kX l c)) []:=yG
def TC (l:List Vh) (i:Nat):Bool:=decide (0<=(l.getD i default).id/\(l.getD i default).id<=4294967295/\0<=(l.getD i default).cls/\(l.getD i default).cls<=3/\(0<i->(l.getD (i-1) default).id<(l.getD i default).id))
def GK (l:List Vh):Bool:=((List.range l.length).all λi=>TC l i)&&decide ((l.length:Int)<=8)
theorem zTc {l:List Vh} {i:Nat} (hi:i<l.length) (h:TC l i=false):GK l=false:=by
 unfold GK;have:((List.range l.length).all λi=>TC l i)=false:=yAw.2 ⟨i,zYr.2 hi,by simp[h]⟩;rw[this];simp
theorem zD6 (l:List Vh) (hn:l.length<=1000000):yR [zD vT l] [] (bA (GK l)) []:=yG
def gD (k v:Int):Ms:=⟨14,[],[k,v],[]⟩
theorem JZ (k v:Int):zN 216 [iA k,iA v] [] (yE (gD k v)) []:=by
 refine eM call216 λF hF=>?_
 refine WL ?_;exact zJ
def IA (l:List Tk):Nat:=(l.filter λt=>!t.used).length
def aA (d:xQ):Ms:=⟨20,[],[(IA d.rg.tk:Int),8-(d.rg.vh.length:Int),d.rg.ag.req-(d.rq.length:Int),d.rg.bk.level],[]⟩
theorem zD7 (pre:List Tk) (x:Tk):IA (pre++[x])=IA pre+(if x.used=true then 0 else 1):=by
 unfold IA;rw[yBq,zX3]
 cases hu:x.used<;>simp[hu]
theorem zN9 (d:xQ) (hb:eE d) (h0:0<=d.rg.ag.req) (h1:d.rg.ag.req<=1000):yR [zK d] [] (yE (aA d)) []:=yG
theorem AX (d:xQ) (k now:Int) (hk1:k≠1) (hk9:k≠9) (hb:eE d) (h0:0<=d.rg.ag.req) (h1:d.rg.ag.req<=1000):zN 217 [zK d,iA k,iA now] [] (yE (aA d)) []:=by
 have hq:=hb.q;have hn:=hb.rg.tk.n;have hv:=hb.rg.v;have hlt:=zA xB d.rg.tk;have hlv:=zA vT d.rg.vh;have hlq:=zA yK d.rq;unfold aA;rw[<-hlv,<-hlq];unfold zK wI;refine eM call217 λF hF=>?_
 refine WW ?_;refine zY (d.rg.tk) [3,6] [3,6] [3,6,45,46] [10,47,3,6,45,46] rfl (λi pre T U=>⟨(10,iA (IA pre))::(47,iA i)::T,U⟩) ?_;(conv=>whnf);refine⟨by rfl,?_,?_⟩
 ·intro i pre x post hx hi;have hy:=yI xB hx hi;have hlt2:=yB hx hi;have hle:IA pre<=i:=by rw[<-hi];exact yAd _ _
  have e:=zD7 pre x;clear hx
  cases hu:x.used with
  |true=>
   rw[hu,zX1 rfl,yAr]at e;rw[e];generalize IA pre=m at *;obtain⟨us,sec,par,ri,cl,ti⟩:=x;cases hu;refine WW ?_;rfl
  |false=>
   rw[hu,zX0 zYk]at e;rw[e];generalize IA pre=m at *;obtain⟨us,sec,par,ri,cl,ti⟩:=x;cases hu;refine WW ?_;rfl
 ·(refine WL ?_)
  exact zJ
def PS (d:xQ) (now:Int):Ms:=⟨13,[],[d.rg.num,now],[]⟩
theorem ET (d:xQ) (now:Int):zN 217 [zK d,iA 1,iA now] [] (yE (PS d now)) []:=by
 unfold PS zK wI;refine eM call217 λF hF=>?_
 refine WL ?_;exact zJ
def fL (l:List Rq):List Int:=(l.map λr=>[r.id,r.til]).flatten
def PU (d:xQ):Ms:=⟨19,[],fL d.rq,[]⟩
theorem AY (pre:List Rq) (x:Rq):(fL (pre++[x])).map iA=(fL pre).map iA++[iA x.id,iA x.til]:=by simp[fL]
theorem TE:∀l:List Rq,(fL l).length=2*l.length
 | []=>rfl
 |x::l=>by
  have:=TE l
  show(x.id::x.til::fL l).length=_
  rw[zYd,zYd,zYd];omega
theorem AZ (d:xQ) (now:Int) (hb:eE d):zN 217 [zK d,iA 9,iA now] [] (yE (PU d)) []:=by
 have hq:=hb.q;have hlq:=zA yK d.rq;unfold PU zK wI;refine eM call217 λF hF=>?_
 refine WW ?_;refine uK 7 2 1001 1 rfl rfl rfl rfl rfl ?_;refine zY (d.rq) [7,1001,6] [6] [6,7,26,27] [28,6,7,26,27] rfl (λi pre T U=>⟨(28,iA i)::T,(7,.box [iA 19,.s (.slice none 0 0),.ref 1001 0 ((fL pre).map iA).length,.s (.slice none 0 0)])::(1001,.arr 1 ((fL pre).map iA) true)::U⟩) ?_;(conv=>whnf);refine⟨by rfl,?_,?_⟩
 ·intro i pre x post hx hi;have hy:=yI yK hx hi;have hlt2:=yB hx hi;have hle:=TE pre;have hlm:=zA iA (fL pre);have e:=AY pre x;clear hx;rw[e];generalize (fL pre).map iA=xs at *;refine WW ?_;rfl
 ·(refine WW ?_)
  refine zI [] rfl rfl ?_ rfl
  show AV.agg [iA 19,.sl false [],.sl false (((fL d.rq).map iA).take ((fL d.rq).map iA).length),.sl false []]=_
  rw[zX7];rfl
theorem zOa (l:List Vh) (id:Int) (hn:l.length<=1000000):zN 266 [zD vT l,iA id] [] (.tup [vT (cT l id),bA (TB l id)]) []:=by
 have hl:=zA vT l;refine eM call266 λF hF=>?_
 refine WW ?_;refine qM (l) [4] [] [1,4,8,9] [10,1,4,8,9] rfl (λi pre T U zs=>(∀y∈pre,y.id≠id)/\zs=⟨(10,iA i)::T,(4,.box [.s (.int .i64 0),.s (.int .i64 0)])::U⟩) ?_;(conv=>whnf);refine⟨?_,?_,?_⟩
 ·exact⟨by simp,rfl⟩
 ·rintro i pre x post st hx hi ⟨hp,rfl⟩;have hy:=yI vT hx hi;have hlt:=yB hx hi;by_cases he:x.id=id
  ·obtain⟨e1,e2⟩:=zD5 hx hp he;rw[e1,e2];clear hx;refine WW ?_;exact zJ
  ·clear hx;refine WW ?_;exact⟨λy hy=>by simp only[zYl,zYz]at hy;rcases hy with hy|rfl;exact hp y hy;exact he,rfl⟩
 ·rintro st ⟨hp,rfl⟩;obtain⟨e1,e2⟩:=AW hp;rw[e1,e2];refine WW ?_;exact zJ
theorem zD8 (l:List Rq) (q id:Int) (v:Vh) (life:Int) (x:List Lg) (now:Int) (hv:aM l) (hq:(l.length:Int)<=q) (hb:¬((0<=v.id/\v.id<=4294967295)/\(0<=v.cls/\v.cls<=3))):
  zN 268 [zD yK l,iA q,iA id,vT v,iA life,zD xU x,iA now] [] (.tup [zD yK [],iA 1]) []:=by
 have c1:=VU l q hv hq;have c2:=OG v.id;have c3:=zAm v.cls;by_cases h1:0<=v.id/\v.id<=4294967295
 ·have h2:¬(0<=v.cls/\v.cls<=3):=λh=>hb ⟨h1,h⟩
  rw[zX8 h1]at c2;rw[zYa h2]at c3;refine eM call268 λF hF=>?_
  refine yQ (fB c1 c2 c3) ?_;exact zJ
 ·rw[zYa h1]at c2;refine eM call268 λF hF=>?_
  refine yQ (wZ c1 c2) ?_;exact zJ
structure Qd where
 j:Int
 p:Int
 f:Int
 t:Int
def q4 (q:Qd):List Int:=[q.j,q.p,q.f,q.t]
def YR (qs:List Qd):List Int:=(qs.map q4).flatten
def MF (c:Cf) (now:Int) (q:Qd):Bool:=decide (q.j<(c.js.length:Int))&&(decide (q.p<((c.js.getD q.j.toNat default).ph.length:Int))&&mwB q.j q.p q.f q.t now)
def IB (now:Int) (q:Qd):Lg:=mwF q.j q.p q.f q.t now
def zI3 (v:Vh):Bool:=decide ((0<=v.id/\v.id<=4294967295)/\(0<=v.cls/\v.cls<=3))
def sxE (l:List Rq) (q id life:Int) (v:Vh) (x:List Lg):Int:=if(l.length:Int)<=q then(if zI3 v=true then suE l q id life x else 1)else 1
def sxL (l:List Rq) (q id life now:Int) (v:Vh) (x:List Lg):List Rq:=if sxE l q id life v x=0 then aG l (bJ id v life x now)else []
theorem zXv (l:List Rq) (q id:Int) (v:Vh) (life:Int) (x:List Lg) (now:Int) (hv:aM l) (n0:0<=now) (n1:now<=1073741824):
  zN 268 [zD yK l,iA q,iA id,vT v,iA life,zD xU x,iA now] [] (.tup [zD yK (sxL l q id life now v x),iA (sxE l q id life v x)]) []:=by
 unfold sxL sxE;by_cases hq:(l.length:Int)<=q
 ·rw[zX1 hq];by_cases hb:(0<=v.id/\v.id<=4294967295)/\(0<=v.cls/\v.cls<=3)
  ·have hv1:zI3 v=true:=zX8 hb;rw[zX1 hv1];exact zJn l q id v life x now hv hq hb.1.1 hb.1.2 hb.2.1 hb.2.2 n0 n1
  ·have hv1:¬zI3 v=true:=λh=>hb (yCd h)
   rw[zX0 hv1,zX0 yZ];exact zD8 l q id v life x now hv hq hb
 ·rw[zX0 hq,zX0 yZ];exact zEd l q id v life x now hv hq
theorem QA:∀qs:List Qd,(YR qs).length=4*qs.length
 | []=>rfl
 |x::l=>by
  have:=QA l
  show(x.j::x.p::x.f::x.t::YR l).length=_
  simp only[zYd];omega
theorem zOb (a b:List Qd):YR (a++b)=YR a++YR b:=by simp[YR]
theorem zI4 (x y z:Int) (pre post:List Qd) (i:Nat) (hi:pre.length=i):(x::y::z::YR (pre++post)).drop (3+4*i)=YR post:=by
 rw[zOb,show 3+4*i=4*i+1+1+1 by omega,yBe,yBe,yBe,yCb (by rw[QA];omega),yCa (by rw[QA];omega),yAq]
theorem YB {α:Type} {l:List α} {n:Nat} {r:List α} (h:l.drop n=r) (k:Nat):l[n+k]? =r[k]? :=by rw[<-h,zZ2]
theorem zWj (x y z:Int) (pre post:List Qd) (q:Qd) (I:Int) (hI:I=3+4*(pre.length:Int)):
  ((x::y::z::YR (pre++q::post)).map iA)[I.toNat]? =some (iA q.j)/\((x::y::z::YR (pre++q::post)).map iA)[(I+1).toNat]? =some (iA q.p)/\((x::y::z::YR (pre++q::post)).map iA)[(I+2).toNat]? =some (iA q.f)/\((x::y::z::YR (pre++q::post)).map iA)[(I+3).toNat]? =some (iA q.t):=by
 have h:=zI4 x y z pre (q::post) pre.length rfl
 refine⟨?_,?_,?_,?_⟩<;>rw[zX4]
 ·rw[show I.toNat=3+4*pre.length+0 by omega,YB h];rfl
 ·rw[show(I+1).toNat=3+4*pre.length+1 by omega,YB h];rfl
 ·rw[show(I+2).toNat=3+4*pre.length+2 by omega,YB h];rfl
 ·rw[show(I+3).toNat=3+4*pre.length+3 by omega,YB h];rfl
def dsE (c:Cf) (d:xQ) (cls id v life now:Int) (qs:List Qd):Int:=
 if TB d.rg.vh v=true then(if cls<(cT d.rg.vh v).cls then 17 else if qs.all (MF c now)=true then sxE d.rq d.rg.ag.req id life (cT d.rg.vh v) (qs.map (IB now))else 8)else 12
def dsL (c:Cf) (d:xQ) (cls id v life now:Int) (qs:List Qd):List Rq:=
 if dsE c d cls id v life now qs=0 then aG d.rq (bJ id (cT d.rg.vh v) life (qs.map (IB now)) now)else []
theorem zTd {α:Type} {p:α->Bool} {pre post:List α} {x:α} (h:p x=false):¬(pre++x::post).all p=true:=by
 simp[h]
theorem zD9 (c:Cf) (d:xQ) (id v life slot now:Int) (qs:List Qd) (hb:eE d) (hv:aM d.rq) (s0:0<=slot) (s1:slot<(d.rg.tk.length:Int)) (hq:qs.length<=3) (hp:∀q∈qs,0<=q.j/\0<=q.p) (n0:0<=now) (n1:now<=1073741824):
  zN 238 [wP c,zK d,zD iA (id::v::life::YR qs),iA slot,iA now] [] (.tup [zD yK (dsL c d (d.rg.tk.getD slot.toNat default).cls id v life now qs),iA (dsE c d (d.rg.tk.getD slot.toNat default).cls id v life now qs)]) []:=by
 have hfv:=zOa d.rg.vh v (by have:=hb.rg.v;omega);have hlt:=zA xB d.rg.tk;have hyt:=yM xB d.rg.tk slot s0 s1;have hsx:=zXv d.rq d.rg.ag.req id (cT d.rg.vh v) life (qs.map (IB now)) now hv n0 n1;have hll:((id::v::life::YR qs).map iA).length=3+4*qs.length:=by simp[QA];omega
 have hlj:=zA wH c.js;have hnt:=hb.rg.tk.n;unfold dsL dsE;unfold wP zK wI;generalize (d.rg.tk.getD slot.toNat default)=t at *;rw[show xB t= .agg [bA t.used,zD yA t.sec,iA t.par,iA t.rights,iA t.cls,iA t.til]from rfl]at hyt;generalize TB d.rg.vh v=hv1 at*
 cases hv1 with
 |false=>
  rw[zX0 zYk,zX0 yZ];refine eM call238 λF hF=>?_
  refine zU hfv ?_;exact zJ
 |true=>
 rw[zX1 rfl];generalize cT d.rg.vh v=vh at *;unfold vT at hfv hsx;by_cases hcl:t.cls<vh.cls
 ·rw[zX1 hcl,zX0 yZ];refine eM call238 λF hF=>?_
  refine zU hfv ?_;exact zJ
 rw[zX0 hcl];refine eM call238 λF hF=>?_
 refine zU hfv ?_;refine xC 15 1001 5 rfl rfl rfl ?_;refine fF (qs.length) [1001,5,6,12] [5,6,12] [2,4,5,6,12] [15,16,2,4,5,6,12] rfl (λzn T U zs=>∃(pre:List Qd) (post:List Qd),(qs=pre++post/\zn=post.length/\pre.all (MF c now)=true)/\zs=⟨(15,.ref 1001 0 (pre.map λq=>xU (IB now q)).length)::(16,iA (3+4*(pre.length:Int)))::T,(1001,.arr 5 (pre.map λq=>xU (IB now q)) true)::U⟩) ?_;(conv=>whnf);refine⟨?_,?_⟩
 ·exact⟨[],qs,⟨rfl,rfl,rfl⟩,rfl⟩
 ·rintro zn st ⟨pre,post,⟨hqs,hzn,hok⟩,rfl⟩;have hln:qs.length=pre.length+post.length:=by rw[hqs,zX3]
  have hpl:=zA (λq=>xU (IB now q)) pre
  cases post with
  |nil=>
   rw[zY5]at hqs;subst hqs;rw[zX1 hok];rw[zZa]at hln hzn;have e1:(qs.map λq=>xU (IB now q))=(qs.map (IB now)).map xU:=by rw[yCp];rfl
   unfold sxL at hsx;rw[e1]at *; generalize qs.map (IB now)=ls at *;generalize sxE d.rq d.rg.ag.req id life vh ls=e at *;generalize aG d.rq (bJ id vh life ls now)=il at *;generalize hI:3+4*(qs.length:Int)=I at *;rw[show(id::v::life::YR qs).map iA=iA id::iA v::iA life::(YR qs).map iA from rfl]at *; generalize (YR qs).map iA=A at *;refine WD ?_;refine uC [5,6,12] [2,4,5,6,12,15] rfl ?_
   (conv=>whnf)
   simp only[zY2,zX7];refine zU hsx ?_;exact zJ
  | cons q post=>
   have hpq:=hp q (by rw[hqs];simp);obtain⟨y0,y1,y2,y3⟩:=zWj id v life pre post q _ rfl;rw[<-hqs]at y0 y1 y2 y3;rw[zYd]at hln hzn;have hno:MF c now q=false->¬qs.all (MF c now)=true:=λh=>by rw[hqs];exact zTd h
   have hyes:MF c now q=true->(pre++[q]).all (MF c now)=true:=λh=>by rw[List.all_append,hok,yDh,h];rfl
   have hmp:((pre++[q]).map λq=>xU (IB now q))=(pre.map λq=>xU (IB now q))++[xU (IB now q)]:=by simp
   have hw:=zCm q.j q.p q.f q.t now;rw[show MF c now q=(decide (q.j<(c.js.length:Int))&&(decide (q.p<((c.js.getD q.j.toNat default).ph.length:Int))&&mwB q.j q.p q.f q.t now))from rfl]at hno hyes;generalize hA:(id::v::life::YR qs).map iA=A at *;have hA2:zD iA (id::v::life::YR qs)= .sl false A:=by rw[<-hA];rfl
   have hI:0<=3+4*(pre.length:Int)/\3+4*(pre.length:Int)+4=3+4*((pre++[q]).length:Int)/\3+4*(pre.length:Int)+3<A.length:=⟨zB,by simp;omega,zB⟩;by_cases g1:q.j<(c.js.length:Int)
   case neg=>
    rw[zYa g1]at hno;rw[zX0 (hno rfl),zX0 yZ];generalize 3+4*(pre.length:Int)=I at *;clear hno hyes hw hmp hqs;refine WW ?_;exact zJ
   have hyj:=yM wH c.js q.j hpq.1 g1;rw[zX8 g1]at hno hyes;rw[show wH (c.js.getD q.j.toNat default)= .agg [zD wU (c.js.getD q.j.toNat default).ph,zD iA (c.js.getD q.j.toNat default).cf,iA (c.js.getD q.j.toNat default).st]from rfl]at hyj;generalize c.js.getD q.j.toNat default=jn at *;have hlp:=zA wU jn.ph;by_cases g2:q.p<(jn.ph.length:Int)
   case neg=>
    rw[zYa g2]at hno;rw[zX0 (hno rfl),zX0 yZ];generalize 3+4*(pre.length:Int)=I at *;clear hno hyes hw hmp hqs;refine WW ?_;exact zJ
   rw[zX8 g2]at hno hyes
   cases g3:mwB q.j q.p q.f q.t now with
   |false=>
    rw[g3]at hno hw;rw[zX0 zYk]at hw;rw[zX0 (hno rfl),zX0 yZ];generalize 3+4*(pre.length:Int)=I at *;generalize mwF q.j q.p q.f q.t now=lg at *;clear hno hyes hmp hqs;refine zU hw ?_;exact zJ
   |true=>
    rw[g3]at hyes hw;rw[zX1 rfl]at hw;have hy2:=hyes rfl;obtain⟨hI0,hI1,hI2⟩:=hI;have hfin:qs=(pre++[q])++post:=by rw[hqs];simp
    rw[show mwF q.j q.p q.f q.t now=IB now q from rfl]at hw;generalize IB now q=lg at *;clear hno hyes hqs;generalize hqq:pre++[q]=pq at *;generalize (pre.map λq=>xU (IB now q))=xs at *;generalize 3+4*(pre.length:Int)=I at *;refine zU hw ?_;exact⟨post.length,zB,pq,post,⟨hfin,rfl,hy2⟩,by rw[hmp,<-hI1];rfl⟩
def dkQ (d:xQ) (l:List Rq):xQ:=⟨d.rg,l,d.dr,d.au⟩
theorem zAa (c:Cf) (d:xQ) (k:Int) (tkn:List Int) (id v life cls now:Int) (qs:List Qd) (hb:eE d) (hv:aM d.rq) (hq:qs.length<=3) (hp:∀q∈qs,0<=q.j/\0<=q.p) (n0:0<=now) (n1:now<=1073741824):
 yR [wP c,zK d,yE ⟨k,tkn,id::v::life::YR qs,[]⟩,iA cls,iA now] [] (.tup [zK (dkQ d (if dsE c d cls id v life now qs=0 then dsL c d cls id v life now qs else d.rq)),iA (dsE c d cls id v life now qs)]) []:=yG
def PV (n:Int) (a:Ag) (N:Nat):xQ:=⟨EW n a,[],[],List.replicate N false⟩
theorem zTe (n:Int) (a:Ag) (N:Nat) (hN:N=1∨N=2) (ha:a.ses=(N:Int)) (hs:a.sec.length<=1000000) (hl:a.lim.length<=1000000):zN 90 [iA n,vC a] [] (zK (PV n a N)) []:=by
 have c1:=zTp n a hs hl;unfold PV;obtain⟨sec,ri,cl,li,rq,se,ra,bu⟩:=a;dsimp only at ha;subst ha;unfold vC uX at c1;unfold vC zK wI;dsimp only at *;generalize EW n ⟨sec,ri,cl,li,rq,(N:Int),ra,bu⟩=r at*
 rcases hN with rfl|rfl
 all_goals
  refine eM call90 λF hF=>?_
  refine zU c1 ?_;exact zJ
theorem zOc (n:Int) (a:Ag) (N:Nat) (hN:N=1∨N=2) (ha:a.ses=(N:Int)) (hs:a.sec.length<=1000000) (hl:a.lim.length<=1000000):yR [iA n,vC a] [] (zK (PV n a N)) []:=yG
def w2 (p:Int×Int):List Int:=[p.1,p.2]
def IC (ws:List (Int×Int)):List Int:=(ws.map w2).flatten
theorem QB:∀ws:List (Int×Int),(IC ws).length=2*ws.length
 | []=>rfl
 |x::l=>by
  have:=QB l
  show(x.1::x.2::IC l).length=_
  simp only[zYd];omega
theorem zOd (a b:List (Int×Int)):IC (a++b)=IC a++IC b:=by simp[IC]
theorem zWk (x:Int) (pre post:List (Int×Int)) (q:Int×Int) (I:Int) (hI:I=1+2*(pre.length:Int)):
  ((x::IC (pre++q::post)).map iA)[I.toNat]? =some (iA q.1)/\((x::IC (pre++q::post)).map iA)[(I+1).toNat]? =some (iA q.2):=by
 have h:(x::IC (pre++q::post)).drop (1+2*pre.length)=IC (q::post):=by
  rw[zOd,show 1+2*pre.length=2*pre.length+1 by omega,yBe,yCb (by rw[QB];omega),yCa (by rw[QB];omega),yAq]
 refine⟨?_,?_⟩<;>rw[zX4]
 ·rw[show I.toNat=1+2*pre.length+0 by omega,YB h];rfl
 ·rw[show(I+1).toNat=1+2*pre.length+1 by omega,YB h];rfl
def upQ (l:List Rq) (id:Int) (ws:List (Int×Int)) (now:Int):List Rq:=if bL l id ws now=0 then ML l id ws now else []
theorem zTf (c:Cf) (d:xQ) (tkn:List Int) (id slot now:Int) (ws:List (Int×Int)) (hv:aM d.rq) (hw:ws.length<=3) (n0:0<=now) (n1:now<=1073741824):
  zN 215 [wP c,zK d,yE ⟨7,tkn,id::IC ws,[]⟩,iA slot,iA now] [] (.tup [zD yK (upQ d.rq id ws now),iA (bL d.rq id ws now)]) []:=by
 have hu:=zJo d.rq id ws now hv zB n0 n1;have hll:((id::IC ws).map iA).length=1+2*ws.length:=by simp[QB];omega
 unfold upQ;unfold wP zK wI;rw[show yE ⟨7,tkn,id::IC ws,[]⟩= .agg [iA 7,zD yA tkn,zD iA (id::IC ws),.sl false []]from rfl];generalize bL d.rq id ws now=e at *;generalize ML d.rq id ws now=ul at *;refine eM call215 λF hF=>?_
 refine WW ?_;refine xC 13 1001 2 rfl rfl rfl ?_;refine fF (ws.length) [1001,6,7] [6,7] [4,6,7,12] [13,14,4,6,7,12] rfl (λzn T U zs=>∃(pre:List (Int×Int)) (post:List (Int×Int)),(ws=pre++post/\zn=post.length)/\zs=⟨(13,.ref 1001 0 (pre.map wnA).length)::(14,iA (1+2*(pre.length:Int)))::T,(1001,.arr 2 (pre.map wnA) true)::U⟩) ?_;(conv=>whnf);refine⟨?_,?_⟩
 ·exact⟨[],ws,⟨rfl,rfl⟩,rfl⟩
 ·rintro zn st ⟨pre,post,⟨hqs,hzn⟩,rfl⟩;have hln:ws.length=pre.length+post.length:=by rw[hqs,zX3]
  have hpl:=zA wnA pre
  cases post with
  |nil=>
   rw[zY5]at hqs;subst hqs;rw[zZa]at hln hzn;generalize hI:1+2*(ws.length:Int)=I at *;generalize (id::IC ws).map iA=A at*
   (have zc1:=hu;have zf1:=(⟨⟩:FzD 239 [5,6,7] [58,59,60,61]);refine WW ?_;clear zc1 zf1)
   exact zJ
  |cons q post=>
   obtain⟨y0,y1⟩:=zWk id pre post q _ rfl;rw[<-hqs]at y0 y1;rw[zYd]at hln hzn;have hmp:((pre++[q]).map wnA)=pre.map wnA++[.agg [iA q.1,iA q.2]]:=by simp[wnA]
   have hI:0<=1+2*(pre.length:Int)/\1+2*(pre.length:Int)+2=1+2*((pre++[q]).length:Int)/\1+2*(pre.length:Int)+1<((id::IC ws).map iA).length:=⟨zB,by simp;omega,zB⟩;have hfin:ws=(pre++[q])++post:=by rw[hqs];simp
   generalize (id::IC ws).map iA=A at *;obtain⟨hI0,hI1,hI2⟩:=hI;clear hqs;generalize hqq:pre++[q]=pq at *;generalize pre.map wnA=xs at *;generalize 1+2*(pre.length:Int)=I at *;refine WW ?_;exact⟨post.length,zB,pq,post,⟨hfin,rfl⟩,by rw[hmp,<-hI1];rfl⟩
theorem zTg (d:xQ) (tkn:List Int) (id now:Int) (ws:List (Int×Int)) (hv:aM d.rq) (hw:ws.length<=3) (n0:0<=now) (n1:now<=1073741824):
 yR [zK d,yE ⟨7,tkn,id::IC ws,[]⟩,iA now] [] (.tup [zK (dkQ d (if bL d.rq id ws now=0 then upQ d.rq id ws now else d.rq)),iA (bL d.rq id ws now)]) []:=yG
theorem zTh (c:Cf) (d:xQ) (tkn:List Int) (id v life slot now:Int) (qs:List Qd) (hb:eE d) (hv:aM d.rq) (s0:0<=slot) (s1:slot<(d.rg.tk.length:Int)) (hq:qs.length<=3) (hp:∀q∈qs,0<=q.j/\0<=q.p) (n0:0<=now) (n1:now<=1073741824):
  zN 215 [wP c,zK d,yE ⟨6,tkn,id::v::life::YR qs,[]⟩,iA slot,iA now] [] (.tup [zD yK (dsL c d (d.rg.tk.getD slot.toNat default).cls id v life now qs),iA (dsE c d (d.rg.tk.getD slot.toNat default).cls id v life now qs)]) []:=by
 have h:=zD9 c d id v life slot now qs hb hv s0 s1 hq hp n0 n1;generalize dsE c d (d.rg.tk.getD slot.toNat default).cls id v life now qs=e at *;generalize dsL c d (d.rg.tk.getD slot.toNat default).cls id v life now qs=ul at *;rw[show zD iA (id::v::life::YR qs)= .sl false (iA id::iA v::iA life::(YR qs).map iA)from rfl]at h;rw[show yE ⟨6,tkn,id::v::life::YR qs,[]⟩= .agg [iA 6,zD yA tkn,.sl false (iA id::iA v::iA life::(YR qs).map iA),.sl false []]from rfl];generalize (YR qs).map iA=A at *;unfold wP zK wI at *;refine eM call215 λF hF=>?_
 refine zU h ?_;exact zJ
theorem zTi (c:Cf) (d:xQ) (tkn:List Int) (id slot now:Int) (hv:aM d.rq):
  zN 215 [wP c,zK d,yE ⟨8,tkn,[id],[]⟩,iA slot,iA now] [] (.tup [zD yK (if gE d.rq id=true then zJx d.rq id else []),iA (if gE d.rq id=true then 0 else 12)]) []:=by
 have h:=zJz d.rq id hv;generalize (if gE d.rq id=true then zJx d.rq id else [])=l at *;generalize (if gE d.rq id=true then(0:Int)else 12)=e at *;rw[show yE ⟨8,tkn,[id],[]⟩= .agg [iA 8,zD yA tkn,.sl false [iA id],.sl false []]from rfl];unfold wP zK wI at *;refine eM call215 λF hF=>?_
 refine zU h ?_;exact zJ
theorem VN (l:List Tk) (s:Int):zN 259 [zD xB l,iA s] [] (bA (fT l s)) []:=by
 have hl:=zA xB l;unfold fT;by_cases h1:0<=s
 ·by_cases h2:s<l.length
  ·have hy:=yM xB l s h1 h2;rw[zX8 ⟨h1,h2⟩,zYp];refine eM call259 λF hF=>?_
   refine WW ?_;exact zJ
  ·rw[zYa zB,zZw];refine eM call259 λF hF=>?_
   refine WW ?_;exact zJ
 ·rw[zYa zB,zZw];refine eM call259 λF hF=>?_
  refine WW ?_;exact zJ
theorem zI5 (g s:Int) (l:List Int) (hl:l.length<=1000000) (g0:0<=g) (g1:g<256) (s0:0<=s) (s1:s<256):zN 284 [iA g,iA s,zD yA l] [] (zD yA (g::s::l)) []:=by
 have hll:=zA yA l;refine eM call284 λF hF=>?_
 refine WW ?_;exact zI [] rfl rfl (zY0 (AV.sl false) (zYb zS)) rfl
end Av
end Go.Proofs.YtmamjhmoegjapaaGreat
