/- Part 16. -/
import Derived.Test.YtmamjhmoegjapaaGreatQ15
import Derived.WalkKit
import Derived.ProofKit
namespace Go.Proofs.YtmamjhmoegjapaaGreat
namespace Av
open Tryz
set_option linter.all false
set_option maxRecDepth 4000
set_option maxHeartbeats 2000000
theorem KG (r:Rg) (hb:FU r):zN 150 [uW r] [] (uW r) []:=by
 have hs:=hb.s;have hlm:=hb.l;have k1:=wA r.ag.sec zB;have k2:=WR r.ag.lim zB;have hn:=hb.tk.n;have hv:=hb.v;have c2:=XG r.tk zB;have c3:=FS r.vh zB;have hll:=zA xD r.tk;refine eM call150 λF hF=>?_
 refine yO (gU k1 k2 c2) ?_;refine zP ((r.tk.map xD).length) [1001,1,2] [1,2] [1,2,22] [23,1,2,22] rfl (λi T U=>⟨(23,iA i)::T,(1001,.arr 6 (kS i (r.tk.map xD)) false)::U⟩) ?_;(conv=>whnf);refine⟨by rfl,?_,?_⟩
 ·intro i hi;have hi':i<r.tk.length:=by omega
  have hy:(kS i (r.tk.map xD))[i]? =some (xD (r.tk.getD i default)):=zM xD r.tk i hi';have e:=kG xD r.tk i hi';have c2:=wA (r.tk.getD i default).sec (by have:=hb.tk.s (r.tk.getD i default) bY;omega);generalize (r.tk.getD i default)=t at *;generalize kS i (r.tk.map xD)=xs at *;generalize kS (i+1) (r.tk.map xD)=ys at *;subst e;refine zU c2 ?_;rfl
 ·(refine zU c3 ?_)
  exact zH [] rfl rfl (zX7 (rgX r) zXe) rfl
structure xP where
 rg:Rg
 rq:List Rq
 dr:List (List Int)
 au:List Bool
def kL (l:List Int):AV:=zD yA l
def wL (r:Rg) (a b c:AV):AV:= .agg [iA r.num,zD yA r.ag.sec,iA r.ag.rights,iA r.ag.cls,zD iA r.ag.lim,iA r.ag.req,iA r.ag.ses,iA r.ag.rate,iA r.ag.burst,zD xD r.tk,zD vZ r.vh,iA r.bk.level,iA r.bk.rate,iA r.bk.burst,a,b,c]
def zJ (d:xP):AV:=wL d.rg (zD yK d.rq) (zD kL d.dr) (zD bA d.au)
structure eU (d:xP):Prop where
 rg:FU d.rg
 q:d.rq.length<=1000
 g:∀r∈d.rq,r.legs.length<=1000
 n:d.dr.length<=1000
 e:∀b∈d.dr,b.length<=1000
 a:d.au.length<=1000
theorem XC (l:List Rq) (hl:l.length<=1073741824):zN 151 [zD yK l] [] (.ref 1001 0 (l.map yK).length) [(1001,.arr 5 (l.map yK) false)]:=by
 have hll:=zA yK l;refine eM call151 λF hF=>?_
 refine yY 0 rfl (λcap hx=>?_) ?_
 ·have:l=[]:=by simpa using hx
  subst this
  (repeat' (first|refine WZN ?_|refine xQ (λhc=>?_) (λhc=>?_)|refine wD (λhc=>?_)|fail))
  refine uF 2 1001 5 rfl rfl rfl (yU ?_);exact zL [1001] rfl rfl rfl rfl
 ·repeat' (first|(refine zE ?_;first|refine vK tok rfl rfl ?_|(refine wZ ?_;refine xK (yW tok (.inl ⟨rfl,rfl⟩) rfl rfl rfl rfl) rfl ?_)|(refine yT ?_;refine uG (nw:=[1001]) (yJ tok 1001 (xs:=[]) rfl rfl rfl rfl rfl rfl rfl rfl rfl) rfl rfl rfl ?_)|(refine yV ?_;refine wO tok rfl rfl rfl rfl rfl rfl rfl (xH _ _ (λ_=>rfl)) rfl rfl rfl zB rfl ?_)|refine qC ?_)|(first|refine xS ?_|refine yZ ?_|refine vA rfl ?_|refine zX rfl ?_|refine zQ rfl ?_|refine xJ rfl (λhc=>?_) (λhc=>?_)|refine yX ?_|refine yU ?_|refine xA ?_|refine yS ?_))
  exact zL [1001] rfl rfl rfl rfl
theorem QK (l:List (List Int)) (hl:l.length<=1073741824):zN 153 [zD kL l] [] (.ref 1002 0 (l.map kL).length) [(1002,.arr 1 (l.map kL) false)]:=by
 have hll:=zA kL l;refine eM call153 λF hF=>?_
 refine yY 0 rfl (λcap hx=>?_) ?_
 ·have:l=[]:=by simpa using hx
  subst this
  (repeat' (first|refine WZN ?_|refine xQ (λhc=>?_) (λhc=>?_)|refine wD (λhc=>?_)|fail))
  refine uF 2 1002 1 rfl rfl rfl (yU ?_);exact zL [1002] rfl rfl rfl rfl
 ·repeat' (first|(refine zE ?_;first|refine vK tok rfl rfl ?_|(refine wZ ?_;refine xK (yW tok (.inl ⟨rfl,rfl⟩) rfl rfl rfl rfl) rfl ?_)|(refine yT ?_;refine uG (nw:=[1002]) (yJ tok 1002 (xs:=[]) rfl rfl rfl rfl rfl rfl rfl rfl rfl) rfl rfl rfl ?_)|(refine yV ?_;refine wO tok rfl rfl rfl rfl rfl rfl rfl (xH _ _ (λ_=>rfl)) rfl rfl rfl zB rfl ?_)|refine qC ?_)|(first|refine xS ?_|refine yZ ?_|refine vA rfl ?_|refine zX rfl ?_|refine zQ rfl ?_|refine xJ rfl (λhc=>?_) (λhc=>?_)|refine yX ?_|refine yU ?_|refine xA ?_|refine yS ?_))
  exact zL [1002] rfl rfl rfl rfl
theorem FC (l:List Bool) (hl:l.length<=1073741824):zN 154 [zD bA l] [] (zD bA l) []:=by
 have hll:=zA bA l;refine eM call154 λF hF=>?_
 refine yY 0 rfl (λcap hx=>?_) ?_
 ·have:l=[]:=by simpa using hx
  subst this;refine WW ?_;exact zK
 ·(refine WW ?_)
  refine zH [] rfl rfl (bD _ _) rfl
theorem cK (d:xP) (hb:eU d):zN 102 [zJ d] [] (zJ d) []:=by
 have k1:=KG d.rg hb.rg;have hq:=hb.q;have hdn:=hb.n;have hau:=hb.a;have k2:=XC d.rq zB;have k3:=QK d.dr zB;have k4:=FC d.au zB;have hlq:=zA yK d.rq;have hld:=zA kL d.dr;unfold zJ wL;unfold uW at k1;refine eM call102 λF hF=>?_
 refine yO (wW k1 k2) ?_;refine zP ((d.rq.map yK).length) [1001,1,2] [1,2] [1,2,15] [16,1,2,15] rfl (λi T U=>⟨(16,iA i)::T,(1001,.arr 5 (kS i (d.rq.map yK)) false)::U⟩) ?_;(conv=>whnf);refine⟨by rfl,?_,?_⟩
 ·intro i hi;have hi':i<d.rq.length:=by omega
  have hy:(kS i (d.rq.map yK))[i]? =some (yK (d.rq.getD i default)):=zM yK d.rq i hi';have e:=kG yK d.rq i hi';have c2:=cM (d.rq.getD i default).legs (hb.g (d.rq.getD i default) bY);generalize (d.rq.getD i default)=t at *;generalize kS i (d.rq.map yK)=xs at *;generalize kS (i+1) (d.rq.map yK)=ys at *;subst e;refine zU c2 ?_;rfl
 ·(refine zU k3 ?_)
  refine zP ((d.dr.map kL).length) [1002,1,2,1001] [1,2,1001] [1,2,38] [39,1,2,38] rfl (λi T U=>⟨(39,iA i)::T,(1002,.arr 1 (kS i (d.dr.map kL)) false)::U⟩) ?_;(conv=>whnf);refine⟨by rfl,?_,?_⟩
  ·intro i hi;have hi':i<d.dr.length:=by omega
   have hy:(kS i (d.dr.map kL))[i]? =some (kL (d.dr.getD i default)):=zM kL d.dr i hi';have e:=kG kL d.dr i hi';have c2:=wA (d.dr.getD i default) (by have:=hb.e (d.dr.getD i default) bY;omega);generalize (d.dr.getD i default)=t at *;generalize kS i (d.dr.map kL)=xs at *;generalize kS (i+1) (d.dr.map kL)=ys at *;subst e;refine zU c2 ?_;rfl
  ·(refine zU k4 ?_)
   refine zH [] rfl rfl ?_ rfl
   show wL d.rg (.sl false ((d.rq.map yK).take (d.rq.map yK).length)) (.sl false ((d.dr.map kL).take (d.dr.map kL).length)) (zD bA d.au)=_
   rw[zXe,zXe];rfl
theorem jA (d:xP) (hb:eU d):yR [zJ d] [] (zJ d) []:=yG
def zG1 (t:Tk):Bool:=decide ((t.sec.length:Int)=8/\0<=t.cls/\t.cls<=3/\0<=t.til/\t.til<=2147483648)
def soF (t:Tk):Bool:=CD t.rights&&zG1 t
theorem KH (t:Tk):zN 297 [xD t] [] (bA (soF t)) []:=by
 have c:=ZU t.rights;have hl:=zA yA t.sec;unfold soF;generalize CD t.rights=v at *;cases v
 ·rw[zY2];refine eM call297 λF hF=>?_
  refine zU c (I2 (λhc=>?_) (λhc=>?_))
  all_goals exact zK
 ·rw[zX1]
  (cases hb:zG1 t with|false=>((refine eM call297 λF hF=>?_);((refine zU c (I5 (λhc hc hc hc=>?_) (λhc hc hc hc=>?_) (λhc hc hc=>?_) (λhc hc=>?_) (λhc=>?_))));all_goals (first|exact zK|(simp only[zG1,zXu]at hb;first|exact AG|exact CE)))|true=>(simp only[zG1,zXi]at hb;(refine eM call297 λF hF=>?_);((refine zU c ?_));all_goals (first|exact zK|exact AG|exact CE)))
def FD (t:Tk):Bool:=decide ((t.sec.length:Int)=0/\t.par= -1/\t.rights=0/\t.cls=0/\t.til=0)
def OM (u:Bool) (t:Tk):AV:= .agg [bA u,zD yA t.sec,iA t.par,iA t.rights,iA t.cls,iA t.til]
theorem zG2 (t:Tk):zN 298 [OM false t] [] (bA (FD t)) []:=by
 have hl:=zA yA t.sec
 (cases hb:FD t with|false=>((refine eM call298 λF hF=>?_);((refine WW (I5 (λhc hc hc hc=>?_) (λhc hc hc hc=>?_) (λhc hc hc=>?_) (λhc hc=>?_) (λhc=>?_))));all_goals (first|exact zK|(simp only[FD,zXu]at hb;first|exact AG|exact CE)))|true=>(simp only[FD,zXi]at hb;(refine eM call298 λF hF=>?_);((refine WW ?_));all_goals (first|exact zK|exact AG|exact CE)))
def QL (l:List Tk) (s:Int):Bool:=if(l.getD s.toNat default).used=true then soF (l.getD s.toNat default)&&deF l s 0&&(wiF (l.getD s.toNat default).rights (l.getD (l.getD s.toNat default).par.toNat default).rights&&decide ((l.getD s.toNat default).cls<=(l.getD (l.getD s.toNat default).par.toNat default).cls)&& !laF (l.getD s.toNat default).til (l.getD (l.getD s.toNat default).par.toNat default).til)
 else FD (l.getD s.toNat default)
def MG (t:Tk):Bool:=t.used&&decide (t.par= -1/\t.til=0)&&soF t
def NC (l:List Tk):Bool:=decide ((l.length:Int)=8)&&(MG (l.getD 0 default)&&(List.range 7).all λi=>QL l ((i:Int)+1))
theorem zRz {l:List Tk} {i:Nat} (hi:i<7) (h:QL l ((i:Int)+1)=false):NC l=false:=by
 unfold NC;have:((List.range 7).all λi=>QL l ((i:Int)+1))=false:=zZ7.2 ⟨i,zXz.2 hi,by simp[h]⟩;rw[this];simp
theorem zMx {l:List Tk} {s:Int} (h:deF l s 0=true) (h0:s≠0):fJ l (l.getD s.toNat default).par=true:=by
 unfold deF at h;rw[kV l 7 s]at h
 cases hu:fJ l s<;>rw[hu]at h
 ·simp at h
 ·rw[zYk,List.any_cons]at h;have:(s==0)=false:=by simpa using h0
  rw[this,yAr,kV l 6]at h;cases hp:fJ l (l.getD s.toNat default).par
  ·rw[hp]at h;simp at h
  ·rfl
theorem WM (l:List Tk):zN 280 [zD xD l] [] (bA (NC l)) []:=by
 have hll:=zA xD l;by_cases h8:(l.length:Int)=8
 case neg=>
  rw[show NC l=false by unfold NC;rw[zXj h8];rfl];refine eM call280 λF hF=>?_
  refine WW ?_;exact zK
 have hy0:=yM xD l 0 zB zB
 change (l.map xD)[0]? =some (xD (l.getD 0 default))at hy0
 cases hr:MG (l.getD 0 default)
 ·rw [show NC l=false by unfold NC;rw[hr];simp];have c:=KH (l.getD 0 default);unfold MG at hr;generalize l.getD 0 default=t at *;generalize soF t=q at *;cases hu:t.used
  ·rw[show xD t=OM false t by unfold xD OM;rw[hu]]at *; unfold OM at *;refine eM call280 λF hF=>?_
   refine zU c ?_;exact zK
  ·rw[show xD t=OM true t by unfold xD OM;rw[hu]]at *; unfold OM at *;by_cases h1:t.par= -1
   ·by_cases h2:t.til=0
    ·rw[hu,zXg ⟨h1,h2⟩,zX1,zX1]at hr;subst hr;refine eM call280 λF hF=>?_
     refine zU c ?_;exact zK
    ·(refine eM call280 λF hF=>?_)
     refine zU c ?_;exact zK
   ·(refine eM call280 λF hF=>?_)
    refine zU c ?_;exact zK
 have c0:=KH (l.getD 0 default);have hr':=hr;unfold MG at hr';simp only[zXo,zXi]at hr';obtain⟨⟨hu,h1,h2⟩,h3⟩:=hr';have hy0':=hy0;rw[h3]at c0;rw[show xD (l.getD 0 default)=OM true (l.getD 0 default) by unfold xD OM;rw[hu]]at hy0' c0;unfold OM at hy0' c0;clear hy0;generalize ht0:l.getD 0 default=t0 at hy0' c0 h1 h2;refine eM call280 λF hF=>?_
 refine zU c0 ?_;refine xT (7) [] [] [0] [4,0] rfl (λi T U zs=>(∀s:Nat,s<i->QL l ((s:Int)+1)=true)/\zs=⟨(4,iA ((i:Int)+1))::T,U⟩) ?_;(conv=>whnf);refine⟨?_,?_,?_⟩
 ·exact⟨λs hs=>absurd hs (zZq _),rfl⟩
 ·rintro i st hi ⟨hp,rfl⟩
  have next:QL l ((i:Int)+1)=true->∀s:Nat,s<i+1->QL l ((s:Int)+1)=true:=λh s hs=>by
   by_cases hsi:s=i
   ·subst hsi;exact h
   ·exact hp s zB
  have stop:=λh=>zRz (l:=l) hi h
  have hy:=yM xD l ((i:Int)+1) zB zB;have c1:=KH (l.getD ((i:Int)+1).toNat default);have c2:=zG2 (l.getD ((i:Int)+1).toNat default);have c3:=zHo l ((i:Int)+1) 0;have hpar:=zMx (l:=l) (s:=(i:Int)+1);have htok:QL l ((i:Int)+1)=_:=rfl
  conv at htok=>rhs;unfold QL
  generalize l.getD ((i:Int)+1).toNat default=t at *;generalize QL l ((i:Int)+1)=tk at *;cases hu:t.used
  ·rw[show xD t=OM false t by unfold xD OM;rw[hu]]at hy;rw[hu,zW8 zS]at htok;rw[<-htok]at c2;unfold OM at hy c2;cases tk
   ·rw[stop rfl];refine zU c2 ?_;exact zK
   ·(refine zU c2 ?_)
    exact⟨next rfl,by rw[Int.natCast_succ];rfl⟩
  ·rw[show xD t=OM true t by unfold xD OM;rw[hu]]at hy c1;rw[hu,zW9 rfl]at htok;unfold OM at hy c1;generalize soF t=q1 at *;generalize hq2:deF l ((i:Int)+1) 0=q2 at *;cases q1
   ·rw[zY2,zY2]at htok;rw[stop htok];refine zU c1 ?_;exact zK
   cases q2
   ·rw[zX1,zY2]at htok;rw[stop htok];refine yO (wW c1 c3) ?_;exact zK
   rw[zX1,zX1]at htok;obtain⟨p0,p1⟩:=XE (hpar rfl zB);have hyp:=yM xD l t.par p0 p1;generalize l.getD t.par.toNat default=p at *;have c4:=FQ t.rights p.rights;have c5:=zBe t.til p.til;generalize wiF t.rights p.rights=q3 at *;generalize laF t.til p.til=q4 at *;cases q3
   ·rw[zY2,zY2]at htok;rw[stop htok];refine yO (gU c1 c3 c4) ?_;exact zK
   by_cases hcl:t.cls<=p.cls
   ·rw[zXg hcl,zX1,zX1]at htok;cases q4
    ·(refine yO (aB c1 c3 c4 c5) ?_)
     exact⟨next htok,by rw[Int.natCast_succ];rfl⟩
    ·rw[stop htok];refine yO (aB c1 c3 c4 c5) ?_;exact zK
   ·rw[zXj hcl,zX1,zY2]at htok;rw[stop htok];refine yO (aB c1 c3 c4 c5) ?_;exact zK
 ·rintro st ⟨hp,rfl⟩
  rw[show NC l=true by
   unfold NC;rw[zXg h8,hr,zX1,zX1]
   exact zXm.2 λi hi=>hp i (zXz.1 hi)]
  refine WW ?_;exact zK
def ldF (l:List Tk):Nat->Int->Int->Bool
 |0,_,_=>false
 |n+1,f,t=>fJ l f&&(f==t||ldF l n (l.getD f.toNat default).par t)
theorem zG3 (l:List Tk) (n:Nat) (f t:Int):ldF l (n+1) f t=(fJ l f&&(f==t||ldF l n (l.getD f.toNat default).par t)):=rfl
theorem zG4 (l:List Tk) (t:Int):∀(n:Nat) (f:Int),ldF l n f t=(YN l n f).any λa=>a==t
 |0,_=>rfl
 |n+1,f=>by
  rw[zG3,kV];cases fJ l f
  ·rfl
  ·rw[zYk,List.any_cons,zG4 l t n,zX1]
def TK (l:List Tk) (s:Nat):Bool:=if(l.getD s default).used=true then soF (l.getD s default)&&ldF l (l.length+1) s 0&&(decide (s=0)||(wiF (l.getD s default).rights (l.getD (l.getD s default).par.toNat default).rights&&decide ((l.getD s default).cls<=(l.getD (l.getD s default).par.toNat default).cls)&& !laF (l.getD s default).til (l.getD (l.getD s default).par.toNat default).til))
 else FD (l.getD s default)
def QM (t:Tk):Bool:=t.used&&decide (t.par= -1/\t.til=0)
def zG5 (l:List Tk):Bool:=decide ((l.length:Int)=8)&&(QM (l.getD 0 default)&&(List.range l.length).all λi=>TK l i)
theorem MH (l:List Tk):yR [zD xD l] [] (bA (zG5 l)) []:=yG
theorem zMy (l:List Tk) (s:Int) (hn:l.length=8):yR [zD xD l,iA s] [] (iA (eX (λi=>ldF l (l.length+1) i s) 8)) []:=yG
def frB (p:Nat->Bool) (l:List Tk) (n:Nat):List Tk:=(List.range l.length).map λj=>if j<n/\p j=true then frT else l.getD j default
theorem zMz (l:List Tk) (hb:HE l) (p:Nat->Bool) (hn:l.length=8):yR [zD xD l,iA (eX p 8)] [] (zD xD (frB p l 8)) []:=yG
theorem zG6:∀(n:Nat) (f:Nat->Nat),(∀i,i<=n->f i<n)->∃i j,i<j/\j<=n/\f i=f j
 |0,f,h=>absurd (h 0 (zXc _)) (zZq _)
 | n+1,f,h=>by
  by_cases hx:∃i,i<=n/\f i=f (n+1)
  ·obtain⟨i,h1,h2⟩:=hx;exact⟨i,n+1,zB,zXc _,h2⟩
  ·obtain⟨i,j,h1,h2,h3⟩:=zG6 n (λi=>if f i<f (n+1)then f i else f i-1) λi hi=>by
    have h4:=h i zB;have h5:=h (n+1) (zXc _);have h6:f i≠f (n+1):=λe=>hx ⟨i,hi,e⟩
    split<;>omega
   refine⟨i,j,h1,zB,?_⟩;have h4:f i≠f (n+1):=λe=>hx ⟨i,zB,e⟩
   have h5:f j≠f (n+1):=λe=>hx ⟨j,h2,e⟩
   split at h3<;>split at h3<;>omega
def par (l:List Tk) (s:Int):Int:=(l.getD s.toNat default).par
def FE (l:List Tk) (s:Int):Nat->Int
 |0=>s
 |k+1=>par l (FE l s k)
theorem aP (l:List Tk) (s:Int):∀k,FE l s (k+1)=FE l (par l s) k
 |0=>rfl
 |k+1=>by rw[FE,aP l s k];rfl
theorem KI (l:List Tk) (s:Int) (i:Nat):∀k,FE l s (i+k)=FE l (FE l s i) k
 |0=>rfl
 |k+1=>by rw[<-yB9,FE,KI l s i k];rfl
theorem cX (l:List Tk) (t:Int):∀(n:Nat) (s:Int),t∈YN l n s↔∃k,k<n/\(∀j,j<=k->fJ l (FE l s j)=true)/\FE l s k=t
 |0,s=>by simp[YN]
 | n +1,s=>by
  rw[kV];constructor
  ·intro h;cases hu:fJ l s
   ·rw[hu]at h;simp at h
   ·rw[hu,zYk,zYq]at h
    rcases h with rfl|h
    ·exact⟨0,zB,λj hj=>by rw[Nat.le_zero.1 hj];exact hu,rfl⟩
    ·obtain⟨k,h1,h2,h3⟩:=(cX l t n _).1 h;refine⟨k+1,zB,λj hj=>?_,by rw[aP];exact h3⟩
     cases j with
     |zero=>exact hu
     |succ j=>rw[aP];exact h2 j zB
  ·rintro⟨k,h1,h2,h3⟩;have hu:=h2 0 (zXp _)
   change fJ l s=true at hu
   rw[hu,zYk,zYq]
   cases k with
   |zero=>exact .inl h3.symm
   |succ k=>
    rw[aP]at h3;refine .inr ((cX l t n _).2 ⟨k,zB,λj hj=>?_,h3⟩);have:=h2 (j+1) zB;rw[aP]at this;exact this
theorem zPm {l:List Tk} (h8:l.length=8) (s t:Int) (n:Nat) (h:t∈YN l n s):t∈YN l 8 s:=by
 obtain⟨k,_,h2,h3⟩:=(cX l t n s).1 h;clear h
 suffices ∀m k,k<=m->(∀j,j<=k->fJ l (FE l s j)=true)->FE l s k=t->t∈YN l 8 s from this k k (zXc _) h2 h3
 intro m
 induction m with
 |zero=>intro k hk h2 h3;exact(cX l t 8 s).2 ⟨k,zB,h2,h3⟩
 | succ m ih=>
  intro k hk h2 h3;by_cases h:k<8
  ·exact(cX l t 8 s).2 ⟨k,h,h2,h3⟩
  obtain⟨i,j,h4,h5,h6⟩:=zG6 8 (λi=>(FE l s i).toNat) λi hi=>by
   have:=XE (h2 i zB);omega
  have e1:=XE (h2 i zB);have e2:=XE (h2 j zB);have e3:FE l s i=FE l s j:=by omega
  have e4:∀r,FE l s (i+r)=FE l s (j+r):=λr=>by rw[KI,KI,e3]
  refine ih (i+(k-j)) zB (λr hr=>h2 r zB) ?_;rw[e4,show j+(k-j)=k by omega];exact h3
theorem zG7 (l:List Tk) {t s:Int} {n m:Nat} (hnm:n<=m) (h:t∈YN l n s):t∈YN l m s:=by
 obtain⟨k,h1,h2,h3⟩:=(cX l t n s).1 h;exact(cX l t m s).2 ⟨k,zB,h2,h3⟩
inductive Rch (l:List Tk):Int->Int->Prop
 |base (s:Int):fJ l s=true->Rch l s s
 |step (s t:Int):fJ l s=true->Rch l (par l s) t->Rch l s t
theorem BL (l:List Tk) (t:Int):∀(n:Nat) (s:Int),t∈YN l n s->Rch l s t
 |0,s,h=>by simp[YN]at h
 | n+1,s,h=>by
  rw[kV]at h;cases hu:fJ l s
  ·rw[hu]at h;simp at h
  ·rw[hu,zYk,zYq]at h
   rcases h with rfl|h
   ·exact .base _ hu
   ·exact .step _ _ hu (BL l t n _ h)
theorem zA6 {l:List Tk} {s t:Int} (h:Rch l s t):∃n,t∈YN l n s:=by
 induction h with
 |base s hu=>exact⟨1,by rw[kV,hu,zYk];exact List.mem_cons_self⟩
 |step s t hu _ ih=>
  obtain⟨n,hn⟩:=ih;exact⟨n+1,by rw[kV,hu,zYk];exact List.mem_cons_of_mem _ hn⟩
theorem KJ {l:List Tk} (h8:l.length=8) (s t:Int):ldF l 9 s t=true↔Rch l s t:=by
 rw[zG4,zYv];constructor
 ·rintro⟨x,h1,h2⟩;rw[zYr]at h2;subst h2;exact BL l _ _ _ h1
 ·intro h;obtain⟨n,hn⟩:=zA6 h;exact⟨t,zG7 l zB (zPm h8 s t n hn),by simp⟩
theorem zR0 {l:List Tk} (h8:l.length=8) (s t:Int):deF l s t=true↔Rch l s t:=by
 unfold deF;rw[zYv];constructor
 ·rintro⟨x,h1,h2⟩;rw[zYr]at h2;subst h2;exact BL l _ _ _ h1
 ·intro h;obtain⟨n,hn⟩:=zA6 h;exact⟨t,zPm h8 s t n hn,by simp⟩
theorem zPn {l:List Tk} (h8:l.length=8) (s t:Int):deF l s t=ldF l 9 s t:=by
 rw[yBx,zR0 h8,KJ h8]
theorem zG8 (l:List Tk):NC l=zG5 l:=by
 unfold NC zG5;by_cases h8:l.length=8
 case neg=>rw[zXj zB];rfl
 rw[zXg zB,zX1,zX1,h8,yBx];simp only[zXo,zXm,zXz]
 have hs:∀i:Nat,i<7->(QL l ((i:Int)+1)=TK l (i+1)):=λi hi=>by
  unfold QL TK;rw[zPn h8,h8,show(((i+1:Nat):Int)=(i:Int)+1) by omega,show((i:Int)+1).toNat=i+1 by omega,zXj (by omega:¬i+1=0),yAr]
 constructor
 ·rintro⟨h1,h2⟩;unfold MG at h1;simp only[zXo,zXi]at h1;obtain⟨⟨u,p,q⟩,r⟩:=h1;refine⟨by unfold QM;rw[u,p,q];rfl,λi hi=>?_⟩
  cases i with
  |zero=>
   unfold TK;rw[zW9 u,r,h8];have:ldF l 9 ((0:Nat):Int) 0=true:=(KJ h8 _ _).2 (.base _ (by unfold fJ;rw[zXg zB];exact u));rw[show(8+1)=9 from rfl,this];rfl
  |succ i=>rw[<-hs i zB];exact h2 i zB
 ·rintro⟨h1,h2⟩;have h3:=h2 0 zB;unfold QM at h1;simp only[zXo,zXi]at h1;obtain⟨u,p,q⟩:=h1;unfold TK at h3;rw[zW9 u]at h3;simp only[zXo]at h3;refine⟨by unfold MG;rw[u,p,q,h3.1.1];rfl,λi hi=>by rw[hs i hi];exact h2 (i+1) zB⟩
structure TV (l:List Tk):Prop where
 n:l.length=8
 u:(l.getD 0 default).used=true
 p:(l.getD 0 default).par= -1
 e:(l.getD 0 default).til=0
 f:∀i,i<8->(l.getD i default).used=false->FD (l.getD i default)=true
 s:∀i,i<8->(l.getD i default).used=true->soF (l.getD i default)=true/\Rch l i 0/\(i≠0->wiF (l.getD i default).rights (l.getD (l.getD i default).par.toNat default).rights=true/\(l.getD i default).cls<=(l.getD (l.getD i default).par.toNat default).cls/\laF (l.getD i default).til (l.getD (l.getD i default).par.toNat default).til=false)
theorem zR1 (l:List Tk):zG5 l=true↔TV l:=by
 unfold zG5;simp only[zXo,zXi,zXm,zXz];constructor
 ·rintro⟨h8,h1,h2⟩;have h8:l.length=8:=by omega
  unfold QM at h1;simp only[zXo,zXi]at h1;refine⟨h8,h1.1,h1.2.1,h1.2.2,λi hi hu=>?_,λi hi hu=>?_⟩
  ·have:=h2 i zB;unfold TK at this;rw[zW8 (by rw[hu];simp)]at this;exact this
  ·have:=h2 i zB;unfold TK at this;rw[zW9 hu,h8]at this;simp only[zXo,zZe,zXi,zZl]at this;obtain⟨⟨a,b⟩,c⟩:=this;refine⟨a,(KJ h8 _ _).1 b,λh0=>?_⟩
   rcases c with c|c
   ·exact absurd c h0
   ·exact⟨c.1.1,c.1.2,c.2⟩
 ·rintro⟨h8,u,p,e,f,s⟩;refine⟨zB,by unfold QM;rw[u,p,e];rfl,λi hi=>?_⟩;unfold TK;cases hu:(l.getD i default).used
  ·rw[zW8 zS];exact f i zB hu
  ·rw[zW9 rfl,h8];obtain⟨a,b,c⟩:=s i zB hu;simp only[zXo,zZe,zXi,zZl];refine⟨⟨a,(KJ h8 _ _).2 b⟩,?_⟩;by_cases h0:i=0
   ·exact .inl h0
   ·have c:=c h0;exact .inr ⟨⟨c.1,c.2.1⟩,c.2.2⟩
theorem Rch.us {l:List Tk} {s t:Int} (h:Rch l s t):fJ l s=true:=by
 cases h<;>assumption
theorem Rch.trans {l:List Tk} {s t u:Int} (h:Rch l s t) (g:Rch l t u):Rch l s u:=by
 induction h with
 |base _ _=>exact g
 |step s t hu _ ih=>exact .step _ _ hu (ih g)
def jK (n a b:Int):Bool:=decide (a<=n/\n<=b)
theorem vS (n a b:Int):zN 141 [iA n,iA a,iA b] [] (bA (jK n a b)) []:=by
 (cases hb:jK n a b with|false=>((refine eM call141 λF hF=>?_);((refine WW (I2 (λhc=>?_) (λhc=>?_))));all_goals (first|exact zK|(simp only[jK,zXu]at hb;first|exact AG|exact CE)))|true=>(simp only[jK,zXi]at hb;(refine eM call141 λF hF=>?_);((refine WW ?_));all_goals (first|exact zK|exact AG|exact CE)))
structure AgV (a:Ag):Prop where
 s:(a.sec.length:Int)=8
 l:(a.lim.length:Int)=4
 li:∀n∈a.lim,0<=n/\n<=8
 r:0<=a.rights/\a.rights<=63
 c:0<=a.cls/\a.cls<=3
 q:0<=a.req/\a.req<=4
 e:1<=a.ses/\a.ses<=2
 b:0<=a.burst/\a.burst<=1000
 t:0<=a.rate/\a.rate<=a.burst
theorem zPo {n a b:Int} (h:a<=n/\n<=b):jK n a b=true:=zXg h
theorem zC6 (a:Ag) (h:AgV a):zN 143 [vH a] [] (bA true) []:=by
 obtain⟨h1,h2,h3,h4,h5,h6,h7,h8,h9⟩:=h;have hs:=zA yA a.sec;have hl:=zA iA a.lim;have c1:=vS a.rights 0 63;have c2:=vS a.cls 0 3;have c3:=vS a.req 0 4;have c4:=vS a.ses 1 2;have c5:=vS a.burst 0 1000;have c6:=vS a.rate 0 a.burst;rw[zPo zB]at c1 c2 c3 c4 c5 c6;refine eM call143 λF hF=>?_
 refine WW ?_;refine yB (a.lim) [1] [1] [1,16,17] [18,1,16,17] rfl (λi pre T U=>⟨(18,iA i)::T,U⟩) ?_;(conv=>whnf);refine⟨by rfl,?_,?_⟩
 ·intro i pre x post hx hi;have hy:=yP iA hx hi;have hlt:=yF hx hi;have hm:=h3 x (xV hx);have c:=vS x 0 8;rw[zPo zB]at c;clear hx;refine zU c ?_;rfl
 ·(refine yO (zt6 c1 c2 c3 c4 c5 c6) ?_)
  exact zK
def a0:Ag:=⟨dK 1,1,0,[1,1,1,1],0,1,0,2⟩
theorem kU (n:Int):(dK n).length=8:=by simp[dK]
theorem zM0 (n:Int):0<=IntKind.u8.wrap n/\IntKind.u8.wrap n<256:=by
 have:IntKind.u8.wrap n=n % 256:=rfl;omega
theorem ZR (n:Int):BY (dK n):=λx hx=>by
 unfold dK at hx;rw[zYo]at hx;obtain⟨i,_,rfl⟩:=hx;exact zM0 _
theorem KL {g s:Int} {l:List Int} (hg:0<=g/\g<256) (hs:0<=s/\s<256) (hl:BY l):BY (g::s::l):=λx hx=>by
 simp only[zYq]at hx
 rcases hx with rfl|rfl|hx
 ·exact hg
 ·exact hs
 ·exact hl x hx
theorem zVi (n:Int) (a:Ag) (h:AgV a):FU (FI n a):=by
 have h1:=h.s;have h2:=h.l;refine⟨⟨by simp[FI,tkN],λt ht=>?_⟩,by unfold FI;dsimp only;omega,by unfold FI;dsimp only;omega,by simp[FI]⟩;simp only[FI,tkN,zYq]at ht
 rcases ht with rfl|ht
 ·dsimp only;omega
 ·rw[List.eq_of_mem_replicate ht];simp[frT]
section
open Go.RowKit
def LIn (k:IntKind) (w:World) (A:Option Addr) (n c:Nat) (xs:List Int):Prop:=
 xs.length=n/\n<=c/\c<=9223372036854775807/\(0<n->∃b o,A=some ⟨b,o,none⟩/\b<w.heap.size/\∀j,j<n->w.cell? ⟨b,o+j,none⟩=some (.int k (xs.getD j 0)))
theorem LIn.of_row {k:IntKind} {w:World} {a:Option Addr} {len cap:Nat} {zs:List Int}
  (h:(a=none/\len=0/\cap=0/\zs=[])∨∃x,a=some x/\len<=cap/\cap<=maxLen/\zs.length=cap/\(∀i,i<zs.length->w.cell? (x.add i)=some (.int k (zs.getD i 0)))/\∀n∈zs,(Lit.int k n).wf=true):
  LIn k w a len cap (zs.take len):=by
 rcases h with⟨rfl,rfl,rfl,rfl⟩|⟨x,rfl,h1,h2,h3,h4,_⟩
 ·exact⟨rfl,zXc _,zB,λh=>absurd h zB⟩
 ·refine⟨by simp;omega,h1,by unfold maxLen at h2;omega,λhn=>?_⟩;obtain⟨b,off,spot⟩:=x;have hc:=h4 0 zB;have hspot:spot=none:=by simpa [Addr.add]using World.cell?_spot hc
  subst hspot;have hc0:w.cell? ⟨b,off,none⟩=some (.int k (zs.getD 0 0)):=by simpa [Addr.add]using hc
  refine⟨b,off,rfl,World.block_lt_of_cell? w _ hc0,λj hj=>?_⟩;have hcj:=h4 j zB
  have e:(⟨b,off,none⟩:Addr).add j=⟨b,off+j,none⟩:=by unfold Addr.add;split<;>simp_all
  rw[e]at hcj;rw[hcj];have hjz:j<zs.length:=by omega
  simp[List.getD,hj,hjz]
theorem LIn.repf {k:IntKind} {w:World} {A:Option Addr} {n c:Nat} {xs:List Int} (h:LIn k w A n c xs) {D:Nat->Prop} (hD:∀b,¬D b):xE w D (.sl false (xs.map λn=> .s (.int k n))) (.slice A n c):=by
 obtain⟨rfl,h2,h3,h4⟩:=h
 cases hx:xs with
 |nil=>exact .nil A c
 | cons x r=>
  rw[<-hx];obtain⟨b,o,rfl,hb,hc⟩:=h4 (by rw[hx];simp)
  have:=xE.sl (w:=w) (D:=D) false (xs.map λn=>AV.s (.int k n)) b o 1 c (λi _=> .int k (xs.getD i 0)) (by rw[hx];simp)
   ⟨hb,hD b,zXc _,by simp[cC];omega,λi y hy=>by
    rw[zXd,zXn]at hy;obtain⟨z,_,rfl⟩:=hy
    rfl,λi j hi hj=>by
    obtain rfl:j=0:=by omega
    rw[Nat.mul_one,yAd]
    exact hc i EQ,λ_ _ _ _=>rfl⟩ MU (λi y j v hy hv=>by
    rw[zXd,zXn]at hy;obtain⟨z,hz,rfl⟩:=hy
    cases j with
    |zero=>
     simp[AV.cells]at hv;subst hv;have:xs.getD i 0=z:=by simp[List.getD,hz]
     rw[this];exact .s _
    |succ j=>simp[AV.cells]at hv)
  simpa using this
theorem xO.law {P:Program} {f:Nat} {args:List AV} (h:xO P f args [] (.s (.bool true)) []) {cargs:Array Value} {w:World} (hl:cargs.size=args.length)
  (hr:∀(i:Nat) v,args[i]? =some v->xE w (xF (λ_=>False) λ_=>[]) v (cargs.getD i undef)):Calls P f cargs w λe w'=>e= .returned (.bool true)/\Below w.heap.size w w':=by
 have H:kI (λ_=>False) (zC []) (λ_=>[]) w:=⟨λk e he=>by simp[zC]at he,λ_ _=>rfl,λk k' b n n' h1 _=>by simp at h1,λk b n h1=>by simp at h1,λb hd=>by
  rcases hd with hd|⟨_,_,hd⟩
  ·exact hd.elim
  ·simp at hd⟩
 refine Calls.mono (h.sim (λ_=>False) w (λ_=>[]) cargs hl H λi v hv=> .fz _ _ (hr i v hv)) ?_;rintro e w' ⟨c,β',rfl,G,hc⟩;have:c= .bool true:=hc.s_inv;subst this;exact⟨rfl,G.os,G.tape,G.output,G.size,λk hk=>G.keep k hk λ_ _ hm=>by simp at hm⟩
theorem dom0:∀b,¬xF (λ_=>False) (λ_=>[]) b:=λb hd=>by
 rcases hd with hd|⟨_,_,hd⟩
 ·exact hd
 ·simp at hd
def aQ (w:World):List AV->List Value->Prop
 | [],[]=>True
 |a::r,c::s=>xE w (xF (λ_=>False) λ_=>[]) a c/\aQ w r s
 |_,_=>False
theorem aQ.len {w:World}:∀{l:List AV} {s:List Value},aQ w l s->s.length=l.length
 | [],[],_=>rfl
 |_::_,_::_,h=>by simp[aQ.len h.2]
 | [],_::_,h=>h.elim
 |_::_,[],h=>h.elim
theorem aQ.at {w:World}:∀{l:List AV} {s:List Value},aQ w l s->∀(i:Nat) v,l[i]? =some v->xE w (xF (λ_=>False) λ_=>[]) v (s.getD i undef)
 | [],[],_,i,v,hv=>by simp at hv
 |a::_,c::_,h,0,v,hv=>by simp at hv;subst hv;exact h.1
 |_::_,_::_,h,i+1,v,hv=>by simpa using aQ.at h.2 i v ER
 | [],_::_,h,_,_,_=>h.elim
 |_::_,[],h,_,_,_=>h.elim
theorem xO.lawL {P:Program} {f:Nat} {args:List AV} (h:xO P f args [] (.s (.bool true)) []) {cs:List Value} {w:World} (hr:aQ w args cs):Calls P f cs.toArray w λe w'=>e= .returned (.bool true)/\Below w.heap.size w w':=
 h.law (by simpa using hr.len) λi v hv=>by simpa [zX5,List.getD]using hr.at i v hv
theorem LIn.le {k:IntKind} {w:World} {A:Option Addr} {n c:Nat} {xs:List Int} (h:LIn k w A n c xs):xs.length<=9223372036854775807:=by
 obtain⟨h1,h2,h3,_⟩:=h;omega
end
def rem (d:Dk):Nat:=d.l.length-d.a
theorem wM (d:Dk):rem (ad d)<=rem d:=by unfold ad;split;(unfold rem;dsimp only;omega);exact zXc _
theorem zR2 (d:Dk) (h:d.a<d.l.length):rem (ad d)+1<=rem d:=by unfold ad;rw[yCn h];unfold rem;dsimp only;omega
theorem zVj (l:List Int) (hl:l.length<=9223372036854775807):zN 9 [zD iA l] [] (bA (decide (l.length<=300))) []:=by
 have hll:=zA iA l;by_cases h:l.length<=300
 ·rw[zXg h];refine eM call9 λF hF=>?_
  refine WW ?_;exact zK
 ·rw[zXj h];refine eM call9 λF hF=>?_
  refine WW ?_;exact zK
theorem zG9 (d:Dk):zN 21 [.ptr 1000 0 0] [(1000,dX d)] (bA (decide (d.a<d.l.length))) [(1000,dX d)]:=by
 have hl:(d.l.map iA).length=d.l.length:=by simp
 refine eM call21 λF hF=>?_
 (repeat' (first|refine ZV ?_|refine xQ (λhc=>?_) (λhc=>?_)|fail))
 refine zL [1000] rfl rfl (zX7 bA ?_) rfl;simp[qZ]
structure TkP (l:List Tk):Prop where
 n:l.length=8
 y:∀t∈l,BY t.sec/\t.sec.length<=8/\(t.used=true->t.sec.length=8/\CD t.rights=true/\0<=t.til/\t.til<=2147483648)
 v:TV l
theorem TkP.b {l:List Tk} (h:TkP l):HE l:=⟨by have:=h.n;omega,λt ht=>by have:=(h.y t ht).2.1;omega⟩
def cL (l:List Vh) (id:Int):Vh:=(l.find? λv=>v.id==id).getD ⟨0,0⟩
def UL (l:List Vh) (id:Int):Bool:=l.any λv=>v.id==id
theorem zC7 {l pre post:List Vh} {x:Vh} {id:Int} (h:l=pre++x::post) (hn:∀y∈pre,y.id≠id) (hx:x.id=id):cL l id=x/\UL l id=true:=by
 subst h;have h1:pre.find? (λv=>v.id==id)=none:=yB0.2 λy hy=>by simpa using hn y hy
 refine⟨?_,by simp[UL,hx]⟩;unfold cL;rw[yCv,h1];simp[hx]
theorem BM {l:List Vh} {id:Int} (hn:∀y∈l,y.id≠id):cL l id=⟨0,0⟩/\UL l id=false:=by
 have h1:l.find? (λv=>v.id==id)=none:=yB0.2 λy hy=>by simpa using hn y hy
 exact⟨by unfold cL;rw[h1];rfl,by simpa [UL]using hn⟩
theorem zM1 (l:List Vh) (id:Int) (hn:l.length<=1000000):yR [zD vZ l,iA id] [] (.tup [vZ (cL l id),bA (UL l id)]) []:=yG
def kR (l:List Vh) (c:Int):Nat:=(l.filter λv=>v.cls==c).length
theorem zHa (l:List Vh) (c:Int) (hn:l.length<=1000000):yR [zD vZ l,iA c] [] (iA (kR l c)) []:=yG
def UM (l:List Vh) (i:Nat):Bool:=decide (0<=(l.getD i default).id/\(l.getD i default).id<=4294967295/\0<=(l.getD i default).cls/\(l.getD i default).cls<=3/\(0<i->(l.getD (i-1) default).id<(l.getD i default).id))
def HC (l:List Vh):Bool:=((List.range l.length).all λi=>UM l i)&&decide ((l.length:Int)<=8)
theorem zR3 {l:List Vh} {i:Nat} (hi:i<l.length) (h:UM l i=false):HC l=false:=by
 unfold HC;have:((List.range l.length).all λi=>UM l i)=false:=zZ7.2 ⟨i,zXz.2 hi,by simp[h]⟩;rw[this];simp
theorem zC8 (l:List Vh) (hn:l.length<=1000000):yR [zD vZ l] [] (bA (HC l)) []:=yG
def hG (k v:Int):Ms:=⟨14,[],[k,v],[]⟩
theorem KM (k v:Int):zN 216 [iA k,iA v] [] (zY (hG k v)) []:=by
 refine eM call216 λF hF=>?_
 refine WL ?_;exact zK
def KN (l:List Tk):Nat:=(l.filter λt=>!t.used).length
def bR (d:xP):Ms:=⟨20,[],[(KN d.rg.tk:Int),8-(d.rg.vh.length:Int),d.rg.ag.req-(d.rq.length:Int),d.rg.bk.level],[]⟩
theorem zC9 (pre:List Tk) (x:Tk):KN (pre++[x])=KN pre+(if x.used=true then 0 else 1):=by
 unfold KN;rw[yAz,zXb]
 cases hu:x.used<;>simp[hu]
theorem zM2 (d:xP) (hb:eU d) (h0:0<=d.rg.ag.req) (h1:d.rg.ag.req<=1000):yR [zJ d] [] (zY (bR d)) []:=yG
theorem BN (d:xP) (k now:Int) (hk1:k≠1) (hk9:k≠9) (hb:eU d) (h0:0<=d.rg.ag.req) (h1:d.rg.ag.req<=1000):zN 217 [zJ d,iA k,iA now] [] (zY (bR d)) []:=by
 have hq:=hb.q;have hn:=hb.rg.tk.n;have hv:=hb.rg.v;have hlt:=zA xD d.rg.tk;have hlv:=zA vZ d.rg.vh;have hlq:=zA yK d.rq;unfold bR;rw[<-hlv,<-hlq];unfold zJ wL;refine eM call217 λF hF=>?_
 refine WW ?_;refine yB (d.rg.tk) [3,6] [3,6] [3,6,45,46] [10,47,3,6,45,46] rfl (λi pre T U=>⟨(10,iA (KN pre))::(47,iA i)::T,U⟩) ?_;(conv=>whnf);refine⟨by rfl,?_,?_⟩
 ·intro i pre x post hx hi;have hy:=yP xD hx hi;have hlt2:=yF hx hi;have hle:KN pre<=i:=by rw[<-hi];exact zZn _ _
  have e:=zC9 pre x;clear hx
  cases hu:x.used with
  |true=>
   rw[hu,zW9 rfl,yAd]at e;rw[e];generalize KN pre=m at *;obtain⟨us,sec,par,ri,cl,ti⟩:=x;cases hu;refine WW ?_;rfl
  |false=>
   rw[hu,zW8 zXx]at e;rw[e];generalize KN pre=m at *;obtain⟨us,sec,par,ri,cl,ti⟩:=x;cases hu;refine WW ?_;rfl
 ·(refine WL ?_)
  exact zK
def QN (d:xP) (now:Int):Ms:=⟨13,[],[d.rg.num,now],[]⟩
theorem FF (d:xP) (now:Int):zN 217 [zJ d,iA 1,iA now] [] (zY (QN d now)) []:=by
 unfold QN zJ wL;refine eM call217 λF hF=>?_
 refine WL ?_;exact zK
def fB (l:List Rq):List Int:=(l.map λr=>[r.id,r.til]).flatten
def QO (d:xP):Ms:=⟨19,[],fB d.rq,[]⟩
theorem BO (pre:List Rq) (x:Rq):(fB (pre++[x])).map iA=(fB pre).map iA++[iA x.id,iA x.til]:=by simp[fB]
theorem UN:∀l:List Rq,(fB l).length=2*l.length
 | []=>rfl
 |x::l=>by
  have:=UN l
  show(x.id::x.til::fB l).length=_
  rw[zXl,zXl,zXl];omega
theorem BP (d:xP) (now:Int) (hb:eU d):zN 217 [zJ d,iA 9,iA now] [] (zY (QO d)) []:=by
 have hq:=hb.q;have hlq:=zA yK d.rq;unfold QO zJ wL;refine eM call217 λF hF=>?_
 refine WW ?_;refine vT 7 2 1001 1 rfl rfl rfl rfl rfl ?_;refine yB (d.rq) [7,1001,6] [6] [6,7,26,27] [28,6,7,26,27] rfl (λi pre T U=>⟨(28,iA i)::T,(7,.box [iA 19,.s (.slice none 0 0),.ref 1001 0 ((fB pre).map iA).length,.s (.slice none 0 0)])::(1001,.arr 1 ((fB pre).map iA) true)::U⟩) ?_;(conv=>whnf);refine⟨by rfl,?_,?_⟩
 ·intro i pre x post hx hi;have hy:=yP yK hx hi;have hlt2:=yF hx hi;have hle:=UN pre;have hlm:=zA iA (fB pre);have e:=BO pre x;clear hx;rw[e];generalize (fB pre).map iA=xs at *;refine WW ?_;rfl
 ·(refine WW ?_)
  refine zH [] rfl rfl ?_ rfl
  show AV.agg [iA 19,.sl false [],.sl false (((fB d.rq).map iA).take ((fB d.rq).map iA).length),.sl false []]=_
  rw[zXe];rfl
theorem zM3 (l:List Vh) (id:Int) (hn:l.length<=1000000):zN 266 [zD vZ l,iA id] [] (.tup [vZ (cL l id),bA (UL l id)]) []:=by
 have hl:=zA vZ l;refine eM call266 λF hF=>?_
 refine WW ?_;refine kJ (l) [4] [] [1,4,8,9] [10,1,4,8,9] rfl (λi pre T U zs=>(∀y∈pre,y.id≠id)/\zs=⟨(10,iA i)::T,(4,.box [.s (.int .i64 0),.s (.int .i64 0)])::U⟩) ?_;(conv=>whnf);refine⟨?_,?_,?_⟩
 ·exact⟨by simp,rfl⟩
 ·rintro i pre x post st hx hi ⟨hp,rfl⟩;have hy:=yP vZ hx hi;have hlt:=yF hx hi;by_cases he:x.id=id
  ·obtain⟨e1,e2⟩:=zC7 hx hp he;rw[e1,e2];clear hx;refine WW ?_;exact zK
  ·clear hx;refine WW ?_;exact⟨λy hy=>by simp only[zXs,zX9]at hy;rcases hy with hy|rfl;exact hp y hy;exact he,rfl⟩
 ·rintro st ⟨hp,rfl⟩;obtain⟨e1,e2⟩:=BM hp;rw[e1,e2];refine WW ?_;exact zK
theorem zDa (l:List Rq) (q id:Int) (v:Vh) (life:Int) (x:List Lg) (now:Int) (hv:aC l) (hq:(l.length:Int)<=q) (hb:¬((0<=v.id/\v.id<=4294967295)/\(0<=v.cls/\v.cls<=3))):
  zN 268 [zD yK l,iA q,iA id,vZ v,iA life,zD xU x,iA now] [] (.tup [zD yK [],iA 1]) []:=by
 have c1:=VB l q hv hq;have c2:=QY v.id;have c3:=AI v.cls;by_cases h1:0<=v.id/\v.id<=4294967295
 ·have h2:¬(0<=v.cls/\v.cls<=3):=λh=>hb ⟨h1,h⟩
  rw[zXg h1]at c2;rw[zXj h2]at c3;refine eM call268 λF hF=>?_
  refine yO (gU c1 c2 c3) ?_;exact zK
 ·rw[zXj h1]at c2;refine eM call268 λF hF=>?_
  refine yO (wW c1 c2) ?_;exact zK
structure Qd where
 j:Int
 p:Int
 f:Int
 t:Int
def q4 (q:Qd):List Int:=[q.j,q.p,q.f,q.t]
def YE (qs:List Qd):List Int:=(qs.map q4).flatten
def ND (c:Cf) (now:Int) (q:Qd):Bool:=decide (q.j<(c.js.length:Int))&&(decide (q.p<((c.js.getD q.j.toNat default).ph.length:Int))&&mwB q.j q.p q.f q.t now)
def KO (now:Int) (q:Qd):Lg:=mwF q.j q.p q.f q.t now
def zHb (v:Vh):Bool:=decide ((0<=v.id/\v.id<=4294967295)/\(0<=v.cls/\v.cls<=3))
def sxE (l:List Rq) (q id life:Int) (v:Vh) (x:List Lg):Int:=if(l.length:Int)<=q then(if zHb v=true then BX l q id life x else 1)else 1
def sxL (l:List Rq) (q id life now:Int) (v:Vh) (x:List Lg):List Rq:=if sxE l q id life v x=0 then bX l (cZ id v life x now)else []
theorem zWv (l:List Rq) (q id:Int) (v:Vh) (life:Int) (x:List Lg) (now:Int) (hv:aC l) (n0:0<=now) (n1:now<=1073741824):
  zN 268 [zD yK l,iA q,iA id,vZ v,iA life,zD xU x,iA now] [] (.tup [zD yK (sxL l q id life now v x),iA (sxE l q id life v x)]) []:=by
 unfold sxL sxE;by_cases hq:(l.length:Int)<=q
 ·rw[zW9 hq];by_cases hb:(0<=v.id/\v.id<=4294967295)/\(0<=v.cls/\v.cls<=3)
  ·have hv1:zHb v=true:=zXg hb;rw[zW9 hv1];exact zHv l q id v life x now hv hq hb.1.1 hb.1.2 hb.2.1 hb.2.2 n0 n1
  ·have hv1:¬zHb v=true:=λh=>hb (yBp h)
   rw[zW8 hv1,zW8 xL];exact zDa l q id v life x now hv hq hb
 ·rw[zW8 hq,zW8 xL];exact zDf l q id v life x now hv hq
theorem RF:∀qs:List Qd,(YE qs).length=4*qs.length
 | []=>rfl
 |x::l=>by
  have:=RF l
  show(x.j::x.p::x.f::x.t::YE l).length=_
  simp only[zXl];omega
theorem zM4 (a b:List Qd):YE (a++b)=YE a++YE b:=by simp[YE]
theorem zHc (x y z:Int) (pre post:List Qd) (i:Nat) (hi:pre.length=i):(x::y::z::YE (pre++post)).drop (3+4*i)=YE post:=by
 rw[zM4,show 3+4*i=4*i+1+1+1 by omega,yAo,yAo,yAo,yBm (by rw[RF];omega),yBl (by rw[RF];omega),zZj]
theorem ZS {α:Type} {l:List α} {n:Nat} {r:List α} (h:l.drop n=r) (k:Nat):l[n+k]? =r[k]? :=by rw[<-h,zZb]
theorem zVk (x y z:Int) (pre post:List Qd) (q:Qd) (I:Int) (hI:I=3+4*(pre.length:Int)):
  ((x::y::z::YE (pre++q::post)).map iA)[I.toNat]? =some (iA q.j)/\((x::y::z::YE (pre++q::post)).map iA)[(I+1).toNat]? =some (iA q.p)/\((x::y::z::YE (pre++q::post)).map iA)[(I+2).toNat]? =some (iA q.f)/\((x::y::z::YE (pre++q::post)).map iA)[(I+3).toNat]? =some (iA q.t):=by
 have h:=zHc x y z pre (q::post) pre.length rfl
 refine⟨?_,?_,?_,?_⟩<;>rw[zXd]
 ·rw[show I.toNat=3+4*pre.length+0 by omega,ZS h];rfl
 ·rw[show(I+1).toNat=3+4*pre.length+1 by omega,ZS h];rfl
 ·rw[show(I+2).toNat=3+4*pre.length+2 by omega,ZS h];rfl
 ·rw[show(I+3).toNat=3+4*pre.length+3 by omega,ZS h];rfl
def BQ (c:Cf) (d:xP) (cls id v life now:Int) (qs:List Qd):Int:=
 if UL d.rg.vh v=true then(if cls<(cL d.rg.vh v).cls then 17 else if qs.all (ND c now)=true then sxE d.rq d.rg.ag.req id life (cL d.rg.vh v) (qs.map (KO now))else 8)else 12
def dsL (c:Cf) (d:xP) (cls id v life now:Int) (qs:List Qd):List Rq:=
 if BQ c d cls id v life now qs=0 then bX d.rq (cZ id (cL d.rg.vh v) life (qs.map (KO now)) now)else []
theorem zR4 {α:Type} {p:α->Bool} {pre post:List α} {x:α} (h:p x=false):¬(pre++x::post).all p=true:=by
 simp[h]
theorem zDb (c:Cf) (d:xP) (id v life slot now:Int) (qs:List Qd) (hb:eU d) (hv:aC d.rq) (s0:0<=slot) (s1:slot<(d.rg.tk.length:Int)) (hq:qs.length<=3) (hp:∀q∈qs,0<=q.j/\0<=q.p) (n0:0<=now) (n1:now<=1073741824):
  zN 238 [wT c,zJ d,zD iA (id::v::life::YE qs),iA slot,iA now] [] (.tup [zD yK (dsL c d (d.rg.tk.getD slot.toNat default).cls id v life now qs),iA (BQ c d (d.rg.tk.getD slot.toNat default).cls id v life now qs)]) []:=by
 have hfv:=zM3 d.rg.vh v (by have:=hb.rg.v;omega);have hlt:=zA xD d.rg.tk;have hyt:=yM xD d.rg.tk slot s0 s1;have hsx:=zWv d.rq d.rg.ag.req id (cL d.rg.vh v) life (qs.map (KO now)) now hv n0 n1;have hll:((id::v::life::YE qs).map iA).length=3+4*qs.length:=by simp[RF];omega
 have hlj:=zA wP c.js;have hnt:=hb.rg.tk.n;unfold dsL BQ;unfold wT zJ wL;generalize (d.rg.tk.getD slot.toNat default)=t at *;rw[show xD t= .agg [bA t.used,zD yA t.sec,iA t.par,iA t.rights,iA t.cls,iA t.til]from rfl]at hyt;generalize UL d.rg.vh v=hv1 at*
 cases hv1 with
 |false=>
  rw[zW8 zXx,zW8 xL];refine eM call238 λF hF=>?_
  refine zU hfv ?_;exact zK
 |true=>
 rw[zW9 rfl];generalize cL d.rg.vh v=vh at *;unfold vZ at hfv hsx;by_cases hcl:t.cls<vh.cls
 ·rw[zW9 hcl,zW8 xL];refine eM call238 λF hF=>?_
  refine zU hfv ?_;exact zK
 rw[zW8 hcl];refine eM call238 λF hF=>?_
 refine zU hfv ?_;refine xG 15 1001 5 rfl rfl rfl ?_;refine fW (qs.length) [1001,5,6,12] [5,6,12] [2,4,5,6,12] [15,16,2,4,5,6,12] rfl (λzn T U zs=>∃(pre:List Qd) (post:List Qd),(qs=pre++post/\zn=post.length/\pre.all (ND c now)=true)/\zs=⟨(15,.ref 1001 0 (pre.map λq=>xU (KO now q)).length)::(16,iA (3+4*(pre.length:Int)))::T,(1001,.arr 5 (pre.map λq=>xU (KO now q)) true)::U⟩) ?_;(conv=>whnf);refine⟨?_,?_⟩
 ·exact⟨[],qs,⟨rfl,rfl,rfl⟩,rfl⟩
 ·rintro zn st ⟨pre,post,⟨hqs,hzn,hok⟩,rfl⟩;have hln:qs.length=pre.length+post.length:=by rw[hqs,zXb]
  have hpl:=zA (λq=>xU (KO now q)) pre
  cases post with
  |nil=>
   rw[zX8]at hqs;subst hqs;rw[zW9 hok];rw[zYa]at hln hzn;have e1:(qs.map λq=>xU (KO now q))=(qs.map (KO now)).map xU:=by rw[yBc];rfl
   unfold sxL at hsx;rw[e1]at *; generalize qs.map (KO now)=ls at *;generalize sxE d.rq d.rg.ag.req id life vh ls=e at *;generalize bX d.rq (cZ id vh life ls now)=il at *;generalize hI:3+4*(qs.length:Int)=I at *;rw[show(id::v::life::YE qs).map iA=iA id::iA v::iA life::(YE qs).map iA from rfl]at *; generalize (YE qs).map iA=A at *;refine WD ?_;refine kK [5,6,12] [2,4,5,6,12,15] rfl ?_
   (conv=>whnf)
   simp only[zYf,zXe];refine zU hsx ?_;exact zK
  | cons q post=>
   have hpq:=hp q (by rw[hqs];simp);obtain⟨y0,y1,y2,y3⟩:=zVk id v life pre post q _ rfl;rw[<-hqs]at y0 y1 y2 y3;rw[zXl]at hln hzn;have hno:ND c now q=false->¬qs.all (ND c now)=true:=λh=>by rw[hqs];exact zR4 h
   have hyes:ND c now q=true->(pre++[q]).all (ND c now)=true:=λh=>by rw[List.all_append,hok,yDc,h];rfl
   have hmp:((pre++[q]).map λq=>xU (KO now q))=(pre.map λq=>xU (KO now q))++[xU (KO now q)]:=by simp
   have hw:=zBj q.j q.p q.f q.t now;rw[show ND c now q=(decide (q.j<(c.js.length:Int))&&(decide (q.p<((c.js.getD q.j.toNat default).ph.length:Int))&&mwB q.j q.p q.f q.t now))from rfl]at hno hyes;generalize hA:(id::v::life::YE qs).map iA=A at *;have hA2:zD iA (id::v::life::YE qs)= .sl false A:=by rw[<-hA];rfl
   have hI:0<=3+4*(pre.length:Int)/\3+4*(pre.length:Int)+4=3+4*((pre++[q]).length:Int)/\3+4*(pre.length:Int)+3<A.length:=⟨zB,by simp;omega,zB⟩;by_cases g1:q.j<(c.js.length:Int)
   case neg=>
    rw[zXj g1]at hno;rw[zW8 (hno rfl),zW8 xL];generalize 3+4*(pre.length:Int)=I at *;clear hno hyes hw hmp hqs;refine WW ?_;exact zK
   have hyj:=yM wP c.js q.j hpq.1 g1;rw[zXg g1]at hno hyes;rw[show wP (c.js.getD q.j.toNat default)= .agg [zD wY (c.js.getD q.j.toNat default).ph,zD iA (c.js.getD q.j.toNat default).cf,iA (c.js.getD q.j.toNat default).st]from rfl]at hyj;generalize c.js.getD q.j.toNat default=jn at *;have hlp:=zA wY jn.ph;by_cases g2:q.p<(jn.ph.length:Int)
   case neg=>
    rw[zXj g2]at hno;rw[zW8 (hno rfl),zW8 xL];generalize 3+4*(pre.length:Int)=I at *;clear hno hyes hw hmp hqs;refine WW ?_;exact zK
   rw[zXg g2]at hno hyes
   cases g3:mwB q.j q.p q.f q.t now with
   |false=>
    rw[g3]at hno hw;rw[zW8 zXx]at hw;rw[zW8 (hno rfl),zW8 xL];generalize 3+4*(pre.length:Int)=I at *;generalize mwF q.j q.p q.f q.t now=lg at *;clear hno hyes hmp hqs;refine zU hw ?_;exact zK
   |true=>
    rw[g3]at hyes hw;rw[zW9 rfl]at hw;have hy2:=hyes rfl;obtain⟨hI0,hI1,hI2⟩:=hI;have hfin:qs=(pre++[q])++post:=by rw[hqs];simp
    rw[show mwF q.j q.p q.f q.t now=KO now q from rfl]at hw;generalize KO now q=lg at *;clear hno hyes hqs;generalize hqq:pre++[q]=pq at *;generalize (pre.map λq=>xU (KO now q))=xs at *;generalize 3+4*(pre.length:Int)=I at *;refine zU hw ?_;exact⟨post.length,zB,pq,post,⟨hfin,rfl,hy2⟩,by rw[hmp,<-hI1];rfl⟩
def dkQ (d:xP) (l:List Rq):xP:=⟨d.rg,l,d.dr,d.au⟩
theorem BR (c:Cf) (d:xP) (k:Int) (tkn:List Int) (id v life cls now:Int) (qs:List Qd) (hb:eU d) (hv:aC d.rq) (hq:qs.length<=3) (hp:∀q∈qs,0<=q.j/\0<=q.p) (n0:0<=now) (n1:now<=1073741824):
 yR [wT c,zJ d,zY ⟨k,tkn,id::v::life::YE qs,[]⟩,iA cls,iA now] [] (.tup [zJ (dkQ d (if BQ c d cls id v life now qs=0 then dsL c d cls id v life now qs else d.rq)),iA (BQ c d cls id v life now qs)]) []:=yG
def QP (n:Int) (a:Ag) (N:Nat):xP:=⟨FI n a,[],[],List.replicate N false⟩
theorem zR5 (n:Int) (a:Ag) (N:Nat) (hN:N=1∨N=2) (ha:a.ses=(N:Int)) (hs:a.sec.length<=1000000) (hl:a.lim.length<=1000000):zN 90 [iA n,vH a] [] (zJ (QP n a N)) []:=by
 have c1:=zSh n a hs hl;unfold QP;obtain⟨sec,ri,cl,li,rq,se,ra,bu⟩:=a;dsimp only at ha;subst ha;unfold vH uW at c1;unfold vH zJ wL;dsimp only at *;generalize FI n ⟨sec,ri,cl,li,rq,(N:Int),ra,bu⟩=r at*
 rcases hN with rfl|rfl
 all_goals
  refine eM call90 λF hF=>?_
  refine zU c1 ?_;exact zK
theorem zM5 (n:Int) (a:Ag) (N:Nat) (hN:N=1∨N=2) (ha:a.ses=(N:Int)) (hs:a.sec.length<=1000000) (hl:a.lim.length<=1000000):yR [iA n,vH a] [] (zJ (QP n a N)) []:=yG
def w2 (p:Int×Int):List Int:=[p.1,p.2]
def KP (ws:List (Int×Int)):List Int:=(ws.map w2).flatten
theorem RG:∀ws:List (Int×Int),(KP ws).length=2*ws.length
 | []=>rfl
 |x::l=>by
  have:=RG l
  show(x.1::x.2::KP l).length=_
  simp only[zXl];omega
theorem zM6 (a b:List (Int×Int)):KP (a++b)=KP a++KP b:=by simp[KP]
theorem zVl (x:Int) (pre post:List (Int×Int)) (q:Int×Int) (I:Int) (hI:I=1+2*(pre.length:Int)):
  ((x::KP (pre++q::post)).map iA)[I.toNat]? =some (iA q.1)/\((x::KP (pre++q::post)).map iA)[(I+1).toNat]? =some (iA q.2):=by
 have h:(x::KP (pre++q::post)).drop (1+2*pre.length)=KP (q::post):=by
  rw[zM6,show 1+2*pre.length=2*pre.length+1 by omega,yAo,yBm (by rw[RG];omega),yBl (by rw[RG];omega),zZj]
 refine⟨?_,?_⟩<;>rw[zXd]
 ·rw[show I.toNat=1+2*pre.length+0 by omega,ZS h];rfl
 ·rw[show(I+1).toNat=1+2*pre.length+1 by omega,ZS h];rfl
def upQ (l:List Rq) (id:Int) (ws:List (Int×Int)) (now:Int):List Rq:=if bC l id ws now=0 then NJ l id ws now else []
theorem zR6 (c:Cf) (d:xP) (tkn:List Int) (id slot now:Int) (ws:List (Int×Int)) (hv:aC d.rq) (hw:ws.length<=3) (n0:0<=now) (n1:now<=1073741824):
  zN 215 [wT c,zJ d,zY ⟨7,tkn,id::KP ws,[]⟩,iA slot,iA now] [] (.tup [zD yK (upQ d.rq id ws now),iA (bC d.rq id ws now)]) []:=by
 have hu:=zHw d.rq id ws now hv zB n0 n1;have hll:((id::KP ws).map iA).length=1+2*ws.length:=by simp[RG];omega
 unfold upQ;unfold wT zJ wL;rw[show zY ⟨7,tkn,id::KP ws,[]⟩= .agg [iA 7,zD yA tkn,zD iA (id::KP ws),.sl false []]from rfl];generalize bC d.rq id ws now=e at *;generalize NJ d.rq id ws now=ul at *;refine eM call215 λF hF=>?_
 refine WW ?_;refine xG 13 1001 2 rfl rfl rfl ?_;refine fW (ws.length) [1001,6,7] [6,7] [4,6,7,12] [13,14,4,6,7,12] rfl (λzn T U zs=>∃(pre:List (Int×Int)) (post:List (Int×Int)),(ws=pre++post/\zn=post.length)/\zs=⟨(13,.ref 1001 0 (pre.map wnA).length)::(14,iA (1+2*(pre.length:Int)))::T,(1001,.arr 2 (pre.map wnA) true)::U⟩) ?_;(conv=>whnf);refine⟨?_,?_⟩
 ·exact⟨[],ws,⟨rfl,rfl⟩,rfl⟩
 ·rintro zn st ⟨pre,post,⟨hqs,hzn⟩,rfl⟩;have hln:ws.length=pre.length+post.length:=by rw[hqs,zXb]
  have hpl:=zA wnA pre
  cases post with
  |nil=>
   rw[zX8]at hqs;subst hqs;rw[zYa]at hln hzn;generalize hI:1+2*(ws.length:Int)=I at *;generalize (id::KP ws).map iA=A at*
   (have zc1:=hu;have zf1:=(⟨⟩:FzD 239 [5,6,7] [58,59,60,61]);refine WW ?_;clear zc1 zf1)
   exact zK
  |cons q post=>
   obtain⟨y0,y1⟩:=zVl id pre post q _ rfl;rw[<-hqs]at y0 y1;rw[zXl]at hln hzn;have hmp:((pre++[q]).map wnA)=pre.map wnA++[.agg [iA q.1,iA q.2]]:=by simp[wnA]
   have hI:0<=1+2*(pre.length:Int)/\1+2*(pre.length:Int)+2=1+2*((pre++[q]).length:Int)/\1+2*(pre.length:Int)+1<((id::KP ws).map iA).length:=⟨zB,by simp;omega,zB⟩;have hfin:ws=(pre++[q])++post:=by rw[hqs];simp
   generalize (id::KP ws).map iA=A at *;obtain⟨hI0,hI1,hI2⟩:=hI;clear hqs;generalize hqq:pre++[q]=pq at *;generalize pre.map wnA=xs at *;generalize 1+2*(pre.length:Int)=I at *;refine WW ?_;exact⟨post.length,zB,pq,post,⟨hfin,rfl⟩,by rw[hmp,<-hI1];rfl⟩
theorem zR7 (d:xP) (tkn:List Int) (id now:Int) (ws:List (Int×Int)) (hv:aC d.rq) (hw:ws.length<=3) (n0:0<=now) (n1:now<=1073741824):
 yR [zJ d,zY ⟨7,tkn,id::KP ws,[]⟩,iA now] [] (.tup [zJ (dkQ d (if bC d.rq id ws now=0 then upQ d.rq id ws now else d.rq)),iA (bC d.rq id ws now)]) []:=yG
theorem zR8 (c:Cf) (d:xP) (tkn:List Int) (id v life slot now:Int) (qs:List Qd) (hb:eU d) (hv:aC d.rq) (s0:0<=slot) (s1:slot<(d.rg.tk.length:Int)) (hq:qs.length<=3) (hp:∀q∈qs,0<=q.j/\0<=q.p) (n0:0<=now) (n1:now<=1073741824):
  zN 215 [wT c,zJ d,zY ⟨6,tkn,id::v::life::YE qs,[]⟩,iA slot,iA now] [] (.tup [zD yK (dsL c d (d.rg.tk.getD slot.toNat default).cls id v life now qs),iA (BQ c d (d.rg.tk.getD slot.toNat default).cls id v life now qs)]) []:=by
 have h:=zDb c d id v life slot now qs hb hv s0 s1 hq hp n0 n1;generalize BQ c d (d.rg.tk.getD slot.toNat default).cls id v life now qs=e at *;generalize dsL c d (d.rg.tk.getD slot.toNat default).cls id v life now qs=ul at *;rw[show zD iA (id::v::life::YE qs)= .sl false (iA id::iA v::iA life::(YE qs).map iA)from rfl]at h;rw[show zY ⟨6,tkn,id::v::life::YE qs,[]⟩= .agg [iA 6,zD yA tkn,.sl false (iA id::iA v::iA life::(YE qs).map iA),.sl false []]from rfl];generalize (YE qs).map iA=A at *;unfold wT zJ wL at *;refine eM call215 λF hF=>?_
 refine zU h ?_;exact zK
theorem zR9 (c:Cf) (d:xP) (tkn:List Int) (id slot now:Int) (hv:aC d.rq):
  zN 215 [wT c,zJ d,zY ⟨8,tkn,[id],[]⟩,iA slot,iA now] [] (.tup [zD yK (if hH d.rq id=true then zH5 d.rq id else []),iA (if hH d.rq id=true then 0 else 12)]) []:=by
 have h:=zH7 d.rq id hv;generalize (if hH d.rq id=true then zH5 d.rq id else [])=l at *;generalize (if hH d.rq id=true then(0:Int)else 12)=e at *;rw[show zY ⟨8,tkn,[id],[]⟩= .agg [iA 8,zD yA tkn,.sl false [iA id],.sl false []]from rfl];unfold wT zJ wL at *;refine eM call215 λF hF=>?_
 refine zU h ?_;exact zK
theorem WN (l:List Tk) (s:Int):zN 259 [zD xD l,iA s] [] (bA (fJ l s)) []:=by
 have hl:=zA xD l;unfold fJ;by_cases h1:0<=s
 ·by_cases h2:s<l.length
  ·have hy:=yM xD l s h1 h2;rw[zXg ⟨h1,h2⟩,zX1];refine eM call259 λF hF=>?_
   refine WW ?_;exact zK
  ·rw[zXj zB,zY2];refine eM call259 λF hF=>?_
   refine WW ?_;exact zK
 ·rw[zXj zB,zY2];refine eM call259 λF hF=>?_
  refine WW ?_;exact zK
theorem zHd (g s:Int) (l:List Int) (hl:l.length<=1000000) (g0:0<=g) (g1:g<256) (s0:0<=s) (s1:s<256):zN 284 [iA g,iA s,zD yA l] [] (zD yA (g::s::l)) []:=by
 have hll:=zA yA l;refine eM call284 λF hF=>?_
 refine WW ?_;exact zH [] rfl rfl (zX7 (AV.sl false) (zXk zS)) rfl
end Av
end Go.Proofs.YtmamjhmoegjapaaGreat
