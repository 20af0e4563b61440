/- Part 7. -/
import Derived.Test.YtaglbcjljlkjcaaGreatV06
import Derived.WalkKit
import Derived.ProofKit
namespace Go.Proofs.YtaglbcjljlkjcaaGreat.Av
open Tryz
set_option linter.all false
set_option maxRecDepth 4000
set_option maxHeartbeats 2000000
open List renaming length->ln,range->pg,getD->pi
open Inhabited renaming default->dd
variable {m n s t:Int}{k:IntKind}{l:List Tk}{f i:Nat}{w:World}
def CY (t:Tk):Bool:=decide ((ln t.sec:Int)=8/\0<=t.cls/\t.cls<=3/\0<=t.til/\t.til<=2147483648)
def jq (t:Tk):Bool:=MN t.rights&&CY t
def GK (t:Tk):zO 389 [yK t] [] (bA (jq t)) []:=by
 have c:=RC t.rights;have hl:=zA yA t.sec;unfold jq;generalize MN t.rights=v at *;cases v
 .rw[zA7];refine eM call389 λF hF=>?_
  refine zP c (I2 (λhc=>?_) λhc=>?_)
  all_goals exact zI
 .rw[zAj]
  (cases hb:CY t with|false=>((refine eM call389 λF hF=>?_);((refine zP c (I5 (λhc hc hc hc=>?_) (λhc hc hc hc=>?_) (λhc hc hc=>?_) (λhc hc=>?_) λhc=>?_)));all_goals (first|exact zI|(simp only[CY,zAz]at hb;first|exact JY|exact LN)))|true=>(simp only[CY,zAg]at hb;(refine eM call389 λF hF=>?_);((refine zP c ?_));all_goals (first|exact zI|exact JY|exact LN)))
def LX (t:Tk):Bool:=decide ((ln t.sec:Int)=0/\t.par= -1/\t.rights=0/\t.cls=0/\t.til=0)
def eQ (u:Bool) (t:Tk):AV:= .agg [bA u,zE yA t.sec,iA t.par,iA t.rights,iA t.cls,iA t.til]
def Hl (t:Tk):zO 390 [eQ false t] [] (bA (LX t)) []:=by
 have hl:=zA yA t.sec
 (cases hb:LX t with|false=>((refine eM call390 λF hF=>?_);((refine WW (I5 (λhc hc hc hc=>?_) (λhc hc hc hc=>?_) (λhc hc hc=>?_) (λhc hc=>?_) λhc=>?_)));all_goals (first|exact zI|(simp only[LX,zAz]at hb;first|exact JY|exact LN)))|true=>(simp only[LX,zAg]at hb;(refine eM call390 λF hF=>?_);((refine WW ?_));all_goals (first|exact zI|exact JY|exact LN)))
def MJ (l:List Tk) (s:Int):Bool:=if(l.getD s.toNat dd).used=true then jq (l.getD s.toNat dd)&&Eh l s 0&&(Pb (l.getD s.toNat dd).rights (l.getD (l.getD s.toNat dd).par.toNat dd).rights&&decide ((l.getD s.toNat dd).cls<=(l.getD (l.getD s.toNat dd).par.toNat dd).cls)&& !dq (l.getD s.toNat dd).til (l.getD (l.getD s.toNat dd).par.toNat dd).til)
 else LX (l.getD s.toNat dd)
def JR (t:Tk):Bool:=t.used&&decide (t.par= -1/\t.til=0)&&jq t
def PB (l:List Tk):Bool:=decide ((ln l:Int)=8)&&(JR (l.getD 0 dd)&&(pg 7).all λi=>MJ l ((i:Int)+1))
theorem Yz {i:Nat} (hi:i<7) (h:MJ l ((i:Int)+1)=false):PB l=false:=by grind [MJ,PB]
theorem jt (h:Eh l s 0=true) (u:s≠0):jQ l (l.getD s.toNat dd).par=true:=by
 unfold Eh at h;rw[fN l 7 s]at h
 cases y:jQ l s<;>rw[y]at h
 .simp at h
 .rw[zBk,zFp]at h;have:(s==0)=false:=by simpa using u
  rw[this,zCh,fN l 6]at h
  grind
theorem UW (l:List Tk):zO 372 [zE yK l] [] (bA (PB l)) []:=by
 have ac:=zA yK l;by_cases h8:(ln l:Int)=8
 case neg=>
  rw[show PB l=false by unfold PB;rw[zAb h8];rfl];refine eM call372 λF hF=>?_
  exact mx
 have G:=yC yK l 0 zB zB
 change (l.map yK)[0]? =some (yK (l.getD 0 dd))at G
 cases I:JR (l.getD 0 dd)
 .rw [show PB l=false by unfold PB;rw[I];simp];have c:=GK (l.getD 0 dd);unfold JR at I;generalize l.getD 0 dd=t at *;generalize jq t=q at *;cases A:t.used
  .rw[show yK t=eQ false t by unfold yK eQ;rw[A]]at *; unfold eQ at *;refine eM call372 λF hF=>?_
   exact nl c
  .rw[show yK t=eQ true t by unfold yK eQ;rw[A]]at *; unfold eQ at *;by_cases h1:t.par= -1
   .by_cases h2:t.til=0
    .rw[A,zAc ⟨h1,h2⟩,zAj,zAj]at I;subst I;refine eM call372 λF hF=>?_
     exact nl c
    ·(refine eM call372 λF hF=>?_)
     exact nl c
   ·(refine eM call372 λF hF=>?_)
    exact nl c
 have L:=GK (l.getD 0 dd);have E:=I;unfold JR at E;simp only[zAi,zAg]at E;obtain⟨⟨A,h1,h2⟩,h3⟩:=E;have z:=G;rw[h3]at L;rw[show yK (l.getD 0 dd)=eQ true (l.getD 0 dd) by unfold yK eQ;rw[A]]at z L;unfold eQ at z L;clear G;generalize ap:l.getD 0 dd=t0 at z L h1 h2;refine eM call372 λF hF=>?_
 refine zP L ?_;refine zZ (7) [] [] [0] [4,0] Z (λi T U zs=>(∀s:Nat,s<i->MJ l ((s:Int)+1)=true)/\zs=⟨(4,iA ((i:Int)+1))::T,U⟩) (Lp ?_ ?_ ?_)
 .exact⟨λs hs=>absurd hs (zBa _),rfl⟩
 .rintro i st hi ⟨hp,rfl⟩
  have C:MJ l ((i:Int)+1)=true->∀s:Nat,s<i+1->MJ l ((s:Int)+1)=true:=λh s hs=>by
   by_cases Y:s=i
   .subst Y;exact h
   .exact hp s zB
  have y:=λh=>Yz (l:=l) hi h
  have W:=yC yK l ((i:Int)+1) zB zB;have B:=GK (l.getD ((i:Int)+1).toNat dd);have S:=Hl (l.getD ((i:Int)+1).toNat dd);have M:=Xm l ((i:Int)+1) 0;have R:=jt (l:=l) (s:=(i:Int)+1);have u:MJ l ((i:Int)+1)=_:=rfl
  conv at u=>rhs;unfold MJ
  generalize l.getD ((i:Int)+1).toNat dd=t,MJ l ((i:Int)+1)=tk at *;cases A:t.used
  .rw[show yK t=eQ false t by unfold yK eQ;rw[A]]at W;rw[A,hW yE]at u;rw[<-u]at S;unfold eQ at W S;cases tk
   .rw[y Z];exact nl S
   ·(refine zP S ?_)
    exact⟨C Z,by rw[zFb];rfl⟩
  .rw[show yK t=eQ true t by unfold yK eQ;rw[A]]at W B;rw[A,Os Z]at u;unfold eQ at W B;generalize jq t=q1 at *;generalize ag:Eh l ((i:Int)+1) 0=q2 at *;cases q1
   .rw[zA7,zA7]at u;rw[y u];exact nl B
   cases q2
   .rw[zAj,zA7]at u;rw[y u];exact ng (xH B M)
   rw[zAj,zAj]at u;obtain⟨p0,p1⟩:=VD (R Z zB);have ar:=yC yK l t.par p0 p1;generalize l.getD t.par.toNat dd=p at *;have V:=BE t.rights p.rights;have X:=ae t.til p.til;generalize Pb t.rights p.rights=q3,dq t.til p.til=q4 at *;cases q3
   .rw[zA7,zA7]at u;rw[y u];exact ng (qS B M V)
   by_cases O:t.cls<=p.cls
   .rw[zAc O,zAj,zAj]at u;cases q4
    ·(refine yB (cX B M V X) ?_)
     exact⟨C u,by rw[zFb];rfl⟩
    .rw[y u];exact ng (cX B M V X)
   .rw[zAb O,zAj,zA7]at u;rw[y u];exact ng (cX B M V X)
 .rintro st ⟨hp,rfl⟩
  rw[show PB l=true by
   unfold PB;rw[zAc h8,I,zAj,zAj]
   exact zAm.2 λi hi=>hp i (zAw.1 hi)]
  exact mx
def ZQ (l:List Tk):Nat->Int->Int->Bool
 |0,_,_=>false
 |n+1,f,t=>jQ l f&&(f==t||ZQ l n (l.getD f.toNat dd).par t)
def MK (l:List Tk) (n:Nat) (f t:Int):ZQ l (n+1) f t=(jQ l f&&(f==t||ZQ l n (l.getD f.toNat dd).par t)):=rfl
theorem Gl (l:List Tk) (t:Int):∀(n:Nat) (f:Int),ZQ l n f t=(ZV l n f).any λa=>a==t
 |0,_=>rfl
 |n+1,f=>by
  rw[MK,fN];cases jQ l f
  .rfl
  .rw[zBk,zFp,Gl l t n,zAj]
def we (l:List Tk) (f t:Int) (E:ln l<=1000000):zO 286 [zE yK l,iA f,iA t] [] (bA (ZQ l (ln l+1) f t)) []:=by
 have hl:=zA yK l;generalize B:ZQ l (ln l+1) f t=R;refine eM call286 λF hF=>?_
 refine WW ?_;refine zZ (ln l+1) [] [] [0,2] [1,7,0,2] Z (λi T U C=>∃(a:Int),(R=ZQ l (ln l+1-i) a t)/\C=⟨(1,iA a)::(7,iA i)::T,U⟩) (Lp ?_ ?_ ?_)
 .exact⟨f,B.symm,rfl⟩
 .rintro i st hi ⟨a,hp,rfl⟩;obtain⟨k,hk⟩:∃k,ln l+1-i=k+1:=⟨ln l-i,zB⟩;rw[hk,MK l k a t]at hp;have hk':ln l+1-(i+1)=k:=by omega
  unfold jQ at hp;by_cases z:0<=a
  .by_cases h1:a<ln l
   .have y:=yC yK l a z h1;rw[zAc ⟨z,h1⟩,zAj]at hp;generalize l.getD a.toNat dd=x at *;cases u:x.used
    .rw[u,zA7]at hp;rw[show yK x=eQ false x by unfold yK eQ;rw[u]]at y;unfold eQ at y;rw[hp];exact mx
    .rw[u,zAj]at hp;rw[show yK x=eQ true x by unfold yK eQ;rw[u]]at y;unfold eQ at y;by_cases A:a=t
     .rw[show(a==t)=true by simpa using A,zCt]at hp;rw[hp];exact mx
     .rw[show(a==t)=false by simpa using A,zCh]at hp;refine WW ?_;exact⟨x.par,by rw[hk'];exact hp,by rw[zFb];rfl⟩
   .rw[zAb zB]at hp;simp only[zA7]at hp;rw[hp];exact mx
  .rw[zAb zB]at hp;simp only[zA7]at hp;rw[hp];exact mx
 .rintro st ⟨a,hp,rfl⟩;rw[zCz]at hp;rw[hp];exact mx
def eE (l:List Tk) (s:Nat):Bool:=if(l.getD s dd).used=true then jq (l.getD s dd)&&ZQ l (ln l+1) s 0&&(decide (s=0)||(Pb (l.getD s dd).rights (l.getD (l.getD s dd).par.toNat dd).rights&&decide ((l.getD s dd).cls<=(l.getD (l.getD s dd).par.toNat dd).cls)&& !dq (l.getD s dd).til (l.getD (l.getD s dd).par.toNat dd).til))
 else LX (l.getD s dd)
def ZR (t:Tk):Bool:=t.used&&decide (t.par= -1/\t.til=0)
def aG (l:List Tk):Bool:=decide ((ln l:Int)=8)&&(ZR (l.getD 0 dd)&&(pg (ln l)).all λi=>eE l i)
theorem dt (hi:i<ln l) (h:eE l i=false):aG l=false:=by grind [eE,aG]
theorem ct {n:Nat} (h:ZQ l (n+1) s 0=true) (u:s≠0):jQ l (l.getD s.toNat dd).par=true:=by
 rw[MK l n s 0]at h;have:(s==0)=false:=by simpa using u
 rw[this,zCh,zAi]at h
 cases n with
 |zero=>exact absurd h.2 (by simp[ZQ])
 |succ n=>
  grind [ZQ,jQ]
theorem SZ (l:List Tk):zO 363 [zE yK l] [] (bA (aG l)) []:=by
 have ag:=zA yK l;by_cases h8:(ln l:Int)=8
 case neg=>
  rw[show aG l=false by unfold aG;rw[zAb h8];rfl];refine eM call363 λF hF=>?_
  exact mx
 have O:=yC yK l 0 zB zB
 change (l.map yK)[0]? =some (yK (l.getD 0 dd))at O
 cases L:ZR (l.getD 0 dd)
 .rw [show aG l=false by unfold aG;rw[L];simp];unfold ZR at L;generalize l.getD 0 dd=t at *;cases E:t.used
  .rw[show yK t=eQ false t by unfold yK eQ;rw[E]]at *; unfold eQ at *;refine eM call363 λF hF=>?_
   exact mx
  .rw[show yK t=eQ true t by unfold yK eQ;rw[E]]at *; unfold eQ at *;rw[E,zAj]at L;by_cases h1:t.par= -1
   .by_cases h2:t.til=0
    .rw[zAc ⟨h1,h2⟩]at L;cases L
    ·(refine eM call363 λF hF=>?_)
     exact mx
   ·(refine eM call363 λF hF=>?_)
    exact mx
 have M:=L;unfold ZR at M;simp only[zAi,zAg]at M;obtain⟨E,h1,h2⟩:=M;have z:=O;rw[show yK (l.getD 0 dd)=eQ true (l.getD 0 dd) by unfold yK eQ;rw[E]]at z;unfold eQ at z;clear O;generalize au:l.getD 0 dd=t0 at z h1 h2;refine eM call363 λF hF=>?_
 refine WW ?_;clear z;refine zZ (ln l) [] [] [0,30,31] [32,0,30,31] Z (λi T U zs=>(∀s:Nat,s<i->eE l s=true)/\zs=⟨(32,iA i)::T,U⟩) (Lp ?_ ?_ ?_)
 .exact⟨λs hs=>absurd hs (zBa _),rfl⟩
 .rintro i st hi ⟨hp,rfl⟩
  have C:eE l i=true->∀s:Nat,s<i+1->eE l s=true:=λh s hs=>by
   by_cases ac:s=i
   .subst ac;exact h
   .exact hp s zB
  have y:=λh=>dt (l:=l) hi h
  have W:=zJ yK l i hi;have G:=YU (l.getD i dd).rights;have I:=we l i 0 zB;have A:=ct (l:=l) (n:=ln l) (s:=i);rw[zAv]at A;have u:eE l i=_:=rfl
  conv at u=>rhs;unfold eE
  generalize l.getD i dd=t,eE l i=tk at *;have ar:=zA yA t.sec;cases E:t.used
  .rw[show yK t=eQ false t by unfold yK eQ;rw[E]]at W;rw[E,hW yE]at u;unfold eQ at W;cases tk
   .rw[y Z];refine WW (I6 (λhc=>?_) (λhc hc=>?_) (λhc hc hc=>?_) (λhc hc hc hc=>?_) (λhc hc hc hc hc=>?_) (λhc hc hc hc hc=>?_))
    all_goals (first|exact zI|(exfalso;simp only[LX]at u;have:=zEf u.symm;omega))
   .have hq:=u.symm;simp only[LX,zAg]at hq;refine WW ?_
    all_goals (first|exact⟨C Z,rfl⟩|exact JY)
  .rw[show yK t=eQ true t by unfold yK eQ;rw[E]]at W;rw[E,Os Z]at u;unfold eQ at W;unfold jq at u;generalize MN t.rights=q0 at *;generalize ap:ZQ l (ln l+1) i 0=q2 at *;cases q0
   .simp only[zA7]at u;rw[y u];refine zP G (I2 (λhc=>?_) λhc=>?_)
    all_goals exact zI
   cases B:CY t
   .rw[B]at u;simp only[zB3,zA7]at u;rw[y u]
    (have gt:=G;have gv:=I;(repeat' (first|refine qU ?_|apply yY|apply xN|intro hc|(apply zG;first|refine SM ?_)|fail))<;>clear gt gv)
    all_goals (first|exact zI|(exfalso;simp only[CY,zAz]at B;omega))
   have Y:=B;simp only[CY,zAg]at Y;rw[B]at u;cases q2
   .simp only[zAj,zA7]at u;rw[y u];exact ng (xH G I)
   by_cases S:i=0
   .rw[zAc S]at u;simp only[zAj,zCt]at u;refine yB (xH G I) ?_;exact⟨C u,rfl⟩
   rw[zAb S]at u;simp only[zAj,zCh]at u;obtain⟨p0,p1⟩:=VD (A Z zB);have av:=yC yK l t.par p0 p1;generalize l.getD t.par.toNat dd=p at *;have V:=JU t.rights p.rights;have X:=BF t.til p.til;generalize Pb t.rights p.rights=q3,dq t.til p.til=q4 at *;clear A B;cases q3
   .rw[zA7,zA7]at u;rw[y u];exact ng (qS G I V)
   by_cases R:t.cls<=p.cls
   .rw[zAc R,zAj,zAj]at u;cases q4
    ·(refine yB (cX G I V X) ?_)
     exact⟨C u,rfl⟩
    .rw[y u];exact ng (cX G I V X)
   .rw[zAb R,zAj,zA7]at u;rw[y u];exact ng (cX G I V X)
 .rintro st ⟨hp,rfl⟩
  rw[show aG l=true by
   unfold aG;rw[zAc h8,L,zAj,zAj]
   exact zAm.2 λi hi=>hp i (zAw.1 hi)]
  exact mx
def ue (l:List Tk) (s:Int) (B:ln l=8):zO 237 [zE yK l,iA s] [] (iA (qT (λi=>ZQ l (ln l+1) i s) 8)) []:=by
 have hl:=zA yK l;generalize A:(λi:Nat=>ZQ l (ln l+1) i s)=p;refine eM call237 λF hF=>?_
 refine WW ?_;refine zM ((l.map yK).length) [] [] [0,1,8] [5,9,0,1,8] Z (λi T U=>⟨(5,iA (qT p i))::(9,iA i)::T,U⟩) (Lq ?_ ?_)
 .intro i hi;have hi':i<8:=by omega
  have c:=we l i s zB;have hb:=ZU p i zB;have z:=BO i zB;rw[show ZQ l (ln l+1) i s=p i by rw[<-A]]at c
  have e:qT p (i+1)=if p i=true then qT p i+p2 i else qT p i:=rfl
  rw[e];generalize qT p i=b at *;cases u:p i
  .rw[u]at c;simp only[zEz,zFg];refine zP c ?_;rfl
  .rw[u]at c;simp only[zEk];refine zP c ?_;rfl
 .have y:(l.map yK).length=8:=by omega
  rw[y];exact mx
def RA (p:Nat->Bool) (l:List Tk) (n:Nat):List Tk:=(pg (ln l)).map λj=>if j<n/\p j=true then xa else l.getD j dd
theorem GL (p:Nat->Bool) (l:List Tk) (n:Nat):(RA p l n).length=ln l:=by simp[RA]
theorem El (p:Nat->Bool) (l:List Tk):RA p l 0=l:=by apply zBe<;>grind [RA,List.getElem?_range,pi,List.getElem?_eq_none]
theorem Xz (p:Nat->Bool) (l:List Tk) (n:Nat) (h:n<ln l):(RA p l n)[n]? =some (l.getD n dd):=by grind [RA]
theorem Dl (p:Nat->Bool) (l:List Tk) (n:Nat):RA p l (n+1)=if p n=true then(RA p l n).set n xa else RA p l n:=by apply zBe<;>grind [RA,xa,List.getElem?_range,List.getElem?_eq_none,Bool.false_eq_true,GL]
def qe (l:List Tk) (hb:JW l) (p:Nat->Bool) (M:ln l=8):zO 238 [zE yK l,iA (qT p 8)] [] (zE yK (RA p l 8)) []:=by
 have c:=MM l hb;have I:=zA yK l;have G:=ZU p 8 zB;have A:=ee p;generalize qT p 8=b at *;refine eM call238 λF hF=>?_
 refine zP c ?_;refine zM ((l.map yK).length) [1001] [] [1,5,10] [11,1,5,10] Z (λi T U=>⟨(11,iA i)::T,(1001,.arr 6 ((RA p l i).map yK) false)::U⟩) ?_;(conv=>whnf);refine⟨by(rw[El];rfl),?_,?_⟩
 .intro i hi;have hi':i<ln l:=by omega
  have O:((RA p l i).map yK)[i]? =some (yK (l.getD i dd)):=by rw[zAh,Xz p l i hi'];rfl
  have y:=Dl p l i;have u:=A i zB;have L:i<((RA p l i).map yK).length:=by rw[f7,GL];exact hi'
  cases B:p i
  .rw[B]at u y;simp only[zEz,zFg]at y;rw[y];have z:uX (wY b i) 1≠1:=by simpa using u
   generalize (RA p l i).map yK=xs at *;refine WW ?_;rfl
  .rw[B]at u y;simp only[zEk]at y;have z:uX (wY b i) 1=1:=by simpa using u
   have C:(RA p l (i+1)).map yK=((RA p l i).map yK).set i (yK xa):=by rw[y,zBt]
   generalize (RA p l i).map yK=xs,(RA p l (i+1)).map yK=ys at *;subst C
   (repeat' (first|refine WTR ?_|apply yY|apply xN|intro hc|(apply zG;first|(apply cS;refine XH 22 Z Z Z ?_;refine bn tok Z Z Z XM Z Z Z Z Z Z ?_))|refine SB ?_|fail))
   rfl
 .have E:(l.map yK).length=8:=by omega
  rw[E];refine WW ?_;exact zH [] Z Z (zAt (AV.sl false) (zAl (by simp[GL];omega))) Z
theorem Bl:∀(n:Nat) (f:Nat->Nat),(∀i,i<=n->f i<n)->∃i j,i<j/\j<=n/\f i=f j
 |0,f,h=>absurd (h 0 (zAe _)) (zBa _)
 | n+1,f,h=>by
  by_cases hx:∃i,i<=n/\f i=f (n+1)
  .obtain⟨i,h1,h2⟩:=hx;exact⟨i,n+1,zB,zAe _,h2⟩
  .obtain⟨i,j,h1,h2,u⟩:=Bl n (λi=>if f i<f (n+1)then f i else f i-1) λi hi=>by
    have y:=h i zB;have z:=h (n+1) (zAe _);have A:f i≠f (n+1):=λe=>hx ⟨i,hi,e⟩
    split<;>omega
   refine⟨i,j,h1,zB,?_⟩;have y:f i≠f (n+1):=λe=>hx ⟨i,zB,e⟩
   have z:f j≠f (n+1):=λe=>hx ⟨j,h2,e⟩
   split at u<;>split at u<;>omega
def par (l:List Tk) (s:Int):Int:=(l.getD s.toNat dd).par
def CZ (l:List Tk) (s:Int):Nat->Int
 |0=>s
 |k+1=>par l (CZ l s k)
theorem ZS (l:List Tk) (s:Int):∀k,CZ l s (k+1)=CZ l (par l s) k
 |0=>rfl
 |k+1=>by rw[CZ,ZS l s k];rfl
theorem GM (l:List Tk) (s:Int) (i:Nat):∀k,CZ l s (i+k)=CZ l (CZ l s i) k
 |0=>rfl
 |k+1=>by rw[<-zE7,CZ,GM l s i k];rfl
theorem YT (l:List Tk) (t:Int):∀(n:Nat) (s:Int),t∈ZV l n s↔∃k,k<n/\(∀j,j<=k->jQ l (CZ l s j)=true)/\CZ l s k=t
 |0,s=>by simp[ZV]
 | n +1,s=>by
  rw[fN];constructor
  .intro h;cases u:jQ l s
   .rw[u]at h;simp at h
   .rw[u,zBk,zBx]at h
    rcases h with rfl|h
    .exact⟨0,zB,λj hj=>by rw[Nat.le_zero.1 hj];exact u,rfl⟩
    .obtain⟨k,h1,h2,y⟩:=(YT l t n _).1 h;refine⟨k+1,zB,λj hj=>?_,by rw[ZS];exact y⟩
     cases j with
     |zero=>exact u
     |succ j=>rw[ZS];exact h2 j zB
  .rintro⟨k,h1,h2,y⟩;have u:=h2 0 (zAn _)
   change jQ l s=true at u
   rw[u,zBk,zBx]
   cases k with
   |zero=>exact .inl y.symm
   |succ k=>
    rw[ZS]at y;refine .inr ((YT l t n _).2 ⟨k,zB,λj hj=>?_,y⟩);have:=h2 (j+1) zB;rw[ZS]at this;exact this
theorem Al (G:ln l=8) (s t:Int) (n:Nat) (h:t∈ZV l n s):t∈ZV l 8 s:=by
 obtain⟨k,_,h2,u⟩:=(YT l t n s).1 h;clear h
 suffices ∀m k,k<=m->(∀j,j<=k->jQ l (CZ l s j)=true)->CZ l s k=t->t∈ZV l 8 s from this k k (zAe _) h2 u
 intro m
 induction m with
 |zero=>intro k hk h2 u;exact(YT l t 8 s).2 ⟨k,zB,h2,u⟩
 | succ m y=>
  intro k hk h2 u;by_cases h:k<8
  .grind [ZV,YT]
  obtain⟨i,j,B,C,E⟩:=Bl 8 (λi=>(CZ l s i).toNat) λi hi=>by
   have:=VD (h2 i zB);omega
  have e1:=VD (h2 i zB);have z:=VD (h2 j zB);have e3:CZ l s i=CZ l s j:=by omega
  have A:∀r,CZ l s (i+r)=CZ l s (j+r):=λr=>by rw[GM,GM,e3]
  refine y (i+(k-j)) zB (λr I=>h2 r zB) ?_
  grind
theorem zm (l:List Tk) {n m:Nat} (u:n<=m) (h:t∈ZV l n s):t∈ZV l m s:=by grind [ZV,YT]
inductive ke (l:List Tk):Int->Int->Prop
 |base (s:Int):jQ l s=true->ke l s s
 |step (s t:Int):jQ l s=true->ke l (par l s) t->ke l s t
theorem GN (l:List Tk) (t:Int):∀(n:Nat) (s:Int),t∈ZV l n s->ke l s t
 |0,s,h=>by simp[ZV]at h
 | n+1,s,h=>by
  rw[fN]at h;cases u:jQ l s
  .rw[u]at h;simp at h
  .rw[u,zBk,zBx]at h
   rcases h with rfl|h
   .exact .base _ u
   .exact .step _ _ u (GN l t n _ h)
theorem GO (h:ke l s t):∃n,t∈ZV l n s:=by
 induction h with
 |base s u=>exact⟨1,by rw[fN,u,zBk];exact List.mem_cons_self⟩
 |step s t u _ z=>
  obtain⟨n,y⟩:=z;exact⟨n+1,by rw[fN,u,zBk];exact List.mem_cons_of_mem _ y⟩
theorem RB (u:ln l=8) (s t:Int):ZQ l 9 s t=true↔ke l s t:=by
 rw[Gl,zBr];constructor
 .grind [ZQ,GN]
 .intro h;obtain⟨n,y⟩:=GO h;exact⟨t,zm l zB (Al u s t n y),by simp⟩
theorem Wz (u:ln l=8) (s t:Int):Eh l s t=true↔ke l s t:=by grind [Eh,List.any_eq_true,GN,GO,Al]
theorem Ow (u:ln l=8) (s t:Int):Eh l s t=ZQ l 9 s t:=by
 rw[zEl,Wz u,RB u]
theorem je (l:List Tk):PB l=aG l:=by
 unfold PB aG;by_cases y:ln l=8
 case neg=>rw[zAb zB];rfl
 rw[zAc zB,zAj,zAj,y,zEl];simp only[zAi,zAm,zAw]
 have z:∀i:Nat,i<7->(MJ l ((i:Int)+1)=eE l (i+1)):=λi hi=>by
  unfold MJ eE;rw[Ow y,y,show(((i+1:Nat):Int)=(i:Int)+1) by omega,show((i:Int)+1).toNat=i+1 by omega,zAb (by omega:¬i+1=0),zCh]
 constructor
 .rintro⟨h1,h2⟩;unfold JR at h1;simp only[zAi,zAg]at h1;obtain⟨⟨u,p,q⟩,r⟩:=h1;refine⟨by unfold ZR;rw[u,p,q];rfl,λi hi=>?_⟩
  cases i with
  |zero=>
   grind [PB,aG,eE,ZQ,RB,jQ]
  |succ i=>rw[<-z i zB];exact h2 i zB
 .rintro⟨h1,h2⟩;have A:=h2 0 zB
  grind [PB,aG,ZR,eE,JR]
structure TV (l:List Tk):Prop where
 n:l.length=8
 u:(l.getD 0 default).used=true
 p:(l.getD 0 default).par= -1
 e:(l.getD 0 default).til=0
 f:∀i,i<8->(l.getD i default).used=false->LX (l.getD i default)=true
 s:∀i,i<8->(l.getD i default).used=true->jq (l.getD i default)=true/\ke l i 0/\(i≠0->Pb (l.getD i default).rights (l.getD (l.getD i default).par.toNat default).rights=true/\(l.getD i default).cls<=(l.getD (l.getD i default).par.toNat default).cls/\dq (l.getD i default).til (l.getD (l.getD i default).par.toNat default).til=false)
theorem Vz (l:List Tk):aG l=true↔TV l:=by
 unfold aG;simp only[zAi,zAg,zAm,zAw];constructor
 .rintro⟨y,h1,h2⟩;have y:ln l=8:=by omega
  unfold ZR at h1;simp only[zAi,zAg]at h1;refine⟨y,h1.1,h1.2.1,h1.2.2,λi hi z=>?_,λi hi z=>?_⟩
  .grind [aG,eE]
  .have:=h2 i zB;unfold eE at this;rw[Os z,y]at this;simp only[zAi,zCk,zAg,zCr]at this
   grind [aG,RB]
 .rintro⟨y,u,p,e,f,s⟩;refine⟨zB,by unfold ZR;rw[u,p,e];rfl,λi hi=>?_⟩;unfold eE;cases z:(l.getD i dd).used
  .grind
  .rw[Os Z,y];obtain⟨a,b,c⟩:=s i zB z;simp only[zAi,zCk,zAg,zCr]
   grind [aG,RB]
theorem bt (l:List Tk) (s:Int):jQ l s=true↔∃i:Nat,s=i/\i<ln l/\(l.getD i dd).used=true:=by grind [jQ]
theorem ke.us (h:ke l s t):jQ l s=true:=by
 cases h<;>assumption
theorem ke.trans {u:Int} (h:ke l s t) (g:ke l t u):ke l s u:=by
 induction h with
 |base _ _=>exact g
 |step s t y _ z=>exact .step _ _ y (z g)
theorem Uz (u:ln l=8) (ga:Int):ZW l ga=RA (λj=>(pg 8).any λi=>jQ l i&&Nb (l.getD i dd) ga&&ZQ l 9 j i) l 8:=by
 unfold ZW RA;rw[u];apply List.map_congr_left;intro j hj;rw[zAw]at hj;unfold BD
 have:((ZV l 8 j).any λa=>Nb (l.getD a.toNat dd) ga)=((pg 8).any λi=>jQ l i&&Nb (l.getD i dd) ga&&ZQ l 9 j i):=by
  rw[zEl,zBr,zBr];constructor
  .rintro⟨a,h1,h2⟩;have y:=Qb _ _ _ h1
   grind [ZW,RA,jQ,Nb,ZQ,bt,Int.toNat_natCast,RB,GN]
  .rintro⟨i,_,h2⟩;simp only[zAi]at h2
   grind [ZW,RA,jQ,Nb,ZQ,GO,RB,Al,Int.toNat_natCast]
 grind
def xY (n a b:Int):Bool:=decide (a<=n/\n<=b)
def xA (n a b:Int):zO 148 [iA n,iA a,iA b] [] (bA (xY n a b)) []:=by
 (cases hb:xY n a b with|false=>((refine eM call148 λF hF=>?_);((refine WW (I2 (λhc=>?_) λhc=>?_)));all_goals (first|exact zI|(simp only[xY,zAz]at hb;first|exact JY|exact LN)))|true=>(simp only[xY,zAg]at hb;(refine eM call148 λF hF=>?_);((refine WW ?_));all_goals (first|exact zI|exact JY|exact LN)))
structure ot (a:Ag):Prop where
 s:(a.sec.length:Int)=8
 l:(a.lim.length:Int)=4
 li:∀n∈a.lim,0<=n/\n<=8
 r:0<=a.rights/\a.rights<=63
 c:0<=a.cls/\a.cls<=3
 q:0<=a.req/\a.req<=4
 e:1<=a.ses/\a.ses<=2
 b:0<=a.burst/\a.burst<=1000
 t:0<=a.rate/\a.rate<=a.burst
def Nw {a b:Int} (h:a<=n/\n<=b):xY n a b=true:=zAc h
def Yg (a:Ag) (h:ot a):zO 150 [wP a] [] (bA true) []:=by
 obtain⟨h1,h2,E,I,L,M,O,R,S⟩:=h;have W:=zA yA a.sec;have hl:=zA iA a.lim;have u:=xA a.rights 0 63;have y:=xA a.cls 0 3;have z:=xA a.req 0 4;have A:=xA a.ses 1 2;have B:=xA a.burst 0 1000;have C:=xA a.rate 0 a.burst;rw[Nw zB]at u y z A B C;refine eM call150 λF hF=>?_
 refine WW ?_;refine zU (a.lim) [1] [1] [1,16,17] [18,1,16,17] Z (λi gd T U=>⟨(18,iA i)::T,U⟩) (Lq ?_ ?_)
 .intro i gd x post hx hi;have X:=zY iA hx hi;have G:=zX hx hi;have V:=E x (yQ hx);have c:=xA x 0 8;rw[Nw zB]at c;clear hx;refine zP c ?_;rfl
 .exact ng (BJ u y z A B C)
def a0:Ag:=⟨eV 1,1,0,[1,1,1,1],0,1,0,2⟩
theorem jT (n:Int):(eV n).length=8:=by simp[eV]
def nt (n:Int):0<=IntKind.u8.wrap n/\IntKind.u8.wrap n<256:=by
 have:IntKind.u8.wrap n=n % 256:=rfl;omega
theorem UX (n:Int):BY (eV n):=λx hx=>by
 unfold eV at hx;rw[zBm]at hx;obtain⟨i,_,rfl⟩:=hx;exact nt _
theorem ym {g:Int} {l:List Int} (u:0<=g/\g<256) (y:0<=s/\s<256) (hl:BY l):BY (g::s::l):=λx hx=>by
 simp only[zBx]at hx
 rcases hx with rfl|rfl|hx
 .exact u
 .exact y
 .exact hl x hx
theorem A5 (n:Int) (a:Ag) (h:ot a):GT (PD n a):=by
 have h1:=h.s;have h2:=h.l;refine⟨⟨by simp[PD,de],λt u=>?_⟩,by unfold PD;dsimp only;omega,by unfold PD;dsimp only;omega,by simp[PD]⟩
 grind [PD,de,xa]
section
open Go.RowKit
def LIn (k:IntKind) (w:World) (A:Option Addr) (n c:Nat) (xs:List Int):Prop:=
 (ln xs)=n/\n<=c/\c<=9223372036854775807/\(0<n->∃b o,A=some ⟨b,o,none⟩/\b<w.heap.size/\∀j,j<n->w.cell? ⟨b,o+j,none⟩=some (.int k (xs.getD j 0)))
theorem LIn.of_row {a:Option Addr} {len cap:Nat} {y:List Int}
 (h:(a=none/\len=0/\cap=0/\y=[])\/∃x,a=some x/\len<=cap/\cap<=maxLen/\y.length=cap/\(∀i,i<ln y->w.cell? (x.add i)=some (.int k (y.getD i 0)))/\∀n∈y,(Lit.int k n).wf=true):
  LIn k w a len cap (y.take len):=by
 rcases h with⟨rfl,rfl,rfl,rfl⟩|⟨x,rfl,h1,h2,E,B,_⟩
 .grind [LIn]
 .refine⟨by simp;omega,h1,by unfold maxLen at h2;omega,λG=>?_⟩;obtain⟨b,off,z⟩:=x;have hc:=B 0 zB;have u:z=none:=by simpa [Addr.add]using World.cell?_spot hc
  subst u;have A:w.cell? ⟨b,off,none⟩=some (.int k (y.getD 0 0)):=by simpa [Addr.add]using hc
  refine⟨b,off,rfl,World.block_lt_of_cell? w _ A,λj hj=>?_⟩;have C:=B j zB
  have e:(⟨b,off,none⟩:Addr).add j=⟨b,off+j,none⟩:=by unfold Addr.add;split<;>simp_all
  grind
theorem LIn.repf {A:Option Addr} {n c:Nat} {xs:List Int} (h:LIn k w A n c xs) {D:Nat->Prop} (C:∀b,¬D b):xF w D (.sl false (xs.map λn=> .s (.int k n))) (.slice A n c):=by
 obtain⟨rfl,h2,G,B⟩:=h
 cases hx:xs with
 |nil=>exact .nil A c
 | cons x r=>
  rw[<-hx];obtain⟨b,o,rfl,hb,hc⟩:=B (by rw[hx];simp)
  have:=xF.sl (w:=w) (D:=D) false (xs.map λn=>AV.s (.int k n)) b o 1 c (λi _=> .int k (xs.getD i 0)) (by rw[hx];simp)
   ⟨hb,C b,zAe _,by simp[cD];omega,λi y u=>by
    rw[zAh,zAo]at u;obtain⟨z,_,rfl⟩:=u
    rfl,λi j hi hj=>by
    obtain rfl:j=0:=by omega
    rw[Nat.mul_one,zCy]
    exact hc i NL,λ_ _ _ _=>rfl⟩ JE (λi y j v u hv=>by
    rw[zAh,zAo]at u;obtain⟨z,E,rfl⟩:=u
    cases j with
    |zero=>
     simp[AV.cells]at hv;subst hv;have:xs.getD i 0=z:=by simp[pi,E]
     rw[this];exact .s _
    |succ j=>simp[AV.cells]at hv)
  simpa using this
theorem wJ.law {P:Program} {args:List AV} (h:wJ P f args [] (.s (.bool true)) []) {u:Array Value} {w:World} (hl:u.size=ln args)
 (A:∀(i:Nat) v,args[i]? =some v->xF w (xT (λ_=>False) λ_=>[]) v (u.getD i undef)):Calls P f u w λe w'=>e= .returned (.bool true)/\Below w.heap.size w w':=by
 have H:jW (λ_=>False) (zD []) (λ_=>[]) w:=⟨λk e y=>by simp[zD]at y,λ_ _=>rfl,λk B b n C h1 _=>by simp at h1,λk b n h1=>by simp at h1,λb hd=>by
  rcases hd with hd|⟨_,_,hd⟩
  .exact hd.elim
  .simp at hd⟩
 refine Calls.mono (h.sim (λ_=>False) w (λ_=>[]) u hl H λi v hv=> .fz _ _ (A i v hv)) ?_;rintro e w' ⟨c,β',rfl,G,hc⟩;have:c= .bool true:=hc.s_inv;subst this;exact⟨rfl,G.os,G.tape,G.output,G.size,λk hk=>G.keep k hk λ_ _ z=>by simp at z⟩
def dom0:∀b,¬xT (λ_=>False) (λ_=>[]) b:=λb hd=>by
 rcases hd with hd|⟨_,_,hd⟩
 .exact hd
 .simp at hd
def ZT (w:World):List AV->List Value->Prop
 | [],[]=>True
 |a::r,c::s=>xF w (xT (λ_=>False) λ_=>[]) a c/\ZT w r s
 |_,_=>False
theorem ZT.len :∀{l:List AV} {s:List Value},ZT w l s->ln s=ln l
 | [],[],_=>rfl
 |_::_,_::_,h=>by simp[ZT.len h.2]
 | [],_::_,h=>h.elim
 |_::_,[],h=>h.elim
theorem ZT.at :∀{l:List AV} {s:List Value},ZT w l s->∀(i:Nat) v,l[i]? =some v->xF w (xT (λ_=>False) λ_=>[]) v (s.getD i undef)
 | [],[],_,i,v,hv=>by simp at hv
 |a::_,c::_,h,0,v,hv=>by simp at hv;subst hv;exact h.1
 |_::_,_::_,h,i+1,v,hv=>by simpa using ZT.at h.2 i v EW
 | [],_::_,h,_,_,_=>h.elim
 |_::_,[],h,_,_,_=>h.elim
theorem wJ.lawL {P:Program} {args:List AV} (h:wJ P f args [] (.s (.bool true)) []) {cs:List Value} {w:World} (u:ZT w args cs):Calls P f cs.toArray w λe w'=>e= .returned (.bool true)/\Below w.heap.size w w':=
 h.law (by simpa using u.len) λi v hv=>by simpa [zA4,pi]using u.at i v hv
theorem LIn.le {A:Option Addr} {n c:Nat} {xs:List Int} (h:LIn k w A n c xs):ln xs<=9223372036854775807:=by grind [LIn]
end
def rem (d:Dk):Nat:=ln d.l-d.a
theorem wX (d:Dk):rem (ad d)<=rem d:=by unfold ad;split;(unfold rem;dsimp only;omega);exact zAe _
def Tz (d:Dk) (h:d.a<ln d.l):rem (ad d)+1<=rem d:=by unfold ad;rw[zFa h];unfold rem;dsimp only;omega
def xm (d:Dk):zO 26 [.ptr 1000 0 0] [(1000,cB d)] (bA (decide (d.a<ln d.l))) [(1000,cB d)]:=by
 have hl:(d.l.map iA).length=ln d.l:=by simp
 refine eM call26 λF hF=>?_
 (repeat' (first|refine aK ?_|refine yY (λhc=>?_) λhc=>?_|fail))
 refine zV [1000] Z Z (zAt bA ?_) Z;simp[kL]
structure TkP (l:List Tk):Prop where
 n:l.length=8
 y:∀t∈l,BY t.sec/\t.sec.length<=8/\(t.used=true->t.sec.length=8/\MN t.rights=true/\0<=t.til/\t.til<=2147483648)
 v:TV l
theorem TkP.b (h:TkP l):JW l:=⟨by have:=h.n;omega,λt u=>by have:=(h.y t u).2.1;omega⟩
def OD:List Int->Nat->Int->Int×Int×Int
 | [],_,_=>(0,0,6)
 |x::r,i,n=>if i=5 then(0,0,6)else if 128<=x then OD r (i+1) (n+x.tmod 128*128 ^ i)else if 4294967295<n+x.tmod 128*128 ^ i\/(0<i/\x=0)then(0,0,6)else(n+x.tmod 128*128 ^ i,i+1,0)
def UY (b:List Int):Int×Int×Int:=OD b 0 0
def gq (n:Int):Int:=if n<0\/4294967295<n then 0 else if n<128 then 1 else if n<16384 then 2 else if n<2097152 then 3 else if n<268435456 then 4 else 5
def rt (m:Int):Int:=if m<128 then 0 else if m<16384 then 1 else if m<2097152 then 2 else if m<268435456 then 3 else 4
theorem wm (u:0<=n) (h1:n<=4294967295):gq n=1+rt n:=by grind [gq,rt]
theorem Zt (u:128<=m) (h1:m<=4294967295):rt m=1+rt (m/128):=by grind [rt]
def Sz (h:m<128):rt m=0:=Os h
def BA (n:Int):zO 201 [iA n] [] (iA (gq n)) []:=by
 by_cases h:n<0\/4294967295<n
 .have e:gq n=0:=Os h;rw[e];by_cases h1:n<0
  ·(refine eM call201 λF hF=>?_)
   exact mx
  .have h2:=h.resolve_left h1;refine eM call201 λF hF=>?_
   exact mx
 have h1:0<=n:=by omega
 have h2:n<=4294967295:=by omega
 rw[wm h1 h2];generalize B:1+rt n=s;refine eM call201 λF hF=>?_
 refine WW ?_;refine fH (5) [] [] [] [0,3] Z (λy T U C=>∃(m:Int) (k:Int),(0<=m/\m<=4294967295/\k=6-y/\1<=k/\k<=5/\(k=2->m<=33554431)/\(k=3->m<=262143)/\(k=4->m<=2047)/\(k=5->m<=15)/\s=k+rt m)/\C=⟨(0,iA m)::(3,iA k)::T,U⟩) ?_;(conv=>whnf);refine⟨?_,?_⟩
 .exact⟨n,1,⟨h1,h2,zB,zB,zB,zB,zB,zB,zB,B.symm⟩,rfl⟩
 .rintro y st ⟨m,k,⟨q0,q1,q2,q3,q4,q5,q6,q7,q8,q9⟩,rfl⟩;by_cases A:128<=m
  .have hd:=Zt A q1;have u:m.tdiv 128=m/128:=zCc q0;have z:bZ .i64 (m.tdiv 128):=⟨zB,zB⟩;refine WW ?_;refine⟨y-1,zB,m.tdiv 128,k+1,⟨zB,zB,zB,zB,zB,zB,zB,zB,zB,by rw[u];omega⟩,rfl⟩
  .rw[Sz zB]at q9;obtain rfl:s=k:=by omega
   exact mx
def v6 (h:i<=4):((128:Int) ^ i=1/\i=0)\/((128:Int) ^ i=128/\i=1)\/((128:Int) ^ i=16384/\i=2)\/((128:Int) ^ i=2097152/\i=3)\/((128:Int) ^ i=268435456/\i=4):=by
 obtain rfl|rfl|rfl|rfl|rfl:i=0\/i=1\/i=2\/i=3\/i=4:=by omega
 all_goals simp
def u6 {i:Nat} {x:Int} (h:i<=4) (u:0<=n) (h1:n<128 ^ i) (y:0<=x) (z:x<128):(gq (n+x*128 ^ i)=(i:Int)+1)↔¬(4294967295<n+x*128 ^ i\/(0<i/\x=0)):=by
 rcases v6 h with⟨e,rfl⟩|⟨e,rfl⟩|⟨e,rfl⟩|⟨e,rfl⟩|⟨e,rfl⟩
 all_goals rw[e]at h1⊢
 all_goals unfold gq
 all_goals repeat' split
 all_goals omega
def j6 {x P:Int} (u:0<=x) (A:x<128) (y:1<=P) (z:P<=268435456):0<=x*P/\x*P<=127*P:=by
 refine⟨Int.mul_nonneg u zB,Int.mul_le_mul_of_nonneg_right zB zB⟩
theorem d6 (b:List Int) (hb:BY b) (hn:ln b<=100000):zO 287 [zE yA b] [] (.tup [iA (UY b).1,iA (UY b).2.1,iA (UY b).2.2]) []:=by
 have hl:=zA yA b;refine eM call287 λF hF=>?_
 refine WW ?_;refine fH (6) [] [] [0] [5,6,7,0] Z (λX T U zs=>∃(i:Nat) (n:Int),(X+i=6/\i<=5/\i<=ln b/\0<=n/\n<128 ^ i/\UY b=OD (b.drop i) i n)/\zs=⟨(5,iA n)::(6,iA (128 ^ i:Int))::(7,iA i)::T,U⟩) ?_;(conv=>whnf);refine⟨?_,?_⟩
 .exact⟨0,0,⟨rfl,zB,zB,zB,by decide,rfl⟩,rfl⟩
 .rintro X st ⟨i,n,⟨q0,q1,q2,q3,q4,q5⟩,rfl⟩;rw[q5];clear q5;by_cases C:i<ln b
  case neg=>
   have e:b.drop i=[]:=zEi zB;rw[e]
   show uG _ _ _ _ _ (aL (Ax 0 (KT _ _ _ _ (Fin _ _ [] (.tup [iA 0,iA 0,iA 6]) []))) _)
   generalize (128 ^ i:Int)=y at *;exact mx
  have hx:=hb (b.getD i dd) (by simp[pi,C]);have hy:=zJ yA b i C;have e:b.drop i=b.getD i dd::b.drop (i+1):=by rw[zDw C];simp[pi,C]
  rw[e];clear e;generalize hr:b.drop (i+1)=r at *;generalize S:b.getD i dd=x at *;by_cases I:i=5
  .subst I
   show uG _ _ _ _ _ (aL (Ax 0 (KT _ _ _ _ (Fin _ _ [] (.tup [iA 0,iA 0,iA 6]) []))) _)
   generalize (128 ^ 5:Int)=y at *;exact mx
  have ht:x.tmod 128=x % 128:=zBi hx.1;have M:=v6 (i:=i) zB;have Y:1<=(128:Int) ^ i/\(128:Int) ^ i<=268435456:=by omega
  have W:=j6 (x:=x.tmod 128) (P:=128 ^ i) zB zB zB zB;have A:=u6 (i:=i) (n:=n) (x:=x.tmod 128) zB q3 q4 zB zB;have L:(128:Int) ^ (i+1)=128 ^ i*128:=rfl;by_cases G:128<=x
  .have e:OD (x::r) i n=OD r (i+1) (n+x.tmod 128*128 ^ i):=by rw[OD,hW I,Os G]
   rw[e];clear A M S;generalize (128:Int) ^ i=y at *;have E:bZ .i64 (x.tmod 128*y):=by generalize x.tmod 128*y=V at *;exact⟨zB,zB⟩
   have z:bZ .i64 (n+x.tmod 128*y):=by generalize x.tmod 128*y=V at *;exact⟨zB,zB⟩
   have R:0<=n+x.tmod 128*y/\n+x.tmod 128*y<y*128:=by generalize x.tmod 128*y=V at *;omega
   (repeat' (first|refine qU ?_|apply yY|apply xN|intro hc|(apply zG;first|(apply vE;first|refine wO (PP Z Z E) Z ?_|refine wO (PO Z Z z) Z ?_)|refine SM ?_)|fail))
   refine⟨X-1,zB,i+1,n+x.tmod 128*y,⟨zB,zB,zB,R.1,by rw[L];exact R.2,by rw[hr]⟩,?_⟩;rw[L];rfl
  .have B:x.tmod 128=x:=by omega
   have e:OD (x::r) i n=if 4294967295<n+x.tmod 128*128 ^ i\/(0<i/\x=0)then(0,0,6)else(n+x.tmod 128*128 ^ i,(i:Int)+1,0):=by rw[OD,hW I,hW G]
   have c:=BA (n+x.tmod 128*128 ^ i);rw[e];rw[B]at A;rw[B]at c W⊢;clear M S e;generalize (128:Int) ^ i=y at *;have E:bZ .i64 (x.tmod 128*y):=by rw[B];generalize x*y=V at *;exact⟨zB,zB⟩
   have z:bZ .i64 (n+x.tmod 128*y):=by rw[B];generalize x*y=V at *;exact⟨zB,zB⟩
   by_cases u:4294967295<n+x*y\/(0<i/\x=0)
   .have ac:gq (n+x*y)≠(i:Int)+1:=λh=>A.1 h u
    rw[Os u];clear A u;generalize gq (n+x*y)=s at *;rw[<-B]at c W
    (have gt:=c;(repeat' (first|refine qU ?_|apply yY|apply xN|intro hc|(apply zG;first|(apply vE;first|refine wO (PP Z Z E) Z ?_|refine wO (PO Z Z z) Z ?_)|refine SM ?_)|fail))<;>clear gt)
    exact zI
   .have O:=A.2 u;rw[O]at c;rw[hW u];clear A u O;rw[<-B]at c W⊢
    (have gt:=c;(repeat' (first|refine qU ?_|apply yY|apply xN|intro hc|(apply zG;first|(apply vE;first|refine wO (PP Z Z E) Z ?_|refine wO (PO Z Z z) Z ?_)|refine SM ?_)|fail))<;>clear gt)
    exact zI
section
variable {P:Program} {tm:List (Nat×AV)} {h:List (Nat×xM)} {tx ty:Nat} {x y:Operand}
end
theorem vm:∀(r:List Int) (i:Nat) (n:Int),BY r->0<=n->(OD r i n=(0,0,6))\/((OD r i n).2.2=0/\0<=(OD r i n).1/\(OD r i n).1<=4294967295/\(i:Int)+1<=(OD r i n).2.1/\(OD r i n).2.1<=i+ln r)
 | [],i,n,_,_=> .inl Z
 | x::r,i,n,hb,B=>by
  have hx:=hb x yE
  have z:0<=n+x.tmod 128*128 ^ i:=by
   have h1:0<=x.tmod 128:=by rw[zBi hx.1];omega
   have h2:(0:Int)<=128 ^ i:=Int.pow_nonneg zB;have:=Int.mul_nonneg h1 h2;omega
  rw[OD];by_cases u:i=5
  .exact .inl (Os u)
  rw[hW u];by_cases h1:128<=x
  .rw[Os h1]
   rcases vm r (i+1) (n+x.tmod 128*128 ^ i) (λy A=>hb y (by simp[A])) z with h|⟨a,b,c,d,e⟩
   .exact .inl h
   .refine .inr ⟨a,b,c,zB,?_⟩;rw[zAp];omega
  .rw[hW h1];by_cases h2:4294967295<n+x.tmod 128*128 ^ i\/(0<i/\x=0)
   .exact .inl (Os h2)
   .rw[hW h2];refine .inr ⟨rfl,z,zB,zCi _,?_⟩
    show(i:Int)+1<=_
    rw[zAp];omega
theorem um (b:List Int) (hb:BY b):UY b=(0,0,6)\/((UY b).2.2=0/\0<=(UY b).1/\(UY b).1<=4294967295/\1<=(UY b).2.1/\(UY b).2.1<=ln b):=by
 have:=vm b 0 0 hb (zCi _)
 grind [BY,UY]
def OE:Nat->List Int->Option (List Int×List Int)
 |0,b=>some ([],b)
 |n+1,b=>if(UY b).2.2=0 then(match OE n (b.drop (UY b).2.1.toNat)with|none=>none|some (l,r)=>some ((UY b).1::l,r))else none
def D3 (l:List Int):Option (List Int×List Int)->Option (List Int×List Int)
 |none=>none
 |some (k,r)=>some (l++k,r)
def Yt (o:Option (List Int×List Int)):D3 [] o=o:=by
 cases o with
 |none=>rfl
 |some p=>rfl
def Rz {l b:List Int} {n:Nat} (h:(UY b).2.2≠0):D3 l (OE (n+1) b)=none:=by
 rw[OE,hW h];rfl
theorem Qz {l b:List Int} {n:Nat} (h:(UY b).2.2=0):D3 l (OE (n+1) b)=D3 (l++[(UY b).1]) (OE n (b.drop (UY b).2.1.toNat)):=by grind [UY,D3,OE]
def Pz:Option (List Int×List Int)->AV
 |none=> .tup [zE iA [],zE yA [],bA false]
 |some (l,r)=> .tup [zE iA l,zE yA r,bA true]
def VA (b:List Int) (n:Nat) (hb:BY b) (B:ln b<=100000) (L:n<=1000):zO 239 [zE yA b,iA n] [] (Pz (OE n b)) []:=by
 refine eM call239 λF hF=>?_
 refine WW ?_;refine zW 7 1001 1 Z Z Z ?_;refine zZ (n) [1001] [] [11] [0,7,12,11] Z (λi T U I=>∃u c,(ln u=i/\BY c/\c.length<=100000/\OE n b=D3 u (OE (n-i) c))/\I=⟨(0,zE yA c)::(7,.ref 1001 0 (u.map iA).length)::(12,iA i)::T,(1001,.arr 1 (u.map iA) true)::U⟩) (Lp ?_ ?_ ?_)
 .exact⟨[],b,⟨rfl,hb,B,by rw[Yt];rfl⟩,rfl⟩
 .rintro i st hi ⟨u,c,⟨q0,q1,q2,q3⟩,rfl⟩;have hd:=d6 c q1 q2;have hl:=zA yA c;have E:=zA iA u;rw[show n-i=(n-(i+1))+1 by omega]at q3
  rcases um c q1 with h|⟨h1,h2,h3,h4,h5⟩
  .rw[q3,Rz (by rw[h];decide)];rw[h]at hd;clear q3 h
   show uG _ _ _ _ _ (aL (Ax 0 (KT _ _ _ _ (Fin _ _ [] (.tup [zE iA [],zE yA [],bA false]) []))) _)
   exact nl hd
  .rw[Qz h1]at q3;rw[h1]at hd;have A:BY (c.drop (UY c).2.1.toNat):=λy G=>q1 y (zBo G)
   have C:(c.drop (UY c).2.1.toNat).length<=100000:=by rw[zBh];omega
   clear h1;rw[q3];generalize (UY c).1=v,(UY c).2.1=k at *;refine zP hd ?_;refine⟨u++[v],c.drop k.toNat,⟨by simp[q0],A,C,rfl⟩,?_⟩;rw[zAd];rfl
 .rintro st ⟨u,c,⟨q0,q1,q2,q3⟩,rfl⟩;rw[q3,zCz]
  show uG _ _ _ _ _ (aL (Ax 0 (KT _ _ _ _ (Fin _ _ [] (.tup [zE iA (u++[]),zE yA c,bA true]) []))) _)
  rw[zA6];refine WW ?_;exact zH [] Z Z (zAt (λz=>AV.tup [z,zE yA c,bA true]) (eU _ _)) Z
def Tb:Nat->Int->List Int
 |0,n=>[n]
 |f+1,n=>if n<128 then [n]else(n % 128+128)::Tb f (n/128)
def jI (n:Int):List Int:=Tb 4 n
def Sb {z:Nat} (h:n<128 ^ (z+1+1)):n/128<128 ^ (z+1):=Int.ediv_lt_of_lt_mul xG (by rw[zFc]at h;exact h)
theorem VB (h:n<128):Tb f n=[n]:=by
 cases f with
 |zero=>rfl
 |succ f=>exact Os h
theorem GP (h:128<=n):Tb (f+1) n=(n % 128+128)::Tb f (n/128):=hW zB
def Mw (n:Int) (B:0<=n) (h1:n<=4294967295):zO 143 [iA n] [] (.tup [zE yA (jI n),iA 0]) []:=by
 have cs:=BA n
 have L:1<=gq n:=by
  rw[wm B h1];unfold rt
  repeat' split
  all_goals omega
 generalize gq n=s at *;generalize C:jI n=R;refine eM call143 λF hF=>?_
 refine zP cs ?_;refine zW 4 1001 1 Z Z Z ?_;refine fH (4) [1001] [] [] [0,4] Z (λy T U O=>∃(m:Int) (u:List Int),(0<=m/\m<=4294967295/\m<128 ^ (y+1)/\u.length+y=4/\u++Tb y m=R)/\O=⟨(0,iA m)::(4,.ref 1001 0 (u.map yA).length)::T,(1001,.arr 1 (u.map yA) true)::U⟩) ?_;(conv=>whnf);refine⟨?_,?_⟩
 .exact⟨n,[],⟨B,h1,by show n<34359738368;omega,rfl,C⟩,rfl⟩
 .rintro y st ⟨m,u,⟨q0,q1,q2,q3,q4⟩,rfl⟩;have G:=zA yA u;by_cases I:128<=m
  .obtain⟨z,rfl⟩:∃z,y=z+1:=by
    cases y with
    |zero=>exfalso;have:m<128:=q2;omega
    |succ z=>exact⟨z,rfl⟩
   rw[GP I]at q4;have hd:=Sb q2;have M:m.tmod 128=m % 128:=zBi q0;have A:m.tdiv 128=m/128:=zCc q0;have E:bZ .i64 (m.tdiv 128):=⟨zB,zB⟩;clear q2;refine WW ?_;refine⟨z,zB,m.tdiv 128,u++[m.tmod 128+128],⟨zB,zB,by rw[A];exact hd,by simp;omega,by rw[A,M,zA2];exact q4⟩,?_⟩;rw[zAd];rfl
  .rw[VB zB]at q4;clear q2;subst q4;refine WW ?_;refine zH [] Z Z ?_ Z
   show AV.tup [AV.sl false ((u.map yA++[yA m]).take (u.map yA++[yA m]).length),iA 0]=_
   rw[zAa];unfold zE;rw[zAd];rfl
theorem Xt (u:0<=n) (h1:n<=4294967295):uX n 127=n % 128:=by
 obtain⟨a,rfl⟩:=zB7 u;unfold uX;rw[show BitVec.ofInt IntKind.i64.bits (a:Int)=BitVec.ofNat IntKind.i64.bits a from zDv ..];rw[show BitVec.ofInt IntKind.i64.bits (127:Int)=BitVec.ofNat IntKind.i64.bits 127 from Z];rw[BitVec.toNat_and,zDp,zDp,zDn (show a<2 ^ IntKind.i64.bits by show a<18446744073709551616;omega),zDn (show 127<2 ^ IntKind.i64.bits by decide)];have e:a &&& 127=a % 128:=Nat.and_two_pow_sub_one_eq_mod a 7
 grind [uX,jX,bZ]
def p6:∀k:_root_.Fin 128,IntKind.u8.wrap (BitVec.ofInt IntKind.u8.bits (k.val:Int) ||| BitVec.ofInt IntKind.u8.bits 128).toNat=(k.val:Int)+128:=by decide +kernel
section
variable {P:Program} {tm:List (Nat×AV)} {h:List (Nat×xM)} {tx ty:Nat} {x y:Operand}
theorem Wt (hx:yW (zL tm) x= .s (.int .u8 m)) (z:yW (zL tm) y= .s (.int .u8 128)) (u:0<=m/\m<128):wZ P ⟨tm,h⟩ (.binOp .or tx x y ty) (.s (.int .u8 (m+128))) [] [] []:=by
 have e:=p6 ⟨m.toNat,zB⟩
 grind [yW,zL,HB]
end
def o6 (n:Int) (C:0<=n) (h1:n<=4294967295):zO 235 [iA n] [] (.tup [zE yA (jI n),iA 0]) []:=by
 generalize E:jI n=R;refine eM call235 λF hF=>?_
 refine WW ?_;refine vY 11 Z ?_;refine fH (4) [11] [] [] [0,4] Z (λy T U M=>∃(m:Int) (u:List Int),(0<=m/\m<=4294967295/\m<128 ^ (y+1)/\u.length+y=4/\u++Tb y m=R)/\M=⟨(0,iA m)::(4,.ref 11 0 (u.map yA).length)::T,(11,.arr 1 (u.map yA) true)::U⟩) ?_;(conv=>whnf);refine⟨?_,?_⟩
 .exact⟨n,[],⟨C,h1,by show n<34359738368;omega,rfl,E⟩,rfl⟩
 .rintro y st ⟨m,u,⟨q0,q1,q2,q3,q4⟩,rfl⟩;have I:=zA yA u;by_cases L:128<=m
  .obtain⟨z,rfl⟩:∃z,y=z+1:=by
    cases y with
    |zero=>exfalso;have:m<128:=q2;omega
    |succ z=>exact⟨z,rfl⟩
   rw[GP L]at q4;have hd:=Sb q2;have G:=Xt q0 q1;have A:0<=uX m 127/\uX m 127<128:=by omega
   have B:wY m 7=m/128:=zCb m xG;clear q2
   (repeat' (first|refine qU ?_|apply yY|apply xN|intro hc|(apply zG;first|(apply vE;refine wO (Wt Z Z A) Z ?_)|refine SM ?_)|fail))
   refine⟨z,zB,wY m 7,u++[uX m 127+128],⟨zB,zB,by rw[B];exact hd,by simp;omega,by rw[B,G,zA2];exact q4⟩,?_⟩;rw[zAd];rfl
  .rw[VB zB]at q4;clear q2;subst q4;refine WW ?_;refine zH [] Z Z ?_ Z
   show AV.tup [AV.sl false ((u.map yA++[yA m]).take (u.map yA++[yA m]).length),iA 0]=_
   rw[zAa];unfold zE;rw[zAd];rfl
theorem BB:∀(r:List Int) (i:Nat) (n:Int),BY r->i<=5->(OD r i n).2.2=0->∃q:Int,0<=q/\(OD r i n).1=n+q*128 ^ i/\(0<i->0<q)/\i<=4/\∃j:Nat,(OD r i n).2.1=((i+j:Nat):Int)/\Tb (4-i) q=r.take j
 | [],i,n,_,_,h=>by exact absurd (show(6:Int)=0 from h) xG
 | x ::r,i,n,hb,M,h=>by
  have hx:=hb x yE;by_cases hi:i=5
  .exfalso;rw[OD,Os hi]at h;exact absurd (show(6:Int)=0 from h) xG
  by_cases z:128<=x
  .have e:OD (x::r) i n=OD r (i+1) (n+x.tmod 128*128 ^ i):=by rw[OD,hW hi,Os z]
   rw[e]at h⊢;obtain⟨q,S,G,I,U,j,q4,L⟩:=BB r (i+1) _ (λy E=>hb y (by simp[E])) zB h;have R:x.tmod 128=x % 128:=zBi hx.1;have O:=I zB;refine⟨x.tmod 128+q*128,zB,?_,λ_=>by omega,zB,j+1,by rw[q4];omega,?_⟩
   .rw[G,zFc,Int.add_mul,Int.mul_assoc,Int.mul_comm 128,Int.add_assoc]
   .obtain⟨f,C⟩:∃f,4-i=f+1:=⟨3-i,zB⟩;rw[C,GP zB,List.take_succ_cons,<-L,show 4-(i+1)=f by omega]
    congr 1
    .omega
    .congr 1
     omega
  .have A:x.tmod 128=x:=by rw[zBi hx.1];omega
   have e:OD (x::r) i n=if 4294967295<n+x.tmod 128*128 ^ i\/(0<i/\x=0)then(0,0,6)else(n+x.tmod 128*128 ^ i,(i:Int)+1,0):=by rw[OD,hW hi,hW z]
   rw[e]at h⊢;by_cases u:4294967295<n+x.tmod 128*128 ^ i\/(0<i/\x=0)
   .rw[Os u]at h;exact absurd (show(6:Int)=0 from h) xG
   .rw[hW u,A];refine⟨x,hx.1,rfl,λB=>?_,zB,1,by show(i:Int)+1=_;omega,?_⟩
    .have:x≠0:=λh=>u (.inr ⟨B,h⟩)
     omega
    .rw[VB zB];rfl
theorem qm {b:List Int} (hb:BY b) (h:(UY b).2.2=0):jI (UY b).1=b.take (UY b).2.1.toNat:=by
 obtain⟨q,_,u,_,_,j,q4,y⟩:=BB b 0 0 hb zB h
 grind [BY,UY,jI]
theorem VC:∀(n:Nat) (b l r:List Int),BY b->OE n b=some (l,r)->ln l=n/\BY r/\(∀x∈l,0<=x/\x<=4294967295)/\b=(l.map jI).flatten++r
 |0,b,l,r,hb,h=>by
  cases h;exact⟨rfl,hb,by simp,rfl⟩
 | n +1,b,l,r,hb,h=>by
  rw[OE]at h;by_cases u:(UY b).2.2=0
  .rw[Os u]at h
   rcases um b hb with h0|⟨_,h2,h3,h4,h5⟩
   .rw[h0]at u;exact absurd (show(6:Int)=0 from u) xG
   cases z:OE n (b.drop (UY b).2.1.toNat)with
   |none=>rw[z]at h;cases h
   | some p=>
    obtain⟨I,L⟩:=p;rw[z]at h;cases h;obtain⟨A,B,C,E⟩:=VC n _ I r (λy G=>hb y (zBo G)) z;refine⟨by simp[A],B,λx hx=>?_,?_⟩
    .rcases zBx.1 hx with rfl|hx
     .exact⟨h2,h3⟩
     .exact C x hx
    .rw[zBc,zC0,qm hb u,zA2,<-E,zDd]
  .rw[hW u]at h;cases h
def uD (k:Int):Nat:=if k=2\/k=6 then 3 else if k=4 then 2 else if k=1\/k=9\/k=12 then 0 else 1
def wK (k:Int):Nat:=if k=6 then 4 else if k=7 then 2 else 0
def JT (y u:Nat) (p:List Int):Option (List Int):=
 if 200<ln p\/p.length<10 then none else match OE y (p.drop 10)with
 |none=>none
 | some (a,r)=>if u=0 then(if r=[]then some a else none)else match OE 1 r with
  |none=>none
  |some (c,r2)=>if c.getD 0 0<1\/3<c.getD 0 0 then none else match OE ((c.getD 0 0).toNat*u) r2 with
   |none=>none
   |some (f,r3)=>if r3=[]then some (a++f)else none
def u9 (k:Int) (tok:List Int):Option (List Int)->AV
 |none=> .tup [yO ⟨0,[],[],[]⟩,iA 6]
 |some a=> .tup [yO ⟨k,tok,a,[]⟩,iA 0]
