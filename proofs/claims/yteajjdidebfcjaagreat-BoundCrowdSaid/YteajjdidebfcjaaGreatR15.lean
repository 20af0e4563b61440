/- Part 15. -/
import Derived.Test.YteajjdidebfcjaaGreatR14
import Derived.WalkKit
import Derived.ProofKit
namespace Go.Proofs.YteajjdidebfcjaaGreat
namespace Av
open Tryz
set_option linter.all false
set_option maxRecDepth 4000
set_option maxHeartbeats 2000000
def zKa (t:Tk):Bool:=decide ((t.sec.length:Int)=8/\0<=t.cls/\t.cls<=3/\0<=t.til/\t.til<=2147483648)
def soF (t:Tk):Bool:=BX t.rights&&zKa t
def IA (t:Tk):zN 291 [yV t] [] (bA (soF t)) []:=by
 have c:=aW t.rights;have hl:=zA yA t.sec;unfold soF;generalize BX t.rights=v at *;cases v
 ·rw[yBy];refine eM call291 λF hF=>?_
  refine zV c (I2 (λhc=>?_) λhc=>?_)
  all_goals exact zJ
 ·rw[yAv]
  (cases hb:zKa t with|false=>((refine eM call291 λF hF=>?_);((refine zV c (I5 (λhc hc hc hc=>?_) (λhc hc hc hc=>?_) (λhc hc hc=>?_) (λhc hc=>?_) λhc=>?_)));all_goals (first|exact zJ|(simp only[zKa,yAr]at hb;first|exact zXO|exact zFB)))|true=>(simp only[zKa,yAc]at hb;(refine eM call291 λF hF=>?_);((refine zV c ?_));all_goals (first|exact zJ|exact zXO|exact zFB)))
def EP (t:Tk):Bool:=decide ((t.sec.length:Int)=0/\t.par= -1/\t.rights=0/\t.cls=0/\t.til=0)
def NE (u:Bool) (t:Tk):AV:= .agg [bA u,zD yA t.sec,iA t.par,iA t.rights,iA t.cls,iA t.til]
def zKb (t:Tk):zN 292 [NE false t] [] (bA (EP t)) []:=by
 have hl:=zA yA t.sec
 (cases hb:EP t with|false=>((refine eM call292 λF hF=>?_);((refine WW (I5 (λhc hc hc hc=>?_) (λhc hc hc hc=>?_) (λhc hc hc=>?_) (λhc hc=>?_) λhc=>?_)));all_goals (first|exact zJ|(simp only[EP,yAr]at hb;first|exact zXO|exact zFB)))|true=>(simp only[EP,yAc]at hb;(refine eM call292 λF hF=>?_);((refine WW ?_));all_goals (first|exact zJ|exact zXO|exact zFB)))
def PE (l:List Tk) (s:Int):Bool:=if(l.getD s.toNat default).used=true then soF (l.getD s.toNat default)&&deF l s 0&&(wiF (l.getD s.toNat default).rights (l.getD (l.getD s.toNat default).par.toNat default).rights&&decide ((l.getD s.toNat default).cls<=(l.getD (l.getD s.toNat default).par.toNat default).cls)&& !laF (l.getD s.toNat default).til (l.getD (l.getD s.toNat default).par.toNat default).til)
 else EP (l.getD s.toNat default)
def LB (t:Tk):Bool:=t.used&&decide (t.par= -1/\t.til=0)&&soF t
def NP (l:List Tk):Bool:=decide ((l.length:Int)=8)&&(LB (l.getD 0 default)&&(List.range 7).all λi=>PE l ((i:Int)+1))
def zU5 {l:List Tk} {i:Nat} (hi:i<7) (h:PE l ((i:Int)+1)=false):NP l=false:=by
 unfold NP;have:((List.range 7).all λi=>PE l ((i:Int)+1))=false:=yC1.2 ⟨i,yAt.2 hi,by simp[h]⟩;rw[this];simp
def zO4 {l:List Tk} {s:Int} (h:deF l s 0=true) (h0:s≠0):gX l (l.getD s.toNat default).par=true:=by
 unfold deF at h;rw[kS l 7 s]at h
 cases hu:gX l s<;>rw[hu]at h
 ·simp at h
 ·rw[yBn,yGg]at h;have:(s==0)=false:=by simpa using h0
  rw[this,yDm,kS l 6]at h;cases hp:gX l (l.getD s.toNat default).par
  ·rw[hp]at h;simp at h
  ·rfl
theorem WE (l:List Tk):zN 262 [zD yV l] [] (bA (NP l)) []:=by
 have hll:=zA yV l;by_cases h8:(l.length:Int)=8
 case neg=>
  rw[show NP l=false by unfold NP;rw[yAh h8];rfl];refine eM call262 λF hF=>?_
  refine WW ?_;exact zJ
 have hy0:=yI yV l 0 zB zB
 change (l.map yV)[0]? =some (yV (l.getD 0 default))at hy0
 cases hr:LB (l.getD 0 default)
 ·rw [show NP l=false by unfold NP;rw[hr];simp];have c:=IA (l.getD 0 default);unfold LB at hr;generalize l.getD 0 default=t at *;generalize soF t=q at *;cases hu:t.used
  ·rw[show yV t=NE false t by unfold yV NE;rw[hu]]at *; unfold NE at *;refine eM call262 λF hF=>?_
   refine zV c ?_;exact zJ
  ·rw[show yV t=NE true t by unfold yV NE;rw[hu]]at *; unfold NE at *;by_cases h1:t.par= -1
   ·by_cases h2:t.til=0
    ·rw[hu,yAe ⟨h1,h2⟩,yAv,yAv]at hr;subst hr;refine eM call262 λF hF=>?_
     refine zV c ?_;exact zJ
    ·(refine eM call262 λF hF=>?_)
     refine zV c ?_;exact zJ
   ·(refine eM call262 λF hF=>?_)
    refine zV c ?_;exact zJ
 have c0:=IA (l.getD 0 default);have hr':=hr;unfold LB at hr';simp only[yAk,yAc]at hr';obtain⟨⟨hu,h1,h2⟩,h3⟩:=hr';have hy0':=hy0;rw[h3]at c0;rw[show yV (l.getD 0 default)=NE true (l.getD 0 default) by unfold yV NE;rw[hu]]at hy0' c0;unfold NE at hy0' c0;clear hy0;generalize ht0:l.getD 0 default=t0 at hy0' c0 h1 h2;refine eM call262 λF hF=>?_
 refine zV c0 ?_;refine xR (7) [] [] [0] [4,0] Z (λi T U zs=>(∀s:Nat,s<i->PE l ((s:Int)+1)=true)/\zs=⟨(4,iA ((i:Int)+1))::T,U⟩) ?_;(conv=>whnf);refine⟨?_,?_,?_⟩
 ·exact⟨λs hs=>absurd hs (yCj _),rfl⟩
 ·rintro i st hi ⟨hp,rfl⟩
  have next:PE l ((i:Int)+1)=true->∀s:Nat,s<i+1->PE l ((s:Int)+1)=true:=λh s hs=>by
   by_cases hsi:s=i
   ·subst hsi;exact h
   ·exact hp s zB
  have stop:=λh=>zU5 (l:=l) hi h
  have hy:=yI yV l ((i:Int)+1) zB zB;have c1:=IA (l.getD ((i:Int)+1).toNat default);have c2:=zKb (l.getD ((i:Int)+1).toNat default);have c3:=zKs l ((i:Int)+1) 0;have hpar:=zO4 (l:=l) (s:=(i:Int)+1);have htok:PE l ((i:Int)+1)=_:=rfl
  conv at htok=>rhs;unfold PE
  generalize l.getD ((i:Int)+1).toNat default=t at *;generalize PE l ((i:Int)+1)=tk at *;cases hu:t.used
  ·rw[show yV t=NE false t by unfold yV NE;rw[hu]]at hy;rw[hu,zZ7 zU]at htok;rw[<-htok]at c2;unfold NE at hy c2;cases tk
   ·rw[stop Z];refine zV c2 ?_;exact zJ
   ·(refine zV c2 ?_)
    exact⟨next Z,by rw[Int.natCast_succ];rfl⟩
  ·rw[show yV t=NE true t by unfold yV NE;rw[hu]]at hy c1;rw[hu,zZ8 Z]at htok;unfold NE at hy c1;generalize soF t=q1 at *;generalize hq2:deF l ((i:Int)+1) 0=q2 at *;cases q1
   ·rw[yBy,yBy]at htok;rw[stop htok];refine zV c1 ?_;exact zJ
   cases q2
   ·rw[yAv,yBy]at htok;rw[stop htok];refine yR (vH c1 c3) ?_;exact zJ
   rw[yAv,yAv]at htok;obtain⟨p0,p1⟩:=YR (hpar Z zB);have hyp:=yI yV l t.par p0 p1;generalize l.getD t.par.toNat default=p at *;have c4:=DG t.rights p.rights;have c5:=zDd t.til p.til;generalize wiF t.rights p.rights=q3 at *;generalize laF t.til p.til=q4 at *;cases q3
   ·rw[yBy,yBy]at htok;rw[stop htok];refine yR (gK c1 c3 c4) ?_;exact zJ
   by_cases hcl:t.cls<=p.cls
   ·rw[yAe hcl,yAv,yAv]at htok;cases q4
    ·(refine yR (ZK c1 c3 c4 c5) ?_)
     exact⟨next htok,by rw[Int.natCast_succ];rfl⟩
    ·rw[stop htok];refine yR (ZK c1 c3 c4 c5) ?_;exact zJ
   ·rw[yAh hcl,yAv,yBy]at htok;rw[stop htok];refine yR (ZK c1 c3 c4 c5) ?_;exact zJ
 ·rintro st ⟨hp,rfl⟩
  rw[show NP l=true by
   unfold NP;rw[yAe h8,hr,yAv,yAv]
   exact yAm.2 λi hi=>hp i (yAt.1 hi)]
  refine WW ?_;exact zJ
def ldF (l:List Tk):Nat->Int->Int->Bool
 |0,_,_=>false
 |n+1,f,t=>gX l f&&(f==t||ldF l n (l.getD f.toNat default).par t)
def zKc (l:List Tk) (n:Nat) (f t:Int):ldF l (n+1) f t=(gX l f&&(f==t||ldF l n (l.getD f.toNat default).par t)):=rfl
theorem zKd (l:List Tk) (t:Int):∀(n:Nat) (f:Int),ldF l n f t=(ZT l n f).any λa=>a==t
 |0,_=>rfl
 |n+1,f=>by
  rw[zKc,kS];cases gX l f
  ·rfl
  ·rw[yBn,yGg,zKd l t n,yAv]
def TO (l:List Tk) (s:Nat):Bool:=if(l.getD s default).used=true then soF (l.getD s default)&&ldF l (l.length+1) s 0&&(decide (s=0)||(wiF (l.getD s default).rights (l.getD (l.getD s default).par.toNat default).rights&&decide ((l.getD s default).cls<=(l.getD (l.getD s default).par.toNat default).cls)&& !laF (l.getD s default).til (l.getD (l.getD s default).par.toNat default).til))
 else EP (l.getD s default)
def PF (t:Tk):Bool:=t.used&&decide (t.par= -1/\t.til=0)
def zKe (l:List Tk):Bool:=decide ((l.length:Int)=8)&&(PF (l.getD 0 default)&&(List.range l.length).all λi=>TO l i)
def LC (l:List Tk):yP [zD yV l] [] (bA (zKe l)) []:=yD
def zO5 (l:List Tk) (s:Int) (hn:l.length=8):yP [zD yV l,iA s] [] (iA (fT (λi=>ldF l (l.length+1) i s) 8)) []:=yD
def frB (p:Nat->Bool) (l:List Tk) (n:Nat):List Tk:=(List.range l.length).map λj=>if j<n/\p j=true then frT else l.getD j default
def zO6 (l:List Tk) (hb:GM l) (p:Nat->Bool) (hn:l.length=8):yP [zD yV l,iA (fT p 8)] [] (zD yV (frB p l 8)) []:=yD
theorem zKf:∀(n:Nat) (f:Nat->Nat),(∀i,i<=n->f i<n)->∃i j,i<j/\j<=n/\f i=f j
 |0,f,h=>absurd (h 0 (yAb _)) (yCj _)
 | n+1,f,h=>by
  by_cases hx:∃i,i<=n/\f i=f (n+1)
  ·obtain⟨i,h1,h2⟩:=hx;exact⟨i,n+1,zB,yAb _,h2⟩
  ·obtain⟨i,j,h1,h2,h3⟩:=zKf n (λi=>if f i<f (n+1)then f i else f i-1) λi hi=>by
    have h4:=h i zB;have h5:=h (n+1) (yAb _);have h6:f i≠f (n+1):=λe=>hx ⟨i,hi,e⟩
    split<;>omega
   refine⟨i,j,h1,zB,?_⟩;have h4:f i≠f (n+1):=λe=>hx ⟨i,zB,e⟩
   have h5:f j≠f (n+1):=λe=>hx ⟨j,h2,e⟩
   split at h3<;>split at h3<;>omega
def par (l:List Tk) (s:Int):Int:=(l.getD s.toNat default).par
def EQ (l:List Tk) (s:Int):Nat->Int
 |0=>s
 |k+1=>par l (EQ l s k)
theorem aA (l:List Tk) (s:Int):∀k,EQ l s (k+1)=EQ l (par l s) k
 |0=>rfl
 |k+1=>by rw[EQ,aA l s k];rfl
theorem IB (l:List Tk) (s:Int) (i:Nat):∀k,EQ l s (i+k)=EQ l (EQ l s i) k
 |0=>rfl
 |k+1=>by rw[<-yFg,EQ,IB l s i k];rfl
theorem cH (l:List Tk) (t:Int):∀(n:Nat) (s:Int),t∈ZT l n s↔∃k,k<n/\(∀j,j<=k->gX l (EQ l s j)=true)/\EQ l s k=t
 |0,s=>by simp[ZT]
 | n +1,s=>by
  rw[kS];constructor
  ·intro h;cases hu:gX l s
   ·rw[hu]at h;simp at h
   ·rw[hu,yBn,yBd]at h
    rcases h with rfl|h
    ·exact⟨0,zB,λj hj=>by rw[Nat.le_zero.1 hj];exact hu,rfl⟩
    ·obtain⟨k,h1,h2,h3⟩:=(cH l t n _).1 h;refine⟨k+1,zB,λj hj=>?_,by rw[aA];exact h3⟩
     cases j with
     |zero=>exact hu
     |succ j=>rw[aA];exact h2 j zB
  ·rintro⟨k,h1,h2,h3⟩;have hu:=h2 0 (yAp _)
   change gX l s=true at hu
   rw[hu,yBn,yBd]
   cases k with
   |zero=>exact .inl h3.symm
   |succ k=>
    rw[aA]at h3;refine .inr ((cH l t n _).2 ⟨k,zB,λj hj=>?_,h3⟩);have:=h2 (j+1) zB;rw[aA]at this;exact this
def zSk {l:List Tk} (h8:l.length=8) (s t:Int) (n:Nat) (h:t∈ZT l n s):t∈ZT l 8 s:=by
 obtain⟨k,_,h2,h3⟩:=(cH l t n s).1 h;clear h
 suffices ∀m k,k<=m->(∀j,j<=k->gX l (EQ l s j)=true)->EQ l s k=t->t∈ZT l 8 s from this k k (yAb _) h2 h3
 intro m
 induction m with
 |zero=>intro k hk h2 h3;exact(cH l t 8 s).2 ⟨k,zB,h2,h3⟩
 | succ m ih=>
  intro k hk h2 h3;by_cases h:k<8
  ·exact(cH l t 8 s).2 ⟨k,h,h2,h3⟩
  obtain⟨i,j,h4,h5,h6⟩:=zKf 8 (λi=>(EQ l s i).toNat) λi hi=>by
   have:=YR (h2 i zB);omega
  have e1:=YR (h2 i zB);have e2:=YR (h2 j zB);have e3:EQ l s i=EQ l s j:=by omega
  have e4:∀r,EQ l s (i+r)=EQ l s (j+r):=λr=>by rw[IB,IB,e3]
  refine ih (i+(k-j)) zB (λr hr=>h2 r zB) ?_;rw[e4,show j+(k-j)=k by omega];exact h3
def zKg (l:List Tk) {t s:Int} {n m:Nat} (hnm:n<=m) (h:t∈ZT l n s):t∈ZT l m s:=by
 obtain⟨k,h1,h2,h3⟩:=(cH l t n s).1 h;exact(cH l t m s).2 ⟨k,zB,h2,h3⟩
inductive Rch (l:List Tk):Int->Int->Prop
 |base (s:Int):gX l s=true->Rch l s s
 |step (s t:Int):gX l s=true->Rch l (par l s) t->Rch l s t
theorem zAi (l:List Tk) (t:Int):∀(n:Nat) (s:Int),t∈ZT l n s->Rch l s t
 |0,s,h=>by simp[ZT]at h
 | n+1,s,h=>by
  rw[kS]at h;cases hu:gX l s
  ·rw[hu]at h;simp at h
  ·rw[hu,yBn,yBd]at h
   rcases h with rfl|h
   ·exact .base _ hu
   ·exact .step _ _ hu (zAi l t n _ h)
def zC3 {l:List Tk} {s t:Int} (h:Rch l s t):∃n,t∈ZT l n s:=by
 induction h with
 |base s hu=>exact⟨1,by rw[kS,hu,yBn];exact List.mem_cons_self⟩
 |step s t hu _ ih=>
  obtain⟨n,hn⟩:=ih;exact⟨n+1,by rw[kS,hu,yBn];exact yD9 _ hn⟩
def IC {l:List Tk} (h8:l.length=8) (s t:Int):ldF l 9 s t=true↔Rch l s t:=by
 rw[zKd,yBo];constructor
 ·rintro⟨x,h1,h2⟩;rw[yBf]at h2;subst h2;exact zAi l _ _ _ h1
 ·intro h;obtain⟨n,hn⟩:=zC3 h;exact⟨t,zKg l zB (zSk h8 s t n hn),by simp⟩
def zU6 {l:List Tk} (h8:l.length=8) (s t:Int):deF l s t=true↔Rch l s t:=by
 unfold deF;rw[yBo];constructor
 ·rintro⟨x,h1,h2⟩;rw[yBf]at h2;subst h2;exact zAi l _ _ _ h1
 ·intro h;obtain⟨n,hn⟩:=zC3 h;exact⟨t,zSk h8 s t n hn,by simp⟩
def zSl {l:List Tk} (h8:l.length=8) (s t:Int):deF l s t=ldF l 9 s t:=by
 rw[yEk,zU6 h8,IC h8]
def zKh (l:List Tk):NP l=zKe l:=by
 unfold NP zKe;by_cases h8:l.length=8
 case neg=>rw[yAh zB];rfl
 rw[yAe zB,yAv,yAv,h8,yEk];simp only[yAk,yAm,yAt]
 have hs:∀i:Nat,i<7->(PE l ((i:Int)+1)=TO l (i+1)):=λi hi=>by
  unfold PE TO;rw[zSl h8,h8,show(((i+1:Nat):Int)=(i:Int)+1) by omega,show((i:Int)+1).toNat=i+1 by omega,yAh (by omega:¬i+1=0),yDm]
 constructor
 ·rintro⟨h1,h2⟩;unfold LB at h1;simp only[yAk,yAc]at h1;obtain⟨⟨u,p,q⟩,r⟩:=h1;refine⟨by unfold PF;rw[u,p,q];rfl,λi hi=>?_⟩
  cases i with
  |zero=>
   unfold TO;rw[zZ8 u,r,h8];have:ldF l 9 ((0:Nat):Int) 0=true:=(IC h8 _ _).2 (.base _ (by unfold gX;rw[yAe zB];exact u));rw[show(8+1)=9 from Z,this];rfl
  |succ i=>rw[<-hs i zB];exact h2 i zB
 ·rintro⟨h1,h2⟩;have h3:=h2 0 zB;unfold PF at h1;simp only[yAk,yAc]at h1;obtain⟨u,p,q⟩:=h1;unfold TO at h3;rw[zZ8 u]at h3;simp only[yAk]at h3;refine⟨by unfold LB;rw[u,p,q,h3.1.1];rfl,λi hi=>by rw[hs i hi];exact h2 (i+1) zB⟩
structure TV (l:List Tk):Prop where
 n:l.length=8
 u:(l.getD 0 default).used=true
 p:(l.getD 0 default).par= -1
 e:(l.getD 0 default).til=0
 f:∀i,i<8->(l.getD i default).used=false->EP (l.getD i default)=true
 s:∀i,i<8->(l.getD i default).used=true->soF (l.getD i default)=true/\Rch l i 0/\(i≠0->wiF (l.getD i default).rights (l.getD (l.getD i default).par.toNat default).rights=true/\(l.getD i default).cls<=(l.getD (l.getD i default).par.toNat default).cls/\laF (l.getD i default).til (l.getD (l.getD i default).par.toNat default).til=false)
def zU7 (l:List Tk):zKe l=true↔TV l:=by
 unfold zKe;simp only[yAk,yAc,yAm,yAt];constructor
 ·rintro⟨h8,h1,h2⟩;have h8:l.length=8:=by omega
  unfold PF at h1;simp only[yAk,yAc]at h1;refine⟨h8,h1.1,h1.2.1,h1.2.2,λi hi hu=>?_,λi hi hu=>?_⟩
  ·have:=h2 i zB;unfold TO at this;rw[zZ7 (by rw[hu];simp)]at this;exact this
  ·have:=h2 i zB;unfold TO at this;rw[zZ8 hu,h8]at this;simp only[yAk,yCi,yAc,yCe]at this;obtain⟨⟨a,b⟩,c⟩:=this;refine⟨a,(IC h8 _ _).1 b,λh0=>?_⟩
   rcases c with c|c
   ·exact absurd c h0
   ·exact⟨c.1.1,c.1.2,c.2⟩
 ·rintro⟨h8,u,p,e,f,s⟩;refine⟨zB,by unfold PF;rw[u,p,e];rfl,λi hi=>?_⟩;unfold TO;cases hu:(l.getD i default).used
  ·rw[zZ7 zU];exact f i zB hu
  ·rw[zZ8 Z,h8];obtain⟨a,b,c⟩:=s i zB hu;simp only[yAk,yCi,yAc,yCe];refine⟨⟨a,(IC h8 _ _).2 b⟩,?_⟩;by_cases h0:i=0
   ·exact .inl h0
   ·have c:=c h0;exact .inr ⟨⟨c.1,c.2.1⟩,c.2.2⟩
theorem Rch.us {l:List Tk} {s t:Int} (h:Rch l s t):gX l s=true:=by
 cases h<;>assumption
theorem Rch.trans {l:List Tk} {s t u:Int} (h:Rch l s t) (g:Rch l t u):Rch l s u:=by
 induction h with
 |base _ _=>exact g
 |step s t hu _ ih=>exact .step _ _ hu (ih g)
def jD (n a b:Int):Bool:=decide (a<=n/\n<=b)
def vR (n a b:Int):zN 142 [iA n,iA a,iA b] [] (bA (jD n a b)) []:=by
 (cases hb:jD n a b with|false=>((refine eM call142 λF hF=>?_);((refine WW (I2 (λhc=>?_) λhc=>?_)));all_goals (first|exact zJ|(simp only[jD,yAr]at hb;first|exact zXO|exact zFB)))|true=>(simp only[jD,yAc]at hb;(refine eM call142 λF hF=>?_);((refine WW ?_));all_goals (first|exact zJ|exact zXO|exact zFB)))
structure AgV (a:Ag):Prop where
 s:(a.sec.length:Int)=8
 l:(a.lim.length:Int)=4
 li:∀n∈a.lim,0<=n/\n<=8
 r:0<=a.rights/\a.rights<=63
 c:0<=a.cls/\a.cls<=3
 q:0<=a.req/\a.req<=4
 e:1<=a.ses/\a.ses<=2
 b:0<=a.burst/\a.burst<=1000
 t:0<=a.rate/\a.rate<=a.burst
def zSm {n a b:Int} (h:a<=n/\n<=b):jD n a b=true:=yAe h
def zEv (a:Ag) (h:AgV a):zN 144 [wK a] [] (bA true) []:=by
 obtain⟨h1,h2,h3,h4,h5,h6,h7,h8,h9⟩:=h;have hs:=zA yA a.sec;have hl:=zA iA a.lim;have c1:=vR a.rights 0 63;have c2:=vR a.cls 0 3;have c3:=vR a.req 0 4;have c4:=vR a.ses 1 2;have c5:=vR a.burst 0 1000;have c6:=vR a.rate 0 a.burst;rw[zSm zB]at c1 c2 c3 c4 c5 c6;refine eM call144 λF hF=>?_
 refine WW ?_;refine yL (a.lim) [1] [1] [1,16,17] [18,1,16,17] Z (λi pre T U=>⟨(18,iA i)::T,U⟩) ?_;(conv=>whnf);refine⟨by rfl,?_,?_⟩
 ·intro i pre x post hx hi;have hy:=xI iA hx hi;have hlt:=yN hx hi;have hm:=h3 x (wR hx);have c:=vR x 0 8;rw[zSm zB]at c;clear hx;refine zV c ?_;rfl
 ·(refine yR (zt6 c1 c2 c3 c4 c5 c6) ?_)
  exact zJ
def a0:Ag:=⟨US 1,1,0,[1,1,1,1],0,1,0,2⟩
def PG (n:Int):(US n).length=8:=by simp[US]
def zO7 (n:Int):0<=IntKind.u8.wrap n/\IntKind.u8.wrap n<256:=by
 have:IntKind.u8.wrap n=n % 256:=rfl;omega
def zO8 (n:Int):BY (US n):=λx hx=>by
 unfold US at hx;rw[yA5]at hx;obtain⟨i,_,rfl⟩:=hx;exact zO7 _
def zU8 {g s:Int} {l:List Int} (hg:0<=g/\g<256) (hs:0<=s/\s<256) (hl:BY l):BY (g::s::l):=λx hx=>by
 simp only[yBd]at hx
 rcases hx with rfl|rfl|hx
 ·exact hg
 ·exact hs
 ·exact hl x hx
def zYc (n:Int) (a:Ag) (h:AgV a):DK (EW n a):=by
 have h1:=h.s;have h2:=h.l;refine⟨⟨by simp[EW,tkN],λt ht=>?_⟩,by unfold EW;dsimp only;omega,by unfold EW;dsimp only;omega,by simp[EW]⟩;simp only[EW,tkN,yBd]at ht
 rcases ht with rfl|ht
 ·dsimp only;omega
 ·rw[List.eq_of_mem_replicate ht];simp[frT]
section
open Go.RowKit
def LIn (k:IntKind) (w:World) (A:Option Addr) (n c:Nat) (xs:List Int):Prop:=
 xs.length=n/\n<=c/\c<=9223372036854775807/\(0<n->∃b o,A=some ⟨b,o,none⟩/\b<w.heap.size/\∀j,j<n->w.cell? ⟨b,o+j,none⟩=some (.int k (xs.getD j 0)))
theorem LIn.of_row {k:IntKind} {w:World} {a:Option Addr} {len cap:Nat} {zs:List Int}
  (h:(a=none/\len=0/\cap=0/\zs=[])∨∃x,a=some x/\len<=cap/\cap<=maxLen/\zs.length=cap/\(∀i,i<zs.length->w.cell? (x.add i)=some (.int k (zs.getD i 0)))/\∀n∈zs,(Lit.int k n).wf=true):
  LIn k w a len cap (zs.take len):=by
 rcases h with⟨rfl,rfl,rfl,rfl⟩|⟨x,rfl,h1,h2,h3,h4,_⟩
 ·exact⟨rfl,yAb _,zB,λh=>absurd h zB⟩
 ·refine⟨by simp;omega,h1,by unfold maxLen at h2;omega,λhn=>?_⟩;obtain⟨b,off,spot⟩:=x;have hc:=h4 0 zB;have hspot:spot=none:=by simpa [Addr.add]using World.cell?_spot hc
  subst hspot;have hc0:w.cell? ⟨b,off,none⟩=some (.int k (zs.getD 0 0)):=by simpa [Addr.add]using hc
  refine⟨b,off,rfl,World.block_lt_of_cell? w _ hc0,λj hj=>?_⟩;have hcj:=h4 j zB
  have e:(⟨b,off,none⟩:Addr).add j=⟨b,off+j,none⟩:=by unfold Addr.add;split<;>simp_all
  rw[e]at hcj;rw[hcj];have hjz:j<zs.length:=by omega
  simp[List.getD,hj,hjz]
theorem LIn.repf {k:IntKind} {w:World} {A:Option Addr} {n c:Nat} {xs:List Int} (h:LIn k w A n c xs) {D:Nat->Prop} (hD:∀b,¬D b):xH w D (.sl false (xs.map λn=> .s (.int k n))) (.slice A n c):=by
 obtain⟨rfl,h2,h3,h4⟩:=h
 cases hx:xs with
 |nil=>exact .nil A c
 | cons x r=>
  rw[<-hx];obtain⟨b,o,rfl,hb,hc⟩:=h4 (by rw[hx];simp)
  have:=xH.sl (w:=w) (D:=D) false (xs.map λn=>AV.s (.int k n)) b o 1 c (λi _=> .int k (xs.getD i 0)) (by rw[hx];simp)
   ⟨hb,hD b,yAb _,by simp[cQ];omega,λi y hy=>by
    rw[yAa,yAo]at hy;obtain⟨z,_,rfl⟩:=hy
    rfl,λi j hi hj=>by
    obtain rfl:j=0:=by omega
    rw[Nat.mul_one,yDd]
    exact hc i OB,λ_ _ _ _=>rfl⟩ OC (λi y j v hy hv=>by
    rw[yAa,yAo]at hy;obtain⟨z,hz,rfl⟩:=hy
    cases j with
    |zero=>
     simp[AV.cells]at hv;subst hv;have:xs.getD i 0=z:=by simp[List.getD,hz]
     rw[this];exact .s _
    |succ j=>simp[AV.cells]at hv)
  simpa using this
theorem yE.law {P:Program} {f:Nat} {args:List AV} (h:yE P f args [] (.s (.bool true)) []) {cargs:Array Value} {w:World} (hl:cargs.size=args.length)
  (hr:∀(i:Nat) v,args[i]? =some v->xH w (xK (λ_=>False) λ_=>[]) v (cargs.getD i undef)):Calls P f cargs w λe w'=>e= .returned (.bool true)/\Below w.heap.size w w':=by
 have H:qV (λ_=>False) (zC []) (λ_=>[]) w:=⟨λk e he=>by simp[zC]at he,λ_ _=>rfl,λk k' b n n' h1 _=>by simp at h1,λk b n h1=>by simp at h1,λb hd=>by
  rcases hd with hd|⟨_,_,hd⟩
  ·exact hd.elim
  ·simp at hd⟩
 refine Calls.mono (h.sim (λ_=>False) w (λ_=>[]) cargs hl H λi v hv=> .fz _ _ (hr i v hv)) ?_;rintro e w' ⟨c,β',rfl,G,hc⟩;have:c= .bool true:=hc.s_inv;subst this;exact⟨rfl,G.os,G.tape,G.output,G.size,λk hk=>G.keep k hk λ_ _ hm=>by simp at hm⟩
def dom0:∀b,¬xK (λ_=>False) (λ_=>[]) b:=λb hd=>by
 rcases hd with hd|⟨_,_,hd⟩
 ·exact hd
 ·simp at hd
def aB (w:World):List AV->List Value->Prop
 | [],[]=>True
 |a::r,c::s=>xH w (xK (λ_=>False) λ_=>[]) a c/\aB w r s
 |_,_=>False
theorem aB.len {w:World}:∀{l:List AV} {s:List Value},aB w l s->s.length=l.length
 | [],[],_=>rfl
 |_::_,_::_,h=>by simp[aB.len h.2]
 | [],_::_,h=>h.elim
 |_::_,[],h=>h.elim
theorem aB.at {w:World}:∀{l:List AV} {s:List Value},aB w l s->∀(i:Nat) v,l[i]? =some v->xH w (xK (λ_=>False) λ_=>[]) v (s.getD i undef)
 | [],[],_,i,v,hv=>by simp at hv
 |a::_,c::_,h,0,v,hv=>by simp at hv;subst hv;exact h.1
 |_::_,_::_,h,i+1,v,hv=>by simpa using aB.at h.2 i v LK
 | [],_::_,h,_,_,_=>h.elim
 |_::_,[],h,_,_,_=>h.elim
theorem yE.lawL {P:Program} {f:Nat} {args:List AV} (h:yE P f args [] (.s (.bool true)) []) {cs:List Value} {w:World} (hr:aB w args cs):Calls P f cs.toArray w λe w'=>e= .returned (.bool true)/\Below w.heap.size w w':=
 h.law (by simpa using hr.len) λi v hv=>by simpa [yAy,List.getD]using hr.at i v hv
theorem LIn.le {k:IntKind} {w:World} {A:Option Addr} {n c:Nat} {xs:List Int} (h:LIn k w A n c xs):xs.length<=9223372036854775807:=by
 obtain⟨h1,h2,h3,_⟩:=h;omega
end
def rem (d:Dk):Nat:=d.l.length-d.a
def zYd (l:List Int) (hl:l.length<=9223372036854775807):zN 9 [zD iA l] [] (bA (decide (l.length<=300))) []:=by
 have hll:=zA iA l;by_cases h:l.length<=300
 ·rw[yAe h];refine eM call9 λF hF=>?_
  refine WW ?_;exact zJ
 ·rw[yAh h];refine eM call9 λF hF=>?_
  refine WW ?_;exact zJ
structure TkP (l:List Tk):Prop where
 n:l.length=8
 y:∀t∈l,BY t.sec/\t.sec.length<=8/\(t.used=true->t.sec.length=8/\BX t.rights=true/\0<=t.til/\t.til<=2147483648)
 v:TV l
theorem TkP.b {l:List Tk} (h:TkP l):GM l:=⟨by have:=h.n;omega,λt ht=>by have:=(h.y t ht).2.1;omega⟩
def ZS:List Int->Nat->Int->Int×Int×Int
 | [],_,_=>(0,0,6)
 |x::r,i,n=>if i=5 then(0,0,6)else if 128<=x then ZS r (i+1) (n+x.tmod 128*128 ^ i)else if 4294967295<n+x.tmod 128*128 ^ i∨(0<i/\x=0)then(0,0,6)else(n+x.tmod 128*128 ^ i,i+1,0)
def dD (b:List Int):Int×Int×Int:=ZS b 0 0
def szF (n:Int):Int:=if n<0∨4294967295<n then 0 else if n<128 then 1 else if n<16384 then 2 else if n<2097152 then 3 else if n<268435456 then 4 else 5
def lgF (m:Int):Int:=if m<128 then 0 else if m<16384 then 1 else if m<2097152 then 2 else if m<268435456 then 3 else 4
def zKi {n:Int} (h0:0<=n) (h1:n<=4294967295):szF n=1+lgF n:=by
 unfold szF lgF;rw[zZ7 zB]
 repeat' split
 all_goals omega
def zO9 {m:Int} (h0:128<=m) (h1:m<=4294967295):lgF m=1+lgF (m/128):=by
 unfold lgF;rw[zZ7 zB]
 repeat' split
 all_goals omega
def zU9 {m:Int} (h:m<128):lgF m=0:=zZ8 h
def ER (n:Int):zN 181 [iA n] [] (iA (szF n)) []:=by
 by_cases h:n<0∨4294967295<n
 ·have e:szF n=0:=zZ8 h;rw[e];by_cases h1:n<0
  ·(refine eM call181 λF hF=>?_)
   refine WW ?_;exact zJ
  ·have h2:=h.resolve_left h1;refine eM call181 λF hF=>?_
   refine WW ?_;exact zJ
 have h1:0<=n:=by omega
 have h2:n<=4294967295:=by omega
 rw[zKi h1 h2];generalize hs:1+lgF n=s;refine eM call181 λF hF=>?_
 refine WW ?_;refine kX (5) [] [] [] [0,3] Z (λzn T U zs=>∃(m:Int) (k:Int),(0<=m/\m<=4294967295/\k=6-zn/\1<=k/\k<=5/\(k=2->m<=33554431)/\(k=3->m<=262143)/\(k=4->m<=2047)/\(k=5->m<=15)/\s=k+lgF m)/\zs=⟨(0,iA m)::(3,iA k)::T,U⟩) ?_;(conv=>whnf);refine⟨?_,?_⟩
 ·exact⟨n,1,⟨h1,h2,zB,zB,zB,zB,zB,zB,zB,hs.symm⟩,rfl⟩
 ·rintro zn st ⟨m,k,⟨q0,q1,q2,q3,q4,q5,q6,q7,q8,q9⟩,rfl⟩;by_cases hm:128<=m
  ·have hd:=zO9 hm q1;have hmd:m.tdiv 128=m/128:=yB3 q0;have hir:XN .i64 (m.tdiv 128):=⟨zB,zB⟩;refine WW ?_;refine⟨zn-1,zB,m.tdiv 128,k+1,⟨zB,zB,zB,zB,zB,zB,zB,zB,zB,by rw[hmd];omega⟩,rfl⟩
  ·rw[zU9 zB]at q9;obtain rfl:s=k:=by omega
   refine WW ?_;exact zJ
def zPa {i:Nat} (h:i<=4):((128:Int) ^ i=1/\i=0)∨((128:Int) ^ i=128/\i=1)∨((128:Int) ^ i=16384/\i=2)∨((128:Int) ^ i=2097152/\i=3)∨((128:Int) ^ i=268435456/\i=4):=by
 obtain rfl|rfl|rfl|rfl|rfl:i=0∨i=1∨i=2∨i=3∨i=4:=by omega
 all_goals simp
def zYe {i:Nat} {n x:Int} (h:i<=4) (h0:0<=n) (h1:n<128 ^ i) (x0:0<=x) (x1:x<128):(szF (n+x*128 ^ i)=(i:Int)+1)↔¬(4294967295<n+x*128 ^ i∨(0<i/\x=0)):=by
 rcases zPa h with⟨e,rfl⟩|⟨e,rfl⟩|⟨e,rfl⟩|⟨e,rfl⟩|⟨e,rfl⟩
 all_goals rw[e]at h1⊢
 all_goals unfold szF
 all_goals repeat' split
 all_goals omega
def zKj {x P:Int} (x0:0<=x) (x1:x<128) (P0:1<=P) (P1:P<=268435456):0<=x*P/\x*P<=127*P:=by
 refine⟨yEc x0 zB,yDv zB zB⟩
theorem zYf (b:List Int) (hb:BY b) (hn:b.length<=100000):zN 141 [zD yA b] [] (.tup [iA (dD b).1,iA (dD b).2.1,iA (dD b).2.2]) []:=by
 have hl:=zA yA b;refine eM call141 λF hF=>?_
 refine WW ?_;refine kX (6) [] [] [0] [5,6,7,0] rfl (λzn T U zs=>∃(i:Nat) (n:Int),(zn+i=6/\i<=5/\i<=b.length/\0<=n/\n<128 ^ i/\dD b=ZS (b.drop i) i n)/\zs=⟨(5,iA n)::(6,iA (128 ^ i:Int))::(7,iA i)::T,U⟩) ?_;(conv=>whnf);refine⟨?_,?_⟩
 ·exact⟨0,0,⟨rfl,zB,zB,zB,by decide,rfl⟩,rfl⟩
 ·rintro zn st ⟨i,n,⟨q0,q1,q2,q3,q4,q5⟩,rfl⟩;rw[q5];clear q5;by_cases hib:i<b.length
  case neg=>
   have e:b.drop i=[]:=yDz zB;rw[e]
   show vK _ _ _ _ _ (cS (inB 0 (ZW _ _ _ _ (Fin _ _ [] (.tup [iA 0,iA 0,iA 6]) []))) _)
   generalize (128 ^ i:Int)=Pw at *;refine WW ?_;exact zJ
  have hx:=hb (b.getD i default) (by simp[List.getD,hib]);have hy:=zM yA b i hib;have e:b.drop i=b.getD i default::b.drop (i+1):=by rw[yCr hib];simp[List.getD,hib]
  rw[e];clear e;generalize hr:b.drop (i+1)=r at *;generalize hx':b.getD i default=x at *;by_cases hi5:i=5
  ·subst hi5
   show vK _ _ _ _ _ (cS (inB 0 (ZW _ _ _ _ (Fin _ _ [] (.tup [iA 0,iA 0,iA 6]) []))) _)
   generalize (128 ^ 5:Int)=Pw at *;refine WW ?_;exact zJ
  have ht:x.tmod 128=x % 128:=yBw hx.1;have hPb:=zPa (i:=i) zB;have hPw:1<=(128:Int) ^ i/\(128:Int) ^ i<=268435456:=by omega
  have hz:=zKj (x:=x.tmod 128) (P:=128 ^ i) zB zB zB zB;have hso:=zYe (i:=i) (n:=n) (x:=x.tmod 128) zB q3 q4 zB zB;have hP1:(128:Int) ^ (i+1)=128 ^ i*128:=rfl;by_cases h128:128<=x
  ·have e:ZS (x::r) i n=ZS r (i+1) (n+x.tmod 128*128 ^ i):=by rw[ZS,zZ7 hi5,zZ8 h128]
   rw[e];clear hso hPb hx';generalize (128:Int) ^ i=Pw at *;have hir:XN .i64 (x.tmod 128*Pw):=by generalize x.tmod 128*Pw=Z at *;exact⟨zB,zB⟩
   have hir2:XN .i64 (n+x.tmod 128*Pw):=by generalize x.tmod 128*Pw=Z at *;exact⟨zB,zB⟩
   have hm1:0<=n+x.tmod 128*Pw/\n+x.tmod 128*Pw<Pw*128:=by generalize x.tmod 128*Pw=Z at *;omega
   (repeat' (first|refine uL ?_|((first|apply xM|apply wA)<;>intro hc)|(refine zE ?_;first|(refine wL ?_;first|refine wG (RT rfl rfl hir) rfl ?_|refine wG (RS rfl rfl hir2) rfl ?_)|refine SM ?_)|fail))
   refine⟨zn-1,zB,i+1,n+x.tmod 128*Pw,⟨zB,zB,zB,hm1.1,by rw[hP1];exact hm1.2,by rw[hr]⟩,?_⟩;rw[hP1];rfl
  ·have hxm:x.tmod 128=x:=by omega
   have e:ZS (x::r) i n=if 4294967295<n+x.tmod 128*128 ^ i∨(0<i/\x=0)then(0,0,6)else(n+x.tmod 128*128 ^ i,(i:Int)+1,0):=by rw[ZS,zZ7 hi5,zZ7 h128]
   have c:=ER (n+x.tmod 128*128 ^ i);rw[e];rw[hxm]at hso;rw[hxm]at c hz⊢;clear hPb hx' e;generalize (128:Int) ^ i=Pw at *;have hir:XN .i64 (x.tmod 128*Pw):=by rw[hxm];generalize x*Pw=Z at *;exact⟨zB,zB⟩
   have hir2:XN .i64 (n+x.tmod 128*Pw):=by rw[hxm];generalize x*Pw=Z at *;exact⟨zB,zB⟩
   by_cases hbad:4294967295<n+x*Pw∨(0<i/\x=0)
   ·have hne:szF (n+x*Pw)≠(i:Int)+1:=λh=>hso.1 h hbad
    rw[zZ8 hbad];clear hso hbad;generalize szF (n+x*Pw)=s at *;rw[<-hxm]at c hz
    (have zc1:=c;(repeat' (first|refine uL ?_|((first|apply xM|apply wA)<;>intro hc)|(refine zE ?_;first|(refine wL ?_;first|refine wG (RT rfl rfl hir) rfl ?_|refine wG (RS rfl rfl hir2) rfl ?_)|refine SM ?_)|fail))<;>clear zc1)
    exact zJ
   ·have heq:=hso.2 hbad;rw[heq]at c;rw[zZ7 hbad];clear hso hbad heq;rw[<-hxm]at c hz⊢
    (have zc1:=c;(repeat' (first|refine uL ?_|((first|apply xM|apply wA)<;>intro hc)|(refine zE ?_;first|(refine wL ?_;first|refine wG (RT rfl rfl hir) rfl ?_|refine wG (RS rfl rfl hir2) rfl ?_)|refine SM ?_)|fail))<;>clear zc1)
    exact zJ
section
variable {P:Program} {tm:List (Nat×AV)} {h:List (Nat×xN)} {tx ty:Nat} {x y:Operand}
def zVa:∀k:_root_.Fin 256,IntKind.u8.wrap (BitVec.ofInt IntKind.u8.bits (k.val:Int) &&& BitVec.ofInt IntKind.u8.bits 127).toNat=((k.val:Int)).tmod 128:=by decide +kernel
def aC {m:Int} (hx:yJ (zG tm) x= .s (.int .u8 m)) (hy:yJ (zG tm) y= .s (.int .u8 127)) (h0:0<=m/\m<256):wM P ⟨tm,h⟩ (.binOp .and tx x y ty) (.s (.int .u8 (m.tmod 128))) [] [] []:=by
 have e:=zVa ⟨m.toNat,zB⟩;simp only[show((m.toNat:Nat):Int)=m by omega]at e;rw[<-e];exact RU hx hy
end
def zPb (a b:Nat) (ha:a<2 ^ 60) (hb:b<2 ^ 60):orI a b=((a ||| b:Nat):Int):=by
 have h:=Nat.or_lt_two_pow ha hb;unfold orI;rw[show BitVec.ofInt IntKind.i64.bits (a:Int)=BitVec.ofNat IntKind.i64.bits a from yD6 ..];rw[show BitVec.ofInt IntKind.i64.bits (b:Int)=BitVec.ofNat IntKind.i64.bits b from yD6 ..];rw[BitVec.toNat_or,yD1,yD1,yC0 (yBl ha (yEb xG xG)),yC0 (yBl hb (yEb xG xG))];refine qP ⟨?_,?_⟩
 ·show(-9223372036854775808:Int)<=_
  omega
 ·show _<=(9223372036854775807:Int)
  have:(2:Nat) ^ 60=1152921504606846976:=rfl;omega
def zVb {i:Nat} {n y:Int} (h:i<=4) (h0:0<=n) (h1:n<128 ^ i) (y0:0<=y) (y1:y<128):orI n (IntKind.i64.wrap (y*2 ^ (min ((7*(i:Int)).toNat) IntKind.i64.bits)))=n+y*128 ^ i:=by
 have hb:IntKind.i64.bits=64:=rfl;have e1:min ((7*(i:Int)).toNat) 64=7*i:=by omega
 have e2:(2:Int) ^ (7*i)=128 ^ i:=by rw[Int.pow_mul];rfl
 rw[hb,e1,e2];have hP:1<=(128:Int) ^ i/\(128:Int) ^ i<=268435456:=by have:=zPa h;omega
 have hz:=zKj y0 y1 hP.1 hP.2;rw[show IntKind.i64.wrap (y*128 ^ i)=y*128 ^ i from qP (k:= .i64) (by unfold XN;generalize y*128 ^ i=Z at *;generalize (128:Int) ^ i=Pw at *;omega)];obtain⟨a,rfl⟩:=yDf h0;obtain⟨c,rfl⟩:=yDf y0;have hPn:(128:Int) ^ i=((128 ^ i:Nat):Int):=by simp
 rw[hPn]at h1 hz hP⊢;have ha:a<128 ^ i:=by omega
 rw[show((c:Int)*((128 ^ i:Nat):Int))=((c*128 ^ i:Nat):Int) by simp]at hz⊢;rw[zPb a (c*128 ^ i) (by have:(2:Nat) ^ 60=1152921504606846976:=rfl;omega) (by have:(2:Nat) ^ 60=1152921504606846976:=rfl;omega)];have e3:(128:Nat) ^ i=2 ^ (7*i):=by rw[Nat.pow_mul]
 rw[e3]at ha⊢;have:=Nat.shiftLeft_add_eq_or_of_lt ha c;rw[Nat.shiftLeft_eq]at this;rw[Nat.or_comm,<-this];omega
theorem zYg (b:List Int) (hb:BY b) (hn:b.length<=100000):zN 140 [zD yA b] [] (.tup [iA (dD b).1,iA (dD b).2.1,iA (dD b).2.2]) []:=by
 have hl:=zA yA b;refine eM call140 λF hF=>?_
 refine WW ?_;refine qW (b) [] [] [8,9] [5,10,8,9] rfl (λi pre T U zs=>∃n:Int,(0<=n/\n<128 ^ i/\i<=5/\∀post,b=pre++post->dD b=ZS post i n)/\zs=⟨(5,iA n)::(10,iA i)::T,U⟩) ?_;(conv=>whnf);refine⟨?_,?_,?_⟩
 ·exact⟨0,⟨zB,by decide,zB,λpost h=>by rw[h];rfl⟩,rfl⟩
 ·rintro i pre x r st hx hi ⟨n,⟨q0,q1,q2,q3⟩,rfl⟩;have hy:=xI yA hx hi;have hlt:=yN hx hi;have hxb:=hb x (wR hx);rw[q3 _ hx]
  have q4:∀post,b=pre++[x]++post->post=r:=λpost h=>by
   rw[hx,yA7]at h;simpa using h.symm
  clear q3 hx;by_cases hi5:i=5
  ·subst hi5
   show vK _ _ _ _ _ (cS (inB 0 (ZW _ _ _ _ (Fin _ _ [] (.tup [iA 0,iA 0,iA 6]) []))) _)
   clear q4;refine WW ?_;exact zJ
  have ht:x.tmod 128=x % 128:=yBw hxb.1;have hPb:=zPa (i:=i) zB;have hPw:1<=(128:Int) ^ i/\(128:Int) ^ i<=268435456:=by omega
  have hz:=zKj (x:=x.tmod 128) (P:=128 ^ i) zB zB zB zB;have hE:=zVb (i:=i) (n:=n) (y:=x.tmod 128) zB q0 q1 zB zB;have hP1:(128:Int) ^ (i+1)=128 ^ i*128:=rfl;by_cases h128:128<=x
  ·have e:ZS (x::r) i n=ZS r (i+1) (n+x.tmod 128*128 ^ i):=by rw[ZS,zZ7 hi5,zZ8 h128]
   rw[e]
   have hm1:0<=n+x.tmod 128*128 ^ i/\n+x.tmod 128*128 ^ i<128 ^ (i+1):=by
    rw[hP1];generalize x.tmod 128*128 ^ i=Z at *;omega
   clear hPb e hz;generalize n+x.tmod 128*128 ^ i=M at*
   (repeat' (first|refine uL ?_|((first|apply xM|apply wA)<;>intro hc)|(refine zE ?_;first|(refine wL ?_;refine wG (aC rfl rfl hxb) rfl ?_)|refine SM ?_)|fail))
   refine⟨M,⟨hm1.1,hm1.2,zB,λpost h=>by rw[q4 post h]⟩,?_⟩;rw[<-hE];rfl
  ·have e:ZS (x::r) i n=if 4294967295<n+x.tmod 128*128 ^ i∨(0<i/\x=0)then(0,0,6)else(n+x.tmod 128*128 ^ i,(i:Int)+1,0):=by rw[ZS,zZ7 hi5,zZ7 h128]
   rw[e]
   have hm1:0<=n+x.tmod 128*128 ^ i/\n+x.tmod 128*128 ^ i<128 ^ (i+1):=by
    rw[hP1];generalize x.tmod 128*128 ^ i=Z at *;omega
   clear hPb e hz q4 hP1;generalize n+x.tmod 128*128 ^ i=M at *;by_cases hbad:4294967295<M∨(0<i/\x=0)
   ·rw[zZ8 hbad];by_cases hM:4294967295<M
    ·clear hbad
     (repeat' (first|refine uL ?_|((first|apply xM|apply wA)<;>intro hc)|(refine zE ?_;first|(refine wL ?_;refine wG (aC rfl rfl hxb) rfl ?_)|refine SM ?_)|fail))
     exact zJ
    ·obtain⟨h1,h2⟩:=hbad.resolve_left hM
     (repeat' (first|refine uL ?_|((first|apply xM|apply wA)<;>intro hc)|(refine zE ?_;first|(refine wL ?_;refine wG (aC rfl rfl hxb) rfl ?_)|refine SM ?_)|fail))
     exact zJ
   ·rw[zZ7 hbad];by_cases hi0:0<i
    ·have hx0:x≠0:=λh=>hbad (.inr ⟨hi0,h⟩)
     (repeat' (first|refine uL ?_|((first|apply xM|apply wA)<;>intro hc)|(refine zE ?_;first|(refine wL ?_;refine wG (aC rfl rfl hxb) rfl ?_)|refine SM ?_)|fail))
     rw[<-hE];exact zJ
    ·(repeat' (first|refine uL ?_|((first|apply xM|apply wA)<;>intro hc)|(refine zE ?_;first|(refine wL ?_;refine wG (aC rfl rfl hxb) rfl ?_)|refine SM ?_)|fail))
     rw[<-hE];exact zJ
 ·rintro st ⟨n,⟨q0,q1,q2,q3⟩,rfl⟩;rw[q3 [] zU]
  show vK _ _ _ _ _ (cS (inB 0 (ZW _ _ _ _ (Fin _ _ [] (.tup [iA 0,iA 0,iA 6]) []))) _)
  refine WW ?_;exact zJ
theorem zKk:∀(r:List Int) (i:Nat) (n:Int),BY r->0<=n->(ZS r i n=(0,0,6))∨((ZS r i n).2.2=0/\0<=(ZS r i n).1/\(ZS r i n).1<=4294967295/\(i:Int)+1<=(ZS r i n).2.1/\(ZS r i n).2.1<=i+r.length)
 | [],i,n,_,_=> .inl Z
 | x::r,i,n,hb,hn=>by
  have hx:=hb x zU
  have hp:0<=n+x.tmod 128*128 ^ i:=by
   have h1:0<=x.tmod 128:=by rw[yBw hx.1];omega
   have h2:(0:Int)<=128 ^ i:=Int.pow_nonneg zB;have:=yEc h1 h2;omega
  rw[ZS];by_cases h5:i=5
  ·exact .inl (zZ8 h5)
  rw[zZ7 h5];by_cases h1:128<=x
  ·rw[zZ8 h1]
   rcases zKk r (i+1) (n+x.tmod 128*128 ^ i) (λy hy=>hb y (by simp[hy])) hp with h|⟨a,b,c,d,e⟩
   ·exact .inl h
   ·refine .inr ⟨a,b,c,zB,?_⟩;rw[yAl];omega
  ·rw[zZ7 h1];by_cases h2:4294967295<n+x.tmod 128*128 ^ i∨(0<i/\x=0)
   ·exact .inl (zZ8 h2)
   ·rw[zZ7 h2];refine .inr ⟨rfl,hp,zB,yB6 _,?_⟩
    show(i:Int)+1<=_
    rw[yAl];omega
def ID (b:List Int) (hb:BY b):dD b=(0,0,6)∨((dD b).2.2=0/\0<=(dD b).1/\(dD b).1<=4294967295/\1<=(dD b).2.1/\(dD b).2.1<=b.length):=by
 have:=zKk b 0 0 hb (yB6 _)
 rcases this with h|⟨a,b,c,d,e⟩
 ·exact .inl h
 ·exact .inr ⟨a,b,c,by have:(0:Int)+1<=(dD _).2.1:=d;omega,by have:(dD _).2.1<=(0:Int)+_:=e;omega⟩
def aU:Nat->List Int->Option (List Int×List Int)
 |0,b=>some ([],b)
 |n+1,b=>if(dD b).2.2=0 then(match aU n (b.drop (dD b).2.1.toNat)with|none=>none|some (l,r)=>some ((dD b).1::l,r))else none
def nbG (l:List Int):Option (List Int×List Int)->Option (List Int×List Int)
 |none=>none
 |some (k,r)=>some (l++k,r)
def IE (o:Option (List Int×List Int)):nbG [] o=o:=by
 cases o with
 |none=>rfl
 |some p=>rfl
def zAj {l b:List Int} {n:Nat} (h:(dD b).2.2≠0):nbG l (aU (n+1) b)=none:=by
 rw[aU,zZ7 h];rfl
def zAk {l b:List Int} {n:Nat} (h:(dD b).2.2=0):nbG l (aU (n+1) b)=nbG (l++[(dD b).1]) (aU n (b.drop (dD b).2.1.toNat)):=by
 rw[aU,zZ8 h]
 cases aU n (b.drop (dD b).2.1.toNat)with
 |none=>rfl
 |some p=>obtain⟨k,r⟩:=p;simp[nbG]
def nbT:Option (List Int×List Int)->AV
 |none=> .tup [zD iA [],zD yA [],bA false]
 |some (l,r)=> .tup [zD iA l,zD yA r,bA true]
def UO (b:List Int) (n:Nat) (hb:BY b) (hbn:b.length<=100000) (hn:n<=1000):zN 104 [zD yA b,iA n] [] (nbT (aU n b)) []:=by
 refine eM call104 λF hF=>?_
 refine WW ?_;refine qB 12 Z ?_;refine xR (n) [12] [] [13] [0,7,14,13] Z (λi T U zs=>∃acc c,(acc.length=i/\BY c/\c.length<=100000/\aU n b=nbG acc (aU (n-i) c))/\zs=⟨(0,zD yA c)::(7,.ref 12 0 (acc.map iA).length)::(14,iA i)::T,(12,.arr 1 (acc.map iA) true)::U⟩) ?_;(conv=>whnf);refine⟨?_,?_,?_⟩
 ·exact⟨[],b,⟨rfl,hb,hbn,by rw[IE];rfl⟩,rfl⟩
 ·rintro i st hi ⟨acc,c,⟨q0,q1,q2,q3⟩,rfl⟩;have hd:=zYg c q1 q2;have hl:=zA yA c;have hla:=zA iA acc;rw[show n-i=(n-(i+1))+1 by omega]at q3
  rcases ID c q1 with h|⟨h1,h2,h3,h4,h5⟩
  ·rw[q3,zAj (by rw[h];decide)];rw[h]at hd;clear q3 h
   show vK _ _ _ _ _ (cS (inB 0 (ZW _ _ _ _ (Fin _ _ [] (.tup [zD iA [],zD yA [],bA false]) []))) _)
   refine zV hd ?_;exact zJ
  ·rw[zAk h1]at q3;rw[h1]at hd;have hbd:BY (c.drop (dD c).2.1.toNat):=λy hy=>q1 y (yBs hy)
   have hcd:(c.drop (dD c).2.1.toNat).length<=100000:=by rw[yBh];omega
   clear h1;rw[q3];generalize (dD c).1=v at *;generalize (dD c).2.1=k at *;refine zV hd ?_;refine⟨acc++[v],c.drop k.toNat,⟨by simp[q0],hbd,hcd,rfl⟩,?_⟩;rw[yAi];rfl
 ·rintro st ⟨acc,c,⟨q0,q1,q2,q3⟩,rfl⟩;rw[q3,yB9]
  show vK _ _ _ _ _ (cS (inB 0 (ZW _ _ _ _ (Fin _ _ [] (.tup [zD iA (acc++[]),zD yA c,bA true]) []))) _)
  rw[yBc];refine WW ?_;exact zK [] Z Z (yA6 (λz=>AV.tup [z,zD yA c,bA true]) (eW _ _)) Z
def YQ (b:List Int) (n:Nat) (hb:BY b) (hbn:b.length<=100000) (hn:n<=1000):zN 108 [zD yA b,iA n] [] (nbT (aU n b)) []:=by
 refine eM call108 λF hF=>?_
 refine WW ?_;refine yZ 7 1001 1 Z Z Z ?_;refine xR (n) [1001] [] [11] [0,7,12,11] Z (λi T U zs=>∃acc c,(acc.length=i/\BY c/\c.length<=100000/\aU n b=nbG acc (aU (n-i) c))/\zs=⟨(0,zD yA c)::(7,.ref 1001 0 (acc.map iA).length)::(12,iA i)::T,(1001,.arr 1 (acc.map iA) true)::U⟩) ?_;(conv=>whnf);refine⟨?_,?_,?_⟩
 ·exact⟨[],b,⟨rfl,hb,hbn,by rw[IE];rfl⟩,rfl⟩
 ·rintro i st hi ⟨acc,c,⟨q0,q1,q2,q3⟩,rfl⟩;have hd:=zYf c q1 q2;have hl:=zA yA c;have hla:=zA iA acc;rw[show n-i=(n-(i+1))+1 by omega]at q3
  rcases ID c q1 with h|⟨h1,h2,h3,h4,h5⟩
  ·rw[q3,zAj (by rw[h];decide)];rw[h]at hd;clear q3 h
   show vK _ _ _ _ _ (cS (inB 0 (ZW _ _ _ _ (Fin _ _ [] (.tup [zD iA [],zD yA [],bA false]) []))) _)
   refine zV hd ?_;exact zJ
  ·rw[zAk h1]at q3;rw[h1]at hd;have hbd:BY (c.drop (dD c).2.1.toNat):=λy hy=>q1 y (yBs hy)
   have hcd:(c.drop (dD c).2.1.toNat).length<=100000:=by rw[yBh];omega
   clear h1;rw[q3];generalize (dD c).1=v at *;generalize (dD c).2.1=k at *;refine zV hd ?_;refine⟨acc++[v],c.drop k.toNat,⟨by simp[q0],hbd,hcd,rfl⟩,?_⟩;rw[yAi];rfl
 ·rintro st ⟨acc,c,⟨q0,q1,q2,q3⟩,rfl⟩;rw[q3,yB9]
  show vK _ _ _ _ _ (cS (inB 0 (ZW _ _ _ _ (Fin _ _ [] (.tup [zD iA (acc++[]),zD yA c,bA true]) []))) _)
  rw[yBc];refine WW ?_;exact zK [] Z Z (yA6 (λz=>AV.tup [z,zD yA c,bA true]) (eW _ _)) Z
def enR:Nat->Int->List Int
 |0,n=>[n]
 |f+1,n=>if n<128 then [n]else(n % 128+128)::enR f (n/128)
def gV (n:Int):List Int:=enR 4 n
def zAl {n:Int} {z:Nat} (h:n<128 ^ (z+1+1)):n/128<128 ^ (z+1):=Int.ediv_lt_of_lt_mul xG (by rw[yF1]at h;exact h)
def UP {f:Nat} {n:Int} (h:n<128):enR f n=[n]:=by
 cases f with
 |zero=>rfl
 |succ f=>exact zZ8 h
def IF {f:Nat} {n:Int} (h:128<=n):enR (f+1) n=(n % 128+128)::enR f (n/128):=zZ7 zB
def zYh (n:Int) (h0:0<=n) (h1:n<=4294967295):zN 136 [iA n] [] (.tup [zD yA (gV n),iA 0]) []:=by
 have cs:=ER n
 have hsz:1<=szF n:=by
  rw[zKi h0 h1];unfold lgF
  repeat' split
  all_goals omega
 generalize szF n=s at *;generalize hR:gV n=R;refine eM call136 λF hF=>?_
 refine zV cs ?_;refine yZ 4 1001 1 Z Z Z ?_;refine kX (4) [1001] [] [] [0,4] Z (λzn T U zs=>∃(m:Int) (acc:List Int),(0<=m/\m<=4294967295/\m<128 ^ (zn+1)/\acc.length+zn=4/\acc++enR zn m=R)/\zs=⟨(0,iA m)::(4,.ref 1001 0 (acc.map yA).length)::T,(1001,.arr 1 (acc.map yA) true)::U⟩) ?_;(conv=>whnf);refine⟨?_,?_⟩
 ·exact⟨n,[],⟨h0,h1,by show n<34359738368;omega,rfl,hR⟩,rfl⟩
 ·rintro zn st ⟨m,acc,⟨q0,q1,q2,q3,q4⟩,rfl⟩;have hla:=zA yA acc;by_cases hm:128<=m
  ·obtain⟨z,rfl⟩:∃z,zn=z+1:=by
    cases zn with
    |zero=>exfalso;have:m<128:=q2;omega
    |succ z=>exact⟨z,rfl⟩
   rw[IF hm]at q4;have hd:=zAl q2;have ht:m.tmod 128=m % 128:=yBw q0;have hmd:m.tdiv 128=m/128:=yB3 q0;have hir:XN .i64 (m.tdiv 128):=⟨zB,zB⟩;clear q2;refine WW ?_;refine⟨z,zB,m.tdiv 128,acc++[m.tmod 128+128],⟨zB,zB,by rw[hmd];exact hd,by simp;omega,by rw[hmd,ht,yA7];exact q4⟩,?_⟩;rw[yAi];rfl
  ·rw[UP zB]at q4;clear q2;subst q4;refine WW ?_;refine zK [] Z Z ?_ Z
   show AV.tup [AV.sl false ((acc.map yA++[yA m]).take (acc.map yA++[yA m]).length),iA 0]=_
   rw[yAf];unfold zD;rw[yAi];rfl
def zPc {n:Int} (h0:0<=n) (h1:n<=4294967295):fH n 127=n % 128:=by
 obtain⟨a,rfl⟩:=yDf h0;unfold fH;rw[show BitVec.ofInt IntKind.i64.bits (a:Int)=BitVec.ofNat IntKind.i64.bits a from yD6 ..];rw[show BitVec.ofInt IntKind.i64.bits (127:Int)=BitVec.ofNat IntKind.i64.bits 127 from Z];rw[BitVec.toNat_and,yD1,yD1,yC0 (show a<2 ^ IntKind.i64.bits by show a<18446744073709551616;omega),yC0 (show 127<2 ^ IntKind.i64.bits by decide)];have e:a &&& 127=a % 128:=Nat.and_two_pow_sub_one_eq_mod a 7;rw[e];exact qP (k:= .i64) (by unfold XN;omega)
def zYi:∀k:_root_.Fin 128,IntKind.u8.wrap (BitVec.ofInt IntKind.u8.bits (k.val:Int) ||| BitVec.ofInt IntKind.u8.bits 128).toNat=(k.val:Int)+128:=by decide +kernel
section
variable {P:Program} {tm:List (Nat×AV)} {h:List (Nat×xN)} {tx ty:Nat} {x y:Operand}
def zPd {m:Int} (hx:yJ (zG tm) x= .s (.int .u8 m)) (hy:yJ (zG tm) y= .s (.int .u8 128)) (h0:0<=m/\m<128):wM P ⟨tm,h⟩ (.binOp .or tx x y ty) (.s (.int .u8 (m+128))) [] [] []:=by
 have e:=zYi ⟨m.toNat,zB⟩;simp only[show((m.toNat:Nat):Int)=m by omega]at e;rw[<-e];exact HB hx hy
end
def zYj (n:Int) (h0:0<=n) (h1:n<=4294967295):zN 180 [iA n] [] (.tup [zD yA (gV n),iA 0]) []:=by
 generalize hR:gV n=R;refine eM call180 λF hF=>?_
 refine WW ?_;refine qB 11 Z ?_;refine kX (4) [11] [] [] [0,4] Z (λzn T U zs=>∃(m:Int) (acc:List Int),(0<=m/\m<=4294967295/\m<128 ^ (zn+1)/\acc.length+zn=4/\acc++enR zn m=R)/\zs=⟨(0,iA m)::(4,.ref 11 0 (acc.map yA).length)::T,(11,.arr 1 (acc.map yA) true)::U⟩) ?_;(conv=>whnf);refine⟨?_,?_⟩
 ·exact⟨n,[],⟨h0,h1,by show n<34359738368;omega,rfl,hR⟩,rfl⟩
 ·rintro zn st ⟨m,acc,⟨q0,q1,q2,q3,q4⟩,rfl⟩;have hla:=zA yA acc;by_cases hm:128<=m
  ·obtain⟨z,rfl⟩:∃z,zn=z+1:=by
    cases zn with
    |zero=>exfalso;have:m<128:=q2;omega
    |succ z=>exact⟨z,rfl⟩
   rw[IF hm]at q4;have hd:=zAl q2;have ha:=zPc q0 q1;have hab:0<=fH m 127/\fH m 127<128:=by omega
   have hs:uM m 7=m/128:=yDn m xG;clear q2
   (repeat' (first|refine uL ?_|((first|apply xM|apply wA)<;>intro hc)|(refine zE ?_;first|(refine wL ?_;refine wG (zPd Z Z hab) Z ?_)|refine SM ?_)|fail))
   refine⟨z,zB,uM m 7,acc++[fH m 127+128],⟨zB,zB,by rw[hs];exact hd,by simp;omega,by rw[hs,ha,yA7];exact q4⟩,?_⟩;rw[yAi];rfl
  ·rw[UP zB]at q4;clear q2;subst q4;refine WW ?_;refine zK [] Z Z ?_ Z
   show AV.tup [AV.sl false ((acc.map yA++[yA m]).take (acc.map yA++[yA m]).length),iA 0]=_
   rw[yAf];unfold zD;rw[yAi];rfl
theorem ES:∀(r:List Int) (i:Nat) (n:Int),BY r->i<=5->(ZS r i n).2.2=0->∃q:Int,0<=q/\(ZS r i n).1=n+q*128 ^ i/\(0<i->0<q)/\i<=4/\∃j:Nat,(ZS r i n).2.1=((i+j:Nat):Int)/\enR (4-i) q=r.take j
 | [],i,n,_,_,h=>by exact absurd (show(6:Int)=0 from h) xG
 | x ::r,i,n,hb,h5,h=>by
  have hx:=hb x zU;by_cases hi:i=5
  ·exfalso;rw[ZS,zZ8 hi]at h;exact absurd (show(6:Int)=0 from h) xG
  by_cases hx1:128<=x
  ·have e:ZS (x::r) i n=ZS r (i+1) (n+x.tmod 128*128 ^ i):=by rw[ZS,zZ7 hi,zZ8 hx1]
   rw[e]at h⊢;obtain⟨q,q0,q1,q2,q3,j,q4,q5⟩:=ES r (i+1) _ (λy hy=>hb y (by simp[hy])) zB h;have ht:x.tmod 128=x % 128:=yBw hx.1;have hq:=q2 zB;refine⟨x.tmod 128+q*128,zB,?_,λ_=>by omega,zB,j+1,by rw[q4];omega,?_⟩
   ·rw[q1,yF1,yGa,Int.mul_assoc,Int.mul_comm 128,Int.add_assoc]
   ·obtain⟨f,hf⟩:∃f,4-i=f+1:=⟨3-i,zB⟩;rw[hf,IF zB,yE3,<-q5,show 4-(i+1)=f by omega]
    congr 1
    ·omega
    ·congr 1
     omega
  ·have hxm:x.tmod 128=x:=by rw[yBw hx.1];omega
   have e:ZS (x::r) i n=if 4294967295<n+x.tmod 128*128 ^ i∨(0<i/\x=0)then(0,0,6)else(n+x.tmod 128*128 ^ i,(i:Int)+1,0):=by rw[ZS,zZ7 hi,zZ7 hx1]
   rw[e]at h⊢;by_cases hbad:4294967295<n+x.tmod 128*128 ^ i∨(0<i/\x=0)
   ·rw[zZ8 hbad]at h;exact absurd (show(6:Int)=0 from h) xG
   ·rw[zZ7 hbad,hxm];refine⟨x,hx.1,rfl,λh0=>?_,zB,1,by show(i:Int)+1=_;omega,?_⟩
    ·have:x≠0:=λh=>hbad (.inr ⟨h0,h⟩)
     omega
    ·rw[UP zB];rfl
def zKl {b:List Int} (hb:BY b) (h:(dD b).2.2=0):gV (dD b).1=b.take (dD b).2.1.toNat:=by
 obtain⟨q,_,q1,_,_,j,q4,q5⟩:=ES b 0 0 hb zB h
 have e1:(dD b).1=q:=by
  show(ZS b 0 0).1=q
  rw[q1];simp
 have e2:(dD b).2.1.toNat=j:=by
  show(ZS b 0 0).2.1.toNat=j
  rw[q4];simp
 rw[e1,e2];exact q5
theorem dE:∀(n:Nat) (b l r:List Int),BY b->aU n b=some (l,r)->l.length=n/\BY r/\(∀x∈l,0<=x/\x<=4294967295)/\b=(l.map gV).flatten++r
 |0,b,l,r,hb,h=>by
  cases h;exact⟨rfl,hb,by simp,rfl⟩
 | n +1,b,l,r,hb,h=>by
  rw[aU]at h;by_cases he:(dD b).2.2=0
  ·rw[zZ8 he]at h
   rcases ID b hb with h0|⟨_,h2,h3,h4,h5⟩
   ·rw[h0]at he;exact absurd (show(6:Int)=0 from he) xG
   cases hn:aU n (b.drop (dD b).2.1.toNat)with
   |none=>rw[hn]at h;cases h
   | some p=>
    obtain⟨l',r'⟩:=p;rw[hn]at h;cases h;obtain⟨g1,g2,g3,g4⟩:=dE n _ l' r (λy hy=>hb y (yBs hy)) hn;refine⟨by simp[g1],g2,λx hx=>?_,?_⟩
    ·rcases yBd.1 hx with rfl|hx
     ·exact⟨h2,h3⟩
     ·exact g3 x hx
    ·rw[yBb,yCp,zKl hb he,yA7,<-g4,yDq]
  ·rw[zZ7 he]at h;cases h
end Av
end Go.Proofs.YteajjdidebfcjaaGreat
