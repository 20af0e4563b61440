/- Part 16. -/
import Derived.Test.YteajjdidebfcjaaGreatR15
namespace Go.Proofs.YteajjdidebfcjaaGreat
namespace Av
open Tryz
set_option linter.all false
set_option maxRecDepth 4000
set_option maxHeartbeats 2000000
def EO (b:List Int) (n:Nat) (l r:List Int) (hb:BY b) (hbn:b.length<=100000) (hn:n<=1000) (hok:aU n b=some (l,r)):zN 104 [zD yA b,iA n] [] (.tup [.ref 1001 0 (l.map iA).length,zD yA r,bA true]) [(1001,.arr 1 (l.map iA) true)]:=by
 refine eM call104 λF hF=>?_
 (repeat' (first|refine uL ?_|((first|apply xM|apply wA)<;>intro hc)|(refine zE ?_;first|(refine gB ?_;refine fZ 1001 tok Z Z Z Z Z Z Z Z Z Z Z Z Z zB zB Z Z Z ?_))|fail))
 refine qB 1001 Z ?_;refine xR (n) [1001] [] [13] [0,7,14,13] Z (λi T U zs=>∃acc c,(acc.length=i/\BY c/\c.length<=100000/\aU n b=nbG acc (aU (n-i) c))/\zs=⟨(0,zD yA c)::(7,.ref 1001 0 (acc.map iA).length)::(14,iA i)::T,(1001,.arr 1 (acc.map iA) true)::U⟩) ?_;(conv=>whnf);refine⟨?_,?_,?_⟩
 ·exact⟨[],b,⟨rfl,hb,hbn,by rw[IE];rfl⟩,rfl⟩
 ·rintro i st hi ⟨acc,c,⟨q0,q1,q2,q3⟩,rfl⟩;have hd:=zYg c q1 q2;have hl:=zA yA c;have hla:=zA iA acc;rw[show n-i=(n-(i+1))+1 by omega]at q3
  rcases ID c q1 with h|⟨h1,h2,h3,h4,h5⟩
  ·rw[zAj (by rw[h];decide),hok]at q3;cases q3
  ·rw[zAk h1]at q3;rw[h1]at hd;have hbd:BY (c.drop (dD c).2.1.toNat):=λy hy=>q1 y (yBs hy)
   have hcd:(c.drop (dD c).2.1.toNat).length<=100000:=by rw[yBh];omega
   clear h1;generalize (dD c).1=v at *;generalize (dD c).2.1=k at *;refine zV hd ?_;refine⟨acc++[v],c.drop k.toNat,⟨by simp[q0],hbd,hcd,q3⟩,?_⟩;rw[yAi];rfl
 ·rintro st ⟨acc,c,⟨q0,q1,q2,q3⟩,rfl⟩;rw[yB9,hok]at q3;have e:(l,r)=(acc++[],c):=yCs q3;rw[yBc]at e;cases e;refine WW ?_;exact zL [1001] rfl rfl rfl rfl
def vL (k:Int):Nat:=if k=2∨k=6 then 3 else if k=4 then 2 else if k=1∨k=9∨k=12 then 0 else 1
def xU (k:Int):Nat:=if k=6 then 4 else if k=7 then 2 else 0
def shA (fx gr:Nat):AV:= .agg [iA 10,iA fx,iA gr,iA (if gr=0 then 0 else 1),iA (if gr=0 then 0 else 3),iA 0]
def zEr (k:Int) (h0:1<=k) (h1:k<=12):zN 103 [iA k] [] (.tup [shA (vL k) (xU k),bA true]) []:=by
 obtain rfl|rfl|rfl|rfl|rfl|rfl|rfl|rfl|rfl|rfl|rfl|rfl:k=1∨k=2∨k=3∨k=4∨k=5∨k=6∨k=7∨k=8∨k=9∨k=10∨k=11∨k=12:=by omega
 all_goals (refine eM call103 λF hF=>?_)
 all_goals (refine WW ?_)
 all_goals exact zJ
def QZ (fx gr:Nat) (p:List Int):Option (List Int):=
 if 200<p.length∨p.length<10 then none else match aU fx (p.drop 10)with
 |none=>none
 | some (a,r)=>if gr=0 then(if r=[]then some a else none)else match aU 1 r with
  |none=>none
  |some (c,r2)=>if c.getD 0 0<1∨3<c.getD 0 0 then none else match aU ((c.getD 0 0).toNat*gr) r2 with
   |none=>none
   |some (f,r3)=>if r3=[]then some (a++f)else none
def deT (k:Int) (tok:List Int):Option (List Int)->AV
 |none=> .tup [yB ⟨0,[],[],[]⟩,iA 6]
 |some a=> .tup [yB ⟨k,tok,a,[]⟩,iA 0]
theorem zJ6 (k:Int) (h0:1<=k) (h1:k<=12) (p:List Int) (hb:BY p) (hn:p.length<=100000):zN 69 [iA k,zD yA p] [] (deT k (p.take 10) (QZ (vL k) (xU k) p)) []:=by
 have hl:=zA yA p;have c1:=zEr k h0 h1
 have hf:vL k<=3:=by
  unfold vL
  repeat' split
  all_goals omega
 have hg:xU k=0∨(2<=xU k/\xU k<=4):=by
  unfold xU
  repeat' split
  all_goals omega
 generalize vL k=fx at *;generalize xU k=gr at *;unfold shA at c1;by_cases hlen:200<p.length∨p.length<10
 ·rw[show QZ fx gr p=none from zZ8 hlen]
  show zN 69 [iA k,zD yA p] [] (.tup [yB ⟨0,[],[],[]⟩,iA 6]) []
  by_cases h2:200<p.length
  ·(refine eM call69 λF hF=>?_)
   refine zV c1 ?_;exact zJ
  ·have h3:=hlen.resolve_left h2;refine eM call69 λF hF=>?_
   refine zV c1 ?_;exact zJ
 have e0:QZ fx gr p=_:=zZ7 hlen;rw[e0];clear e0;have hbd:BY (p.drop 10):=λy hy=>hb y (yBs hy)
 have hdl:(p.drop 10).length<=100000:=by rw[yBh];omega
 have c2:=UO (p.drop 10) fx hbd hdl zB
 cases hnb:aU fx (p.drop 10)with
 |none=>
  rw[hnb]at c2
  show zN 69 [iA k,zD yA p] [] (.tup [yB ⟨0,[],[],[]⟩,iA 6]) []
  unfold nbT at c2;refine eM call69 λF hF=>?_
  refine yR (vH c1 c2) ?_;exact zJ
 |some q=>
 obtain⟨a,r⟩:=q;obtain⟨ha,hbr,har,hsp⟩:=dE _ _ _ _ hbd hnb
 have hrl:r.length<=100000:=by
  have:=yA6 List.length hsp;rw[yAd]at this;omega
 have hlr:=zA yA r;have hla:=zA iA a;have k1:=wV (p.take 10) CF
 rcases hg with rfl|⟨g2,g4⟩
 ·rw[hnb]at c2;unfold nbT at c2;dsimp only;rw[zZ8 Z];by_cases hr:r=[]
  ·subst hr;have k2:=wV [] zU;rw[zZ8 Z]
   show zN 69 [iA k,zD yA p] [] (.tup [yB ⟨k,p.take 10,a,[]⟩,iA 0]) []
   refine eM call69 λF hF=>?_
   refine yR (ZK c1 c2 k1 k2) ?_;exact zJ
  ·have hr0:r.length≠0:=λh=>hr (yBa h)
   rw[zZ7 hr]
   show zN 69 [iA k,zD yA p] [] (.tup [yB ⟨0,[],[],[]⟩,iA 6]) []
   refine eM call69 λF hF=>?_
   refine yR (vH c1 c2) ?_;exact zJ
 have c2o:=EO (p.drop 10) fx a r hbd hdl zB hnb;have c3:=UO r 1 hbr hrl zB;clear c2;dsimp only;rw[zZ7 zB]
 cases hnc:aU 1 r with
 |none=>
  rw[hnc]at c3;unfold nbT at c3
  show zN 69 [iA k,zD yA p] [] (.tup [yB ⟨0,[],[],[]⟩,iA 6]) []
  refine eM call69 λF hF=>?_
  refine yR (gK c1 c2o c3) ?_;exact zJ
 |some q2=>
 obtain⟨c,r2⟩:=q2;obtain⟨hc1,hbr2,hcr,hsp2⟩:=dE _ _ _ _ hbr hnc
 obtain⟨v,rfl⟩:∃v,c=[v]:=by
  cases c with
  |nil=>cases hc1
  |cons v c=>cases c with
   |nil=>exact⟨v,rfl⟩
   |cons w c=>simp at hc1
 have hrl2:r2.length<=100000:=by
  have:=yA6 List.length hsp2;rw[yAd]at this;omega
 rw[hnc]at c3;unfold nbT at c3;dsimp only;rw[show [v].getD 0 0=v from Z];by_cases hv:v<1∨3<v
 ·rw[zZ8 hv]
  show zN 69 [iA k,zD yA p] [] (.tup [yB ⟨0,[],[],[]⟩,iA 6]) []
  by_cases hv1:v<1
  ·(refine eM call69 λF hF=>?_)
   refine yR (gK c1 c2o c3) ?_;exact zJ
  ·have hv2:=hv.resolve_left hv1;refine eM call69 λF hF=>?_
   refine yR (gK c1 c2o c3) ?_;exact zJ
 rw[zZ7 hv];have hvg:v.toNat*gr<=12:=yBm (yC9 (show v.toNat<=3 by omega) g4) xG;have evg:((v.toNat*gr:Nat):Int)=v*(gr:Int):=by rw[yF5,yEh zB]
 have c4:=UO r2 (v.toNat*gr) hbr2 hrl2 zB;rw[evg]at c4;have hm:0<=v*(gr:Int)/\v*(gr:Int)<=12:=by rw[<-evg];omega
 clear evg
 cases hnd:aU (v.toNat*gr) r2 with
 |none=>
  rw[hnd]at c4;unfold nbT at c4
  show zN 69 [iA k,zD yA p] [] (.tup [yB ⟨0,[],[],[]⟩,iA 6]) []
  refine eM call69 λF hF=>?_
  refine yR (ZK c1 c2o c3 c4) ?_;exact zJ
 |some q3=>
 obtain⟨f,r3⟩:=q3;obtain⟨hfl,hbr3,hfr,hsp3⟩:=dE _ _ _ _ hbr2 hnd;have hlf:=zA iA f;have hlr3:=zA yA r3;rw[hnd]at c4;unfold nbT at c4;dsimp only;by_cases hr:r3=[]
 ·subst hr;have k2:=wV [] zU;rw[zZ8 Z]
  show zN 69 [iA k,zD yA p] [] (.tup [yB ⟨k,p.take 10,a++f,[]⟩,iA 0]) []
  refine eM call69 λF hF=>?_
  refine yR (zt6 c1 c2o c3 c4 k1 k2) ?_;refine zK [] Z Z ?_ Z
  show AV.tup [.agg [iA k,zD yA (p.take 10),.sl false ((a.map iA++f.map iA).take (a.map iA++f.map iA).length),zD yA []],iA 0]=_
  rw[yAf,<-yAi];rfl
 ·have hr0:r3.length≠0:=λh=>hr (yBa h)
  rw[zZ7 hr]
  show zN 69 [iA k,zD yA p] [] (.tup [yB ⟨0,[],[],[]⟩,iA 6]) []
  refine eM call69 λF hF=>?_
  refine yR (ZK c1 c2o c3 c4) ?_;exact zJ
def zAf (fx gr:Nat):AV:= .agg [iA fx,iA gr,iA (if gr=0 then 0 else 1),iA (if gr=0 then 0 else 3),iA 0]
def zAg (k:Int) (h0:1<=k) (h1:k<=12):zN 106 [iA k] [] (zAf (vL k) (xU k)) []:=by
 obtain rfl|rfl|rfl|rfl|rfl|rfl|rfl|rfl|rfl|rfl|rfl|rfl:k=1∨k=2∨k=3∨k=4∨k=5∨k=6∨k=7∨k=8∨k=9∨k=10∨k=11∨k=12:=by omega
 all_goals (refine eM call106 λF hF=>?_)
 all_goals (refine WW ?_)
 all_goals exact zJ
def RK (fx gr:Nat) (c:Int):Nat->List Int->List Int
 |_,[]=>[]
 |i,x::r=>(if i=fx/\gr≠0 then [c]else [])++(gV x++RK fx gr c (i+1) r)
def YN (fx gr:Nat) (c:Int) (m:Ms):List Int:=(m.tok++RK fx gr c 0 m.args)++((if gr≠0/\m.args.length=fx then [0]else [])++m.data)
theorem zC0:∀(f:Nat) (n:Int),1<=(enR f n).length/\(enR f n).length<=f+1
 |0,n=>by simp[enR]
 |f+1,n=>by
  have:=zC0 f (n/128);rw[enR];split
  ·simp
  ·rw[yAl];omega
def jK (n:Int):1<=(gV n).length/\(gV n).length<=5:=zC0 4 n
theorem aT (k:Int) (h0:1<=k) (h1:k<=12) (m:Ms) (c:Nat) (hk:m.kind=k) (ht:m.tok.length=10) (hd:m.data.length<=100000) (ha:∀x∈m.args,0<=x/\x<=4294967295) (hn:m.args.length<=1000) (hc:xU k≠0->m.args.length=vL k+c*xU k) (hc3:c<=3):
  zN 99 [yB m] [] (zD yA (YN (vL k) (xU k) c m)) []:=by
 subst hk;have c1:=zAg m.kind h0 h1
 have hg:xU m.kind<=4:=by
  unfold xU
  repeat' split
  all_goals omega
 generalize vL m.kind=fx at *;generalize xU m.kind=gr at *;unfold zAf at c1;have hlt:=zA yA m.tok;have hla:=zA iA m.args;have hld:=zA yA m.data;unfold YN;generalize hT:m.tok++RK fx gr c 0 m.args=tot;refine eM call99 λF hF=>?_
 (have zc1:=c1;(repeat' (first|refine uL ?_|((first|apply xM|apply wA)<;>intro hc)|(refine zE ?_;first|(refine xC ?_;refine LU 1001 tok Z Z Z Z Z Z (xO _ _ (λ_=>rfl)) Z Z Z zB Z Z Z ?_))|fail))<;>clear zc1)
 refine qB 1001 Z ?_;refine qW (m.args) [1001,1,3] [1,3] [1,3,16,17] [4,18,1,3,16,17] Z (λi pre T U zs=>∃acc:List Int,(acc.length<=10+6*i/\∀post,m.args=pre++post->acc++RK fx gr c i post=tot)/\zs=⟨(4,.ref 1001 0 (acc.map yA).length)::(18,iA i)::T,(1001,.arr 1 (acc.map yA) true)::U⟩) ?_;(conv=>whnf);refine⟨?_,?_,?_⟩
 ·exact⟨m.tok,⟨zB,λpost h=>by rw[<-hT,h];rfl⟩,rfl⟩
 ·rintro i pre x post st hx hi ⟨acc,⟨q0,q1⟩,rfl⟩;have hy:=xI iA hx hi;have hlt2:=yN hx hi;have hxr:=ha x (wR hx);have hla2:=zA yA acc;have he:=jK x;have c2:=zYh x hxr.1 hxr.2;have hle:=zA yA (gV x)
  have hpost:∀p,m.args=pre++[x]++p->p=post:=λp h=>by
   rw[hx,yA7]at h;simpa using h.symm
  have hT3:=q1 _ hx;clear q1 hT hx;by_cases hi2:i=fx/\gr≠0
  ·obtain⟨rfl,hg0⟩:=hi2;have hcl:=hc hg0
   have hq:(((m.args.map iA).length:Int)-(i:Int)).tdiv (gr:Int)=(c:Int):=by
    rw[hla,hcl,show(((i+c*gr:Nat):Int)-(i:Int))=(c:Int)*(gr:Int) by rw[Int.natCast_add,yF5];omega];exact Int.mul_tdiv_cancel _ zB
   have hir:XN .i64 ((((m.args.map iA).length:Int)-(i:Int)).tdiv (gr:Int)):=by rw[hq];exact⟨zB,zB⟩
   have e:RK i gr c i (x::post)=[(c:Int)]++(gV x++RK i gr c (i+1) post):=by rw[RK,zZ8 ⟨rfl,hg0⟩]
   rw[e]at hT3;clear e hcl hc;generalize gV x=ex at *;refine yR (vH c1 c2) ?_;refine⟨acc++[(c:Int)]++ex,⟨by simp;omega,λp h=>by rw[hpost p h,<-hT3];simp⟩,?_⟩;rw[yAi,yAi,<-hq];rfl
  ·have e:RK fx gr c i (x::post)=gV x++RK fx gr c (i+1) post:=by rw[RK,zZ7 hi2];rfl
   rw[e]at hT3;clear e hc;generalize gV x=ex at *;by_cases hif:i=fx
   ·have hg0:gr=0:=by
     by_cases h:gr=0
     ·exact h
     ·exact absurd ⟨hif,h⟩ hi2
    refine yR (vH c1 c2) ?_;refine⟨acc++ex,⟨by simp;omega,λp h=>by rw[hpost p h,<-hT3];simp⟩,?_⟩;rw[yAi];rfl
   ·(refine yR (vH c1 c2) ?_)
    refine⟨acc++ex,⟨by simp;omega,λp h=>by rw[hpost p h,<-hT3];simp⟩,?_⟩;rw[yAi];rfl
 ·rintro st ⟨acc,⟨q0,q1⟩,rfl⟩;have e:=q1 [] zU;rw[show RK fx gr c m.args.length []=[]from rfl,yBc]at e;subst e;have hla2:=zA yA acc;clear q1 hT hc;by_cases hz:gr≠0/\m.args.length=fx
  ·rw[zZ8 hz];obtain⟨hz1,hz2⟩:=hz;refine WW ?_;refine zK [] Z Z ?_ Z
   show AV.sl false ((acc.map yA++[yA 0]++m.data.map yA).take (acc.map yA++[yA 0]++m.data.map yA).length)=_
   rw[yAf];unfold zD;rw[yAi,yAi,yA7];rfl
  ·rw[zZ7 hz];by_cases hz1:gr=0
   ·(refine WW ?_)
    refine zK [] Z Z ?_ Z
    show AV.sl false ((acc.map yA++m.data.map yA).take (acc.map yA++m.data.map yA).length)=_
    rw[yAf];unfold zD;rw[yAi];rfl
   ·have hz2:m.args.length≠fx:=λh=>hz ⟨hz1,h⟩
    refine WW ?_;refine zK [] Z Z ?_ Z
    show AV.sl false ((acc.map yA++m.data.map yA).take (acc.map yA++m.data.map yA).length)=_
    rw[yAf];unfold zD;rw[yAi];rfl
def prA (p:Int×Int):AV:= .agg [iA p.1,iA p.2]
def uY (n:Int):List (Int×Int):=if n=0 then [(0,0),(0,0)]else if n=1 then [(0,0),(1,0),(0,1),(1,1)]else if n=2 then [(0,0),(1,0),(0,0)]
 else if n=3 then [(0,0),(0,0),(1,0),(1,0),(0,1),(0,1),(1,1),(1,1)]else if n=4 then [(1,0),(0,1),(0,2)]else [(0,0)]
def zJ7 (n:Int):zN 75 [iA n] [] (zD prA (uY n)) []:=by
 by_cases h0:n=0
 ·subst h0;refine eM call75 λF hF=>?_
  (repeat' (first|refine cX ?_|refine xM (λhc=>?_) λhc=>?_|fail))
  exact zJ
 by_cases h1:n=1
 ·subst h1;refine eM call75 λF hF=>?_
  (repeat' (first|refine cX ?_|refine xM (λhc=>?_) λhc=>?_|fail))
  exact zJ
 by_cases h2:n=2
 ·subst h2;refine eM call75 λF hF=>?_
  (repeat' (first|refine cX ?_|refine xM (λhc=>?_) λhc=>?_|fail))
  exact zJ
 by_cases h3:n=3
 ·subst h3;refine eM call75 λF hF=>?_
  (repeat' (first|refine cX ?_|refine xM (λhc=>?_) λhc=>?_|fail))
  exact zJ
 by_cases h4:n=4
 ·subst h4;refine eM call75 λF hF=>?_
  (repeat' (first|refine cX ?_|refine xM (λhc=>?_) λhc=>?_|fail))
  exact zJ
 rw[show uY n=[(0,0)] by simp[uY,h0,h1,h2,h3,h4]];refine eM call75 λF hF=>?_
 (repeat' (first|refine cX ?_|refine xM (λhc=>?_) λhc=>?_|fail))
 exact zJ
instance:Inhabited (Int×Int):=⟨(0,0)⟩
def VU (d:Dk) (s:Int×Int):Ph:=
 if nx (ad (ad (ad d))) 3=2 then⟨s.1,s.2,1+nx d (3-1+1),max (1+nx d (3-1+1)) (1+nx (ad (ad (ad (ad d)))) (2-1+1)+(1+nx (ad (ad (ad (ad (ad d))))) (2-1+1)))+nx (ad (ad (ad (ad (ad (ad d)))))) 4,1+nx (ad d) (2-1+1),nx (ad (ad d)) 3,1+nx (ad (ad (ad (ad d)))) (2-1+1),1+nx (ad (ad (ad (ad (ad d))))) (2-1+1)⟩
 else⟨s.1,s.2,1+nx d (3-1+1),max (1+nx d (3-1+1)) (0+0)+nx (ad (ad (ad (ad d)))) 4,1+nx (ad d) (2-1+1),nx (ad (ad d)) 3,0,0⟩
def phD (d:Dk):Dk:=if nx (ad (ad (ad d))) 3=2 then ad (ad (ad (ad (ad (ad (ad d))))))else ad (ad (ad (ad (ad d))))
def MZ (d:Dk) (l:List (Int×Int)):Nat->List Ph×Dk
 |0=>([],d)
 |i+1=>((MZ d l i).1++[VU (MZ d l i).2 (l.getD i default)],phD (MZ d l i).2)
theorem WC (d:Dk) (l:List (Int×Int)):∀i,(MZ d l i).1.length=i
 |0=>rfl
 |i+1=>by simp[MZ,WC d l i]
def cnd (ps:List Ph) (ex:Bool) (i k:Nat):Bool:=i != k&&((ps.getD i default).ring==(ps.getD k default).ring||(ps.getD i default).group != (ps.getD k default).group||ex&&((i:Int)+k).tmod 2==1)
def ZJ (ps:List Ph) (ex:Bool) (i:Nat):Nat->Int
 |0=>0
 |k+1=>if cnd ps ex i k=true then ZJ ps ex i k+2 ^ k else ZJ ps ex i k
theorem RL (ps:List Ph) (ex:Bool) (i:Nat):∀k,0<=ZJ ps ex i k/\ZJ ps ex i k<2 ^ k
 |0=>by simp[ZJ]
 |k+1=>by
  have:=RL ps ex i k;have e:(2:Int) ^ (k+1)=2 ^ k*2:=yF1 2 k;unfold ZJ
  split<;>omega
def jU (ps:List Ph) (ex:Bool) (n:Nat):List Int:=(List.range n).map λi=>ZJ ps ex i ps.length
def YO (d:Dk):List Ph×Dk:=MZ (ad (ad d)) (uY (nx d 6)) (uY (nx d 6)).length
def jnF (d:Dk):Jn:=⟨(YO d).1,jU (YO d).1 (nx (YO d).2 4==3) (YO d).1.length,nx (ad d) 3⟩
def jnD (d:Dk):Dk:=ad (YO d).2
def PA (n:Int):1<=(uY n).length/\(uY n).length<=8:=by
 unfold uY
 (repeat' split)<;>simp
def zZs (k:Nat) (h:k<8):IntKind.i64.wrap (1*2 ^ (min ((k:Int)).toNat IntKind.i64.bits))=2 ^ k/\(2:Int) ^ k<=128:=by
 obtain rfl|rfl|rfl|rfl|rfl|rfl|rfl|rfl:k=0∨k=1∨k=2∨k=3∨k=4∨k=5∨k=6∨k=7:=by omega
 all_goals decide
theorem zAh (d:Dk):zN 42 [.ptr 1000 0 0] [(1000,NF d)] (wJ (jnF d)) [(1000,NF (jnD d))]:=by
 have hb:=xZ d 6 zB;have hsl:=PA (nx d 6);have sc:=zJ7 (nx d 6);have ej:jnF d=⟨(YO d).1,jU (YO d).1 (nx (YO d).2 4==3) (YO d).1.length,nx (ad d) 3⟩:=rfl;have ed:jnD d=ad (YO d).2:=rfl;have ep:YO d=MZ (ad (ad d)) (uY (nx d 6)) (uY (nx d 6)).length:=rfl;rw[ej,ed];generalize YO d=jp at *;generalize uY (nx d 6)=l at *;have hll:(l.map prA).length=l.length:=by simp
 refine eM call42 λF hF=>?_
 (repeat' (first|refine cX ?_|refine xM (λhc=>?_) λhc=>?_|(refine zE ?_;refine xT ?_;(first|(refine vS 75 ?_;first|refine wG (zH (sc) Z Z Z Z Z) Z ?_|refine uS (zH (sc) Z Z Z Z Z) Z Z Z ?_|refine ZU (zH (sc) Z Z Z Z Z) Z Z Z ?_)|(refine vS 15 ?_;first|refine wG (zH (wO _ _ zB zB) Z Z Z Z Z) Z ?_|refine uS (zH (wO _ _ zB zB) Z Z Z Z Z) Z Z Z ?_|refine ZU (zH (wO _ _ zB zB) Z Z Z Z Z) Z Z Z ?_)))|fail))
 refine uF 4 0 1001 8 Z Z Z Z Z ?_
 refine wT (λn st=>∃i:Nat,n+i=l.length/\st=⟨[(0,.ptr 1000 0 0),(2,.ptr 2 0 0),(4,.ptr 4 0 0),(20,zD prA l),(21,iA l.length),(22,iA i)],
   [(1000,NF (MZ (ad (ad d)) l i).2),(2,.box [.s (.slice none 0 0),.s (.slice none 0 0),iA 0]),(4,.box [.ref 1001 0 ((MZ (ad (ad d)) l i).1.map wS).length,.s (.slice none 0 0),iA (nx (ad d) 3)]),(1001,.arr 8 ((MZ (ad (ad d)) l i).1.map wS) true)]⟩)
  l.length [1000,2,4,1001] [0,2,4,20,21,22] Z ⟨0,rfl,by rw[<-hll];rfl⟩ ?_
 rintro n st ⟨i,hi,rfl⟩;by_cases hlt:i<l.length
 ·have hy:=yI prA l i zB zB;rw[show((i:Int)).toNat=i from Z]at hy;have hm:(MZ (ad (ad d)) l (i+1)).1.map wS=(MZ (ad (ad d)) l i).1.map wS++[wS (VU (MZ (ad (ad d)) l i).2 (l.getD i default))]:=yAi;have hd:(MZ (ad (ad d)) l (i+1)).2=phD (MZ (ad (ad d)) l i).2:=rfl;have hle:=WC (ad (ad d)) l i;generalize l.getD i default=p at *;obtain⟨p1,p2⟩:=p;generalize hq':MZ (ad (ad d)) l (i+1)=q' at hm hd;generalize MZ (ad (ad d)) l i=q at *;obtain⟨ql,qd⟩:=q;dsimp only at hm hd hle⊢;have b0:=xZ qd (3-1+1) zB;have b1:=xZ (ad (ad (ad (ad qd)))) 4 zB;have b2:=xZ (ad (ad (ad (ad qd)))) (2-1+1) zB;have b3:=xZ (ad (ad (ad (ad (ad qd))))) (2-1+1) zB;have b4:=xZ (ad (ad (ad (ad (ad (ad qd)))))) 4 zB;by_cases hz:nx (ad (ad (ad qd))) 3=2
  ·rw[show VU qd (p1,p2)=⟨p1,p2,1+nx qd (3-1+1),max (1+nx qd (3-1+1)) (1+nx (ad (ad (ad (ad qd)))) (2-1+1)+(1+nx (ad (ad (ad (ad (ad qd))))) (2-1+1)))+nx (ad (ad (ad (ad (ad (ad qd)))))) 4,1+nx (ad qd) (2-1+1),nx (ad (ad qd)) 3,1+nx (ad (ad (ad (ad qd)))) (2-1+1),1+nx (ad (ad (ad (ad (ad qd))))) (2-1+1)⟩ by unfold VU;rw[zZ8 hz]]at hm;rw[show phD qd=ad (ad (ad (ad (ad (ad (ad qd)))))) by unfold phD;rw[zZ8 hz]]at hd
   (repeat' (first|refine cX ?_|refine xM (λhc=>?_) λhc=>?_|(refine zE ?_;refine xT ?_;(first|(refine vS 41 ?_;first|refine wG (zH (kV _ _ _ zB zB zB) Z Z Z Z Z) Z ?_|refine uS (zH (kV _ _ _ zB zB zB) Z Z Z Z Z) Z Z Z ?_|refine ZU (zH (kV _ _ _ zB zB zB) Z Z Z Z Z) Z Z Z ?_)|(refine vS 15 ?_;first|refine wG (zH (wO _ _ zB zB) Z Z Z Z Z) Z ?_|refine uS (zH (wO _ _ zB zB) Z Z Z Z Z) Z Z Z ?_|refine ZU (zH (wO _ _ zB zB) Z Z Z Z Z) Z Z Z ?_)))|fail))
   exact⟨n-1,zB,i+1,zB,by rw[hq',hm,hd];rfl⟩
  ·rw[show VU qd (p1,p2)=⟨p1,p2,1+nx qd (3-1+1),max (1+nx qd (3-1+1)) (0+0)+nx (ad (ad (ad (ad qd)))) 4,1+nx (ad qd) (2-1+1),nx (ad (ad qd)) 3,0,0⟩ by unfold VU;rw[zZ7 hz]]at hm;rw[show phD qd=ad (ad (ad (ad (ad qd)))) by unfold phD;rw[zZ7 hz]]at hd
   (repeat' (first|refine cX ?_|refine xM (λhc=>?_) λhc=>?_|(refine zE ?_;refine xT ?_;(first|(refine vS 41 ?_;first|refine wG (zH (kV _ _ _ zB zB zB) Z Z Z Z Z) Z ?_|refine uS (zH (kV _ _ _ zB zB zB) Z Z Z Z Z) Z Z Z ?_|refine ZU (zH (kV _ _ _ zB zB zB) Z Z Z Z Z) Z Z Z ?_)|(refine vS 15 ?_;first|refine wG (zH (wO _ _ zB zB) Z Z Z Z Z) Z ?_|refine uS (zH (wO _ _ zB zB) Z Z Z Z Z) Z Z Z ?_|refine ZU (zH (wO _ _ zB zB) Z Z Z Z Z) Z Z Z ?_)))|fail))
   exact⟨n-1,zB,i+1,zB,by rw[hq',hm,hd];rfl⟩
 obtain rfl:i=l.length:=by omega
 have hpl:jp.1.length=l.length:=by rw[ep];exact WC _ _ _
 rw[<-ep];clear ep ej ed sc hll hi hlt;obtain⟨ps,dj⟩:=jp;dsimp only at hpl⊢;have hlp:(ps.map wS).length=ps.length:=by simp
 generalize nx (ad d) 3=js
 (repeat' (first|refine cX ?_|refine xM (λhc=>?_) λhc=>?_|(refine zE ?_;refine xT ?_;(first|(refine vS 15 ?_;first|refine wG (zH (wO _ _ zB zB) Z Z Z Z Z) Z ?_|refine uS (zH (wO _ _ zB zB) Z Z Z Z Z) Z Z Z ?_|refine ZU (zH (wO _ _ zB zB) Z Z Z Z Z) Z Z Z ?_)))|fail))
 generalize nx dj 4=n4
 refine uZ (st':=⟨[(0,.ptr 1000 0 0),(2,.ptr 2 0 0),(4,.ptr 4 0 0),(8,bA (n4==3)),(69,zD wS ps),(70,iA ps.length),(71,iA 0)],
   [(1000,NF (ad dj)),(2,.box [.s (.slice none 0 0),.s (.slice none 0 0),iA 0]),(4,.box [zD wS ps,.s (.slice none 0 0),iA js])]⟩) [1000,2,4] [0,2,4,8,69,70,71] Z (by
  have e1:zD wS ps= .sl false (List.take (ps.map wS).length (List.drop 0 (ps.map wS))):=by
   rw[yA9,yAf];rfl
  rw[e1,<-hlp]
  rfl) ?_
 generalize (n4==3)=ex;generalize ad dj=dk;refine uF 4 1 1002 1 Z Z Z Z Z ?_
 refine wT (λn st=>∃i:Nat,n+i=ps.length/\st=⟨[(0,.ptr 1000 0 0),(2,.ptr 2 0 0),(4,.ptr 4 0 0),(8,bA ex),(69,zD wS ps),(70,iA ps.length),(71,iA i)],
   [(1000,NF dk),(2,.box [.s (.slice none 0 0),.s (.slice none 0 0),iA 0]),(4,.box [zD wS ps,.ref 1002 0 ((jU ps ex i).map iA).length,iA js]),(1002,.arr 1 ((jU ps ex i).map iA) true)]⟩)
  ps.length [1000,2,4,1002] [0,2,4,8,69,70,71] Z ⟨0,rfl,rfl⟩ ?_
 clear n;rintro n st ⟨i,hi,rfl⟩;by_cases hlt:i<ps.length
 ·have hy:=yI wS ps i zB zB;rw[show((i:Int)).toNat=i from Z]at hy;have ht:(jU ps ex (i+1)).map iA=(jU ps ex i).map iA++[iA (ZJ ps ex i ps.length)]:=by unfold jU;rw[yCm];simp
  have hrl:(jU ps ex i).length=i:=by simp[jU]
  obtain⟨p,hp⟩:∃p,ps.getD i default=p:=⟨_,rfl⟩;rw[hp]at hy;obtain⟨rows,hrows⟩:∃r,jU ps ex i=r:=⟨_,rfl⟩;rw[hrows]at ht hrl⊢
  (repeat' (first|refine cX ?_|refine xM (λhc=>?_) λhc=>?_|fail))
  refine wT (λn st=>∃k:Nat,n+k=ps.length/\st=⟨[(0,.ptr 1000 0 0),(2,.ptr 2 0 0),(4,.ptr 4 0 0),(8,bA ex),(9,iA i),(10,.ptr 10 0 0),(11,iA (ZJ ps ex i k)),(69,zD wS ps),(70,iA ps.length),(71,iA i),(77,zD wS ps),(78,iA ps.length),(79,iA k)],
    [(1000,NF dk),(2,.box [.s (.slice none 0 0),.s (.slice none 0 0),iA 0]),(4,.box [zD wS ps,.ref 1002 0 (rows.map iA).length,iA js]),(10,.box [iA p.ring,iA p.group,iA p.ming,iA p.maxg,iA p.yel,iA p.red,iA p.walk,iA p.clear]),(1002,.arr 1 (rows.map iA) true)]⟩)
   ps.length [1000,2,4,10,1002] [0,2,4,8,9,10,11,69,70,71,77,78,79] Z ⟨0,rfl,by rw[<-hlp];rfl⟩ ?_
  rintro n2 st ⟨k,hk,rfl⟩;by_cases hlt2:k<ps.length
  ·have hy2:=yI wS ps k zB zB;rw[show((k:Int)).toNat=k from Z]at hy2
   have hn:ZJ ps ex i (k+1)=if cnd ps ex i k=true then ZJ ps ex i k+2 ^ k else ZJ ps ex i k:=rfl
   have hc:cnd ps ex i k=(i != k&&(p.ring==(ps.getD k default).ring||p.group != (ps.getD k default).group||ex&&((i:Int)+k).tmod 2==1)):=by rw[<-hp];rfl
   obtain⟨hw,hw2⟩:=zZs k zB;obtain⟨hr0,hr1⟩:=RL ps ex i k;have hr2:0<=(2:Int) ^ k:=by omega
   rw[show(2:Int) ^ k=p2 k from Z]at hn hr1 hr2 hw2;clear hw;generalize ps.getD k default=q at *;by_cases h0:i=k
   ·rw[zZ7 (by rw[hc];simp[h0])]at hn;clear hc;subst h0
    (repeat' (first|refine cX ?_|refine xM (λhc=>?_) λhc=>?_|fail))
    exact⟨n2-1,zB,i+1,zB,by rw[hn];rfl⟩
   by_cases h1:p.ring=q.ring
   ·rw[zZ8 (by rw[hc];simp[h0,h1])]at hn;clear hc
    (repeat' (first|refine cX ?_|refine xM (λhc=>?_) λhc=>?_|fail))
    exact⟨n2-1,zB,k+1,zB,by rw[hn];rfl⟩
   by_cases h2:p.group=q.group
   ·cases ex with
    |false=>
     rw[zZ7 (by rw[hc];simp[h0,h1,h2])]at hn;clear hc
     (repeat' (first|refine cX ?_|refine xM (λhc=>?_) λhc=>?_|fail))
     exact⟨n2-1,zB,k+1,zB,by rw[hn];rfl⟩
    | true=>
     by_cases h3:((i:Int)+k).tmod 2=1
     ·rw[zZ8 (by rw[hc];simp[h0,h1,h2,h3])]at hn;clear hc
      (repeat' (first|refine cX ?_|refine xM (λhc=>?_) λhc=>?_|fail))
      exact⟨n2-1,zB,k+1,zB,by rw[hn];rfl⟩
     ·rw[zZ7 (by rw[hc];simp[h0,h1,h2,h3])]at hn;clear hc
      (repeat' (first|refine cX ?_|refine xM (λhc=>?_) λhc=>?_|fail))
      exact⟨n2-1,zB,k+1,zB,by rw[hn];rfl⟩
   ·rw[zZ8 (by rw[hc];simp[h0,h1,h2])]at hn;clear hc
    (repeat' (first|refine cX ?_|refine xM (λhc=>?_) λhc=>?_|fail))
    exact⟨n2-1,zB,k+1,zB,by rw[hn];rfl⟩
  ·obtain rfl:k=ps.length:=by omega
   have hr:=RL ps ex i ps.length
   (repeat' (first|refine cX ?_|refine xM (λhc=>?_) λhc=>?_|fail))
   exact⟨n-1,zB,i+1,zB,by rw[ht];rfl⟩
 obtain rfl:i=ps.length:=by omega
 (repeat' (first|refine cX ?_|refine xM (λhc=>?_) λhc=>?_|fail))
 exact zL [1000] Z Z (yA6 (λx=>AV.agg [zD wS ps,AV.sl false x,iA js]) yAf) Z
def ad4 (d:Dk):Dk:=ad (ad (ad (ad d)))
def ND (d:Dk):Nat->List Jn×Dk
 |0=>([],d)
 |i+1=>((ND d i).1++[jnF (ND d i).2],jnD (ND d i).2)
def YP (d:Dk) (rights:Int):Nat->List Ag×Dk
 |0=>([],d)
 |i+1=>((YP d rights i).1++[agF (YP d rights i).2 i rights],ad (ad7 (YP d rights i).2))
theorem RM (d:Dk):∀i,(ND d i).1.length=i
 |0=>rfl
 |i+1=>by simp[ND,RM d i]
theorem eV (d:Dk) (rights:Int):∀i,(YP d rights i).1.length=i
 |0=>rfl
 |i+1=>by simp[YP,eV d rights i]
def zU1 (d:Dk) (rights:Int) (i:Nat):(YP d rights (i+1)).2=ad (ad7 (YP d rights i).2):=by simp only[YP]
def zJ8 (d:Dk) (rights:Int) (i:Nat):(YP d rights (i+1)).1=(YP d rights i).1++[agF (YP d rights i).2 i rights]:=by simp only[YP]
def cfN (d:Dk):Nat:=(1+nx (ad4 d) 2).toNat
def cfJ (d:Dk):List Jn×Dk:=ND (ad (ad4 d)) (cfN d)
def cfM (d:Dk):Nat:=(1+nx (cfJ d).2 3).toNat
def cfG (d:Dk) (rights:Int):List Ag×Dk:=YP (ad (cfJ d).2) rights (cfM d)
def LA (d:Dk) (rights:Int):Cf:=⟨(cfJ d).1,(cfG d rights).1,1+nx d (4-1+1),nx (ad d) 4,1+nx (ad (ad d)) (3-1+1),nx (ad (ad (ad d))) 5⟩
def cfD (d:Dk) (rights:Int):Dk:=(cfG d rights).2
def CfW (c:Cf):Prop:=c.js.length<=4/\∀j∈c.js,1<=j.ph.length/\j.ph.length<=8
theorem CfW.at {c:Cf} (h:CfW c) {j:Int} (h0:0<=j) (h1:j<((c.js.map wJ).length:Int)):1<=(c.js.getD j.toNat default).ph.length/\(c.js.getD j.toNat default).ph.length<=8:=by
 rw[zZ9]at h1;refine h.2 _ ?_;rw[yAg,yAn zB,yCd];exact yCv _
def BU (l:List Int):Prop:=∀x∈l,0<=x/\x<=4294967295
theorem BU.app {a b:List Int} (h1:BU a) (h2:BU b):BU (a++b):=λx hx=>(yAw.1 hx).elim (h1 x) (h2 x)
theorem BU.cons {x:Int} {b:List Int} (h1:0<=x/\x<=4294967295) (h2:BU b):BU (x::b):=λy hy=>(yBd.1 hy).elim (λe=>e▸h1) (h2 y)
theorem BU.nil:BU []:=λx hx=>by cases hx
structure MgP (m:Ms):Prop where
 t:BY m.tok
 l:m.tok.length=10
 k:1<=m.kind/\m.kind<=12
 n:BU m.args
 c:∃n:Nat,n<=2/\(xU m.kind≠0->1<=n)/\m.args.length=vL m.kind+n*xU m.kind
 d:m.data=[]
def cG (k:Int):zN 107 [iA k] [] (bA (decide (1<=k/\k<=12))) []:=by
 cases hb:decide (1<=k/\k<=12)with
 |false=>(rw[yAr]at hb;(refine eM call107 λF hF=>?_);((refine WW (I2 (λhc=>?_) λhc=>?_)));all_goals (first|exact zJ|exact zXO|exact zFB))
 |true=>(rw[yAc]at hb;(refine eM call107 λF hF=>?_);((refine WW ?_));all_goals (first|exact zJ|exact zXO|exact zFB))
def gU (k:Int):zN 199 [iA k] [] (bA (decide (1<=k/\k<=12))) []:=by
 cases hb:decide (1<=k/\k<=12)with
 |false=>(rw[yAr]at hb;(refine eM call199 λF hF=>?_);((refine WW (I2 (λhc=>?_) λhc=>?_)));all_goals (first|exact zJ|exact zXO|exact zFB))
 |true=>(rw[yAc]at hb;(refine eM call199 λF hF=>?_);((refine WW ?_));all_goals (first|exact zJ|exact zXO|exact zFB))
theorem JX (fx gr:Nat) (c:Int):∀(l:List Int) (i:Nat),(RK fx gr c i l).length<=6*l.length
 | [],i=>by simp[RK]
 |x::r,i=>by
  have h1:=JX fx gr c r (i+1);have h2:=jK x;rw[RK,yAd,yAd,yAl]
  have h3:(if i=fx/\gr≠0 then [c]else []).length<=1:=by split<;>simp
  omega
def vmF (gr c:Nat) (d:List Int):Bool:=decide (d.length=0/\(gr=0∨1<=c))
def JY (k:Int):xU k=0∨xU k=2∨xU k=4:=by
 unfold xU
 repeat' split
 all_goals omega
def JZ (k:Int):vL k<=3:=by
 unfold vL
 repeat' split
 all_goals omega
theorem PB (k:Int) (h0:1<=k) (h1:k<=12) (m:Ms) (c:Nat) (hk:m.kind=k) (ht:m.tok.length=10) (hd:m.data.length<=100000) (ha:∀x∈m.args,0<=x/\x<=4294967295) (hc:m.args.length=vL k+c*xU k) (hc3:c<=3):
  zN 98 [yB m] [] (bA (vmF (xU k) c m.data)) []:=by
 have c1:=zAg k h0 h1;have c2:=cG k;have hf:=JZ k;rw[yAe ⟨h0,h1⟩]at c2;have c3:=aT k h0 h1 m c hk ht hd ha (by have:=JY k;rcases this with h|h|h<;>rw[h]at hc<;>omega) (λ_=>hc) hc3
 have hpl:(YN (vL k) (xU k) c m).length<=10+(6*m.args.length+(1+m.data.length)):=by
  have h1:=JX (vL k) (xU k) c m.args 0
  have h3:(if xU k≠0/\m.args.length=vL k then [(0:Int)]else []).length<=1:=by split<;>simp
  unfold YN;rw[yAd,yAd,yAd];omega
 have hlp:=zA yA (YN (vL k) (xU k) c m);have hg:=JY k;subst hk;generalize YN (vL m.kind) (xU m.kind) c m=pl at *;generalize vL m.kind=fx at *;generalize xU m.kind=gr at *;unfold zAf at c1;have hlt:=zA yA m.tok;have hla:=zA iA m.args;have hld:=zA yA m.data
 cases hb:vmF gr c m.data with
 | true=>
  unfold vmF at hb;rw[yAc]at hb;obtain⟨hb1,hb2⟩:=hb
  rcases hg with rfl|rfl|rfl
  ·rw[zZ8 Z,zZ8 Z]at c1;refine eM call98 λF hF=>?_
   refine yR (vH c1 c2) ?_;refine yL (m.args) [1] [1] [1,97,98] [99,1,97,98] Z (λi pre T U=>⟨(99,iA i)::T,U⟩) ?_;(conv=>whnf);refine⟨by rfl,?_,?_⟩
   ·intro i pre x post hx hi;have hy:=xI iA hx hi;have hlt2:=yN hx hi;have hxr:=ha x (wR hx);clear hx;refine WW ?_;rfl
   ·(refine zV c3 ?_)
    exact zJ
  all_goals
   rw[zZ7 xG,zZ7 xG]at c1;have hm2:(((m.args.map iA).length:Int)-(fx:Int)).tmod ((2:Nat):Int)=0:=by rw[yBw zB];omega
   have hm4:(((m.args.map iA).length:Int)-(fx:Int)).tmod ((4:Nat):Int)=(((m.args.map iA).length:Int)-(fx:Int)) % 4:=yBw zB;refine eM call98 λF hF=>?_
   refine yR (vH c1 c2) ?_;refine yL (m.args) [1] [1] [1,97,98] [99,1,97,98] Z (λi pre T U=>⟨(99,iA i)::T,U⟩) ?_;(conv=>whnf);refine⟨by rfl,?_,?_⟩
   ·intro i pre x post hx hi;have hy:=xI iA hx hi;have hlt2:=yN hx hi;have hxr:=ha x (wR hx);clear hx;refine WW ?_;rfl
   ·(refine zV c3 ?_)
    exact zJ
 | false=>
  unfold vmF at hb;rw[yAr]at hb
  rcases hg with rfl|rfl|rfl
  ·rw[zZ8 Z,zZ8 Z]at c1;have hd0:m.data.length≠0:=λh=>hb ⟨h,.inl Z⟩
   refine eM call98 λF hF=>?_
   refine yR (vH c1 c2) ?_;exact zJ
  all_goals
   rw[zZ7 xG,zZ7 xG]at c1;have hm2:(((m.args.map iA).length:Int)-(fx:Int)).tmod ((2:Nat):Int)=0:=by rw[yBw zB];omega
   have hm4:(((m.args.map iA).length:Int)-(fx:Int)).tmod ((4:Nat):Int)=(((m.args.map iA).length:Int)-(fx:Int)) % 4:=yBw zB;by_cases hc1:1<=c
   ·have hd0:m.data.length≠0:=λh=>hb ⟨h,.inr hc1⟩
    refine eM call98 λF hF=>?_
    refine yR (vH c1 c2) ?_;exact zJ
   ·(refine eM call98 λF hF=>?_)
    refine yR (vH c1 c2) ?_;exact zJ
theorem PC:∀l:List Int,((l.map gV).flatten).length<=5*l.length
 | []=>by simp
 |x::l=>by
  have h1:=PC l;have h2:=jK x;rw[yBb,yCp,yAd,yAl];omega
theorem zSj (fx:Nat) (c:Int):∀(l:List Int) (i:Nat),RK fx 0 c i l=(l.map gV).flatten
 | [],i=>rfl
 |x::l,i=>by
  rw[RK,zSj fx c l (i+1),zZ7 (λh=>h.2 Z)];rfl
theorem zJ9 (fx gr:Nat) (c:Int):∀(l:List Int) (i:Nat),fx<i->RK fx gr c i l=(l.map gV).flatten
 | [],i,_=>rfl
 |x::l,i,h=>by
  rw[RK,zJ9 fx gr c l (i+1) zB,zZ7 (λh2=>by omega)];rfl
theorem zC1 (fx gr:Nat) (c:Int) (hg:gr≠0) (f:List Int) (hf:f≠[]):∀(a:List Int) (i:Nat),i+a.length=fx->RK fx gr c i (a++f)=(a.map gV).flatten++([c]++(f.map gV).flatten)
 | [],i,h=>by
  cases f with
  |nil=>exact absurd Z hf
  |cons x f=>
   have hi:i=fx:=by simpa using h
   rw[yCo,RK,zZ8 ⟨hi,hg⟩,zJ9 fx gr c f (i+1) zB];rfl
 |x::a,i,h=>by
  rw[yCu,RK,zC1 fx gr c hg f hf a (i+1) (by rw[yAl]at h;omega),zZ7 (λh2=>by rw[yAl]at h;omega),yCo,yBb,yCp,yA7]
theorem zEs (k:Int) (h0:1<=k) (h1:k<=12) (p:List Int) (hb:BY p) (hn:p.length<=100000):zN 71 [iA k,zD yA p] [] (deT k (p.take 10) (QZ (vL k) (xU k) p)) []:=by
 have hl:=zA yA p;have c1:=zAg k h0 h1;have cf:=cG k;rw[yAe ⟨h0,h1⟩]at cf;have hf:=JZ k;have hg:=JY k;by_cases hlen:p.length<10
 ·rw[show QZ (vL k) (xU k) p=none from zZ8 (.inr hlen)]
  show zN 71 [iA k,zD yA p] [] (.tup [yB ⟨0,[],[],[]⟩,iA 6]) []
  unfold zAf at c1;refine eM call71 λF hF=>?_
  refine yR (vH c1 cf) ?_;exact zJ
 have hbd:BY (p.drop 10):=λy hy=>hb y (yBs hy)
 have hdl:(p.drop 10).length<=100000:=by rw[yBh];omega
 have htl:((p.take 10).map yA).length=10:=by rw[zZ9,yA3];omega
 have htl2:((p.take (10:Int).toNat).map yA).length=10:=htl;have c2:=YQ (p.drop 10) (vL k) hbd hdl zB
 cases hnb:aU (vL k) (p.drop 10)with
 | none=>
  have e:QZ (vL k) (xU k) p=none:=by
   unfold QZ;rw[hnb]
   split<;>rfl
  rw[e];rw[hnb]at c2
  show zN 71 [iA k,zD yA p] [] (.tup [yB ⟨0,[],[],[]⟩,iA 6]) []
  unfold nbT at c2;unfold zAf at c1;refine eM call71 λF hF=>?_
  (have zc1:=c1;have zc2:=cf;have zc3:=c2;(repeat' (first|refine uL ?_|((first|apply xM|apply wA)<;>intro hc)|(refine zE ?_;first|(refine xC ?_;refine gL tok Z Z Z Z Z Z (xO _ _ (λ_=>rfl)) Z Z Z zB Z Z Z ?_))|fail))<;>clear zc1 zc2 zc3)
  exact zJ
 |some q=>
 obtain⟨a,r⟩:=q;obtain⟨ha,hbr,har,hsp⟩:=dE _ _ _ _ hbd hnb;have hfl:=PC a
 have hpl:p.length=10+(((a.map gV).flatten).length+r.length):=by
  have:=yA6 List.length hsp;rw[yAd,yBh]at this;omega
 have hsp0:p=p.take 10++((a.map gV).flatten++r):=by rw[<-hsp,yDq]
 have hlr:=zA yA r;have hla:=zA iA a;have hrl:r.length<=100000:=by omega
 rw[hnb]at c2;unfold nbT at c2
 rcases Nat.eq_zero_or_pos (xU k)with hg0|hg0
 ·have v1:=PB k h0 h1 ⟨k,p.take 10,a,r⟩ 0 Z CF hrl har (by rw[hg0];exact ha) zB;have v2:=aT k h0 h1 ⟨k,p.take 10,a,r⟩ 0 Z CF hrl har (by show a.length<=1000;omega) (λh=>absurd hg0 h) zB;rw[hg0]at v1 v2 c1⊢;unfold zAf at c1;by_cases hr:r=[]
  ·subst hr
   have e:QZ (vL k) 0 p=some a:=by
    unfold QZ;rw[zZ7 (by rw[yBr]at hpl;omega),hnb];rfl
   have e2:YN (vL k) 0 0 ⟨k,p.take 10,a,[]⟩=p:=by
    unfold YN;rw[zSj]
    conv=>rhs;rw[hsp0]
    simp
   rw[e];rw[show((0:Nat):Int)=0 from Z,e2]at v2;rw[show vmF 0 0 ([]:List Int)=true from Z]at v1;have heq:=CN p;clear e2 hsp0 hnb hsp
   show zN 71 [iA k,zD yA p] [] (.tup [yB ⟨k,p.take 10,a,[]⟩,iA 0]) []
   generalize vL k=fx at *;refine eM call71 λF hF=>?_
   (have zc1:=c1;have zc2:=cf;have zc3:=c2;have zc4:=v1;have zc5:=v2;(repeat' (first|refine uL ?_|((first|apply xM|apply wA)<;>intro hc)|(refine zE ?_;first|(refine xC ?_;first|(refine kJ [4,6,7] [0,1,4,5,6,7,93] Z ?_;(conv=>whnf);(try simp only[yA9,yAf]);refine kI tok Z Z Z Z Z Z (xO _ _ (λ_=>rfl)) Z Z Z zB Z ?_)|refine gL tok Z Z Z Z Z Z (xO _ _ (λ_=>rfl)) Z Z Z zB Z Z Z ?_))|fail))<;>clear zc1 zc2 zc3 zc4 zc5)
   exact zJ
  ·have hr0:r.length≠0:=λh=>hr (yBa h)
   have e:QZ (vL k) 0 p=none:=by
    unfold QZ;rw[hnb];split
    ·rfl
    ·show(if(0:Nat)=0 then(if r=[]then some a else none)else _)=none
     rw[zZ8 Z,zZ7 hr]
   rw[e];rw[show vmF 0 0 r=false from yAh (λh=>hr0 h.1)]at v1;clear v2 hsp0 hnb hsp
   show zN 71 [iA k,zD yA p] [] (.tup [yB ⟨0,[],[],[]⟩,iA 6]) []
   generalize vL k=fx at *;refine eM call71 λF hF=>?_
   (have zc1:=c1;have zc2:=cf;have zc3:=c2;have zc4:=v1;(repeat' (first|refine uL ?_|((first|apply xM|apply wA)<;>intro hc)|(refine zE ?_;first|(refine xC ?_;first|(refine kJ [4,6,7] [0,1,4,5,6,7,93] Z ?_;(conv=>whnf);(try simp only[yA9,yAf]);refine kI tok Z Z Z Z Z Z (xO _ _ (λ_=>rfl)) Z Z Z zB Z ?_)|refine gL tok Z Z Z Z Z Z (xO _ _ (λ_=>rfl)) Z Z Z zB Z Z Z ?_))|fail))<;>clear zc1 zc2 zc3 zc4)
   exact zJ
 have hg4:xU k<=4:=by omega
 have c3:=YQ r 1 hbr hrl zB;unfold zAf at c1;rw[zZ7 zB,zZ7 zB]at c1
 cases hnc:aU 1 r with
 | none=>
  have e:QZ (vL k) (xU k) p=none:=by
   unfold QZ;rw[hnb];split
   ·rfl
   ·show(if xU k=0 then _ else match aU 1 r with|none=>none|some (c,r2)=>_)=none
    rw[zZ7 zB,hnc]
  rw[e];rw[hnc]at c3;unfold nbT at c3
  show zN 71 [iA k,zD yA p] [] (.tup [yB ⟨0,[],[],[]⟩,iA 6]) []
  clear hsp0 hnb hsp hnc e;generalize vL k=fx at *;generalize xU k=gr at *;refine eM call71 λF hF=>?_
  (have zc1:=c1;have zc2:=cf;have zc3:=c2;have zc4:=c3;(repeat' (first|refine uL ?_|((first|apply xM|apply wA)<;>intro hc)|(refine zE ?_;first|(refine xC ?_;first|(refine kJ [4,6,7] [0,1,4,5,6,7,93] Z ?_;(conv=>whnf);(try simp only[yA9,yAf]);refine kI tok Z Z Z Z Z Z (xO _ _ (λ_=>rfl)) Z Z Z zB Z ?_)|refine gL tok Z Z Z Z Z Z (xO _ _ (λ_=>rfl)) Z Z Z zB Z Z Z ?_))|fail))<;>clear zc1 zc2 zc3 zc4)
  exact zJ
 |some q2=>
 obtain⟨c,r2⟩:=q2;obtain⟨hc1,hbr2,hcr,hsp2⟩:=dE _ _ _ _ hbr hnc
 obtain⟨v,rfl⟩:∃v,c=[v]:=by
  cases c with
  |nil=>cases hc1
  |cons v c=>cases c with
   |nil=>exact⟨v,rfl⟩
   |cons w c=>simp at hc1
 have hv0:=(hcr v zU).1
 have hrl2:r2.length<=100000:=by
  have:=yA6 List.length hsp2;rw[yAd]at this;omega
 rw[hnc]at c3;unfold nbT at c3
 have eD:¬(200<p.length∨p.length<10)->QZ (vL k) (xU k) p=if v<1∨3<v then none else match aU (v.toNat*xU k) r2 with
   |none=>none
   |some (f,r3)=>if r3=[]then some (a++f)else none:=λh=>by
  unfold QZ;rw[zZ7 h,hnb]
  show(if xU k=0 then _ else match aU 1 r with|none=>none|some (c,r2)=>_)=_
  rw[zZ7 zB,hnc];rfl
 by_cases hv3:3<v
 ·have e:QZ (vL k) (xU k) p=none:=by
   by_cases h:200<p.length∨p.length<10
   ·exact zZ8 h
   ·rw[eD h,zZ8 (.inr hv3)]
  rw[e]
  show zN 71 [iA k,zD yA p] [] (.tup [yB ⟨0,[],[],[]⟩,iA 6]) []
  clear hsp0 hnb hsp hnc e eD hsp2;generalize vL k=fx at *;generalize xU k=gr at *;refine eM call71 λF hF=>?_
  (have zc1:=c1;have zc2:=cf;have zc3:=c2;have zc4:=c3;(repeat' (first|refine uL ?_|((first|apply xM|apply wA)<;>intro hc)|(refine zE ?_;first|(refine xC ?_;first|(refine kJ [4,6,7] [0,1,4,5,6,7,93] Z ?_;(conv=>whnf);(try simp only[yA9,yAf]);refine kI tok Z Z Z Z Z Z (xO _ _ (λ_=>rfl)) Z Z Z zB Z ?_)|refine gL tok Z Z Z Z Z Z (xO _ _ (λ_=>rfl)) Z Z Z zB Z Z Z ?_))|fail))<;>clear zc1 zc2 zc3 zc4)
  exact zJ
 have hvg:v.toNat*xU k<=12:=yBm (yC9 (show v.toNat<=3 by omega) hg4) xG;have evg:((v.toNat*xU k:Nat):Int)=v*(xU k:Int):=by rw[yF5,yEh zB]
 have c4:=YQ r2 (v.toNat*xU k) hbr2 hrl2 zB;have hm:0<=v*(xU k:Int)/\v*(xU k:Int)<=12:=by rw[<-evg];omega
 cases hnd:aU (v.toNat*xU k) r2 with
 | none=>
  have e:QZ (vL k) (xU k) p=none:=by
   by_cases h:200<p.length∨p.length<10
   ·exact zZ8 h
   ·rw[eD h,hnd]
    split<;>rfl
  rw[e];rw[hnd,evg]at c4;unfold nbT at c4
  show zN 71 [iA k,zD yA p] [] (.tup [yB ⟨0,[],[],[]⟩,iA 6]) []
  clear hsp0 hnb hsp hnc e eD hsp2 hnd evg hvg;generalize vL k=fx at *;generalize xU k=gr at *;refine eM call71 λF hF=>?_
  (have zc1:=c1;have zc2:=cf;have zc3:=c2;have zc4:=c3;have zc5:=c4;(repeat' (first|refine uL ?_|((first|apply xM|apply wA)<;>intro hc)|(refine zE ?_;first|(refine xC ?_;first|(refine kJ [4,6,7] [0,1,4,5,6,7,93] Z ?_;(conv=>whnf);(try simp only[yA9,yAf]);refine kI tok Z Z Z Z Z Z (xO _ _ (λ_=>rfl)) Z Z Z zB Z ?_)|refine gL tok Z Z Z Z Z Z (xO _ _ (λ_=>rfl)) Z Z Z zB Z Z Z ?_))|fail))<;>clear zc1 zc2 zc3 zc4 zc5)
  exact zJ
 |some q3=>
 obtain⟨f,r3⟩:=q3;obtain⟨hfl3,hbr3,hfr,hsp3⟩:=dE _ _ _ _ hbr2 hnd;have hlf:=zA iA f;have hf12:f.length<=12:=by omega
 have hlr3:=zA yA r3
 have hrl3:r3.length<=100000:=by
  have:=yA6 List.length hsp3;rw[yAd]at this;omega
 rw[hnd,evg]at c4;unfold nbT at c4;have hal:(a++f).length=vL k+v.toNat*xU k:=by rw[yAd,ha,hfl3]
 have har2:∀x∈a++f,0<=x/\x<=4294967295:=λx hx=>by
  rcases yAw.1 hx with h|h
  ·exact har x h
  ·exact hfr x h
 have v1:=PB k h0 h1 ⟨k,p.take 10,a++f,r3⟩ v.toNat Z CF hrl3 har2 hal zB;have v2:=aT k h0 h1 ⟨k,p.take 10,a++f,r3⟩ v.toNat Z CF hrl3 har2 (by show(a++f).length<=1000;omega) (λ_=>hal) zB
 have hms:∀t:List Int,yB ⟨k,t,a++f,r3⟩= .agg [iA k,zD yA t,.sl false (a.map iA++f.map iA),zD yA r3]:=λt=>by
  rw[<-yAi];rfl
 rw[hms]at v1 v2;by_cases hok:r3=[]/\1<=v
 ·obtain⟨rfl,hv1⟩:=hok;have hff:=PC f;have hev:gV v=[v]:=UP zB
  have hr2:r=[v]++(f.map gV).flatten:=by
   rw[hsp2,hsp3,yBc];simp[hev]
  have hfn:f≠[]:=λh=>by
   rw[h]at hfl3;have:0<v.toNat*xU k:=Nat.mul_pos zB hg0;simp at hfl3;omega
  have e2:YN (vL k) (xU k) (v.toNat:Int) ⟨k,p.take 10,a++f,[]⟩=p:=by
   unfold YN;rw[zZ7 (λh=>by have:=h.2;rw[hal]at this;have h3:0<v.toNat*xU k:=Nat.mul_pos zB hg0;omega)]
   show(p.take 10++RK (vL k) (xU k) (v.toNat:Int) 0 (a++f))++([]++[])=p
   rw[zC1 _ _ _ zB f hfn a 0 zB,yEh hv0,yBc,yBc,<-hr2];exact hsp0.symm
  have hp200:¬(200<p.length∨p.length<10):=by
   have:=yA6 List.length hr2;rw[yAd,yC3]at this;omega
  have e:QZ (vL k) (xU k) p=some (a++f):=by
   rw[eD hp200,zZ7 zB,hnd];rfl
  rw[e];rw[e2]at v2;rw[show vmF (xU k) v.toNat ([]:List Int)=true from yAe ⟨rfl,.inr zB⟩]at v1;have heq:=CN p
  show zN 71 [iA k,zD yA p] [] (.tup [yB ⟨k,p.take 10,a++f,[]⟩,iA 0]) []
  rw[hms];clear hsp0 hnb hsp hnc e eD hsp2 hnd evg hvg e2 hr2 hev hms hal hfl3 hsp3;generalize vL k=fx at *;generalize xU k=gr at *;refine eM call71 λF hF=>?_
  (have zc1:=c1;have zc2:=cf;have zc3:=c2;have zc4:=c3;have zc5:=c4;have zc6:=v1;have zc7:=v2;(repeat' (first|refine uL ?_|((first|apply xM|apply wA)<;>intro hc)|(refine zE ?_;first|(refine xC ?_;first|(refine kJ [4,6,7] [0,1,4,5,6,7,93] Z ?_;(conv=>whnf);(try simp only[yA9,yAf]);refine kI tok Z Z Z Z Z Z (xO _ _ (λ_=>rfl)) Z Z Z zB Z ?_)|refine gL tok Z Z Z Z Z Z (xO _ _ (λ_=>rfl)) Z Z Z zB Z Z Z ?_))|fail))<;>clear zc1 zc2 zc3 zc4 zc5 zc6 zc7)
  exact zJ
 ·have e:QZ (vL k) (xU k) p=none:=by
   by_cases h:200<p.length∨p.length<10
   ·exact zZ8 h
   ·rw[eD h];by_cases hv1:v<1
    ·rw[zZ8 (.inl hv1)]
    ·rw[zZ7 zB,hnd];exact zZ7 λh3=>hok ⟨h3,zB⟩
  rw[e]
  rw[show vmF (xU k) v.toNat r3=false from yAh (λh=>by
   rcases h with⟨h3,h4⟩
   exact hok ⟨yBa h3,zB⟩)]at v1
  show zN 71 [iA k,zD yA p] [] (.tup [yB ⟨0,[],[],[]⟩,iA 6]) []
  clear hsp0 hnb hsp hnc e eD hsp2 hnd evg hvg hms hal hfl3 hsp3 v2;generalize vL k=fx at *;generalize xU k=gr at *;refine eM call71 λF hF=>?_
  (have zc1:=c1;have zc2:=cf;have zc3:=c2;have zc4:=c3;have zc5:=c4;have zc6:=v1;(repeat' (first|refine uL ?_|((first|apply xM|apply wA)<;>intro hc)|(refine zE ?_;first|(refine xC ?_;first|(refine kJ [4,6,7] [0,1,4,5,6,7,93] Z ?_;(conv=>whnf);(try simp only[yA9,yAf]);refine kI tok Z Z Z Z Z Z (xO _ _ (λ_=>rfl)) Z Z Z zB Z ?_)|refine gL tok Z Z Z Z Z Z (xO _ _ (λ_=>rfl)) Z Z Z zB Z Z Z ?_))|fail))<;>clear zc1 zc2 zc3 zc4 zc5 zc6)
  exact zJ
def zEt (l:List Rq) (q:Int) (hv:bJ l) (hq:¬(l.length:Int)<=q):zN 246 [zD yG l,iA q] [] (bA false) []:=by
 have hl:=zA yG l;have h4:=hv.n4;refine eM call246 λF hF=>?_
 refine WW ?_;exact zJ
def zEu (l:List Rq) (q id:Int) (v:Vh) (life:Int) (x:List Lg) (now:Int) (hv:bJ l) (hq:¬(l.length:Int)<=q):
  zN 245 [zD yG l,iA q,iA id,vZ v,iA life,zD xP x,iA now] [] (.tup [zD yG [],iA 1]) []:=by
 have c1:=zEt l q hv hq;refine eM call245 λF hF=>?_
 refine zV c1 ?_;exact zJ
def PD {l:List Rq} {r x:Rq}:x∈bC l r->x=r∨x∈l:=λh=>by
 unfold bC at h
 rcases yAw.1 h with h|h
 ·exact .inr (yCc h)
 ·rcases yBd.1 h with h|h
  ·exact .inl h
  ·exact .inr (yBs h)
def zU2 {l:List Rq} {q id life now:Int} {v:Vh} {x:List Lg} (hv:bJ l) (he:suE l q id life x=0) (v0:0<=v.id) (v1:v.id<=4294967295) (w0:0<=v.cls) (w1:v.cls<=3) (n0:0<=now) (n1:now<=1073741824):bJ (bC l (cK id v life x now)):=by
 have h1:0<=id/\id<=4294967295/\1<=life/\life<=600/\NW x=true:=by
  by_cases h:0<=id/\id<=4294967295/\1<=life/\life<=600/\NW x=true
  ·exact h
  ·rw[suE,zZ8 h]at he;cases he
 rw[suE,zZ7 (λh=>h h1)]at he
 have hh:jQ l id=false:=by
  cases h:jQ l id with
  |false=>rfl
  |true=>rw[zZ8 h]at he;cases he
 rw[zZ7 (by rw[hh];decide)]at he;have hq:¬(q<=l.length∨4<=(l.length:Int)):=λh=>by rw[zZ8 h]at he;cases he
 have hno:∀r∈l,r.id≠id:=by simpa [jQ]using hh
 have hle:=IK l id;refine⟨λr hr=>?_,?_,?_⟩
 ·rcases PD hr with rfl|hr
  ·exact⟨h1.1,h1.2.1,v0,v1,w0,w1,by show 0<=now+life;omega,by show now+life<=2147483648;omega,h1.2.2.2.2⟩
  ·exact hv.ok r hr
 ·have hs:=hv.so;unfold bC
  show((l.take (TP l id))++cK id v life x now::l.drop (TP l id)).Pairwise _
  rw[yEa,yEm];have hs2:=hs;rw[<-yDq (TP l id) l,yEa]at hs2
  have hlo:∀y∈l.take (TP l id),y.id<id:=λy hy=>by
   obtain⟨i,hi,rfl⟩:=yDe.1 hy;rw[yA3]at hi;have:=zK6 (l:=l) (id:=id) (i:=i) zB;rw[List.getElem_take];simpa [List.getD,show i<l.length by omega]using this
  have hhi:∀y∈l.drop (TP l id),id<y.id:=λy hy=>by
   have hne:=hno y (yBs hy);by_cases hk:TP l id<l.length
   ·have h2:=zK7 hk;rw[yCr hk]at hy;have e:l.getD (TP l id) default=l[TP l id]:=by simp[List.getD,hk]
    rw[e]at h2
    rcases yBd.1 hy with rfl|hy
    ·omega
    ·have hs3:=hs2.2.1;rw[yCr hk,yEm]at hs3;have:=hs3.1 y hy;omega
   ·rw[yDz zB]at hy;cases hy
  refine⟨hs2.1,⟨hhi,hs2.2.1⟩,λa ha b hb=>?_⟩
  rcases yBd.1 hb with rfl|hb
  ·exact hlo a ha
  ·have:=hlo a ha;have:=hhi b hb;omega
 ·unfold bC;rw[yAd,yAl,yA3,yBh]
  show min (TP l id) l.length+(l.length-TP l id+1)<=4
  omega
def zU3 {now:Int} {g:Lg} {p:Int×Int} (hg:NG g=true) (h:okW now g p=true):NG (nwL now g p)=true:=by
 unfold NG at hg;unfold okW mwB at h;rw[yAc]at hg h;unfold NG nwL;rw[yAc];dsimp only;omega
theorem zC2 {now:Int}:∀(gs:List Lg) (w:List (Int×Int)) (pre pre':List Lg),pre'.map (·.jn)=pre.map (·.jn)->w.length=gs.length->(gs.zipWith (okW now) w).all id=true->jR pre gs=true->jR pre' (gs.zipWith (nwL now) w)=true
 | [],w,pre,pre',_,_,_,_=>by cases w<;>rfl
 |g::gs,[],pre,pre',_,hl,_,_=>by simp at hl
 |g::gs,p::w,pre,pre',hp,hl,ha,h=>by
  rw[yDl,yFx,yAk]at ha;rw[jR,yAk,yAk]at h;obtain⟨h1,h2,h3⟩:=h;rw[yDl,jR,yAk,yAk];refine⟨zU3 h1 ha.1,?_,zC2 gs w (pre++[g]) (pre'++[nwL now g p]) (by rw[yAi,yAi,hp];rfl) CG ha.2 h3⟩;have e:∀l:List Lg,(l.any λy=>y.jn==g.jn)=(l.map (·.jn)).any (· ==g.jn):=λl=>by rw[List.any_map];rfl
  show(!(pre'.any λy=>y.jn==g.jn))=true
  rw[e,hp,<-e];exact h2
def zU4 {l:List Rq} {id now:Int} {w:List (Int×Int)} (hv:bJ l) (he:cI l id w now=0):bJ (NQ l id w now):=by
 have hh:jQ l id=true:=by
  cases h:jQ l id with
  |true=>rfl
  |false=>rw[cI,zZ7 (by rw[h];decide)]at he;cases he
 obtain⟨pre,x,post,hL,hx,_,hf,_⟩:=LD hh;rw[cI,zZ8 hh,hf]at he
 have hw:w.length=x.legs.length/\ET x.legs w now=true:=by
  by_cases h:w.length=x.legs.length/\ET x.legs w now=true
  ·exact h
  ·rw[zZ7 h]at he;cases he
 have hxo:=hv.ok x (by rw[hL];simp);rw[zC5 hL hv hx];have hs:=hv.so;have h4:=hv.n4;rw[hL]at hs h4;rw[yEa,yEm]at hs;refine⟨λr hr=>?_,?_,by simpa using h4⟩
 ·rw[yAw,yBd]at hr
  rcases hr with hr|rfl|hr
  ·exact hv.ok r (by rw[hL];simp[hr])
  ·refine⟨hxo.i0,hxo.i1,hxo.v0,hxo.v1,hxo.c0,hxo.c1,hxo.t0,hxo.t1,?_⟩;have h1:=IN hxo.lg
   have h2:jR [] x.legs=true:=by
    have:=hxo.lg;rw[NW,yAk]at this;exact this.2
   unfold NW;rw[yAk];exact⟨yAe (by rw[yEi];omega),zC2 x.legs w [] [] Z hw.1 hw.2 h2⟩
  ·exact hv.ok r (by rw[hL];simp[hr])
 ·rw[yEa,yEm];refine⟨hs.1,⟨hs.2.1.1,hs.2.1.2⟩,λa ha b hb=>?_⟩
  rcases yBd.1 hb with rfl|hb
  ·exact hs.2.2 a ha x zU
  ·exact hs.2.2 a ha b (by simp[hb])
end Av
end Go.Proofs.YteajjdidebfcjaaGreat
