/- Part 16. -/
import Derived.Test.YteajjdidebfcjaaGreatN15
namespace Go.Proofs.YteajjdidebfcjaaGreat
namespace Av
open Tryz
set_option linter.all false
set_option maxRecDepth 4000
set_option maxHeartbeats 2000000
def DM (b:List Int) (n:Nat) (l r:List Int) (hb:BY b) (hbn:b.length<=100000) (hn:n<=1000) (hok:ZN n b=some (l,r)):zO 104 [zD yA b,iA n] [] (.tup [.ref 1001 0 (l.map iA).length,zD yA r,bA true]) [(1001,.arr 1 (l.map iA) true)]:=by
 refine eM call104 λF hF=>?_
 (repeat' (first|refine uC ?_|((first|apply xE|apply xV)<;>intro hc)|(refine zE ?_;first|(refine hH ?_;refine dD 1001 tok Z Z Z Z Z Z Z Z Z Z Z Z Z zB zB Z Z Z ?_))|fail))
 refine uK 1001 Z ?_;refine xR (n) [1001] [] [13] [0,7,14,13] Z (λi T U zs=>∃acc c,(acc.length=i/\BY c/\c.length<=100000/\ZN n b=nbG acc (ZN (n-i) c))/\zs=⟨(0,zD yA c)::(7,.ref 1001 0 (acc.map iA).length)::(14,iA i)::T,(1001,.arr 1 (acc.map iA) true)::U⟩) ?_;(conv=>whnf);refine⟨?_,?_,?_⟩
 ·exact⟨[],b,⟨rfl,hb,hbn,by rw[IQ];rfl⟩,rfl⟩
 ·rintro i st hi ⟨acc,c,⟨q0,q1,q2,q3⟩,rfl⟩;have hd:=zY5 c q1 q2;have hl:=zA yA c;have hla:=zA iA acc;rw[show n-i=(n-(i+1))+1 by omega]at q3
  rcases IP c q1 with h|⟨h1,h2,h3,h4,h5⟩
  ·rw[zA3 (by rw[h];decide),hok]at q3;cases q3
  ·rw[zA4 h1]at q3;rw[h1]at hd;have hbd:BY (c.drop (dW c).2.1.toNat):=λy hy=>q1 y (yCt hy)
   have hcd:(c.drop (dW c).2.1.toNat).length<=100000:=by rw[yCj];omega
   clear h1;generalize (dW c).1=v at *;generalize (dW c).2.1=k at *;refine zW hd ?_;refine⟨acc++[v],c.drop k.toNat,⟨by simp[q0],hbd,hcd,q3⟩,?_⟩;rw[yBn];rfl
 ·rintro st ⟨acc,c,⟨q0,q1,q2,q3⟩,rfl⟩;rw[yDh,hok]at q3;have e:(l,r)=(acc++[],c):=yDy q3;rw[yCd]at e;cases e;refine WW ?_;exact zK [1001] rfl rfl rfl rfl
def vL (k:Int):Nat:=if k=2∨k=6 then 3 else if k=4 then 2 else if k=1∨k=9∨k=12 then 0 else 1
def xW (k:Int):Nat:=if k=6 then 4 else if k=7 then 2 else 0
def shA (fx gr:Nat):AV:= .agg [iA 10,iA fx,iA gr,iA (if gr=0 then 0 else 1),iA (if gr=0 then 0 else 3),iA 0]
def zFk (k:Int) (h0:1<=k) (h1:k<=12):zO 103 [iA k] [] (.tup [shA (vL k) (xW k),bA true]) []:=by
 obtain rfl|rfl|rfl|rfl|rfl|rfl|rfl|rfl|rfl|rfl|rfl|rfl:k=1∨k=2∨k=3∨k=4∨k=5∨k=6∨k=7∨k=8∨k=9∨k=10∨k=11∨k=12:=by omega
 all_goals (refine eM call103 λF hF=>?_)
 all_goals (refine WW ?_)
 all_goals exact zJ
def PP (fx gr:Nat) (p:List Int):Option (List Int):=
 if 200<p.length∨p.length<10 then none else match ZN fx (p.drop 10)with
 |none=>none
 | some (a,r)=>if gr=0 then(if r=[]then some a else none)else match ZN 1 r with
  |none=>none
  |some (c,r2)=>if c.getD 0 0<1∨3<c.getD 0 0 then none else match ZN ((c.getD 0 0).toNat*gr) r2 with
   |none=>none
   |some (f,r3)=>if r3=[]then some (a++f)else none
def deT (k:Int) (tok:List Int):Option (List Int)->AV
 |none=> .tup [yB ⟨0,[],[],[]⟩,iA 6]
 |some a=> .tup [yB ⟨k,tok,a,[]⟩,iA 0]
theorem zKi (k:Int) (h0:1<=k) (h1:k<=12) (p:List Int) (hb:BY p) (hn:p.length<=100000):zO 69 [iA k,zD yA p] [] (deT k (p.take 10) (PP (vL k) (xW k) p)) []:=by
 have hl:=zA yA p;have c1:=zFk k h0 h1
 have hf:vL k<=3:=by
  unfold vL
  repeat' split
  all_goals omega
 have hg:xW k=0∨(2<=xW k/\xW k<=4):=by
  unfold xW
  repeat' split
  all_goals omega
 generalize vL k=fx at *;generalize xW k=gr at *;unfold shA at c1;by_cases hlen:200<p.length∨p.length<10
 ·rw[show PP fx gr p=none from yBd hlen]
  show zO 69 [iA k,zD yA p] [] (.tup [yB ⟨0,[],[],[]⟩,iA 6]) []
  by_cases h2:200<p.length
  ·(refine eM call69 λF hF=>?_)
   refine zW c1 ?_;exact zJ
  ·have h3:=hlen.resolve_left h2;refine eM call69 λF hF=>?_
   refine zW c1 ?_;exact zJ
 have e0:PP fx gr p=_:=yBc hlen;rw[e0];clear e0;have hbd:BY (p.drop 10):=λy hy=>hb y (yCt hy)
 have hdl:(p.drop 10).length<=100000:=by rw[yCj];omega
 have c2:=TC (p.drop 10) fx hbd hdl zB
 cases hnb:ZN fx (p.drop 10)with
 |none=>
  rw[hnb]at c2
  show zO 69 [iA k,zD yA p] [] (.tup [yB ⟨0,[],[],[]⟩,iA 6]) []
  unfold nbT at c2;refine eM call69 λF hF=>?_
  refine yS (vH c1 c2) ?_;exact zJ
 |some q=>
 obtain⟨a,r⟩:=q;obtain⟨ha,hbr,har,hsp⟩:=dX _ _ _ _ hbd hnb
 have hrl:r.length<=100000:=by
  have:=yB8 List.length hsp;rw[yBf]at this;omega
 have hlr:=zA yA r;have hla:=zA iA a;have k1:=wX (p.take 10) BK
 rcases hg with rfl|⟨g2,g4⟩
 ·rw[hnb]at c2;unfold nbT at c2;dsimp only;rw[yBd Z];by_cases hr:r=[]
  ·subst hr;have k2:=wX [] zQ;rw[yBd Z]
   show zO 69 [iA k,zD yA p] [] (.tup [yB ⟨k,p.take 10,a,[]⟩,iA 0]) []
   refine eM call69 λF hF=>?_
   refine yS (bY c1 c2 k1 k2) ?_;exact zJ
  ·have hr0:r.length≠0:=λh=>hr (yCb h)
   rw[yBc hr]
   show zO 69 [iA k,zD yA p] [] (.tup [yB ⟨0,[],[],[]⟩,iA 6]) []
   refine eM call69 λF hF=>?_
   refine yS (vH c1 c2) ?_;exact zJ
 have c2o:=DM (p.drop 10) fx a r hbd hdl zB hnb;have c3:=TC r 1 hbr hrl zB;clear c2;dsimp only;rw[yBc zB]
 cases hnc:ZN 1 r with
 |none=>
  rw[hnc]at c3;unfold nbT at c3
  show zO 69 [iA k,zD yA p] [] (.tup [yB ⟨0,[],[],[]⟩,iA 6]) []
  refine eM call69 λF hF=>?_
  refine yS (gW c1 c2o c3) ?_;exact zJ
 |some q2=>
 obtain⟨c,r2⟩:=q2;obtain⟨hc1,hbr2,hcr,hsp2⟩:=dX _ _ _ _ hbr hnc
 obtain⟨v,rfl⟩:∃v,c=[v]:=by
  cases c with
  |nil=>cases hc1
  |cons v c=>cases c with
   |nil=>exact⟨v,rfl⟩
   |cons w c=>simp at hc1
 have hrl2:r2.length<=100000:=by
  have:=yB8 List.length hsp2;rw[yBf]at this;omega
 rw[hnc]at c3;unfold nbT at c3;dsimp only;rw[show [v].getD 0 0=v from Z];by_cases hv:v<1∨3<v
 ·rw[yBd hv]
  show zO 69 [iA k,zD yA p] [] (.tup [yB ⟨0,[],[],[]⟩,iA 6]) []
  by_cases hv1:v<1
  ·(refine eM call69 λF hF=>?_)
   refine yS (gW c1 c2o c3) ?_;exact zJ
  ·have hv2:=hv.resolve_left hv1;refine eM call69 λF hF=>?_
   refine yS (gW c1 c2o c3) ?_;exact zJ
 rw[yBc hv];have hvg:v.toNat*gr<=12:=yCp (yEc (show v.toNat<=3 by omega) g4) xO;have evg:((v.toNat*gr:Nat):Int)=v*(gr:Int):=by rw[yHc,yFr zB]
 have c4:=TC r2 (v.toNat*gr) hbr2 hrl2 zB;rw[evg]at c4;have hm:0<=v*(gr:Int)/\v*(gr:Int)<=12:=by rw[<-evg];omega
 clear evg
 cases hnd:ZN (v.toNat*gr) r2 with
 |none=>
  rw[hnd]at c4;unfold nbT at c4
  show zO 69 [iA k,zD yA p] [] (.tup [yB ⟨0,[],[],[]⟩,iA 6]) []
  refine eM call69 λF hF=>?_
  refine yS (bY c1 c2o c3 c4) ?_;exact zJ
 |some q3=>
 obtain⟨f,r3⟩:=q3;obtain⟨hfl,hbr3,hfr,hsp3⟩:=dX _ _ _ _ hbr2 hnd;have hlf:=zA iA f;have hlr3:=zA yA r3;rw[hnd]at c4;unfold nbT at c4;dsimp only;by_cases hr:r3=[]
 ·subst hr;have k2:=wX [] zQ;rw[yBd Z]
  show zO 69 [iA k,zD yA p] [] (.tup [yB ⟨k,p.take 10,a++f,[]⟩,iA 0]) []
  refine eM call69 λF hF=>?_
  refine yS (zt6 c1 c2o c3 c4 k1 k2) ?_;refine zH [] Z Z ?_ Z
  show AV.tup [.agg [iA k,zD yA (p.take 10),.sl false ((a.map iA++f.map iA).take (a.map iA++f.map iA).length),zD yA []],iA 0]=_
  rw[yBj,<-yBn];rfl
 ·have hr0:r3.length≠0:=λh=>hr (yCb h)
  rw[yBc hr]
  show zO 69 [iA k,zD yA p] [] (.tup [yB ⟨0,[],[],[]⟩,iA 6]) []
  refine eM call69 λF hF=>?_
  refine yS (bY c1 c2o c3 c4) ?_;exact zJ
def zAw (fx gr:Nat):AV:= .agg [iA fx,iA gr,iA (if gr=0 then 0 else 1),iA (if gr=0 then 0 else 3),iA 0]
def zAx (k:Int) (h0:1<=k) (h1:k<=12):zO 106 [iA k] [] (zAw (vL k) (xW k)) []:=by
 obtain rfl|rfl|rfl|rfl|rfl|rfl|rfl|rfl|rfl|rfl|rfl|rfl:k=1∨k=2∨k=3∨k=4∨k=5∨k=6∨k=7∨k=8∨k=9∨k=10∨k=11∨k=12:=by omega
 all_goals (refine eM call106 λF hF=>?_)
 all_goals (refine WW ?_)
 all_goals exact zJ
def QB (fx gr:Nat) (c:Int):Nat->List Int->List Int
 |_,[]=>[]
 |i,x::r=>(if i=fx/\gr≠0 then [c]else [])++(fL x++QB fx gr c (i+1) r)
def YZ (fx gr:Nat) (c:Int) (m:Ms):List Int:=(m.tok++QB fx gr c 0 m.args)++((if gr≠0/\m.args.length=fx then [0]else [])++m.data)
theorem zDm:∀(f:Nat) (n:Int),1<=(enR f n).length/\(enR f n).length<=f+1
 |0,n=>by simp[enR]
 |f+1,n=>by
  have:=zDm f (n/128);rw[enR];split
  ·simp
  ·rw[yBp];omega
def jV (n:Int):1<=(fL n).length/\(fL n).length<=5:=zDm 4 n
theorem ZL (k:Int) (h0:1<=k) (h1:k<=12) (m:Ms) (c:Nat) (hk:m.kind=k) (ht:m.tok.length=10) (hd:m.data.length<=100000) (ha:∀x∈m.args,0<=x/\x<=4294967295) (hn:m.args.length<=1000) (hc:xW k≠0->m.args.length=vL k+c*xW k) (hc3:c<=3):
  zO 99 [yB m] [] (zD yA (YZ (vL k) (xW k) c m)) []:=by
 subst hk;have c1:=zAx m.kind h0 h1
 have hg:xW m.kind<=4:=by
  unfold xW
  repeat' split
  all_goals omega
 generalize vL m.kind=fx at *;generalize xW m.kind=gr at *;unfold zAw at c1;have hlt:=zA yA m.tok;have hla:=zA iA m.args;have hld:=zA yA m.data;unfold YZ;generalize hT:m.tok++QB fx gr c 0 m.args=tot;refine eM call99 λF hF=>?_
 (have zc1:=c1;(repeat' (first|refine uC ?_|((first|apply xE|apply xV)<;>intro hc)|(refine zE ?_;first|(refine yM ?_;refine gQ 1001 tok Z Z Z Z Z Z (yV _ _ (λ_=>rfl)) Z Z Z zB Z Z Z ?_))|fail))<;>clear zc1)
 refine uK 1001 Z ?_;refine kF (m.args) [1001,1,3] [1,3] [1,3,16,17] [4,18,1,3,16,17] Z (λi pre T U zs=>∃acc:List Int,(acc.length<=10+6*i/\∀post,m.args=pre++post->acc++QB fx gr c i post=tot)/\zs=⟨(4,.ref 1001 0 (acc.map yA).length)::(18,iA i)::T,(1001,.arr 1 (acc.map yA) true)::U⟩) ?_;(conv=>whnf);refine⟨?_,?_,?_⟩
 ·exact⟨m.tok,⟨zB,λpost h=>by rw[<-hT,h];rfl⟩,rfl⟩
 ·rintro i pre x post st hx hi ⟨acc,⟨q0,q1⟩,rfl⟩;have hy:=xL iA hx hi;have hlt2:=yQ hx hi;have hxr:=ha x (wZ hx);have hla2:=zA yA acc;have he:=jV x;have c2:=zY6 x hxr.1 hxr.2;have hle:=zA yA (fL x)
  have hpost:∀p,m.args=pre++[x]++p->p=post:=λp h=>by
   rw[hx,yCa]at h;simpa using h.symm
  have hT3:=q1 _ hx;clear q1 hT hx;by_cases hi2:i=fx/\gr≠0
  ·obtain⟨rfl,hg0⟩:=hi2;have hcl:=hc hg0
   have hq:(((m.args.map iA).length:Int)-(i:Int)).tdiv (gr:Int)=(c:Int):=by
    rw[hla,hcl,show(((i+c*gr:Nat):Int)-(i:Int))=(c:Int)*(gr:Int) by rw[Int.natCast_add,yHc];omega];exact Int.mul_tdiv_cancel _ zB
   have hir:aA .i64 ((((m.args.map iA).length:Int)-(i:Int)).tdiv (gr:Int)):=by rw[hq];exact⟨zB,zB⟩
   have e:QB i gr c i (x::post)=[(c:Int)]++(fL x++QB i gr c (i+1) post):=by rw[QB,yBd ⟨rfl,hg0⟩]
   rw[e]at hT3;clear e hcl hc;generalize fL x=ex at *;refine yS (vH c1 c2) ?_;refine⟨acc++[(c:Int)]++ex,⟨by simp;omega,λp h=>by rw[hpost p h,<-hT3];simp⟩,?_⟩;rw[yBn,yBn,<-hq];rfl
  ·have e:QB fx gr c i (x::post)=fL x++QB fx gr c (i+1) post:=by rw[QB,yBc hi2];rfl
   rw[e]at hT3;clear e hc;generalize fL x=ex at *;by_cases hif:i=fx
   ·have hg0:gr=0:=by
     by_cases h:gr=0
     ·exact h
     ·exact absurd ⟨hif,h⟩ hi2
    refine yS (vH c1 c2) ?_;refine⟨acc++ex,⟨by simp;omega,λp h=>by rw[hpost p h,<-hT3];simp⟩,?_⟩;rw[yBn];rfl
   ·(refine yS (vH c1 c2) ?_)
    refine⟨acc++ex,⟨by simp;omega,λp h=>by rw[hpost p h,<-hT3];simp⟩,?_⟩;rw[yBn];rfl
 ·rintro st ⟨acc,⟨q0,q1⟩,rfl⟩;have e:=q1 [] zQ;rw[show QB fx gr c m.args.length []=[]from rfl,yCd]at e;subst e;have hla2:=zA yA acc;clear q1 hT hc;by_cases hz:gr≠0/\m.args.length=fx
  ·rw[yBd hz];obtain⟨hz1,hz2⟩:=hz;refine WW ?_;refine zH [] Z Z ?_ Z
   show AV.sl false ((acc.map yA++[yA 0]++m.data.map yA).take (acc.map yA++[yA 0]++m.data.map yA).length)=_
   rw[yBj];unfold zD;rw[yBn,yBn,yCa];rfl
  ·rw[yBc hz];by_cases hz1:gr=0
   ·(refine WW ?_)
    refine zH [] Z Z ?_ Z
    show AV.sl false ((acc.map yA++m.data.map yA).take (acc.map yA++m.data.map yA).length)=_
    rw[yBj];unfold zD;rw[yBn];rfl
   ·have hz2:m.args.length≠fx:=λh=>hz ⟨hz1,h⟩
    refine WW ?_;refine zH [] Z Z ?_ Z
    show AV.sl false ((acc.map yA++m.data.map yA).take (acc.map yA++m.data.map yA).length)=_
    rw[yBj];unfold zD;rw[yBn];rfl
def prA (p:Int×Int):AV:= .agg [iA p.1,iA p.2]
def qC (n:Int):List (Int×Int):=if n=0 then [(0,0),(0,0)]else if n=1 then [(0,0),(1,0),(0,1),(1,1)]else if n=2 then [(0,0),(1,0),(0,0)]
 else if n=3 then [(0,0),(0,0),(1,0),(1,0),(0,1),(0,1),(1,1),(1,1)]else if n=4 then [(1,0),(0,1),(0,2)]else [(0,0)]
def zKj (n:Int):zO 75 [iA n] [] (zD prA (qC n)) []:=by
 by_cases h0:n=0
 ·subst h0;refine eM call75 λF hF=>?_
  (repeat' (first|refine bX ?_|refine xE (λhc=>?_) λhc=>?_|fail))
  exact zJ
 by_cases h1:n=1
 ·subst h1;refine eM call75 λF hF=>?_
  (repeat' (first|refine bX ?_|refine xE (λhc=>?_) λhc=>?_|fail))
  exact zJ
 by_cases h2:n=2
 ·subst h2;refine eM call75 λF hF=>?_
  (repeat' (first|refine bX ?_|refine xE (λhc=>?_) λhc=>?_|fail))
  exact zJ
 by_cases h3:n=3
 ·subst h3;refine eM call75 λF hF=>?_
  (repeat' (first|refine bX ?_|refine xE (λhc=>?_) λhc=>?_|fail))
  exact zJ
 by_cases h4:n=4
 ·subst h4;refine eM call75 λF hF=>?_
  (repeat' (first|refine bX ?_|refine xE (λhc=>?_) λhc=>?_|fail))
  exact zJ
 rw[show qC n=[(0,0)] by simp[qC,h0,h1,h2,h3,h4]];refine eM call75 λF hF=>?_
 (repeat' (first|refine bX ?_|refine xE (λhc=>?_) λhc=>?_|fail))
 exact zJ
instance:Inhabited (Int×Int):=⟨(0,0)⟩
def UJ (d:Dk) (s:Int×Int):Ph:=
 if nx (ad (ad (ad d))) 3=2 then⟨s.1,s.2,1+nx d (3-1+1),max (1+nx d (3-1+1)) (1+nx (ad (ad (ad (ad d)))) (2-1+1)+(1+nx (ad (ad (ad (ad (ad d))))) (2-1+1)))+nx (ad (ad (ad (ad (ad (ad d)))))) 4,1+nx (ad d) (2-1+1),nx (ad (ad d)) 3,1+nx (ad (ad (ad (ad d)))) (2-1+1),1+nx (ad (ad (ad (ad (ad d))))) (2-1+1)⟩
 else⟨s.1,s.2,1+nx d (3-1+1),max (1+nx d (3-1+1)) (0+0)+nx (ad (ad (ad (ad d)))) 4,1+nx (ad d) (2-1+1),nx (ad (ad d)) 3,0,0⟩
def phD (d:Dk):Dk:=if nx (ad (ad (ad d))) 3=2 then ad (ad (ad (ad (ad (ad (ad d))))))else ad (ad (ad (ad (ad d))))
def LR (d:Dk) (l:List (Int×Int)):Nat->List Ph×Dk
 |0=>([],d)
 |i+1=>((LR d l i).1++[UJ (LR d l i).2 (l.getD i default)],phD (LR d l i).2)
theorem VD (d:Dk) (l:List (Int×Int)):∀i,(LR d l i).1.length=i
 |0=>rfl
 |i+1=>by simp[LR,VD d l i]
def cnd (ps:List Ph) (ex:Bool) (i k:Nat):Bool:=i != k&&((ps.getD i default).ring==(ps.getD k default).ring||(ps.getD i default).group != (ps.getD k default).group||ex&&((i:Int)+k).tmod 2==1)
def YB (ps:List Ph) (ex:Bool) (i:Nat):Nat->Int
 |0=>0
 |k+1=>if cnd ps ex i k=true then YB ps ex i k+2 ^ k else YB ps ex i k
theorem QC (ps:List Ph) (ex:Bool) (i:Nat):∀k,0<=YB ps ex i k/\YB ps ex i k<2 ^ k
 |0=>by simp[YB]
 |k+1=>by
  have:=QC ps ex i k;have e:(2:Int) ^ (k+1)=2 ^ k*2:=yG8 2 k;unfold YB
  split<;>omega
def gH (ps:List Ph) (ex:Bool) (n:Nat):List Int:=(List.range n).map λi=>YB ps ex i ps.length
def XA (d:Dk):List Ph×Dk:=LR (ad (ad d)) (qC (nx d 6)) (qC (nx d 6)).length
def jnF (d:Dk):Jn:=⟨(XA d).1,gH (XA d).1 (nx (XA d).2 4==3) (XA d).1.length,nx (ad d) 3⟩
def jnD (d:Dk):Dk:=ad (XA d).2
def PQ (n:Int):1<=(qC n).length/\(qC n).length<=8:=by
 unfold qC
 (repeat' split)<;>simp
def yAu (k:Nat) (h:k<8):IntKind.i64.wrap (1*2 ^ (min ((k:Int)).toNat IntKind.i64.bits))=2 ^ k/\(2:Int) ^ k<=128:=by
 obtain rfl|rfl|rfl|rfl|rfl|rfl|rfl|rfl:k=0∨k=1∨k=2∨k=3∨k=4∨k=5∨k=6∨k=7:=by omega
 all_goals decide
theorem zAy (d:Dk):zO 42 [.ptr 1000 0 0] [(1000,dZ d)] (wE (jnF d)) [(1000,dZ (jnD d))]:=by
 have hb:=yC d 6 zB;have hsl:=PQ (nx d 6);have sc:=zKj (nx d 6);have ej:jnF d=⟨(XA d).1,gH (XA d).1 (nx (XA d).2 4==3) (XA d).1.length,nx (ad d) 3⟩:=rfl;have ed:jnD d=ad (XA d).2:=rfl;have ep:XA d=LR (ad (ad d)) (qC (nx d 6)) (qC (nx d 6)).length:=rfl;rw[ej,ed];generalize XA d=jp at *;generalize qC (nx d 6)=l at *;have hll:(l.map prA).length=l.length:=by simp
 refine eM call42 λF hF=>?_
 (repeat' (first|refine bX ?_|refine xE (λhc=>?_) λhc=>?_|(refine zE ?_;refine wA ?_;(first|(refine uF 75 ?_;first|refine wK (zL (sc) Z Z Z Z Z) Z ?_|refine qA (zL (sc) Z Z Z Z Z) Z Z Z ?_|refine XZ (zL (sc) Z Z Z Z Z) Z Z Z ?_)|(refine uF 15 ?_;first|refine wK (zL (yH _ _ zB zB) Z Z Z Z Z) Z ?_|refine qA (zL (yH _ _ zB zB) Z Z Z Z Z) Z Z Z ?_|refine XZ (zL (yH _ _ zB zB) Z Z Z Z Z) Z Z Z ?_)))|fail))
 refine uI 4 0 1001 8 Z Z Z Z Z ?_
 refine wW (λn st=>∃i:Nat,n+i=l.length/\st=⟨[(0,.ptr 1000 0 0),(2,.ptr 2 0 0),(4,.ptr 4 0 0),(20,zD prA l),(21,iA l.length),(22,iA i)],
   [(1000,dZ (LR (ad (ad d)) l i).2),(2,.box [.s (.slice none 0 0),.s (.slice none 0 0),iA 0]),(4,.box [.ref 1001 0 ((LR (ad (ad d)) l i).1.map wT).length,.s (.slice none 0 0),iA (nx (ad d) 3)]),(1001,.arr 8 ((LR (ad (ad d)) l i).1.map wT) true)]⟩)
  l.length [1000,2,4,1001] [0,2,4,20,21,22] Z ⟨0,rfl,by rw[<-hll];rfl⟩ ?_
 rintro n st ⟨i,hi,rfl⟩;by_cases hlt:i<l.length
 ·have hy:=yL prA l i zB zB;rw[show((i:Int)).toNat=i from Z]at hy;have hm:(LR (ad (ad d)) l (i+1)).1.map wT=(LR (ad (ad d)) l i).1.map wT++[wT (UJ (LR (ad (ad d)) l i).2 (l.getD i default))]:=yBn;have hd:(LR (ad (ad d)) l (i+1)).2=phD (LR (ad (ad d)) l i).2:=rfl;have hle:=VD (ad (ad d)) l i;generalize l.getD i default=p at *;obtain⟨p1,p2⟩:=p;generalize hq':LR (ad (ad d)) l (i+1)=q' at hm hd;generalize LR (ad (ad d)) l i=q at *;obtain⟨ql,qd⟩:=q;dsimp only at hm hd hle⊢;have b0:=yC qd (3-1+1) zB;have b1:=yC (ad (ad (ad (ad qd)))) 4 zB;have b2:=yC (ad (ad (ad (ad qd)))) (2-1+1) zB;have b3:=yC (ad (ad (ad (ad (ad qd))))) (2-1+1) zB;have b4:=yC (ad (ad (ad (ad (ad (ad qd)))))) 4 zB;by_cases hz:nx (ad (ad (ad qd))) 3=2
  ·rw[show UJ qd (p1,p2)=⟨p1,p2,1+nx qd (3-1+1),max (1+nx qd (3-1+1)) (1+nx (ad (ad (ad (ad qd)))) (2-1+1)+(1+nx (ad (ad (ad (ad (ad qd))))) (2-1+1)))+nx (ad (ad (ad (ad (ad (ad qd)))))) 4,1+nx (ad qd) (2-1+1),nx (ad (ad qd)) 3,1+nx (ad (ad (ad (ad qd)))) (2-1+1),1+nx (ad (ad (ad (ad (ad qd))))) (2-1+1)⟩ by unfold UJ;rw[yBd hz]]at hm;rw[show phD qd=ad (ad (ad (ad (ad (ad (ad qd)))))) by unfold phD;rw[yBd hz]]at hd
   (repeat' (first|refine bX ?_|refine xE (λhc=>?_) λhc=>?_|(refine zE ?_;refine wA ?_;(first|(refine uF 41 ?_;first|refine wK (zL (kL _ _ _ zB zB zB) Z Z Z Z Z) Z ?_|refine qA (zL (kL _ _ _ zB zB zB) Z Z Z Z Z) Z Z Z ?_|refine XZ (zL (kL _ _ _ zB zB zB) Z Z Z Z Z) Z Z Z ?_)|(refine uF 15 ?_;first|refine wK (zL (yH _ _ zB zB) Z Z Z Z Z) Z ?_|refine qA (zL (yH _ _ zB zB) Z Z Z Z Z) Z Z Z ?_|refine XZ (zL (yH _ _ zB zB) Z Z Z Z Z) Z Z Z ?_)))|fail))
   exact⟨n-1,zB,i+1,zB,by rw[hq',hm,hd];rfl⟩
  ·rw[show UJ qd (p1,p2)=⟨p1,p2,1+nx qd (3-1+1),max (1+nx qd (3-1+1)) (0+0)+nx (ad (ad (ad (ad qd)))) 4,1+nx (ad qd) (2-1+1),nx (ad (ad qd)) 3,0,0⟩ by unfold UJ;rw[yBc hz]]at hm;rw[show phD qd=ad (ad (ad (ad (ad qd)))) by unfold phD;rw[yBc hz]]at hd
   (repeat' (first|refine bX ?_|refine xE (λhc=>?_) λhc=>?_|(refine zE ?_;refine wA ?_;(first|(refine uF 41 ?_;first|refine wK (zL (kL _ _ _ zB zB zB) Z Z Z Z Z) Z ?_|refine qA (zL (kL _ _ _ zB zB zB) Z Z Z Z Z) Z Z Z ?_|refine XZ (zL (kL _ _ _ zB zB zB) Z Z Z Z Z) Z Z Z ?_)|(refine uF 15 ?_;first|refine wK (zL (yH _ _ zB zB) Z Z Z Z Z) Z ?_|refine qA (zL (yH _ _ zB zB) Z Z Z Z Z) Z Z Z ?_|refine XZ (zL (yH _ _ zB zB) Z Z Z Z Z) Z Z Z ?_)))|fail))
   exact⟨n-1,zB,i+1,zB,by rw[hq',hm,hd];rfl⟩
 obtain rfl:i=l.length:=by omega
 have hpl:jp.1.length=l.length:=by rw[ep];exact VD _ _ _
 rw[<-ep];clear ep ej ed sc hll hi hlt;obtain⟨ps,dj⟩:=jp;dsimp only at hpl⊢;have hlp:(ps.map wT).length=ps.length:=by simp
 generalize nx (ad d) 3=js
 (repeat' (first|refine bX ?_|refine xE (λhc=>?_) λhc=>?_|(refine zE ?_;refine wA ?_;(first|(refine uF 15 ?_;first|refine wK (zL (yH _ _ zB zB) Z Z Z Z Z) Z ?_|refine qA (zL (yH _ _ zB zB) Z Z Z Z Z) Z Z Z ?_|refine XZ (zL (yH _ _ zB zB) Z Z Z Z Z) Z Z Z ?_)))|fail))
 generalize nx dj 4=n4
 refine kM (st':=⟨[(0,.ptr 1000 0 0),(2,.ptr 2 0 0),(4,.ptr 4 0 0),(8,bA (n4==3)),(69,zD wT ps),(70,iA ps.length),(71,iA 0)],
   [(1000,dZ (ad dj)),(2,.box [.s (.slice none 0 0),.s (.slice none 0 0),iA 0]),(4,.box [zD wT ps,.s (.slice none 0 0),iA js])]⟩) [1000,2,4] [0,2,4,8,69,70,71] Z (by
  have e1:zD wT ps= .sl false (List.take (ps.map wT).length (List.drop 0 (ps.map wT))):=by
   rw[yCg,yBj];rfl
  rw[e1,<-hlp]
  rfl) ?_
 generalize (n4==3)=ex;generalize ad dj=dk;refine uI 4 1 1002 1 Z Z Z Z Z ?_
 refine wW (λn st=>∃i:Nat,n+i=ps.length/\st=⟨[(0,.ptr 1000 0 0),(2,.ptr 2 0 0),(4,.ptr 4 0 0),(8,bA ex),(69,zD wT ps),(70,iA ps.length),(71,iA i)],
   [(1000,dZ dk),(2,.box [.s (.slice none 0 0),.s (.slice none 0 0),iA 0]),(4,.box [zD wT ps,.ref 1002 0 ((gH ps ex i).map iA).length,iA js]),(1002,.arr 1 ((gH ps ex i).map iA) true)]⟩)
  ps.length [1000,2,4,1002] [0,2,4,8,69,70,71] Z ⟨0,rfl,rfl⟩ ?_
 clear n;rintro n st ⟨i,hi,rfl⟩;by_cases hlt:i<ps.length
 ·have hy:=yL wT ps i zB zB;rw[show((i:Int)).toNat=i from Z]at hy;have ht:(gH ps ex (i+1)).map iA=(gH ps ex i).map iA++[iA (YB ps ex i ps.length)]:=by unfold gH;rw[yDs];simp
  have hrl:(gH ps ex i).length=i:=by simp[gH]
  obtain⟨p,hp⟩:∃p,ps.getD i default=p:=⟨_,rfl⟩;rw[hp]at hy;obtain⟨rows,hrows⟩:∃r,gH ps ex i=r:=⟨_,rfl⟩;rw[hrows]at ht hrl⊢
  (repeat' (first|refine bX ?_|refine xE (λhc=>?_) λhc=>?_|fail))
  refine wW (λn st=>∃k:Nat,n+k=ps.length/\st=⟨[(0,.ptr 1000 0 0),(2,.ptr 2 0 0),(4,.ptr 4 0 0),(8,bA ex),(9,iA i),(10,.ptr 10 0 0),(11,iA (YB ps ex i k)),(69,zD wT ps),(70,iA ps.length),(71,iA i),(77,zD wT ps),(78,iA ps.length),(79,iA k)],
    [(1000,dZ dk),(2,.box [.s (.slice none 0 0),.s (.slice none 0 0),iA 0]),(4,.box [zD wT ps,.ref 1002 0 (rows.map iA).length,iA js]),(10,.box [iA p.ring,iA p.group,iA p.ming,iA p.maxg,iA p.yel,iA p.red,iA p.walk,iA p.clear]),(1002,.arr 1 (rows.map iA) true)]⟩)
   ps.length [1000,2,4,10,1002] [0,2,4,8,9,10,11,69,70,71,77,78,79] Z ⟨0,rfl,by rw[<-hlp];rfl⟩ ?_
  rintro n2 st ⟨k,hk,rfl⟩;by_cases hlt2:k<ps.length
  ·have hy2:=yL wT ps k zB zB;rw[show((k:Int)).toNat=k from Z]at hy2
   have hn:YB ps ex i (k+1)=if cnd ps ex i k=true then YB ps ex i k+2 ^ k else YB ps ex i k:=rfl
   have hc:cnd ps ex i k=(i != k&&(p.ring==(ps.getD k default).ring||p.group != (ps.getD k default).group||ex&&((i:Int)+k).tmod 2==1)):=by rw[<-hp];rfl
   obtain⟨hw,hw2⟩:=yAu k zB;obtain⟨hr0,hr1⟩:=QC ps ex i k;have hr2:0<=(2:Int) ^ k:=by omega
   rw[show(2:Int) ^ k=p2 k from Z]at hn hr1 hr2 hw2;clear hw;generalize ps.getD k default=q at *;by_cases h0:i=k
   ·rw[yBc (by rw[hc];simp[h0])]at hn;clear hc;subst h0
    (repeat' (first|refine bX ?_|refine xE (λhc=>?_) λhc=>?_|fail))
    exact⟨n2-1,zB,i+1,zB,by rw[hn];rfl⟩
   by_cases h1:p.ring=q.ring
   ·rw[yBd (by rw[hc];simp[h0,h1])]at hn;clear hc
    (repeat' (first|refine bX ?_|refine xE (λhc=>?_) λhc=>?_|fail))
    exact⟨n2-1,zB,k+1,zB,by rw[hn];rfl⟩
   by_cases h2:p.group=q.group
   ·cases ex with
    |false=>
     rw[yBc (by rw[hc];simp[h0,h1,h2])]at hn;clear hc
     (repeat' (first|refine bX ?_|refine xE (λhc=>?_) λhc=>?_|fail))
     exact⟨n2-1,zB,k+1,zB,by rw[hn];rfl⟩
    | true=>
     by_cases h3:((i:Int)+k).tmod 2=1
     ·rw[yBd (by rw[hc];simp[h0,h1,h2,h3])]at hn;clear hc
      (repeat' (first|refine bX ?_|refine xE (λhc=>?_) λhc=>?_|fail))
      exact⟨n2-1,zB,k+1,zB,by rw[hn];rfl⟩
     ·rw[yBc (by rw[hc];simp[h0,h1,h2,h3])]at hn;clear hc
      (repeat' (first|refine bX ?_|refine xE (λhc=>?_) λhc=>?_|fail))
      exact⟨n2-1,zB,k+1,zB,by rw[hn];rfl⟩
   ·rw[yBd (by rw[hc];simp[h0,h1,h2])]at hn;clear hc
    (repeat' (first|refine bX ?_|refine xE (λhc=>?_) λhc=>?_|fail))
    exact⟨n2-1,zB,k+1,zB,by rw[hn];rfl⟩
  ·obtain rfl:k=ps.length:=by omega
   have hr:=QC ps ex i ps.length
   (repeat' (first|refine bX ?_|refine xE (λhc=>?_) λhc=>?_|fail))
   exact⟨n-1,zB,i+1,zB,by rw[ht];rfl⟩
 obtain rfl:i=ps.length:=by omega
 (repeat' (first|refine bX ?_|refine xE (λhc=>?_) λhc=>?_|fail))
 exact zK [1000] Z Z (yB8 (λx=>AV.agg [zD wT ps,AV.sl false x,iA js]) yBj) Z
def ad4 (d:Dk):Dk:=ad (ad (ad (ad d)))
def NW (d:Dk):Nat->List Jn×Dk
 |0=>([],d)
 |i+1=>((NW d i).1++[jnF (NW d i).2],jnD (NW d i).2)
def UK (d:Dk) (rights:Int):Nat->List Ag×Dk
 |0=>([],d)
 |i+1=>((UK d rights i).1++[agF (UK d rights i).2 i rights],ad (ad7 (UK d rights i).2))
theorem QD (d:Dk):∀i,(NW d i).1.length=i
 |0=>rfl
 |i+1=>by simp[NW,QD d i]
theorem dO (d:Dk) (rights:Int):∀i,(UK d rights i).1.length=i
 |0=>rfl
 |i+1=>by simp[UK,dO d rights i]
def zVr (d:Dk) (rights:Int) (i:Nat):(UK d rights (i+1)).2=ad (ad7 (UK d rights i).2):=by simp only[UK]
def zKk (d:Dk) (rights:Int) (i:Nat):(UK d rights (i+1)).1=(UK d rights i).1++[agF (UK d rights i).2 i rights]:=by simp only[UK]
def cfN (d:Dk):Nat:=(1+nx (ad4 d) 2).toNat
def cfJ (d:Dk):List Jn×Dk:=NW (ad (ad4 d)) (cfN d)
def cfM (d:Dk):Nat:=(1+nx (cfJ d).2 3).toNat
def cfG (d:Dk) (rights:Int):List Ag×Dk:=UK (ad (cfJ d).2) rights (cfM d)
def PR (d:Dk) (rights:Int):Cf:=⟨(cfJ d).1,(cfG d rights).1,1+nx d (4-1+1),nx (ad d) 4,1+nx (ad (ad d)) (3-1+1),nx (ad (ad (ad d))) 5⟩
def cfD (d:Dk) (rights:Int):Dk:=(cfG d rights).2
theorem DN (d:Dk) (rights:Int):zO 12 [.ptr 1000 0 0,iA rights] [(1000,dZ d)] (wN (PR d rights)) [(1000,dZ (cfD d rights))]:=by
 have hn:=yC (ad4 d) 2 zB;have hm:=yC (cfJ d).2 3 zB;have en:1+nx (ad4 d) 2=(cfN d:Int):=(yFr zB).symm;have em:1+nx (cfJ d).2 3=(cfM d:Int):=(yFr zB).symm;have ej:cfJ d=NW (ad (ad4 d)) (cfN d):=rfl;have eg:cfG d rights=UK (ad (cfJ d).2) rights (cfM d):=rfl;have ef:PR d rights=⟨(cfJ d).1,(cfG d rights).1,1+nx d (4-1+1),nx (ad d) 4,1+nx (ad (ad d)) (3-1+1),nx (ad (ad (ad d))) 5⟩:=rfl;have ed:cfD d rights=(cfG d rights).2:=rfl;rw[ef,ed];unfold ad4 at *;generalize cfJ d=jj at *;generalize cfG d rights=gg at *;generalize cfN d=N at *;generalize cfM d=M at *;have jc:=λi=>zAy (NW (ad (ad (ad (ad (ad d))))) i).2
 refine eM call12 λF hF=>?_
 (repeat' (first|refine bX ?_|refine xE (λhc=>?_) λhc=>?_|(refine zE ?_;refine wA ?_;(first|(refine uF 41 ?_;first|refine wK (zL (kL _ _ _ zB zB zB) Z Z Z Z Z) Z ?_|refine qA (zL (kL _ _ _ zB zB zB) Z Z Z Z Z) Z Z Z ?_|refine XZ (zL (kL _ _ _ zB zB zB) Z Z Z Z Z) Z Z Z ?_)|(refine uF 15 ?_;first|refine wK (zL (yH _ _ zB zB) Z Z Z Z Z) Z ?_|refine qA (zL (yH _ _ zB zB) Z Z Z Z Z) Z Z Z ?_|refine XZ (zL (yH _ _ zB zB) Z Z Z Z Z) Z Z Z ?_)))|fail))
 generalize nx d (4-1+1)=c1 at *;generalize nx (ad d) 4=c2 at *;generalize nx (ad (ad d)) (3-1+1)=c3 at *;generalize nx (ad (ad (ad d))) 5=c4 at *;generalize nx (ad (ad (ad (ad d)))) 2=n0 at *;generalize ad (ad (ad (ad (ad d))))=d5 at *;refine uI 5 0 1001 3 Z Z Z Z Z ?_
 refine wW (λn st=>∃i:Nat,n+i=N/\st=⟨[(0,.ptr 1000 0 0),(1,iA rights),(4,.ptr 4 0 0),(5,.ptr 5 0 0),(6,iA (1+n0-i))],
   [(1000,dZ (NW d5 i).2),(4,.box [.s (.slice none 0 0),.s (.slice none 0 0),iA 0,iA 0,iA 0,iA 0]),(5,.box [.ref 1001 0 ((NW d5 i).1.map wE).length,.s (.slice none 0 0),iA (1+c1),iA c2,iA (1+c3),iA c4]),(1001,.arr 3 ((NW d5 i).1.map wE) true)]⟩)
  N [1000,4,5,1001] [0,1,4,5,6] Z ⟨0,rfl,by rw[show 1+n0-(0:Nat)=1+n0 by omega];rfl⟩ ?_
 rintro n st ⟨i,hi,rfl⟩;by_cases hlt:i<N
 ·have hm2:(NW d5 (i+1)).1.map wE=(NW d5 i).1.map wE++[wE (jnF (NW d5 i).2)]:=yBn;have hd2:(NW d5 (i+1)).2=jnD (NW d5 i).2:=rfl;have c:=jc i;have hle:=QD d5 i;generalize hq':NW d5 (i+1)=q' at hm2 hd2;generalize NW d5 i=q at *;obtain⟨ql,qd⟩:=q;dsimp only at hm2 hd2 hle c⊢;generalize jnF qd=jf at *;generalize jnD qd=jd at *;refine zW c ?_;exact⟨n-1,zB,i+1,zB,by rw[hq',hm2,hd2,show 1+n0-((i+1:Nat):Int)=1+n0-i-1 by omega];rfl⟩
 obtain rfl:i=N:=by omega
 have hjl:jj.1.length=i:=by rw[ej];exact QD _ _
 rw[<-ej];clear ej jc ef ed;obtain⟨js,dj⟩:=jj;dsimp only at *;have hlp:(js.map wE).length=js.length:=by simp
 have hal:=dO (ad dj) rights M;have ac:=λk (hk:k<M)=>zLp (UK (ad dj) rights k).2 k rights zB zB
 rw[<-eg]at hal
 (repeat' (first|refine bX ?_|refine xE (λhc=>?_) λhc=>?_|(refine zE ?_;refine wA ?_;(first|(refine uF 15 ?_;first|refine wK (zL (yH _ _ zB zB) Z Z Z Z Z) Z ?_|refine qA (zL (yH _ _ zB zB) Z Z Z Z Z) Z Z Z ?_|refine XZ (zL (yH _ _ zB zB) Z Z Z Z Z) Z Z Z ?_)))|fail))
 generalize nx dj 3=n3 at *;generalize ad dj=dk at*
 refine kM (st':=⟨[(0,.ptr 1000 0 0),(1,iA rights),(4,.ptr 4 0 0),(5,.ptr 5 0 0),(33,iA (1+n3)),(34,iA 0)],
   [(1000,dZ dk),(4,.box [.s (.slice none 0 0),.s (.slice none 0 0),iA 0,iA 0,iA 0,iA 0]),(5,.box [zD wE js,.s (.slice none 0 0),iA (1+c1),iA c2,iA (1+c3),iA c4])]⟩) [1000,4,5] [0,1,4,5,33,34] Z (by
  have e1:zD wE js= .sl false (List.take (js.map wE).length (List.drop 0 (js.map wE))):=by
   rw[yCg,yBj];rfl
  rw[e1]
  rfl) ?_
 refine uI 5 1 1002 8 Z Z Z Z Z ?_
 refine wW (λn st=>∃k:Nat,n+k=M/\st=⟨[(0,.ptr 1000 0 0),(1,iA rights),(4,.ptr 4 0 0),(5,.ptr 5 0 0),(33,iA (1+n3)),(34,iA k)],
   [(1000,dZ (UK dk rights k).2),(4,.box [.s (.slice none 0 0),.s (.slice none 0 0),iA 0,iA 0,iA 0,iA 0]),(5,.box [zD wE js,.ref 1002 0 ((UK dk rights k).1.map vB).length,iA (1+c1),iA c2,iA (1+c3),iA c4]),(1002,.arr 8 ((UK dk rights k).1.map vB) true)]⟩)
  M [1000,4,5,1002] [0,1,4,5,33,34] Z ⟨0,rfl,rfl⟩ ?_
 clear n hi hlt;rintro n st ⟨k,hk,rfl⟩;by_cases hlt:k<M
 ·have hm2:(UK dk rights (k+1)).1.map vB=(UK dk rights k).1.map vB++[vB (agF (UK dk rights k).2 k rights)]:=by rw[zKk];exact yBn
  have hd2:(UK dk rights (k+1)).2=ad (ad7 (UK dk rights k).2):=zVr dk rights k;have c:=ac k hlt;have hle:=dO dk rights k;clear ac;generalize hq':UK dk rights (k+1)=q' at hm2 hd2;generalize UK dk rights k=q at *;obtain⟨ql,qd⟩:=q;dsimp only at hm2 hd2 hle c⊢;generalize agF qd k rights=jf at *;generalize ad (ad7 qd)=jd at *;refine zW c ?_;exact⟨n-1,zB,k+1,zB,by rw[hq',hm2,hd2];rfl⟩
 obtain rfl:k=M:=by omega
 rw[<-eg];clear eg ac;refine WW ?_;exact zK [1000] Z Z (yB8 (λx=>AV.agg [zD wE js,AV.sl false x,iA (1+c1),iA c2,iA (1+c3),iA c4]) yBj) Z
def CfW (c:Cf):Prop:=c.js.length<=4/\∀j∈c.js,1<=j.ph.length/\j.ph.length<=8
theorem CfW.at {c:Cf} (h:CfW c) {j:Int} (h0:0<=j) (h1:j<((c.js.map wE).length:Int)):1<=(c.js.getD j.toNat default).ph.length/\(c.js.getD j.toNat default).ph.length<=8:=by
 rw[yBe]at h1;refine h.2 _ ?_;rw[yBl,yBu zB,yDi];exact yD1 _
def qJ (c:Cf) (e:Dk) (k:Nat):Int:=Int.tmod (nx e 3+k) (max 1 (((c.js.map wE).length:Int)+(nx (ad e) 12).tdiv 11))
def qP (c:Cf) (j:Int):Int:=if j<((c.js.map wE).length:Int)then(((c.js.getD j.toNat default).ph.map wT).length:Int)else 2
def IK (x:Int) (h:0<=x/\x<12):0<=x.tdiv 11/\x.tdiv 11<=1/\aA .i64 (x.tdiv 11):=by
 have:x.tdiv 11=x/11:=yC5 h.1;rw[this];refine⟨zB,zB,by unfold aA;omega⟩
def zKl (a b:Int) (h0:0<=a) (h1:1<=b) (h2:b<=1000):0<=a.tmod b/\a.tmod b<=1000/\aA .i64 (a.tmod b):=by
 have:=yHd b h0;have h3:a.tmod b<b:=yG1 a zB;exact⟨this,zB,by unfold aA;omega⟩
def zYy {c:Cf} (h:CfW c) (e:Dk) (k:Nat):0<=qJ c e k/\qJ c e k<=1000:=by
 have w1:=yC e 3 zB;have w2:=yC (ad e) 12 zB;obtain⟨v2,u2,i2⟩:=IK _ w2;have h1:=h.1;have h2:(c.js.map wE).length=c.js.length:=yBe ..;have:=zKl (nx e 3+k) (max 1 (((c.js.map wE).length:Int)+(nx (ad e) 12).tdiv 11)) zB zB zB;exact⟨this.1,this.2.1⟩
def zYz {c:Cf} (h:CfW c) {j:Int} (h0:0<=j):1<=qP c j/\qP c j<=8:=by
 unfold qP;split
 ·rename_i h1;have:=h.at h0 h1;rw[yBe];omega
 ·omega
def DO (c:Cf) (k:Nat) (l:List Int) (e:Dk):List Int×Dk:=
 (l++[qJ c e k,nx (ad (ad (ad (ad e)))) (qP c (qJ c e k)+(nx (ad (ad (ad e))) 12).tdiv 11),nx (ad (ad e)) 3,nx (ad (ad e)) 3+nx (ad (ad (ad (ad (ad e))))) 50],ad (ad (ad (ad (ad (ad e))))))
def bP (c:Cf) (l:List Int) (d:Dk):Nat->List Int×Dk
 |0=>(l,d)
 |i+1=>DO c i (bP c l d i).1 (bP c l d i).2
def RF (l:List Int):Prop:=∀x∈l,0<=x/\x<=4294967295
theorem RF.app {a b:List Int} (h1:RF a) (h2:RF b):RF (a++b):=λx hx=>(yBy.1 hx).elim (h1 x) (h2 x)
theorem RF.cons {x:Int} {b:List Int} (h1:0<=x/\x<=4294967295) (h2:RF b):RF (x::b):=λy hy=>(yCk.1 hy).elim (λe=>e▸h1) (h2 y)
theorem RF.nil:RF []:=λx hx=>by cases hx
theorem zAz {c:Cf} (hc:CfW c) (l:List Int) (hl:RF l) (d:Dk):∀i,(bP c l d i).1.length=l.length+i*4/\rem (bP c l d i).2<=rem d/\RF (bP c l d i).1
 |0=>⟨rfl,yBg _,hl⟩
 |i+1=>by
  have ih:=zAz hc l hl d i
  show(DO c i _ _).1.length=_/\rem (DO c i _ _).2<=_/\RF (DO c i _ _).1
  generalize (bP c l d i).2=e at *;have r1:=wG e;have r2:=wG (ad e);have r3:=wG (ad (ad e));have r4:=wG (ad (ad (ad e)));have r5:=wG (ad (ad (ad (ad e))));have r6:=wG (ad (ad (ad (ad (ad e)))));have j1:=zYy hc e i;have j2:=zYz hc j1.1;have w3:=yC (ad (ad e)) 3 zB;have w4:=yC (ad (ad (ad e))) 12 zB;have w6:=yC (ad (ad (ad (ad (ad e))))) 50 zB;obtain⟨v4,u4,_⟩:=IK _ w4;have w5:=yC (ad (ad (ad (ad e)))) (qP c (qJ c e i)+(nx (ad (ad (ad e))) 12).tdiv 11) zB;refine⟨by simp only[DO,yBf,yBp,yCr];omega,by simp only[DO];omega,?_⟩;exact ih.2.2.app (.cons zB (.cons zB (.cons zB (.cons zB .nil))))
theorem zPy (c:Cf) (hc:CfW c) (l:List Int) (hl:l.length<=1000) (hn:RF l) (d:Dk):zO 89 [.ptr 1000 0 0,wN c,.ref 107 0 (l.map iA).length] [(1000,dZ d),(107,.arr 1 (l.map iA) false)] (.ref 107 0 ((bP c l (ad d) (1+(nx d 2).toNat)).1.map iA).length) [(1000,dZ (bP c l (ad d) (1+(nx d 2).toNat)).2),(107,.arr 1 ((bP c l (ad d) (1+(nx d 2).toNat)).1.map iA) true)]:=by
 have c1:=yH d 2 zB zB;have b1:=yC d 2 zB;generalize nx d 2=n at *;generalize ad d=d1 at *;obtain⟨N,hN⟩:∃N:Nat,1+n.toNat=N:=⟨_,rfl⟩;have hN2:1+n=(N:Int):=by omega
 rw[hN];have hjs:=hc.1;have hjl:(c.js.map wE).length=c.js.length:=yBe ..;unfold wN zD;refine eM call89 λF hF=>?_
 refine zW c1 ?_;refine uK 107 Z ?_;refine zN (N) [1000,107,4] [4] [0,4,15] [2,16,0,4,15] Z (λi T U=>⟨(2,.ref 107 0 ((bP c l d1 i).1.map iA).length)::(16,iA i)::T,(1000,dZ (bP c l d1 i).2)::(107,.arr 1 ((bP c l d1 i).1.map iA) true)::U⟩) ?_;(conv=>whnf);refine⟨by rfl,?_,?_⟩
 ·intro i hi;have hl:=(zAz hc l hn d1 i).1;have eS:bP c l d1 (i+1)=DO c i (bP c l d1 i).1 (bP c l d1 i).2:=rfl;unfold DO at eS;generalize (bP c l d1 i).1=p at *;generalize (bP c l d1 i).2=e at *;have hi2:(i:Int)<=1:=by omega
  have n1:=yH e 3 zB zB;have n2:=yH (ad e) 12 zB zB;have n3:=yH (ad (ad e)) 3 zB zB;have n4:=yH (ad (ad (ad e))) 12 zB zB;have w1:=yC e 3 zB;have w2:=yC (ad e) 12 zB;have w3:=yC (ad (ad e)) 3 zB;have w4:=yC (ad (ad (ad e))) 12 zB;obtain⟨v2,u2,i2⟩:=IK _ w2;obtain⟨v4,u4,i4⟩:=IK _ w4;have jb:=zYy hc e i;have pb:=zYz hc jb.1;have n5:=yH (ad (ad (ad (ad e)))) (qP c (qJ c e i)+(nx (ad (ad (ad e))) 12).tdiv 11) zB zB;have n6:=yH (ad (ad (ad (ad (ad e))))) 50 zB zB;have w6:=yC (ad (ad (ad (ad (ad e))))) 50 zB;generalize hx5:nx (ad (ad (ad (ad e)))) (qP c (qJ c e i)+(nx (ad (ad (ad e))) 12).tdiv 11)=x5 at *;clear hx5;have hat:=λh=>yL wE c.js (qJ c e i) jb.1 h
  have hat2:=λh=>hc.at (c:=c) (j:=qJ c e i) jb.1 h
  have hm:1<=max 1 (((c.js.map wE).length:Int)+(nx (ad e) 12).tdiv 11)/\max 1 (((c.js.map wE).length:Int)+(nx (ad e) 12).tdiv 11)<=1000:=by omega
  have tb:=zKl (nx e 3+i) _ zB hm.1 hm.2;unfold qP at n5 pb;unfold qJ at n5 eS jb hat hat2 pb;rw[eS];clear eS hc;generalize nx (ad (ad (ad (ad (ad e))))) 50=x6 at *;generalize nx (ad (ad (ad e))) 12=x4 at *;generalize nx (ad (ad e)) 3=x3 at *;generalize nx (ad e) 12=x2 at *;generalize nx e 3=x1 at *;generalize ad e=e1 at *;generalize ad e1=e2 at *;generalize ad e2=e3 at *;generalize ad e3=e4 at *;generalize ad e4=e5 at *;generalize ad e5=e6 at *;obtain⟨hm1,hm2⟩:=hm;obtain⟨tb1,tb2,tb3⟩:=tb;by_cases hj:Int.tmod (x1+i) (max 1 (((c.js.map wE).length:Int)+x2.tdiv 11))<((c.js.map wE).length:Int)
  ·rw[yBd hj]at n5 pb;have hy:=hat zB;have hz:=hat2 hj;clear hat hat2;generalize c.js.getD (Int.tmod (x1+i) (max 1 (((c.js.map wE).length:Int)+x2.tdiv 11))).toNat default=J at *;have hpl:(J.ph.map wT).length=J.ph.length:=yBe ..;unfold wE zD at hy;generalize J.ph.map wT=P at *;generalize J.cf.map iA=Cz at *;refine yS (zt6 n1 n2 n3 n4 n5 n6) ?_
   show restr _ _ _=_
   rw[yBn];rfl
  ·rw[yBc hj]at n5 pb;clear hat hat2;refine yS (zt6 n1 n2 n3 n4 n5 n6) ?_
   show restr _ _ _=_
   rw[yBn];rfl
 ·(refine WW ?_)
  exact zK [1000,107] Z Z Z Z
def zA0 (g:Int) (d:Dk):List Int×Dk:=
 if nx d 9=7 then(g::nx (ad d) 4::dK (2000+10*g+nx (ad (ad d)) 3),ad (ad (ad d)))
 else if nx d 9=8 then(nx (ad d) 3::0::dK (1000+nx (ad (ad d)) 3),ad (ad (ad d)))
 else(g::0::dK (1000+g),ad d)
def zVs (g:Int) (hg:0<=g/\g<256) (d:Dk):BY (zA0 g d).1/\rem (zA0 g d).2<=rem d:=by
 have r1:=wG d;have r2:=wG (ad d);have r3:=wG (ad (ad d));have b1:=yC (ad d) 4 zB;have b2:=yC (ad d) 3 zB;unfold zA0;split
 ·exact⟨IO hg zB (ZM _),by dsimp only;omega⟩
 ·split
  ·exact⟨IO zB zB (ZM _),by dsimp only;omega⟩
  ·exact⟨IO hg zB (ZM _),by dsimp only;omega⟩
def zVt (q:Int):Int:=if q=1 then 4 else if q=3 then 7 else 6
def zPz (q:Int) (h:0<=q/\q<4):([AV.s (.int .i64 6),AV.s (.int .i64 4),AV.s (.int .i64 6),AV.s (.int .i64 7)]:List AV)[q.toNat]? =some (AV.s (.int .i64 (zVt q))):=by
 have:q=0∨q=1∨q=2∨q=3:=by omega
 rcases this with rfl|rfl|rfl|rfl<;>rfl
def zFl (k:Int) (d:Dk):Int×Dk:=if nx d 2=0 then(zVt (nx (ad d) 4),ad (ad d))else(k,ad d)
def zVu (k:Int) (hk:1<=k/\k<=12) (d:Dk):(1<=(zFl k d).1/\(zFl k d).1<=12)/\rem (zFl k d).2<=rem d:=by
 have r1:=wG d;have r2:=wG (ad d);unfold zFl zVt;split
 ·refine⟨?_,by dsimp only;omega⟩;dsimp only;split
  ·omega
  ·split<;>omega
 ·exact⟨hk,by dsimp only;omega⟩
def DP (l:List Int) (d:Dk):List Int×Dk:=(l++[nx d 3,nx d 3+nx (ad d) 40],ad (ad d))
def XB (l:List Int) (d:Dk):Nat->List Int×Dk
 |0=>(l,d)
 |i+1=>DP (XB l d i).1 (XB l d i).2
theorem zA1 (l:List Int) (hl:RF l) (d:Dk):∀i,(XB l d i).1.length=l.length+i*2/\rem (XB l d i).2<=rem d/\RF (XB l d i).1
 |0=>⟨rfl,yBg _,hl⟩
 |i+1=>by
  have ih:=zA1 l hl d i
  show(DP _ _).1.length=_/\rem (DP _ _).2<=_/\RF (DP _ _).1
  generalize (XB l d i).2=e at *;have r1:=wG e;have r2:=wG (ad e);have w1:=yC e 3 zB;have w2:=yC (ad e) 40 zB;refine⟨by simp only[DP,yBf,yBp,yCr];omega,by simp only[DP];omega,?_⟩;exact ih.2.2.app (.cons zB (.cons zB .nil))
def zFm (q:Int):Int:=if q=0 then 63 else if q=1 then 1 else if q=2 then 3 else if q=3 then 47 else 64
def zFn (q:Int):Int:=if q=0 then 0 else if q=1 then 5 else if q=2 then 30 else 700
def zP0 (q:Int) (h:0<=q/\q<5):([AV.s (.int .i64 63),AV.s (.int .i64 1),AV.s (.int .i64 3),AV.s (.int .i64 47),AV.s (.int .i64 64)]:List AV)[q.toNat]? =some (AV.s (.int .i64 (zFm q))):=by
 have:q=0∨q=1∨q=2∨q=3∨q=4:=by omega
 rcases this with rfl|rfl|rfl|rfl|rfl<;>rfl
def zP1 (q:Int) (h:0<=q/\q<4):([AV.s (.int .i64 0),AV.s (.int .i64 5),AV.s (.int .i64 30),AV.s (.int .i64 700)]:List AV)[q.toNat]? =some (AV.s (.int .i64 (zFn q))):=by
 have:q=0∨q=1∨q=2∨q=3:=by omega
 rcases this with rfl|rfl|rfl|rfl<;>rfl
def zFo (cf:Cf) (k c:Int) (d:Dk):List Int×Dk:=
 if k=2 then([zFm (nx d 5),nx (ad d) 5,zFn (nx (ad (ad d)) 4)],ad (ad (ad d)))
 else if k=3∨k=8∨k=5∨k=10∨k=11 then([nx d 4],ad d)
 else if k=4 then([nx d 4,c],ad d)
 else if k=6 then bP cf [nx d 4,nx (ad d) 4,1+nx (ad (ad d)) (60-1+1)] (ad (ad (ad (ad d)))) (1+(nx (ad (ad (ad d))) 2).toNat)
 else if k=7 then XB [nx d 4] (ad (ad d)) (1+(nx (ad d) 2).toNat)
 else([],d)
def zKm (g:Int) (d:Dk):(zA0 g d).1.length=10:=by
 unfold zA0;split
 ·simp[jA]
 ·split<;>simp[jA]
def zVv {cf:Cf} (hc:CfW cf) (k c:Int) (h0:0<=c/\c<=10) (hk:1<=k/\k<=12) (d:Dk):rem (zFo cf k c d).2<=rem d/\RF (zFo cf k c d).1/\∃n:Nat,n<=2/\(xW k≠0->1<=n)/\(zFo cf k c d).1.length=vL k+n*xW k:=by
 have r1:=wG d;have r2:=wG (ad d);have r3:=wG (ad (ad d));have r4:=wG (ad (ad (ad d)));have w1:=yC d 4 zB;have w2:=yC (ad d) 4 zB;have w3:=yC (ad (ad d)) (60-1+1) zB;have w4:=yC (ad (ad (ad d))) 2 zB;have w5:=yC (ad d) 2 zB;have w6:=yC (ad d) 5 zB;have g1:0<=zFm (nx d 5)/\zFm (nx d 5)<=64:=by unfold zFm;repeat' split;all_goals omega
 have g2:0<=zFn (nx (ad (ad d)) 4)/\zFn (nx (ad (ad d)) 4)<=700:=by unfold zFn;repeat' split;all_goals omega
 unfold zFo;split
 ·rename_i h;subst h;exact⟨by dsimp only;omega,.cons zB (.cons zB (.cons zB .nil)),0,zB,λh=>absurd Z h,rfl⟩
 split
 ·rename_i h
  refine⟨by dsimp only;omega,.cons zB .nil,0,zB,λh2=>?_,?_⟩<;>rcases h with rfl|rfl|rfl|rfl|rfl
  all_goals first|rfl|exact absurd Z h2
 split
 ·rename_i h;subst h;exact⟨by dsimp only;omega,.cons zB (.cons zB .nil),0,zB,λh=>absurd Z h,rfl⟩
 split
 ·rename_i h;subst h;obtain⟨p1,p2,p3⟩:=zAz hc [nx d 4,nx (ad d) 4,1+nx (ad (ad d)) (60-1+1)] (.cons zB (.cons zB (.cons zB .nil))) (ad (ad (ad (ad d)))) (1+(nx (ad (ad (ad d))) 2).toNat);exact⟨zB,p3,_,zB,λ_=>by omega,p1⟩
 split
 ·rename_i h;subst h;obtain⟨p1,p2,p3⟩:=zA1 [nx d 4] (.cons zB .nil) (ad (ad d)) (1+(nx (ad d) 2).toNat);exact⟨zB,p3,_,zB,λ_=>by omega,p1⟩
 ·rename_i h1 h2 h3 h4 h5;have:k=1∨k=9∨k=12:=by omega
  refine⟨yBg _,.nil,0,zB,λh2=>?_,?_⟩<;>rcases this with rfl|rfl|rfl
  all_goals first|rfl|exact absurd Z h2
structure MgP (m:Ms):Prop where
 t:BY m.tok
 l:m.tok.length=10
 k:1<=m.kind/\m.kind<=12
 n:RF m.args
 c:∃n:Nat,n<=2/\(xW m.kind≠0->1<=n)/\m.args.length=vL m.kind+n*xW m.kind
 d:m.data=[]
def qcl (cm:Bool) (d:Dk):Int×Dk:=if cm=true then(nx (ad d) 2,ad (ad d))else(nx d 4,ad d)
def zY0 (cm:Bool) (d:Dk):(0<=(qcl cm d).1/\(qcl cm d).1<=10)/\rem (qcl cm d).2<=rem d:=by
 have r1:=wG d;have r2:=wG (ad d);have w1:=yC d 4 zB;have w2:=yC (ad d) 2 zB;unfold qcl
 split<;>(refine⟨?_,?_⟩<;>dsimp only<;>omega)
theorem SJ (c:Cf) (hc:CfW c) (g:Int) (hg:0<=g/\g<256) (cm:Bool) (d:Dk):∃(m:Ms) (d':Dk),MgP m/\rem d'<=rem d/\zO 54 [.ptr 1000 0 0,wN c,iA g,bA cm] [(1000,dZ d)] (yB m) [(1000,dZ d')]:=by
 have c1:=yH d 12 zB zB;have b1:=yC d 12 zB;have r1:=wG d;have cs0:=eU (1000+g);have cb0:=aV g 0 (dK (1000+g)) (by rw[jA];omega) hg.1 hg.2 zB zB;generalize hx:nx d 12=x at *;generalize ad d=d1 at *;have hT:=zVs g hg d1;have hTl:=zKm g d1;generalize hTe:zA0 g d1=v at *;obtain⟨tk0,d2⟩:=v;dsimp only at hT hTl;have hK:=zVu (1+x) zB d2;generalize hKe:zFl (1+x) d2=v at *;obtain⟨k,d3⟩:=v;dsimp only at hK;have hC:=zY0 cm d3;generalize hCe:qcl cm d3=v at *;obtain⟨cl,d4⟩:=v;dsimp only at hC;have hA:=zVv hc k cl hC.1 hK.1 d4;generalize hAe:zFo c k cl d4=v at *;obtain⟨args,d5⟩:=v;dsimp only at hA;refine⟨⟨k,tk0,args,[]⟩,d5,⟨hT.1,hTl,hK.1,hA.2.1,hA.2.2,rfl⟩,by have:=hT.2;have:=hK.2;have:=hC.2;have:=hA.1;omega,?_⟩;clear hTl;have n9:=yH d1 9 zB zB;have cqf:=zPy c hc;unfold wN at *;rw[show zD wE c.js= .sl false (c.js.map wE)from Z,show zD vB c.ags= .sl false (c.ags.map vB)from Z]at *; generalize c.js.map wE=JS at *;generalize c.ags.map vB=AGS at *;refine eM call54 λF hF=>?_
 (have zc1:=c1;have zc2:=n9;have zc3:=cs0;have zc4:=cb0;(repeat' (first|refine WZB ?_|((first|apply xE|apply xV)<;>intro hc)|(refine zE ?_;first|refine SM ?_)|fail))<;>clear zc1 zc2 zc3 zc4)
 refine UF [1000,5,8,9] [0,2,3,5,8,9] ⟨[(0,.ptr 1000 0 0),(2,iA g),(3,bA cm),(5,.ptr 5 0 0),(8,.ptr 8 0 0),(9,.ptr 9 0 0)],[(1000,dZ d2),(5,.box [.sl false JS,.sl false AGS,iA c.per,iA c.cap,iA c.hold,iA c.lock]),(8,.box [iA 0,.s (.slice none 0 0),.s (.slice none 0 0),.s (.slice none 0 0)]),(9,.box [iA (1+x),zD yA tk0,.s (.slice none 0 0),.s (.slice none 0 0)])]⟩ rfl ?_ ?_
 ·unfold zA0 at hTe;by_cases h7:nx d1 9=7
  ·rw[yBd h7]at hTe;cases hTe;have n1:=yH (ad d1) 4 zB zB;have n2:=yH (ad (ad d1)) 3 zB zB;have w1:=yC (ad d1) 4 zB;have w2:=yC (ad (ad d1)) 3 zB;have cs:=eU (2000+10*g+nx (ad (ad d1)) 3);have cb:=aV g (nx (ad d1) 4) (dK (2000+10*g+nx (ad (ad d1)) 3)) (by rw[jA];omega) hg.1 hg.2 zB zB;clear hT hKe;refine yS (bY n1 n2 cs cb) ?_;exact⟨rfl,rfl⟩
  rw[yBc h7]at hTe;by_cases h8:nx d1 9=8
  ·rw[yBd h8]at hTe;cases hTe;have n1:=yH (ad d1) 3 zB zB;have n2:=yH (ad (ad d1)) 3 zB zB;have w1:=yC (ad d1) 3 zB;have w2:=yC (ad (ad d1)) 3 zB;have cs:=eU (1000+nx (ad (ad d1)) 3);have cb:=aV (nx (ad d1) 3) 0 (dK (1000+nx (ad (ad d1)) 3)) (by rw[jA];omega) zB zB zB zB;clear hT hKe;refine yS (bY n1 n2 cs cb) ?_;exact⟨rfl,rfl⟩
  ·rw[yBc h8]at hTe;cases hTe;clear hT hKe;refine WW ?_;exact⟨rfl,rfl⟩
 clear hTe n9 c1 cs0 cb0;have n2:=yH d2 2 zB zB
 (have zc1:=n2;(repeat' (first|refine WZB ?_|((first|apply xE|apply xV)<;>intro hc)|(refine zE ?_;first|refine SM ?_)|fail))<;>clear zc1)
 refine UF [1000,5,8,9] [0,2,3,5,8,9] ⟨[(0,.ptr 1000 0 0),(2,iA g),(3,bA cm),(5,.ptr 5 0 0),(8,.ptr 8 0 0),(9,.ptr 9 0 0)],[(1000,dZ d3),(5,.box [.sl false JS,.sl false AGS,iA c.per,iA c.cap,iA c.hold,iA c.lock]),(8,.box [iA 0,.s (.slice none 0 0),.s (.slice none 0 0),.s (.slice none 0 0)]),(9,.box [iA k,zD yA tk0,.s (.slice none 0 0),.s (.slice none 0 0)])]⟩ rfl ?_ ?_
 ·unfold zFl at hKe;have n3:=yH (ad d2) 4 zB zB;have w3:=yC (ad d2) 4 zB;have hy:=zPz _ w3;have hl4:([AV.s (.int .i64 6),AV.s (.int .i64 4),AV.s (.int .i64 6),AV.s (.int .i64 7)]:List AV).length=4:=rfl;clear hAe hCe hK;by_cases h0:nx d2 2=0
  ·rw[yBd h0]at hKe;cases hKe;refine zW n3 (I2 (λhc=>?_) λhc=>?_)
   all_goals first|(exfalso;omega;done)|exact⟨rfl,rfl⟩
  ·rw[yBc h0]at hKe;cases hKe;refine zW n3 (I2 (λhc=>?_) λhc=>?_)
   all_goals first|(exfalso;omega;done)|exact⟨rfl,rfl⟩
 clear hKe n2;have c3:=yH d3 4 zB zB
 (have zc1:=c3;(repeat' (first|refine WZB ?_|((first|apply xE|apply xV)<;>intro hc)|(refine zE ?_;first|refine SM ?_)|fail))<;>clear zc1)
 refine UF [1000,5,8,9] [0,2,3,5,8,9,10] ⟨[(0,.ptr 1000 0 0),(2,iA g),(3,bA cm),(5,.ptr 5 0 0),(8,.ptr 8 0 0),(9,.ptr 9 0 0),(10,iA cl)],[(1000,dZ d4),(5,.box [.sl false JS,.sl false AGS,iA c.per,iA c.cap,iA c.hold,iA c.lock]),(8,.box [iA 0,.s (.slice none 0 0),.s (.slice none 0 0),.s (.slice none 0 0)]),(9,.box [iA k,zD yA tk0,.s (.slice none 0 0),.s (.slice none 0 0)])]⟩ rfl ?_ ?_
 ·unfold qcl at hCe;clear hAe;have n2:=yH (ad d3) 2 zB zB
  cases cm with
  |true=>
   rw[yBd Z]at hCe;cases hCe;refine zW n2 ?_;exact⟨rfl,rfl⟩
  |false=>
   rw[yBc yBw]at hCe;cases hCe;refine WW ?_;exact⟨rfl,rfl⟩
 clear hCe c3
 (repeat' (first|refine WZC ?_|((first|apply xE|apply xV)<;>intro hc)|(refine zE ?_;first|refine SM ?_)|fail))
 have b4:=yC d4 4 zB;unfold zFo at hAe;by_cases k2:k=2
 ·rw[yBd k2]at hAe;cases hAe;have n1:=yH d4 5 zB zB;have n2:=yH (ad d4) 5 zB zB;have n3:=yH (ad (ad d4)) 4 zB zB;have w1:=yC d4 5 zB;have w3:=yC (ad (ad d4)) 4 zB;have h1:=zP0 _ w1;have h3:=zP1 _ w3;have hl5:([AV.s (.int .i64 63),AV.s (.int .i64 1),AV.s (.int .i64 3),AV.s (.int .i64 47),AV.s (.int .i64 64)]:List AV).length=5:=rfl;have hl4:([AV.s (.int .i64 0),AV.s (.int .i64 5),AV.s (.int .i64 30),AV.s (.int .i64 700)]:List AV).length=4:=rfl;generalize zFm (nx d4 5)=y1 at *;generalize zFn (nx (ad (ad d4)) 4)=y3 at *;clear hA hK hC hT;refine yS (gW n1 n2 n3) ?_;exact zH [1000] Z Z Z Z
 rw[yBc k2]at hAe;by_cases k3:k=3∨k=8∨k=5∨k=10∨k=11
 ·rw[yBd k3]at hAe;cases hAe;have n1:=yH d4 4 zB zB;clear hA hK hC hT
  rcases k3 with h|h|h|h|h<;>((refine zW n1 ?_);exact zH [1000] Z Z Z Z)
 rw[yBc k3]at hAe;by_cases k4:k=4
 ·rw[yBd k4]at hAe;cases hAe;have n1:=yH d4 4 zB zB;clear hA hK hC hT;refine zW n1 ?_;exact zH [1000] Z Z Z Z
 rw[yBc k4]at hAe;by_cases k6:k=6
 ·rw[yBd k6]at hAe;have n1:=yH d4 4 zB zB;have n2:=yH (ad d4) 4 zB zB;have n3:=kL (ad (ad d4)) 1 60 zB zB zB;have w1:=yC d4 4 zB;have w2:=yC (ad d4) 4 zB;have w3:=yC (ad (ad d4)) (60-1+1) zB;have cq:=cqf [nx d4 4,nx (ad d4) 4,1+nx (ad (ad d4)) (60-1+1)] zQ (.cons zB (.cons zB (.cons zB .nil))) (ad (ad (ad d4)));rw[hAe]at cq;clear cqf;clear hA hK hC hT hAe;generalize 1+nx (ad (ad d4)) (60-1+1)=x3 at *;generalize nx (ad d4) 4=x2 at *;generalize nx d4 4=x1 at *;refine yS (bY n1 n2 n3 cq) ?_;exact zH [1000] Z Z (yB8 (λz=>AV.agg [iA k,zD yA tk0,.sl false z,zD yA []]) (yBj (l:=args.map iA))) Z
 rw[yBc k6]at hAe;by_cases k7:k=7
 ·rw[yBd k7]at hAe;have n1:=yH d4 4 zB zB;have n2:=yH (ad d4) 2 zB zB;have w2:=yC (ad d4) 2 zB;have w1:=yC d4 4 zB;have hnx:RF [nx d4 4]:= .cons zB .nil;clear w1;clear hA hK hC hT;generalize nx d4 4=x1 at *;generalize nx (ad d4) 2=n at *;generalize ad d4=e4 at *;generalize ad e4=e5 at *;obtain⟨N,hN⟩:∃N:Nat,1+n.toNat=N:=⟨_,rfl⟩;have hN2:1+n=(N:Int):=by omega
  rw[hN]at hAe;refine yS (vH n1 n2) ?_;refine uK 114 Z ?_;refine zN (N) [9,1000,114,8] [8] [0,8,9] [11,0,8,9] Z (λi T U=>⟨(11,iA ((N:Int)-i))::T,(9,.box [iA k,zD yA tk0,.ref 114 0 ((XB [x1] e5 i).1.map iA).length,.s (.slice none 0 0)])::(1000,dZ (XB [x1] e5 i).2)::(114,.arr 1 ((XB [x1] e5 i).1.map iA) true)::U⟩) ?_;(conv=>whnf);refine⟨by(rw[show(N:Int)-(0:Nat)=1+n by omega];rfl),?_,?_⟩
  ·intro i hi;have hl:=(zA1 [x1] hnx e5 i).1;have eS:XB [x1] e5 (i+1)=DP (XB [x1] e5 i).1 (XB [x1] e5 i).2:=rfl;unfold DP at eS;rw[show((N:Int)-((i+1:Nat):Int))=(N:Int)-i-1 by omega];generalize (XB [x1] e5 i).1=p at *;generalize (XB [x1] e5 i).2=e at *;have hk1:1<=(N:Int)-i:=by omega
   have hk2:(N:Int)-i<=10:=by omega
   have hp:p.length<=100:=by simp at hl;omega
   generalize (N:Int)-i=q at *;have n1:=yH e 3 zB zB;have n2:=yH (ad e) 40 zB zB;have w1:=yC e 3 zB;have w2:=yC (ad e) 40 zB;generalize nx (ad e) 40=y2 at *;generalize nx e 3=y1 at *;generalize ad e=e1 at *;generalize ad e1=e2 at *;rw[eS];refine yS (vH n1 n2) ?_
   show restr _ _ _=_
   rw[yBn];rfl
  ·rw[show(N:Int)-(N:Int)=0 by omega,hAe];refine WW ?_;exact zH [1000] Z Z (yB8 (λz=>AV.agg [iA k,zD yA tk0,.sl false z,zD yA []]) (yBj (l:=args.map iA))) Z
 ·rw[yBc k7]at hAe;cases hAe;clear hA hK hC hT;refine WW ?_;exact zH [1000] Z Z Z Z
end Av
end Go.Proofs.YteajjdidebfcjaaGreat
