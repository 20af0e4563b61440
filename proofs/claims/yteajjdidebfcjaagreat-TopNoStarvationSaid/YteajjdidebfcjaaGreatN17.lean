/- Part 17. -/
import Derived.Test.YteajjdidebfcjaaGreatN16
namespace Go.Proofs.YteajjdidebfcjaaGreat
namespace Av
open Tryz
set_option linter.all false
set_option maxRecDepth 4000
set_option maxHeartbeats 2000000
def bK (k:Int):zO 107 [iA k] [] (bA (decide (1<=k/\k<=12))) []:=by
 cases hb:decide (1<=k/\k<=12)with
 |false=>(rw[yBx]at hb;(refine eM call107 λF hF=>?_);((refine WW (I2 (λhc=>?_) λhc=>?_)));all_goals (first|exact zJ|exact zXO|exact zFB))
 |true=>(rw[yBi]at hb;(refine eM call107 λF hF=>?_);((refine WW ?_));all_goals (first|exact zJ|exact zXO|exact zFB))
def fT (k:Int):zO 199 [iA k] [] (bA (decide (1<=k/\k<=12))) []:=by
 cases hb:decide (1<=k/\k<=12)with
 |false=>(rw[yBx]at hb;(refine eM call199 λF hF=>?_);((refine WW (I2 (λhc=>?_) λhc=>?_)));all_goals (first|exact zJ|exact zXO|exact zFB))
 |true=>(rw[yBi]at hb;(refine eM call199 λF hF=>?_);((refine WW ?_));all_goals (first|exact zJ|exact zXO|exact zFB))
theorem GH (fx gr:Nat) (c:Int):∀(l:List Int) (i:Nat),(QB fx gr c i l).length<=6*l.length
 | [],i=>by simp[QB]
 |x::r,i=>by
  have h1:=GH fx gr c r (i+1);have h2:=jV x;rw[QB,yBf,yBf,yBp]
  have h3:(if i=fx/\gr≠0 then [c]else []).length<=1:=by split<;>simp
  omega
def vmF (gr c:Nat) (d:List Int):Bool:=decide (d.length=0/\(gr=0∨1<=c))
def GJ (k:Int):xW k=0∨xW k=2∨xW k=4:=by
 unfold xW
 repeat' split
 all_goals omega
def GK (k:Int):vL k<=3:=by
 unfold vL
 repeat' split
 all_goals omega
theorem OZ (k:Int) (h0:1<=k) (h1:k<=12) (m:Ms) (c:Nat) (hk:m.kind=k) (ht:m.tok.length=10) (hd:m.data.length<=100000) (ha:∀x∈m.args,0<=x/\x<=4294967295) (hc:m.args.length=vL k+c*xW k) (hc3:c<=3):
  zO 98 [yB m] [] (bA (vmF (xW k) c m.data)) []:=by
 have c1:=zAx k h0 h1;have c2:=bK k;have hf:=GK k;rw[yBk ⟨h0,h1⟩]at c2;have c3:=ZL k h0 h1 m c hk ht hd ha (by have:=GJ k;rcases this with h|h|h<;>rw[h]at hc<;>omega) (λ_=>hc) hc3
 have hpl:(YZ (vL k) (xW k) c m).length<=10+(6*m.args.length+(1+m.data.length)):=by
  have h1:=GH (vL k) (xW k) c m.args 0
  have h3:(if xW k≠0/\m.args.length=vL k then [(0:Int)]else []).length<=1:=by split<;>simp
  unfold YZ;rw[yBf,yBf,yBf];omega
 have hlp:=zA yA (YZ (vL k) (xW k) c m);have hg:=GJ k;subst hk;generalize YZ (vL m.kind) (xW m.kind) c m=pl at *;generalize vL m.kind=fx at *;generalize xW m.kind=gr at *;unfold zAw at c1;have hlt:=zA yA m.tok;have hla:=zA iA m.args;have hld:=zA yA m.data
 cases hb:vmF gr c m.data with
 | true=>
  unfold vmF at hb;rw[yBi]at hb;obtain⟨hb1,hb2⟩:=hb
  rcases hg with rfl|rfl|rfl
  ·rw[yBd Z,yBd Z]at c1;refine eM call98 λF hF=>?_
   refine yS (vH c1 c2) ?_;refine yO (m.args) [1] [1] [1,97,98] [99,1,97,98] Z (λi pre T U=>⟨(99,iA i)::T,U⟩) ?_;(conv=>whnf);refine⟨by rfl,?_,?_⟩
   ·intro i pre x post hx hi;have hy:=xL iA hx hi;have hlt2:=yQ hx hi;have hxr:=ha x (wZ hx);clear hx;refine WW ?_;rfl
   ·(refine zW c3 ?_)
    exact zJ
  all_goals
   rw[yBc xO,yBc xO]at c1;have hm2:(((m.args.map iA).length:Int)-(fx:Int)).tmod ((2:Nat):Int)=0:=by rw[yC2 zB];omega
   have hm4:(((m.args.map iA).length:Int)-(fx:Int)).tmod ((4:Nat):Int)=(((m.args.map iA).length:Int)-(fx:Int)) % 4:=yC2 zB;refine eM call98 λF hF=>?_
   refine yS (vH c1 c2) ?_;refine yO (m.args) [1] [1] [1,97,98] [99,1,97,98] Z (λi pre T U=>⟨(99,iA i)::T,U⟩) ?_;(conv=>whnf);refine⟨by rfl,?_,?_⟩
   ·intro i pre x post hx hi;have hy:=xL iA hx hi;have hlt2:=yQ hx hi;have hxr:=ha x (wZ hx);clear hx;refine WW ?_;rfl
   ·(refine zW c3 ?_)
    exact zJ
 | false=>
  unfold vmF at hb;rw[yBx]at hb
  rcases hg with rfl|rfl|rfl
  ·rw[yBd Z,yBd Z]at c1;have hd0:m.data.length≠0:=λh=>hb ⟨h,.inl Z⟩
   refine eM call98 λF hF=>?_
   refine yS (vH c1 c2) ?_;exact zJ
  all_goals
   rw[yBc xO,yBc xO]at c1;have hm2:(((m.args.map iA).length:Int)-(fx:Int)).tmod ((2:Nat):Int)=0:=by rw[yC2 zB];omega
   have hm4:(((m.args.map iA).length:Int)-(fx:Int)).tmod ((4:Nat):Int)=(((m.args.map iA).length:Int)-(fx:Int)) % 4:=yC2 zB;by_cases hc1:1<=c
   ·have hd0:m.data.length≠0:=λh=>hb ⟨h,.inr hc1⟩
    refine eM call98 λF hF=>?_
    refine yS (vH c1 c2) ?_;exact zJ
   ·(refine eM call98 λF hF=>?_)
    refine yS (vH c1 c2) ?_;exact zJ
theorem NA:∀l:List Int,((l.map fL).flatten).length<=5*l.length
 | []=>by simp
 |x::l=>by
  have h1:=NA l;have h2:=jV x;rw[yCh,yDv,yBf,yBp];omega
theorem zTv (fx:Nat) (c:Int):∀(l:List Int) (i:Nat),QB fx 0 c i l=(l.map fL).flatten
 | [],i=>rfl
 |x::l,i=>by
  rw[QB,zTv fx c l (i+1),yBc (λh=>h.2 Z)];rfl
theorem zNe (fx gr:Nat) (c:Int):∀(l:List Int) (i:Nat),fx<i->QB fx gr c i l=(l.map fL).flatten
 | [],i,_=>rfl
 |x::l,i,h=>by
  rw[QB,zNe fx gr c l (i+1) zB,yBc (λh2=>by omega)];rfl
theorem zEj (fx gr:Nat) (c:Int) (hg:gr≠0) (f:List Int) (hf:f≠[]):∀(a:List Int) (i:Nat),i+a.length=fx->QB fx gr c i (a++f)=(a.map fL).flatten++([c]++(f.map fL).flatten)
 | [],i,h=>by
  cases f with
  |nil=>exact absurd Z hf
  |cons x f=>
   have hi:i=fx:=by simpa using h
   rw[yDk,QB,yBd ⟨hi,hg⟩,zNe fx gr c f (i+1) zB];rfl
 |x::a,i,h=>by
  rw[yD0,QB,zEj fx gr c hg f hf a (i+1) (by rw[yBp]at h;omega),yBc (λh2=>by rw[yBp]at h;omega),yDk,yCh,yDv,yCa]
theorem zGk (k:Int) (h0:1<=k) (h1:k<=12) (p:List Int) (hb:BY p) (hn:p.length<=100000):zO 71 [iA k,zD yA p] [] (deT k (p.take 10) (PP (vL k) (xW k) p)) []:=by
 have hl:=zA yA p;have c1:=zAx k h0 h1;have cf:=bK k;rw[yBk ⟨h0,h1⟩]at cf;have hf:=GK k;have hg:=GJ k;by_cases hlen:p.length<10
 ·rw[show PP (vL k) (xW k) p=none from yBd (.inr hlen)]
  show zO 71 [iA k,zD yA p] [] (.tup [yB ⟨0,[],[],[]⟩,iA 6]) []
  unfold zAw at c1;refine eM call71 λF hF=>?_
  refine yS (vH c1 cf) ?_;exact zJ
 have hbd:BY (p.drop 10):=λy hy=>hb y (yCt hy)
 have hdl:(p.drop 10).length<=100000:=by rw[yCj];omega
 have htl:((p.take 10).map yA).length=10:=by rw[yBe,yB4];omega
 have htl2:((p.take (10:Int).toNat).map yA).length=10:=htl;have c2:=XC (p.drop 10) (vL k) hbd hdl zB
 cases hnb:ZN (vL k) (p.drop 10)with
 | none=>
  have e:PP (vL k) (xW k) p=none:=by
   unfold PP;rw[hnb]
   split<;>rfl
  rw[e];rw[hnb]at c2
  show zO 71 [iA k,zD yA p] [] (.tup [yB ⟨0,[],[],[]⟩,iA 6]) []
  unfold nbT at c2;unfold zAw at c1;refine eM call71 λF hF=>?_
  (have zc1:=c1;have zc2:=cf;have zc3:=c2;(repeat' (first|refine uC ?_|((first|apply xE|apply xV)<;>intro hc)|(refine zE ?_;first|(refine yM ?_;refine fC tok Z Z Z Z Z Z (yV _ _ (λ_=>rfl)) Z Z Z zB Z Z Z ?_))|fail))<;>clear zc1 zc2 zc3)
  exact zJ
 |some q=>
 obtain⟨a,r⟩:=q;obtain⟨ha,hbr,har,hsp⟩:=dX _ _ _ _ hbd hnb;have hfl:=NA a
 have hpl:p.length=10+(((a.map fL).flatten).length+r.length):=by
  have:=yB8 List.length hsp;rw[yBf,yCj]at this;omega
 have hsp0:p=p.take 10++((a.map fL).flatten++r):=by rw[<-hsp,yEz]
 have hlr:=zA yA r;have hla:=zA iA a;have hrl:r.length<=100000:=by omega
 rw[hnb]at c2;unfold nbT at c2
 rcases Nat.eq_zero_or_pos (xW k)with hg0|hg0
 ·have v1:=OZ k h0 h1 ⟨k,p.take 10,a,r⟩ 0 Z BK hrl har (by rw[hg0];exact ha) zB;have v2:=ZL k h0 h1 ⟨k,p.take 10,a,r⟩ 0 Z BK hrl har (by show a.length<=1000;omega) (λh=>absurd hg0 h) zB;rw[hg0]at v1 v2 c1⊢;unfold zAw at c1;by_cases hr:r=[]
  ·subst hr
   have e:PP (vL k) 0 p=some a:=by
    unfold PP;rw[yBc (by rw[yCr]at hpl;omega),hnb];rfl
   have e2:YZ (vL k) 0 0 ⟨k,p.take 10,a,[]⟩=p:=by
    unfold YZ;rw[zTv]
    conv=>rhs;rw[hsp0]
    simp
   rw[e];rw[show((0:Nat):Int)=0 from Z,e2]at v2;rw[show vmF 0 0 ([]:List Int)=true from Z]at v1;have heq:=BR p;clear e2 hsp0 hnb hsp
   show zO 71 [iA k,zD yA p] [] (.tup [yB ⟨k,p.take 10,a,[]⟩,iA 0]) []
   generalize vL k=fx at *;refine eM call71 λF hF=>?_
   (have zc1:=c1;have zc2:=cf;have zc3:=c2;have zc4:=v1;have zc5:=v2;(repeat' (first|refine uC ?_|((first|apply xE|apply xV)<;>intro hc)|(refine zE ?_;first|(refine yM ?_;first|(refine uO [4,6,7] [0,1,4,5,6,7,93] Z ?_;(conv=>whnf);(try simp only[yCg,yBj]);refine kQ tok Z Z Z Z Z Z (yV _ _ (λ_=>rfl)) Z Z Z zB Z ?_)|refine fC tok Z Z Z Z Z Z (yV _ _ (λ_=>rfl)) Z Z Z zB Z Z Z ?_))|fail))<;>clear zc1 zc2 zc3 zc4 zc5)
   exact zJ
  ·have hr0:r.length≠0:=λh=>hr (yCb h)
   have e:PP (vL k) 0 p=none:=by
    unfold PP;rw[hnb];split
    ·rfl
    ·show(if(0:Nat)=0 then(if r=[]then some a else none)else _)=none
     rw[yBd Z,yBc hr]
   rw[e];rw[show vmF 0 0 r=false from yBm (λh=>hr0 h.1)]at v1;clear v2 hsp0 hnb hsp
   show zO 71 [iA k,zD yA p] [] (.tup [yB ⟨0,[],[],[]⟩,iA 6]) []
   generalize vL k=fx at *;refine eM call71 λF hF=>?_
   (have zc1:=c1;have zc2:=cf;have zc3:=c2;have zc4:=v1;(repeat' (first|refine uC ?_|((first|apply xE|apply xV)<;>intro hc)|(refine zE ?_;first|(refine yM ?_;first|(refine uO [4,6,7] [0,1,4,5,6,7,93] Z ?_;(conv=>whnf);(try simp only[yCg,yBj]);refine kQ tok Z Z Z Z Z Z (yV _ _ (λ_=>rfl)) Z Z Z zB Z ?_)|refine fC tok Z Z Z Z Z Z (yV _ _ (λ_=>rfl)) Z Z Z zB Z Z Z ?_))|fail))<;>clear zc1 zc2 zc3 zc4)
   exact zJ
 have hg4:xW k<=4:=by omega
 have c3:=XC r 1 hbr hrl zB;unfold zAw at c1;rw[yBc zB,yBc zB]at c1
 cases hnc:ZN 1 r with
 | none=>
  have e:PP (vL k) (xW k) p=none:=by
   unfold PP;rw[hnb];split
   ·rfl
   ·show(if xW k=0 then _ else match ZN 1 r with|none=>none|some (c,r2)=>_)=none
    rw[yBc zB,hnc]
  rw[e];rw[hnc]at c3;unfold nbT at c3
  show zO 71 [iA k,zD yA p] [] (.tup [yB ⟨0,[],[],[]⟩,iA 6]) []
  clear hsp0 hnb hsp hnc e;generalize vL k=fx at *;generalize xW k=gr at *;refine eM call71 λF hF=>?_
  (have zc1:=c1;have zc2:=cf;have zc3:=c2;have zc4:=c3;(repeat' (first|refine uC ?_|((first|apply xE|apply xV)<;>intro hc)|(refine zE ?_;first|(refine yM ?_;first|(refine uO [4,6,7] [0,1,4,5,6,7,93] Z ?_;(conv=>whnf);(try simp only[yCg,yBj]);refine kQ tok Z Z Z Z Z Z (yV _ _ (λ_=>rfl)) Z Z Z zB Z ?_)|refine fC tok Z Z Z Z Z Z (yV _ _ (λ_=>rfl)) Z Z Z zB Z Z Z ?_))|fail))<;>clear zc1 zc2 zc3 zc4)
  exact zJ
 |some q2=>
 obtain⟨c,r2⟩:=q2;obtain⟨hc1,hbr2,hcr,hsp2⟩:=dX _ _ _ _ hbr hnc
 obtain⟨v,rfl⟩:∃v,c=[v]:=by
  cases c with
  |nil=>cases hc1
  |cons v c=>cases c with
   |nil=>exact⟨v,rfl⟩
   |cons w c=>simp at hc1
 have hv0:=(hcr v zQ).1
 have hrl2:r2.length<=100000:=by
  have:=yB8 List.length hsp2;rw[yBf]at this;omega
 rw[hnc]at c3;unfold nbT at c3
 have eD:¬(200<p.length∨p.length<10)->PP (vL k) (xW k) p=if v<1∨3<v then none else match ZN (v.toNat*xW k) r2 with
   |none=>none
   |some (f,r3)=>if r3=[]then some (a++f)else none:=λh=>by
  unfold PP;rw[yBc h,hnb]
  show(if xW k=0 then _ else match ZN 1 r with|none=>none|some (c,r2)=>_)=_
  rw[yBc zB,hnc];rfl
 by_cases hv3:3<v
 ·have e:PP (vL k) (xW k) p=none:=by
   by_cases h:200<p.length∨p.length<10
   ·exact yBd h
   ·rw[eD h,yBd (.inr hv3)]
  rw[e]
  show zO 71 [iA k,zD yA p] [] (.tup [yB ⟨0,[],[],[]⟩,iA 6]) []
  clear hsp0 hnb hsp hnc e eD hsp2;generalize vL k=fx at *;generalize xW k=gr at *;refine eM call71 λF hF=>?_
  (have zc1:=c1;have zc2:=cf;have zc3:=c2;have zc4:=c3;(repeat' (first|refine uC ?_|((first|apply xE|apply xV)<;>intro hc)|(refine zE ?_;first|(refine yM ?_;first|(refine uO [4,6,7] [0,1,4,5,6,7,93] Z ?_;(conv=>whnf);(try simp only[yCg,yBj]);refine kQ tok Z Z Z Z Z Z (yV _ _ (λ_=>rfl)) Z Z Z zB Z ?_)|refine fC tok Z Z Z Z Z Z (yV _ _ (λ_=>rfl)) Z Z Z zB Z Z Z ?_))|fail))<;>clear zc1 zc2 zc3 zc4)
  exact zJ
 have hvg:v.toNat*xW k<=12:=yCp (yEc (show v.toNat<=3 by omega) hg4) xO;have evg:((v.toNat*xW k:Nat):Int)=v*(xW k:Int):=by rw[yHc,yFr zB]
 have c4:=XC r2 (v.toNat*xW k) hbr2 hrl2 zB;have hm:0<=v*(xW k:Int)/\v*(xW k:Int)<=12:=by rw[<-evg];omega
 cases hnd:ZN (v.toNat*xW k) r2 with
 | none=>
  have e:PP (vL k) (xW k) p=none:=by
   by_cases h:200<p.length∨p.length<10
   ·exact yBd h
   ·rw[eD h,hnd]
    split<;>rfl
  rw[e];rw[hnd,evg]at c4;unfold nbT at c4
  show zO 71 [iA k,zD yA p] [] (.tup [yB ⟨0,[],[],[]⟩,iA 6]) []
  clear hsp0 hnb hsp hnc e eD hsp2 hnd evg hvg;generalize vL k=fx at *;generalize xW k=gr at *;refine eM call71 λF hF=>?_
  (have zc1:=c1;have zc2:=cf;have zc3:=c2;have zc4:=c3;have zc5:=c4;(repeat' (first|refine uC ?_|((first|apply xE|apply xV)<;>intro hc)|(refine zE ?_;first|(refine yM ?_;first|(refine uO [4,6,7] [0,1,4,5,6,7,93] Z ?_;(conv=>whnf);(try simp only[yCg,yBj]);refine kQ tok Z Z Z Z Z Z (yV _ _ (λ_=>rfl)) Z Z Z zB Z ?_)|refine fC tok Z Z Z Z Z Z (yV _ _ (λ_=>rfl)) Z Z Z zB Z Z Z ?_))|fail))<;>clear zc1 zc2 zc3 zc4 zc5)
  exact zJ
 |some q3=>
 obtain⟨f,r3⟩:=q3;obtain⟨hfl3,hbr3,hfr,hsp3⟩:=dX _ _ _ _ hbr2 hnd;have hlf:=zA iA f;have hf12:f.length<=12:=by omega
 have hlr3:=zA yA r3
 have hrl3:r3.length<=100000:=by
  have:=yB8 List.length hsp3;rw[yBf]at this;omega
 rw[hnd,evg]at c4;unfold nbT at c4;have hal:(a++f).length=vL k+v.toNat*xW k:=by rw[yBf,ha,hfl3]
 have har2:∀x∈a++f,0<=x/\x<=4294967295:=λx hx=>by
  rcases yBy.1 hx with h|h
  ·exact har x h
  ·exact hfr x h
 have v1:=OZ k h0 h1 ⟨k,p.take 10,a++f,r3⟩ v.toNat Z BK hrl3 har2 hal zB;have v2:=ZL k h0 h1 ⟨k,p.take 10,a++f,r3⟩ v.toNat Z BK hrl3 har2 (by show(a++f).length<=1000;omega) (λ_=>hal) zB
 have hms:∀t:List Int,yB ⟨k,t,a++f,r3⟩= .agg [iA k,zD yA t,.sl false (a.map iA++f.map iA),zD yA r3]:=λt=>by
  rw[<-yBn];rfl
 rw[hms]at v1 v2;by_cases hok:r3=[]/\1<=v
 ·obtain⟨rfl,hv1⟩:=hok;have hff:=NA f;have hev:fL v=[v]:=TE zB
  have hr2:r=[v]++(f.map fL).flatten:=by
   rw[hsp2,hsp3,yCd];simp[hev]
  have hfn:f≠[]:=λh=>by
   rw[h]at hfl3;have:0<v.toNat*xW k:=Nat.mul_pos zB hg0;simp at hfl3;omega
  have e2:YZ (vL k) (xW k) (v.toNat:Int) ⟨k,p.take 10,a++f,[]⟩=p:=by
   unfold YZ;rw[yBc (λh=>by have:=h.2;rw[hal]at this;have h3:0<v.toNat*xW k:=Nat.mul_pos zB hg0;omega)]
   show(p.take 10++QB (vL k) (xW k) (v.toNat:Int) 0 (a++f))++([]++[])=p
   rw[zEj _ _ _ zB f hfn a 0 zB,yFr hv0,yCd,yCd,<-hr2];exact hsp0.symm
  have hp200:¬(200<p.length∨p.length<10):=by
   have:=yB8 List.length hr2;rw[yBf,yDu]at this;omega
  have e:PP (vL k) (xW k) p=some (a++f):=by
   rw[eD hp200,yBc zB,hnd];rfl
  rw[e];rw[e2]at v2;rw[show vmF (xW k) v.toNat ([]:List Int)=true from yBk ⟨rfl,.inr zB⟩]at v1;have heq:=BR p
  show zO 71 [iA k,zD yA p] [] (.tup [yB ⟨k,p.take 10,a++f,[]⟩,iA 0]) []
  rw[hms];clear hsp0 hnb hsp hnc e eD hsp2 hnd evg hvg e2 hr2 hev hms hal hfl3 hsp3;generalize vL k=fx at *;generalize xW k=gr at *;refine eM call71 λF hF=>?_
  (have zc1:=c1;have zc2:=cf;have zc3:=c2;have zc4:=c3;have zc5:=c4;have zc6:=v1;have zc7:=v2;(repeat' (first|refine uC ?_|((first|apply xE|apply xV)<;>intro hc)|(refine zE ?_;first|(refine yM ?_;first|(refine uO [4,6,7] [0,1,4,5,6,7,93] Z ?_;(conv=>whnf);(try simp only[yCg,yBj]);refine kQ tok Z Z Z Z Z Z (yV _ _ (λ_=>rfl)) Z Z Z zB Z ?_)|refine fC tok Z Z Z Z Z Z (yV _ _ (λ_=>rfl)) Z Z Z zB Z Z Z ?_))|fail))<;>clear zc1 zc2 zc3 zc4 zc5 zc6 zc7)
  exact zJ
 ·have e:PP (vL k) (xW k) p=none:=by
   by_cases h:200<p.length∨p.length<10
   ·exact yBd h
   ·rw[eD h];by_cases hv1:v<1
    ·rw[yBd (.inl hv1)]
    ·rw[yBc zB,hnd];exact yBc λh3=>hok ⟨h3,zB⟩
  rw[e]
  rw[show vmF (xW k) v.toNat r3=false from yBm (λh=>by
   rcases h with⟨h3,h4⟩
   exact hok ⟨yCb h3,zB⟩)]at v1
  show zO 71 [iA k,zD yA p] [] (.tup [yB ⟨0,[],[],[]⟩,iA 6]) []
  clear hsp0 hnb hsp hnc e eD hsp2 hnd evg hvg hms hal hfl3 hsp3 v2;generalize vL k=fx at *;generalize xW k=gr at *;refine eM call71 λF hF=>?_
  (have zc1:=c1;have zc2:=cf;have zc3:=c2;have zc4:=c3;have zc5:=c4;have zc6:=v1;(repeat' (first|refine uC ?_|((first|apply xE|apply xV)<;>intro hc)|(refine zE ?_;first|(refine yM ?_;first|(refine uO [4,6,7] [0,1,4,5,6,7,93] Z ?_;(conv=>whnf);(try simp only[yCg,yBj]);refine kQ tok Z Z Z Z Z Z (yV _ _ (λ_=>rfl)) Z Z Z zB Z ?_)|refine fC tok Z Z Z Z Z Z (yV _ _ (λ_=>rfl)) Z Z Z zB Z Z Z ?_))|fail))<;>clear zc1 zc2 zc3 zc4 zc5 zc6)
  exact zJ
def zGl (l:List Rq) (q:Int) (hv:bZ l) (hq:¬(l.length:Int)<=q):zO 246 [zD yI l,iA q] [] (bA false) []:=by
 have hl:=zA yI l;have h4:=hv.n4;refine eM call246 λF hF=>?_
 refine WW ?_;exact zJ
def zGm (l:List Rq) (q id:Int) (v:Vh) (life:Int) (x:List Lg) (now:Int) (hv:bZ l) (hq:¬(l.length:Int)<=q):
  zO 245 [zD yI l,iA q,iA id,vY v,iA life,zD xS x,iA now] [] (.tup [zD yI [],iA 1]) []:=by
 have c1:=zGl l q hv hq;refine eM call245 λF hF=>?_
 refine zW c1 ?_;exact zJ
def NB {l:List Rq} {r x:Rq}:x∈bQ l r->x=r∨x∈l:=λh=>by
 unfold bQ at h
 rcases yBy.1 h with h|h
 ·exact .inr (yDb h)
 ·rcases yCk.1 h with h|h
  ·exact .inl h
  ·exact .inr (yCt h)
def zW7 {l:List Rq} {q id life now:Int} {v:Vh} {x:List Lg} (hv:bZ l) (he:suE l q id life x=0) (v0:0<=v.id) (v1:v.id<=4294967295) (w0:0<=v.cls) (w1:v.cls<=3) (n0:0<=now) (n1:now<=1073741824):bZ (bQ l (cY id v life x now)):=by
 have h1:0<=id/\id<=4294967295/\1<=life/\life<=600/\MM x=true:=by
  by_cases h:0<=id/\id<=4294967295/\1<=life/\life<=600/\MM x=true
  ·exact h
  ·rw[suE,yBd h]at he;cases he
 rw[suE,yBc (λh=>h h1)]at he
 have hh:gB l id=false:=by
  cases h:gB l id with
  |false=>rfl
  |true=>rw[yBd h]at he;cases he
 rw[yBc (by rw[hh];decide)]at he;have hq:¬(q<=l.length∨4<=(l.length:Int)):=λh=>by rw[yBd h]at he;cases he
 have hno:∀r∈l,r.id≠id:=by simpa [gB]using hh
 have hle:=IW l id;refine⟨λr hr=>?_,?_,?_⟩
 ·rcases NB hr with rfl|hr
  ·exact⟨h1.1,h1.2.1,v0,v1,w0,w1,by show 0<=now+life;omega,by show now+life<=2147483648;omega,h1.2.2.2.2⟩
  ·exact hv.ok r hr
 ·have hs:=hv.so;unfold bQ
  show((l.take (SP l id))++cY id v life x now::l.drop (SP l id)).Pairwise _
  rw[yFl,yFw];have hs2:=hs;rw[<-yEz (SP l id) l,yFl]at hs2
  have hlo:∀y∈l.take (SP l id),y.id<id:=λy hy=>by
   obtain⟨i,hi,rfl⟩:=yEo.1 hy;rw[yB4]at hi;have:=zLk (l:=l) (id:=id) (i:=i) zB;rw[List.getElem_take];simpa [List.getD,show i<l.length by omega]using this
  have hhi:∀y∈l.drop (SP l id),id<y.id:=λy hy=>by
   have hne:=hno y (yCt hy);by_cases hk:SP l id<l.length
   ·have h2:=zLl hk;rw[yDx hk]at hy;have e:l.getD (SP l id) default=l[SP l id]:=by simp[List.getD,hk]
    rw[e]at h2
    rcases yCk.1 hy with rfl|hy
    ·omega
    ·have hs3:=hs2.2.1;rw[yDx hk,yFw]at hs3;have:=hs3.1 y hy;omega
   ·rw[yE7 zB]at hy;cases hy
  refine⟨hs2.1,⟨hhi,hs2.2.1⟩,λa ha b hb=>?_⟩
  rcases yCk.1 hb with rfl|hb
  ·exact hlo a ha
  ·have:=hlo a ha;have:=hhi b hb;omega
 ·unfold bQ;rw[yBf,yBp,yB4,yCj]
  show min (SP l id) l.length+(l.length-SP l id+1)<=4
  omega
def zW8 {now:Int} {g:Lg} {p:Int×Int} (hg:NY g=true) (h:okW now g p=true):NY (nwL now g p)=true:=by
 unfold NY at hg;unfold okW mwB at h;rw[yBi]at hg h;unfold NY nwL;rw[yBi];dsimp only;omega
theorem zEk {now:Int}:∀(gs:List Lg) (w:List (Int×Int)) (pre pre':List Lg),pre'.map (·.jn)=pre.map (·.jn)->w.length=gs.length->(gs.zipWith (okW now) w).all id=true->gC pre gs=true->gC pre' (gs.zipWith (nwL now) w)=true
 | [],w,pre,pre',_,_,_,_=>by cases w<;>rfl
 |g::gs,[],pre,pre',_,hl,_,_=>by simp at hl
 |g::gs,p::w,pre,pre',hp,hl,ha,h=>by
  rw[yEu,yG4,yBq]at ha;rw[gC,yBq,yBq]at h;obtain⟨h1,h2,h3⟩:=h;rw[yEu,gC,yBq,yBq];refine⟨zW8 h1 ha.1,?_,zEk gs w (pre++[g]) (pre'++[nwL now g p]) (by rw[yBn,yBn,hp];rfl) BL ha.2 h3⟩;have e:∀l:List Lg,(l.any λy=>y.jn==g.jn)=(l.map (·.jn)).any (· ==g.jn):=λl=>by rw[List.any_map];rfl
  show(!(pre'.any λy=>y.jn==g.jn))=true
  rw[e,hp,<-e];exact h2
def zW9 {l:List Rq} {id now:Int} {w:List (Int×Int)} (hv:bZ l) (he:cW l id w now=0):bZ (MG l id w now):=by
 have hh:gB l id=true:=by
  cases h:gB l id with
  |true=>rfl
  |false=>rw[cW,yBc (by rw[h];decide)]at he;cases he
 obtain⟨pre,x,post,hL,hx,_,hf,_⟩:=LU hh;rw[cW,yBd hh,hf]at he
 have hw:w.length=x.legs.length/\DV x.legs w now=true:=by
  by_cases h:w.length=x.legs.length/\DV x.legs w now=true
  ·exact h
  ·rw[yBc h]at he;cases he
 have hxo:=hv.ok x (by rw[hL];simp);rw[zDp hL hv hx];have hs:=hv.so;have h4:=hv.n4;rw[hL]at hs h4;rw[yFl,yFw]at hs;refine⟨λr hr=>?_,?_,by simpa using h4⟩
 ·rw[yBy,yCk]at hr
  rcases hr with hr|rfl|hr
  ·exact hv.ok r (by rw[hL];simp[hr])
  ·refine⟨hxo.i0,hxo.i1,hxo.v0,hxo.v1,hxo.c0,hxo.c1,hxo.t0,hxo.t1,?_⟩;have h1:=IZ hxo.lg
   have h2:gC [] x.legs=true:=by
    have:=hxo.lg;rw[MM,yBq]at this;exact this.2
   unfold MM;rw[yBq];exact⟨yBk (by rw[yFs];omega),zEk x.legs w [] [] Z hw.1 hw.2 h2⟩
  ·exact hv.ok r (by rw[hL];simp[hr])
 ·rw[yFl,yFw];refine⟨hs.1,⟨hs.2.1.1,hs.2.1.2⟩,λa ha b hb=>?_⟩
  rcases yCk.1 hb with rfl|hb
  ·exact hs.2.2 a ha x zQ
  ·exact hs.2.2 a ha b (by simp[hb])
def GL (r:Rg) (hb:CP r):zO 165 [uZ r] [] (uZ r) []:=by
 have hs:=hb.s;have hlm:=hb.l;have k1:=wX r.ag.sec zB;have k2:=VK r.ag.lim zB;have hn:=hb.tk.n;have hv:=hb.v;have c2:=XG r.tk zB;have c3:=CN r.vh zB;have hll:=zA xB r.tk;refine eM call165 λF hF=>?_
 refine yS (gW k1 k2 c2) ?_;refine zN ((r.tk.map xB).length) [1001,1,2] [1,2] [1,2,22] [23,1,2,22] Z (λi T U=>⟨(23,iA i)::T,(1001,.arr 6 (kV i (r.tk.map xB)) false)::U⟩) ?_;(conv=>whnf);refine⟨by rfl,?_,?_⟩
 ·intro i hi;have hi':i<r.tk.length:=by omega
  have hy:(kV i (r.tk.map xB))[i]? =some (xB (r.tk.getD i default)):=zM xB r.tk i hi';have e:=qZ xB r.tk i hi';have c2:=wX (r.tk.getD i default).sec (by have:=hb.tk.s (r.tk.getD i default) bS;omega);generalize (r.tk.getD i default)=t at *;generalize kV i (r.tk.map xB)=xs at *;generalize kV (i+1) (r.tk.map xB)=ys at *;subst e;refine zW c2 ?_;rfl
 ·(refine zW c3 ?_)
  exact zH [] Z Z (yB8 (rgX r) yBj) Z
structure xH where
 rg:Rg
 rq:List Rq
 dr:List (List Int)
 au:List Bool
def kI (l:List Int):AV:=zD yA l
def wF (r:Rg) (a b c:AV):AV:= .agg [iA r.num,zD yA r.ag.sec,iA r.ag.rights,iA r.ag.cls,zD iA r.ag.lim,iA r.ag.req,iA r.ag.ses,iA r.ag.rate,iA r.ag.burst,zD xB r.tk,zD vY r.vh,iA r.bk.level,iA r.bk.rate,iA r.bk.burst,a,b,c]
def zI (d:xH):AV:=wF d.rg (zD yI d.rq) (zD kI d.dr) (zD bA d.au)
structure fY (d:xH):Prop where
 rg:CP d.rg
 q:d.rq.length<=1000
 g:∀r∈d.rq,r.legs.length<=1000
 n:d.dr.length<=1000
 e:∀b∈d.dr,b.length<=1000
 a:d.au.length<=1000
def XT (l:List Rq) (hl:l.length<=1073741824):zO 166 [zD yI l] [] (.ref 1001 0 (l.map yI).length) [(1001,.arr 5 (l.map yI) false)]:=by
 have hll:=zA yI l;refine eM call166 λF hF=>?_
 refine yY 0 Z (λcap hx=>?_) ?_
 ·have:l=[]:=by simpa using hx
  subst this
  (repeat' (first|refine WZN ?_|((first|apply xE|apply xV)<;>intro hc)|fail))
  refine uL 2 1001 5 Z Z Z (yZ ?_);exact zK [1001] Z Z Z Z
 ·repeat' (first|(refine zE ?_;first|refine vV tok Z Z ?_|(refine wO ?_;refine wK (xK tok (.inl ⟨rfl,rfl⟩) Z Z Z Z) Z ?_)|(refine yR ?_;refine qA (nw:=[1001]) (yJ tok 1001 (xs:=[]) Z Z Z Z Z Z Z Z Z) Z Z Z ?_)|(refine yM ?_;refine wJ tok Z Z Z Z Z Z Z (yV _ _ (λ_=>rfl)) Z Z Z zB Z ?_)|refine qR ?_)|(first|refine xT ?_|refine xI ?_|refine vJ Z ?_|refine zZ Z ?_|refine zV Z ?_|refine xQ Z (λhc=>?_) λhc=>?_|refine xD ?_|refine yZ ?_|refine xJ ?_|refine yX ?_))
  exact zK [1001] Z Z Z Z
def NC (l:List (List Int)) (hl:l.length<=1073741824):zO 168 [zD kI l] [] (.ref 1002 0 (l.map kI).length) [(1002,.arr 1 (l.map kI) false)]:=by
 have hll:=zA kI l;refine eM call168 λF hF=>?_
 refine yY 0 Z (λcap hx=>?_) ?_
 ·have:l=[]:=by simpa using hx
  subst this
  (repeat' (first|refine WZN ?_|((first|apply xE|apply xV)<;>intro hc)|fail))
  refine uL 2 1002 1 Z Z Z (yZ ?_);exact zK [1002] Z Z Z Z
 ·repeat' (first|(refine zE ?_;first|refine vV tok Z Z ?_|(refine wO ?_;refine wK (xK tok (.inl ⟨rfl,rfl⟩) Z Z Z Z) Z ?_)|(refine yR ?_;refine qA (nw:=[1002]) (yJ tok 1002 (xs:=[]) Z Z Z Z Z Z Z Z Z) Z Z Z ?_)|(refine yM ?_;refine wJ tok Z Z Z Z Z Z Z (yV _ _ (λ_=>rfl)) Z Z Z zB Z ?_)|refine qR ?_)|(first|refine xT ?_|refine xI ?_|refine vJ Z ?_|refine zZ Z ?_|refine zV Z ?_|refine xQ Z (λhc=>?_) λhc=>?_|refine xD ?_|refine yZ ?_|refine xJ ?_|refine yX ?_))
  exact zK [1002] Z Z Z Z
def AG (l:List Bool) (hl:l.length<=1073741824):zO 169 [zD bA l] [] (zD bA l) []:=by
 have hll:=zA bA l;refine eM call169 λF hF=>?_
 refine yY 0 Z (λcap hx=>?_) ?_
 ·have:l=[]:=by simpa using hx
  subst this;refine WW ?_;exact zJ
 ·(refine WW ?_)
  refine zH [] Z Z (dP _ _) Z
def cQ (d:xH) (hb:fY d):zO 127 [zI d] [] (zI d) []:=by
 have k1:=GL d.rg hb.rg;have hq:=hb.q;have hdn:=hb.n;have hau:=hb.a;have k2:=XT d.rq zB;have k3:=NC d.dr zB;have k4:=AG d.au zB;have hlq:=zA yI d.rq;have hld:=zA kI d.dr;unfold zI wF;unfold uZ at k1;refine eM call127 λF hF=>?_
 refine yS (vH k1 k2) ?_;refine zN ((d.rq.map yI).length) [1001,1,2] [1,2] [1,2,15] [16,1,2,15] Z (λi T U=>⟨(16,iA i)::T,(1001,.arr 5 (kV i (d.rq.map yI)) false)::U⟩) ?_;(conv=>whnf);refine⟨by rfl,?_,?_⟩
 ·intro i hi;have hi':i<d.rq.length:=by omega
  have hy:(kV i (d.rq.map yI))[i]? =some (yI (d.rq.getD i default)):=zM yI d.rq i hi';have e:=qZ yI d.rq i hi';have c2:=cI (d.rq.getD i default).legs (hb.g (d.rq.getD i default) bS);generalize (d.rq.getD i default)=t at *;generalize kV i (d.rq.map yI)=xs at *;generalize kV (i+1) (d.rq.map yI)=ys at *;subst e;refine zW c2 ?_;rfl
 ·(refine zW k3 ?_)
  refine zN ((d.dr.map kI).length) [1002,1,2,1001] [1,2,1001] [1,2,38] [39,1,2,38] Z (λi T U=>⟨(39,iA i)::T,(1002,.arr 1 (kV i (d.dr.map kI)) false)::U⟩) ?_;(conv=>whnf);refine⟨by rfl,?_,?_⟩
  ·intro i hi;have hi':i<d.dr.length:=by omega
   have hy:(kV i (d.dr.map kI))[i]? =some (kI (d.dr.getD i default)):=zM kI d.dr i hi';have e:=qZ kI d.dr i hi';have c2:=wX (d.dr.getD i default) (by have:=hb.e (d.dr.getD i default) bS;omega);generalize (d.dr.getD i default)=t at *;generalize kV i (d.dr.map kI)=xs at *;generalize kV (i+1) (d.dr.map kI)=ys at *;subst e;refine zW c2 ?_;rfl
  ·(refine zW k4 ?_)
   refine zH [] Z Z ?_ Z
   show wF d.rg (.sl false ((d.rq.map yI).take (d.rq.map yI).length)) (.sl false ((d.dr.map kI).take (d.dr.map kI).length)) (zD bA d.au)=_
   rw[yBj,yBj];rfl
def jJ (d:xH) (hb:fY d):yU [zI d] [] (zI d) []:=yF
def cR (l:List Vh) (id:Int):Vh:=(l.find? λv=>v.id==id).getD ⟨0,0⟩
def TX (l:List Vh) (id:Int):Bool:=l.any λv=>v.id==id
def zGn {l pre post:List Vh} {x:Vh} {id:Int} (h:l=pre++x::post) (hn:∀y∈pre,y.id≠id) (hx:x.id=id):cR l id=x/\TX l id=true:=by
 subst h;have h1:pre.find? (λv=>v.id==id)=none:=yGg.2 λy hy=>by simpa using hn y hy
 refine⟨?_,by simp[TX,hx]⟩;unfold cR;rw[yG7,h1];simp[hx]
def zB1 {l:List Vh} {id:Int} (hn:∀y∈l,y.id≠id):cR l id=⟨0,0⟩/\TX l id=false:=by
 have h1:l.find? (λv=>v.id==id)=none:=yGg.2 λy hy=>by simpa using hn y hy
 exact⟨by unfold cR;rw[h1];rfl,by simpa [TX]using hn⟩
def zR1 (l:List Vh) (id:Int) (hn:l.length<=1000000):yU [zD vY l,iA id] [] (.tup [vY (cR l id),bA (TX l id)]) []:=yF
def kW (l:List Vh) (c:Int):Nat:=(l.filter λv=>v.cls==c).length
def zNf (l:List Vh) (c:Int) (hn:l.length<=1000000):yU [zD vY l,iA c] [] (iA (kW l c)) []:=yF
def TY (l:List Vh) (i:Nat):Bool:=decide (0<=(l.getD i default).id/\(l.getD i default).id<=4294967295/\0<=(l.getD i default).cls/\(l.getD i default).cls<=3/\(0<i->(l.getD (i-1) default).id<(l.getD i default).id))
def FN (l:List Vh):Bool:=((List.range l.length).all λi=>TY l i)&&decide ((l.length:Int)<=8)
def zXa {l:List Vh} {i:Nat} (hi:i<l.length) (h:TY l i=false):FN l=false:=by
 unfold FN;have:((List.range l.length).all λi=>TY l i)=false:=yD7.2 ⟨i,yBz.2 hi,by simp[h]⟩;rw[this];simp
def zGo (l:List Vh) (hn:l.length<=1000000):yU [zD vY l] [] (bA (FN l)) []:=yF
def gE (k v:Int):Ms:=⟨14,[],[k,v],[]⟩
def GM (k v:Int):zO 203 [iA k,iA v] [] (yB (gE k v)) []:=by
 refine eM call203 λF hF=>?_
 refine WL ?_;exact zJ
def GN (l:List Tk):Nat:=(l.filter λt=>!t.used).length
def bO (d:xH):Ms:=⟨20,[],[(GN d.rg.tk:Int),8-(d.rg.vh.length:Int),d.rg.ag.req-(d.rq.length:Int),d.rg.bk.level],[]⟩
def zGp (pre:List Tk) (x:Tk):GN (pre++[x])=GN pre+(if x.used=true then 0 else 1):=by
 unfold GN;rw[yEm,yBf]
 cases hu:x.used<;>simp[hu]
def zR2 (d:xH) (hb:fY d) (h0:0<=d.rg.ag.req) (h1:d.rg.ag.req<=1000):yU [zI d] [] (yB (bO d)) []:=yF
def zB2 (d:xH) (k now:Int) (hk1:k≠1) (hk9:k≠9) (hb:fY d) (h0:0<=d.rg.ag.req) (h1:d.rg.ag.req<=1000):zO 204 [zI d,iA k,iA now] [] (yB (bO d)) []:=by
 have hq:=hb.q;have hn:=hb.rg.tk.n;have hv:=hb.rg.v;have hlt:=zA xB d.rg.tk;have hlv:=zA vY d.rg.vh;have hlq:=zA yI d.rq;unfold bO;rw[<-hlv,<-hlq];unfold zI wF;refine eM call204 λF hF=>?_
 refine WW ?_;refine yO (d.rg.tk) [3,6] [3,6] [3,6,45,46] [10,47,3,6,45,46] Z (λi pre T U=>⟨(10,iA (GN pre))::(47,iA i)::T,U⟩) ?_;(conv=>whnf);refine⟨by rfl,?_,?_⟩
 ·intro i pre x post hx hi;have hy:=xL xB hx hi;have hlt2:=yQ hx hi;have hle:GN pre<=i:=by rw[<-hi];exact yDr _ _
  have e:=zGp pre x;clear hx
  cases hu:x.used with
  |true=>
   rw[hu,yBd Z,yEn]at e;rw[e];generalize GN pre=m at *;obtain⟨us,sec,par,ri,cl,ti⟩:=x;cases hu;refine WW ?_;rfl
  |false=>
   rw[hu,yBc yBw]at e;rw[e];generalize GN pre=m at *;obtain⟨us,sec,par,ri,cl,ti⟩:=x;cases hu;refine WW ?_;rfl
 ·(refine WL ?_)
  exact zJ
def ND (d:xH) (now:Int):Ms:=⟨13,[],[d.rg.num,now],[]⟩
def AH (d:xH) (now:Int):zO 204 [zI d,iA 1,iA now] [] (yB (ND d now)) []:=by
 unfold ND zI wF;refine eM call204 λF hF=>?_
 refine WL ?_;exact zJ
def fF (l:List Rq):List Int:=(l.map λr=>[r.id,r.til]).flatten
def NE (d:xH):Ms:=⟨19,[],fF d.rq,[]⟩
def zB3 (pre:List Rq) (x:Rq):(fF (pre++[x])).map iA=(fF pre).map iA++[iA x.id,iA x.til]:=by simp[fF]
theorem TZ:∀l:List Rq,(fF l).length=2*l.length
 | []=>rfl
 |x::l=>by
  have:=TZ l
  show(x.id::x.til::fF l).length=_
  rw[yBp,yBp,yBp];omega
def zB4 (d:xH) (now:Int) (hb:fY d):zO 204 [zI d,iA 9,iA now] [] (yB (NE d)) []:=by
 have hq:=hb.q;have hlq:=zA yI d.rq;unfold NE zI wF;refine eM call204 λF hF=>?_
 refine WW ?_;refine uI 7 2 1001 1 Z Z Z Z Z ?_;refine yO (d.rq) [7,1001,6] [6] [6,7,26,27] [28,6,7,26,27] Z (λi pre T U=>⟨(28,iA i)::T,(7,.box [iA 19,.s (.slice none 0 0),.ref 1001 0 ((fF pre).map iA).length,.s (.slice none 0 0)])::(1001,.arr 1 ((fF pre).map iA) true)::U⟩) ?_;(conv=>whnf);refine⟨by rfl,?_,?_⟩
 ·intro i pre x post hx hi;have hy:=xL yI hx hi;have hlt2:=yQ hx hi;have hle:=TZ pre;have hlm:=zA iA (fF pre);have e:=zB3 pre x;clear hx;rw[e];generalize (fF pre).map iA=xs at *;refine WW ?_;rfl
 ·(refine WW ?_)
  refine zH [] Z Z ?_ Z
  show AV.agg [iA 19,.sl false [],.sl false (((fF d.rq).map iA).take ((fF d.rq).map iA).length),.sl false []]=_
  rw[yBj];rfl
def zR3 (l:List Vh) (id:Int) (hn:l.length<=1000000):zO 243 [zD vY l,iA id] [] (.tup [vY (cR l id),bA (TX l id)]) []:=by
 have hl:=zA vY l;refine eM call243 λF hF=>?_
 refine WW ?_;refine kF (l) [4] [] [1,4,8,9] [10,1,4,8,9] Z (λi pre T U zs=>(∀y∈pre,y.id≠id)/\zs=⟨(10,iA i)::T,(4,.box [.s (.int .i64 0),.s (.int .i64 0)])::U⟩) ?_;(conv=>whnf);refine⟨?_,?_,?_⟩
 ·exact⟨by simp,rfl⟩
 ·rintro i pre x post st hx hi ⟨hp,rfl⟩;have hy:=xL vY hx hi;have hlt:=yQ hx hi;by_cases he:x.id=id
  ·obtain⟨e1,e2⟩:=zGn hx hp he;rw[e1,e2];clear hx;refine WW ?_;exact zJ
  ·clear hx;refine WW ?_;exact⟨λy hy=>by simp only[yBy,yCf]at hy;rcases hy with hy|rfl;exact hp y hy;exact he,rfl⟩
 ·rintro st ⟨hp,rfl⟩;obtain⟨e1,e2⟩:=zB1 hp;rw[e1,e2];refine WW ?_;exact zJ
def zGq (l:List Rq) (q id:Int) (v:Vh) (life:Int) (x:List Lg) (now:Int) (hv:bZ l) (hq:(l.length:Int)<=q) (hb:¬((0<=v.id/\v.id<=4294967295)/\(0<=v.cls/\v.cls<=3))):
  zO 245 [zD yI l,iA q,iA id,vY v,iA life,zD xS x,iA now] [] (.tup [zD yI [],iA 1]) []:=by
 have c1:=VJ l q hv hq;have c2:=OA v.id;have c3:=zBa v.cls;by_cases h1:0<=v.id/\v.id<=4294967295
 ·have h2:¬(0<=v.cls/\v.cls<=3):=λh=>hb ⟨h1,h⟩
  rw[yBk h1]at c2;rw[yBm h2]at c3;refine eM call245 λF hF=>?_
  refine yS (gW c1 c2 c3) ?_;exact zJ
 ·rw[yBm h1]at c2;refine eM call245 λF hF=>?_
  refine yS (vH c1 c2) ?_;exact zJ
structure Qd where
 j:Int
 p:Int
 f:Int
 t:Int
def q4 (q:Qd):List Int:=[q.j,q.p,q.f,q.t]
def YF (qs:List Qd):List Int:=(qs.map q4).flatten
def NF (c:Cf) (now:Int) (q:Qd):Bool:=decide (q.j<(c.js.length:Int))&&(decide (q.p<((c.js.getD q.j.toNat default).ph.length:Int))&&mwB q.j q.p q.f q.t now)
def GO (now:Int) (q:Qd):Lg:=mwF q.j q.p q.f q.t now
def zNg (v:Vh):Bool:=decide ((0<=v.id/\v.id<=4294967295)/\(0<=v.cls/\v.cls<=3))
def sxE (l:List Rq) (q id life:Int) (v:Vh) (x:List Lg):Int:=if(l.length:Int)<=q then(if zNg v=true then suE l q id life x else 1)else 1
def sxL (l:List Rq) (q id life now:Int) (v:Vh) (x:List Lg):List Rq:=if sxE l q id life v x=0 then bQ l (cY id v life x now)else []
def yA1 (l:List Rq) (q id:Int) (v:Vh) (life:Int) (x:List Lg) (now:Int) (hv:bZ l) (n0:0<=now) (n1:now<=1073741824):
  zO 245 [zD yI l,iA q,iA id,vY v,iA life,zD xS x,iA now] [] (.tup [zD yI (sxL l q id life now v x),iA (sxE l q id life v x)]) []:=by
 unfold sxL sxE;by_cases hq:(l.length:Int)<=q
 ·rw[yBd hq];by_cases hb:(0<=v.id/\v.id<=4294967295)/\(0<=v.cls/\v.cls<=3)
  ·have hv1:zNg v=true:=yBk hb;rw[yBd hv1];exact zLm l q id v life x now hv hq hb.1.1 hb.1.2 hb.2.1 hb.2.2 n0 n1
  ·have hv1:¬zNg v=true:=λh=>hb (yFh h)
   rw[yBc hv1,yBc xO];exact zGq l q id v life x now hv hq hb
 ·rw[yBc hq,yBc xO];exact zGm l q id v life x now hv hq
theorem QS:∀qs:List Qd,(YF qs).length=4*qs.length
 | []=>rfl
 |x::l=>by
  have:=QS l
  show(x.j::x.p::x.f::x.t::YF l).length=_
  simp only[yBp];omega
def zR4 (a b:List Qd):YF (a++b)=YF a++YF b:=by simp[YF]
def zNh (x y z:Int) (pre post:List Qd) (i:Nat) (hi:pre.length=i):(x::y::z::YF (pre++post)).drop (3+4*i)=YF post:=by
 rw[zR4,show 3+4*i=4*i+1+1+1 by omega,yEr,yEr,yEr,yFz (by rw[QS];omega),yFy (by rw[QS];omega),yDk]
def ZZ {α:Type} {l:List α} {n:Nat} {r:List α} (h:l.drop n=r) (k:Nat):l[n+k]? =r[k]? :=by rw[<-h,yDl]
def zZm (x y z:Int) (pre post:List Qd) (q:Qd) (I:Int) (hI:I=3+4*(pre.length:Int)):
  ((x::y::z::YF (pre++q::post)).map iA)[I.toNat]? =some (iA q.j)/\((x::y::z::YF (pre++q::post)).map iA)[(I+1).toNat]? =some (iA q.p)/\((x::y::z::YF (pre++q::post)).map iA)[(I+2).toNat]? =some (iA q.f)/\((x::y::z::YF (pre++q::post)).map iA)[(I+3).toNat]? =some (iA q.t):=by
 have h:=zNh x y z pre (q::post) pre.length Z
 refine⟨?_,?_,?_,?_⟩<;>rw[yBh]
 ·rw[show I.toNat=3+4*pre.length+0 by omega,ZZ h];rfl
 ·rw[show(I+1).toNat=3+4*pre.length+1 by omega,ZZ h];rfl
 ·rw[show(I+2).toNat=3+4*pre.length+2 by omega,ZZ h];rfl
 ·rw[show(I+3).toNat=3+4*pre.length+3 by omega,ZZ h];rfl
def dsE (c:Cf) (d:xH) (cls id v life now:Int) (qs:List Qd):Int:=
 if TX d.rg.vh v=true then(if cls<(cR d.rg.vh v).cls then 17 else if qs.all (NF c now)=true then sxE d.rq d.rg.ag.req id life (cR d.rg.vh v) (qs.map (GO now))else 8)else 12
def dsL (c:Cf) (d:xH) (cls id v life now:Int) (qs:List Qd):List Rq:=
 if dsE c d cls id v life now qs=0 then bQ d.rq (cY id (cR d.rg.vh v) life (qs.map (GO now)) now)else []
def zXb {α:Type} {p:α->Bool} {pre post:List α} {x:α} (h:p x=false):¬(pre++x::post).all p=true:=by
 simp[h]
theorem zGr (c:Cf) (d:xH) (id v life slot now:Int) (qs:List Qd) (hb:fY d) (hv:bZ d.rq) (s0:0<=slot) (s1:slot<(d.rg.tk.length:Int)) (hq:qs.length<=3) (hp:∀q∈qs,0<=q.j/\0<=q.p) (n0:0<=now) (n1:now<=1073741824):
  zO 222 [wN c,zI d,zD iA (id::v::life::YF qs),iA slot,iA now] [] (.tup [zD yI (dsL c d (d.rg.tk.getD slot.toNat default).cls id v life now qs),iA (dsE c d (d.rg.tk.getD slot.toNat default).cls id v life now qs)]) []:=by
 have hfv:=zR3 d.rg.vh v (by have:=hb.rg.v;omega);have hlt:=zA xB d.rg.tk;have hyt:=yL xB d.rg.tk slot s0 s1;have hsx:=yA1 d.rq d.rg.ag.req id (cR d.rg.vh v) life (qs.map (GO now)) now hv n0 n1;have hll:((id::v::life::YF qs).map iA).length=3+4*qs.length:=by simp[QS];omega
 have hlj:=zA wE c.js;have hnt:=hb.rg.tk.n;unfold dsL dsE;unfold wN zI wF;generalize (d.rg.tk.getD slot.toNat default)=t at *;rw[show xB t= .agg [bA t.used,zD yA t.sec,iA t.par,iA t.rights,iA t.cls,iA t.til]from Z]at hyt;generalize TX d.rg.vh v=hv1 at*
 cases hv1 with
 |false=>
  rw[yBc yBw,yBc xO];refine eM call222 λF hF=>?_
  refine zW hfv ?_;exact zJ
 |true=>
 rw[yBd Z];generalize cR d.rg.vh v=vh at *;unfold vY at hfv hsx;by_cases hcl:t.cls<vh.cls
 ·rw[yBd hcl,yBc xO];refine eM call222 λF hF=>?_
  refine zW hfv ?_;exact zJ
 rw[yBc hcl];refine eM call222 λF hF=>?_
 refine zW hfv ?_;refine xC 15 1001 5 Z Z Z ?_;refine jF (qs.length) [1001,5,6,12] [5,6,12] [2,4,5,6,12] [15,16,2,4,5,6,12] Z (λzn T U zs=>∃(pre:List Qd) (post:List Qd),(qs=pre++post/\zn=post.length/\pre.all (NF c now)=true)/\zs=⟨(15,.ref 1001 0 (pre.map λq=>xS (GO now q)).length)::(16,iA (3+4*(pre.length:Int)))::T,(1001,.arr 5 (pre.map λq=>xS (GO now q)) true)::U⟩) ?_;(conv=>whnf);refine⟨?_,?_⟩
 ·exact⟨[],qs,⟨rfl,rfl,rfl⟩,rfl⟩
 ·rintro zn st ⟨pre,post,⟨hqs,hzn,hok⟩,rfl⟩;have hln:qs.length=pre.length+post.length:=by rw[hqs,yBf]
  have hpl:=zA (λq=>xS (GO now q)) pre
  cases post with
  |nil=>
   rw[yCd]at hqs;subst hqs;rw[yBd hok];rw[yCr]at hln hzn;have e1:(qs.map λq=>xS (GO now q))=(qs.map (GO now)).map xS:=by rw[yGh];rfl
   unfold sxL at hsx;rw[e1]at *; generalize qs.map (GO now)=ls at *;generalize sxE d.rq d.rg.ag.req id life vh ls=e at *;generalize bQ d.rq (cY id vh life ls now)=il at *;generalize hI:3+4*(qs.length:Int)=I at *;rw[show(id::v::life::YF qs).map iA=iA id::iA v::iA life::(YF qs).map iA from Z]at *; generalize (YF qs).map iA=A at *;refine WD ?_;refine kG [5,6,12] [2,4,5,6,12,15] Z ?_
   (conv=>whnf)
   simp only[yCg,yBj];refine zW hsx ?_;exact zJ
  | cons q post=>
   have hpq:=hp q (by rw[hqs];simp);obtain⟨y0,y1,y2,y3⟩:=zZm id v life pre post q _ Z;rw[<-hqs]at y0 y1 y2 y3;rw[yBp]at hln hzn;have hno:NF c now q=false->¬qs.all (NF c now)=true:=λh=>by rw[hqs];exact zXb h
   have hyes:NF c now q=true->(pre++[q]).all (NF c now)=true:=λh=>by rw[List.all_append,hok,yG4,h];rfl
   have hmp:((pre++[q]).map λq=>xS (GO now q))=(pre.map λq=>xS (GO now q))++[xS (GO now q)]:=by simp
   have hw:=zDv q.j q.p q.f q.t now;rw[show NF c now q=(decide (q.j<(c.js.length:Int))&&(decide (q.p<((c.js.getD q.j.toNat default).ph.length:Int))&&mwB q.j q.p q.f q.t now))from Z]at hno hyes;generalize hA:(id::v::life::YF qs).map iA=A at *;have hA2:zD iA (id::v::life::YF qs)= .sl false A:=by rw[<-hA];rfl
   have hI:0<=3+4*(pre.length:Int)/\3+4*(pre.length:Int)+4=3+4*((pre++[q]).length:Int)/\3+4*(pre.length:Int)+3<A.length:=⟨zB,by simp;omega,zB⟩;by_cases g1:q.j<(c.js.length:Int)
   case neg=>
    rw[yBm g1]at hno;rw[yBc (hno Z),yBc xO];generalize 3+4*(pre.length:Int)=I at *;clear hno hyes hw hmp hqs;refine WW ?_;exact zJ
   have hyj:=yL wE c.js q.j hpq.1 g1;rw[yBk g1]at hno hyes;rw[show wE (c.js.getD q.j.toNat default)= .agg [zD wT (c.js.getD q.j.toNat default).ph,zD iA (c.js.getD q.j.toNat default).cf,iA (c.js.getD q.j.toNat default).st]from Z]at hyj;generalize c.js.getD q.j.toNat default=jn at *;have hlp:=zA wT jn.ph;by_cases g2:q.p<(jn.ph.length:Int)
   case neg=>
    rw[yBm g2]at hno;rw[yBc (hno Z),yBc xO];generalize 3+4*(pre.length:Int)=I at *;clear hno hyes hw hmp hqs;refine WW ?_;exact zJ
   rw[yBk g2]at hno hyes
   cases g3:mwB q.j q.p q.f q.t now with
   |false=>
    rw[g3]at hno hw;rw[yBc yBw]at hw;rw[yBc (hno Z),yBc xO];generalize 3+4*(pre.length:Int)=I at *;generalize mwF q.j q.p q.f q.t now=lg at *;clear hno hyes hmp hqs;refine zW hw ?_;exact zJ
   |true=>
    rw[g3]at hyes hw;rw[yBd Z]at hw;have hy2:=hyes Z;obtain⟨hI0,hI1,hI2⟩:=hI;have hfin:qs=(pre++[q])++post:=by rw[hqs];simp
    rw[show mwF q.j q.p q.f q.t now=GO now q from Z]at hw;generalize GO now q=lg at *;clear hno hyes hqs;generalize hqq:pre++[q]=pq at *;generalize (pre.map λq=>xS (GO now q))=xs at *;generalize 3+4*(pre.length:Int)=I at *;refine zW hw ?_;exact⟨post.length,zB,pq,post,⟨hfin,rfl,hy2⟩,by rw[hmp,<-hI1];rfl⟩
def dkQ (d:xH) (l:List Rq):xH:=⟨d.rg,l,d.dr,d.au⟩
def zB5 (c:Cf) (d:xH) (k:Int) (tkn:List Int) (id v life cls now:Int) (qs:List Qd) (hb:fY d) (hv:bZ d.rq) (hq:qs.length<=3) (hp:∀q∈qs,0<=q.j/\0<=q.p) (n0:0<=now) (n1:now<=1073741824):
 yU [wN c,zI d,yB ⟨k,tkn,id::v::life::YF qs,[]⟩,iA cls,iA now] [] (.tup [zI (dkQ d (if dsE c d cls id v life now qs=0 then dsL c d cls id v life now qs else d.rq)),iA (dsE c d cls id v life now qs)]) []:=yF
def NG (n:Int) (a:Ag) (N:Nat):xH:=⟨DY n a,[],[],List.replicate N false⟩
def zXc (n:Int) (a:Ag) (N:Nat) (hN:N=1∨N=2) (ha:a.ses=(N:Int)) (hs:a.sec.length<=1000000) (hl:a.lim.length<=1000000):zO 57 [iA n,vB a] [] (zI (NG n a N)) []:=by
 have c1:=zV8 n a hs hl;unfold NG;obtain⟨sec,ri,cl,li,rq,se,ra,bu⟩:=a;dsimp only at ha;subst ha;unfold vB uZ at c1;unfold vB zI wF;dsimp only at *;generalize DY n ⟨sec,ri,cl,li,rq,(N:Int),ra,bu⟩=r at*
 rcases hN with rfl|rfl
 all_goals
  refine eM call57 λF hF=>?_
  refine zW c1 ?_;exact zJ
def zR5 (n:Int) (a:Ag) (N:Nat) (hN:N=1∨N=2) (ha:a.ses=(N:Int)) (hs:a.sec.length<=1000000) (hl:a.lim.length<=1000000):yU [iA n,vB a] [] (zI (NG n a N)) []:=yF
def w2 (p:Int×Int):List Int:=[p.1,p.2]
def GP (ws:List (Int×Int)):List Int:=(ws.map w2).flatten
theorem QT:∀ws:List (Int×Int),(GP ws).length=2*ws.length
 | []=>rfl
 |x::l=>by
  have:=QT l
  show(x.1::x.2::GP l).length=_
  simp only[yBp];omega
def zR6 (a b:List (Int×Int)):GP (a++b)=GP a++GP b:=by simp[GP]
def zZn (x:Int) (pre post:List (Int×Int)) (q:Int×Int) (I:Int) (hI:I=1+2*(pre.length:Int)):
  ((x::GP (pre++q::post)).map iA)[I.toNat]? =some (iA q.1)/\((x::GP (pre++q::post)).map iA)[(I+1).toNat]? =some (iA q.2):=by
 have h:(x::GP (pre++q::post)).drop (1+2*pre.length)=GP (q::post):=by
  rw[zR6,show 1+2*pre.length=2*pre.length+1 by omega,yEr,yFz (by rw[QT];omega),yFy (by rw[QT];omega),yDk]
 refine⟨?_,?_⟩<;>rw[yBh]
 ·rw[show I.toNat=1+2*pre.length+0 by omega,ZZ h];rfl
 ·rw[show(I+1).toNat=1+2*pre.length+1 by omega,ZZ h];rfl
def upQ (l:List Rq) (id:Int) (ws:List (Int×Int)) (now:Int):List Rq:=if cW l id ws now=0 then MG l id ws now else []
def zXd (c:Cf) (d:xH) (tkn:List Int) (id slot now:Int) (ws:List (Int×Int)) (hv:bZ d.rq) (hw:ws.length<=3) (n0:0<=now) (n1:now<=1073741824):
  zO 202 [wN c,zI d,yB ⟨7,tkn,id::GP ws,[]⟩,iA slot,iA now] [] (.tup [zD yI (upQ d.rq id ws now),iA (cW d.rq id ws now)]) []:=by
 have hu:=zK0 d.rq id ws now hv zB n0 n1;have hll:((id::GP ws).map iA).length=1+2*ws.length:=by simp[QT];omega
 unfold upQ;unfold wN zI wF;rw[show yB ⟨7,tkn,id::GP ws,[]⟩= .agg [iA 7,zD yA tkn,zD iA (id::GP ws),.sl false []]from Z];generalize cW d.rq id ws now=e at *;generalize MG d.rq id ws now=ul at *;refine eM call202 λF hF=>?_
 refine WW ?_;refine xC 13 1001 2 Z Z Z ?_;refine jF (ws.length) [1001,6,7] [6,7] [4,6,7,12] [13,14,4,6,7,12] Z (λzn T U zs=>∃(pre:List (Int×Int)) (post:List (Int×Int)),(ws=pre++post/\zn=post.length)/\zs=⟨(13,.ref 1001 0 (pre.map wnA).length)::(14,iA (1+2*(pre.length:Int)))::T,(1001,.arr 2 (pre.map wnA) true)::U⟩) ?_;(conv=>whnf);refine⟨?_,?_⟩
 ·exact⟨[],ws,⟨rfl,rfl⟩,rfl⟩
 ·rintro zn st ⟨pre,post,⟨hqs,hzn⟩,rfl⟩;have hln:ws.length=pre.length+post.length:=by rw[hqs,yBf]
  have hpl:=zA wnA pre
  cases post with
  |nil=>
   rw[yCd]at hqs;subst hqs;rw[yCr]at hln hzn;generalize hI:1+2*(ws.length:Int)=I at *;generalize (id::GP ws).map iA=A at*
   (have zc1:=hu;have zf1:=(⟨⟩:FzD 223 [5,6,7] [58,59,60,61]);refine WW ?_;clear zc1 zf1)
   exact zJ
  |cons q post=>
   obtain⟨y0,y1⟩:=zZn id pre post q _ Z;rw[<-hqs]at y0 y1;rw[yBp]at hln hzn;have hmp:((pre++[q]).map wnA)=pre.map wnA++[.agg [iA q.1,iA q.2]]:=by simp[wnA]
   have hI:0<=1+2*(pre.length:Int)/\1+2*(pre.length:Int)+2=1+2*((pre++[q]).length:Int)/\1+2*(pre.length:Int)+1<((id::GP ws).map iA).length:=⟨zB,by simp;omega,zB⟩;have hfin:ws=(pre++[q])++post:=by rw[hqs];simp
   generalize (id::GP ws).map iA=A at *;obtain⟨hI0,hI1,hI2⟩:=hI;clear hqs;generalize hqq:pre++[q]=pq at *;generalize pre.map wnA=xs at *;generalize 1+2*(pre.length:Int)=I at *;refine WW ?_;exact⟨post.length,zB,pq,post,⟨hfin,rfl⟩,by rw[hmp,<-hI1];rfl⟩
def zXe (d:xH) (tkn:List Int) (id now:Int) (ws:List (Int×Int)) (hv:bZ d.rq) (hw:ws.length<=3) (n0:0<=now) (n1:now<=1073741824):
 yU [zI d,yB ⟨7,tkn,id::GP ws,[]⟩,iA now] [] (.tup [zI (dkQ d (if cW d.rq id ws now=0 then upQ d.rq id ws now else d.rq)),iA (cW d.rq id ws now)]) []:=yF
def zXf (c:Cf) (d:xH) (tkn:List Int) (id v life slot now:Int) (qs:List Qd) (hb:fY d) (hv:bZ d.rq) (s0:0<=slot) (s1:slot<(d.rg.tk.length:Int)) (hq:qs.length<=3) (hp:∀q∈qs,0<=q.j/\0<=q.p) (n0:0<=now) (n1:now<=1073741824):
  zO 202 [wN c,zI d,yB ⟨6,tkn,id::v::life::YF qs,[]⟩,iA slot,iA now] [] (.tup [zD yI (dsL c d (d.rg.tk.getD slot.toNat default).cls id v life now qs),iA (dsE c d (d.rg.tk.getD slot.toNat default).cls id v life now qs)]) []:=by
 have h:=zGr c d id v life slot now qs hb hv s0 s1 hq hp n0 n1;generalize dsE c d (d.rg.tk.getD slot.toNat default).cls id v life now qs=e at *;generalize dsL c d (d.rg.tk.getD slot.toNat default).cls id v life now qs=ul at *;rw[show zD iA (id::v::life::YF qs)= .sl false (iA id::iA v::iA life::(YF qs).map iA)from Z]at h;rw[show yB ⟨6,tkn,id::v::life::YF qs,[]⟩= .agg [iA 6,zD yA tkn,.sl false (iA id::iA v::iA life::(YF qs).map iA),.sl false []]from Z];generalize (YF qs).map iA=A at *;unfold wN zI wF at *;refine eM call202 λF hF=>?_
 refine zW h ?_;exact zJ
def zXg (c:Cf) (d:xH) (tkn:List Int) (id slot now:Int) (hv:bZ d.rq):
  zO 202 [wN c,zI d,yB ⟨8,tkn,[id],[]⟩,iA slot,iA now] [] (.tup [zD yI (if gB d.rq id=true then zLc d.rq id else []),iA (if gB d.rq id=true then 0 else 12)]) []:=by
 have h:=zLe d.rq id hv;generalize (if gB d.rq id=true then zLc d.rq id else [])=l at *;generalize (if gB d.rq id=true then(0:Int)else 12)=e at *;rw[show yB ⟨8,tkn,[id],[]⟩= .agg [iA 8,zD yA tkn,.sl false [iA id],.sl false []]from Z];unfold wN zI wF at *;refine eM call202 λF hF=>?_
 refine zW h ?_;exact zJ
def UH (l:List Tk) (s:Int):zO 236 [zD xB l,iA s] [] (bA (fN l s)) []:=by
 have hl:=zA xB l;unfold fN;by_cases h1:0<=s
 ·by_cases h2:s<l.length
  ·have hy:=yL xB l s h1 h2;rw[yBk ⟨h1,h2⟩,yB2];refine eM call236 λF hF=>?_
   refine WW ?_;exact zJ
  ·rw[yBm zB,yC4];refine eM call236 λF hF=>?_
   refine WW ?_;exact zJ
 ·rw[yBm zB,yC4];refine eM call236 λF hF=>?_
  refine WW ?_;exact zJ
def zNi (g s:Int) (l:List Int) (hl:l.length<=1000000) (g0:0<=g) (g1:g<256) (s0:0<=s) (s1:s<256):zO 266 [iA g,iA s,zD yA l] [] (zD yA (g::s::l)) []:=by
 have hll:=zA yA l;refine eM call266 λF hF=>?_
 refine WW ?_;exact zH [] Z Z (yB8 (AV.sl false) (yBo zQ)) Z
end Av
end Go.Proofs.YteajjdidebfcjaaGreat
