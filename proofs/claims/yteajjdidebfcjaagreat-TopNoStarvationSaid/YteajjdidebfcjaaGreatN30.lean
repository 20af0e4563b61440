/- Part 30. -/
import Derived.Test.YteajjdidebfcjaaGreatN29
namespace Go.Proofs.YteajjdidebfcjaaGreat
namespace Av
open Tryz
set_option linter.all false
set_option maxRecDepth 4000
set_option maxHeartbeats 8000000
structure TaS where
 t:Nat
 g:Bool
 its:List It
def taC (s:TaS) (p:It×Nat):Bool:=decide (p.1.code=2)&&s.g
def NP (s:TaS) (p:It×Nat):TaS:=if taC s p=true then⟨s.t+p.2,s.g,s.its⟩else⟨s.t+p.2,decide (p.1.code=2)||(decide (p.1.code=7)||decide (p.1.code=4)),s.its++[p.1]⟩
def taX (N:Nat) (s:TaS) (p:It×Nat):Bool:=!taC s p&&decide (N<=s.its.length+1)
def YH (N:Nat):List (It×Nat)->TaS->TaS
 | [],s=>s
 |p::l,s=>if taX N s p=true then NP s p else YH N l (NP s p)
def taG (s0:TaS) (l:List (It×Nat)) (i:Nat):TaS:=(l.take i).foldl NP s0
def EF (s0:TaS) {l:List (It×Nat)} {i:Nat} {p:It×Nat} (h:l[i]? =some p):taG s0 l (i+1)=NP (taG s0 l i) p:=by
 unfold taG;rw[yD8,h,yF0];rfl
theorem JC {N:Nat}:∀(l:List (It×Nat)) (s:TaS),s.its.length<N->(YH N l s).its.length<=N
 | [],s,h=>yGj h
 | p::l,s,h=>by
  unfold YH
  have h1:(NP s p).its.length<=s.its.length+1:=by
   unfold NP;split
   ·dsimp only;omega
   ·dsimp only;rw[yBf];simp
  split
  ·omega
  ·rename_i hx;refine JC l _ ?_;unfold taX at hx;unfold NP;cases hc:taC s p
   ·rw[hc]at hx;rw[yBc yBw];simp only[yF3,yB2,yBi]at hx;dsimp only;rw[yBf];simp only[yBp,yCr];omega
   ·rw[yBd Z];exact h
theorem zCt {N:Nat} {Pr:It->Prop}:∀(l:List (It×Nat)) (s:TaS),(∀x∈s.its,Pr x)->(∀p∈l,Pr p.1)->∀x∈(YH N l s).its,Pr x
 | [],s,h,_=>h
 | p::l,s,h,hl=>by
  have h1:∀x∈(NP s p).its,Pr x:=by
   unfold NP;split
   ·exact h
   ·intro x hx
    rcases yBy.1 hx with hx|hx
    ·exact h x hx
    ·rw[yCf.1 hx];exact hl p zQ
  unfold YH;split
  ·exact h1
  ·exact zCt l _ h1 λq hq=>hl q (by simp[hq])
theorem zH1 {N:Nat}:∀(l:List (It×Nat)) (s:TaS),s.t<=(YH N l s).t/\(YH N l s).t<=s.t+zE5 l
 | [],s=>⟨yBg _,Nat.le_add_right _ _⟩
 |p::l,s=>by
  have h1:(NP s p).t=s.t+p.2:=by unfold NP;split<;>rfl
  have h2:=zH1 (N:=N) l (NP s p);have h3:zE5 (p::l)=p.2+zE5 l:=by simp[zE5]
  unfold YH
  split<;>omega
theorem zCu:∀(n:Nat) (b:List Int),(gG n b).length<=n
 |0,_=>yBg _
 |n+1,b=>by
  unfold gG;split
  ·exact yBt _
  ·rename_i q _;have:=zCu n (b.drop q.2);rw[yBp];omega
def stA (b:List Int) (g:Bool):AV:= .agg [zD yA b,bA g]
def JD (k N:Nat):zO 164 [iA k,.ptr 1053 0 0] [(1053,.box [iA N])] (bA (decide (N<=k))) [(1053,.box [iA N])]:=by
 by_cases h:N<=k
 ·rw[yBk h];refine eM call164 λF hF=>?_
  refine WW ?_;exact zK [1053] Z Z Z Z
 ·rw[yBm h];refine eM call164 λF hF=>?_
  refine WW ?_;exact zK [1053] Z Z Z Z
theorem zOr (b:List Int) (hb:BY b) (hl:b.length<=1000) (g:Bool) (N:Nat) (hN:1<=N/\N<=1000):zO 163 [stA b g,.fn 164 [.ptr 1053 0 0]] [(1053,.box [iA N])]
  (.tup [stA (b.drop (YH N (gG b.length b) ⟨0,g,[]⟩).t) (YH N (gG b.length b) ⟨0,g,[]⟩).g,zD vC (YH N (gG b.length b) ⟨0,g,[]⟩).its]) [(1053,.box [iA N])]:=by
 have kp:=zIj b;have ht:=zE6 b hb zB;have hbl:=zA yA b;have hr1:=(zH1 (N:=N) (gG b.length b) ⟨0,g,[]⟩).2;have hr2:=zC5 (n:=b.length) hb;dsimp only at hr1;have hL:psL b=(gG b.length b).map λp=>[vC p.1,iA (p.2:Int)]:=rfl
 have hG0:taG ⟨0,g,[]⟩ (gG b.length b) 0=⟨0,g,[]⟩:=rfl
 have hGn:∀i,(taG ⟨0,g,[]⟩ (gG b.length b) i).its.length<=i:=λi=>by
  induction i with
  |zero=>exact yBg _
  | succ i ih=>
   cases h:(gG b.length b)[i]? with
   | none=>
    have:taG ⟨0,g,[]⟩ (gG b.length b) (i+1)=taG ⟨0,g,[]⟩ (gG b.length b) i:=by
     unfold taG;rw[yD8,h];simp
    rw[this];omega
   |some p=>
    rw[EF _ h];unfold NP;split
    ·dsimp only;omega
    ·dsimp only;rw[yBf];simp only[yBp,yCr];omega
 rw[show stA b g= .agg [zD yA b,bA g]from Z];rw[show stA (b.drop (YH N (gG b.length b) ⟨0,g,[]⟩).t) (YH N (gG b.length b) ⟨0,g,[]⟩).g= .agg [zD yA (b.drop (YH N (gG b.length b) ⟨0,g,[]⟩).t),bA (YH N (gG b.length b) ⟨0,g,[]⟩).g]from Z];generalize hr:YH N (gG b.length b) ⟨0,g,[]⟩=r at *;unfold psH at kp ht;refine eM call163 λF hF=>?_
 (have zc1:=kp;(repeat' (first|refine WS ?_|refine SG (I2 (λhc=>?_) λhc=>?_)|refine SG λhc=>?_|(refine zE ?_;first|refine SM ?_)|(first|first|refine SR ?_|refine SK (I2 (λhc=>?_) λhc=>?_)|refine SK λhc=>?_|fail|refine vE ?_|refine vF ?_)|fail))<;>clear zc1)
 refine uI 6 0 1051 3 Z Z Z Z Z ?_
 refine uH hF ht Z [2,3,4,6,7,8,1051,1053] [2,3,4,6,7,8] Z Z Z Z Z Z Z Z Z (λk ys h=>?_) (λi=>[(2,.box [zD yA b,bA g]),(3,.box [.fn 164 [.ptr 1053 0 0]]),(4,.box [.s (.slice none 0 0),bA false]),(6,.box [.ref 1051 0 ((taG ⟨0,g,[]⟩ (gG b.length b) i).its.map vC).length]),(7,.box [iA ((taG ⟨0,g,[]⟩ (gG b.length b) i).t:Int)]),(8,.box [bA (taG ⟨0,g,[]⟩ (gG b.length b) i).g]),(1051,.arr 3 ((taG ⟨0,g,[]⟩ (gG b.length b) i).its.map vC) true),(1053,.box [iA N])]) (λi=>YH N ((gG b.length b).drop i) (taG ⟨0,g,[]⟩ (gG b.length b) i)=r)
  (T:=[(2,.ptr 2 0 0),(3,.ptr 3 0 0),(4,.ptr 4 0 0),(6,.ptr 6 0 0),(7,.ptr 7 0 0),(8,.ptr 8 0 0)]) Z hr (λi ys q hys hI F1 h1 h2=>?_) (λhI=>?_)
 ·rw[hL,yBh,yBs]at h;obtain⟨x,_,rfl⟩:=h;rfl
 ·rw [hL,yBh,yBs]at hys;obtain⟨p,hp,rfl⟩:=hys;have e1:=EF (⟨0,g,[]⟩:TaS) hp;have hil:i<(gG b.length b).length:=(yB0.1 hp).1
  have e2:(gG b.length b).drop i=p::(gG b.length b).drop (i+1):=by
   rw[yDx hil]
   congr 1
   exact(yB0.1 hp).2
  rw[e2]at hI;rw[e1];have hgi:=hGn i;have hps:=zC5 (n:=b.length) hb;generalize taG ⟨0,g,[]⟩ (gG b.length b) i=s at*
  have hst:s.t+p.2<=b.length:=by
   have h9:(NP s p).t=s.t+p.2:=by unfold NP;split<;>rfl
   unfold YH at hI;split at hI
   ·rw[<-h9,hI];omega
   ·have:=(zH1 (N:=N) ((gG b.length b).drop (i+1)) (NP s p)).1;rw[hI]at this;omega
  have hpl:=zCu b.length b;have hi3:i<=1000:=by omega
  clear hp hil e1 e2 hL hG0 hGn hps ht kp;generalize (gG b.length b).drop (i+1)=l2 at *;generalize (gG b.length b).length=L at *;obtain⟨t0,g0,its⟩:=s;obtain⟨⟨cd,kd,py⟩,n⟩:=p;dsimp only at hst hgi;have him:=zA vC its;rw[show vC (({code:=cd,kind:=kd,pay:=py}:It),n).fst= .agg [iA cd,iA kd,zD yA py]from Z];refine WW ?_;refine⟨rfl,λF2 g1 g2=>?_⟩;dsimp only;by_cases hc:cd=2
  ·subst hc;cases g0
   ·have e3:NP ⟨t0,false,its⟩ (⟨2,kd,py⟩,n)=⟨t0+n,true,its++[⟨2,kd,py⟩]⟩:=rfl;have e4:taX N ⟨t0,false,its⟩ (⟨2,kd,py⟩,n)=decide (N<=its.length+1):=rfl;unfold YH at hI;rw[e3,e4]at hI;rw[e3];have kst:=JD (its.map vC++[AV.agg [iA 2,iA kd,zD yA py]]).length N;rw[show decide (N<=(its.map vC++[AV.agg [iA 2,iA kd,zD yA py]]).length)=decide (N<=its.length+1) by simp]at kst;by_cases hs:N<=its.length+1
    ·rw[yBk hs]at kst;rw[yBd (yBk hs)]at hI;subst hI;have hbt:=zA yA b;have kc:=wX (b.drop ((t0:Int)+(n:Int)).toNat) SZ;have eD:zD yA (b.drop (t0+n))=zD yA (b.drop ((t0:Int)+(n:Int)).toNat):=by rw[show((t0:Int)+(n:Int)).toNat=t0+n by omega]
     dsimp only;rw[eD];rw[show zD vC (its++[⟨2,kd,py⟩])= .sl false (its.map vC++[AV.agg [iA 2,iA kd,zD yA py]]) by unfold zD;rw[yBn];rfl]
     (have zc1:=kst;have zc2:=kc;(repeat' (first|refine WS ?_|refine SG (I2 (λhc=>?_) λhc=>?_)|refine SG λhc=>?_|(refine zE ?_;first|refine SM ?_)|(first|first|refine SR ?_|refine SK (I2 (λhc=>?_) λhc=>?_)|refine SK λhc=>?_|fail|refine vE ?_|refine vF ?_)|fail))<;>clear zc1 zc2)
     refine zH [1053] Z Z ?_ Z
     show AV.tup [_,AV.sl false (List.take (its.map vC++[AV.agg [iA 2,iA kd,zD yA py]]).length (its.map vC++[AV.agg [iA 2,iA kd,zD yA py]]))]=_
     rw[yBj];rfl
    ·rw[yBm hs]at kst;rw[yBc zD7]at hI;dsimp only;rw[yBn,show [(⟨2,kd,py⟩:It)].map vC=[AV.agg [iA 2,iA kd,zD yA py]]from Z]
     (have zc1:=kst;(repeat' (first|refine WS ?_|refine SG (I2 (λhc=>?_) λhc=>?_)|refine SG λhc=>?_|(refine zE ?_;first|refine SM ?_)|(first|first|refine SR ?_|refine SK (I2 (λhc=>?_) λhc=>?_)|refine SK λhc=>?_|fail|refine vE ?_|refine vF ?_)|fail))<;>clear zc1)
     exact⟨rfl,hI⟩
   ·have e3:NP ⟨t0,true,its⟩ (⟨2,kd,py⟩,n)=⟨t0+n,true,its⟩:=rfl;have e4:taX N ⟨t0,true,its⟩ (⟨2,kd,py⟩,n)=false:=rfl;unfold YH at hI;rw[e3,e4,yBc yBw]at hI;rw[e3];dsimp only
    (repeat' (first|refine WS ?_|refine SG (I2 (λhc=>?_) λhc=>?_)|refine SG λhc=>?_|(refine zE ?_;first|refine SM ?_)|(first|first|refine SR ?_|refine SK (I2 (λhc=>?_) λhc=>?_)|refine SK λhc=>?_|fail|refine vE ?_|refine vF ?_)|fail))
    exact⟨rfl,hI⟩
  ·have ex:taC ⟨t0,g0,its⟩ (⟨cd,kd,py⟩,n)=false:=by
    unfold taC;rw[yBm hc,yC4]
   have e4:taX N ⟨t0,g0,its⟩ (⟨cd,kd,py⟩,n)=decide (N<=its.length+1):=by
    unfold taX;rw[ex];rfl
   by_cases h7:cd=7
   ·subst h7;have e3:NP ⟨t0,g0,its⟩ (⟨7,kd,py⟩,n)=⟨t0+n,true,its++[⟨7,kd,py⟩]⟩:=rfl;unfold YH at hI;rw[e3,e4]at hI;rw[e3];have kst:=JD (its.map vC++[AV.agg [iA 7,iA kd,zD yA py]]).length N;rw[show decide (N<=(its.map vC++[AV.agg [iA 7,iA kd,zD yA py]]).length)=decide (N<=its.length+1) by simp]at kst;by_cases hs:N<=its.length+1
    ·rw[yBk hs]at kst;rw[yBd (yBk hs)]at hI;subst hI;have hbt:=zA yA b;have kc:=wX (b.drop ((t0:Int)+(n:Int)).toNat) SZ;have eD:zD yA (b.drop (t0+n))=zD yA (b.drop ((t0:Int)+(n:Int)).toNat):=by rw[show((t0:Int)+(n:Int)).toNat=t0+n by omega]
     dsimp only;rw[eD];rw[show zD vC (its++[⟨7,kd,py⟩])= .sl false (its.map vC++[AV.agg [iA 7,iA kd,zD yA py]]) by unfold zD;rw[yBn];rfl]
     (have zc1:=kst;have zc2:=kc;(repeat' (first|refine WS ?_|refine SG (I2 (λhc=>?_) λhc=>?_)|refine SG λhc=>?_|(refine zE ?_;first|refine SM ?_)|(first|first|refine SR ?_|refine SK (I2 (λhc=>?_) λhc=>?_)|refine SK λhc=>?_|fail|refine vE ?_|refine vF ?_)|fail))<;>clear zc1 zc2)
     refine zH [1053] Z Z ?_ Z
     show AV.tup [_,AV.sl false (List.take (its.map vC++[AV.agg [iA 7,iA kd,zD yA py]]).length (its.map vC++[AV.agg [iA 7,iA kd,zD yA py]]))]=_
     rw[yBj];rfl
    ·rw[yBm hs]at kst;rw[yBc zD7]at hI;dsimp only;rw[yBn,show [(⟨7,kd,py⟩:It)].map vC=[AV.agg [iA 7,iA kd,zD yA py]]from Z]
     (have zc1:=kst;(repeat' (first|refine WS ?_|refine SG (I2 (λhc=>?_) λhc=>?_)|refine SG λhc=>?_|(refine zE ?_;first|refine SM ?_)|(first|first|refine SR ?_|refine SK (I2 (λhc=>?_) λhc=>?_)|refine SK λhc=>?_|fail|refine vE ?_|refine vF ?_)|fail))<;>clear zc1)
     exact⟨rfl,hI⟩
   by_cases h4:cd=4
   ·subst h4;have e3:NP ⟨t0,g0,its⟩ (⟨4,kd,py⟩,n)=⟨t0+n,true,its++[⟨4,kd,py⟩]⟩:=rfl;unfold YH at hI;rw[e3,e4]at hI;rw[e3];have kst:=JD (its.map vC++[AV.agg [iA 4,iA kd,zD yA py]]).length N;rw[show decide (N<=(its.map vC++[AV.agg [iA 4,iA kd,zD yA py]]).length)=decide (N<=its.length+1) by simp]at kst;by_cases hs:N<=its.length+1
    ·rw[yBk hs]at kst;rw[yBd (yBk hs)]at hI;subst hI;have hbt:=zA yA b;have kc:=wX (b.drop ((t0:Int)+(n:Int)).toNat) SZ;have eD:zD yA (b.drop (t0+n))=zD yA (b.drop ((t0:Int)+(n:Int)).toNat):=by rw[show((t0:Int)+(n:Int)).toNat=t0+n by omega]
     dsimp only;rw[eD];rw[show zD vC (its++[⟨4,kd,py⟩])= .sl false (its.map vC++[AV.agg [iA 4,iA kd,zD yA py]]) by unfold zD;rw[yBn];rfl]
     (have zc1:=kst;have zc2:=kc;(repeat' (first|refine WS ?_|refine SG (I2 (λhc=>?_) λhc=>?_)|refine SG λhc=>?_|(refine zE ?_;first|refine SM ?_)|(first|first|refine SR ?_|refine SK (I2 (λhc=>?_) λhc=>?_)|refine SK λhc=>?_|fail|refine vE ?_|refine vF ?_)|fail))<;>clear zc1 zc2)
     refine zH [1053] Z Z ?_ Z
     show AV.tup [_,AV.sl false (List.take (its.map vC++[AV.agg [iA 4,iA kd,zD yA py]]).length (its.map vC++[AV.agg [iA 4,iA kd,zD yA py]]))]=_
     rw[yBj];rfl
    ·rw[yBm hs]at kst;rw[yBc zD7]at hI;dsimp only;rw[yBn,show [(⟨4,kd,py⟩:It)].map vC=[AV.agg [iA 4,iA kd,zD yA py]]from Z]
     (have zc1:=kst;(repeat' (first|refine WS ?_|refine SG (I2 (λhc=>?_) λhc=>?_)|refine SG λhc=>?_|(refine zE ?_;first|refine SM ?_)|(first|first|refine SR ?_|refine SK (I2 (λhc=>?_) λhc=>?_)|refine SK λhc=>?_|fail|refine vE ?_|refine vF ?_)|fail))<;>clear zc1)
     exact⟨rfl,hI⟩
   ·have e3:NP ⟨t0,g0,its⟩ (⟨cd,kd,py⟩,n)=⟨t0+n,false,its++[⟨cd,kd,py⟩]⟩:=by
     unfold NP;rw[ex,yBc yBw];dsimp only;rw[yBm hc,yBm h7,yBm h4];rfl
    unfold YH at hI;rw[e3,e4]at hI;rw[e3];have kst:=JD (its.map vC++[AV.agg [iA cd,iA kd,zD yA py]]).length N;rw[show decide (N<=(its.map vC++[AV.agg [iA cd,iA kd,zD yA py]]).length)=decide (N<=its.length+1) by simp]at kst;by_cases hs:N<=its.length+1
    ·rw[yBk hs]at kst;rw[yBd (yBk hs)]at hI;subst hI;have hbt:=zA yA b;have kc:=wX (b.drop ((t0:Int)+(n:Int)).toNat) SZ;have eD:zD yA (b.drop (t0+n))=zD yA (b.drop ((t0:Int)+(n:Int)).toNat):=by rw[show((t0:Int)+(n:Int)).toNat=t0+n by omega]
     dsimp only;rw[eD];rw[show zD vC (its++[⟨cd,kd,py⟩])= .sl false (its.map vC++[AV.agg [iA cd,iA kd,zD yA py]]) by unfold zD;rw[yBn];rfl]
     (have zc1:=kst;have zc2:=kc;(repeat' (first|refine WS ?_|refine SG (I2 (λhc=>?_) λhc=>?_)|refine SG λhc=>?_|(refine zE ?_;first|refine SM ?_)|(first|first|refine SR ?_|refine SK (I2 (λhc=>?_) λhc=>?_)|refine SK λhc=>?_|fail|refine vE ?_|refine vF ?_)|fail))<;>clear zc1 zc2)
     refine zH [1053] Z Z ?_ Z
     show AV.tup [_,AV.sl false (List.take (its.map vC++[AV.agg [iA cd,iA kd,zD yA py]]).length (its.map vC++[AV.agg [iA cd,iA kd,zD yA py]]))]=_
     rw[yBj];rfl
    ·rw[yBm hs]at kst;rw[yBc zD7]at hI;dsimp only;rw[yBn,show [(⟨cd,kd,py⟩:It)].map vC=[AV.agg [iA cd,iA kd,zD yA py]]from Z]
     (have zc1:=kst;(repeat' (first|refine WS ?_|refine SG (I2 (λhc=>?_) λhc=>?_)|refine SG λhc=>?_|(refine zE ?_;first|refine SM ?_)|(first|first|refine SR ?_|refine SK (I2 (λhc=>?_) λhc=>?_)|refine SK λhc=>?_|fail|refine vE ?_|refine vF ?_)|fail))<;>clear zc1)
     exact⟨rfl,hI⟩
 ·have e1:taG ⟨0,g,[]⟩ (gG b.length b) (psL b).length=r:=by
   rw[hL,yBe]at hI⊢;rw[yE6]at hI;exact hI
  rw[e1];have hbt:=zA yA b;have kc:=wX (b.drop ((r.t:Nat):Int).toNat) SZ
  (have zc1:=kc;(repeat' (first|refine WS ?_|refine SG (I2 (λhc=>?_) λhc=>?_)|refine SG λhc=>?_|(refine zE ?_;first|refine SM ?_)|(first|first|refine SR ?_|refine SK (I2 (λhc=>?_) λhc=>?_)|refine SK λhc=>?_|fail|refine vE ?_|refine vF ?_)|fail))<;>clear zc1)
  refine zH [1053] Z Z ?_ Z
  show AV.tup [_,AV.sl false (List.take (r.its.map vC).length (r.its.map vC))]=_
  rw[yBj];rfl
def zH2 (b:List Int) (hb:BY b) (hl:b.length<=1000) (g:Bool) (N:Nat) (hN:1<=N/\N<=1000):zO 126 [stA b g,iA N] []
  (.tup [stA (b.drop (YH N (gG b.length b) ⟨0,g,[]⟩).t) (YH N (gG b.length b) ⟨0,g,[]⟩).g,zD vC (YH N (gG b.length b) ⟨0,g,[]⟩).its]) []:=by
 have k:=zOr b hb hl g N hN;generalize YH N (gG b.length b) ⟨0,g,[]⟩=r at *;unfold stA at *;refine eM call126 λF hF=>?_
 repeat' (first|(refine zE ?_;first|refine qA (jE (v:=AV.agg _) 2 Z Z) Z Z Z ?_|refine qA (jE (v:=AV.s _) 1053 Z Z) Z Z Z ?_|refine vV tok Z Z ?_|refine QG tok Z Z Z Z ?_|refine qR ?_)|(first|refine xT ?_|refine xI ?_|refine vJ Z ?_|refine zZ Z ?_|refine zV Z ?_|refine xQ Z (λhc=>?_) λhc=>?_|refine xD ?_|refine yZ ?_|refine xJ ?_|refine yX ?_))
 refine zW k ?_;exact zJ
def zX9 (b:List Int) (hl:b.length<=256) (g:Bool) (x:List Int) (hx:x.length<=1000000):zO 117 [stA b g,zD yA x] [] (.tup [stA (b++x.take (VB b.length x.length)) g,bA (decide (VB b.length x.length=x.length))]) []:=by
 have hbl:=zA yA b;have hxl:=zA yA x;have hf:VB b.length x.length<=x.length/\b.length+VB b.length x.length<=256:=by unfold VB;omega
 have e1:min ((x.length:Nat):Int) (max (256-((b.length:Nat):Int)) 0)=((VB b.length x.length:Nat):Int):=by unfold VB;omega
 have e2:zD yA (b++x.take (VB b.length x.length))= .sl false (b.map yA++(x.take (VB b.length x.length)).map yA):=by unfold zD;rw[yBn]
 unfold stA;rw[e2];generalize VB b.length x.length=f at *;refine eM call117 λF hF=>?_
 refine WW ?_;rw[hbl,hxl,e1];refine zH [] Z Z ?_ Z
 show AV.tup [AV.agg [AV.sl false (List.take (b.map yA++(x.take f).map yA).length (b.map yA++(x.take f).map yA)),bA g],bA (qQ .eql (f:Int) (x.length:Int))]=_
 rw[yBj,show qQ .eql (f:Int) (x.length:Int)=decide (f=x.length) by
  by_cases h9:f=x.length
  ·rw[h9];simp[qQ]
  ·have:(f:Int)≠(x.length:Int):=by omega
   simp[qQ,h9,this]]
def WH (s:Ss):Ss×In:=if s.op=true then(⟨true,false,s.bf.drop (YH 4 (gG s.bf.length s.bf) ⟨0,s.gb,[]⟩).t,(YH 4 (gG s.bf.length s.bf) ⟨0,s.gb,[]⟩).g⟩,⟨true,(if s.dr=true then [⟨15,0,[]⟩]else [])++(YH 4 (gG s.bf.length s.bf) ⟨0,s.gb,[]⟩).its⟩)else(s,⟨false,[]⟩)
def zOs (s:Ss) (hb:BY s.bf) (hl:s.bf.length<=1000):zO 93 [jN s] [] (.tup [jN (WH s).1,jR (WH s).2]) []:=by
 obtain⟨op,dr,bf,gb⟩:=s;dsimp only at hb hl;have k1:=JY ⟨op,dr,bf,gb⟩ hl;have k2:=zH2 bf hb hl gb 4 zB;have hlen:=JC (N:=4) (gG bf.length bf) ⟨0,gb,[]⟩ (by show 0<4;omega);unfold WH;dsimp only;generalize YH 4 (gG bf.length bf) ⟨0,gb,[]⟩=r at *;have hrl:=zA vC r.its;unfold stA at k2;cases op
 ·rw[yBc yBw];unfold jN at *;unfold jR;refine eM call93 λF hF=>?_
  refine zW k1 ?_;exact zJ
 ·rw[yBd Z];unfold jN at *;unfold jR;cases dr
  ·rw[yBc yBw,yDk];refine eM call93 λF hF=>?_
   refine zW k2 ?_;refine zAh 32 1055 3 Z Z Z ?_;refine WW ?_;refine zH [] Z Z ?_ Z
   show AV.tup [_,AV.agg [_,AV.sl false (List.take (r.its.map vC).length (r.its.map vC))]]=_
   rw[yBj];rfl
  ·rw[yBd Z,show zD vC ([⟨15,0,[]⟩]++r.its)= .sl false ([.agg [iA 15,iA 0,zD yA []]]++r.its.map vC) by unfold zD;rw[yBn];rfl];refine eM call93 λF hF=>?_
   (have zc1:=k2;(repeat' (first|refine bW ?_|((first|apply xE|apply xV)<;>intro hc)|(refine zE ?_;first|(refine yR ?_;refine TR 18 Z Z Z ?_;refine qH tok Z Z ?_))|refine SB ?_|fail))<;>clear zc1)
   refine zAh 17 1055 3 Z Z Z ?_
   (have zc1:=k2;(repeat' (first|refine uC ?_|((first|apply xE|apply xV)<;>intro hc)|(refine zE ?_;first|refine SM ?_)|fail))<;>clear zc1)
   refine zH [] Z Z ?_ Z
   show AV.tup [_,AV.agg [_,AV.sl false (List.take ([AV.agg [iA 15,iA 0,zD yA []]]++r.its.map vC).length ([AV.agg [iA 15,iA 0,zD yA []]]++r.its.map vC))]]=_
   rw[yBj];rfl
def zOt (s:Ss) (hl:s.bf.length<=1000):zO 79 [jN s] [] (jN (if s.op=true then s else⟨true,false,[],false⟩)) []:=by
 obtain⟨op,dr,bf,gb⟩:=s;dsimp only at hl⊢;have k1:=JY ⟨op,dr,bf,gb⟩ hl;cases op
 ·rw[yBc yBw];unfold jN at *;refine eM call79 λF hF=>?_
  refine zW k1 ?_;exact zJ
 ·rw[yBd Z];unfold jN at *;refine eM call79 λF hF=>?_
  refine zW k1 ?_;exact zJ
def zOu (s:Ss):zO 80 [jN s] [] (jN ⟨false,false,[],false⟩) []:=by
 unfold jN;refine eM call80 λF hF=>?_
 refine WW ?_;exact zJ
def zUg (s:Ss) (hl:s.bf.length<=256) (x:List Int) (hx:x.length<=1000000):zO 81 [jN s,zD yA x] [] (jN (EZ s x)) []:=by
 obtain⟨op,dr,bf,gb⟩:=s;dsimp only at hl;have k1:=JY ⟨op,dr,bf,gb⟩ (by dsimp only;omega);have k2:=zX9 bf hl gb x hx;unfold EZ;dsimp only;unfold stA at k2;cases op
 ·rw[yBc yBw];unfold jN at *;refine eM call81 λF hF=>?_
  refine zW k1 ?_;exact zJ
 ·rw[yBd Z];unfold jN at *;cases hf:decide (VB bf.length x.length=x.length)
  ·rw[hf]at k2;rw[yBk (of_decide_eq_false hf),yEl];refine eM call81 λF hF=>?_
   refine zW k2 ?_;exact zJ
  ·rw[hf]at k2;rw[yBm (λh=>h (yFh hf)),yG3];refine eM call81 λF hF=>?_
   refine zW k2 ?_;exact zJ
structure SsI (s:Ss):Prop where
 y:BY s.bf
 n:s.bf.length<=256
def zH3 {s:Ss} (h:SsI s):SsI (WH s).1/\InS (WH s).2:=by
 have hn:=h.n;unfold WH;split
 ·refine⟨⟨λx hx=>h.y x (yCt hx),by dsimp only;rw[yCj];omega⟩,?_⟩;have hlen:=JC (N:=4) (gG s.bf.length s.bf) ⟨0,s.gb,[]⟩ (by show 0<4;omega);have hmem:=zCt (N:=4) (Pr:=ItK) (gG s.bf.length s.bf) ⟨0,s.gb,[]⟩ (λx hx=>by cases hx) (zOz h.y zB);generalize YH 4 (gG s.bf.length s.bf) ⟨0,s.gb,[]⟩=r at *;refine⟨?_,λx hx=>?_⟩
  ·dsimp only;rw[yBf];split
   ·simp only[yBp,yCr];omega
   ·simp only[yCr];omega
  ·rcases yBy.1 hx with hx|hx
   ·split at hx
    ·rw[yCf.1 hx];exact⟨kU,yBt _,by dsimp only;omega,by dsimp only;omega⟩
    ·cases hx
   ·exact hmem x hx
 ·exact⟨h,yBt _,λx hx=>by cases hx⟩
def zUh {s:Ss} (h:SsI s) {x:List Int} (hx:BY x):SsI (EZ s x):=by
 refine⟨?_,zPl h.n x⟩;unfold EZ;split
 ·intro y hy
  rcases yBy.1 hy with hy|hy
  ·exact h.y y hy
  ·exact hx y (yDb hy)
 ·exact h.y
theorem yG.frz {P:Program} {f:Nat} {args:List AV} {r:AV} {h1:List (Nat×xM)} {r':AV} {h1':List (Nat×xM)} (h:yG P f args [] r h1) (K:List Nat) (hr:XO (wH K (zC h1) r)=r') (hh:wS K (zC h1)=h1') (hnd:vK h1'=true):yG P f args [] r' h1':=
 ⟨h.able,λk=>uJ hnd,λX w β cargs hc H ha=>(h.sim X w β cargs hc H ha).mono λe w' ⟨c,β',he,G,hv⟩=>by
  obtain⟨H3,hv3⟩:=G.hok.restr K;refine⟨c,λk=>if k∈K then β' k else [],he,⟨G.size,G.keep,λk b n hm=>?_,G.bs,λk e he=>by simp[zC]at he,by rw[<-hh];exact H3,G.os,G.tape,G.output⟩,?_⟩
  ·split at hm
   ·exact G.own k b n hm
   ·simp at hm
  ·rw[<-hh,<-hr]
   exact(hv3 _ _ hv).wk⟩
def zOv {R:Nat->DR} {n:Nat} {x:Int} (h:x∈ZI R n):∃a,a<n/\x∈(R a).ks:=by
 unfold ZI at h;obtain⟨l,hl,hx⟩:=yDt.1 h;obtain⟨a,ha,rfl⟩:=yCc.1 hl;exact⟨a,yBz.1 ha,hx⟩
def zCv {R:Nat->DR} {n:Nat} {x:En} (h:x∈NR R n):∃a,a<n/\x∈(R a).en:=by
 unfold NR at h;obtain⟨l,hl,hx⟩:=yDt.1 h;obtain⟨a,ha,rfl⟩:=yCc.1 hl;exact⟨a,yBz.1 ha,hx⟩
def tdO (T:List (List Ms)) (f:Ms):AV:= .agg [.ref 1051 0 (T.map ZF).length,zD yB [f]]
def tdH (T:List (List Ms)):List (Nat×xM):=[(1051,.arr 1 (T.map ZF) true)]
theorem zOw (y:Cy) (h:WM y) (hn:y.now<1000000000) (ins:List In) (hil:(ins.length:Int)=jP y.c.ags y.c.ags.length) (R:Nat->DR) (hR:TkR y ins R) (hen:∀i,(R i).en.length<=2000) (hks:∀i,(R i).ks.length<=2000):
  zO 118 [uB y,zD jR ins] [] (.tup [uB (qO y R),tdO (FA y.c (tdT (qO y R) ins R y.ds.length) y.c.ags.length) (PA (y.now+1) (qO y R).vw)]) (tdH (FA y.c (tdT (qO y R) ins R y.ds.length) y.c.ags.length)):=by
 have hb:=h.b;have n0:=h.n0;have hw:=h.v.ag;have k1:=PJ y hb;have hdl:=h.dl;have k2:=zE8 y.c hw (y.now+1) zB zB y.ds h.dl (λi hi=>h.di _ (zS y.ds i hi)) ins hil R hen hks (λa ha=>(hR a ha).2) (y.sg.map wY) (y.sv.map wV) (y.st.map iA) (y.sg.map wY).length (y.sv.map wV).length (y.st.map iA).length y.vw;have hi9:=zA jR ins;have hmin:min y.now 1073741823+1=y.now+1:=by omega
 have hrf:=h.rf;have eC:uB y= .agg [zD wE y.c.js,zD vB y.c.ags,iA y.c.per,iA y.c.cap,iA y.c.hold,iA y.c.lock,bA false,iA y.now,zD zI y.ds,zD wY y.sg,zD wV y.sv,zD iA y.st,zD vQ y.vw]:=by rw[<-hrf];rfl
 unfold zJm zJn aI at k1;rw[eC,hrf]at k1;unfold aI at k2;rw[eC];refine eM call118 λF hF=>?_
 refine zW k1 ?_;rw[hmin];refine zW k2 ?_;refine kG [2,3,4,5,6,7,1012,1013,1014] [2,3,4,5,6,7,34,35,36] Z ?_
 (conv=>whnf)
 have hds:(y.ds.map zI).length=((SF (y.now+1) y.ds R y.ds.length).map zI).length:=by rw[yBe,yBe,cT]
 have hgl:=zA wY y.sg;have hvl:=zA wV y.sv;have htl:=zA iA y.st;have hgl2:=h.gl;have hvl2:=h.sl;have htl2:=h.tl;simp only[yCg];rw[hds,yBj,hgl,hvl,htl,hgl2,hvl2,htl2];clear k1 k2
 have hkx:∀x∈ZI R y.ds.length,0<=x/\x<(y.c.js.length:Int):=λx hx=>by
  obtain⟨a,ha,hx⟩:=zOv hx;exact(hR a ha).1.ks x hx
 have hkl:=JL hks y.ds.length;have hags:=h.v.a;have hks9:(ZI R y.ds.length).length<=10000:=by omega
 have hjl:=zA wE y.c.js;have hkm:=zA iA (ZI R y.ds.length);have eY:qO y R=⟨y.c,false,y.now+1,SF (y.now+1) y.ds R y.ds.length,NS (RC y R) (WN y.c y.sg (ZI R y.ds.length)) y.c.js.length,NT (RC y R) y.sv y.c.js.length,JM y.st y.c.js.length,stU y.c.js (RC y R) y.c.js.length⟩:=rfl;refine yO ((ZI R y.ds.length)) [1012,2,3,4,5,6,7,1013,1014] [2,3,4,5,6,7,1013,1014] [2,3,4,5,6,7,34,35,86] [36,2,3,4,5,6,7,34,35,86] Z (λi pre T U=>⟨(36,iA i)::T,(1012,.arr 5 ((WN y.c y.sg pre).map wY) false)::U⟩) ?_;(conv=>whnf);refine⟨by rfl,?_,?_⟩
 ·intro i pre x post hx hi;have hy:=xL iA hx hi;have hlt:=yQ hx hi;have hxb:=hkx x (wZ hx);obtain⟨g1,g2⟩:=LD h.v (sv:=y.sv) (now:=y.now) pre y.sg h.gl h.j;have J:=h.v.jv _ (zS y.c.js x.toNat zB);have C:=(g2 x.toNat zB).c;have hJ:=J.n;have hC:=C.n;have hM:=C.m;have kr:=zJ1 (y.c.js.getD x.toNat default) J ((WN y.c y.sg pre).getD x.toNat default) zB zB;have hyj:=yL wE y.c.js x hxb.1 hxb.2;have hyg:=yL wY (WN y.c y.sg pre) x hxb.1 zB;have hgl3:=zA wY (WN y.c y.sg pre);rw[zIb,yDa];clear hx hkx eY hR J C g2;generalize (WN y.c y.sg pre).getD x.toNat default=s at *;generalize y.c.js.getD x.toNat default=j at *;generalize WN y.c y.sg pre=X at *;generalize X.map wY=Y at *;refine zW kr ?_;rfl
 ·obtain⟨g1,g2⟩:=LD h.v (sv:=y.sv) (now:=y.now) (ZI R y.ds.length) y.sg h.gl h.j
  have kst:=zIy y.c h.v (y.now+1) zB zB (SF (y.now+1) y.ds R y.ds.length) (by rw[cT];omega) (λd hd=>by
    obtain⟨a,ha,rfl⟩:=ZH hd
    exact(hR a ha).1.i) (λd hd=>by
    obtain⟨a,ha,rfl⟩:=ZH hd;refine(hR a ha).1.sc ?_
    exact FC.of zB ((h.sc _ (zS y.ds a ha)).mono zB) (zIc _ _)) (WN y.c y.sg (ZI R y.ds.length)) y.sv y.st y.vw g1 h.sl h.tl (λk hk=>by
    have H:=g2 k hk
    exact⟨H.c,H.n,λe he=>by have:=H.e e he;omega,H.g⟩)
  have l1:((WN y.c y.sg (ZI R y.ds.length)).map wY).length=y.c.js.length:=by rw[yBe];exact g1
  have l2:(y.sv.map wV).length=y.c.js.length:=by rw[yBe];exact h.sl
  have l3:(y.st.map iA).length=y.c.js.length:=by rw[yBe];exact h.tl
  have l4:((NS (RC y R) (WN y.c y.sg (ZI R y.ds.length)) y.c.js.length).map wY).length=y.c.js.length:=by unfold NS;rw[yBe,vA];exact g1
  have l5:((NT (RC y R) y.sv y.c.js.length).map wV).length=y.c.js.length:=by unfold NT;rw[yBe,vA];exact h.sl
  have l6:((JM y.st y.c.js.length).map iA).length=y.c.js.length:=by unfold JM;rw[yBe,vA];exact h.tl
  have l7:((stU y.c.js (RC y R) y.c.js.length).map vQ).length=y.c.js.length:=by simp[stU]
  have hal:=zA vB y.c.ags;unfold stH at kst;rw[show aF y.c (WN y.c y.sg (ZI R y.ds.length)) y.sv y.st (SF (y.now+1) y.ds R y.ds.length) (y.now+1)=RC y R from Z,zOy,l1,l2,l3,l4,l5,l6]at kst;have eT:uB (qO y R)= .agg [zD wE y.c.js,zD vB y.c.ags,iA y.c.per,iA y.c.cap,iA y.c.hold,iA y.c.lock,bA false,iA (y.now+1),zD zI (qO y R).ds,zD wY (qO y R).sg,zD wV (qO y R).sv,zD iA (qO y R).st,zD vQ (qO y R).vw]:=rfl;have d1:SF (y.now+1) y.ds R y.ds.length=(qO y R).ds:=rfl;have d2:NS (RC y R) (WN y.c y.sg (ZI R y.ds.length)) y.c.js.length=(qO y R).sg:=rfl;have d3:NT (RC y R) y.sv y.c.js.length=(qO y R).sv:=rfl;have d4:JM y.st y.c.js.length=(qO y R).st:=rfl;have d5:stU y.c.js (RC y R) y.c.js.length=(qO y R).vw:=rfl;rw[d2]at kst l4;rw[d3]at kst l5;rw[d4]at kst l6;rw[d5]at kst l7;rw[d1]at kst⊢;refine zW kst ?_;refine kG [2,3,4,5,6,7,11] [2,3,4,5,6,7,11,78,79] Z ?_
  (conv=>whnf)
  simp only[yCg];rw[yBo (l:=(qO y R).sg.map wY) (yDd l4),yBo (l:=(qO y R).sv.map wV) (yDd l5),yBo (l:=(qO y R).st.map iA) (yDd l6),yBo (l:=(qO y R).vw.map vQ) (yDd l7),hal];have hZ:=LE h hR;have zc:(qO y R).c=y.c:=rfl;have zn:(qO y R).now=y.now+1:=rfl;have zd:(qO y R).ds.length=y.ds.length:=cT ..;have zR:∀a,a<y.ds.length->(qO y R).ds.getD a default=(R a).d:=λa ha=>ZG ha
  have hzl:=zA zI (qO y R).ds;have eA:∀T f,tdO T f= .agg [.ref 1051 0 (T.map ZF).length,zD yB [f]]:=λ_ _=>rfl
  have eH:∀T,tdH T=[(1051,.arr 1 (T.map ZF) true)]:=λ_=>rfl
  rw[eT,eA,eH];clear d1 d2 d3 d4 d5 kst l1 l2 l3 l4 l5 l6 l7 g1 g2 hkx eY hds;refine uI 11 0 1051 1 Z Z Z Z Z ?_
  have hTf:∀a k,tdT (qO y R) ins R y.ds.length a k=if(ins.getD ((jP y.c.ags a).toNat+k) default).opn=true then tlF ((qO y R).ds.getD a default) (qO y R).vw (qO y R).now k (R a).R (NR R y.ds.length)else []:=λ_ _=>rfl
  generalize tdT (qO y R) ins R y.ds.length=tf at *;generalize qO y R=z at *;refine zN (y.c.ags.length) [11,1051,2,3,4,5,6,7] [2,3,4,5,6,7] [2,3,4,5,6,7,11,78,86] [79,2,3,4,5,6,7,11,78,86] Z (λi T U=>⟨(79,iA i)::T,(11,.box [.ref 1051 0 ((FA y.c tf i).map ZF).length,.s (.slice none 0 0)])::(1051,.arr 1 ((FA y.c tf i).map ZF) true)::U⟩) ?_;(conv=>whnf);refine⟨by rfl,?_,?_⟩
  ·intro i hi;have hid:i<y.ds.length:=by omega
   have ks:=zC9 y.c i;have ht:=zI7 y.c hw i hi;obtain⟨bs,hbs⟩:∃bs:Nat,jP y.c.ags i=(bs:Int):=⟨(jP y.c.ags i).toNat,by have:=jG hw i zB;omega⟩;obtain⟨N,hN⟩:∃N:Nat,(y.c.ags.getD i default).ses=(N:Int):=⟨(y.c.ags.getD i default).ses.toNat,by have:=hw.at (i:=i) zB;omega⟩
   have hbd:bs+N<=ins.length:=by
    have:=EP hw (show i+1<=y.c.ags.length by omega) (yBg _);have h2:jP y.c.ags (i+1)=jP y.c.ags i+(y.c.ags.getD i default).ses:=rfl;omega
   have hN2:=hw.at (i:=i) zB;have hL:JN y.c i=(List.range N).map λk=>[plA i k (bs+k)]:=by unfold JN;rw[hbs,hN];rfl
   have htd:=RR hw tf i zB;have hsb:=jG hw i zB;rw[PB,show(y.c.ags.getD i default).ses.toNat=N by omega]
   have hy6:(List.map (λk=>rpA (R k)) (List.range y.ds.length))[i]? =some (.sl false ((R i).R.map ZF)):=by
    rw[yBh,yCe hid];rfl
   have hDt:=(hR i hid).1;have hI:=hZ.di _ (zS z.ds i zB);have hzi:=zR i hid
   have hau:(R i).d.au.length=N:=by
    have:=hDt.i.au;rw[hDt.ag]at this;have e9:=h.dg i hid;rw[show(GR (y.ds.getD i default) (y.now+1)).rg.ag=(y.ds.getD i default).rg.ag from Z,e9]at this;omega
   have hau2:(GR (y.ds.getD i default) (y.now+1)).au.length=N:=by
    have:=(h.di _ (zS y.ds i hid)).au;rw[h.dg i hid]at this
    show(y.ds.getD i default).au.length=N
    omega
   have hRl:=hDt.rn;rw[hau2]at hRl;have hRv:=hDt.rv
   have hEn:∀e∈NR R y.ds.length,EnK e:=λe he=>by
    obtain⟨a,ha,he⟩:=zCv he;exact(hR a ha).1.en e he
   have hEl:=JK hen y.ds.length;have hq9:=hI.a.q;have kt:=λk (hk:k<N)=>zOx z hZ.n0 zB i k (bs+k) zB hI.bd hq9 (by have:=hZ.wl;have:=hZ.v.j;omega) hZ.wb (by rw[hzi];omega) (R i).R hRv zB (NR R y.ds.length) hEn zB
   have hTf':∀k,k<N->tf i k=if(ins.getD (bs+k) default).opn=true then tlF (z.ds.getD i default) z.vw z.now k (R i).R (NR R y.ds.length)else []:=λk hk=>by
    rw[hTf i k,hbs];rfl
   clear hTf hEn hRv hR hDt hI zR;have eZ:uB z= .agg [zD wE y.c.js,zD vB y.c.ags,iA y.c.per,iA y.c.cap,iA y.c.hold,iA y.c.lock,bA false,iA (y.now+1),zD zI z.ds,zD wY z.sg,zD wV z.sv,zD iA z.st,zD vQ z.vw]:=eT;rw[eZ]at kt;rw[show zD ZF (R i).R= .sl false ((R i).R.map ZF)from Z]at kt;generalize (R i).R.map ZF=Rm at *;rw[yBn];have hxl:=zA ZF (FA y.c tf i);generalize (FA y.c tf i).map ZF=X at *;unfold zFc at ks ht;unfold wN at ks;refine zW ks ?_
   refine uH hF ht Z [2,3,4,5,6,7,11,12,1051] [2,3,4,5,6,7,11,12,78,79] Z Z Z Z Z Z Z Z Z (λk ys h=>?_) (λk=>[(2,.box [zD wE y.c.js,zD vB y.c.ags,iA y.c.per,iA y.c.cap,iA y.c.hold,iA y.c.lock,bA false,iA (y.now+1),zD zI z.ds,zD wY z.sg,zD wV z.sv,zD iA z.st,zD vQ z.vw]),(3,.box [zD jR ins]),(4,.box [.s (.slice none 0 0),.s (.slice none 0 0),iA 0,iA 0,iA 0,iA 0,bA false,iA 0,.s (.slice none 0 0),.s (.slice none 0 0),.s (.slice none 0 0),.s (.slice none 0 0),.s (.slice none 0 0)]),(5,.box [.s (.slice none 0 0),.s (.slice none 0 0)]),(6,.box [.sl false (List.map (λk=>rpA (R k)) (List.range y.ds.length))]),(7,.box [zD gF (NR R y.ds.length)]),(11,.box [.ref 1051 0 (X++(AW tf i k).map ZF).length,.s (.slice none 0 0)]),(12,.box [iA i]),(1051,.arr 1 (X++(AW tf i k).map ZF) true)]) (λ_=>True)
    (T:=[(2,.ptr 2 0 0),(3,.ptr 3 0 0),(4,.ptr 4 0 0),(5,.ptr 5 0 0),(6,.ptr 6 0 0),(7,.ptr 7 0 0),(11,.ptr 11 0 0),(12,.ptr 12 0 0),(78,iA y.c.ags.length),(79,iA i)]) (by rw[show(AW tf i 0).map ZF=[]from Z,yCd];rfl) trivial (λk ys q hys hI9 F1 h1 h2=>?_) (λhI9=>?_)
   ·rw[hL,yBh,yBs]at h;obtain⟨x,_,rfl⟩:=h;rfl
   ·have hk:k<N:=by
     have:=(yB0.1 hys).1;rw[hL,yBe,yCy]at this;exact this
    rw[hL,yBh,yCe hk]at hys;obtain rfl:=yDy hys;have hyi:=zM jR ins (bs+k) zB;have hol:((AW tf i k).map ZF).length=k:=by unfold AW;rw[yBe,yBe,yCy]
    have kt:=kt k hk;rw[zId,yBn,show [tf i k].map ZF=[zD yB (tf i k)]from Z,hTf' k hk,<-yCa];generalize (AW tf i k).map ZF=O at *;generalize ins.getD (bs+k) default=x at *;generalize tlF (z.ds.getD i default) z.vw z.now k (R i).R (NR R y.ds.length)=tl at *;unfold jR at hyi;obtain⟨xo,xs⟩:=x;refine WW ?_;refine⟨rfl,λF2 g1 g2=>?_⟩;dsimp only at hyi⊢;cases xo
    ·rw[yBc yBw]
     (repeat' (first|refine bW ?_|((first|apply xE|apply xV)<;>intro hc)|(refine zE ?_;first|(refine yR ?_;refine TR 117 Z Z Z ?_;refine qH tok Z Z ?_))|refine SB ?_|fail))
     exact⟨rfl,trivial⟩
    ·rw[yBd Z]
     (have zc1:=kt;(repeat' (first|refine bW ?_|((first|apply xE|apply xV)<;>intro hc)|(refine zE ?_;first|(refine yR ?_;refine TR 117 Z Z Z ?_;refine qH tok Z Z ?_))|refine SB ?_|fail))<;>clear zc1)
     exact⟨rfl,trivial⟩
   ·rw[show(JN y.c i).length=N by rw[hL,yBe,yCy]]
    show vO _ _ _ _ ⟨_,_⟩ _
    refine WW ?_;rfl
  ·have hwl:z.vw.length<=4:=by have:=hZ.wl;have:=hZ.v.j;omega
   have kf:=zUm (y.now+1) z.vw zB hZ.wb;have kv:=EG [PA (y.now+1) z.vw] zQ (λm hm=>by rw[yCf.1 hm];exact zYb z.vw (y.now+1) zB zB hwl hZ.wb);rw[show zD yB [PA (y.now+1) z.vw]= .sl false [yB (PA (y.now+1) z.vw)]from Z]at *; generalize PA (y.now+1) z.vw=fm at *;have hxl:=zA ZF (FA y.c tf y.c.ags.length);generalize (FA y.c tf y.c.ags.length).map ZF=X at *;refine zW kf ?_
   (refine uF 158 ?_;refine uO [2,4,5,11,1051] [2,4,5,11,127] Z ?_;(conv=>whnf);(try simp only[yCg,yBj]);first|refine wK (zL (kv) Z Z Z Z Z) Z ?_|refine qA (zL (kv) Z Z Z Z Z) Z Z Z ?_|refine XZ (zL (kv) Z Z Z Z Z) Z Z Z ?_)
   refine WW ?_;exact zH [1051] Z Z Z Z
def zUi {y y':Cy} {ins:List In} {T:List (List Ms)} {f:Ms} (k:zO 118 [uB y,zD jR ins] [] (.tup [uB y',tdO T f]) (tdH T)):zO 118 [uB y,zD jR ins] [] (.tup [uB y',tdA T f]) []:=by
 refine k.frz [] ?_ Z Z
 show AV.tup [_,AV.agg [AV.sl false (List.take (T.map ZF).length (T.map ZF)),_]]=_
 rw[yBj];rfl
structure MtP (y y':Cy) (ins:List In) (T:List (List Ms)):Prop where
 i:WM y'
 c:y'.c=y.c
 n:y'.now=y.now+1
 l:T.length=ins.length
 v:∀x∈T,x.length<=1002/\∀m∈x,NQ m
 f:NQ (PA (y.now+1) y'.vw)
 off:∀s,s<ins.length->(ins.getD s default).opn=false->T.getD s []=[]
 on:∀s,s<ins.length->(ins.getD s default).opn=true->∃(l1 l2:List Ms) (d:xH),T.getD s []=l1++(MX d y'.vw (y.now+1)::l2)/\l1.length=(ins.getD s default).its.length/\NQ (MX d y'.vw (y.now+1))
 tk:TkR y ins (dtR y ins)/\y'=qO y (dtR y ins)/\T=FA y.c (tdT y' ins (dtR y ins) y.ds.length) y.c.ags.length
theorem zH4 (y:Cy) (h:WM y) (hn:y.now<1000000000) (ins:List In) (hil:(ins.length:Int)=jP y.c.ags y.c.ags.length) (hin:∀i∈ins,InS i):
  ∃(y':Cy) (T:List (List Ms)),MtP y y' ins T/\zO 118 [uB y,zD jR ins] [] (.tup [uB y',tdO T (PA (y.now+1) y'.vw)]) (tdH T):=by
 have hR:=zYc h hn hil hin;have k:=zOw y h hn ins hil (dtR y ins) hR (λi=>(EM ..).1) (λi=>(EM ..).2);obtain⟨R,eR⟩:∃R,R=dtR y ins:=⟨_,rfl⟩;rw[<-eR]at hR k;have hZ:=LE h hR;have n0:=h.n0;have hw:=h.v.ag;have hdl:=h.dl;have hl:=RR hw (tdT (qO y R) ins R y.ds.length) _ (yBg _);have hwl:(qO y R).vw.length<=4:=by have:=hZ.wl;have:=hZ.v.j;omega
 have hEn:∀e∈NR R y.ds.length,EnK e:=λe he=>by
  obtain⟨a,ha,he⟩:=zCv he;exact(hR a ha).1.en e he
 refine⟨qO y R,FA y.c (tdT (qO y R) ins R y.ds.length) y.c.ags.length,⟨hZ,rfl,rfl,zB,λx hx=>?_,zYb _ _ zB zB hwl hZ.wb,λs hs ho=>?_,λs hs ho=>?_,eR▸⟨hR,rfl,rfl⟩⟩,k⟩
 ·obtain⟨s,hs,e⟩:=yEo.1 hx;obtain⟨a,k,h1,h2,h3,h4⟩:=RS hw (tdT (qO y R) ins R y.ds.length) _ (yBg _) s hs;have e2:x=tdT (qO y R) ins R y.ds.length a k:=by rw[<-h4,yBl,yBu hs,<-e];rfl
  rw[e2];unfold tdT;split
  ·have hid:a<y.ds.length:=by omega
   have hDt:=(hR a hid).1
   have hau2:((GR (y.ds.getD a default) (y.now+1)).au.length:Int)=(y.c.ags.getD a default).ses:=by
    have:=(h.di _ (zS y.ds a hid)).au;rw[h.dg a hid]at this;exact this
   have hRl:=hDt.rn;have hq:=hDt.i.a.q;have hzi:(qO y R).ds.getD a default=(R a).d:=ZG hid;rw[hzi];exact zS2 _ hq _ _ (by show 0<=y.now+1;omega) (by show y.now+1<=_;omega) hwl hZ.wb k (R a).R hDt.rv zB _ hEn
  ·exact⟨yBt _,λm hm=>by cases hm⟩
 ·obtain⟨a,k,h1,h2,h3,h4⟩:=RS hw (tdT (qO y R) ins R y.ds.length) _ (yBg _) s zB;rw[h4];unfold tdT;rw[show(jP (qO y R).c.ags a).toNat+k=s from h3.symm,ho,yBc yBw]
 ·obtain⟨a,k,h1,h2,h3,h4⟩:=RS hw (tdT (qO y R) ins R y.ds.length) _ (yBg _) s zB;have hid:a<y.ds.length:=by omega
  have hDt:=(hR a hid).1
  have hau2:((GR (y.ds.getD a default) (y.now+1)).au.length:Int)=(y.c.ags.getD a default).ses:=by
   have:=(h.di _ (zS y.ds a hid)).au;rw[h.dg a hid]at this;exact this
  have hq:=hDt.i.a.q;have hzi:(qO y R).ds.getD a default=(R a).d:=ZG hid;have hrl:=hDt.rl k zB;have hol:(owI y.c ins a).length=(y.c.ags.getD a default).ses.toNat:=by unfold owI owP;rw[yBe,yCy]
  have hog:(owI y.c ins a).getD k default=ins.getD s default:=by
   unfold owI owP;rw[yBl,yBh,yCe zB,h3];rfl
  have hsi:dM (owI y.c ins a) k=(ins.getD s default).its:=by
   unfold dM;rw[hog,yBd ⟨zB,ho⟩]
  rw[hsi]at hrl;refine⟨(R a).R.getD k [],(if((qO y R).ds.getD a default).au.getD k default=true then [trM (qO y R).now (NR R y.ds.length)]else []),(qO y R).ds.getD a default,?_,hrl,?_⟩
  ·rw[h4];unfold tdT;rw[show(jP (qO y R).c.ags a).toNat+k=s from h3.symm,ho,yBd Z];unfold tlF;rw[yCa];rfl
  ·rw[hzi];exact zS1 _ hq _ _ zB zB hwl hZ.wb
def zE3 (y:Cy) (j p:Int):Cy:=if(0<=j/\j<(y.c.js.length:Int))/\0<=p/\p<((y.c.js.getD j.toNat default).ph.length:Int)then⟨y.c,false,y.now,y.ds,y.sg,y.sv,y.st.set j.toNat p,y.vw⟩else y
def zE4 (y:Cy) (h:WM y) (j p:Int):∃y':Cy,WM y'/\y'=zE3 y j p/\zO 83 [uB y,iA j,iA p] [] (uB y') []:=by
 have hb:=h.b;have hrf:=h.rf;have hjl:=zA wE y.c.js;have htl:=zA iA y.st;have htl2:=h.tl;have eC:uB y= .agg [zD wE y.c.js,zD vB y.c.ags,iA y.c.per,iA y.c.cap,iA y.c.hold,iA y.c.lock,bA false,iA y.now,zD zI y.ds,zD wY y.sg,zD wV y.sv,zD iA y.st,zD vQ y.vw]:=by rw[<-hrf];rfl
 by_cases hj:0<=j/\j<(y.c.js.length:Int)
 case neg=>
  refine⟨y,h,by unfold zE3;rw[yBc (λh=>hj h.1)],?_⟩;have k1:=aN y hb;rw[eC]at k1⊢;by_cases h0:j<0
  ·(refine eM call83 λF hF=>?_)
   refine zW k1 ?_;exact zJ
  ·(refine eM call83 λF hF=>?_)
   refine zW k1 ?_;exact zJ
 obtain⟨j0,j1⟩:=hj;have hyj:=yL wE y.c.js j j0 j1;have hpl:=zA wT (y.c.js.getD j.toNat default).ph;by_cases hp:0<=p/\p<((y.c.js.getD j.toNat default).ph.length:Int)
 case neg=>
  refine⟨y,h,by unfold zE3;rw[yBc (λh=>hp h.2)],?_⟩;have k1:=aN y hb;rw[eC]at k1⊢;generalize y.c.js.getD j.toNat default=jn at *;unfold wE at hyj;by_cases h0:p<0
  ·(refine eM call83 λF hF=>?_)
   refine zW k1 ?_;exact zJ
  ·(refine eM call83 λF hF=>?_)
   refine zW k1 ?_;exact zJ
 obtain⟨p0,p1⟩:=hp;refine⟨⟨y.c,false,y.now,y.ds,y.sg,y.sv,y.st.set j.toNat p,y.vw⟩,⟨h.v,rfl,h.n0,h.dl,h.di,h.dg,h.sc,h.gl,h.sl,by dsimp only;rw[yC3];exact h.tl,h.wl,h.wb,h.j⟩,by unfold zE3;rw[yBd ⟨⟨j0,j1⟩,p0,p1⟩],?_⟩;have k1:=PJ y hb;unfold zJm zJn aI at k1;rw[eC,hrf]at k1;rw[eC];have e2:(y.st.set j.toNat p).map iA=(y.st.map iA).set j.toNat (iA p):=yDa ..;rw[show uB ⟨y.c,false,y.now,y.ds,y.sg,y.sv,y.st.set j.toNat p,y.vw⟩= .agg [zD wE y.c.js,zD vB y.c.ags,iA y.c.per,iA y.c.cap,iA y.c.hold,iA y.c.lock,bA false,iA y.now,zD zI y.ds,zD wY y.sg,zD wV y.sv,.sl false ((y.st.map iA).set j.toNat (iA p)),zD vQ y.vw] by rw[<-e2];rfl];clear e2;have hyt:=yL iA y.st j j0 zB;generalize y.c.js.getD j.toNat default=jn at *;unfold wE at hyj;refine eM call83 λF hF=>?_
 refine zW k1 ?_;refine zH [] Z Z ?_ Z
 show AV.agg [_,_,_,_,_,_,_,_,.sl false (List.take (y.ds.map zI).length (y.ds.map zI)),.sl false (List.take (y.sg.map wY).length (y.sg.map wY)),.sl false (List.take (y.sv.map wV).length (y.sv.map wV)),.sl false (List.take (y.st.map iA).length ((y.st.map iA).set j.toNat (iA p))),_]=_
 rw[yBj,yBj,yBj,yBo (by rw[yC3];exact yBg _)];rfl
section
open Classical in
noncomputable def bsM (m:Ms):List Int:=if h:NQ m then frF m.kind (JJ h.2).choose else []
def zCw (m:Ms) (h:NQ m):((bsM m).length<=300/\(m.args≠[]->∃q:List Int,bsM m=90::165::1::m.kind::q/\7<=q.length))/\zO 97 [yB m] [] (.tup [zD yA (bsM m),iA 0]) []:=by
 have hs:=(JJ h.2).choose_spec;have e:bsM m=frF m.kind (JJ h.2).choose:=by unfold bsM;rw[yHl h]
 rw[e];generalize (JJ h.2).choose=p at *;obtain⟨h1,h2,h3⟩:=hs;obtain⟨k,tk,ar,da⟩:=m;obtain⟨h4,h5⟩:=h;dsimp only at *;subst h4;refine⟨⟨?_,λh9=>?_⟩,h3⟩
 ·simp only[frF,be4,yBp,yBf,yBe,yCy];have:(bT k p.length).length<=10:=by unfold bT;simp
  have:=h2.1;omega
 ·refine⟨0::(p.length:Int)::(p++be4 (aG (bT k p.length++p))),by simp[frF,bT],?_⟩;have h8:=h2.2 h9;simp only[be4,yBp,yBf,yBe,yCy];omega
noncomputable def XX (l:List Ms):List Int:=(l.map bsM).flatten
def zH5 (l:List Ms) (m:Ms):XX (l++[m])=XX l++bsM m:=by simp[XX]
theorem zCx:∀{l:List Ms},(∀m∈l,NQ m)->(XX l).length<=300*l.length
 | [],_=>yBt _
 |m::l,h=>by
  have h1:=(zCw m (h m zQ)).1.1;have h2:=zCx (l:=l) λx hx=>h x MT
  have e:XX (m::l)=bsM m++XX l:=rfl;rw[e,yBf,yBp];omega
def LC (l:List Ms) (hl:l.length<=1002) (h:∀m∈l,NQ m):zO 119 [zD yB l] [] (zD yA (XX l)) []:=by
 have hml:=zA yB l;refine eM call119 λF hF=>?_
 refine WW ?_;refine xC 3 1001 1 Z Z Z ?_;refine yO (l) [1001] [] [8,9] [3,10,8,9] Z (λi pre T U=>⟨(3,.ref 1001 0 ((XX pre).map yA).length)::(10,iA i)::T,(1001,.arr 1 ((XX pre).map yA) true)::U⟩) ?_;(conv=>whnf);refine⟨by rfl,?_,?_⟩
 ·intro i pre x post hx hi;have hy:=xL yB hx hi;have hlt:=yQ hx hi;obtain⟨⟨c1,_⟩,c2⟩:=zCw x (h x (wZ hx));have hpl:=zCx (l:=pre) λm hm=>h m (by rw[hx];simp[hm])
  have hpm:=zA yA (XX pre);have hbm:=zA yA (bsM x);rw[zH5,yBn];clear hx;generalize XX pre=X at *;generalize bsM x=Y at *;unfold yB at *;refine zW c2 ?_;rfl
 ·(refine WW ?_)
  exact zH [] Z Z (yB8 (AV.sl false) yBj) Z
structure WK where
 y:Cy
 ss:List Ss
def YT (y:Cy) (s:AV):AV:= .agg [zD wE y.c.js,zD vB y.c.ags,iA y.c.per,iA y.c.cap,iA y.c.hold,iA y.c.lock,bA false,iA y.now,zD zI y.ds,zD wY y.sg,zD wV y.sv,zD iA y.st,zD vQ y.vw,s]
def dU (b:WK):AV:=YT b.y (zD jN b.ss)
structure BrI (b:WK):Prop where
 y:WM b.y
 l:(b.ss.length:Int)=jP b.y.c.ags b.y.c.ags.length
 s:∀s∈b.ss,SsI s
def sdA (S:List (List Int)) (f:List Int):AV:= .agg [zD (zD yA) S,zD yA f]
def eK (ss:List Ss):List In:=ss.map λs=>(WH s).2
def QZ (ss:List Ss) (i:Nat):List AV:=(List.range ss.length).map λk=>if k<i then jR (WH (ss.getD k default)).2 else .agg [bA false,.s (.slice none 0 0)]
def dV (ss:List Ss) (i:Nat):List Ss:=WA (λ_ s=>(WH s).1) ss i
noncomputable def UO (T:List (List Ms)) (i:Nat):List AV:=(List.range T.length).map λk=>if k<i then zD yA (XX (T.getD k default))else .s (.slice none 0 0)
def zH6 (ss:List Ss):QZ ss ss.length=(eK ss).map jR:=by
 unfold QZ eK;rw[eI,yGh];apply yCs;intro j;rw[yBh,yBh];by_cases hj:j<ss.length
 ·rw[yCe hj,yBu hj];simp only[Option.map_some,Function.comp,yBl,yBu hj,yDi]
 ·rw[yB6 wU,yB6 zB];rfl
def zH7 (T:List (List Ms)):UO T T.length=(T.map XX).map (zD yA):=by
 unfold UO;rw[eI,yGh];apply yCs;intro j;rw[yBh,yBh];by_cases hj:j<T.length
 ·rw[yCe hj,yBu hj];simp only[Option.map_some,Function.comp,yBl,yBu hj,yDi]
 ·rw[yB6 wU,yB6 zB];rfl
theorem zH8 (b:WK) (h:BrI b) (y':Cy) (Td:List (List Ms)) (hM:MtP b.y y' (eK b.ss) Td) (k:zO 118 [uB b.y,zD jR (eK b.ss)] [] (.tup [uB y',tdA Td (PA (b.y.now+1) y'.vw)]) []):
  zO 84 [YT b.y (.ref 1021 0 b.ss.length)] [(1021,.arr 4 (b.ss.map jN) false)] (.tup [YT y' (.ref 1021 0 b.ss.length),sdA (Td.map XX) (XX [PA (b.y.now+1) y'.vw])]) [(1021,.arr 4 ((dV b.ss b.ss.length).map jN) false)]:=by
 obtain⟨y,ss⟩:=b;have hy:=h.y;have hs:=h.s;have hl:=h.l;dsimp only at *;have hw:=hy.v.ag;have hrf:=hy.rf
 have hsb:ss.length<=8:=by
  have:=jG hw y.c.ags.length (yBg _);have:=hw.1;omega
 have hrf':=hM.i.rf;have hTl:=hM.l;have hil:(eK ss).length=ss.length:=by unfold eK;rw[yBe]
 rw[hil]at hTl;have eC:uB y= .agg [zD wE y.c.js,zD vB y.c.ags,iA y.c.per,iA y.c.cap,iA y.c.hold,iA y.c.lock,bA false,iA y.now,zD zI y.ds,zD wY y.sg,zD wV y.sv,zD iA y.st,zD vQ y.vw]:=by rw[<-hrf];rfl
 have eC':uB y'= .agg [zD wE y'.c.js,zD vB y'.c.ags,iA y'.c.per,iA y'.c.cap,iA y'.c.hold,iA y'.c.lock,bA false,iA y'.now,zD zI y'.ds,zD wY y'.sg,zD wV y'.sv,zD iA y'.st,zD vQ y'.vw]:=by rw[<-hrf'];rfl
 rw[eC,eC',show∀f,tdA Td f= .agg [.sl false (Td.map ZF),zD yB [f]]from λ_=>rfl]at k;have hTv:=hM.v;have kf:=LC [PA (y.now+1) y'.vw] zQ (λm hm=>by rw[yCf.1 hm];exact hM.f);generalize PA (y.now+1) y'.vw=fm at *;have hsl:=zA jN ss
 have hi0:QZ ss 0=List.replicate ss.length (.agg [bA false,.s (.slice none 0 0)]):=by
  unfold QZ;apply yCs;intro j;rw[yBh,yC7];by_cases hj:j<ss.length
  ·rw[yCe hj,yBd hj];simp
  ·rw[yBc hj,yB6 wU];rfl
 have hs0:dV ss 0=ss:=jC _ _;unfold YT;refine eM call84 λF hF=>?_
 refine WW ?_;have hsn:∀i,((dV ss i).map jN).length=ss.length:=λi=>by unfold dV;rw[yBe,vA]
 have hin:∀i,(QZ ss i).length=ss.length:=λi=>by unfold QZ;rw[yBe,yCy]
 refine zN (ss.length) [1021,14,1,2,3] [1,2,3] [1,2,3,4,17] [18,1,2,3,4,17] Z (λi T U=>⟨(18,iA i)::T,(1021,.arr 4 ((dV ss i).map jN) false)::(14,.arr 2 (QZ ss i) false)::U⟩) ?_;(conv=>whnf);refine⟨by(rw[hi0,hs0];rfl),?_,?_⟩
 ·intro i hi;have hys:((dV ss i).map jN)[i]? =some (jN (ss.getD i default)):=by rw[yBh];unfold dV;rw[uP,yBd hi,yBc (yFf i)];rfl
  have hyi:(QZ ss i)[i]? =some (.agg [bA false,.s (.slice none 0 0)]):=cF _ _ _ _ hi;have e1:(dV ss (i+1)).map jN=((dV ss i).map jN).set i (jN (WH (ss.getD i default)).1):=by unfold dV;rw[qN _ _ _ _ hi]
  have e2:QZ ss (i+1)=(QZ ss i).set i (jR (WH (ss.getD i default)).2):=eE _ _ _ _ hi;have hI:=hs _ (zS ss i hi);have kt:=zOs (ss.getD i default) hI.y (by have:=hI.n;omega);have h1:=hsn i;have h2:=hin i;rw[e1,e2];clear e1 e2 hi0 hs0 hI hs hTv k;generalize (dV ss i).map jN=X at *;generalize QZ ss i=Y at *;generalize (WH (ss.getD i default)).1=s1 at *;generalize (WH (ss.getD i default)).2=n1 at *;generalize ss.getD i default=s0 at *;refine zW kt ?_;rfl
 ·rw[zH6];refine kG [1,2,3,1021] [1,2,3,4,17,18] Z ?_
  (conv=>whnf)
  have hbm:=zA jR (eK ss);simp only[yCg];rw[yBo (l:=(eK ss).map jR) zB];have hTm:=zA ZF Td;refine yS (vH k kf) ?_
  have hd0:UO Td 0=List.replicate Td.length (.s (.slice none 0 0)):=by
   unfold UO;apply yCs;intro j;rw[yBh,yC7];by_cases hj:j<Td.length
   ·rw[yCe hj,yBd hj];simp
   ·rw[yBc hj,yB6 wU];rfl
  have hdn:∀i,(UO Td i).length=Td.length:=λi=>by unfold UO;rw[yBe,yCy]
  rw[hTm];refine zN (Td.length) [50,1,2,3,8,1021] [1,2,3,8,1021] [1,2,3,8,56,57] [58,1,2,3,8,56,57] Z (λi T U=>⟨(58,iA i)::T,(50,.arr 1 (UO Td i) false)::U⟩) ?_;(conv=>whnf);refine⟨by(rw[hd0];rfl),?_,?_⟩
  ·intro i hi;have hyT:=zM ZF Td i hi;have hyd:(UO Td i)[i]? =some (.s (.slice none 0 0)):=cF _ _ _ _ hi;have e1:UO Td (i+1)=(UO Td i).set i (zD yA (XX (Td.getD i default))):=eE _ _ _ _ hi;obtain⟨v1,v2⟩:=hTv _ (zS Td i hi);have kg:=LC (Td.getD i default) v1 v2;have h2:=hdn i;rw[e1];unfold ZF at hyT;clear e1 hd0 hdn hi0 hs0 hs hTv k v2 kf;generalize UO Td i=X at *;generalize XX (Td.getD i default)=bs at *;generalize Td.getD i default=ti at *;refine zW kg ?_;rfl
  ·(refine WW ?_)
   refine zH [1021] Z Z ?_ Z
   show AV.tup [_,AV.agg [AV.sl false (List.take Td.length (UO Td Td.length)),_]]=_
   rw[yBo (l:=UO Td Td.length) (yDd (hdn _)),zH7];rfl
end
end Av
end Go.Proofs.YteajjdidebfcjaaGreat
