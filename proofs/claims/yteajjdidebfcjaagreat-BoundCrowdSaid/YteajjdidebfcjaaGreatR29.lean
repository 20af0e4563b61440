/- Part 29. -/
import Derived.Test.YteajjdidebfcjaaGreatR28
namespace Go.Proofs.YteajjdidebfcjaaGreat
namespace Av
open Tryz
set_option linter.all false
set_option maxRecDepth 4000
set_option maxHeartbeats 8000000
structure TaS where
 t:Nat
 g:Bool
 its:List It
def taC (s:TaS) (p:It×Nat):Bool:=decide (p.1.code=2)&&s.g
def OV (s:TaS) (p:It×Nat):TaS:=if taC s p=true then⟨s.t+p.2,s.g,s.its⟩else⟨s.t+p.2,decide (p.1.code=2)||(decide (p.1.code=7)||decide (p.1.code=4)),s.its++[p.1]⟩
def taX (N:Nat) (s:TaS) (p:It×Nat):Bool:=!taC s p&&decide (N<=s.its.length+1)
def ZO (N:Nat):List (It×Nat)->TaS->TaS
 | [],s=>s
 |p::l,s=>if taX N s p=true then OV s p else ZO N l (OV s p)
def AM (s0:TaS) (l:List (It×Nat)) (i:Nat):TaS:=(l.take i).foldl OV s0
def FF (s0:TaS) {l:List (It×Nat)} {i:Nat} {p:It×Nat} (h:l[i]? =some p):AM s0 l (i+1)=OV (AM s0 l i) p:=by
 unfold AM;rw[yC2,h,yEq];rfl
theorem KJ {N:Nat}:∀(l:List (It×Nat)) (s:TaS),s.its.length<N->(ZO N l s).its.length<=N
 | [],s,h=>yFb h
 | p::l,s,h=>by
  unfold ZO
  have h1:(OV s p).its.length<=s.its.length+1:=by
   unfold OV;split
   ·dsimp only;omega
   ·dsimp only;rw[yAd];simp
  split
  ·omega
  ·rename_i hx;refine KJ l _ ?_;unfold taX at hx;unfold OV;cases hc:taC s p
   ·rw[hc]at hx;rw[zZ7 yAs];simp only[yEt,yAv,yAc]at hx;dsimp only;rw[yAd];simp only[yAl,yBr];omega
   ·rw[zZ8 Z];exact h
theorem zB5 {N:Nat} {Pr:It->Prop}:∀(l:List (It×Nat)) (s:TaS),(∀x∈s.its,Pr x)->(∀p∈l,Pr p.1)->∀x∈(ZO N l s).its,Pr x
 | [],s,h,_=>h
 | p::l,s,h,hl=>by
  have h1:∀x∈(OV s p).its,Pr x:=by
   unfold OV;split
   ·exact h
   ·intro x hx
    rcases yAw.1 hx with hx|hx
    ·exact h x hx
    ·rw[yA8.1 hx];exact hl p zU
  unfold ZO;split
  ·exact h1
  ·exact zB5 l _ h1 λq hq=>hl q (by simp[hq])
theorem zG8 {N:Nat}:∀(l:List (It×Nat)) (s:TaS),s.t<=(ZO N l s).t/\(ZO N l s).t<=s.t+zEa l
 | [],s=>⟨yAb _,Nat.le_add_right _ _⟩
 |p::l,s=>by
  have h1:(OV s p).t=s.t+p.2:=by unfold OV;split<;>rfl
  have h2:=zG8 (N:=N) l (OV s p);have h3:zEa (p::l)=p.2+zEa l:=by simp[zEa]
  unfold ZO
  split<;>omega
theorem zB6:∀(n:Nat) (b:List Int),(jT n b).length<=n
 |0,_=>yAb _
 |n+1,b=>by
  unfold jT;split
  ·exact yAp _
  ·rename_i q _;have:=zB6 n (b.drop q.2);rw[yAl];omega
def stA (b:List Int) (g:Bool):AV:= .agg [zD yA b,bA g]
def KL (k N:Nat):zN 164 [iA k,.ptr 1053 0 0] [(1053,.box [iA N])] (bA (decide (N<=k))) [(1053,.box [iA N])]:=by
 by_cases h:N<=k
 ·rw[yAe h];refine eM call164 λF hF=>?_
  refine WW ?_;exact zL [1053] Z Z Z Z
 ·rw[yAh h];refine eM call164 λF hF=>?_
  refine WW ?_;exact zL [1053] Z Z Z Z
theorem zNx (b:List Int) (hb:BY b) (hl:b.length<=1000) (g:Bool) (N:Nat) (hN:1<=N/\N<=1000):zN 163 [stA b g,.fn 164 [.ptr 1053 0 0]] [(1053,.box [iA N])]
  (.tup [stA (b.drop (ZO N (jT b.length b) ⟨0,g,[]⟩).t) (ZO N (jT b.length b) ⟨0,g,[]⟩).g,zD wZ (ZO N (jT b.length b) ⟨0,g,[]⟩).its]) [(1053,.box [iA N])]:=by
 have kp:=zHq b;have ht:=zEb b hb zB;have hbl:=zA yA b;have hr1:=(zG8 (N:=N) (jT b.length b) ⟨0,g,[]⟩).2;have hr2:=zCg (n:=b.length) hb;dsimp only at hr1;have hL:psL b=(jT b.length b).map λp=>[wZ p.1,iA (p.2:Int)]:=rfl
 have hG0:AM ⟨0,g,[]⟩ (jT b.length b) 0=⟨0,g,[]⟩:=rfl
 have hGn:∀i,(AM ⟨0,g,[]⟩ (jT b.length b) i).its.length<=i:=λi=>by
  induction i with
  |zero=>exact yAb _
  | succ i ih=>
   cases h:(jT b.length b)[i]? with
   | none=>
    have:AM ⟨0,g,[]⟩ (jT b.length b) (i+1)=AM ⟨0,g,[]⟩ (jT b.length b) i:=by
     unfold AM;rw[yC2,h];simp
    rw[this];omega
   |some p=>
    rw[FF _ h];unfold OV;split
    ·dsimp only;omega
    ·dsimp only;rw[yAd];simp only[yAl,yBr];omega
 rw[show stA b g= .agg [zD yA b,bA g]from Z];rw[show stA (b.drop (ZO N (jT b.length b) ⟨0,g,[]⟩).t) (ZO N (jT b.length b) ⟨0,g,[]⟩).g= .agg [zD yA (b.drop (ZO N (jT b.length b) ⟨0,g,[]⟩).t),bA (ZO N (jT b.length b) ⟨0,g,[]⟩).g]from Z];generalize hr:ZO N (jT b.length b) ⟨0,g,[]⟩=r at *;unfold psH at kp ht;refine eM call163 λF hF=>?_
 (have zc1:=kp;(repeat' (first|refine WS ?_|refine SG (I2 (λhc=>?_) λhc=>?_)|refine SG λhc=>?_|(refine zE ?_;first|refine SM ?_)|(first|first|refine SR ?_|refine SK (I2 (λhc=>?_) λhc=>?_)|refine SK λhc=>?_|fail|refine vC ?_|refine vD ?_)|fail))<;>clear zc1)
 refine uF 6 0 1051 3 Z Z Z Z Z ?_
 refine uE hF ht Z [2,3,4,6,7,8,1051,1053] [2,3,4,6,7,8] Z Z Z Z Z Z Z Z Z (λk ys h=>?_) (λi=>[(2,.box [zD yA b,bA g]),(3,.box [.fn 164 [.ptr 1053 0 0]]),(4,.box [.s (.slice none 0 0),bA false]),(6,.box [.ref 1051 0 ((AM ⟨0,g,[]⟩ (jT b.length b) i).its.map wZ).length]),(7,.box [iA ((AM ⟨0,g,[]⟩ (jT b.length b) i).t:Int)]),(8,.box [bA (AM ⟨0,g,[]⟩ (jT b.length b) i).g]),(1051,.arr 3 ((AM ⟨0,g,[]⟩ (jT b.length b) i).its.map wZ) true),(1053,.box [iA N])]) (λi=>ZO N ((jT b.length b).drop i) (AM ⟨0,g,[]⟩ (jT b.length b) i)=r)
  (T:=[(2,.ptr 2 0 0),(3,.ptr 3 0 0),(4,.ptr 4 0 0),(6,.ptr 6 0 0),(7,.ptr 7 0 0),(8,.ptr 8 0 0)]) Z hr (λi ys q hys hI F1 h1 h2=>?_) (λhI=>?_)
 ·rw[hL,yAa,yAo]at h;obtain⟨x,_,rfl⟩:=h;rfl
 ·rw [hL,yAa,yAo]at hys;obtain⟨p,hp,rfl⟩:=hys;have e1:=FF (⟨0,g,[]⟩:TaS) hp;have hil:i<(jT b.length b).length:=(yAu.1 hp).1
  have e2:(jT b.length b).drop i=p::(jT b.length b).drop (i+1):=by
   rw[yCr hil]
   congr 1
   exact(yAu.1 hp).2
  rw[e2]at hI;rw[e1];have hgi:=hGn i;have hps:=zCg (n:=b.length) hb;generalize AM ⟨0,g,[]⟩ (jT b.length b) i=s at*
  have hst:s.t+p.2<=b.length:=by
   have h9:(OV s p).t=s.t+p.2:=by unfold OV;split<;>rfl
   unfold ZO at hI;split at hI
   ·rw[<-h9,hI];omega
   ·have:=(zG8 (N:=N) ((jT b.length b).drop (i+1)) (OV s p)).1;rw[hI]at this;omega
  have hpl:=zB6 b.length b;have hi3:i<=1000:=by omega
  clear hp hil e1 e2 hL hG0 hGn hps ht kp;generalize (jT b.length b).drop (i+1)=l2 at *;generalize (jT b.length b).length=L at *;obtain⟨t0,g0,its⟩:=s;obtain⟨⟨cd,kd,py⟩,n⟩:=p;dsimp only at hst hgi;have him:=zA wZ its;rw[show wZ (({code:=cd,kind:=kd,pay:=py}:It),n).fst= .agg [iA cd,iA kd,zD yA py]from Z];refine WW ?_;refine⟨rfl,λF2 g1 g2=>?_⟩;dsimp only;by_cases hc:cd=2
  ·subst hc;cases g0
   ·have e3:OV ⟨t0,false,its⟩ (⟨2,kd,py⟩,n)=⟨t0+n,true,its++[⟨2,kd,py⟩]⟩:=rfl;have e4:taX N ⟨t0,false,its⟩ (⟨2,kd,py⟩,n)=decide (N<=its.length+1):=rfl;unfold ZO at hI;rw[e3,e4]at hI;rw[e3];have kst:=KL (its.map wZ++[AV.agg [iA 2,iA kd,zD yA py]]).length N;rw[show decide (N<=(its.map wZ++[AV.agg [iA 2,iA kd,zD yA py]]).length)=decide (N<=its.length+1) by simp]at kst;by_cases hs:N<=its.length+1
    ·rw[yAe hs]at kst;rw[zZ8 (yAe hs)]at hI;subst hI;have hbt:=zA yA b;have kc:=wV (b.drop ((t0:Int)+(n:Int)).toNat) LL;have eD:zD yA (b.drop (t0+n))=zD yA (b.drop ((t0:Int)+(n:Int)).toNat):=by rw[show((t0:Int)+(n:Int)).toNat=t0+n by omega]
     dsimp only;rw[eD];rw[show zD wZ (its++[⟨2,kd,py⟩])= .sl false (its.map wZ++[AV.agg [iA 2,iA kd,zD yA py]]) by unfold zD;rw[yAi];rfl]
     (have zc1:=kst;have zc2:=kc;(repeat' (first|refine WS ?_|refine SG (I2 (λhc=>?_) λhc=>?_)|refine SG λhc=>?_|(refine zE ?_;first|refine SM ?_)|(first|first|refine SR ?_|refine SK (I2 (λhc=>?_) λhc=>?_)|refine SK λhc=>?_|fail|refine vC ?_|refine vD ?_)|fail))<;>clear zc1 zc2)
     refine zK [1053] Z Z ?_ Z
     show AV.tup [_,AV.sl false (List.take (its.map wZ++[AV.agg [iA 2,iA kd,zD yA py]]).length (its.map wZ++[AV.agg [iA 2,iA kd,zD yA py]]))]=_
     rw[yAf];rfl
    ·rw[yAh hs]at kst;rw[zZ7 zDl]at hI;dsimp only;rw[yAi,show [(⟨2,kd,py⟩:It)].map wZ=[AV.agg [iA 2,iA kd,zD yA py]]from Z]
     (have zc1:=kst;(repeat' (first|refine WS ?_|refine SG (I2 (λhc=>?_) λhc=>?_)|refine SG λhc=>?_|(refine zE ?_;first|refine SM ?_)|(first|first|refine SR ?_|refine SK (I2 (λhc=>?_) λhc=>?_)|refine SK λhc=>?_|fail|refine vC ?_|refine vD ?_)|fail))<;>clear zc1)
     exact⟨rfl,hI⟩
   ·have e3:OV ⟨t0,true,its⟩ (⟨2,kd,py⟩,n)=⟨t0+n,true,its⟩:=rfl;have e4:taX N ⟨t0,true,its⟩ (⟨2,kd,py⟩,n)=false:=rfl;unfold ZO at hI;rw[e3,e4,zZ7 yAs]at hI;rw[e3];dsimp only
    (repeat' (first|refine WS ?_|refine SG (I2 (λhc=>?_) λhc=>?_)|refine SG λhc=>?_|(refine zE ?_;first|refine SM ?_)|(first|first|refine SR ?_|refine SK (I2 (λhc=>?_) λhc=>?_)|refine SK λhc=>?_|fail|refine vC ?_|refine vD ?_)|fail))
    exact⟨rfl,hI⟩
  ·have ex:taC ⟨t0,g0,its⟩ (⟨cd,kd,py⟩,n)=false:=by
    unfold taC;rw[yAh hc,yBy]
   have e4:taX N ⟨t0,g0,its⟩ (⟨cd,kd,py⟩,n)=decide (N<=its.length+1):=by
    unfold taX;rw[ex];rfl
   by_cases h7:cd=7
   ·subst h7;have e3:OV ⟨t0,g0,its⟩ (⟨7,kd,py⟩,n)=⟨t0+n,true,its++[⟨7,kd,py⟩]⟩:=rfl;unfold ZO at hI;rw[e3,e4]at hI;rw[e3];have kst:=KL (its.map wZ++[AV.agg [iA 7,iA kd,zD yA py]]).length N;rw[show decide (N<=(its.map wZ++[AV.agg [iA 7,iA kd,zD yA py]]).length)=decide (N<=its.length+1) by simp]at kst;by_cases hs:N<=its.length+1
    ·rw[yAe hs]at kst;rw[zZ8 (yAe hs)]at hI;subst hI;have hbt:=zA yA b;have kc:=wV (b.drop ((t0:Int)+(n:Int)).toNat) LL;have eD:zD yA (b.drop (t0+n))=zD yA (b.drop ((t0:Int)+(n:Int)).toNat):=by rw[show((t0:Int)+(n:Int)).toNat=t0+n by omega]
     dsimp only;rw[eD];rw[show zD wZ (its++[⟨7,kd,py⟩])= .sl false (its.map wZ++[AV.agg [iA 7,iA kd,zD yA py]]) by unfold zD;rw[yAi];rfl]
     (have zc1:=kst;have zc2:=kc;(repeat' (first|refine WS ?_|refine SG (I2 (λhc=>?_) λhc=>?_)|refine SG λhc=>?_|(refine zE ?_;first|refine SM ?_)|(first|first|refine SR ?_|refine SK (I2 (λhc=>?_) λhc=>?_)|refine SK λhc=>?_|fail|refine vC ?_|refine vD ?_)|fail))<;>clear zc1 zc2)
     refine zK [1053] Z Z ?_ Z
     show AV.tup [_,AV.sl false (List.take (its.map wZ++[AV.agg [iA 7,iA kd,zD yA py]]).length (its.map wZ++[AV.agg [iA 7,iA kd,zD yA py]]))]=_
     rw[yAf];rfl
    ·rw[yAh hs]at kst;rw[zZ7 zDl]at hI;dsimp only;rw[yAi,show [(⟨7,kd,py⟩:It)].map wZ=[AV.agg [iA 7,iA kd,zD yA py]]from Z]
     (have zc1:=kst;(repeat' (first|refine WS ?_|refine SG (I2 (λhc=>?_) λhc=>?_)|refine SG λhc=>?_|(refine zE ?_;first|refine SM ?_)|(first|first|refine SR ?_|refine SK (I2 (λhc=>?_) λhc=>?_)|refine SK λhc=>?_|fail|refine vC ?_|refine vD ?_)|fail))<;>clear zc1)
     exact⟨rfl,hI⟩
   by_cases h4:cd=4
   ·subst h4;have e3:OV ⟨t0,g0,its⟩ (⟨4,kd,py⟩,n)=⟨t0+n,true,its++[⟨4,kd,py⟩]⟩:=rfl;unfold ZO at hI;rw[e3,e4]at hI;rw[e3];have kst:=KL (its.map wZ++[AV.agg [iA 4,iA kd,zD yA py]]).length N;rw[show decide (N<=(its.map wZ++[AV.agg [iA 4,iA kd,zD yA py]]).length)=decide (N<=its.length+1) by simp]at kst;by_cases hs:N<=its.length+1
    ·rw[yAe hs]at kst;rw[zZ8 (yAe hs)]at hI;subst hI;have hbt:=zA yA b;have kc:=wV (b.drop ((t0:Int)+(n:Int)).toNat) LL;have eD:zD yA (b.drop (t0+n))=zD yA (b.drop ((t0:Int)+(n:Int)).toNat):=by rw[show((t0:Int)+(n:Int)).toNat=t0+n by omega]
     dsimp only;rw[eD];rw[show zD wZ (its++[⟨4,kd,py⟩])= .sl false (its.map wZ++[AV.agg [iA 4,iA kd,zD yA py]]) by unfold zD;rw[yAi];rfl]
     (have zc1:=kst;have zc2:=kc;(repeat' (first|refine WS ?_|refine SG (I2 (λhc=>?_) λhc=>?_)|refine SG λhc=>?_|(refine zE ?_;first|refine SM ?_)|(first|first|refine SR ?_|refine SK (I2 (λhc=>?_) λhc=>?_)|refine SK λhc=>?_|fail|refine vC ?_|refine vD ?_)|fail))<;>clear zc1 zc2)
     refine zK [1053] Z Z ?_ Z
     show AV.tup [_,AV.sl false (List.take (its.map wZ++[AV.agg [iA 4,iA kd,zD yA py]]).length (its.map wZ++[AV.agg [iA 4,iA kd,zD yA py]]))]=_
     rw[yAf];rfl
    ·rw[yAh hs]at kst;rw[zZ7 zDl]at hI;dsimp only;rw[yAi,show [(⟨4,kd,py⟩:It)].map wZ=[AV.agg [iA 4,iA kd,zD yA py]]from Z]
     (have zc1:=kst;(repeat' (first|refine WS ?_|refine SG (I2 (λhc=>?_) λhc=>?_)|refine SG λhc=>?_|(refine zE ?_;first|refine SM ?_)|(first|first|refine SR ?_|refine SK (I2 (λhc=>?_) λhc=>?_)|refine SK λhc=>?_|fail|refine vC ?_|refine vD ?_)|fail))<;>clear zc1)
     exact⟨rfl,hI⟩
   ·have e3:OV ⟨t0,g0,its⟩ (⟨cd,kd,py⟩,n)=⟨t0+n,false,its++[⟨cd,kd,py⟩]⟩:=by
     unfold OV;rw[ex,zZ7 yAs];dsimp only;rw[yAh hc,yAh h7,yAh h4];rfl
    unfold ZO at hI;rw[e3,e4]at hI;rw[e3];have kst:=KL (its.map wZ++[AV.agg [iA cd,iA kd,zD yA py]]).length N;rw[show decide (N<=(its.map wZ++[AV.agg [iA cd,iA kd,zD yA py]]).length)=decide (N<=its.length+1) by simp]at kst;by_cases hs:N<=its.length+1
    ·rw[yAe hs]at kst;rw[zZ8 (yAe hs)]at hI;subst hI;have hbt:=zA yA b;have kc:=wV (b.drop ((t0:Int)+(n:Int)).toNat) LL;have eD:zD yA (b.drop (t0+n))=zD yA (b.drop ((t0:Int)+(n:Int)).toNat):=by rw[show((t0:Int)+(n:Int)).toNat=t0+n by omega]
     dsimp only;rw[eD];rw[show zD wZ (its++[⟨cd,kd,py⟩])= .sl false (its.map wZ++[AV.agg [iA cd,iA kd,zD yA py]]) by unfold zD;rw[yAi];rfl]
     (have zc1:=kst;have zc2:=kc;(repeat' (first|refine WS ?_|refine SG (I2 (λhc=>?_) λhc=>?_)|refine SG λhc=>?_|(refine zE ?_;first|refine SM ?_)|(first|first|refine SR ?_|refine SK (I2 (λhc=>?_) λhc=>?_)|refine SK λhc=>?_|fail|refine vC ?_|refine vD ?_)|fail))<;>clear zc1 zc2)
     refine zK [1053] Z Z ?_ Z
     show AV.tup [_,AV.sl false (List.take (its.map wZ++[AV.agg [iA cd,iA kd,zD yA py]]).length (its.map wZ++[AV.agg [iA cd,iA kd,zD yA py]]))]=_
     rw[yAf];rfl
    ·rw[yAh hs]at kst;rw[zZ7 zDl]at hI;dsimp only;rw[yAi,show [(⟨cd,kd,py⟩:It)].map wZ=[AV.agg [iA cd,iA kd,zD yA py]]from Z]
     (have zc1:=kst;(repeat' (first|refine WS ?_|refine SG (I2 (λhc=>?_) λhc=>?_)|refine SG λhc=>?_|(refine zE ?_;first|refine SM ?_)|(first|first|refine SR ?_|refine SK (I2 (λhc=>?_) λhc=>?_)|refine SK λhc=>?_|fail|refine vC ?_|refine vD ?_)|fail))<;>clear zc1)
     exact⟨rfl,hI⟩
 ·have e1:AM ⟨0,g,[]⟩ (jT b.length b) (psL b).length=r:=by
   rw[hL,zZ9]at hI⊢;rw[yEd]at hI;exact hI
  rw[e1];have hbt:=zA yA b;have kc:=wV (b.drop ((r.t:Nat):Int).toNat) LL
  (have zc1:=kc;(repeat' (first|refine WS ?_|refine SG (I2 (λhc=>?_) λhc=>?_)|refine SG λhc=>?_|(refine zE ?_;first|refine SM ?_)|(first|first|refine SR ?_|refine SK (I2 (λhc=>?_) λhc=>?_)|refine SK λhc=>?_|fail|refine vC ?_|refine vD ?_)|fail))<;>clear zc1)
  refine zK [1053] Z Z ?_ Z
  show AV.tup [_,AV.sl false (List.take (r.its.map wZ).length (r.its.map wZ))]=_
  rw[yAf];rfl
def zG9 (b:List Int) (hb:BY b) (hl:b.length<=1000) (g:Bool) (N:Nat) (hN:1<=N/\N<=1000):zN 126 [stA b g,iA N] []
  (.tup [stA (b.drop (ZO N (jT b.length b) ⟨0,g,[]⟩).t) (ZO N (jT b.length b) ⟨0,g,[]⟩).g,zD wZ (ZO N (jT b.length b) ⟨0,g,[]⟩).its]) []:=by
 have k:=zNx b hb hl g N hN;generalize ZO N (jT b.length b) ⟨0,g,[]⟩=r at *;unfold stA at *;refine eM call126 λF hF=>?_
 repeat' (first|(refine zE ?_;first|refine uS (kW (v:=AV.agg _) 2 Z Z) Z Z Z ?_|refine uS (kW (v:=AV.s _) 1053 Z Z) Z Z Z ?_|refine vW tok Z Z ?_|refine RQ tok Z Z Z Z ?_|refine qJ ?_)|(first|refine xS ?_|refine xD ?_|refine vI Z ?_|refine zY Z ?_|refine zS Z ?_|refine xL Z (λhc=>?_) λhc=>?_|refine xA ?_|refine yT ?_|refine xF ?_|refine yW ?_))
 refine zV k ?_;exact zJ
def zXc (b:List Int) (hl:b.length<=256) (g:Bool) (x:List Int) (hx:x.length<=1000000):zN 117 [stA b g,zD yA x] [] (.tup [stA (b++x.take (XZ b.length x.length)) g,bA (decide (XZ b.length x.length=x.length))]) []:=by
 have hbl:=zA yA b;have hxl:=zA yA x;have hf:XZ b.length x.length<=x.length/\b.length+XZ b.length x.length<=256:=by unfold XZ;omega
 have e1:min ((x.length:Nat):Int) (max (256-((b.length:Nat):Int)) 0)=((XZ b.length x.length:Nat):Int):=by unfold XZ;omega
 have e2:zD yA (b++x.take (XZ b.length x.length))= .sl false (b.map yA++(x.take (XZ b.length x.length)).map yA):=by unfold zD;rw[yAi]
 unfold stA;rw[e2];generalize XZ b.length x.length=f at *;refine eM call117 λF hF=>?_
 refine WW ?_;rw[hbl,hxl,e1];refine zK [] Z Z ?_ Z
 show AV.tup [AV.agg [AV.sl false (List.take (b.map yA++(x.take f).map yA).length (b.map yA++(x.take f).map yA)),bA g],bA (qN .eql (f:Int) (x.length:Int))]=_
 rw[yAf,show qN .eql (f:Int) (x.length:Int)=decide (f=x.length) by
  by_cases h9:f=x.length
  ·rw[h9];simp[qN]
  ·have:(f:Int)≠(x.length:Int):=by omega
   simp[qN,h9,this]]
def XR (s:Ss):Ss×In:=if s.op=true then(⟨true,false,s.bf.drop (ZO 4 (jT s.bf.length s.bf) ⟨0,s.gb,[]⟩).t,(ZO 4 (jT s.bf.length s.bf) ⟨0,s.gb,[]⟩).g⟩,⟨true,(if s.dr=true then [⟨15,0,[]⟩]else [])++(ZO 4 (jT s.bf.length s.bf) ⟨0,s.gb,[]⟩).its⟩)else(s,⟨false,[]⟩)
def zNy (s:Ss) (hb:BY s.bf) (hl:s.bf.length<=1000):zN 93 [jE s] [] (.tup [jE (XR s).1,jG (XR s).2]) []:=by
 obtain⟨op,dr,bf,gb⟩:=s;dsimp only at hb hl;have k1:=JF ⟨op,dr,bf,gb⟩ hl;have k2:=zG9 bf hb hl gb 4 zB;have hlen:=KJ (N:=4) (jT bf.length bf) ⟨0,gb,[]⟩ (by show 0<4;omega);unfold XR;dsimp only;generalize ZO 4 (jT bf.length bf) ⟨0,gb,[]⟩=r at *;have hrl:=zA wZ r.its;unfold stA at k2;cases op
 ·rw[zZ7 yAs];unfold jE at *;unfold jG;refine eM call93 λF hF=>?_
  refine zV k1 ?_;exact zJ
 ·rw[zZ8 Z];unfold jE at *;unfold jG;cases dr
  ·rw[zZ7 yAs,yCo];refine eM call93 λF hF=>?_
   refine zV k2 ?_;refine AO 32 1055 3 Z Z Z ?_;refine WW ?_;refine zK [] Z Z ?_ Z
   show AV.tup [_,AV.agg [_,AV.sl false (List.take (r.its.map wZ).length (r.its.map wZ))]]=_
   rw[yAf];rfl
  ·rw[zZ8 Z,show zD wZ ([⟨15,0,[]⟩]++r.its)= .sl false ([.agg [iA 15,iA 0,zD yA []]]++r.its.map wZ) by unfold zD;rw[yAi];rfl];refine eM call93 λF hF=>?_
   (have zc1:=k2;(repeat' (first|refine RP ?_|((first|apply xM|apply wA)<;>intro hc)|(refine zE ?_;first|(refine xB ?_;refine CP 18 Z Z Z ?_;refine gO tok Z Z ?_))|refine SB ?_|fail))<;>clear zc1)
   refine AO 17 1055 3 Z Z Z ?_
   (have zc1:=k2;(repeat' (first|refine uL ?_|((first|apply xM|apply wA)<;>intro hc)|(refine zE ?_;first|refine SM ?_)|fail))<;>clear zc1)
   refine zK [] Z Z ?_ Z
   show AV.tup [_,AV.agg [_,AV.sl false (List.take ([AV.agg [iA 15,iA 0,zD yA []]]++r.its.map wZ).length ([AV.agg [iA 15,iA 0,zD yA []]]++r.its.map wZ))]]=_
   rw[yAf];rfl
def zNz (s:Ss) (hl:s.bf.length<=1000):zN 79 [jE s] [] (jE (if s.op=true then s else⟨true,false,[],false⟩)) []:=by
 obtain⟨op,dr,bf,gb⟩:=s;dsimp only at hl⊢;have k1:=JF ⟨op,dr,bf,gb⟩ hl;cases op
 ·rw[zZ7 yAs];unfold jE at *;refine eM call79 λF hF=>?_
  refine zV k1 ?_;exact zJ
 ·rw[zZ8 Z];unfold jE at *;refine eM call79 λF hF=>?_
  refine zV k1 ?_;exact zJ
def zN0 (s:Ss):zN 80 [jE s] [] (jE ⟨false,false,[],false⟩) []:=by
 unfold jE;refine eM call80 λF hF=>?_
 refine WW ?_;exact zJ
def zTg (s:Ss) (hl:s.bf.length<=256) (x:List Int) (hx:x.length<=1000000):zN 81 [jE s,zD yA x] [] (jE (FX s x)) []:=by
 obtain⟨op,dr,bf,gb⟩:=s;dsimp only at hl;have k1:=JF ⟨op,dr,bf,gb⟩ (by dsimp only;omega);have k2:=zXc bf hl gb x hx;unfold FX;dsimp only;unfold stA at k2;cases op
 ·rw[zZ7 yAs];unfold jE at *;refine eM call81 λF hF=>?_
  refine zV k1 ?_;exact zJ
 ·rw[zZ8 Z];unfold jE at *;cases hf:decide (XZ bf.length x.length=x.length)
  ·rw[hf]at k2;rw[yAe (of_decide_eq_false hf),yDb];refine eM call81 λF hF=>?_
   refine zV k2 ?_;exact zJ
  ·rw[hf]at k2;rw[yAh (λh=>h (yD5 hf)),yFw];refine eM call81 λF hF=>?_
   refine zV k2 ?_;exact zJ
structure SsI (s:Ss):Prop where
 y:BY s.bf
 n:s.bf.length<=256
def zHa {s:Ss} (h:SsI s):SsI (XR s).1/\InS (XR s).2:=by
 have hn:=h.n;unfold XR;split
 ·refine⟨⟨λx hx=>h.y x (yBs hx),by dsimp only;rw[yBh];omega⟩,?_⟩;have hlen:=KJ (N:=4) (jT s.bf.length s.bf) ⟨0,s.gb,[]⟩ (by show 0<4;omega);have hmem:=zB5 (N:=4) (Pr:=ItK) (jT s.bf.length s.bf) ⟨0,s.gb,[]⟩ (λx hx=>by cases hx) (zN5 h.y zB);generalize ZO 4 (jT s.bf.length s.bf) ⟨0,s.gb,[]⟩=r at *;refine⟨?_,λx hx=>?_⟩
  ·dsimp only;rw[yAd];split
   ·simp only[yAl,yBr];omega
   ·simp only[yBr];omega
  ·rcases yAw.1 hx with hx|hx
   ·split at hx
    ·rw[yA8.1 hx];exact⟨fP,yAp _,by dsimp only;omega,by dsimp only;omega⟩
    ·cases hx
   ·exact hmem x hx
 ·exact⟨h,yAp _,λx hx=>by cases hx⟩
def zTh {s:Ss} (h:SsI s) {x:List Int} (hx:BY x):SsI (FX s x):=by
 refine⟨?_,zOo h.n x⟩;unfold FX;split
 ·intro y hy
  rcases yAw.1 hy with hy|hy
  ·exact h.y y hy
  ·exact hx y (yCc hy)
 ·exact h.y
theorem yE.frz {P:Program} {f:Nat} {args:List AV} {r:AV} {h1:List (Nat×xN)} {r':AV} {h1':List (Nat×xN)} (h:yE P f args [] r h1) (K:List Nat) (hr:XC (wD K (zC h1) r)=r') (hh:wY K (zC h1)=h1') (hnd:vJ h1'=true):yE P f args [] r' h1':=
 ⟨h.able,λk=>uG hnd,λX w β cargs hc H ha=>(h.sim X w β cargs hc H ha).mono λe w' ⟨c,β',he,G,hv⟩=>by
  obtain⟨H3,hv3⟩:=G.hok.restr K;refine⟨c,λk=>if k∈K then β' k else [],he,⟨G.size,G.keep,λk b n hm=>?_,G.bs,λk e he=>by simp[zC]at he,by rw[<-hh];exact H3,G.os,G.tape,G.output⟩,?_⟩
  ·split at hm
   ·exact G.own k b n hm
   ·simp at hm
  ·rw[<-hh,<-hr]
   exact(hv3 _ _ hv).wk⟩
def zN1 {R:Nat->DR} {n:Nat} {x:Int} (h:x∈aQ R n):∃a,a<n/\x∈(R a).ks:=by
 unfold aQ at h;obtain⟨l,hl,hx⟩:=yCn.1 h;obtain⟨a,ha,rfl⟩:=yA5.1 hl;exact⟨a,yAt.1 ha,hx⟩
def zB7 {R:Nat->DR} {n:Nat} {x:En} (h:x∈OX R n):∃a,a<n/\x∈(R a).en:=by
 unfold OX at h;obtain⟨l,hl,hx⟩:=yCn.1 h;obtain⟨a,ha,rfl⟩:=yA5.1 hl;exact⟨a,yAt.1 ha,hx⟩
def tdO (T:List (List Ms)) (f:Ms):AV:= .agg [.ref 1051 0 (T.map bZ).length,zD yB [f]]
def tdH (T:List (List Ms)):List (Nat×xN):=[(1051,.arr 1 (T.map bZ) true)]
theorem zN2 (y:Cy) (h:XS y) (hn:y.now<1000000000) (ins:List In) (hil:(ins.length:Int)=qE y.c.ags y.c.ags.length) (R:Nat->DR) (hR:TkR y ins R) (hen:∀i,(R i).en.length<=2000) (hks:∀i,(R i).ks.length<=2000):
  zN 118 [uC y,zD jG ins] [] (.tup [uC (qI y R),tdO (GC y.c (tdT (qI y R) ins R y.ds.length) y.c.ags.length) (NJ (y.now+1) (qI y R).vw)]) (tdH (GC y.c (tdT (qI y R) ins R y.ds.length) y.c.ags.length)):=by
 have hb:=h.b;have n0:=h.n0;have hw:=h.v.ag;have k1:=QS y hb;have hdl:=h.dl;have k2:=zEd y.c hw (y.now+1) zB zB y.ds h.dl (λi hi=>h.di _ (zP y.ds i hi)) ins hil R hen hks (λa ha=>(hR a ha).2) (y.sg.map wX) (y.sv.map wU) (y.st.map iA) (y.sg.map wX).length (y.sv.map wU).length (y.st.map iA).length y.vw;have hi9:=zA jG ins;have hmin:min y.now 1073741823+1=y.now+1:=by omega
 have hrf:=h.rf;have eC:uC y= .agg [zD wJ y.c.js,zD wK y.c.ags,iA y.c.per,iA y.c.cap,iA y.c.hold,iA y.c.lock,bA false,iA y.now,zD zI y.ds,zD wX y.sg,zD wU y.sv,zD iA y.st,zD vO y.vw]:=by rw[<-hrf];rfl
 unfold zIu zIv bP at k1;rw[eC,hrf]at k1;unfold bP at k2;rw[eC];refine eM call118 λF hF=>?_
 refine zV k1 ?_;rw[hmin];refine zV k2 ?_;refine qH [2,3,4,5,6,7,1012,1013,1014] [2,3,4,5,6,7,34,35,36] Z ?_
 (conv=>whnf)
 have hds:(y.ds.map zI).length=((TL (y.now+1) y.ds R y.ds.length).map zI).length:=by rw[zZ9,zZ9,cD]
 have hgl:=zA wX y.sg;have hvl:=zA wU y.sv;have htl:=zA iA y.st;have hgl2:=h.gl;have hvl2:=h.sl;have htl2:=h.tl;simp only[yA9];rw[hds,yAf,hgl,hvl,htl,hgl2,hvl2,htl2];clear k1 k2
 have hkx:∀x∈aQ R y.ds.length,0<=x/\x<(y.c.js.length:Int):=λx hx=>by
  obtain⟨a,ha,hx⟩:=zN1 hx;exact(hR a ha).1.ks x hx
 have hkl:=KS hks y.ds.length;have hags:=h.v.a;have hks9:(aQ R y.ds.length).length<=10000:=by omega
 have hjl:=zA wJ y.c.js;have hkm:=zA iA (aQ R y.ds.length);have eY:qI y R=⟨y.c,false,y.now+1,TL (y.now+1) y.ds R y.ds.length,OY (SA y R) (XT y.c y.sg (aQ R y.ds.length)) y.c.js.length,OZ (SA y R) y.sv y.c.js.length,KT y.st y.c.js.length,stU y.c.js (SA y R) y.c.js.length⟩:=rfl;refine yL ((aQ R y.ds.length)) [1012,2,3,4,5,6,7,1013,1014] [2,3,4,5,6,7,1013,1014] [2,3,4,5,6,7,34,35,86] [36,2,3,4,5,6,7,34,35,86] Z (λi pre T U=>⟨(36,iA i)::T,(1012,.arr 5 ((XT y.c y.sg pre).map wX) false)::U⟩) ?_;(conv=>whnf);refine⟨by rfl,?_,?_⟩
 ·intro i pre x post hx hi;have hy:=xI iA hx hi;have hlt:=yN hx hi;have hxb:=hkx x (wR hx);obtain⟨g1,g2⟩:=MM h.v (sv:=y.sv) (now:=y.now) pre y.sg h.gl h.j;have J:=h.v.jv _ (zP y.c.js x.toNat zB);have C:=(g2 x.toNat zB).c;have hJ:=J.n;have hC:=C.n;have hM:=C.m;have kr:=zI9 (y.c.js.getD x.toNat default) J ((XT y.c y.sg pre).getD x.toNat default) zB zB;have hyj:=yI wJ y.c.js x hxb.1 hxb.2;have hyg:=yI wX (XT y.c y.sg pre) x hxb.1 zB;have hgl3:=zA wX (XT y.c y.sg pre);rw[zHi,yB4];clear hx hkx eY hR J C g2;generalize (XT y.c y.sg pre).getD x.toNat default=s at *;generalize y.c.js.getD x.toNat default=j at *;generalize XT y.c y.sg pre=X at *;generalize X.map wX=Y at *;refine zV kr ?_;rfl
 ·obtain⟨g1,g2⟩:=MM h.v (sv:=y.sv) (now:=y.now) (aQ R y.ds.length) y.sg h.gl h.j
  have kst:=zH5 y.c h.v (y.now+1) zB zB (TL (y.now+1) y.ds R y.ds.length) (by rw[cD];omega) (λd hd=>by
    obtain⟨a,ha,rfl⟩:=aP hd
    exact(hR a ha).1.i) (λd hd=>by
    obtain⟨a,ha,rfl⟩:=aP hd;refine(hR a ha).1.sc ?_
    exact GE.of zB ((h.sc _ (zP y.ds a ha)).mono zB) (zHj _ _)) (XT y.c y.sg (aQ R y.ds.length)) y.sv y.st y.vw g1 h.sl h.tl (λk hk=>by
    have H:=g2 k hk
    exact⟨H.c,H.n,λe he=>by have:=H.e e he;omega,H.g⟩)
  have l1:((XT y.c y.sg (aQ R y.ds.length)).map wX).length=y.c.js.length:=by rw[zZ9];exact g1
  have l2:(y.sv.map wU).length=y.c.js.length:=by rw[zZ9];exact h.sl
  have l3:(y.st.map iA).length=y.c.js.length:=by rw[zZ9];exact h.tl
  have l4:((OY (SA y R) (XT y.c y.sg (aQ R y.ds.length)) y.c.js.length).map wX).length=y.c.js.length:=by unfold OY;rw[zZ9,wP];exact g1
  have l5:((OZ (SA y R) y.sv y.c.js.length).map wU).length=y.c.js.length:=by unfold OZ;rw[zZ9,wP];exact h.sl
  have l6:((KT y.st y.c.js.length).map iA).length=y.c.js.length:=by unfold KT;rw[zZ9,wP];exact h.tl
  have l7:((stU y.c.js (SA y R) y.c.js.length).map vO).length=y.c.js.length:=by simp[stU]
  have hal:=zA wK y.c.ags;unfold stH at kst;rw[show bM y.c (XT y.c y.sg (aQ R y.ds.length)) y.sv y.st (TL (y.now+1) y.ds R y.ds.length) (y.now+1)=SA y R from Z,zN4,l1,l2,l3,l4,l5,l6]at kst;have eT:uC (qI y R)= .agg [zD wJ y.c.js,zD wK y.c.ags,iA y.c.per,iA y.c.cap,iA y.c.hold,iA y.c.lock,bA false,iA (y.now+1),zD zI (qI y R).ds,zD wX (qI y R).sg,zD wU (qI y R).sv,zD iA (qI y R).st,zD vO (qI y R).vw]:=rfl;have d1:TL (y.now+1) y.ds R y.ds.length=(qI y R).ds:=rfl;have d2:OY (SA y R) (XT y.c y.sg (aQ R y.ds.length)) y.c.js.length=(qI y R).sg:=rfl;have d3:OZ (SA y R) y.sv y.c.js.length=(qI y R).sv:=rfl;have d4:KT y.st y.c.js.length=(qI y R).st:=rfl;have d5:stU y.c.js (SA y R) y.c.js.length=(qI y R).vw:=rfl;rw[d2]at kst l4;rw[d3]at kst l5;rw[d4]at kst l6;rw[d5]at kst l7;rw[d1]at kst⊢;refine zV kst ?_;refine qH [2,3,4,5,6,7,11] [2,3,4,5,6,7,11,78,79] Z ?_
  (conv=>whnf)
  simp only[yA9];rw[yAj (l:=(qI y R).sg.map wX) (yB7 l4),yAj (l:=(qI y R).sv.map wU) (yB7 l5),yAj (l:=(qI y R).st.map iA) (yB7 l6),yAj (l:=(qI y R).vw.map vO) (yB7 l7),hal];have hZ:=MN h hR;have zc:(qI y R).c=y.c:=rfl;have zn:(qI y R).now=y.now+1:=rfl;have zd:(qI y R).ds.length=y.ds.length:=cD ..;have zR:∀a,a<y.ds.length->(qI y R).ds.getD a default=(R a).d:=λa ha=>aO ha
  have hzl:=zA zI (qI y R).ds;have eA:∀T f,tdO T f= .agg [.ref 1051 0 (T.map bZ).length,zD yB [f]]:=λ_ _=>rfl
  have eH:∀T,tdH T=[(1051,.arr 1 (T.map bZ) true)]:=λ_=>rfl
  rw[eT,eA,eH];clear d1 d2 d3 d4 d5 kst l1 l2 l3 l4 l5 l6 l7 g1 g2 hkx eY hds;refine uF 11 0 1051 1 Z Z Z Z Z ?_
  have hTf:∀a k,tdT (qI y R) ins R y.ds.length a k=if(ins.getD ((qE y.c.ags a).toNat+k) default).opn=true then tlF ((qI y R).ds.getD a default) (qI y R).vw (qI y R).now k (R a).R (OX R y.ds.length)else []:=λ_ _=>rfl
  generalize tdT (qI y R) ins R y.ds.length=tf at *;generalize qI y R=z at *;refine zO (y.c.ags.length) [11,1051,2,3,4,5,6,7] [2,3,4,5,6,7] [2,3,4,5,6,7,11,78,86] [79,2,3,4,5,6,7,11,78,86] Z (λi T U=>⟨(79,iA i)::T,(11,.box [.ref 1051 0 ((GC y.c tf i).map bZ).length,.s (.slice none 0 0)])::(1051,.arr 1 ((GC y.c tf i).map bZ) true)::U⟩) ?_;(conv=>whnf);refine⟨by rfl,?_,?_⟩
  ·intro i hi;have hid:i<y.ds.length:=by omega
   have ks:=zCj y.c i;have ht:=zIf y.c hw i hi;obtain⟨bs,hbs⟩:∃bs:Nat,qE y.c.ags i=(bs:Int):=⟨(qE y.c.ags i).toNat,by have:=kY hw i zB;omega⟩;obtain⟨N,hN⟩:∃N:Nat,(y.c.ags.getD i default).ses=(N:Int):=⟨(y.c.ags.getD i default).ses.toNat,by have:=hw.at (i:=i) zB;omega⟩
   have hbd:bs+N<=ins.length:=by
    have:=FO hw (show i+1<=y.c.ags.length by omega) (yAb _);have h2:qE y.c.ags (i+1)=qE y.c.ags i+(y.c.ags.getD i default).ses:=rfl;omega
   have hN2:=hw.at (i:=i) zB;have hL:KU y.c i=(List.range N).map λk=>[plA i k (bs+k)]:=by unfold KU;rw[hbs,hN];rfl
   have htd:=RB hw tf i zB;have hsb:=kY hw i zB;rw[QJ,show(y.c.ags.getD i default).ses.toNat=N by omega]
   have hy6:(List.map (λk=>rpA (R k)) (List.range y.ds.length))[i]? =some (.sl false ((R i).R.map bZ)):=by
    rw[yAa,yA4 hid];rfl
   have hDt:=(hR i hid).1;have hI:=hZ.di _ (zP z.ds i zB);have hzi:=zR i hid
   have hau:(R i).d.au.length=N:=by
    have:=hDt.i.au;rw[hDt.ag]at this;have e9:=h.dg i hid;rw[show(JT (y.ds.getD i default) (y.now+1)).rg.ag=(y.ds.getD i default).rg.ag from Z,e9]at this;omega
   have hau2:(JT (y.ds.getD i default) (y.now+1)).au.length=N:=by
    have:=(h.di _ (zP y.ds i hid)).au;rw[h.dg i hid]at this
    show(y.ds.getD i default).au.length=N
    omega
   have hRl:=hDt.rn;rw[hau2]at hRl;have hRv:=hDt.rv
   have hEn:∀e∈OX R y.ds.length,EnK e:=λe he=>by
    obtain⟨a,ha,he⟩:=zB7 he;exact(hR a ha).1.en e he
   have hEl:=KR hen y.ds.length;have hq9:=hI.a.q;have kt:=λk (hk:k<N)=>zN3 z hZ.n0 zB i k (bs+k) zB hI.bd hq9 (by have:=hZ.wl;have:=hZ.v.j;omega) hZ.wb (by rw[hzi];omega) (R i).R hRv zB (OX R y.ds.length) hEn zB
   have hTf':∀k,k<N->tf i k=if(ins.getD (bs+k) default).opn=true then tlF (z.ds.getD i default) z.vw z.now k (R i).R (OX R y.ds.length)else []:=λk hk=>by
    rw[hTf i k,hbs];rfl
   clear hTf hEn hRv hR hDt hI zR;have eZ:uC z= .agg [zD wJ y.c.js,zD wK y.c.ags,iA y.c.per,iA y.c.cap,iA y.c.hold,iA y.c.lock,bA false,iA (y.now+1),zD zI z.ds,zD wX z.sg,zD wU z.sv,zD iA z.st,zD vO z.vw]:=eT;rw[eZ]at kt;rw[show zD bZ (R i).R= .sl false ((R i).R.map bZ)from Z]at kt;generalize (R i).R.map bZ=Rm at *;rw[yAi];have hxl:=zA bZ (GC y.c tf i);generalize (GC y.c tf i).map bZ=X at *;unfold zEh at ks ht;unfold vG at ks;refine zV ks ?_
   refine uE hF ht Z [2,3,4,5,6,7,11,12,1051] [2,3,4,5,6,7,11,12,78,79] Z Z Z Z Z Z Z Z Z (λk ys h=>?_) (λk=>[(2,.box [zD wJ y.c.js,zD wK y.c.ags,iA y.c.per,iA y.c.cap,iA y.c.hold,iA y.c.lock,bA false,iA (y.now+1),zD zI z.ds,zD wX z.sg,zD wU z.sv,zD iA z.st,zD vO z.vw]),(3,.box [zD jG ins]),(4,.box [.s (.slice none 0 0),.s (.slice none 0 0),iA 0,iA 0,iA 0,iA 0,bA false,iA 0,.s (.slice none 0 0),.s (.slice none 0 0),.s (.slice none 0 0),.s (.slice none 0 0),.s (.slice none 0 0)]),(5,.box [.s (.slice none 0 0),.s (.slice none 0 0)]),(6,.box [.sl false (List.map (λk=>rpA (R k)) (List.range y.ds.length))]),(7,.box [zD jP (OX R y.ds.length)]),(11,.box [.ref 1051 0 (X++(BP tf i k).map bZ).length,.s (.slice none 0 0)]),(12,.box [iA i]),(1051,.arr 1 (X++(BP tf i k).map bZ) true)]) (λ_=>True)
    (T:=[(2,.ptr 2 0 0),(3,.ptr 3 0 0),(4,.ptr 4 0 0),(5,.ptr 5 0 0),(6,.ptr 6 0 0),(7,.ptr 7 0 0),(11,.ptr 11 0 0),(12,.ptr 12 0 0),(78,iA y.c.ags.length),(79,iA i)]) (by rw[show(BP tf i 0).map bZ=[]from Z,yBc];rfl) trivial (λk ys q hys hI9 F1 h1 h2=>?_) (λhI9=>?_)
   ·rw[hL,yAa,yAo]at h;obtain⟨x,_,rfl⟩:=h;rfl
   ·have hk:k<N:=by
     have:=(yAu.1 hys).1;rw[hL,zZ9,yBp]at this;exact this
    rw[hL,yAa,yA4 hk]at hys;obtain rfl:=yCs hys;have hyi:=zM jG ins (bs+k) zB;have hol:((BP tf i k).map bZ).length=k:=by unfold BP;rw[zZ9,zZ9,yBp]
    have kt:=kt k hk;rw[zHk,yAi,show [tf i k].map bZ=[zD yB (tf i k)]from Z,hTf' k hk,<-yA7];generalize (BP tf i k).map bZ=O at *;generalize ins.getD (bs+k) default=x at *;generalize tlF (z.ds.getD i default) z.vw z.now k (R i).R (OX R y.ds.length)=tl at *;unfold jG at hyi;obtain⟨xo,xs⟩:=x;refine WW ?_;refine⟨rfl,λF2 g1 g2=>?_⟩;dsimp only at hyi⊢;cases xo
    ·rw[zZ7 yAs]
     (repeat' (first|refine RP ?_|((first|apply xM|apply wA)<;>intro hc)|(refine zE ?_;first|(refine xB ?_;refine CP 117 Z Z Z ?_;refine gO tok Z Z ?_))|refine SB ?_|fail))
     exact⟨rfl,trivial⟩
    ·rw[zZ8 Z]
     (have zc1:=kt;(repeat' (first|refine RP ?_|((first|apply xM|apply wA)<;>intro hc)|(refine zE ?_;first|(refine xB ?_;refine CP 117 Z Z Z ?_;refine gO tok Z Z ?_))|refine SB ?_|fail))<;>clear zc1)
     exact⟨rfl,trivial⟩
   ·rw[show(KU y.c i).length=N by rw[hL,zZ9,yBp]]
    show vK _ _ _ _ ⟨_,_⟩ _
    refine WW ?_;rfl
  ·have hwl:z.vw.length<=4:=by have:=hZ.wl;have:=hZ.v.j;omega
   have kf:=zTm (y.now+1) z.vw zB hZ.wb;have kv:=FG [NJ (y.now+1) z.vw] zU (λm hm=>by rw[yA8.1 hm];exact zXe z.vw (y.now+1) zB zB hwl hZ.wb);rw[show zD yB [NJ (y.now+1) z.vw]= .sl false [yB (NJ (y.now+1) z.vw)]from Z]at *; generalize NJ (y.now+1) z.vw=fm at *;have hxl:=zA bZ (GC y.c tf y.c.ags.length);generalize (GC y.c tf y.c.ags.length).map bZ=X at *;refine zV kf ?_
   (refine vS 158 ?_;refine kJ [2,4,5,11,1051] [2,4,5,11,127] Z ?_;(conv=>whnf);(try simp only[yA9,yAf]);first|refine wG (zH (kv) Z Z Z Z Z) Z ?_|refine uS (zH (kv) Z Z Z Z Z) Z Z Z ?_|refine ZU (zH (kv) Z Z Z Z Z) Z Z Z ?_)
   refine WW ?_;exact zK [1051] Z Z Z Z
def zTi {y y':Cy} {ins:List In} {T:List (List Ms)} {f:Ms} (k:zN 118 [uC y,zD jG ins] [] (.tup [uC y',tdO T f]) (tdH T)):zN 118 [uC y,zD jG ins] [] (.tup [uC y',tdA T f]) []:=by
 refine k.frz [] ?_ Z Z
 show AV.tup [_,AV.agg [AV.sl false (List.take (T.map bZ).length (T.map bZ)),_]]=_
 rw[yAf];rfl
structure MtP (y y':Cy) (ins:List In) (T:List (List Ms)):Prop where
 i:XS y'
 c:y'.c=y.c
 n:y'.now=y.now+1
 l:T.length=ins.length
 v:∀x∈T,x.length<=1002/\∀m∈x,OW m
 f:OW (NJ (y.now+1) y'.vw)
 off:∀s,s<ins.length->(ins.getD s default).opn=false->T.getD s []=[]
 on:∀s,s<ins.length->(ins.getD s default).opn=true->∃(l1 l2:List Ms) (d:yY),T.getD s []=l1++(JN d y'.vw (y.now+1)::l2)/\l1.length=(ins.getD s default).its.length/\OW (JN d y'.vw (y.now+1))
 tk:TkR y ins (dtR y ins)/\y'=qI y (dtR y ins)/\T=GC y.c (tdT y' ins (dtR y ins) y.ds.length) y.c.ags.length
theorem zHb (y:Cy) (h:XS y) (hn:y.now<1000000000) (ins:List In) (hil:(ins.length:Int)=qE y.c.ags y.c.ags.length) (hin:∀i∈ins,InS i):
  ∃(y':Cy) (T:List (List Ms)),MtP y y' ins T/\zN 118 [uC y,zD jG ins] [] (.tup [uC y',tdO T (NJ (y.now+1) y'.vw)]) (tdH T):=by
 have hR:=zXf h hn hil hin;have k:=zN2 y h hn ins hil (dtR y ins) hR (λi=>(FL ..).1) (λi=>(FL ..).2);obtain⟨R,eR⟩:∃R,R=dtR y ins:=⟨_,rfl⟩;rw[<-eR]at hR k;have hZ:=MN h hR;have n0:=h.n0;have hw:=h.v.ag;have hdl:=h.dl;have hl:=RB hw (tdT (qI y R) ins R y.ds.length) _ (yAb _);have hwl:(qI y R).vw.length<=4:=by have:=hZ.wl;have:=hZ.v.j;omega
 have hEn:∀e∈OX R y.ds.length,EnK e:=λe he=>by
  obtain⟨a,ha,he⟩:=zB7 he;exact(hR a ha).1.en e he
 refine⟨qI y R,GC y.c (tdT (qI y R) ins R y.ds.length) y.c.ags.length,⟨hZ,rfl,rfl,zB,λx hx=>?_,zXe _ _ zB zB hwl hZ.wb,λs hs ho=>?_,λs hs ho=>?_,eR▸⟨hR,rfl,rfl⟩⟩,k⟩
 ·obtain⟨s,hs,e⟩:=yDe.1 hx;obtain⟨a,k,h1,h2,h3,h4⟩:=RC hw (tdT (qI y R) ins R y.ds.length) _ (yAb _) s hs;have e2:x=tdT (qI y R) ins R y.ds.length a k:=by rw[<-h4,yAg,yAn hs,<-e];rfl
  rw[e2];unfold tdT;split
  ·have hid:a<y.ds.length:=by omega
   have hDt:=(hR a hid).1
   have hau2:((JT (y.ds.getD a default) (y.now+1)).au.length:Int)=(y.c.ags.getD a default).ses:=by
    have:=(h.di _ (zP y.ds a hid)).au;rw[h.dg a hid]at this;exact this
   have hRl:=hDt.rn;have hq:=hDt.i.a.q;have hzi:(qI y R).ds.getD a default=(R a).d:=aO hid;rw[hzi];exact zR8 _ hq _ _ (by show 0<=y.now+1;omega) (by show y.now+1<=_;omega) hwl hZ.wb k (R a).R hDt.rv zB _ hEn
  ·exact⟨yAp _,λm hm=>by cases hm⟩
 ·obtain⟨a,k,h1,h2,h3,h4⟩:=RC hw (tdT (qI y R) ins R y.ds.length) _ (yAb _) s zB;rw[h4];unfold tdT;rw[show(qE (qI y R).c.ags a).toNat+k=s from h3.symm,ho,zZ7 yAs]
 ·obtain⟨a,k,h1,h2,h3,h4⟩:=RC hw (tdT (qI y R) ins R y.ds.length) _ (yAb _) s zB;have hid:a<y.ds.length:=by omega
  have hDt:=(hR a hid).1
  have hau2:((JT (y.ds.getD a default) (y.now+1)).au.length:Int)=(y.c.ags.getD a default).ses:=by
   have:=(h.di _ (zP y.ds a hid)).au;rw[h.dg a hid]at this;exact this
  have hq:=hDt.i.a.q;have hzi:(qI y R).ds.getD a default=(R a).d:=aO hid;have hrl:=hDt.rl k zB;have hol:(owI y.c ins a).length=(y.c.ags.getD a default).ses.toNat:=by unfold owI AR;rw[zZ9,yBp]
  have hog:(owI y.c ins a).getD k default=ins.getD s default:=by
   unfold owI AR;rw[yAg,yAa,yA4 zB,h3];rfl
  have hsi:eP (owI y.c ins a) k=(ins.getD s default).its:=by
   unfold eP;rw[hog,zZ8 ⟨zB,ho⟩]
  rw[hsi]at hrl;refine⟨(R a).R.getD k [],(if((qI y R).ds.getD a default).au.getD k default=true then [trM (qI y R).now (OX R y.ds.length)]else []),(qI y R).ds.getD a default,?_,hrl,?_⟩
  ·rw[h4];unfold tdT;rw[show(qE (qI y R).c.ags a).toNat+k=s from h3.symm,ho,zZ8 Z];unfold tlF;rw[yA7];rfl
  ·rw[hzi];exact zR7 _ hq _ _ zB zB hwl hZ.wb
def zD8 (y:Cy) (j p:Int):Cy:=if(0<=j/\j<(y.c.js.length:Int))/\0<=p/\p<((y.c.js.getD j.toNat default).ph.length:Int)then⟨y.c,false,y.now,y.ds,y.sg,y.sv,y.st.set j.toNat p,y.vw⟩else y
def zD9 (y:Cy) (h:XS y) (j p:Int):∃y':Cy,XS y'/\y'=zD8 y j p/\zN 83 [uC y,iA j,iA p] [] (uC y') []:=by
 have hb:=h.b;have hrf:=h.rf;have hjl:=zA wJ y.c.js;have htl:=zA iA y.st;have htl2:=h.tl;have eC:uC y= .agg [zD wJ y.c.js,zD wK y.c.ags,iA y.c.per,iA y.c.cap,iA y.c.hold,iA y.c.lock,bA false,iA y.now,zD zI y.ds,zD wX y.sg,zD wU y.sv,zD iA y.st,zD vO y.vw]:=by rw[<-hrf];rfl
 by_cases hj:0<=j/\j<(y.c.js.length:Int)
 case neg=>
  refine⟨y,h,by unfold zD8;rw[zZ7 (λh=>hj h.1)],?_⟩;have k1:=bU y hb;rw[eC]at k1⊢;by_cases h0:j<0
  ·(refine eM call83 λF hF=>?_)
   refine zV k1 ?_;exact zJ
  ·(refine eM call83 λF hF=>?_)
   refine zV k1 ?_;exact zJ
 obtain⟨j0,j1⟩:=hj;have hyj:=yI wJ y.c.js j j0 j1;have hpl:=zA wS (y.c.js.getD j.toNat default).ph;by_cases hp:0<=p/\p<((y.c.js.getD j.toNat default).ph.length:Int)
 case neg=>
  refine⟨y,h,by unfold zD8;rw[zZ7 (λh=>hp h.2)],?_⟩;have k1:=bU y hb;rw[eC]at k1⊢;generalize y.c.js.getD j.toNat default=jn at *;unfold wJ at hyj;by_cases h0:p<0
  ·(refine eM call83 λF hF=>?_)
   refine zV k1 ?_;exact zJ
  ·(refine eM call83 λF hF=>?_)
   refine zV k1 ?_;exact zJ
 obtain⟨p0,p1⟩:=hp;refine⟨⟨y.c,false,y.now,y.ds,y.sg,y.sv,y.st.set j.toNat p,y.vw⟩,⟨h.v,rfl,h.n0,h.dl,h.di,h.dg,h.sc,h.gl,h.sl,by dsimp only;rw[yBv];exact h.tl,h.wl,h.wb,h.j⟩,by unfold zD8;rw[zZ8 ⟨⟨j0,j1⟩,p0,p1⟩],?_⟩;have k1:=QS y hb;unfold zIu zIv bP at k1;rw[eC,hrf]at k1;rw[eC];have e2:(y.st.set j.toNat p).map iA=(y.st.map iA).set j.toNat (iA p):=yB4 ..;rw[show uC ⟨y.c,false,y.now,y.ds,y.sg,y.sv,y.st.set j.toNat p,y.vw⟩= .agg [zD wJ y.c.js,zD wK y.c.ags,iA y.c.per,iA y.c.cap,iA y.c.hold,iA y.c.lock,bA false,iA y.now,zD zI y.ds,zD wX y.sg,zD wU y.sv,.sl false ((y.st.map iA).set j.toNat (iA p)),zD vO y.vw] by rw[<-e2];rfl];clear e2;have hyt:=yI iA y.st j j0 zB;generalize y.c.js.getD j.toNat default=jn at *;unfold wJ at hyj;refine eM call83 λF hF=>?_
 refine zV k1 ?_;refine zK [] Z Z ?_ Z
 show AV.agg [_,_,_,_,_,_,_,_,.sl false (List.take (y.ds.map zI).length (y.ds.map zI)),.sl false (List.take (y.sg.map wX).length (y.sg.map wX)),.sl false (List.take (y.sv.map wU).length (y.sv.map wU)),.sl false (List.take (y.st.map iA).length ((y.st.map iA).set j.toNat (iA p))),_]=_
 rw[yAf,yAf,yAf,yAj (by rw[yBv];exact yAb _)];rfl
section
open Classical in
noncomputable def bsM (m:Ms):List Int:=if h:OW m then frF m.kind (KQ h.2).choose else []
def zR6 (m:Ms) (h:OW m):((bsM m).length<=300/\(m.args≠[]->∃q:List Int,bsM m=90::165::1::m.kind::q/\7<=q.length))/\zN 97 [yB m] [] (.tup [zD yA (bsM m),iA 0]) []:=by
 have hs:=(KQ h.2).choose_spec;have e:bsM m=frF m.kind (KQ h.2).choose:=by unfold bsM;rw[dif_pos h]
 rw[e];generalize (KQ h.2).choose=p at *;obtain⟨h1,h2,h3⟩:=hs;obtain⟨k,tk,ar,da⟩:=m;obtain⟨h4,h5⟩:=h;dsimp only at *;subst h4;refine⟨⟨?_,λh9=>?_⟩,h3⟩
 ·simp only[frF,be4,yAl,yAd,zZ9,yBp];have:(bF k p.length).length<=10:=by unfold bF;simp
  have:=h2.1;omega
 ·refine⟨0::(p.length:Int)::(p++be4 (bN (bF k p.length++p))),by simp[frF,bF],?_⟩;have h8:=h2.2 h9;simp only[be4,yAl,yAd,zZ9,yBp];omega
noncomputable def TZ (l:List Ms):List Int:=(l.map bsM).flatten
def zHc (l:List Ms) (m:Ms):TZ (l++[m])=TZ l++bsM m:=by simp[TZ]
theorem zB8:∀{l:List Ms},(∀m∈l,OW m)->(TZ l).length<=300*l.length
 | [],_=>yAp _
 |m::l,h=>by
  have h1:=(zR6 m (h m zU)).1.1;have h2:=zB8 (l:=l) λx hx=>h x MD
  have e:TZ (m::l)=bsM m++TZ l:=rfl;rw[e,yAd,yAl];omega
def ML (l:List Ms) (hl:l.length<=1002) (h:∀m∈l,OW m):zN 119 [zD yB l] [] (zD yA (TZ l)) []:=by
 have hml:=zA yB l;refine eM call119 λF hF=>?_
 refine WW ?_;refine yZ 3 1001 1 Z Z Z ?_;refine yL (l) [1001] [] [8,9] [3,10,8,9] Z (λi pre T U=>⟨(3,.ref 1001 0 ((TZ pre).map yA).length)::(10,iA i)::T,(1001,.arr 1 ((TZ pre).map yA) true)::U⟩) ?_;(conv=>whnf);refine⟨by rfl,?_,?_⟩
 ·intro i pre x post hx hi;have hy:=xI yB hx hi;have hlt:=yN hx hi;obtain⟨⟨c1,_⟩,c2⟩:=zR6 x (h x (wR hx));have hpl:=zB8 (l:=pre) λm hm=>h m (by rw[hx];simp[hm])
  have hpm:=zA yA (TZ pre);have hbm:=zA yA (bsM x);rw[zHc,yAi];clear hx;generalize TZ pre=X at *;generalize bsM x=Y at *;unfold yB at *;refine zV c2 ?_;rfl
 ·(refine WW ?_)
  exact zK [] Z Z (yA6 (AV.sl false) yAf) Z
structure VZ where
 y:Cy
 ss:List Ss
def UA (y:Cy) (s:AV):AV:= .agg [zD wJ y.c.js,zD wK y.c.ags,iA y.c.per,iA y.c.cap,iA y.c.hold,iA y.c.lock,bA false,iA y.now,zD zI y.ds,zD wX y.sg,zD wU y.sv,zD iA y.st,zD vO y.vw,s]
def cB (b:VZ):AV:=UA b.y (zD jE b.ss)
structure AN (b:VZ):Prop where
 y:XS b.y
 l:(b.ss.length:Int)=qE b.y.c.ags b.y.c.ags.length
 s:∀s∈b.ss,SsI s
def sdA (S:List (List Int)) (f:List Int):AV:= .agg [zD (zD yA) S,zD yA f]
def cC (ss:List Ss):List In:=ss.map λs=>(XR s).2
def QI (ss:List Ss) (i:Nat):List AV:=(List.range ss.length).map λk=>if k<i then jG (XR (ss.getD k default)).2 else .agg [bA false,.s (.slice none 0 0)]
def dC (ss:List Ss) (i:Nat):List Ss:=bB (λ_ s=>(XR s).1) ss i
noncomputable def UB (T:List (List Ms)) (i:Nat):List AV:=(List.range T.length).map λk=>if k<i then zD yA (TZ (T.getD k default))else .s (.slice none 0 0)
def zHd (ss:List Ss):QI ss ss.length=(cC ss).map jG:=by
 unfold QI cC;rw[fL,yE9];apply yBi;intro j;rw[yAa,yAa];by_cases hj:j<ss.length
 ·rw[yA4 hj,yAn hj];simp only[Option.map_some,Function.comp,yAg,yAn hj,yCd]
 ·rw[yAz vA,yAz zB];rfl
def zHe (T:List (List Ms)):UB T T.length=(T.map TZ).map (zD yA):=by
 unfold UB;rw[fL,yE9];apply yBi;intro j;rw[yAa,yAa];by_cases hj:j<T.length
 ·rw[yA4 hj,yAn hj];simp only[Option.map_some,Function.comp,yAg,yAn hj,yCd]
 ·rw[yAz vA,yAz zB];rfl
theorem zHf (b:VZ) (h:AN b) (y':Cy) (Td:List (List Ms)) (hM:MtP b.y y' (cC b.ss) Td) (k:zN 118 [uC b.y,zD jG (cC b.ss)] [] (.tup [uC y',tdA Td (NJ (b.y.now+1) y'.vw)]) []):
  zN 84 [UA b.y (.ref 1021 0 b.ss.length)] [(1021,.arr 4 (b.ss.map jE) false)] (.tup [UA y' (.ref 1021 0 b.ss.length),sdA (Td.map TZ) (TZ [NJ (b.y.now+1) y'.vw])]) [(1021,.arr 4 ((dC b.ss b.ss.length).map jE) false)]:=by
 obtain⟨y,ss⟩:=b;have hy:=h.y;have hs:=h.s;have hl:=h.l;dsimp only at *;have hw:=hy.v.ag;have hrf:=hy.rf
 have hsb:ss.length<=8:=by
  have:=kY hw y.c.ags.length (yAb _);have:=hw.1;omega
 have hrf':=hM.i.rf;have hTl:=hM.l;have hil:(cC ss).length=ss.length:=by unfold cC;rw[zZ9]
 rw[hil]at hTl;have eC:uC y= .agg [zD wJ y.c.js,zD wK y.c.ags,iA y.c.per,iA y.c.cap,iA y.c.hold,iA y.c.lock,bA false,iA y.now,zD zI y.ds,zD wX y.sg,zD wU y.sv,zD iA y.st,zD vO y.vw]:=by rw[<-hrf];rfl
 have eC':uC y'= .agg [zD wJ y'.c.js,zD wK y'.c.ags,iA y'.c.per,iA y'.c.cap,iA y'.c.hold,iA y'.c.lock,bA false,iA y'.now,zD zI y'.ds,zD wX y'.sg,zD wU y'.sv,zD iA y'.st,zD vO y'.vw]:=by rw[<-hrf'];rfl
 rw[eC,eC',show∀f,tdA Td f= .agg [.sl false (Td.map bZ),zD yB [f]]from λ_=>rfl]at k;have hTv:=hM.v;have kf:=ML [NJ (y.now+1) y'.vw] zU (λm hm=>by rw[yA8.1 hm];exact hM.f);generalize NJ (y.now+1) y'.vw=fm at *;have hsl:=zA jE ss
 have hi0:QI ss 0=List.replicate ss.length (.agg [bA false,.s (.slice none 0 0)]):=by
  unfold QI;apply yBi;intro j;rw[yAa,yB2];by_cases hj:j<ss.length
  ·rw[yA4 hj,zZ8 hj];simp
  ·rw[zZ7 hj,yAz vA];rfl
 have hs0:dC ss 0=ss:=qR _ _;unfold UA;refine eM call84 λF hF=>?_
 refine WW ?_;have hsn:∀i,((dC ss i).map jE).length=ss.length:=λi=>by unfold dC;rw[zZ9,wP]
 have hin:∀i,(QI ss i).length=ss.length:=λi=>by unfold QI;rw[zZ9,yBp]
 refine zO (ss.length) [1021,14,1,2,3] [1,2,3] [1,2,3,4,17] [18,1,2,3,4,17] Z (λi T U=>⟨(18,iA i)::T,(1021,.arr 4 ((dC ss i).map jE) false)::(14,.arr 2 (QI ss i) false)::U⟩) ?_;(conv=>whnf);refine⟨by(rw[hi0,hs0];rfl),?_,?_⟩
 ·intro i hi;have hys:((dC ss i).map jE)[i]? =some (jE (ss.getD i default)):=by rw[yAa];unfold dC;rw[vQ,zZ8 hi,zZ7 (yDx i)];rfl
  have hyi:(QI ss i)[i]? =some (.agg [bA false,.s (.slice none 0 0)]):=dM _ _ _ _ hi;have e1:(dC ss (i+1)).map jE=((dC ss i).map jE).set i (jE (XR (ss.getD i default)).1):=by unfold dC;rw[uR _ _ _ _ hi]
  have e2:QI ss (i+1)=(QI ss i).set i (jG (XR (ss.getD i default)).2):=fK _ _ _ _ hi;have hI:=hs _ (zP ss i hi);have kt:=zNy (ss.getD i default) hI.y (by have:=hI.n;omega);have h1:=hsn i;have h2:=hin i;rw[e1,e2];clear e1 e2 hi0 hs0 hI hs hTv k;generalize (dC ss i).map jE=X at *;generalize QI ss i=Y at *;generalize (XR (ss.getD i default)).1=s1 at *;generalize (XR (ss.getD i default)).2=n1 at *;generalize ss.getD i default=s0 at *;refine zV kt ?_;rfl
 ·rw[zHd];refine qH [1,2,3,1021] [1,2,3,4,17,18] Z ?_
  (conv=>whnf)
  have hbm:=zA jG (cC ss);simp only[yA9];rw[yAj (l:=(cC ss).map jG) zB];have hTm:=zA bZ Td;refine yR (vH k kf) ?_
  have hd0:UB Td 0=List.replicate Td.length (.s (.slice none 0 0)):=by
   unfold UB;apply yBi;intro j;rw[yAa,yB2];by_cases hj:j<Td.length
   ·rw[yA4 hj,zZ8 hj];simp
   ·rw[zZ7 hj,yAz vA];rfl
  have hdn:∀i,(UB Td i).length=Td.length:=λi=>by unfold UB;rw[zZ9,yBp]
  rw[hTm];refine zO (Td.length) [50,1,2,3,8,1021] [1,2,3,8,1021] [1,2,3,8,56,57] [58,1,2,3,8,56,57] Z (λi T U=>⟨(58,iA i)::T,(50,.arr 1 (UB Td i) false)::U⟩) ?_;(conv=>whnf);refine⟨by(rw[hd0];rfl),?_,?_⟩
  ·intro i hi;have hyT:=zM bZ Td i hi;have hyd:(UB Td i)[i]? =some (.s (.slice none 0 0)):=dM _ _ _ _ hi;have e1:UB Td (i+1)=(UB Td i).set i (zD yA (TZ (Td.getD i default))):=fK _ _ _ _ hi;obtain⟨v1,v2⟩:=hTv _ (zP Td i hi);have kg:=ML (Td.getD i default) v1 v2;have h2:=hdn i;rw[e1];unfold bZ at hyT;clear e1 hd0 hdn hi0 hs0 hs hTv k v2 kf;generalize UB Td i=X at *;generalize TZ (Td.getD i default)=bs at *;generalize Td.getD i default=ti at *;refine zV kg ?_;rfl
  ·(refine WW ?_)
   refine zK [1021] Z Z ?_ Z
   show AV.tup [_,AV.agg [AV.sl false (List.take Td.length (UB Td Td.length)),_]]=_
   rw[yAj (l:=UB Td Td.length) (yB7 (hdn _)),zHe];rfl
end
end Av
end Go.Proofs.YteajjdidebfcjaaGreat
