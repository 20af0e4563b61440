/- Part 29. -/
import Derived.Test.YtmamjhmoegjapaaGreatP28
namespace Go.Proofs.YtmamjhmoegjapaaGreat
namespace Av
open Tryz
set_option linter.unusedSimpArgs false
set_option linter.unusedVariables false
set_option linter.unusedSectionVars false
set_option maxRecDepth 4000
set_option maxHeartbeats 8000000
structure TaS where
 t:Nat
 g:Bool
 its:List It
def taC (s:TaS) (p:It×Nat):Bool:=decide (p.1.code=2)&&s.g
def NM (s:TaS) (p:It×Nat):TaS:=if taC s p=true then⟨s.t+p.2,s.g,s.its⟩else⟨s.t+p.2,decide (p.1.code=2)||(decide (p.1.code=7)||decide (p.1.code=4)),s.its++[p.1]⟩
def taX (N:Nat) (s:TaS) (p:It×Nat):Bool:=!taC s p&&decide (N<=s.its.length+1)
def YU (N:Nat):List (It×Nat)->TaS->TaS
 | [],s=>s
 |p::l,s=>if taX N s p=true then NM s p else YU N l (NM s p)
def BM (s0:TaS) (l:List (It×Nat)) (i:Nat):TaS:=(l.take i).foldl NM s0
theorem GU (s0:TaS) {l:List (It×Nat)} {i:Nat} {p:It×Nat} (h:l[i]? =some p):BM s0 l (i+1)=NM (BM s0 l i) p:=by
 unfold BM;rw[yAz,h,List.foldl_append];rfl
theorem KM {N:Nat}:∀(l:List (It×Nat)) (s:TaS),s.its.length<N->(YU N l s).its.length<=N
 | [],s,h=>yCq h
 | p::l,s,h=>by
  unfold YU
  have h1:(NM s p).its.length<=s.its.length+1:=by
   unfold NM;split
   ·dsimp only;omega
   ·dsimp only;rw[zX3];simp
  split
  ·omega
  ·rename_i hx;refine KM l _ ?_;unfold taX at hx;unfold NM;cases hc:taC s p
   ·rw[hc]at hx;rw[zX0 zYk];simp only[yCs,zYp,zX9]at hx;dsimp only;rw[zX3];simp only[zYd,zZa];omega
   ·rw[zX1 rfl];exact h
theorem zBf {N:Nat} {Pr:It->Prop}:∀(l:List (It×Nat)) (s:TaS),(∀x∈s.its,Pr x)->(∀p∈l,Pr p.1)->∀x∈(YU N l s).its,Pr x
 | [],s,h,_=>h
 | p::l,s,h,hl=>by
  have h1:∀x∈(NM s p).its,Pr x:=by
   unfold NM;split
   ·exact h
   ·intro x hx
    rcases zYl.1 hx with hx|hx
    ·exact h x hx
    ·rw[zYz.1 hx];exact hl p zS
  unfold YU;split
  ·exact h1
  ·exact zBf l _ h1 λq hq=>hl q (by simp[hq])
theorem zFp {N:Nat}:∀(l:List (It×Nat)) (s:TaS),s.t<=(YU N l s).t/\(YU N l s).t<=s.t+zDi l
 | [],s=>⟨zX6 _,Nat.le_add_right _ _⟩
 |p::l,s=>by
  have h1:(NM s p).t=s.t+p.2:=by unfold NM;split<;>rfl
  have h2:=zFp (N:=N) l (NM s p);have h3:zDi (p::l)=p.2+zDi l:=by simp[zDi]
  unfold YU
  split<;>omega
theorem zBg:∀(n:Nat) (b:List Int),(gG n b).length<=n
 |0,_=>zX6 _
 |n+1,b=>by
  unfold gG;split
  ·exact zYe _
  ·rename_i q _;have:=zBg n (b.drop q.2);rw[zYd];omega
def stA (b:List Int) (g:Bool):AV:= .agg [zD yA b,bA g]
theorem KN (k N:Nat):zN 100 [iA k,.ptr 1053 0 0] [(1053,.box [iA N])] (bA (decide (N<=k))) [(1053,.box [iA N])]:=by
 by_cases h:N<=k
 ·rw[zX8 h];refine eM call100 λF hF=>?_
  refine WW ?_;exact zL [1053] rfl rfl rfl rfl
 ·rw[zYa h];refine eM call100 λF hF=>?_
  refine WW ?_;exact zL [1053] rfl rfl rfl rfl
theorem zLo (b:List Int) (hb:BY b) (hl:b.length<=1000) (g:Bool) (N:Nat) (hN:1<=N/\N<=1000):zN 99 [stA b g,.fn 100 [.ptr 1053 0 0]] [(1053,.box [iA N])]
  (.tup [stA (b.drop (YU N (gG b.length b) ⟨0,g,[]⟩).t) (YU N (gG b.length b) ⟨0,g,[]⟩).g,zD vE (YU N (gG b.length b) ⟨0,g,[]⟩).its]) [(1053,.box [iA N])]:=by
 have kp:=zF3 b;have ht:=zDj b hb hl;have hbl:=zA yA b;have hr1:=(zFp (N:=N) (gG b.length b) ⟨0,g,[]⟩).2;have hr2:=zBk (n:=b.length) hb;dsimp only at hr1;have hL:psL b=(gG b.length b).map λp=>[vE p.1,iA (p.2:Int)]:=rfl
 have hG0:BM ⟨0,g,[]⟩ (gG b.length b) 0=⟨0,g,[]⟩:=rfl
 have hGn:∀i,(BM ⟨0,g,[]⟩ (gG b.length b) i).its.length<=i:=λi=>by
  induction i with
  |zero=>exact zX6 _
  | succ i ih=>
   cases h:(gG b.length b)[i]? with
   | none=>
    have:BM ⟨0,g,[]⟩ (gG b.length b) (i+1)=BM ⟨0,g,[]⟩ (gG b.length b) i:=by
     unfold BM;rw[yAz,h];simp
    rw[this];omega
   |some p=>
    rw[GU _ h];unfold NM;split
    ·dsimp only;omega
    ·dsimp only;rw[zX3];simp only[zYd,zZa];omega
 rw[show stA b g= .agg [zD yA b,bA g]from rfl];rw[show stA (b.drop (YU N (gG b.length b) ⟨0,g,[]⟩).t) (YU N (gG b.length b) ⟨0,g,[]⟩).g= .agg [zD yA (b.drop (YU N (gG b.length b) ⟨0,g,[]⟩).t),bA (YU N (gG b.length b) ⟨0,g,[]⟩).g]from rfl];generalize hr:YU N (gG b.length b) ⟨0,g,[]⟩=r at *;unfold psH at kp ht;refine eM call99 λF hF=>?_
 (have zc1:=kp;(repeat' (first|refine WS ?_|refine SG (I2 (λhc=>?_) (λhc=>?_))|refine SG (λhc=>?_)|(refine zE ?_;first|refine SM ?_)|(first|first|refine SR ?_|refine SK (I2 (λhc=>?_) (λhc=>?_))|refine SK (λhc=>?_)|fail|refine vH ?_|refine vI ?_)|fail))<;>clear zc1)
 refine uK 6 0 1051 3 rfl rfl rfl rfl rfl ?_
 refine uJ hF ht rfl [2,3,4,6,7,8,1051,1053] [2,3,4,6,7,8] rfl rfl rfl rfl rfl rfl rfl rfl rfl (λk ys h=>?_) (λi=>[(2,.box [zD yA b,bA g]),(3,.box [.fn 100 [.ptr 1053 0 0]]),(4,.box [.s (.slice none 0 0),bA false]),(6,.box [.ref 1051 0 ((BM ⟨0,g,[]⟩ (gG b.length b) i).its.map vE).length]),(7,.box [iA ((BM ⟨0,g,[]⟩ (gG b.length b) i).t:Int)]),(8,.box [bA (BM ⟨0,g,[]⟩ (gG b.length b) i).g]),(1051,.arr 3 ((BM ⟨0,g,[]⟩ (gG b.length b) i).its.map vE) true),(1053,.box [iA N])]) (λi=>YU N ((gG b.length b).drop i) (BM ⟨0,g,[]⟩ (gG b.length b) i)=r)
  (T:=[(2,.ptr 2 0 0),(3,.ptr 3 0 0),(4,.ptr 4 0 0),(6,.ptr 6 0 0),(7,.ptr 7 0 0),(8,.ptr 8 0 0)]) rfl hr (λi ys q hys hI F1 h1 h2=>?_) (λhI=>?_)
 ·rw[hL,zX4,zYg]at h;obtain⟨x,_,rfl⟩:=h;rfl
 ·rw [hL,zX4,zYg]at hys;obtain⟨p,hp,rfl⟩:=hys;have e1:=GU (⟨0,g,[]⟩:TaS) hp;have hil:i<(gG b.length b).length:=(zYq.1 hp).1
  have e2:(gG b.length b).drop i=p::(gG b.length b).drop (i+1):=by
   rw[yAu hil]
   congr 1
   exact(zYq.1 hp).2
  rw[e2]at hI;rw[e1];have hgi:=hGn i;have hps:=zBk (n:=b.length) hb;generalize BM ⟨0,g,[]⟩ (gG b.length b) i=s at*
  have hst:s.t+p.2<=b.length:=by
   have h9:(NM s p).t=s.t+p.2:=by unfold NM;split<;>rfl
   unfold YU at hI;split at hI
   ·rw[<-h9,hI];omega
   ·have:=(zFp (N:=N) ((gG b.length b).drop (i+1)) (NM s p)).1;rw[hI]at this;omega
  have hpl:=zBg b.length b;have hi3:i<=1000:=by omega
  clear hp hil e1 e2 hL hG0 hGn hps ht kp;generalize (gG b.length b).drop (i+1)=l2 at *;generalize (gG b.length b).length=L at *;obtain⟨t0,g0,its⟩:=s;obtain⟨⟨cd,kd,py⟩,n⟩:=p;dsimp only at hst hgi;have him:=zA vE its;rw[show vE (({code:=cd,kind:=kd,pay:=py}:It),n).fst= .agg [iA cd,iA kd,zD yA py]from rfl];refine WW ?_;refine⟨rfl,λF2 g1 g2=>?_⟩;dsimp only;by_cases hc:cd=2
  ·subst hc;cases g0
   ·have e3:NM ⟨t0,false,its⟩ (⟨2,kd,py⟩,n)=⟨t0+n,true,its++[⟨2,kd,py⟩]⟩:=rfl;have e4:taX N ⟨t0,false,its⟩ (⟨2,kd,py⟩,n)=decide (N<=its.length+1):=rfl;unfold YU at hI;rw[e3,e4]at hI;rw[e3];have kst:=KN (its.map vE++[AV.agg [iA 2,iA kd,zD yA py]]).length N;rw[show decide (N<=(its.map vE++[AV.agg [iA 2,iA kd,zD yA py]]).length)=decide (N<=its.length+1) by simp]at kst;by_cases hs:N<=its.length+1
    ·rw[zX8 hs]at kst;rw[zX1 (zX8 hs)]at hI;subst hI;have hbt:=zA yA b;have kc:=vB (b.drop ((t0:Int)+(n:Int)).toNat) HB;have eD:zD yA (b.drop (t0+n))=zD yA (b.drop ((t0:Int)+(n:Int)).toNat):=by rw[show((t0:Int)+(n:Int)).toNat=t0+n by omega]
     dsimp only;rw[eD];rw[show zD vE (its++[⟨2,kd,py⟩])= .sl false (its.map vE++[AV.agg [iA 2,iA kd,zD yA py]]) by unfold zD;rw[zYc];rfl]
     (have zc1:=kst;have zc2:=kc;(repeat' (first|refine WS ?_|refine SG (I2 (λhc=>?_) (λhc=>?_))|refine SG (λhc=>?_)|(refine zE ?_;first|refine SM ?_)|(first|first|refine SR ?_|refine SK (I2 (λhc=>?_) (λhc=>?_))|refine SK (λhc=>?_)|fail|refine vH ?_|refine vI ?_)|fail))<;>clear zc1 zc2)
     refine zI [1053] rfl rfl ?_ rfl
     show AV.tup [_,AV.sl false (List.take (its.map vE++[AV.agg [iA 2,iA kd,zD yA py]]).length (its.map vE++[AV.agg [iA 2,iA kd,zD yA py]]))]=_
     rw[zX7];rfl
    ·rw[zYa hs]at kst;rw[zX0 zCv]at hI;dsimp only;rw[zYc,show [(⟨2,kd,py⟩:It)].map vE=[AV.agg [iA 2,iA kd,zD yA py]]from rfl]
     (have zc1:=kst;(repeat' (first|refine WS ?_|refine SG (I2 (λhc=>?_) (λhc=>?_))|refine SG (λhc=>?_)|(refine zE ?_;first|refine SM ?_)|(first|first|refine SR ?_|refine SK (I2 (λhc=>?_) (λhc=>?_))|refine SK (λhc=>?_)|fail|refine vH ?_|refine vI ?_)|fail))<;>clear zc1)
     exact⟨rfl,hI⟩
   ·have e3:NM ⟨t0,true,its⟩ (⟨2,kd,py⟩,n)=⟨t0+n,true,its⟩:=rfl;have e4:taX N ⟨t0,true,its⟩ (⟨2,kd,py⟩,n)=false:=rfl;unfold YU at hI;rw[e3,e4,zX0 zYk]at hI;rw[e3];dsimp only
    (repeat' (first|refine WS ?_|refine SG (I2 (λhc=>?_) (λhc=>?_))|refine SG (λhc=>?_)|(refine zE ?_;first|refine SM ?_)|(first|first|refine SR ?_|refine SK (I2 (λhc=>?_) (λhc=>?_))|refine SK (λhc=>?_)|fail|refine vH ?_|refine vI ?_)|fail))
    exact⟨rfl,hI⟩
  ·have ex:taC ⟨t0,g0,its⟩ (⟨cd,kd,py⟩,n)=false:=by
    unfold taC;rw[zYa hc,zZw]
   have e4:taX N ⟨t0,g0,its⟩ (⟨cd,kd,py⟩,n)=decide (N<=its.length+1):=by
    unfold taX;rw[ex];rfl
   by_cases h7:cd=7
   ·subst h7;have e3:NM ⟨t0,g0,its⟩ (⟨7,kd,py⟩,n)=⟨t0+n,true,its++[⟨7,kd,py⟩]⟩:=rfl;unfold YU at hI;rw[e3,e4]at hI;rw[e3];have kst:=KN (its.map vE++[AV.agg [iA 7,iA kd,zD yA py]]).length N;rw[show decide (N<=(its.map vE++[AV.agg [iA 7,iA kd,zD yA py]]).length)=decide (N<=its.length+1) by simp]at kst;by_cases hs:N<=its.length+1
    ·rw[zX8 hs]at kst;rw[zX1 (zX8 hs)]at hI;subst hI;have hbt:=zA yA b;have kc:=vB (b.drop ((t0:Int)+(n:Int)).toNat) HB;have eD:zD yA (b.drop (t0+n))=zD yA (b.drop ((t0:Int)+(n:Int)).toNat):=by rw[show((t0:Int)+(n:Int)).toNat=t0+n by omega]
     dsimp only;rw[eD];rw[show zD vE (its++[⟨7,kd,py⟩])= .sl false (its.map vE++[AV.agg [iA 7,iA kd,zD yA py]]) by unfold zD;rw[zYc];rfl]
     (have zc1:=kst;have zc2:=kc;(repeat' (first|refine WS ?_|refine SG (I2 (λhc=>?_) (λhc=>?_))|refine SG (λhc=>?_)|(refine zE ?_;first|refine SM ?_)|(first|first|refine SR ?_|refine SK (I2 (λhc=>?_) (λhc=>?_))|refine SK (λhc=>?_)|fail|refine vH ?_|refine vI ?_)|fail))<;>clear zc1 zc2)
     refine zI [1053] rfl rfl ?_ rfl
     show AV.tup [_,AV.sl false (List.take (its.map vE++[AV.agg [iA 7,iA kd,zD yA py]]).length (its.map vE++[AV.agg [iA 7,iA kd,zD yA py]]))]=_
     rw[zX7];rfl
    ·rw[zYa hs]at kst;rw[zX0 zCv]at hI;dsimp only;rw[zYc,show [(⟨7,kd,py⟩:It)].map vE=[AV.agg [iA 7,iA kd,zD yA py]]from rfl]
     (have zc1:=kst;(repeat' (first|refine WS ?_|refine SG (I2 (λhc=>?_) (λhc=>?_))|refine SG (λhc=>?_)|(refine zE ?_;first|refine SM ?_)|(first|first|refine SR ?_|refine SK (I2 (λhc=>?_) (λhc=>?_))|refine SK (λhc=>?_)|fail|refine vH ?_|refine vI ?_)|fail))<;>clear zc1)
     exact⟨rfl,hI⟩
   by_cases h4:cd=4
   ·subst h4;have e3:NM ⟨t0,g0,its⟩ (⟨4,kd,py⟩,n)=⟨t0+n,true,its++[⟨4,kd,py⟩]⟩:=rfl;unfold YU at hI;rw[e3,e4]at hI;rw[e3];have kst:=KN (its.map vE++[AV.agg [iA 4,iA kd,zD yA py]]).length N;rw[show decide (N<=(its.map vE++[AV.agg [iA 4,iA kd,zD yA py]]).length)=decide (N<=its.length+1) by simp]at kst;by_cases hs:N<=its.length+1
    ·rw[zX8 hs]at kst;rw[zX1 (zX8 hs)]at hI;subst hI;have hbt:=zA yA b;have kc:=vB (b.drop ((t0:Int)+(n:Int)).toNat) HB;have eD:zD yA (b.drop (t0+n))=zD yA (b.drop ((t0:Int)+(n:Int)).toNat):=by rw[show((t0:Int)+(n:Int)).toNat=t0+n by omega]
     dsimp only;rw[eD];rw[show zD vE (its++[⟨4,kd,py⟩])= .sl false (its.map vE++[AV.agg [iA 4,iA kd,zD yA py]]) by unfold zD;rw[zYc];rfl]
     (have zc1:=kst;have zc2:=kc;(repeat' (first|refine WS ?_|refine SG (I2 (λhc=>?_) (λhc=>?_))|refine SG (λhc=>?_)|(refine zE ?_;first|refine SM ?_)|(first|first|refine SR ?_|refine SK (I2 (λhc=>?_) (λhc=>?_))|refine SK (λhc=>?_)|fail|refine vH ?_|refine vI ?_)|fail))<;>clear zc1 zc2)
     refine zI [1053] rfl rfl ?_ rfl
     show AV.tup [_,AV.sl false (List.take (its.map vE++[AV.agg [iA 4,iA kd,zD yA py]]).length (its.map vE++[AV.agg [iA 4,iA kd,zD yA py]]))]=_
     rw[zX7];rfl
    ·rw[zYa hs]at kst;rw[zX0 zCv]at hI;dsimp only;rw[zYc,show [(⟨4,kd,py⟩:It)].map vE=[AV.agg [iA 4,iA kd,zD yA py]]from rfl]
     (have zc1:=kst;(repeat' (first|refine WS ?_|refine SG (I2 (λhc=>?_) (λhc=>?_))|refine SG (λhc=>?_)|(refine zE ?_;first|refine SM ?_)|(first|first|refine SR ?_|refine SK (I2 (λhc=>?_) (λhc=>?_))|refine SK (λhc=>?_)|fail|refine vH ?_|refine vI ?_)|fail))<;>clear zc1)
     exact⟨rfl,hI⟩
   ·have e3:NM ⟨t0,g0,its⟩ (⟨cd,kd,py⟩,n)=⟨t0+n,false,its++[⟨cd,kd,py⟩]⟩:=by
     unfold NM;rw[ex,zX0 zYk];dsimp only;rw[zYa hc,zYa h7,zYa h4];rfl
    unfold YU at hI;rw[e3,e4]at hI;rw[e3];have kst:=KN (its.map vE++[AV.agg [iA cd,iA kd,zD yA py]]).length N;rw[show decide (N<=(its.map vE++[AV.agg [iA cd,iA kd,zD yA py]]).length)=decide (N<=its.length+1) by simp]at kst;by_cases hs:N<=its.length+1
    ·rw[zX8 hs]at kst;rw[zX1 (zX8 hs)]at hI;subst hI;have hbt:=zA yA b;have kc:=vB (b.drop ((t0:Int)+(n:Int)).toNat) HB;have eD:zD yA (b.drop (t0+n))=zD yA (b.drop ((t0:Int)+(n:Int)).toNat):=by rw[show((t0:Int)+(n:Int)).toNat=t0+n by omega]
     dsimp only;rw[eD];rw[show zD vE (its++[⟨cd,kd,py⟩])= .sl false (its.map vE++[AV.agg [iA cd,iA kd,zD yA py]]) by unfold zD;rw[zYc];rfl]
     (have zc1:=kst;have zc2:=kc;(repeat' (first|refine WS ?_|refine SG (I2 (λhc=>?_) (λhc=>?_))|refine SG (λhc=>?_)|(refine zE ?_;first|refine SM ?_)|(first|first|refine SR ?_|refine SK (I2 (λhc=>?_) (λhc=>?_))|refine SK (λhc=>?_)|fail|refine vH ?_|refine vI ?_)|fail))<;>clear zc1 zc2)
     refine zI [1053] rfl rfl ?_ rfl
     show AV.tup [_,AV.sl false (List.take (its.map vE++[AV.agg [iA cd,iA kd,zD yA py]]).length (its.map vE++[AV.agg [iA cd,iA kd,zD yA py]]))]=_
     rw[zX7];rfl
    ·rw[zYa hs]at kst;rw[zX0 zCv]at hI;dsimp only;rw[zYc,show [(⟨cd,kd,py⟩:It)].map vE=[AV.agg [iA cd,iA kd,zD yA py]]from rfl]
     (have zc1:=kst;(repeat' (first|refine WS ?_|refine SG (I2 (λhc=>?_) (λhc=>?_))|refine SG (λhc=>?_)|(refine zE ?_;first|refine SM ?_)|(first|first|refine SR ?_|refine SK (I2 (λhc=>?_) (λhc=>?_))|refine SK (λhc=>?_)|fail|refine vH ?_|refine vI ?_)|fail))<;>clear zc1)
     exact⟨rfl,hI⟩
 ·have e1:BM ⟨0,g,[]⟩ (gG b.length b) (psL b).length=r:=by
   rw[hL,zX2]at hI⊢;rw[yB0]at hI;exact hI
  rw[e1];have hbt:=zA yA b;have kc:=vB (b.drop ((r.t:Nat):Int).toNat) HB
  (have zc1:=kc;(repeat' (first|refine WS ?_|refine SG (I2 (λhc=>?_) (λhc=>?_))|refine SG (λhc=>?_)|(refine zE ?_;first|refine SM ?_)|(first|first|refine SR ?_|refine SK (I2 (λhc=>?_) (λhc=>?_))|refine SK (λhc=>?_)|fail|refine vH ?_|refine vI ?_)|fail))<;>clear zc1)
  refine zI [1053] rfl rfl ?_ rfl
  show AV.tup [_,AV.sl false (List.take (r.its.map vE).length (r.its.map vE))]=_
  rw[zX7];rfl
section
variable {P:Program} {K0:List Nat} {F:Fr K0} {m:Nat} {ops:Array Oper} {rest:List Oper} {fs:List FP} {tm:List (Nat×AV)} {h:List (Nat×xN)}
theorem BN {Q:List FP->St->Prop} (t K sz:Nat) (hv:zG tm t= .s (.slice none 0 0)) (hK:(zC h K).isNone=true) (hp:Nat.ble 1 sz=true) (h1:yC P F m ops false rest ⟨(t,.ref K 0 0)::tm,(K,.arr sz [] true)::h⟩ fs Q):yC P F m ops false rest ⟨tm,h⟩ fs Q:=
 ⟨λa w R=>h1.run a w (wK.virt R t K sz hv hK hp)⟩
end
theorem zQ8 (m:Ms) (h:SW m):zN 118 [yE m] [] (bA false) []:=by
 obtain⟨k,tk,ar,da⟩:=m;obtain⟨h1,h2⟩:=h;dsimp only at h1 h2;subst h1;have c:=zRj h2;rw[show yE ⟨k,[],ar,da⟩= .agg [iA k,zD yA [],zD iA ar,zD yA da]from rfl]at *; refine eM call118 λF hF=>?_
 refine zU c ?_;exact zJ
theorem zU1 (l:List Ms) (hl9:l.length<=1000000) (h:∀m∈l,SW m):zN 167 [zD yE l,.fn 118 []] [] (iA (-1)) []:=by
 have hl:=zA yE l;refine eM call167 λF hF=>?_
 refine WW ?_;refine zY (l) [] [] [0,1,7] [8,0,1,7] rfl (λi pre T U=>⟨(8,iA i)::T,U⟩) ?_;(conv=>whnf);refine⟨by rfl,?_,?_⟩
 ·intro i pre x post hx hi;have hy:=yI yE hx hi;have hlt:=yB hx hi;have c:=zQ8 x (h x (xX hx));clear hx;refine zU c ?_;rfl
 ·(refine WW ?_)
  exact zJ
theorem zQ9 (l:List Ms) (hl9:l.length<=1000000) (h:∀m∈l,SW m):zN 117 [zD yE l,.fn 118 []] [] (zD yE l) []:=by
 have c:=zU1 l hl9 h;have hl:=zA yE l;refine eM call117 λF hF=>?_
 refine zU c ?_;exact zJ
theorem GV (l:List Ms) (hl9:l.length<=1000000) (h:∀m∈l,SW m):zN 67 [zD yE l] [] (zD yE l) []:=by
 have c:=zQ9 l hl9 h;have hl:=zA yE l;refine eM call67 λF hF=>?_
 refine zU c ?_;exact zJ
theorem zFq (y:Int):0<=XP y/\XP y<256:=by
 unfold XP;have e:IntKind.u8.wrap y=y % 256:=by simp[IntKind.wrap,IntKind.signed,IntKind.bits]
 rw[e];omega
theorem zFr {l:List Vw} (h:∀v∈l,VwB v):BY (NQ l):=λx hx=>by
 unfold NQ at hx;obtain⟨y,hy,hx⟩:=yBm.1 hx;obtain⟨v,hv,rfl⟩:=zZj.1 hy;have hb:=h v hv;have hc:=JG hb.c v.co.length (zX6 _) hb.n;have hp:=XQ v.co.length hb.n;have hs:=zVi (n:=kM v.co v.co.length) hc.1 zB;unfold vwF at hx;simp only[yA3,yAq,zZi,zZj]at hx
 rcases hx with rfl|rfl|rfl|⟨y,_,rfl⟩
 ·unfold hdF
  split<;>split<;>omega
 ·omega
 ·exact zFq _
 ·exact zFq _
theorem zRa (l:List Rq) (v:List Vw) (now:Int) (n:Nat):BY (cqL l v now n):=λx hx=>by
 unfold cqL at hx;obtain⟨i,_,rfl⟩:=zZj.1 hx;unfold cqF;split
 ·have:=zHf ((l.getD (i/3) default).legs.getD (i % 3) default) v now;omega
 ·omega
theorem zP6 (d:xQ) (hq:0<=d.rg.ag.req/\d.rg.ag.req<=4) (v:List Vw) (now:Int) (n0:0<=now) (n1:now<=1073741824) (hn:v.length<=4) (hb:∀w∈v,VwB w):SW (UW d v now):=by
 have h1:=VJ hb;have h2:=eQ [now];have h3:(cqL d.rq v now (d.rg.ag.req.toNat*3)).length=d.rg.ag.req.toNat*3:=by simp[cqL]
 refine⟨rfl,by dsimp only[UW,stM];omega,.cons zB .nil,by simp[UW,stM],?_,.inl rfl,.inl ⟨rfl,rfl⟩,?_⟩
 ·intro x hx
  rcases zYl.1 hx with hx|hx
  ·exact zFr hb x hx
  ·exact zRa _ _ _ _ x hx
 ·show(([now].map cM).flatten).length+1+(NQ v++cqL d.rq v now (d.rg.ag.req.toNat*3)).length<=200
  rw[zX3];simp only[zYd,zZa]at h2;omega
def RN (now:Int) (v:List Vw):Ms:=⟨21,[],[now],NQ v⟩
theorem zU2 (v:List Vw) (now:Int) (n0:0<=now) (n1:now<=1073741824) (hn:v.length<=4) (hb:∀w∈v,VwB w):SW (RN now v):=by
 have h1:=VJ hb;have h2:=eQ [now];refine⟨rfl,by dsimp only[RN];omega,.cons zB .nil,by simp[RN],zFr hb,.inl rfl,.inl ⟨rfl,rfl⟩,?_⟩
 show(([now].map cM).flatten).length+1+(NQ v).length<=200
 simp only[zYd,zZa]at h2;omega
theorem zRb (now:Int) (v:List Vw) (hn:v.length<=1000) (hb:∀w∈v,VwB w):zN 32 [iA now,zD vM v] [] (yE (RN now v)) []:=by
 have kr:=zHe v hn hb;have hrl:=zA yA (NQ v);refine eM call32 λF hF=>?_
 refine zU kr ?_;refine zI [] rfl rfl ?_ rfl;exact zY0 (λz=>AV.agg [iA 21,AV.sl false [],AV.sl false [iA now],AV.sl false z]) zX7
def aO (e:En):List Int:=[e.ag,e.ki,e.co]
def trM (now:Int) (en:List En):Ms:=⟨18,[],now::((en.take 16).map aO).flatten,[]⟩
theorem zW7 (now:Int) (n0:0<=now) (n1:now<=1073741824) (en:List En) (h:∀e∈en,EnK e):SW (trM now en):=by
 have hl:(en.take 16).length<=16:=by rw[zYo];omega
 have hm:∀e∈en.take 16,EnK e:=λe he=>h e (zZv he)
 unfold trM;generalize en.take 16=l at*
 have h3:((l.map aO).flatten).length=3*l.length:=by
  clear hm hl
  induction l with
  |nil=>rfl
  |cons e l ih=>rw[zZl,yA5,zX3,ih,zYd];show 3+_=_;omega
 have hz:((((l.map aO).flatten).map cM).flatten).length<=4*l.length:=by
  clear h3 hl
  induction l with
  |nil=>simp
  |cons e l ih=>
   have ih:=ih λx hx=>hm x ST
   have he:=hm e zS;have e1:=FC (n:=e.ag) (by have:=he.a;omega);have e2:=zU4 (n:=e.ki) (by have:=he.k;omega);have e3:=FC (n:=e.co) (by have:=he.c;omega);rw[zZl,yA5,zYc,yDa,zX3,zYd];simp only[aO,zZl,yAl,yA5,List.flatten_nil,zX3,zY5];omega
 have e0:=(fA now).2;refine⟨rfl,by dsimp only;omega,?_,by dsimp only;rw[zYd];omega,λx hx=>(by cases hx),.inr rfl,.inr ⟨.inr rfl,(l.length:Int),?_,zB,by show(0:Int)<=_;omega,by show _<=(16:Int);omega⟩,?_⟩
 ·refine .cons zB ?_;intro x hx;obtain⟨y,hy,hx⟩:=yBm.1 hx;obtain⟨e,he,rfl⟩:=zZj.1 hy;have hk:=hm e he;have h1:=hk.a;have h2:=hk.k;have h4:=hk.c;simp only[aO,zZi,yBn,yCy]at hx;omega
 ·show((now::(l.map aO).flatten).length:Int)=1+3*(l.length:Int)
  rw[zYd];omega
 ·show(((now::(l.map aO).flatten).map cM).flatten).length+1+0<=200
  rw[zZl,yA5,zX3];omega
def tlF (d:xQ) (vw:List Vw) (now:Int) (k:Nat) (R:List (List Ms)) (en:List En):List Ms:=(R.getD k []++[UW d vw now])++(if d.au.getD k default=true then [trM now en]else [])
theorem zP7 (d:xQ) (hq:0<=d.rg.ag.req/\d.rg.ag.req<=4) (v:List Vw) (now:Int) (n0:0<=now) (n1:now<=1073741824) (hn:v.length<=4) (hb:∀w∈v,VwB w) (k:Nat) (R:List (List Ms)) (hR:∀l∈R,l.length<=1000/\∀m∈l,SW m) (hk:k<R.length) (en:List En) (h:∀e∈en,EnK e):(tlF d v now k R en).length<=1002/\∀m∈tlF d v now k R en,SW m:=by
 have hr:R.getD k []∈R:=by
  rw[zX5,zYi hk];exact yAn _
 obtain⟨h1,h2⟩:=hR _ hr;unfold tlF;refine⟨?_,λm hm=>?_⟩
 ·rw[zX3,zX3];split
  ·simp only[zYd,zZa];omega
  ·simp only[zYd,zZa];omega
 ·rcases zYl.1 hm with hm|hm
  ·rcases zYl.1 hm with hm|hm
   ·exact h2 m hm
   ·rw[zYz.1 hm];exact zP6 d hq v now n0 n1 hn hb
  ·split at hm
   ·rw[zYz.1 hm];exact zW7 now n0 n1 en h
   ·cases hm
theorem zW8 (en:List En):en.take (min ((en.map gC).length:Int) 16).toNat=en.take 16:=by
 rw[zX2];by_cases h:en.length<=16
 ·rw[zYb zB,zYb zB]
 ·congr 1
  omega
theorem zLp (y:Cy) (n0:0<=y.now) (n1:y.now<=1073741824) (a k s:Nat) (ha:a<y.ds.length) (hd:eE (y.ds.getD a default)) (hq:0<=(y.ds.getD a default).rg.ag.req/\(y.ds.getD a default).rg.ag.req<=4) (hn:y.vw.length<=4) (hb:∀w∈y.vw,VwB w) (hk:k<(y.ds.getD a default).au.length)
  (R:List (List Ms)) (hR:∀l∈R,l.length<=1000/\∀m∈l,SW m) (hkR:k<R.length) (en:List En) (he:∀e∈en,EnK e) (hel:en.length<=100000):
  zN 66 [uF y,plA a k s,zD bD R,zD gC en] [] (zD yE (tlF (y.ds.getD a default) y.vw y.now k R en)) []:=by
 have ht:=zP7 _ hq y.vw y.now n0 n1 hn hb k R hR hkR en he;have kv:=GV (tlF (y.ds.getD a default) y.vw y.now k R en) zB ht.2;have ks:=zHj (y.ds.getD a default) hd hq y.vw y.now zB hb;have hyd:=zM zK y.ds a ha;have hyr:=zM bD R k hkR;have hyk:=zM bA (y.ds.getD a default).au k hk;have hlr:=zA bD R;have hle:=zA gC en;have hlk:=zA bA (y.ds.getD a default).au;have hR1:=(hR _ (zZ R k hkR)).1;have eR:R.getD k default=R.getD k []:=rfl;unfold uF aR;unfold tlF at kv⊢;rw[eR]at hyr hR1;generalize UW (y.ds.getD a default) y.vw y.now=st at *;generalize R.getD k []=rp at *;have hlp:=zA yE rp;unfold bD zD at hyr;generalize y.ds.getD a default=d at *;unfold zK wI at hyd ks;refine eM call66 λF hF=>?_
 refine zU ks ?_;refine BN 25 1001 4 rfl rfl rfl ?_;generalize d.au.getD k default=b at *;cases b
 ·have e1:zD yE ((rp++[st])++if false=true then [trM y.now en]else [])= .sl false (rp.map yE++[yE st]):=by
   rw[zX0 zYk,zY5];unfold zD;rw[zYc];rfl
  rw[e1]at kv⊢
  (have zc1:=ks;(repeat' (first|refine qB ?_|refine xO (λhc=>?_) (λhc=>?_)|refine wB (λhc=>?_)|(refine zE ?_;first|refine SM ?_)|fail))<;>clear zc1)
  (refine uQ 67 ?_;refine jG [] [85] rfl ?_;(conv=>whnf);(try simp only[zY2,zX7]);first|refine xI (zH (kv) rfl rfl rfl rfl rfl) rfl ?_|refine uN (zH (kv) rfl rfl rfl rfl rfl) rfl rfl rfl ?_|refine aN (zH (kv) rfl rfl rfl rfl rfl) rfl rfl rfl ?_)
  (repeat' (first|refine qB ?_|refine xO (λhc=>?_) (λhc=>?_)|refine wB (λhc=>?_)|(refine zE ?_;first|refine SM ?_)|fail))
  exact zJ
 ·have e1:zD yE ((rp++[st])++if true=true then [trM y.now en]else [])= .sl false ((rp.map yE++[yE st])++[yE (trM y.now en)]):=by
   rw[zX1 rfl];unfold zD;rw[zYc,zYc];rfl
  rw[e1]at kv⊢
  (have zc1:=ks;(repeat' (first|refine qB ?_|refine xO (λhc=>?_) (λhc=>?_)|refine wB (λhc=>?_)|(refine zE ?_;first|refine SM ?_)|fail))<;>clear zc1)
  rw[zW8];have hl16:(en.take 16).length<=16:=by rw[zYo];omega
  have hl17:=zA gC (en.take 16);rw[show yE (trM y.now en)= .agg [iA 18,.sl false [],.sl false ((y.now::((en.take 16).map aO).flatten).map iA),.sl false []]from rfl]at *; generalize en.take 16=l16 at *;refine uL 57 rfl ?_;refine zY (l16) [11,57,1001] [1001] [10,11,63,64] [65,10,11,63,64] rfl (λi pre T U=>⟨(65,iA i)::T,(11,.box [iA 18,.s (.slice none 0 0),.ref 57 0 ((y.now::(pre.map aO).flatten).map iA).length,.s (.slice none 0 0)])::(57,.arr 1 ((y.now::(pre.map aO).flatten).map iA) true)::U⟩) ?_;(conv=>whnf);refine⟨by rfl,?_,?_⟩
  ·intro i pre x post hx hi;have hy:=yI gC hx hi;have hlt:=yB hx hi
   have hpl:((pre.map aO).flatten).length=3*pre.length:=by
    clear hx hi hy
    induction pre with
    |nil=>rfl
    |cons e l ih=>rw[zZl,yA5,zX3,ih,zYd];show 3+_=_;omega
   have hpm:=zA iA (y.now::(pre.map aO).flatten);rw[zYd]at hpm;rw[zYc,yDa];rw[show(y.now::((pre.map aO).flatten++([x].map aO).flatten)).map iA=(y.now::(pre.map aO).flatten).map iA++[iA x.ag,iA x.ki,iA x.co] by simp[aO]];unfold gC NZ at hy;clear hx kv ks e1;generalize (y.now::(pre.map aO).flatten).map iA=X at *;refine WW ?_;rfl
  ·refine uC [11,1001] [10,11,63,64,65] rfl ?_
   (conv=>whnf)
   simp only[zY2,zX7]
   (repeat' (first|refine aL ?_|refine xO (λhc=>?_) (λhc=>?_)|refine wB (λhc=>?_)|(refine zE ?_;first|(refine yS ?_;refine UI 82 rfl rfl rfl ?_;refine qR tok rfl rfl ?_))|refine SB ?_|fail))
   (refine uQ 67 ?_;refine jG [] [85] rfl ?_;(conv=>whnf);(try simp only[zY2,zX7]);first|refine xI (zH (kv) rfl rfl rfl rfl rfl) rfl ?_|refine uN (zH (kv) rfl rfl rfl rfl rfl) rfl rfl rfl ?_|refine aN (zH (kv) rfl rfl rfl rfl rfl) rfl rfl rfl ?_)
   (repeat' (first|refine qB ?_|refine xO (λhc=>?_) (λhc=>?_)|refine wB (λhc=>?_)|(refine zE ?_;first|refine SM ?_)|fail))
   exact zJ
theorem zFs (b:List Int) (hb:BY b) (hl:b.length<=1000) (g:Bool) (N:Nat) (hN:1<=N/\N<=1000):zN 59 [stA b g,iA N] []
  (.tup [stA (b.drop (YU N (gG b.length b) ⟨0,g,[]⟩).t) (YU N (gG b.length b) ⟨0,g,[]⟩).g,zD vE (YU N (gG b.length b) ⟨0,g,[]⟩).its]) []:=by
 have k:=zLo b hb hl g N hN;generalize YU N (gG b.length b) ⟨0,g,[]⟩=r at *;unfold stA at *;refine eM call59 λF hF=>?_
 repeat' (first|(refine zE ?_;first|refine uN (jF (v:=AV.agg _) 2 rfl rfl) rfl rfl rfl ?_|refine uN (jF (v:=AV.s _) 1053 rfl rfl) rfl rfl rfl ?_|refine vN tok rfl rfl ?_|refine YH tok rfl rfl rfl rfl ?_|refine qF ?_)|(first|refine xS ?_|refine xD ?_|refine vD rfl ?_|refine zX rfl ?_|refine zQ rfl ?_|refine xK rfl (λhc=>?_) (λhc=>?_)|refine yY ?_|refine yU ?_|refine xE ?_|refine yT ?_))
 refine zU k ?_;exact zJ
theorem zU3 (b:List Int) (hl:b.length<=256) (g:Bool) (x:List Int) (hx:x.length<=1000000):zN 97 [stA b g,zD yA x] [] (.tup [stA (b++x.take (kZ b.length x.length)) g,bA (decide (kZ b.length x.length=x.length))]) []:=by
 have hbl:=zA yA b;have hxl:=zA yA x;have hf:kZ b.length x.length<=x.length/\b.length+kZ b.length x.length<=256:=by unfold kZ;omega
 have e1:min ((x.length:Nat):Int) (max (256-((b.length:Nat):Int)) 0)=((kZ b.length x.length:Nat):Int):=by unfold kZ;omega
 have e2:zD yA (b++x.take (kZ b.length x.length))= .sl false (b.map yA++(x.take (kZ b.length x.length)).map yA):=by unfold zD;rw[zYc]
 unfold stA;rw[e2];generalize kZ b.length x.length=f at *;refine eM call97 λF hF=>?_
 refine WW ?_;rw[hbl,hxl,e1];refine zI [] rfl rfl ?_ rfl
 show AV.tup [AV.agg [AV.sl false (List.take (b.map yA++(x.take f).map yA).length (b.map yA++(x.take f).map yA)),bA g],bA (kE .eql (f:Int) (x.length:Int))]=_
 rw[zX7,show kE .eql (f:Int) (x.length:Int)=decide (f=x.length) by
  by_cases h9:f=x.length
  ·rw[h9];simp[kE]
  ·have:(f:Int)≠(x.length:Int):=by omega
   simp[kE,h9,this]]
def dN (s:Ss):Ss×In:=if s.op=true then(⟨true,false,s.bf.drop (YU 4 (gG s.bf.length s.bf) ⟨0,s.gb,[]⟩).t,(YU 4 (gG s.bf.length s.bf) ⟨0,s.gb,[]⟩).g⟩,⟨true,(if s.dr=true then [⟨15,0,[]⟩]else [])++(YU 4 (gG s.bf.length s.bf) ⟨0,s.gb,[]⟩).its⟩)else(s,⟨false,[]⟩)
theorem zBh (s:Ss) (hb:BY s.bf) (hl:s.bf.length<=1000):zN 17 [kJ s] [] (.tup [kJ (dN s).1,kT (dN s).2]) []:=by
 obtain⟨op,dr,bf,gb⟩:=s;dsimp only at hb hl;have k1:=KV ⟨op,dr,bf,gb⟩ hl;have k2:=zFs bf hb hl gb 4 zB;have hlen:=KM (N:=4) (gG bf.length bf) ⟨0,gb,[]⟩ (by show 0<4;omega);unfold dN;dsimp only;generalize YU 4 (gG bf.length bf) ⟨0,gb,[]⟩=r at *;have hrl:=zA vE r.its;unfold stA at k2;cases op
 ·rw[zX0 zYk];unfold kJ at *;unfold kT;refine eM call17 λF hF=>?_
  refine zU k1 ?_;exact zJ
 ·rw[zX1 rfl];unfold kJ at *;unfold kT;cases dr
  ·rw[zX0 zYk,yAq];refine eM call17 λF hF=>?_
   refine zU k2 ?_;refine BN 32 1055 3 rfl rfl rfl ?_;refine WW ?_;refine zI [] rfl rfl ?_ rfl
   show AV.tup [_,AV.agg [_,AV.sl false (List.take (r.its.map vE).length (r.its.map vE))]]=_
   rw[zX7];rfl
  ·rw[zX1 rfl,show zD vE ([⟨15,0,[]⟩]++r.its)= .sl false ([.agg [iA 15,iA 0,zD yA []]]++r.its.map vE) by unfold zD;rw[zYc];rfl];refine eM call17 λF hF=>?_
   (have zc1:=k2;(repeat' (first|refine aL ?_|refine xO (λhc=>?_) (λhc=>?_)|refine wB (λhc=>?_)|(refine zE ?_;first|(refine yS ?_;refine UI 18 rfl rfl rfl ?_;refine qR tok rfl rfl ?_))|refine SB ?_|fail))<;>clear zc1)
   refine BN 17 1055 3 rfl rfl rfl ?_
   (have zc1:=k2;(repeat' (first|refine qB ?_|refine xO (λhc=>?_) (λhc=>?_)|refine wB (λhc=>?_)|(refine zE ?_;first|refine SM ?_)|fail))<;>clear zc1)
   refine zI [] rfl rfl ?_ rfl
   show AV.tup [_,AV.agg [_,AV.sl false (List.take ([AV.agg [iA 15,iA 0,zD yA []]]++r.its.map vE).length ([AV.agg [iA 15,iA 0,zD yA []]]++r.its.map vE))]]=_
   rw[zX7];rfl
theorem zLq (s:Ss) (hl:s.bf.length<=1000):zN 52 [kJ s] [] (kJ (if s.op=true then s else⟨true,false,[],false⟩)) []:=by
 obtain⟨op,dr,bf,gb⟩:=s;dsimp only at hl⊢;have k1:=KV ⟨op,dr,bf,gb⟩ hl;cases op
 ·rw[zX0 zYk];unfold kJ at *;refine eM call52 λF hF=>?_
  refine zU k1 ?_;exact zJ
 ·rw[zX1 rfl];unfold kJ at *;refine eM call52 λF hF=>?_
  refine zU k1 ?_;exact zJ
theorem zLr (s:Ss):zN 53 [kJ s] [] (kJ ⟨false,false,[],false⟩) []:=by
 unfold kJ;refine eM call53 λF hF=>?_
 refine WW ?_;exact zJ
theorem zRc (s:Ss) (hl:s.bf.length<=256) (x:List Int) (hx:x.length<=1000000):zN 54 [kJ s,zD yA x] [] (kJ (XJ s x)) []:=by
 obtain⟨op,dr,bf,gb⟩:=s;dsimp only at hl;have k1:=KV ⟨op,dr,bf,gb⟩ (by dsimp only;omega);have k2:=zU3 bf hl gb x hx;unfold XJ;dsimp only;unfold stA at k2;cases op
 ·rw[zX0 zYk];unfold kJ at *;refine eM call54 λF hF=>?_
  refine zU k1 ?_;exact zJ
 ·rw[zX1 rfl];unfold kJ at *;cases hf:decide (kZ bf.length x.length=x.length)
  ·rw[hf]at k2;rw[zX8 (of_decide_eq_false hf),yAk];refine eM call54 λF hF=>?_
   refine zU k2 ?_;exact zJ
  ·rw[hf]at k2;rw[zYa (λh=>h (yCd hf)),yDg];refine eM call54 λF hF=>?_
   refine zU k2 ?_;exact zJ
structure SsI (s:Ss):Prop where
 y:BY s.bf
 n:s.bf.length<=256
theorem zFt {s:Ss} (h:SsI s):SsI (dN s).1/\InS (dN s).2:=by
 have hn:=h.n;unfold dN;split
 ·refine⟨⟨λx hx=>h.y x (zZe hx),by dsimp only;rw[zY4];omega⟩,?_⟩;have hlen:=KM (N:=4) (gG s.bf.length s.bf) ⟨0,s.gb,[]⟩ (by show 0<4;omega);have hmem:=zBf (N:=4) (Pr:=ItK) (gG s.bf.length s.bf) ⟨0,s.gb,[]⟩ (λx hx=>by cases hx) (zLw h.y zB);generalize YU 4 (gG s.bf.length s.bf) ⟨0,s.gb,[]⟩=r at *;refine⟨?_,λx hx=>?_⟩
  ·dsimp only;rw[zX3];split
   ·simp only[zYd,zZa];omega
   ·simp only[zZa];omega
  ·rcases zYl.1 hx with hx|hx
   ·split at hx
    ·rw[zYz.1 hx];exact⟨kD,zYe _,by dsimp only;omega,by dsimp only;omega⟩
    ·cases hx
   ·exact hmem x hx
 ·exact⟨h,zYe _,λx hx=>by cases hx⟩
theorem zRd {s:Ss} (h:SsI s) {x:List Int} (hx:BY x):SsI (XJ s x):=by
 refine⟨?_,zLz h.n x⟩;unfold XJ;split
 ·intro y hy
  rcases zYl.1 hy with hy|hy
  ·exact h.y y hy
  ·exact hx y (zZv hy)
 ·exact h.y
def GE (ins:List In) (b k:Nat):List In:=(List.range k).map λj=>ins.getD (b+j) default
theorem zFu (ins:List In) (b k:Nat):GE ins b (k+1)=GE ins b k++[ins.getD (b+k) default]:=by simp[GE,yAh]
def QT (c:Cf) (ins:List In) (a:Nat):List In:=GE ins (qX c.ags a).toNat (c.ags.getD a default).ses.toNat
def rpA (r:DR):AV:=zD bD r.R
def bgL (now:Int) (ds:List xQ) (i:Nat):List xQ:=dR (λ_ d=>MA d now) ds i
def SU (now:Int) (ds:List xQ) (rF:Nat->DR) (i:Nat):List xQ:=(List.range ds.length).map λk=>if k<i then(rF k).d else MA (ds.getD k default) now
def rpL (n:Nat) (rF:Nat->DR) (i:Nat):List AV:=(List.range n).map λk=>if k<i then rpA (rF k)else .s (.slice none 0 0)
def NN (rF:Nat->DR) (i:Nat):List En:=((List.range i).map λk=>(rF k).en).flatten
def WU (rF:Nat->DR) (i:Nat):List Int:=((List.range i).map λk=>(rF k).ks).flatten
theorem GW (rF:Nat->DR) (i:Nat):NN rF (i+1)=NN rF i++(rF i).en:=by simp[NN,yAh]
theorem GX (rF:Nat->DR) (i:Nat):WU rF (i+1)=WU rF i++(rF i).ks:=by simp[WU,yAh]
theorem KO {rF:Nat->DR} (h:∀i,(rF i).en.length<=2000):∀i,(NN rF i).length<=2000*i
 |0=>zYe _
 |i+1=>by
  have:=KO h i;have:=h i;rw[GW,zX3];omega
theorem KP {rF:Nat->DR} (h:∀i,(rF i).ks.length<=2000):∀i,(WU rF i).length<=2000*i
 |0=>zYe _
 |i+1=>by
  have:=KP h i;have:=h i;rw[GX,zX3];omega
theorem eO {α:Type} (n i:Nat) (f g:Nat->α) (hi:i<n):((List.range n).map λk=>if k<i+1 then f k else g k)=((List.range n).map λk=>if k<i then f k else g k).set i (f i):=by
 apply zZf;intro j;rw[zZ7,zX4,zX4,zX2,zZk];by_cases hj:j<n
 ·rw[zYx hj];by_cases h:i=j
  ·subst h;rw[zX1 rfl,zX1 hi];simp
  ·rw[zX0 h];by_cases h2:j<i
   ·simp[h2,show j<i+1 by omega]
   ·simp[h2,show¬j<i+1 by omega]
 ·rw[zYt wQ];by_cases h:i=j
  ·omega
  ·simp[h]
theorem cO {α:Type} (n i:Nat) (f g:Nat->α) (hi:i<n):((List.range n).map λk=>if k<i then f k else g k)[i]? =some (g i):=by
 rw[zX4,zYx hi];simp
theorem eP {α:Type} (n:Nat) (f g:Nat->α):((List.range n).map λk=>if k<n then f k else g k)=(List.range n).map f:=by
 apply yBf;intro k hk;rw[zX1 (zYr.1 hk)]
theorem VD {l:List Ag} (h:MX l) {i j:Nat} (hij:i<=j) (hj:j<=l.length):qX l i<=qX l j:=by
 induction j with
 |zero=>rw[show i=0 by omega];exact zZ8 _
 | succ j ih=>
  by_cases h1:i=j+1
  ·rw[h1];exact zZ8 _
  ·have h2:=ih zB zB;have h3:=h.at (i:=j) zB
   show qX l i<=qX l j+(l.getD j default).ses
   omega
theorem zDb (c:Cf) (hw:MX c.ags) (now:Int) (n0:0<=now) (n1:now<=1073741824) (ds:List xQ) (hdl:ds.length=c.ags.length) (hI:∀i,i<ds.length->qC c (ds.getD i default)) (ins:List In) (hil:(ins.length:Int)=qX c.ags c.ags.length)
  (rF:Nat->DR) (hen:∀i,(rF i).en.length<=2000) (hks:∀i,(rF i).ks.length<=2000) (hr:∀i,i<ds.length->zN 110 [wP c,zK (MA (ds.getD i default) now),zD kT (QT c ins i),iA now] [] (drT (rF i)) [])
  (A B C:List AV) (a2 a3 a4:Nat) (vw:List Vw):
  zN 62 [aR c false now (.ref 1011 0 (ds.map zK).length) (.ref 1012 0 a2) (.ref 1013 0 a3) (.ref 1014 0 a4) (zD vM vw),zD kT ins] [(1011,.arr 17 (ds.map zK) false),(1012,.arr 5 A false),(1013,.arr 3 B false),(1014,.arr 1 C false)]
   (.tup [.sl false ((List.range ds.length).map λk=>rpA (rF k)),zD gC (NN rF ds.length),zD iA (WU rF ds.length)]) [(1011,.arr 17 ((SU now ds rF ds.length).map zK) false),(1012,.arr 5 A false),(1013,.arr 3 B false),(1014,.arr 1 C false)]:=by
 have hdm:=zA zK ds;have hal:=zA vC c.ags;have hn4:=hw.1;have hbl:∀i,(bgL now ds i).length=ds.length:=λi=>wL _ _ _
 have hbm:∀i,((bgL now ds i).map zK).length=ds.length:=λi=>by rw[zX2,hbl]
 have hb0:bgL now ds 0=ds:=kN _ _;unfold aR;refine eM call62 λF hF=>?_
 refine WW ?_;refine zP (ds.length) [1011,2,3,1012,1013,1014] [2,3,1012,1013,1014] [2,3,21,57] [22,2,3,21,57] rfl (λi T U=>⟨(22,iA i)::T,(1011,.arr 17 ((bgL now ds i).map zK) false)::U⟩) ?_;(conv=>whnf);refine⟨by(rw[hb0];rfl),?_,?_⟩
 ·intro i hi
  have hy:((bgL now ds i).map zK)[i]? =some (zK (ds.getD i default)):=by
   rw[zX4];unfold bgL;rw[vO,zX1 hi,zX0 (yBk i)];rfl
  have e:(bgL now ds (i+1)).map zK=((bgL now ds i).map zK).set i (zK (MA (ds.getD i default) now)):=by unfold bgL;rw[uO _ _ _ _ hi]
  have kb:=zH0 (hI i hi) now;have hxl:=hbm i;rw[e];clear e hr hI hb0;generalize MA (ds.getD i default) now=d2 at *;generalize ds.getD i default=d1 at *;generalize (bgL now ds i).map zK=X at *;refine zU kb ?_;rfl
 ·have hbn:(bgL now ds ds.length).map zK=(SU now ds rF 0).map zK:=by
   congr 1
   unfold SU;apply zZf;intro j;unfold bgL;rw[vO,zX4];by_cases hj:j<ds.length
   ·rw[zX1 hj,zX1 hj,zYx hj];simp
   ·rw[zX0 hj,zYt wQ];rfl
  rw[hbn];refine WW ?_;have hmin:min (ds.length:Int) (c.ags.length:Int)=(ds.length:Int):=by rw[hdl];exact yDw _
  rw[hdm,hal,hmin]
  have hr0:rpL ds.length rF 0=List.replicate ds.length (.s (.slice none 0 0)):=by
   unfold rpL;apply zZf;intro j;rw[zX4,zZs];by_cases hj:j<ds.length
   ·rw[zYx hj,zX1 hj];simp
   ·rw[zX0 hj,zYt wQ];rfl
  have hrl:∀i,(rpL ds.length rF i).length=ds.length:=λi=>by unfold rpL;rw[zX2,zZk]
  have htl:∀i,((SU now ds rF i).map zK).length=ds.length:=λi=>by unfold SU;rw[zX2,zX2,zZk]
  refine xC 9 1042 3 rfl rfl rfl ?_;refine xC 10 1043 1 rfl rfl rfl ?_;refine zP (ds.length) [41,1011,1042,1043,2,3,1012,1013,1014] [2,3,1012,1013,1014] [2,3,8,49,57] [9,10,50,2,3,8,49,57] rfl (λi T U=>⟨(9,.ref 1042 0 ((NN rF i).map gC).length)::(10,.ref 1043 0 ((WU rF i).map iA).length)::(50,iA i)::T,(41,.arr 1 (rpL ds.length rF i) false)::(1011,.arr 17 ((SU now ds rF i).map zK) false)::(1042,.arr 3 ((NN rF i).map gC) true)::(1043,.arr 1 ((WU rF i).map iA) true)::U⟩) ?_;(conv=>whnf);refine⟨by(rw[hr0];rfl),?_,?_⟩
  ·intro i hi;have hic:i<c.ags.length:=by omega
   have hy:((SU now ds rF i).map zK)[i]? =some (zK (MA (ds.getD i default) now)):=by
    rw[zX4];unfold SU;rw[cO _ _ _ _ hi];rfl
   have e1:(SU now ds rF (i+1)).map zK=((SU now ds rF i).map zK).set i (zK (rF i).d):=by
    unfold SU;rw[eO _ _ _ _ hi,zZ9]
   have e2:rpL ds.length rF (i+1)=(rpL ds.length rF i).set i (rpA (rF i)):=by
    unfold rpL;rw[eO _ _ _ _ hi]
   have hyr:(rpL ds.length rF i)[i]? =some (.s (.slice none 0 0)):=by
    unfold rpL;exact cO _ _ _ _ hi
   have hxl:=htl i;have hrll:=hrl i;have hel:=KO hen i;have hkl:=KP hks i;have hel1:=hen i;have hkl1:=hks i;have hem:=zA gC (NN rF i);have hkm:=zA iA (WU rF i);have hem1:=zA gC (rF i).en;have hkm1:=zA iA (rF i).ks;have ks:=zBi c i;have kd:=hr i hi;have ht:=zFw c hw i hic;rw[e1,e2,GW,GX,zYc,zYc];clear e1 e2 hr hI hb0 hr0 hbn;unfold drT tkT at kd
   change zN 110 [_,_,_,_] [] (.tup [_,rpA (rF i),_,_]) []at kd
   generalize MA (ds.getD i default) now=D1 at *;generalize (rF i).d=D2 at *;rw[show rpA (rF i)= .sl false ((rF i).R.map bD)from rfl]at *; generalize (rF i).R.map bD=R2 at *;generalize (SU now ds rF i).map zK=X at *;generalize rpL ds.length rF i=Y at *;generalize (NN rF i).map gC=En1 at *;generalize (WU rF i).map iA=Ks1 at *;rw[show zD gC (rF i).en= .sl false ((rF i).en.map gC)from rfl,show zD iA (rF i).ks= .sl false ((rF i).ks.map iA)from rfl]at kd;unfold zD at kd;unfold zK wI at hy kd⊢;unfold zDh at ks ht;unfold wP at ks kd;refine zU ks ?_;obtain⟨bs,hbs⟩:∃bs:Nat,qX c.ags i=(bs:Int):=⟨(qX c.ags i).toNat,by have:=qS hw i zB;omega⟩;obtain⟨N,hN⟩:∃N:Nat,(c.ags.getD i default).ses=(N:Int):=⟨(c.ags.getD i default).ses.toNat,by have:=hw.at (i:=i) zB;omega⟩
   have hbd:bs+N<=ins.length:=by
    have:=VD hw (show i+1<=c.ags.length by omega) (zX6 _);have h2:qX c.ags (i+1)=qX c.ags i+(c.ags.getD i default).ses:=rfl;omega
   have hN2:=hw.at (i:=i) zB;have hL:KR c i=(List.range N).map λk=>[plA i k (bs+k)]:=by unfold KR;rw[hbs,hN];rfl
   rw[show QT c ins i=GE ins bs N by unfold QT;rw[hbs,hN];rfl]at kd;rw[hN]at hN2;have hil2:=zA kT ins;refine uK 12 0 1041 2 rfl rfl rfl rfl rfl ?_
   refine uJ hF ht rfl [2,3,12,41,1011,1012,1013,1014,1041,1042,1043] [2,3,8,9,10,11,12,49,50] rfl rfl rfl rfl rfl rfl rfl rfl rfl (λk ys h=>?_) (λk=>[(2,.box [zD wH c.js,zD vC c.ags,iA c.per,iA c.cap,iA c.hold,iA c.lock,bA false,iA now,.ref 1011 0 ds.length,.ref 1012 0 a2,.ref 1013 0 a3,.ref 1014 0 a4,zD vM vw]),(3,.box [zD kT ins]),(12,.box [.ref 1041 0 ((GE ins bs k).map kT).length]),(41,.arr 1 Y false),(1011,.arr 17 X false),(1012,.arr 5 A false),(1013,.arr 3 B false),(1014,.arr 1 C false),(1041,.arr 2 ((GE ins bs k).map kT) true),(1042,.arr 3 En1 true),(1043,.arr 1 Ks1 true)]) (λ_=>True)
    (T:=[(2,.ptr 2 0 0),(3,.ptr 3 0 0),(8,.ref 41 0 ds.length),(9,.ref 1042 0 En1.length),(10,.ref 1043 0 Ks1.length),(11,iA i),(12,.ptr 12 0 0),(49,iA ds.length),(50,iA i)]) rfl trivial (λk ys y hys hI F1 h1 h2=>?_) (λhI=>?_)
   ·rw[hL,zX4,zYg]at h;obtain⟨x,_,rfl⟩:=h;rfl
   ·have hk:k<N:=by
     have:=(zYq.1 hys).1;rw[hL,zX2,zZk]at this;exact this
    rw[hL,zX4,zYx hk]at hys;obtain rfl:=yAj hys;have hyi:=zM kT ins (bs+k) zB;have hol:((GE ins bs k).map kT).length=k:=by unfold GE;rw[zX2,zX2,zZk]
    rw[zFu,zYc];generalize (GE ins bs k).map kT=O at *;generalize ins.getD (bs+k) default=x at *;rw[show [x].map kT=[.agg [bA x.opn,zD vE x.its]]from rfl];unfold kT at hyi;refine WW ?_;refine⟨rfl,λF2 g1 g2=>?_⟩;refine WW ?_;exact⟨rfl,trivial⟩
   ·rw[show(KR c i).length=N by rw[hL,zX2,zZk]];generalize GE ins bs N=O at*
    show uG _ _ _ _ ⟨_,_⟩ _
    refine uC [2,3,12,41,1011,1012,1013,1014,1042,1043] [2,3,8,9,10,11,12,49,50] rfl ?_
    (conv=>whnf)
    simp only[zY2,zX7];clear ks ht hL hN hN2;refine zU kd ?_;rfl
  ·rw[rpL,eP];refine WW ?_;refine zI [1011,1012,1013,1014] rfl rfl ?_ rfl
   show AV.tup [.sl false (List.take ds.length (List.map (λk=>rpA (rF k)) (List.range ds.length))),.sl false (List.take ((NN rF ds.length).map gC).length ((NN rF ds.length).map gC)),.sl false (List.take ((WU rF ds.length).map iA).length ((WU rF ds.length).map iA))]=_
   rw[zYb (by rw[zX2,zZk];exact zX6 _),zX7,zX7];rfl
end Av
end Go.Proofs.YtmamjhmoegjapaaGreat
