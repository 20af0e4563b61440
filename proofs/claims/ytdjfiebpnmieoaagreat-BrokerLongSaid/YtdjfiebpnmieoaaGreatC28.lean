/- Part 28. -/
import Derived.Test.YtdjfiebpnmieoaaGreatC27
namespace Go.Proofs.YtdjfiebpnmieoaaGreat.Av
open Tryz
set_option linter.all false
set_option maxRecDepth 4000
set_option maxHeartbeats 4000000
open List renaming length->ln,take->nm
open Inhabited renaming default->dd
variable {N:Nat}
structure Wc where
 t:Nat
 g:Bool
 its:List It
def Ar (s:Wc) (p:It×Nat):Bool:=decide (p.1.code=2)&&s.g
def VD (s:Wc) (p:It×Nat):Wc:=if Ar s p=true then⟨s.t+p.2,s.g,s.its⟩else⟨s.t+p.2,decide (p.1.code=2)||(decide (p.1.code=7)||decide (p.1.code=4)),s.its++[p.1]⟩
def Dw (N:Nat) (s:Wc) (p:It×Nat):Bool:=!Ar s p&&decide (N<=ln s.its+1)
def ZQ (N:Nat):List (It×Nat)->Wc->Wc
 | [],s=>s
 |p::l,s=>if Dw N s p=true then VD s p else ZQ N l (VD s p)
def Fe (u:Wc) (l:List (It×Nat)) (i:Nat):Wc:=(l.take i).foldl VD u
def Bb (u:Wc) {l:List (It×Nat)} {i:Nat} {p:It×Nat} (h:l[i]? =some p):Fe u l (i+1)=VD (Fe u l i) p:=by
 unfold Fe;rw[zCz,h,List.foldl_append];rfl
theorem LD :∀(l:List (It×Nat)) (s:Wc),ln s.its<N->(ZQ N l s).its.length<=N
 | [],s,h=>zE2 h
 | p::l,s,h=>by
  unfold ZQ
  have h1:(VD s p).its.length<=ln s.its+1:=by
   unfold VD;split
   .dsimp only;omega
   .dsimp only;rw[zAh];simp
  split
  .omega
  .rename_i hx;refine LD l _ ?_;unfold Dw at hx;unfold VD;cases hc:Ar s p
   .rw[hc]at hx;rw[Of zAp];simp only[zEe,zAo,zAe]at hx;dsimp only;rw[zAh];simp only[zAm,zBh];omega
   .rw[Os Z];exact h
theorem ah {Pr:It->Prop}:∀(l:List (It×Nat)) (s:Wc),(∀x∈s.its,Pr x)->(∀p∈l,Pr p.1)->∀x∈(ZQ N l s).its,Pr x
 | [],s,h,_=>h
 | p::l,s,h,hl=>by
  have h1:∀x∈(VD s p).its,Pr x:=by
   unfold VD;split
   .exact h
   .intro x hx
    rcases zA5.1 hx with hx|hx
    .exact h x hx
    .rw[zBf.1 hx];exact hl p zW
  unfold ZQ;split
  .exact h1
  .exact ah l _ h1 λq u=>hl q (by simp[u])
theorem Yr {N:Nat}:∀(l:List (It×Nat)) (s:Wc),s.t<=(ZQ N l s).t/\(ZQ N l s).t<=s.t+Wh l
 | [],s=>⟨zAg _,Nat.le_add_right _ _⟩
 |p::l,s=>by
  have h1:(VD s p).t=s.t+p.2:=by unfold VD;split<;>rfl
  have h2:=Yr (N:=N) l (VD s p);have u:Wh (p::l)=p.2+Wh l:=by simp[Wh]
  unfold ZQ
  split<;>omega
theorem oh:∀(n:Nat) (b:List Int),(gR n b).length<=n
 |0,_=>zAg _
 |n+1,b=>by
  unfold gR;split
  .exact zAr _
  .rename_i q _;have:=oh n (b.drop q.2);rw[zAm];omega
def FD (b:List Int) (g:Bool):AV:= .agg [zD yA b,bA g]
def CG (k N:Nat):zO 249 [iA k,.ptr 1053 0 0] [(1053,.box [iA N])] (bA (decide (N<=k))) [(1053,.box [iA N])]:=by
 by_cases h:N<=k
 .rw[zAd h];refine eM call249 λF hF=>?_
  refine WW ?_;exact zP [1053] Z Z Z Z
 .rw[zAc h];refine eM call249 λF hF=>?_
  refine WW ?_;exact zP [1053] Z Z Z Z
theorem Cw (b:List Int) (hb:BY b) (hl:ln b<=1000) (g:Bool) (N:Nat) (hN:1<=N/\N<=1000):zO 248 [FD b g,.fn 249 [.ptr 1053 0 0]] [(1053,.box [iA N])]
  (.tup [FD (b.drop (ZQ N (gR (ln b) b) ⟨0,g,[]⟩).t) (ZQ N (gR (ln b) b) ⟨0,g,[]⟩).g,zD wK (ZQ N (gR (ln b) b) ⟨0,g,[]⟩).its]) [(1053,.box [iA N])]:=by
 have kp:=vk b;have ht:=Uh b hb zB;have au:=zA yA b;have hr1:=(Yr (N:=N) (gR (ln b) b) ⟨0,g,[]⟩).2;have a1:=uf (n:=ln b) hb;dsimp only at hr1;have hL:L7 b=(gR (ln b) b).map λp=>[wK p.1,iA (p.2:Int)]:=rfl
 have ac:Fe ⟨0,g,[]⟩ (gR (ln b) b) 0=⟨0,g,[]⟩:=rfl
 have U:∀i,(Fe ⟨0,g,[]⟩ (gR (ln b) b) i).its.length<=i:=λi=>by
  induction i with
  |zero=>exact zAg _
  | succ i ih=>
   cases h:(gR (ln b) b)[i]? with
   | none=>
    have:Fe ⟨0,g,[]⟩ (gR (ln b) b) (i+1)=Fe ⟨0,g,[]⟩ (gR (ln b) b) i:=by
     unfold Fe;rw[zCz,h];simp
    rw[this];omega
   |some p=>
    rw[Bb _ h];unfold VD;split
    .dsimp only;omega
    .dsimp only;rw[zAh];simp only[zAm,zBh];omega
 rw[show FD b g= .agg [zD yA b,bA g]from Z];rw[show FD (b.drop (ZQ N (gR (ln b) b) ⟨0,g,[]⟩).t) (ZQ N (gR (ln b) b) ⟨0,g,[]⟩).g= .agg [zD yA (b.drop (ZQ N (gR (ln b) b) ⟨0,g,[]⟩).t),bA (ZQ N (gR (ln b) b) ⟨0,g,[]⟩).g]from Z];generalize hr:ZQ N (gR (ln b) b) ⟨0,g,[]⟩=r at *;unfold K5 at kp ht;refine eM call248 λF hF=>?_
 (have gd:=kp;(repeat' (first|refine WS ?_|refine SG (I2 (λhc=>?_) λhc=>?_)|refine SG λhc=>?_|(apply zG;first|refine SM ?_)|(first|first|refine SR ?_|refine SK (I2 (λhc=>?_) λhc=>?_)|refine SK λhc=>?_|fail|apply vU|apply vV)|fail))<;>clear gd)
 refine qJ 6 0 1051 3 Z Z Z Z Z ?_
 refine qH hF ht Z [2,3,4,6,7,8,1051,1053] [2,3,4,6,7,8] Z Z Z Z Z Z Z Z Z (λk ys h=>?_) (λi=>[(2,.box [zD yA b,bA g]),(3,.box [.fn 249 [.ptr 1053 0 0]]),(4,.box [.s (.slice none 0 0),bA false]),(6,.box [.ref 1051 0 ((Fe ⟨0,g,[]⟩ (gR (ln b) b) i).its.map wK).length]),(7,.box [iA ((Fe ⟨0,g,[]⟩ (gR (ln b) b) i).t:Int)]),(8,.box [bA (Fe ⟨0,g,[]⟩ (gR (ln b) b) i).g]),(1051,.arr 3 ((Fe ⟨0,g,[]⟩ (gR (ln b) b) i).its.map wK) true),(1053,.box [iA N])]) (λi=>ZQ N ((gR (ln b) b).drop i) (Fe ⟨0,g,[]⟩ (gR (ln b) b) i)=r)
  (T:=[(2,.ptr 2 0 0),(3,.ptr 3 0 0),(4,.ptr 4 0 0),(6,.ptr 6 0 0),(7,.ptr 7 0 0),(8,.ptr 8 0 0)]) Z hr (λi ys q W C F1 h1 h2=>?_) (λC=>?_)
 .rw[hL,zAi,zAs]at h;obtain⟨x,_,rfl⟩:=h;rfl
 .rw [hL,zAi,zAs]at W;obtain⟨p,Y,rfl⟩:=W;have e1:=Bb (⟨0,g,[]⟩:Wc) Y;have V:i<(gR (ln b) b).length:=(zAz.1 Y).1
  have e2:(gR (ln b) b).drop i=p::(gR (ln b) b).drop (i+1):=by
   rw[zDu V]
   congr 1
   exact(zAz.1 Y).2
  rw[e2]at C;rw[e1];have ag:=U i;have ap:=uf (n:=ln b) hb;generalize Fe ⟨0,g,[]⟩ (gR (ln b) b) i=s at*
  have ar:s.t+p.2<=ln b:=by
   have h9:(VD s p).t=s.t+p.2:=by unfold VD;split<;>rfl
   unfold ZQ at C;split at C
   .rw[<-h9,C];omega
   .have:=(Yr (N:=N) ((gR (ln b) b).drop (i+1)) (VD s p)).1;rw[C]at this;omega
  have az:=oh (ln b) b;have av:i<=1000:=by omega
  clear Y V e1 e2 hL ac U ap ht kp;generalize (gR (ln b) b).drop (i+1)=l2,(gR (ln b) b).length=L at *;obtain⟨E,S,u⟩:=s;obtain⟨⟨G,z,B⟩,n⟩:=p;dsimp only at ar ag;have ax:=zA wK u;rw[show wK (({code:=G,kind:=z,pay:=B}:It),n).fst= .agg [iA G,iA z,zD yA B]from Z];refine WW ?_;refine⟨rfl,λF2 g1 g2=>?_⟩;dsimp only;by_cases hc:G=2
  .subst hc;cases S
   .have e3:VD ⟨E,false,u⟩ (⟨2,z,B⟩,n)=⟨E+n,true,u++[⟨2,z,B⟩]⟩:=rfl;have O:Dw N ⟨E,false,u⟩ (⟨2,z,B⟩,n)=decide (N<=ln u+1):=rfl;unfold ZQ at C;rw[e3,O]at C;rw[e3];have A:=CG (u.map wK++[AV.agg [iA 2,iA z,zD yA B]]).length N;rw[show decide (N<=(u.map wK++[AV.agg [iA 2,iA z,zD yA B]]).length)=decide (N<=ln u+1) by simp]at A;by_cases hs:N<=ln u+1
    .rw[zAd hs]at A;rw[Os (zAd hs)]at C;subst C;have I:=zA yA b;have M:=vJ (b.drop ((E:Int)+(n:Int)).toNat) OU;have R:zD yA (b.drop (E+n))=zD yA (b.drop ((E:Int)+(n:Int)).toNat):=by rw[show((E:Int)+(n:Int)).toNat=E+n by omega]
     dsimp only;rw[R];rw[show zD wK (u++[⟨2,z,B⟩])= .sl false (u.map wK++[AV.agg [iA 2,iA z,zD yA B]]) by unfold zD;rw[zAf];rfl]
     (have gd:=A;have gn:=M;(repeat' (first|refine WS ?_|refine SG (I2 (λhc=>?_) λhc=>?_)|refine SG λhc=>?_|(apply zG;first|refine SM ?_)|(first|first|refine SR ?_|refine SK (I2 (λhc=>?_) λhc=>?_)|refine SK λhc=>?_|fail|apply vU|apply vV)|fail))<;>clear gd gn)
     refine zH [1053] Z Z ?_ Z
     show AV.tup [_,AV.sl false (nm (u.map wK++[AV.agg [iA 2,iA z,zD yA B]]).length (u.map wK++[AV.agg [iA 2,iA z,zD yA B]]))]=_
     rw[zAb];rfl
    .rw[zAc hs]at A;rw[Of Og]at C;dsimp only;rw[zAf,show [(⟨2,z,B⟩:It)].map wK=[AV.agg [iA 2,iA z,zD yA B]]from Z]
     (have gd:=A;(repeat' (first|refine WS ?_|refine SG (I2 (λhc=>?_) λhc=>?_)|refine SG λhc=>?_|(apply zG;first|refine SM ?_)|(first|first|refine SR ?_|refine SK (I2 (λhc=>?_) λhc=>?_)|refine SK λhc=>?_|fail|apply vU|apply vV)|fail))<;>clear gd)
     exact⟨rfl,C⟩
   .have e3:VD ⟨E,true,u⟩ (⟨2,z,B⟩,n)=⟨E+n,true,u⟩:=rfl;have O:Dw N ⟨E,true,u⟩ (⟨2,z,B⟩,n)=false:=rfl;unfold ZQ at C;rw[e3,O,Of zAp]at C;rw[e3];dsimp only
    (repeat' (first|refine WS ?_|refine SG (I2 (λhc=>?_) λhc=>?_)|refine SG λhc=>?_|(apply zG;first|refine SM ?_)|(first|first|refine SR ?_|refine SK (I2 (λhc=>?_) λhc=>?_)|refine SK λhc=>?_|fail|apply vU|apply vV)|fail))
    exact⟨rfl,C⟩
  .have ex:Ar ⟨E,S,u⟩ (⟨G,z,B⟩,n)=false:=by
    unfold Ar;rw[zAc hc,zA7]
   have O:Dw N ⟨E,S,u⟩ (⟨G,z,B⟩,n)=decide (N<=ln u+1):=by
    unfold Dw;rw[ex];rfl
   by_cases h7:G=7
   .subst h7;have e3:VD ⟨E,S,u⟩ (⟨7,z,B⟩,n)=⟨E+n,true,u++[⟨7,z,B⟩]⟩:=rfl;unfold ZQ at C;rw[e3,O]at C;rw[e3];have A:=CG (u.map wK++[AV.agg [iA 7,iA z,zD yA B]]).length N;rw[show decide (N<=(u.map wK++[AV.agg [iA 7,iA z,zD yA B]]).length)=decide (N<=ln u+1) by simp]at A;by_cases hs:N<=ln u+1
    .rw[zAd hs]at A;rw[Os (zAd hs)]at C;subst C;have I:=zA yA b;have M:=vJ (b.drop ((E:Int)+(n:Int)).toNat) OU;have R:zD yA (b.drop (E+n))=zD yA (b.drop ((E:Int)+(n:Int)).toNat):=by rw[show((E:Int)+(n:Int)).toNat=E+n by omega]
     dsimp only;rw[R];rw[show zD wK (u++[⟨7,z,B⟩])= .sl false (u.map wK++[AV.agg [iA 7,iA z,zD yA B]]) by unfold zD;rw[zAf];rfl]
     (have gd:=A;have gn:=M;(repeat' (first|refine WS ?_|refine SG (I2 (λhc=>?_) λhc=>?_)|refine SG λhc=>?_|(apply zG;first|refine SM ?_)|(first|first|refine SR ?_|refine SK (I2 (λhc=>?_) λhc=>?_)|refine SK λhc=>?_|fail|apply vU|apply vV)|fail))<;>clear gd gn)
     refine zH [1053] Z Z ?_ Z
     show AV.tup [_,AV.sl false (nm (u.map wK++[AV.agg [iA 7,iA z,zD yA B]]).length (u.map wK++[AV.agg [iA 7,iA z,zD yA B]]))]=_
     rw[zAb];rfl
    .rw[zAc hs]at A;rw[Of Og]at C;dsimp only;rw[zAf,show [(⟨7,z,B⟩:It)].map wK=[AV.agg [iA 7,iA z,zD yA B]]from Z]
     (have gd:=A;(repeat' (first|refine WS ?_|refine SG (I2 (λhc=>?_) λhc=>?_)|refine SG λhc=>?_|(apply zG;first|refine SM ?_)|(first|first|refine SR ?_|refine SK (I2 (λhc=>?_) λhc=>?_)|refine SK λhc=>?_|fail|apply vU|apply vV)|fail))<;>clear gd)
     exact⟨rfl,C⟩
   by_cases h4:G=4
   .subst h4;have e3:VD ⟨E,S,u⟩ (⟨4,z,B⟩,n)=⟨E+n,true,u++[⟨4,z,B⟩]⟩:=rfl;unfold ZQ at C;rw[e3,O]at C;rw[e3];have A:=CG (u.map wK++[AV.agg [iA 4,iA z,zD yA B]]).length N;rw[show decide (N<=(u.map wK++[AV.agg [iA 4,iA z,zD yA B]]).length)=decide (N<=ln u+1) by simp]at A;by_cases hs:N<=ln u+1
    .rw[zAd hs]at A;rw[Os (zAd hs)]at C;subst C;have I:=zA yA b;have M:=vJ (b.drop ((E:Int)+(n:Int)).toNat) OU;have R:zD yA (b.drop (E+n))=zD yA (b.drop ((E:Int)+(n:Int)).toNat):=by rw[show((E:Int)+(n:Int)).toNat=E+n by omega]
     dsimp only;rw[R];rw[show zD wK (u++[⟨4,z,B⟩])= .sl false (u.map wK++[AV.agg [iA 4,iA z,zD yA B]]) by unfold zD;rw[zAf];rfl]
     (have gd:=A;have gn:=M;(repeat' (first|refine WS ?_|refine SG (I2 (λhc=>?_) λhc=>?_)|refine SG λhc=>?_|(apply zG;first|refine SM ?_)|(first|first|refine SR ?_|refine SK (I2 (λhc=>?_) λhc=>?_)|refine SK λhc=>?_|fail|apply vU|apply vV)|fail))<;>clear gd gn)
     refine zH [1053] Z Z ?_ Z
     show AV.tup [_,AV.sl false (nm (u.map wK++[AV.agg [iA 4,iA z,zD yA B]]).length (u.map wK++[AV.agg [iA 4,iA z,zD yA B]]))]=_
     rw[zAb];rfl
    .rw[zAc hs]at A;rw[Of Og]at C;dsimp only;rw[zAf,show [(⟨4,z,B⟩:It)].map wK=[AV.agg [iA 4,iA z,zD yA B]]from Z]
     (have gd:=A;(repeat' (first|refine WS ?_|refine SG (I2 (λhc=>?_) λhc=>?_)|refine SG λhc=>?_|(apply zG;first|refine SM ?_)|(first|first|refine SR ?_|refine SK (I2 (λhc=>?_) λhc=>?_)|refine SK λhc=>?_|fail|apply vU|apply vV)|fail))<;>clear gd)
     exact⟨rfl,C⟩
   .have e3:VD ⟨E,S,u⟩ (⟨G,z,B⟩,n)=⟨E+n,false,u++[⟨G,z,B⟩]⟩:=by
     unfold VD;rw[ex,Of zAp];dsimp only;rw[zAc hc,zAc h7,zAc h4];rfl
    unfold ZQ at C;rw[e3,O]at C;rw[e3];have A:=CG (u.map wK++[AV.agg [iA G,iA z,zD yA B]]).length N;rw[show decide (N<=(u.map wK++[AV.agg [iA G,iA z,zD yA B]]).length)=decide (N<=ln u+1) by simp]at A;by_cases hs:N<=ln u+1
    .rw[zAd hs]at A;rw[Os (zAd hs)]at C;subst C;have I:=zA yA b;have M:=vJ (b.drop ((E:Int)+(n:Int)).toNat) OU;have R:zD yA (b.drop (E+n))=zD yA (b.drop ((E:Int)+(n:Int)).toNat):=by rw[show((E:Int)+(n:Int)).toNat=E+n by omega]
     dsimp only;rw[R];rw[show zD wK (u++[⟨G,z,B⟩])= .sl false (u.map wK++[AV.agg [iA G,iA z,zD yA B]]) by unfold zD;rw[zAf];rfl]
     (have gd:=A;have gn:=M;(repeat' (first|refine WS ?_|refine SG (I2 (λhc=>?_) λhc=>?_)|refine SG λhc=>?_|(apply zG;first|refine SM ?_)|(first|first|refine SR ?_|refine SK (I2 (λhc=>?_) λhc=>?_)|refine SK λhc=>?_|fail|apply vU|apply vV)|fail))<;>clear gd gn)
     refine zH [1053] Z Z ?_ Z
     show AV.tup [_,AV.sl false (nm (u.map wK++[AV.agg [iA G,iA z,zD yA B]]).length (u.map wK++[AV.agg [iA G,iA z,zD yA B]]))]=_
     rw[zAb];rfl
    .rw[zAc hs]at A;rw[Of Og]at C;dsimp only;rw[zAf,show [(⟨G,z,B⟩:It)].map wK=[AV.agg [iA G,iA z,zD yA B]]from Z]
     (have gd:=A;(repeat' (first|refine WS ?_|refine SG (I2 (λhc=>?_) λhc=>?_)|refine SG λhc=>?_|(apply zG;first|refine SM ?_)|(first|first|refine SR ?_|refine SK (I2 (λhc=>?_) λhc=>?_)|refine SK λhc=>?_|fail|apply vU|apply vV)|fail))<;>clear gd)
     exact⟨rfl,C⟩
 .have e1:Fe ⟨0,g,[]⟩ (gR (ln b) b) (L7 b).length=r:=by
   rw[hL,zAa]at C⊢;rw[zEk]at C;exact C
  rw[e1];have I:=zA yA b;have M:=vJ (b.drop ((r.t:Nat):Int).toNat) OU
  (have gd:=M;(repeat' (first|refine WS ?_|refine SG (I2 (λhc=>?_) λhc=>?_)|refine SG λhc=>?_|(apply zG;first|refine SM ?_)|(first|first|refine SR ?_|refine SK (I2 (λhc=>?_) λhc=>?_)|refine SK λhc=>?_|fail|apply vU|apply vV)|fail))<;>clear gd)
  refine zH [1053] Z Z ?_ Z
  show AV.tup [_,AV.sl false (nm (r.its.map wK).length (r.its.map wK))]=_
  rw[zAb];rfl
def Xr (b:List Int) (hb:BY b) (hl:ln b<=1000) (g:Bool) (N:Nat) (hN:1<=N/\N<=1000):zO 211 [FD b g,iA N] []
  (.tup [FD (b.drop (ZQ N (gR (ln b) b) ⟨0,g,[]⟩).t) (ZQ N (gR (ln b) b) ⟨0,g,[]⟩).g,zD wK (ZQ N (gR (ln b) b) ⟨0,g,[]⟩).its]) []:=by
 have k:=Cw b hb hl g N hN;generalize ZQ N (gR (ln b) b) ⟨0,g,[]⟩=r at *;unfold FD at *;refine eM call211 λF hF=>?_
 repeat' (first|(apply zG;first|refine qB (fF (v:=AV.agg _) 2 Z Z) Z Z Z ?_|refine qB (fF (v:=AV.s _) 1053 Z Z) Z Z Z ?_|refine wX tok Z Z ?_|refine gD tok Z Z Z Z ?_|apply uT)|(first|apply xK|apply xF|refine vQ Z ?_|refine yM Z ?_|refine yB Z ?_|refine xU Z (λhc=>?_) λhc=>?_|apply xB|apply xG|apply xJ|apply xE))
 exact lk k
def M7 (b:List Int) (hl:ln b<=256) (g:Bool) (x:List Int) (hx:ln x<=1000000):zO 173 [FD b g,zD yA x] [] (.tup [FD (b++x.take (cI (ln b) (ln x))) g,bA (decide (cI (ln b) (ln x)=ln x))]) []:=by
 have u:=zA yA b;have z:=zA yA x;have C:cI (ln b) (ln x)<=ln x/\b.length+cI (ln b) (ln x)<=256:=by unfold cI;omega
 have e1:min ((ln x:Nat):Int) (max (256-((ln b:Nat):Int)) 0)=((cI (ln b) (ln x):Nat):Int):=by unfold cI;omega
 have B:zD yA (b++x.take (cI (ln b) (ln x)))= .sl false (b.map yA++(x.take (cI (ln b) (ln x))).map yA):=by unfold zD;rw[zAf]
 unfold FD;rw[B];generalize cI (ln b) (ln x)=f at *;refine eM call173 λF hF=>?_
 refine WW ?_;rw[u,z,e1];refine zH [] Z Z ?_ Z
 show AV.tup [AV.agg [AV.sl false (nm (b.map yA++(x.take f).map yA).length (b.map yA++(x.take f).map yA)),bA g],bA (uE .eql (f:Int) (ln x:Int))]=_
 rw[zAb,show uE .eql (f:Int) (ln x:Int)=decide (f=ln x) by
  by_cases A:f=ln x
  .rw[A];simp[uE]
  .have:(f:Int)≠(ln x:Int):=by omega
   simp[uE,A,this]]
def eV (s:Ss):Ss×In:=if s.op=true then(⟨true,false,s.bf.drop (ZQ 4 (gR (ln s.bf) s.bf) ⟨0,s.gb,[]⟩).t,(ZQ 4 (gR (ln s.bf) s.bf) ⟨0,s.gb,[]⟩).g⟩,⟨true,(if s.dr=true then [⟨15,0,[]⟩]else [])++(ZQ 4 (gR (ln s.bf) s.bf) ⟨0,s.gb,[]⟩).its⟩)else(s,⟨false,[]⟩)
def Bw (s:Ss) (hb:BY s.bf) (hl:ln s.bf<=1000):zO 174 [qA s] [] (.tup [qA (eV s).1,qL (eV s).2]) []:=by
 obtain⟨op,B,u,z⟩:=s;dsimp only at hb hl;have G:=FX ⟨op,B,u,z⟩ hl;have A:=Xr u hb hl z 4 zB;have C:=LD (N:=4) (gR (ln u) u) ⟨0,z,[]⟩ (by show 0<4;omega);unfold eV;dsimp only;generalize ZQ 4 (gR (ln u) u) ⟨0,z,[]⟩=r at *;have E:=zA wK r.its;unfold FD at A;cases op
 .rw[Of zAp];unfold qA at *;unfold qL;refine eM call174 λF hF=>?_
  exact lk G
 .rw[Os Z];unfold qA at *;unfold qL;cases B
  .rw[Of zAp,zCv];refine eM call174 λF hF=>?_
   refine zQ A ?_;refine LK 32 1055 3 Z Z Z ?_;refine WW ?_;refine zH [] Z Z ?_ Z
   show AV.tup [_,AV.agg [_,AV.sl false (nm (r.its.map wK).length (r.its.map wK))]]=_
   rw[zAb];rfl
  .rw[Os Z,show zD wK ([⟨15,0,[]⟩]++r.its)= .sl false ([.agg [iA 15,iA 0,zD yA []]]++r.its.map wK) by unfold zD;rw[zAf];rfl];refine eM call174 λF hF=>?_
   (have gd:=A;(repeat' (first|refine dZ ?_|apply yZ|apply xM|intro hc|(apply zG;first|(apply yR;refine QF 18 Z Z Z ?_;refine kD tok Z Z ?_))|refine SB ?_|fail))<;>clear gd)
   refine LK 17 1055 3 Z Z Z ?_
   (have gd:=A;(repeat' (first|refine uD ?_|apply yZ|apply xM|intro hc|(apply zG;first|refine SM ?_)|fail))<;>clear gd)
   refine zH [] Z Z ?_ Z
   show AV.tup [_,AV.agg [_,AV.sl false (nm ([AV.agg [iA 15,iA 0,zD yA []]]++r.its.map wK).length ([AV.agg [iA 15,iA 0,zD yA []]]++r.its.map wK))]]=_
   rw[zAb];rfl
def Aw (s:Ss) (hl:ln s.bf<=1000):zO 113 [qA s] [] (qA (if s.op=true then s else⟨true,false,[],false⟩)) []:=by
 obtain⟨op,A,z,B⟩:=s;dsimp only at hl⊢;have u:=FX ⟨op,A,z,B⟩ hl;cases op
 .rw[Of zAp];unfold qA at *;refine eM call113 λF hF=>?_
  exact lk u
 .rw[Os Z];unfold qA at *;refine eM call113 λF hF=>?_
  exact lk u
def zx (s:Ss):zO 114 [qA s] [] (qA ⟨false,false,[],false⟩) []:=by
 unfold qA;refine eM call114 λF hF=>?_
 exact lc
def G4 (s:Ss) (hl:ln s.bf<=256) (x:List Int) (hx:ln x<=1000000):zO 115 [qA s,zD yA x] [] (qA (FW s x)) []:=by
 obtain⟨op,C,A,B⟩:=s;dsimp only at hl;have E:=FX ⟨op,C,A,B⟩ NM;have u:=M7 A hl B x hx;unfold FW;dsimp only;unfold FD at u;cases op
 .rw[Of zAp];unfold qA at *;refine eM call115 λF hF=>?_
  exact lk E
 .rw[Os Z];unfold qA at *;cases z:decide (cI (ln A) (ln x)=ln x)
  .rw[z]at u;rw[zAd (zEc z),zDw];refine eM call115 λF hF=>?_
   exact lk u
  .rw[z]at u;rw[zAc (λh=>h (zD0 z)),zEu];refine eM call115 λF hF=>?_
   exact lk u
structure F4 (s:Ss):Prop where
 y:BY s.bf
 n:s.bf.length<=256
def Wr {s:Ss} (h:F4 s):F4 (eV s).1/\Vr (eV s).2:=by
 have A:=h.n;unfold eV;split
 .refine⟨⟨λx hx=>h.y x (zBj hx),by dsimp only;rw[zA8];omega⟩,?_⟩;have z:=LD (N:=4) (gR (ln s.bf) s.bf) ⟨0,s.gb,[]⟩ (by show 0<4;omega);have u:=ah (N:=4) (Pr:=pz) (gR (ln s.bf) s.bf) ⟨0,s.gb,[]⟩ (λx hx=>by cases hx) (Ns h.y zB);generalize ZQ 4 (gR (ln s.bf) s.bf) ⟨0,s.gb,[]⟩=r at *;refine⟨?_,λx hx=>?_⟩
  .dsimp only;rw[zAh];split
   .simp only[zAm,zBh];omega
   .simp only[zBh];omega
  .rcases zA5.1 hx with hx|hx
   .split at hx
    .rw[zBf.1 hx];exact⟨bF,zAr _,by dsimp only;omega,by dsimp only;omega⟩
    .cases hx
   .exact u x hx
 .exact⟨h,zAr _,λx hx=>by cases hx⟩
def E4 {s:Ss} (h:F4 s) {x:List Int} (hx:BY x):F4 (FW s x):=by
 refine⟨?_,Tt h.n x⟩;unfold FW;split
 .intro y u
  rcases zA5.1 u with u|u
  .exact h.y y u
  .exact hx y (zB5 u)
 .exact h.y
