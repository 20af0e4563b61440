/- Part 15. -/
import Derived.WalkKit
import Derived.ProofKit
import Derived.Test.YtmamjhmoegjapaaGreatP14
namespace Go.Proofs.YtmamjhmoegjapaaGreat
namespace Av
open Tryz
set_option linter.all false
set_option maxRecDepth 4000
set_option maxHeartbeats 2000000
def eV (p:Nat->Bool):Nat->Int
 |0=>0
 |n+1=>if p n=true then eV p n+p2 n else eV p n
theorem AS (p:Nat->Bool):∀n:Nat,n<=30->0<=eV p n/\eV p n<p2 n
 |0,_=>⟨yAu 0,by show(0:Int)<1;decide⟩
 | n+1,h=>by
  have ih:=AS p n zB
  have h2:p2 ((n+1:Nat):Int)=2*p2 (n:Int):=by
   unfold p2;rw[yAc,yAc,yEe];omega
  have:=zRd n zB;unfold eV
  split<;>omega
theorem cS {p q:Nat->Bool}:∀n:Nat,(∀i,i<n->p i=q i)->eV p n=eV q n
 |0,_=>rfl
 |n+1,h=>by unfold eV;rw[h n zB,cS n λi hi=>h i zB]
def bq (b0 b1 b2 b3 b4 b5 b6 b7:Bool):Nat->Bool
 |0=>b0|1=>b1|2=>b2|3=>b3|4=>b4|5=>b5|6=>b6|7=>b7|_=>false
theorem zWa:∀b0 b1 b2 b3 b4 b5 b6 b7:Bool,∀i:_root_.Fin 8,(eI (uT (eV (bq b0 b1 b2 b3 b4 b5 b6 b7) 8) i.val) 1==1)=bq b0 b1 b2 b3 b4 b5 b6 b7 i.val:=by decide +kernel
theorem zNs (p:Nat->Bool) (i:Nat) (hi:i<8):(eI (uT (eV p 8) i) 1==1)=p i:=by
 have e:∀j,j<8->p j=bq (p 0) (p 1) (p 2) (p 3) (p 4) (p 5) (p 6) (p 7) j:=λj hj=>by
  match j,hj with
  |0,_=>rfl|1,_=>rfl|2,_=>rfl|3,_=>rfl|4,_=>rfl|5,_=>rfl|6,_=>rfl|7,_=>rfl
  |j+8,h=>omega
 rw[cS 8 e,e i hi];exact zWa _ _ _ _ _ _ _ _ ⟨i,hi⟩
def bsN (p:Nat->Bool):Nat->Nat
 |0=>0
 |n+1=>if p n=true then bsN p n+2 ^ n else bsN p n
theorem FK (p:Nat->Bool):∀n,eV p n=(bsN p n:Int)
 |0=>rfl
 |n+1=>by
  unfold eV bsN;rw[FK p n];split
  ·unfold p2;simp
  ·rfl
theorem PH (p:Nat->Bool):∀n,bsN p n<2 ^ n
 |0=>(show 0<1 by omega)
 |n+1=>by
  have:=PH p n;unfold bsN;rw[Nat.pow_succ]
  split<;>omega
theorem bG (p:Nat->Bool):∀n i,(bsN p n).testBit i=(decide (i<n)&&p i)
 |0,i=>by simp[bsN]
 | n+1,i=>by
  have hlt:=PH p n;unfold bsN
  rcases Nat.lt_trichotomy i n with h|h|h
  ·rw[zYu zB,zZh];split
   ·rw[Nat.add_comm,Nat.testBit_two_pow_add_gt h,bG p n i,zYu h,zZh]
   ·rw[bG p n i,zYu h,zZh]
  ·subst h;rw[zYu zB,zZh];split
   ·rename_i hp;rw[Nat.add_comm,Nat.testBit_two_pow_add_eq,bG p i i,zYw zB,hp];rfl
   ·rename_i hp;rw[bG p i i,zYw zB];simpa using hp
  ·rw[zYw zB,yAf];refine Nat.testBit_lt_two_pow ?_;have h2:2 ^ (n+1)<=2 ^ i:=yCs zB zB;rw[Nat.pow_succ]at h2
   split<;>omega
theorem JM (a b:Nat) (ha:a<2 ^ 30) (hb:b<2 ^ 30):orI a b=((a ||| b:Nat):Int):=by
 have h:=Nat.or_lt_two_pow ha hb;unfold orI;rw[yCp,yCp,BitVec.toNat_or,yCl,yCl];have e:(2:Nat) ^ IntKind.i64.bits=18446744073709551616:=by decide
 rw[e,yBn zB,yBn zB];exact kL (k:= .i64) (by unfold XB;omega)
theorem zSr (p q:Nat->Bool):orI (eV p 8) (eV q 8)=eV (λi=>p i||q i) 8:=by
 have h1:=PH p 8;have h2:=PH q 8;rw[FK,FK,FK,JM _ _ zB zB]
 congr 1
 apply Nat.eq_of_testBit_eq;intro i;rw[yEn,bG,bG,bG]
 cases decide (i<8)<;>simp
def YX (l:List Tk):Nat->Int->List Int
 |0,_=>[]
 |n+1,s=>bif fP l s then s::YX l n (l.getD s.toNat default).par else []
theorem jF (l:List Tk) (k:Nat) (a:Int):YX l (k+1) a=bif fP l a then a::YX l k (l.getD a.toNat default).par else []:=rfl
theorem XM {l:List Tk} {s:Int} (h:fP l s=true):0<=s/\s<l.length:=by
 unfold fP at h;simp only[zY6,zYx]at h;exact h.1
theorem zGp {l:List Tk}:∀(n:Nat) (s x:Int),x∈YX l n s->fP l x=true
 |0,s,x,h=>by simp[YX]at h
 | n+1,s,x,h=>by
  unfold YX at h
  cases hu:fP l s<;>rw[hu]at h
  ·simp at h
  ·rw[zZ8,zZ5]at h
   rcases h with rfl|h
   ·exact hu
   ·exact zGp n _ x h
def zGq (l:List Tk) (s:Int):List (Nat×xP):=[(1003,.box [iA s]),(1004,.box [zD xE l])]
theorem zQ0 (l:List Tk) (s:Int):zO 209 [zD xE l,iA s] [] (.fn 232 [.ptr 1003 0 0,.ptr 1004 0 0]) (zGq l s):=by
 refine eM call209 λF hF=>?_
 repeat' (first|(refine zE ?_;first|refine uF (kZ (v:=AV.sl _ _) 1004 rfl rfl) rfl rfl rfl ?_|refine uF (kZ (v:=AV.s _) 1003 rfl rfl) rfl rfl rfl ?_|refine wZ tok rfl rfl ?_|refine uM ?_)|(first|refine xM ?_|refine xB ?_|refine wU rfl ?_|refine zV rfl ?_|refine zQ rfl ?_|refine xF rfl (λhc=>?_) (λhc=>?_)|refine yV ?_|refine yQ ?_|refine xC ?_|refine yN ?_))
 exact zJ [1003,1004] rfl rfl rfl rfl
theorem zGr (l:List Tk) (s:Int):bR prog 232 [.ptr 1003 0 0,.ptr 1004 0 0] (zGq l s) ((YX l 8 s).map λx=>[iA x]):=by
 have hl:=zA xE l;refine dJ func232 rfl (λargs w=>call232 args w) rfl rfl rfl (λF y hro hit hY=>?_);unfold zGq;refine WW ?_;refine xV (8) [1003,1004] [1003,1004] [0,2] [4,6,1000000,0,2] rfl (λi T U zs=>∃(a:Int) (pre:List Int),(YX l 8 s=pre++YX l (8-i) a/\pre.length=i)/\zs=⟨(4,iA a)::(6,iA i)::(1000000,.gh i)::T,U⟩) ?_;(conv=>whnf);refine⟨?_,?_,?_⟩
 ·exact⟨s,[],⟨rfl,rfl⟩,rfl⟩
 ·rintro i st hi ⟨a,pre,⟨hp,hpl⟩,rfl⟩;have c:=zAa l a;obtain⟨k,hk⟩:∃k,8-i=k+1:=⟨7-i,zB⟩;rw[hk,jF l k a]at hp
  cases hu:fP l a<;>rw[hu]at c hp
  ·rw[yAp,zZo]at hp;refine zW c ?_;exact gA rfl (.inl (by rw[zYq,hp,hpl]))
  ·rw[zZ8]at hp;obtain⟨h0,h1⟩:=XM hu;have hy:=yP xE l a h0 h1;have hys:((YX l 8 s).map λx=>[iA x])[i]? =some [iA a]:=by rw[hp];simp[<-hpl]
   have hlen:i<((YX l 8 s).map λx=>[iA x]).length:=(zZg.1 hys).1;generalize ((YX l 8 s).map λx=>[iA x])=xs at *;have hp':YX l 8 s=(pre++[a])++YX l (8-(i+1)) (l.getD a.toNat default).par:=by rw[hp,show 8-(i+1)=k by omega];simp
   generalize l.getD a.toNat default=t at*
   (repeat' (first|refine qS ?_|refine xR (λhc=>?_) (λhc=>?_)|refine wE (λhc=>?_)|(refine zE ?_;refine xT ?_;first|(first|(refine vT 233 ?_;first|refine yF (zH (c) rfl rfl rfl rfl rfl) rfl ?_|refine uF (zH (c) rfl rfl rfl rfl rfl) rfl rfl rfl ?_|refine bJ (zH (c) rfl rfl rfl rfl rfl) rfl rfl rfl ?_))|(refine aB ?_;refine UI hit hY rfl rfl hys rfl rfl rfl ?_ ?_))|(refine zE ?_;first|refine SM ?_)|fail))
   ·exact⟨t.par,pre++[a],⟨hp',by simp[hpl]⟩,rfl⟩
   ·exact gA rfl (.inr zB)
 ·rintro st ⟨a,pre,⟨hp,hpl⟩,rfl⟩;rw[show YX l (8-8) a=[]from rfl,zZo]at hp;refine WW ?_;exact cB rfl (.inl (by rw[zYq,hp,hpl]))
def deF (l:List Tk) (s top:Int):Bool:=(YX l 8 s).any λa=>a==top
theorem zGs (l:List Tk) (s top:Int):zO 285 [zD xE l,iA s,iA top] [] (bA (deF l s top)) []:=by
 have c:=zQ0 l s;unfold zGq at c;refine eM call285 λF hF=>?_
 refine zW c ?_;refine wW hF (zGr l s) rfl [5,6] [5,6] rfl rfl rfl rfl rfl rfl rfl rfl rfl (λi ys h=>?_) (λ_=>[(5,.box [iA top]),(6,.box [.s (.bool false)])]) (λi=>∀x∈(YX l 8 s).take i,x≠top) (T:=[(5,.ptr 5 0 0),(6,.ptr 6 0 0)]) rfl zU (λi ys y hys hI F1 h1 h2=>?_) (λhI=>?_)
 ·rw[zYt,zY1]at h;obtain⟨x,_,rfl⟩:=h;rfl
 ·rw[zYt,zY1]at hys;obtain⟨x,hx,rfl⟩:=hys
  show uI _ F1 _ _ ⟨[(11,iA x),(5,.ptr 5 0 0),(6,.ptr 6 0 0)],[(5,.box [iA top]),(6,.box [.s (.bool false)])]⟩ _
  have hmem:x∈YX l 8 s:=zZ4 hx;refine WW ?_;refine⟨rfl,λF2 g1 g2=>?_⟩;by_cases ht:x=top
  ·have hd:deF l s top=true:=yAd.2 ⟨x,hmem,by simpa using ht⟩;rw[hd];refine WW ?_;exact zL
  ·(refine WW ?_)
   refine⟨rfl,λz hz=>?_⟩;rw[yA6,hx]at hz;simp only[yD8,zZa,zZu]at hz
   rcases hz with hz|rfl
   ·exact hI z hz
   ·exact ht
 ·rw[zYq,zYv]at hI;have hd:deF l s top=false:=yBq.2 λx hx=>by simpa using hI x hx
  rw[hd];refine WW ?_;exact zL
def zEc (l:List Tk) (now:Int) (j:Nat):Tk:=if(YX l 8 j).any (λa=>exF (l.getD a.toNat default) now)=true then frT else l.getD j default
def RI (l:List Tk) (now:Int) (s:Nat):List Tk:=(List.range l.length).map λj=>if j<s then zEc l now j else l.getD j default
def MK (l:List Tk) (now:Int):List Tk:=(List.range l.length).map (zEc l now)
theorem JN (l:List Tk) (now:Int) (s:Nat):(RI l now s).length=l.length:=by simp[RI]
theorem zGt (l:List Tk) (now:Int):RI l now 0=l:=by
 unfold RI;apply zZ9;intro j;rw[zYt];by_cases h:j<l.length
 ·rw[zZr h];simp[List.getD,h]
 ·rw[zZj wI,zZj zB];rfl
theorem zNt (l:List Tk) (now:Int):RI l now l.length=MK l now:=by
 unfold RI MK;apply yB7;intro j hj;rw[zZi]at hj;rw[zYp hj]
theorem zGu (l:List Tk) (now:Int) (s:Nat) (h:s<l.length):(RI l now s)[s]? =some (l.getD s default):=by
 unfold RI;rw[zYt,zZr h];simp
theorem zGv (l:List Tk) (now:Int) (s:Nat):RI l now (s+1)=(RI l now s).set s (zEc l now s):=by
 unfold RI;apply zZ9;intro j;rw[yAx,zYt,zYt];by_cases h:j<l.length
 ·rw[zZr h];by_cases hs:s=j
  ·subst hs;simp[h]
  ·rw[zYo hs];by_cases hj:j<s
   ·simp[hj,show j<s+1 by omega]
   ·simp[hj,show¬j<s+1 by omega]
 ·rw[zZj wI]
  split<;>simp;omega
theorem zGw (l:List Tk) (hb:GJ l) (now:Int):zO 188 [zD xE l,iA now] [] (zD xE (MK l now)) []:=by
 have c:=XP l hb;have hn:=hb.n;have hll:=zA xE l;refine eM call188 λF hF=>?_
 refine zW c ?_;refine zP ((l.map xE).length) [1001,2,3,5] [2,3,5] [2,3,5,11,18] [12,2,3,5,11,18] rfl (λi T U=>⟨(12,iA i)::T,(1001,.arr 6 ((RI l now i).map xE) false)::U⟩) ?_;(conv=>whnf);refine⟨by(rw[zGt];rfl),?_,?_⟩
 ·intro i hi;have hi':i<l.length:=by omega
  have c1:=zQ0 l i;unfold zGq at c1;have hy:((RI l now i).map xE)[i]? =some (xE (l.getD i default)):=by rw[zYt,zGu l now i hi'];rfl
  have es:=zGv l now i;have hif:=zAb;have hrl:i<((RI l now i).map xE).length:=by rw[zYq,JN];exact hi'
  refine zW c1 ?_
  refine wW hF (zGr l i) rfl [2,3,5,6,1001] [2,3,5,6,11,12] rfl rfl rfl rfl rfl rfl rfl rfl rfl (λk ys h=>?_) (λ_=>[(2,.box [zD xE l]),(3,.box [iA now]),(5,.box [.ref 1001 0 (l.map xE).length]),(6,.box [iA i]),(1001,.arr 6 ((RI l now i).map xE) false)]) (λk=>∀x∈(YX l 8 i).take k,exF (l.getD x.toNat default) now=false)
   (T:=[(2,.ptr 2 0 0),(3,.ptr 3 0 0),(5,.ptr 5 0 0),(6,.ptr 6 0 0),(11,iA (l.map xE).length),(12,iA i)]) rfl zU (λk ys y hys hI F1 h1 h2=>?_) (λhI=>?_)
  ·rw[zYt,zY1]at h;obtain⟨x,_,rfl⟩:=h;rfl
  ·rw[zYt,zY1]at hys;obtain⟨x,hx,rfl⟩:=hys
   show uI _ F1 _ _ ⟨[(18,iA x),(2,.ptr 2 0 0),(3,.ptr 3 0 0),(5,.ptr 5 0 0),(6,.ptr 6 0 0),(11,iA (l.map xE).length),(12,iA i)],[(2,.box [zD xE l]),(3,.box [iA now]),(5,.box [.ref 1001 0 (l.map xE).length]),(6,.box [iA i]),(1001,.arr 6 ((RI l now i).map xE) false)]⟩ _
   have hmem:x∈YX l 8 i:=zZ4 hx;obtain⟨b1,b2⟩:=XM (zGp _ _ _ hmem);have hy2:=yP xE l x b1 b2;have ce:=LK (l.getD x.toNat default) now;refine WW ?_;refine⟨rfl,λF2 g1 g2=>?_⟩
   cases he:exF (l.getD x.toNat default) now<;>rw[he]at ce
   ·(refine zW ce ?_)
    refine⟨rfl,λz hz=>?_⟩;rw[yA6,hx]at hz;simp only[yD8,zZa,zZu]at hz
    rcases hz with hz|rfl
    ·exact hI z hz
    ·exact he
   ·have e2:(RI l now (i+1)).map xE=((RI l now i).map xE).set i (xE frT):=by
     rw[es,zEc,zYp (yAd.2 ⟨x,hmem,he⟩),yAw]
    generalize (RI l now i).map xE=xs at *;generalize (RI l now (i+1)).map xE=ys at *;subst e2;refine xA (vD ce hif) ?_;rfl
  ·rw[zYq,zYv]at hI
   have e2:(RI l now (i+1)).map xE=(RI l now i).map xE:=by
    rw[es,zEc,zYo (by simpa using hI)]
    congr 1
    have:=zGu l now i hi';rw[zZg]at this;obtain⟨h,e⟩:=this;rw[<-e,yDx]
   generalize (RI l now i).map xE=xs at *;generalize (RI l now (i+1)).map xE=ys at *;subst e2;refine WW ?_;rfl
 ·have hl2:(l.map xE).length=((RI l now l.length).map xE).length:=by simp[JN]
  rw[<-zNt];rw[hll]at *; refine WW ?_;exact zI [] rfl rfl (zZl (AV.sl false) (zYy (by simp[JN]))) rfl
def tkN (a:Ag):List Tk:=⟨true,a.sec,-1,a.rights,a.cls,0⟩::List.replicate 7 frT
def zT:AV:= .agg [.s (.bool false),.s (.slice none 0 0),.s (.int .i64 0),.s (.int .i64 0),.s (.int .i64 0),.s (.int .i64 0)]
def BJ (i:Nat):List AV:=List.replicate i (xE frT)++List.replicate (8-i) zT
theorem zSs (i:Nat) (h:i<8):(BJ i)[i]? =some zT:=by
 unfold BJ;rw[zZe zU];simp[show 0<8-i by omega]
theorem zNu (i:Nat) (h:i<8):(BJ i).set i (xE frT)=BJ (i+1):=by
 unfold BJ;rw[show 8-i=(8-(i+1))+1 by omega,yCg (n:=8-(i+1)),yBr _ _ zU,zZ0,yA0,yC0,yD0 (n:=i),zZc];rfl
theorem zSt (a:Ag) (hs:a.sec.length<=1000000):zO 179 [wN a] [] (zD xE (tkN a)) []:=by
 have cf:=zAb;have cs:=wK a.sec zB;obtain⟨N,hN⟩:∃N:Nat,N=8:=⟨8,rfl⟩;refine eM call179 λF hF=>?_
 refine WW ?_;refine zP (N) [5,1] [1] [1] [8,7,3,1] rfl (λi T U=>⟨(8,iA i)::(7,iA N)::(3,.ref 5 0 N)::T,(5,.arr 6 (BJ i) false)::U⟩) ?_;(conv=>whnf);refine⟨by(rw[hN];rfl),?_,?_⟩
 ·intro i hi;have hy:=zSs i zB;have e:=zNu i zB;have hln:(BJ i).length=8:=by unfold BJ;simp;omega
  generalize BJ i=xs at *;generalize BJ (i+1)=ys at *;subst e;unfold zT at hy;refine zW cf ?_;rfl
 ·rw[show BJ N=BJ 8 by rw[hN]];have hy:(BJ 8)[0]? =some (xE frT):=rfl;have e8:(BJ 8).set 0 (xE ⟨true,a.sec,-1,a.rights,a.cls,0⟩)=(tkN a).map xE:=rfl;have hln:(BJ 8).length=8:=rfl;generalize BJ 8=xs at *;unfold xE at hy;refine zW cs ?_;exact zI [] rfl rfl (zZl (AV.sl false) ((zYy wI).trans e8)) rfl
def FL (n:Int) (a:Ag):Rg:=⟨n,a,tkN a,[],⟨a.burst,a.rate,a.burst⟩⟩
theorem zSu (n:Int) (a:Ag) (hs:a.sec.length<=1000000) (hl:a.lim.length<=1000000):zO 144 [iA n,wN a] [] (qG (FL n a)) []:=by
 have c1:=FS a hs hl;have c2:=zSt a hs;have c3:=zS6 a.rate a.burst;unfold FL;generalize tkN a=tk at *;refine eM call144 λF hF=>?_
 refine xA (gK c1 c2 c3) ?_;exact zL
theorem aP (g s:Int) (l:List Int) (hl:l.length<=1000000) (g0:0<=g) (g1:g<256) (s0:0<=s) (s1:s<256):zO 46 [iA g,iA s,zD yA l] [] (zD yA (g::s::l)) []:=by
 have hll:=zA yA l;refine eM call46 λF hF=>?_
 refine WW ?_;exact zI [] rfl rfl (zZl (AV.sl false) (zYy zU)) rfl
theorem zSv (a b:List Int):zO 256 [zD yA a,zD yA b] [] (bA (eqY a b)) []:=by
 refine eM call256 λF hF=>?_
 refine WW ?_;exact zL
def zNv (l:List Tk) (b:List Int):Tk:=l.getD (b.getD 1 default).toNat default
def ckB (l:List Tk) (g:Int) (b:List Int) (k now:Int):Bool:=decide ((b.length:Int)=10/\b.getD 0 default=g)&&fP l (b.getD 1 default)&&(eqY (b.drop 2) (zNv l b).sec&& !exF (zNv l b) now&&peF (zNv l b).rights k)
theorem zNw (l:List Tk) (g:Int) (b:List Int) (k now:Int) (hb:BY b):zO 234 [zD xE l,iA g,zD yA b,iA k,iA now] [] (.tup [iA (if ckB l g b k now=true then b.getD 1 default else 0),iA (if ckB l g b k now=true then 0 else 9)]) []:=by
 have hll:=zA yA b;have hlt:=zA xE l;by_cases h1:(b.length:Int)=10
 case neg=>
  have e:ckB l g b k now=false:=by unfold ckB;rw[zYw (λh=>h1 h.1)];rfl
  rw[e];refine eM call234 λF hF=>?_
  refine WW ?_;exact zL
 have hy0:=yP yA b 0 zB zB;have hy1:=yP yA b 1 zB zB;have b0:0<=b.getD 0 default/\b.getD 0 default<256:=hb _ zQ9;have b1:0<=b.getD 1 default/\b.getD 1 default<256:=hb _ zQ9
 change (b.map yA)[0]? =some (yA (b.getD 0 default))at hy0
 change (b.map yA)[1]? =some (yA (b.getD 1 default))at hy1
 unfold ckB zNv;generalize b.getD 0 default=x0 at *;generalize b.getD 1 default=x1 at *;by_cases h2:x0=g
 case neg=>
  rw[zYw (λh=>h2 h.2)];refine eM call234 λF hF=>?_
  refine WW ?_;exact zL
 rw[zYu ⟨h1,h2⟩];have cu:=zAa l x1;cases hu:fP l x1
 ·rw[hu]at cu;refine eM call234 λF hF=>?_
  refine zW cu ?_;exact zL
 rw[hu]at cu;obtain⟨u0,u1⟩:=XM hu;have hyt:=yP xE l x1 u0 u1;generalize l.getD x1.toNat default=t at *;have ce:=zSv (b.drop 2) t.sec;have cx:=LK t now;have cp:=zEh t.rights k;generalize eqY (b.drop 2) t.sec=q1 at *;generalize exF t now=q2 at *;generalize peF t.rights k=q3 at*
 cases q1<;>cases q2<;>cases q3<;>((refine eM call234 λF hF=>?_);(refine xA (aG cu ce cx cp) ?_);exact zL)
def rgZ:Rg:=⟨0,⟨[],0,0,[],0,0,0,0⟩,[],[],⟨0,0,0⟩⟩
def LG (k:Int):Bool:=decide (2<=k/\k<=8)
def opE (r:Rg) (m:Ms) (now:Int):Int:=if ckB r.tk r.num m.tok m.kind now=true then(if LG m.kind=true/\r.bk.level<=0 then 13 else 0)else 9
def opR (r:Rg) (m:Ms) (now:Int):Rg:=if opE r m now=0 then(if LG m.kind=true then⟨r.num,r.ag,r.tk,r.vh,FQ r.bk⟩else r)else rgZ
def opS (r:Rg) (m:Ms) (now:Int):Int:=if opE r m now=0 then m.tok.getD 1 default else 0
theorem zSw (r:Rg) (m:Ms) (now:Int) (hr:FT r) (hm:BY m.tok) (hl:r.bk.level<=1000000):zO 213 [qG r,yB m,iA now] [] (.tup [qG (opR r m now),iA (opS r m now),iA (opE r m now)]) []:=by
 have c1:=zNw r.tk r.num m.tok m.kind now hm;have c2:=dB r hr;have c3:=zN9 r.bk zB;unfold opR opS opE
 cases hc1:ckB r.tk r.num m.tok m.kind now<;>rw[hc1]at c1
 ·(refine eM call213 λF hF=>?_)
  refine zW c1 ?_;exact zL
 ·generalize m.tok.getD 1 default=slot at *;cases hk:LG m.kind
  ·have hk':¬(2<=m.kind/\m.kind<=8):=of_decide_eq_false hk;refine eM call213 λF hF=>?_
   refine xA (vD c1 c2) (I2 (λhc=>?_) (λhc=>?_))
   all_goals (first|exact zXO|exact zL)
  ·have hk':2<=m.kind/\m.kind<=8:=yC3 hk;by_cases hv:r.bk.level<=0
   ·rw[zYw zB]at c3;simp only[hv,and_self,yEd];refine eM call213 λF hF=>?_
    refine xA (gK c1 c2 c3) ?_;exact zL
   ·rw[zYu zB]at c3;simp only[hv,yEs,if_false,yEd];generalize hb:FQ r.bk=b2 at *;refine eM call213 λF hF=>?_
    refine xA (gK c1 c2 c3) ?_;exact zL
def rtF (r:Rg) (now:Int):Rg:=⟨r.num,r.ag,MK r.tk now,r.vh,btF r.bk⟩
theorem zNx (r:Rg) (now:Int) (hr:FT r) (hl: -1000000<=r.bk.level+r.bk.rate/\r.bk.level+r.bk.rate<=1000000):zO 156 [qG r,iA now] [] (qG (rtF r now)) []:=by
 have c1:=dB r hr;have c2:=zGw r.tk hr.tk now;have c3:=zN8 r.bk zB;unfold rtF;generalize MK r.tk now=tk at *;generalize btF r.bk=bk at *;refine eM call156 λF hF=>?_
 refine xA (gK c1 c2 c3) ?_;exact zL
theorem AT (l:List Tk) (hb:GJ l):yU [zD xE l] [] (.ref 1001 0 (l.map xE).length) [(1001,.arr 6 (l.map xE) false)]:=yG
theorem QB (r:Rg) (hb:FT r):yU [qG r] [] (qG r) []:=yG
def zGx (t:Tk):Bool:=decide ((t.sec.length:Int)=8/\0<=t.cls/\t.cls<=3/\0<=t.til/\t.til<=2147483648)
def soF (t:Tk):Bool:=BK t.rights&&zGx t
theorem JO (t:Tk):zO 297 [xE t] [] (bA (soF t)) []:=by
 have c:=ZZ t.rights;have hl:=zA yA t.sec;unfold soF;generalize BK t.rights=v at *;cases v
 ·rw[yAf];refine eM call297 λF hF=>?_
  refine zW c (I2 (λhc=>?_) (λhc=>?_))
  all_goals exact zL
 ·rw[zZh]
  (cases hb:zGx t with|false=>((refine eM call297 λF hF=>?_);((refine zW c (I5 (λhc hc hc hc=>?_) (λhc hc hc hc=>?_) (λhc hc hc=>?_) (λhc hc=>?_) (λhc=>?_))));all_goals (first|exact zL|(simp only[zGx,zY9]at hb;first|exact zXO|exact zFB)))|true=>(simp only[zGx,zYx]at hb;(refine eM call297 λF hF=>?_);((refine zW c ?_));all_goals (first|exact zL|exact zXO|exact zFB)))
def FM (t:Tk):Bool:=decide ((t.sec.length:Int)=0/\t.par= -1/\t.rights=0/\t.cls=0/\t.til=0)
def NX (u:Bool) (t:Tk):AV:= .agg [bA u,zD yA t.sec,iA t.par,iA t.rights,iA t.cls,iA t.til]
theorem zGy (t:Tk):zO 298 [NX false t] [] (bA (FM t)) []:=by
 have hl:=zA yA t.sec
 (cases hb:FM t with|false=>((refine eM call298 λF hF=>?_);((refine WW (I5 (λhc hc hc hc=>?_) (λhc hc hc hc=>?_) (λhc hc hc=>?_) (λhc hc=>?_) (λhc=>?_))));all_goals (first|exact zL|(simp only[FM,zY9]at hb;first|exact zXO|exact zFB)))|true=>(simp only[FM,zYx]at hb;(refine eM call298 λF hF=>?_);((refine WW ?_));all_goals (first|exact zL|exact zXO|exact zFB)))
def PI (l:List Tk) (s:Int):Bool:=if(l.getD s.toNat default).used=true then soF (l.getD s.toNat default)&&deF l s 0&&(wiF (l.getD s.toNat default).rights (l.getD (l.getD s.toNat default).par.toNat default).rights&&decide ((l.getD s.toNat default).cls<=(l.getD (l.getD s.toNat default).par.toNat default).cls)&& !laF (l.getD s.toNat default).til (l.getD (l.getD s.toNat default).par.toNat default).til)
 else FM (l.getD s.toNat default)
def LH (t:Tk):Bool:=t.used&&decide (t.par= -1/\t.til=0)&&soF t
def ML (l:List Tk):Bool:=decide ((l.length:Int)=8)&&(LH (l.getD 0 default)&&(List.range 7).all λi=>PI l ((i:Int)+1))
theorem zSx {l:List Tk} {i:Nat} (hi:i<7) (h:PI l ((i:Int)+1)=false):ML l=false:=by
 unfold ML;have:((List.range 7).all λi=>PI l ((i:Int)+1))=false:=yBp.2 ⟨i,zZi.2 hi,by simp[h]⟩;rw[this];simp
theorem zNy {l:List Tk} {s:Int} (h:deF l s 0=true) (h0:s≠0):fP l (l.getD s.toNat default).par=true:=by
 unfold deF at h;rw[jF l 7 s]at h
 cases hu:fP l s<;>rw[hu]at h
 ·simp at h
 ·rw[zZ8,List.any_cons]at h;have:(s==0)=false:=by simpa using h0
  rw[this,yBh,jF l 6]at h;cases hp:fP l (l.getD s.toNat default).par
  ·rw[hp]at h;simp at h
  ·rfl
theorem VF (l:List Tk):zO 280 [zD xE l] [] (bA (ML l)) []:=by
 have hll:=zA xE l;by_cases h8:(l.length:Int)=8
 case neg=>
  rw[show ML l=false by unfold ML;rw[zYw h8];rfl];refine eM call280 λF hF=>?_
  refine WW ?_;exact zL
 have hy0:=yP xE l 0 zB zB
 change (l.map xE)[0]? =some (xE (l.getD 0 default))at hy0
 cases hr:LH (l.getD 0 default)
 ·rw [show ML l=false by unfold ML;rw[hr];simp];have c:=JO (l.getD 0 default);unfold LH at hr;generalize l.getD 0 default=t at *;generalize soF t=q at *;cases hu:t.used
  ·rw[show xE t=NX false t by unfold xE NX;rw[hu]]at *; unfold NX at *;refine eM call280 λF hF=>?_
   refine zW c ?_;exact zL
  ·rw[show xE t=NX true t by unfold xE NX;rw[hu]]at *; unfold NX at *;by_cases h1:t.par= -1
   ·by_cases h2:t.til=0
    ·rw[hu,zYu ⟨h1,h2⟩,zZh,zZh]at hr;subst hr;refine eM call280 λF hF=>?_
     refine zW c ?_;exact zL
    ·(refine eM call280 λF hF=>?_)
     refine zW c ?_;exact zL
   ·(refine eM call280 λF hF=>?_)
    refine zW c ?_;exact zL
 have c0:=JO (l.getD 0 default);have hr':=hr;unfold LH at hr';simp only[zY6,zYx]at hr';obtain⟨⟨hu,h1,h2⟩,h3⟩:=hr';have hy0':=hy0;rw[h3]at c0;rw[show xE (l.getD 0 default)=NX true (l.getD 0 default) by unfold xE NX;rw[hu]]at hy0' c0;unfold NX at hy0' c0;clear hy0;generalize ht0:l.getD 0 default=t0 at hy0' c0 h1 h2;refine eM call280 λF hF=>?_
 refine zW c0 ?_;refine xV (7) [] [] [0] [4,0] rfl (λi T U zs=>(∀s:Nat,s<i->PI l ((s:Int)+1)=true)/\zs=⟨(4,iA ((i:Int)+1))::T,U⟩) ?_;(conv=>whnf);refine⟨?_,?_,?_⟩
 ·exact⟨λs hs=>absurd hs (yBb _),rfl⟩
 ·rintro i st hi ⟨hp,rfl⟩
  have next:PI l ((i:Int)+1)=true->∀s:Nat,s<i+1->PI l ((s:Int)+1)=true:=λh s hs=>by
   by_cases hsi:s=i
   ·subst hsi;exact h
   ·exact hp s zB
  have stop:=λh=>zSx (l:=l) hi h
  have hy:=yP xE l ((i:Int)+1) zB zB;have c1:=JO (l.getD ((i:Int)+1).toNat default);have c2:=zGy (l.getD ((i:Int)+1).toNat default);have c3:=zGs l ((i:Int)+1) 0;have hpar:=zNy (l:=l) (s:=(i:Int)+1);have htok:PI l ((i:Int)+1)=_:=rfl
  conv at htok=>rhs;unfold PI
  generalize l.getD ((i:Int)+1).toNat default=t at *;generalize PI l ((i:Int)+1)=tk at *;cases hu:t.used
  ·rw[show xE t=NX false t by unfold xE NX;rw[hu]]at hy;rw[hu,zYo zU]at htok;rw[<-htok]at c2;unfold NX at hy c2;cases tk
   ·rw[stop rfl];refine zW c2 ?_;exact zL
   ·(refine zW c2 ?_)
    exact⟨next rfl,by rw[Int.natCast_succ];rfl⟩
  ·rw[show xE t=NX true t by unfold xE NX;rw[hu]]at hy c1;rw[hu,zYp rfl]at htok;unfold NX at hy c1;generalize soF t=q1 at *;generalize hq2:deF l ((i:Int)+1) 0=q2 at *;cases q1
   ·rw[yAf,yAf]at htok;rw[stop htok];refine zW c1 ?_;exact zL
   cases q2
   ·rw[zZh,yAf]at htok;rw[stop htok];refine xA (vD c1 c3) ?_;exact zL
   rw[zZh,zZh]at htok;obtain⟨p0,p1⟩:=XM (hpar rfl zB);have hyp:=yP xE l t.par p0 p1;generalize l.getD t.par.toNat default=p at *;have c4:=FO t.rights p.rights;have c5:=zBy t.til p.til;generalize wiF t.rights p.rights=q3 at *;generalize laF t.til p.til=q4 at *;cases q3
   ·rw[yAf,yAf]at htok;rw[stop htok];refine xA (gK c1 c3 c4) ?_;exact zL
   by_cases hcl:t.cls<=p.cls
   ·rw[zYu hcl,zZh,zZh]at htok;cases q4
    ·(refine xA (aG c1 c3 c4 c5) ?_)
     exact⟨next htok,by rw[Int.natCast_succ];rfl⟩
    ·rw[stop htok];refine xA (aG c1 c3 c4 c5) ?_;exact zL
   ·rw[zYw hcl,zZh,yAf]at htok;rw[stop htok];refine xA (aG c1 c3 c4 c5) ?_;exact zL
 ·rintro st ⟨hp,rfl⟩
  rw[show ML l=true by
   unfold ML;rw[zYu h8,hr,zZh,zZh]
   exact zY3.2 λi hi=>hp i (zZi.1 hi)]
  refine WW ?_;exact zL
def ldF (l:List Tk):Nat->Int->Int->Bool
 |0,_,_=>false
 |n+1,f,t=>fP l f&&(f==t||ldF l n (l.getD f.toNat default).par t)
theorem zGz (l:List Tk) (n:Nat) (f t:Int):ldF l (n+1) f t=(fP l f&&(f==t||ldF l n (l.getD f.toNat default).par t)):=rfl
theorem zG0 (l:List Tk) (t:Int):∀(n:Nat) (f:Int),ldF l n f t=(YX l n f).any λa=>a==t
 |0,_=>rfl
 |n+1,f=>by
  rw[zGz,jF];cases fP l f
  ·rfl
  ·rw[zZ8,List.any_cons,zG0 l t n,zZh]
def SU (l:List Tk) (s:Nat):Bool:=if(l.getD s default).used=true then soF (l.getD s default)&&ldF l (l.length+1) s 0&&(decide (s=0)||(wiF (l.getD s default).rights (l.getD (l.getD s default).par.toNat default).rights&&decide ((l.getD s default).cls<=(l.getD (l.getD s default).par.toNat default).cls)&& !laF (l.getD s default).til (l.getD (l.getD s default).par.toNat default).til))
 else FM (l.getD s default)
def PJ (t:Tk):Bool:=t.used&&decide (t.par= -1/\t.til=0)
def zG1 (l:List Tk):Bool:=decide ((l.length:Int)=8)&&(PJ (l.getD 0 default)&&(List.range l.length).all λi=>SU l i)
theorem LI (l:List Tk):yU [zD xE l] [] (bA (zG1 l)) []:=yG
theorem zNz (l:List Tk) (s:Int) (hn:l.length=8):yU [zD xE l,iA s] [] (iA (eV (λi=>ldF l (l.length+1) i s) 8)) []:=yG
def frB (p:Nat->Bool) (l:List Tk) (n:Nat):List Tk:=(List.range l.length).map λj=>if j<n/\p j=true then frT else l.getD j default
theorem zN0 (l:List Tk) (hb:GJ l) (p:Nat->Bool) (hn:l.length=8):yU [zD xE l,iA (eV p 8)] [] (zD xE (frB p l 8)) []:=yG
theorem zG2:∀(n:Nat) (f:Nat->Nat),(∀i,i<=n->f i<n)->∃i j,i<j/\j<=n/\f i=f j
 |0,f,h=>absurd (h 0 (zYs _)) (yBb _)
 | n+1,f,h=>by
  by_cases hx:∃i,i<=n/\f i=f (n+1)
  ·obtain⟨i,h1,h2⟩:=hx;exact⟨i,n+1,zB,zYs _,h2⟩
  ·obtain⟨i,j,h1,h2,h3⟩:=zG2 n (λi=>if f i<f (n+1)then f i else f i-1) λi hi=>by
    have h4:=h i zB;have h5:=h (n+1) (zYs _);have h6:f i≠f (n+1):=λe=>hx ⟨i,hi,e⟩
    split<;>omega
   refine⟨i,j,h1,zB,?_⟩;have h4:f i≠f (n+1):=λe=>hx ⟨i,zB,e⟩
   have h5:f j≠f (n+1):=λe=>hx ⟨j,h2,e⟩
   split at h3<;>split at h3<;>omega
def par (l:List Tk) (s:Int):Int:=(l.getD s.toNat default).par
def FN (l:List Tk) (s:Int):Nat->Int
 |0=>s
 |k+1=>par l (FN l s k)
theorem aQ (l:List Tk) (s:Int):∀k,FN l s (k+1)=FN l (par l s) k
 |0=>rfl
 |k+1=>by rw[FN,aQ l s k];rfl
theorem JP (l:List Tk) (s:Int) (i:Nat):∀k,FN l s (i+k)=FN l (FN l s i) k
 |0=>rfl
 |k+1=>by rw[<-yDu,FN,JP l s i k];rfl
theorem bH (l:List Tk) (t:Int):∀(n:Nat) (s:Int),t∈YX l n s↔∃k,k<n/\(∀j,j<=k->fP l (FN l s j)=true)/\FN l s k=t
 |0,s=>by simp[YX]
 | n +1,s=>by
  rw[jF];constructor
  ·intro h;cases hu:fP l s
   ·rw[hu]at h;simp at h
   ·rw[hu,zZ8,zZ5]at h
    rcases h with rfl|h
    ·exact⟨0,zB,λj hj=>by rw[Nat.le_zero.1 hj];exact hu,rfl⟩
    ·obtain⟨k,h1,h2,h3⟩:=(bH l t n _).1 h;refine⟨k+1,zB,λj hj=>?_,by rw[aQ];exact h3⟩
     cases j with
     |zero=>exact hu
     |succ j=>rw[aQ];exact h2 j zB
  ·rintro⟨k,h1,h2,h3⟩;have hu:=h2 0 (zY4 _)
   change fP l s=true at hu
   rw[hu,zZ8,zZ5]
   cases k with
   |zero=>exact .inl h3.symm
   |succ k=>
    rw[aQ]at h3;refine .inr ((bH l t n _).2 ⟨k,zB,λj hj=>?_,h3⟩);have:=h2 (j+1) zB;rw[aQ]at this;exact this
theorem zQ1 {l:List Tk} (h8:l.length=8) (s t:Int) (n:Nat) (h:t∈YX l n s):t∈YX l 8 s:=by
 obtain⟨k,_,h2,h3⟩:=(bH l t n s).1 h;clear h
 suffices ∀m k,k<=m->(∀j,j<=k->fP l (FN l s j)=true)->FN l s k=t->t∈YX l 8 s from this k k (zYs _) h2 h3
 intro m
 induction m with
 |zero=>intro k hk h2 h3;exact(bH l t 8 s).2 ⟨k,zB,h2,h3⟩
 | succ m ih=>
  intro k hk h2 h3;by_cases h:k<8
  ·exact(bH l t 8 s).2 ⟨k,h,h2,h3⟩
  obtain⟨i,j,h4,h5,h6⟩:=zG2 8 (λi=>(FN l s i).toNat) λi hi=>by
   have:=XM (h2 i zB);omega
  have e1:=XM (h2 i zB);have e2:=XM (h2 j zB);have e3:FN l s i=FN l s j:=by omega
  have e4:∀r,FN l s (i+r)=FN l s (j+r):=λr=>by rw[JP,JP,e3]
  refine ih (i+(k-j)) zB (λr hr=>h2 r zB) ?_;rw[e4,show j+(k-j)=k by omega];exact h3
theorem zG3 (l:List Tk) {t s:Int} {n m:Nat} (hnm:n<=m) (h:t∈YX l n s):t∈YX l m s:=by
 obtain⟨k,h1,h2,h3⟩:=(bH l t n s).1 h;exact(bH l t m s).2 ⟨k,zB,h2,h3⟩
inductive Rch (l:List Tk):Int->Int->Prop
 |base (s:Int):fP l s=true->Rch l s s
 |step (s t:Int):fP l s=true->Rch l (par l s) t->Rch l s t
theorem AU (l:List Tk) (t:Int):∀(n:Nat) (s:Int),t∈YX l n s->Rch l s t
 |0,s,h=>by simp[YX]at h
 | n+1,s,h=>by
  rw[jF]at h;cases hu:fP l s
  ·rw[hu]at h;simp at h
  ·rw[hu,zZ8,zZ5]at h
   rcases h with rfl|h
   ·exact .base _ hu
   ·exact .step _ _ hu (AU l t n _ h)
theorem zBt {l:List Tk} {s t:Int} (h:Rch l s t):∃n,t∈YX l n s:=by
 induction h with
 |base s hu=>exact⟨1,by rw[jF,hu,zZ8];exact List.mem_cons_self⟩
 |step s t hu _ ih=>
  obtain⟨n,hn⟩:=ih;exact⟨n+1,by rw[jF,hu,zZ8];exact List.mem_cons_of_mem _ hn⟩
theorem JQ {l:List Tk} (h8:l.length=8) (s t:Int):ldF l 9 s t=true↔Rch l s t:=by
 rw[zG0,yAd];constructor
 ·rintro⟨x,h1,h2⟩;rw[zZ7]at h2;subst h2;exact AU l _ _ _ h1
 ·intro h;obtain⟨n,hn⟩:=zBt h;exact⟨t,zG3 l zB (zQ1 h8 s t n hn),by simp⟩
theorem zSy {l:List Tk} (h8:l.length=8) (s t:Int):deF l s t=true↔Rch l s t:=by
 unfold deF;rw[yAd];constructor
 ·rintro⟨x,h1,h2⟩;rw[zZ7]at h2;subst h2;exact AU l _ _ _ h1
 ·intro h;obtain⟨n,hn⟩:=zBt h;exact⟨t,zQ1 h8 s t n hn,by simp⟩
theorem zQ2 {l:List Tk} (h8:l.length=8) (s t:Int):deF l s t=ldF l 9 s t:=by
 rw[yDf,zSy h8,JQ h8]
theorem zG4 (l:List Tk):ML l=zG1 l:=by
 unfold ML zG1;by_cases h8:l.length=8
 case neg=>rw[zYw zB];rfl
 rw[zYu zB,zZh,zZh,h8,yDf];simp only[zY6,zY3,zZi]
 have hs:∀i:Nat,i<7->(PI l ((i:Int)+1)=SU l (i+1)):=λi hi=>by
  unfold PI SU;rw[zQ2 h8,h8,show(((i+1:Nat):Int)=(i:Int)+1) by omega,show((i:Int)+1).toNat=i+1 by omega,zYw (by omega:¬i+1=0),yBh]
 constructor
 ·rintro⟨h1,h2⟩;unfold LH at h1;simp only[zY6,zYx]at h1;obtain⟨⟨u,p,q⟩,r⟩:=h1;refine⟨by unfold PJ;rw[u,p,q];rfl,λi hi=>?_⟩
  cases i with
  |zero=>
   unfold SU;rw[zYp u,r,h8];have:ldF l 9 ((0:Nat):Int) 0=true:=(JQ h8 _ _).2 (.base _ (by unfold fP;rw[zYu zB];exact u));rw[show(8+1)=9 from rfl,this];rfl
  |succ i=>rw[<-hs i zB];exact h2 i zB
 ·rintro⟨h1,h2⟩;have h3:=h2 0 zB;unfold PJ at h1;simp only[zY6,zYx]at h1;obtain⟨u,p,q⟩:=h1;unfold SU at h3;rw[zYp u]at h3;simp only[zY6]at h3;refine⟨by unfold LH;rw[u,p,q,h3.1.1];rfl,λi hi=>by rw[hs i hi];exact h2 (i+1) zB⟩
structure TV (l:List Tk):Prop where
 n:l.length=8
 u:(l.getD 0 default).used=true
 p:(l.getD 0 default).par= -1
 e:(l.getD 0 default).til=0
 f:∀i,i<8->(l.getD i default).used=false->FM (l.getD i default)=true
 s:∀i,i<8->(l.getD i default).used=true->soF (l.getD i default)=true/\Rch l i 0/\(i≠0->wiF (l.getD i default).rights (l.getD (l.getD i default).par.toNat default).rights=true/\(l.getD i default).cls<=(l.getD (l.getD i default).par.toNat default).cls/\laF (l.getD i default).til (l.getD (l.getD i default).par.toNat default).til=false)
theorem zSz (l:List Tk):zG1 l=true↔TV l:=by
 unfold zG1;simp only[zY6,zYx,zY3,zZi];constructor
 ·rintro⟨h8,h1,h2⟩;have h8:l.length=8:=by omega
  unfold PJ at h1;simp only[zY6,zYx]at h1;refine⟨h8,h1.1,h1.2.1,h1.2.2,λi hi hu=>?_,λi hi hu=>?_⟩
  ·have:=h2 i zB;unfold SU at this;rw[zYo (by rw[hu];simp)]at this;exact this
  ·have:=h2 i zB;unfold SU at this;rw[zYp hu,h8]at this;simp only[zY6,yAt,zYx,yA3]at this;obtain⟨⟨a,b⟩,c⟩:=this;refine⟨a,(JQ h8 _ _).1 b,λh0=>?_⟩
   rcases c with c|c
   ·exact absurd c h0
   ·exact⟨c.1.1,c.1.2,c.2⟩
 ·rintro⟨h8,u,p,e,f,s⟩;refine⟨zB,by unfold PJ;rw[u,p,e];rfl,λi hi=>?_⟩;unfold SU;cases hu:(l.getD i default).used
  ·rw[zYo zU];exact f i zB hu
  ·rw[zYp rfl,h8];obtain⟨a,b,c⟩:=s i zB hu;simp only[zY6,yAt,zYx,yA3];refine⟨⟨a,(JQ h8 _ _).2 b⟩,?_⟩;by_cases h0:i=0
   ·exact .inl h0
   ·have c:=c h0;exact .inr ⟨⟨c.1,c.2.1⟩,c.2.2⟩
theorem Rch.us {l:List Tk} {s t:Int} (h:Rch l s t):fP l s=true:=by
 cases h<;>assumption
theorem Rch.trans {l:List Tk} {s t u:Int} (h:Rch l s t) (g:Rch l t u):Rch l s u:=by
 induction h with
 |base _ _=>exact g
 |step s t hu _ ih=>exact .step _ _ hu (ih g)
def jW (n a b:Int):Bool:=decide (a<=n/\n<=b)
theorem vV (n a b:Int):zO 141 [iA n,iA a,iA b] [] (bA (jW n a b)) []:=by
 (cases hb:jW n a b with|false=>((refine eM call141 λF hF=>?_);((refine WW (I2 (λhc=>?_) (λhc=>?_))));all_goals (first|exact zL|(simp only[jW,zY9]at hb;first|exact zXO|exact zFB)))|true=>(simp only[jW,zYx]at hb;(refine eM call141 λF hF=>?_);((refine WW ?_));all_goals (first|exact zL|exact zXO|exact zFB)))
structure AgV (a:Ag):Prop where
 s:(a.sec.length:Int)=8
 l:(a.lim.length:Int)=4
 li:∀n∈a.lim,0<=n/\n<=8
 r:0<=a.rights/\a.rights<=63
 c:0<=a.cls/\a.cls<=3
 q:0<=a.req/\a.req<=4
 e:1<=a.ses/\a.ses<=2
 b:0<=a.burst/\a.burst<=1000
 t:0<=a.rate/\a.rate<=a.burst
theorem zQ3 {n a b:Int} (h:a<=n/\n<=b):jW n a b=true:=zYu h
theorem zEd (a:Ag) (h:AgV a):zO 143 [wN a] [] (bA true) []:=by
 obtain⟨h1,h2,h3,h4,h5,h6,h7,h8,h9⟩:=h;have hs:=zA yA a.sec;have hl:=zA iA a.lim;have c1:=vV a.rights 0 63;have c2:=vV a.cls 0 3;have c3:=vV a.req 0 4;have c4:=vV a.ses 1 2;have c5:=vV a.burst 0 1000;have c6:=vV a.rate 0 a.burst;rw[zQ3 zB]at c1 c2 c3 c4 c5 c6;refine eM call143 λF hF=>?_
 refine WW ?_;refine yS (a.lim) [1] [1] [1,16,17] [18,1,16,17] rfl (λi pre T U=>⟨(18,iA i)::T,U⟩) ?_;(conv=>whnf);refine⟨by rfl,?_,?_⟩
 ·intro i pre x post hx hi;have hy:=xO iA hx hi;have hlt:=yX hx hi;have hm:=h3 x (wY hx);have c:=vV x 0 8;rw[zQ3 zB]at c;clear hx;refine zW c ?_;rfl
 ·(refine xA (zt6 c1 c2 c3 c4 c5 c6) ?_)
  exact zL
def a0:Ag:=⟨dS 1,1,0,[1,1,1,1],0,1,0,2⟩
theorem jG (n:Int):(dS n).length=8:=by simp[dS]
theorem zN1 (n:Int):0<=IntKind.u8.wrap n/\IntKind.u8.wrap n<256:=by
 have:IntKind.u8.wrap n=n % 256:=rfl;omega
theorem ZX (n:Int):BY (dS n):=λx hx=>by
 unfold dS at hx;rw[zZ3]at hx;obtain⟨i,_,rfl⟩:=hx;exact zN1 _
theorem JR {g s:Int} {l:List Int} (hg:0<=g/\g<256) (hs:0<=s/\s<256) (hl:BY l):BY (g::s::l):=λx hx=>by
 simp only[zZ5]at hx
 rcases hx with rfl|rfl|hx
 ·exact hg
 ·exact hs
 ·exact hl x hx
theorem zWb (n:Int) (a:Ag) (h:AgV a):FT (FL n a):=by
 have h1:=h.s;have h2:=h.l;refine⟨⟨by simp[FL,tkN],λt ht=>?_⟩,by unfold FL;dsimp only;omega,by unfold FL;dsimp only;omega,by simp[FL]⟩;simp only[FL,tkN,zZ5]at ht
 rcases ht with rfl|ht
 ·dsimp only;omega
 ·rw[List.eq_of_mem_replicate ht];simp[frT]
section
open Go.RowKit
def LIn (k:IntKind) (w:World) (A:Option Addr) (n c:Nat) (xs:List Int):Prop:=
 xs.length=n/\n<=c/\c<=9223372036854775807/\(0<n->∃b o,A=some ⟨b,o,none⟩/\b<w.heap.size/\∀j,j<n->w.cell? ⟨b,o+j,none⟩=some (.int k (xs.getD j 0)))
theorem LIn.of_row {k:IntKind} {w:World} {a:Option Addr} {len cap:Nat} {zs:List Int}
  (h:(a=none/\len=0/\cap=0/\zs=[])∨∃x,a=some x/\len<=cap/\cap<=maxLen/\zs.length=cap/\(∀i,i<zs.length->w.cell? (x.add i)=some (.int k (zs.getD i 0)))/\∀n∈zs,(Lit.int k n).wf=true):
  LIn k w a len cap (zs.take len):=by
 rcases h with⟨rfl,rfl,rfl,rfl⟩|⟨x,rfl,h1,h2,h3,h4,_⟩
 ·exact⟨rfl,zYs _,zB,λh=>absurd h zB⟩
 ·refine⟨by simp;omega,h1,by unfold maxLen at h2;omega,λhn=>?_⟩;obtain⟨b,off,spot⟩:=x;have hc:=h4 0 zB;have hspot:spot=none:=by simpa [Addr.add]using World.cell?_spot hc
  subst hspot;have hc0:w.cell? ⟨b,off,none⟩=some (.int k (zs.getD 0 0)):=by simpa [Addr.add]using hc
  refine⟨b,off,rfl,World.block_lt_of_cell? w _ hc0,λj hj=>?_⟩;have hcj:=h4 j zB
  have e:(⟨b,off,none⟩:Addr).add j=⟨b,off+j,none⟩:=by unfold Addr.add;split<;>simp_all
  rw[e]at hcj;rw[hcj];have hjz:j<zs.length:=by omega
  simp[List.getD,hj,hjz]
theorem LIn.repf {k:IntKind} {w:World} {A:Option Addr} {n c:Nat} {xs:List Int} (h:LIn k w A n c xs) {D:Nat->Prop} (hD:∀b,¬D b):xG w D (.sl false (xs.map λn=> .s (.int k n))) (.slice A n c):=by
 obtain⟨rfl,h2,h3,h4⟩:=h
 cases hx:xs with
 |nil=>exact .nil A c
 | cons x r=>
  rw[<-hx];obtain⟨b,o,rfl,hb,hc⟩:=h4 (by rw[hx];simp)
  have:=xG.sl (w:=w) (D:=D) false (xs.map λn=>AV.s (.int k n)) b o 1 c (λi _=> .int k (xs.getD i 0)) (by rw[hx];simp)
   ⟨hb,hD b,zYs _,by simp[dT];omega,λi y hy=>by
    rw[zYt,zY1]at hy;obtain⟨z,_,rfl⟩:=hy
    rfl,λi j hi hj=>by
    obtain rfl:j=0:=by omega
    rw[Nat.mul_one,yBi]
    exact hc i EL,λ_ _ _ _=>rfl⟩ LS (λi y j v hy hv=>by
    rw[zYt,zY1]at hy;obtain⟨z,hz,rfl⟩:=hy
    cases j with
    |zero=>
     simp[AV.cells]at hv;subst hv;have:xs.getD i 0=z:=by simp[List.getD,hz]
     rw[this];exact .s _
    |succ j=>simp[AV.cells]at hv)
  simpa using this
theorem yH.law {P:Program} {f:Nat} {args:List AV} (h:yH P f args [] (.s (.bool true)) []) {cargs:Array Value} {w:World} (hl:cargs.size=args.length)
  (hr:∀(i:Nat) v,args[i]? =some v->xG w (xH (λ_=>False) λ_=>[]) v (cargs.getD i undef)):Calls P f cargs w λe w'=>e= .returned (.bool true)/\Below w.heap.size w w':=by
 have H:kQ (λ_=>False) (zC []) (λ_=>[]) w:=⟨λk e he=>by simp[zC]at he,λ_ _=>rfl,λk k' b n n' h1 _=>by simp at h1,λk b n h1=>by simp at h1,λb hd=>by
  rcases hd with hd|⟨_,_,hd⟩
  ·exact hd.elim
  ·simp at hd⟩
 refine Calls.mono (h.sim (λ_=>False) w (λ_=>[]) cargs hl H λi v hv=> .fz _ _ (hr i v hv)) ?_;rintro e w' ⟨c,β',rfl,G,hc⟩;have:c= .bool true:=hc.s_inv;subst this;exact⟨rfl,G.os,G.tape,G.output,G.size,λk hk=>G.keep k hk λ_ _ hm=>by simp at hm⟩
theorem dom0:∀b,¬xH (λ_=>False) (λ_=>[]) b:=λb hd=>by
 rcases hd with hd|⟨_,_,hd⟩
 ·exact hd
 ·simp at hd
def aR (w:World):List AV->List Value->Prop
 | [],[]=>True
 |a::r,c::s=>xG w (xH (λ_=>False) λ_=>[]) a c/\aR w r s
 |_,_=>False
theorem aR.len {w:World}:∀{l:List AV} {s:List Value},aR w l s->s.length=l.length
 | [],[],_=>rfl
 |_::_,_::_,h=>by simp[aR.len h.2]
 | [],_::_,h=>h.elim
 |_::_,[],h=>h.elim
theorem aR.at {w:World}:∀{l:List AV} {s:List Value},aR w l s->∀(i:Nat) v,l[i]? =some v->xG w (xH (λ_=>False) λ_=>[]) v (s.getD i undef)
 | [],[],_,i,v,hv=>by simp at hv
 |a::_,c::_,h,0,v,hv=>by simp at hv;subst hv;exact h.1
 |_::_,_::_,h,i+1,v,hv=>by simpa using aR.at h.2 i v EM
 | [],_::_,h,_,_,_=>h.elim
 |_::_,[],h,_,_,_=>h.elim
theorem yH.lawL {P:Program} {f:Nat} {args:List AV} (h:yH P f args [] (.s (.bool true)) []) {cs:List Value} {w:World} (hr:aR w args cs):Calls P f cs.toArray w λe w'=>e= .returned (.bool true)/\Below w.heap.size w w':=
 h.law (by simpa using hr.len) λi v hv=>by simpa [zZq,List.getD]using hr.at i v hv
theorem LIn.le {k:IntKind} {w:World} {A:Option Addr} {n c:Nat} {xs:List Int} (h:LIn k w A n c xs):xs.length<=9223372036854775807:=by
 obtain⟨h1,h2,h3,_⟩:=h;omega
end
def rem (d:Dk):Nat:=d.l.length-d.a
theorem wP (d:Dk):rem (ad d)<=rem d:=by unfold ad;split;(unfold rem;dsimp only;omega);exact zYs _
theorem zS0 (d:Dk) (h:d.a<d.l.length):rem (ad d)+1<=rem d:=by unfold ad;rw[yEo h];unfold rem;dsimp only;omega
theorem zWc (l:List Int) (hl:l.length<=9223372036854775807):zO 9 [zD iA l] [] (bA (decide (l.length<=300))) []:=by
 have hll:=zA iA l;by_cases h:l.length<=300
 ·rw[zYu h];refine eM call9 λF hF=>?_
  refine WW ?_;exact zL
 ·rw[zYw h];refine eM call9 λF hF=>?_
  refine WW ?_;exact zL
theorem zG5 (d:Dk):zO 21 [.ptr 1000 0 0] [(1000,cG d)] (bA (decide (d.a<d.l.length))) [(1000,cG d)]:=by
 have hl:(d.l.map iA).length=d.l.length:=by simp
 refine eM call21 λF hF=>?_
 (repeat' (first|refine ZY ?_|refine xR (λhc=>?_) (λhc=>?_)|fail))
 refine zJ [1000] rfl rfl (zZl bA ?_) rfl;simp[qT]
structure TkP (l:List Tk):Prop where
 n:l.length=8
 y:∀t∈l,BY t.sec/\t.sec.length<=8/\(t.used=true->t.sec.length=8/\BK t.rights=true/\0<=t.til/\t.til<=2147483648)
 v:TV l
theorem TkP.b {l:List Tk} (h:TkP l):GJ l:=⟨by have:=h.n;omega,λt ht=>by have:=(h.y t ht).2.1;omega⟩
def aF:List Int->Nat->Int->Int×Int×Int
 | [],_,_=>(0,0,6)
 |x::r,i,n=>if i=5 then(0,0,6)else if 128<=x then aF r (i+1) (n+x.tmod 128*128 ^ i)else if 4294967295<n+x.tmod 128*128 ^ i∨(0<i/\x=0)then(0,0,6)else(n+x.tmod 128*128 ^ i,i+1,0)
def bZ (b:List Int):Int×Int×Int:=aF b 0 0
def szF (n:Int):Int:=if n<0∨4294967295<n then 0 else if n<128 then 1 else if n<16384 then 2 else if n<2097152 then 3 else if n<268435456 then 4 else 5
def lgF (m:Int):Int:=if m<128 then 0 else if m<16384 then 1 else if m<2097152 then 2 else if m<268435456 then 3 else 4
theorem zG6 {n:Int} (h0:0<=n) (h1:n<=4294967295):szF n=1+lgF n:=by
 unfold szF lgF;rw[zYo zB]
 repeat' split
 all_goals omega
theorem zN2 {m:Int} (h0:128<=m) (h1:m<=4294967295):lgF m=1+lgF (m/128):=by
 unfold lgF;rw[zYo zB]
 repeat' split
 all_goals omega
theorem zS1 {m:Int} (h:m<128):lgF m=0:=zYp h
theorem zG7 (n:Int):zO 203 [iA n] [] (iA (szF n)) []:=by
 by_cases h:n<0∨4294967295<n
 ·have e:szF n=0:=zYp h;rw[e];by_cases h1:n<0
  ·(refine eM call203 λF hF=>?_)
   refine WW ?_;exact zL
  ·have h2:=h.resolve_left h1;refine eM call203 λF hF=>?_
   refine WW ?_;exact zL
 have h1:0<=n:=by omega
 have h2:n<=4294967295:=by omega
 rw[zG6 h1 h2];generalize hs:1+lgF n=s;refine eM call203 λF hF=>?_
 refine WW ?_;refine gY (5) [] [] [] [0,3] rfl (λzn T U zs=>∃(m:Int) (k:Int),(0<=m/\m<=4294967295/\k=6-zn/\1<=k/\k<=5/\(k=2->m<=33554431)/\(k=3->m<=262143)/\(k=4->m<=2047)/\(k=5->m<=15)/\s=k+lgF m)/\zs=⟨(0,iA m)::(3,iA k)::T,U⟩) ?_;(conv=>whnf);refine⟨?_,?_⟩
 ·exact⟨n,1,⟨h1,h2,zB,zB,zB,zB,zB,zB,zB,hs.symm⟩,rfl⟩
 ·rintro zn st ⟨m,k,⟨q0,q1,q2,q3,q4,q5,q6,q7,q8,q9⟩,rfl⟩;by_cases hm:128<=m
  ·have hd:=zN2 hm q1;have hmd:m.tdiv 128=m/128:=yAh q0;have hir:XB .i64 (m.tdiv 128):=⟨zB,zB⟩;refine WW ?_;refine⟨zn-1,zB,m.tdiv 128,k+1,⟨zB,zB,zB,zB,zB,zB,zB,zB,zB,by rw[hmd];omega⟩,rfl⟩
  ·rw[zS1 zB]at q9;obtain rfl:s=k:=by omega
   refine WW ?_;exact zL
theorem zWd {i:Nat} (h:i<=4):((128:Int) ^ i=1/\i=0)∨((128:Int) ^ i=128/\i=1)∨((128:Int) ^ i=16384/\i=2)∨((128:Int) ^ i=2097152/\i=3)∨((128:Int) ^ i=268435456/\i=4):=by
 obtain rfl|rfl|rfl|rfl|rfl:i=0∨i=1∨i=2∨i=3∨i=4:=by omega
 all_goals simp
theorem zQ4 {x P:Int} (x0:0<=x) (x1:x<128) (P0:1<=P) (P1:P<=268435456):0<=x*P/\x*P<=127*P:=by
 refine⟨Int.mul_nonneg x0 zB,Int.mul_le_mul_of_nonneg_right zB zB⟩
section
variable {P:Program} {tm:List (Nat×AV)} {h:List (Nat×xP)} {tx ty:Nat} {x y:Operand}
theorem zS2:∀k:_root_.Fin 256,IntKind.u8.wrap (BitVec.ofInt IntKind.u8.bits (k.val:Int) &&& BitVec.ofInt IntKind.u8.bits 127).toNat=((k.val:Int)).tmod 128:=by decide +kernel
theorem aS {m:Int} (hx:yO (zG tm) x= .s (.int .u8 m)) (hy:yO (zG tm) y= .s (.int .u8 127)) (h0:0<=m/\m<256):wR P ⟨tm,h⟩ (.binOp .and tx x y ty) (.s (.int .u8 (m.tmod 128))) [] [] []:=by
 have e:=zS2 ⟨m.toNat,zB⟩;simp only[show((m.toNat:Nat):Int)=m by omega]at e;rw[<-e];exact QF hx hy
end
theorem zN3 (a b:Nat) (ha:a<2 ^ 60) (hb:b<2 ^ 60):orI a b=((a ||| b:Nat):Int):=by
 have h:=Nat.or_lt_two_pow ha hb;unfold orI;rw[show BitVec.ofInt IntKind.i64.bits (a:Int)=BitVec.ofNat IntKind.i64.bits a from yCp ..];rw[show BitVec.ofInt IntKind.i64.bits (b:Int)=BitVec.ofNat IntKind.i64.bits b from yCp ..];rw[BitVec.toNat_or,yCl,yCl,yBn (zZx ha (yCs xN xN)),yBn (zZx hb (yCs xN xN))];refine kL ⟨?_,?_⟩
 ·show(-9223372036854775808:Int)<=_
  omega
 ·show _<=(9223372036854775807:Int)
  have:(2:Nat) ^ 60=1152921504606846976:=rfl;omega
theorem zS3 {i:Nat} {n y:Int} (h:i<=4) (h0:0<=n) (h1:n<128 ^ i) (y0:0<=y) (y1:y<128):orI n (IntKind.i64.wrap (y*2 ^ (min ((7*(i:Int)).toNat) IntKind.i64.bits)))=n+y*128 ^ i:=by
 have hb:IntKind.i64.bits=64:=rfl;have e1:min ((7*(i:Int)).toNat) 64=7*i:=by omega
 have e2:(2:Int) ^ (7*i)=128 ^ i:=by rw[Int.pow_mul];rfl
 rw[hb,e1,e2];have hP:1<=(128:Int) ^ i/\(128:Int) ^ i<=268435456:=by have:=zWd h;omega
 have hz:=zQ4 y0 y1 hP.1 hP.2;rw[show IntKind.i64.wrap (y*128 ^ i)=y*128 ^ i from kL (k:= .i64) (by unfold XB;generalize y*128 ^ i=Z at *;generalize (128:Int) ^ i=Pw at *;omega)];obtain⟨a,rfl⟩:=yB1 h0;obtain⟨c,rfl⟩:=yB1 y0;have hPn:(128:Int) ^ i=((128 ^ i:Nat):Int):=by simp
 rw[hPn]at h1 hz hP⊢;have ha:a<128 ^ i:=by omega
 rw[show((c:Int)*((128 ^ i:Nat):Int))=((c*128 ^ i:Nat):Int) by simp]at hz⊢;rw[zN3 a (c*128 ^ i) (by have:(2:Nat) ^ 60=1152921504606846976:=rfl;omega) (by have:(2:Nat) ^ 60=1152921504606846976:=rfl;omega)];have e3:(128:Nat) ^ i=2 ^ (7*i):=by rw[Nat.pow_mul]
 rw[e3]at ha⊢;have:=Nat.shiftLeft_add_eq_or_of_lt ha c;rw[Nat.shiftLeft_eq]at this;rw[Nat.or_comm,<-this];omega
theorem zWe (b:List Int) (hb:BY b) (hn:b.length<=100000):zO 173 [zD yA b] [] (.tup [iA (bZ b).1,iA (bZ b).2.1,iA (bZ b).2.2]) []:=by
 have hl:=zA yA b;refine eM call173 λF hF=>?_
 refine WW ?_;refine kR (b) [] [] [8,9] [5,10,8,9] rfl (λi pre T U zs=>∃n:Int,(0<=n/\n<128 ^ i/\i<=5/\∀post,b=pre++post->bZ b=aF post i n)/\zs=⟨(5,iA n)::(10,iA i)::T,U⟩) ?_;(conv=>whnf);refine⟨?_,?_,?_⟩
 ·exact⟨0,⟨zB,by decide,zB,λpost h=>by rw[h];rfl⟩,rfl⟩
 ·rintro i pre x r st hx hi ⟨n,⟨q0,q1,q2,q3⟩,rfl⟩;have hy:=xO yA hx hi;have hlt:=yX hx hi;have hxb:=hb x (wY hx);rw[q3 _ hx]
  have q4:∀post,b=pre++[x]++post->post=r:=λpost h=>by
   rw[hx,zZc]at h;simpa using h.symm
  clear q3 hx;by_cases hi5:i=5
  ·subst hi5
   show uI _ _ _ _ _ (XY (inB 0 (LP _ _ _ _ (Fin _ _ [] (.tup [iA 0,iA 0,iA 6]) []))) _)
   clear q4;refine WW ?_;exact zL
  have ht:x.tmod 128=x % 128:=yAi hxb.1;have hPb:=zWd (i:=i) zB;have hPw:1<=(128:Int) ^ i/\(128:Int) ^ i<=268435456:=by omega
  have hz:=zQ4 (x:=x.tmod 128) (P:=128 ^ i) zB zB zB zB;have hE:=zS3 (i:=i) (n:=n) (y:=x.tmod 128) zB q0 q1 zB zB;have hP1:(128:Int) ^ (i+1)=128 ^ i*128:=rfl;by_cases h128:128<=x
  ·have e:aF (x::r) i n=aF r (i+1) (n+x.tmod 128*128 ^ i):=by rw[aF,zYo hi5,zYp h128]
   rw[e]
   have hm1:0<=n+x.tmod 128*128 ^ i/\n+x.tmod 128*128 ^ i<128 ^ (i+1):=by
    rw[hP1];generalize x.tmod 128*128 ^ i=Z at *;omega
   clear hPb e hz;generalize n+x.tmod 128*128 ^ i=M at*
   (repeat' (first|refine qS ?_|refine xR (λhc=>?_) (λhc=>?_)|refine wE (λhc=>?_)|(refine zE ?_;first|(refine wS ?_;refine yF (aS rfl rfl hxb) rfl ?_)|refine SM ?_)|fail))
   refine⟨M,⟨hm1.1,hm1.2,zB,λpost h=>by rw[q4 post h]⟩,?_⟩;rw[<-hE];rfl
  ·have e:aF (x::r) i n=if 4294967295<n+x.tmod 128*128 ^ i∨(0<i/\x=0)then(0,0,6)else(n+x.tmod 128*128 ^ i,(i:Int)+1,0):=by rw[aF,zYo hi5,zYo h128]
   rw[e]
   have hm1:0<=n+x.tmod 128*128 ^ i/\n+x.tmod 128*128 ^ i<128 ^ (i+1):=by
    rw[hP1];generalize x.tmod 128*128 ^ i=Z at *;omega
   clear hPb e hz q4 hP1;generalize n+x.tmod 128*128 ^ i=M at *;by_cases hbad:4294967295<M∨(0<i/\x=0)
   ·rw[zYp hbad];by_cases hM:4294967295<M
    ·clear hbad
     (repeat' (first|refine qS ?_|refine xR (λhc=>?_) (λhc=>?_)|refine wE (λhc=>?_)|(refine zE ?_;first|(refine wS ?_;refine yF (aS rfl rfl hxb) rfl ?_)|refine SM ?_)|fail))
     exact zL
    ·obtain⟨h1,h2⟩:=hbad.resolve_left hM
     (repeat' (first|refine qS ?_|refine xR (λhc=>?_) (λhc=>?_)|refine wE (λhc=>?_)|(refine zE ?_;first|(refine wS ?_;refine yF (aS rfl rfl hxb) rfl ?_)|refine SM ?_)|fail))
     exact zL
   ·rw[zYo hbad];by_cases hi0:0<i
    ·have hx0:x≠0:=λh=>hbad (.inr ⟨hi0,h⟩)
     (repeat' (first|refine qS ?_|refine xR (λhc=>?_) (λhc=>?_)|refine wE (λhc=>?_)|(refine zE ?_;first|(refine wS ?_;refine yF (aS rfl rfl hxb) rfl ?_)|refine SM ?_)|fail))
     rw[<-hE];exact zL
    ·(repeat' (first|refine qS ?_|refine xR (λhc=>?_) (λhc=>?_)|refine wE (λhc=>?_)|(refine zE ?_;first|(refine wS ?_;refine yF (aS rfl rfl hxb) rfl ?_)|refine SM ?_)|fail))
     rw[<-hE];exact zL
 ·rintro st ⟨n,⟨q0,q1,q2,q3⟩,rfl⟩;rw[q3 [] zU]
  show uI _ _ _ _ _ (XY (inB 0 (LP _ _ _ _ (Fin _ _ [] (.tup [iA 0,iA 0,iA 6]) []))) _)
  refine WW ?_;exact zL
end Av
end Go.Proofs.YtmamjhmoegjapaaGreat
