/- Part 6. -/
import Derived.Test.YteajjdidebfcjaaGreatV05
namespace Go.Proofs.YteajjdidebfcjaaGreat
namespace Av
open Tryz
set_option linter.all false
set_option maxRecDepth 4000
set_option maxHeartbeats 2000000
def IA (n:Int) (i:Nat):Int:=IntKind.u8.wrap (BitVec.ofInt IntKind.u8.bits (IntKind.u8.wrap ((IntKind.u64.wrap n).fdiv (2 ^ (min (8*(i:Int)).toNat IntKind.u64.bits)))) ^^^ BitVec.ofInt IntKind.u8.bits (29*(i:Int)+7)).toNat
def zAb (n:Int):List Int:=(List.range 8).map (IA n)
def zIn (n:Int):zO 49 [iA n] [] (zD yA (zAb n)) []:=by
 have hu:∀i:Nat,((List.range i).map (IA n)).map yA=((List.range i).map (IA n)).map yA:=λ_=>rfl
 refine eM call49 λF hF=>?_
 (repeat' (first|refine YA ?_|refine xL (λhc=>?_) λhc=>?_|fail))
 refine xA 3 1001 1 Z Z Z ?_
 refine vH (λk st=>∃i:Nat,k+i=8/\st=⟨[(0,iA n),(3,.ref 1001 0 (((List.range i).map (IA n)).map yA).length),(5,iA i)],[(1001,.arr 1 (((List.range i).map (IA n)).map yA) true)]⟩)
  8 [1001] [0,3,5] Z ⟨0,rfl,rfl⟩ ?_
 rintro k st ⟨i,hi,rfl⟩;by_cases hlt:i<8
 ·have ht:((List.range (i+1)).map (IA n)).map yA=((List.range i).map (IA n)).map yA++[yA (IA n i)]:=by rw[yAw];simp
  have hs:((List.range i).map (IA n)).length=i:=by simp
  (repeat' (first|refine YA ?_|refine xL (λhc=>?_) λhc=>?_|fail))
  exact⟨k-1,zB,i+1,zB,by rw[ht];rfl⟩
 ·obtain rfl:i=8:=by omega
  (repeat' (first|refine YA ?_|refine xL (λhc=>?_) λhc=>?_|fail))
  exact zI [] Z Z (zY3 (AV.sl false) zX6) Z
def ad7 (d:Dk):Dk:=ad (ad (ad (ad (ad (ad (ad d))))))
def agF (d:Dk) (num rights:Int):Ag:=⟨zAb (1000+num),rights,3,[1+nx d (3-1+1),1+nx (ad d) (3-1+1),nx (ad (ad d)) 3,nx (ad (ad (ad d))) 3],1+nx (ad (ad (ad (ad d)))) (3-1+1),1+nx (ad (ad (ad (ad (ad d))))) (2-1+1),
 1+nx (ad (ad (ad (ad (ad (ad d)))))) (3-1+1),1+nx (ad (ad (ad (ad (ad (ad d)))))) (3-1+1)+nx (ad7 d) 5⟩
def zIo (d:Dk) (num rights:Int) (h0:0<=num) (h1:num<=1000):zO 43 [.ptr 1000 0 0,iA num,iA rights] [(1000,PD d)] (vU (agF d num rights)) [(1000,PD (ad (ad7 d)))]:=by
 have hb:=wW (ad (ad (ad (ad (ad (ad d)))))) (3-1+1) zB;have hb2:=wW (ad7 d) 5 zB;have sc:=zIn (1000+num);unfold agF ad7 at *;generalize zAb (1000+num)=sec at *;refine eM call43 λF hF=>?_
 (repeat' (first|refine YA ?_|refine xL (λhc=>?_) λhc=>?_|(refine zE ?_;refine xJ ?_;(first|(refine vP 49 ?_;first|refine zP (zH (sc) Z Z Z Z Z) Z ?_|refine qE (zH (sc) Z Z Z Z Z) Z Z Z ?_|refine ZJ (zH (sc) Z Z Z Z Z) Z Z Z ?_)|(refine vP 41 ?_;first|refine zP (zH (jW _ _ _ zB zB zB) Z Z Z Z Z) Z ?_|refine qE (zH (jW _ _ _ zB zB zB) Z Z Z Z Z) Z Z Z ?_|refine ZJ (zH (jW _ _ _ zB zB zB) Z Z Z Z Z) Z Z Z ?_)|(refine vP 15 ?_;first|refine zP (zH (vZ _ _ zB zB) Z Z Z Z Z) Z ?_|refine qE (zH (vZ _ _ zB zB) Z Z Z Z Z) Z Z Z ?_|refine ZJ (zH (vZ _ _ zB zB) Z Z Z Z Z) Z Z Z ?_)))|fail))
 exact zL [1000] Z Z Z Z
def GI (r:Int):Bool:=decide (0<=r/\r<=63)
def XB (r:Int):zO 261 [iA r] [] (bA (GI r)) []:=by
 unfold GI
 by_cases h1:0<=r<;>by_cases h2:r<=63<;>simp only[h1,h2,and_true,yD6,decide_true,yD7]<;>first|(exfalso;omega;done)|((refine eM call261 λF hF=>?_);(refine WW ?_);exact zJ)
def zIp:∀a b:_root_.Fin 64,(zTm a.val b.val==0)=(fH a.val b.val==(a.val:Int)):=by decide +kernel
def wiF (a b:Int):Bool:=GI a&&GI b&&(fH a b==a)
def zOa (a b:Int):(GI a&&GI b&&(zTm a b==0))=wiF a b:=by
 unfold wiF
 cases ha:GI a<;>cases hb:GI b<;>simp only[zYr,zZv,yBt,yCg]
 simp only[GI,zX9]at ha hb;have:=zIp ⟨a.toNat,zB⟩ ⟨b.toNat,zB⟩;dsimp only at this;rw[show((a.toNat:Nat):Int)=a by omega,show((b.toNat:Nat):Int)=b by omega]at this;exact this
def EN (a b:Int):zO 293 [iA a,iA b] [] (bA (wiF a b)) []:=by
 have c1:=XB a;have c2:=XB b;rw[<-zOa]
 cases h1:GI a<;>cases h2:GI b<;>rw[h1]at c1<;>rw[h2]at c2<;>simp only[zYr,zZv,yBt]<;>((refine eM call293 λF hF=>?_);(refine yR (wZ c1 c2) ?_);exact zJ)
def zEk (a b:Int):yV [iA a,iA b] [] (bA (wiF a b)) []:=yI
def BO (k:Int):Int:=if k=6∨k=7∨k=8 then 1 else if k=4∨k=5 then 2 else if k=2 then 4 else if k=3 then 8 else if k=10 then 16 else if k=11 then 32 else 0
def zEl (k:Int):(k=6/\BO k=1)∨(k=7/\BO k=1)∨(k=8/\BO k=1)∨(k=4/\BO k=2)∨(k=5/\BO k=2)∨(k=2/\BO k=4)∨(k=3/\BO k=8)∨(k=10/\BO k=16)∨(k=11/\BO k=32)∨
  (k≠6/\k≠7/\k≠8/\k≠4/\k≠5/\k≠2/\k≠3/\k≠10/\k≠11/\BO k=0):=by
 by_cases h6:k=6
 ·exact(.inl ⟨h6,by subst h6;rfl⟩)
 by_cases h7:k=7
 ·exact .inr ((.inl ⟨h7,by subst h7;rfl⟩))
 by_cases h8:k=8
 ·exact .inr (.inr ((.inl ⟨h8,by subst h8;rfl⟩)))
 by_cases h4:k=4
 ·exact .inr (.inr (.inr ((.inl ⟨h4,by subst h4;rfl⟩))))
 by_cases h5:k=5
 ·exact .inr (.inr (.inr (.inr ((.inl ⟨h5,by subst h5;rfl⟩)))))
 by_cases h2:k=2
 ·exact .inr (.inr (.inr (.inr (.inr ((.inl ⟨h2,by subst h2;rfl⟩))))))
 by_cases h3:k=3
 ·exact .inr (.inr (.inr (.inr (.inr (.inr ((.inl ⟨h3,by subst h3;rfl⟩)))))))
 by_cases h10:k=10
 ·exact .inr (.inr (.inr (.inr (.inr (.inr (.inr ((.inl ⟨h10,by subst h10;rfl⟩))))))))
 by_cases h11:k=11
 ·exact .inr (.inr (.inr (.inr (.inr (.inr (.inr (.inr ((.inl ⟨h11,by subst h11;rfl⟩)))))))))
 exact .inr (.inr (.inr (.inr (.inr (.inr (.inr (.inr (.inr (⟨h6,h7,h8,h4,h5,h2,h3,h10,h11,by simp[BO,h6,h7,h8,h4,h5,h2,h3,h10,h11]⟩)))))))))
def zIq (k:Int):zO 260 [iA k] [] (iA (BO k)) []:=by
 rcases zEl k with⟨h,e⟩|⟨h,e⟩|⟨h,e⟩|⟨h,e⟩|⟨h,e⟩|⟨h,e⟩|⟨h,e⟩|⟨h,e⟩|⟨h,e⟩|⟨h1,h2,h3,h4,h5,h6,h7,h8,h9,e⟩<;>rw[e]<;>((refine eM call260 λF hF=>?_);(refine WW ?_);exact zJ)
def peF (r k:Int):Bool:=GI r&&(fH r (BO k)==BO k)
def zEm (r k:Int):zO 234 [iA r,iA k] [] (bA (peF r k)) []:=by
 have c1:=XB r;have c2:=zIq k;unfold peF;generalize BO k=n at*
 cases h1:GI r<;>rw[h1]at c1<;>simp only[zYr,zZv]<;>((refine eM call234 λF hF=>?_);(refine yR (wZ c1 c2) ?_);exact zJ)
def zS4 (r b:Int):zO 125 [iA r,iA b] [] (bkA ⟨b,r,b⟩) []:=by
 refine eM call125 λF hF=>?_
 refine WW ?_;exact zJ
def bvF (b:Bk):Bool:=decide (0<=b.burst/\b.burst<=1000/\0<=b.rate/\b.rate<=b.burst/\0<=b.level/\b.level<=b.burst)
def zIr (b:Bk):zO 264 [bkA b] [] (bA (bvF b)) []:=by
 (cases hb:bvF b with|false=>((refine eM call264 λF hF=>?_);((refine WW (I6 (λhc hc hc hc hc=>?_) (λhc hc hc hc hc=>?_) (λhc hc hc hc=>?_) (λhc hc hc=>?_) (λhc hc=>?_) λhc=>?_)));all_goals (first|exact zJ|(simp only[bvF,zYj]at hb;first|exact zXO|exact BP)))|true=>(simp only[bvF,zX9]at hb;(refine eM call264 λF hF=>?_);((refine WW ?_));all_goals (first|exact zJ|exact zXO|exact BP)))
def btF (b:Bk):Bk:=⟨min (b.level+b.rate) b.burst,b.rate,b.burst⟩
def zOb (b:Bk) (h: -1000000000<=b.level+b.rate/\b.level+b.rate<=1000000000):zO 175 [bkA b] [] (bkA (btF b)) []:=by
 refine eM call175 λF hF=>?_
 refine WW ?_;exact zJ
def EO (b:Bk):Bk:=if b.level<=0 then b else⟨b.level-1,b.rate,b.burst⟩
def zOc (b:Bk) (h:b.level<=9223372036854775807):zO 219 [bkA b] [] (.tup [bkA (EO b),bA (decide (0<b.level))]) []:=by
 unfold EO;by_cases h1:b.level<=0
 ·rw[zX3 h1,zYb zB];refine eM call219 λF hF=>?_
  refine WW ?_;exact zJ
 ·rw[zX2 h1,zYa zB];refine eM call219 λF hF=>?_
  refine WW ?_;exact zJ
def dW (l:List Tk) (s:Int):Bool:=decide (0<=s/\s<l.length)&&(l.getD s.toNat default).used
def zAc (l:List Tk) (s:Int):zO 226 [zD yY l,iA s] [] (bA (dW l s)) []:=by
 have hl:=zA yY l;unfold dW;by_cases h1:0<=s
 ·by_cases h2:s<l.length
  ·have hy:=yN yY l s h1 h2;rw[zYa ⟨h1,h2⟩,zYr];refine eM call226 λF hF=>?_
   refine WW ?_;exact zJ
  ·rw[zYb zB,zZv];refine eM call226 λF hF=>?_
   refine WW ?_;exact zJ
 ·rw[zYb zB,zZv];refine eM call226 λF hF=>?_
  refine WW ?_;exact zJ
def laF (a b:Int):Bool:=decide (b≠0/\(a=0∨b<a))
def zCn (a b:Int):zO 294 [iA a,iA b] [] (bA (laF a b)) []:=by
 unfold laF
 by_cases h1:b=0<;>by_cases h2:a=0<;>by_cases h3:b<a<;>simp only[yBe,h1,h2,h3,yDp,not_false_eq_true,and_true,yD6,true_and,false_and,or_true,true_or,yCo,decide_true,yD7]<;>first|(exfalso;omega;done)|((refine eM call294 λF hF=>?_);(refine WW ?_);exact zJ)
def zIs (a b:Int):yV [iA a,iA b] [] (bA (laF a b)) []:=yI
def exF (t:Tk) (now:Int):Bool:=decide (t.til≠0/\t.til<now)
def LR (t:Tk) (now:Int):zO 208 [yY t,iA now] [] (bA (exF t now)) []:=by
 unfold exF
 by_cases h1:t.til=0<;>by_cases h2:t.til<now<;>simp only[yBe,h1,h2,yDp,not_false_eq_true,and_true,yD6,decide_true,yD7]<;>first|(exfalso;omega;done)|((refine eM call208 λF hF=>?_);(refine WW ?_);exact zJ)
def frT:Tk:=⟨false,[],-1,0,0,0⟩
def zAd:zO 162 [] [] (yY frT) []:=by
 refine eM call162 λF hF=>?_
 refine WW ?_;exact zJ
def cY {α:Type} (f:α->AV) (l:List α):AV.sl false ((l.map f).take (l.map f).length)=zD f l:=by rw[zX6];rfl
def jQ {α:Type} (_:Nat) (l:List α):List α:=l
def UO (l:List Int) (hl:l.length<=1073741824):zO 91 [zD iA l] [] (zD iA l) []:=by
 have hll:=zA iA l;refine eM call91 λF hF=>?_
 refine yX 0 Z (λcap hx=>?_) ?_
 ·have:l=[]:=by simpa using hx
  subst this;refine WW ?_;exact zJ
 ·(refine WW ?_)
  refine zI [] Z Z (cY _ _) Z
def wK (l:List Int) (hl:l.length<=1073741824):zO 66 [zD yA l] [] (zD yA l) []:=by
 have hll:=zA yA l;refine eM call66 λF hF=>?_
 refine yX 0 Z (λcap hx=>?_) ?_
 ·have:l=[]:=by simpa using hx
  subst this;refine WW ?_;exact zJ
 ·(refine WW ?_)
  refine zI [] Z Z (cY _ _) Z
def EP (l:List Vh) (hl:l.length<=1073741824):zO 198 [zD vY l] [] (zD vY l) []:=by
 have hll:=zA vY l;refine eM call198 λF hF=>?_
 refine yX 0 Z (λcap hx=>?_) ?_
 ·have:l=[]:=by simpa using hx
  subst this;refine WW ?_;exact zJ
 ·(refine WW ?_)
  refine zI [] Z Z (cY _ _) Z
def WX (l:List Tk) (hl:l.length<=1073741824):zO 197 [zD yY l] [] (.ref 1001 0 (l.map yY).length) [(1001,.arr 6 (l.map yY) false)]:=by
 have hll:=zA yY l;refine eM call197 λF hF=>?_
 refine yX 0 Z (λcap hx=>?_) ?_
 ·have:l=[]:=by simpa using hx
  subst this
  (repeat' (first|refine WZN ?_|apply xL|apply wB|intro hc|fail))
  refine uK 2 1001 6 Z Z Z (yU ?_);exact zL [1001] Z Z Z Z
 ·repeat' (first|(refine zE ?_;first|refine wL tok Z Z ?_|(refine xM ?_;refine zP (yG tok (.inl ⟨rfl,rfl⟩) Z Z Z Z) Z ?_)|(refine xR ?_;refine qE (nw:=[1001]) (yK tok 1001 (xs:=[]) Z Z Z Z Z Z Z Z Z) Z Z Z ?_)|(refine yD ?_;refine xF tok Z Z Z Z Z Z Z (zN _ _ (λ_=>rfl)) Z Z Z zB Z ?_)|refine uI ?_)|(first|refine xS ?_|refine xC ?_|refine vQ Z ?_|refine yC Z ?_|refine zU Z ?_|refine xH Z (λhc=>?_) λhc=>?_|refine yZ ?_|refine yU ?_|refine xB ?_|refine yQ ?_))
  exact zL [1001] Z Z Z Z
structure GJ (l:List Tk):Prop where
 n:l.length<=1000000
 s:∀t∈l,t.sec.length<=1000000
def jD {α:Type} [Inhabited α] (f:α->AV) (l:List α) (i:Nat) (hi:i<l.length):(jQ i (l.map f)).set i (f (l.getD i default))=jQ (i+1) (l.map f):=by
 unfold jQ;have:=zM f l i hi;rw[zYu]at this;obtain⟨h,e⟩:=this;rw[<-e,yC7]
def VA (l:List Tk) (hb:GJ l):zO 206 [zD yY l] [] (.ref 1001 0 (l.map yY).length) [(1001,.arr 6 (l.map yY) false)]:=by
 have c:=WX l (by have:=hb.n;omega);have hn:=hb.n;have hll:=zA yY l;refine eM call206 λF hF=>?_
 refine zY c ?_;refine zS ((l.map yY).length) [1001] [] [3,8] [9,3,8] Z (λi T U=>⟨(9,iA i)::T,(1001,.arr 6 (jQ i (l.map yY)) false)::U⟩) ?_;(conv=>whnf);refine⟨by rfl,?_,?_⟩
 ·intro i hi;have hi':i<l.length:=by omega
  have hy:(jQ i (l.map yY))[i]? =some (yY (l.getD i default)):=zM yY l i hi';have e:=jD yY l i hi';have c2:=wK (l.getD i default).sec (by have:=hb.s (l.getD i default) ZK;omega);generalize (l.getD i default)=t at *;generalize jQ i (l.map yY)=xs at *;generalize jQ (i+1) (l.map yY)=ys at *;subst e;refine zY c2 ?_;rfl
 ·(refine WW ?_)
  exact zL [1001] Z Z Z Z
def EQ (a:Ag) (h1:a.sec.length<=1000000) (h2:a.lim.length<=1000000):zO 123 [vU a] [] (vU a) []:=by
 have c1:=wK a.sec zB;have c2:=UO a.lim zB;refine eM call123 λF hF=>?_
 refine yR (wZ c1 c2) ?_;exact zJ
structure ER (r:Rg):Prop where
 tk:GJ r.tk
 s:r.ag.sec.length<=1000000
 l:r.ag.lim.length<=1000000
 v:r.vh.length<=1000000
def rgX (r:Rg) (xs:List AV):AV:= .agg [iA r.num,zD yA r.ag.sec,iA r.ag.rights,iA r.ag.cls,zD iA r.ag.lim,iA r.ag.req,iA r.ag.ses,iA r.ag.rate,iA r.ag.burst,.sl false xs,zD vY r.vh,iA r.bk.level,iA r.bk.rate,iA r.bk.burst]
def cE (r:Rg) (hb:ER r):zO 173 [qW r] [] (qW r) []:=by
 have c1:=EQ r.ag hb.s hb.l;have hn:=hb.tk.n;have hv:=hb.v;have c2:=WX r.tk zB;have c3:=EP r.vh zB;have hll:=zA yY r.tk;refine eM call173 λF hF=>?_
 refine yR (wZ c1 c2) ?_;refine zS ((r.tk.map yY).length) [1001,1,2] [1,2] [1,2,14] [15,1,2,14] Z (λi T U=>⟨(15,iA i)::T,(1001,.arr 6 (jQ i (r.tk.map yY)) false)::U⟩) ?_;(conv=>whnf);refine⟨by rfl,?_,?_⟩
 ·intro i hi;have hi':i<r.tk.length:=by omega
  have hy:(jQ i (r.tk.map yY))[i]? =some (yY (r.tk.getD i default)):=zM yY r.tk i hi';have e:=jD yY r.tk i hi';have c2:=wK (r.tk.getD i default).sec (by have:=hb.tk.s (r.tk.getD i default) ZK;omega);generalize (r.tk.getD i default)=t at *;generalize jQ i (r.tk.map yY)=xs at *;generalize jQ (i+1) (r.tk.map yY)=ys at *;subst e;refine zY c2 ?_;rfl
 ·(refine zY c3 ?_)
  exact zI [] Z Z (zY3 (rgX r) zX6) Z
theorem ZN.lg3 {l:List Rq} (h:ZN l) {r:Rq} (hr:r∈l):1<=r.legs.length/\r.legs.length<=3:=by
 have:=IG (h.ok r hr).lg;omega
theorem ZN.filter {l:List Rq} (h:ZN l) (p:Rq->Bool):ZN (l.filter p):=
 ⟨λr hr=>h.ok r (yBn.1 hr).1,h.so.filter p,zY9 (yAd _ _) h.n4⟩
def bS (l:List Lg) (hl:l.length<=1000):zO 167 [zD xW l] [] (zD xW l) []:=by
 have hll:=zA xW l;refine eM call167 λF hF=>?_
 refine yX 0 Z (λcap hx=>?_) ?_
 ·have:l=[]:=by simpa using hx
  subst this;refine WW ?_;exact zJ
 ·(refine WW ?_)
  refine zI [] Z Z (cY _ _) Z
def UP (r:Rq) (hl:r.legs.length<=1000):zO 209 [yL r] [] (yL r) []:=by
 have c:=bS r.legs hl;have hll:=zA xW r.legs;refine eM call209 λF hF=>?_
 refine zY c ?_;exact zJ
def ES (p:Rq->Bool) (pre:List Rq) (x:Rq):((pre++[x]).filter p).map yL=(pre.filter p).map yL++(if p x=true then [x]else []).map yL:=by
 rw[yBv,zYd]
 congr 2
 cases h:p x<;>simp[h]
def zAe (fn:Nat) (v:Int) (p:Rq->Bool) (l:List Rq) (hn:l.length<=1000) (hb:∀r∈l,r.legs.length<=1000) (c:∀x,zO fn [yL x,.ptr 3 0 0] [(3,.box [iA v])] (bA (p x)) [(3,.box [iA v])]):
  zO 176 [zD yL l,.fn fn [.ptr 3 0 0]] [(3,.box [iA v])] (zD yL (l.filter p)) [(3,.box [iA v])]:=by
 have hl:=zA yL l;refine eM call176 λF hF=>?_
 refine WW ?_;refine xA 5 1001 5 Z Z Z ?_;refine yT (l) [1001,3] [3] [1,8,9] [5,10,1,8,9] Z (λi pre T U=>⟨(5,.ref 1001 0 ((pre.filter p).map yL).length)::(10,iA i)::T,(1001,.arr 5 ((pre.filter p).map yL) true)::U⟩) ?_;(conv=>whnf);refine⟨by rfl,?_,?_⟩
 ·intro i pre x post hx hi;have hy:=xQ yL hx hi;have hlt:=yW hx hi;have hle:(pre.filter p).length<=i:=by rw[<-hi];exact yAd _ _
  have hlm:=zA yL (pre.filter p);have c1:=c x;have c2:=UP x (hb x (vF hx));have e:=ES p pre x;rw[e];clear hx e;generalize (pre.filter p).map yL=R at*
  cases h:p x with
  |false=>
   rw[h]at c1;rw[zX2 zYp];refine zY c1 ?_;rw[yAl,zY4];rfl
  |true=>
   rw[h]at c1;rw[zX3 Z];refine yR (wZ c1 c2) ?_;rfl
 ·(refine WW ?_)
  exact zL [3] Z Z (cY _ _) Z
def SJ {α:Type} (p:α->Bool) (l:List α):Int:=if l.any p=true then(l.findIdx p:Int)else -1
def PB {α:Type} {p:α->Bool} {l pre post:List α} {x:α} (h:l=pre++x::post) (hn:∀y∈pre,p y=false) (hx:p x=true):SJ p l=(pre.length:Int):=by
 subst h;have h1:(pre++x::post).any p=true:=by simp[hx]
 have h2:pre.findIdx p=pre.length:=List.findIdx_eq_length.2 (λy hy=>by simpa using hn y hy);unfold SJ;rw[zX3 h1,List.findIdx_append,h2,zX2 zB,List.findIdx_cons,hx];simp
def ZZ {α:Type} {p:α->Bool} {l:List α} (hn:∀y∈l,p y=false):SJ p l= -1:=by
 unfold SJ;rw[zX2 DK]
def zAf {α:Type} {p:α->Bool} {l:List α} (h:l.any p=true):0<=SJ p l/\SJ p l<l.length:=by
 unfold SJ;rw[zX3 h];have:=List.findIdx_lt_length.2 (zZy.1 h);omega
def zS5 (id:Int) (x:Rq):zO 277 [yL x,.ptr 3 0 0] [(3,.box [iA id])] (bA (x.id==id)) [(3,.box [iA id])]:=by
 refine eM call277 λF hF=>?_
 refine WW ?_;exact zL [3] Z Z Z Z
def zS6 (id:Int) (l:List Rq) (hb:l.length<=1000):zO 276 [zD yL l,.fn 277 [.ptr 3 0 0]] [(3,.box [iA id])] (iA (SJ (λr:Rq=>r.id==id) l)) [(3,.box [iA id])]:=by
 have hl:=zA yL l;refine eM call276 λF hF=>?_
 refine WW ?_;refine kN (l) [3] [3] [0,1,7] [8,0,1,7] Z (λi pre T U zs=>(∀y∈pre,(y.id==id)=false)/\zs=⟨(8,iA i)::T,U⟩) ?_;(conv=>whnf);refine⟨?_,?_,?_⟩
 ·exact⟨by simp,rfl⟩
 ·rintro i pre x post st hx hi ⟨hp,rfl⟩;have hy:=xQ yL hx hi;have hlt:=yW hx hi;have c:=zS5 id x;have hit:=PB (p:=λr:Rq=>r.id==id) hx hp
  cases he:(x.id==id)<;>rw[he]at c
  ·clear hx hit;refine zY c ?_;exact⟨λy hy=>by simp only[zYy,zZd]at hy;rcases hy with hy|rfl;exact hp y hy;exact he,rfl⟩
  ·rw[hit he,hi];clear hx hit;refine zY c ?_;exact zL [3] Z Z Z Z
 ·rintro st ⟨hp,rfl⟩;rw[ZZ hp];refine WW ?_;exact zL [3] rfl rfl rfl rfl
def OH (l:List Rq) (id:Int) (hb:l.length<=1000):zO 248 [zD yL l,iA id] [] (iA (SJ (λr:Rq=>r.id==id) l)) []:=by
 have c:=zS6 id l hb;generalize SJ (λr:Rq=>r.id==id) l=n at *;refine eM call248 λF hF=>?_
 refine zY c ?_;exact zJ
def zS7 (now:Int) (x:Rq):zO 177 [yL x,.ptr 3 0 0] [(3,.box [iA now])] (bA (decide (now<=x.til))) [(3,.box [iA now])]:=by
 cases hb:decide (now<=x.til)with
 |false=>
  rw[zYj]at hb;refine eM call177 λF hF=>?_
  refine WW ?_;exact zL [3] Z Z Z Z
 |true=>
  rw[zX9]at hb;refine eM call177 λF hF=>?_
  refine WW ?_;exact zL [3] Z Z Z Z
def zS8 (v:Int) (x:Rq):zO 242 [yL x,.ptr 3 0 0] [(3,.box [iA v])] (bA (x.vh != v)) [(3,.box [iA v])]:=by
 refine eM call242 λF hF=>?_
 refine WW ?_;exact zL [3] Z Z Z Z
def zS9 (v:Int) (x:Rq):zO 249 [yL x,.ptr 3 0 0] [(3,.box [iA v])] (bA (x.id != v)) [(3,.box [iA v])]:=by
 refine eM call249 λF hF=>?_
 refine WW ?_;exact zL [3] Z Z Z Z
def zIt (l:List Rq) (now:Int):List Rq:=l.filter λx=>decide (now<=x.til)
def ET (l:List Rq) (v:Int):List Rq:=l.filter λx=>x.vh != v
def zIu (l:List Rq) (id:Int):List Rq:=l.filter λx=>x.id != id
def gY (l:List Rq) (id:Int):Bool:=l.any λx=>x.id==id
def zIv (l:List Rq) (now:Int) (hv:ZN l):zO 131 [zD yL l,iA now] [] (zD yL (zIt l now)) []:=by
 have h4:=hv.n4;have c:=zAe 177 now _ l zB (λr hr=>by have:=hv.lg3 hr;omega) (zS7 now);unfold zIt;generalize l.filter _=l2 at *;refine eM call131 λF hF=>?_
 refine zY c ?_;exact zJ
def LS (l:List Rq) (v:Int) (hv:ZN l):zO 221 [zD yL l,iA v] [] (zD yL (ET l v)) []:=by
 have h4:=hv.n4;have c:=zAe 242 v _ l zB (λr hr=>by have:=hv.lg3 hr;omega) (zS8 v);unfold ET;generalize l.filter _=l2 at *;refine eM call221 λF hF=>?_
 refine zY c ?_;exact zJ
def zIw (l:List Rq) (id:Int) (hv:ZN l):zO 224 [zD yL l,iA id] [] (.tup [zD yL (if gY l id=true then zIu l id else []),iA (if gY l id=true then 0 else 12)]) []:=by
 have h4:=hv.n4;have c1:=UT l 4 hv zB;have c2:=OH l id zB;have c3:=zAe 249 id _ l zB (λr hr=>by have:=hv.lg3 hr;omega) (zS9 id);unfold zIu;generalize l.filter _=l2 at*
 cases hh:gY l id with
 |true=>
  have hx:=zAf (p:=λx:Rq=>x.id==id) (l:=l) hh;generalize SJ (λx:Rq=>x.id==id) l=n at *;rw[zX3 Z,zX3 Z];refine eM call224 λF hF=>?_
  refine yR (fQ c1 c2 c3) ?_;exact zJ
 |false=>
  have hx:=ZZ (p:=λx:Rq=>x.id==id) (l:=l) (by simpa [gY]using hh);rw[hx]at c2;rw[zX2 zYp,zX2 zYp];refine eM call224 λF hF=>?_
  refine yR (wZ c1 c2) ?_;exact zJ
def zEn (l:List Rq) (id:Int) (hv:ZN l):yV [zD yL l,iA id] [] (.tup [zD yL (if gY l id=true then zIu l id else []),iA (if gY l id=true then 0 else 12)]) []:=yI
section
variable {P:Program} {K0:List Nat} {F:Fr K0} {m:Nat}
def zOd (n:Nat) {Q:Exit->St->Prop} {id:Nat} {l:List Oper} {st:St} (hm:P.follows .mixedOrders=true)
  (hk:yE P F m l.toArray true (l.take n) st [] (λfs s=>VI l n (MV l) fs.reverse=true/\yE P F m l.toArray false (l.drop n) s [] (λ_ s=>Q .normal s))):uQ P F m (.region id l.toArray true) st Q:=by
 obtain⟨es,st2,h1,h2,h3⟩:=hk.run;exact LX n hm h1 KD h3.run
def zIx {l:List Oper} {n:Nat} {ops:Array Oper} {st:St} {fs:List FP} {Q':St->Prop} (hc:VI l n (MV l) fs.reverse=true) (hq:Q' st):yE P F m ops true [] st fs (λfs s=>VI l n (MV l) fs.reverse=true/\Q' s):=⟨⟨[],st,rfl,hc,hq⟩⟩
end
section
variable {P:Program} {TT:List TI} {st:St}
def EU (hP:uZ P TT) {T e:Nat} {x l:Operand} {ti te:TI} {k:IntKind} (hx:yM (zG st.tm) x= .s (.slice none 0 0)) (hl:yM (zG st.tm) l= .s (.int k 0)) (hT:TT[T]? =some ti) (hd:ti.d= .slice e) (he:TT[e]? =some te):
  wV P st (.slice T x (some l) none none) (.s (.slice none 0 0)) [] [] []:=
 yO λoo X tm h w β a ho hg hr HH Ht=>by
  obtain⟨d0,o0,y0,p0,f0,g0⟩:=oo;dsimp only at ho;subst ho;have hc:=vV Ht hg (x:=x) uT hx;obtain⟨u,hu,hd'⟩:=xU (hP _ _ hT) w;obtain rfl:=vX (hd'.trans hd);have hs:=qA (hP _ _ he) w;have hb:=fK (P:=P) Ht hg (lo:=some l) (hi:=none) (len:=0) (cap:=0) (l:=0) (r:=0) (λy hy=>by cases hy;simp[Op.operands]) (λy hy=>by cases hy) ⟨k,0,hl,zB⟩ rfl (zX7 _) (zX7 _) true;rw[yBb]at hb;exact⟨_,by simp only[execOp,Instr.sliceAt,Instr.slice,Sem.run_bind,hu,Result.andThen_ok,hc,yBb,hb,hs,Sem.run_pure];rfl,.fz _ _ (.s _)⟩
end
section
variable {P:Program} {TT:List TI} {K0:List Nat} {F:Fr K0} {m:Nat} {ops:Array Oper} {rest:List Oper} {Q:List FP->St->Prop} {tm:List (Nat×AV)} {h:List (Nat×xN)} {dr:Bool} {fs:List FP}
variable {ty:Nat} {pos:String} {after:Array Edge} {t:Nat}
def zAg (hP:uZ P TT) {T e key off len sz:Nat} {d x:Operand} {ti te:TI} {xs yl ys zs:List AV} {xv:AV} (hdv:yM (zG tm) d= .ref key off len) (hk:zC h key=some (.arr sz xs false)) (hx:yM (zG tm) x=xv) (hT:TT[T]? =some ti) (hd:ti.d= .slice e) (he:TT[e]? =some te)
  (hyl:DY (zC h) xv=some yl) (hyt:yl.take len=ys) (hsz:∀y,ys[0]? =some y->y.cells.length=sz) (hp1:1<=ys.length) (hss:Nat.beq sz te.size=true) (hz:xs.take off++ys++xs.drop (off+ys.length)=zs) (hm:Nat.blt t m=true)
  (hr:yE P F m ops dr rest ⟨(t,.s (.int .i64 ys.length))::tm,(key,.arr sz zs false)::h⟩ (⟨true,[key],key::PH xv⟩::fs) Q):yE P F m ops dr (⟨some t,.call ⟨.builtin .copy, #[d,x], #[T,T]⟩,ty,pos,after,none⟩::rest) ⟨tm,h⟩ fs Q:=by
 subst hz;exact qE (nw:=[]) (KE hP hdv hk hx hT hd he hyl hyt hsz (.inl hp1) hss) hm Z Z hr
def zTa (hP:uZ P TT) {T e:Nat} {x:Operand} {ti:TI} {k len sz:Nat} {xs:List AV} (hx:yM (zG tm) x= .ref k 0 len) (hk:zC h k=some (.arr sz xs ⟨false,false⟩)) (hT:TT[T]? =some ti) (hd:ti.d= .slice e) (hl:1<=len) (hm:Nat.blt t m=true)
  (hr:∀c:Int,(xs.length:Int)<=c->yE P F m ops false rest ⟨(t,.s (.int .i64 c))::tm,h⟩ fs Q):yE P F m ops false (⟨some t,.call ⟨.builtin .cap, #[x], #[T]⟩,ty,pos,after,none⟩::rest) ⟨tm,h⟩ fs Q:=
 x_m (zAz hP hx hk hT hd hl) hm Z (λv d ⟨c,_,_,e⟩=>by subst e;rfl) (λv d ⟨c,e1,e2,e3⟩=>by subst e1 e3;exact hr c e2)
def zCo (hP:uZ P TT) {T e k len sz:Nat} {s x:Operand} {ti te:TI} {xs vs zs:List AV} {xv:AV} (hs:yM (zG tm) s= .ref k 0 len) (hk:zC h k=some (.arr sz xs ⟨false,false⟩)) (hx:yM (zG tm) x=xv) (hT:TT[T]? =some ti) (hd:ti.d= .slice e) (he:TT[e]? =some te) (hvs:DY (zC h) xv=some vs)
  (hss:Nat.beq sz te.size=true) (hsz:∀y,vs[0]? =some y->y.cells.length=sz) (hpos:1<=vs.length) (hl:1<=len) (hroom:len+vs.length<=xs.length) (hmax:xs.length<=1073741824) (hz:xs.take len++vs++xs.drop (len+vs.length)=zs) (hm:Nat.blt t m=true)
  (hr:yE P F m ops dr rest ⟨(t,.ref k 0 (len+vs.length))::tm,(k,.arr sz zs ⟨false,false⟩)::h⟩ (⟨true,[k],k::PH xv⟩::fs) Q):yE P F m ops dr (⟨some t,.call ⟨.builtin .append, #[s,x], #[T,T]⟩,ty,pos,after,none⟩::rest) ⟨tm,h⟩ fs Q:=by
 subst hz;exact qE (nw:=[]) (zE5 hP hs hk hx hT hd he hvs hss hsz hpos hl hroom hmax) hm Z Z hr
def zTb (hP:uZ P TT) {T I e c n N:Nat} {s x:Operand} {ti te tn:TI} {k0:IntKind} {nx:Int} {ys zs:List AV} {z:AV} (hs:yM (zG tm) s= .slc c ys) (hx:yM (zG tm) x= .s (.int .i64 nx)) (hT:TT[T]? =some ti) (hd:ti.d= .slice e) (he:TT[e]? =some te) (hI:TT[I]? =some tn) (hdn:tn.d= .int k0)
  (hb:Nat.ble te.bytes 65536=true) (hp:Nat.ble 1 te.size=true) (hzl:Nat.beq te.zero.length te.size=true) (hz1:te.zero.all (·.oneCell')=true) (hzc:Nat.beq (uN te).cells.length te.size=true) (hzc2:(uN te).cells=te.zero.map .s) (hz:uN te=z)
  (hnx:nx=(n:Int)) (hpos:1<=n) (hmax:ys.length+n<=1073741824) (hc:c<ys.length+n) (hw0:∀(i:Nat) (y:AV),ys[i]? =some y->y.cells.length=te.size) (hA:ys++List.replicate n z=zs) (hN:zs.length=N) (hm:Nat.blt t m=true) (hnn:(zC h t).isNone=true)
  {sz:Nat} (hse:te.size=sz) (hk:yE P F m ops dr rest ⟨(t,.ref t 0 N)::tm,(t,.arr sz zs false)::h⟩ (⟨true,[t,t],[]⟩::fs) Q):yE P F m ops dr (⟨some t,.call ⟨.builtin .append, #[s,x], #[T,I]⟩,ty,pos,after,none⟩::rest) ⟨tm,h⟩ fs Q:=by
 subst hse hz hN hA;exact qE (nw:=[t]) (zJ6 hP t hs hx hT hd he hI hdn hb hp hzl hz1 hzc hzc2 hnx hpos hmax hc hw0) hm (zAl hnn) Z hk
end
theorem zIy (xs:List AV) (v:AV) (i:Nat) (hv:v.cells.length=5) (hx:∀y∈xs,y.cells.length=5) (h1:1<=xs.length) (hn:xs.length<=1000) (hi:i<=xs.length):
  zO 275 [.ref 1001 0 xs.length,iA i,.ref 98 0 1] [(1001,.arr 5 (xs++[eX 5]) false),(98,.arr 5 [v] false)] (.ref 1001 0 (xs.length+1)) [(1001,.arr 5 (xs.take i++v::xs.drop i) false),(98,.arr 5 [v] false)]:=by
 have hll:(xs++[eX 5]).length=xs.length+1:=by simp
 by_cases he:i=xs.length
 ·subst he
  have hz:(xs++[eX 5]).take xs.length++[v]++(xs++[eX 5]).drop (xs.length+[v].length)=xs.take xs.length++v::xs.drop xs.length:=by
   rw[yAu (zX7 _),zX6,yBs,yBq zW];simp
  refine eM call275 λF hF=>?_
  (repeat' (first|refine uJ ?_|apply xL|apply wB|intro hc|(refine zE ?_;first|(refine uB ?_;refine fT tok Z Z Z Z Z Z Z zB zB Z ?_)|(refine yD ?_;refine zCo tok Z Z Z Z Z Z Z Z (λy hy=>by cases hy;exact hv) zW zB zW zB hz Z ?_))|fail))
  exact zL [1001,98] Z Z Z Z
 ·have hlt:i<xs.length:=by omega
  have e1:(xs++[eX 5]).drop i=xs.drop i++[eX 5]:=yCj zB;have hdl:(xs.drop i).length=xs.length-i:=zYv
  have hc1:(((xs++[eX 5]).drop i).take (xs.length+1-i)).take (xs.length+1-(i+1))=xs.drop i:=by
   have e3:((xs++[eX 5]).drop i).take (xs.length+1-i)=xs.drop i++[eX 5]:=by rw[e1];exact zYe xX
   rw[e3,yAu zB,zYe zB]
  have hz1:(xs++[eX 5]).take (i+1)++xs.drop i++(xs++[eX 5]).drop (i+1+(xs.drop i).length)=xs.take (i+1)++xs.drop i:=by
   have e3:(xs++[eX 5]).drop (i+1+(xs.drop i).length)=[]:=yBq (by rw[hll,hdl];omega);rw[e3,zY4,yAu zB]
  have hxd:∀y,(xs.drop i)[0]? =some y->y.cells.length=5:=λy hy=>hx y (zY1 (zZk hy))
  have hc2:(([v].drop 0).take 1).take (xs.length+1-i)=[v]:=zYe xX
  have hz2:(xs.take (i+1)++xs.drop i).take i++[v]++(xs.take (i+1)++xs.drop i).drop (i+[v].length)=xs.take i++v::xs.drop i:=by
   have e2:(xs.take (i+1)).length=i+1:=by rw[zYn];omega
   rw[yAu zB,yD0,yDx zB,show i+[v].length=(xs.take (i+1)).length by rw[e2];rfl,yDy,zYw];rfl
  refine eM call275 λF hF=>?_
  (repeat' (first|refine uJ ?_|apply xL|apply wB|intro hc|(refine zE ?_;refine xJ ?_;(refine vP 301 ?_;refine zP (HA tok Z Z Z Z Z Z zB zB Z Z Z zB Z Z Z Z Z) Z ?_))|(refine zE ?_;first|(refine uB ?_;first|refine fT tok Z Z Z Z Z Z Z zB zB Z ?_|refine zP (zE3 (N:=xs.length+1) tok Z Z Z Z Z Z zB zB zB zB) Z ?_)|(refine zAg tok Z Z Z Z Z Z Z (by first|exact hc1|exact hc2) (by first|exact hxd|(intro y hy;cases hy;exact hv)) (by first|(rw[hdl];omega)|simp) Z (by first|exact hz1|exact hz2) Z ?_)|(refine zTa tok Z Z Z Z zB Z ?_;intro cp hcp))|fail))
  exact zL [1001,98] Z Z Z Z
theorem zIz (xs:List AV) (v:AV) (i c:Nat) (hv:v.cells.length=5) (hx:∀y∈xs,y.cells.length=5) (h1:1<=xs.length) (hn:xs.length<=1000) (hi:i<=xs.length) (hc:c<xs.length+1):
  zO 275 [.slc c xs,iA i,.ref 98 0 1] [(98,.arr 5 [v] false)] (.sl false (xs.take i++v::xs.drop i)) [(98,.arr 5 [v] false)]:=by
 have hxi:∀(j:Nat) (y:AV),xs[j]? =some y->y.cells.length=5:=λj y hy=>hx y (zZk hy)
 by_cases he:i=xs.length
 ·subst he;refine eM call275 λF hF=>?_
  (repeat' (first|refine uJ ?_|apply xL|apply wB|intro hc|(refine zE ?_;first|(refine zP (CD tok Z Z Z) Z ?_)|(refine uB ?_;refine zA0 10 Z h1 ?_;refine gQ tok Z Z Z Z Z (hxi 0) zB zB Z Z ?_)|(refine yD ?_;refine qE (nw:=[25]) (zE4 tok 25 Z Z Z Z Z Z Z Z Z Z (λy hy=>by cases hy;exact hv) zW xX xX hxi) Z Z Z ?_))|fail))
  refine zL [98] Z Z ?_ Z
  show AV.sl false ((xs++[v]).take (xs++[v]).length)=_
  rw[zX6,zX6,yBs]
 ·have hlt:i<xs.length:=by omega
  have hdl:(xs.drop i).length=xs.length-i:=zYv;have htl:(xs.take i).length=i:=by rw[zYn];omega
  have hxt:∀(j:Nat) (y:AV),(xs.take i)[j]? =some y->y.cells.length=5:=λj y hy=>hx y (zZl (zZk hy))
  have hxd:∀y,(xs.drop i)[0]? =some y->y.cells.length=5:=λy hy=>hx y (zY1 (zZk hy))
  have hx0:∀y,xs[0]? =some y->y.cells.length=5:=hxi 0;have hnx:((xs.length:Int)+1-(i:Int))=((xs.length+1-i:Nat):Int):=by omega
  have hzs:∃zs,xs.take i++List.replicate (xs.length+1-i) (AV.agg [.s (.int .i64 0),.s (.int .i64 0),.s (.int .i64 0),.s (.int .i64 0),.s (.slice none 0 0)])=zs:=⟨_,rfl⟩;obtain⟨zs,hA⟩:=hzs;have hN:zs.length=xs.length+1:=by rw[<-hA,zX4,htl,zZs];omega
  have hzt:zs.take i=xs.take i:=by rw[<-hA,yAu zB,zYe zB]
  have hc1:(([v].drop 0).take 1).take (xs.length+1-i)=[v]:=zYe xX;have hc2:(xs.drop i).take (xs.length+1-(i+1))=xs.drop i:=zYe zB;have hz1:zs.take i++[v]++zs.drop (i+[v].length)=xs.take i++[v]++zs.drop (i+1):=by rw[hzt];rfl
  have e2:(xs.take i++[v]).length=i+1:=by rw[zX4,htl];rfl
  have hz2:(xs.take i++[v]++zs.drop (i+1)).take (i+1)++xs.drop i++(xs.take i++[v]++zs.drop (i+1)).drop (i+1+(xs.drop i).length)=xs.take i++v::xs.drop i:=by
   have e3:(xs.take i++[v]++zs.drop (i+1)).drop (i+1+(xs.drop i).length)=[]:=yBq (by rw[zX4,e2,zYv,hN,hdl];omega);rw[e3,zY4,yAu zB,zYe zB,zYw];rfl
  refine eM call275 λF hF=>?_
  (repeat' (first|refine uJ ?_|apply xL|apply wB|intro hc|(refine zE ?_;first|(refine zP (CD tok Z Z Z) Z ?_)|(refine zP (zJ4 tok Z Z Z) Z ?_)|(refine uB ?_;first|(refine zA0 10 Z h1 ?_;refine gQ tok Z Z Z Z Z (hxi 0) zB zB Z Z ?_)|refine zP (zJ5 tok Z Z Z Z Z hi) Z ?_|refine fT tok Z Z Z Z Z Z Z zB zB Z ?_|refine gQ tok Z Z Z Z Z (hxi 0) zB zB Z Z ?_)|(refine yD ?_;refine zTb tok (n:=xs.length+1-i) Z Z Z Z Z Z Z Z Z Z Z Z Z Z hnx zB (by rw[htl];omega) (by rw[htl];omega) hxt hA hN Z Z Z ?_)|(first|(refine zA0 0 Z h1 ?_;refine zAg tok Z Z Z Z Z Z Z hc1 (λy hy=>by cases hy;exact hv) zW Z hz1 Z ?_)|refine zAg tok Z Z Z Z Z Z Z hc2 hxd (by rw[hdl];omega) Z hz2 Z ?_))|fail))
  refine zL [98] Z Z ?_ Z
  show AV.sl false ((xs.take i++v::xs.drop i).take (xs.length+1))=_
  rw[zYe (by rw[zX4,htl,zYh,hdl];omega)]
def zOe (v:AV) (hv:v.cells.length=5):
  zO 275 [.s (.slice none 0 0),iA 0,.ref 98 0 1] [(98,.arr 5 [v] false)] (.sl false [v]) [(98,.arr 5 [v] false)]:=by
 refine eM call275 λF hF=>?_
 (repeat' (first|refine uJ ?_|apply xL|apply wB|intro hc|(refine zE ?_;first|(refine uB ?_;refine zP (EU tok Z Z Z Z Z) Z ?_)|(refine yD ?_;refine vA tok Z Z Z Z Z Z (λy hy=>by cases hy;exact hv) Z Z Z zW Z ?_))|fail))
 exact zL [98] Z Z Z Z
def vO (x:Rq):zO 205 [yL x] [] (bA true) []:=by
 refine eM call205 λF hF=>?_
 refine WW ?_;exact zJ
def zI0 (l:List Rq) (hn:l.length<=1000) (hb:∀r∈l,r.legs.length<=1000):
  zO 176 [zD yL l,.fn 205 []] [] (.ref 1001 0 (l.map yL).length) [(1001,.arr 5 (l.map yL) false)]:=by
 have hl:=zA yL l;refine eM call176 λF hF=>?_
 refine WW ?_;refine xA 5 1001 5 Z Z Z ?_;refine yT (l) [1001] [] [1,8,9] [5,10,1,8,9] Z (λi pre T U=>⟨(5,.ref 1001 0 (pre.map yL).length)::(10,iA i)::T,(1001,.arr 5 (pre.map yL) true)::U⟩) ?_;(conv=>whnf);refine⟨by rfl,?_,?_⟩
 ·intro i pre x post hx hi;have hy:=xQ yL hx hi;have hlt:=yW hx hi;have hlm:=zA yL pre;have c1:=vO x;have c2:=UP x (hb x (vF hx));have e:(pre++[x]).map yL=pre.map yL++[yL x]:=by simp
  rw[e];clear hx e;generalize pre.map yL=R at *;refine yR (wZ c1 c2) ?_;rfl
 ·(repeat' (first|refine WZN ?_|apply xL|apply wB|intro hc|fail))
  refine jJ [1001] [4] Z Z ?_;refine RX 1001 [4] Z Z Z Z Z (yU ?_);exact zL [1001] Z Z Z Z
def zI1:zO 176 [zD yL [],.fn 205 []] [] (.s (.slice none 0 0)) []:=by
 refine eM call176 λF hF=>?_
 refine WW ?_;refine yT (([]:List Rq)) [] [] [1,8,9] [5,10,1,8,9] Z (λi pre T U=>⟨(5,.s (.slice none 0 0))::(10,iA i)::T,U⟩) ?_;(conv=>whnf);refine⟨by rfl,?_,?_⟩
 ·intro i pre x post hx hi
  cases pre<;>cases hx
 ·(refine WW ?_)
  exact zL [] Z Z Z Z
def IB (l:List Rq) (hn:l.length<=1000) (hb:∀r∈l,r.legs.length<=1000):
  zO 171 [zD yL l] [] (.ref 1001 0 (l.map yL).length) [(1001,.arr 5 (l.map yL) false)]:=by
 have c:=zI0 l hn hb;refine eM call171 λF hF=>?_
 refine zY c ?_;exact zL [1001] Z Z Z Z
def UQ:zO 171 [zD yL []] [] (.s (.slice none 0 0)) []:=by
 have c:=zI1;refine eM call171 λF hF=>?_
 refine zY c ?_;exact zL [] Z Z Z Z
section
variable {P:Program} {K0:List Nat} {F:Fr K0} {m:Nat}
def zCp (n len:Nat) {Q:Exit->St->Prop} {id:Nat} {l:List Oper} {st:St} (hlen:Nat.beq l.length len=true) (hm:P.follows .mixedOrders=true)
 (hk:yE P F m l.toArray true (l.take n) st [] (λfs s=>VI l n (MV l) fs.reverse=true/\yE P F m l.toArray false (l.drop n) s [] (λ_ s=>Q .normal s))):uQ P F m (.region id l.toArray true) st Q:=zOd n hm hk
end
def RW (l:List Rq) (id:Int):Nat:=l.findIdx λr=>!decide (r.id<id)
def IC (l:List Rq) (id:Int):RW l id<=l.length:=List.findIdx_le_length
def zI2 {l:List Rq} {id:Int} {i:Nat} (h:i<RW l id):(l.getD i default).id<id:=by
 have h1:=IC l id;have:=List.not_of_lt_findIdx h;simpa [List.getD,show i<l.length by omega]using this
def zI3 {l:List Rq} {id:Int} (h:RW l id<l.length):¬(l.getD (RW l id) default).id<id:=by
 have:=List.findIdx_getElem (p:=λr:Rq=>!decide (r.id<id)) (w:=h);have h2:RW l id<l.length:=h;simp only[yAn,zYj]at this;intro h3;refine this ?_;rw[zYc,zYk h2]at h3;exact h3
def aL (id:Int) (v:Vh) (life:Int) (x:List Lg) (now:Int):Rq:=⟨id,v.id,v.cls,now+life,x⟩
def ZI (l:List Rq) (r:Rq):List Rq:=l.take (RW l r.id)++r::l.drop (RW l r.id)
def suE (l:List Rq) (q id life:Int) (x:List Lg):Int:=
 if¬(0<=id/\id<=4294967295/\1<=life/\life<=600/\vgF x=true)then 8 else if gY l id=true then 11 else if q<=l.length∨4<=(l.length:Int)then 14 else 0
theorem zI4 (l:List Rq) (q id:Int) (v:Vh) (life:Int) (x:List Lg) (now:Int) (hv:ZN l) (hq:(l.length:Int)<=q) (v0:0<=v.id) (v1:v.id<=4294967295) (w0:0<=v.cls) (w1:v.cls<=3) (n0:0<=now) (n1:now<=1073741824):
  zO 245 [zD yL l,iA q,iA id,vY v,iA life,zD xW x,iA now] [] (.tup [zD yL (if suE l q id life x=0 then ZI l (aL id v life x now)else []),iA (suE l q id life x)]) []:=by
 have h4:=hv.n4;have hl:=zA yL l;have c1:=UT l q hv hq;have c2:=OK v.id;have c3:=zAk v.cls;have c4:=zCw now;have c5:=OK id;have c6:=zCv x;have c7:=OH l id zB;rw[zYa ⟨v0,v1⟩]at c2;rw[zYa ⟨w0,w1⟩]at c3;rw[zYa ⟨n0,n1⟩]at c4;by_cases g1:0<=id/\id<=4294967295
 case neg=>
  rw[zYb g1]at c5;have e:suE l q id life x=8:=zX3 λh=>g1 ⟨h.1,h.2.1⟩
  rw[e,zX2 zV];refine eM call245 λF hF=>?_
  refine yR (zt5 c1 c2 c3 c4 c5) ?_;exact zJ
 rw[zYa g1]at c5;by_cases g2:1<=life/\life<=600
 case neg=>
  have e:suE l q id life x=8:=zX3 λh=>g2 ⟨h.2.2.1,h.2.2.2.1⟩
  rw[e,zX2 zV];by_cases g3:1<=life
  ·(refine eM call245 λF hF=>?_)
   refine yR (zt5 c1 c2 c3 c4 c5) ?_;exact zJ
  ·(refine eM call245 λF hF=>?_)
   refine yR (zt5 c1 c2 c3 c4 c5) ?_;exact zJ
 obtain⟨g2,g3⟩:=g2
 cases hg:vgF x with
 |false=>
  rw[hg]at c6;have e:suE l q id life x=8:=zX3 λh=>zYp (hg.symm.trans h.2.2.2.2)
  rw[e,zX2 zV];refine eM call245 λF hF=>?_
  refine yR (zt6 c1 c2 c3 c4 c5 c6) ?_;exact zJ
 |true=>
 rw[hg]at c6
 have e0:suE l q id life x=if gY l id=true then 11 else if q<=l.length∨4<=(l.length:Int)then 14 else 0:=zX2 λh=>h ⟨g1.1,g1.2,g2,g3,hg⟩
 cases hh:gY l id with
 |true=>
  have hx:=zAf (p:=λx:Rq=>x.id==id) (l:=l) hh;generalize SJ (λx:Rq=>x.id==id) l=n at *;have e:suE l q id life x=11:=by rw[e0,zX3 hh]
  rw[e,zX2 zV];refine eM call245 λF hF=>?_
  refine yR (zt7 c1 c2 c3 c4 c5 c6 c7) ?_;exact zJ
 |false=>
 have hx:=ZZ (p:=λx:Rq=>x.id==id) (l:=l) (by simpa [gY]using hh);rw[hx]at c7;rw[zX2 (by rw[hh];decide)]at e0;by_cases g4:q<=l.length∨4<=(l.length:Int)
 case pos=>
  rw[zX3 g4]at e0;rw[e0,zX2 zV];by_cases g5:q<=l.length
  ·(refine eM call245 λF hF=>?_)
   refine yR (zt7 c1 c2 c3 c4 c5 c6 c7) ?_;exact zJ
  ·have g6:4<=(l.length:Int):=g4.resolve_left g5;refine eM call245 λF hF=>?_
   refine yR (zt7 c1 c2 c3 c4 c5 c6 c7) ?_;exact zJ
 rw[zX2 g4]at e0;rw[e0,zX3 Z];have hxl:=IG hg;have c8:=bS x zB;have hk:=IC l id;have hk1:=λi h=>zI2 (l:=l) (id:=id) (i:=i) h
 have hk2:=zI3 (l:=l) (id:=id)
 have hiQ:(l.map yL).take (RW l id)++yL (aL id v life x now)::(l.map yL).drop (RW l id)=(ZI l (aL id v life x now)).map yL:=by
  unfold ZI aL;rw[zYd,zZj,yBd,yBc]
 have hiL:((ZI l (aL id v life x now)).map yL).length=(l.map yL).length+1:=by
  rw[<-hiQ,zX4,zYh,zYn,zYv];omega
 have h5:∀y∈l.map yL,y.cells.length=5:=λy hy=>by
  obtain⟨r,_,rfl⟩:=zZn.1 hy;rfl
 have r1:=λh=>zIy (l.map yL) (yL (aL id v life x now)) (RW l id) Z h5 h zB zB
 have r2:=λh c hc=>zIz (l.map yL) (yL (aL id v life x now)) (RW l id) c Z h5 h zB zB hc
 have r3:=zOe (yL (aL id v life x now)) Z;rw[hiQ]at r1 r2;have d1:=IB l zB (λr hr=>by have:=hv.lg3 hr;omega);clear hv hg;have hR:zD yL (ZI l (aL id v life x now))=AV.sl false ((ZI l (aL id v life x now)).map yL):=rfl;rw[hR];by_cases hn0:l=[]
 ·subst hn0;have d0:=UQ;have hY:(ZI [] (aL id v life x now)).map yL=[yL (aL id v life x now)]:=rfl;rw[hY];clear r1 r2 hY hR hiQ hiL;refine eM call245 λF hF=>?_
  refine yR (zt7 c1 c2 c3 c4 c5 c6 c7) ?_;refine zS (0) [10] [10] [0,2,4,5,6,10] [16,0,2,4,5,6,10] Z (λi T U=>⟨(16,iA i)::T,U⟩) ?_;(conv=>whnf);refine⟨by rfl,?_,?_⟩
  ·intro i hi;omega
  ·(refine yR (fQ c8 d0 r3) ?_)
   exact zJ
 have hl1:1<=l.length:=by
  cases l with
  |nil=>exact absurd Z hn0
  |cons a b=>simp
 have r1:=r1 zB;have r2:=r2 zB;clear r3 hR hiQ;generalize (ZI l (aL id v life x now)).map yL=Y at *;refine eM call245 λF hF=>?_
 refine yR (zt7 c1 c2 c3 c4 c5 c6 c7) ?_;refine zS (RW l id) [10] [10] [0,2,4,5,6,10] [16,0,2,4,5,6,10] Z (λi T U=>⟨(16,iA i)::T,U⟩) ?_;(conv=>whnf);refine⟨by rfl,?_,?_⟩
 ·intro i hi;have hy:=zM yL l i zB;have hlt:=hk1 i hi;generalize l.getD i default=r at *;refine WW ?_;rfl
 ·clear hk1;by_cases hkl:RW l id<l.length
  case' pos=>
   have hy:=zM yL l (RW l id) hkl;have hge:=hk2 hkl;generalize l.getD (RW l id) default=r at*
  all_goals clear hk2
  all_goals generalize RW l id=k at*
  all_goals (have zc1:=c8;have zc2:=d1;(repeat' (first|refine WS ?_|refine SG (I2 (λhc=>?_) λhc=>?_)|refine SG λhc=>?_|(refine zE ?_;first|refine SM ?_)|(first|refine zCp 5 8 Z Z ?_|first|refine SR ?_|refine SK (I2 (λhc=>?_) λhc=>?_)|refine SK λhc=>?_|fail)|fail))<;>clear zc1 zc2)
  all_goals refine zIx VJ ?_
  all_goals refine zTq 95 1001 ((l.map yL).length+1) [98] [96,98] (st':=⟨[(96,iA k),(98,.ref 98 0 1)],[(98,.arr 5 [yL (aL id v life x now)] false)]⟩) Z Z zB zB zB Z Z Z (λc hc=>?_) ?_
  case' pos.refine_1|neg.refine_1=>
   have r2:=r2 c hc;refine zY r2 ?_;exact zJ
  all_goals rw[show(l.map yL).length+1-(l.map yL).length=1 by omega]
  all_goals (refine zY r1 ?_)
  all_goals (refine zI [] Z Z ?_ Z;show AV.tup [AV.sl false (Y.take ((l.map yL).length+1)),iA 0]=_;rw[zYe zB])
def fdQ (l:List Rq) (id:Int):Rq:=(l.find? λx=>x.id==id).getD ⟨0,0,0,0,[]⟩
def zCq {l pre post:List Rq} {x:Rq} {id:Int} (h:l=pre++x::post) (hn:∀y∈pre,y.id≠id) (hx:x.id=id):fdQ l id=x/\gY l id=true:=by
 subst h;have h1:pre.find? (λv=>v.id==id)=none:=yCx.2 λy hy=>by simpa using hn y hy
 refine⟨?_,by simp[gY,hx]⟩;unfold fdQ;rw[yDn,h1];simp[hx]
end Av
end Go.Proofs.YteajjdidebfcjaaGreat
