/- Part 13. -/
import Derived.Test.YtmamjhmoegjapaaGreatP12
import Derived.Test.YtmamjhmoegjapaaGreatP11
namespace Go.Proofs.YtmamjhmoegjapaaGreat
namespace Av
open Tryz
set_option linter.unusedSimpArgs false
set_option linter.unusedVariables false
set_option linter.unusedSectionVars false
set_option maxRecDepth 4000
set_option maxHeartbeats 2000000
def IJ (n:Int) (i:Nat):Int:=IntKind.u8.wrap (BitVec.ofInt IntKind.u8.bits (IntKind.u8.wrap ((IntKind.u64.wrap n).fdiv (2 ^ (min (8*(i:Int)).toNat IntKind.u64.bits)))) ^^^ BitVec.ofInt IntKind.u8.bits (29*(i:Int)+7)).toNat
def dS (n:Int):List Int:=(List.range 8).map (IJ n)
theorem dF (n:Int):zN 43 [iA n] [] (zD yA (dS n)) []:=by
 have hu:∀i:Nat,((List.range i).map (IJ n)).map yA=((List.range i).map (IJ n)).map yA:=λ_=>rfl
 refine eM call43 λF hF=>?_
 (repeat' (first|refine YF ?_|refine xO (λhc=>?_) (λhc=>?_)|fail))
 refine xC 3 1001 1 rfl rfl rfl ?_
 refine vA (λk st=>∃i:Nat,k+i=8/\st=⟨[(0,iA n),(3,.ref 1001 0 (((List.range i).map (IJ n)).map yA).length),(5,iA i)],[(1001,.arr 1 (((List.range i).map (IJ n)).map yA) true)]⟩)
  8 [1001] [0,3,5] rfl ⟨0,rfl,rfl⟩ ?_
 rintro k st ⟨i,hi,rfl⟩;by_cases hlt:i<8
 ·have ht:((List.range (i+1)).map (IJ n)).map yA=((List.range i).map (IJ n)).map yA++[yA (IJ n i)]:=by rw[yAh];simp
  have hs:((List.range i).map (IJ n)).length=i:=by simp
  (repeat' (first|refine YF ?_|refine xO (λhc=>?_) (λhc=>?_)|fail))
  exact⟨k-1,zB,i+1,zB,by rw[ht];rfl⟩
 ·obtain rfl:i=8:=by omega
  (repeat' (first|refine YF ?_|refine xO (λhc=>?_) (λhc=>?_)|fail))
  exact zI [] rfl rfl (zY0 (AV.sl false) zX7) rfl
def ad7 (d:Dk):Dk:=ad (ad (ad (ad (ad (ad (ad d))))))
def agF (d:Dk) (num rights:Int):Ag:=⟨dS (1000+num),rights,3,[1+nx d (3-1+1),1+nx (ad d) (3-1+1),nx (ad (ad d)) 3,nx (ad (ad (ad d))) 3],1+nx (ad (ad (ad (ad d)))) (3-1+1),1+nx (ad (ad (ad (ad (ad d))))) (2-1+1),
 1+nx (ad (ad (ad (ad (ad (ad d)))))) (3-1+1),1+nx (ad (ad (ad (ad (ad (ad d)))))) (3-1+1)+nx (ad7 d) 5⟩
theorem zJr (d:Dk) (num rights:Int) (h0:0<=num) (h1:num<=1000):zN 39 [.ptr 1000 0 0,iA num,iA rights] [(1000,dU d)] (vC (agF d num rights)) [(1000,dU (ad (ad7 d)))]:=by
 have hb:=yF (ad (ad (ad (ad (ad (ad d)))))) (3-1+1) zB;have hb2:=yF (ad7 d) 5 zB;have sc:=dF (1000+num);unfold agF ad7 at *;generalize dS (1000+num)=sec at *;refine eM call39 λF hF=>?_
 (repeat' (first|refine YF ?_|refine xO (λhc=>?_) (λhc=>?_)|(refine zE ?_;refine wD ?_;(first|(refine uQ 43 ?_;first|refine xI (zH (sc) rfl rfl rfl rfl rfl) rfl ?_|refine uN (zH (sc) rfl rfl rfl rfl rfl) rfl rfl rfl ?_|refine aN (zH (sc) rfl rfl rfl rfl rfl) rfl rfl rfl ?_)|(refine uQ 37 ?_;first|refine xI (zH (kU _ _ _ zB zB zB) rfl rfl rfl rfl rfl) rfl ?_|refine uN (zH (kU _ _ _ zB zB zB) rfl rfl rfl rfl rfl) rfl rfl rfl ?_|refine aN (zH (kU _ _ _ zB zB zB) rfl rfl rfl rfl rfl) rfl rfl rfl ?_)|(refine uQ 22 ?_;first|refine xI (zH (yH _ _ zB zB) rfl rfl rfl rfl rfl) rfl ?_|refine uN (zH (yH _ _ zB zB) rfl rfl rfl rfl rfl) rfl rfl rfl ?_|refine aN (zH (yH _ _ zB zB) rfl rfl rfl rfl rfl) rfl rfl rfl ?_)))|fail))
 exact zL [1000] rfl rfl rfl rfl
def BJ (r:Int):Bool:=decide (0<=r/\r<=63)
theorem YE (r:Int):zN 279 [iA r] [] (bA (BJ r)) []:=by
 unfold BJ
 by_cases h1:0<=r<;>by_cases h2:r<=63<;>simp only[h1,h2,and_true,yDx,decide_true,yDy]<;>first|(exfalso;omega;done)|((refine eM call279 λF hF=>?_);(refine WW ?_);exact zJ)
theorem zJs:∀a b:_root_.Fin 64,(zUl a.val b.val==0)=(jU a.val b.val==(a.val:Int)):=by decide +kernel
def wiF (a b:Int):Bool:=BJ a&&BJ b&&(jU a b==a)
theorem zO1 (a b:Int):(BJ a&&BJ b&&(zUl a b==0))=wiF a b:=by
 unfold wiF
 cases ha:BJ a<;>cases hb:BJ b<;>simp only[zYp,zZw,yBz,yB5]
 simp only[BJ,zX9]at ha hb;have:=zJs ⟨a.toNat,zB⟩ ⟨b.toNat,zB⟩;dsimp only at this;rw[show((a.toNat:Nat):Int)=a by omega,show((b.toNat:Nat):Int)=b by omega]at this;exact this
theorem DD (a b:Int):zN 299 [iA a,iA b] [] (bA (wiF a b)) []:=by
 have c1:=YE a;have c2:=YE b;rw[<-zO1]
 cases h1:BJ a<;>cases h2:BJ b<;>rw[h1]at c1<;>rw[h2]at c2<;>simp only[zYp,zZw,yBz]<;>((refine eM call299 λF hF=>?_);(refine yQ (wZ c1 c2) ?_);exact zJ)
theorem zEf (a b:Int):yR [iA a,iA b] [] (bA (wiF a b)) []:=yG
def ndF (k:Int):Int:=if k=6∨k=7∨k=8 then 1 else if k=4∨k=5 then 2 else if k=2 then 4 else if k=3 then 8 else if k=10 then 16 else if k=11 then 32 else 0
theorem zEg (k:Int):(k=6/\ndF k=1)∨(k=7/\ndF k=1)∨(k=8/\ndF k=1)∨(k=4/\ndF k=2)∨(k=5/\ndF k=2)∨(k=2/\ndF k=4)∨(k=3/\ndF k=8)∨(k=10/\ndF k=16)∨(k=11/\ndF k=32)∨
  (k≠6/\k≠7/\k≠8/\k≠4/\k≠5/\k≠2/\k≠3/\k≠10/\k≠11/\ndF k=0):=by
 by_cases h6:k=6
 ·exact(.inl ⟨h6,by subst h6;rfl⟩)
 by_cases h7:k=7
 ·exact .inr ((.inl ⟨h7,by subst h7;rfl⟩))
 by_cases h8:k=8
 ·exact .inr (.inr ((.inl ⟨h8,by subst h8;rfl⟩)))
 by_cases h4:k=4
 ·exact .inr (.inr (.inr ((.inl ⟨h4,by subst h4;rfl⟩))))
 by_cases h5:k=5
 ·exact .inr (.inr (.inr (.inr ((.inl ⟨h5,by subst h5;rfl⟩)))))
 by_cases h2:k=2
 ·exact .inr (.inr (.inr (.inr (.inr ((.inl ⟨h2,by subst h2;rfl⟩))))))
 by_cases h3:k=3
 ·exact .inr (.inr (.inr (.inr (.inr (.inr ((.inl ⟨h3,by subst h3;rfl⟩)))))))
 by_cases h10:k=10
 ·exact .inr (.inr (.inr (.inr (.inr (.inr (.inr ((.inl ⟨h10,by subst h10;rfl⟩))))))))
 by_cases h11:k=11
 ·exact .inr (.inr (.inr (.inr (.inr (.inr (.inr (.inr ((.inl ⟨h11,by subst h11;rfl⟩)))))))))
 exact .inr (.inr (.inr (.inr (.inr (.inr (.inr (.inr (.inr (⟨h6,h7,h8,h4,h5,h2,h3,h10,h11,by simp[ndF,h6,h7,h8,h4,h5,h2,h3,h10,h11]⟩)))))))))
theorem zJt (k:Int):zN 278 [iA k] [] (iA (ndF k)) []:=by
 rcases zEg k with⟨h,e⟩|⟨h,e⟩|⟨h,e⟩|⟨h,e⟩|⟨h,e⟩|⟨h,e⟩|⟨h,e⟩|⟨h,e⟩|⟨h,e⟩|⟨h1,h2,h3,h4,h5,h6,h7,h8,h9,e⟩<;>rw[e]<;>((refine eM call278 λF hF=>?_);(refine WW ?_);exact zJ)
def peF (r k:Int):Bool:=BJ r&&(jU r (ndF k)==ndF k)
theorem zEh (r k:Int):zN 257 [iA r,iA k] [] (bA (peF r k)) []:=by
 have c1:=YE r;have c2:=zJt k;unfold peF;generalize ndF k=n at*
 cases h1:BJ r<;>rw[h1]at c1<;>simp only[zYp,zZw]<;>((refine eM call257 λF hF=>?_);(refine yQ (wZ c1 c2) ?_);exact zJ)
theorem zTx (r b:Int):zN 180 [iA r,iA b] [] (bkA ⟨b,r,b⟩) []:=by
 refine eM call180 λF hF=>?_
 refine WW ?_;exact zJ
def bvF (b:Bk):Bool:=decide (0<=b.burst/\b.burst<=1000/\0<=b.rate/\b.rate<=b.burst/\0<=b.level/\b.level<=b.burst)
theorem zJu (b:Bk):zN 282 [bkA b] [] (bA (bvF b)) []:=by
 (cases hb:bvF b with|false=>((refine eM call282 λF hF=>?_);((refine WW (I6 (λhc hc hc hc hc=>?_) (λhc hc hc hc hc=>?_) (λhc hc hc hc=>?_) (λhc hc hc=>?_) (λhc hc=>?_) (λhc=>?_))));all_goals (first|exact zJ|(simp only[bvF,zYn]at hb;first|exact zXO|exact BK)))|true=>(simp only[bvF,zX9]at hb;(refine eM call282 λF hF=>?_);((refine WW ?_));all_goals (first|exact zJ|exact zXO|exact BK)))
def btF (b:Bk):Bk:=⟨min (b.level+b.rate) b.burst,b.rate,b.burst⟩
theorem zO2 (b:Bk) (h: -1000000000<=b.level+b.rate/\b.level+b.rate<=1000000000):zN 189 [bkA b] [] (bkA (btF b)) []:=by
 refine eM call189 λF hF=>?_
 refine WW ?_;exact zJ
def DE (b:Bk):Bk:=if b.level<=0 then b else⟨b.level-1,b.rate,b.burst⟩
theorem zO3 (b:Bk) (h:b.level<=9223372036854775807):zN 235 [bkA b] [] (.tup [bkA (DE b),bA (decide (0<b.level))]) []:=by
 unfold DE;by_cases h1:b.level<=0
 ·rw[zX1 h1,zYa zB];refine eM call235 λF hF=>?_
  refine WW ?_;exact zJ
 ·rw[zX0 h1,zX8 zB];refine eM call235 λF hF=>?_
  refine WW ?_;exact zJ
def fT (l:List Tk) (s:Int):Bool:=decide (0<=s/\s<l.length)&&(l.getD s.toNat default).used
theorem zAg (l:List Tk) (s:Int):zN 233 [zD xB l,iA s] [] (bA (fT l s)) []:=by
 have hl:=zA xB l;unfold fT;by_cases h1:0<=s
 ·by_cases h2:s<l.length
  ·have hy:=yM xB l s h1 h2;rw[zX8 ⟨h1,h2⟩,zYp];refine eM call233 λF hF=>?_
   refine WW ?_;exact zJ
  ·rw[zYa zB,zZw];refine eM call233 λF hF=>?_
   refine WW ?_;exact zJ
 ·rw[zYa zB,zZw];refine eM call233 λF hF=>?_
  refine WW ?_;exact zJ
def laF (a b:Int):Bool:=decide (b≠0/\(a=0∨b<a))
theorem zCi (a b:Int):zN 300 [iA a,iA b] [] (bA (laF a b)) []:=by
 unfold laF
 by_cases h1:b=0<;>by_cases h2:a=0<;>by_cases h3:b<a<;>simp only[yBj,h1,h2,h3,yDm,yDl,and_true,yDx,true_and,false_and,or_true,true_or,yCy,decide_true,yDy]<;>first|(exfalso;omega;done)|((refine eM call300 λF hF=>?_);(refine WW ?_);exact zJ)
theorem zJv (a b:Int):yR [iA a,iA b] [] (bA (laF a b)) []:=yG
def exF (t:Tk) (now:Int):Bool:=decide (t.til≠0/\t.til<now)
theorem LM (t:Tk) (now:Int):zN 210 [xB t,iA now] [] (bA (exF t now)) []:=by
 unfold exF
 by_cases h1:t.til=0<;>by_cases h2:t.til<now<;>simp only[yBj,h1,h2,yDm,yDl,and_true,yDx,decide_true,yDy]<;>first|(exfalso;omega;done)|((refine eM call210 λF hF=>?_);(refine WW ?_);exact zJ)
def frT:Tk:=⟨false,[],-1,0,0,0⟩
theorem zAh:zN 205 [] [] (xB frT) []:=by
 refine eM call205 λF hF=>?_
 refine WW ?_;exact zJ
theorem bM {α:Type} (f:α->AV) (l:List α):AV.sl false ((l.map f).take (l.map f).length)=zD f l:=by rw[zX7];rfl
def kY {α:Type} (_:Nat) (l:List α):List α:=l
theorem VQ (l:List Int) (hl:l.length<=1073741824):zN 107 [zD iA l] [] (zD iA l) []:=by
 have hll:=zA iA l;refine eM call107 λF hF=>?_
 refine xA 0 rfl (λcap hx=>?_) ?_
 ·have:l=[]:=by simpa using hx
  subst this;refine WW ?_;exact zJ
 ·(refine WW ?_)
  refine zI [] rfl rfl (bM _ _) rfl
theorem vB (l:List Int) (hl:l.length<=1073741824):zN 79 [zD yA l] [] (zD yA l) []:=by
 have hll:=zA yA l;refine eM call79 λF hF=>?_
 refine xA 0 rfl (λcap hx=>?_) ?_
 ·have:l=[]:=by simpa using hx
  subst this;refine WW ?_;exact zJ
 ·(refine WW ?_)
  refine zI [] rfl rfl (bM _ _) rfl
theorem DF (l:List Vh) (hl:l.length<=1073741824):zN 186 [zD vT l] [] (zD vT l) []:=by
 have hll:=zA vT l;refine eM call186 λF hF=>?_
 refine xA 0 rfl (λcap hx=>?_) ?_
 ·have:l=[]:=by simpa using hx
  subst this;refine WW ?_;exact zJ
 ·(refine WW ?_)
  refine zI [] rfl rfl (bM _ _) rfl
theorem WC (l:List Tk) (hl:l.length<=1073741824):zN 185 [zD xB l] [] (.ref 1001 0 (l.map xB).length) [(1001,.arr 6 (l.map xB) false)]:=by
 have hll:=zA xB l;refine eM call185 λF hF=>?_
 refine xA 0 rfl (λcap hx=>?_) ?_
 ·have:l=[]:=by simpa using hx
  subst this
  (repeat' (first|refine WZN ?_|refine xO (λhc=>?_) (λhc=>?_)|refine wB (λhc=>?_)|fail))
  refine uM 2 1001 6 rfl rfl rfl (yU ?_);exact zL [1001] rfl rfl rfl rfl
 ·repeat' (first|(refine zE ?_;first|refine vN tok rfl rfl ?_|(refine wW ?_;refine xI (yX tok (.inl ⟨rfl,rfl⟩) rfl rfl rfl rfl) rfl ?_)|(refine yS ?_;refine uN (nw:=[1001]) (yL tok 1001 (xs:=[]) rfl rfl rfl rfl rfl rfl rfl rfl rfl) rfl rfl rfl ?_)|(refine yV ?_;refine wO tok rfl rfl rfl rfl rfl rfl rfl (xT _ _ (λ_=>rfl)) rfl rfl rfl zB rfl ?_)|refine qF ?_)|(first|refine xS ?_|refine xD ?_|refine vD rfl ?_|refine zX rfl ?_|refine zQ rfl ?_|refine xK rfl (λhc=>?_) (λhc=>?_)|refine yY ?_|refine yU ?_|refine xE ?_|refine yT ?_))
  exact zL [1001] rfl rfl rfl rfl
structure GL (l:List Tk):Prop where
 n:l.length<=1000000
 s:∀t∈l,t.sec.length<=1000000
theorem kO {α:Type} [Inhabited α] (f:α->AV) (l:List α) (i:Nat) (hi:i<l.length):(kY i (l.map f)).set i (f (l.getD i default))=kY (i+1) (l.map f):=by
 unfold kY;have:=zM f l i hi;rw[zYq]at this;obtain⟨h,e⟩:=this;rw[<-e,yC0]
theorem WE (l:List Tk) (hb:GL l):zN 208 [zD xB l] [] (.ref 1001 0 (l.map xB).length) [(1001,.arr 6 (l.map xB) false)]:=by
 have c:=WC l (by have:=hb.n;omega);have hn:=hb.n;have hll:=zA xB l;refine eM call208 λF hF=>?_
 refine zU c ?_;refine zP ((l.map xB).length) [1001] [] [3,8] [9,3,8] rfl (λi T U=>⟨(9,iA i)::T,(1001,.arr 6 (kY i (l.map xB)) false)::U⟩) ?_;(conv=>whnf);refine⟨by rfl,?_,?_⟩
 ·intro i hi;have hi':i<l.length:=by omega
  have hy:(kY i (l.map xB))[i]? =some (xB (l.getD i default)):=zM xB l i hi';have e:=kO xB l i hi';have c2:=vB (l.getD i default).sec (by have:=hb.s (l.getD i default) aI;omega);generalize (l.getD i default)=t at *;generalize kY i (l.map xB)=xs at *;generalize kY (i+1) (l.map xB)=ys at *;subst e;refine zU c2 ?_;rfl
 ·(refine WW ?_)
  exact zL [1001] rfl rfl rfl rfl
theorem DG (a:Ag) (h1:a.sec.length<=1000000) (h2:a.lim.length<=1000000):zN 178 [vC a] [] (vC a) []:=by
 have c1:=vB a.sec zB;have c2:=VQ a.lim zB;refine eM call178 λF hF=>?_
 refine yQ (wZ c1 c2) ?_;exact zJ
structure GM (r:Rg):Prop where
 tk:GL r.tk
 s:r.ag.sec.length<=1000000
 l:r.ag.lim.length<=1000000
 v:r.vh.length<=1000000
def rgX (r:Rg) (xs:List AV):AV:= .agg [iA r.num,zD yA r.ag.sec,iA r.ag.rights,iA r.ag.cls,zD iA r.ag.lim,iA r.ag.req,iA r.ag.ses,iA r.ag.rate,iA r.ag.burst,.sl false xs,zD vT r.vh,iA r.bk.level,iA r.bk.rate,iA r.bk.burst]
theorem dG (r:Rg) (hb:GM r):zN 187 [uX r] [] (uX r) []:=by
 have c1:=DG r.ag hb.s hb.l;have hn:=hb.tk.n;have hv:=hb.v;have c2:=WC r.tk zB;have c3:=DF r.vh zB;have hll:=zA xB r.tk;refine eM call187 λF hF=>?_
 refine yQ (wZ c1 c2) ?_;refine zP ((r.tk.map xB).length) [1001,1,2] [1,2] [1,2,14] [15,1,2,14] rfl (λi T U=>⟨(15,iA i)::T,(1001,.arr 6 (kY i (r.tk.map xB)) false)::U⟩) ?_;(conv=>whnf);refine⟨by rfl,?_,?_⟩
 ·intro i hi;have hi':i<r.tk.length:=by omega
  have hy:(kY i (r.tk.map xB))[i]? =some (xB (r.tk.getD i default)):=zM xB r.tk i hi';have e:=kO xB r.tk i hi';have c2:=vB (r.tk.getD i default).sec (by have:=hb.tk.s (r.tk.getD i default) aI;omega);generalize (r.tk.getD i default)=t at *;generalize kY i (r.tk.map xB)=xs at *;generalize kY (i+1) (r.tk.map xB)=ys at *;subst e;refine zU c2 ?_;rfl
 ·(refine zU c3 ?_)
  exact zI [] rfl rfl (zY0 (rgX r) zX7) rfl
theorem aM.lg3 {l:List Rq} (h:aM l) {r:Rq} (hr:r∈l):1<=r.legs.length/\r.legs.length<=3:=by
 have:=IO (h.ok r hr).lg;omega
theorem aM.filter {l:List Rq} (h:aM l) (p:Rq->Bool):aM (l.filter p):=
 ⟨λr hr=>h.ok r (yA7.1 hr).1,h.so.filter p,zY8 (yAd _ _) h.n4⟩
theorem cU (l:List Lg) (hl:l.length<=1000):zN 152 [zD xU l] [] (zD xU l) []:=by
 have hll:=zA xU l;refine eM call152 λF hF=>?_
 refine xA 0 rfl (λcap hx=>?_) ?_
 ·have:l=[]:=by simpa using hx
  subst this;refine WW ?_;exact zJ
 ·(refine WW ?_)
  refine zI [] rfl rfl (bM _ _) rfl
theorem VR (r:Rq) (hl:r.legs.length<=1000):zN 211 [yK r] [] (yK r) []:=by
 have c:=cU r.legs hl;have hll:=zA xU r.legs;refine eM call211 λF hF=>?_
 refine zU c ?_;exact zJ
theorem DH (p:Rq->Bool) (pre:List Rq) (x:Rq):((pre++[x]).filter p).map yK=(pre.filter p).map yK++(if p x=true then [x]else []).map yK:=by
 rw[yBq,zYc]
 congr 2
 cases h:p x<;>simp[h]
theorem zAi (fn:Nat) (v:Int) (p:Rq->Bool) (l:List Rq) (hn:l.length<=1000) (hb:∀r∈l,r.legs.length<=1000) (c:∀x,zN fn [yK x,.ptr 3 0 0] [(3,.box [iA v])] (bA (p x)) [(3,.box [iA v])]):
  zN 190 [zD yK l,.fn fn [.ptr 3 0 0]] [(3,.box [iA v])] (zD yK (l.filter p)) [(3,.box [iA v])]:=by
 have hl:=zA yK l;refine eM call190 λF hF=>?_
 refine WW ?_;refine xC 5 1001 5 rfl rfl rfl ?_;refine zY (l) [1001,3] [3] [1,8,9] [5,10,1,8,9] rfl (λi pre T U=>⟨(5,.ref 1001 0 ((pre.filter p).map yK).length)::(10,iA i)::T,(1001,.arr 5 ((pre.filter p).map yK) true)::U⟩) ?_;(conv=>whnf);refine⟨by rfl,?_,?_⟩
 ·intro i pre x post hx hi;have hy:=yI yK hx hi;have hlt:=yB hx hi;have hle:(pre.filter p).length<=i:=by rw[<-hi];exact yAd _ _
  have hlm:=zA yK (pre.filter p);have c1:=c x;have c2:=VR x (hb x (xX hx));have e:=DH p pre x;rw[e];clear hx e;generalize (pre.filter p).map yK=R at*
  cases h:p x with
  |false=>
   rw[h]at c1;rw[zX0 zYk];refine zU c1 ?_;rw[yAl,zY5];rfl
  |true=>
   rw[h]at c1;rw[zX1 rfl];refine yQ (wZ c1 c2) ?_;rfl
 ·(refine WW ?_)
  exact zL [3] rfl rfl (bM _ _) rfl
def UP {α:Type} (p:α->Bool) (l:List α):Int:=if l.any p=true then(l.findIdx p:Int)else -1
theorem QD {α:Type} {p:α->Bool} {l pre post:List α} {x:α} (h:l=pre++x::post) (hn:∀y∈pre,p y=false) (hx:p x=true):UP p l=(pre.length:Int):=by
 subst h;have h1:(pre++x::post).any p=true:=by simp[hx]
 have h2:pre.findIdx p=pre.length:=List.findIdx_eq_length.2 (λy hy=>by simpa using hn y hy);unfold UP;rw[zX1 h1,List.findIdx_append,h2,zX0 zB,List.findIdx_cons,hx];simp
theorem ZF {α:Type} {p:α->Bool} {l:List α} (hn:∀y∈l,p y=false):UP p l= -1:=by
 unfold UP;rw[zX0 CE]
theorem zAj {α:Type} {p:α->Bool} {l:List α} (h:l.any p=true):0<=UP p l/\UP p l<l.length:=by
 unfold UP;rw[zX1 h];have:=List.findIdx_lt_length.2 (zZp.1 h);omega
theorem zTy (id:Int) (x:Rq):zN 295 [yK x,.ptr 3 0 0] [(3,.box [iA id])] (bA (x.id==id)) [(3,.box [iA id])]:=by
 refine eM call295 λF hF=>?_
 refine WW ?_;exact zL [3] rfl rfl rfl rfl
theorem zTz (id:Int) (l:List Rq) (hb:l.length<=1000):zN 294 [zD yK l,.fn 295 [.ptr 3 0 0]] [(3,.box [iA id])] (iA (UP (λr:Rq=>r.id==id) l)) [(3,.box [iA id])]:=by
 have hl:=zA yK l;refine eM call294 λF hF=>?_
 refine WW ?_;refine qM (l) [3] [3] [0,1,7] [8,0,1,7] rfl (λi pre T U zs=>(∀y∈pre,(y.id==id)=false)/\zs=⟨(8,iA i)::T,U⟩) ?_;(conv=>whnf);refine⟨?_,?_,?_⟩
 ·exact⟨by simp,rfl⟩
 ·rintro i pre x post st hx hi ⟨hp,rfl⟩;have hy:=yI yK hx hi;have hlt:=yB hx hi;have c:=zTy id x;have hit:=QD (p:=λr:Rq=>r.id==id) hx hp
  cases he:(x.id==id)<;>rw[he]at c
  ·clear hx hit;refine zU c ?_;exact⟨λy hy=>by simp only[zYl,zYz]at hy;rcases hy with hy|rfl;exact hp y hy;exact he,rfl⟩
  ·rw[hit he,hi];clear hx hit;refine zU c ?_;exact zL [3] rfl rfl rfl rfl
 ·rintro st ⟨hp,rfl⟩;rw[ZF hp];refine WW ?_;exact zL [3] rfl rfl rfl rfl
theorem OB (l:List Rq) (id:Int) (hb:l.length<=1000):zN 271 [zD yK l,iA id] [] (iA (UP (λr:Rq=>r.id==id) l)) []:=by
 have c:=zTz id l hb;generalize UP (λr:Rq=>r.id==id) l=n at *;refine eM call271 λF hF=>?_
 refine zU c ?_;exact zJ
theorem zT0 (now:Int) (x:Rq):zN 191 [yK x,.ptr 3 0 0] [(3,.box [iA now])] (bA (decide (now<=x.til))) [(3,.box [iA now])]:=by
 cases hb:decide (now<=x.til)with
 |false=>
  rw[zYn]at hb;refine eM call191 λF hF=>?_
  refine WW ?_;exact zL [3] rfl rfl rfl rfl
 |true=>
  rw[zX9]at hb;refine eM call191 λF hF=>?_
  refine WW ?_;exact zL [3] rfl rfl rfl rfl
theorem zT1 (v:Int) (x:Rq):zN 265 [yK x,.ptr 3 0 0] [(3,.box [iA v])] (bA (x.vh != v)) [(3,.box [iA v])]:=by
 refine eM call265 λF hF=>?_
 refine WW ?_;exact zL [3] rfl rfl rfl rfl
theorem zT9 (v:Int) (x:Rq):zN 272 [yK x,.ptr 3 0 0] [(3,.box [iA v])] (bA (x.id != v)) [(3,.box [iA v])]:=by
 refine eM call272 λF hF=>?_
 refine WW ?_;exact zL [3] rfl rfl rfl rfl
def zJw (l:List Rq) (now:Int):List Rq:=l.filter λx=>decide (now<=x.til)
def DI (l:List Rq) (v:Int):List Rq:=l.filter λx=>x.vh != v
def zJx (l:List Rq) (id:Int):List Rq:=l.filter λx=>x.id != id
def gE (l:List Rq) (id:Int):Bool:=l.any λx=>x.id==id
theorem zJy (l:List Rq) (now:Int) (hv:aM l):zN 157 [zD yK l,iA now] [] (zD yK (zJw l now)) []:=by
 have h4:=hv.n4;have c:=zAi 191 now _ l zB (λr hr=>by have:=hv.lg3 hr;omega) (zT0 now);unfold zJw;generalize l.filter _=l2 at *;refine eM call157 λF hF=>?_
 refine zU c ?_;exact zJ
theorem LN (l:List Rq) (v:Int) (hv:aM l):zN 237 [zD yK l,iA v] [] (zD yK (DI l v)) []:=by
 have h4:=hv.n4;have c:=zAi 265 v _ l zB (λr hr=>by have:=hv.lg3 hr;omega) (zT1 v);unfold DI;generalize l.filter _=l2 at *;refine eM call237 λF hF=>?_
 refine zU c ?_;exact zJ
theorem zJz (l:List Rq) (id:Int) (hv:aM l):zN 240 [zD yK l,iA id] [] (.tup [zD yK (if gE l id=true then zJx l id else []),iA (if gE l id=true then 0 else 12)]) []:=by
 have h4:=hv.n4;have c1:=VU l 4 hv zB;have c2:=OB l id zB;have c3:=zAi 272 id _ l zB (λr hr=>by have:=hv.lg3 hr;omega) (zT9 id);unfold zJx;generalize l.filter _=l2 at*
 cases hh:gE l id with
 |true=>
  have hx:=zAj (p:=λx:Rq=>x.id==id) (l:=l) hh;generalize UP (λx:Rq=>x.id==id) l=n at *;rw[zX1 rfl,zX1 rfl];refine eM call240 λF hF=>?_
  refine yQ (fB c1 c2 c3) ?_;exact zJ
 |false=>
  have hx:=ZF (p:=λx:Rq=>x.id==id) (l:=l) (by simpa [gE]using hh);rw[hx]at c2;rw[zX0 zYk,zX0 zYk];refine eM call240 λF hF=>?_
  refine yQ (wZ c1 c2) ?_;exact zJ
theorem zEi (l:List Rq) (id:Int) (hv:aM l):yR [zD yK l,iA id] [] (.tup [zD yK (if gE l id=true then zJx l id else []),iA (if gE l id=true then 0 else 12)]) []:=yG
section
variable {P:Program} {K0:List Nat} {F:Fr K0} {m:Nat}
def TJ (l:List Oper) (n:Nat) (T:List Nat) (fs:List FP):Bool:=
 zPg l.toArray&&okT l.toArray T&&((List.range n).all λj=>(List.range j).all λi=>match l[i]?,l[j]?,fs[i]?,fs[j]? with
  |some oi,some oj,some fi,some fj=>bit T j i|| !qO l.toArray oi oj fi fj
  |_,_,_,_=>false)&&Nat.ble n l.length&&((List.range l.length).all λj=>Nat.blt j n||(List.range j).all λi=>bit T j i)
theorem zEj {id:Nat} {l:List Oper} (n:Nat) {st st':St} {es:List TN} {Q:Exit->St->Prop} (hm:P.follows .mixedOrders=true) (hT:Tr P m l.toArray (l.take n) st es st') (hC:TJ l n (OK l) (es.map TN.fp)=true) (hB:GN P F m l.toArray (l.drop n) st' (Q .normal)):
  uG P F m (.region id l.toArray true) st Q:=by
 refine⟨?_⟩;intro a w H;unfold TJ at hC;rw[zYh,zYh,zYh,zYh,zYf,zYf]at hC;obtain⟨⟨⟨⟨hA,hTc⟩,hX⟩,hnl⟩,hY⟩:=hC;have hnl:=zYj hnl;generalize OK l=T at *;have hlen:=hT.len;rw[zYo,yC7 hnl]at hlen
 have hAl:∀(i:Nat) o,(l.take n)[i]? =some o->l[i]? =some o/\i<n:=λi o h=>by
  have h1:i<n:=by
   have:=(zYq.1 h).1;rw[zYo]at this;omega
  rw[List.getElem?_take_of_lt h1]at h;exact⟨h,h1⟩
 have hbt:∀i j,n<=j->j<l.length->i<j->bit T j i=true:=λi j h1 h2 h3=>by
  have:=hY j (zYr.2 h2);rw[show Nat.blt j n=false by cases hb:Nat.blt j n with|false=>rfl|true=>exact absurd (zYj hb) zB,yBa,zYf]at this;exact this i (zYr.2 h3)
 let R:=(l.take n).zipWith (λo e=>(o.dst,e)) es
 have hR:∀(j:Nat) p,R[j]? =some p->∃o e,(l.take n)[j]? =some o/\es[j]? =some e/\p=(o.dst,e):=λj p hp=>by
  simp only[R,yCz]at hp
  cases ho:(l.take n)[j]? with
  |none=>simp[ho]at hp
  |some o=>cases he:es[j]? with
   |none=>simp[ho,he]at hp
   |some e=>simp[ho,he]at hp;exact⟨o,e,rfl,rfl,hp.symm⟩
 have hcl:∀i j oi oj ei ej,i<j->(l.take n)[i]? =some oi->(l.take n)[j]? =some oj->es[i]? =some ei->es[j]? =some ej->qO l.toArray oi oj ei.fp ej.fp=true->bit T j i=true:=λi j oi oj ei ej hij h1 h2 h3 h4 h5=>by
  have:=zYf.1 (hX j (zYr.2 (hAl j oj h2).2)) i (zYr.2 hij);simp only[(hAl i oi h1).1,(hAl j oj h2).1,zX4,h3,h4,Option.map_some,h5,yCv,yDg]at this;simpa using this
 let QQ:Exit->Act->World->Prop:=λe a' w'=>e= .normal/\∃s,Q .normal s/\wK F m s a' w'
 let J0:Array Bool->Prop:=λL=>L.size=l.toArray.size/\(∀i o,l.toArray[i]? =some o->qN L i=true->∀e∈o.after,binds e=true->qN L e.on=true)
 let JA:Array Bool->Act->World->Prop:=λL a w=>J0 L/\(∀i,n<=i->qN L i=false)/\YS F m (zG (vP (qN L) 0 R st).tm) (zC (vP (qN L) 0 R st).h) a w
 let JB:Array Bool->Act->World->Prop:=λL a w=>J0 L/\∃k,(∀i,qN L i=decide (i<n+k))/\n+k<=l.length/\wpListIn (LS F.ro) 0 P l.toArray QQ (l.drop (n+k)) a w
 let J:Array Bool->Act->World->Prop:=λL a w=>JA L a w∨JB L a w
 have hJ0:∀L a w,J L a w->J0 L:=λL a w h=>h.elim (λh=>h.1) (λh=>h.1)
 have hAB:∀L a w,JA L a w->(∀i,i<n->qN L i=true)->JB L a w:=λL a w hJ hall=>by
  refine⟨hJ.1,0,λi=>?_,hnl,?_⟩
  ·by_cases h:i<n
   ·rw[hall i h];simp[h]
   ·rw[hJ.2.1 i zB];simp[h]
  ·have:vP (qN L) 0 R st=st':=IT (l.take n) es 0 st st' hT λj hj=>by rw[zY6];exact hall j (by rw[zYo]at hj;omega)
   have h2:=hJ.2.2;rw[this]at h2;exact hB a w h2
 have hend:∀L a w,(∀i,i<l.toArray.size->qN L i=true)->J L a w->QQ .normal a w:=λL a w hall hJ=>by
  have hJB:JB L a w:=hJ.elim (λh=>hAB L a w h λi hi=>hall i wQ) (λh=>h);obtain⟨_,k,h1,h2,h3⟩:=hJB
  have hk:n+k=l.length:=by
   by_cases h:n+k<l.length
   ·have h4:=hall (n+k) UD;rw[h1]at h4;simp at h4
   ·omega
  rw[hk,yB0]at h3;exact h3
 have hcls:∀(L:Array Bool) i o,J0 L->l.toArray[i]? =some o->(∀e∈o.after,binds e=true->qN L e.on=true)->J0 (L.setIfInBounds i true):=λL i o h0 ho hpre=>by
  obtain⟨hs,hdn⟩:=h0;have hin:i<l.toArray.size:=(zZ5.1 ho).1
  have hL':∀j,qN (L.setIfInBounds i true) j=if j=i then true else qN L j:=λj=>dZ L i j (by rw[hs];exact hin)
  refine⟨by simpa using hs,λj oj hoj hlj ed hed hb=>?_⟩;rw[hL']at hlj⊢;by_cases hji:j=i
  ·subst hji;rw[ho]at hoj;cases hoj;split
   ·rfl
   ·exact hpre ed hed hb
  ·rw[zX0 hji]at hlj;split
   ·rfl
   ·exact hdn j oj hoj hlj ed hed hb
 have hstepB:∀L a w i,JB L a w->i∈Region.ready .any l.toArray L->∀K:Act->World->Prop,(∀a' w',J (L.setIfInBounds i true) a' w'->K a' w')->wpOpIn (LS F.ro) 0 P l.toArray QQ i K a w:=by
  intro L a w i hJ hi K hK;obtain⟨h0,k,h1,h2,h3⟩:=hJ;obtain⟨o,ho,hl,hpre⟩:=jQ h0.1 hi;have hin:i<l.toArray.size:=(zZ5.1 ho).1;have hin':i<l.length:=by simpa using hin
  have hge:n+k<=i:=by
   rw[h1]at hl;simpa using hl
  have hie:i=n+k:=by
   by_cases h:n+k<i
   ·have h5:=TM hA hTc h0.2 (i+1) i o zB ho hpre (n+k) (hbt _ _ zB hin' h);rw[h1]at h5;simp at h5
   ·omega
  subst hie;rw[yAu hin']at h3
  have ho':l[n+k]'hin'=o:=by
   have:=(zZ5.1 ho).2;simpa using this
  rw[ho']at h3
  have hL':∀j,qN (L.setIfInBounds (n+k) true) j=if j=n+k then true else qN L j:=λj=>dZ L _ j (by rw[h0.1];exact hin)
  have hnx:∀a' w',wpListIn (LS F.ro) 0 P l.toArray QQ (l.drop (n+k+1)) a' w'->K a' w':=λa' w' h=>by
   refine hK a' w' (.inr ⟨hcls L _ o h0 ho hpre,k+1,λj=>?_,zB,h⟩);rw[hL',h1];by_cases hj:j=n+k
   ·rw[zX1 hj];simp;omega
   ·rw[zX0 hj];by_cases hj2:j<n+k
    ·simp[hj2];omega
    ·simp[hj2];omega
  unfold wpOpIn;rw[ho];dsimp only;unfold wpListIn at h3;split
  ·rename_i hw;rw[zX1 hw]at h3;exact Oper.wpIn_mono hnx h3
  ·rename_i hw;rw[zX0 hw]at h3;exact⟨h3.1,hnx _ _ h3.2⟩
 have hstep:∀L a w i,J L a w->i∈Region.ready .any l.toArray L->∀K:Act->World->Prop,(∀a' w',J (L.setIfInBounds i true) a' w'->K a' w')->wpOpIn (LS F.ro) 0 P l.toArray QQ i K a w:=by
  intro L a w i hJ hi K hK
  rcases hJ with hJ|hJ
  case inr=>exact hstepB L a w i hJ hi K hK
  by_cases hin0:i<n
  case neg=>
   refine hstepB L a w i (hAB L a w hJ λj hj=>?_) hi K hK;obtain⟨o,ho,hl,hpre⟩:=jQ hJ.1.1 hi;have hin:i<l.toArray.size:=(zZ5.1 ho).1;exact TM hA hTc hJ.1.2 (i+1) i o zB ho hpre j (hbt _ _ zB (by simpa using hin) zB)
  obtain⟨h00,hge0,hRel⟩:=hJ;obtain⟨hs,hdn⟩:=h00;obtain⟨o,ho,hl,hpre⟩:=jQ hs hi;have hin:i<l.toArray.size:=(zZ5.1 ho).1;have ho':(l.take n)[i]? =some o:=by rw[List.getElem?_take_of_lt hin0];simpa using ho
  obtain⟨e,he⟩:∃e,es[i]? =some e:=⟨es[i]'(by rw[hlen];exact hin0),by simp⟩;have hahead:=TM hA hTc hdn (i+1) i o zB ho hpre
  have hlate:∀j,j<l.toArray.size->bit T j i=true->qN L j=false:=λj hj hij=>by
   cases hlj:qN L j with
   |false=>rfl
   |true=>
    have hoj:l.toArray[j]? =some l.toArray[j]:=by simp[hj]
    have:=TM hA hTc hdn (j+1) j _ zB hoj (hdn j _ hoj hlj) i hij;rw[hl]at this;cases this
  have hord:∀j oj ej,(l.take n)[j]? =some oj->es[j]? =some ej->j≠i->(j<i->qO l.toArray oj o ej.fp e.fp=true)->(i<j->qO l.toArray o oj e.fp ej.fp=true)->qN L j=decide (j<i):=λj oj ej h1 h2 hne h3 h4=>by
   rcases Nat.lt_or_gt_of_ne hne with h|h
   ·rw[hahead j (hcl j i oj o ej e h h1 ho' h2 he (h3 h))];simp[h]
   ·rw[hlate j (by have:=hAl j oj h1;simp;omega) (hcl i j o oj e ej h ho' h1 he h2 (h4 h))];simp;omega
  obtain⟨⟨s1,s2,s3,s4,s5,s6⟩,hnext⟩:=hT.at i 0 o e ho' he;simp only[zY6]at s3 s4 s6 hnext
  let Li:Nat->Bool:=λj=>decide (j<i)
  have rdS:∀t,t∈MO l.toArray o->zG (vP (qN L) 0 R st).tm t=zG (vP Li 0 R st).tm t:=λt ht=>dH R 0 st st rfl λj p hp hd=>by
   obtain⟨oj,ej,h1,h2,rfl⟩:=hR j p hp;rw[zY6];by_cases hji:j=i
   ·subst hji;simp only[Li];rw[hl];simp
   ·refine hord j oj ej h1 h2 hji (λ_=>?_) λ_=>?_
    ·unfold qO;simp only[show oj.dst=some t from hd,zZx.2 ht,yAm]
    ·unfold qO;simp only[show oj.dst=some t from hd,zZx.2 ht,yAm,yAk]
  have rdK:∀k,k∈e.r∨k∈e.nw∨k∈yD e.d->zC (vP (qN L) 0 R st).h k=zC (vP Li 0 R st).h k:=λk hk=>gL R 0 st st rfl λj p hp hd=>by
   obtain⟨oj,ej,h1,h2,rfl⟩:=hR j p hp;rw[zY6];by_cases hji:j=i
   ·subst hji;simp only[Li];rw[hl];simp
   ·have hwj:k∈ej.fp.w:=by simp only[TN.fp,zYl];exact .inl hd
    have hki:k∈e.fp.w∨k∈e.fp.r:=by
     simp only[TN.fp,zYl]
     rcases hk with h|h|h
     ·exact .inr h
     ·exact .inl (.inr h)
     ·exact .inl (.inl h)
    refine hord j oj ej h1 h2 hji (λ_=>?_) λ_=>?_
    ·have:ej.fp.w.any (λk=>e.fp.w.contains k||e.fp.r.contains k)=true:=zZp.2 ⟨k,hwj,by simp only[zZ6,zZx];exact hki⟩;unfold qO;simp only[this,yAk,yAm]
    ·rcases hki with h|h
     ·have:e.fp.w.any (λk=>ej.fp.w.contains k||ej.fp.r.contains k)=true:=zZp.2 ⟨k,h,by simp only[zZ6,zZx];exact .inl hwj⟩;unfold qO;simp only[this,yAk,yAm]
     ·have:ej.fp.w.any (λk=>e.fp.r.contains k)=true:=zZp.2 ⟨k,hwj,zZx.2 h⟩;unfold qO;simp only[this,yAk]
  have hL':∀j,qN (L.setIfInBounds i true) j=if j=i then true else qN L j:=λj=>dZ L i j (by rw[hs];exact hin)
  have lookN:∀t,zG (vP (qN (L.setIfInBounds i true)) 0 R st).tm t=if o.dst=some t then e.v else zG (vP (qN L) 0 R st).tm t:=λt=>by
   by_cases hd:o.dst=some t
   ·rw[zX1 hd]
    have h1:zG (vP (qN (L.setIfInBounds i true)) 0 R st).tm t=zG (vP (λj=>decide (j<i+1)) 0 R st).tm t:=dH R 0 st st rfl λj p hp hdj=>by
     obtain⟨oj,ej,h1,h2,rfl⟩:=hR j p hp;rw[zY6,hL'];by_cases hji:j=i
     ·subst hji;simp
     ·have hdj':oj.dst=some t:=hdj;rw[zX0 hji,hord j oj ej h1 h2 hji (λ_=>by unfold qO;simp[hdj',hd]) (λ_=>by unfold qO;simp[hdj',hd])];by_cases h:j<i
      ·simp[h];omega
      ·simp[h];omega
    rw[h1,show(vP (λj=>decide (j<i+1)) 0 R st)=_ from hnext,ZJ,zX1 hd]
   ·rw[zX0 hd]
    exact dH R 0 st st rfl λj p hp hdj=>by
     obtain⟨oj,ej,h1,h2,rfl⟩:=hR j p hp;rw[zY6,hL'];by_cases hji:j=i
     ·subst hji;rw[ho']at h1;cases h1;exact absurd hdj hd
     ·rw[zX0 hji]
  have lookEN:∀k,zC (vP (qN (L.setIfInBounds i true)) 0 R st).h k=over e.d (zC (vP (qN L) 0 R st).h) k:=λk=>by
   by_cases hd:k∈yD e.d
   ·have h1:zC (vP (qN (L.setIfInBounds i true)) 0 R st).h k=zC (vP (λj=>decide (j<i+1)) 0 R st).h k:=gL R 0 st st rfl λj p hp hdj=>by
     obtain⟨oj,ej,h1,h2,rfl⟩:=hR j p hp;rw[zY6,hL'];by_cases hji:j=i
     ·subst hji;simp
     ·have hwj:k∈ej.fp.w:=by simp only[TN.fp,zYl];exact .inl hdj
      have hwi:k∈e.fp.w:=by simp only[TN.fp,zYl];exact .inl hd
      have q1:ej.fp.w.any (λk=>e.fp.w.contains k||e.fp.r.contains k)=true:=zZp.2 ⟨k,hwj,by simp only[zZ6,zZx];exact .inl hwi⟩;have q2:e.fp.w.any (λk=>ej.fp.w.contains k||ej.fp.r.contains k)=true:=zZp.2 ⟨k,hwi,by simp only[zZ6,zZx];exact .inl hwj⟩;rw[zX0 hji,hord j oj ej h1 h2 hji (λ_=>by unfold qO;simp only[q1,yAk,yAm]) (λ_=>by unfold qO;simp only[q2,yAk,yAm])];by_cases h:j<i
      ·simp[h];omega
      ·simp[h];omega
    rw[h1,show(vP (λj=>decide (j<i+1)) 0 R st)=_ from hnext,cW];exact IS hd
   ·rw[OL hd]
    exact gL R 0 st st rfl λj p hp hdj=>by
     obtain⟨oj,ej,h1,h2,rfl⟩:=hR j p hp;rw[zY6,hL'];by_cases hji:j=i
     ·subst hji;rw[he]at h2;cases h2;exact absurd hdj hd
     ·rw[zX0 hji]
  have hfin:∀a' w',YS F m (λt=>if o.dst=some t then e.v else zG (vP (qN L) 0 R st).tm t) (over e.d (zC (vP (qN L) 0 R st).h)) a' w'->K a' w':=λa' w' h=>by
   refine hK a' w' (.inl ⟨hcls L i o ⟨hs,hdn⟩ ho hpre,λj hj=>?_,h.congr lookN lookEN⟩);rw[hL',zX0 zB];exact hge0 j hj
  have hexec:e.on=true->o.wpIn (LS F.ro) 0 P a w K QQ:=λhon=>
   (s4 hon).rel hRel (λt ht=>rdS t (by unfold MO;simp[ht])) (λk hk=>rdK k (.inl hk)) (λk hk=>by rw[rdK k (.inr (.inl hk))];exact s3 k hk) s1 s2 hfin
  unfold wpOpIn;rw[ho];dsimp only
  cases hg:o.guard with
  |none=>
   rw[hg]at s6;rw[zX1 (by simp[Region.wanted,hg])];exact hexec s6
  | some jb=>
   obtain⟨j,b⟩:=jb;rw[hg]at s6;obtain⟨t,c,g1,g2,g3⟩:=s6;have htr:t∈MO l.toArray o:=by unfold MO gOf;simp[hg,g1]
   have hv:a.eval (.tmp t)=c:=by
    obtain⟨⟨_,β,_,_,Ht,_⟩,_⟩:=hRel;have:=Ht t;rw[rdS t htr,g2]at this;exact this.s_inv
   have hw:=eI hg g1 hv
   cases hon:e.on with
   |true=>
    rw[zX1 (by rw[hw,<-g3,hon])];exact hexec hon
   |false=>
    rw[zX0 (by rw[hw,<-g3,hon];simp)];obtain⟨v1,v2⟩:=s5 hon;refine⟨λ_ _=>trivial,hfin _ _ ?_⟩;rw[v1,v2];exact YS.bot hRel o.dst s2
 have main:∀(fuel:Nat) (L:Array Bool) (a:Act) (w:World),cnt (λi=>!qN L i) l.toArray.size<=fuel->J L a w->wpAnyIn (LS F.ro) 0 P .any l.toArray QQ fuel L a w:=by
  intro fuel
  induction fuel with
  | zero=>
   intro L a w hf hJ
   have all:∀i,i<l.toArray.size->qN L i=true:=by
    intro i hi
    cases hl:qN L i with
    |true=>rfl
    |false=>
     exfalso;have h:=QF (p:=λj=>!qN L j&&j != i) (q:=λj=>!qN L j) l.toArray.size i hi zS (λj hj=>by simp[hj]);simp[hl]at h;simp at hf;omega
   refine⟨?_,hend L a w all hJ⟩
   cases hr:Region.ready .any l.toArray L with
   |nil=>rfl
   |cons i rest=>
    obtain⟨o,ho,hl,_⟩:=jQ (hJ0 _ _ _ hJ).1 (i:=i) (by rw[hr];simp);rw[all i (zZ5.1 ho).1]at hl;cases hl
  |succ fuel ih=>
   intro L a w hf hJ;refine⟨λhr=>hend L a w (λi hi=>LQ hA (hJ0 _ _ _ hJ).1 hr (i+1) i zB hi) hJ,λi hi=>?_⟩;refine hstep L a w i hJ hi _ (λa' w' hJ'=>ih _ _ _ ?_ hJ');obtain⟨o,ho,hl,_⟩:=jQ (hJ0 _ _ _ hJ).1 hi;have hin:i<l.toArray.size:=(zZ5.1 ho).1;have h:=QF (p:=λj=>!qN (L.setIfInBounds i true) j) (q:=λj=>!qN L j) l.toArray.size i hin (by simp[dZ L i i (by rw[(hJ0 _ _ _ hJ).1];exact hin)]) (λj hj=>by simp[dZ L i j (by rw[(hJ0 _ _ _ hJ).1];exact hin),hj]);simp[hl]at h;simp at hf⊢;omega
 refine Code.wpIn_mono (λe a' w' ⟨he,s,h1,h2⟩=>⟨s,by rw[he];exact h1,h2⟩) (wpIn_region_any hm (main _ _ _ _ (zKo _ _) ?_))
 have hf:∀i,qN (Array.replicate l.toArray.size false) i=false:=by
  intro i;unfold qN;simp only[zYy,Array.getElem?_replicate]
  split<;>rfl
 refine .inl ⟨⟨by simp,λi o _ hl=>?_⟩,λi _=>hf i,?_⟩
 ·rw[hf]at hl;cases hl
 ·rw[ZK R 0 st λj _=>hf _];obtain⟨⟨X,β,hX,HH,Ht,KK,hJ,hD⟩,nd,gs,hl⟩:=H;have G:=xM.drew HH (w.drawn+1);exact⟨⟨X,β,hX,G.hok,λt=>(Ht t).evo G.evo,KK.goes G nd (G.lives HH nd),λi hi=>F.go G (hJ i hi),hD.goes HH G⟩,nd,gs,hl⟩
theorem zO4 (n:Nat) {Q:Exit->St->Prop} {id:Nat} {l:List Oper} {st:St} (hm:P.follows .mixedOrders=true)
  (hk:yC P F m l.toArray true (l.take n) st [] (λfs s=>TJ l n (OK l) fs.reverse=true/\yC P F m l.toArray false (l.drop n) s [] (λ_ s=>Q .normal s))):uG P F m (.region id l.toArray true) st Q:=by
 obtain⟨es,st2,h1,h2,h3⟩:=hk.run;exact zEj n hm h1 NA h3.run
theorem zJ0 {l:List Oper} {n:Nat} {ops:Array Oper} {st:St} {fs:List FP} {Q':St->Prop} (hc:TJ l n (OK l) fs.reverse=true) (hq:Q' st):yC P F m ops true [] st fs (λfs s=>TJ l n (OK l) fs.reverse=true/\Q' s):=⟨⟨[],st,rfl,hc,hq⟩⟩
end
section
variable {P:Program} {TT:List TI} {st:St}
theorem DJ (hP:uR P TT) {T e:Nat} {x l:Operand} {ti te:TI} {k:IntKind} (hx:yN (zG st.tm) x= .s (.slice none 0 0)) (hl:yN (zG st.tm) l= .s (.int k 0)) (hT:TT[T]? =some ti) (hd:ti.d= .slice e) (he:TT[e]? =some te):
  wR P st (.slice T x (some l) none none) (.s (.slice none 0 0)) [] [] []:=
 yO λoo X tm h w β a ho hg hr HH Ht=>by
  obtain⟨dst,op',type,pos,after,guard⟩:=oo;dsimp only at ho;subst ho;have hc:=vL Ht hg (x:=x) vZ hx;obtain⟨u,hu,hd'⟩:=wA (hP _ _ hT) w;obtain rfl:=vS (hd'.trans hd);have hs:=uW (hP _ _ he) w;have hb:=gR (P:=P) Ht hg (lo:=some l) (hi:=none) (len:=0) (cap:=0) (l:=0) (r:=0) (λy hy=>by cases hy;simp[Op.operands]) (λy hy=>by cases hy) ⟨k,0,hl,zB⟩ rfl (zX6 _) (zX6 _) true;rw[yA1]at hb;exact⟨_,by simp only[execOp,Instr.sliceAt,Instr.slice,Sem.run_bind,hu,Result.andThen_ok,hc,yA1,hb,hs,Sem.run_pure];rfl,.fz _ _ (.s _)⟩
end
section
variable {P:Program} {TT:List TI} {K0:List Nat} {F:Fr K0} {m:Nat} {ops:Array Oper} {rest:List Oper} {Q:List FP->St->Prop} {tm:List (Nat×AV)} {h:List (Nat×xN)} {dr:Bool} {fs:List FP}
variable {ty:Nat} {pos:String} {after:Array Edge} {t:Nat}
theorem zAk (hP:uR P TT) {T e key off len sz:Nat} {d x:Operand} {ti te:TI} {xs yl ys zs:List AV} {xv:AV} (hdv:yN (zG tm) d= .ref key off len) (hk:zC h key=some (.arr sz xs false)) (hx:yN (zG tm) x=xv) (hT:TT[T]? =some ti) (hd:ti.d= .slice e) (he:TT[e]? =some te)
  (hyl:BL (zC h) xv=some yl) (hyt:yl.take len=ys) (hsz:∀y,ys[0]? =some y->y.cells.length=sz) (hp1:1<=ys.length) (hss:Nat.beq sz te.size=true) (hz:xs.take off++ys++xs.drop (off+ys.length)=zs) (hm:Nat.blt t m=true)
  (hr:yC P F m ops dr rest ⟨(t,.s (.int .i64 ys.length))::tm,(key,.arr sz zs false)::h⟩ (⟨true,[key],key::OU xv⟩::fs) Q):yC P F m ops dr (⟨some t,.call ⟨.builtin .copy, #[d,x], #[T,T]⟩,ty,pos,after,none⟩::rest) ⟨tm,h⟩ fs Q:=by
 subst hz;exact uN (nw:=[]) (zEw hP hdv hk hx hT hd he hyl hyt hsz hp1 hss) hm rfl rfl hr
theorem zUa (hP:uR P TT) {T e:Nat} {x:Operand} {ti:TI} {k len sz:Nat} {xs:List AV} (hx:yN (zG tm) x= .ref k 0 len) (hk:zC h k=some (.arr sz xs ⟨false,false⟩)) (hT:TT[T]? =some ti) (hd:ti.d= .slice e) (hl:1<=len) (hm:Nat.blt t m=true)
  (hr:∀c:Int,(xs.length:Int)<=c->yC P F m ops false rest ⟨(t,.s (.int .i64 c))::tm,h⟩ fs Q):yC P F m ops false (⟨some t,.call ⟨.builtin .cap, #[x], #[T]⟩,ty,pos,after,none⟩::rest) ⟨tm,h⟩ fs Q:=
 x_m (zA5 hP hx hk hT hd hl) hm rfl (λv d ⟨c,_,_,e⟩=>by subst e;rfl) (λv d ⟨c,e1,e2,e3⟩=>by subst e1 e3;exact hr c e2)
theorem zCj (hP:uR P TT) {T e k len sz:Nat} {s x:Operand} {ti te:TI} {xs vs zs:List AV} {xv:AV} (hs:yN (zG tm) s= .ref k 0 len) (hk:zC h k=some (.arr sz xs ⟨false,false⟩)) (hx:yN (zG tm) x=xv) (hT:TT[T]? =some ti) (hd:ti.d= .slice e) (he:TT[e]? =some te) (hvs:BL (zC h) xv=some vs)
  (hss:Nat.beq sz te.size=true) (hsz:∀y,vs[0]? =some y->y.cells.length=sz) (hpos:1<=vs.length) (hl:1<=len) (hroom:len+vs.length<=xs.length) (hmax:xs.length<=1073741824) (hz:xs.take len++vs++xs.drop (len+vs.length)=zs) (hm:Nat.blt t m=true)
  (hr:yC P F m ops dr rest ⟨(t,.ref k 0 (len+vs.length))::tm,(k,.arr sz zs ⟨false,false⟩)::h⟩ (⟨true,[k],k::OU xv⟩::fs) Q):yC P F m ops dr (⟨some t,.call ⟨.builtin .append, #[s,x], #[T,T]⟩,ty,pos,after,none⟩::rest) ⟨tm,h⟩ fs Q:=by
 subst hz;exact uN (nw:=[]) (zEy hP hs hk hx hT hd he hvs hss hsz hpos hl hroom hmax) hm rfl rfl hr
theorem zUb (hP:uR P TT) {T I e c n N:Nat} {s x:Operand} {ti te tn:TI} {k0:IntKind} {nx:Int} {ys zs:List AV} {z:AV} (hs:yN (zG tm) s= .slc c ys) (hx:yN (zG tm) x= .s (.int .i64 nx)) (hT:TT[T]? =some ti) (hd:ti.d= .slice e) (he:TT[e]? =some te) (hI:TT[I]? =some tn) (hdn:tn.d= .int k0)
  (hb:Nat.ble te.bytes 65536=true) (hp:Nat.ble 1 te.size=true) (hzl:Nat.beq te.zero.length te.size=true) (hz1:te.zero.all (·.oneCell')=true) (hzc:Nat.beq (vW te).cells.length te.size=true) (hzc2:(vW te).cells=te.zero.map .s) (hz:vW te=z)
  (hnx:nx=(n:Int)) (hpos:1<=n) (hmax:ys.length+n<=1073741824) (hc:c<ys.length+n) (hw0:∀(i:Nat) (y:AV),ys[i]? =some y->y.cells.length=te.size) (hA:ys++List.replicate n z=zs) (hN:zs.length=N) (hm:Nat.blt t m=true) (hnn:(zC h t).isNone=true)
  {sz:Nat} (hse:te.size=sz) (hk:yC P F m ops dr rest ⟨(t,.ref t 0 N)::tm,(t,.arr sz zs false)::h⟩ (⟨true,[t,t],[]⟩::fs) Q):yC P F m ops dr (⟨some t,.call ⟨.builtin .append, #[s,x], #[T,I]⟩,ty,pos,after,none⟩::rest) ⟨tm,h⟩ fs Q:=by
 subst hse hz hN hA;exact uN (nw:=[t]) (zLa hP t hs hx hT hd he hI hdn hb hp hzl hz1 hzc hzc2 hnx hpos hmax hc hw0) hm (zEl hnn) rfl hk
end
theorem zJ1 (xs:List AV) (v:AV) (i:Nat) (hv:v.cells.length=5) (hx:∀y∈xs,y.cells.length=5) (h1:1<=xs.length) (hn:xs.length<=1000) (hi:i<=xs.length):
  zN 293 [.ref 1001 0 xs.length,iA i,.ref 98 0 1] [(1001,.arr 5 (xs++[fW 5]) false),(98,.arr 5 [v] false)] (.ref 1001 0 (xs.length+1)) [(1001,.arr 5 (xs.take i++v::xs.drop i) false),(98,.arr 5 [v] false)]:=by
 have hll:(xs++[fW 5]).length=xs.length+1:=by simp
 by_cases he:i=xs.length
 ·subst he
  have hz:(xs++[fW 5]).take xs.length++[v]++(xs++[fW 5]).drop (xs.length+[v].length)=xs.take xs.length++v::xs.drop xs.length:=by
   rw[yAc (zX6 _),zX7,yB0,yB9 zS];simp
  refine eM call293 λF hF=>?_
  (repeat' (first|refine qB ?_|refine xO (λhc=>?_) (λhc=>?_)|refine wB (λhc=>?_)|(refine zE ?_;first|(refine jN ?_;refine fG tok rfl rfl rfl rfl rfl rfl rfl zB zB rfl ?_)|(refine yV ?_;refine zCj tok rfl rfl rfl rfl rfl rfl rfl rfl (λy hy=>by cases hy;exact hv) zS zB zS zB hz rfl ?_))|fail))
  exact zL [1001,98] rfl rfl rfl rfl
 ·have hlt:i<xs.length:=by omega
  have e1:(xs++[fW 5]).drop i=xs.drop i++[fW 5]:=yCb zB;have hdl:(xs.drop i).length=xs.length-i:=zY4
  have hc1:(((xs++[fW 5]).drop i).take (xs.length+1-i)).take (xs.length+1-(i+1))=xs.drop i:=by
   have e3:((xs++[fW 5]).drop i).take (xs.length+1-i)=xs.drop i++[fW 5]:=by rw[e1];exact zYb wQ
   rw[e3,yAc zB,zYb zB]
  have hz1:(xs++[fW 5]).take (i+1)++xs.drop i++(xs++[fW 5]).drop (i+1+(xs.drop i).length)=xs.take (i+1)++xs.drop i:=by
   have e3:(xs++[fW 5]).drop (i+1+(xs.drop i).length)=[]:=yB9 (by rw[hll,hdl];omega);rw[e3,zY5,yAc zB]
  have hxd:∀y,(xs.drop i)[0]? =some y->y.cells.length=5:=λy hy=>hx y (zZe (zZn hy))
  have hc2:(([v].drop 0).take 1).take (xs.length+1-i)=[v]:=zYb wQ
  have hz2:(xs.take (i+1)++xs.drop i).take i++[v]++(xs.take (i+1)++xs.drop i).drop (i+[v].length)=xs.take i++v::xs.drop i:=by
   have e2:(xs.take (i+1)).length=i+1:=by rw[zYo];omega
   rw[yAc zB,List.take_take,yC7 zB,show i+[v].length=(xs.take (i+1)).length by rw[e2];rfl,List.drop_left,zYv];rfl
  refine eM call293 λF hF=>?_
  (repeat' (first|refine qB ?_|refine xO (λhc=>?_) (λhc=>?_)|refine wB (λhc=>?_)|(refine zE ?_;refine wD ?_;(refine uQ 307 ?_;refine xI (HX tok rfl rfl rfl rfl rfl rfl zB zB rfl rfl rfl zB rfl rfl rfl rfl rfl) rfl ?_))|(refine zE ?_;first|(refine jN ?_;first|refine fG tok rfl rfl rfl rfl rfl rfl rfl zB zB rfl ?_|refine xI (zEv (N:=xs.length+1) tok rfl rfl rfl rfl rfl rfl zB zB zB zB) rfl ?_)|(refine zAk tok rfl rfl rfl rfl rfl rfl rfl (by first|exact hc1|exact hc2) (by first|exact hxd|(intro y hy;cases hy;exact hv)) (by first|(rw[hdl];omega)|simp) rfl (by first|exact hz1|exact hz2) rfl ?_)|(refine zUa tok rfl rfl rfl rfl zB rfl ?_;intro cp hcp))|fail))
  exact zL [1001,98] rfl rfl rfl rfl
theorem zJ2 (xs:List AV) (v:AV) (i c:Nat) (hv:v.cells.length=5) (hx:∀y∈xs,y.cells.length=5) (h1:1<=xs.length) (hn:xs.length<=1000) (hi:i<=xs.length) (hc:c<xs.length+1):
  zN 293 [.slc c xs,iA i,.ref 98 0 1] [(98,.arr 5 [v] false)] (.sl false (xs.take i++v::xs.drop i)) [(98,.arr 5 [v] false)]:=by
 have hxi:∀(j:Nat) (y:AV),xs[j]? =some y->y.cells.length=5:=λj y hy=>hx y (zZn hy)
 by_cases he:i=xs.length
 ·subst he;refine eM call293 λF hF=>?_
  (repeat' (first|refine qB ?_|refine xO (λhc=>?_) (λhc=>?_)|refine wB (λhc=>?_)|(refine zE ?_;first|(refine xI (CS tok rfl rfl rfl) rfl ?_)|(refine jN ?_;refine zA6 10 rfl h1 ?_;refine HW tok rfl rfl rfl rfl rfl (hxi 0) zB zB rfl rfl ?_)|(refine yV ?_;refine uN (nw:=[25]) (zEx tok 25 rfl rfl rfl rfl rfl rfl rfl rfl rfl rfl (λy hy=>by cases hy;exact hv) zS wQ wQ hxi) rfl rfl rfl ?_))|fail))
  refine zL [98] rfl rfl ?_ rfl
  show AV.sl false ((xs++[v]).take (xs++[v]).length)=_
  rw[zX7,zX7,yB0]
 ·have hlt:i<xs.length:=by omega
  have hdl:(xs.drop i).length=xs.length-i:=zY4;have htl:(xs.take i).length=i:=by rw[zYo];omega
  have hxt:∀(j:Nat) (y:AV),(xs.take i)[j]? =some y->y.cells.length=5:=λj y hy=>hx y (zZv (zZn hy))
  have hxd:∀y,(xs.drop i)[0]? =some y->y.cells.length=5:=λy hy=>hx y (zZe (zZn hy))
  have hx0:∀y,xs[0]? =some y->y.cells.length=5:=hxi 0;have hnx:((xs.length:Int)+1-(i:Int))=((xs.length+1-i:Nat):Int):=by omega
  have hzs:∃zs,xs.take i++List.replicate (xs.length+1-i) (AV.agg [.s (.int .i64 0),.s (.int .i64 0),.s (.int .i64 0),.s (.int .i64 0),.s (.slice none 0 0)])=zs:=⟨_,rfl⟩;obtain⟨zs,hA⟩:=hzs;have hN:zs.length=xs.length+1:=by rw[<-hA,zX3,htl,zZd];omega
  have hzt:zs.take i=xs.take i:=by rw[<-hA,yAc zB,zYb zB]
  have hc1:(([v].drop 0).take 1).take (xs.length+1-i)=[v]:=zYb wQ;have hc2:(xs.drop i).take (xs.length+1-(i+1))=xs.drop i:=zYb zB;have hz1:zs.take i++[v]++zs.drop (i+[v].length)=xs.take i++[v]++zs.drop (i+1):=by rw[hzt];rfl
  have e2:(xs.take i++[v]).length=i+1:=by rw[zX3,htl];rfl
  have hz2:(xs.take i++[v]++zs.drop (i+1)).take (i+1)++xs.drop i++(xs.take i++[v]++zs.drop (i+1)).drop (i+1+(xs.drop i).length)=xs.take i++v::xs.drop i:=by
   have e3:(xs.take i++[v]++zs.drop (i+1)).drop (i+1+(xs.drop i).length)=[]:=yB9 (by rw[zX3,e2,zY4,hN,hdl];omega);rw[e3,zY5,yAc zB,zYb zB,zYv];rfl
  refine eM call293 λF hF=>?_
  (repeat' (first|refine qB ?_|refine xO (λhc=>?_) (λhc=>?_)|refine wB (λhc=>?_)|(refine zE ?_;first|(refine xI (CS tok rfl rfl rfl) rfl ?_)|(refine xI (zK8 tok rfl rfl rfl) rfl ?_)|(refine jN ?_;first|(refine zA6 10 rfl h1 ?_;refine HW tok rfl rfl rfl rfl rfl (hxi 0) zB zB rfl rfl ?_)|refine xI (zK9 tok rfl rfl rfl rfl rfl hi) rfl ?_|refine fG tok rfl rfl rfl rfl rfl rfl rfl zB zB rfl ?_|refine HW tok rfl rfl rfl rfl rfl (hxi 0) zB zB rfl rfl ?_)|(refine yV ?_;refine zUb tok (n:=xs.length+1-i) rfl rfl rfl rfl rfl rfl rfl rfl rfl rfl rfl rfl rfl rfl hnx zB (by rw[htl];omega) (by rw[htl];omega) hxt hA hN rfl rfl rfl ?_)|(first|(refine zA6 0 rfl h1 ?_;refine zAk tok rfl rfl rfl rfl rfl rfl rfl hc1 (λy hy=>by cases hy;exact hv) zS rfl hz1 rfl ?_)|refine zAk tok rfl rfl rfl rfl rfl rfl rfl hc2 hxd (by rw[hdl];omega) rfl hz2 rfl ?_))|fail))
  refine zL [98] rfl rfl ?_ rfl
  show AV.sl false ((xs.take i++v::xs.drop i).take (xs.length+1))=_
  rw[zYb (by rw[zX3,htl,zYd,hdl];omega)]
theorem zO5 (v:AV) (hv:v.cells.length=5):
  zN 293 [.s (.slice none 0 0),iA 0,.ref 98 0 1] [(98,.arr 5 [v] false)] (.sl false [v]) [(98,.arr 5 [v] false)]:=by
 refine eM call293 λF hF=>?_
 (repeat' (first|refine qB ?_|refine xO (λhc=>?_) (λhc=>?_)|refine wB (λhc=>?_)|(refine zE ?_;first|(refine jN ?_;refine xI (DJ tok rfl rfl rfl rfl rfl) rfl ?_)|(refine yV ?_;refine KD tok rfl rfl rfl rfl rfl rfl (λy hy=>by cases hy;exact hv) rfl rfl rfl zS rfl ?_))|fail))
 exact zL [98] rfl rfl rfl rfl
theorem vG (x:Rq):zN 218 [yK x] [] (bA true) []:=by
 refine eM call218 λF hF=>?_
 refine WW ?_;exact zJ
theorem zJ3 (l:List Rq) (hn:l.length<=1000) (hb:∀r∈l,r.legs.length<=1000):
  zN 190 [zD yK l,.fn 218 []] [] (.ref 1001 0 (l.map yK).length) [(1001,.arr 5 (l.map yK) false)]:=by
 have hl:=zA yK l;refine eM call190 λF hF=>?_
 refine WW ?_;refine xC 5 1001 5 rfl rfl rfl ?_;refine zY (l) [1001] [] [1,8,9] [5,10,1,8,9] rfl (λi pre T U=>⟨(5,.ref 1001 0 (pre.map yK).length)::(10,iA i)::T,(1001,.arr 5 (pre.map yK) true)::U⟩) ?_;(conv=>whnf);refine⟨by rfl,?_,?_⟩
 ·intro i pre x post hx hi;have hy:=yI yK hx hi;have hlt:=yB hx hi;have hlm:=zA yK pre;have c1:=vG x;have c2:=VR x (hb x (xX hx));have e:(pre++[x]).map yK=pre.map yK++[yK x]:=by simp
  rw[e];clear hx e;generalize pre.map yK=R at *;refine yQ (wZ c1 c2) ?_;rfl
 ·(repeat' (first|refine WZN ?_|refine xO (λhc=>?_) (λhc=>?_)|refine wB (λhc=>?_)|fail))
  refine jP [1001] [4] rfl rfl ?_;refine CQ 1001 [4] rfl rfl rfl rfl rfl (yU ?_);exact zL [1001] rfl rfl rfl rfl
theorem zJ4:zN 190 [zD yK [],.fn 218 []] [] (.s (.slice none 0 0)) []:=by
 refine eM call190 λF hF=>?_
 refine WW ?_;refine zY (([]:List Rq)) [] [] [1,8,9] [5,10,1,8,9] rfl (λi pre T U=>⟨(5,.s (.slice none 0 0))::(10,iA i)::T,U⟩) ?_;(conv=>whnf);refine⟨by rfl,?_,?_⟩
 ·intro i pre x post hx hi
  cases pre<;>cases hx
 ·(refine WW ?_)
  exact zL [] rfl rfl rfl rfl
theorem IK (l:List Rq) (hn:l.length<=1000) (hb:∀r∈l,r.legs.length<=1000):
  zN 193 [zD yK l] [] (.ref 1001 0 (l.map yK).length) [(1001,.arr 5 (l.map yK) false)]:=by
 have c:=zJ3 l hn hb;refine eM call193 λF hF=>?_
 refine zU c ?_;exact zL [1001] rfl rfl rfl rfl
theorem VS:zN 193 [zD yK []] [] (.s (.slice none 0 0)) []:=by
 have c:=zJ4;refine eM call193 λF hF=>?_
 refine zU c ?_;exact zL [] rfl rfl rfl rfl
end Av
end Go.Proofs.YtmamjhmoegjapaaGreat
