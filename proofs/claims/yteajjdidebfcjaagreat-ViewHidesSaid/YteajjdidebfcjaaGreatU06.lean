/- Part 6. -/
import Derived.Test.YteajjdidebfcjaaGreatU05
namespace Go.Proofs.YteajjdidebfcjaaGreat
namespace Av
open Tryz
set_option linter.all false
set_option maxRecDepth 4000
set_option maxHeartbeats 2000000
def IW (n:Int) (i:Nat):Int:=IntKind.u8.wrap (BitVec.ofInt IntKind.u8.bits (IntKind.u8.wrap ((IntKind.u64.wrap n).fdiv (2 ^ (min (8*(i:Int)).toNat IntKind.u64.bits)))) ^^^ BitVec.ofInt IntKind.u8.bits (29*(i:Int)+7)).toNat
def dY (n:Int):List Int:=(List.range 8).map (IW n)
def dI (n:Int):zN 49 [iA n] [] (zC yA (dY n)) []:=by
 have hu:∀i:Nat,((List.range i).map (IW n)).map yA=((List.range i).map (IW n)).map yA:=λ_=>rfl
 refine eM call49 λF hF=>?_
 (repeat' (first|refine ZK ?_|refine xM (λhc=>?_) λhc=>?_|fail))
 refine xC 3 1001 1 Z Z Z ?_
 refine vB (λk st=>∃i:Nat,k+i=8/\st=⟨[(0,iA n),(3,.ref 1001 0 (((List.range i).map (IW n)).map yA).length),(5,iA i)],[(1001,.arr 1 (((List.range i).map (IW n)).map yA) true)]⟩)
  8 [1001] [0,3,5] Z ⟨0,rfl,rfl⟩ ?_
 rintro k st ⟨i,hi,rfl⟩;by_cases hlt:i<8
 ·have ht:((List.range (i+1)).map (IW n)).map yA=((List.range i).map (IW n)).map yA++[yA (IW n i)]:=by rw[yCx];simp
  have hs:((List.range i).map (IW n)).length=i:=by simp
  (repeat' (first|refine ZK ?_|refine xM (λhc=>?_) λhc=>?_|fail))
  exact⟨k-1,zB,i+1,zB,by rw[ht];rfl⟩
 ·obtain rfl:i=8:=by omega
  (repeat' (first|refine ZK ?_|refine xM (λhc=>?_) λhc=>?_|fail))
  exact zH [] Z Z (yBa (AV.sl false) yAh) Z
def ad7 (d:Dk):Dk:=ad (ad (ad (ad (ad (ad (ad d))))))
def agF (d:Dk) (num rights:Int):Ag:=⟨dY (1000+num),rights,3,[1+nx d (3-1+1),1+nx (ad d) (3-1+1),nx (ad (ad d)) 3,nx (ad (ad (ad d))) 3],1+nx (ad (ad (ad (ad d)))) (3-1+1),1+nx (ad (ad (ad (ad (ad d))))) (2-1+1),
 1+nx (ad (ad (ad (ad (ad (ad d)))))) (3-1+1),1+nx (ad (ad (ad (ad (ad (ad d)))))) (3-1+1)+nx (ad7 d) 5⟩
def zIr (d:Dk) (num rights:Int) (h0:0<=num) (h1:num<=1000):zN 43 [.ptr 1000 0 0,iA num,iA rights] [(1000,cT d)] (wK (agF d num rights)) [(1000,cT (ad (ad7 d)))]:=by
 have hb:=yD (ad (ad (ad (ad (ad (ad d)))))) (3-1+1) zB;have hb2:=yD (ad7 d) 5 zB;have sc:=dI (1000+num);unfold agF ad7 at *;generalize dY (1000+num)=sec at *;refine eM call43 λF hF=>?_
 (repeat' (first|refine ZK ?_|refine xM (λhc=>?_) λhc=>?_|(refine zE ?_;refine xT ?_;(first|(refine vR 49 ?_;first|refine yJ (zI (sc) Z Z Z Z Z) Z ?_|refine uT (zI (sc) Z Z Z Z Z) Z Z Z ?_|refine XF (zI (sc) Z Z Z Z Z) Z Z Z ?_)|(refine vR 41 ?_;first|refine yJ (zI (kW _ _ _ zB zB zB) Z Z Z Z Z) Z ?_|refine uT (zI (kW _ _ _ zB zB zB) Z Z Z Z Z) Z Z Z ?_|refine XF (zI (kW _ _ _ zB zB zB) Z Z Z Z Z) Z Z Z ?_)|(refine vR 15 ?_;first|refine yJ (zI (yH _ _ zB zB) Z Z Z Z Z) Z ?_|refine uT (zI (yH _ _ zB zB) Z Z Z Z Z) Z Z Z ?_|refine XF (zI (yH _ _ zB zB) Z Z Z Z Z) Z Z Z ?_)))|fail))
 exact zK [1000] Z Z Z Z
def FG (r:Int):Bool:=decide (0<=r/\r<=63)
def XA (r:Int):zN 261 [iA r] [] (bA (FG r)) []:=by
 unfold FG
 by_cases h1:0<=r<;>by_cases h2:r<=63<;>simp only[h1,h2,and_true,yGl,decide_true,yGm]<;>first|(exfalso;omega;done)|((refine eM call261 λF hF=>?_);(refine WW ?_);exact zJ)
def zIs:∀a b:_root_.Fin 64,(zU5 a.val b.val==0)=(gR a.val b.val==(a.val:Int)):=by decide +kernel
def wiF (a b:Int):Bool:=FG a&&FG b&&(gR a b==a)
def zPk (a b:Int):(FG a&&FG b&&(zU5 a b==0))=wiF a b:=by
 unfold wiF
 cases ha:FG a<;>cases hb:FG b<;>simp only[yA3,yB4,yD5,yEp]
 simp only[FG,yAm]at ha hb;have:=zIs ⟨a.toNat,zB⟩ ⟨b.toNat,zB⟩;dsimp only at this;rw[show((a.toNat:Nat):Int)=a by omega,show((b.toNat:Nat):Int)=b by omega]at this;exact this
def EV (a b:Int):zN 293 [iA a,iA b] [] (bA (wiF a b)) []:=by
 have c1:=XA a;have c2:=XA b;rw[<-zPk]
 cases h1:FG a<;>cases h2:FG b<;>rw[h1]at c1<;>rw[h2]at c2<;>simp only[yA3,yB4,yD5]<;>((refine eM call293 λF hF=>?_);(refine yQ (wV c1 c2) ?_);exact zJ)
def zFh (a b:Int):yY [iA a,iA b] [] (bA (wiF a b)) []:=yF
def AS (k:Int):Int:=if k=6∨k=7∨k=8 then 1 else if k=4∨k=5 then 2 else if k=2 then 4 else if k=3 then 8 else if k=10 then 16 else if k=11 then 32 else 0
def zFi (k:Int):(k=6/\AS k=1)∨(k=7/\AS k=1)∨(k=8/\AS k=1)∨(k=4/\AS k=2)∨(k=5/\AS k=2)∨(k=2/\AS k=4)∨(k=3/\AS k=8)∨(k=10/\AS k=16)∨(k=11/\AS k=32)∨
  (k≠6/\k≠7/\k≠8/\k≠4/\k≠5/\k≠2/\k≠3/\k≠10/\k≠11/\AS k=0):=by
 by_cases h6:k=6
 ·exact(.inl ⟨h6,by subst h6;rfl⟩)
 by_cases h7:k=7
 ·exact .inr ((.inl ⟨h7,by subst h7;rfl⟩))
 by_cases h8:k=8
 ·exact .inr (.inr ((.inl ⟨h8,by subst h8;rfl⟩)))
 by_cases h4:k=4
 ·exact .inr (.inr (.inr ((.inl ⟨h4,by subst h4;rfl⟩))))
 by_cases h5:k=5
 ·exact .inr (.inr (.inr (.inr ((.inl ⟨h5,by subst h5;rfl⟩)))))
 by_cases h2:k=2
 ·exact .inr (.inr (.inr (.inr (.inr ((.inl ⟨h2,by subst h2;rfl⟩))))))
 by_cases h3:k=3
 ·exact .inr (.inr (.inr (.inr (.inr (.inr ((.inl ⟨h3,by subst h3;rfl⟩)))))))
 by_cases h10:k=10
 ·exact .inr (.inr (.inr (.inr (.inr (.inr (.inr ((.inl ⟨h10,by subst h10;rfl⟩))))))))
 by_cases h11:k=11
 ·exact .inr (.inr (.inr (.inr (.inr (.inr (.inr (.inr ((.inl ⟨h11,by subst h11;rfl⟩)))))))))
 exact .inr (.inr (.inr (.inr (.inr (.inr (.inr (.inr (.inr (⟨h6,h7,h8,h4,h5,h2,h3,h10,h11,by simp[AS,h6,h7,h8,h4,h5,h2,h3,h10,h11]⟩)))))))))
def zIt (k:Int):zN 260 [iA k] [] (iA (AS k)) []:=by
 rcases zFi k with⟨h,e⟩|⟨h,e⟩|⟨h,e⟩|⟨h,e⟩|⟨h,e⟩|⟨h,e⟩|⟨h,e⟩|⟨h,e⟩|⟨h,e⟩|⟨h1,h2,h3,h4,h5,h6,h7,h8,h9,e⟩<;>rw[e]<;>((refine eM call260 λF hF=>?_);(refine WW ?_);exact zJ)
def peF (r k:Int):Bool:=FG r&&(gR r (AS k)==AS k)
def zFj (r k:Int):zN 234 [iA r,iA k] [] (bA (peF r k)) []:=by
 have c1:=XA r;have c2:=zIt k;unfold peF;generalize AS k=n at*
 cases h1:FG r<;>rw[h1]at c1<;>simp only[yA3,yB4]<;>((refine eM call234 λF hF=>?_);(refine yQ (wV c1 c2) ?_);exact zJ)
def zUm (r b:Int):zN 125 [iA r,iA b] [] (bkA ⟨b,r,b⟩) []:=by
 refine eM call125 λF hF=>?_
 refine WW ?_;exact zJ
def bvF (b:Bk):Bool:=decide (0<=b.burst/\b.burst<=1000/\0<=b.rate/\b.rate<=b.burst/\0<=b.level/\b.level<=b.burst)
def zIu (b:Bk):zN 264 [bkA b] [] (bA (bvF b)) []:=by
 (cases hb:bvF b with|false=>((refine eM call264 λF hF=>?_);((refine WW (I6 (λhc hc hc hc hc=>?_) (λhc hc hc hc hc=>?_) (λhc hc hc hc=>?_) (λhc hc hc=>?_) (λhc hc=>?_) λhc=>?_)));all_goals (first|exact zJ|(simp only[bvF,yAy]at hb;first|exact zXO|exact AT)))|true=>(simp only[bvF,yAm]at hb;(refine eM call264 λF hF=>?_);((refine WW ?_));all_goals (first|exact zJ|exact zXO|exact AT)))
def btF (b:Bk):Bk:=⟨min (b.level+b.rate) b.burst,b.rate,b.burst⟩
def zPl (b:Bk) (h: -1000000000<=b.level+b.rate/\b.level+b.rate<=1000000000):zN 175 [bkA b] [] (bkA (btF b)) []:=by
 refine eM call175 λF hF=>?_
 refine WW ?_;exact zJ
def EW (b:Bk):Bk:=if b.level<=0 then b else⟨b.level-1,b.rate,b.burst⟩
def zPm (b:Bk) (h:b.level<=9223372036854775807):zN 219 [bkA b] [] (.tup [bkA (EW b),bA (decide (0<b.level))]) []:=by
 unfold EW;by_cases h1:b.level<=0
 ·rw[yAd h1,yAl zB];refine eM call219 λF hF=>?_
  refine WW ?_;exact zJ
 ·rw[yAc h1,yAj zB];refine eM call219 λF hF=>?_
  refine WW ?_;exact zJ
def eV (l:List Tk) (s:Int):Bool:=decide (0<=s/\s<l.length)&&(l.getD s.toNat default).used
def zAx (l:List Tk) (s:Int):zN 226 [zC xB l,iA s] [] (bA (eV l s)) []:=by
 have hl:=zA xB l;unfold eV;by_cases h1:0<=s
 ·by_cases h2:s<l.length
  ·have hy:=yN xB l s h1 h2;rw[yAj ⟨h1,h2⟩,yA3];refine eM call226 λF hF=>?_
   refine WW ?_;exact zJ
  ·rw[yAl zB,yB4];refine eM call226 λF hF=>?_
   refine WW ?_;exact zJ
 ·rw[yAl zB,yB4];refine eM call226 λF hF=>?_
  refine WW ?_;exact zJ
def laF (a b:Int):Bool:=decide (b≠0/\(a=0∨b<a))
def zC4 (a b:Int):zN 294 [iA a,iA b] [] (bA (laF a b)) []:=by
 unfold laF
 by_cases h1:b=0<;>by_cases h2:a=0<;>by_cases h3:b<a<;>simp only[yD3,h1,h2,h3,yF3,not_false_eq_true,and_true,yGl,true_and,false_and,or_true,true_or,yFv,decide_true,yGm]<;>first|(exfalso;omega;done)|((refine eM call294 λF hF=>?_);(refine WW ?_);exact zJ)
def zIv (a b:Int):yY [iA a,iA b] [] (bA (laF a b)) []:=yF
def exF (t:Tk) (now:Int):Bool:=decide (t.til≠0/\t.til<now)
def KM (t:Tk) (now:Int):zN 208 [xB t,iA now] [] (bA (exF t now)) []:=by
 unfold exF
 by_cases h1:t.til=0<;>by_cases h2:t.til<now<;>simp only[yD3,h1,h2,yF3,not_false_eq_true,and_true,yGl,decide_true,yGm]<;>first|(exfalso;omega;done)|((refine eM call208 λF hF=>?_);(refine WW ?_);exact zJ)
def frT:Tk:=⟨false,[],-1,0,0,0⟩
def zAy:zN 162 [] [] (xB frT) []:=by
 refine eM call162 λF hF=>?_
 refine WW ?_;exact zJ
def cG {α:Type} (f:α->AV) (l:List α):AV.sl false ((l.map f).take (l.map f).length)=zC f l:=by rw[yAh];rfl
def jI {α:Type} (_:Nat) (l:List α):List α:=l
def UN (l:List Int) (hl:l.length<=1073741824):zN 91 [zC iA l] [] (zC iA l) []:=by
 have hll:=zA iA l;refine eM call91 λF hF=>?_
 refine yZ 0 Z (λcap hx=>?_) ?_
 ·have:l=[]:=by simpa using hx
  subst this;refine WW ?_;exact zJ
 ·(refine WW ?_)
  refine zH [] Z Z (cG _ _) Z
def wL (l:List Int) (hl:l.length<=1073741824):zN 66 [zC yA l] [] (zC yA l) []:=by
 have hll:=zA yA l;refine eM call66 λF hF=>?_
 refine yZ 0 Z (λcap hx=>?_) ?_
 ·have:l=[]:=by simpa using hx
  subst this;refine WW ?_;exact zJ
 ·(refine WW ?_)
  refine zH [] Z Z (cG _ _) Z
def EX (l:List Vh) (hl:l.length<=1073741824):zN 198 [zC vQ l] [] (zC vQ l) []:=by
 have hll:=zA vQ l;refine eM call198 λF hF=>?_
 refine yZ 0 Z (λcap hx=>?_) ?_
 ·have:l=[]:=by simpa using hx
  subst this;refine WW ?_;exact zJ
 ·(refine WW ?_)
  refine zH [] Z Z (cG _ _) Z
def VC (l:List Tk) (hl:l.length<=1073741824):zN 197 [zC xB l] [] (.ref 1001 0 (l.map xB).length) [(1001,.arr 6 (l.map xB) false)]:=by
 have hll:=zA xB l;refine eM call197 λF hF=>?_
 refine yZ 0 Z (λcap hx=>?_) ?_
 ·have:l=[]:=by simpa using hx
  subst this
  (repeat' (first|refine WZN ?_|apply xM|apply xZ|intro hc|fail))
  refine vX 2 1001 6 Z Z Z (yW ?_);exact zK [1001] Z Z Z Z
 ·repeat' (first|(refine zE ?_;first|refine vF tok Z Z ?_|(refine wE ?_;refine yJ (yS tok (.inl ⟨rfl,rfl⟩) Z Z Z Z) Z ?_)|(refine yV ?_;refine uT (nw:=[1001]) (yI tok 1001 (xs:=[]) Z Z Z Z Z Z Z Z Z) Z Z Z ?_)|(refine yK ?_;refine xU tok Z Z Z Z Z Z Z (yC _ _ (λ_=>rfl)) Z Z Z zB Z ?_)|refine uQ ?_)|(first|refine xQ ?_|refine xE ?_|refine vG Z ?_|refine zX Z ?_|refine zU Z ?_|refine xK Z (λhc=>?_) λhc=>?_|refine xA ?_|refine yW ?_|refine xD ?_|refine yU ?_))
  exact zK [1001] Z Z Z Z
structure FH (l:List Tk):Prop where
 n:l.length<=1000000
 s:∀t∈l,t.sec.length<=1000000
def kN {α:Type} [Inhabited α] (f:α->AV) (l:List α) (i:Nat) (hi:i<l.length):(jI i (l.map f)).set i (f (l.getD i default))=jI (i+1) (l.map f):=by
 unfold jI;have:=zM f l i hi;rw[yA5]at this;obtain⟨h,e⟩:=this;rw[<-e,yFn]
def VD (l:List Tk) (hb:FH l):zN 206 [zC xB l] [] (.ref 1001 0 (l.map xB).length) [(1001,.arr 6 (l.map xB) false)]:=by
 have c:=VC l (by have:=hb.n;omega);have hn:=hb.n;have hll:=zA xB l;refine eM call206 λF hF=>?_
 refine zV c ?_;refine zO ((l.map xB).length) [1001] [] [3,8] [9,3,8] Z (λi T U=>⟨(9,iA i)::T,(1001,.arr 6 (jI i (l.map xB)) false)::U⟩) ?_;(conv=>whnf);refine⟨by rfl,?_,?_⟩
 ·intro i hi;have hi':i<l.length:=by omega
  have hy:(jI i (l.map xB))[i]? =some (xB (l.getD i default)):=zM xB l i hi';have e:=kN xB l i hi';have c2:=wL (l.getD i default).sec (by have:=hb.s (l.getD i default) ZF;omega);generalize (l.getD i default)=t at *;generalize jI i (l.map xB)=xs at *;generalize jI (i+1) (l.map xB)=ys at *;subst e;refine zV c2 ?_;rfl
 ·(refine WW ?_)
  exact zK [1001] Z Z Z Z
def EY (a:Ag) (h1:a.sec.length<=1000000) (h2:a.lim.length<=1000000):zN 123 [wK a] [] (wK a) []:=by
 have c1:=wL a.sec zB;have c2:=UN a.lim zB;refine eM call123 λF hF=>?_
 refine yQ (wV c1 c2) ?_;exact zJ
structure EZ (r:Rg):Prop where
 tk:FH r.tk
 s:r.ag.sec.length<=1000000
 l:r.ag.lim.length<=1000000
 v:r.vh.length<=1000000
def rgX (r:Rg) (xs:List AV):AV:= .agg [iA r.num,zC yA r.ag.sec,iA r.ag.rights,iA r.ag.cls,zC iA r.ag.lim,iA r.ag.req,iA r.ag.ses,iA r.ag.rate,iA r.ag.burst,.sl false xs,zC vQ r.vh,iA r.bk.level,iA r.bk.rate,iA r.bk.burst]
def dJ (r:Rg) (hb:EZ r):zN 173 [qG r] [] (qG r) []:=by
 have c1:=EY r.ag hb.s hb.l;have hn:=hb.tk.n;have hv:=hb.v;have c2:=VC r.tk zB;have c3:=EX r.vh zB;have hll:=zA xB r.tk;refine eM call173 λF hF=>?_
 refine yQ (wV c1 c2) ?_;refine zO ((r.tk.map xB).length) [1001,1,2] [1,2] [1,2,14] [15,1,2,14] Z (λi T U=>⟨(15,iA i)::T,(1001,.arr 6 (jI i (r.tk.map xB)) false)::U⟩) ?_;(conv=>whnf);refine⟨by rfl,?_,?_⟩
 ·intro i hi;have hi':i<r.tk.length:=by omega
  have hy:(jI i (r.tk.map xB))[i]? =some (xB (r.tk.getD i default)):=zM xB r.tk i hi';have e:=kN xB r.tk i hi';have c2:=wL (r.tk.getD i default).sec (by have:=hb.tk.s (r.tk.getD i default) ZF;omega);generalize (r.tk.getD i default)=t at *;generalize jI i (r.tk.map xB)=xs at *;generalize jI (i+1) (r.tk.map xB)=ys at *;subst e;refine zV c2 ?_;rfl
 ·(refine zV c3 ?_)
  exact zH [] Z Z (yBa (rgX r) yAh) Z
theorem ZL.lg3 {l:List Rq} (h:ZL l) {r:Rq} (hr:r∈l):1<=r.legs.length/\r.legs.length<=3:=by
 have:=HC (h.ok r hr).lg;omega
theorem ZL.filter {l:List Rq} (h:ZL l) (p:Rq->Bool):ZL (l.filter p):=
 ⟨λr hr=>h.ok r (yDz.1 hr).1,h.so.filter p,yBn (yCo _ _) h.n4⟩
def bG (l:List Lg) (hl:l.length<=1000):zN 167 [zC xW l] [] (zC xW l) []:=by
 have hll:=zA xW l;refine eM call167 λF hF=>?_
 refine yZ 0 Z (λcap hx=>?_) ?_
 ·have:l=[]:=by simpa using hx
  subst this;refine WW ?_;exact zJ
 ·(refine WW ?_)
  refine zH [] Z Z (cG _ _) Z
def UO (r:Rq) (hl:r.legs.length<=1000):zN 209 [yL r] [] (yL r) []:=by
 have c:=bG r.legs hl;have hll:=zA xW r.legs;refine eM call209 λF hF=>?_
 refine zV c ?_;exact zJ
def DA (p:Rq->Bool) (pre:List Rq) (x:Rq):((pre++[x]).filter p).map yL=(pre.filter p).map yL++(if p x=true then [x]else []).map yL:=by
 rw[yDx,yAn]
 congr 2
 cases h:p x<;>simp[h]
def zAz (fn:Nat) (v:Int) (p:Rq->Bool) (l:List Rq) (hn:l.length<=1000) (hb:∀r∈l,r.legs.length<=1000) (c:∀x,zN fn [yL x,.ptr 3 0 0] [(3,.box [iA v])] (bA (p x)) [(3,.box [iA v])]):
  zN 176 [zC yL l,.fn fn [.ptr 3 0 0]] [(3,.box [iA v])] (zC yL (l.filter p)) [(3,.box [iA v])]:=by
 have hl:=zA yL l;refine eM call176 λF hF=>?_
 refine WW ?_;refine xC 5 1001 5 Z Z Z ?_;refine yM (l) [1001,3] [3] [1,8,9] [5,10,1,8,9] Z (λi pre T U=>⟨(5,.ref 1001 0 ((pre.filter p).map yL).length)::(10,iA i)::T,(1001,.arr 5 ((pre.filter p).map yL) true)::U⟩) ?_;(conv=>whnf);refine⟨by rfl,?_,?_⟩
 ·intro i pre x post hx hi;have hy:=xG yL hx hi;have hlt:=yP hx hi;have hle:(pre.filter p).length<=i:=by rw[<-hi];exact yCo _ _
  have hlm:=zA yL (pre.filter p);have c1:=c x;have c2:=UO x (hb x (wT hx));have e:=DA p pre x;rw[e];clear hx e;generalize (pre.filter p).map yL=R at*
  cases h:p x with
  |false=>
   rw[h]at c1;rw[yAc yAx];refine zV c1 ?_;rw[yCq,yA8];rfl
  |true=>
   rw[h]at c1;rw[yAd Z];refine yQ (wV c1 c2) ?_;rfl
 ·(refine WW ?_)
  exact zK [3] Z Z (cG _ _) Z
def RB {α:Type} (p:α->Bool) (l:List α):Int:=if l.any p=true then(l.findIdx p:Int)else -1
def PO {α:Type} {p:α->Bool} {l pre post:List α} {x:α} (h:l=pre++x::post) (hn:∀y∈pre,p y=false) (hx:p x=true):RB p l=(pre.length:Int):=by
 subst h;have h1:(pre++x::post).any p=true:=by simp[hx]
 have h2:pre.findIdx p=pre.length:=List.findIdx_eq_length.2 (λy hy=>by simpa using hn y hy);unfold RB;rw[yAd h1,List.findIdx_append,h2,yAc zB,List.findIdx_cons,hx];simp
def ZR {α:Type} {p:α->Bool} {l:List α} (hn:∀y∈l,p y=false):RB p l= -1:=by
 unfold RB;rw[yAc DW]
def zA0 {α:Type} {p:α->Bool} {l:List α} (h:l.any p=true):0<=RB p l/\RB p l<l.length:=by
 unfold RB;rw[yAd h];have:=List.findIdx_lt_length.2 (yB8.1 h);omega
def zUn (id:Int) (x:Rq):zN 277 [yL x,.ptr 3 0 0] [(3,.box [iA id])] (bA (x.id==id)) [(3,.box [iA id])]:=by
 refine eM call277 λF hF=>?_
 refine WW ?_;exact zK [3] Z Z Z Z
def zUo (id:Int) (l:List Rq) (hb:l.length<=1000):zN 276 [zC yL l,.fn 277 [.ptr 3 0 0]] [(3,.box [iA id])] (iA (RB (λr:Rq=>r.id==id) l)) [(3,.box [iA id])]:=by
 have hl:=zA yL l;refine eM call276 λF hF=>?_
 refine WW ?_;refine kO (l) [3] [3] [0,1,7] [8,0,1,7] Z (λi pre T U zs=>(∀y∈pre,(y.id==id)=false)/\zs=⟨(8,iA i)::T,U⟩) ?_;(conv=>whnf);refine⟨?_,?_,?_⟩
 ·exact⟨by simp,rfl⟩
 ·rintro i pre x post st hx hi ⟨hp,rfl⟩;have hy:=xG yL hx hi;have hlt:=yP hx hi;have c:=zUn id x;have hit:=PO (p:=λr:Rq=>r.id==id) hx hp
  cases he:(x.id==id)<;>rw[he]at c
  ·clear hx hit;refine zV c ?_;exact⟨λy hy=>by simp only[yAz,yBe]at hy;rcases hy with hy|rfl;exact hp y hy;exact he,rfl⟩
  ·rw[hit he,hi];clear hx hit;refine zV c ?_;exact zK [3] Z Z Z Z
 ·rintro st ⟨hp,rfl⟩;rw[ZR hp];refine WW ?_;exact zK [3] rfl rfl rfl rfl
def ND (l:List Rq) (id:Int) (hb:l.length<=1000):zN 248 [zC yL l,iA id] [] (iA (RB (λr:Rq=>r.id==id) l)) []:=by
 have c:=zUo id l hb;generalize RB (λr:Rq=>r.id==id) l=n at *;refine eM call248 λF hF=>?_
 refine zV c ?_;exact zJ
def zUp (now:Int) (x:Rq):zN 177 [yL x,.ptr 3 0 0] [(3,.box [iA now])] (bA (decide (now<=x.til))) [(3,.box [iA now])]:=by
 cases hb:decide (now<=x.til)with
 |false=>
  rw[yAy]at hb;refine eM call177 λF hF=>?_
  refine WW ?_;exact zK [3] Z Z Z Z
 |true=>
  rw[yAm]at hb;refine eM call177 λF hF=>?_
  refine WW ?_;exact zK [3] Z Z Z Z
def zUq (v:Int) (x:Rq):zN 242 [yL x,.ptr 3 0 0] [(3,.box [iA v])] (bA (x.vh != v)) [(3,.box [iA v])]:=by
 refine eM call242 λF hF=>?_
 refine WW ?_;exact zK [3] Z Z Z Z
def zUr (v:Int) (x:Rq):zN 249 [yL x,.ptr 3 0 0] [(3,.box [iA v])] (bA (x.id != v)) [(3,.box [iA v])]:=by
 refine eM call249 λF hF=>?_
 refine WW ?_;exact zK [3] Z Z Z Z
def zIw (l:List Rq) (now:Int):List Rq:=l.filter λx=>decide (now<=x.til)
def DB (l:List Rq) (v:Int):List Rq:=l.filter λx=>x.vh != v
def zIx (l:List Rq) (id:Int):List Rq:=l.filter λx=>x.id != id
def gF (l:List Rq) (id:Int):Bool:=l.any λx=>x.id==id
def zIy (l:List Rq) (now:Int) (hv:ZL l):zN 131 [zC yL l,iA now] [] (zC yL (zIw l now)) []:=by
 have h4:=hv.n4;have c:=zAz 177 now _ l zB (λr hr=>by have:=hv.lg3 hr;omega) (zUp now);unfold zIw;generalize l.filter _=l2 at *;refine eM call131 λF hF=>?_
 refine zV c ?_;exact zJ
def KN (l:List Rq) (v:Int) (hv:ZL l):zN 221 [zC yL l,iA v] [] (zC yL (DB l v)) []:=by
 have h4:=hv.n4;have c:=zAz 242 v _ l zB (λr hr=>by have:=hv.lg3 hr;omega) (zUq v);unfold DB;generalize l.filter _=l2 at *;refine eM call221 λF hF=>?_
 refine zV c ?_;exact zJ
def zIz (l:List Rq) (id:Int) (hv:ZL l):zN 224 [zC yL l,iA id] [] (.tup [zC yL (if gF l id=true then zIx l id else []),iA (if gF l id=true then 0 else 12)]) []:=by
 have h4:=hv.n4;have c1:=UR l 4 hv zB;have c2:=ND l id zB;have c3:=zAz 249 id _ l zB (λr hr=>by have:=hv.lg3 hr;omega) (zUr id);unfold zIx;generalize l.filter _=l2 at*
 cases hh:gF l id with
 |true=>
  have hx:=zA0 (p:=λx:Rq=>x.id==id) (l:=l) hh;generalize RB (λx:Rq=>x.id==id) l=n at *;rw[yAd Z,yAd Z];refine eM call224 λF hF=>?_
  refine yQ (gG c1 c2 c3) ?_;exact zJ
 |false=>
  have hx:=ZR (p:=λx:Rq=>x.id==id) (l:=l) (by simpa [gF]using hh);rw[hx]at c2;rw[yAc yAx,yAc yAx];refine eM call224 λF hF=>?_
  refine yQ (wV c1 c2) ?_;exact zJ
def zFk (l:List Rq) (id:Int) (hv:ZL l):yY [zC yL l,iA id] [] (.tup [zC yL (if gF l id=true then zIx l id else []),iA (if gF l id=true then 0 else 12)]) []:=yF
section
variable {P:Program} {K0:List Nat} {F:Fr K0} {m:Nat}
def zPn (n:Nat) {Q:Exit->St->Prop} {id:Nat} {l:List Oper} {st:St} (hm:P.follows .mixedOrders=true)
  (hk:zZ P F m l.toArray true (l.take n) st [] (λfs s=>VL l n (LS l) fs.reverse=true/\zZ P F m l.toArray false (l.drop n) s [] (λ_ s=>Q .normal s))):vZ P F m (.region id l.toArray true) st Q:=by
 obtain⟨es,st2,h1,h2,h3⟩:=hk.run;exact KS n hm h1 KT h3.run
def zI0 {l:List Oper} {n:Nat} {ops:Array Oper} {st:St} {fs:List FP} {Q':St->Prop} (hc:VL l n (LS l) fs.reverse=true) (hq:Q' st):zZ P F m ops true [] st fs (λfs s=>VL l n (LS l) fs.reverse=true/\Q' s):=⟨⟨[],st,rfl,hc,hq⟩⟩
end
section
variable {P:Program} {TT:List TI} {st:St}
def DC (hP:uJ P TT) {T e:Nat} {x l:Operand} {ti te:TI} {k:IntKind} (hx:yO (zG st.tm) x= .s (.slice none 0 0)) (hl:yO (zG st.tm) l= .s (.int k 0)) (hT:TT[T]? =some ti) (hd:ti.d= .slice e) (he:TT[e]? =some te):
  wS P st (.slice T x (some l) none none) (.s (.slice none 0 0)) [] [] []:=
 yR λoo X tm h w β a ho hg hr HH Ht=>by
  obtain⟨d0,o0,y0,p0,f0,g0⟩:=oo;dsimp only at ho;subst ho;have hc:=vO Ht hg (x:=x) uF hx;obtain⟨u,hu,hd'⟩:=xV (hP _ _ hT) w;obtain rfl:=vP (hd'.trans hd);have hs:=uK (hP _ _ he) w;have hb:=gS (P:=P) Ht hg (lo:=some l) (hi:=none) (len:=0) (cap:=0) (l:=0) (r:=0) (λy hy=>by cases hy;simp[Op.operands]) (λy hy=>by cases hy) ⟨k,0,hl,zB⟩ rfl (yAg _) (yAg _) true;rw[yDo]at hb;exact⟨_,by simp only[execOp,Instr.sliceAt,Instr.slice,Sem.run_bind,hu,Result.andThen_ok,hc,yDo,hb,hs,Sem.run_pure];rfl,.fz _ _ (.s _)⟩
end
section
variable {P:Program} {TT:List TI} {K0:List Nat} {F:Fr K0} {m:Nat} {ops:Array Oper} {rest:List Oper} {Q:List FP->St->Prop} {tm:List (Nat×AV)} {h:List (Nat×xO)} {dr:Bool} {fs:List FP}
variable {ty:Nat} {pos:String} {after:Array Edge} {t:Nat}
def zA1 (hP:uJ P TT) {T e key off len sz:Nat} {d x:Operand} {ti te:TI} {xs yl ys zs:List AV} {xv:AV} (hdv:yO (zG tm) d= .ref key off len) (hk:zD h key=some (.arr sz xs false)) (hx:yO (zG tm) x=xv) (hT:TT[T]? =some ti) (hd:ti.d= .slice e) (he:TT[e]? =some te)
  (hyl:CI (zD h) xv=some yl) (hyt:yl.take len=ys) (hsz:∀y,ys[0]? =some y->y.cells.length=sz) (hp1:1<=ys.length) (hss:Nat.beq sz te.size=true) (hz:xs.take off++ys++xs.drop (off+ys.length)=zs) (hm:Nat.blt t m=true)
  (hr:zZ P F m ops dr rest ⟨(t,.s (.int .i64 ys.length))::tm,(key,.arr sz zs false)::h⟩ (⟨true,[key],key::OD xv⟩::fs) Q):zZ P F m ops dr (⟨some t,.call ⟨.builtin .copy, #[d,x], #[T,T]⟩,ty,pos,after,none⟩::rest) ⟨tm,h⟩ fs Q:=by
 subst hz;exact uT (nw:=[]) (KW hP hdv hk hx hT hd he hyl hyt hsz (.inl hp1) hss) hm Z Z hr
def zUs (hP:uJ P TT) {T e:Nat} {x:Operand} {ti:TI} {k len sz:Nat} {xs:List AV} (hx:yO (zG tm) x= .ref k 0 len) (hk:zD h k=some (.arr sz xs ⟨false,false⟩)) (hT:TT[T]? =some ti) (hd:ti.d= .slice e) (hl:1<=len) (hm:Nat.blt t m=true)
  (hr:∀c:Int,(xs.length:Int)<=c->zZ P F m ops false rest ⟨(t,.s (.int .i64 c))::tm,h⟩ fs Q):zZ P F m ops false (⟨some t,.call ⟨.builtin .cap, #[x], #[T]⟩,ty,pos,after,none⟩::rest) ⟨tm,h⟩ fs Q:=
 x_m (zBj hP hx hk hT hd hl) hm Z (λv d ⟨c,_,_,e⟩=>by subst e;rfl) (λv d ⟨c,e1,e2,e3⟩=>by subst e1 e3;exact hr c e2)
def zC5 (hP:uJ P TT) {T e k len sz:Nat} {s x:Operand} {ti te:TI} {xs vs zs:List AV} {xv:AV} (hs:yO (zG tm) s= .ref k 0 len) (hk:zD h k=some (.arr sz xs ⟨false,false⟩)) (hx:yO (zG tm) x=xv) (hT:TT[T]? =some ti) (hd:ti.d= .slice e) (he:TT[e]? =some te) (hvs:CI (zD h) xv=some vs)
  (hss:Nat.beq sz te.size=true) (hsz:∀y,vs[0]? =some y->y.cells.length=sz) (hpos:1<=vs.length) (hl:1<=len) (hroom:len+vs.length<=xs.length) (hmax:xs.length<=1073741824) (hz:xs.take len++vs++xs.drop (len+vs.length)=zs) (hm:Nat.blt t m=true)
  (hr:zZ P F m ops dr rest ⟨(t,.ref k 0 (len+vs.length))::tm,(k,.arr sz zs ⟨false,false⟩)::h⟩ (⟨true,[k],k::OD xv⟩::fs) Q):zZ P F m ops dr (⟨some t,.call ⟨.builtin .append, #[s,x], #[T,T]⟩,ty,pos,after,none⟩::rest) ⟨tm,h⟩ fs Q:=by
 subst hz;exact uT (nw:=[]) (zF2 hP hs hk hx hT hd he hvs hss hsz hpos hl hroom hmax) hm Z Z hr
def zUt (hP:uJ P TT) {T I e c n N:Nat} {s x:Operand} {ti te tn:TI} {k0:IntKind} {nx:Int} {ys zs:List AV} {z:AV} (hs:yO (zG tm) s= .slc c ys) (hx:yO (zG tm) x= .s (.int .i64 nx)) (hT:TT[T]? =some ti) (hd:ti.d= .slice e) (he:TT[e]? =some te) (hI:TT[I]? =some tn) (hdn:tn.d= .int k0)
  (hb:Nat.ble te.bytes 65536=true) (hp:Nat.ble 1 te.size=true) (hzl:Nat.beq te.zero.length te.size=true) (hz1:te.zero.all (·.oneCell')=true) (hzc:Nat.beq (uD te).cells.length te.size=true) (hzc2:(uD te).cells=te.zero.map .s) (hz:uD te=z)
  (hnx:nx=(n:Int)) (hpos:1<=n) (hmax:ys.length+n<=1073741824) (hc:c<ys.length+n) (hw0:∀(i:Nat) (y:AV),ys[i]? =some y->y.cells.length=te.size) (hA:ys++List.replicate n z=zs) (hN:zs.length=N) (hm:Nat.blt t m=true) (hnn:(zD h t).isNone=true)
  {sz:Nat} (hse:te.size=sz) (hk:zZ P F m ops dr rest ⟨(t,.ref t 0 N)::tm,(t,.arr sz zs false)::h⟩ (⟨true,[t,t],[]⟩::fs) Q):zZ P F m ops dr (⟨some t,.call ⟨.builtin .append, #[s,x], #[T,I]⟩,ty,pos,after,none⟩::rest) ⟨tm,h⟩ fs Q:=by
 subst hse hz hN hA;exact uT (nw:=[t]) (zKb hP t hs hx hT hd he hI hdn hb hp hzl hz1 hzc hzc2 hnx hpos hmax hc hw0) hm (zA5 hnn) Z hk
end
theorem zI1 (xs:List AV) (v:AV) (i:Nat) (hv:v.cells.length=5) (hx:∀y∈xs,y.cells.length=5) (h1:1<=xs.length) (hn:xs.length<=1000) (hi:i<=xs.length):
  zN 275 [.ref 1001 0 xs.length,iA i,.ref 98 0 1] [(1001,.arr 5 (xs++[fW 5]) false),(98,.arr 5 [v] false)] (.ref 1001 0 (xs.length+1)) [(1001,.arr 5 (xs.take i++v::xs.drop i) false),(98,.arr 5 [v] false)]:=by
 have hll:(xs++[fW 5]).length=xs.length+1:=by simp
 by_cases he:i=xs.length
 ·subst he
  have hz:(xs++[fW 5]).take xs.length++[v]++(xs++[fW 5]).drop (xs.length+[v].length)=xs.take xs.length++v::xs.drop xs.length:=by
   rw[yC7 (yAg _),yAh,yDp,yDr zS];simp
  refine eM call275 λF hF=>?_
  (repeat' (first|refine uP ?_|apply xM|apply xZ|intro hc|(refine zE ?_;first|(refine uR ?_;refine fB tok Z Z Z Z Z Z Z zB zB Z ?_)|(refine yK ?_;refine zC5 tok Z Z Z Z Z Z Z Z (λy hy=>by cases hy;exact hv) zS zB zS zB hz Z ?_))|fail))
  exact zK [1001,98] Z Z Z Z
 ·have hlt:i<xs.length:=by omega
  have e1:(xs++[fW 5]).drop i=xs.drop i++[fW 5]:=yEw zB;have hdl:(xs.drop i).length=xs.length-i:=yA7
  have hc1:(((xs++[fW 5]).drop i).take (xs.length+1-i)).take (xs.length+1-(i+1))=xs.drop i:=by
   have e3:((xs++[fW 5]).drop i).take (xs.length+1-i)=xs.drop i++[fW 5]:=by rw[e1];exact yAo wF
   rw[e3,yC7 zB,yAo zB]
  have hz1:(xs++[fW 5]).take (i+1)++xs.drop i++(xs++[fW 5]).drop (i+1+(xs.drop i).length)=xs.take (i+1)++xs.drop i:=by
   have e3:(xs++[fW 5]).drop (i+1+(xs.drop i).length)=[]:=yDr (by rw[hll,hdl];omega);rw[e3,yA8,yC7 zB]
  have hxd:∀y,(xs.drop i)[0]? =some y->y.cells.length=5:=λy hy=>hx y (yBc (yBp hy))
  have hc2:(([v].drop 0).take 1).take (xs.length+1-i)=[v]:=yAo wF
  have hz2:(xs.take (i+1)++xs.drop i).take i++[v]++(xs.take (i+1)++xs.drop i).drop (i+[v].length)=xs.take i++v::xs.drop i:=by
   have e2:(xs.take (i+1)).length=i+1:=by rw[yAw];omega
   rw[yC7 zB,List.take_take,yGc zB,show i+[v].length=(xs.take (i+1)).length by rw[e2];rfl,yEj,yA6];rfl
  refine eM call275 λF hF=>?_
  (repeat' (first|refine uP ?_|apply xM|apply xZ|intro hc|(refine zE ?_;refine xT ?_;(refine vR 301 ?_;refine yJ (GB tok Z Z Z Z Z Z zB zB Z Z Z zB Z Z Z Z Z) Z ?_))|(refine zE ?_;first|(refine uR ?_;first|refine fB tok Z Z Z Z Z Z Z zB zB Z ?_|refine yJ (zF0 (N:=xs.length+1) tok Z Z Z Z Z Z zB zB zB zB) Z ?_)|(refine zA1 tok Z Z Z Z Z Z Z (by first|exact hc1|exact hc2) (by first|exact hxd|(intro y hy;cases hy;exact hv)) (by first|(rw[hdl];omega)|simp) Z (by first|exact hz1|exact hz2) Z ?_)|(refine zUs tok Z Z Z Z zB Z ?_;intro cp hcp))|fail))
  exact zK [1001,98] Z Z Z Z
theorem zI2 (xs:List AV) (v:AV) (i c:Nat) (hv:v.cells.length=5) (hx:∀y∈xs,y.cells.length=5) (h1:1<=xs.length) (hn:xs.length<=1000) (hi:i<=xs.length) (hc:c<xs.length+1):
  zN 275 [.slc c xs,iA i,.ref 98 0 1] [(98,.arr 5 [v] false)] (.sl false (xs.take i++v::xs.drop i)) [(98,.arr 5 [v] false)]:=by
 have hxi:∀(j:Nat) (y:AV),xs[j]? =some y->y.cells.length=5:=λj y hy=>hx y (yBp hy)
 by_cases he:i=xs.length
 ·subst he;refine eM call275 λF hF=>?_
  (repeat' (first|refine uP ?_|apply xM|apply xZ|intro hc|(refine zE ?_;first|(refine yJ (CN tok Z Z Z) Z ?_)|(refine uR ?_;refine zBk 10 Z h1 ?_;refine aK tok Z Z Z Z Z (hxi 0) zB zB Z Z ?_)|(refine yK ?_;refine uT (nw:=[25]) (zF1 tok 25 Z Z Z Z Z Z Z Z Z Z (λy hy=>by cases hy;exact hv) zS wF wF hxi) Z Z Z ?_))|fail))
  refine zK [98] Z Z ?_ Z
  show AV.sl false ((xs++[v]).take (xs++[v]).length)=_
  rw[yAh,yAh,yDp]
 ·have hlt:i<xs.length:=by omega
  have hdl:(xs.drop i).length=xs.length-i:=yA7;have htl:(xs.take i).length=i:=by rw[yAw];omega
  have hxt:∀(j:Nat) (y:AV),(xs.take i)[j]? =some y->y.cells.length=5:=λj y hy=>hx y (yBy (yBp hy))
  have hxd:∀y,(xs.drop i)[0]? =some y->y.cells.length=5:=λy hy=>hx y (yBc (yBp hy))
  have hx0:∀y,xs[0]? =some y->y.cells.length=5:=hxi 0;have hnx:((xs.length:Int)+1-(i:Int))=((xs.length+1-i:Nat):Int):=by omega
  have hzs:∃zs,xs.take i++List.replicate (xs.length+1-i) (AV.agg [.s (.int .i64 0),.s (.int .i64 0),.s (.int .i64 0),.s (.int .i64 0),.s (.slice none 0 0)])=zs:=⟨_,rfl⟩;obtain⟨zs,hA⟩:=hzs;have hN:zs.length=xs.length+1:=by rw[<-hA,yAf,htl,yB2];omega
  have hzt:zs.take i=xs.take i:=by rw[<-hA,yC7 zB,yAo zB]
  have hc1:(([v].drop 0).take 1).take (xs.length+1-i)=[v]:=yAo wF;have hc2:(xs.drop i).take (xs.length+1-(i+1))=xs.drop i:=yAo zB;have hz1:zs.take i++[v]++zs.drop (i+[v].length)=xs.take i++[v]++zs.drop (i+1):=by rw[hzt];rfl
  have e2:(xs.take i++[v]).length=i+1:=by rw[yAf,htl];rfl
  have hz2:(xs.take i++[v]++zs.drop (i+1)).take (i+1)++xs.drop i++(xs.take i++[v]++zs.drop (i+1)).drop (i+1+(xs.drop i).length)=xs.take i++v::xs.drop i:=by
   have e3:(xs.take i++[v]++zs.drop (i+1)).drop (i+1+(xs.drop i).length)=[]:=yDr (by rw[yAf,e2,yA7,hN,hdl];omega);rw[e3,yA8,yC7 zB,yAo zB,yA6];rfl
  refine eM call275 λF hF=>?_
  (repeat' (first|refine uP ?_|apply xM|apply xZ|intro hc|(refine zE ?_;first|(refine yJ (CN tok Z Z Z) Z ?_)|(refine yJ (zJ9 tok Z Z Z) Z ?_)|(refine uR ?_;first|(refine zBk 10 Z h1 ?_;refine aK tok Z Z Z Z Z (hxi 0) zB zB Z Z ?_)|refine yJ (zKa tok Z Z Z Z Z hi) Z ?_|refine fB tok Z Z Z Z Z Z Z zB zB Z ?_|refine aK tok Z Z Z Z Z (hxi 0) zB zB Z Z ?_)|(refine yK ?_;refine zUt tok (n:=xs.length+1-i) Z Z Z Z Z Z Z Z Z Z Z Z Z Z hnx zB (by rw[htl];omega) (by rw[htl];omega) hxt hA hN Z Z Z ?_)|(first|(refine zBk 0 Z h1 ?_;refine zA1 tok Z Z Z Z Z Z Z hc1 (λy hy=>by cases hy;exact hv) zS Z hz1 Z ?_)|refine zA1 tok Z Z Z Z Z Z Z hc2 hxd (by rw[hdl];omega) Z hz2 Z ?_))|fail))
  refine zK [98] Z Z ?_ Z
  show AV.sl false ((xs.take i++v::xs.drop i).take (xs.length+1))=_
  rw[yAo (by rw[yAf,htl,yAp,hdl];omega)]
def zPo (v:AV) (hv:v.cells.length=5):
  zN 275 [.s (.slice none 0 0),iA 0,.ref 98 0 1] [(98,.arr 5 [v] false)] (.sl false [v]) [(98,.arr 5 [v] false)]:=by
 refine eM call275 λF hF=>?_
 (repeat' (first|refine uP ?_|apply xM|apply xZ|intro hc|(refine zE ?_;first|(refine uR ?_;refine yJ (DC tok Z Z Z Z Z) Z ?_)|(refine yK ?_;refine kY tok Z Z Z Z Z Z (λy hy=>by cases hy;exact hv) Z Z Z zS Z ?_))|fail))
 exact zK [98] Z Z Z Z
def vI (x:Rq):zN 205 [yL x] [] (bA true) []:=by
 refine eM call205 λF hF=>?_
 refine WW ?_;exact zJ
def zI3 (l:List Rq) (hn:l.length<=1000) (hb:∀r∈l,r.legs.length<=1000):
  zN 176 [zC yL l,.fn 205 []] [] (.ref 1001 0 (l.map yL).length) [(1001,.arr 5 (l.map yL) false)]:=by
 have hl:=zA yL l;refine eM call176 λF hF=>?_
 refine WW ?_;refine xC 5 1001 5 Z Z Z ?_;refine yM (l) [1001] [] [1,8,9] [5,10,1,8,9] Z (λi pre T U=>⟨(5,.ref 1001 0 (pre.map yL).length)::(10,iA i)::T,(1001,.arr 5 (pre.map yL) true)::U⟩) ?_;(conv=>whnf);refine⟨by rfl,?_,?_⟩
 ·intro i pre x post hx hi;have hy:=xG yL hx hi;have hlt:=yP hx hi;have hlm:=zA yL pre;have c1:=vI x;have c2:=UO x (hb x (wT hx));have e:(pre++[x]).map yL=pre.map yL++[yL x]:=by simp
  rw[e];clear hx e;generalize pre.map yL=R at *;refine yQ (wV c1 c2) ?_;rfl
 ·(repeat' (first|refine WZN ?_|apply xM|apply xZ|intro hc|fail))
  refine jS [1001] [4] Z Z ?_;refine DI 1001 [4] Z Z Z Z Z (yW ?_);exact zK [1001] Z Z Z Z
def zI4:zN 176 [zC yL [],.fn 205 []] [] (.s (.slice none 0 0)) []:=by
 refine eM call176 λF hF=>?_
 refine WW ?_;refine yM (([]:List Rq)) [] [] [1,8,9] [5,10,1,8,9] Z (λi pre T U=>⟨(5,.s (.slice none 0 0))::(10,iA i)::T,U⟩) ?_;(conv=>whnf);refine⟨by rfl,?_,?_⟩
 ·intro i pre x post hx hi
  cases pre<;>cases hx
 ·(refine WW ?_)
  exact zK [] Z Z Z Z
def IX (l:List Rq) (hn:l.length<=1000) (hb:∀r∈l,r.legs.length<=1000):
  zN 171 [zC yL l] [] (.ref 1001 0 (l.map yL).length) [(1001,.arr 5 (l.map yL) false)]:=by
 have c:=zI3 l hn hb;refine eM call171 λF hF=>?_
 refine zV c ?_;exact zK [1001] Z Z Z Z
def UP:zN 171 [zC yL []] [] (.s (.slice none 0 0)) []:=by
 have c:=zI4;refine eM call171 λF hF=>?_
 refine zV c ?_;exact zK [] Z Z Z Z
section
variable {P:Program} {K0:List Nat} {F:Fr K0} {m:Nat}
def zC6 (n len:Nat) {Q:Exit->St->Prop} {id:Nat} {l:List Oper} {st:St} (hlen:Nat.beq l.length len=true) (hm:P.follows .mixedOrders=true)
 (hk:zZ P F m l.toArray true (l.take n) st [] (λfs s=>VL l n (LS l) fs.reverse=true/\zZ P F m l.toArray false (l.drop n) s [] (λ_ s=>Q .normal s))):vZ P F m (.region id l.toArray true) st Q:=zPn n hm hk
end
def QI (l:List Rq) (id:Int):Nat:=l.findIdx λr=>!decide (r.id<id)
def IY (l:List Rq) (id:Int):QI l id<=l.length:=List.findIdx_le_length
def zI5 {l:List Rq} {id:Int} {i:Nat} (h:i<QI l id):(l.getD i default).id<id:=by
 have h1:=IY l id;have:=List.not_of_lt_findIdx h;simpa [List.getD,show i<l.length by omega]using this
def zI6 {l:List Rq} {id:Int} (h:QI l id<l.length):¬(l.getD (QI l id) default).id<id:=by
 have:=List.findIdx_getElem (p:=λr:Rq=>!decide (r.id<id)) (w:=h);have h2:QI l id<l.length:=h;simp only[yCz,yAy]at this;intro h3;refine this ?_;rw[yAk,yAr h2]at h3;exact h3
def aF (id:Int) (v:Vh) (life:Int) (x:List Lg) (now:Int):Rq:=⟨id,v.id,v.cls,now+life,x⟩
def ZE (l:List Rq) (r:Rq):List Rq:=l.take (QI l r.id)++r::l.drop (QI l r.id)
def suE (l:List Rq) (q id life:Int) (x:List Lg):Int:=
 if¬(0<=id/\id<=4294967295/\1<=life/\life<=600/\vgF x=true)then 8 else if gF l id=true then 11 else if q<=l.length∨4<=(l.length:Int)then 14 else 0
theorem zI7 (l:List Rq) (q id:Int) (v:Vh) (life:Int) (x:List Lg) (now:Int) (hv:ZL l) (hq:(l.length:Int)<=q) (v0:0<=v.id) (v1:v.id<=4294967295) (w0:0<=v.cls) (w1:v.cls<=3) (n0:0<=now) (n1:now<=1073741824):
  zN 245 [zC yL l,iA q,iA id,vQ v,iA life,zC xW x,iA now] [] (.tup [zC yL (if suE l q id life x=0 then ZE l (aF id v life x now)else []),iA (suE l q id life x)]) []:=by
 have h4:=hv.n4;have hl:=zA yL l;have c1:=UR l q hv hq;have c2:=NG v.id;have c3:=zA4 v.cls;have c4:=zDd now;have c5:=NG id;have c6:=zDc x;have c7:=ND l id zB;rw[yAj ⟨v0,v1⟩]at c2;rw[yAj ⟨w0,w1⟩]at c3;rw[yAj ⟨n0,n1⟩]at c4;by_cases g1:0<=id/\id<=4294967295
 case neg=>
  rw[yAl g1]at c5;have e:suE l q id life x=8:=yAd λh=>g1 ⟨h.1,h.2.1⟩
  rw[e,yAc xL];refine eM call245 λF hF=>?_
  refine yQ (zt5 c1 c2 c3 c4 c5) ?_;exact zJ
 rw[yAj g1]at c5;by_cases g2:1<=life/\life<=600
 case neg=>
  have e:suE l q id life x=8:=yAd λh=>g2 ⟨h.2.2.1,h.2.2.2.1⟩
  rw[e,yAc xL];by_cases g3:1<=life
  ·(refine eM call245 λF hF=>?_)
   refine yQ (zt5 c1 c2 c3 c4 c5) ?_;exact zJ
  ·(refine eM call245 λF hF=>?_)
   refine yQ (zt5 c1 c2 c3 c4 c5) ?_;exact zJ
 obtain⟨g2,g3⟩:=g2
 cases hg:vgF x with
 |false=>
  rw[hg]at c6;have e:suE l q id life x=8:=yAd λh=>yAx (hg.symm.trans h.2.2.2.2)
  rw[e,yAc xL];refine eM call245 λF hF=>?_
  refine yQ (zt6 c1 c2 c3 c4 c5 c6) ?_;exact zJ
 |true=>
 rw[hg]at c6
 have e0:suE l q id life x=if gF l id=true then 11 else if q<=l.length∨4<=(l.length:Int)then 14 else 0:=yAc λh=>h ⟨g1.1,g1.2,g2,g3,hg⟩
 cases hh:gF l id with
 |true=>
  have hx:=zA0 (p:=λx:Rq=>x.id==id) (l:=l) hh;generalize RB (λx:Rq=>x.id==id) l=n at *;have e:suE l q id life x=11:=by rw[e0,yAd hh]
  rw[e,yAc xL];refine eM call245 λF hF=>?_
  refine yQ (zt7 c1 c2 c3 c4 c5 c6 c7) ?_;exact zJ
 |false=>
 have hx:=ZR (p:=λx:Rq=>x.id==id) (l:=l) (by simpa [gF]using hh);rw[hx]at c7;rw[yAc (by rw[hh];decide)]at e0;by_cases g4:q<=l.length∨4<=(l.length:Int)
 case pos=>
  rw[yAd g4]at e0;rw[e0,yAc xL];by_cases g5:q<=l.length
  ·(refine eM call245 λF hF=>?_)
   refine yQ (zt7 c1 c2 c3 c4 c5 c6 c7) ?_;exact zJ
  ·have g6:4<=(l.length:Int):=g4.resolve_left g5;refine eM call245 λF hF=>?_
   refine yQ (zt7 c1 c2 c3 c4 c5 c6 c7) ?_;exact zJ
 rw[yAc g4]at e0;rw[e0,yAd Z];have hxl:=HC hg;have c8:=bG x zB;have hk:=IY l id;have hk1:=λi h=>zI5 (l:=l) (id:=id) (i:=i) h
 have hk2:=zI6 (l:=l) (id:=id)
 have hiQ:(l.map yL).take (QI l id)++yL (aF id v life x now)::(l.map yL).drop (QI l id)=(ZE l (aF id v life x now)).map yL:=by
  unfold ZE aF;rw[yAn,yBs,yDh,yDg]
 have hiL:((ZE l (aF id v life x now)).map yL).length=(l.map yL).length+1:=by
  rw[<-hiQ,yAf,yAp,yAw,yA7];omega
 have h5:∀y∈l.map yL,y.cells.length=5:=λy hy=>by
  obtain⟨r,_,rfl⟩:=yBl.1 hy;rfl
 have r1:=λh=>zI1 (l.map yL) (yL (aF id v life x now)) (QI l id) Z h5 h zB zB
 have r2:=λh c hc=>zI2 (l.map yL) (yL (aF id v life x now)) (QI l id) c Z h5 h zB zB hc
 have r3:=zPo (yL (aF id v life x now)) Z;rw[hiQ]at r1 r2;have d1:=IX l zB (λr hr=>by have:=hv.lg3 hr;omega);clear hv hg;have hR:zC yL (ZE l (aF id v life x now))=AV.sl false ((ZE l (aF id v life x now)).map yL):=rfl;rw[hR];by_cases hn0:l=[]
 ·subst hn0;have d0:=UP;have hY:(ZE [] (aF id v life x now)).map yL=[yL (aF id v life x now)]:=rfl;rw[hY];clear r1 r2 hY hR hiQ hiL;refine eM call245 λF hF=>?_
  refine yQ (zt7 c1 c2 c3 c4 c5 c6 c7) ?_;refine zO (0) [10] [10] [0,2,4,5,6,10] [16,0,2,4,5,6,10] Z (λi T U=>⟨(16,iA i)::T,U⟩) ?_;(conv=>whnf);refine⟨by rfl,?_,?_⟩
  ·intro i hi;omega
  ·(refine yQ (gG c8 d0 r3) ?_)
   exact zJ
 have hl1:1<=l.length:=by
  cases l with
  |nil=>exact absurd Z hn0
  |cons a b=>simp
 have r1:=r1 zB;have r2:=r2 zB;clear r3 hR hiQ;generalize (ZE l (aF id v life x now)).map yL=Y at *;refine eM call245 λF hF=>?_
 refine yQ (zt7 c1 c2 c3 c4 c5 c6 c7) ?_;refine zO (QI l id) [10] [10] [0,2,4,5,6,10] [16,0,2,4,5,6,10] Z (λi T U=>⟨(16,iA i)::T,U⟩) ?_;(conv=>whnf);refine⟨by rfl,?_,?_⟩
 ·intro i hi;have hy:=zM yL l i zB;have hlt:=hk1 i hi;generalize l.getD i default=r at *;refine WW ?_;rfl
 ·clear hk1;by_cases hkl:QI l id<l.length
  case' pos=>
   have hy:=zM yL l (QI l id) hkl;have hge:=hk2 hkl;generalize l.getD (QI l id) default=r at*
  all_goals clear hk2
  all_goals generalize QI l id=k at*
  all_goals (have zc1:=c8;have zc2:=d1;(repeat' (first|refine WS ?_|refine SG (I2 (λhc=>?_) λhc=>?_)|refine SG λhc=>?_|(refine zE ?_;first|refine SM ?_)|(first|refine zC6 5 8 Z Z ?_|first|refine SR ?_|refine SK (I2 (λhc=>?_) λhc=>?_)|refine SK λhc=>?_|fail)|fail))<;>clear zc1 zc2)
  all_goals refine zI0 WA ?_
  all_goals refine zU9 95 1001 ((l.map yL).length+1) [98] [96,98] (st':=⟨[(96,iA k),(98,.ref 98 0 1)],[(98,.arr 5 [yL (aF id v life x now)] false)]⟩) Z Z zB zB zB Z Z Z (λc hc=>?_) ?_
  case' pos.refine_1|neg.refine_1=>
   have r2:=r2 c hc;refine zV r2 ?_;exact zJ
  all_goals rw[show(l.map yL).length+1-(l.map yL).length=1 by omega]
  all_goals (refine zV r1 ?_)
  all_goals (refine zH [] Z Z ?_ Z;show AV.tup [AV.sl false (Y.take ((l.map yL).length+1)),iA 0]=_;rw[yAo zB])
def fdQ (l:List Rq) (id:Int):Rq:=(l.find? λx=>x.id==id).getD ⟨0,0,0,0,[]⟩
def zC7 {l pre post:List Rq} {x:Rq} {id:Int} (h:l=pre++x::post) (hn:∀y∈pre,y.id≠id) (hx:x.id=id):fdQ l id=x/\gF l id=true:=by
 subst h;have h1:pre.find? (λv=>v.id==id)=none:=yFb.2 λy hy=>by simpa using hn y hy
 refine⟨?_,by simp[gF,hx]⟩;unfold fdQ;rw[yF1,h1];simp[hx]
end Av
end Go.Proofs.YteajjdidebfcjaaGreat
