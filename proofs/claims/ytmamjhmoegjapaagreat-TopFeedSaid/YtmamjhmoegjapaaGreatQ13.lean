/- Part 13. -/
import Derived.Test.YtmamjhmoegjapaaGreatQ12
namespace Go.Proofs.YtmamjhmoegjapaaGreat
namespace Av
open Tryz
set_option linter.all false
set_option maxRecDepth 4000
set_option maxHeartbeats 2000000
def KV (n:Int) (i:Nat):Int:=IntKind.u8.wrap (BitVec.ofInt IntKind.u8.bits (IntKind.u8.wrap ((IntKind.u64.wrap n).fdiv (2 ^ (min (8*(i:Int)).toNat IntKind.u64.bits)))) ^^^ BitVec.ofInt IntKind.u8.bits (29*(i:Int)+7)).toNat
def dK (n:Int):List Int:=(List.range 8).map (KV n)
theorem eV (n:Int):zN 43 [iA n] [] (zD yA (dK n)) []:=by
 have hu:∀i:Nat,((List.range i).map (KV n)).map yA=((List.range i).map (KV n)).map yA:=λ_=>rfl
 refine eM call43 λF hF=>?_
 (repeat' (first|refine ZV ?_|refine xQ (λhc=>?_) (λhc=>?_)|fail))
 refine xG 3 1001 1 rfl rfl rfl ?_
 refine wV (λk st=>∃i:Nat,k+i=8/\st=⟨[(0,iA n),(3,.ref 1001 0 (((List.range i).map (KV n)).map yA).length),(5,iA i)],[(1001,.arr 1 (((List.range i).map (KV n)).map yA) true)]⟩)
  8 [1001] [0,3,5] rfl ⟨0,rfl,rfl⟩ ?_
 rintro k st ⟨i,hi,rfl⟩;by_cases hlt:i<8
 ·have ht:((List.range (i+1)).map (KV n)).map yA=((List.range i).map (KV n)).map yA++[yA (KV n i)]:=by rw[zZp];simp
  have hs:((List.range i).map (KV n)).length=i:=by simp
  (repeat' (first|refine ZV ?_|refine xQ (λhc=>?_) (λhc=>?_)|fail))
  exact⟨k-1,zB,i+1,zB,by rw[ht];rfl⟩
 ·obtain rfl:i=8:=by omega
  (repeat' (first|refine ZV ?_|refine xQ (λhc=>?_) (λhc=>?_)|fail))
  exact zH [] rfl rfl (zX7 (AV.sl false) zXe) rfl
def ad7 (d:Dk):Dk:=ad (ad (ad (ad (ad (ad (ad d))))))
def agF (d:Dk) (num rights:Int):Ag:=⟨dK (1000+num),rights,3,[1+nx d (3-1+1),1+nx (ad d) (3-1+1),nx (ad (ad d)) 3,nx (ad (ad (ad d))) 3],1+nx (ad (ad (ad (ad d)))) (3-1+1),1+nx (ad (ad (ad (ad (ad d))))) (2-1+1),
 1+nx (ad (ad (ad (ad (ad (ad d)))))) (3-1+1),1+nx (ad (ad (ad (ad (ad (ad d)))))) (3-1+1)+nx (ad7 d) 5⟩
theorem zHz (d:Dk) (num rights:Int) (h0:0<=num) (h1:num<=1000):zN 39 [.ptr 1000 0 0,iA num,iA rights] [(1000,dX d)] (vH (agF d num rights)) [(1000,dX (ad (ad7 d)))]:=by
 have hb:=yE (ad (ad (ad (ad (ad (ad d)))))) (3-1+1) zB;have hb2:=yE (ad7 d) 5 zB;have sc:=eV (1000+num);unfold agF ad7 at *;generalize dK (1000+num)=sec at *;refine eM call39 λF hF=>?_
 (repeat' (first|refine ZV ?_|refine xQ (λhc=>?_) (λhc=>?_)|(refine zE ?_;refine wB ?_;(first|(refine uI 43 ?_;first|refine xK (zI (sc) rfl rfl rfl rfl rfl) rfl ?_|refine uG (zI (sc) rfl rfl rfl rfl rfl) rfl rfl rfl ?_|refine aD (zI (sc) rfl rfl rfl rfl rfl) rfl rfl rfl ?_)|(refine uI 37 ?_;first|refine xK (zI (kN _ _ _ zB zB zB) rfl rfl rfl rfl rfl) rfl ?_|refine uG (zI (kN _ _ _ zB zB zB) rfl rfl rfl rfl rfl) rfl rfl rfl ?_|refine aD (zI (kN _ _ _ zB zB zB) rfl rfl rfl rfl rfl) rfl rfl rfl ?_)|(refine uI 22 ?_;first|refine xK (zI (yI _ _ zB zB) rfl rfl rfl rfl rfl) rfl ?_|refine uG (zI (yI _ _ zB zB) rfl rfl rfl rfl rfl) rfl rfl rfl ?_|refine aD (zI (yI _ _ zB zB) rfl rfl rfl rfl rfl) rfl rfl rfl ?_)))|fail))
 exact zL [1000] rfl rfl rfl rfl
def CD (r:Int):Bool:=decide (0<=r/\r<=63)
theorem ZU (r:Int):zN 279 [iA r] [] (bA (CD r)) []:=by
 unfold CD
 by_cases h1:0<=r<;>by_cases h2:r<=63<;>simp only[h1,h2,and_true,yDf,decide_true,yDg]<;>first|(exfalso;omega;done)|((refine eM call279 λF hF=>?_);(refine WW ?_);exact zK)
theorem zH0:∀a b:_root_.Fin 64,(zS7 a.val b.val==0)=(fV a.val b.val==(a.val:Int)):=by decide +kernel
def wiF (a b:Int):Bool:=CD a&&CD b&&(fV a b==a)
theorem zNq (a b:Int):(CD a&&CD b&&(zS7 a b==0))=wiF a b:=by
 unfold wiF
 cases ha:CD a<;>cases hb:CD b<;>simp only[zX1,zY2,yBa,yBf]
 simp only[CD,zXi]at ha hb;have:=zH0 ⟨a.toNat,zB⟩ ⟨b.toNat,zB⟩;dsimp only at this;rw[show((a.toNat:Nat):Int)=a by omega,show((b.toNat:Nat):Int)=b by omega]at this;exact this
theorem FQ (a b:Int):zN 299 [iA a,iA b] [] (bA (wiF a b)) []:=by
 have c1:=ZU a;have c2:=ZU b;rw[<-zNq]
 cases h1:CD a<;>cases h2:CD b<;>rw[h1]at c1<;>rw[h2]at c2<;>simp only[zX1,zY2,yBa]<;>((refine eM call299 λF hF=>?_);(refine yO (wW c1 c2) ?_);exact zK)
theorem zDh (a b:Int):yR [iA a,iA b] [] (bA (wiF a b)) []:=yG
def BZ (k:Int):Int:=if k=6∨k=7∨k=8 then 1 else if k=4∨k=5 then 2 else if k=2 then 4 else if k=3 then 8 else if k=10 then 16 else if k=11 then 32 else 0
theorem zDi (k:Int):(k=6/\BZ k=1)∨(k=7/\BZ k=1)∨(k=8/\BZ k=1)∨(k=4/\BZ k=2)∨(k=5/\BZ k=2)∨(k=2/\BZ k=4)∨(k=3/\BZ k=8)∨(k=10/\BZ k=16)∨(k=11/\BZ k=32)∨
  (k≠6/\k≠7/\k≠8/\k≠4/\k≠5/\k≠2/\k≠3/\k≠10/\k≠11/\BZ k=0):=by
 by_cases h6:k=6
 ·exact(.inl ⟨h6,by subst h6;rfl⟩)
 by_cases h7:k=7
 ·exact .inr ((.inl ⟨h7,by subst h7;rfl⟩))
 by_cases h8:k=8
 ·exact .inr (.inr ((.inl ⟨h8,by subst h8;rfl⟩)))
 by_cases h4:k=4
 ·exact .inr (.inr (.inr ((.inl ⟨h4,by subst h4;rfl⟩))))
 by_cases h5:k=5
 ·exact .inr (.inr (.inr (.inr ((.inl ⟨h5,by subst h5;rfl⟩)))))
 by_cases h2:k=2
 ·exact .inr (.inr (.inr (.inr (.inr ((.inl ⟨h2,by subst h2;rfl⟩))))))
 by_cases h3:k=3
 ·exact .inr (.inr (.inr (.inr (.inr (.inr ((.inl ⟨h3,by subst h3;rfl⟩)))))))
 by_cases h10:k=10
 ·exact .inr (.inr (.inr (.inr (.inr (.inr (.inr ((.inl ⟨h10,by subst h10;rfl⟩))))))))
 by_cases h11:k=11
 ·exact .inr (.inr (.inr (.inr (.inr (.inr (.inr (.inr ((.inl ⟨h11,by subst h11;rfl⟩)))))))))
 exact .inr (.inr (.inr (.inr (.inr (.inr (.inr (.inr (.inr (⟨h6,h7,h8,h4,h5,h2,h3,h10,h11,by simp[BZ,h6,h7,h8,h4,h5,h2,h3,h10,h11]⟩)))))))))
theorem zH1 (k:Int):zN 278 [iA k] [] (iA (BZ k)) []:=by
 rcases zDi k with⟨h,e⟩|⟨h,e⟩|⟨h,e⟩|⟨h,e⟩|⟨h,e⟩|⟨h,e⟩|⟨h,e⟩|⟨h,e⟩|⟨h,e⟩|⟨h1,h2,h3,h4,h5,h6,h7,h8,h9,e⟩<;>rw[e]<;>((refine eM call278 λF hF=>?_);(refine WW ?_);exact zK)
def peF (r k:Int):Bool:=CD r&&(fV r (BZ k)==BZ k)
theorem zDj (r k:Int):zN 257 [iA r,iA k] [] (bA (peF r k)) []:=by
 have c1:=ZU r;have c2:=zH1 k;unfold peF;generalize BZ k=n at*
 cases h1:CD r<;>rw[h1]at c1<;>simp only[zX1,zY2]<;>((refine eM call257 λF hF=>?_);(refine yO (wW c1 c2) ?_);exact zK)
theorem zSp (r b:Int):zN 180 [iA r,iA b] [] (bkA ⟨b,r,b⟩) []:=by
 refine eM call180 λF hF=>?_
 refine WW ?_;exact zK
def bvF (b:Bk):Bool:=decide (0<=b.burst/\b.burst<=1000/\0<=b.rate/\b.rate<=b.burst/\0<=b.level/\b.level<=b.burst)
theorem zH2 (b:Bk):zN 282 [bkA b] [] (bA (bvF b)) []:=by
 (cases hb:bvF b with|false=>((refine eM call282 λF hF=>?_);((refine WW (I6 (λhc hc hc hc hc=>?_) (λhc hc hc hc hc=>?_) (λhc hc hc hc=>?_) (λhc hc hc=>?_) (λhc hc=>?_) (λhc=>?_))));all_goals (first|exact zK|(simp only[bvF,zXu]at hb;first|exact AG|exact CE)))|true=>(simp only[bvF,zXi]at hb;(refine eM call282 λF hF=>?_);((refine WW ?_));all_goals (first|exact zK|exact AG|exact CE)))
def btF (b:Bk):Bk:=⟨min (b.level+b.rate) b.burst,b.rate,b.burst⟩
theorem zNr (b:Bk) (h: -1000000000<=b.level+b.rate/\b.level+b.rate<=1000000000):zN 189 [bkA b] [] (bkA (btF b)) []:=by
 refine eM call189 λF hF=>?_
 refine WW ?_;exact zK
def FR (b:Bk):Bk:=if b.level<=0 then b else⟨b.level-1,b.rate,b.burst⟩
theorem zNs (b:Bk) (h:b.level<=9223372036854775807):zN 235 [bkA b] [] (.tup [bkA (FR b),bA (decide (0<b.level))]) []:=by
 unfold FR;by_cases h1:b.level<=0
 ·rw[zW9 h1,zXj zB];refine eM call235 λF hF=>?_
  refine WW ?_;exact zK
 ·rw[zW8 h1,zXg zB];refine eM call235 λF hF=>?_
  refine WW ?_;exact zK
def fJ (l:List Tk) (s:Int):Bool:=decide (0<=s/\s<l.length)&&(l.getD s.toNat default).used
theorem AA (l:List Tk) (s:Int):zN 233 [zD xD l,iA s] [] (bA (fJ l s)) []:=by
 have hl:=zA xD l;unfold fJ;by_cases h1:0<=s
 ·by_cases h2:s<l.length
  ·have hy:=yM xD l s h1 h2;rw[zXg ⟨h1,h2⟩,zX1];refine eM call233 λF hF=>?_
   refine WW ?_;exact zK
  ·rw[zXj zB,zY2];refine eM call233 λF hF=>?_
   refine WW ?_;exact zK
 ·rw[zXj zB,zY2];refine eM call233 λF hF=>?_
  refine WW ?_;exact zK
def laF (a b:Int):Bool:=decide (b≠0/\(a=0∨b<a))
theorem zBe (a b:Int):zN 300 [iA a,iA b] [] (bA (laF a b)) []:=by
 unfold laF
 by_cases h1:b=0<;>by_cases h2:a=0<;>by_cases h3:b<a<;>simp only[yAt,h1,h2,h3,yCx,not_false_eq_true,and_true,yDf,true_and,false_and,or_true,true_or,yCo,decide_true,yDg]<;>first|(exfalso;omega;done)|((refine eM call300 λF hF=>?_);(refine WW ?_);exact zK)
theorem zH3 (a b:Int):yR [iA a,iA b] [] (bA (laF a b)) []:=yG
def exF (t:Tk) (now:Int):Bool:=decide (t.til≠0/\t.til<now)
theorem ML (t:Tk) (now:Int):zN 210 [xD t,iA now] [] (bA (exF t now)) []:=by
 unfold exF
 by_cases h1:t.til=0<;>by_cases h2:t.til<now<;>simp only[yAt,h1,h2,yCx,not_false_eq_true,and_true,yDf,decide_true,yDg]<;>first|(exfalso;omega;done)|((refine eM call210 λF hF=>?_);(refine WW ?_);exact zK)
def frT:Tk:=⟨false,[],-1,0,0,0⟩
theorem AB:zN 205 [] [] (xD frT) []:=by
 refine eM call205 λF hF=>?_
 refine WW ?_;exact zK
theorem bD {α:Type} (f:α->AV) (l:List α):AV.sl false ((l.map f).take (l.map f).length)=zD f l:=by rw[zXe];rfl
def kS {α:Type} (_:Nat) (l:List α):List α:=l
theorem WR (l:List Int) (hl:l.length<=1073741824):zN 107 [zD iA l] [] (zD iA l) []:=by
 have hll:=zA iA l;refine eM call107 λF hF=>?_
 refine yY 0 rfl (λcap hx=>?_) ?_
 ·have:l=[]:=by simpa using hx
  subst this;refine WW ?_;exact zK
 ·(refine WW ?_)
  refine zH [] rfl rfl (bD _ _) rfl
theorem wA (l:List Int) (hl:l.length<=1073741824):zN 79 [zD yA l] [] (zD yA l) []:=by
 have hll:=zA yA l;refine eM call79 λF hF=>?_
 refine yY 0 rfl (λcap hx=>?_) ?_
 ·have:l=[]:=by simpa using hx
  subst this;refine WW ?_;exact zK
 ·(refine WW ?_)
  refine zH [] rfl rfl (bD _ _) rfl
theorem FS (l:List Vh) (hl:l.length<=1073741824):zN 186 [zD vZ l] [] (zD vZ l) []:=by
 have hll:=zA vZ l;refine eM call186 λF hF=>?_
 refine yY 0 rfl (λcap hx=>?_) ?_
 ·have:l=[]:=by simpa using hx
  subst this;refine WW ?_;exact zK
 ·(refine WW ?_)
  refine zH [] rfl rfl (bD _ _) rfl
theorem XG (l:List Tk) (hl:l.length<=1073741824):zN 185 [zD xD l] [] (.ref 1001 0 (l.map xD).length) [(1001,.arr 6 (l.map xD) false)]:=by
 have hll:=zA xD l;refine eM call185 λF hF=>?_
 refine yY 0 rfl (λcap hx=>?_) ?_
 ·have:l=[]:=by simpa using hx
  subst this
  (repeat' (first|refine WZN ?_|refine xQ (λhc=>?_) (λhc=>?_)|refine wD (λhc=>?_)|fail))
  refine uF 2 1001 6 rfl rfl rfl (yU ?_);exact zL [1001] rfl rfl rfl rfl
 ·repeat' (first|(refine zE ?_;first|refine vK tok rfl rfl ?_|(refine wZ ?_;refine xK (yW tok (.inl ⟨rfl,rfl⟩) rfl rfl rfl rfl) rfl ?_)|(refine yT ?_;refine uG (nw:=[1001]) (yJ tok 1001 (xs:=[]) rfl rfl rfl rfl rfl rfl rfl rfl rfl) rfl rfl rfl ?_)|(refine yV ?_;refine wO tok rfl rfl rfl rfl rfl rfl rfl (xH _ _ (λ_=>rfl)) rfl rfl rfl zB rfl ?_)|refine qC ?_)|(first|refine xS ?_|refine yZ ?_|refine vA rfl ?_|refine zX rfl ?_|refine zQ rfl ?_|refine xJ rfl (λhc=>?_) (λhc=>?_)|refine yX ?_|refine yU ?_|refine xA ?_|refine yS ?_))
  exact zL [1001] rfl rfl rfl rfl
structure HE (l:List Tk):Prop where
 n:l.length<=1000000
 s:∀t∈l,t.sec.length<=1000000
theorem kG {α:Type} [Inhabited α] (f:α->AV) (l:List α) (i:Nat) (hi:i<l.length):(kS i (l.map f)).set i (f (l.getD i default))=kS (i+1) (l.map f):=by
 unfold kS;have:=zM f l i hi;rw[zXv]at this;obtain⟨h,e⟩:=this;rw[<-e,yCc]
theorem XH (l:List Tk) (hb:HE l):zN 208 [zD xD l] [] (.ref 1001 0 (l.map xD).length) [(1001,.arr 6 (l.map xD) false)]:=by
 have c:=XG l (by have:=hb.n;omega);have hn:=hb.n;have hll:=zA xD l;refine eM call208 λF hF=>?_
 refine zU c ?_;refine zP ((l.map xD).length) [1001] [] [3,8] [9,3,8] rfl (λi T U=>⟨(9,iA i)::T,(1001,.arr 6 (kS i (l.map xD)) false)::U⟩) ?_;(conv=>whnf);refine⟨by rfl,?_,?_⟩
 ·intro i hi;have hi':i<l.length:=by omega
  have hy:(kS i (l.map xD))[i]? =some (xD (l.getD i default)):=zM xD l i hi';have e:=kG xD l i hi';have c2:=wA (l.getD i default).sec (by have:=hb.s (l.getD i default) bY;omega);generalize (l.getD i default)=t at *;generalize kS i (l.map xD)=xs at *;generalize kS (i+1) (l.map xD)=ys at *;subst e;refine zU c2 ?_;rfl
 ·(refine WW ?_)
  exact zL [1001] rfl rfl rfl rfl
theorem FT (a:Ag) (h1:a.sec.length<=1000000) (h2:a.lim.length<=1000000):zN 178 [vH a] [] (vH a) []:=by
 have c1:=wA a.sec zB;have c2:=WR a.lim zB;refine eM call178 λF hF=>?_
 refine yO (wW c1 c2) ?_;exact zK
structure FU (r:Rg):Prop where
 tk:HE r.tk
 s:r.ag.sec.length<=1000000
 l:r.ag.lim.length<=1000000
 v:r.vh.length<=1000000
def rgX (r:Rg) (xs:List AV):AV:= .agg [iA r.num,zD yA r.ag.sec,iA r.ag.rights,iA r.ag.cls,zD iA r.ag.lim,iA r.ag.req,iA r.ag.ses,iA r.ag.rate,iA r.ag.burst,.sl false xs,zD vZ r.vh,iA r.bk.level,iA r.bk.rate,iA r.bk.burst]
theorem eW (r:Rg) (hb:FU r):zN 187 [uW r] [] (uW r) []:=by
 have c1:=FT r.ag hb.s hb.l;have hn:=hb.tk.n;have hv:=hb.v;have c2:=XG r.tk zB;have c3:=FS r.vh zB;have hll:=zA xD r.tk;refine eM call187 λF hF=>?_
 refine yO (wW c1 c2) ?_;refine zP ((r.tk.map xD).length) [1001,1,2] [1,2] [1,2,14] [15,1,2,14] rfl (λi T U=>⟨(15,iA i)::T,(1001,.arr 6 (kS i (r.tk.map xD)) false)::U⟩) ?_;(conv=>whnf);refine⟨by rfl,?_,?_⟩
 ·intro i hi;have hi':i<r.tk.length:=by omega
  have hy:(kS i (r.tk.map xD))[i]? =some (xD (r.tk.getD i default)):=zM xD r.tk i hi';have e:=kG xD r.tk i hi';have c2:=wA (r.tk.getD i default).sec (by have:=hb.tk.s (r.tk.getD i default) bY;omega);generalize (r.tk.getD i default)=t at *;generalize kS i (r.tk.map xD)=xs at *;generalize kS (i+1) (r.tk.map xD)=ys at *;subst e;refine zU c2 ?_;rfl
 ·(refine zU c3 ?_)
  exact zH [] rfl rfl (zX7 (rgX r) zXe) rfl
theorem aC.lg3 {l:List Rq} (h:aC l) {r:Rq} (hr:r∈l):1<=r.legs.length/\r.legs.length<=3:=by
 have:=KZ (h.ok r hr).lg;omega
theorem aC.filter {l:List Rq} (h:aC l) (p:Rq->Bool):aC (l.filter p):=
 ⟨λr hr=>h.ok r (yAj.1 hr).1,h.so.filter p,zYg (zZn _ _) h.n4⟩
theorem cM (l:List Lg) (hl:l.length<=1000):zN 152 [zD xU l] [] (zD xU l) []:=by
 have hll:=zA xU l;refine eM call152 λF hF=>?_
 refine yY 0 rfl (λcap hx=>?_) ?_
 ·have:l=[]:=by simpa using hx
  subst this;refine WW ?_;exact zK
 ·(refine WW ?_)
  refine zH [] rfl rfl (bD _ _) rfl
theorem WU (r:Rq) (hl:r.legs.length<=1000):zN 211 [yK r] [] (yK r) []:=by
 have c:=cM r.legs hl;have hll:=zA xU r.legs;refine eM call211 λF hF=>?_
 refine zU c ?_;exact zK
theorem FV (p:Rq->Bool) (pre:List Rq) (x:Rq):((pre++[x]).filter p).map yK=(pre.filter p).map yK++(if p x=true then [x]else []).map yK:=by
 rw[yAz,zXf]
 congr 2
 cases h:p x<;>simp[h]
theorem AC (fn:Nat) (v:Int) (p:Rq->Bool) (l:List Rq) (hn:l.length<=1000) (hb:∀r∈l,r.legs.length<=1000) (c:∀x,zN fn [yK x,.ptr 3 0 0] [(3,.box [iA v])] (bA (p x)) [(3,.box [iA v])]):
  zN 190 [zD yK l,.fn fn [.ptr 3 0 0]] [(3,.box [iA v])] (zD yK (l.filter p)) [(3,.box [iA v])]:=by
 have hl:=zA yK l;refine eM call190 λF hF=>?_
 refine WW ?_;refine xG 5 1001 5 rfl rfl rfl ?_;refine yB (l) [1001,3] [3] [1,8,9] [5,10,1,8,9] rfl (λi pre T U=>⟨(5,.ref 1001 0 ((pre.filter p).map yK).length)::(10,iA i)::T,(1001,.arr 5 ((pre.filter p).map yK) true)::U⟩) ?_;(conv=>whnf);refine⟨by rfl,?_,?_⟩
 ·intro i pre x post hx hi;have hy:=yP yK hx hi;have hlt:=yF hx hi;have hle:(pre.filter p).length<=i:=by rw[<-hi];exact zZn _ _
  have hlm:=zA yK (pre.filter p);have c1:=c x;have c2:=WU x (hb x (xV hx));have e:=FV p pre x;rw[e];clear hx e;generalize (pre.filter p).map yK=R at*
  cases h:p x with
  |false=>
   rw[h]at c1;rw[zW8 zXx];refine zU c1 ?_;rw[zY6,zX8];rfl
  |true=>
   rw[h]at c1;rw[zW9 rfl];refine yO (wW c1 c2) ?_;rfl
 ·(refine WW ?_)
  exact zL [3] rfl rfl (bD _ _) rfl
def UB {α:Type} (p:α->Bool) (l:List α):Int:=if l.any p=true then(l.findIdx p:Int)else -1
theorem RI {α:Type} {p:α->Bool} {l pre post:List α} {x:α} (h:l=pre++x::post) (hn:∀y∈pre,p y=false) (hx:p x=true):UB p l=(pre.length:Int):=by
 subst h;have h1:(pre++x::post).any p=true:=by simp[hx]
 have h2:pre.findIdx p=pre.length:=List.findIdx_eq_length.2 (λy hy=>by simpa using hn y hy);unfold UB;rw[zW9 h1,List.findIdx_append,h2,zW8 zB,List.findIdx_cons,hx];simp
theorem aT {α:Type} {p:α->Bool} {l:List α} (hn:∀y∈l,p y=false):UB p l= -1:=by
 unfold UB;rw[zW8 EP]
theorem AD {α:Type} {p:α->Bool} {l:List α} (h:l.any p=true):0<=UB p l/\UB p l<l.length:=by
 unfold UB;rw[zW9 h];have:=List.findIdx_lt_length.2 (zYv.1 h);omega
theorem zSq (id:Int) (x:Rq):zN 295 [yK x,.ptr 3 0 0] [(3,.box [iA id])] (bA (x.id==id)) [(3,.box [iA id])]:=by
 refine eM call295 λF hF=>?_
 refine WW ?_;exact zL [3] rfl rfl rfl rfl
theorem zSr (id:Int) (l:List Rq) (hb:l.length<=1000):zN 294 [zD yK l,.fn 295 [.ptr 3 0 0]] [(3,.box [iA id])] (iA (UB (λr:Rq=>r.id==id) l)) [(3,.box [iA id])]:=by
 have hl:=zA yK l;refine eM call294 λF hF=>?_
 refine WW ?_;refine kJ (l) [3] [3] [0,1,7] [8,0,1,7] rfl (λi pre T U zs=>(∀y∈pre,(y.id==id)=false)/\zs=⟨(8,iA i)::T,U⟩) ?_;(conv=>whnf);refine⟨?_,?_,?_⟩
 ·exact⟨by simp,rfl⟩
 ·rintro i pre x post st hx hi ⟨hp,rfl⟩;have hy:=yP yK hx hi;have hlt:=yF hx hi;have c:=zSq id x;have hit:=RI (p:=λr:Rq=>r.id==id) hx hp
  cases he:(x.id==id)<;>rw[he]at c
  ·clear hx hit;refine zU c ?_;exact⟨λy hy=>by simp only[zXs,zX9]at hy;rcases hy with hy|rfl;exact hp y hy;exact he,rfl⟩
  ·rw[hit he,hi];clear hx hit;refine zU c ?_;exact zL [3] rfl rfl rfl rfl
 ·rintro st ⟨hp,rfl⟩;rw[aT hp];refine WW ?_;exact zL [3] rfl rfl rfl rfl
theorem QV (l:List Rq) (id:Int) (hb:l.length<=1000):zN 271 [zD yK l,iA id] [] (iA (UB (λr:Rq=>r.id==id) l)) []:=by
 have c:=zSr id l hb;generalize UB (λr:Rq=>r.id==id) l=n at *;refine eM call271 λF hF=>?_
 refine zU c ?_;exact zK
theorem zSs (now:Int) (x:Rq):zN 191 [yK x,.ptr 3 0 0] [(3,.box [iA now])] (bA (decide (now<=x.til))) [(3,.box [iA now])]:=by
 cases hb:decide (now<=x.til)with
 |false=>
  rw[zXu]at hb;refine eM call191 λF hF=>?_
  refine WW ?_;exact zL [3] rfl rfl rfl rfl
 |true=>
  rw[zXi]at hb;refine eM call191 λF hF=>?_
  refine WW ?_;exact zL [3] rfl rfl rfl rfl
theorem zSt (v:Int) (x:Rq):zN 265 [yK x,.ptr 3 0 0] [(3,.box [iA v])] (bA (x.vh != v)) [(3,.box [iA v])]:=by
 refine eM call265 λF hF=>?_
 refine WW ?_;exact zL [3] rfl rfl rfl rfl
theorem zSu (v:Int) (x:Rq):zN 272 [yK x,.ptr 3 0 0] [(3,.box [iA v])] (bA (x.id != v)) [(3,.box [iA v])]:=by
 refine eM call272 λF hF=>?_
 refine WW ?_;exact zL [3] rfl rfl rfl rfl
def zH4 (l:List Rq) (now:Int):List Rq:=l.filter λx=>decide (now<=x.til)
def FW (l:List Rq) (v:Int):List Rq:=l.filter λx=>x.vh != v
def zH5 (l:List Rq) (id:Int):List Rq:=l.filter λx=>x.id != id
def hH (l:List Rq) (id:Int):Bool:=l.any λx=>x.id==id
theorem zH6 (l:List Rq) (now:Int) (hv:aC l):zN 157 [zD yK l,iA now] [] (zD yK (zH4 l now)) []:=by
 have h4:=hv.n4;have c:=AC 191 now _ l zB (λr hr=>by have:=hv.lg3 hr;omega) (zSs now);unfold zH4;generalize l.filter _=l2 at *;refine eM call157 λF hF=>?_
 refine zU c ?_;exact zK
theorem MM (l:List Rq) (v:Int) (hv:aC l):zN 237 [zD yK l,iA v] [] (zD yK (FW l v)) []:=by
 have h4:=hv.n4;have c:=AC 265 v _ l zB (λr hr=>by have:=hv.lg3 hr;omega) (zSt v);unfold FW;generalize l.filter _=l2 at *;refine eM call237 λF hF=>?_
 refine zU c ?_;exact zK
theorem zH7 (l:List Rq) (id:Int) (hv:aC l):zN 240 [zD yK l,iA id] [] (.tup [zD yK (if hH l id=true then zH5 l id else []),iA (if hH l id=true then 0 else 12)]) []:=by
 have h4:=hv.n4;have c1:=VB l 4 hv zB;have c2:=QV l id zB;have c3:=AC 272 id _ l zB (λr hr=>by have:=hv.lg3 hr;omega) (zSu id);unfold zH5;generalize l.filter _=l2 at*
 cases hh:hH l id with
 |true=>
  have hx:=AD (p:=λx:Rq=>x.id==id) (l:=l) hh;generalize UB (λx:Rq=>x.id==id) l=n at *;rw[zW9 rfl,zW9 rfl];refine eM call240 λF hF=>?_
  refine yO (gU c1 c2 c3) ?_;exact zK
 |false=>
  have hx:=aT (p:=λx:Rq=>x.id==id) (l:=l) (by simpa [hH]using hh);rw[hx]at c2;rw[zW8 zXx,zW8 zXx];refine eM call240 λF hF=>?_
  refine yO (wW c1 c2) ?_;exact zK
theorem zDk (l:List Rq) (id:Int) (hv:aC l):yR [zD yK l,iA id] [] (.tup [zD yK (if hH l id=true then zH5 l id else []),iA (if hH l id=true then 0 else 12)]) []:=yG
section
variable {P:Program} {K0:List Nat} {F:Fr K0} {m:Nat}
def US (l:List Oper) (n:Nat) (T:List Nat) (fs:List FP):Bool:=
 zN5 l.toArray&&okT l.toArray T&&((List.range n).all λj=>(List.range j).all λi=>match l[i]?,l[j]?,fs[i]?,fs[j]? with
  |some oi,some oj,some fi,some fj=>bit T j i|| !qM l.toArray oi oj fi fj
  |_,_,_,_=>false)&&Nat.ble n l.length&&((List.range l.length).all λj=>Nat.blt j n||(List.range j).all λi=>bit T j i)
theorem zDl {id:Nat} {l:List Oper} (n:Nat) {st st':St} {es:List UW} {Q:Exit->St->Prop} (hm:P.follows .mixedOrders=true) (hT:Tr P m l.toArray (l.take n) st es st') (hC:US l n (PC l) (es.map UW.fp)=true) (hB:HG P F m l.toArray (l.drop n) st' (Q .normal)):
  uC P F m (.region id l.toArray true) st Q:=by
 refine⟨?_⟩;intro a w H;unfold US at hC;rw[zXo,zXo,zXo,zXo,zXm,zXm]at hC;obtain⟨⟨⟨⟨hA,hTc⟩,hX⟩,hnl⟩,hY⟩:=hC;have hnl:=zXq hnl;generalize PC l=T at *;have hlen:=hT.len;rw[zXw,yCj hnl]at hlen
 have hAl:∀(i:Nat) o,(l.take n)[i]? =some o->l[i]? =some o/\i<n:=λi o h=>by
  have h1:i<n:=by
   have:=(zXv.1 h).1;rw[zXw]at this;omega
  rw[List.getElem?_take_of_lt h1]at h;exact⟨h,h1⟩
 have hbt:∀i j,n<=j->j<l.length->i<j->bit T j i=true:=λi j h1 h2 h3=>by
  have:=hY j (zXz.2 h2);rw[show Nat.blt j n=false by cases hb:Nat.blt j n with|false=>rfl|true=>exact absurd (zXq hb) zB,yAr,zXm]at this;exact this i (zXz.2 h3)
 let R:=(l.take n).zipWith (λo e=>(o.dst,e)) es
 have hR:∀(j:Nat) p,R[j]? =some p->∃o e,(l.take n)[j]? =some o/\es[j]? =some e/\p=(o.dst,e):=λj p hp=>by
  simp only[R,yCb]at hp
  cases ho:(l.take n)[j]? with
  |none=>simp[ho]at hp
  |some o=>cases he:es[j]? with
   |none=>simp[ho,he]at hp
   |some e=>simp[ho,he]at hp;exact⟨o,e,rfl,rfl,hp.symm⟩
 have hcl:∀i j oi oj ei ej,i<j->(l.take n)[i]? =some oi->(l.take n)[j]? =some oj->es[i]? =some ei->es[j]? =some ej->qM l.toArray oi oj ei.fp ej.fp=true->bit T j i=true:=λi j oi oj ei ej hij h1 h2 h3 h4 h5=>by
  have:=zXm.1 (hX j (zXz.2 (hAl j oj h2).2)) i (zXz.2 hij);simp only[(hAl i oi h1).1,(hAl j oj h2).1,zXd,h3,h4,Option.map_some,h5,yB8,yCt]at this;simpa using this
 let QQ:Exit->Act->World->Prop:=λe a' w'=>e= .normal/\∃s,Q .normal s/\wH F m s a' w'
 let J0:Array Bool->Prop:=λL=>L.size=l.toArray.size/\(∀i o,l.toArray[i]? =some o->qL L i=true->∀e∈o.after,binds e=true->qL L e.on=true)
 let JA:Array Bool->Act->World->Prop:=λL a w=>J0 L/\(∀i,n<=i->qL L i=false)/\YF F m (zG (vM (qL L) 0 R st).tm) (zC (vM (qL L) 0 R st).h) a w
 let JB:Array Bool->Act->World->Prop:=λL a w=>J0 L/\∃k,(∀i,qL L i=decide (i<n+k))/\n+k<=l.length/\wpListIn (MQ F.ro) 0 P l.toArray QQ (l.drop (n+k)) a w
 let J:Array Bool->Act->World->Prop:=λL a w=>JA L a w∨JB L a w
 have hJ0:∀L a w,J L a w->J0 L:=λL a w h=>h.elim (λh=>h.1) (λh=>h.1)
 have hAB:∀L a w,JA L a w->(∀i,i<n->qL L i=true)->JB L a w:=λL a w hJ hall=>by
  refine⟨hJ.1,0,λi=>?_,hnl,?_⟩
  ·by_cases h:i<n
   ·rw[hall i h];simp[h]
   ·rw[hJ.2.1 i zB];simp[h]
  ·have:vM (qL L) 0 R st=st':=JG (l.take n) es 0 st st' hT λj hj=>by rw[zYe];exact hall j (by rw[zXw]at hj;omega)
   have h2:=hJ.2.2;rw[this]at h2;exact hB a w h2
 have hend:∀L a w,(∀i,i<l.toArray.size->qL L i=true)->J L a w->QQ .normal a w:=λL a w hall hJ=>by
  have hJB:JB L a w:=hJ.elim (λh=>hAB L a w h λi hi=>hall i wQ) (λh=>h);obtain⟨_,k,h1,h2,h3⟩:=hJB
  have hk:n+k=l.length:=by
   by_cases h:n+k<l.length
   ·have h4:=hall (n+k) NS;rw[h1]at h4;simp at h4
   ·omega
  rw[hk,yBb]at h3;exact h3
 have hcls:∀(L:Array Bool) i o,J0 L->l.toArray[i]? =some o->(∀e∈o.after,binds e=true->qL L e.on=true)->J0 (L.setIfInBounds i true):=λL i o h0 ho hpre=>by
  obtain⟨hs,hdn⟩:=h0;have hin:i<l.toArray.size:=(zZd.1 ho).1
  have hL':∀j,qL (L.setIfInBounds i true) j=if j=i then true else qL L j:=λj=>dQ L i j (by rw[hs];exact hin)
  refine⟨by simpa using hs,λj oj hoj hlj ed hed hb=>?_⟩;rw[hL']at hlj⊢;by_cases hji:j=i
  ·subst hji;rw[ho]at hoj;cases hoj;split
   ·rfl
   ·exact hpre ed hed hb
  ·rw[zW8 hji]at hlj;split
   ·rfl
   ·exact hdn j oj hoj hlj ed hed hb
 have hstepB:∀L a w i,JB L a w->i∈Region.ready .any l.toArray L->∀K:Act->World->Prop,(∀a' w',J (L.setIfInBounds i true) a' w'->K a' w')->wpOpIn (MQ F.ro) 0 P l.toArray QQ i K a w:=by
  intro L a w i hJ hi K hK;obtain⟨h0,k,h1,h2,h3⟩:=hJ;obtain⟨o,ho,hl,hpre⟩:=jF h0.1 hi;have hin:i<l.toArray.size:=(zZd.1 ho).1;have hin':i<l.length:=by simpa using hin
  have hge:n+k<=i:=by
   rw[h1]at hl;simpa using hl
  have hie:i=n+k:=by
   by_cases h:n+k<i
   ·have h5:=UV hA hTc h0.2 (i+1) i o zB ho hpre (n+k) (hbt _ _ zB hin' h);rw[h1]at h5;simp at h5
   ·omega
  subst hie;rw[zZ5 hin']at h3
  have ho':l[n+k]'hin'=o:=by
   have:=(zZd.1 ho).2;simpa using this
  rw[ho']at h3
  have hL':∀j,qL (L.setIfInBounds (n+k) true) j=if j=n+k then true else qL L j:=λj=>dQ L _ j (by rw[h0.1];exact hin)
  have hnx:∀a' w',wpListIn (MQ F.ro) 0 P l.toArray QQ (l.drop (n+k+1)) a' w'->K a' w':=λa' w' h=>by
   refine hK a' w' (.inr ⟨hcls L _ o h0 ho hpre,k+1,λj=>?_,zB,h⟩);rw[hL',h1];by_cases hj:j=n+k
   ·rw[zW9 hj];simp;omega
   ·rw[zW8 hj];by_cases hj2:j<n+k
    ·simp[hj2];omega
    ·simp[hj2];omega
  unfold wpOpIn;rw[ho];dsimp only;unfold wpListIn at h3;split
  ·rename_i hw;rw[zW9 hw]at h3;exact Oper.wpIn_mono hnx h3
  ·rename_i hw;rw[zW8 hw]at h3;exact⟨h3.1,hnx _ _ h3.2⟩
 have hstep:∀L a w i,J L a w->i∈Region.ready .any l.toArray L->∀K:Act->World->Prop,(∀a' w',J (L.setIfInBounds i true) a' w'->K a' w')->wpOpIn (MQ F.ro) 0 P l.toArray QQ i K a w:=by
  intro L a w i hJ hi K hK
  rcases hJ with hJ|hJ
  case inr=>exact hstepB L a w i hJ hi K hK
  by_cases hin0:i<n
  case neg=>
   refine hstepB L a w i (hAB L a w hJ λj hj=>?_) hi K hK;obtain⟨o,ho,hl,hpre⟩:=jF hJ.1.1 hi;have hin:i<l.toArray.size:=(zZd.1 ho).1;exact UV hA hTc hJ.1.2 (i+1) i o zB ho hpre j (hbt _ _ zB (by simpa using hin) zB)
  obtain⟨h00,hge0,hRel⟩:=hJ;obtain⟨hs,hdn⟩:=h00;obtain⟨o,ho,hl,hpre⟩:=jF hs hi;have hin:i<l.toArray.size:=(zZd.1 ho).1;have ho':(l.take n)[i]? =some o:=by rw[List.getElem?_take_of_lt hin0];simpa using ho
  obtain⟨e,he⟩:∃e,es[i]? =some e:=⟨es[i]'(by rw[hlen];exact hin0),by simp⟩;have hahead:=UV hA hTc hdn (i+1) i o zB ho hpre
  have hlate:∀j,j<l.toArray.size->bit T j i=true->qL L j=false:=λj hj hij=>by
   cases hlj:qL L j with
   |false=>rfl
   |true=>
    have hoj:l.toArray[j]? =some l.toArray[j]:=by simp[hj]
    have:=UV hA hTc hdn (j+1) j _ zB hoj (hdn j _ hoj hlj) i hij;rw[hl]at this;cases this
  have hord:∀j oj ej,(l.take n)[j]? =some oj->es[j]? =some ej->j≠i->(j<i->qM l.toArray oj o ej.fp e.fp=true)->(i<j->qM l.toArray o oj e.fp ej.fp=true)->qL L j=decide (j<i):=λj oj ej h1 h2 hne h3 h4=>by
   rcases Nat.lt_or_gt_of_ne hne with h|h
   ·rw[hahead j (hcl j i oj o ej e h h1 ho' h2 he (h3 h))];simp[h]
   ·rw[hlate j (by have:=hAl j oj h1;simp;omega) (hcl i j o oj e ej h ho' h1 he h2 (h4 h))];simp;omega
  obtain⟨⟨s1,s2,s3,s4,s5,s6⟩,hnext⟩:=hT.at i 0 o e ho' he;simp only[zYe]at s3 s4 s6 hnext
  let Li:Nat->Bool:=λj=>decide (j<i)
  have rdS:∀t,t∈NP l.toArray o->zG (vM (qL L) 0 R st).tm t=zG (vM Li 0 R st).tm t:=λt ht=>dB R 0 st st rfl λj p hp hd=>by
   obtain⟨oj,ej,h1,h2,rfl⟩:=hR j p hp;rw[zYe];by_cases hji:j=i
   ·subst hji;simp only[Li];rw[hl];simp
   ·refine hord j oj ej h1 h2 hji (λ_=>?_) λ_=>?_
    ·unfold qM;simp only[show oj.dst=some t from hd,zY5.2 ht,zZ3]
    ·unfold qM;simp only[show oj.dst=some t from hd,zY5.2 ht,zZ3,zZu]
  have rdK:∀k,k∈e.r∨k∈e.nw∨k∈yD e.d->zC (vM (qL L) 0 R st).h k=zC (vM Li 0 R st).h k:=λk hk=>gG R 0 st st rfl λj p hp hd=>by
   obtain⟨oj,ej,h1,h2,rfl⟩:=hR j p hp;rw[zYe];by_cases hji:j=i
   ·subst hji;simp only[Li];rw[hl];simp
   ·have hwj:k∈ej.fp.w:=by simp only[UW.fp,zXs];exact .inl hd
    have hki:k∈e.fp.w∨k∈e.fp.r:=by
     simp only[UW.fp,zXs]
     rcases hk with h|h|h
     ·exact .inr h
     ·exact .inl (.inr h)
     ·exact .inl (.inl h)
    refine hord j oj ej h1 h2 hji (λ_=>?_) λ_=>?_
    ·have:ej.fp.w.any (λk=>e.fp.w.contains k||e.fp.r.contains k)=true:=zYv.2 ⟨k,hwj,by simp only[zZe,zY5];exact hki⟩;unfold qM;simp only[this,zZu,zZ3]
    ·rcases hki with h|h
     ·have:e.fp.w.any (λk=>ej.fp.w.contains k||ej.fp.r.contains k)=true:=zYv.2 ⟨k,h,by simp only[zZe,zY5];exact .inl hwj⟩;unfold qM;simp only[this,zZu,zZ3]
     ·have:ej.fp.w.any (λk=>e.fp.r.contains k)=true:=zYv.2 ⟨k,hwj,zY5.2 h⟩;unfold qM;simp only[this,zZu]
  have hL':∀j,qL (L.setIfInBounds i true) j=if j=i then true else qL L j:=λj=>dQ L i j (by rw[hs];exact hin)
  have lookN:∀t,zG (vM (qL (L.setIfInBounds i true)) 0 R st).tm t=if o.dst=some t then e.v else zG (vM (qL L) 0 R st).tm t:=λt=>by
   by_cases hd:o.dst=some t
   ·rw[zW9 hd]
    have h1:zG (vM (qL (L.setIfInBounds i true)) 0 R st).tm t=zG (vM (λj=>decide (j<i+1)) 0 R st).tm t:=dB R 0 st st rfl λj p hp hdj=>by
     obtain⟨oj,ej,h1,h2,rfl⟩:=hR j p hp;rw[zYe,hL'];by_cases hji:j=i
     ·subst hji;simp
     ·have hdj':oj.dst=some t:=hdj;rw[zW8 hji,hord j oj ej h1 h2 hji (λ_=>by unfold qM;simp[hdj',hd]) (λ_=>by unfold qM;simp[hdj',hd])];by_cases h:j<i
      ·simp[h];omega
      ·simp[h];omega
    rw[h1,show(vM (λj=>decide (j<i+1)) 0 R st)=_ from hnext,aY,zW9 hd]
   ·rw[zW8 hd]
    exact dB R 0 st st rfl λj p hp hdj=>by
     obtain⟨oj,ej,h1,h2,rfl⟩:=hR j p hp;rw[zYe,hL'];by_cases hji:j=i
     ·subst hji;rw[ho']at h1;cases h1;exact absurd hdj hd
     ·rw[zW8 hji]
  have lookEN:∀k,zC (vM (qL (L.setIfInBounds i true)) 0 R st).h k=over e.d (zC (vM (qL L) 0 R st).h) k:=λk=>by
   by_cases hd:k∈yD e.d
   ·have h1:zC (vM (qL (L.setIfInBounds i true)) 0 R st).h k=zC (vM (λj=>decide (j<i+1)) 0 R st).h k:=gG R 0 st st rfl λj p hp hdj=>by
     obtain⟨oj,ej,h1,h2,rfl⟩:=hR j p hp;rw[zYe,hL'];by_cases hji:j=i
     ·subst hji;simp
     ·have hwj:k∈ej.fp.w:=by simp only[UW.fp,zXs];exact .inl hdj
      have hwi:k∈e.fp.w:=by simp only[UW.fp,zXs];exact .inl hd
      have q1:ej.fp.w.any (λk=>e.fp.w.contains k||e.fp.r.contains k)=true:=zYv.2 ⟨k,hwj,by simp only[zZe,zY5];exact .inl hwi⟩;have q2:e.fp.w.any (λk=>ej.fp.w.contains k||ej.fp.r.contains k)=true:=zYv.2 ⟨k,hwi,by simp only[zZe,zY5];exact .inl hwj⟩;rw[zW8 hji,hord j oj ej h1 h2 hji (λ_=>by unfold qM;simp only[q1,zZu,zZ3]) (λ_=>by unfold qM;simp only[q2,zZu,zZ3])];by_cases h:j<i
      ·simp[h];omega
      ·simp[h];omega
    rw[h1,show(vM (λj=>decide (j<i+1)) 0 R st)=_ from hnext,cO];exact JF hd
   ·rw[PD hd]
    exact gG R 0 st st rfl λj p hp hdj=>by
     obtain⟨oj,ej,h1,h2,rfl⟩:=hR j p hp;rw[zYe,hL'];by_cases hji:j=i
     ·subst hji;rw[he]at h2;cases h2;exact absurd hdj hd
     ·rw[zW8 hji]
  have hfin:∀a' w',YF F m (λt=>if o.dst=some t then e.v else zG (vM (qL L) 0 R st).tm t) (over e.d (zC (vM (qL L) 0 R st).h)) a' w'->K a' w':=λa' w' h=>by
   refine hK a' w' (.inl ⟨hcls L i o ⟨hs,hdn⟩ ho hpre,λj hj=>?_,h.congr lookN lookEN⟩);rw[hL',zW8 zB];exact hge0 j hj
  have hexec:e.on=true->o.wpIn (MQ F.ro) 0 P a w K QQ:=λhon=>
   (s4 hon).rel hRel (λt ht=>rdS t (by unfold NP;simp[ht])) (λk hk=>rdK k (.inl hk)) (λk hk=>by rw[rdK k (.inr (.inl hk))];exact s3 k hk) s1 s2 hfin
  unfold wpOpIn;rw[ho];dsimp only
  cases hg:o.guard with
  |none=>
   rw[hg]at s6;rw[zW9 (by simp[Region.wanted,hg])];exact hexec s6
  | some jb=>
   obtain⟨j,b⟩:=jb;rw[hg]at s6;obtain⟨t,c,g1,g2,g3⟩:=s6;have htr:t∈NP l.toArray o:=by unfold NP gOf;simp[hg,g1]
   have hv:a.eval (.tmp t)=c:=by
    obtain⟨⟨_,β,_,_,Ht,_⟩,_⟩:=hRel;have:=Ht t;rw[rdS t htr,g2]at this;exact this.s_inv
   have hw:=fS hg g1 hv
   cases hon:e.on with
   |true=>
    rw[zW9 (by rw[hw,<-g3,hon])];exact hexec hon
   |false=>
    rw[zW8 (by rw[hw,<-g3,hon];simp)];obtain⟨v1,v2⟩:=s5 hon;refine⟨λ_ _=>trivial,hfin _ _ ?_⟩;rw[v1,v2];exact YF.bot hRel o.dst s2
 have main:∀(fuel:Nat) (L:Array Bool) (a:Act) (w:World),cnt (λi=>!qL L i) l.toArray.size<=fuel->J L a w->wpAnyIn (MQ F.ro) 0 P .any l.toArray QQ fuel L a w:=by
  intro fuel
  induction fuel with
  | zero=>
   intro L a w hf hJ
   have all:∀i,i<l.toArray.size->qL L i=true:=by
    intro i hi
    cases hl:qL L i with
    |true=>rfl
    |false=>
     exfalso;have h:=RK (p:=λj=>!qL L j&&j != i) (q:=λj=>!qL L j) l.toArray.size i hi zS (λj hj=>by simp[hj]);simp[hl]at h;simp at hf;omega
   refine⟨?_,hend L a w all hJ⟩
   cases hr:Region.ready .any l.toArray L with
   |nil=>rfl
   |cons i rest=>
    obtain⟨o,ho,hl,_⟩:=jF (hJ0 _ _ _ hJ).1 (i:=i) (by rw[hr];simp);rw[all i (zZd.1 ho).1]at hl;cases hl
  |succ fuel ih=>
   intro L a w hf hJ;refine⟨λhr=>hend L a w (λi hi=>MO hA (hJ0 _ _ _ hJ).1 hr (i+1) i zB hi) hJ,λi hi=>?_⟩;refine hstep L a w i hJ hi _ (λa' w' hJ'=>ih _ _ _ ?_ hJ');obtain⟨o,ho,hl,_⟩:=jF (hJ0 _ _ _ hJ).1 hi;have hin:i<l.toArray.size:=(zZd.1 ho).1;have h:=RK (p:=λj=>!qL (L.setIfInBounds i true) j) (q:=λj=>!qL L j) l.toArray.size i hin (by simp[dQ L i i (by rw[(hJ0 _ _ _ hJ).1];exact hin)]) (λj hj=>by simp[dQ L i j (by rw[(hJ0 _ _ _ hJ).1];exact hin),hj]);simp[hl]at h;simp at hf⊢;omega
 refine Code.wpIn_mono (λe a' w' ⟨he,s,h1,h2⟩=>⟨s,by rw[he];exact h1,h2⟩) (wpIn_region_any hm (main _ _ _ _ (zIw _ _) ?_))
 have hf:∀i,qL (Array.replicate l.toArray.size false) i=false:=by
  intro i;unfold qL;simp only[zX5,Array.getElem?_replicate]
  split<;>rfl
 refine .inl ⟨⟨by simp,λi o _ hl=>?_⟩,λi _=>hf i,?_⟩
 ·rw[hf]at hl;cases hl
 ·rw[aZ R 0 st λj _=>hf _];obtain⟨⟨X,β,hX,HH,Ht,KK,hJ,hD⟩,nd,gs,hl⟩:=H;have G:=xM.drew HH (w.drawn+1);exact⟨⟨X,β,hX,G.hok,λt=>(Ht t).evo G.evo,KK.goes G nd (G.lives HH nd),λi hi=>F.go G (hJ i hi),hD.goes HH G⟩,nd,gs,hl⟩
theorem zNt (n:Nat) {Q:Exit->St->Prop} {id:Nat} {l:List Oper} {st:St} (hm:P.follows .mixedOrders=true)
  (hk:zZ P F m l.toArray true (l.take n) st [] (λfs s=>US l n (PC l) fs.reverse=true/\zZ P F m l.toArray false (l.drop n) s [] (λ_ s=>Q .normal s))):uC P F m (.region id l.toArray true) st Q:=by
 obtain⟨es,st2,h1,h2,h3⟩:=hk.run;exact zDl n hm h1 MU h3.run
theorem zH8 {l:List Oper} {n:Nat} {ops:Array Oper} {st:St} {fs:List FP} {Q':St->Prop} (hc:US l n (PC l) fs.reverse=true) (hq:Q' st):zZ P F m ops true [] st fs (λfs s=>US l n (PC l) fs.reverse=true/\Q' s):=⟨⟨[],st,rfl,hc,hq⟩⟩
end
section
variable {P:Program} {TT:List TI} {st:St}
theorem FX (hP:uL P TT) {T e:Nat} {x l:Operand} {ti te:TI} {k:IntKind} (hx:yL (zG st.tm) x= .s (.slice none 0 0)) (hl:yL (zG st.tm) l= .s (.int k 0)) (hT:TT[T]? =some ti) (hd:ti.d= .slice e) (he:TT[e]? =some te):
  wR P st (.slice T x (some l) none none) (.s (.slice none 0 0)) [] [] []:=
 yQ λoo X tm h w β a ho hg hr HH Ht=>by
  obtain⟨dst,op',type,pos,after,guard⟩:=oo;dsimp only at ho;subst ho;have hc:=vI Ht hg (x:=x) uE hx;obtain⟨u,hu,hd'⟩:=xY (hP _ _ hT) w;obtain rfl:=vQ (hd'.trans hd);have hs:=uQ (hP _ _ he) w;have hb:=gM (P:=P) Ht hg (lo:=some l) (hi:=none) (len:=0) (cap:=0) (l:=0) (r:=0) (λy hy=>by cases hy;simp[Op.operands]) (λy hy=>by cases hy) ⟨k,0,hl,zB⟩ rfl (zXc _) (zXc _) true;rw[yAf]at hb;exact⟨_,by simp only[execOp,Instr.sliceAt,Instr.slice,Sem.run_bind,hu,Result.andThen_ok,hc,yAf,hb,hs,Sem.run_pure];rfl,.fz _ _ (.s _)⟩
end
section
variable {P:Program} {TT:List TI} {K0:List Nat} {F:Fr K0} {m:Nat} {ops:Array Oper} {rest:List Oper} {Q:List FP->St->Prop} {tm:List (Nat×AV)} {h:List (Nat×xN)} {dr:Bool} {fs:List FP}
variable {ty:Nat} {pos:String} {after:Array Edge} {t:Nat}
theorem AE (hP:uL P TT) {T e key off len sz:Nat} {d x:Operand} {ti te:TI} {xs yl ys zs:List AV} {xv:AV} (hdv:yL (zG tm) d= .ref key off len) (hk:zC h key=some (.arr sz xs false)) (hx:yL (zG tm) x=xv) (hT:TT[T]? =some ti) (hd:ti.d= .slice e) (he:TT[e]? =some te)
  (hyl:CF (zC h) xv=some yl) (hyt:yl.take len=ys) (hsz:∀y,ys[0]? =some y->y.cells.length=sz) (hp1:1<=ys.length) (hss:Nat.beq sz te.size=true) (hz:xs.take off++ys++xs.drop (off+ys.length)=zs) (hm:Nat.blt t m=true)
  (hr:zZ P F m ops dr rest ⟨(t,.s (.int .i64 ys.length))::tm,(key,.arr sz zs false)::h⟩ (⟨true,[key],key::PM xv⟩::fs) Q):zZ P F m ops dr (⟨some t,.call ⟨.builtin .copy, #[d,x], #[T,T]⟩,ty,pos,after,none⟩::rest) ⟨tm,h⟩ fs Q:=by
 subst hz;exact uG (nw:=[]) (zDy hP hdv hk hx hT hd he hyl hyt hsz hp1 hss) hm rfl rfl hr
theorem zSv (hP:uL P TT) {T e:Nat} {x:Operand} {ti:TI} {k len sz:Nat} {xs:List AV} (hx:yL (zG tm) x= .ref k 0 len) (hk:zC h k=some (.arr sz xs ⟨false,false⟩)) (hT:TT[T]? =some ti) (hd:ti.d= .slice e) (hl:1<=len) (hm:Nat.blt t m=true)
  (hr:∀c:Int,(xs.length:Int)<=c->zZ P F m ops false rest ⟨(t,.s (.int .i64 c))::tm,h⟩ fs Q):zZ P F m ops false (⟨some t,.call ⟨.builtin .cap, #[x], #[T]⟩,ty,pos,after,none⟩::rest) ⟨tm,h⟩ fs Q:=
 x_m (zAc hP hx hk hT hd hl) hm rfl (λv d ⟨c,_,_,e⟩=>by subst e;rfl) (λv d ⟨c,e1,e2,e3⟩=>by subst e1 e3;exact hr c e2)
theorem zBf (hP:uL P TT) {T e k len sz:Nat} {s x:Operand} {ti te:TI} {xs vs zs:List AV} {xv:AV} (hs:yL (zG tm) s= .ref k 0 len) (hk:zC h k=some (.arr sz xs ⟨false,false⟩)) (hx:yL (zG tm) x=xv) (hT:TT[T]? =some ti) (hd:ti.d= .slice e) (he:TT[e]? =some te) (hvs:CF (zC h) xv=some vs)
  (hss:Nat.beq sz te.size=true) (hsz:∀y,vs[0]? =some y->y.cells.length=sz) (hpos:1<=vs.length) (hl:1<=len) (hroom:len+vs.length<=xs.length) (hmax:xs.length<=1073741824) (hz:xs.take len++vs++xs.drop (len+vs.length)=zs) (hm:Nat.blt t m=true)
  (hr:zZ P F m ops dr rest ⟨(t,.ref k 0 (len+vs.length))::tm,(k,.arr sz zs ⟨false,false⟩)::h⟩ (⟨true,[k],k::PM xv⟩::fs) Q):zZ P F m ops dr (⟨some t,.call ⟨.builtin .append, #[s,x], #[T,T]⟩,ty,pos,after,none⟩::rest) ⟨tm,h⟩ fs Q:=by
 subst hz;exact uG (nw:=[]) (zD0 hP hs hk hx hT hd he hvs hss hsz hpos hl hroom hmax) hm rfl rfl hr
theorem zSw (hP:uL P TT) {T I e c n N:Nat} {s x:Operand} {ti te tn:TI} {k0:IntKind} {nx:Int} {ys zs:List AV} {z:AV} (hs:yL (zG tm) s= .slc c ys) (hx:yL (zG tm) x= .s (.int .i64 nx)) (hT:TT[T]? =some ti) (hd:ti.d= .slice e) (he:TT[e]? =some te) (hI:TT[I]? =some tn) (hdn:tn.d= .int k0)
  (hb:Nat.ble te.bytes 65536=true) (hp:Nat.ble 1 te.size=true) (hzl:Nat.beq te.zero.length te.size=true) (hz1:te.zero.all (·.oneCell')=true) (hzc:Nat.beq (vU te).cells.length te.size=true) (hzc2:(vU te).cells=te.zero.map .s) (hz:vU te=z)
  (hnx:nx=(n:Int)) (hpos:1<=n) (hmax:ys.length+n<=1073741824) (hc:c<ys.length+n) (hw0:∀(i:Nat) (y:AV),ys[i]? =some y->y.cells.length=te.size) (hA:ys++List.replicate n z=zs) (hN:zs.length=N) (hm:Nat.blt t m=true) (hnn:(zC h t).isNone=true)
  {sz:Nat} (hse:te.size=sz) (hk:zZ P F m ops dr rest ⟨(t,.ref t 0 N)::tm,(t,.arr sz zs false)::h⟩ (⟨true,[t,t],[]⟩::fs) Q):zZ P F m ops dr (⟨some t,.call ⟨.builtin .append, #[s,x], #[T,I]⟩,ty,pos,after,none⟩::rest) ⟨tm,h⟩ fs Q:=by
 subst hse hz hN hA;exact uG (nw:=[t]) (zJk hP t hs hx hT hd he hI hdn hb hp hzl hz1 hzc hzc2 hnx hpos hmax hc hw0) hm (zDn hnn) rfl hk
end
theorem zH9 (xs:List AV) (v:AV) (i:Nat) (hv:v.cells.length=5) (hx:∀y∈xs,y.cells.length=5) (h1:1<=xs.length) (hn:xs.length<=1000) (hi:i<=xs.length):
  zN 293 [.ref 1001 0 xs.length,iA i,.ref 98 0 1] [(1001,.arr 5 (xs++[fM 5]) false),(98,.arr 5 [v] false)] (.ref 1001 0 (xs.length+1)) [(1001,.arr 5 (xs.take i++v::xs.drop i) false),(98,.arr 5 [v] false)]:=by
 have hll:(xs++[fM 5]).length=xs.length+1:=by simp
 by_cases he:i=xs.length
 ·subst he
  have hz:(xs++[fM 5]).take xs.length++[v]++(xs++[fM 5]).drop (xs.length+[v].length)=xs.take xs.length++v::xs.drop xs.length:=by
   rw[zZw (zXc _),zXe,yBb,yAw zS];simp
  refine eM call293 λF hF=>?_
  (repeat' (first|refine qA ?_|refine xQ (λhc=>?_) (λhc=>?_)|refine wD (λhc=>?_)|(refine zE ?_;first|(refine qU ?_;refine gY tok rfl rfl rfl rfl rfl rfl rfl zB zB rfl ?_)|(refine yV ?_;refine zBf tok rfl rfl rfl rfl rfl rfl rfl rfl (λy hy=>by cases hy;exact hv) zS zB zS zB hz rfl ?_))|fail))
  exact zL [1001,98] rfl rfl rfl rfl
 ·have hlt:i<xs.length:=by omega
  have e1:(xs++[fM 5]).drop i=xs.drop i++[fM 5]:=yBm zB;have hdl:(xs.drop i).length=xs.length-i:=zYd
  have hc1:(((xs++[fM 5]).drop i).take (xs.length+1-i)).take (xs.length+1-(i+1))=xs.drop i:=by
   have e3:((xs++[fM 5]).drop i).take (xs.length+1-i)=xs.drop i++[fM 5]:=by rw[e1];exact zXk wQ
   rw[e3,zZw zB,zXk zB]
  have hz1:(xs++[fM 5]).take (i+1)++xs.drop i++(xs++[fM 5]).drop (i+1+(xs.drop i).length)=xs.take (i+1)++xs.drop i:=by
   have e3:(xs++[fM 5]).drop (i+1+(xs.drop i).length)=[]:=yAw (by rw[hll,hdl];omega);rw[e3,zX8,zZw zB]
  have hxd:∀y,(xs.drop i)[0]? =some y->y.cells.length=5:=λy hy=>hx y (zYl (zYt hy))
  have hc2:(([v].drop 0).take 1).take (xs.length+1-i)=[v]:=zXk wQ
  have hz2:(xs.take (i+1)++xs.drop i).take i++[v]++(xs.take (i+1)++xs.drop i).drop (i+[v].length)=xs.take i++v::xs.drop i:=by
   have e2:(xs.take (i+1)).length=i+1:=by rw[zXw];omega
   rw[zZw zB,List.take_take,yCj zB,show i+[v].length=(xs.take (i+1)).length by rw[e2];rfl,yC7,zXy];rfl
  refine eM call293 λF hF=>?_
  (repeat' (first|refine qA ?_|refine xQ (λhc=>?_) (λhc=>?_)|refine wD (λhc=>?_)|(refine zE ?_;refine wB ?_;(refine uI 307 ?_;refine xK (II tok rfl rfl rfl rfl rfl rfl zB zB rfl rfl rfl zB rfl rfl rfl rfl rfl) rfl ?_))|(refine zE ?_;first|(refine qU ?_;first|refine gY tok rfl rfl rfl rfl rfl rfl rfl zB zB rfl ?_|refine xK (zDx (N:=xs.length+1) tok rfl rfl rfl rfl rfl rfl zB zB zB zB) rfl ?_)|(refine AE tok rfl rfl rfl rfl rfl rfl rfl (by first|exact hc1|exact hc2) (by first|exact hxd|(intro y hy;cases hy;exact hv)) (by first|(rw[hdl];omega)|simp) rfl (by first|exact hz1|exact hz2) rfl ?_)|(refine zSv tok rfl rfl rfl rfl zB rfl ?_;intro cp hcp))|fail))
  exact zL [1001,98] rfl rfl rfl rfl
theorem zIa (xs:List AV) (v:AV) (i c:Nat) (hv:v.cells.length=5) (hx:∀y∈xs,y.cells.length=5) (h1:1<=xs.length) (hn:xs.length<=1000) (hi:i<=xs.length) (hc:c<xs.length+1):
  zN 293 [.slc c xs,iA i,.ref 98 0 1] [(98,.arr 5 [v] false)] (.sl false (xs.take i++v::xs.drop i)) [(98,.arr 5 [v] false)]:=by
 have hxi:∀(j:Nat) (y:AV),xs[j]? =some y->y.cells.length=5:=λj y hy=>hx y (zYt hy)
 by_cases he:i=xs.length
 ·subst he;refine eM call293 λF hF=>?_
  (repeat' (first|refine qA ?_|refine xQ (λhc=>?_) (λhc=>?_)|refine wD (λhc=>?_)|(refine zE ?_;first|(refine xK (DE tok rfl rfl rfl) rfl ?_)|(refine qU ?_;refine zAd 10 rfl h1 ?_;refine XR tok rfl rfl rfl rfl rfl (hxi 0) zB zB rfl rfl ?_)|(refine yV ?_;refine uG (nw:=[25]) (zDz tok 25 rfl rfl rfl rfl rfl rfl rfl rfl rfl rfl (λy hy=>by cases hy;exact hv) zS wQ wQ hxi) rfl rfl rfl ?_))|fail))
  refine zL [98] rfl rfl ?_ rfl
  show AV.sl false ((xs++[v]).take (xs++[v]).length)=_
  rw[zXe,zXe,yBb]
 ·have hlt:i<xs.length:=by omega
  have hdl:(xs.drop i).length=xs.length-i:=zYd;have htl:(xs.take i).length=i:=by rw[zXw];omega
  have hxt:∀(j:Nat) (y:AV),(xs.take i)[j]? =some y->y.cells.length=5:=λj y hy=>hx y (zY1 (zYt hy))
  have hxd:∀y,(xs.drop i)[0]? =some y->y.cells.length=5:=λy hy=>hx y (zYl (zYt hy))
  have hx0:∀y,xs[0]? =some y->y.cells.length=5:=hxi 0;have hnx:((xs.length:Int)+1-(i:Int))=((xs.length+1-i:Nat):Int):=by omega
  have hzs:∃zs,xs.take i++List.replicate (xs.length+1-i) (AV.agg [.s (.int .i64 0),.s (.int .i64 0),.s (.int .i64 0),.s (.int .i64 0),.s (.slice none 0 0)])=zs:=⟨_,rfl⟩;obtain⟨zs,hA⟩:=hzs;have hN:zs.length=xs.length+1:=by rw[<-hA,zXb,htl,zYz];omega
  have hzt:zs.take i=xs.take i:=by rw[<-hA,zZw zB,zXk zB]
  have hc1:(([v].drop 0).take 1).take (xs.length+1-i)=[v]:=zXk wQ;have hc2:(xs.drop i).take (xs.length+1-(i+1))=xs.drop i:=zXk zB;have hz1:zs.take i++[v]++zs.drop (i+[v].length)=xs.take i++[v]++zs.drop (i+1):=by rw[hzt];rfl
  have e2:(xs.take i++[v]).length=i+1:=by rw[zXb,htl];rfl
  have hz2:(xs.take i++[v]++zs.drop (i+1)).take (i+1)++xs.drop i++(xs.take i++[v]++zs.drop (i+1)).drop (i+1+(xs.drop i).length)=xs.take i++v::xs.drop i:=by
   have e3:(xs.take i++[v]++zs.drop (i+1)).drop (i+1+(xs.drop i).length)=[]:=yAw (by rw[zXb,e2,zYd,hN,hdl];omega);rw[e3,zX8,zZw zB,zXk zB,zXy];rfl
  refine eM call293 λF hF=>?_
  (repeat' (first|refine qA ?_|refine xQ (λhc=>?_) (λhc=>?_)|refine wD (λhc=>?_)|(refine zE ?_;first|(refine xK (DE tok rfl rfl rfl) rfl ?_)|(refine xK (zJi tok rfl rfl rfl) rfl ?_)|(refine qU ?_;first|(refine zAd 10 rfl h1 ?_;refine XR tok rfl rfl rfl rfl rfl (hxi 0) zB zB rfl rfl ?_)|refine xK (zJj tok rfl rfl rfl rfl rfl hi) rfl ?_|refine gY tok rfl rfl rfl rfl rfl rfl rfl zB zB rfl ?_|refine XR tok rfl rfl rfl rfl rfl (hxi 0) zB zB rfl rfl ?_)|(refine yV ?_;refine zSw tok (n:=xs.length+1-i) rfl rfl rfl rfl rfl rfl rfl rfl rfl rfl rfl rfl rfl rfl hnx zB (by rw[htl];omega) (by rw[htl];omega) hxt hA hN rfl rfl rfl ?_)|(first|(refine zAd 0 rfl h1 ?_;refine AE tok rfl rfl rfl rfl rfl rfl rfl hc1 (λy hy=>by cases hy;exact hv) zS rfl hz1 rfl ?_)|refine AE tok rfl rfl rfl rfl rfl rfl rfl hc2 hxd (by rw[hdl];omega) rfl hz2 rfl ?_))|fail))
  refine zL [98] rfl rfl ?_ rfl
  show AV.sl false ((xs.take i++v::xs.drop i).take (xs.length+1))=_
  rw[zXk (by rw[zXb,htl,zXl,hdl];omega)]
theorem zNu (v:AV) (hv:v.cells.length=5):
  zN 293 [.s (.slice none 0 0),iA 0,.ref 98 0 1] [(98,.arr 5 [v] false)] (.sl false [v]) [(98,.arr 5 [v] false)]:=by
 refine eM call293 λF hF=>?_
 (repeat' (first|refine qA ?_|refine xQ (λhc=>?_) (λhc=>?_)|refine wD (λhc=>?_)|(refine zE ?_;first|(refine qU ?_;refine xK (FX tok rfl rfl rfl rfl rfl) rfl ?_)|(refine yV ?_;refine MX tok rfl rfl rfl rfl rfl rfl (λy hy=>by cases hy;exact hv) rfl rfl rfl zS rfl ?_))|fail))
 exact zL [98] rfl rfl rfl rfl
theorem vE (x:Rq):zN 218 [yK x] [] (bA true) []:=by
 refine eM call218 λF hF=>?_
 refine WW ?_;exact zK
theorem zIb (l:List Rq) (hn:l.length<=1000) (hb:∀r∈l,r.legs.length<=1000):
  zN 190 [zD yK l,.fn 218 []] [] (.ref 1001 0 (l.map yK).length) [(1001,.arr 5 (l.map yK) false)]:=by
 have hl:=zA yK l;refine eM call190 λF hF=>?_
 refine WW ?_;refine xG 5 1001 5 rfl rfl rfl ?_;refine yB (l) [1001] [] [1,8,9] [5,10,1,8,9] rfl (λi pre T U=>⟨(5,.ref 1001 0 (pre.map yK).length)::(10,iA i)::T,(1001,.arr 5 (pre.map yK) true)::U⟩) ?_;(conv=>whnf);refine⟨by rfl,?_,?_⟩
 ·intro i pre x post hx hi;have hy:=yP yK hx hi;have hlt:=yF hx hi;have hlm:=zA yK pre;have c1:=vE x;have c2:=WU x (hb x (xV hx));have e:(pre++[x]).map yK=pre.map yK++[yK x]:=by simp
  rw[e];clear hx e;generalize pre.map yK=R at *;refine yO (wW c1 c2) ?_;rfl
 ·(repeat' (first|refine WZN ?_|refine xQ (λhc=>?_) (λhc=>?_)|refine wD (λhc=>?_)|fail))
  refine jE [1001] [4] rfl rfl ?_;refine DC 1001 [4] rfl rfl rfl rfl rfl (yU ?_);exact zL [1001] rfl rfl rfl rfl
theorem zIc:zN 190 [zD yK [],.fn 218 []] [] (.s (.slice none 0 0)) []:=by
 refine eM call190 λF hF=>?_
 refine WW ?_;refine yB (([]:List Rq)) [] [] [1,8,9] [5,10,1,8,9] rfl (λi pre T U=>⟨(5,.s (.slice none 0 0))::(10,iA i)::T,U⟩) ?_;(conv=>whnf);refine⟨by rfl,?_,?_⟩
 ·intro i pre x post hx hi
  cases pre<;>cases hx
 ·(refine WW ?_)
  exact zL [] rfl rfl rfl rfl
theorem KW (l:List Rq) (hn:l.length<=1000) (hb:∀r∈l,r.legs.length<=1000):
  zN 193 [zD yK l] [] (.ref 1001 0 (l.map yK).length) [(1001,.arr 5 (l.map yK) false)]:=by
 have c:=zIb l hn hb;refine eM call193 λF hF=>?_
 refine zU c ?_;exact zL [1001] rfl rfl rfl rfl
theorem WX:zN 193 [zD yK []] [] (.s (.slice none 0 0)) []:=by
 have c:=zIc;refine eM call193 λF hF=>?_
 refine zU c ?_;exact zL [] rfl rfl rfl rfl
end Av
end Go.Proofs.YtmamjhmoegjapaaGreat
