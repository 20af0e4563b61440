/- Part 5. -/
import Derived.Test.YtaglbcjljlkjcaaGreatV04
namespace Go.Proofs.YtaglbcjljlkjcaaGreat.Av
open Tryz
set_option linter.all false
set_option maxRecDepth 4000
set_option maxHeartbeats 4000000
open List renaming length->ln,getD->pg
open Inhabited renaming default->dd
variable {ga:Int}{w:List (Int×Int)}{gs:List Lg}{l post gd:List Rq}{i k:Nat}{x:Rq}{st:St}{α:Type}
def MN (r:Int):Bool:=decide (0<=r/\r<=63)
def RC (r:Int):zO 371 [iA r] [] (bA (MN r)) []:=by
 unfold MN
 by_cases h1:0<=r<;>by_cases h2:r<=63<;>simp only[h1,h2,zFo,zE3,zEx,zEt]<;>first|(exfalso;omega;done)|((refine eM call371 λF hF=>?_);exact mx)
def YU (r:Int):zO 326 [iA r] [] (bA (MN r)) []:=by
 unfold MN
 by_cases h1:0<=r<;>by_cases h2:r<=63<;>simp only[h1,h2,zFo,zE3,zEx,zEt]<;>first|(exfalso;omega;done)|((refine eM call326 λF hF=>?_);exact mx)
def Pm:∀a b:_root_.Fin 64,(U0 a.val b.val==0)=(uX a.val b.val==(a.val:Int)):=by decide +kernel
def Pb (a b:Int):Bool:=MN a&&MN b&&(uX a b==a)
theorem Gt (a b:Int):(MN a&&MN b&&(U0 a b==0))=Pb a b:=by
 unfold Pb
 cases u:MN a<;>cases hb:MN b<;>simp only[zAj,zA7,zB3,zCv]
 simp only[MN,zAg]at u hb;have:=Pm ⟨a.toNat,zB⟩ ⟨b.toNat,zB⟩
 grind
def BE (a b:Int):zO 391 [iA a,iA b] [] (bA (Pb a b)) []:=by
 have u:=RC a;have y:=RC b;rw[<-Gt]
 cases h1:MN a<;>cases h2:MN b<;>rw[h1]at u<;>rw[h2]at y<;>simp only[zAj,zA7,zB3]<;>((refine eM call391 λF hF=>?_);exact ng (xH u y))
def JU (a b:Int):zO 366 [iA a,iA b] [] (bA (Pb a b)) []:=by
 have u:=YU a;have y:=YU b;unfold Pb
 cases h1:MN a<;>cases h2:MN b<;>rw[h1]at u<;>rw[h2]at y<;>simp only[zAj,zA7,zB3]<;>((refine eM call366 λF hF=>?_);exact ng (xH u y))
def LY (k:Int):Int:=if k=6\/k=7\/k=8 then 1 else if k=4\/k=5 then 2 else if k=2 then 4 else if k=3 then 8 else if k=10 then 16 else if k=11 then 32 else 0
theorem Wg (k:Int):(k=6/\LY k=1)\/(k=7/\LY k=1)\/(k=8/\LY k=1)\/(k=4/\LY k=2)\/(k=5/\LY k=2)\/(k=2/\LY k=4)\/(k=3/\LY k=8)\/(k=10/\LY k=16)\/(k=11/\LY k=32)\/
  (k≠6/\k≠7/\k≠8/\k≠4/\k≠5/\k≠2/\k≠3/\k≠10/\k≠11/\LY k=0):=by
 by_cases z:k=6
 .grind [LY]
 by_cases A:k=7
 .grind [LY]
 by_cases B:k=8
 .grind [LY]
 by_cases u:k=4
 .grind [LY]
 by_cases y:k=5
 .grind [LY]
 by_cases h2:k=2
 all_goals grind [LY]
def Vg (k:Int):zO 327 [iA k] [] (iA (LY k)) []:=by
 rcases Wg k with⟨h,e⟩|⟨h,e⟩|⟨h,e⟩|⟨h,e⟩|⟨h,e⟩|⟨h,e⟩|⟨h,e⟩|⟨h,e⟩|⟨h,e⟩|⟨h1,h2,u,y,z,A,B,C,E,e⟩<;>rw[e]<;>((refine eM call327 λF hF=>?_);exact mx)
def Ft (r k:Int):Bool:=MN r&&(uX r (LY k)==LY k)
def Ob (r k:Int):zO 288 [iA r,iA k] [] (bA (Ft r k)) []:=by
 have u:=YU r;have y:=Vg k;unfold Ft;generalize LY k=n at*
 cases h1:MN r<;>rw[h1]at u<;>simp only[zAj,zA7]<;>((refine eM call288 λF hF=>?_);exact ng (xH u y))
def Kz (r b:Int):zO 207 [iA r,iA b] [] (oq ⟨b,r,b⟩) []:=by
 refine eM call207 λF hF=>?_
 exact mx
def Et (r b:Int):zO 213 [iA r,iA b] [] (oq ⟨b,r,b⟩) []:=by
 refine eM call213 λF hF=>?_
 exact mx
def Om (b:Bk):Bool:=decide (0<=b.burst/\b.burst<=1000/\0<=b.rate/\b.rate<=b.burst/\0<=b.level/\b.level<=b.burst)
def Nm (b:Bk):zO 374 [oq b] [] (bA (Om b)) []:=by
 (cases hb:Om b with|false=>((refine eM call374 λF hF=>?_);((refine WW (I6 (λhc hc hc hc hc=>?_) (λhc hc hc hc hc=>?_) (λhc hc hc hc=>?_) (λhc hc hc=>?_) (λhc hc=>?_) λhc=>?_)));all_goals (first|exact zI|(simp only[Om,zAz]at hb;first|exact JY|exact LN)))|true=>(simp only[Om,zAg]at hb;(refine eM call374 λF hF=>?_);((refine WW ?_));all_goals (first|exact zI|exact JY|exact LN)))
def Ug (b:Bk):zO 365 [oq b] [] (bA (Om b)) []:=by
 (cases hb:Om b with|false=>((refine eM call365 λF hF=>?_);((refine WW (I6 (λhc hc hc hc hc=>?_) (λhc hc hc hc hc=>?_) (λhc hc hc hc=>?_) (λhc hc hc=>?_) (λhc hc=>?_) λhc=>?_)));all_goals (first|exact zI|(simp only[Om,zAz]at hb;first|exact JY|exact LN)))|true=>(simp only[Om,zAg]at hb;(refine eM call365 λF hF=>?_);((refine WW ?_));all_goals (first|exact zI|exact JY|exact LN)))
def Z6 (b:Bk):Bk:=⟨min (b.level+b.rate) b.burst,b.rate,b.burst⟩
def Bt (b:Bk) (h: -1000000000<=b.level+b.rate/\b.level+b.rate<=1000000000):zO 221 [oq b] [] (oq (Z6 b)) []:=by
 refine eM call221 λF hF=>?_
 exact mx
def Mm (b:Bk) (h: -1000000000<=b.level+b.rate/\b.level+b.rate<=1000000000):zO 190 [oq b] [] (oq (Z6 b)) []:=by
 refine eM call190 λF hF=>?_
 exact mx
def LZ (b:Bk):Bk:=if b.level<=0 then b else⟨b.level-1,b.rate,b.burst⟩
def Lm (b:Bk) (h:b.level<=9223372036854775807):zO 241 [oq b] [] (.tup [oq (LZ b),bA (decide (0<b.level))]) []:=by
 unfold LZ;by_cases h1:b.level<=0
 .rw[Os h1,zAb zB];refine eM call241 λF hF=>?_
  exact mx
 .rw[hW h1,zAc zB];refine eM call241 λF hF=>?_
  exact mx
def jQ (l:List Tk) (s:Int):Bool:=decide (0<=s/\s<ln l)&&(l.getD s.toNat dd).used
def Km (l:List Tk) (s:Int):zO 303 [zE yK l,iA s] [] (bA (jQ l s)) []:=by
 have hl:=zA yK l;unfold jQ;by_cases h1:0<=s
 .by_cases h2:s<ln l
  .have u:=yC yK l s h1 h2;rw[zAc ⟨h1,h2⟩,zAj];refine eM call303 λF hF=>?_
   exact mx
  .rw[zAb zB,zA7];refine eM call303 λF hF=>?_
   exact mx
 .rw[zAb zB,zA7];refine eM call303 λF hF=>?_
  exact mx
def dq (a b:Int):Bool:=decide (b≠0/\(a=0\/b<a))
def ae (a b:Int):zO 392 [iA a,iA b] [] (bA (dq a b)) []:=by
 unfold dq
 by_cases h1:b=0<;>by_cases h2:a=0<;>by_cases u:b<a<;>simp only[zD0,h1,h2,u,zEh,zEg,zFo,zE3,true_and,false_and,or_true,true_or,or_false,zEx,zEt]<;>first|(exfalso;omega;done)|((refine eM call392 λF hF=>?_);exact mx)
def BF (a b:Int):zO 367 [iA a,iA b] [] (bA (dq a b)) []:=by
 unfold dq
 by_cases h1:b=0<;>by_cases h2:a=0<;>by_cases u:b<a<;>simp only[zD0,h1,h2,u,zEh,zEg,zFo,zE3,true_and,false_and,or_true,true_or,or_false,zEx,zEt]<;>first|(exfalso;omega;done)|((refine eM call367 λF hF=>?_);exact mx)
def Nb (t:Tk) (ga:Int):Bool:=decide (t.til≠0/\t.til<ga)
def Tg (t:Tk) (ga:Int):zO 264 [yK t,iA ga] [] (bA (Nb t ga)) []:=by
 unfold Nb
 by_cases h1:t.til=0<;>by_cases h2:t.til<ga<;>simp only[zD0,h1,h2,zEh,zEg,zFo,zE3,zEx,zEt]<;>first|(exfalso;omega;done)|((refine eM call264 λF hF=>?_);exact mx)
def xa:Tk:=⟨false,[],-1,0,0,0⟩
def Mb:zO 258 [] [] (yK xa) []:=by
 refine eM call258 λF hF=>?_
 exact mx
def eU (f:α->AV) (l:List α):AV.sl false ((l.map f).take (l.map f).length)=zE f l:=by rw[zAa];rfl
def dI (_:Nat) (l:List α):List α:=l
def TA (l:List Int) (hl:ln l<=1073741824):zO 111 [zE iA l] [] (zE iA l) []:=by
 have u:=zA iA l;refine eM call111 λF hF=>?_
 refine xW 0 Z (λcap hx=>?_) ?_
 .have:l=[]:=by simpa using hx
  subst this;exact mx
 ·(refine WW ?_)
  refine zH [] Z Z (eU _ _) Z
def jU (l:List Int) (hl:ln l<=1073741824):zO 88 [zE yA l] [] (zE yA l) []:=by
 have u:=zA yA l;refine eM call88 λF hF=>?_
 refine xW 0 Z (λcap hx=>?_) ?_
 .have:l=[]:=by simpa using hx
  subst this;exact mx
 ·(refine WW ?_)
  refine zH [] Z Z (eU _ _) Z
def BG (l:List Vh) (hl:ln l<=1073741824):zO 218 [zE vB l] [] (zE vB l) []:=by
 have u:=zA vB l;refine eM call218 λF hF=>?_
 refine xW 0 Z (λcap hx=>?_) ?_
 .have:l=[]:=by simpa using hx
  subst this;exact mx
 ·(refine WW ?_)
  refine zH [] Z Z (eU _ _) Z
def VE (l:List Tk) (hl:ln l<=1073741824):zO 217 [zE yK l] [] (.ref 1001 0 (l.map yK).length) [(1001,.arr 6 (l.map yK) false)]:=by
 have u:=zA yK l;refine eM call217 λF hF=>?_
 refine xW 0 Z (λcap hx=>?_) ?_
 .have:l=[]:=by simpa using hx
  subst this
  (repeat' (first|refine Ze ?_|apply yY|apply xN|intro hc|fail))
  refine uN 2 1001 6 Z Z Z (xP ?_);exact zV [1001] Z Z Z Z
 .repeat' (first|(apply zG;first|refine vT tok Z Z ?_|(apply vE;refine wO (xQ tok (.inl ⟨rfl,rfl⟩) Z Z Z Z) Z ?_)|(apply yL;refine qH (nw:=[1001]) (xD tok 1001 (xs:=[]) Z Z Z Z Z Z Z Z Z) Z Z Z ?_)|(apply yI;refine wU tok Z Z Z Z Z Z Z (yG _ _ (λ_=>rfl)) Z Z Z zB Z ?_)|apply qV)|(first|apply wF|apply wB|refine uW Z ?_|refine yT Z ?_|refine yH Z ?_|refine wL Z (λhc=>?_) λhc=>?_|apply xO|apply xP|apply wA|apply xE))
  exact zV [1001] Z Z Z Z
structure JW (l:List Tk):Prop where
 n:l.length<=1000000
 s:∀t∈l,t.sec.length<=1000000
theorem fW [Inhabited α] (f:α->AV) (l:List α) (i:Nat) (hi:i<ln l):(dI i (l.map f)).set i (f (l.getD i dd))=dI (i+1) (l.map f):=by
 unfold dI;have:=zJ f l i hi
 grind [dI,List.getElem?_eq_some_iff,List.set_getElem_self]
def VF (l:List Tk) (hb:JW l):zO 262 [zE yK l] [] (.ref 1001 0 (l.map yK).length) [(1001,.arr 6 (l.map yK) false)]:=by
 have c:=VE l (by have:=hb.n;omega);have z:=hb.n;have y:=zA yK l;refine eM call262 λF hF=>?_
 refine zP c ?_;refine zM ((l.map yK).length) [1001] [] [3,8] [9,3,8] Z (λi T U=>⟨(9,iA i)::T,(1001,.arr 6 (dI i (l.map yK)) false)::U⟩) (Lq ?_ ?_)
 .intro i hi;have hi':i<ln l:=by omega
  have A:(dI i (l.map yK))[i]? =some (yK (l.getD i dd)):=zJ yK l i hi';have e:=fW yK l i hi';have u:=jU (l.getD i dd).sec (by have:=hb.s (l.getD i dd) QT;omega);generalize (l.getD i dd)=t,dI i (l.map yK)=xs,dI (i+1) (l.map yK)=ys at *;subst e;refine zP u ?_;rfl
 ·(refine WW ?_)
  exact zV [1001] Z Z Z Z
def BH (a:Ag) (h1:ln a.sec<=1000000) (h2:ln a.lim<=1000000):zO 205 [wP a] [] (wP a) []:=by
 have u:=jU a.sec zB;have y:=TA a.lim zB;refine eM call205 λF hF=>?_
 exact ng (xH u y)
structure GT (r:Rg):Prop where
 tk:JW r.tk
 s:r.ag.sec.length<=1000000
 l:r.ag.lim.length<=1000000
 v:r.vh.length<=1000000
def rgX (r:Rg) (xs:List AV):AV:= .agg [iA r.num,zE yA r.ag.sec,iA r.ag.rights,iA r.ag.cls,zE iA r.ag.lim,iA r.ag.req,iA r.ag.ses,iA r.ag.rate,iA r.ag.burst,.sl false xs,zE vB r.vh,iA r.bk.level,iA r.bk.rate,iA r.bk.burst]
def bN (r:Rg) (hb:GT r):zO 219 [kD r] [] (kD r) []:=by
 have y:=BH r.ag hb.s hb.l;have B:=hb.tk.n;have hv:=hb.v;have u:=VE r.tk zB;have z:=BG r.vh zB;have A:=zA yK r.tk;refine eM call219 λF hF=>?_
 refine yB (xH y u) ?_;refine zM ((r.tk.map yK).length) [1001,1,2] [1,2] [1,2,14] [15,1,2,14] Z (λi T U=>⟨(15,iA i)::T,(1001,.arr 6 (dI i (r.tk.map yK)) false)::U⟩) (Lq ?_ ?_)
 .intro i hi;have hi':i<ln r.tk:=by omega
  have C:(dI i (r.tk.map yK))[i]? =some (yK (r.tk.getD i dd)):=zJ yK r.tk i hi';have e:=fW yK r.tk i hi';have u:=jU (r.tk.getD i dd).sec (by have:=hb.tk.s (r.tk.getD i dd) QT;omega);generalize (r.tk.getD i dd)=t,dI i (r.tk.map yK)=xs,dI (i+1) (r.tk.map yK)=ys at *;subst e;refine zP u ?_;rfl
 ·(refine zP z ?_)
  exact zH [] Z Z (zAt (rgX r) zAa) Z
theorem VI.lg3 (h:VI l) {r:Rq} (u:r∈l):1<=ln r.legs/\r.legs.length<=3:=by
 have:=TE (h.ok r u).lg;omega
theorem VI.filter (h:VI l) (p:Rq->Bool):VI (l.filter p):=
 ⟨λr u=>h.ok r (zDs.1 u).1,h.so.filter p,zBf (zBz _ _) h.n4⟩
def RD (l:List Lg) (hl:ln l<=1000):zO 169 [zE xK l] [] (zE xK l) []:=by
 have u:=zA xK l;refine eM call169 λF hF=>?_
 refine xW 0 Z (λcap hx=>?_) ?_
 .have:l=[]:=by simpa using hx
  subst this;exact mx
 ·(refine WW ?_)
  refine zH [] Z Z (eU _ _) Z
def Jm (r:Rq) (hl:ln r.legs<=1000):zO 265 [yS r] [] (yS r) []:=by
 have c:=RD r.legs hl;have u:=zA xK r.legs;refine eM call265 λF hF=>?_
 exact nl c
theorem cQ (p:Rq->Bool) (gd:List Rq) (x:Rq):((gd++[x]).filter p).map yS=(gd.filter p).map yS++(if p x=true then [x]else []).map yS:=by grind
def Jz (fn:Nat) (v:Int) (p:Rq->Bool) (l:List Rq) (C:ln l<=1000) (hb:∀r∈l,ln r.legs<=1000) (c:∀x,zO fn [yS x,.ptr 3 0 0] [(3,.box [iA v])] (bA (p x)) [(3,.box [iA v])]):
  zO 222 [zE yS l,.fn fn [.ptr 3 0 0]] [(3,.box [iA v])] (zE yS (l.filter p)) [(3,.box [iA v])]:=by
 have hl:=zA yS l;refine eM call222 λF hF=>?_
 refine WW ?_;refine zW 5 1001 5 Z Z Z ?_;refine zU (l) [1001,3] [3] [1,8,9] [5,10,1,8,9] Z (λi gd T U=>⟨(5,.ref 1001 0 ((gd.filter p).map yS).length)::(10,iA i)::T,(1001,.arr 5 ((gd.filter p).map yS) true)::U⟩) (Lq ?_ ?_)
 .intro i gd x post hx hi;have E:=zY yS hx hi;have B:=zX hx hi;have z:(gd.filter p).length<=i:=by rw[<-hi];exact zBz _ _
  have A:=zA yS (gd.filter p);have u:=c x;have y:=Jm x (hb x (yQ hx));have e:=cQ p gd x;rw[e];clear hx e;generalize (gd.filter p).map yS=R at*
  cases h:p x with
  |false=>
   rw[h]at u;rw[hW zAs];refine zP u ?_;rw[zBs,zA6];rfl
  |true=>
   rw[h]at u;rw[Os Z];refine yB (xH u y) ?_;rfl
 ·(refine WW ?_)
  exact zV [3] Z Z (eU _ _) Z
def OF (p:α->Bool) (l:List α):Int:=if l.any p=true then(l.findIdx p:Int)else -1
theorem GU {p:α->Bool} {l gd post:List α} {x:α} (h:l=gd++x::post) (u:∀y∈gd,p y=false) (hx:p x=true):OF p l=(ln gd:Int):=by grind [OF]
theorem BI {p:α->Bool} {l:List α} (u:∀y∈l,p y=false):OF p l= -1:=by grind [OF]
theorem Iz {p:α->Bool} {l:List α} (h:l.any p=true):0<=OF p l/\OF p l<ln l:=by grind [OF]
def Hz (ga:Int) (x:Rq):zO 223 [yS x,.ptr 3 0 0] [(3,.box [iA ga])] (bA (decide (ga<=x.til))) [(3,.box [iA ga])]:=by
 cases hb:decide (ga<=x.til)with
 |false=>
  rw[zAz]at hb;refine eM call223 λF hF=>?_
  refine WW ?_;exact zV [3] Z Z Z Z
 |true=>
  rw[zAg]at hb;refine eM call223 λF hF=>?_
  refine WW ?_;exact zV [3] Z Z Z Z
def KA (l:List Rq) (ga:Int):List Rq:=l.filter λx=>decide (ga<=x.til)
def KB (l:List Rq) (v:Int):List Rq:=l.filter λx=>x.vh != v
def KD (l:List Rq) (id:Int):List Rq:=l.filter λx=>x.id != id
def fX (l:List Rq) (id:Int):Bool:=l.any λx=>x.id==id
def Im (l:List Rq) (ga:Int) (hv:VI l):zO 175 [zE yS l,iA ga] [] (zE yS (KA l ga)) []:=by
 have y:=hv.n4;have c:=Jz 223 ga _ l zB (λr u=>by have:=hv.lg3 u;omega) (Hz ga);unfold KA;generalize l.filter _=z at *;refine eM call175 λF hF=>?_
 exact nl c
def fD (l:List Rq) (A:ln l<=1000) (hb:∀r∈l,ln r.legs<=1000):zO 187 [zE yS l] [] (zE yS l) []:=by
 have hl:=zA yS l;refine eM call187 λF hF=>?_
 refine WW ?_;refine zW 3 1001 5 Z Z Z ?_;refine zU (l) [1001] [] [6,7] [3,8,6,7] Z (λi gd T U=>⟨(3,.ref 1001 0 (gd.map yS).length)::(8,iA i)::T,(1001,.arr 5 (gd.map yS) true)::U⟩) (Lq ?_ ?_)
 .intro i gd x post hx hi;have C:=zY yS hx hi;have u:=zX hx hi;have y:(gd.map yS).length=i:=by rw[f7,hi]
  have B:=hb x (yQ hx);have z:=zA xK x.legs;have e:(gd++[x]).map yS=gd.map yS++[yS x]:=by simp
  clear hx;rw[e];generalize gd.map yS=xs,l.map yS=E at *;refine WL ?_;rfl
 ·(refine WL ?_)
  exact zH [] Z Z (eU _ _) Z
def Gz (p:Rq->Bool) (u:l=gd++x::post) (hi:ln gd=i):(gd.filter p).length<=i:=by rw[<-hi];exact zBz _ _
def Qg (l:List Rq) (ga:Int) (hv:VI l):zO 130 [zE yS l,iA ga] [] (zE yS (KA l ga)) []:=by
 have B:=hv.n4;have hl:=zA yS l;have c:=fD (KA l ga) (by have:=(hv.filter λx=>decide (ga<=x.til)).n4;unfold KA;omega) (λr A=>by have:=(hv.filter _).lg3 A;omega);unfold KA at *;refine eM call130 λF hF=>?_
 refine WW ?_;refine zW 5 1001 5 Z Z Z ?_;refine zU (l) [1001] [] [1,8,9] [5,10,1,8,9] Z (λi gd T U=>⟨(5,.ref 1001 0 ((gd.filter λx=>decide (ga<=x.til)).map yS).length)::(10,iA i)::T,(1001,.arr 5 ((gd.filter λx=>decide (ga<=x.til)).map yS) true)::U⟩) (Lq ?_ ?_)
 .intro i gd x post hx hi;have C:=zY yS hx hi;have z:=zX hx hi;have u:=Gz (λx=>decide (ga<=x.til)) hx hi;have y:=zA yS (gd.filter λx=>decide (ga<=x.til));have e:=cQ (λx=>decide (ga<=x.til)) gd x;rw[e];clear hx e;generalize (gd.filter λx=>decide (ga<=x.til)).map yS=R at *;by_cases h:ga<=x.til
  .rw[Os NJ];refine WW ?_;rfl
  .rw[hW NJ];refine WW ?_;rw[zBs,zA6];rfl
 ·(have gt:=c;have ly:=(⟨⟩:Kw 187 [] [23]);refine WW ?_;clear gt ly)
  exact zI
def MO (l:List Rq) (v:Int) (hv:VI l):zO 290 [zE yS l,iA v] [] (zE yS (KB l v)) []:=by
 have B:=hv.n4;have hl:=zA yS l;have c:=fD (KB l v) (by have:=(hv.filter λx=>x.vh != v).n4;unfold KB;omega) (λr A=>by have:=(hv.filter _).lg3 A;omega);unfold KB at *;refine eM call290 λF hF=>?_
 refine WW ?_;refine zW 5 1001 5 Z Z Z ?_;refine zU (l) [1001] [] [1,8,9] [5,10,1,8,9] Z (λi gd T U=>⟨(5,.ref 1001 0 ((gd.filter λx=>x.vh != v).map yS).length)::(10,iA i)::T,(1001,.arr 5 ((gd.filter λx=>x.vh != v).map yS) true)::U⟩) (Lq ?_ ?_)
 .intro i gd x post hx hi;have C:=zY yS hx hi;have z:=zX hx hi;have u:=Gz (λx=>x.vh != v) hx hi;have y:=zA yS (gd.filter λx=>x.vh != v);have e:=cQ (λx=>x.vh != v) gd x;rw[e];clear hx e;generalize (gd.filter λx=>x.vh != v).map yS=R at *;by_cases h:x.vh≠v
  .rw[Os NJ];refine WW ?_;rfl
  .rw[hW NJ];refine WW ?_;rw[zBs,zA6];rfl
 ·(have gt:=c;have ly:=(⟨⟩:Kw 187 [] [23]);refine WW ?_;clear gt ly)
  exact zI
theorem Hm {id:Int} (h:fX l id=false):KD l id=l:=by grind [fX,KD,List.filter_eq_self,List.any_eq_true]
theorem Gm {id:Int} (h:fX l id=true):(KD l id).length<ln l:=by simp_all [fX,KD]
def Pg (l:List Rq) (id:Int) (hv:VI l):zO 245 [zE yS l,iA id] [] (.tup [zE yS (if fX l id=true then KD l id else []),iA (if fX l id=true then 0 else 12)]) []:=by
 have L:=hv.n4;have hl:=zA yS l;have z:=YX l 4 hv zB;have A:=fD (KD l id) (by have:=(hv.filter λx=>x.id != id).n4;unfold KD;omega) (λr I=>by have:=(hv.filter _).lg3 I;omega);have u:fX l id=false->(KD l id).length=ln l:=λh=>by rw[Hm h]
 have y:=λh=>Gm (l:=l) (id:=id) h
 have C:=zA yS (KD l id);generalize fX l id=b at *;unfold KD at *;refine eM call245 λF hF=>?_
 refine zP z ?_;refine zW 6 1001 5 Z Z Z ?_;refine zU (l) [1001] [] [0,1,12,13] [6,14,0,1,12,13] Z (λi gd T U=>⟨(6,.ref 1001 0 ((gd.filter λx=>x.id != id).map yS).length)::(14,iA i)::T,(1001,.arr 5 ((gd.filter λx=>x.id != id).map yS) true)::U⟩) (Lq ?_ ?_)
 .intro i gd x post hx hi;have M:=zY yS hx hi;have G:=zX hx hi;have B:=Gz (λx=>x.id != id) hx hi;have E:=zA yS (gd.filter λx=>x.id != id);have e:=cQ (λx=>x.id != id) gd x;rw[e];clear hx e;generalize (gd.filter λx=>x.id != id).map yS=R at *;by_cases h:x.id≠id
  .rw[Os (show(x.id != id)=true by simpa using h)];refine WW ?_;rfl
  .rw[hW (show¬(x.id != id)=true by simpa using h)];refine WW ?_;rw[zBs,zA6];rfl
 .cases b with
  |false=>
   have u:=u Z;rw[hW zAs,hW zAs];exact mx
  |true=>
   have y:=y Z;rw[Os Z,Os Z]
   (have gt:=A;have ly:=(⟨⟩:Kw 187 [] [32]);refine WW ?_;clear gt ly)
   exact zI
section
variable {P:Program} {K0:List Nat} {F:Fr K0} {m:Nat}
def zu (n:Nat) {Q:Exit->St->Prop} {id:Nat} {l:List Oper} (y:P.follows .mixedOrders=true)
 (hk:yP P F m l.toArray true (l.take n) st [] (λfs s=>WB l n (NF l) fs.reverse=true/\yP P F m l.toArray false (l.drop n) s [] (λ_ s=>Q .normal s))):uG P F m (.region id l.toArray true) st Q:=by
 obtain⟨A,z,h1,h2,u⟩:=hk.run;exact KY n y h1 JE u.run
def Fm {l:List Oper} {n:Nat} {u:Array Oper} {fs:List FP} {y:St->Prop} (hc:WB l n (NF l) fs.reverse=true) (z:y st):yP P F m u true [] st fs (λfs s=>WB l n (NF l) fs.reverse=true/\y s):=⟨⟨[],st,rfl,hc,z⟩⟩
end
section
variable {P:Program} {TT:List TI} {st:St}
end
section
variable {P:Program} {TT:List TI} {K0:List Nat} {F:Fr K0} {m:Nat} {ops:Array Oper} {rest:List Oper} {Q:List FP->St->Prop} {tm:List (Nat×AV)} {h:List (Nat×xM)} {dr:Bool} {fs:List FP}
variable {ty:Nat} {pos:String} {after:Array Edge} {t:Nat}
def yu (R:qI P TT) {T e k len sz:Nat} {s x:Operand} {M L:TI} {xs z O:List AV} {I:AV} (W:yW (zL tm) s= .ref k 0 len) (hk:zD h k=some (.arr sz xs ⟨false,false⟩)) (hx:yW (zL tm) x=I) (hT:TT[T]? =some M) (hd:M.d= .slice e) (S:TT[e]? =some L) (G:Oa (zD h) I=some z)
  (C:Nat.beq sz L.size=true) (E:∀y,z[0]? =some y->ln y.cells=sz) (B:1<=ln z) (hl:1<=len) (u:len+ln z<=ln xs) (A:ln xs<=1073741824) (X:xs.take len++z++xs.drop (len+ln z)=O) (U:Nat.blt t m=true)
  (V:yP P F m ops dr rest ⟨(t,.ref k 0 (len+ln z))::tm,(k,.arr sz O ⟨false,false⟩)::h⟩ (⟨true,[k],k::LI I⟩::fs) Q):yP P F m ops dr (⟨some t,.call ⟨.builtin .append, #[s,x], #[T,T]⟩,ty,pos,after,none⟩::rest) ⟨tm,h⟩ fs Q:=by
 subst X;exact qH (nw:=[]) (Jg R W hk hx hT hd S G C E B hl u A) U Z Z V
end
section
variable {P:Program} {K0:List Nat} {F:Fr K0} {m:Nat}
def pe (n len:Nat) {Q:Exit->St->Prop} {id:Nat} {l:List Oper} (u:Nat.beq (ln l) len=true) (y:P.follows .mixedOrders=true)
 (hk:yP P F m l.toArray true (l.take n) st [] (λfs s=>WB l n (NF l) fs.reverse=true/\yP P F m l.toArray false (l.drop n) s [] (λ_ s=>Q .normal s))):uG P F m (.region id l.toArray true) st Q:=zu n y hk
end
def PE (l:List Rq) (id:Int):Nat:=l.findIdx λr=>!decide (r.id<id)
def Em (l:List Rq) (id:Int):PE l id<=ln l:=List.findIdx_le_length
theorem Dm {id:Int} (h:i<PE l id):(l.getD i dd).id<id:=by grind [PE]
theorem Cm {id:Int} (h:PE l id<ln l):¬(l.getD (PE l id) dd).id<id:=by grind [PE]
def VG (id:Int) (v:Vh) (u:Int) (x:List Lg) (ga:Int):Rq:=⟨id,v.id,v.cls,ga+u,x⟩
def bO (l:List Rq) (r:Rq):List Rq:=l.take (PE l r.id)++r::l.drop (PE l r.id)
def FX (l:List Rq) (q id u:Int) (x:List Lg):Int:=
 if¬(0<=id/\id<=4294967295/\1<=u/\u<=600/\Gb x=true)then 8 else if fX l id=true then 11 else if q<=ln l\/4<=(ln l:Int)then 14 else 0
def aq (l:List Rq) (id:Int):Rq:=(l.find? λx=>x.id==id).getD ⟨0,0,0,0,[]⟩
theorem oe {id:Int} (h:l=gd++x::post) (u:∀y∈gd,y.id≠id) (hx:x.id=id):aq l id=x/\fX l id=true:=by grind [aq,fX]
theorem Bm {id:Int} (u:∀y∈l,y.id≠id):aq l id=⟨0,0,0,0,[]⟩/\fX l id=false:=by grind [aq,fX,List.find?_eq_none]
def wu (l:List Rq) (id:Int) (G:ln l<=1000) (hb:∀r∈l,ln r.legs<=1000):zO 336 [zE yS l,iA id] [] (.tup [yS (aq l id),bA (fX l id)]) []:=by
 have hl:=zA yS l;refine eM call336 λF hF=>?_
 refine WW ?_;refine kU (l) [4] [] [1,4,8,9] [10,1,4,8,9] Z (λi gd T U E=>(∀y∈gd,y.id≠id)/\E=⟨(10,iA i)::T,(4,.box [.s (.int .i64 0),.s (.int .i64 0),.s (.int .i64 0),.s (.int .i64 0),.s (.slice none 0 0)])::U⟩) (Lp ?_ ?_ ?_)
 .exact⟨by simp,rfl⟩
 .rintro i gd x post st hx hi ⟨hp,rfl⟩;have u:=zY yS hx hi;have C:=zX hx hi;by_cases A:x.id=id
  .obtain⟨e1,z⟩:=oe hx hp A;have c:zO 187 [.sl false [.agg [iA x.id,iA x.vh,iA x.cls,iA x.til,zE xK x.legs]]] [] (.sl false [.agg [iA x.id,iA x.vh,iA x.cls,iA x.til,zE xK x.legs]]) []:=fD [x] yE (λr B=>by rw[zA8]at B;subst B;exact hb _ (yQ hx));rw[e1,z];clear hx e1;exact pb c
  .clear hx;refine WW ?_;exact⟨λy u=>by simp only[zAy,zA8]at u;rcases u with u|rfl;exact hp y u;exact A,rfl⟩
 .rintro st ⟨hp,rfl⟩;obtain⟨e1,z⟩:=Bm hp;rw[e1,z];exact mx
theorem Og (l:List Rq) (q id:Int) (v:Vh) (u:Int) (x:List Lg) (ga:Int) (hv:VI l) (hq:(ln l:Int)<=q) (v0:0<=v.id) (v1:v.id<=4294967295) (w0:0<=v.cls) (w1:v.cls<=3) (n0:0<=ga) (n1:ga<=1073741824) (a1:ln x<=1000):
  zO 293 [zE yS l,iA q,iA id,vB v,iA u,zE xK x,iA ga] [] (.tup [zE yS (if FX l q id u x=0 then bO l (VG id v u x ga)else []),iA (FX l q id u x)]) []:=by
 have h4:=hv.n4;have hl:=zA yS l;have I:=YX l q hv hq;have B:=wN v.id 0 4294967295;have C:=wN v.cls 0 3;have E:=wN ga 0 1073741824;have z:=wN id 0 4294967295;have G:=wN u 1 600;have L:=GY x zB;have M:=wu l id zB (λr A=>by have:=hv.lg3 A;omega);rw[zAc ⟨v0,v1⟩]at B;rw[zAc ⟨w0,w1⟩]at C;rw[zAc ⟨n0,n1⟩]at E;by_cases S:0<=id/\id<=4294967295
 case neg=>
  rw[zAb S]at z;have e:FX l q id u x=8:=Os λh=>S ⟨h.1,h.2.1⟩
  rw[e,hW xG];refine eM call293 λF hF=>?_
  exact ng (KE I B C E z)
 rw[zAc S]at z;by_cases V:1<=u/\u<=600
 case neg=>
  rw[zAb V]at G;have e:FX l q id u x=8:=Os λh=>V ⟨h.2.2.1,h.2.2.2.1⟩
  rw[e,hW xG];refine eM call293 λF hF=>?_
  exact ng (BJ I B C E z G)
 rw[zAc V]at G
 cases R:Gb x with
 |false=>
  rw[R]at L;have e:FX l q id u x=8:=Os λh=>zAs (R.symm.trans h.2.2.2.2)
  rw[e,hW xG];refine eM call293 λF hF=>?_
  exact ng (V6 I B C E z G L)
 |true=>
 rw[R]at L
 have O:FX l q id u x=if fX l id=true then 11 else if q<=ln l\/4<=(ln l:Int)then 14 else 0:=hW λh=>h ⟨S.1,S.2,V.1,V.2,R⟩
 have az:=TE R;clear R;generalize aq l id=fq at*
 cases hh:fX l id with
 |true=>
  rw[hh]at M;have e:FX l q id u x=11:=by rw[O,Os hh]
  rw[e,hW xG];refine eM call293 λF hF=>?_
  exact ng (Hb I B C E z G L M)
 |false=>
 rw[hh]at M;rw[hW (by rw[hh];decide)]at O;by_cases g4:q<=ln l\/4<=(ln l:Int)
 case pos=>
  rw[Os g4]at O;rw[O,hW xG];by_cases g5:q<=ln l
  ·(refine eM call293 λF hF=>?_)
   exact ng (Hb I B C E z G L M)
  .have g6:4<=(ln l:Int):=g4.resolve_left g5;refine eM call293 λF hF=>?_
   exact ng (Hb I B C E z G L M)
 rw[hW g4]at O;rw[O,Os Z];have hk:=Em l id;have X:=λi h=>Dm (l:=l) (id:=id) (i:=i) h
 have Y:=Cm (l:=l) (id:=id)
 have W:((l.take (PE l id:Int).toNat).map yS++[yS (VG id v u x ga)])++(l.drop (PE l id:Int).toNat).map yS=(bO l (VG id v u x ga)).map yS:=by
  rw[zAv];unfold bO VG;rw[zAd,zBc,zA2];rfl
 have d1:=fD (bO l (VG id v u x ga)) (by unfold bO;rw[zAf,zAp,zA0,zBh];omega) (λr A=>by
  unfold bO at A;rw[zAy,zBx]at A
  rcases A with A|rfl|A
  .have:=hv.lg3 (zB6 A);omega
  .show (ln x)<=1000;omega
  .have:=hv.lg3 (zBo A);omega)
 have ag:∀y,((l.take (PE l id:Int).toNat).map yS)[0]? =some y->ln y.cells=5:=yG _ _ (λ_=>rfl);have ax:∀y,((l.drop (PE l id:Int).toNat).map yS)[0]? =some y->ln y.cells=5:=yG _ _ (λ_=>rfl);have av:((l.take (PE l id:Int).toNat).map yS).length=PE l id:=by rw[f7,zA0];omega
 have ap:((l.drop (PE l id:Int).toNat).map yS).length=ln l-PE l id:=by rw[f7,zBh];omega
 clear hv;have hR:zE yS (bO l (VG id v u x ga))=AV.sl false ((bO l (VG id v u x ga)).map yS):=rfl;rw[hR]at d1⊢;rw[<-W]at d1⊢;clear hR W;refine eM call293 λF hF=>?_
 refine yB (Hb I B C E z G L M) ?_;refine zM (PE l id) [10] [10] [0,2,4,5,6,10] [18,0,2,4,5,6,10] Z (λi T U=>⟨(18,iA i)::T,U⟩) (Lq ?_ ?_)
 .intro i hi;have hy:=zJ yS l i zB;have au:=X i hi;generalize l.getD i dd=r at *;refine WW ?_;rfl
 .clear X;by_cases ac:PE l id<ln l
  case' pos=>
   have hy:=zJ yS l (PE l id) ac;have ar:=Y ac;generalize l.getD (PE l id) dd=r at*
  all_goals clear Y
  all_goals generalize PE l id=k at*
  all_goals (repeat' (first|refine WS ?_|refine SG (I2 (λhc=>?_) λhc=>?_)|refine SG λhc=>?_|(apply zG;first|(apply yI;refine gH tok Z Z Z Z Z Z ag Z Z Z zB Z Z Z ?_)|refine SM ?_)|(first|refine pe 11 14 Z Z ?_|first|refine SR ?_|refine SK (I2 (λhc=>?_) λhc=>?_)|refine SK λhc=>?_|fail)|fail))
  all_goals refine Fm vA ?_
  all_goals (have gt:=d1;have ly:=(⟨⟩:Kw 187 [] [105]);refine WW ?_;clear gt ly)
  all_goals exact zI
def kI (r:Rq) (k:Nat):AV:= .agg [iA r.id,iA r.vh,iA r.cls,iA r.til,.ref k 0 (r.legs.map xK).length]
def aH (r:Rq):xM:= .arr 5 (r.legs.map xK) false
theorem TB (K:List Nat) (h:yM):∀a b:List AV,qG K h (a++b)=qG K h a++qG K h b
 | [],b=>rfl
 |v::a,b=>by rw[zDb,qG,qG,TB K h a b];rfl
theorem TC (K:List Nat) (h:yM):∀l:List Rq,qG K h (l.map yS)=l.map yS
 | []=>rfl
 |r::l=>by rw[zBc,qG,TC K h l];rfl
theorem RE (K:List Nat) (h:yM):∀a b:List AV,wS K h (a++b)=wS K h a++wS K h b
 | [],b=>rfl
 |v::a,b=>by rw[zDb,wS,wS,RE K h a b];rfl
theorem MP (K:List Nat) (h:yM):∀l:List Rq,wS K h (l.map yS)=l.map yS
 | []=>rfl
 |r::l=>by rw[zBc,wS,MP K h l];rfl
theorem aI:∀a b:List AV,wM (a++b)=(wM a&&wM b)
 | [],b=>rfl
 |v::a,b=>by rw[zDb,wM,wM,aI a b,Bool.and_assoc]
theorem YV:∀l:List Rq,wM (l.map yS)=true
 | []=>rfl
 |r::l=>by rw[zBc,wM,YV l];rfl
def cZ (gd:List Rq) (x:Rq) (post:List Rq) (k:Nat):List AV:=gd.map yS++kI x k::post.map yS
def YW (gd:List Rq) (x:Rq) (post:List Rq) (k:Nat):(cZ gd x post k).length=ln gd+1+ln post:=by simp[cZ];omega
theorem OG (h:yM) (gd:List Rq) (x:Rq) (post:List Rq) (b:Bool):qD [1001,1101] h (.arr 5 (cZ gd x post 1101) ⟨b,true⟩)= .arr 5 (cZ gd x post 1101) ⟨b,true⟩:=by
 have e:qG [1001,1101] h (cZ gd x post 1101)=cZ gd x post 1101:=by
  unfold cZ;rw[TB,TC,qG,TC];rfl
 have u:wM (cZ gd x post 1101)=false:=by
  unfold cZ;rw[aI,YV,wM];rfl
 simp_all [yM,qD,cZ]
theorem vu (gd:List Rq) (x:Rq) (post:List Rq) (k:Nat) (y:Rq):cZ gd x post k++[yS y]=cZ gd x (post++[y]) k:=by grind [cZ,yS]
theorem uu (gd:List Rq) (x:Rq) (post:List Rq) (l:List Rq) (z:l=gd++x::post) (W:ln l<=1000) (hb:∀r∈l,1<=ln r.legs/\r.legs.length<=1000):
  zO 187 [zE yS l] [] (.ref 1001 0 (cZ gd x post 1101).length) [(1001,.arr 5 (cZ gd x post 1101) ⟨true,true⟩),(1101,aH x)]:=by
 have hl:=zA yS l;have M:ln l=ln gd+1+ln post:=by rw[z];simp;omega
 refine eM call187 λF hF=>?_
 refine WW ?_;refine zW 3 1001 5 rfl rfl rfl ?_;refine wH (λn st=>∃i,n+i=ln l/\st=if i<=ln gd then(⟨[(3,.ref 1001 0 ((l.take i).map yS).length),(8,iA i),(6,zE yS l),(7,iA (l.map yS).length)],[(1001,.arr 5 ((l.take i).map yS) true)]⟩:St)else⟨[(3,.ref 1001 0 (cZ gd x (post.take (i-gd.length-1)) 1101).length),(8,iA i),(6,zE yS l),(7,iA (l.map yS).length)],[(1001,.arr 5 (cZ gd x (post.take (i-gd.length-1)) 1101) ⟨true,true⟩),(1101,aH x)]⟩) (ln l) [1001,1101] [3,8,6,7] rfl ⟨0,zB,by rw[Os (zAn _)];rfl⟩ ?_;rintro n st ⟨i,hi,rfl⟩;by_cases S:i<ln gd
 .rw[Os zB];have A:=zJ yS l i zB;have B:l.getD i dd∈l:=by simp[pg,show i<ln l by omega]
  have O:=hb _ B
  have e:(l.take (i+1)).map yS=(l.take i).map yS++[yS (l.getD i dd)]:=by
   rw[zDj,zAd,zAu zB];simp[pg,show i<ln l by omega]
  have U:((l.take i).map yS).length=i:=by rw[f7,zA0];omega
  have u:i<ln l:=by omega
  clear B;generalize l.getD i dd=r at *;have C:=zA xK r.legs
  (repeat' (first|refine gM ?_|apply yY|apply xN|intro hc|(apply zG;first|(apply yI;refine qH (nw:=[]) (uB true false tok Z Z Z Z Z Z (λh=>by cases h) Z (by intro y A;cases A;rfl) Z Z Z Z (by simp only[YW,f7,zA0,zAp,zBq,zBh];omega) (λh=>by cases h)) Z Z Z ?_)|refine SL ?_|refine SM ?_)|refine SB ?_|fail))
  exact⟨n-1,zB,i+1,zB,by rw[Os zB,e];rfl⟩
 by_cases G:i=ln gd
 .rw[Os zB];subst G;have u:ln gd<ln l:=by omega
  have V:(l.take (ln gd)).map yS=gd.map yS:=by rw[z];simp
  have A:(l.map yS)[ln gd]? =some (yS x):=by rw[z];simp
  have O:=hb x (by rw[z];simp);rw[V];clear z;have C:=zA xK x.legs;have I:ln gd<=1000:=by omega
  (repeat' (first|refine gM ?_|apply yY|apply xN|intro hc|(apply zG;first|(apply yI;refine xB 1101 tok Z Z Z Z Z Z (yG _ _ (λ_=>rfl)) Z Z Z zB Z Z Z ?_)|(apply yL;refine dU (xs:=[_]) 1002 tok Z Z Z Z Z Z Z Z Z Z Z Z ?_)|(apply yI;refine qH (nw:=[]) (uB true true tok Z Z Z Z Z Z (λh=>by cases h) Z (by intro y A;cases A;rfl) Z Z Z Z (by simp only[YW,f7,zA0,zAp,zBq,zBh];omega) (λh=>by cases h)) Z Z Z ?_))|refine SB ?_|fail))
  refine⟨n-1,zB,ln gd+1,zB,?_⟩;rw[hW zB,show (ln gd)+1-gd.length-1=0 by omega];refine zAt (St.mk _) ?_
  show [(1001,qD [1001,1101] _ (.arr 5 (cZ gd x [] 1101) ⟨true,true⟩)),(1101,aH x)]=_
  rw[OG];rfl
 rw[hW zB];by_cases u:i<ln l
 .have A:=zJ yS l i u;have B:l.getD i dd∈l:=by simp[pg,u]
  have O:=hb _ B
  have L:post[i-gd.length-1]? =some (l.getD i dd):=by
   have h1:l[i]? =some (l.getD i dd):=by simp[pg,u]
   rw[z,zBb zB]at h1;rw[show i-gd.length=(i-gd.length-1)+1 by omega,List.getElem?_cons_succ]at h1;rw[<-z]at h1;exact h1
  have e:cZ gd x (post.take (i+1-gd.length-1)) 1101=cZ gd x (post.take (i-gd.length-1)) 1101++[yS (l.getD i dd)]:=by
   rw[vu,show i+1-gd.length-1=(i-gd.length-1)+1 by omega,zDj,L];rfl
  have R:=YW gd x (post.take (i-gd.length-1)) 1101;have I:(post.take (i-gd.length-1)).length<=1000:=by rw[zA0];omega
  have E:=λh=>OG h gd x (post.take (i+1-gd.length-1)) true
  rw[e]at E;clear B L z;generalize l.getD i dd=r,cZ gd x (post.take (i-gd.length-1)) 1101=cs at *;have C:=zA xK r.legs
  (repeat' (first|refine gM ?_|apply yY|apply xN|intro hc|(apply zG;first|(apply yI;refine qH (nw:=[]) (uB true true tok Z Z Z Z Z Z (λh=>by cases h) Z (by intro y A;cases A;rfl) Z Z Z Z (by simp only[YW,f7,zA0,zAp,zBq,zBh];omega) (λh=>by cases h)) Z Z Z ?_)|refine SL ?_|refine SM ?_)|refine SB ?_|fail))
  refine⟨n-1,zB,i+1,zB,?_⟩;rw[hW zB,e];refine zAt (St.mk _) ?_
  show [(1001,qD [1001,1101] _ (.arr 5 (cs++[yS r]) ⟨true,true⟩)),(1101,aH x)]=_
  rw[E]
 .have E:=λh=>OG h gd x post true
  rw[show i-gd.length-1=ln post by omega,zAa];generalize cZ gd x post 1101=cs at *;refine WW ?_;refine zV [1001,1101] Z Z Z ?_
  show [(1001,qD [1001,1101] _ (.arr 5 cs ⟨true,true⟩)),(1101,aH x)]=_
  rw[E]
def Ng (p:Int×Int):AV:= .agg [iA p.1,iA p.2]
def wa (ga:Int) (g:Lg) (p:Int×Int):Lg:=⟨g.jn,g.ph,ga+p.1,ga+p.2,g.sc⟩
def Lb (ga:Int) (g:Lg) (p:Int×Int):Bool:=Bh g.jn g.ph p.1 p.2 ga
def Kb (gs:List Lg) (w:List (Int×Int)) (ga:Int):Bool:=(gs.zipWith (Lb ga) w).all id
def bP (l:List Rq) (id:Int) (w:List (Int×Int)) (ga:Int):Int:=
 if fX l id=true then(if (ln w)=(aq l id).legs.length/\Kb (aq l id).legs w ga=true then 0 else 8)else 12
def VH (l:List Rq) (id:Int) (w:List (Int×Int)) (ga:Int):List Rq:=l.map λr=>if r.id=id then⟨r.id,r.vh,r.cls,r.til,r.legs.zipWith (wa ga) w⟩else r
def va (gs:List Lg) (w:List (Int×Int)) (ga:Int) (i:Nat):List Lg:=(gs.take i).zipWith (wa ga) (w.take i)++gs.drop i
theorem me (h:ln w=ln gs) (hi:i<=ln gs):(va gs w ga i).length=ln gs:=by grind [va]
theorem Fz (h:ln w=ln gs) (hi:i<ln gs):((va gs w ga i).map xK)[i]? =some (xK (gs.getD i dd)):=by grind [va,xK]
theorem qu (h:ln w=ln gs) (hi:i<ln gs):((va gs w ga i).map xK).set i (xK (wa ga (gs.getD i dd) (w.getD i dd)))=(va gs w ga (i+1)).map xK:=by
 unfold va;have e:((gs.take i).zipWith (wa ga) (w.take i)).length=i:=by rw[List.length_zipWith,zA0,zA0];omega
 rw[<-zBt,zDc _ _ zB,e,zCz,zDw hi,zEd];rw[zDj,zDj,List.zipWith_append (by rw[zA0,zA0];omega)]
 simp_all [va,xK,wa]
def Y6 (gs:List Lg) (w:List (Int×Int)) (ga:Int):va gs w ga 0=gs:=by simp[va]
theorem ku (h:ln w=ln gs):va gs w ga (ln gs)=gs.zipWith (wa ga) w:=by grind [va,wa]
theorem ju (h:ln w=ln gs) (u:∀i,i<ln gs->Lb ga (gs.getD i dd) (w.getD i dd)=true):Kb gs w ga=true:=by grind [Lb,Kb,List.all_eq_true,List.mem_iff_getElem,List.length_zipWith,List.getD]
theorem Ez (h:ln w=ln gs) (hi:i<ln gs) (u:Lb ga (gs.getD i dd) (w.getD i dd)=false):Kb gs w ga=false:=by
 unfold Kb;rw[zC6];refine⟨Lb ga (gs.getD i dd) (w.getD i dd),?_,by rw[u];decide⟩
 have:(gs.zipWith (Lb ga) w)[i]? =some (Lb ga (gs.getD i dd) (w.getD i dd)):=by
  grind
 grind
theorem re {id:Int} (u:l=gd++x::post) (hv:VI l) (hx:x.id=id):VH l id w ga=gd++⟨x.id,x.vh,x.cls,x.til,x.legs.zipWith (wa ga) w⟩::post:=by
 have y:=hv.so;rw[u,zEa,zE2]at y;obtain⟨_,⟨h2,_⟩,z⟩:=y;unfold VH;rw[u,zAd,zBc,Os hx]
 congr 1
 .conv=>rhs;rw[<-List.map_id gd]
  grind [VH,wa,List.map_congr_left]
 .congr 1
  conv=>rhs;rw[<-List.map_id post]
  grind [VH,wa,List.map_congr_left]
def gu {h:yM} {b:Bool} (h1:h 1001=some (.arr 5 (cZ gd x post 1101) ⟨b,true⟩)) (h2:h 1101=some (.arr 5 (gs.map xK) false)) (hl:ln gs=ln x.legs):
  wR [] h (.ref 1001 0 (cZ gd x post 1101).length)=zE yS (gd++⟨x.id,x.vh,x.cls,x.til,gs⟩::post):=by
 have e:wS [] h (cZ gd x post 1101)=(gd++⟨x.id,x.vh,x.cls,x.til,gs⟩::post).map yS:=by
  unfold cZ;rw[RE,MP,wS,MP,zAd,zBc]
  congr 1
  congr 1
  show AV.agg [iA x.id,iA x.vh,iA x.cls,iA x.til,qC [] h (.ref 1101 0 (x.legs.map xK).length)]=_
  have y:qC [] h (.ref 1101 0 (x.legs.map xK).length)=zE xK gs:=by
   simp only[qC,h2]
   show AV.sl false (((gs.map xK).drop 0).take (x.legs.map xK).length)=_
   rw[zAr,f7,zAl (by rw[f7,hl];exact zAe _)];rfl
  rw[y];rfl
 have u:(cZ gd x post 1101).length=((gd++⟨x.id,x.vh,x.cls,x.til,gs⟩::post).map yS).length:=by rw[YW];simp;omega
 rw[u];simp only[wR,h1]
 show(bif wM (wS [] h (cZ gd x post 1101))then AV.sl false (((wS [] h (cZ gd x post 1101)).drop 0).take _)else .bot)=_
 rw[e,YV,zAr,zAa];rfl
theorem JX {id:Int} (h:fX l id=true):∃gd x post,l=gd++x::post/\x.id=id/\(∀y∈gd,y.id≠id)/\aq l id=x/\OF (λr:Rq=>r.id==id) l=(ln gd:Int):=by
 induction l with
 |nil=>cases h
 |cons a l z=>
  by_cases u:a.id=id
  .refine⟨[],a,l,rfl,u,by simp,(oe (gd:=[]) Z yE u).1,GU (gd:=[]) Z yE (by simpa using u)⟩
  all_goals grind [fX,aq,OF]
theorem Am (K:List Nat) (y:K.contains 1101=true) (h:yM) (gd:List Rq) (x:Rq) (post:List Rq) (b:Bool):qD K h (.arr 5 (cZ gd x post 1101) ⟨b,true⟩)= .arr 5 (cZ gd x post 1101) ⟨b,true⟩:=by
 have u:wR K h (kI x 1101)=kI x 1101:=by
  show AV.agg [_,_,_,_,bif K.contains 1101 then .ref 1101 0 (x.legs.map xK).length else _]=_
  rw[y];rfl
 have e:qG K h (cZ gd x post 1101)=cZ gd x post 1101:=by
  unfold cZ;rw[TB,TC,qG,TC,u]
 have z:wM (cZ gd x post 1101)=false:=by
  unfold cZ;rw[aI,YV,wM];rfl
 simp_all [yM,qD,cZ]
theorem Mg (l:List Rq) (id:Int) (w:List (Int×Int)) (ga:Int) (hv:VI l) (hw:ln w<=1000) (n0:0<=ga) (n1:ga<=1073741824):
  zO 294 [zE yS l,iA id,zE Ng w,iA ga] [] (.tup [zE yS (if bP l id w ga=0 then VH l id w ga else []),iA (bP l id w ga)]) []:=by
 have h4:=hv.n4;have av:=zA Ng w;have c1:=YX l 4 hv zB;have c2:=wN ga 0 1073741824;rw[zAc ⟨n0,n1⟩]at c2
 cases hh:fX l id with
 | false=>
  have c3:=fD l zB (λr Y=>by have:=hv.lg3 Y;omega);have e:bP l id w ga=12:=hW (by rw[hh];decide);have B:∀r∈l,r.id≠id:=by simpa [fX]using hh
  have hl:=zA yS l;rw[e,hW xG];clear hh e;refine eM call294 λF hF=>?_
  refine yB (qS c1 c2 c3) ?_;refine zM (ln l) [] [] [1,2,3,10,27,28] [29,1,2,3,10,27,28] Z (λi T U=>⟨(29,iA i)::T,U⟩) (Lq ?_ ?_)
  .intro i hi;have hy:=zJ yS l i hi;have hm:=B (l.getD i dd) (by simp[pg,hi]);generalize l.getD i dd=r at *;refine WW ?_;rfl
  .exact mx
 |true=>
 obtain⟨gd,x,post,O,hx,V,hf,_⟩:=JX hh;have L:=re (w:=w) (ga:=ga) O hv hx
 have E:bP l id w ga=if (ln w)=ln x.legs/\Kb x.legs w ga=true then 0 else 8:=by unfold bP;rw[Os hh,hf]
 have ap:ln l=ln gd+1+ln post:=by rw[O];simp;omega
 have az:=hv.lg3 (r:=x) (by rw[O];simp);have c4:=uu gd x post l O zB (λr Y=>by have:=hv.lg3 Y;omega);have ar:=YW gd x post 1101;have G:=λh=>OG h gd x post true
 have C:=λh=>Am [12,1001,1101] Z h gd x post true
 have R:(cZ gd x post 1101)[ln gd]? =some (kI x 1101):=by unfold cZ;simp
 have z:∀i,i<ln gd->∃r:Rq,r.id≠id/\(cZ gd x post 1101)[i]? =some (yS r):=λi hi=>by
  refine⟨gd[i],V _ (zDy hi),?_⟩;unfold cZ;rw[zA9 NL];simp[hi]
 have y:=λh gs=>gu (h:=h) (gd:=gd) (post:=post) (x:=x) (b:=true) (gs:=gs)
 have ax:=zA xK x.legs;generalize cZ gd x post 1101=cs at *;clear O hv hf hh V;refine eM call294 λF hF=>?_
 refine yB (qS c1 c2 c4) ?_;refine wH (λn st=>∃i,n+i=ln gd/\st=(⟨[(29,iA i),(1,iA id),(2,zE Ng w),(3,iA ga),(10,.ref 1001 0 (ln cs)),(27,.ref 1001 0 (ln cs)),(28,iA (ln cs))],[(1001,.arr 5 cs ⟨true,true⟩),(1101,aH x)]⟩:St)) (ln gd) [1001,1101] [29,1,2,3,10,27,28] Z ⟨0,zB,?_⟩ ?_
 .refine zAt (St.mk _) ?_
  show [(1001,qD [1001,1101] _ (.arr 5 cs ⟨true,true⟩)),(1101,aH x)]=_
  rw[G]
 rintro n st ⟨i,hi,rfl⟩;by_cases A:i<ln gd
 .obtain⟨r,Y,hy⟩:=z i A;clear y z R;refine WW ?_;refine⟨n-1,zB,i+1,zB,?_⟩;refine zAt (St.mk _) ?_
  show [(1001,qD [1001,1101] _ (.arr 5 cs ⟨true,true⟩)),(1101,aH x)]=_
  rw[G]
 obtain rfl:i=ln gd:=by omega
 clear z G hi;have ag:cs[((ln gd:Int)).toNat]? =some (kI x 1101):=R;by_cases u:ln w=ln x.legs
 case neg=>
  rw[hW (λh=>u h.1)]at E;rw[E,hW xG];clear y;exact mx
 refine WW ?_;refine wH (λn st=>∃i,n+i=ln x.legs/\(∀j,j<i->Lb ga (x.legs.getD j dd) (w.getD j dd)=true)/\st=(⟨[(46,iA i),(3,iA ga),(10,.ref 1001 0 (ln cs)),(11,iA (ln gd)),(12,.ptr 12 0 0),(44,zE Ng w),(45,iA (w.map Ng).length)],[(12,.box [iA x.id,iA x.vh,iA x.cls,iA x.til,.ref 1101 0 (x.legs.map xK).length]),(1001,.arr 5 cs ⟨true,true⟩),(1101,.arr 5 ((va x.legs w ga i).map xK) false)]⟩:St)) (ln x.legs) [12,1001,1101] [46,3,10,11,12,44,45] Z ⟨0,zB,λj hj=>absurd hj (zBa _),?_⟩ ?_
 .rw[Y6];refine zAt (St.mk _) ?_
  show [(12,.box [iA x.id,iA x.vh,iA x.cls,iA x.til,.ref 1101 0 (x.legs.map xK).length]),(1001,qD [12,1001,1101] _ (.arr 5 cs ⟨true,true⟩)),(1101,aH x)]=_
  rw[C];rfl
 rintro n st ⟨i,hi,hok,rfl⟩;by_cases A:i<ln x.legs
 .have I:=me (i:=i) (ga:=ga) u zB;have au:=zA xK (va x.legs w ga i);have a1:=zJ Ng w i zB;have hy:=Fz (ga:=ga) u A;have W:=qu (ga:=ga) u A;have M:=BL (x.legs.getD i dd).jn (x.legs.getD i dd).ph (w.getD i dd).1 (w.getD i dd).2 ga
  cases hb:Lb ga (x.legs.getD i dd) (w.getD i dd)with
  |false=>
   have B:=Ez u A hb;rw[hW (λh=>by rw[B]at h;cases h.2)]at E;rw[E,hW xG];unfold Lb at hb;unfold Ig at M;rw[hb,hW zAs,hW zAs]at M;clear hok y L B W;generalize x.legs.getD i dd=g,w.getD i dd=q,(va x.legs w ga i).map xK=ys at *;exact nl M
  | true=>
   have S:∀j,j<i+1->Lb ga (x.legs.getD j dd) (w.getD j dd)=true:=λj hj=>by
    by_cases ac:j=i
    .rw[ac];exact hb
    .exact hok j zB
   unfold Lb at hb;unfold Ig at M;rw[hb,Os Z,Os Z]at M;clear hok y L E hb;generalize x.legs.getD i dd=g,w.getD i dd=q,(va x.legs w ga i).map xK=ys at *;refine zP M ?_;refine⟨n-1,zB,i+1,zB,S,?_⟩;refine zAt (St.mk _) ?_
   show [(12,.box [iA x.id,iA x.vh,iA x.cls,iA x.til,.ref 1101 0 (x.legs.map xK).length]),(1001,qD [12,1001,1101] _ (.arr 5 cs ⟨true,true⟩)),(1101,.arr 5 (ys.set i (xK (wa ga g q))) false)]=_
   rw[C,W]
 .obtain rfl:i=ln x.legs:=by omega
  have I:=me (i:=ln x.legs) (ga:=ga) u (zAe _);have X:=ju u hok;rw[Os ⟨u,X⟩]at E;rw[E,Os Z,L];rw[ku u]at I⊢;generalize x.legs.zipWith (wa ga) w=gs at *;refine WW ?_;refine zH [] Z Z ?_ Z
  show AV.tup [ZA (wR [] _ (.ref 1001 0 (ln cs))),iA 0]=_
  rw[y _ gs Z Z I];rfl
def j9 (ga:Int) (r:Rq):Rq:=⟨r.id,r.vh,r.cls,r.til,r.legs.map λg=>ZB g ga⟩
def Kg (l:List Rq) (ga:Int):List Rq:=l.map (j9 ga)
def eG (l:List Lg) (ga:Int) (k:Nat):List Lg:=(l.take k).map (λg=>ZB g ga)++l.drop k
def OH (l:List Lg) (ga:Int):eG l ga (ln l)=l.map λg=>ZB g ga:=by simp[eG]
def fE (l:List Lg) (ga:Int) (k:Nat):(eG l ga k).length=ln l:=by simp[eG];omega
theorem cW {l gd post:List Lg} {g:Lg} (ga:Int) (hx:l=gd++g::post) (hk:ln gd=k):((eG l ga k).map xK)[k]? =some (xK g):=by grind [eG,xK]
theorem fF {l gd post:List Lg} {g:Lg} (ga:Int) (hx:l=gd++g::post) (hk:ln gd=k):(eG l ga (k+1)).map xK=((eG l ga k).map xK).set k (xK (ZB g ga)):=by
 subst hx hk;have e1:(gd++g::post).take (ln gd+1)=gd++[g]:=by rw[List.take_append,zAl zB];simp
 simp_all [eG,xK,ZB]
def B7 (l:List Lg) (ga:Int):List.take (l.map xK).length (List.drop 0 ((l.map λg=>ZB g ga).map xK))=(l.map λg=>ZB g ga).map xK:=by
 rw[zAr];exact zAl yE
def fG (r:Rq) (ga:Int) (k:Nat):xM:= .arr 5 ((eG r.legs ga k).map xK) false
