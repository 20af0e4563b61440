/- Part 6. -/
import Derived.Test.YtaglbcjljlkjcaaGreatT05
namespace Go.Proofs.YtaglbcjljlkjcaaGreat.Av
open Tryz
set_option linter.all false
set_option maxRecDepth 4000
set_option maxHeartbeats 2000000
open List renaming length->ln,replicate->oj
open Inhabited renaming default->dd
variable {xs zs:List AV}{l:List Rq}{T e len sz:Nat}{x:Operand}{st:St}{te ti:TI}{α:Type}
def OD (r:Int):Bool:=decide (0<=r/\r<=63)
def XF (r:Int):zM 371 [iA r] [] (bA (OD r)) []:=by
 unfold OD
 by_cases h1:0<=r<;>by_cases h2:r<=63<;>simp only[h1,h2,zGr,zFo,zF4,zFy]<;>first|(exfalso;omega;done)|((refine eM call371 λF hF=>?_);exact ly)
def XG (r:Int):zM 326 [iA r] [] (bA (OD r)) []:=by
 unfold OD
 by_cases h1:0<=r<;>by_cases h2:r<=63<;>simp only[h1,h2,zGr,zFo,zF4,zFy]<;>first|(exfalso;omega;done)|((refine eM call326 λF hF=>?_);exact ly)
def wo:∀a b:_root_.Fin 64,(j3 a.val b.val==0)=(jJ a.val b.val==(a.val:Int)):=by decide +kernel
def md (a b:Int):Bool:=OD a&&OD b&&(jJ a b==a)
theorem Du (a b:Int):(OD a&&OD b&&(j3 a b==0))=md a b:=by
 unfold md
 cases u:OD a<;>cases hb:OD b<;>simp only[zBg,zB7,zC4,zDr]
 simp only[OD,zBb]at u hb;have:=wo ⟨a.toNat,zB⟩ ⟨b.toNat,zB⟩
 grind
def AQ (a b:Int):zM 391 [iA a,iA b] [] (bA (md a b)) []:=by
 have u:=XF a;have z:=XF b;rw[<-Du]
 cases h1:OD a<;>cases h2:OD b<;>rw[h1]at u<;>rw[h2]at z<;>simp only[zBg,zB7,zC4]<;>((refine eM call391 λF hF=>?_);exact mt (xU u z))
def II (a b:Int):zM 366 [iA a,iA b] [] (bA (md a b)) []:=by
 have u:=XG a;have z:=XG b;unfold md
 cases h1:OD a<;>cases h2:OD b<;>rw[h1]at u<;>rw[h2]at z<;>simp only[zBg,zB7,zC4]<;>((refine eM call366 λF hF=>?_);exact mt (xU u z))
def MS (k:Int):Int:=if k=6\/k=7\/k=8 then 1 else if k=4\/k=5 then 2 else if k=2 then 4 else if k=3 then 8 else if k=10 then 16 else if k=11 then 32 else 0
theorem IJ (k:Int):(k=6/\MS k=1)\/(k=7/\MS k=1)\/(k=8/\MS k=1)\/(k=4/\MS k=2)\/(k=5/\MS k=2)\/(k=2/\MS k=4)\/(k=3/\MS k=8)\/(k=10/\MS k=16)\/(k=11/\MS k=32)\/
  (k≠6/\k≠7/\k≠8/\k≠4/\k≠5/\k≠2/\k≠3/\k≠10/\k≠11/\MS k=0):=by
 by_cases A:k=6
 .grind [MS]
 by_cases B:k=7
 .grind [MS]
 by_cases C:k=8
 .grind [MS]
 by_cases u:k=4
 .grind [MS]
 by_cases z:k=5
 .grind [MS]
 by_cases h2:k=2
 all_goals grind [MS]
def vo (k:Int):zM 370 [iA k] [] (iA (MS k)) []:=by
 rcases IJ k with⟨h,e⟩|⟨h,e⟩|⟨h,e⟩|⟨h,e⟩|⟨h,e⟩|⟨h,e⟩|⟨h,e⟩|⟨h,e⟩|⟨h,e⟩|⟨h1,h2,u,z,A,B,C,E,G,e⟩<;>rw[e]<;>((refine eM call370 λF hF=>?_);exact ly)
def qi (k:Int):zM 327 [iA k] [] (iA (MS k)) []:=by
 rcases IJ k with⟨h,e⟩|⟨h,e⟩|⟨h,e⟩|⟨h,e⟩|⟨h,e⟩|⟨h,e⟩|⟨h,e⟩|⟨h,e⟩|⟨h,e⟩|⟨h1,h2,u,z,A,B,C,E,G,e⟩<;>rw[e]<;>((refine eM call327 λF hF=>?_);exact ly)
def Wj (r k:Int):Bool:=OD r&&(jJ r (MS k)==MS k)
def ji (r k:Int):zM 342 [iA r,iA k] [] (bA (Wj r k)) []:=by
 have u:=XF r;have z:=vo k;unfold Wj;generalize MS k=n at*
 cases h1:OD r<;>rw[h1]at u<;>simp only[zBg,zB7]<;>((refine eM call342 λF hF=>?_);exact mt (xU u z))
def rd (r k:Int):zM 288 [iA r,iA k] [] (bA (Wj r k)) []:=by
 have u:=XG r;have z:=qi k;unfold Wj;generalize MS k=n at*
 cases h1:OD r<;>rw[h1]at u<;>simp only[zBg,zB7]<;>((refine eM call288 λF hF=>?_);exact mt (xU u z))
def F3 (r b:Int):zM 207 [iA r,iA b] [] (Zj ⟨b,r,b⟩) []:=by
 refine eM call207 λF hF=>?_
 exact ly
def Cu (r b:Int):zM 213 [iA r,iA b] [] (Zj ⟨b,r,b⟩) []:=by
 refine eM call213 λF hF=>?_
 exact ly
def uo (b:Bk):Bool:=decide (0<=b.burst/\b.burst<=1000/\0<=b.rate/\b.rate<=b.burst/\0<=b.level/\b.level<=b.burst)
def qo (b:Bk):zM 374 [Zj b] [] (bA (uo b)) []:=by
 (cases hb:uo b with|false=>((refine eM call374 λF hF=>?_);((refine WW (I6 (λhc hc hc hc hc=>?_) (λhc hc hc hc hc=>?_) (λhc hc hc hc=>?_) (λhc hc hc=>?_) (λhc hc=>?_) λhc=>?_)));all_goals (first|exact zH|(simp only[uo,zBh]at hb;first|exact MJ|exact OA)))|true=>(simp only[uo,zBb]at hb;(refine eM call374 λF hF=>?_);((refine WW ?_));all_goals (first|exact zH|exact MJ|exact OA)))
def gi (b:Bk):zM 365 [Zj b] [] (bA (uo b)) []:=by
 (cases hb:uo b with|false=>((refine eM call365 λF hF=>?_);((refine WW (I6 (λhc hc hc hc hc=>?_) (λhc hc hc hc hc=>?_) (λhc hc hc hc=>?_) (λhc hc hc=>?_) (λhc hc=>?_) λhc=>?_)));all_goals (first|exact zH|(simp only[uo,zBh]at hb;first|exact MJ|exact OA)))|true=>(simp only[uo,zBb]at hb;(refine eM call365 λF hF=>?_);((refine WW ?_));all_goals (first|exact zH|exact MJ|exact OA)))
def E7 (b:Bk):Bk:=⟨min (b.level+b.rate) b.burst,b.rate,b.burst⟩
def Bu (b:Bk) (h: -1000000000<=b.level+b.rate/\b.level+b.rate<=1000000000):zM 221 [Zj b] [] (Zj (E7 b)) []:=by
 refine eM call221 λF hF=>?_
 exact ly
def jo (b:Bk) (h: -1000000000<=b.level+b.rate/\b.level+b.rate<=1000000000):zM 190 [Zj b] [] (Zj (E7 b)) []:=by
 refine eM call190 λF hF=>?_
 exact ly
def RO (b:Bk):Bk:=if b.level<=0 then b else⟨b.level-1,b.rate,b.burst⟩
def Au (b:Bk) (h:b.level<=9223372036854775807):zM 306 [Zj b] [] (.tup [Zj (RO b),bA (decide (0<b.level))]) []:=by
 unfold RO;by_cases h1:b.level<=0
 .rw[zA4 h1,zA6 zB];refine eM call306 λF hF=>?_
  exact ly
 .rw[Os h1,zA7 zB];refine eM call306 λF hF=>?_
  exact ly
def eo (b:Bk) (h:b.level<=9223372036854775807):zM 241 [Zj b] [] (.tup [Zj (RO b),bA (decide (0<b.level))]) []:=by
 unfold RO;by_cases h1:b.level<=0
 .rw[zA4 h1,zA6 zB];refine eM call241 λF hF=>?_
  exact ly
 .rw[Os h1,zA7 zB];refine eM call241 λF hF=>?_
  exact ly
def jZ (l:List Tk) (s:Int):Bool:=decide (0<=s/\s<ln l)&&(l.getD s.toNat dd).used
def Zd (l:List Tk) (s:Int):zM 303 [zE yN l,iA s] [] (bA (jZ l s)) []:=by
 have hl:=zA yN l;unfold jZ;by_cases h1:0<=s
 .by_cases h2:s<ln l
  .have u:=yF yN l s h1 h2;rw[zA7 ⟨h1,h2⟩,zBg];refine eM call303 λF hF=>?_
   exact ly
  .rw[zA6 zB,zB7];refine eM call303 λF hF=>?_
   exact ly
 .rw[zA6 zB,zB7];refine eM call303 λF hF=>?_
  exact ly
def Ir (a b:Int):Bool:=decide (b≠0/\(a=0\/b<a))
def Df (a b:Int):zM 392 [iA a,iA b] [] (bA (Ir a b)) []:=by
 unfold Ir
 by_cases h1:b=0<;>by_cases h2:a=0<;>by_cases u:b<a<;>simp only[zD9,h1,h2,u,zFl,zFk,zGr,zFo,true_and,false_and,or_true,true_or,or_false,zF4,zFy]<;>first|(exfalso;omega;done)|((refine eM call392 λF hF=>?_);exact ly)
def AR (a b:Int):zM 367 [iA a,iA b] [] (bA (Ir a b)) []:=by
 unfold Ir
 by_cases h1:b=0<;>by_cases h2:a=0<;>by_cases u:b<a<;>simp only[zD9,h1,h2,u,zFl,zFk,zGr,zFo,true_and,false_and,or_true,true_or,or_false,zF4,zFy]<;>first|(exfalso;omega;done)|((refine eM call367 λF hF=>?_);exact ly)
def Ub (t:Tk) (f3:Int):Bool:=decide (t.til≠0/\t.til<f3)
def IK (t:Tk) (f3:Int):zM 264 [yN t,iA f3] [] (bA (Ub t f3)) []:=by
 unfold Ub
 by_cases h1:t.til=0<;>by_cases h2:t.til<f3<;>simp only[zD9,h1,h2,zFl,zFk,zGr,zFo,zF4,zFy]<;>first|(exfalso;omega;done)|((refine eM call264 λF hF=>?_);exact ly)
def Tb:Tk:=⟨false,[],-1,0,0,0⟩
def Yd:zM 258 [] [] (yN Tb) []:=by
 refine eM call258 λF hF=>?_
 exact ly
def eJ (f:α->AV) (l:List α):AV.sl false ((l.map f).take (l.map f).length)=zE f l:=by rw[zA8];rfl
def dV (_:Nat) (l:List α):List α:=l
def TK (l:List Int) (hl:ln l<=1073741824):zM 111 [zE iA l] [] (zE iA l) []:=by
 have u:=zA iA l;refine eM call111 λF hF=>?_
 refine xI 0 Z (λcap z=>?_) ?_
 .have:l=[]:=by simpa using z
  subst this;exact ly
 ·(refine WW ?_)
  refine zI [] Z Z (eJ _ _) Z
def kU (l:List Int) (hl:ln l<=1073741824):zM 88 [zE yA l] [] (zE yA l) []:=by
 have u:=zA yA l;refine eM call88 λF hF=>?_
 refine xI 0 Z (λcap z=>?_) ?_
 .have:l=[]:=by simpa using z
  subst this;exact ly
 ·(refine WW ?_)
  refine zI [] Z Z (eJ _ _) Z
def AS (l:List Vh) (hl:ln l<=1073741824):zM 218 [zE vA l] [] (zE vA l) []:=by
 have u:=zA vA l;refine eM call218 λF hF=>?_
 refine xI 0 Z (λcap z=>?_) ?_
 .have:l=[]:=by simpa using z
  subst this;exact ly
 ·(refine WW ?_)
  refine zI [] Z Z (eJ _ _) Z
def VO (l:List Tk) (hl:ln l<=1073741824):zM 217 [zE yN l] [] (.ref 1001 0 (l.map yN).length) [(1001,.arr 6 (l.map yN) false)]:=by
 have u:=zA yN l;refine eM call217 λF hF=>?_
 refine xI 0 Z (λcap z=>?_) ?_
 .have:l=[]:=by simpa using z
  subst this
  (repeat' (first|refine Yf ?_|apply yW|apply xG|intro hc|fail))
  refine qG 2 1001 6 Z Z Z (xL ?_);exact zP [1001] Z Z Z Z
 .repeat' (first|(apply zG;first|refine uN tok Z Z ?_|(apply wR;refine wJ (xY tok (.inl ⟨rfl,rfl⟩) Z Z Z Z) Z ?_)|(apply yI;refine uX (nw:=[1001]) (yX tok 1001 (xs:=[]) Z Z Z Z Z Z Z Z Z) Z Z Z ?_)|(apply yD;refine vD tok Z Z Z Z Z Z Z (yM _ _ (λ_=>rfl)) Z Z Z zB Z ?_)|apply kP)|(first|apply xZ|apply xR|refine uD Z ?_|refine yR Z ?_|refine yE Z ?_|refine wA Z (λhc=>?_) λhc=>?_|apply xJ|apply xL|apply xQ|apply xB))
  exact zP [1001] Z Z Z Z
structure IL (l:List Tk):Prop where
 n:l.length<=1000000
 s:∀t∈l,t.sec.length<=1000000
theorem cG [Inhabited α] (f:α->AV) (l:List α) (i:Nat) (hi:i<ln l):(dV i (l.map f)).set i (f (l.getD i dd))=dV (i+1) (l.map f):=by
 unfold dV;have:=zJ f l i hi
 grind [dV,List.getElem?_eq_some_iff,List.set_getElem_self]
def VP (l:List Tk) (hb:IL l):zM 262 [zE yN l] [] (.ref 1001 0 (l.map yN).length) [(1001,.arr 6 (l.map yN) false)]:=by
 have c:=VO l (by have:=hb.n;omega);have A:=hb.n;have z:=zA yN l;refine eM call262 λF hF=>?_
 refine zU c ?_;refine zO ((l.map yN).length) [1001] [] [3,8] [9,3,8] Z (λi T U=>⟨(9,iA i)::T,(1001,.arr 6 (dV i (l.map yN)) false)::U⟩) (Lq ?_ ?_)
 .intro i hi;have hi':i<ln l:=by omega
  have B:(dV i (l.map yN))[i]? =some (yN (l.getD i dd)):=zJ yN l i hi';have e:=cG yN l i hi';have u:=kU (l.getD i dd).sec (by have:=hb.s (l.getD i dd) QP;omega);generalize (l.getD i dd)=t,dV i (l.map yN)=xs,dV (i+1) (l.map yN)=ys at *;subst e;refine zU u ?_;rfl
 ·(refine WW ?_)
  exact zP [1001] Z Z Z Z
def AT (a:Ag) (h1:ln a.sec<=1000000) (h2:ln a.lim<=1000000):zM 205 [uK a] [] (uK a) []:=by
 have u:=kU a.sec zB;have z:=TK a.lim zB;refine eM call205 λF hF=>?_
 exact mt (xU u z)
structure IM (r:Rg):Prop where
 tk:IL r.tk
 s:r.ag.sec.length<=1000000
 l:r.ag.lim.length<=1000000
 v:r.vh.length<=1000000
def rgX (r:Rg) (xs:List AV):AV:= .agg [iA r.num,zE yA r.ag.sec,iA r.ag.rights,iA r.ag.cls,zE iA r.ag.lim,iA r.ag.req,iA r.ag.ses,iA r.ag.rate,iA r.ag.burst,.sl false xs,zE vA r.vh,iA r.bk.level,iA r.bk.rate,iA r.bk.burst]
def cH (r:Rg) (hb:IM r):zM 219 [uR r] [] (uR r) []:=by
 have z:=AT r.ag hb.s hb.l;have C:=hb.tk.n;have hv:=hb.v;have u:=VO r.tk zB;have A:=AS r.vh zB;have B:=zA yN r.tk;refine eM call219 λF hF=>?_
 refine yH (xU z u) ?_;refine zO ((r.tk.map yN).length) [1001,1,2] [1,2] [1,2,14] [15,1,2,14] Z (λi T U=>⟨(15,iA i)::T,(1001,.arr 6 (dV i (r.tk.map yN)) false)::U⟩) (Lq ?_ ?_)
 .intro i hi;have hi':i<ln r.tk:=by omega
  have E:(dV i (r.tk.map yN))[i]? =some (yN (r.tk.getD i dd)):=zJ yN r.tk i hi';have e:=cG yN r.tk i hi';have u:=kU (r.tk.getD i dd).sec (by have:=hb.tk.s (r.tk.getD i dd) QP;omega);generalize (r.tk.getD i dd)=t,dV i (r.tk.map yN)=xs,dV (i+1) (r.tk.map yN)=ys at *;subst e;refine zU u ?_;rfl
 ·(refine zU A ?_)
  exact zI [] Z Z (zBp (rgX r) zA8) Z
theorem cM.lg3 (h:cM l) {r:Rq} (u:r∈l):1<=ln r.legs/\r.legs.length<=3:=by
 have:=XB (h.ok r u).lg;omega
theorem cM.filter (h:cM l) (p:Rq->Bool):cM (l.filter p):=
 ⟨λr u=>h.ok r (zEu.1 u).1,h.so.filter p,zB9 (zCv _ _) h.n4⟩
def XH (l:List Lg) (hl:ln l<=1000):zM 169 [zE yO l] [] (zE yO l) []:=by
 have u:=zA yO l;refine eM call169 λF hF=>?_
 refine xI 0 Z (λcap z=>?_) ?_
 .have:l=[]:=by simpa using z
  subst this;exact ly
 ·(refine WW ?_)
  refine zI [] Z Z (eJ _ _) Z
def TL (r:Rq) (hl:ln r.legs<=1000):zM 265 [zY r] [] (zY r) []:=by
 have c:=XH r.legs hl;have u:=zA yO r.legs;refine eM call265 λF hF=>?_
 exact mx c
theorem cV (p:Rq->Bool) (f4:List Rq) (x:Rq):((f4++[x]).filter p).map zY=(f4.filter p).map zY++(if p x=true then [x]else []).map zY:=by grind
def Xd (fn:Nat) (v:Int) (p:Rq->Bool) (l:List Rq) (G:ln l<=1000) (hb:∀r∈l,ln r.legs<=1000) (c:∀x,zM fn [zY x,.ptr 3 0 0] [(3,.box [iA v])] (bA (p x)) [(3,.box [iA v])]):
  zM 222 [zE zY l,.fn fn [.ptr 3 0 0]] [(3,.box [iA v])] (zE zY (l.filter p)) [(3,.box [iA v])]:=by
 have hl:=zA zY l;refine eM call222 λF hF=>?_
 refine WW ?_;refine zS 5 1001 5 Z Z Z ?_;refine zQ (l) [1001,3] [3] [1,8,9] [5,10,1,8,9] Z (λi f4 T U=>⟨(5,.ref 1001 0 ((f4.filter p).map zY).length)::(10,iA i)::T,(1001,.arr 5 ((f4.filter p).map zY) true)::U⟩) (Lq ?_ ?_)
 .intro i f4 x post z hi;have I:=zZ zY z hi;have E:=zV z hi;have B:(f4.filter p).length<=i:=by rw[<-hi];exact zCv _ _
  have C:=zA zY (f4.filter p);have u:=c x;have A:=TL x (hb x (yU z));have e:=cV p f4 x;rw[e];clear z e;generalize (f4.filter p).map zY=R at*
  cases h:p x with
  |false=>
   rw[h]at u;rw[Os zBl];refine zU u ?_;rw[zCx,zB1];rfl
  |true=>
   rw[h]at u;rw[zA4 Z];refine yH (xU u A) ?_;rfl
 ·(refine WW ?_)
  exact zP [3] Z Z (eJ _ _) Z
def TM (p:α->Bool) (l:List α):Int:=if l.any p=true then(l.findIdx p:Int)else -1
theorem OE {p:α->Bool} {l f4 post:List α} {x:α} (h:l=f4++x::post) (u:∀y∈f4,p y=false) (z:p x=true):TM p l=(ln f4:Int):=by grind [TM]
theorem bW {p:α->Bool} {l:List α} (u:∀y∈l,p y=false):TM p l= -1:=by grind [TM]
theorem Wd {p:α->Bool} {l:List α} (h:l.any p=true):0<=TM p l/\TM p l<ln l:=by grind [TM]
def D3 (id:Int) (x:Rq):zM 387 [zY x,.ptr 3 0 0] [(3,.box [iA id])] (bA (x.id==id)) [(3,.box [iA id])]:=by
 refine eM call387 λF hF=>?_
 refine WW ?_;exact zP [3] Z Z Z Z
def C3 (id:Int) (l:List Rq) (hb:ln l<=1000):zM 386 [zE zY l,.fn 387 [.ptr 3 0 0]] [(3,.box [iA id])] (iA (TM (λr:Rq=>r.id==id) l)) [(3,.box [iA id])]:=by
 have hl:=zA zY l;refine eM call386 λF hF=>?_
 refine WW ?_;refine uS (l) [3] [3] [0,1,7] [8,0,1,7] Z (λi f4 T U zs=>(∀y∈f4,(y.id==id)=false)/\zs=⟨(8,iA i)::T,U⟩) (Lp ?_ ?_ ?_)
 .exact⟨by simp,rfl⟩
 .rintro i f4 x post st z hi ⟨hp,rfl⟩;have A:=zZ zY z hi;have C:=zV z hi;have c:=D3 id x;have u:=OE (p:=λr:Rq=>r.id==id) z hp
  cases B:(x.id==id)<;>rw[B]at c
  .clear z u;refine zU c ?_;exact⟨λy A=>by simp only[zBq,zBz]at A;rcases A with A|rfl;exact hp y A;exact B,rfl⟩
  .rw[u B,hi];clear z u;refine zU c ?_;exact zP [3] Z Z Z Z
 .rintro st ⟨hp,rfl⟩;rw[bW hp];refine WW ?_;exact zP [3] rfl rfl rfl rfl
def MT (l:List Rq) (id:Int) (hb:ln l<=1000):zM 356 [zE zY l,iA id] [] (iA (TM (λr:Rq=>r.id==id) l)) []:=by
 have c:=C3 id l hb;generalize TM (λr:Rq=>r.id==id) l=n at *;refine eM call356 λF hF=>?_
 exact mx c
def A3 (f3:Int) (x:Rq):zM 223 [zY x,.ptr 3 0 0] [(3,.box [iA f3])] (bA (decide (f3<=x.til))) [(3,.box [iA f3])]:=by
 cases hb:decide (f3<=x.til)with
 |false=>
  rw[zBh]at hb;refine eM call223 λF hF=>?_
  refine WW ?_;exact zP [3] Z Z Z Z
 |true=>
  rw[zBb]at hb;refine eM call223 λF hF=>?_
  refine WW ?_;exact zP [3] Z Z Z Z
def j4 (v:Int) (x:Rq):zM 350 [zY x,.ptr 3 0 0] [(3,.box [iA v])] (bA (x.vh != v)) [(3,.box [iA v])]:=by
 refine eM call350 λF hF=>?_
 refine WW ?_;exact zP [3] Z Z Z Z
def o4 (v:Int) (x:Rq):zM 357 [zY x,.ptr 3 0 0] [(3,.box [iA v])] (bA (x.id != v)) [(3,.box [iA v])]:=by
 refine eM call357 λF hF=>?_
 refine WW ?_;exact zP [3] Z Z Z Z
def KH (l:List Rq) (f3:Int):List Rq:=l.filter λx=>decide (f3<=x.til)
def TN (l:List Rq) (v:Int):List Rq:=l.filter λx=>x.vh != v
def TO (l:List Rq) (id:Int):List Rq:=l.filter λx=>x.id != id
def kV (l:List Rq) (id:Int):Bool:=l.any λx=>x.id==id
def bo (l:List Rq) (f3:Int) (hv:cM l):zM 175 [zE zY l,iA f3] [] (zE zY (KH l f3)) []:=by
 have z:=hv.n4;have c:=Xd 223 f3 _ l zB (λr u=>by have:=hv.lg3 u;omega) (A3 f3);unfold KH;generalize l.filter _=A at *;refine eM call175 λF hF=>?_
 exact mx c
def IN (l:List Rq) (v:Int) (hv:cM l):zM 308 [zE zY l,iA v] [] (zE zY (TN l v)) []:=by
 have z:=hv.n4;have c:=Xd 350 v _ l zB (λr u=>by have:=hv.lg3 u;omega) (j4 v);unfold TN;generalize l.filter _=A at *;refine eM call308 λF hF=>?_
 exact mx c
def ao (l:List Rq) (id:Int) (hv:cM l):zM 311 [zE zY l,iA id] [] (.tup [zE zY (if kV l id=true then TO l id else []),iA (if kV l id=true then 0 else 12)]) []:=by
 have E:=hv.n4;have z:=TC l 4 hv zB;have u:=MT l id zB;have B:=Xd 357 id _ l zB (λr C=>by have:=hv.lg3 C;omega) (o4 id);unfold TO;generalize l.filter _=G at*
 cases hh:kV l id with
 |true=>
  have A:=Wd (p:=λx:Rq=>x.id==id) (l:=l) hh;generalize TM (λx:Rq=>x.id==id) l=n at *;rw[zA4 Z,zA4 Z];refine eM call311 λF hF=>?_
  exact mt (qL z u B)
 |false=>
  have A:=bW (p:=λx:Rq=>x.id==id) (l:=l) (by simpa [kV]using hh);rw[A]at u;rw[Os zBl,Os zBl];refine eM call311 λF hF=>?_
  exact mt (xU z u)
def eK (l:List Rq) (C:ln l<=1000) (hb:∀r∈l,ln r.legs<=1000):zM 187 [zE zY l] [] (zE zY l) []:=by
 have hl:=zA zY l;refine eM call187 λF hF=>?_
 refine WW ?_;refine zS 3 1001 5 Z Z Z ?_;refine zQ (l) [1001] [] [6,7] [3,8,6,7] Z (λi f4 T U=>⟨(3,.ref 1001 0 (f4.map zY).length)::(8,iA i)::T,(1001,.arr 5 (f4.map zY) true)::U⟩) (Lq ?_ ?_)
 .intro i f4 x post u hi;have G:=zZ zY u hi;have z:=zV u hi;have A:(f4.map zY).length=i:=by rw[zA5,hi]
  have E:=hb x (yU u);have B:=zA yO x.legs;have e:(f4++[x]).map zY=f4.map zY++[zY x]:=by simp
  clear u;rw[e];generalize f4.map zY=xs,l.map zY=I at *;refine WL ?_;rfl
 ·(refine WL ?_)
  exact zI [] Z Z (eJ _ _) Z
def Z4 (p:Rq->Bool) {f4 post:List Rq} {x:Rq} {i:Nat} (u:l=f4++x::post) (hi:ln f4=i):(f4.filter p).length<=i:=by rw[<-hi];exact zCv _ _
def bi (l:List Rq) (f3:Int) (hv:cM l):zM 130 [zE zY l,iA f3] [] (zE zY (KH l f3)) []:=by
 have E:=hv.n4;have hl:=zA zY l;have c:=eK (KH l f3) (by have:=(hv.filter λx=>decide (f3<=x.til)).n4;unfold KH;omega) (λr C=>by have:=(hv.filter _).lg3 C;omega);unfold KH at *;refine eM call130 λF hF=>?_
 refine WW ?_;refine zS 5 1001 5 Z Z Z ?_;refine zQ (l) [1001] [] [1,8,9] [5,10,1,8,9] Z (λi f4 T U=>⟨(5,.ref 1001 0 ((f4.filter λx=>decide (f3<=x.til)).map zY).length)::(10,iA i)::T,(1001,.arr 5 ((f4.filter λx=>decide (f3<=x.til)).map zY) true)::U⟩) (Lq ?_ ?_)
 .intro i f4 x post u hi;have G:=zZ zY u hi;have B:=zV u hi;have z:=Z4 (λx=>decide (f3<=x.til)) u hi;have A:=zA zY (f4.filter λx=>decide (f3<=x.til));have e:=cV (λx=>decide (f3<=x.til)) f4 x;rw[e];clear u e;generalize (f4.filter λx=>decide (f3<=x.til)).map zY=R at *;by_cases h:f3<=x.til
  .rw[zA4 NG];refine WW ?_;rfl
  .rw[Os NG];refine WW ?_;rw[zCx,zB1];rfl
 ·(have ga:=c;have kh:=(⟨⟩:su 187 [] [23]);refine WW ?_;clear ga kh)
  exact zH
def MU (l:List Rq) (v:Int) (hv:cM l):zM 290 [zE zY l,iA v] [] (zE zY (TN l v)) []:=by
 have E:=hv.n4;have hl:=zA zY l;have c:=eK (TN l v) (by have:=(hv.filter λx=>x.vh != v).n4;unfold TN;omega) (λr C=>by have:=(hv.filter _).lg3 C;omega);unfold TN at *;refine eM call290 λF hF=>?_
 refine WW ?_;refine zS 5 1001 5 Z Z Z ?_;refine zQ (l) [1001] [] [1,8,9] [5,10,1,8,9] Z (λi f4 T U=>⟨(5,.ref 1001 0 ((f4.filter λx=>x.vh != v).map zY).length)::(10,iA i)::T,(1001,.arr 5 ((f4.filter λx=>x.vh != v).map zY) true)::U⟩) (Lq ?_ ?_)
 .intro i f4 x post u hi;have G:=zZ zY u hi;have B:=zV u hi;have z:=Z4 (λx=>x.vh != v) u hi;have A:=zA zY (f4.filter λx=>x.vh != v);have e:=cV (λx=>x.vh != v) f4 x;rw[e];clear u e;generalize (f4.filter λx=>x.vh != v).map zY=R at *;by_cases h:x.vh≠v
  .rw[zA4 NG];refine WW ?_;rfl
  .rw[Os NG];refine WW ?_;rw[zCx,zB1];rfl
 ·(have ga:=c;have kh:=(⟨⟩:su 187 [] [23]);refine WW ?_;clear ga kh)
  exact zH
theorem mo {id:Int} (h:kV l id=false):TO l id=l:=by grind [kV,TO,List.filter_eq_self,List.any_eq_true]
theorem Zo {id:Int} (h:kV l id=true):(TO l id).length<ln l:=by simp_all [kV,TO]
def ai (l:List Rq) (id:Int) (hv:cM l):zM 245 [zE zY l,iA id] [] (.tup [zE zY (if kV l id=true then TO l id else []),iA (if kV l id=true then 0 else 12)]) []:=by
 have O:=hv.n4;have hl:=zA zY l;have B:=XC l 4 hv zB;have C:=eK (TO l id) (by have:=(hv.filter λx=>x.id != id).n4;unfold TO;omega) (λr M=>by have:=(hv.filter _).lg3 M;omega);have u:kV l id=false->(TO l id).length=ln l:=λh=>by rw[mo h]
 have z:=λh=>Zo (l:=l) (id:=id) h
 have G:=zA zY (TO l id);generalize kV l id=b at *;unfold TO at *;refine eM call245 λF hF=>?_
 refine zU B ?_;refine zS 6 1001 5 Z Z Z ?_;refine zQ (l) [1001] [] [0,1,12,13] [6,14,0,1,12,13] Z (λi f4 T U=>⟨(6,.ref 1001 0 ((f4.filter λx=>x.id != id).map zY).length)::(14,iA i)::T,(1001,.arr 5 ((f4.filter λx=>x.id != id).map zY) true)::U⟩) (Lq ?_ ?_)
 .intro i f4 x post A hi;have S:=zZ zY A hi;have L:=zV A hi;have E:=Z4 (λx=>x.id != id) A hi;have I:=zA zY (f4.filter λx=>x.id != id);have e:=cV (λx=>x.id != id) f4 x;rw[e];clear A e;generalize (f4.filter λx=>x.id != id).map zY=R at *;by_cases h:x.id≠id
  .rw[zA4 (show(x.id != id)=true by simpa using h)];refine WW ?_;rfl
  .rw[Os (show¬(x.id != id)=true by simpa using h)];refine WW ?_;rw[zCx,zB1];rfl
 .cases b with
  |false=>
   have u:=u Z;rw[Os zBl,Os zBl];exact ly
  |true=>
   have z:=z Z;rw[zA4 Z,zA4 Z]
   (have ga:=C;have kh:=(⟨⟩:su 187 [] [32]);refine WW ?_;clear ga kh)
   exact zH
section
variable {P:Program} {K0:List Nat} {F:Fr K0} {m:Nat}
def zv (n:Nat) {Q:Exit->St->Prop} {id:Nat} {l:List Oper} (z:P.follows .mixedOrders=true)
 (hk:yP P F m l.toArray true (l.take n) st [] (λfs s=>WX l n (NC l) fs.reverse=true/\yP P F m l.toArray false (l.drop n) s [] (λ_ s=>Q .normal s))):uG P F m (.region id l.toArray true) st Q:=by
 obtain⟨B,A,h1,h2,u⟩:=hk.run;exact JG n z h1 JK u.run
def Vd {l:List Oper} {n:Nat} {u:Array Oper} {fs:List FP} {z:St->Prop} (hc:WX l n (NC l) fs.reverse=true) (A:z st):yP P F m u true [] st fs (λfs s=>WX l n (NC l) fs.reverse=true/\z s):=⟨⟨[],st,rfl,hc,A⟩⟩
end
section
variable {P:Program} {TT:List TI} {st:St}
def AU (C:uV P TT) {l:Operand} {k:IntKind} (O:yY (zK st.tm) x= .s (.slice none 0 0)) (hl:yY (zK st.tm) l= .s (.int k 0)) (hT:TT[T]? =some ti) (hd:ti.d= .slice e) (I:TT[e]? =some te):
  wY P st (.slice T x (some l) none none) (.s (.slice none 0 0)) [] [] []:=
 yZ λR X tm h w β a G E W S B=>by
  obtain⟨d0,o0,y0,Y,U,V⟩:=R;dsimp only at G;subst G;have hc:=vT B E (x:=x) uO O;obtain⟨u,M,z⟩:=wI (C _ _ hT) w;obtain rfl:=uE (z.trans hd);have L:=qI (C _ _ I) w;have hb:=fN (P:=P) B E (lo:=some l) (hi:=none) (len:=0) (cap:=0) (l:=0) (r:=0) (λy A=>by cases A;simp[Op.operands]) (λy A=>by cases A) ⟨k,0,hl,zB⟩ rfl (zBa _) (zBa _) true;rw[zD8]at hb;exact⟨_,by simp only[execOp,Instr.sliceAt,Instr.slice,Sem.run_bind,M,Result.andThen_ok,hc,zD8,hb,L,Sem.run_pure];rfl,.fz _ _ (.s _)⟩
end
section
variable {P:Program} {TT:List TI} {K0:List Nat} {F:Fr K0} {m:Nat} {ops:Array Oper} {rest:List Oper} {Q:List FP->St->Prop} {tm:List (Nat×AV)} {h:List (Nat×xW)} {dr:Bool} {fs:List FP}
variable {ty:Nat} {pos:String} {after:Array Edge} {t:Nat}
def Ud (M:uV P TT) {u off:Nat} {d:Operand} {L ys:List AV} {I:AV} (z:yY (zK tm) d= .ref u off len) (hk:zD h u=some (.arr sz xs false)) (U:yY (zK tm) x=I) (hT:TT[T]? =some ti) (hd:ti.d= .slice e) (O:TT[e]? =some te)
 (E:CX (zD h) I=some L) (G:L.take len=ys) (C:∀y,ys[0]? =some y->ln y.cells=sz) (A:1<=ln ys) (B:Nat.beq sz te.size=true) (V:xs.take off++ys++xs.drop (off+ln ys)=zs) (R:Nat.blt t m=true)
 (S:yP P F m ops dr rest ⟨(t,.s (.int .i64 (ln ys)))::tm,(u,.arr sz zs false)::h⟩ (⟨true,[u],u::PP I⟩::fs) Q):yP P F m ops dr (⟨some t,.call ⟨.builtin .copy, #[d,x], #[T,T]⟩,ty,pos,after,none⟩::rest) ⟨tm,h⟩ fs Q:=by
 subst V;exact uX (nw:=[]) (IE M z hk U hT hd O E G C (.inl A) B) R Z Z S
def Y4 (u:uV P TT) {k:Nat} {xs:List AV} (B:yY (zK tm) x= .ref k 0 len) (hk:zD h k=some (.arr sz xs ⟨false,false⟩)) (hT:TT[T]? =some ti) (hd:ti.d= .slice e) (hl:1<=len) (z:Nat.blt t m=true)
 (A:∀c:Int,(ln xs:Int)<=c->yP P F m ops false rest ⟨(t,.s (.int .i64 c))::tm,h⟩ fs Q):yP P F m ops false (⟨some t,.call ⟨.builtin .cap, #[x], #[T]⟩,ty,pos,after,none⟩::rest) ⟨tm,h⟩ fs Q:=
 x_m (wd u B hk hT hd hl) z Z (λv d ⟨c,_,_,e⟩=>by subst e;rfl) (λv d ⟨c,e1,e2,e3⟩=>by subst e1 e3;exact A c e2)
def Bf (I:uV P TT) {k:Nat} {s:Operand} {vs:List AV} {G:AV} (R:yY (zK tm) s= .ref k 0 len) (hk:zD h k=some (.arr sz xs ⟨false,false⟩)) (S:yY (zK tm) x=G) (hT:TT[T]? =some ti) (hd:ti.d= .slice e) (L:TT[e]? =some te) (E:CX (zD h) G=some vs)
 (B:Nat.beq sz te.size=true) (C:∀y,vs[0]? =some y->ln y.cells=sz) (A:1<=ln vs) (hl:1<=len) (u:len+ln vs<=ln xs) (z:ln xs<=1073741824) (U:xs.take len++vs++xs.drop (len+ln vs)=zs) (M:Nat.blt t m=true)
 (O:yP P F m ops dr rest ⟨(t,.ref k 0 (len+ln vs))::tm,(k,.arr sz zs ⟨false,false⟩)::h⟩ (⟨true,[k],k::PP G⟩::fs) Q):yP P F m ops dr (⟨some t,.call ⟨.builtin .append, #[s,x], #[T,T]⟩,ty,pos,after,none⟩::rest) ⟨tm,h⟩ fs Q:=by
 subst U;exact uX (nw:=[]) (wi I R hk S hT hd L E B C A hl u z) M Z Z O
def W4 (Y:uV P TT) {I c n N:Nat} {s:Operand} {U:TI} {k0:IntKind} {nx:Int} {ys:List AV} {z:AV} (hs:yY (zK tm) s= .slc c ys) (hx:yY (zK tm) x= .s (.int .i64 nx)) (hT:TT[T]? =some ti) (hd:ti.d= .slice e) (he:TT[e]? =some te) (W:TT[I]? =some U) (C:U.d= .int k0)
 (hb:Nat.ble te.bytes 65536=true) (hp:Nat.ble 1 te.size=true) (S:Nat.beq (ln te.zero) te.size=true) (O:te.zero.all (·.oneCell')=true) (R:Nat.beq (uJ te).cells.length te.size=true) (B:(uJ te).cells=te.zero.map .s) (hz:uJ te=z)
 (G:nx=(n:Int)) (A:1<=n) (u:ln ys+n<=1073741824) (hc:c<ln ys+n) (M:∀(i:Nat) (y:AV),ys[i]? =some y->ln y.cells=te.size) (V:ys++oj n z=zs) (hN:ln zs=N) (hm:Nat.blt t m=true) (E:(zD h t).isNone=true)
 (L:te.size=sz) (hk:yP P F m ops dr rest ⟨(t,.ref t 0 N)::tm,(t,.arr sz zs false)::h⟩ (⟨true,[t,t],[]⟩::fs) Q):yP P F m ops dr (⟨some t,.call ⟨.builtin .append, #[s,x], #[T,I]⟩,ty,pos,after,none⟩::rest) ⟨tm,h⟩ fs Q:=by
 subst L hz hN V;exact uX (nw:=[t]) (Vn Y t hs hx hT hd he W C hb hp S O R B G A u hc M) hm (Db E) Z hk
end
theorem Yo (xs:List AV) (v:AV) (i:Nat) (hv:ln v.cells=5) (S:∀y∈xs,ln y.cells=5) (h1:1<=ln xs) (W:ln xs<=1000) (hi:i<=ln xs):
  zM 385 [.ref 1001 0 (ln xs),iA i,.ref 98 0 1] [(1001,.arr 5 (xs++[dG 5]) false),(98,.arr 5 [v] false)] (.ref 1001 0 (ln xs+1)) [(1001,.arr 5 (xs.take i++v::xs.drop i) false),(98,.arr 5 [v] false)]:=by
 have C:(xs++[dG 5]).length=ln xs+1:=by simp
 by_cases O:i=ln xs
 .subst O
  have U:(xs++[dG 5]).take (ln xs)++[v]++(xs++[dG 5]).drop (ln xs+[v].length)=xs.take (ln xs)++v::xs.drop (ln xs):=by
   rw[zDe (zBa _),zA8,zE9,zEh zW];simp
  refine eM call385 λF hF=>?_
  (repeat' (first|refine uQ ?_|apply yW|apply xG|intro hc|(apply zG;first|(apply gX;refine dP tok Z Z Z Z Z Z Z zB zB Z ?_)|(apply yD;refine Bf tok Z Z Z Z Z Z Z Z (λy z=>by cases z;exact hv) zW zB zW zB U Z ?_))|fail))
  exact zP [1001,98] Z Z Z Z
 .have R:i<ln xs:=by omega
  have e1:(xs++[dG 5]).drop i=xs.drop i++[dG 5]:=List.drop_append_of_le_length zB;have u:(xs.drop i).length=ln xs-i:=zB5
  have A:(((xs++[dG 5]).drop i).take (ln xs+1-i)).take (ln xs+1-(i+1))=xs.drop i:=by
   have e3:((xs++[dG 5]).drop i).take (ln xs+1-i)=xs.drop i++[dG 5]:=by rw[e1];exact zBf qB
   rw[e3,zDe zB,zBf zB]
  have G:(xs++[dG 5]).take (i+1)++xs.drop i++(xs++[dG 5]).drop (i+1+(xs.drop i).length)=xs.take (i+1)++xs.drop i:=by
   have e3:(xs++[dG 5]).drop (i+1+(xs.drop i).length)=[]:=zEh (by rw[C,u];omega);rw[e3,zB1,zDe zB]
  have E:∀y,(xs.drop i)[0]? =some y->ln y.cells=5:=λy z=>S y (zCd (zCq z))
  have B:(([v].drop 0).take 1).take (ln xs+1-i)=[v]:=zBf qB
  have I:(xs.take (i+1)++xs.drop i).take i++[v]++(xs.take (i+1)++xs.drop i).drop (i+[v].length)=xs.take i++v::xs.drop i:=by
   have L:(xs.take (i+1)).length=i+1:=by rw[zBt];omega
   rw[zDe zB,List.take_take,Nat.min_eq_left zB,show i+[v].length=(xs.take (i+1)).length by rw[L];rfl,List.drop_left,zBx];rfl
  refine eM call385 λF hF=>?_
  (repeat' (first|refine uQ ?_|apply yW|apply xG|intro hc|(apply zG;apply xP;(refine vH 399 ?_;refine wJ (FI tok Z Z Z Z Z Z zB zB Z Z Z zB Z Z Z Z Z) Z ?_))|(apply zG;first|(apply gX;first|refine dP tok Z Z Z Z Z Z Z zB zB Z ?_|refine wJ (yi (N:=ln xs+1) tok Z Z Z Z Z Z zB zB zB zB) Z ?_)|(refine Ud tok Z Z Z Z Z Z Z (by first|exact A|exact B) (by first|exact E|(intro y z;cases z;exact hv)) (by first|(rw[u];omega)|simp) Z (by first|exact G|exact I) Z ?_)|(refine Y4 tok Z Z Z Z zB Z ?_;intro V M))|fail))
  exact zP [1001,98] Z Z Z Z
theorem Xo (xs:List AV) (v:AV) (i c:Nat) (hv:ln v.cells=5) (L:∀y∈xs,ln y.cells=5) (h1:1<=ln xs) (hn:ln xs<=1000) (hi:i<=ln xs) (hc:c<ln xs+1):
  zM 385 [.slc c xs,iA i,.ref 98 0 1] [(98,.arr 5 [v] false)] (.sl false (xs.take i++v::xs.drop i)) [(98,.arr 5 [v] false)]:=by
 have z:∀(j:Nat) (y:AV),xs[j]? =some y->ln y.cells=5:=λj y A=>L y (zCq A)
 by_cases Y:i=ln xs
 .subst Y;refine eM call385 λF hF=>?_
  (repeat' (first|refine uQ ?_|apply yW|apply xG|intro hc|(apply zG;first|(refine wJ (AM tok Z Z Z) Z ?_)|(apply gX;refine vd 10 Z h1 ?_;refine FF tok Z Z Z Z Z (z 0) zB zB Z Z ?_)|(apply yD;refine uX (nw:=[25]) (xi tok 25 Z Z Z Z Z Z Z Z Z Z (λy A=>by cases A;exact hv) zW qB qB z) Z Z Z ?_))|fail))
  refine zP [98] Z Z ?_ Z
  show AV.sl false ((xs++[v]).take (xs++[v]).length)=_
  rw[zA8,zA8,zE9]
 .have ac:i<ln xs:=by omega
  have B:(xs.drop i).length=ln xs-i:=zB5;have u:(xs.take i).length=i:=by rw[zBt];omega
  have O:∀(j:Nat) (y:AV),(xs.take i)[j]? =some y->ln y.cells=5:=λj y A=>L y (zCz (zCq A))
  have M:∀y,(xs.drop i)[0]? =some y->ln y.cells=5:=λy A=>L y (zCd (zCq A))
  have ag:∀y,xs[0]? =some y->ln y.cells=5:=z 0;have I:((ln xs:Int)+1-(i:Int))=((ln xs+1-i:Nat):Int):=by omega
  have U:∃zs,xs.take i++oj (ln xs+1-i) (AV.agg [.s (.int .i64 0),.s (.int .i64 0),.s (.int .i64 0),.s (.int .i64 0),.s (.slice none 0 0)])=zs:=⟨_,rfl⟩;obtain⟨zs,C⟩:=U;have hN:ln zs=ln xs+1:=by rw[<-C,zA9,u,zC5];omega
  have V:zs.take i=xs.take i:=by rw[<-C,zDe zB,zBf zB]
  have E:(([v].drop 0).take 1).take (ln xs+1-i)=[v]:=zBf qB;have G:(xs.drop i).take (ln xs+1-(i+1))=xs.drop i:=zBf zB;have R:zs.take i++[v]++zs.drop (i+[v].length)=xs.take i++[v]++zs.drop (i+1):=by rw[V];rfl
  have W:(xs.take i++[v]).length=i+1:=by rw[zA9,u];rfl
  have S:(xs.take i++[v]++zs.drop (i+1)).take (i+1)++xs.drop i++(xs.take i++[v]++zs.drop (i+1)).drop (i+1+(xs.drop i).length)=xs.take i++v::xs.drop i:=by
   have e3:(xs.take i++[v]++zs.drop (i+1)).drop (i+1+(xs.drop i).length)=[]:=zEh (by rw[zA9,W,zB5,hN,B];omega);rw[e3,zB1,zDe zB,zBf zB,zBx];rfl
  refine eM call385 λF hF=>?_
  (repeat' (first|refine uQ ?_|apply yW|apply xG|intro hc|(apply zG;first|(refine wJ (AM tok Z Z Z) Z ?_)|(refine wJ (Xn tok Z Z Z) Z ?_)|(apply gX;first|(refine vd 10 Z h1 ?_;refine FF tok Z Z Z Z Z (z 0) zB zB Z Z ?_)|refine wJ (Wn tok Z Z Z Z Z hi) Z ?_|refine dP tok Z Z Z Z Z Z Z zB zB Z ?_|refine FF tok Z Z Z Z Z (z 0) zB zB Z Z ?_)|(apply yD;refine W4 tok (n:=ln xs+1-i) Z Z Z Z Z Z Z Z Z Z Z Z Z Z I zB (by rw[u];omega) (by rw[u];omega) O C hN Z Z Z ?_)|(first|(refine vd 0 Z h1 ?_;refine Ud tok Z Z Z Z Z Z Z E (λy A=>by cases A;exact hv) zW Z R Z ?_)|refine Ud tok Z Z Z Z Z Z Z G M (by rw[B];omega) Z S Z ?_))|fail))
  refine zP [98] Z Z ?_ Z
  show AV.sl false ((xs.take i++v::xs.drop i).take (ln xs+1))=_
  rw[zBf (by rw[zA9,u,zBj,B];omega)]
def yv (v:AV) (hv:ln v.cells=5):
  zM 385 [.s (.slice none 0 0),iA 0,.ref 98 0 1] [(98,.arr 5 [v] false)] (.sl false [v]) [(98,.arr 5 [v] false)]:=by
 refine eM call385 λF hF=>?_
 (repeat' (first|refine uQ ?_|apply yW|apply xG|intro hc|(apply zG;first|(apply gX;refine wJ (AU tok Z Z Z Z Z) Z ?_)|(apply yD;refine kX tok Z Z Z Z Z Z (λy u=>by cases u;exact hv) Z Z Z zW Z ?_))|fail))
 exact zP [98] Z Z Z Z
def vN (x:Rq):zM 273 [zY x] [] (bA true) []:=by
 refine eM call273 λF hF=>?_
 exact ly
def Wo (l:List Rq) (E:ln l<=1000) (hb:∀r∈l,ln r.legs<=1000):
  zM 222 [zE zY l,.fn 273 []] [] (.ref 1001 0 (l.map zY).length) [(1001,.arr 5 (l.map zY) false)]:=by
 have hl:=zA zY l;refine eM call222 λF hF=>?_
 refine WW ?_;refine zS 5 1001 5 Z Z Z ?_;refine zQ (l) [1001] [] [1,8,9] [5,10,1,8,9] Z (λi f4 T U=>⟨(5,.ref 1001 0 (f4.map zY).length)::(10,iA i)::T,(1001,.arr 5 (f4.map zY) true)::U⟩) (Lq ?_ ?_)
 .intro i f4 x post u hi;have G:=zZ zY u hi;have C:=zV u hi;have B:=zA zY f4;have z:=vN x;have A:=TL x (hb x (yU u));have e:(f4++[x]).map zY=f4.map zY++[zY x]:=by simp
  rw[e];clear u e;generalize f4.map zY=R at *;refine yH (xU z A) ?_;rfl
 ·(repeat' (first|refine Yf ?_|apply yW|apply xG|intro hc|fail))
  refine kW [1001] [4] Z Z ?_;refine kE 1001 [4] Z Z Z Z Z (xL ?_);exact zP [1001] Z Z Z Z
def Vo:zM 222 [zE zY [],.fn 273 []] [] (.s (.slice none 0 0)) []:=by
 refine eM call222 λF hF=>?_
 refine WW ?_;refine zQ (([]:List Rq)) [] [] [1,8,9] [5,10,1,8,9] Z (λi f4 T U=>⟨(5,.s (.slice none 0 0))::(10,iA i)::T,U⟩) (Lq ?_ ?_)
 .intro i f4 x post u hi
  cases f4<;>cases u
 ·(refine WW ?_)
  exact zP [] Z Z Z Z
def FQ (l:List Rq) (u:ln l<=1000) (hb:∀r∈l,ln r.legs<=1000):
  zM 225 [zE zY l] [] (.ref 1001 0 (l.map zY).length) [(1001,.arr 5 (l.map zY) false)]:=by
 have c:=Wo l u hb;refine eM call225 λF hF=>?_
 refine zU c ?_;exact zP [1001] Z Z Z Z
def TP:zM 225 [zE zY []] [] (.s (.slice none 0 0)) []:=by
 have c:=Vo;refine eM call225 λF hF=>?_
 refine zU c ?_;exact zP [] Z Z Z Z
section
variable {P:Program} {K0:List Nat} {F:Fr K0} {m:Nat}
def FR (n len:Nat) {Q:Exit->St->Prop} {id:Nat} {l:List Oper} (u:Nat.beq (ln l) len=true) (z:P.follows .mixedOrders=true)
 (hk:yP P F m l.toArray true (l.take n) st [] (λfs s=>WX l n (NC l) fs.reverse=true/\yP P F m l.toArray false (l.drop n) s [] (λ_ s=>Q .normal s))):uG P F m (.region id l.toArray true) st Q:=zv n z hk
end
def XI (l:List Rq) (id:Int):Nat:=l.findIdx λr=>!decide (r.id<id)
def Sd (l:List Rq) (id:Int):XI l id<=ln l:=List.findIdx_le_length
theorem Rd {id:Int} {i:Nat} (h:i<XI l id):(l.getD i dd).id<id:=by grind [XI]
theorem Pd {id:Int} (h:XI l id<ln l):¬(l.getD (XI l id) dd).id<id:=by grind [XI]
def gO (id:Int) (v:Vh) (u:Int) (x:List Lg) (f3:Int):Rq:=⟨id,v.id,v.cls,f3+u,x⟩
def fA (l:List Rq) (r:Rq):List Rq:=l.take (XI l r.id)++r::l.drop (XI l r.id)
def PC (l:List Rq) (q id u:Int) (x:List Lg):Int:=
 if¬(0<=id/\id<=4294967295/\1<=u/\u<=600/\AH x=true)then 8 else if kV l id=true then 11 else if q<=ln l\/4<=(ln l:Int)then 14 else 0
theorem Uo (l:List Rq) (q id:Int) (v:Vh) (u:Int) (x:List Lg) (f3:Int) (hv:cM l) (hq:(ln l:Int)<=q) (v0:0<=v.id) (v1:v.id<=4294967295) (w0:0<=v.cls) (w1:v.cls<=3) (n0:0<=f3) (n1:f3<=1073741824):
  zM 353 [zE zY l,iA q,iA id,vA v,iA u,zE yO x,iA f3] [] (.tup [zE zY (if PC l q id u x=0 then fA l (gO id v u x f3)else []),iA (PC l q id u x)]) []:=by
 have h4:=hv.n4;have hl:=zA zY l;have G:=TC l q hv hq;have A:=MK v.id;have B:=Fc v.cls;have C:=Rf f3;have z:=MK id;have I:=Sf x;have M:=MT l id zB;rw[zA7 ⟨v0,v1⟩]at A;rw[zA7 ⟨w0,w1⟩]at B;rw[zA7 ⟨n0,n1⟩]at C;by_cases S:0<=id/\id<=4294967295
 case neg=>
  rw[zA6 S]at z;have e:PC l q id u x=8:=zA4 λh=>S ⟨h.1,h.2.1⟩
  rw[e,Os xA];refine eM call353 λF hF=>?_
  exact mt (PZ G A B C z)
 rw[zA7 S]at z;by_cases g2:1<=u/\u<=600
 case neg=>
  have e:PC l q id u x=8:=zA4 λh=>g2 ⟨h.2.2.1,h.2.2.2.1⟩
  rw[e,Os xA];by_cases g3:1<=u
  all_goals
   (refine eM call353 λF hF=>?_)
   exact mt (PZ G A B C z)
 obtain⟨g2,g3⟩:=g2
 cases R:AH x with
 |false=>
  rw[R]at I;have e:PC l q id u x=8:=zA4 λh=>zBl (R.symm.trans h.2.2.2.2)
  rw[e,Os xA];refine eM call353 λF hF=>?_
  exact mt (Wb G A B C z I)
 |true=>
 rw[R]at I
 have O:PC l q id u x=if kV l id=true then 11 else if q<=ln l\/4<=(ln l:Int)then 14 else 0:=Os λh=>h ⟨S.1,S.2,g2,g3,R⟩
 cases hh:kV l id with
 |true=>
  have hx:=Wd (p:=λx:Rq=>x.id==id) (l:=l) hh;generalize TM (λx:Rq=>x.id==id) l=n at *;have e:PC l q id u x=11:=by rw[O,zA4 hh]
  rw[e,Os xA];refine eM call353 λF hF=>?_
  exact mt (ry G A B C z I M)
 |false=>
 have hx:=bW (p:=λx:Rq=>x.id==id) (l:=l) (by simpa [kV]using hh);rw[hx]at M;rw[Os CJ]at O;by_cases g4:q<=ln l\/4<=(ln l:Int)
 case pos=>
  rw[zA4 g4]at O;rw[O,Os xA];by_cases g5:q<=ln l
  ·(refine eM call353 λF hF=>?_)
   exact mt (ry G A B C z I M)
  .have g6:4<=(ln l:Int):=g4.resolve_left g5;refine eM call353 λF hF=>?_
   exact mt (ry G A B C z I M)
 rw[Os g4]at O;rw[O,zA4 Z];have ax:=XB R;have c8:=XH x zB;have hk:=Sd l id;have V:=λi h=>Rd (l:=l) (id:=id) (i:=i) h
 have W:=Pd (l:=l) (id:=id)
 have E:(l.map zY).take (XI l id)++zY (gO id v u x f3)::(l.map zY).drop (XI l id)=(fA l (gO id v u x f3)).map zY:=by
  unfold fA gO;rw[zBc,zCn,zEj,zD0]
 have ap:((fA l (gO id v u x f3)).map zY).length=(l.map zY).length+1:=by
  rw[<-E,zA9,zBj,zBt,zB5];omega
 have h5:∀y∈l.map zY,ln y.cells=5:=λy hy=>by
  obtain⟨r,_,rfl⟩:=zCo.1 hy;rfl
 have r1:=λh=>Yo (l.map zY) (zY (gO id v u x f3)) (XI l id) Z h5 h zB zB
 have L:=λh c hc=>Xo (l.map zY) (zY (gO id v u x f3)) (XI l id) c Z h5 h zB zB hc
 have r3:=yv (zY (gO id v u x f3)) Z;rw[E]at r1 L;have d1:=FQ l zB (λr hr=>by have:=hv.lg3 hr;omega);clear hv R;have hR:zE zY (fA l (gO id v u x f3))=AV.sl false ((fA l (gO id v u x f3)).map zY):=rfl;rw[hR];by_cases ag:l=[]
 .subst ag;have d0:=TP;have hY:(fA [] (gO id v u x f3)).map zY=[zY (gO id v u x f3)]:=rfl;rw[hY];clear r1 L hY hR E ap;refine eM call353 λF hF=>?_
  refine yH (ry G A B C z I M) ?_;refine zO (0) [10] [10] [0,2,4,5,6,10] [16,0,2,4,5,6,10] Z (λi T U=>⟨(16,iA i)::T,U⟩) (Lq ?_ ?_)
  .intro i hi;omega
  .exact mt (qL c8 d0 r3)
 have au:1<=ln l:=by
  cases l with
  |nil=>exact absurd Z ag
  |cons a b=>simp
 have r1:=r1 zB;have L:=L zB;clear r3 hR E;generalize (fA l (gO id v u x f3)).map zY=Y at *;refine eM call353 λF hF=>?_
 refine yH (ry G A B C z I M) ?_;refine zO (XI l id) [10] [10] [0,2,4,5,6,10] [16,0,2,4,5,6,10] Z (λi T U=>⟨(16,iA i)::T,U⟩) (Lq ?_ ?_)
 .intro i hi;have hy:=zJ zY l i zB;have av:=V i hi;generalize l.getD i dd=r at *;refine WW ?_;rfl
 .clear V;by_cases ac:XI l id<ln l
  case' pos=>
   have hy:=zJ zY l (XI l id) ac;have ar:=W ac;generalize l.getD (XI l id) dd=r at*
  all_goals clear W
  all_goals generalize XI l id=k at*
  all_goals (have ga:=c8;have ge:=d1;(repeat' (first|refine WS ?_|refine SG (I2 (λhc=>?_) λhc=>?_)|refine SG λhc=>?_|(apply zG;first|refine SM ?_)|(first|refine FR 5 8 Z Z ?_|first|refine SR ?_|refine SK (I2 (λhc=>?_) λhc=>?_)|refine SK λhc=>?_|fail)|fail))<;>clear ga ge)
  all_goals refine Vd gS ?_
  all_goals refine Y3 95 1001 ((l.map zY).length+1) [98] [96,98] (st':=⟨[(96,iA k),(98,.ref 98 0 1)],[(98,.arr 5 [zY (gO id v u x f3)] false)]⟩) Z Z zB zB zB Z Z Z (λc hc=>?_) ?_
  case' pos.refine_1|neg.refine_1=>
   have L:=L c hc;exact mx L
  all_goals rw[show(l.map zY).length+1-(l.map zY).length=1 by omega]
  all_goals (refine zU r1 ?_)
  all_goals (refine zI [] Z Z ?_ Z;show AV.tup [AV.sl false (Y.take ((l.map zY).length+1)),iA 0]=_;rw[zBf zB])
