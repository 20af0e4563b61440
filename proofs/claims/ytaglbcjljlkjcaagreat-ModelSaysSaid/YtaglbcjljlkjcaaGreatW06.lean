/- Part 6. -/
import Derived.Test.YtaglbcjljlkjcaaGreatW05
namespace Go.Proofs.YtaglbcjljlkjcaaGreat.Av
open Tryz
set_option linter.all false
set_option maxRecDepth 4000
set_option maxHeartbeats 2000000
open List renaming length->ln,replicate->pb
open Inhabited renaming default->dd
variable {xs zs:List AV}{l:List Rq}{T e len sz:Nat}{x:Operand}{st:St}{te ti:TI}{α:Type}
def PV (r:Int):Bool:=decide (0<=r/\r<=63)
def XB (r:Int):zN 371 [iA r] [] (bA (PV r)) []:=by
 unfold PV
 by_cases h1:0<=r<;>by_cases h2:r<=63<;>simp only[h1,h2,zGc,zE8,zFn,zFh]<;>first|(exfalso;omega;done)|((refine eM call371 λF hF=>?_);exact ly)
def XC (r:Int):zN 326 [iA r] [] (bA (PV r)) []:=by
 unfold PV
 by_cases h1:0<=r<;>by_cases h2:r<=63<;>simp only[h1,h2,zGc,zE8,zFn,zFh]<;>first|(exfalso;omega;done)|((refine eM call326 λF hF=>?_);exact ly)
def Fm:∀a b:_root_.Fin 64,(W2 a.val b.val==0)=(jI a.val b.val==(a.val:Int)):=by decide +kernel
def Rc (a b:Int):Bool:=PV a&&PV b&&(jI a b==a)
theorem Yu (a b:Int):(PV a&&PV b&&(W2 a b==0))=Rc a b:=by
 unfold Rc
 cases u:PV a<;>cases hb:PV b<;>simp only[zA3,zBt,zCp,zDd]
 simp only[PV,zAx]at u hb;have:=Fm ⟨a.toNat,zB⟩ ⟨b.toNat,zB⟩
 grind
def AF (a b:Int):zN 391 [iA a,iA b] [] (bA (Rc a b)) []:=by
 have u:=XB a;have z:=XB b;rw[<-Yu]
 cases h1:PV a<;>cases h2:PV b<;>rw[h1]at u<;>rw[h2]at z<;>simp only[zA3,zBt,zCp]<;>((refine eM call391 λF hF=>?_);exact mx (xV u z))
def JQ (a b:Int):zN 366 [iA a,iA b] [] (bA (Rc a b)) []:=by
 have u:=XC a;have z:=XC b;unfold Rc
 cases h1:PV a<;>cases h2:PV b<;>rw[h1]at u<;>rw[h2]at z<;>simp only[zA3,zBt,zCp]<;>((refine eM call366 λF hF=>?_);exact mx (xV u z))
def MC (k:Int):Int:=if k=6\/k=7\/k=8 then 1 else if k=4\/k=5 then 2 else if k=2 then 4 else if k=3 then 8 else if k=10 then 16 else if k=11 then 32 else 0
theorem JR (k:Int):(k=6/\MC k=1)\/(k=7/\MC k=1)\/(k=8/\MC k=1)\/(k=4/\MC k=2)\/(k=5/\MC k=2)\/(k=2/\MC k=4)\/(k=3/\MC k=8)\/(k=10/\MC k=16)\/(k=11/\MC k=32)\/
  (k≠6/\k≠7/\k≠8/\k≠4/\k≠5/\k≠2/\k≠3/\k≠10/\k≠11/\MC k=0):=by
 by_cases A:k=6
 .grind [MC]
 by_cases B:k=7
 .grind [MC]
 by_cases C:k=8
 .grind [MC]
 by_cases u:k=4
 .grind [MC]
 by_cases z:k=5
 .grind [MC]
 by_cases h2:k=2
 all_goals grind [MC]
def Em (k:Int):zN 370 [iA k] [] (iA (MC k)) []:=by
 rcases JR k with⟨h,e⟩|⟨h,e⟩|⟨h,e⟩|⟨h,e⟩|⟨h,e⟩|⟨h,e⟩|⟨h,e⟩|⟨h,e⟩|⟨h,e⟩|⟨h1,h2,u,z,A,B,C,E,G,e⟩<;>rw[e]<;>((refine eM call370 λF hF=>?_);exact ly)
def Kh (k:Int):zN 327 [iA k] [] (iA (MC k)) []:=by
 rcases JR k with⟨h,e⟩|⟨h,e⟩|⟨h,e⟩|⟨h,e⟩|⟨h,e⟩|⟨h,e⟩|⟨h,e⟩|⟨h,e⟩|⟨h,e⟩|⟨h1,h2,u,z,A,B,C,E,G,e⟩<;>rw[e]<;>((refine eM call327 λF hF=>?_);exact ly)
def bj (r k:Int):Bool:=PV r&&(jI r (MC k)==MC k)
def Jh (r k:Int):zN 342 [iA r,iA k] [] (bA (bj r k)) []:=by
 have u:=XB r;have z:=Em k;unfold bj;generalize MC k=n at*
 cases h1:PV r<;>rw[h1]at u<;>simp only[zA3,zBt]<;>((refine eM call342 λF hF=>?_);exact mx (xV u z))
def Qc (r k:Int):zN 288 [iA r,iA k] [] (bA (bj r k)) []:=by
 have u:=XC r;have z:=Kh k;unfold bj;generalize MC k=n at*
 cases h1:PV r<;>rw[h1]at u<;>simp only[zA3,zBt]<;>((refine eM call288 λF hF=>?_);exact mx (xV u z))
def Z1 (r b:Int):zN 207 [iA r,iA b] [] (aj ⟨b,r,b⟩) []:=by
 refine eM call207 λF hF=>?_
 exact ly
def Xu (r b:Int):zN 213 [iA r,iA b] [] (aj ⟨b,r,b⟩) []:=by
 refine eM call213 λF hF=>?_
 exact ly
def Dm (b:Bk):Bool:=decide (0<=b.burst/\b.burst<=1000/\0<=b.rate/\b.rate<=b.burst/\0<=b.level/\b.level<=b.burst)
def Cm (b:Bk):zN 374 [aj b] [] (bA (Dm b)) []:=by
 (cases hb:Dm b with|false=>((refine eM call374 λF hF=>?_);((refine WW (I6 (λhc hc hc hc hc=>?_) (λhc hc hc hc hc=>?_) (λhc hc hc hc=>?_) (λhc hc hc=>?_) (λhc hc=>?_) λhc=>?_)));all_goals (first|exact zI|(simp only[Dm,zA4]at hb;first|exact MH|exact PX)))|true=>(simp only[Dm,zAx]at hb;(refine eM call374 λF hF=>?_);((refine WW ?_));all_goals (first|exact zI|exact MH|exact PX)))
def Ih (b:Bk):zN 365 [aj b] [] (bA (Dm b)) []:=by
 (cases hb:Dm b with|false=>((refine eM call365 λF hF=>?_);((refine WW (I6 (λhc hc hc hc hc=>?_) (λhc hc hc hc hc=>?_) (λhc hc hc hc=>?_) (λhc hc hc=>?_) (λhc hc=>?_) λhc=>?_)));all_goals (first|exact zI|(simp only[Dm,zA4]at hb;first|exact MH|exact PX)))|true=>(simp only[Dm,zAx]at hb;(refine eM call365 λF hF=>?_);((refine WW ?_));all_goals (first|exact zI|exact MH|exact PX)))
def s7 (b:Bk):Bk:=⟨min (b.level+b.rate) b.burst,b.rate,b.burst⟩
def Wu (b:Bk) (h: -1000000000<=b.level+b.rate/\b.level+b.rate<=1000000000):zN 221 [aj b] [] (aj (s7 b)) []:=by
 refine eM call221 λF hF=>?_
 exact ly
def Bm (b:Bk) (h: -1000000000<=b.level+b.rate/\b.level+b.rate<=1000000000):zN 190 [aj b] [] (aj (s7 b)) []:=by
 refine eM call190 λF hF=>?_
 exact ly
def RD (b:Bk):Bk:=if b.level<=0 then b else⟨b.level-1,b.rate,b.burst⟩
def Vu (b:Bk) (h:b.level<=9223372036854775807):zN 306 [aj b] [] (.tup [aj (RD b),bA (decide (0<b.level))]) []:=by
 unfold RD;by_cases h1:b.level<=0
 .rw[f5 h1,zAs zB];refine eM call306 λF hF=>?_
  exact ly
 .rw[Os h1,zAu zB];refine eM call306 λF hF=>?_
  exact ly
def Am (b:Bk) (h:b.level<=9223372036854775807):zN 241 [aj b] [] (.tup [aj (RD b),bA (decide (0<b.level))]) []:=by
 unfold RD;by_cases h1:b.level<=0
 .rw[f5 h1,zAs zB];refine eM call241 λF hF=>?_
  exact ly
 .rw[Os h1,zAu zB];refine eM call241 λF hF=>?_
  exact ly
def jW (l:List Tk) (s:Int):Bool:=decide (0<=s/\s<ln l)&&(l.getD s.toNat dd).used
def Pc (l:List Tk) (s:Int):zN 303 [zE yP l,iA s] [] (bA (jW l s)) []:=by
 have hl:=zA yP l;unfold jW;by_cases h1:0<=s
 .by_cases h2:s<ln l
  .have u:=yE yP l s h1 h2;rw[zAu ⟨h1,h2⟩,zA3];refine eM call303 λF hF=>?_
   exact ly
  .rw[zAs zB,zBt];refine eM call303 λF hF=>?_
   exact ly
 .rw[zAs zB,zBt];refine eM call303 λF hF=>?_
  exact ly
def Jr (a b:Int):Bool:=decide (b≠0/\(a=0\/b<a))
def nf (a b:Int):zN 392 [iA a,iA b] [] (bA (Jr a b)) []:=by
 unfold Jr
 by_cases h1:b=0<;>by_cases h2:a=0<;>by_cases u:b<a<;>simp only[zDx,h1,h2,u,zE6,zFz,zGc,zE8,true_and,false_and,or_true,true_or,or_false,zFn,zFh]<;>first|(exfalso;omega;done)|((refine eM call392 λF hF=>?_);exact ly)
def AG (a b:Int):zN 367 [iA a,iA b] [] (bA (Jr a b)) []:=by
 unfold Jr
 by_cases h1:b=0<;>by_cases h2:a=0<;>by_cases u:b<a<;>simp only[zDx,h1,h2,u,zE6,zFz,zGc,zE8,true_and,false_and,or_true,true_or,or_false,zFn,zFh]<;>first|(exfalso;omega;done)|((refine eM call367 λF hF=>?_);exact ly)
def qb (t:Tk) (f3:Int):Bool:=decide (t.til≠0/\t.til<f3)
def JT (t:Tk) (f3:Int):zN 264 [yP t,iA f3] [] (bA (qb t f3)) []:=by
 unfold qb
 by_cases h1:t.til=0<;>by_cases h2:t.til<f3<;>simp only[zDx,h1,h2,zE6,zFz,zGc,zE8,zFn,zFh]<;>first|(exfalso;omega;done)|((refine eM call264 λF hF=>?_);exact ly)
def ab:Tk:=⟨false,[],-1,0,0,0⟩
def Oc:zN 258 [] [] (yP ab) []:=by
 refine eM call258 λF hF=>?_
 exact ly
def fY (f:α->AV) (l:List α):AV.sl false ((l.map f).take (l.map f).length)=zE f l:=by rw[zAt];rfl
def dR (_:Nat) (l:List α):List α:=l
def TC (l:List Int) (hl:ln l<=1073741824):zN 111 [zE iA l] [] (zE iA l) []:=by
 have u:=zA iA l;refine eM call111 λF hF=>?_
 refine xH 0 Z (λcap hx=>?_) ?_
 .have:l=[]:=by simpa using hx
  subst this;exact ly
 ·(refine WW ?_)
  refine zH [] Z Z (fY _ _) Z
def kS (l:List Int) (hl:ln l<=1073741824):zN 88 [zE yA l] [] (zE yA l) []:=by
 have u:=zA yA l;refine eM call88 λF hF=>?_
 refine xH 0 Z (λcap hx=>?_) ?_
 .have:l=[]:=by simpa using hx
  subst this;exact ly
 ·(refine WW ?_)
  refine zH [] Z Z (fY _ _) Z
def AH (l:List Vh) (hl:ln l<=1073741824):zN 218 [zE vB l] [] (zE vB l) []:=by
 have u:=zA vB l;refine eM call218 λF hF=>?_
 refine xH 0 Z (λcap hx=>?_) ?_
 .have:l=[]:=by simpa using hx
  subst this;exact ly
 ·(refine WW ?_)
  refine zH [] Z Z (fY _ _) Z
def VL (l:List Tk) (hl:ln l<=1073741824):zN 217 [zE yP l] [] (.ref 1001 0 (l.map yP).length) [(1001,.arr 6 (l.map yP) false)]:=by
 have u:=zA yP l;refine eM call217 λF hF=>?_
 refine xH 0 Z (λcap hx=>?_) ?_
 .have:l=[]:=by simpa using hx
  subst this
  (repeat' (first|refine Zf ?_|apply yW|apply xI|intro hc|fail))
  refine qH 2 1001 6 Z Z Z (xL ?_);exact zP [1001] Z Z Z Z
 .repeat' (first|(apply zG;first|refine uL tok Z Z ?_|(apply wV;refine wM (xX tok (.inl ⟨rfl,rfl⟩) Z Z Z Z) Z ?_)|(apply yH;refine uU (nw:=[1001]) (yV tok 1001 (xs:=[]) Z Z Z Z Z Z Z Z Z) Z Z Z ?_)|(apply yC;refine vA tok Z Z Z Z Z Z Z (yM _ _ (λ_=>rfl)) Z Z Z zB Z ?_)|apply kP)|(first|apply xY|apply xR|refine vZ Z ?_|refine yR Z ?_|refine yD Z ?_|refine xZ Z (λhc=>?_) λhc=>?_|apply xJ|apply xL|apply xQ|apply xC))
  exact zP [1001] Z Z Z Z
structure JU (l:List Tk):Prop where
 n:l.length<=1000000
 s:∀t∈l,t.sec.length<=1000000
theorem cB [Inhabited α] (f:α->AV) (l:List α) (i:Nat) (hi:i<ln l):(dR i (l.map f)).set i (f (l.getD i dd))=dR (i+1) (l.map f):=by
 unfold dR;have:=zJ f l i hi
 grind [dR,List.getElem?_eq_some_iff,List.set_getElem_self]
def VM (l:List Tk) (hb:JU l):zN 262 [zE yP l] [] (.ref 1001 0 (l.map yP).length) [(1001,.arr 6 (l.map yP) false)]:=by
 have c:=VL l (by have:=hb.n;omega);have A:=hb.n;have z:=zA yP l;refine eM call262 λF hF=>?_
 refine zS c ?_;refine zO ((l.map yP).length) [1001] [] [3,8] [9,3,8] Z (λi T U=>⟨(9,iA i)::T,(1001,.arr 6 (dR i (l.map yP)) false)::U⟩) (Lq ?_ ?_)
 .intro i hi;have hi':i<ln l:=by omega
  have B:(dR i (l.map yP))[i]? =some (yP (l.getD i dd)):=zJ yP l i hi';have e:=cB yP l i hi';have u:=kS (l.getD i dd).sec (by have:=hb.s (l.getD i dd) QK;omega);generalize (l.getD i dd)=t,dR i (l.map yP)=xs,dR (i+1) (l.map yP)=ys at *;subst e;refine zS u ?_;rfl
 ·(refine WW ?_)
  exact zP [1001] Z Z Z Z
def AI (a:Ag) (h1:ln a.sec<=1000000) (h2:ln a.lim<=1000000):zN 205 [uI a] [] (uI a) []:=by
 have u:=kS a.sec zB;have z:=TC a.lim zB;refine eM call205 λF hF=>?_
 exact mx (xV u z)
structure GR (r:Rg):Prop where
 tk:JU r.tk
 s:r.ag.sec.length<=1000000
 l:r.ag.lim.length<=1000000
 v:r.vh.length<=1000000
def rgX (r:Rg) (xs:List AV):AV:= .agg [iA r.num,zE yA r.ag.sec,iA r.ag.rights,iA r.ag.cls,zE iA r.ag.lim,iA r.ag.req,iA r.ag.ses,iA r.ag.rate,iA r.ag.burst,.sl false xs,zE vB r.vh,iA r.bk.level,iA r.bk.rate,iA r.bk.burst]
def cC (r:Rg) (hb:GR r):zN 219 [uQ r] [] (uQ r) []:=by
 have z:=AI r.ag hb.s hb.l;have C:=hb.tk.n;have hv:=hb.v;have u:=VL r.tk zB;have A:=AH r.vh zB;have B:=zA yP r.tk;refine eM call219 λF hF=>?_
 refine yG (xV z u) ?_;refine zO ((r.tk.map yP).length) [1001,1,2] [1,2] [1,2,14] [15,1,2,14] Z (λi T U=>⟨(15,iA i)::T,(1001,.arr 6 (dR i (r.tk.map yP)) false)::U⟩) (Lq ?_ ?_)
 .intro i hi;have hi':i<ln r.tk:=by omega
  have E:(dR i (r.tk.map yP))[i]? =some (yP (r.tk.getD i dd)):=zJ yP r.tk i hi';have e:=cB yP r.tk i hi';have u:=kS (r.tk.getD i dd).sec (by have:=hb.tk.s (r.tk.getD i dd) QK;omega);generalize (r.tk.getD i dd)=t,dR i (r.tk.map yP)=xs,dR (i+1) (r.tk.map yP)=ys at *;subst e;refine zS u ?_;rfl
 ·(refine zS A ?_)
  exact zH [] Z Z (zBb (rgX r) zAt) Z
theorem cJ.lg3 (h:cJ l) {r:Rq} (u:r∈l):1<=ln r.legs/\r.legs.length<=3:=by
 have:=XF (h.ok r u).lg;omega
theorem cJ.filter (h:cJ l) (p:Rq->Bool):cJ (l.filter p):=
 ⟨λr u=>h.ok r (zEg.1 u).1,h.so.filter p,zBw (zCh _ _) h.n4⟩
def XD (l:List Lg) (hl:ln l<=1000):zN 169 [zE yO l] [] (zE yO l) []:=by
 have u:=zA yO l;refine eM call169 λF hF=>?_
 refine xH 0 Z (λcap hx=>?_) ?_
 .have:l=[]:=by simpa using hx
  subst this;exact ly
 ·(refine WW ?_)
  refine zH [] Z Z (fY _ _) Z
def TE (r:Rq) (hl:ln r.legs<=1000):zN 265 [zY r] [] (zY r) []:=by
 have c:=XD r.legs hl;have u:=zA yO r.legs;refine eM call265 λF hF=>?_
 exact ng c
theorem cS (p:Rq->Bool) (f4:List Rq) (x:Rq):((f4++[x]).filter p).map zY=(f4.filter p).map zY++(if p x=true then [x]else []).map zY:=by grind
def Nc (fn:Nat) (v:Int) (p:Rq->Bool) (l:List Rq) (E:ln l<=1000) (hb:∀r∈l,ln r.legs<=1000) (c:∀x,zN fn [zY x,.ptr 3 0 0] [(3,.box [iA v])] (bA (p x)) [(3,.box [iA v])]):
  zN 222 [zE zY l,.fn fn [.ptr 3 0 0]] [(3,.box [iA v])] (zE zY (l.filter p)) [(3,.box [iA v])]:=by
 have hl:=zA zY l;refine eM call222 λF hF=>?_
 refine WW ?_;refine zQ 5 1001 5 Z Z Z ?_;refine zU (l) [1001,3] [3] [1,8,9] [5,10,1,8,9] Z (λi f4 T U=>⟨(5,.ref 1001 0 ((f4.filter p).map zY).length)::(10,iA i)::T,(1001,.arr 5 ((f4.filter p).map zY) true)::U⟩) (Lq ?_ ?_)
 .intro i f4 x post hx hi;have G:=yJ zY hx hi;have C:=zX hx hi;have A:(f4.filter p).length<=i:=by rw[<-hi];exact zCh _ _
  have B:=zA zY (f4.filter p);have u:=c x;have z:=TE x (hb x (xA hx));have e:=cS p f4 x;rw[e];clear hx e;generalize (f4.filter p).map zY=R at*
  cases h:p x with
  |false=>
   rw[h]at u;rw[Os zA7];refine zS u ?_;rw[zCj,zBn];rfl
  |true=>
   rw[h]at u;rw[f5 Z];refine yG (xV u z) ?_;rfl
 ·(refine WW ?_)
  exact zP [3] Z Z (fY _ _) Z
def TF (p:α->Bool) (l:List α):Int:=if l.any p=true then(l.findIdx p:Int)else -1
theorem PW {p:α->Bool} {l f4 post:List α} {x:α} (h:l=f4++x::post) (u:∀y∈f4,p y=false) (hx:p x=true):TF p l=(ln f4:Int):=by grind [TF]
theorem bS {p:α->Bool} {l:List α} (u:∀y∈l,p y=false):TF p l= -1:=by grind [TF]
theorem Mc {p:α->Bool} {l:List α} (h:l.any p=true):0<=TF p l/\TF p l<ln l:=by grind [TF]
def Y1 (id:Int) (x:Rq):zN 387 [zY x,.ptr 3 0 0] [(3,.box [iA id])] (bA (x.id==id)) [(3,.box [iA id])]:=by
 refine eM call387 λF hF=>?_
 refine WW ?_;exact zP [3] Z Z Z Z
def W1 (id:Int) (l:List Rq) (hb:ln l<=1000):zN 386 [zE zY l,.fn 387 [.ptr 3 0 0]] [(3,.box [iA id])] (iA (TF (λr:Rq=>r.id==id) l)) [(3,.box [iA id])]:=by
 have hl:=zA zY l;refine eM call386 λF hF=>?_
 refine WW ?_;refine uX (l) [3] [3] [0,1,7] [8,0,1,7] Z (λi f4 T U zs=>(∀y∈f4,(y.id==id)=false)/\zs=⟨(8,iA i)::T,U⟩) (Lp ?_ ?_ ?_)
 .exact⟨by simp,rfl⟩
 .rintro i f4 x post st hx hi ⟨hp,rfl⟩;have z:=yJ zY hx hi;have B:=zX hx hi;have c:=Y1 id x;have u:=PW (p:=λr:Rq=>r.id==id) hx hp
  cases A:(x.id==id)<;>rw[A]at c
  .clear hx u;refine zS c ?_;exact⟨λy z=>by simp only[zBc,zBl]at z;rcases z with z|rfl;exact hp y z;exact A,rfl⟩
  .rw[u A,hi];clear hx u;refine zS c ?_;exact zP [3] Z Z Z Z
 .rintro st ⟨hp,rfl⟩;rw[bS hp];refine WW ?_;exact zP [3] rfl rfl rfl rfl
def MD (l:List Rq) (id:Int) (hb:ln l<=1000):zN 356 [zE zY l,iA id] [] (iA (TF (λr:Rq=>r.id==id) l)) []:=by
 have c:=W1 id l hb;generalize TF (λr:Rq=>r.id==id) l=n at *;refine eM call356 λF hF=>?_
 exact ng c
def V1 (f3:Int) (x:Rq):zN 223 [zY x,.ptr 3 0 0] [(3,.box [iA f3])] (bA (decide (f3<=x.til))) [(3,.box [iA f3])]:=by
 cases hb:decide (f3<=x.til)with
 |false=>
  rw[zA4]at hb;refine eM call223 λF hF=>?_
  refine WW ?_;exact zP [3] Z Z Z Z
 |true=>
  rw[zAx]at hb;refine eM call223 λF hF=>?_
  refine WW ?_;exact zP [3] Z Z Z Z
def U1 (v:Int) (x:Rq):zN 350 [zY x,.ptr 3 0 0] [(3,.box [iA v])] (bA (x.vh != v)) [(3,.box [iA v])]:=by
 refine eM call350 λF hF=>?_
 refine WW ?_;exact zP [3] Z Z Z Z
def S1 (v:Int) (x:Rq):zN 357 [zY x,.ptr 3 0 0] [(3,.box [iA v])] (bA (x.id != v)) [(3,.box [iA v])]:=by
 refine eM call357 λF hF=>?_
 refine WW ?_;exact zP [3] Z Z Z Z
def KD (l:List Rq) (f3:Int):List Rq:=l.filter λx=>decide (f3<=x.til)
def TG (l:List Rq) (v:Int):List Rq:=l.filter λx=>x.vh != v
def TH (l:List Rq) (id:Int):List Rq:=l.filter λx=>x.id != id
def kT (l:List Rq) (id:Int):Bool:=l.any λx=>x.id==id
def yn (l:List Rq) (f3:Int) (hv:cJ l):zN 175 [zE zY l,iA f3] [] (zE zY (KD l f3)) []:=by
 have z:=hv.n4;have c:=Nc 223 f3 _ l zB (λr u=>by have:=hv.lg3 u;omega) (V1 f3);unfold KD;generalize l.filter _=A at *;refine eM call175 λF hF=>?_
 exact ng c
def JW (l:List Rq) (v:Int) (hv:cJ l):zN 308 [zE zY l,iA v] [] (zE zY (TG l v)) []:=by
 have z:=hv.n4;have c:=Nc 350 v _ l zB (λr u=>by have:=hv.lg3 u;omega) (U1 v);unfold TG;generalize l.filter _=A at *;refine eM call308 λF hF=>?_
 exact ng c
def wn (l:List Rq) (id:Int) (hv:cJ l):zN 311 [zE zY l,iA id] [] (.tup [zE zY (if kT l id=true then TH l id else []),iA (if kT l id=true then 0 else 12)]) []:=by
 have C:=hv.n4;have z:=TK l 4 hv zB;have u:=MD l id zB;have A:=Nc 357 id _ l zB (λr B=>by have:=hv.lg3 B;omega) (S1 id);unfold TH;generalize l.filter _=E at*
 cases hh:kT l id with
 |true=>
  have hx:=Mc (p:=λx:Rq=>x.id==id) (l:=l) hh;generalize TF (λx:Rq=>x.id==id) l=n at *;rw[f5 Z,f5 Z];refine eM call311 λF hF=>?_
  exact mx (qM z u A)
 |false=>
  have hx:=bS (p:=λx:Rq=>x.id==id) (l:=l) (by simpa [kT]using hh);rw[hx]at u;rw[Os zA7,Os zA7];refine eM call311 λF hF=>?_
  exact mx (xV z u)
def fZ (l:List Rq) (B:ln l<=1000) (hb:∀r∈l,ln r.legs<=1000):zN 187 [zE zY l] [] (zE zY l) []:=by
 have hl:=zA zY l;refine eM call187 λF hF=>?_
 refine WW ?_;refine zQ 3 1001 5 Z Z Z ?_;refine zU (l) [1001] [] [6,7] [3,8,6,7] Z (λi f4 T U=>⟨(3,.ref 1001 0 (f4.map zY).length)::(8,iA i)::T,(1001,.arr 5 (f4.map zY) true)::U⟩) (Lq ?_ ?_)
 .intro i f4 x post hx hi;have E:=yJ zY hx hi;have u:=zX hx hi;have z:(f4.map zY).length=i:=by rw[zAr,hi]
  have C:=hb x (xA hx);have A:=zA yO x.legs;have e:(f4++[x]).map zY=f4.map zY++[zY x]:=by simp
  clear hx;rw[e];generalize f4.map zY=xs,l.map zY=G at *;refine WL ?_;rfl
 ·(refine WL ?_)
  exact zH [] Z Z (fY _ _) Z
def O1 (p:Rq->Bool) {f4 post:List Rq} {x:Rq} {i:Nat} (u:l=f4++x::post) (hi:ln f4=i):(f4.filter p).length<=i:=by rw[<-hi];exact zCh _ _
def Hh (l:List Rq) (f3:Int) (hv:cJ l):zN 130 [zE zY l,iA f3] [] (zE zY (KD l f3)) []:=by
 have C:=hv.n4;have hl:=zA zY l;have c:=fZ (KD l f3) (by have:=(hv.filter λx=>decide (f3<=x.til)).n4;unfold KD;omega) (λr B=>by have:=(hv.filter _).lg3 B;omega);unfold KD at *;refine eM call130 λF hF=>?_
 refine WW ?_;refine zQ 5 1001 5 Z Z Z ?_;refine zU (l) [1001] [] [1,8,9] [5,10,1,8,9] Z (λi f4 T U=>⟨(5,.ref 1001 0 ((f4.filter λx=>decide (f3<=x.til)).map zY).length)::(10,iA i)::T,(1001,.arr 5 ((f4.filter λx=>decide (f3<=x.til)).map zY) true)::U⟩) (Lq ?_ ?_)
 .intro i f4 x post hx hi;have E:=yJ zY hx hi;have A:=zX hx hi;have u:=O1 (λx=>decide (f3<=x.til)) hx hi;have z:=zA zY (f4.filter λx=>decide (f3<=x.til));have e:=cS (λx=>decide (f3<=x.til)) f4 x;rw[e];clear hx e;generalize (f4.filter λx=>decide (f3<=x.til)).map zY=R at *;by_cases h:f3<=x.til
  .rw[f5 OZ];refine WW ?_;rfl
  .rw[Os OZ];refine WW ?_;rw[zCj,zBn];rfl
 ·(have ga:=c;have kj:=(⟨⟩:Su 187 [] [23]);refine WW ?_;clear ga kj)
  exact zI
def ME (l:List Rq) (v:Int) (hv:cJ l):zN 290 [zE zY l,iA v] [] (zE zY (TG l v)) []:=by
 have C:=hv.n4;have hl:=zA zY l;have c:=fZ (TG l v) (by have:=(hv.filter λx=>x.vh != v).n4;unfold TG;omega) (λr B=>by have:=(hv.filter _).lg3 B;omega);unfold TG at *;refine eM call290 λF hF=>?_
 refine WW ?_;refine zQ 5 1001 5 Z Z Z ?_;refine zU (l) [1001] [] [1,8,9] [5,10,1,8,9] Z (λi f4 T U=>⟨(5,.ref 1001 0 ((f4.filter λx=>x.vh != v).map zY).length)::(10,iA i)::T,(1001,.arr 5 ((f4.filter λx=>x.vh != v).map zY) true)::U⟩) (Lq ?_ ?_)
 .intro i f4 x post hx hi;have E:=yJ zY hx hi;have A:=zX hx hi;have u:=O1 (λx=>x.vh != v) hx hi;have z:=zA zY (f4.filter λx=>x.vh != v);have e:=cS (λx=>x.vh != v) f4 x;rw[e];clear hx e;generalize (f4.filter λx=>x.vh != v).map zY=R at *;by_cases h:x.vh≠v
  .rw[f5 OZ];refine WW ?_;rfl
  .rw[Os OZ];refine WW ?_;rw[zCj,zBn];rfl
 ·(have ga:=c;have kj:=(⟨⟩:Su 187 [] [23]);refine WW ?_;clear ga kj)
  exact zI
theorem vn {id:Int} (h:kT l id=false):TH l id=l:=by grind [kT,TH,List.filter_eq_self,List.any_eq_true]
theorem qn {id:Int} (h:kT l id=true):(TH l id).length<ln l:=by simp_all [kT,TH]
def Gh (l:List Rq) (id:Int) (hv:cJ l):zN 245 [zE zY l,iA id] [] (.tup [zE zY (if kT l id=true then TH l id else []),iA (if kT l id=true then 0 else 12)]) []:=by
 have M:=hv.n4;have hl:=zA zY l;have A:=XG l 4 hv zB;have B:=fZ (TH l id) (by have:=(hv.filter λx=>x.id != id).n4;unfold TH;omega) (λr L=>by have:=(hv.filter _).lg3 L;omega);have u:kT l id=false->(TH l id).length=ln l:=λh=>by rw[vn h]
 have z:=λh=>qn (l:=l) (id:=id) h
 have E:=zA zY (TH l id);generalize kT l id=b at *;unfold TH at *;refine eM call245 λF hF=>?_
 refine zS A ?_;refine zQ 6 1001 5 Z Z Z ?_;refine zU (l) [1001] [] [0,1,12,13] [6,14,0,1,12,13] Z (λi f4 T U=>⟨(6,.ref 1001 0 ((f4.filter λx=>x.id != id).map zY).length)::(14,iA i)::T,(1001,.arr 5 ((f4.filter λx=>x.id != id).map zY) true)::U⟩) (Lq ?_ ?_)
 .intro i f4 x post hx hi;have O:=yJ zY hx hi;have I:=zX hx hi;have C:=O1 (λx=>x.id != id) hx hi;have G:=zA zY (f4.filter λx=>x.id != id);have e:=cS (λx=>x.id != id) f4 x;rw[e];clear hx e;generalize (f4.filter λx=>x.id != id).map zY=R at *;by_cases h:x.id≠id
  .rw[f5 (show(x.id != id)=true by simpa using h)];refine WW ?_;rfl
  .rw[Os (show¬(x.id != id)=true by simpa using h)];refine WW ?_;rw[zCj,zBn];rfl
 .cases b with
  |false=>
   have u:=u Z;rw[Os zA7,Os zA7];exact ly
  |true=>
   have z:=z Z;rw[f5 Z,f5 Z]
   (have ga:=B;have kj:=(⟨⟩:Su 187 [] [32]);refine WW ?_;clear ga kj)
   exact zI
section
variable {P:Program} {K0:List Nat} {F:Fr K0} {m:Nat}
def Uu (n:Nat) {Q:Exit->St->Prop} {id:Nat} {l:List Oper} (z:P.follows .mixedOrders=true)
 (hk:yN P F m l.toArray true (l.take n) st [] (λfs s=>WQ l n (OV l) fs.reverse=true/\yN P F m l.toArray false (l.drop n) s [] (λ_ s=>Q .normal s))):uD P F m (.region id l.toArray true) st Q:=by
 obtain⟨B,A,h1,h2,u⟩:=hk.run;exact KX n z h1 CB u.run
def Lc {l:List Oper} {n:Nat} {u:Array Oper} {fs:List FP} {z:St->Prop} (hc:WQ l n (OV l) fs.reverse=true) (A:z st):yN P F m u true [] st fs (λfs s=>WQ l n (OV l) fs.reverse=true/\z s):=⟨⟨[],st,rfl,hc,A⟩⟩
end
section
variable {P:Program} {TT:List TI} {st:St}
def AJ (C:uZ P TT) {l:Operand} {k:IntKind} (hx:yX (zK st.tm) x= .s (.slice none 0 0)) (hl:yX (zK st.tm) l= .s (.int k 0)) (hT:TT[T]? =some ti) (hd:ti.d= .slice e) (I:TT[e]? =some te):
  wX P st (.slice T x (some l) none none) (.s (.slice none 0 0)) [] [] []:=
 yZ λO X Y h w β a G E V R B=>by
  obtain⟨d0,o0,y0,W,S,U⟩:=O;dsimp only at G;subst G;have hc:=vP B E (x:=x) uO hx;obtain⟨u,M,z⟩:=wH (C _ _ hT) w;obtain rfl:=uB (z.trans hd);have L:=qK (C _ _ I) w;have hb:=fK (P:=P) B E (lo:=some l) (hi:=none) (len:=0) (cap:=0) (l:=0) (r:=0) (λy A=>by cases A;simp[Op.operands]) (λy A=>by cases A) ⟨k,0,hl,zB⟩ rfl (zAw _) (zAw _) true;rw[zDu]at hb;exact⟨_,by simp only[execOp,Instr.sliceAt,Instr.slice,Sem.run_bind,M,Result.andThen_ok,hc,zDu,hb,L,Sem.run_pure];rfl,.fz _ _ (.s _)⟩
end
section
variable {P:Program} {TT:List TI} {K0:List Nat} {F:Fr K0} {m:Nat} {ops:Array Oper} {rest:List Oper} {Q:List FP->St->Prop} {tm:List (Nat×AV)} {h:List (Nat×xW)} {dr:Bool} {fs:List FP}
variable {ty:Nat} {pos:String} {after:Array Edge} {t:Nat}
def Kc (M:uZ P TT) {u off:Nat} {d:Operand} {L ys:List AV} {I:AV} (z:yX (zK tm) d= .ref u off len) (hk:zD h u=some (.arr sz xs false)) (hx:yX (zK tm) x=I) (hT:TT[T]? =some ti) (hd:ti.d= .slice e) (O:TT[e]? =some te)
 (E:CR (zD h) I=some L) (G:L.take len=ys) (C:∀y,ys[0]? =some y->ln y.cells=sz) (A:1<=ln ys) (B:Nat.beq sz te.size=true) (U:xs.take off++ys++xs.drop (off+ln ys)=zs) (R:Nat.blt t m=true)
 (S:yN P F m ops dr rest ⟨(t,.s (.int .i64 (ln ys)))::tm,(u,.arr sz zs false)::h⟩ (⟨true,[u],u::PK I⟩::fs) Q):yN P F m ops dr (⟨some t,.call ⟨.builtin .copy, #[d,x], #[T,T]⟩,ty,pos,after,none⟩::rest) ⟨tm,h⟩ fs Q:=by
 subst U;exact uU (nw:=[]) (IB M z hk hx hT hd O E G C (.inl A) B) R Z Z S
def N1 (u:uZ P TT) {k:Nat} {xs:List AV} (hx:yX (zK tm) x= .ref k 0 len) (hk:zD h k=some (.arr sz xs ⟨false,false⟩)) (hT:TT[T]? =some ti) (hd:ti.d= .slice e) (hl:1<=len) (z:Nat.blt t m=true)
 (A:∀c:Int,(ln xs:Int)<=c->yN P F m ops false rest ⟨(t,.s (.int .i64 c))::tm,h⟩ fs Q):yN P F m ops false (⟨some t,.call ⟨.builtin .cap, #[x], #[T]⟩,ty,pos,after,none⟩::rest) ⟨tm,h⟩ fs Q:=
 x_m (vd u hx hk hT hd hl) z Z (λv d ⟨c,_,_,e⟩=>by subst e;rfl) (λv d ⟨c,e1,e2,e3⟩=>by subst e1 e3;exact A c e2)
def mf (I:uZ P TT) {k:Nat} {s:Operand} {vs:List AV} {G:AV} (R:yX (zK tm) s= .ref k 0 len) (hk:zD h k=some (.arr sz xs ⟨false,false⟩)) (hx:yX (zK tm) x=G) (hT:TT[T]? =some ti) (hd:ti.d= .slice e) (L:TT[e]? =some te) (E:CR (zD h) G=some vs)
 (B:Nat.beq sz te.size=true) (C:∀y,vs[0]? =some y->ln y.cells=sz) (A:1<=ln vs) (hl:1<=len) (u:len+ln vs<=ln xs) (z:ln xs<=1073741824) (S:xs.take len++vs++xs.drop (len+ln vs)=zs) (M:Nat.blt t m=true)
 (O:yN P F m ops dr rest ⟨(t,.ref k 0 (len+ln vs))::tm,(k,.arr sz zs ⟨false,false⟩)::h⟩ (⟨true,[k],k::PK G⟩::fs) Q):yN P F m ops dr (⟨some t,.call ⟨.builtin .append, #[s,x], #[T,T]⟩,ty,pos,after,none⟩::rest) ⟨tm,h⟩ fs Q:=by
 subst S;exact uU (nw:=[]) (xi I R hk hx hT hd L E B C A hl u z) M Z Z O
def M1 (Y:uZ P TT) {I c n N:Nat} {s:Operand} {U:TI} {k0:IntKind} {nx:Int} {ys:List AV} {z:AV} (hs:yX (zK tm) s= .slc c ys) (hx:yX (zK tm) x= .s (.int .i64 nx)) (hT:TT[T]? =some ti) (hd:ti.d= .slice e) (he:TT[e]? =some te) (W:TT[I]? =some U) (C:U.d= .int k0)
 (hb:Nat.ble te.bytes 65536=true) (hp:Nat.ble 1 te.size=true) (S:Nat.beq (ln te.zero) te.size=true) (O:te.zero.all (·.oneCell')=true) (R:Nat.beq (uH te).cells.length te.size=true) (B:(uH te).cells=te.zero.map .s) (hz:uH te=z)
 (G:nx=(n:Int)) (A:1<=n) (u:ln ys+n<=1073741824) (hc:c<ln ys+n) (M:∀(i:Nat) (y:AV),ys[i]? =some y->ln y.cells=te.size) (V:ys++pb n z=zs) (hN:ln zs=N) (hm:Nat.blt t m=true) (E:(zD h t).isNone=true)
 (L:te.size=sz) (hk:yN P F m ops dr rest ⟨(t,.ref t 0 N)::tm,(t,.arr sz zs false)::h⟩ (⟨true,[t,t],[]⟩::fs) Q):yN P F m ops dr (⟨some t,.call ⟨.builtin .append, #[s,x], #[T,I]⟩,ty,pos,after,none⟩::rest) ⟨tm,h⟩ fs Q:=by
 subst L hz hN V;exact uU (nw:=[t]) (Cn Y t hs hx hT hd he W C hb hp S O R B G A u hc M) hm (Mb E) Z hk
end
theorem bn (xs:List AV) (v:AV) (i:Nat) (hv:ln v.cells=5) (hx:∀y∈xs,ln y.cells=5) (h1:1<=ln xs) (V:ln xs<=1000) (hi:i<=ln xs):
  zN 385 [.ref 1001 0 (ln xs),iA i,.ref 98 0 1] [(1001,.arr 5 (xs++[dE 5]) false),(98,.arr 5 [v] false)] (.ref 1001 0 (ln xs+1)) [(1001,.arr 5 (xs.take i++v::xs.drop i) false),(98,.arr 5 [v] false)]:=by
 have C:(xs++[dE 5]).length=ln xs+1:=by simp
 by_cases O:i=ln xs
 .subst O
  have S:(xs++[dE 5]).take (ln xs)++[v]++(xs++[dE 5]).drop (ln xs+[v].length)=xs.take (ln xs)++v::xs.drop (ln xs):=by
   rw[zC0 (zAw _),zAt,zEu,zD3 zV];simp
  refine eM call385 λF hF=>?_
  (repeat' (first|refine uT ?_|apply yW|apply xI|intro hc|(apply zG;first|(apply gX;refine dM tok Z Z Z Z Z Z Z zB zB Z ?_)|(apply yC;refine mf tok Z Z Z Z Z Z Z Z (λy z=>by cases z;exact hv) zV zB zV zB S Z ?_))|fail))
  exact zP [1001,98] Z Z Z Z
 .have R:i<ln xs:=by omega
  have e1:(xs++[dE 5]).drop i=xs.drop i++[dE 5]:=List.drop_append_of_le_length zB;have u:(xs.drop i).length=ln xs-i:=zBr
  have A:(((xs++[dE 5]).drop i).take (ln xs+1-i)).take (ln xs+1-(i+1))=xs.drop i:=by
   have e3:((xs++[dE 5]).drop i).take (ln xs+1-i)=xs.drop i++[dE 5]:=by rw[e1];exact zA1 qA
   rw[e3,zC0 zB,zA1 zB]
  have G:(xs++[dE 5]).take (i+1)++xs.drop i++(xs++[dE 5]).drop (i+1+(xs.drop i).length)=xs.take (i+1)++xs.drop i:=by
   have e3:(xs++[dE 5]).drop (i+1+(xs.drop i).length)=[]:=zD3 (by rw[C,u];omega);rw[e3,zBn,zC0 zB]
  have E:∀y,(xs.drop i)[0]? =some y->ln y.cells=5:=λy z=>hx y (zBz (zCc z))
  have B:(([v].drop 0).take 1).take (ln xs+1-i)=[v]:=zA1 qA
  have I:(xs.take (i+1)++xs.drop i).take i++[v]++(xs.take (i+1)++xs.drop i).drop (i+[v].length)=xs.take i++v::xs.drop i:=by
   have L:(xs.take (i+1)).length=i+1:=by rw[zBg];omega
   rw[zC0 zB,List.take_take,Nat.min_eq_left zB,show i+[v].length=(xs.take (i+1)).length by rw[L];rfl,List.drop_left,zBh];rfl
  refine eM call385 λF hF=>?_
  (repeat' (first|refine uT ?_|apply yW|apply xI|intro hc|(apply zG;apply xP;(refine vG 399 ?_;refine wM (FC tok Z Z Z Z Z Z zB zB Z Z Z zB Z Z Z Z Z) Z ?_))|(apply zG;first|(apply gX;first|refine dM tok Z Z Z Z Z Z Z zB zB Z ?_|refine wM (zi (N:=ln xs+1) tok Z Z Z Z Z Z zB zB zB zB) Z ?_)|(refine Kc tok Z Z Z Z Z Z Z (by first|exact A|exact B) (by first|exact E|(intro y z;cases z;exact hv)) (by first|(rw[u];omega)|simp) Z (by first|exact G|exact I) Z ?_)|(refine N1 tok Z Z Z Z zB Z ?_;intro U M))|fail))
  exact zP [1001,98] Z Z Z Z
theorem an (xs:List AV) (v:AV) (i c:Nat) (hv:ln v.cells=5) (hx:∀y∈xs,ln y.cells=5) (h1:1<=ln xs) (hn:ln xs<=1000) (hi:i<=ln xs) (hc:c<ln xs+1):
  zN 385 [.slc c xs,iA i,.ref 98 0 1] [(98,.arr 5 [v] false)] (.sl false (xs.take i++v::xs.drop i)) [(98,.arr 5 [v] false)]:=by
 have z:∀(j:Nat) (y:AV),xs[j]? =some y->ln y.cells=5:=λj y A=>hx y (zCc A)
 by_cases W:i=ln xs
 .subst W;refine eM call385 λF hF=>?_
  (repeat' (first|refine uT ?_|apply yW|apply xI|intro hc|(apply zG;first|(refine wM (AR tok Z Z Z) Z ?_)|(apply gX;refine ud 10 Z h1 ?_;refine GZ tok Z Z Z Z Z (z 0) zB zB Z Z ?_)|(apply yC;refine uU (nw:=[25]) (yi tok 25 Z Z Z Z Z Z Z Z Z Z (λy A=>by cases A;exact hv) zV qA qA z) Z Z Z ?_))|fail))
  refine zP [98] Z Z ?_ Z
  show AV.sl false ((xs++[v]).take (xs++[v]).length)=_
  rw[zAt,zAt,zEu]
 .have Y:i<ln xs:=by omega
  have B:(xs.drop i).length=ln xs-i:=zBr;have u:(xs.take i).length=i:=by rw[zBg];omega
  have M:∀(j:Nat) (y:AV),(xs.take i)[j]? =some y->ln y.cells=5:=λj y A=>hx y (zCo (zCc A))
  have L:∀y,(xs.drop i)[0]? =some y->ln y.cells=5:=λy A=>hx y (zBz (zCc A))
  have ac:∀y,xs[0]? =some y->ln y.cells=5:=z 0;have I:((ln xs:Int)+1-(i:Int))=((ln xs+1-i:Nat):Int):=by omega
  have S:∃zs,xs.take i++pb (ln xs+1-i) (AV.agg [.s (.int .i64 0),.s (.int .i64 0),.s (.int .i64 0),.s (.int .i64 0),.s (.slice none 0 0)])=zs:=⟨_,rfl⟩;obtain⟨zs,C⟩:=S;have hN:ln zs=ln xs+1:=by rw[<-C,zAv,u,zCq];omega
  have U:zs.take i=xs.take i:=by rw[<-C,zC0 zB,zA1 zB]
  have E:(([v].drop 0).take 1).take (ln xs+1-i)=[v]:=zA1 qA;have G:(xs.drop i).take (ln xs+1-(i+1))=xs.drop i:=zA1 zB;have O:zs.take i++[v]++zs.drop (i+[v].length)=xs.take i++[v]++zs.drop (i+1):=by rw[U];rfl
  have V:(xs.take i++[v]).length=i+1:=by rw[zAv,u];rfl
  have R:(xs.take i++[v]++zs.drop (i+1)).take (i+1)++xs.drop i++(xs.take i++[v]++zs.drop (i+1)).drop (i+1+(xs.drop i).length)=xs.take i++v::xs.drop i:=by
   have e3:(xs.take i++[v]++zs.drop (i+1)).drop (i+1+(xs.drop i).length)=[]:=zD3 (by rw[zAv,V,zBr,hN,B];omega);rw[e3,zBn,zC0 zB,zA1 zB,zBh];rfl
  refine eM call385 λF hF=>?_
  (repeat' (first|refine uT ?_|apply yW|apply xI|intro hc|(apply zG;first|(refine wM (AR tok Z Z Z) Z ?_)|(refine wM (Hn tok Z Z Z) Z ?_)|(apply gX;first|(refine ud 10 Z h1 ?_;refine GZ tok Z Z Z Z Z (z 0) zB zB Z Z ?_)|refine wM (Gn tok Z Z Z Z Z hi) Z ?_|refine dM tok Z Z Z Z Z Z Z zB zB Z ?_|refine GZ tok Z Z Z Z Z (z 0) zB zB Z Z ?_)|(apply yC;refine M1 tok (n:=ln xs+1-i) Z Z Z Z Z Z Z Z Z Z Z Z Z Z I zB (by rw[u];omega) (by rw[u];omega) M C hN Z Z Z ?_)|(first|(refine ud 0 Z h1 ?_;refine Kc tok Z Z Z Z Z Z Z E (λy A=>by cases A;exact hv) zV Z O Z ?_)|refine Kc tok Z Z Z Z Z Z Z G L (by rw[B];omega) Z R Z ?_))|fail))
  refine zP [98] Z Z ?_ Z
  show AV.sl false ((xs.take i++v::xs.drop i).take (ln xs+1))=_
  rw[zA1 (by rw[zAv,u,zA6,B];omega)]
def Tu (v:AV) (hv:ln v.cells=5):
  zN 385 [.s (.slice none 0 0),iA 0,.ref 98 0 1] [(98,.arr 5 [v] false)] (.sl false [v]) [(98,.arr 5 [v] false)]:=by
 refine eM call385 λF hF=>?_
 (repeat' (first|refine uT ?_|apply yW|apply xI|intro hc|(apply zG;first|(apply gX;refine wM (AJ tok Z Z Z Z Z) Z ?_)|(apply yC;refine kX tok Z Z Z Z Z Z (λy u=>by cases u;exact hv) Z Z Z zV Z ?_))|fail))
 exact zP [98] Z Z Z Z
def vM (x:Rq):zN 273 [zY x] [] (bA true) []:=by
 refine eM call273 λF hF=>?_
 exact ly
def pn (l:List Rq) (C:ln l<=1000) (hb:∀r∈l,ln r.legs<=1000):
  zN 222 [zE zY l,.fn 273 []] [] (.ref 1001 0 (l.map zY).length) [(1001,.arr 5 (l.map zY) false)]:=by
 have hl:=zA zY l;refine eM call222 λF hF=>?_
 refine WW ?_;refine zQ 5 1001 5 Z Z Z ?_;refine zU (l) [1001] [] [1,8,9] [5,10,1,8,9] Z (λi f4 T U=>⟨(5,.ref 1001 0 (f4.map zY).length)::(10,iA i)::T,(1001,.arr 5 (f4.map zY) true)::U⟩) (Lq ?_ ?_)
 .intro i f4 x post hx hi;have E:=yJ zY hx hi;have B:=zX hx hi;have A:=zA zY f4;have u:=vM x;have z:=TE x (hb x (xA hx));have e:(f4++[x]).map zY=f4.map zY++[zY x]:=by simp
  rw[e];clear hx e;generalize f4.map zY=R at *;refine yG (xV u z) ?_;rfl
 ·(repeat' (first|refine Zf ?_|apply yW|apply xI|intro hc|fail))
  refine kW [1001] [4] Z Z ?_;refine kF 1001 [4] Z Z Z Z Z (xL ?_);exact zP [1001] Z Z Z Z
def mn:zN 222 [zE zY [],.fn 273 []] [] (.s (.slice none 0 0)) []:=by
 refine eM call222 λF hF=>?_
 refine WW ?_;refine zU (([]:List Rq)) [] [] [1,8,9] [5,10,1,8,9] Z (λi f4 T U=>⟨(5,.s (.slice none 0 0))::(10,iA i)::T,U⟩) (Lq ?_ ?_)
 .intro i f4 x post hx hi
  cases f4<;>cases hx
 ·(refine WW ?_)
  exact zP [] Z Z Z Z
def GT (l:List Rq) (u:ln l<=1000) (hb:∀r∈l,ln r.legs<=1000):
  zN 225 [zE zY l] [] (.ref 1001 0 (l.map zY).length) [(1001,.arr 5 (l.map zY) false)]:=by
 have c:=pn l u hb;refine eM call225 λF hF=>?_
 refine zS c ?_;exact zP [1001] Z Z Z Z
def TJ:zN 225 [zE zY []] [] (.s (.slice none 0 0)) []:=by
 have c:=mn;refine eM call225 λF hF=>?_
 refine zS c ?_;exact zP [] Z Z Z Z
section
variable {P:Program} {K0:List Nat} {F:Fr K0} {m:Nat}
def GU (n len:Nat) {Q:Exit->St->Prop} {id:Nat} {l:List Oper} (u:Nat.beq (ln l) len=true) (z:P.follows .mixedOrders=true)
 (hk:yN P F m l.toArray true (l.take n) st [] (λfs s=>WQ l n (OV l) fs.reverse=true/\yN P F m l.toArray false (l.drop n) s [] (λ_ s=>Q .normal s))):uD P F m (.region id l.toArray true) st Q:=Uu n z hk
end
def XE (l:List Rq) (id:Int):Nat:=l.findIdx λr=>!decide (r.id<id)
def Jc (l:List Rq) (id:Int):XE l id<=ln l:=List.findIdx_le_length
theorem Ic {id:Int} {i:Nat} (h:i<XE l id):(l.getD i dd).id<id:=by grind [XE]
theorem Gc {id:Int} (h:XE l id<ln l):¬(l.getD (XE l id) dd).id<id:=by grind [XE]
def gN (id:Int) (v:Vh) (u:Int) (x:List Lg) (f3:Int):Rq:=⟨id,v.id,v.cls,f3+u,x⟩
def gW (l:List Rq) (r:Rq):List Rq:=l.take (XE l r.id)++r::l.drop (XE l r.id)
def QU (l:List Rq) (q id u:Int) (x:List Lg):Int:=
 if¬(0<=id/\id<=4294967295/\1<=u/\u<=600/\AL x=true)then 8 else if kT l id=true then 11 else if q<=ln l\/4<=(ln l:Int)then 14 else 0
theorem sn (l:List Rq) (q id:Int) (v:Vh) (u:Int) (x:List Lg) (f3:Int) (hv:cJ l) (hq:(ln l:Int)<=q) (v0:0<=v.id) (v1:v.id<=4294967295) (w0:0<=v.cls) (w1:v.cls<=3) (n0:0<=f3) (n1:f3<=1073741824):
  zN 353 [zE zY l,iA q,iA id,vB v,iA u,zE yO x,iA f3] [] (.tup [zE zY (if QU l q id u x=0 then gW l (gN id v u x f3)else []),iA (QU l q id u x)]) []:=by
 have h4:=hv.n4;have hl:=zA zY l;have G:=TK l q hv hq;have A:=MI v.id;have B:=Ec v.cls;have C:=Qf f3;have z:=MI id;have I:=Rf x;have M:=MD l id zB;rw[zAu ⟨v0,v1⟩]at A;rw[zAu ⟨w0,w1⟩]at B;rw[zAu ⟨n0,n1⟩]at C;by_cases S:0<=id/\id<=4294967295
 case neg=>
  rw[zAs S]at z;have e:QU l q id u x=8:=f5 λh=>S ⟨h.1,h.2.1⟩
  rw[e,Os yY];refine eM call353 λF hF=>?_
  exact mx (MG G A B C z)
 rw[zAu S]at z;by_cases g2:1<=u/\u<=600
 case neg=>
  have e:QU l q id u x=8:=f5 λh=>g2 ⟨h.2.2.1,h.2.2.2.1⟩
  rw[e,Os yY];by_cases g3:1<=u
  all_goals
   (refine eM call353 λF hF=>?_)
   exact mx (MG G A B C z)
 obtain⟨g2,g3⟩:=g2
 cases R:AL x with
 |false=>
  rw[R]at I;have e:QU l q id u x=8:=f5 λh=>zA7 (R.symm.trans h.2.2.2.2)
  rw[e,Os yY];refine eM call353 λF hF=>?_
  exact mx (mb G A B C z I)
 |true=>
 rw[R]at I
 have O:QU l q id u x=if kT l id=true then 11 else if q<=ln l\/4<=(ln l:Int)then 14 else 0:=Os λh=>h ⟨S.1,S.2,g2,g3,R⟩
 cases hh:kT l id with
 |true=>
  have hx:=Mc (p:=λx:Rq=>x.id==id) (l:=l) hh;generalize TF (λx:Rq=>x.id==id) l=n at *;have e:QU l q id u x=11:=by rw[O,f5 hh]
  rw[e,Os yY];refine eM call353 λF hF=>?_
  exact mx (Ax G A B C z I M)
 |false=>
 have hx:=bS (p:=λx:Rq=>x.id==id) (l:=l) (by simpa [kT]using hh);rw[hx]at M;rw[Os CE]at O;by_cases g4:q<=ln l\/4<=(ln l:Int)
 case pos=>
  rw[f5 g4]at O;rw[O,Os yY];by_cases g5:q<=ln l
  ·(refine eM call353 λF hF=>?_)
   exact mx (Ax G A B C z I M)
  .have g6:4<=(ln l:Int):=g4.resolve_left g5;refine eM call353 λF hF=>?_
   exact mx (Ax G A B C z I M)
 rw[Os g4]at O;rw[O,f5 Z];have ax:=XF R;have c8:=XD x zB;have hk:=Jc l id;have V:=λi h=>Ic (l:=l) (id:=id) (i:=i) h
 have W:=Gc (l:=l) (id:=id)
 have E:(l.map zY).take (XE l id)++zY (gN id v u x f3)::(l.map zY).drop (XE l id)=(gW l (gN id v u x f3)).map zY:=by
  unfold gW gN;rw[zAy,zCb,zD5,zDn]
 have ap:((gW l (gN id v u x f3)).map zY).length=(l.map zY).length+1:=by
  rw[<-E,zAv,zA6,zBg,zBr];omega
 have h5:∀y∈l.map zY,ln y.cells=5:=λy hy=>by
  obtain⟨r,_,rfl⟩:=zCa.1 hy;rfl
 have r1:=λh=>bn (l.map zY) (zY (gN id v u x f3)) (XE l id) Z h5 h zB zB
 have L:=λh c hc=>an (l.map zY) (zY (gN id v u x f3)) (XE l id) c Z h5 h zB zB hc
 have r3:=Tu (zY (gN id v u x f3)) Z;rw[E]at r1 L;have d1:=GT l zB (λr hr=>by have:=hv.lg3 hr;omega);clear hv R;have hR:zE zY (gW l (gN id v u x f3))=AV.sl false ((gW l (gN id v u x f3)).map zY):=rfl;rw[hR];by_cases ag:l=[]
 .subst ag;have d0:=TJ;have hY:(gW [] (gN id v u x f3)).map zY=[zY (gN id v u x f3)]:=rfl;rw[hY];clear r1 L hY hR E ap;refine eM call353 λF hF=>?_
  refine yG (Ax G A B C z I M) ?_;refine zO (0) [10] [10] [0,2,4,5,6,10] [16,0,2,4,5,6,10] Z (λi T U=>⟨(16,iA i)::T,U⟩) (Lq ?_ ?_)
  .intro i hi;omega
  .exact mx (qM c8 d0 r3)
 have au:1<=ln l:=by
  cases l with
  |nil=>exact absurd Z ag
  |cons a b=>simp
 have r1:=r1 zB;have L:=L zB;clear r3 hR E;generalize (gW l (gN id v u x f3)).map zY=Y at *;refine eM call353 λF hF=>?_
 refine yG (Ax G A B C z I M) ?_;refine zO (XE l id) [10] [10] [0,2,4,5,6,10] [16,0,2,4,5,6,10] Z (λi T U=>⟨(16,iA i)::T,U⟩) (Lq ?_ ?_)
 .intro i hi;have hy:=zJ zY l i zB;have av:=V i hi;generalize l.getD i dd=r at *;refine WW ?_;rfl
 .clear V;by_cases ac:XE l id<ln l
  case' pos=>
   have hy:=zJ zY l (XE l id) ac;have ar:=W ac;generalize l.getD (XE l id) dd=r at*
  all_goals clear W
  all_goals generalize XE l id=k at*
  all_goals (have ga:=c8;have ge:=d1;(repeat' (first|refine WS ?_|refine SG (I2 (λhc=>?_) λhc=>?_)|refine SG λhc=>?_|(apply zG;first|refine SM ?_)|(first|refine GU 5 8 Z Z ?_|first|refine SR ?_|refine SK (I2 (λhc=>?_) λhc=>?_)|refine SK λhc=>?_|fail)|fail))<;>clear ga ge)
  all_goals refine Lc NA ?_
  all_goals refine U2 95 1001 ((l.map zY).length+1) [98] [96,98] (st':=⟨[(96,iA k),(98,.ref 98 0 1)],[(98,.arr 5 [zY (gN id v u x f3)] false)]⟩) Z Z zB zB zB Z Z Z (λc hc=>?_) ?_
  case' pos.refine_1|neg.refine_1=>
   have L:=L c hc;exact ng L
  all_goals rw[show(l.map zY).length+1-(l.map zY).length=1 by omega]
  all_goals (refine zS r1 ?_)
  all_goals (refine zH [] Z Z ?_ Z;show AV.tup [AV.sl false (Y.take ((l.map zY).length+1)),iA 0]=_;rw[zA1 zB])
