/- Part 6. -/
import Derived.Test.YtaglbcjljlkjcaaGreatU05
namespace Go.Proofs.YtaglbcjljlkjcaaGreat.Av
open Tryz
set_option linter.all false
set_option maxRecDepth 4000
set_option maxHeartbeats 2000000
open List renaming length->ln,replicate->pi
open Inhabited renaming default->dd
variable {xs zs:List AV}{l:List Rq}{T e len sz:Nat}{x:Operand}{st:St}{te ti:TI}{α:Type}
def PZ (r:Int):Bool:=decide (0<=r/\r<=63)
def XA (r:Int):zN 371 [iA r] [] (bA (PZ r)) []:=by
 unfold PZ
 by_cases h1:0<=r<;>by_cases h2:r<=63<;>simp only[h1,h2,zGe,zE9,zFp,zFj]<;>first|(exfalso;omega;done)|((refine eM call371 λF hF=>?_);exact mx)
def XB (r:Int):zN 326 [iA r] [] (bA (PZ r)) []:=by
 unfold PZ
 by_cases h1:0<=r<;>by_cases h2:r<=63<;>simp only[h1,h2,zGe,zE9,zFp,zFj]<;>first|(exfalso;omega;done)|((refine eM call326 λF hF=>?_);exact mx)
def Am:∀a b:_root_.Fin 64,(W2 a.val b.val==0)=(kX a.val b.val==(a.val:Int)):=by decide +kernel
def Sc (a b:Int):Bool:=PZ a&&PZ b&&(kX a b==a)
theorem Yu (a b:Int):(PZ a&&PZ b&&(W2 a b==0))=Sc a b:=by
 unfold Sc
 cases u:PZ a<;>cases hb:PZ b<;>simp only[zA3,zBt,zCs,zDe]
 simp only[PZ,zAz]at u hb;have:=Am ⟨a.toNat,zB⟩ ⟨b.toNat,zB⟩
 grind
def AE (a b:Int):zN 391 [iA a,iA b] [] (bA (Sc a b)) []:=by
 have u:=XA a;have z:=XA b;rw[<-Yu]
 cases h1:PZ a<;>cases h2:PZ b<;>rw[h1]at u<;>rw[h2]at z<;>simp only[zA3,zBt,zCs]<;>((refine eM call391 λF hF=>?_);exact ng (xQ u z))
def JZ (a b:Int):zN 366 [iA a,iA b] [] (bA (Sc a b)) []:=by
 have u:=XB a;have z:=XB b;unfold Sc
 cases h1:PZ a<;>cases h2:PZ b<;>rw[h1]at u<;>rw[h2]at z<;>simp only[zA3,zBt,zCs]<;>((refine eM call366 λF hF=>?_);exact ng (xQ u z))
def MK (k:Int):Int:=if k=6\/k=7\/k=8 then 1 else if k=4\/k=5 then 2 else if k=2 then 4 else if k=3 then 8 else if k=10 then 16 else if k=11 then 32 else 0
theorem IA (k:Int):(k=6/\MK k=1)\/(k=7/\MK k=1)\/(k=8/\MK k=1)\/(k=4/\MK k=2)\/(k=5/\MK k=2)\/(k=2/\MK k=4)\/(k=3/\MK k=8)\/(k=10/\MK k=16)\/(k=11/\MK k=32)\/
  (k≠6/\k≠7/\k≠8/\k≠4/\k≠5/\k≠2/\k≠3/\k≠10/\k≠11/\MK k=0):=by
 by_cases A:k=6
 .grind [MK]
 by_cases B:k=7
 .grind [MK]
 by_cases C:k=8
 .grind [MK]
 by_cases u:k=4
 .grind [MK]
 by_cases z:k=5
 .grind [MK]
 by_cases h2:k=2
 all_goals grind [MK]
def yn (k:Int):zN 370 [iA k] [] (iA (MK k)) []:=by
 rcases IA k with⟨h,e⟩|⟨h,e⟩|⟨h,e⟩|⟨h,e⟩|⟨h,e⟩|⟨h,e⟩|⟨h,e⟩|⟨h,e⟩|⟨h,e⟩|⟨h1,h2,u,z,A,B,C,E,G,e⟩<;>rw[e]<;>((refine eM call370 λF hF=>?_);exact mx)
def Jh (k:Int):zN 327 [iA k] [] (iA (MK k)) []:=by
 rcases IA k with⟨h,e⟩|⟨h,e⟩|⟨h,e⟩|⟨h,e⟩|⟨h,e⟩|⟨h,e⟩|⟨h,e⟩|⟨h,e⟩|⟨h,e⟩|⟨h1,h2,u,z,A,B,C,E,G,e⟩<;>rw[e]<;>((refine eM call327 λF hF=>?_);exact mx)
def mj (r k:Int):Bool:=PZ r&&(kX r (MK k)==MK k)
def Ih (r k:Int):zN 342 [iA r,iA k] [] (bA (mj r k)) []:=by
 have u:=XA r;have z:=yn k;unfold mj;generalize MK k=n at*
 cases h1:PZ r<;>rw[h1]at u<;>simp only[zA3,zBt]<;>((refine eM call342 λF hF=>?_);exact ng (xQ u z))
def Rc (r k:Int):zN 288 [iA r,iA k] [] (bA (mj r k)) []:=by
 have u:=XB r;have z:=Jh k;unfold mj;generalize MK k=n at*
 cases h1:PZ r<;>rw[h1]at u<;>simp only[zA3,zBt]<;>((refine eM call288 λF hF=>?_);exact ng (xQ u z))
def Z1 (r b:Int):zN 207 [iA r,iA b] [] (lj ⟨b,r,b⟩) []:=by
 refine eM call207 λF hF=>?_
 exact mx
def Xu (r b:Int):zN 213 [iA r,iA b] [] (lj ⟨b,r,b⟩) []:=by
 refine eM call213 λF hF=>?_
 exact mx
def wn (b:Bk):Bool:=decide (0<=b.burst/\b.burst<=1000/\0<=b.rate/\b.rate<=b.burst/\0<=b.level/\b.level<=b.burst)
def vn (b:Bk):zN 374 [lj b] [] (bA (wn b)) []:=by
 (cases hb:wn b with|false=>((refine eM call374 λF hF=>?_);((refine WW (I6 (λhc hc hc hc hc=>?_) (λhc hc hc hc hc=>?_) (λhc hc hc hc=>?_) (λhc hc hc=>?_) (λhc hc=>?_) λhc=>?_)));all_goals (first|exact zH|(simp only[wn,zA6]at hb;first|exact MP|exact OB)))|true=>(simp only[wn,zAz]at hb;(refine eM call374 λF hF=>?_);((refine WW ?_));all_goals (first|exact zH|exact MP|exact OB)))
def Hh (b:Bk):zN 365 [lj b] [] (bA (wn b)) []:=by
 (cases hb:wn b with|false=>((refine eM call365 λF hF=>?_);((refine WW (I6 (λhc hc hc hc hc=>?_) (λhc hc hc hc hc=>?_) (λhc hc hc hc=>?_) (λhc hc hc=>?_) (λhc hc=>?_) λhc=>?_)));all_goals (first|exact zH|(simp only[wn,zA6]at hb;first|exact MP|exact OB)))|true=>(simp only[wn,zAz]at hb;(refine eM call365 λF hF=>?_);((refine WW ?_));all_goals (first|exact zH|exact MP|exact OB)))
def o7 (b:Bk):Bk:=⟨min (b.level+b.rate) b.burst,b.rate,b.burst⟩
def Wu (b:Bk) (h: -1000000000<=b.level+b.rate/\b.level+b.rate<=1000000000):zN 221 [lj b] [] (lj (o7 b)) []:=by
 refine eM call221 λF hF=>?_
 exact mx
def qn (b:Bk) (h: -1000000000<=b.level+b.rate/\b.level+b.rate<=1000000000):zN 190 [lj b] [] (lj (o7 b)) []:=by
 refine eM call190 λF hF=>?_
 exact mx
def RG (b:Bk):Bk:=if b.level<=0 then b else⟨b.level-1,b.rate,b.burst⟩
def Vu (b:Bk) (h:b.level<=9223372036854775807):zN 306 [lj b] [] (.tup [lj (RG b),bA (decide (0<b.level))]) []:=by
 unfold RG;by_cases h1:b.level<=0
 .rw[zAs h1,zAu zB];refine eM call306 λF hF=>?_
  exact mx
 .rw[Os h1,zAw zB];refine eM call306 λF hF=>?_
  exact mx
def bn (b:Bk) (h:b.level<=9223372036854775807):zN 241 [lj b] [] (.tup [lj (RG b),bA (decide (0<b.level))]) []:=by
 unfold RG;by_cases h1:b.level<=0
 .rw[zAs h1,zAu zB];refine eM call241 λF hF=>?_
  exact mx
 .rw[Os h1,zAw zB];refine eM call241 λF hF=>?_
  exact mx
def jY (l:List Tk) (s:Int):Bool:=decide (0<=s/\s<ln l)&&(l.getD s.toNat dd).used
def Qc (l:List Tk) (s:Int):zN 303 [zE yP l,iA s] [] (bA (jY l s)) []:=by
 have hl:=zA yP l;unfold jY;by_cases h1:0<=s
 .by_cases h2:s<ln l
  .have u:=yE yP l s h1 h2;rw[zAw ⟨h1,h2⟩,zA3];refine eM call303 λF hF=>?_
   exact mx
  .rw[zAu zB,zBt];refine eM call303 λF hF=>?_
   exact mx
 .rw[zAu zB,zBt];refine eM call303 λF hF=>?_
  exact mx
def Er (a b:Int):Bool:=decide (b≠0/\(a=0\/b<a))
def Zf (a b:Int):zN 392 [iA a,iA b] [] (bA (Er a b)) []:=by
 unfold Er
 by_cases h1:b=0<;>by_cases h2:a=0<;>by_cases u:b<a<;>simp only[zDz,h1,h2,u,zE7,zF1,zGe,zE9,true_and,false_and,or_true,true_or,or_false,zFp,zFj]<;>first|(exfalso;omega;done)|((refine eM call392 λF hF=>?_);exact mx)
def AF (a b:Int):zN 367 [iA a,iA b] [] (bA (Er a b)) []:=by
 unfold Er
 by_cases h1:b=0<;>by_cases h2:a=0<;>by_cases u:b<a<;>simp only[zDz,h1,h2,u,zE7,zF1,zGe,zE9,true_and,false_and,or_true,true_or,or_false,zFp,zFj]<;>first|(exfalso;omega;done)|((refine eM call367 λF hF=>?_);exact mx)
def Aa (t:Tk) (f4:Int):Bool:=decide (t.til≠0/\t.til<f4)
def IB (t:Tk) (f4:Int):zN 264 [yP t,iA f4] [] (bA (Aa t f4)) []:=by
 unfold Aa
 by_cases h1:t.til=0<;>by_cases h2:t.til<f4<;>simp only[zDz,h1,h2,zE7,zF1,zGe,zE9,zFp,zFj]<;>first|(exfalso;omega;done)|((refine eM call264 λF hF=>?_);exact mx)
def zb:Tk:=⟨false,[],-1,0,0,0⟩
def Pc:zN 258 [] [] (yP zb) []:=by
 refine eM call258 λF hF=>?_
 exact mx
def fZ (f:α->AV) (l:List α):AV.sl false ((l.map f).take (l.map f).length)=zE f l:=by rw[zAv];rfl
def dR (_:Nat) (l:List α):List α:=l
def TC (l:List Int) (hl:ln l<=1073741824):zN 111 [zE iA l] [] (zE iA l) []:=by
 have u:=zA iA l;refine eM call111 λF hF=>?_
 refine xI 0 Z (λcap z=>?_) ?_
 .have:l=[]:=by simpa using z
  subst this;exact mx
 ·(refine WW ?_)
  refine zI [] Z Z (fZ _ _) Z
def kT (l:List Int) (hl:ln l<=1073741824):zN 88 [zE yA l] [] (zE yA l) []:=by
 have u:=zA yA l;refine eM call88 λF hF=>?_
 refine xI 0 Z (λcap z=>?_) ?_
 .have:l=[]:=by simpa using z
  subst this;exact mx
 ·(refine WW ?_)
  refine zI [] Z Z (fZ _ _) Z
def AG (l:List Vh) (hl:ln l<=1073741824):zN 218 [zE vC l] [] (zE vC l) []:=by
 have u:=zA vC l;refine eM call218 λF hF=>?_
 refine xI 0 Z (λcap z=>?_) ?_
 .have:l=[]:=by simpa using z
  subst this;exact mx
 ·(refine WW ?_)
  refine zI [] Z Z (fZ _ _) Z
def VM (l:List Tk) (hl:ln l<=1073741824):zN 217 [zE yP l] [] (.ref 1001 0 (l.map yP).length) [(1001,.arr 6 (l.map yP) false)]:=by
 have u:=zA yP l;refine eM call217 λF hF=>?_
 refine xI 0 Z (λcap z=>?_) ?_
 .have:l=[]:=by simpa using z
  subst this
  (repeat' (first|refine Xf ?_|apply yW|apply xH|intro hc|fail))
  refine qH 2 1001 6 Z Z Z (xL ?_);exact zP [1001] Z Z Z Z
 .repeat' (first|(apply zG;first|refine uM tok Z Z ?_|(apply wY;refine wM (xY tok (.inl ⟨rfl,rfl⟩) Z Z Z Z) Z ?_)|(apply yH;refine uT (nw:=[1001]) (yV tok 1001 (xs:=[]) Z Z Z Z Z Z Z Z Z) Z Z Z ?_)|(apply yC;refine vB tok Z Z Z Z Z Z Z (yM _ _ (λ_=>rfl)) Z Z Z zB Z ?_)|apply kQ)|(first|apply xX|apply xT|refine vZ Z ?_|refine yS Z ?_|refine yD Z ?_|refine xZ Z (λhc=>?_) λhc=>?_|apply xJ|apply xL|apply xS|apply xB))
  exact zP [1001] Z Z Z Z
structure IC (l:List Tk):Prop where
 n:l.length<=1000000
 s:∀t∈l,t.sec.length<=1000000
theorem cB [Inhabited α] (f:α->AV) (l:List α) (i:Nat) (hi:i<ln l):(dR i (l.map f)).set i (f (l.getD i dd))=dR (i+1) (l.map f):=by
 unfold dR;have:=zJ f l i hi
 grind [dR,List.getElem?_eq_some_iff,List.set_getElem_self]
def VN (l:List Tk) (hb:IC l):zN 262 [zE yP l] [] (.ref 1001 0 (l.map yP).length) [(1001,.arr 6 (l.map yP) false)]:=by
 have c:=VM l (by have:=hb.n;omega);have A:=hb.n;have z:=zA yP l;refine eM call262 λF hF=>?_
 refine zS c ?_;refine zO ((l.map yP).length) [1001] [] [3,8] [9,3,8] Z (λi T U=>⟨(9,iA i)::T,(1001,.arr 6 (dR i (l.map yP)) false)::U⟩) (Lq ?_ ?_)
 .intro i hi;have hi':i<ln l:=by omega
  have B:(dR i (l.map yP))[i]? =some (yP (l.getD i dd)):=zJ yP l i hi';have e:=cB yP l i hi';have u:=kT (l.getD i dd).sec (by have:=hb.s (l.getD i dd) QM;omega);generalize (l.getD i dd)=t,dR i (l.map yP)=xs,dR (i+1) (l.map yP)=ys at *;subst e;refine zS u ?_;rfl
 ·(refine WW ?_)
  exact zP [1001] Z Z Z Z
def AH (a:Ag) (h1:ln a.sec<=1000000) (h2:ln a.lim<=1000000):zN 205 [uF a] [] (uF a) []:=by
 have u:=kT a.sec zB;have z:=TC a.lim zB;refine eM call205 λF hF=>?_
 exact ng (xQ u z)
structure GW (r:Rg):Prop where
 tk:IC r.tk
 s:r.ag.sec.length<=1000000
 l:r.ag.lim.length<=1000000
 v:r.vh.length<=1000000
def rgX (r:Rg) (xs:List AV):AV:= .agg [iA r.num,zE yA r.ag.sec,iA r.ag.rights,iA r.ag.cls,zE iA r.ag.lim,iA r.ag.req,iA r.ag.ses,iA r.ag.rate,iA r.ag.burst,.sl false xs,zE vC r.vh,iA r.bk.level,iA r.bk.rate,iA r.bk.burst]
def cC (r:Rg) (hb:GW r):zN 219 [uQ r] [] (uQ r) []:=by
 have z:=AH r.ag hb.s hb.l;have C:=hb.tk.n;have hv:=hb.v;have u:=VM r.tk zB;have A:=AG r.vh zB;have B:=zA yP r.tk;refine eM call219 λF hF=>?_
 refine yF (xQ z u) ?_;refine zO ((r.tk.map yP).length) [1001,1,2] [1,2] [1,2,14] [15,1,2,14] Z (λi T U=>⟨(15,iA i)::T,(1001,.arr 6 (dR i (r.tk.map yP)) false)::U⟩) (Lq ?_ ?_)
 .intro i hi;have hi':i<ln r.tk:=by omega
  have E:(dR i (r.tk.map yP))[i]? =some (yP (r.tk.getD i dd)):=zJ yP r.tk i hi';have e:=cB yP r.tk i hi';have u:=kT (r.tk.getD i dd).sec (by have:=hb.tk.s (r.tk.getD i dd) QM;omega);generalize (r.tk.getD i dd)=t,dR i (r.tk.map yP)=xs,dR (i+1) (r.tk.map yP)=ys at *;subst e;refine zS u ?_;rfl
 ·(refine zS A ?_)
  exact zI [] Z Z (zBd (rgX r) zAv) Z
theorem cJ.lg3 (h:cJ l) {r:Rq} (u:r∈l):1<=ln r.legs/\r.legs.length<=3:=by
 have:=XE (h.ok r u).lg;omega
theorem cJ.filter (h:cJ l) (p:Rq->Bool):cJ (l.filter p):=
 ⟨λr u=>h.ok r (zEi.1 u).1,h.so.filter p,zBx (zCj _ _) h.n4⟩
def XC (l:List Lg) (hl:ln l<=1000):zN 169 [zE yO l] [] (zE yO l) []:=by
 have u:=zA yO l;refine eM call169 λF hF=>?_
 refine xI 0 Z (λcap z=>?_) ?_
 .have:l=[]:=by simpa using z
  subst this;exact mx
 ·(refine WW ?_)
  refine zI [] Z Z (fZ _ _) Z
def TE (r:Rq) (hl:ln r.legs<=1000):zN 265 [zY r] [] (zY r) []:=by
 have c:=XC r.legs hl;have u:=zA yO r.legs;refine eM call265 λF hF=>?_
 exact nl c
theorem cU (p:Rq->Bool) (ga:List Rq) (x:Rq):((ga++[x]).filter p).map zY=(ga.filter p).map zY++(if p x=true then [x]else []).map zY:=by grind
def Oc (fn:Nat) (v:Int) (p:Rq->Bool) (l:List Rq) (G:ln l<=1000) (hb:∀r∈l,ln r.legs<=1000) (c:∀x,zN fn [zY x,.ptr 3 0 0] [(3,.box [iA v])] (bA (p x)) [(3,.box [iA v])]):
  zN 222 [zE zY l,.fn fn [.ptr 3 0 0]] [(3,.box [iA v])] (zE zY (l.filter p)) [(3,.box [iA v])]:=by
 have hl:=zA zY l;refine eM call222 λF hF=>?_
 refine WW ?_;refine zQ 5 1001 5 Z Z Z ?_;refine zU (l) [1001,3] [3] [1,8,9] [5,10,1,8,9] Z (λi ga T U=>⟨(5,.ref 1001 0 ((ga.filter p).map zY).length)::(10,iA i)::T,(1001,.arr 5 ((ga.filter p).map zY) true)::U⟩) (Lq ?_ ?_)
 .intro i ga x post z hi;have I:=yJ zY z hi;have E:=zW z hi;have B:(ga.filter p).length<=i:=by rw[<-hi];exact zCj _ _
  have C:=zA zY (ga.filter p);have u:=c x;have A:=TE x (hb x (xA z));have e:=cU p ga x;rw[e];clear z e;generalize (ga.filter p).map zY=R at*
  cases h:p x with
  |false=>
   rw[h]at u;rw[Os zA9];refine zS u ?_;rw[zCm,zBo];rfl
  |true=>
   rw[h]at u;rw[zAs Z];refine yF (xQ u A) ?_;rfl
 ·(refine WW ?_)
  exact zP [3] Z Z (fZ _ _) Z
def TF (p:α->Bool) (l:List α):Int:=if l.any p=true then(l.findIdx p:Int)else -1
theorem OA {p:α->Bool} {l ga post:List α} {x:α} (h:l=ga++x::post) (u:∀y∈ga,p y=false) (z:p x=true):TF p l=(ln ga:Int):=by grind [TF]
theorem bU {p:α->Bool} {l:List α} (u:∀y∈l,p y=false):TF p l= -1:=by grind [TF]
theorem Nc {p:α->Bool} {l:List α} (h:l.any p=true):0<=TF p l/\TF p l<ln l:=by grind [TF]
def Y1 (id:Int) (x:Rq):zN 387 [zY x,.ptr 3 0 0] [(3,.box [iA id])] (bA (x.id==id)) [(3,.box [iA id])]:=by
 refine eM call387 λF hF=>?_
 refine WW ?_;exact zP [3] Z Z Z Z
def W1 (id:Int) (l:List Rq) (hb:ln l<=1000):zN 386 [zE zY l,.fn 387 [.ptr 3 0 0]] [(3,.box [iA id])] (iA (TF (λr:Rq=>r.id==id) l)) [(3,.box [iA id])]:=by
 have hl:=zA zY l;refine eM call386 λF hF=>?_
 refine WW ?_;refine uW (l) [3] [3] [0,1,7] [8,0,1,7] Z (λi ga T U zs=>(∀y∈ga,(y.id==id)=false)/\zs=⟨(8,iA i)::T,U⟩) (Lp ?_ ?_ ?_)
 .exact⟨by simp,rfl⟩
 .rintro i ga x post st z hi ⟨hp,rfl⟩;have A:=yJ zY z hi;have C:=zW z hi;have c:=Y1 id x;have u:=OA (p:=λr:Rq=>r.id==id) z hp
  cases B:(x.id==id)<;>rw[B]at c
  .clear z u;refine zS c ?_;exact⟨λy A=>by simp only[zBe,zBm]at A;rcases A with A|rfl;exact hp y A;exact B,rfl⟩
  .rw[u B,hi];clear z u;refine zS c ?_;exact zP [3] Z Z Z Z
 .rintro st ⟨hp,rfl⟩;rw[bU hp];refine WW ?_;exact zP [3] rfl rfl rfl rfl
def ML (l:List Rq) (id:Int) (hb:ln l<=1000):zN 356 [zE zY l,iA id] [] (iA (TF (λr:Rq=>r.id==id) l)) []:=by
 have c:=W1 id l hb;generalize TF (λr:Rq=>r.id==id) l=n at *;refine eM call356 λF hF=>?_
 exact nl c
def V1 (f4:Int) (x:Rq):zN 223 [zY x,.ptr 3 0 0] [(3,.box [iA f4])] (bA (decide (f4<=x.til))) [(3,.box [iA f4])]:=by
 cases hb:decide (f4<=x.til)with
 |false=>
  rw[zA6]at hb;refine eM call223 λF hF=>?_
  refine WW ?_;exact zP [3] Z Z Z Z
 |true=>
  rw[zAz]at hb;refine eM call223 λF hF=>?_
  refine WW ?_;exact zP [3] Z Z Z Z
def U1 (v:Int) (x:Rq):zN 350 [zY x,.ptr 3 0 0] [(3,.box [iA v])] (bA (x.vh != v)) [(3,.box [iA v])]:=by
 refine eM call350 λF hF=>?_
 refine WW ?_;exact zP [3] Z Z Z Z
def S1 (v:Int) (x:Rq):zN 357 [zY x,.ptr 3 0 0] [(3,.box [iA v])] (bA (x.id != v)) [(3,.box [iA v])]:=by
 refine eM call357 λF hF=>?_
 refine WW ?_;exact zP [3] Z Z Z Z
def KO (l:List Rq) (f4:Int):List Rq:=l.filter λx=>decide (f4<=x.til)
def TG (l:List Rq) (v:Int):List Rq:=l.filter λx=>x.vh != v
def TH (l:List Rq) (id:Int):List Rq:=l.filter λx=>x.id != id
def kU (l:List Rq) (id:Int):Bool:=l.any λx=>x.id==id
def an (l:List Rq) (f4:Int) (hv:cJ l):zN 175 [zE zY l,iA f4] [] (zE zY (KO l f4)) []:=by
 have z:=hv.n4;have c:=Oc 223 f4 _ l zB (λr u=>by have:=hv.lg3 u;omega) (V1 f4);unfold KO;generalize l.filter _=A at *;refine eM call175 λF hF=>?_
 exact nl c
def ID (l:List Rq) (v:Int) (hv:cJ l):zN 308 [zE zY l,iA v] [] (zE zY (TG l v)) []:=by
 have z:=hv.n4;have c:=Oc 350 v _ l zB (λr u=>by have:=hv.lg3 u;omega) (U1 v);unfold TG;generalize l.filter _=A at *;refine eM call308 λF hF=>?_
 exact nl c
def pn (l:List Rq) (id:Int) (hv:cJ l):zN 311 [zE zY l,iA id] [] (.tup [zE zY (if kU l id=true then TH l id else []),iA (if kU l id=true then 0 else 12)]) []:=by
 have E:=hv.n4;have z:=TK l 4 hv zB;have u:=ML l id zB;have B:=Oc 357 id _ l zB (λr C=>by have:=hv.lg3 C;omega) (S1 id);unfold TH;generalize l.filter _=G at*
 cases hh:kU l id with
 |true=>
  have A:=Nc (p:=λx:Rq=>x.id==id) (l:=l) hh;generalize TF (λx:Rq=>x.id==id) l=n at *;rw[zAs Z,zAs Z];refine eM call311 λF hF=>?_
  exact ng (qC z u B)
 |false=>
  have A:=bU (p:=λx:Rq=>x.id==id) (l:=l) (by simpa [kU]using hh);rw[A]at u;rw[Os zA9,Os zA9];refine eM call311 λF hF=>?_
  exact ng (xQ z u)
def eE (l:List Rq) (C:ln l<=1000) (hb:∀r∈l,ln r.legs<=1000):zN 187 [zE zY l] [] (zE zY l) []:=by
 have hl:=zA zY l;refine eM call187 λF hF=>?_
 refine WW ?_;refine zQ 3 1001 5 Z Z Z ?_;refine zU (l) [1001] [] [6,7] [3,8,6,7] Z (λi ga T U=>⟨(3,.ref 1001 0 (ga.map zY).length)::(8,iA i)::T,(1001,.arr 5 (ga.map zY) true)::U⟩) (Lq ?_ ?_)
 .intro i ga x post u hi;have G:=yJ zY u hi;have z:=zW u hi;have A:(ga.map zY).length=i:=by rw[zAt,hi]
  have E:=hb x (xA u);have B:=zA yO x.legs;have e:(ga++[x]).map zY=ga.map zY++[zY x]:=by simp
  clear u;rw[e];generalize ga.map zY=xs,l.map zY=I at *;refine WL ?_;rfl
 ·(refine WL ?_)
  exact zI [] Z Z (fZ _ _) Z
def O1 (p:Rq->Bool) {ga post:List Rq} {x:Rq} {i:Nat} (u:l=ga++x::post) (hi:ln ga=i):(ga.filter p).length<=i:=by rw[<-hi];exact zCj _ _
def Gh (l:List Rq) (f4:Int) (hv:cJ l):zN 130 [zE zY l,iA f4] [] (zE zY (KO l f4)) []:=by
 have E:=hv.n4;have hl:=zA zY l;have c:=eE (KO l f4) (by have:=(hv.filter λx=>decide (f4<=x.til)).n4;unfold KO;omega) (λr C=>by have:=(hv.filter _).lg3 C;omega);unfold KO at *;refine eM call130 λF hF=>?_
 refine WW ?_;refine zQ 5 1001 5 Z Z Z ?_;refine zU (l) [1001] [] [1,8,9] [5,10,1,8,9] Z (λi ga T U=>⟨(5,.ref 1001 0 ((ga.filter λx=>decide (f4<=x.til)).map zY).length)::(10,iA i)::T,(1001,.arr 5 ((ga.filter λx=>decide (f4<=x.til)).map zY) true)::U⟩) (Lq ?_ ?_)
 .intro i ga x post u hi;have G:=yJ zY u hi;have B:=zW u hi;have z:=O1 (λx=>decide (f4<=x.til)) u hi;have A:=zA zY (ga.filter λx=>decide (f4<=x.til));have e:=cU (λx=>decide (f4<=x.til)) ga x;rw[e];clear u e;generalize (ga.filter λx=>decide (f4<=x.til)).map zY=R at *;by_cases h:f4<=x.til
  .rw[zAs NH];refine WW ?_;rfl
  .rw[Os NH];refine WW ?_;rw[zCm,zBo];rfl
 ·(have gd:=c;have kj:=(⟨⟩:Su 187 [] [23]);refine WW ?_;clear gd kj)
  exact zH
def MM (l:List Rq) (v:Int) (hv:cJ l):zN 290 [zE zY l,iA v] [] (zE zY (TG l v)) []:=by
 have E:=hv.n4;have hl:=zA zY l;have c:=eE (TG l v) (by have:=(hv.filter λx=>x.vh != v).n4;unfold TG;omega) (λr C=>by have:=(hv.filter _).lg3 C;omega);unfold TG at *;refine eM call290 λF hF=>?_
 refine WW ?_;refine zQ 5 1001 5 Z Z Z ?_;refine zU (l) [1001] [] [1,8,9] [5,10,1,8,9] Z (λi ga T U=>⟨(5,.ref 1001 0 ((ga.filter λx=>x.vh != v).map zY).length)::(10,iA i)::T,(1001,.arr 5 ((ga.filter λx=>x.vh != v).map zY) true)::U⟩) (Lq ?_ ?_)
 .intro i ga x post u hi;have G:=yJ zY u hi;have B:=zW u hi;have z:=O1 (λx=>x.vh != v) u hi;have A:=zA zY (ga.filter λx=>x.vh != v);have e:=cU (λx=>x.vh != v) ga x;rw[e];clear u e;generalize (ga.filter λx=>x.vh != v).map zY=R at *;by_cases h:x.vh≠v
  .rw[zAs NH];refine WW ?_;rfl
  .rw[Os NH];refine WW ?_;rw[zCm,zBo];rfl
 ·(have gd:=c;have kj:=(⟨⟩:Su 187 [] [23]);refine WW ?_;clear gd kj)
  exact zH
theorem mn {id:Int} (h:kU l id=false):TH l id=l:=by grind [kU,TH,List.filter_eq_self,List.any_eq_true]
theorem sn {id:Int} (h:kU l id=true):(TH l id).length<ln l:=by simp_all [kU,TH]
def Fh (l:List Rq) (id:Int) (hv:cJ l):zN 245 [zE zY l,iA id] [] (.tup [zE zY (if kU l id=true then TH l id else []),iA (if kU l id=true then 0 else 12)]) []:=by
 have O:=hv.n4;have hl:=zA zY l;have B:=XF l 4 hv zB;have C:=eE (TH l id) (by have:=(hv.filter λx=>x.id != id).n4;unfold TH;omega) (λr M=>by have:=(hv.filter _).lg3 M;omega);have u:kU l id=false->(TH l id).length=ln l:=λh=>by rw[mn h]
 have z:=λh=>sn (l:=l) (id:=id) h
 have G:=zA zY (TH l id);generalize kU l id=b at *;unfold TH at *;refine eM call245 λF hF=>?_
 refine zS B ?_;refine zQ 6 1001 5 Z Z Z ?_;refine zU (l) [1001] [] [0,1,12,13] [6,14,0,1,12,13] Z (λi ga T U=>⟨(6,.ref 1001 0 ((ga.filter λx=>x.id != id).map zY).length)::(14,iA i)::T,(1001,.arr 5 ((ga.filter λx=>x.id != id).map zY) true)::U⟩) (Lq ?_ ?_)
 .intro i ga x post A hi;have S:=yJ zY A hi;have L:=zW A hi;have E:=O1 (λx=>x.id != id) A hi;have I:=zA zY (ga.filter λx=>x.id != id);have e:=cU (λx=>x.id != id) ga x;rw[e];clear A e;generalize (ga.filter λx=>x.id != id).map zY=R at *;by_cases h:x.id≠id
  .rw[zAs (show(x.id != id)=true by simpa using h)];refine WW ?_;rfl
  .rw[Os (show¬(x.id != id)=true by simpa using h)];refine WW ?_;rw[zCm,zBo];rfl
 .cases b with
  |false=>
   have u:=u Z;rw[Os zA9,Os zA9];exact mx
  |true=>
   have z:=z Z;rw[zAs Z,zAs Z]
   (have gd:=C;have kj:=(⟨⟩:Su 187 [] [32]);refine WW ?_;clear gd kj)
   exact zH
section
variable {P:Program} {K0:List Nat} {F:Fr K0} {m:Nat}
def Uu (n:Nat) {Q:Exit->St->Prop} {id:Nat} {l:List Oper} (z:P.follows .mixedOrders=true)
 (hk:yN P F m l.toArray true (l.take n) st [] (λfs s=>WR l n (ND l) fs.reverse=true/\yN P F m l.toArray false (l.drop n) s [] (λ_ s=>Q .normal s))):uE P F m (.region id l.toArray true) st Q:=by
 obtain⟨B,A,h1,h2,u⟩:=hk.run;exact JG n z h1 CA u.run
def Mc {l:List Oper} {n:Nat} {u:Array Oper} {fs:List FP} {z:St->Prop} (hc:WR l n (ND l) fs.reverse=true) (A:z st):yN P F m u true [] st fs (λfs s=>WR l n (ND l) fs.reverse=true/\z s):=⟨⟨[],st,rfl,hc,A⟩⟩
end
section
variable {P:Program} {TT:List TI} {st:St}
def AI (C:uY P TT) {l:Operand} {k:IntKind} (O:yX (zK st.tm) x= .s (.slice none 0 0)) (hl:yX (zK st.tm) l= .s (.int k 0)) (hT:TT[T]? =some ti) (hd:ti.d= .slice e) (I:TT[e]? =some te):
  wZ P st (.slice T x (some l) none none) (.s (.slice none 0 0)) [] [] []:=
 yZ λS X tm h w β a G E Y U B=>by
  obtain⟨d0,o0,y0,p0,V,W⟩:=S;dsimp only at G;subst G;have hc:=vR B E (x:=x) uO O;obtain⟨u,M,z⟩:=wI (C _ _ hT) w;obtain rfl:=uC (z.trans hd);have L:=qK (C _ _ I) w;have hb:=fL (P:=P) B E (lo:=some l) (hi:=none) (len:=0) (cap:=0) (l:=0) (r:=0) (λy A=>by cases A;simp[Op.operands]) (λy A=>by cases A) ⟨k,0,hl,zB⟩ rfl (zAy _) (zAy _) true;rw[zDv]at hb;exact⟨_,by simp only[execOp,Instr.sliceAt,Instr.slice,Sem.run_bind,M,Result.andThen_ok,hc,zDv,hb,L,Sem.run_pure];rfl,.fz _ _ (.s _)⟩
end
section
variable {P:Program} {TT:List TI} {K0:List Nat} {F:Fr K0} {m:Nat} {ops:Array Oper} {rest:List Oper} {Q:List FP->St->Prop} {tm:List (Nat×AV)} {h:List (Nat×xW)} {dr:Bool} {fs:List FP}
variable {ty:Nat} {pos:String} {after:Array Edge} {t:Nat}
def Lc (M:uY P TT) {u off:Nat} {d:Operand} {L ys:List AV} {I:AV} (z:yX (zK tm) d= .ref u off len) (hk:zD h u=some (.arr sz xs false)) (V:yX (zK tm) x=I) (hT:TT[T]? =some ti) (hd:ti.d= .slice e) (O:TT[e]? =some te)
 (E:CQ (zD h) I=some L) (G:L.take len=ys) (C:∀y,ys[0]? =some y->ln y.cells=sz) (A:1<=ln ys) (B:Nat.beq sz te.size=true) (W:xs.take off++ys++xs.drop (off+ln ys)=zs) (S:Nat.blt t m=true)
 (U:yN P F m ops dr rest ⟨(t,.s (.int .i64 (ln ys)))::tm,(u,.arr sz zs false)::h⟩ (⟨true,[u],u::PN I⟩::fs) Q):yN P F m ops dr (⟨some t,.call ⟨.builtin .copy, #[d,x], #[T,T]⟩,ty,pos,after,none⟩::rest) ⟨tm,h⟩ fs Q:=by
 subst W;exact uT (nw:=[]) (II M z hk V hT hd O E G C (.inl A) B) S Z Z U
def N1 (u:uY P TT) {k:Nat} {xs:List AV} (B:yX (zK tm) x= .ref k 0 len) (hk:zD h k=some (.arr sz xs ⟨false,false⟩)) (hT:TT[T]? =some ti) (hd:ti.d= .slice e) (hl:1<=len) (z:Nat.blt t m=true)
 (A:∀c:Int,(ln xs:Int)<=c->yN P F m ops false rest ⟨(t,.s (.int .i64 c))::tm,h⟩ fs Q):yN P F m ops false (⟨some t,.call ⟨.builtin .cap, #[x], #[T]⟩,ty,pos,after,none⟩::rest) ⟨tm,h⟩ fs Q:=
 x_m (wd u B hk hT hd hl) z Z (λv d ⟨c,_,_,e⟩=>by subst e;rfl) (λv d ⟨c,e1,e2,e3⟩=>by subst e1 e3;exact A c e2)
def Yf (I:uY P TT) {k:Nat} {s:Operand} {vs:List AV} {G:AV} (S:yX (zK tm) s= .ref k 0 len) (hk:zD h k=some (.arr sz xs ⟨false,false⟩)) (U:yX (zK tm) x=G) (hT:TT[T]? =some ti) (hd:ti.d= .slice e) (L:TT[e]? =some te) (E:CQ (zD h) G=some vs)
 (B:Nat.beq sz te.size=true) (C:∀y,vs[0]? =some y->ln y.cells=sz) (A:1<=ln vs) (hl:1<=len) (u:len+ln vs<=ln xs) (z:ln xs<=1073741824) (V:xs.take len++vs++xs.drop (len+ln vs)=zs) (M:Nat.blt t m=true)
 (O:yN P F m ops dr rest ⟨(t,.ref k 0 (len+ln vs))::tm,(k,.arr sz zs ⟨false,false⟩)::h⟩ (⟨true,[k],k::PN G⟩::fs) Q):yN P F m ops dr (⟨some t,.call ⟨.builtin .append, #[s,x], #[T,T]⟩,ty,pos,after,none⟩::rest) ⟨tm,h⟩ fs Q:=by
 subst V;exact uT (nw:=[]) (wi I S hk U hT hd L E B C A hl u z) M Z Z O
def M1 (hP:uY P TT) {I c n N:Nat} {s:Operand} {V:TI} {k0:IntKind} {nx:Int} {ys:List AV} {z:AV} (hs:yX (zK tm) s= .slc c ys) (hx:yX (zK tm) x= .s (.int .i64 nx)) (hT:TT[T]? =some ti) (hd:ti.d= .slice e) (he:TT[e]? =some te) (Y:TT[I]? =some V) (C:V.d= .int k0)
 (hb:Nat.ble te.bytes 65536=true) (hp:Nat.ble 1 te.size=true) (U:Nat.beq (ln te.zero) te.size=true) (O:te.zero.all (·.oneCell')=true) (S:Nat.beq (uJ te).cells.length te.size=true) (B:(uJ te).cells=te.zero.map .s) (hz:uJ te=z)
 (G:nx=(n:Int)) (A:1<=n) (u:ln ys+n<=1073741824) (hc:c<ln ys+n) (M:∀(i:Nat) (y:AV),ys[i]? =some y->ln y.cells=te.size) (W:ys++pi n z=zs) (hN:ln zs=N) (hm:Nat.blt t m=true) (E:(zD h t).isNone=true)
 (L:te.size=sz) (hk:yN P F m ops dr rest ⟨(t,.ref t 0 N)::tm,(t,.arr sz zs false)::h⟩ (⟨true,[t,t],[]⟩::fs) Q):yN P F m ops dr (⟨some t,.call ⟨.builtin .append, #[s,x], #[T,I]⟩,ty,pos,after,none⟩::rest) ⟨tm,h⟩ fs Q:=by
 subst L hz hN W;exact uT (nw:=[t]) (vo hP t hs hx hT hd he Y C hb hp U O S B G A u hc M) hm (Mb E) Z hk
end
theorem Zn (xs:List AV) (v:AV) (i:Nat) (hv:ln v.cells=5) (U:∀y∈xs,ln y.cells=5) (h1:1<=ln xs) (Y:ln xs<=1000) (hi:i<=ln xs):
  zN 385 [.ref 1001 0 (ln xs),iA i,.ref 98 0 1] [(1001,.arr 5 (xs++[dD 5]) false),(98,.arr 5 [v] false)] (.ref 1001 0 (ln xs+1)) [(1001,.arr 5 (xs.take i++v::xs.drop i) false),(98,.arr 5 [v] false)]:=by
 have C:(xs++[dD 5]).length=ln xs+1:=by simp
 by_cases O:i=ln xs
 .subst O
  have V:(xs++[dD 5]).take (ln xs)++[v]++(xs++[dD 5]).drop (ln xs+[v].length)=xs.take (ln xs)++v::xs.drop (ln xs):=by
   rw[zC2 (zAy _),zAv,zEw,zD5 zV];simp
  refine eM call385 λF hF=>?_
  (repeat' (first|refine uS ?_|apply yW|apply xH|intro hc|(apply zG;first|(apply gY;refine dM tok Z Z Z Z Z Z Z zB zB Z ?_)|(apply yC;refine Yf tok Z Z Z Z Z Z Z Z (λy z=>by cases z;exact hv) zV zB zV zB V Z ?_))|fail))
  exact zP [1001,98] Z Z Z Z
 .have S:i<ln xs:=by omega
  have e1:(xs++[dD 5]).drop i=xs.drop i++[dD 5]:=List.drop_append_of_le_length zB;have u:(xs.drop i).length=ln xs-i:=zBr
  have A:(((xs++[dD 5]).drop i).take (ln xs+1-i)).take (ln xs+1-(i+1))=xs.drop i:=by
   have e3:((xs++[dD 5]).drop i).take (ln xs+1-i)=xs.drop i++[dD 5]:=by rw[e1];exact zA2 qB
   rw[e3,zC2 zB,zA2 zB]
  have G:(xs++[dD 5]).take (i+1)++xs.drop i++(xs++[dD 5]).drop (i+1+(xs.drop i).length)=xs.take (i+1)++xs.drop i:=by
   have e3:(xs++[dD 5]).drop (i+1+(xs.drop i).length)=[]:=zD5 (by rw[C,u];omega);rw[e3,zBo,zC2 zB]
  have E:∀y,(xs.drop i)[0]? =some y->ln y.cells=5:=λy z=>U y (zB1 (zCf z))
  have B:(([v].drop 0).take 1).take (ln xs+1-i)=[v]:=zA2 qB
  have I:(xs.take (i+1)++xs.drop i).take i++[v]++(xs.take (i+1)++xs.drop i).drop (i+[v].length)=xs.take i++v::xs.drop i:=by
   have L:(xs.take (i+1)).length=i+1:=by rw[zBi];omega
   rw[zC2 zB,List.take_take,Nat.min_eq_left zB,show i+[v].length=(xs.take (i+1)).length by rw[L];rfl,List.drop_left,zBl];rfl
  refine eM call385 λF hF=>?_
  (repeat' (first|refine uS ?_|apply yW|apply xH|intro hc|(apply zG;apply xP;(refine vH 399 ?_;refine wM (FG tok Z Z Z Z Z Z zB zB Z Z Z zB Z Z Z Z Z) Z ?_))|(apply zG;first|(apply gY;first|refine dM tok Z Z Z Z Z Z Z zB zB Z ?_|refine wM (yi (N:=ln xs+1) tok Z Z Z Z Z Z zB zB zB zB) Z ?_)|(refine Lc tok Z Z Z Z Z Z Z (by first|exact A|exact B) (by first|exact E|(intro y z;cases z;exact hv)) (by first|(rw[u];omega)|simp) Z (by first|exact G|exact I) Z ?_)|(refine N1 tok Z Z Z Z zB Z ?_;intro W M))|fail))
  exact zP [1001,98] Z Z Z Z
theorem Yn (xs:List AV) (v:AV) (i c:Nat) (hv:ln v.cells=5) (L:∀y∈xs,ln y.cells=5) (h1:1<=ln xs) (hn:ln xs<=1000) (hi:i<=ln xs) (hc:c<ln xs+1):
  zN 385 [.slc c xs,iA i,.ref 98 0 1] [(98,.arr 5 [v] false)] (.sl false (xs.take i++v::xs.drop i)) [(98,.arr 5 [v] false)]:=by
 have z:∀(j:Nat) (y:AV),xs[j]? =some y->ln y.cells=5:=λj y A=>L y (zCf A)
 by_cases he:i=ln xs
 .subst he;refine eM call385 λF hF=>?_
  (repeat' (first|refine uS ?_|apply yW|apply xH|intro hc|(apply zG;first|(refine wM (AP tok Z Z Z) Z ?_)|(apply gY;refine vd 10 Z h1 ?_;refine FD tok Z Z Z Z Z (z 0) zB zB Z Z ?_)|(apply yC;refine uT (nw:=[25]) (xi tok 25 Z Z Z Z Z Z Z Z Z Z (λy A=>by cases A;exact hv) zV qB qB z) Z Z Z ?_))|fail))
  refine zP [98] Z Z ?_ Z
  show AV.sl false ((xs++[v]).take (xs++[v]).length)=_
  rw[zAv,zAv,zEw]
 .have ac:i<ln xs:=by omega
  have B:(xs.drop i).length=ln xs-i:=zBr;have u:(xs.take i).length=i:=by rw[zBi];omega
  have O:∀(j:Nat) (y:AV),(xs.take i)[j]? =some y->ln y.cells=5:=λj y A=>L y (zCr (zCf A))
  have M:∀y,(xs.drop i)[0]? =some y->ln y.cells=5:=λy A=>L y (zB1 (zCf A))
  have ag:∀y,xs[0]? =some y->ln y.cells=5:=z 0;have I:((ln xs:Int)+1-(i:Int))=((ln xs+1-i:Nat):Int):=by omega
  have V:∃zs,xs.take i++pi (ln xs+1-i) (AV.agg [.s (.int .i64 0),.s (.int .i64 0),.s (.int .i64 0),.s (.int .i64 0),.s (.slice none 0 0)])=zs:=⟨_,rfl⟩;obtain⟨zs,C⟩:=V;have hN:ln zs=ln xs+1:=by rw[<-C,zAx,u,zCk];omega
  have W:zs.take i=xs.take i:=by rw[<-C,zC2 zB,zA2 zB]
  have E:(([v].drop 0).take 1).take (ln xs+1-i)=[v]:=zA2 qB;have G:(xs.drop i).take (ln xs+1-(i+1))=xs.drop i:=zA2 zB;have S:zs.take i++[v]++zs.drop (i+[v].length)=xs.take i++[v]++zs.drop (i+1):=by rw[W];rfl
  have Y:(xs.take i++[v]).length=i+1:=by rw[zAx,u];rfl
  have U:(xs.take i++[v]++zs.drop (i+1)).take (i+1)++xs.drop i++(xs.take i++[v]++zs.drop (i+1)).drop (i+1+(xs.drop i).length)=xs.take i++v::xs.drop i:=by
   have e3:(xs.take i++[v]++zs.drop (i+1)).drop (i+1+(xs.drop i).length)=[]:=zD5 (by rw[zAx,Y,zBr,hN,B];omega);rw[e3,zBo,zC2 zB,zA2 zB,zBl];rfl
  refine eM call385 λF hF=>?_
  (repeat' (first|refine uS ?_|apply yW|apply xH|intro hc|(apply zG;first|(refine wM (AP tok Z Z Z) Z ?_)|(refine wM (zo tok Z Z Z) Z ?_)|(apply gY;first|(refine vd 10 Z h1 ?_;refine FD tok Z Z Z Z Z (z 0) zB zB Z Z ?_)|refine wM (yo tok Z Z Z Z Z hi) Z ?_|refine dM tok Z Z Z Z Z Z Z zB zB Z ?_|refine FD tok Z Z Z Z Z (z 0) zB zB Z Z ?_)|(apply yC;refine M1 tok (n:=ln xs+1-i) Z Z Z Z Z Z Z Z Z Z Z Z Z Z I zB (by rw[u];omega) (by rw[u];omega) O C hN Z Z Z ?_)|(first|(refine vd 0 Z h1 ?_;refine Lc tok Z Z Z Z Z Z Z E (λy A=>by cases A;exact hv) zV Z S Z ?_)|refine Lc tok Z Z Z Z Z Z Z G M (by rw[B];omega) Z U Z ?_))|fail))
  refine zP [98] Z Z ?_ Z
  show AV.sl false ((xs.take i++v::xs.drop i).take (ln xs+1))=_
  rw[zA2 (by rw[zAx,u,zA8,B];omega)]
def Tu (v:AV) (hv:ln v.cells=5):
  zN 385 [.s (.slice none 0 0),iA 0,.ref 98 0 1] [(98,.arr 5 [v] false)] (.sl false [v]) [(98,.arr 5 [v] false)]:=by
 refine eM call385 λF hF=>?_
 (repeat' (first|refine uS ?_|apply yW|apply xH|intro hc|(apply zG;first|(apply gY;refine wM (AI tok Z Z Z Z Z) Z ?_)|(apply yC;refine kZ tok Z Z Z Z Z Z (λy u=>by cases u;exact hv) Z Z Z zV Z ?_))|fail))
 exact zP [98] Z Z Z Z
def vM (x:Rq):zN 273 [zY x] [] (bA true) []:=by
 refine eM call273 λF hF=>?_
 exact mx
def Xn (l:List Rq) (E:ln l<=1000) (hb:∀r∈l,ln r.legs<=1000):
  zN 222 [zE zY l,.fn 273 []] [] (.ref 1001 0 (l.map zY).length) [(1001,.arr 5 (l.map zY) false)]:=by
 have hl:=zA zY l;refine eM call222 λF hF=>?_
 refine WW ?_;refine zQ 5 1001 5 Z Z Z ?_;refine zU (l) [1001] [] [1,8,9] [5,10,1,8,9] Z (λi ga T U=>⟨(5,.ref 1001 0 (ga.map zY).length)::(10,iA i)::T,(1001,.arr 5 (ga.map zY) true)::U⟩) (Lq ?_ ?_)
 .intro i ga x post u hi;have G:=yJ zY u hi;have C:=zW u hi;have B:=zA zY ga;have z:=vM x;have A:=TE x (hb x (xA u));have e:(ga++[x]).map zY=ga.map zY++[zY x]:=by simp
  rw[e];clear u e;generalize ga.map zY=R at *;refine yF (xQ z A) ?_;rfl
 ·(repeat' (first|refine Xf ?_|apply yW|apply xH|intro hc|fail))
  refine kY [1001] [4] Z Z ?_;refine kE 1001 [4] Z Z Z Z Z (xL ?_);exact zP [1001] Z Z Z Z
def Wn:zN 222 [zE zY [],.fn 273 []] [] (.s (.slice none 0 0)) []:=by
 refine eM call222 λF hF=>?_
 refine WW ?_;refine zU (([]:List Rq)) [] [] [1,8,9] [5,10,1,8,9] Z (λi ga T U=>⟨(5,.s (.slice none 0 0))::(10,iA i)::T,U⟩) (Lq ?_ ?_)
 .intro i ga x post u hi
  cases ga<;>cases u
 ·(refine WW ?_)
  exact zP [] Z Z Z Z
def GX (l:List Rq) (u:ln l<=1000) (hb:∀r∈l,ln r.legs<=1000):
  zN 225 [zE zY l] [] (.ref 1001 0 (l.map zY).length) [(1001,.arr 5 (l.map zY) false)]:=by
 have c:=Xn l u hb;refine eM call225 λF hF=>?_
 refine zS c ?_;exact zP [1001] Z Z Z Z
def TJ:zN 225 [zE zY []] [] (.s (.slice none 0 0)) []:=by
 have c:=Wn;refine eM call225 λF hF=>?_
 refine zS c ?_;exact zP [] Z Z Z Z
section
variable {P:Program} {K0:List Nat} {F:Fr K0} {m:Nat}
def GY (n len:Nat) {Q:Exit->St->Prop} {id:Nat} {l:List Oper} (u:Nat.beq (ln l) len=true) (z:P.follows .mixedOrders=true)
 (hk:yN P F m l.toArray true (l.take n) st [] (λfs s=>WR l n (ND l) fs.reverse=true/\yN P F m l.toArray false (l.drop n) s [] (λ_ s=>Q .normal s))):uE P F m (.region id l.toArray true) st Q:=Uu n z hk
end
def XD (l:List Rq) (id:Int):Nat:=l.findIdx λr=>!decide (r.id<id)
def Kc (l:List Rq) (id:Int):XD l id<=ln l:=List.findIdx_le_length
theorem Jc {id:Int} {i:Nat} (h:i<XD l id):(l.getD i dd).id<id:=by grind [XD]
theorem Ic {id:Int} (h:XD l id<ln l):¬(l.getD (XD l id) dd).id<id:=by grind [XD]
def gO (id:Int) (v:Vh) (u:Int) (x:List Lg) (f4:Int):Rq:=⟨id,v.id,v.cls,f4+u,x⟩
def gX (l:List Rq) (r:Rq):List Rq:=l.take (XD l r.id)++r::l.drop (XD l r.id)
def QW (l:List Rq) (q id u:Int) (x:List Lg):Int:=
 if¬(0<=id/\id<=4294967295/\1<=u/\u<=600/\AK x=true)then 8 else if kU l id=true then 11 else if q<=ln l\/4<=(ln l:Int)then 14 else 0
theorem Vn (l:List Rq) (q id:Int) (v:Vh) (u:Int) (x:List Lg) (f4:Int) (hv:cJ l) (hq:(ln l:Int)<=q) (v0:0<=v.id) (v1:v.id<=4294967295) (w0:0<=v.cls) (w1:v.cls<=3) (n0:0<=f4) (n1:f4<=1073741824):
  zN 353 [zE zY l,iA q,iA id,vC v,iA u,zE yO x,iA f4] [] (.tup [zE zY (if QW l q id u x=0 then gX l (gO id v u x f4)else []),iA (QW l q id u x)]) []:=by
 have h4:=hv.n4;have hl:=zA zY l;have G:=TK l q hv hq;have A:=MQ v.id;have B:=Fc v.cls;have C:=Pf f4;have z:=MQ id;have I:=Qf x;have M:=ML l id zB;rw[zAw ⟨v0,v1⟩]at A;rw[zAw ⟨w0,w1⟩]at B;rw[zAw ⟨n0,n1⟩]at C;by_cases V:0<=id/\id<=4294967295
 case neg=>
  rw[zAu V]at z;have e:QW l q id u x=8:=zAs λh=>V ⟨h.1,h.2.1⟩
  rw[e,Os yY];refine eM call353 λF hF=>?_
  exact ng (MO G A B C z)
 rw[zAw V]at z;by_cases g2:1<=u/\u<=600
 case neg=>
  have e:QW l q id u x=8:=zAs λh=>g2 ⟨h.2.2.1,h.2.2.2.1⟩
  rw[e,Os yY];by_cases g3:1<=u
  all_goals
   (refine eM call353 λF hF=>?_)
   exact ng (MO G A B C z)
 obtain⟨g2,g3⟩:=g2
 cases S:AK x with
 |false=>
  rw[S]at I;have e:QW l q id u x=8:=zAs λh=>zA9 (S.symm.trans h.2.2.2.2)
  rw[e,Os yY];refine eM call353 λF hF=>?_
  exact ng (qb G A B C z I)
 |true=>
 rw[S]at I
 have O:QW l q id u x=if kU l id=true then 11 else if q<=ln l\/4<=(ln l:Int)then 14 else 0:=Os λh=>h ⟨V.1,V.2,g2,g3,S⟩
 cases hh:kU l id with
 |true=>
  have hx:=Nc (p:=λx:Rq=>x.id==id) (l:=l) hh;generalize TF (λx:Rq=>x.id==id) l=n at *;have e:QW l q id u x=11:=by rw[O,zAs hh]
  rw[e,Os yY];refine eM call353 λF hF=>?_
  exact ng (zy G A B C z I M)
 |false=>
 have hx:=bU (p:=λx:Rq=>x.id==id) (l:=l) (by simpa [kU]using hh);rw[hx]at M;rw[Os CD]at O;by_cases g4:q<=ln l\/4<=(ln l:Int)
 case pos=>
  rw[zAs g4]at O;rw[O,Os yY];by_cases g5:q<=ln l
  ·(refine eM call353 λF hF=>?_)
   exact ng (zy G A B C z I M)
  .have g6:4<=(ln l:Int):=g4.resolve_left g5;refine eM call353 λF hF=>?_
   exact ng (zy G A B C z I M)
 rw[Os g4]at O;rw[O,zAs Z];have az:=XE S;have c8:=XC x zB;have hk:=Kc l id;have W:=λi h=>Jc (l:=l) (id:=id) (i:=i) h
 have ac:=Ic (l:=l) (id:=id)
 have E:(l.map zY).take (XD l id)++zY (gO id v u x f4)::(l.map zY).drop (XD l id)=(gX l (gO id v u x f4)).map zY:=by
  unfold gX gO;rw[zA0,zCc,zD7,zDo]
 have ar:((gX l (gO id v u x f4)).map zY).length=(l.map zY).length+1:=by
  rw[<-E,zAx,zA8,zBi,zBr];omega
 have h5:∀y∈l.map zY,ln y.cells=5:=λy hy=>by
  obtain⟨r,_,rfl⟩:=zCb.1 hy;rfl
 have r1:=λh=>Zn (l.map zY) (zY (gO id v u x f4)) (XD l id) Z h5 h zB zB
 have L:=λh c hc=>Yn (l.map zY) (zY (gO id v u x f4)) (XD l id) c Z h5 h zB zB hc
 have r3:=Tu (zY (gO id v u x f4)) Z;rw[E]at r1 L;have d1:=GX l zB (λr hr=>by have:=hv.lg3 hr;omega);clear hv S;have hR:zE zY (gX l (gO id v u x f4))=AV.sl false ((gX l (gO id v u x f4)).map zY):=rfl;rw[hR];by_cases ap:l=[]
 .subst ap;have d0:=TJ;have hY:(gX [] (gO id v u x f4)).map zY=[zY (gO id v u x f4)]:=rfl;rw[hY];clear r1 L hY hR E ar;refine eM call353 λF hF=>?_
  refine yF (zy G A B C z I M) ?_;refine zO (0) [10] [10] [0,2,4,5,6,10] [16,0,2,4,5,6,10] Z (λi T U=>⟨(16,iA i)::T,U⟩) (Lq ?_ ?_)
  .intro i hi;omega
  .exact ng (qC c8 d0 r3)
 have av:1<=ln l:=by
  cases l with
  |nil=>exact absurd Z ap
  |cons a b=>simp
 have r1:=r1 zB;have L:=L zB;clear r3 hR E;generalize (gX l (gO id v u x f4)).map zY=Y at *;refine eM call353 λF hF=>?_
 refine yF (zy G A B C z I M) ?_;refine zO (XD l id) [10] [10] [0,2,4,5,6,10] [16,0,2,4,5,6,10] Z (λi T U=>⟨(16,iA i)::T,U⟩) (Lq ?_ ?_)
 .intro i hi;have hy:=zJ zY l i zB;have ax:=W i hi;generalize l.getD i dd=r at *;refine WW ?_;rfl
 .clear W;by_cases ag:XD l id<ln l
  case' pos=>
   have hy:=zJ zY l (XD l id) ag;have au:=ac ag;generalize l.getD (XD l id) dd=r at*
  all_goals clear ac
  all_goals generalize XD l id=k at*
  all_goals (have gd:=c8;have gn:=d1;(repeat' (first|refine WS ?_|refine SG (I2 (λhc=>?_) λhc=>?_)|refine SG λhc=>?_|(apply zG;first|refine SM ?_)|(first|refine GY 5 8 Z Z ?_|first|refine SR ?_|refine SK (I2 (λhc=>?_) λhc=>?_)|refine SK λhc=>?_|fail)|fail))<;>clear gd gn)
  all_goals refine Mc NI ?_
  all_goals refine U2 95 1001 ((l.map zY).length+1) [98] [96,98] (st':=⟨[(96,iA k),(98,.ref 98 0 1)],[(98,.arr 5 [zY (gO id v u x f4)] false)]⟩) Z Z zB zB zB Z Z Z (λc hc=>?_) ?_
  case' pos.refine_1|neg.refine_1=>
   have L:=L c hc;exact nl L
  all_goals rw[show(l.map zY).length+1-(l.map zY).length=1 by omega]
  all_goals (refine zS r1 ?_)
  all_goals (refine zI [] Z Z ?_ Z;show AV.tup [AV.sl false (Y.take ((l.map zY).length+1)),iA 0]=_;rw[zA2 zB])
