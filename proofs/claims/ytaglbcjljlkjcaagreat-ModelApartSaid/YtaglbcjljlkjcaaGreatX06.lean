/- Part 6. -/
import Derived.Test.YtaglbcjljlkjcaaGreatX05
namespace Go.Proofs.YtaglbcjljlkjcaaGreat.Av
open Tryz
set_option linter.all false
set_option maxRecDepth 4000
set_option maxHeartbeats 2000000
open List renaming length->ln,replicate->pb
open Inhabited renaming default->dd
variable {xs zs:List AV}{l:List Rq}{T e len sz:Nat}{x:Operand}{st:St}{te ti:TI}{α:Type}
def OH (r:Int):Bool:=decide (0<=r/\r<=63)
def XD (r:Int):zO 371 [iA r] [] (bA (OH r)) []:=by
 unfold OH
 by_cases h1:0<=r<;>by_cases h2:r<=63<;>simp only[h1,h2,zGv,zFs,zF8,zF1]<;>first|(exfalso;omega;done)|((refine eM call371 λF hF=>?_);exact ly)
def XE (r:Int):zO 326 [iA r] [] (bA (OH r)) []:=by
 unfold OH
 by_cases h1:0<=r<;>by_cases h2:r<=63<;>simp only[h1,h2,zGv,zFs,zF8,zF1]<;>first|(exfalso;omega;done)|((refine eM call326 λF hF=>?_);exact ly)
def uo:∀a b:_root_.Fin 64,(U2 a.val b.val==0)=(jF a.val b.val==(a.val:Int)):=by decide +kernel
def od (a b:Int):Bool:=OH a&&OH b&&(jF a b==a)
theorem Bu (a b:Int):(OH a&&OH b&&(U2 a b==0))=od a b:=by
 unfold od
 cases u:OH a<;>cases hb:OH b<;>simp only[zBh,zB8,zC6,zD1]
 simp only[OH,zBc]at u hb;have:=uo ⟨a.toNat,zB⟩ ⟨b.toNat,zB⟩
 grind
def AP (a b:Int):zO 391 [iA a,iA b] [] (bA (od a b)) []:=by
 have u:=XD a;have z:=XD b;rw[<-Bu]
 cases h1:OH a<;>cases h2:OH b<;>rw[h1]at u<;>rw[h2]at z<;>simp only[zBh,zB8,zC6]<;>((refine eM call391 λF hF=>?_);exact mx (xW u z))
def IM (a b:Int):zO 366 [iA a,iA b] [] (bA (od a b)) []:=by
 have u:=XE a;have z:=XE b;unfold od
 cases h1:OH a<;>cases h2:OH b<;>rw[h1]at u<;>rw[h2]at z<;>simp only[zBh,zB8,zC6]<;>((refine eM call366 λF hF=>?_);exact mx (xW u z))
def MX (k:Int):Int:=if k=6\/k=7\/k=8 then 1 else if k=4\/k=5 then 2 else if k=2 then 4 else if k=3 then 8 else if k=10 then 16 else if k=11 then 32 else 0
theorem IN (k:Int):(k=6/\MX k=1)\/(k=7/\MX k=1)\/(k=8/\MX k=1)\/(k=4/\MX k=2)\/(k=5/\MX k=2)\/(k=2/\MX k=4)\/(k=3/\MX k=8)\/(k=10/\MX k=16)\/(k=11/\MX k=32)\/
  (k≠6/\k≠7/\k≠8/\k≠4/\k≠5/\k≠2/\k≠3/\k≠10/\k≠11/\MX k=0):=by
 by_cases A:k=6
 .grind [MX]
 by_cases B:k=7
 .grind [MX]
 by_cases C:k=8
 .grind [MX]
 by_cases u:k=4
 .grind [MX]
 by_cases z:k=5
 .grind [MX]
 by_cases h2:k=2
 all_goals grind [MX]
def qo (k:Int):zO 370 [iA k] [] (iA (MX k)) []:=by
 rcases IN k with⟨h,e⟩|⟨h,e⟩|⟨h,e⟩|⟨h,e⟩|⟨h,e⟩|⟨h,e⟩|⟨h,e⟩|⟨h,e⟩|⟨h,e⟩|⟨h1,h2,u,z,A,B,C,E,G,e⟩<;>rw[e]<;>((refine eM call370 λF hF=>?_);exact ly)
def qi (k:Int):zO 327 [iA k] [] (iA (MX k)) []:=by
 rcases IN k with⟨h,e⟩|⟨h,e⟩|⟨h,e⟩|⟨h,e⟩|⟨h,e⟩|⟨h,e⟩|⟨h,e⟩|⟨h,e⟩|⟨h,e⟩|⟨h1,h2,u,z,A,B,C,E,G,e⟩<;>rw[e]<;>((refine eM call327 λF hF=>?_);exact ly)
def ji (r k:Int):Bool:=OH r&&(jF r (MX k)==MX k)
def gi (r k:Int):zO 342 [iA r,iA k] [] (bA (ji r k)) []:=by
 have u:=XD r;have z:=qo k;unfold ji;generalize MX k=n at*
 cases h1:OH r<;>rw[h1]at u<;>simp only[zBh,zB8]<;>((refine eM call342 λF hF=>?_);exact mx (xW u z))
def rd (r k:Int):zO 288 [iA r,iA k] [] (bA (ji r k)) []:=by
 have u:=XE r;have z:=qi k;unfold ji;generalize MX k=n at*
 cases h1:OH r<;>rw[h1]at u<;>simp only[zBh,zB8]<;>((refine eM call288 λF hF=>?_);exact mx (xW u z))
def F3 (r b:Int):zO 207 [iA r,iA b] [] (ij ⟨b,r,b⟩) []:=by
 refine eM call207 λF hF=>?_
 exact ly
def Au (r b:Int):zO 213 [iA r,iA b] [] (ij ⟨b,r,b⟩) []:=by
 refine eM call213 λF hF=>?_
 exact ly
def jo (b:Bk):Bool:=decide (0<=b.burst/\b.burst<=1000/\0<=b.rate/\b.rate<=b.burst/\0<=b.level/\b.level<=b.burst)
def bo (b:Bk):zO 374 [ij b] [] (bA (jo b)) []:=by
 (cases hb:jo b with|false=>((refine eM call374 λF hF=>?_);((refine WW (I6 (λhc hc hc hc hc=>?_) (λhc hc hc hc hc=>?_) (λhc hc hc hc=>?_) (λhc hc hc=>?_) (λhc hc=>?_) λhc=>?_)));all_goals (first|exact zH|(simp only[jo,zBi]at hb;first|exact NW|exact PY)))|true=>(simp only[jo,zBc]at hb;(refine eM call374 λF hF=>?_);((refine WW ?_));all_goals (first|exact zH|exact NW|exact PY)))
def bi (b:Bk):zO 365 [ij b] [] (bA (jo b)) []:=by
 (cases hb:jo b with|false=>((refine eM call365 λF hF=>?_);((refine WW (I6 (λhc hc hc hc hc=>?_) (λhc hc hc hc hc=>?_) (λhc hc hc hc=>?_) (λhc hc hc=>?_) (λhc hc=>?_) λhc=>?_)));all_goals (first|exact zH|(simp only[jo,zBi]at hb;first|exact NW|exact PY)))|true=>(simp only[jo,zBc]at hb;(refine eM call365 λF hF=>?_);((refine WW ?_));all_goals (first|exact zH|exact NW|exact PY)))
def C7 (b:Bk):Bk:=⟨min (b.level+b.rate) b.burst,b.rate,b.burst⟩
def zv (b:Bk) (h: -1000000000<=b.level+b.rate/\b.level+b.rate<=1000000000):zO 221 [ij b] [] (ij (C7 b)) []:=by
 refine eM call221 λF hF=>?_
 exact ly
def ao (b:Bk) (h: -1000000000<=b.level+b.rate/\b.level+b.rate<=1000000000):zO 190 [ij b] [] (ij (C7 b)) []:=by
 refine eM call190 λF hF=>?_
 exact ly
def RP (b:Bk):Bk:=if b.level<=0 then b else⟨b.level-1,b.rate,b.burst⟩
def yv (b:Bk) (h:b.level<=9223372036854775807):zO 306 [ij b] [] (.tup [ij (RP b),bA (decide (0<b.level))]) []:=by
 unfold RP;by_cases h1:b.level<=0
 .rw[zA5 h1,zA7 zB];refine eM call306 λF hF=>?_
  exact ly
 .rw[Os h1,zA9 zB];refine eM call306 λF hF=>?_
  exact ly
def mo (b:Bk) (h:b.level<=9223372036854775807):zO 241 [ij b] [] (.tup [ij (RP b),bA (decide (0<b.level))]) []:=by
 unfold RP;by_cases h1:b.level<=0
 .rw[zA5 h1,zA7 zB];refine eM call241 λF hF=>?_
  exact ly
 .rw[Os h1,zA9 zB];refine eM call241 λF hF=>?_
  exact ly
def jZ (l:List Tk) (s:Int):Bool:=decide (0<=s/\s<ln l)&&(l.getD s.toNat dd).used
def Zd (l:List Tk) (s:Int):zO 303 [zE yN l,iA s] [] (bA (jZ l s)) []:=by
 have hl:=zA yN l;unfold jZ;by_cases h1:0<=s
 .by_cases h2:s<ln l
  .have u:=yF yN l s h1 h2;rw[zA9 ⟨h1,h2⟩,zBh];refine eM call303 λF hF=>?_
   exact ly
  .rw[zA7 zB,zB8];refine eM call303 λF hF=>?_
   exact ly
 .rw[zA7 zB,zB8];refine eM call303 λF hF=>?_
  exact ly
def Er (a b:Int):Bool:=decide (b≠0/\(a=0\/b<a))
def Df (a b:Int):zO 392 [iA a,iA b] [] (bA (Er a b)) []:=by
 unfold Er
 by_cases h1:b=0<;>by_cases h2:a=0<;>by_cases u:b<a<;>simp only[zEa,h1,h2,u,zFp,zFo,zGv,zFs,true_and,false_and,or_true,true_or,or_false,zF8,zF1]<;>first|(exfalso;omega;done)|((refine eM call392 λF hF=>?_);exact ly)
def AQ (a b:Int):zO 367 [iA a,iA b] [] (bA (Er a b)) []:=by
 unfold Er
 by_cases h1:b=0<;>by_cases h2:a=0<;>by_cases u:b<a<;>simp only[zEa,h1,h2,u,zFp,zFo,zGv,zFs,true_and,false_and,or_true,true_or,or_false,zF8,zF1]<;>first|(exfalso;omega;done)|((refine eM call367 λF hF=>?_);exact ly)
def Vb (t:Tk) (f3:Int):Bool:=decide (t.til≠0/\t.til<f3)
def IO (t:Tk) (f3:Int):zO 264 [yN t,iA f3] [] (bA (Vb t f3)) []:=by
 unfold Vb
 by_cases h1:t.til=0<;>by_cases h2:t.til<f3<;>simp only[zEa,h1,h2,zFp,zFo,zGv,zFs,zF8,zF1]<;>first|(exfalso;omega;done)|((refine eM call264 λF hF=>?_);exact ly)
def Ub:Tk:=⟨false,[],-1,0,0,0⟩
def Yd:zO 258 [] [] (yN Ub) []:=by
 refine eM call258 λF hF=>?_
 exact ly
def eJ (f:α->AV) (l:List α):AV.sl false ((l.map f).take (l.map f).length)=zE f l:=by rw[zA8];rfl
def dV (_:Nat) (l:List α):List α:=l
def TL (l:List Int) (hl:ln l<=1073741824):zO 111 [zE iA l] [] (zE iA l) []:=by
 have u:=zA iA l;refine eM call111 λF hF=>?_
 refine xI 0 Z (λcap z=>?_) ?_
 .have:l=[]:=by simpa using z
  subst this;exact ly
 ·(refine WW ?_)
  refine zI [] Z Z (eJ _ _) Z
def kU (l:List Int) (hl:ln l<=1073741824):zO 88 [zE yA l] [] (zE yA l) []:=by
 have u:=zA yA l;refine eM call88 λF hF=>?_
 refine xI 0 Z (λcap z=>?_) ?_
 .have:l=[]:=by simpa using z
  subst this;exact ly
 ·(refine WW ?_)
  refine zI [] Z Z (eJ _ _) Z
def AR (l:List Vh) (hl:ln l<=1073741824):zO 218 [zE wX l] [] (zE wX l) []:=by
 have u:=zA wX l;refine eM call218 λF hF=>?_
 refine xI 0 Z (λcap z=>?_) ?_
 .have:l=[]:=by simpa using z
  subst this;exact ly
 ·(refine WW ?_)
  refine zI [] Z Z (eJ _ _) Z
def VL (l:List Tk) (hl:ln l<=1073741824):zO 217 [zE yN l] [] (.ref 1001 0 (l.map yN).length) [(1001,.arr 6 (l.map yN) false)]:=by
 have u:=zA yN l;refine eM call217 λF hF=>?_
 refine xI 0 Z (λcap z=>?_) ?_
 .have:l=[]:=by simpa using z
  subst this
  (repeat' (first|refine yf ?_|apply yW|apply xH|intro hc|fail))
  refine qH 2 1001 6 Z Z Z (xL ?_);exact zP [1001] Z Z Z Z
 .repeat' (first|(apply zG;first|refine uN tok Z Z ?_|(apply wT;refine wJ (xX tok (.inl ⟨rfl,rfl⟩) Z Z Z Z) Z ?_)|(apply yI;refine qA (nw:=[1001]) (yV tok 1001 (xs:=[]) Z Z Z Z Z Z Z Z Z) Z Z Z ?_)|(apply yE;refine vC tok Z Z Z Z Z Z Z (yM _ _ (λ_=>rfl)) Z Z Z zB Z ?_)|apply kR)|(first|apply xY|apply xR|refine uD Z ?_|refine yR Z ?_|refine yC Z ?_|refine wA Z (λhc=>?_) λhc=>?_|apply xJ|apply xL|apply xO|apply xC))
  exact zP [1001] Z Z Z Z
structure IP (l:List Tk):Prop where
 n:l.length<=1000000
 s:∀t∈l,t.sec.length<=1000000
theorem cH [Inhabited α] (f:α->AV) (l:List α) (i:Nat) (hi:i<ln l):(dV i (l.map f)).set i (f (l.getD i dd))=dV (i+1) (l.map f):=by
 unfold dV;have:=zJ f l i hi
 grind [dV,List.getElem?_eq_some_iff,List.set_getElem_self]
def VM (l:List Tk) (hb:IP l):zO 262 [zE yN l] [] (.ref 1001 0 (l.map yN).length) [(1001,.arr 6 (l.map yN) false)]:=by
 have c:=VL l (by have:=hb.n;omega);have A:=hb.n;have z:=zA yN l;refine eM call262 λF hF=>?_
 refine zS c ?_;refine zN ((l.map yN).length) [1001] [] [3,8] [9,3,8] Z (λi T U=>⟨(9,iA i)::T,(1001,.arr 6 (dV i (l.map yN)) false)::U⟩) (Lq ?_ ?_)
 .intro i hi;have hi':i<ln l:=by omega
  have B:(dV i (l.map yN))[i]? =some (yN (l.getD i dd)):=zJ yN l i hi';have e:=cH yN l i hi';have u:=kU (l.getD i dd).sec (by have:=hb.s (l.getD i dd) QZ;omega);generalize (l.getD i dd)=t,dV i (l.map yN)=xs,dV (i+1) (l.map yN)=ys at *;subst e;refine zS u ?_;rfl
 ·(refine WW ?_)
  exact zP [1001] Z Z Z Z
def AS (a:Ag) (h1:ln a.sec<=1000000) (h2:ln a.lim<=1000000):zO 205 [vP a] [] (vP a) []:=by
 have u:=kU a.sec zB;have z:=TL a.lim zB;refine eM call205 λF hF=>?_
 exact mx (xW u z)
structure IQ (r:Rg):Prop where
 tk:IP r.tk
 s:r.ag.sec.length<=1000000
 l:r.ag.lim.length<=1000000
 v:r.vh.length<=1000000
def rgX (r:Rg) (xs:List AV):AV:= .agg [iA r.num,zE yA r.ag.sec,iA r.ag.rights,iA r.ag.cls,zE iA r.ag.lim,iA r.ag.req,iA r.ag.ses,iA r.ag.rate,iA r.ag.burst,.sl false xs,zE wX r.vh,iA r.bk.level,iA r.bk.rate,iA r.bk.burst]
def cI (r:Rg) (hb:IQ r):zO 219 [uR r] [] (uR r) []:=by
 have z:=AS r.ag hb.s hb.l;have C:=hb.tk.n;have hv:=hb.v;have u:=VL r.tk zB;have A:=AR r.vh zB;have B:=zA yN r.tk;refine eM call219 λF hF=>?_
 refine yJ (xW z u) ?_;refine zN ((r.tk.map yN).length) [1001,1,2] [1,2] [1,2,14] [15,1,2,14] Z (λi T U=>⟨(15,iA i)::T,(1001,.arr 6 (dV i (r.tk.map yN)) false)::U⟩) (Lq ?_ ?_)
 .intro i hi;have hi':i<ln r.tk:=by omega
  have E:(dV i (r.tk.map yN))[i]? =some (yN (r.tk.getD i dd)):=zJ yN r.tk i hi';have e:=cH yN r.tk i hi';have u:=kU (r.tk.getD i dd).sec (by have:=hb.tk.s (r.tk.getD i dd) QZ;omega);generalize (r.tk.getD i dd)=t,dV i (r.tk.map yN)=xs,dV (i+1) (r.tk.map yN)=ys at *;subst e;refine zS u ?_;rfl
 ·(refine zS A ?_)
  exact zI [] Z Z (zBq (rgX r) zA8) Z
theorem cN.lg3 (h:cN l) {r:Rq} (u:r∈l):1<=ln r.legs/\r.legs.length<=3:=by
 have:=YU (h.ok r u).lg;omega
theorem cN.filter (h:cN l) (p:Rq->Bool):cN (l.filter p):=
 ⟨λr u=>h.ok r (zEv.1 u).1,h.so.filter p,zCa (zCw _ _) h.n4⟩
def XF (l:List Lg) (hl:ln l<=1000):zO 169 [zE yO l] [] (zE yO l) []:=by
 have u:=zA yO l;refine eM call169 λF hF=>?_
 refine xI 0 Z (λcap z=>?_) ?_
 .have:l=[]:=by simpa using z
  subst this;exact ly
 ·(refine WW ?_)
  refine zI [] Z Z (eJ _ _) Z
def TM (r:Rq) (hl:ln r.legs<=1000):zO 265 [zY r] [] (zY r) []:=by
 have c:=XF r.legs hl;have u:=zA yO r.legs;refine eM call265 λF hF=>?_
 exact ng c
theorem cY (p:Rq->Bool) (f4:List Rq) (x:Rq):((f4++[x]).filter p).map zY=(f4.filter p).map zY++(if p x=true then [x]else []).map zY:=by grind
def Xd (fn:Nat) (v:Int) (p:Rq->Bool) (l:List Rq) (G:ln l<=1000) (hb:∀r∈l,ln r.legs<=1000) (c:∀x,zO fn [zY x,.ptr 3 0 0] [(3,.box [iA v])] (bA (p x)) [(3,.box [iA v])]):
  zO 222 [zE zY l,.fn fn [.ptr 3 0 0]] [(3,.box [iA v])] (zE zY (l.filter p)) [(3,.box [iA v])]:=by
 have hl:=zA zY l;refine eM call222 λF hF=>?_
 refine WW ?_;refine zQ 5 1001 5 Z Z Z ?_;refine zU (l) [1001,3] [3] [1,8,9] [5,10,1,8,9] Z (λi f4 T U=>⟨(5,.ref 1001 0 ((f4.filter p).map zY).length)::(10,iA i)::T,(1001,.arr 5 ((f4.filter p).map zY) true)::U⟩) (Lq ?_ ?_)
 .intro i f4 x post z hi;have I:=yG zY z hi;have E:=zW z hi;have B:(f4.filter p).length<=i:=by rw[<-hi];exact zCw _ _
  have C:=zA zY (f4.filter p);have u:=c x;have A:=TM x (hb x (yY z));have e:=cY p f4 x;rw[e];clear z e;generalize (f4.filter p).map zY=R at*
  cases h:p x with
  |false=>
   rw[h]at u;rw[Os zBm];refine zS u ?_;rw[zCy,zB0];rfl
  |true=>
   rw[h]at u;rw[zA5 Z];refine yJ (xW u A) ?_;rfl
 ·(refine WW ?_)
  exact zP [3] Z Z (eJ _ _) Z
def TN (p:α->Bool) (l:List α):Int:=if l.any p=true then(l.findIdx p:Int)else -1
theorem OI {p:α->Bool} {l f4 post:List α} {x:α} (h:l=f4++x::post) (u:∀y∈f4,p y=false) (z:p x=true):TN p l=(ln f4:Int):=by grind [TN]
theorem bX {p:α->Bool} {l:List α} (u:∀y∈l,p y=false):TN p l= -1:=by grind [TN]
theorem Wd {p:α->Bool} {l:List α} (h:l.any p=true):0<=TN p l/\TN p l<ln l:=by grind [TN]
def D3 (id:Int) (x:Rq):zO 387 [zY x,.ptr 3 0 0] [(3,.box [iA id])] (bA (x.id==id)) [(3,.box [iA id])]:=by
 refine eM call387 λF hF=>?_
 refine WW ?_;exact zP [3] Z Z Z Z
def C3 (id:Int) (l:List Rq) (hb:ln l<=1000):zO 386 [zE zY l,.fn 387 [.ptr 3 0 0]] [(3,.box [iA id])] (iA (TN (λr:Rq=>r.id==id) l)) [(3,.box [iA id])]:=by
 have hl:=zA zY l;refine eM call386 λF hF=>?_
 refine WW ?_;refine uZ (l) [3] [3] [0,1,7] [8,0,1,7] Z (λi f4 T U zs=>(∀y∈f4,(y.id==id)=false)/\zs=⟨(8,iA i)::T,U⟩) (Lp ?_ ?_ ?_)
 .exact⟨by simp,rfl⟩
 .rintro i f4 x post st z hi ⟨hp,rfl⟩;have A:=yG zY z hi;have C:=zW z hi;have c:=D3 id x;have u:=OI (p:=λr:Rq=>r.id==id) z hp
  cases B:(x.id==id)<;>rw[B]at c
  .clear z u;refine zS c ?_;exact⟨λy A=>by simp only[zBs,zB1]at A;rcases A with A|rfl;exact hp y A;exact B,rfl⟩
  .rw[u B,hi];clear z u;refine zS c ?_;exact zP [3] Z Z Z Z
 .rintro st ⟨hp,rfl⟩;rw[bX hp];refine WW ?_;exact zP [3] rfl rfl rfl rfl
def MY (l:List Rq) (id:Int) (hb:ln l<=1000):zO 356 [zE zY l,iA id] [] (iA (TN (λr:Rq=>r.id==id) l)) []:=by
 have c:=C3 id l hb;generalize TN (λr:Rq=>r.id==id) l=n at *;refine eM call356 λF hF=>?_
 exact ng c
def A3 (f3:Int) (x:Rq):zO 223 [zY x,.ptr 3 0 0] [(3,.box [iA f3])] (bA (decide (f3<=x.til))) [(3,.box [iA f3])]:=by
 cases hb:decide (f3<=x.til)with
 |false=>
  rw[zBi]at hb;refine eM call223 λF hF=>?_
  refine WW ?_;exact zP [3] Z Z Z Z
 |true=>
  rw[zBc]at hb;refine eM call223 λF hF=>?_
  refine WW ?_;exact zP [3] Z Z Z Z
def j4 (v:Int) (x:Rq):zO 350 [zY x,.ptr 3 0 0] [(3,.box [iA v])] (bA (x.vh != v)) [(3,.box [iA v])]:=by
 refine eM call350 λF hF=>?_
 refine WW ?_;exact zP [3] Z Z Z Z
def o4 (v:Int) (x:Rq):zO 357 [zY x,.ptr 3 0 0] [(3,.box [iA v])] (bA (x.id != v)) [(3,.box [iA v])]:=by
 refine eM call357 λF hF=>?_
 refine WW ?_;exact zP [3] Z Z Z Z
def KL (l:List Rq) (f3:Int):List Rq:=l.filter λx=>decide (f3<=x.til)
def TO (l:List Rq) (v:Int):List Rq:=l.filter λx=>x.vh != v
def TP (l:List Rq) (id:Int):List Rq:=l.filter λx=>x.id != id
def kV (l:List Rq) (id:Int):Bool:=l.any λx=>x.id==id
def Zo (l:List Rq) (f3:Int) (hv:cN l):zO 175 [zE zY l,iA f3] [] (zE zY (KL l f3)) []:=by
 have z:=hv.n4;have c:=Xd 223 f3 _ l zB (λr u=>by have:=hv.lg3 u;omega) (A3 f3);unfold KL;generalize l.filter _=A at *;refine eM call175 λF hF=>?_
 exact ng c
def IR (l:List Rq) (v:Int) (hv:cN l):zO 308 [zE zY l,iA v] [] (zE zY (TO l v)) []:=by
 have z:=hv.n4;have c:=Xd 350 v _ l zB (λr u=>by have:=hv.lg3 u;omega) (j4 v);unfold TO;generalize l.filter _=A at *;refine eM call308 λF hF=>?_
 exact ng c
def Yo (l:List Rq) (id:Int) (hv:cN l):zO 311 [zE zY l,iA id] [] (.tup [zE zY (if kV l id=true then TP l id else []),iA (if kV l id=true then 0 else 12)]) []:=by
 have E:=hv.n4;have z:=UP l 4 hv zB;have u:=MY l id zB;have B:=Xd 357 id _ l zB (λr C=>by have:=hv.lg3 C;omega) (o4 id);unfold TP;generalize l.filter _=G at*
 cases hh:kV l id with
 |true=>
  have A:=Wd (p:=λx:Rq=>x.id==id) (l:=l) hh;generalize TN (λx:Rq=>x.id==id) l=n at *;rw[zA5 Z,zA5 Z];refine eM call311 λF hF=>?_
  exact mx (qM z u B)
 |false=>
  have A:=bX (p:=λx:Rq=>x.id==id) (l:=l) (by simpa [kV]using hh);rw[A]at u;rw[Os zBm,Os zBm];refine eM call311 λF hF=>?_
  exact mx (xW z u)
def eK (l:List Rq) (C:ln l<=1000) (hb:∀r∈l,ln r.legs<=1000):zO 187 [zE zY l] [] (zE zY l) []:=by
 have hl:=zA zY l;refine eM call187 λF hF=>?_
 refine WW ?_;refine zQ 3 1001 5 Z Z Z ?_;refine zU (l) [1001] [] [6,7] [3,8,6,7] Z (λi f4 T U=>⟨(3,.ref 1001 0 (f4.map zY).length)::(8,iA i)::T,(1001,.arr 5 (f4.map zY) true)::U⟩) (Lq ?_ ?_)
 .intro i f4 x post u hi;have G:=yG zY u hi;have z:=zW u hi;have A:(f4.map zY).length=i:=by rw[zA6,hi]
  have E:=hb x (yY u);have B:=zA yO x.legs;have e:(f4++[x]).map zY=f4.map zY++[zY x]:=by simp
  clear u;rw[e];generalize f4.map zY=xs,l.map zY=I at *;refine WL ?_;rfl
 ·(refine WL ?_)
  exact zI [] Z Z (eJ _ _) Z
def Z4 (p:Rq->Bool) {f4 post:List Rq} {x:Rq} {i:Nat} (u:l=f4++x::post) (hi:ln f4=i):(f4.filter p).length<=i:=by rw[<-hi];exact zCw _ _
def ai (l:List Rq) (f3:Int) (hv:cN l):zO 130 [zE zY l,iA f3] [] (zE zY (KL l f3)) []:=by
 have E:=hv.n4;have hl:=zA zY l;have c:=eK (KL l f3) (by have:=(hv.filter λx=>decide (f3<=x.til)).n4;unfold KL;omega) (λr C=>by have:=(hv.filter _).lg3 C;omega);unfold KL at *;refine eM call130 λF hF=>?_
 refine WW ?_;refine zQ 5 1001 5 Z Z Z ?_;refine zU (l) [1001] [] [1,8,9] [5,10,1,8,9] Z (λi f4 T U=>⟨(5,.ref 1001 0 ((f4.filter λx=>decide (f3<=x.til)).map zY).length)::(10,iA i)::T,(1001,.arr 5 ((f4.filter λx=>decide (f3<=x.til)).map zY) true)::U⟩) (Lq ?_ ?_)
 .intro i f4 x post u hi;have G:=yG zY u hi;have B:=zW u hi;have z:=Z4 (λx=>decide (f3<=x.til)) u hi;have A:=zA zY (f4.filter λx=>decide (f3<=x.til));have e:=cY (λx=>decide (f3<=x.til)) f4 x;rw[e];clear u e;generalize (f4.filter λx=>decide (f3<=x.til)).map zY=R at *;by_cases h:f3<=x.til
  .rw[zA5 MJ];refine WW ?_;rfl
  .rw[Os MJ];refine WW ?_;rw[zCy,zB0];rfl
 ·(have ga:=c;have kh:=(⟨⟩:yu 187 [] [23]);refine WW ?_;clear ga kh)
  exact zH
def MZ (l:List Rq) (v:Int) (hv:cN l):zO 290 [zE zY l,iA v] [] (zE zY (TO l v)) []:=by
 have E:=hv.n4;have hl:=zA zY l;have c:=eK (TO l v) (by have:=(hv.filter λx=>x.vh != v).n4;unfold TO;omega) (λr C=>by have:=(hv.filter _).lg3 C;omega);unfold TO at *;refine eM call290 λF hF=>?_
 refine WW ?_;refine zQ 5 1001 5 Z Z Z ?_;refine zU (l) [1001] [] [1,8,9] [5,10,1,8,9] Z (λi f4 T U=>⟨(5,.ref 1001 0 ((f4.filter λx=>x.vh != v).map zY).length)::(10,iA i)::T,(1001,.arr 5 ((f4.filter λx=>x.vh != v).map zY) true)::U⟩) (Lq ?_ ?_)
 .intro i f4 x post u hi;have G:=yG zY u hi;have B:=zW u hi;have z:=Z4 (λx=>x.vh != v) u hi;have A:=zA zY (f4.filter λx=>x.vh != v);have e:=cY (λx=>x.vh != v) f4 x;rw[e];clear u e;generalize (f4.filter λx=>x.vh != v).map zY=R at *;by_cases h:x.vh≠v
  .rw[zA5 MJ];refine WW ?_;rfl
  .rw[Os MJ];refine WW ?_;rw[zCy,zB0];rfl
 ·(have ga:=c;have kh:=(⟨⟩:yu 187 [] [23]);refine WW ?_;clear ga kh)
  exact zH
theorem Xo {id:Int} (h:kV l id=false):TP l id=l:=by grind [kV,TP,List.filter_eq_self,List.any_eq_true]
theorem Wo {id:Int} (h:kV l id=true):(TP l id).length<ln l:=by simp_all [kV,TP]
def ni (l:List Rq) (id:Int) (hv:cN l):zO 245 [zE zY l,iA id] [] (.tup [zE zY (if kV l id=true then TP l id else []),iA (if kV l id=true then 0 else 12)]) []:=by
 have O:=hv.n4;have hl:=zA zY l;have B:=YV l 4 hv zB;have C:=eK (TP l id) (by have:=(hv.filter λx=>x.id != id).n4;unfold TP;omega) (λr M=>by have:=(hv.filter _).lg3 M;omega);have u:kV l id=false->(TP l id).length=ln l:=λh=>by rw[Xo h]
 have z:=λh=>Wo (l:=l) (id:=id) h
 have G:=zA zY (TP l id);generalize kV l id=b at *;unfold TP at *;refine eM call245 λF hF=>?_
 refine zS B ?_;refine zQ 6 1001 5 Z Z Z ?_;refine zU (l) [1001] [] [0,1,12,13] [6,14,0,1,12,13] Z (λi f4 T U=>⟨(6,.ref 1001 0 ((f4.filter λx=>x.id != id).map zY).length)::(14,iA i)::T,(1001,.arr 5 ((f4.filter λx=>x.id != id).map zY) true)::U⟩) (Lq ?_ ?_)
 .intro i f4 x post A hi;have S:=yG zY A hi;have L:=zW A hi;have E:=Z4 (λx=>x.id != id) A hi;have I:=zA zY (f4.filter λx=>x.id != id);have e:=cY (λx=>x.id != id) f4 x;rw[e];clear A e;generalize (f4.filter λx=>x.id != id).map zY=R at *;by_cases h:x.id≠id
  .rw[zA5 (show(x.id != id)=true by simpa using h)];refine WW ?_;rfl
  .rw[Os (show¬(x.id != id)=true by simpa using h)];refine WW ?_;rw[zCy,zB0];rfl
 .cases b with
  |false=>
   have u:=u Z;rw[Os zBm,Os zBm];exact ly
  |true=>
   have z:=z Z;rw[zA5 Z,zA5 Z]
   (have ga:=C;have kh:=(⟨⟩:yu 187 [] [32]);refine WW ?_;clear ga kh)
   exact zH
section
variable {P:Program} {K0:List Nat} {F:Fr K0} {m:Nat}
def wv (n:Nat) {Q:Exit->St->Prop} {id:Nat} {l:List Oper} (z:P.follows .mixedOrders=true)
 (hk:yP P F m l.toArray true (l.take n) st [] (λfs s=>VG l n (MF l) fs.reverse=true/\yP P F m l.toArray false (l.drop n) s [] (λ_ s=>Q .normal s))):uG P F m (.region id l.toArray true) st Q:=by
 obtain⟨B,A,h1,h2,u⟩:=hk.run;exact JY n z h1 IE u.run
def Vd {l:List Oper} {n:Nat} {u:Array Oper} {fs:List FP} {z:St->Prop} (hc:VG l n (MF l) fs.reverse=true) (A:z st):yP P F m u true [] st fs (λfs s=>VG l n (MF l) fs.reverse=true/\z s):=⟨⟨[],st,rfl,hc,A⟩⟩
end
section
variable {P:Program} {TT:List TI} {st:St}
def AT (C:uW P TT) {l:Operand} {k:IntKind} (O:yX (zK st.tm) x= .s (.slice none 0 0)) (hl:yX (zK st.tm) l= .s (.int k 0)) (hT:TT[T]? =some ti) (hd:ti.d= .slice e) (I:TT[e]? =some te):
  vA P st (.slice T x (some l) none none) (.s (.slice none 0 0)) [] [] []:=
 yZ λR X tm h w β a G E W S B=>by
  obtain⟨d0,o0,y0,Y,U,V⟩:=R;dsimp only at G;subst G;have hc:=vS B E (x:=x) uO O;obtain⟨u,M,z⟩:=wI (C _ _ hT) w;obtain rfl:=uE (z.trans hd);have L:=qN (C _ _ I) w;have hb:=fQ (P:=P) B E (lo:=some l) (hi:=none) (len:=0) (cap:=0) (l:=0) (r:=0) (λy A=>by cases A;simp[Op.operands]) (λy A=>by cases A) ⟨k,0,hl,zB⟩ rfl (zBb _) (zBb _) true;rw[zD9]at hb;exact⟨_,by simp only[execOp,Instr.sliceAt,Instr.slice,Sem.run_bind,M,Result.andThen_ok,hc,zD9,hb,L,Sem.run_pure];rfl,.fz _ _ (.s _)⟩
end
section
variable {P:Program} {TT:List TI} {K0:List Nat} {F:Fr K0} {m:Nat} {ops:Array Oper} {rest:List Oper} {Q:List FP->St->Prop} {tm:List (Nat×AV)} {h:List (Nat×xV)} {dr:Bool} {fs:List FP}
variable {ty:Nat} {pos:String} {after:Array Edge} {t:Nat}
def Ud (M:uW P TT) {u off:Nat} {d:Operand} {L ys:List AV} {I:AV} (z:yX (zK tm) d= .ref u off len) (hk:zD h u=some (.arr sz xs false)) (U:yX (zK tm) x=I) (hT:TT[T]? =some ti) (hd:ti.d= .slice e) (O:TT[e]? =some te)
 (E:AI (zD h) I=some L) (G:L.take len=ys) (C:∀y,ys[0]? =some y->ln y.cells=sz) (A:1<=ln ys) (B:Nat.beq sz te.size=true) (V:xs.take off++ys++xs.drop (off+ln ys)=zs) (R:Nat.blt t m=true)
 (S:yP P F m ops dr rest ⟨(t,.s (.int .i64 (ln ys)))::tm,(u,.arr sz zs false)::h⟩ (⟨true,[u],u::OE I⟩::fs) Q):yP P F m ops dr (⟨some t,.call ⟨.builtin .copy, #[d,x], #[T,T]⟩,ty,pos,after,none⟩::rest) ⟨tm,h⟩ fs Q:=by
 subst V;exact qA (nw:=[]) (JR M z hk U hT hd O E G C (.inl A) B) R Z Z S
def Y4 (u:uW P TT) {k:Nat} {xs:List AV} (B:yX (zK tm) x= .ref k 0 len) (hk:zD h k=some (.arr sz xs ⟨false,false⟩)) (hT:TT[T]? =some ti) (hd:ti.d= .slice e) (hl:1<=len) (z:Nat.blt t m=true)
 (A:∀c:Int,(ln xs:Int)<=c->yP P F m ops false rest ⟨(t,.s (.int .i64 c))::tm,h⟩ fs Q):yP P F m ops false (⟨some t,.call ⟨.builtin .cap, #[x], #[T]⟩,ty,pos,after,none⟩::rest) ⟨tm,h⟩ fs Q:=
 x_m (xd u B hk hT hd hl) z Z (λv d ⟨c,_,_,e⟩=>by subst e;rfl) (λv d ⟨c,e1,e2,e3⟩=>by subst e1 e3;exact A c e2)
def Bf (I:uW P TT) {k:Nat} {s:Operand} {vs:List AV} {G:AV} (R:yX (zK tm) s= .ref k 0 len) (hk:zD h k=some (.arr sz xs ⟨false,false⟩)) (S:yX (zK tm) x=G) (hT:TT[T]? =some ti) (hd:ti.d= .slice e) (L:TT[e]? =some te) (E:AI (zD h) G=some vs)
 (B:Nat.beq sz te.size=true) (C:∀y,vs[0]? =some y->ln y.cells=sz) (A:1<=ln vs) (hl:1<=len) (u:len+ln vs<=ln xs) (z:ln xs<=1073741824) (U:xs.take len++vs++xs.drop (len+ln vs)=zs) (M:Nat.blt t m=true)
 (O:yP P F m ops dr rest ⟨(t,.ref k 0 (len+ln vs))::tm,(k,.arr sz zs ⟨false,false⟩)::h⟩ (⟨true,[k],k::OE G⟩::fs) Q):yP P F m ops dr (⟨some t,.call ⟨.builtin .append, #[s,x], #[T,T]⟩,ty,pos,after,none⟩::rest) ⟨tm,h⟩ fs Q:=by
 subst U;exact qA (nw:=[]) (wi I R hk S hT hd L E B C A hl u z) M Z Z O
def W4 (Y:uW P TT) {I c n N:Nat} {s:Operand} {U:TI} {k0:IntKind} {nx:Int} {ys:List AV} {z:AV} (hs:yX (zK tm) s= .slc c ys) (hx:yX (zK tm) x= .s (.int .i64 nx)) (hT:TT[T]? =some ti) (hd:ti.d= .slice e) (he:TT[e]? =some te) (W:TT[I]? =some U) (C:U.d= .int k0)
 (hb:Nat.ble te.bytes 65536=true) (hp:Nat.ble 1 te.size=true) (S:Nat.beq (ln te.zero) te.size=true) (O:te.zero.all (·.oneCell')=true) (R:Nat.beq (uK te).cells.length te.size=true) (B:(uK te).cells=te.zero.map .s) (hz:uK te=z)
 (G:nx=(n:Int)) (A:1<=n) (u:ln ys+n<=1073741824) (hc:c<ln ys+n) (M:∀(i:Nat) (y:AV),ys[i]? =some y->ln y.cells=te.size) (V:ys++pb n z=zs) (hN:ln zs=N) (hm:Nat.blt t m=true) (E:(zD h t).isNone=true)
 (L:te.size=sz) (hk:yP P F m ops dr rest ⟨(t,.ref t 0 N)::tm,(t,.arr sz zs false)::h⟩ (⟨true,[t,t],[]⟩::fs) Q):yP P F m ops dr (⟨some t,.call ⟨.builtin .append, #[s,x], #[T,I]⟩,ty,pos,after,none⟩::rest) ⟨tm,h⟩ fs Q:=by
 subst L hz hN V;exact qA (nw:=[t]) (Tn Y t hs hx hT hd he W C hb hp S O R B G A u hc M) hm (Gc E) Z hk
end
theorem Vo (xs:List AV) (v:AV) (i:Nat) (hv:ln v.cells=5) (S:∀y∈xs,ln y.cells=5) (h1:1<=ln xs) (W:ln xs<=1000) (hi:i<=ln xs):
  zO 385 [.ref 1001 0 (ln xs),iA i,.ref 98 0 1] [(1001,.arr 5 (xs++[dG 5]) false),(98,.arr 5 [v] false)] (.ref 1001 0 (ln xs+1)) [(1001,.arr 5 (xs.take i++v::xs.drop i) false),(98,.arr 5 [v] false)]:=by
 have C:(xs++[dG 5]).length=ln xs+1:=by simp
 by_cases O:i=ln xs
 .subst O
  have U:(xs++[dG 5]).take (ln xs)++[v]++(xs++[dG 5]).drop (ln xs+[v].length)=xs.take (ln xs)++v::xs.drop (ln xs):=by
   rw[zDf (zBb _),zA8,zFa,zEh zV];simp
  refine eM call385 λF hF=>?_
  (repeat' (first|refine uT ?_|apply yW|apply xH|intro hc|(apply zG;first|(apply gU;refine dM tok Z Z Z Z Z Z Z zB zB Z ?_)|(apply yE;refine Bf tok Z Z Z Z Z Z Z Z (λy z=>by cases z;exact hv) zV zB zV zB U Z ?_))|fail))
  exact zP [1001,98] Z Z Z Z
 .have R:i<ln xs:=by omega
  have e1:(xs++[dG 5]).drop i=xs.drop i++[dG 5]:=List.drop_append_of_le_length zB;have u:(xs.drop i).length=ln xs-i:=zB6
  have A:(((xs++[dG 5]).drop i).take (ln xs+1-i)).take (ln xs+1-(i+1))=xs.drop i:=by
   have e3:((xs++[dG 5]).drop i).take (ln xs+1-i)=xs.drop i++[dG 5]:=by rw[e1];exact zBf qD
   rw[e3,zDf zB,zBf zB]
  have G:(xs++[dG 5]).take (i+1)++xs.drop i++(xs++[dG 5]).drop (i+1+(xs.drop i).length)=xs.take (i+1)++xs.drop i:=by
   have e3:(xs++[dG 5]).drop (i+1+(xs.drop i).length)=[]:=zEh (by rw[C,u];omega);rw[e3,zB0,zDf zB]
  have E:∀y,(xs.drop i)[0]? =some y->ln y.cells=5:=λy z=>S y (zCc (zCq z))
  have B:(([v].drop 0).take 1).take (ln xs+1-i)=[v]:=zBf qD
  have I:(xs.take (i+1)++xs.drop i).take i++[v]++(xs.take (i+1)++xs.drop i).drop (i+[v].length)=xs.take i++v::xs.drop i:=by
   have L:(xs.take (i+1)).length=i+1:=by rw[zBv];omega
   rw[zDf zB,List.take_take,Nat.min_eq_left zB,show i+[v].length=(xs.take (i+1)).length by rw[L];rfl,List.drop_left,zBy];rfl
  refine eM call385 λF hF=>?_
  (repeat' (first|refine uT ?_|apply yW|apply xH|intro hc|(apply zG;apply xQ;(refine vJ 399 ?_;refine wJ (FR tok Z Z Z Z Z Z zB zB Z Z Z zB Z Z Z Z Z) Z ?_))|(apply zG;first|(apply gU;first|refine dM tok Z Z Z Z Z Z Z zB zB Z ?_|refine wJ (yi (N:=ln xs+1) tok Z Z Z Z Z Z zB zB zB zB) Z ?_)|(refine Ud tok Z Z Z Z Z Z Z (by first|exact A|exact B) (by first|exact E|(intro y z;cases z;exact hv)) (by first|(rw[u];omega)|simp) Z (by first|exact G|exact I) Z ?_)|(refine Y4 tok Z Z Z Z zB Z ?_;intro V M))|fail))
  exact zP [1001,98] Z Z Z Z
theorem Uo (xs:List AV) (v:AV) (i c:Nat) (hv:ln v.cells=5) (L:∀y∈xs,ln y.cells=5) (h1:1<=ln xs) (hn:ln xs<=1000) (hi:i<=ln xs) (hc:c<ln xs+1):
  zO 385 [.slc c xs,iA i,.ref 98 0 1] [(98,.arr 5 [v] false)] (.sl false (xs.take i++v::xs.drop i)) [(98,.arr 5 [v] false)]:=by
 have z:∀(j:Nat) (y:AV),xs[j]? =some y->ln y.cells=5:=λj y A=>L y (zCq A)
 by_cases Y:i=ln xs
 .subst Y;refine eM call385 λF hF=>?_
  (repeat' (first|refine uT ?_|apply yW|apply xH|intro hc|(apply zG;first|(refine wJ (AM tok Z Z Z) Z ?_)|(apply gU;refine wd 10 Z h1 ?_;refine GT tok Z Z Z Z Z (z 0) zB zB Z Z ?_)|(apply yE;refine qA (nw:=[25]) (xi tok 25 Z Z Z Z Z Z Z Z Z Z (λy A=>by cases A;exact hv) zV qD qD z) Z Z Z ?_))|fail))
  refine zP [98] Z Z ?_ Z
  show AV.sl false ((xs++[v]).take (xs++[v]).length)=_
  rw[zA8,zA8,zFa]
 .have ac:i<ln xs:=by omega
  have B:(xs.drop i).length=ln xs-i:=zB6;have u:(xs.take i).length=i:=by rw[zBv];omega
  have O:∀(j:Nat) (y:AV),(xs.take i)[j]? =some y->ln y.cells=5:=λj y A=>L y (zC2 (zCq A))
  have M:∀y,(xs.drop i)[0]? =some y->ln y.cells=5:=λy A=>L y (zCc (zCq A))
  have ag:∀y,xs[0]? =some y->ln y.cells=5:=z 0;have I:((ln xs:Int)+1-(i:Int))=((ln xs+1-i:Nat):Int):=by omega
  have U:∃zs,xs.take i++pb (ln xs+1-i) (AV.agg [.s (.int .i64 0),.s (.int .i64 0),.s (.int .i64 0),.s (.int .i64 0),.s (.slice none 0 0)])=zs:=⟨_,rfl⟩;obtain⟨zs,C⟩:=U;have hN:ln zs=ln xs+1:=by rw[<-C,zBa,u,zC4];omega
  have V:zs.take i=xs.take i:=by rw[<-C,zDf zB,zBf zB]
  have E:(([v].drop 0).take 1).take (ln xs+1-i)=[v]:=zBf qD;have G:(xs.drop i).take (ln xs+1-(i+1))=xs.drop i:=zBf zB;have R:zs.take i++[v]++zs.drop (i+[v].length)=xs.take i++[v]++zs.drop (i+1):=by rw[V];rfl
  have W:(xs.take i++[v]).length=i+1:=by rw[zBa,u];rfl
  have S:(xs.take i++[v]++zs.drop (i+1)).take (i+1)++xs.drop i++(xs.take i++[v]++zs.drop (i+1)).drop (i+1+(xs.drop i).length)=xs.take i++v::xs.drop i:=by
   have e3:(xs.take i++[v]++zs.drop (i+1)).drop (i+1+(xs.drop i).length)=[]:=zEh (by rw[zBa,W,zB6,hN,B];omega);rw[e3,zB0,zDf zB,zBf zB,zBy];rfl
  refine eM call385 λF hF=>?_
  (repeat' (first|refine uT ?_|apply yW|apply xH|intro hc|(apply zG;first|(refine wJ (AM tok Z Z Z) Z ?_)|(refine wJ (Vn tok Z Z Z) Z ?_)|(apply gU;first|(refine wd 10 Z h1 ?_;refine GT tok Z Z Z Z Z (z 0) zB zB Z Z ?_)|refine wJ (Un tok Z Z Z Z Z hi) Z ?_|refine dM tok Z Z Z Z Z Z Z zB zB Z ?_|refine GT tok Z Z Z Z Z (z 0) zB zB Z Z ?_)|(apply yE;refine W4 tok (n:=ln xs+1-i) Z Z Z Z Z Z Z Z Z Z Z Z Z Z I zB (by rw[u];omega) (by rw[u];omega) O C hN Z Z Z ?_)|(first|(refine wd 0 Z h1 ?_;refine Ud tok Z Z Z Z Z Z Z E (λy A=>by cases A;exact hv) zV Z R Z ?_)|refine Ud tok Z Z Z Z Z Z Z G M (by rw[B];omega) Z S Z ?_))|fail))
  refine zP [98] Z Z ?_ Z
  show AV.sl false ((xs.take i++v::xs.drop i).take (ln xs+1))=_
  rw[zBf (by rw[zBa,u,zBl,B];omega)]
def vv (v:AV) (hv:ln v.cells=5):
  zO 385 [.s (.slice none 0 0),iA 0,.ref 98 0 1] [(98,.arr 5 [v] false)] (.sl false [v]) [(98,.arr 5 [v] false)]:=by
 refine eM call385 λF hF=>?_
 (repeat' (first|refine uT ?_|apply yW|apply xH|intro hc|(apply zG;first|(apply gU;refine wJ (AT tok Z Z Z Z Z) Z ?_)|(apply yE;refine kX tok Z Z Z Z Z Z (λy u=>by cases u;exact hv) Z Z Z zV Z ?_))|fail))
 exact zP [98] Z Z Z Z
def vN (x:Rq):zO 273 [zY x] [] (bA true) []:=by
 refine eM call273 λF hF=>?_
 exact ly
def To (l:List Rq) (E:ln l<=1000) (hb:∀r∈l,ln r.legs<=1000):
  zO 222 [zE zY l,.fn 273 []] [] (.ref 1001 0 (l.map zY).length) [(1001,.arr 5 (l.map zY) false)]:=by
 have hl:=zA zY l;refine eM call222 λF hF=>?_
 refine WW ?_;refine zQ 5 1001 5 Z Z Z ?_;refine zU (l) [1001] [] [1,8,9] [5,10,1,8,9] Z (λi f4 T U=>⟨(5,.ref 1001 0 (f4.map zY).length)::(10,iA i)::T,(1001,.arr 5 (f4.map zY) true)::U⟩) (Lq ?_ ?_)
 .intro i f4 x post u hi;have G:=yG zY u hi;have C:=zW u hi;have B:=zA zY f4;have z:=vN x;have A:=TM x (hb x (yY u));have e:(f4++[x]).map zY=f4.map zY++[zY x]:=by simp
  rw[e];clear u e;generalize f4.map zY=R at *;refine yJ (xW z A) ?_;rfl
 ·(repeat' (first|refine yf ?_|apply yW|apply xH|intro hc|fail))
  refine kY [1001] [4] Z Z ?_;refine kF 1001 [4] Z Z Z Z Z (xL ?_);exact zP [1001] Z Z Z Z
def So:zO 222 [zE zY [],.fn 273 []] [] (.s (.slice none 0 0)) []:=by
 refine eM call222 λF hF=>?_
 refine WW ?_;refine zU (([]:List Rq)) [] [] [1,8,9] [5,10,1,8,9] Z (λi f4 T U=>⟨(5,.s (.slice none 0 0))::(10,iA i)::T,U⟩) (Lq ?_ ?_)
 .intro i f4 x post u hi
  cases f4<;>cases u
 ·(refine WW ?_)
  exact zP [] Z Z Z Z
def FZ (l:List Rq) (u:ln l<=1000) (hb:∀r∈l,ln r.legs<=1000):
  zO 225 [zE zY l] [] (.ref 1001 0 (l.map zY).length) [(1001,.arr 5 (l.map zY) false)]:=by
 have c:=To l u hb;refine eM call225 λF hF=>?_
 refine zS c ?_;exact zP [1001] Z Z Z Z
def TQ:zO 225 [zE zY []] [] (.s (.slice none 0 0)) []:=by
 have c:=So;refine eM call225 λF hF=>?_
 refine zS c ?_;exact zP [] Z Z Z Z
section
variable {P:Program} {K0:List Nat} {F:Fr K0} {m:Nat}
def EA (n len:Nat) {Q:Exit->St->Prop} {id:Nat} {l:List Oper} (u:Nat.beq (ln l) len=true) (z:P.follows .mixedOrders=true)
 (hk:yP P F m l.toArray true (l.take n) st [] (λfs s=>VG l n (MF l) fs.reverse=true/\yP P F m l.toArray false (l.drop n) s [] (λ_ s=>Q .normal s))):uG P F m (.region id l.toArray true) st Q:=wv n z hk
end
def XG (l:List Rq) (id:Int):Nat:=l.findIdx λr=>!decide (r.id<id)
def Sd (l:List Rq) (id:Int):XG l id<=ln l:=List.findIdx_le_length
theorem Rd {id:Int} {i:Nat} (h:i<XG l id):(l.getD i dd).id<id:=by grind [XG]
theorem Pd {id:Int} (h:XG l id<ln l):¬(l.getD (XG l id) dd).id<id:=by grind [XG]
def gP (id:Int) (v:Vh) (u:Int) (x:List Lg) (f3:Int):Rq:=⟨id,v.id,v.cls,f3+u,x⟩
def fB (l:List Rq) (r:Rq):List Rq:=l.take (XG l r.id)++r::l.drop (XG l r.id)
def PH (l:List Rq) (q id u:Int) (x:List Lg):Int:=
 if¬(0<=id/\id<=4294967295/\1<=u/\u<=600/\BG x=true)then 8 else if kV l id=true then 11 else if q<=ln l\/4<=(ln l:Int)then 14 else 0
theorem Ro (l:List Rq) (q id:Int) (v:Vh) (u:Int) (x:List Lg) (f3:Int) (hv:cN l) (hq:(ln l:Int)<=q) (v0:0<=v.id) (v1:v.id<=4294967295) (w0:0<=v.cls) (w1:v.cls<=3) (n0:0<=f3) (n1:f3<=1073741824):
  zO 353 [zE zY l,iA q,iA id,wX v,iA u,zE yO x,iA f3] [] (.tup [zE zY (if PH l q id u x=0 then fB l (gP id v u x f3)else []),iA (PH l q id u x)]) []:=by
 have h4:=hv.n4;have hl:=zA zY l;have G:=UP l q hv hq;have A:=NX v.id;have B:=Sc v.cls;have C:=af f3;have z:=NX id;have I:=df x;have M:=MY l id zB;rw[zA9 ⟨v0,v1⟩]at A;rw[zA9 ⟨w0,w1⟩]at B;rw[zA9 ⟨n0,n1⟩]at C;by_cases S:0<=id/\id<=4294967295
 case neg=>
  rw[zA7 S]at z;have e:PH l q id u x=8:=zA5 λh=>S ⟨h.1,h.2.1⟩
  rw[e,Os xA];refine eM call353 λF hF=>?_
  exact mx (NV G A B C z)
 rw[zA9 S]at z;by_cases g2:1<=u/\u<=600
 case neg=>
  have e:PH l q id u x=8:=zA5 λh=>g2 ⟨h.2.2.1,h.2.2.2.1⟩
  rw[e,Os xA];by_cases g3:1<=u
  all_goals
   (refine eM call353 λF hF=>?_)
   exact mx (NV G A B C z)
 obtain⟨g2,g3⟩:=g2
 cases R:BG x with
 |false=>
  rw[R]at I;have e:PH l q id u x=8:=zA5 λh=>zBm (R.symm.trans h.2.2.2.2)
  rw[e,Os xA];refine eM call353 λF hF=>?_
  exact mx (Zb G A B C z I)
 |true=>
 rw[R]at I
 have O:PH l q id u x=if kV l id=true then 11 else if q<=ln l\/4<=(ln l:Int)then 14 else 0:=Os λh=>h ⟨S.1,S.2,g2,g3,R⟩
 cases hh:kV l id with
 |true=>
  have hx:=Wd (p:=λx:Rq=>x.id==id) (l:=l) hh;generalize TN (λx:Rq=>x.id==id) l=n at *;have e:PH l q id u x=11:=by rw[O,zA5 hh]
  rw[e,Os xA];refine eM call353 λF hF=>?_
  exact mx (wy G A B C z I M)
 |false=>
 have hx:=bX (p:=λx:Rq=>x.id==id) (l:=l) (by simpa [kV]using hh);rw[hx]at M;rw[Os BW]at O;by_cases g4:q<=ln l\/4<=(ln l:Int)
 case pos=>
  rw[zA5 g4]at O;rw[O,Os xA];by_cases g5:q<=ln l
  ·(refine eM call353 λF hF=>?_)
   exact mx (wy G A B C z I M)
  .have g6:4<=(ln l:Int):=g4.resolve_left g5;refine eM call353 λF hF=>?_
   exact mx (wy G A B C z I M)
 rw[Os g4]at O;rw[O,zA5 Z];have ax:=YU R;have c8:=XF x zB;have hk:=Sd l id;have V:=λi h=>Rd (l:=l) (id:=id) (i:=i) h
 have W:=Pd (l:=l) (id:=id)
 have E:(l.map zY).take (XG l id)++zY (gP id v u x f3)::(l.map zY).drop (XG l id)=(fB l (gP id v u x f3)).map zY:=by
  unfold fB gP;rw[zBd,zCo,zEk,zD2]
 have ap:((fB l (gP id v u x f3)).map zY).length=(l.map zY).length+1:=by
  rw[<-E,zBa,zBl,zBv,zB6];omega
 have h5:∀y∈l.map zY,ln y.cells=5:=λy hy=>by
  obtain⟨r,_,rfl⟩:=zCl.1 hy;rfl
 have r1:=λh=>Vo (l.map zY) (zY (gP id v u x f3)) (XG l id) Z h5 h zB zB
 have L:=λh c hc=>Uo (l.map zY) (zY (gP id v u x f3)) (XG l id) c Z h5 h zB zB hc
 have r3:=vv (zY (gP id v u x f3)) Z;rw[E]at r1 L;have d1:=FZ l zB (λr hr=>by have:=hv.lg3 hr;omega);clear hv R;have hR:zE zY (fB l (gP id v u x f3))=AV.sl false ((fB l (gP id v u x f3)).map zY):=rfl;rw[hR];by_cases ag:l=[]
 .subst ag;have d0:=TQ;have hY:(fB [] (gP id v u x f3)).map zY=[zY (gP id v u x f3)]:=rfl;rw[hY];clear r1 L hY hR E ap;refine eM call353 λF hF=>?_
  refine yJ (wy G A B C z I M) ?_;refine zN (0) [10] [10] [0,2,4,5,6,10] [16,0,2,4,5,6,10] Z (λi T U=>⟨(16,iA i)::T,U⟩) (Lq ?_ ?_)
  .intro i hi;omega
  .exact mx (qM c8 d0 r3)
 have au:1<=ln l:=by
  cases l with
  |nil=>exact absurd Z ag
  |cons a b=>simp
 have r1:=r1 zB;have L:=L zB;clear r3 hR E;generalize (fB l (gP id v u x f3)).map zY=Y at *;refine eM call353 λF hF=>?_
 refine yJ (wy G A B C z I M) ?_;refine zN (XG l id) [10] [10] [0,2,4,5,6,10] [16,0,2,4,5,6,10] Z (λi T U=>⟨(16,iA i)::T,U⟩) (Lq ?_ ?_)
 .intro i hi;have hy:=zJ zY l i zB;have av:=V i hi;generalize l.getD i dd=r at *;refine WW ?_;rfl
 .clear V;by_cases ac:XG l id<ln l
  case' pos=>
   have hy:=zJ zY l (XG l id) ac;have ar:=W ac;generalize l.getD (XG l id) dd=r at*
  all_goals clear W
  all_goals generalize XG l id=k at*
  all_goals (have ga:=c8;have ge:=d1;(repeat' (first|refine WS ?_|refine SG (I2 (λhc=>?_) λhc=>?_)|refine SG λhc=>?_|(apply zG;first|refine SM ?_)|(first|refine EA 5 8 Z Z ?_|first|refine SR ?_|refine SK (I2 (λhc=>?_) λhc=>?_)|refine SK λhc=>?_|fail)|fail))<;>clear ga ge)
  all_goals refine Vd gY ?_
  all_goals refine Y3 95 1001 ((l.map zY).length+1) [98] [96,98] (st':=⟨[(96,iA k),(98,.ref 98 0 1)],[(98,.arr 5 [zY (gP id v u x f3)] false)]⟩) Z Z zB zB zB Z Z Z (λc hc=>?_) ?_
  case' pos.refine_1|neg.refine_1=>
   have L:=L c hc;exact ng L
  all_goals rw[show(l.map zY).length+1-(l.map zY).length=1 by omega]
  all_goals (refine zS r1 ?_)
  all_goals (refine zI [] Z Z ?_ Z;show AV.tup [AV.sl false (Y.take ((l.map zY).length+1)),iA 0]=_;rw[zBf zB])
