/- Part 6. -/
import Derived.Test.YtdjfiebpnmieoaaGreatC05
namespace Go.Proofs.YtdjfiebpnmieoaaGreat.Av
open Tryz
set_option linter.all false
set_option maxRecDepth 4000
set_option maxHeartbeats 2000000
open List renaming length->ln,replicate->nm
open Inhabited renaming default->dd
variable {xs zs:List AV}{l:List Rq}{T e len sz:Nat}{x:Operand}{st:St}{te ti:TI}{α:Type}
def ML (r:Int):Bool:=decide (0<=r/\r<=63)
def VO (r:Int):zO 380 [iA r] [] (bA (ML r)) []:=by
 unfold ML
 by_cases h1:0<=r<;>by_cases h2:r<=63<;>simp only[h1,h2,zFz,zEx,zFc,zE5]<;>first|(exfalso;omega;done)|((refine eM call380 λF hF=>?_);exact lc)
def VP (r:Int):zO 365 [iA r] [] (bA (ML r)) []:=by
 unfold ML
 by_cases h1:0<=r<;>by_cases h2:r<=63<;>simp only[h1,h2,zFz,zEx,zFc,zE5]<;>first|(exfalso;omega;done)|((refine eM call365 λF hF=>?_);exact lc)
def Cm:∀a b:_root_.Fin 64,(N1 a.val b.val==0)=(jZ a.val b.val==(a.val:Int)):=by decide +kernel
def Zd (a b:Int):Bool:=ML a&&ML b&&(jZ a b==a)
def lu (a b:Int):(ML a&&ML b&&(N1 a b==0))=Zd a b:=by
 unfold Zd
 cases u:ML a<;>cases hb:ML b<;>simp only[zAo,zA7,zCa,zC3]
 simp only[ML,zAe]at u hb;have:=Cm ⟨a.toNat,zB⟩ ⟨b.toNat,zB⟩
 grind
def ua (a b:Int):zO 407 [iA a,iA b] [] (bA (Zd a b)) []:=by
 have u:=VO a;have z:=VO b;rw[<-lu]
 cases h1:ML a<;>cases h2:ML b<;>rw[h1]at u<;>rw[h2]at z<;>simp only[zAo,zA7,zCa]<;>((refine eM call407 λF hF=>?_);exact ld (xV u z))
def GA (a b:Int):zO 401 [iA a,iA b] [] (bA (Zd a b)) []:=by
 have u:=VP a;have z:=VP b;unfold Zd
 cases h1:ML a<;>cases h2:ML b<;>rw[h1]at u<;>rw[h2]at z<;>simp only[zAo,zA7,zCa]<;>((refine eM call401 λF hF=>?_);exact ld (xV u z))
def KJ (k:Int):Int:=if k=6\/k=7\/k=8 then 1 else if k=4\/k=5 then 2 else if k=2 then 4 else if k=3 then 8 else if k=10 then 16 else if k=11 then 32 else 0
def GB (k:Int):(k=6/\KJ k=1)\/(k=7/\KJ k=1)\/(k=8/\KJ k=1)\/(k=4/\KJ k=2)\/(k=5/\KJ k=2)\/(k=2/\KJ k=4)\/(k=3/\KJ k=8)\/(k=10/\KJ k=16)\/(k=11/\KJ k=32)\/
  (k≠6/\k≠7/\k≠8/\k≠4/\k≠5/\k≠2/\k≠3/\k≠10/\k≠11/\KJ k=0):=by
 by_cases A:k=6
 .grind [KJ]
 by_cases B:k=7
 .grind [KJ]
 by_cases C:k=8
 .grind [KJ]
 by_cases u:k=4
 .grind [KJ]
 by_cases z:k=5
 .grind [KJ]
 by_cases h2:k=2
 all_goals grind [KJ]
def Bm (k:Int):zO 379 [iA k] [] (iA (KJ k)) []:=by
 rcases GB k with⟨h,e⟩|⟨h,e⟩|⟨h,e⟩|⟨h,e⟩|⟨h,e⟩|⟨h,e⟩|⟨h,e⟩|⟨h,e⟩|⟨h,e⟩|⟨h1,h2,u,z,A,B,C,E,G,e⟩<;>rw[e]<;>((refine eM call379 λF hF=>?_);exact lc)
def ji (k:Int):zO 366 [iA k] [] (iA (KJ k)) []:=by
 rcases GB k with⟨h,e⟩|⟨h,e⟩|⟨h,e⟩|⟨h,e⟩|⟨h,e⟩|⟨h,e⟩|⟨h,e⟩|⟨h,e⟩|⟨h,e⟩|⟨h1,h2,u,z,A,B,C,E,G,e⟩<;>rw[e]<;>((refine eM call366 λF hF=>?_);exact lc)
def Vj (r k:Int):Bool:=ML r&&(jZ r (KJ k)==KJ k)
def gi (r k:Int):zO 344 [iA r,iA k] [] (bA (Vj r k)) []:=by
 have u:=VO r;have z:=Bm k;unfold Vj;generalize KJ k=n at*
 cases h1:ML r<;>rw[h1]at u<;>simp only[zAo,zA7]<;>((refine eM call344 λF hF=>?_);exact ld (xV u z))
def Yd (r k:Int):zO 328 [iA r,iA k] [] (bA (Vj r k)) []:=by
 have u:=VP r;have z:=ji k;unfold Vj;generalize KJ k=n at*
 cases h1:ML r<;>rw[h1]at u<;>simp only[zAo,zA7]<;>((refine eM call328 λF hF=>?_);exact ld (xV u z))
def M0 (r b:Int):zO 137 [iA r,iA b] [] (Uj ⟨b,r,b⟩) []:=by
 refine eM call137 λF hF=>?_
 exact lc
def ru (r b:Int):zO 145 [iA r,iA b] [] (Uj ⟨b,r,b⟩) []:=by
 refine eM call145 λF hF=>?_
 exact lc
def Am (b:Bk):Bool:=decide (0<=b.burst/\b.burst<=1000/\0<=b.rate/\b.rate<=b.burst/\0<=b.level/\b.level<=b.burst)
def yn (b:Bk):zO 383 [Uj b] [] (bA (Am b)) []:=by
 (cases hb:Am b with|false=>((refine eM call383 λF hF=>?_);((refine WW (I6 (λhc hc hc hc hc=>?_) (λhc hc hc hc hc=>?_) (λhc hc hc hc=>?_) (λhc hc hc=>?_) (λhc hc=>?_) λhc=>?_)));all_goals (first|exact zI|(simp only[Am,zAk]at hb;first|exact KP|exact MO)))|true=>(simp only[Am,zAe]at hb;(refine eM call383 λF hF=>?_);((refine WW ?_));all_goals (first|exact zI|exact KP|exact MO)))
def bi (b:Bk):zO 400 [Uj b] [] (bA (Am b)) []:=by
 (cases hb:Am b with|false=>((refine eM call400 λF hF=>?_);((refine WW (I6 (λhc hc hc hc hc=>?_) (λhc hc hc hc hc=>?_) (λhc hc hc hc=>?_) (λhc hc hc=>?_) (λhc hc=>?_) λhc=>?_)));all_goals (first|exact zI|(simp only[Am,zAk]at hb;first|exact KP|exact MO)))|true=>(simp only[Am,zAe]at hb;(refine eM call400 λF hF=>?_);((refine WW ?_));all_goals (first|exact zI|exact KP|exact MO)))
def O6 (b:Bk):Bk:=⟨min (b.level+b.rate) b.burst,b.rate,b.burst⟩
def su (b:Bk) (h: -1000000000<=b.level+b.rate/\b.level+b.rate<=1000000000):zO 215 [Uj b] [] (Uj (O6 b)) []:=by
 refine eM call215 λF hF=>?_
 exact lc
def wn (b:Bk) (h: -1000000000<=b.level+b.rate/\b.level+b.rate<=1000000000):zO 235 [Uj b] [] (Uj (O6 b)) []:=by
 refine eM call235 λF hF=>?_
 exact lc
def PX (b:Bk):Bk:=if b.level<=0 then b else⟨b.level-1,b.rate,b.burst⟩
def tu (b:Bk) (h:b.level<=9223372036854775807):zO 305 [Uj b] [] (.tup [Uj (PX b),bA (decide (0<b.level))]) []:=by
 unfold PX;by_cases h1:b.level<=0
 .rw[Os h1,zAc zB];refine eM call305 λF hF=>?_
  exact lc
 .rw[Of h1,zAd zB];refine eM call305 λF hF=>?_
  exact lc
def vn (b:Bk) (h:b.level<=9223372036854775807):zO 282 [Uj b] [] (.tup [Uj (PX b),bA (decide (0<b.level))]) []:=by
 unfold PX;by_cases h1:b.level<=0
 .rw[Os h1,zAc zB];refine eM call282 λF hF=>?_
  exact lc
 .rw[Of h1,zAd zB];refine eM call282 λF hF=>?_
  exact lc
def gU (l:List Tk) (s:Int):Bool:=decide (0<=s/\s<ln l)&&(l.getD s.toNat dd).used
def Xd (l:List Tk) (s:Int):zO 302 [zD yP l,iA s] [] (bA (gU l s)) []:=by
 have hl:=zA yP l;unfold gU;by_cases h1:0<=s
 .by_cases h2:s<ln l
  .have u:=yF yP l s h1 h2;rw[zAd ⟨h1,h2⟩,zAo];refine eM call302 λF hF=>?_
   exact lc
  .rw[zAc zB,zA7];refine eM call302 λF hF=>?_
   exact lc
 .rw[zAc zB,zA7];refine eM call302 λF hF=>?_
  exact lc
def Ir (a b:Int):Bool:=decide (b≠0/\(a=0\/b<a))
def yg (a b:Int):zO 408 [iA a,iA b] [] (bA (Ir a b)) []:=by
 unfold Ir
 by_cases h1:b=0<;>by_cases h2:a=0<;>by_cases u:b<a<;>simp only[zC2,h1,h2,u,zEt,zFl,zFz,zEx,true_and,false_and,or_true,true_or,zFt,zFc,zE5]<;>first|(exfalso;omega;done)|((refine eM call408 λF hF=>?_);exact lc)
def qa (a b:Int):zO 402 [iA a,iA b] [] (bA (Ir a b)) []:=by
 unfold Ir
 by_cases h1:b=0<;>by_cases h2:a=0<;>by_cases u:b<a<;>simp only[zC2,h1,h2,u,zEt,zFl,zFz,zEx,true_and,false_and,or_true,true_or,zFt,zFc,zE5]<;>first|(exfalso;omega;done)|((refine eM call402 λF hF=>?_);exact lc)
def pc (t:Tk) (f4:Int):Bool:=decide (t.til≠0/\t.til<f4)
def GC (t:Tk) (f4:Int):zO 253 [yP t,iA f4] [] (bA (pc t f4)) []:=by
 unfold pc
 by_cases h1:t.til=0<;>by_cases h2:t.til<f4<;>simp only[zC2,h1,h2,zEt,zFl,zFz,zEx,zFc,zE5]<;>first|(exfalso;omega;done)|((refine eM call253 λF hF=>?_);exact lc)
def nc:Tk:=⟨false,[],-1,0,0,0⟩
def Wd:zO 189 [] [] (yP nc) []:=by
 refine eM call189 λF hF=>?_
 exact lc
def dP (f:α->AV) (l:List α):AV.sl false ((l.map f).take (l.map f).length)=zD f l:=by rw[zAb];rfl
def gO (_:Nat) (l:List α):List α:=l
def RX (l:List Int) (hl:ln l<=1073741824):zO 103 [zD iA l] [] (zD iA l) []:=by
 have u:=zA iA l;refine eM call103 λF hF=>?_
 refine xI 0 Z (λcap hx=>?_) ?_
 .have:l=[]:=by simpa using hx
  subst this;exact lc
 ·(refine WW ?_)
  refine zH [] Z Z (dP _ _) Z
def vJ (l:List Int) (hl:ln l<=1073741824):zO 49 [zD yA l] [] (zD yA l) []:=by
 have u:=zA yA l;refine eM call49 λF hF=>?_
 refine xI 0 Z (λcap hx=>?_) ?_
 .have:l=[]:=by simpa using hx
  subst this;exact lc
 ·(refine WW ?_)
  refine zH [] Z Z (dP _ _) Z
def ja (l:List Vh) (hl:ln l<=1073741824):zO 210 [zD vE l] [] (zD vE l) []:=by
 have u:=zA vE l;refine eM call210 λF hF=>?_
 refine xI 0 Z (λcap hx=>?_) ?_
 .have:l=[]:=by simpa using hx
  subst this;exact lc
 ·(refine WW ?_)
  refine zH [] Z Z (dP _ _) Z
def TO (l:List Tk) (hl:ln l<=1073741824):zO 209 [zD yP l] [] (.ref 1001 0 (l.map yP).length) [(1001,.arr 6 (l.map yP) false)]:=by
 have u:=zA yP l;refine eM call209 λF hF=>?_
 refine xI 0 Z (λcap hx=>?_) ?_
 .have:l=[]:=by simpa using hx
  subst this
  (repeat' (first|refine Md ?_|apply yZ|apply xM|intro hc|fail))
  refine qK 2 1001 6 Z Z Z (xG ?_);exact zP [1001] Z Z Z Z
 .repeat' (first|(apply zG;first|refine wX tok Z Z ?_|(apply xZ;refine yE (yU tok (.inl ⟨rfl,rfl⟩) Z Z Z Z) Z ?_)|(apply yR;refine qB (nw:=[1001]) (yT tok 1001 (xs:=[]) Z Z Z Z Z Z Z Z Z) Z Z Z ?_)|(apply yG;refine xW tok Z Z Z Z Z Z Z (zZ _ _ (λ_=>rfl)) Z Z Z zB Z ?_)|apply uT)|(first|apply xK|apply xF|refine vQ Z ?_|refine yM Z ?_|refine yB Z ?_|refine xU Z (λhc=>?_) λhc=>?_|apply xB|apply xG|apply xJ|apply xE))
  exact zP [1001] Z Z Z Z
structure GD (l:List Tk):Prop where
 n:l.length<=1000000
 s:∀t∈l,t.sec.length<=1000000
def jW [Inhabited α] (f:α->AV) (l:List α) (i:Nat) (hi:i<ln l):(gO i (l.map f)).set i (f (l.getD i dd))=gO (i+1) (l.map f):=by
 unfold gO;have:=zJ f l i hi
 grind [gO,List.getElem?_eq_some_iff,List.set_getElem_self]
def TP (l:List Tk) (hb:GD l):zO 251 [zD yP l] [] (.ref 1001 0 (l.map yP).length) [(1001,.arr 6 (l.map yP) false)]:=by
 have c:=TO l (by have:=hb.n;omega);have A:=hb.n;have z:=zA yP l;refine eM call251 λF hF=>?_
 refine zQ c ?_;refine zN ((l.map yP).length) [1001] [] [3,8] [9,3,8] Z (λi T U=>⟨(9,iA i)::T,(1001,.arr 6 (gO i (l.map yP)) false)::U⟩) (Lq ?_ ?_)
 .intro i hi;have hi':i<ln l:=by omega
  have B:(gO i (l.map yP))[i]? =some (yP (l.getD i dd)):=zJ yP l i hi';have e:=jW yP l i hi';have u:=vJ (l.getD i dd).sec (by have:=hb.s (l.getD i dd) XD;omega);generalize (l.getD i dd)=t,gO i (l.map yP)=xs,gO (i+1) (l.map yP)=ys at *;subst e;refine zQ u ?_;rfl
 ·(refine WW ?_)
  exact zP [1001] Z Z Z Z
def aa (a:Ag) (h1:ln a.sec<=1000000) (h2:ln a.lim<=1000000):zO 135 [vX a] [] (vX a) []:=by
 have u:=vJ a.sec zB;have z:=RX a.lim zB;refine eM call135 λF hF=>?_
 exact ld (xV u z)
structure EM (r:Rg):Prop where
 tk:GD r.tk
 s:r.ag.sec.length<=1000000
 l:r.ag.lim.length<=1000000
 v:r.vh.length<=1000000
def Q9 (r:Rg) (xs:List AV):AV:= .agg [iA r.num,zD yA r.ag.sec,iA r.ag.rights,iA r.ag.cls,zD iA r.ag.lim,iA r.ag.req,iA r.ag.ses,iA r.ag.rate,iA r.ag.burst,.sl false xs,zD vE r.vh,iA r.bk.level,iA r.bk.rate,iA r.bk.burst]
def bJ (r:Rg) (hb:EM r):zO 213 [qD r] [] (qD r) []:=by
 have z:=aa r.ag hb.s hb.l;have C:=hb.tk.n;have hv:=hb.v;have u:=TO r.tk zB;have A:=ja r.vh zB;have B:=zA yP r.tk;refine eM call213 λF hF=>?_
 refine yJ (xV z u) ?_;refine zN ((r.tk.map yP).length) [1001,1,2] [1,2] [1,2,14] [15,1,2,14] Z (λi T U=>⟨(15,iA i)::T,(1001,.arr 6 (gO i (r.tk.map yP)) false)::U⟩) (Lq ?_ ?_)
 .intro i hi;have hi':i<ln r.tk:=by omega
  have E:(gO i (r.tk.map yP))[i]? =some (yP (r.tk.getD i dd)):=zJ yP r.tk i hi';have e:=jW yP r.tk i hi';have u:=vJ (r.tk.getD i dd).sec (by have:=hb.tk.s (r.tk.getD i dd) XD;omega);generalize (r.tk.getD i dd)=t,gO i (r.tk.map yP)=xs,gO (i+1) (r.tk.map yP)=ys at *;subst e;refine zQ u ?_;rfl
 ·(refine zQ A ?_)
  exact zH [] Z Z (zAv (Q9 r) zAb) Z
theorem bW.lg3 (h:bW l) {r:Rq} (u:r∈l):1<=ln r.legs/\r.legs.length<=3:=by
 have:=VR (h.ok r u).lg;omega
theorem bW.filter (h:bW l) (p:Rq->Bool):bW (l.filter p):=
 ⟨λr u=>h.ok r (zD5.1 u).1,h.so.filter p,zBi (zBy _ _) h.n4⟩
def ZB (l:List Lg) (hl:ln l<=1000):zO 165 [zD yN l] [] (zD yN l) []:=by
 have u:=zA yN l;refine eM call165 λF hF=>?_
 refine xI 0 Z (λcap hx=>?_) ?_
 .have:l=[]:=by simpa using hx
  subst this;exact lc
 ·(refine WW ?_)
  refine zH [] Z Z (dP _ _) Z
def RY (r:Rq) (hl:ln r.legs<=1000):zO 254 [zX r] [] (zX r) []:=by
 have c:=ZB r.legs hl;have u:=zA yN r.legs;refine eM call254 λF hF=>?_
 exact lk c
def aA (p:Rq->Bool) (ga:List Rq) (x:Rq):((ga++[x]).filter p).map zX=(ga.filter p).map zX++(if p x=true then [x]else []).map zX:=by grind
def Vd (fn:Nat) (v:Int) (p:Rq->Bool) (l:List Rq) (E:ln l<=1000) (hb:∀r∈l,ln r.legs<=1000) (c:∀x,zO fn [zX x,.ptr 3 0 0] [(3,.box [iA v])] (bA (p x)) [(3,.box [iA v])]):
  zO 216 [zD zX l,.fn fn [.ptr 3 0 0]] [(3,.box [iA v])] (zD zX (l.filter p)) [(3,.box [iA v])]:=by
 have hl:=zA zX l;refine eM call216 λF hF=>?_
 refine WW ?_;refine zS 5 1001 5 Z Z Z ?_;refine zU (l) [1001,3] [3] [1,8,9] [5,10,1,8,9] Z (λi ga T U=>⟨(5,.ref 1001 0 ((ga.filter p).map zX).length)::(10,iA i)::T,(1001,.arr 5 ((ga.filter p).map zX) true)::U⟩) (Lq ?_ ?_)
 .intro i ga x post hx hi;have G:=yI zX hx hi;have C:=zV hx hi;have A:(ga.filter p).length<=i:=by rw[<-hi];exact zBy _ _
  have B:=zA zX (ga.filter p);have u:=c x;have z:=RY x (hb x (yV hx));have e:=aA p ga x;rw[e];clear hx e;generalize (ga.filter p).map zX=R at*
  cases h:p x with
  |false=>
   rw[h]at u;rw[Of zAp];refine zQ u ?_;rw[zBt,zA2];rfl
  |true=>
   rw[h]at u;rw[Os Z];refine yJ (xV u z) ?_;rfl
 ·(refine WW ?_)
  exact zP [3] Z Z (dP _ _) Z
def RZ (p:α->Bool) (l:List α):Int:=if l.any p=true then(l.findIdx p:Int)else -1
def MM {p:α->Bool} {l ga post:List α} {x:α} (h:l=ga++x::post) (u:∀y∈ga,p y=false) (hx:p x=true):RZ p l=(ln ga:Int):=by grind [RZ]
def ZC {p:α->Bool} {l:List α} (u:∀y∈l,p y=false):RZ p l= -1:=by grind [RZ]
def Ud {p:α->Bool} {l:List α} (h:l.any p=true):0<=RZ p l/\RZ p l<ln l:=by grind [RZ]
def L0 (id:Int) (x:Rq):zO 396 [zX x,.ptr 3 0 0] [(3,.box [iA id])] (bA (x.id==id)) [(3,.box [iA id])]:=by
 refine eM call396 λF hF=>?_
 refine WW ?_;exact zP [3] Z Z Z Z
def I0 (id:Int) (l:List Rq) (hb:ln l<=1000):zO 395 [zD zX l,.fn 396 [.ptr 3 0 0]] [(3,.box [iA id])] (iA (RZ (λr:Rq=>r.id==id) l)) [(3,.box [iA id])]:=by
 have hl:=zA zX l;refine eM call395 λF hF=>?_
 refine WW ?_;refine qC (l) [3] [3] [0,1,7] [8,0,1,7] Z (λi ga T U zs=>(∀y∈ga,(y.id==id)=false)/\zs=⟨(8,iA i)::T,U⟩) (Lp ?_ ?_ ?_)
 .exact⟨by simp,rfl⟩
 .rintro i ga x post st hx hi ⟨hp,rfl⟩;have z:=yI zX hx hi;have B:=zV hx hi;have c:=L0 id x;have u:=MM (p:=λr:Rq=>r.id==id) hx hp
  cases A:(x.id==id)<;>rw[A]at c
  .clear hx u;refine zQ c ?_;exact⟨λy z=>by simp only[zA5,zBf]at z;rcases z with z|rfl;exact hp y z;exact A,rfl⟩
  .rw[u A,hi];clear hx u;refine zQ c ?_;exact zP [3] Z Z Z Z
 .rintro st ⟨hp,rfl⟩;rw[ZC hp];refine WW ?_;exact zP [3] rfl rfl rfl rfl
def KL (l:List Rq) (id:Int) (hb:ln l<=1000):zO 358 [zD zX l,iA id] [] (iA (RZ (λr:Rq=>r.id==id) l)) []:=by
 have c:=I0 id l hb;generalize RZ (λr:Rq=>r.id==id) l=n at *;refine eM call358 λF hF=>?_
 exact lk c
def G0 (f4:Int) (x:Rq):zO 217 [zX x,.ptr 3 0 0] [(3,.box [iA f4])] (bA (decide (f4<=x.til))) [(3,.box [iA f4])]:=by
 cases hb:decide (f4<=x.til)with
 |false=>
  rw[zAk]at hb;refine eM call217 λF hF=>?_
  refine WW ?_;exact zP [3] Z Z Z Z
 |true=>
  rw[zAe]at hb;refine eM call217 λF hF=>?_
  refine WW ?_;exact zP [3] Z Z Z Z
def F0 (v:Int) (x:Rq):zO 352 [zX x,.ptr 3 0 0] [(3,.box [iA v])] (bA (x.vh != v)) [(3,.box [iA v])]:=by
 refine eM call352 λF hF=>?_
 refine WW ?_;exact zP [3] Z Z Z Z
def E0 (v:Int) (x:Rq):zO 359 [zX x,.ptr 3 0 0] [(3,.box [iA v])] (bA (x.id != v)) [(3,.box [iA v])]:=by
 refine eM call359 λF hF=>?_
 refine WW ?_;exact zP [3] Z Z Z Z
def IY (l:List Rq) (f4:Int):List Rq:=l.filter λx=>decide (f4<=x.til)
def QA (l:List Rq) (v:Int):List Rq:=l.filter λx=>x.vh != v
def QB (l:List Rq) (id:Int):List Rq:=l.filter λx=>x.id != id
def jF (l:List Rq) (id:Int):Bool:=l.any λx=>x.id==id
def qn (l:List Rq) (f4:Int) (hv:bW l):zO 177 [zD zX l,iA f4] [] (zD zX (IY l f4)) []:=by
 have z:=hv.n4;have c:=Vd 217 f4 _ l zB (λr u=>by have:=hv.lg3 u;omega) (G0 f4);unfold IY;generalize l.filter _=A at *;refine eM call177 λF hF=>?_
 exact lk c
def GE (l:List Rq) (v:Int) (hv:bW l):zO 307 [zD zX l,iA v] [] (zD zX (QA l v)) []:=by
 have z:=hv.n4;have c:=Vd 352 v _ l zB (λr u=>by have:=hv.lg3 u;omega) (F0 v);unfold QA;generalize l.filter _=A at *;refine eM call307 λF hF=>?_
 exact lk c
def bn (l:List Rq) (id:Int) (hv:bW l):zO 310 [zD zX l,iA id] [] (.tup [zD zX (if jF l id=true then QB l id else []),iA (if jF l id=true then 0 else 12)]) []:=by
 have C:=hv.n4;have z:=QD l 4 hv zB;have u:=KL l id zB;have A:=Vd 359 id _ l zB (λr B=>by have:=hv.lg3 B;omega) (E0 id);unfold QB;generalize l.filter _=E at*
 cases hh:jF l id with
 |true=>
  have hx:=Ud (p:=λx:Rq=>x.id==id) (l:=l) hh;generalize RZ (λx:Rq=>x.id==id) l=n at *;rw[Os Z,Os Z];refine eM call310 λF hF=>?_
  exact ld (kC z u A)
 |false=>
  have hx:=ZC (p:=λx:Rq=>x.id==id) (l:=l) (by simpa [jF]using hh);rw[hx]at u;rw[Of zAp,Of zAp];refine eM call310 λF hF=>?_
  exact ld (xV z u)
def dQ (l:List Rq) (B:ln l<=1000) (hb:∀r∈l,ln r.legs<=1000):zO 170 [zD zX l] [] (zD zX l) []:=by
 have hl:=zA zX l;refine eM call170 λF hF=>?_
 refine WW ?_;refine zS 3 1001 5 Z Z Z ?_;refine zU (l) [1001] [] [6,7] [3,8,6,7] Z (λi ga T U=>⟨(3,.ref 1001 0 (ga.map zX).length)::(8,iA i)::T,(1001,.arr 5 (ga.map zX) true)::U⟩) (Lq ?_ ?_)
 .intro i ga x post hx hi;have C:=yI zX hx hi;have u:=zV hx hi;have z:(ga.map zX).length=i:=by rw[zAa,hi]
  have hs:=hb x (yV hx);have A:=zA yN x.legs;have e:(ga++[x]).map zX=ga.map zX++[zX x]:=by simp
  clear hx;rw[e];generalize ga.map zX=xs,l.map zX=E at *;refine WL ?_;rfl
 ·(refine WL ?_)
  exact zH [] Z Z (dP _ _) Z
def D0 (p:Rq->Bool) {ga post:List Rq} {x:Rq} {i:Nat} (u:l=ga++x::post) (hi:ln ga=i):(ga.filter p).length<=i:=by rw[<-hi];exact zBy _ _
def ai (l:List Rq) (f4:Int) (hv:bW l):zO 198 [zD zX l,iA f4] [] (zD zX (IY l f4)) []:=by
 have C:=hv.n4;have hl:=zA zX l;have c:=dQ (IY l f4) (by have:=(hv.filter λx=>decide (f4<=x.til)).n4;unfold IY;omega) (λr B=>by have:=(hv.filter _).lg3 B;omega);unfold IY at *;refine eM call198 λF hF=>?_
 refine WW ?_;refine zS 5 1001 5 Z Z Z ?_;refine zU (l) [1001] [] [1,8,9] [5,10,1,8,9] Z (λi ga T U=>⟨(5,.ref 1001 0 ((ga.filter λx=>decide (f4<=x.til)).map zX).length)::(10,iA i)::T,(1001,.arr 5 ((ga.filter λx=>decide (f4<=x.til)).map zX) true)::U⟩) (Lq ?_ ?_)
 .intro i ga x post hx hi;have E:=yI zX hx hi;have A:=zV hx hi;have u:=D0 (λx=>decide (f4<=x.til)) hx hi;have z:=zA zX (ga.filter λx=>decide (f4<=x.til));have e:=aA (λx=>decide (f4<=x.til)) ga x;rw[e];clear hx e;generalize (ga.filter λx=>decide (f4<=x.til)).map zX=R at *;by_cases h:f4<=x.til
  .rw[Os WC];refine WW ?_;rfl
  .rw[Of WC];refine WW ?_;rw[zBt,zA2];rfl
 ·(have gd:=c;have kh:=(⟨⟩:Z1 170 [] [23]);refine WW ?_;clear gd kh)
  exact zI
def KM (l:List Rq) (v:Int) (hv:bW l):zO 330 [zD zX l,iA v] [] (zD zX (QA l v)) []:=by
 have C:=hv.n4;have hl:=zA zX l;have c:=dQ (QA l v) (by have:=(hv.filter λx=>x.vh != v).n4;unfold QA;omega) (λr B=>by have:=(hv.filter _).lg3 B;omega);unfold QA at *;refine eM call330 λF hF=>?_
 refine WW ?_;refine zS 5 1001 5 Z Z Z ?_;refine zU (l) [1001] [] [1,8,9] [5,10,1,8,9] Z (λi ga T U=>⟨(5,.ref 1001 0 ((ga.filter λx=>x.vh != v).map zX).length)::(10,iA i)::T,(1001,.arr 5 ((ga.filter λx=>x.vh != v).map zX) true)::U⟩) (Lq ?_ ?_)
 .intro i ga x post hx hi;have E:=yI zX hx hi;have A:=zV hx hi;have u:=D0 (λx=>x.vh != v) hx hi;have z:=zA zX (ga.filter λx=>x.vh != v);have e:=aA (λx=>x.vh != v) ga x;rw[e];clear hx e;generalize (ga.filter λx=>x.vh != v).map zX=R at *;by_cases h:x.vh≠v
  .rw[Os WC];refine WW ?_;rfl
  .rw[Of WC];refine WW ?_;rw[zBt,zA2];rfl
 ·(have gd:=c;have kh:=(⟨⟩:Z1 170 [] [23]);refine WW ?_;clear gd kh)
  exact zI
def an {id:Int} (h:jF l id=false):QB l id=l:=by grind [jF,QB,List.filter_eq_self,List.any_eq_true]
def pn {id:Int} (h:jF l id=true):(QB l id).length<ln l:=by simp_all [jF,QB]
def ni (l:List Rq) (id:Int) (hv:bW l):zO 286 [zD zX l,iA id] [] (.tup [zD zX (if jF l id=true then QB l id else []),iA (if jF l id=true then 0 else 12)]) []:=by
 have M:=hv.n4;have hl:=zA zX l;have A:=VS l 4 hv zB;have B:=dQ (QB l id) (by have:=(hv.filter λx=>x.id != id).n4;unfold QB;omega) (λr L=>by have:=(hv.filter _).lg3 L;omega);have u:jF l id=false->(QB l id).length=ln l:=λh=>by rw[an h]
 have z:=λh=>pn (l:=l) (id:=id) h
 have E:=zA zX (QB l id);generalize jF l id=b at *;unfold QB at *;refine eM call286 λF hF=>?_
 refine zQ A ?_;refine zS 6 1001 5 Z Z Z ?_;refine zU (l) [1001] [] [0,1,12,13] [6,14,0,1,12,13] Z (λi ga T U=>⟨(6,.ref 1001 0 ((ga.filter λx=>x.id != id).map zX).length)::(14,iA i)::T,(1001,.arr 5 ((ga.filter λx=>x.id != id).map zX) true)::U⟩) (Lq ?_ ?_)
 .intro i ga x post hx hi;have O:=yI zX hx hi;have I:=zV hx hi;have C:=D0 (λx=>x.id != id) hx hi;have G:=zA zX (ga.filter λx=>x.id != id);have e:=aA (λx=>x.id != id) ga x;rw[e];clear hx e;generalize (ga.filter λx=>x.id != id).map zX=R at *;by_cases h:x.id≠id
  .rw[Os (show(x.id != id)=true by simpa using h)];refine WW ?_;rfl
  .rw[Of (show¬(x.id != id)=true by simpa using h)];refine WW ?_;rw[zBt,zA2];rfl
 .cases b with
  |false=>
   have u:=u Z;rw[Of zAp,Of zAp];exact lc
  |true=>
   have z:=z Z;rw[Os Z,Os Z]
   (have gd:=B;have kh:=(⟨⟩:Z1 170 [] [32]);refine WW ?_;clear gd kh)
   exact zI
section
variable {P:Program} {K0:List Nat} {F:Fr K0} {m:Nat}
def iu (n:Nat) {Q:Exit->St->Prop} {id:Nat} {l:List Oper} (z:P.follows .mixedOrders=true)
 (hk:yQ P F m l.toArray true (l.take n) st [] (λfs s=>SA l n (KZ l) fs.reverse=true/\yQ P F m l.toArray false (l.drop n) s [] (λ_ s=>Q .normal s))):uR P F m (.region id l.toArray true) st Q:=by
 obtain⟨B,A,h1,h2,u⟩:=hk.run;exact GL n z h1 Oa u.run
def mn {l:List Oper} {n:Nat} {u:Array Oper} {fs:List FP} {z:St->Prop} (hc:SA l n (KZ l) fs.reverse=true) (A:z st):yQ P F m u true [] st fs (λfs s=>SA l n (KZ l) fs.reverse=true/\z s):=⟨⟨[],st,rfl,hc,A⟩⟩
end
section
variable {P:Program} {TT:List TI} {st:St}
def oa (C:qS P TT) {l:Operand} {k:IntKind} (hx:yY (zM st.tm) x= .s (.slice none 0 0)) (hl:yY (zM st.tm) l= .s (.int k 0)) (hT:TT[T]? =some ti) (hd:ti.d= .slice e) (I:TT[e]? =some te):
  vC P st (.slice T x (some l) none none) (.s (.slice none 0 0)) [] [] []:=
 xA λM X W h w β a G E U O B=>by
  obtain⟨d0,o0,Y,V,R,S⟩:=M;dsimp only at G;subst G;have hc:=vY B E (x:=x) qF hx;obtain⟨u,L,z⟩:=wL (C _ _ hT) w;obtain rfl:=uP (z.trans hd);have hs:=kE (C _ _ I) w;have hb:=dK (P:=P) B E (lo:=some l) (hi:=none) (len:=0) (cap:=0) (l:=0) (r:=0) (λy A=>by cases A;simp[Op.operands]) (λy A=>by cases A) ⟨k,0,hl,zB⟩ rfl (zAg _) (zAg _) true;rw[zDc]at hb;exact⟨_,by simp only[execOp,Instr.sliceAt,Instr.slice,Sem.run_bind,L,Result.andThen_ok,hc,zDc,hb,hs,Sem.run_pure];rfl,.fz _ _ (.s _)⟩
end
section
variable {P:Program} {TT:List TI} {K0:List Nat} {F:Fr K0} {m:Nat} {ops:Array Oper} {rest:List Oper} {Q:List FP->St->Prop} {tm:List (Nat×AV)} {h:List (Nat×wB)} {dr:Bool} {fs:List FP}
variable {ty:Nat} {pos:String} {after:Array Edge} {t:Nat}
def Sd (M:qS P TT) {u off:Nat} {d:Operand} {L ys:List AV} {I:AV} (z:yY (zM tm) d= .ref u off len) (hk:zE h u=some (.arr sz xs false)) (hx:yY (zM tm) x=I) (hT:TT[T]? =some ti) (hd:ti.d= .slice e) (O:TT[e]? =some te)
 (E:je (zE h) I=some L) (G:L.take len=ys) (C:∀y,ys[0]? =some y->ln y.cells=sz) (A:1<=ln ys) (B:Nat.beq sz te.size=true) (U:xs.take off++ys++xs.drop (off+ln ys)=zs) (R:Nat.blt t m=true)
 (S:yQ P F m ops dr rest ⟨(t,.s (.int .i64 (ln ys)))::tm,(u,.arr sz zs false)::h⟩ (⟨true,[u],u::JK I⟩::fs) Q):yQ P F m ops dr (⟨some t,.call ⟨.builtin .copy, #[d,x], #[T,T]⟩,ty,pos,after,none⟩::rest) ⟨tm,h⟩ fs Q:=by
 subst U;exact qB (nw:=[]) (GU M z hk hx hT hd O E G C (.inl A) B) R Z Z S
def B0 (u:qS P TT) {k:Nat} {xs:List AV} (hx:yY (zM tm) x= .ref k 0 len) (hk:zE h k=some (.arr sz xs ⟨false,false⟩)) (hT:TT[T]? =some ti) (hd:ti.d= .slice e) (hl:1<=len) (z:Nat.blt t m=true)
 (A:∀c:Int,(ln xs:Int)<=c->yQ P F m ops false rest ⟨(t,.s (.int .i64 c))::tm,h⟩ fs Q):yQ P F m ops false (⟨some t,.call ⟨.builtin .cap, #[x], #[T]⟩,ty,pos,after,none⟩::rest) ⟨tm,h⟩ fs Q:=
 x_m (de u hx hk hT hd hl) z Z (λv d ⟨c,_,_,e⟩=>by subst e;rfl) (λv d ⟨c,e1,e2,e3⟩=>by subst e1 e3;exact A c e2)
def Zu (I:qS P TT) {k:Nat} {s:Operand} {vs:List AV} {G:AV} (hs:yY (zM tm) s= .ref k 0 len) (hk:zE h k=some (.arr sz xs ⟨false,false⟩)) (hx:yY (zM tm) x=G) (hT:TT[T]? =some ti) (hd:ti.d= .slice e) (L:TT[e]? =some te) (E:je (zE h) G=some vs)
 (B:Nat.beq sz te.size=true) (C:∀y,vs[0]? =some y->ln y.cells=sz) (A:1<=ln vs) (hl:1<=len) (u:len+ln vs<=ln xs) (z:ln xs<=1073741824) (R:xs.take len++vs++xs.drop (len+ln vs)=zs) (M:Nat.blt t m=true)
 (O:yQ P F m ops dr rest ⟨(t,.ref k 0 (len+ln vs))::tm,(k,.arr sz zs ⟨false,false⟩)::h⟩ (⟨true,[k],k::JK G⟩::fs) Q):yQ P F m ops dr (⟨some t,.call ⟨.builtin .append, #[s,x], #[T,T]⟩,ty,pos,after,none⟩::rest) ⟨tm,h⟩ fs Q:=by
 subst R;exact qB (nw:=[]) (Hi I hs hk hx hT hd L E B C A hl u z) M Z Z O
def A0 (Y:qS P TT) {I c n N:Nat} {s:Operand} {U:TI} {k0:IntKind} {nx:Int} {ys:List AV} {z:AV} (hs:yY (zM tm) s= .slc c ys) (hx:yY (zM tm) x= .s (.int .i64 nx)) (hT:TT[T]? =some ti) (hd:ti.d= .slice e) (he:TT[e]? =some te) (W:TT[I]? =some U) (C:U.d= .int k0)
 (hb:Nat.ble te.bytes 65536=true) (hp:Nat.ble 1 te.size=true) (S:Nat.beq (ln te.zero) te.size=true) (O:te.zero.all (·.oneCell')=true) (R:Nat.beq (uW te).cells.length te.size=true) (B:(uW te).cells=te.zero.map .s) (hz:uW te=z)
 (G:nx=(n:Int)) (A:1<=n) (u:ln ys+n<=1073741824) (hc:c<ln ys+n) (M:∀(i:Nat) (y:AV),ys[i]? =some y->ln y.cells=te.size) (V:ys++nm n z=zs) (hN:ln zs=N) (hm:Nat.blt t m=true) (E:(zE h t).isNone=true)
 (L:te.size=sz) (hk:yQ P F m ops dr rest ⟨(t,.ref t 0 N)::tm,(t,.arr sz zs false)::h⟩ (⟨true,[t,t],[]⟩::fs) Q):yQ P F m ops dr (⟨some t,.call ⟨.builtin .append, #[s,x], #[T,I]⟩,ty,pos,after,none⟩::rest) ⟨tm,h⟩ fs Q:=by
 subst L hz hN V;exact qB (nw:=[t]) (Io Y t hs hx hT hd he W C hb hp S O R B G A u hc M) hm (Gd E) Z hk
end
theorem sn (xs:List AV) (v:AV) (i:Nat) (hv:ln v.cells=5) (hx:∀y∈xs,ln y.cells=5) (h1:1<=ln xs) (V:ln xs<=1000) (hi:i<=ln xs):
  zO 394 [.ref 1001 0 (ln xs),iA i,.ref 98 0 1] [(1001,.arr 5 (xs++[cL 5]) false),(98,.arr 5 [v] false)] (.ref 1001 0 (ln xs+1)) [(1001,.arr 5 (xs.take i++v::xs.drop i) false),(98,.arr 5 [v] false)]:=by
 have C:(xs++[cL 5]).length=ln xs+1:=by simp
 by_cases O:i=ln xs
 .subst O
  have S:(xs++[cL 5]).take (ln xs)++[v]++(xs++[cL 5]).drop (ln xs+[v].length)=xs.take (ln xs)++v::xs.drop (ln xs):=by
   rw[zCd (zAg _),zAb,zEk,zDo zW];simp
  refine eM call394 λF hF=>?_
  (repeat' (first|refine uD ?_|apply yZ|apply xM|intro hc|(apply zG;first|(apply jN;refine YP tok Z Z Z Z Z Z Z zB zB Z ?_)|(apply yG;refine Zu tok Z Z Z Z Z Z Z Z (λy z=>by cases z;exact hv) zW zB zW zB S Z ?_))|fail))
  exact zP [1001,98] Z Z Z Z
 .have R:i<ln xs:=by omega
  have e1:(xs++[cL 5]).drop i=xs.drop i++[cL 5]:=List.drop_append_of_le_length zB;have u:(xs.drop i).length=ln xs-i:=zA8
  have A:(((xs++[cL 5]).drop i).take (ln xs+1-i)).take (ln xs+1-(i+1))=xs.drop i:=by
   have e3:((xs++[cL 5]).drop i).take (ln xs+1-i)=xs.drop i++[cL 5]:=by rw[e1];exact zAj uH
   rw[e3,zCd zB,zAj zB]
  have G:(xs++[cL 5]).take (i+1)++xs.drop i++(xs++[cL 5]).drop (i+1+(xs.drop i).length)=xs.take (i+1)++xs.drop i:=by
   have e3:(xs++[cL 5]).drop (i+1+(xs.drop i).length)=[]:=zDo (by rw[C,u];omega);rw[e3,zA2,zCd zB]
  have E:∀y,(xs.drop i)[0]? =some y->ln y.cells=5:=λy z=>hx y (zBj (zB1 z))
  have B:(([v].drop 0).take 1).take (ln xs+1-i)=[v]:=zAj uH
  have I:(xs.take (i+1)++xs.drop i).take i++[v]++(xs.take (i+1)++xs.drop i).drop (i+[v].length)=xs.take i++v::xs.drop i:=by
   have L:(xs.take (i+1)).length=i+1:=by rw[zAw];omega
   rw[zCd zB,List.take_take,Nat.min_eq_left zB,show i+[v].length=(xs.take (i+1)).length by rw[L];rfl,List.drop_left,zA0];rfl
  refine eM call394 λF hF=>?_
  (repeat' (first|refine uD ?_|apply yZ|apply xM|intro hc|(apply zG;apply xO;(refine vG 415 ?_;refine yE (DJ tok Z Z Z Z Z Z zB zB Z Z Z zB Z Z Z Z Z) Z ?_))|(apply zG;first|(apply jN;first|refine YP tok Z Z Z Z Z Z Z zB zB Z ?_|refine yE (Ji (N:=ln xs+1) tok Z Z Z Z Z Z zB zB zB zB) Z ?_)|(refine Sd tok Z Z Z Z Z Z Z (by first|exact A|exact B) (by first|exact E|(intro y z;cases z;exact hv)) (by first|(rw[u];omega)|simp) Z (by first|exact G|exact I) Z ?_)|(refine B0 tok Z Z Z Z zB Z ?_;intro U M))|fail))
  exact zP [1001,98] Z Z Z Z
theorem Zn (xs:List AV) (v:AV) (i c:Nat) (hv:ln v.cells=5) (hx:∀y∈xs,ln y.cells=5) (h1:1<=ln xs) (hn:ln xs<=1000) (hi:i<=ln xs) (hc:c<ln xs+1):
  zO 394 [.slc c xs,iA i,.ref 98 0 1] [(98,.arr 5 [v] false)] (.sl false (xs.take i++v::xs.drop i)) [(98,.arr 5 [v] false)]:=by
 have z:∀(j:Nat) (y:AV),xs[j]? =some y->ln y.cells=5:=λj y A=>hx y (zB1 A)
 by_cases W:i=ln xs
 .subst W;refine eM call394 λF hF=>?_
  (repeat' (first|refine uD ?_|apply yZ|apply xM|intro hc|(apply zG;first|(refine yE (zb tok Z Z Z) Z ?_)|(apply jN;refine be 10 Z h1 ?_;refine aN tok Z Z Z Z Z (z 0) zB zB Z Z ?_)|(apply yG;refine qB (nw:=[25]) (Ii tok 25 Z Z Z Z Z Z Z Z Z Z (λy A=>by cases A;exact hv) zW uH uH z) Z Z Z ?_))|fail))
  refine zP [98] Z Z ?_ Z
  show AV.sl false ((xs++[v]).take (xs++[v]).length)=_
  rw[zAb,zAb,zEk]
 .have Y:i<ln xs:=by omega
  have B:(xs.drop i).length=ln xs-i:=zA8;have u:(xs.take i).length=i:=by rw[zAw];omega
  have M:∀(j:Nat) (y:AV),(xs.take i)[j]? =some y->ln y.cells=5:=λj y A=>hx y (zB5 (zB1 A))
  have L:∀y,(xs.drop i)[0]? =some y->ln y.cells=5:=λy A=>hx y (zBj (zB1 A))
  have ac:∀y,xs[0]? =some y->ln y.cells=5:=z 0;have I:((ln xs:Int)+1-(i:Int))=((ln xs+1-i:Nat):Int):=by omega
  have S:∃zs,xs.take i++nm (ln xs+1-i) (AV.agg [.s (.int .i64 0),.s (.int .i64 0),.s (.int .i64 0),.s (.int .i64 0),.s (.slice none 0 0)])=zs:=⟨_,rfl⟩;obtain⟨zs,C⟩:=S;have hN:ln zs=ln xs+1:=by rw[<-C,zAh,u,zB6];omega
  have U:zs.take i=xs.take i:=by rw[<-C,zCd zB,zAj zB]
  have E:(([v].drop 0).take 1).take (ln xs+1-i)=[v]:=zAj uH;have G:(xs.drop i).take (ln xs+1-(i+1))=xs.drop i:=zAj zB;have O:zs.take i++[v]++zs.drop (i+[v].length)=xs.take i++[v]++zs.drop (i+1):=by rw[U];rfl
  have V:(xs.take i++[v]).length=i+1:=by rw[zAh,u];rfl
  have R:(xs.take i++[v]++zs.drop (i+1)).take (i+1)++xs.drop i++(xs.take i++[v]++zs.drop (i+1)).drop (i+1+(xs.drop i).length)=xs.take i++v::xs.drop i:=by
   have e3:(xs.take i++[v]++zs.drop (i+1)).drop (i+1+(xs.drop i).length)=[]:=zDo (by rw[zAh,V,zA8,hN,B];omega);rw[e3,zA2,zCd zB,zAj zB,zA0];rfl
  refine eM call394 λF hF=>?_
  (repeat' (first|refine uD ?_|apply yZ|apply xM|intro hc|(apply zG;first|(refine yE (zb tok Z Z Z) Z ?_)|(refine yE (Ko tok Z Z Z) Z ?_)|(apply jN;first|(refine be 10 Z h1 ?_;refine aN tok Z Z Z Z Z (z 0) zB zB Z Z ?_)|refine yE (Jo tok Z Z Z Z Z hi) Z ?_|refine YP tok Z Z Z Z Z Z Z zB zB Z ?_|refine aN tok Z Z Z Z Z (z 0) zB zB Z Z ?_)|(apply yG;refine A0 tok (n:=ln xs+1-i) Z Z Z Z Z Z Z Z Z Z Z Z Z Z I zB (by rw[u];omega) (by rw[u];omega) M C hN Z Z Z ?_)|(first|(refine be 0 Z h1 ?_;refine Sd tok Z Z Z Z Z Z Z E (λy A=>by cases A;exact hv) zW Z O Z ?_)|refine Sd tok Z Z Z Z Z Z Z G L (by rw[B];omega) Z R Z ?_))|fail))
  refine zP [98] Z Z ?_ Z
  show AV.sl false ((xs.take i++v::xs.drop i).take (ln xs+1))=_
  rw[zAj (by rw[zAh,u,zAm,B];omega)]
def Yu (v:AV) (hv:ln v.cells=5):
  zO 394 [.s (.slice none 0 0),iA 0,.ref 98 0 1] [(98,.arr 5 [v] false)] (.sl false [v]) [(98,.arr 5 [v] false)]:=by
 refine eM call394 λF hF=>?_
 (repeat' (first|refine uD ?_|apply yZ|apply xM|intro hc|(apply zG;first|(apply jN;refine yE (oa tok Z Z Z Z Z) Z ?_)|(apply yG;refine jJ tok Z Z Z Z Z Z (λy u=>by cases u;exact hv) Z Z Z zW Z ?_))|fail))
 exact zP [98] Z Z Z Z
def vN (x:Rq):zO 262 [zX x] [] (bA true) []:=by
 refine eM call262 λF hF=>?_
 exact lc
def Yn (l:List Rq) (C:ln l<=1000) (hb:∀r∈l,ln r.legs<=1000):
  zO 216 [zD zX l,.fn 262 []] [] (.ref 1001 0 (l.map zX).length) [(1001,.arr 5 (l.map zX) false)]:=by
 have hl:=zA zX l;refine eM call216 λF hF=>?_
 refine WW ?_;refine zS 5 1001 5 Z Z Z ?_;refine zU (l) [1001] [] [1,8,9] [5,10,1,8,9] Z (λi ga T U=>⟨(5,.ref 1001 0 (ga.map zX).length)::(10,iA i)::T,(1001,.arr 5 (ga.map zX) true)::U⟩) (Lq ?_ ?_)
 .intro i ga x post hx hi;have E:=yI zX hx hi;have B:=zV hx hi;have A:=zA zX ga;have u:=vN x;have z:=RY x (hb x (yV hx));have e:(ga++[x]).map zX=ga.map zX++[zX x]:=by simp
  rw[e];clear hx e;generalize ga.map zX=R at *;refine yJ (xV u z) ?_;rfl
 ·(repeat' (first|refine Md ?_|apply yZ|apply xM|intro hc|fail))
  refine jK [1001] [4] Z Z ?_;refine kV 1001 [4] Z Z Z Z Z (xG ?_);exact zP [1001] Z Z Z Z
def Xn:zO 216 [zD zX [],.fn 262 []] [] (.s (.slice none 0 0)) []:=by
 refine eM call216 λF hF=>?_
 refine WW ?_;refine zU (([]:List Rq)) [] [] [1,8,9] [5,10,1,8,9] Z (λi ga T U=>⟨(5,.s (.slice none 0 0))::(10,iA i)::T,U⟩) (Lq ?_ ?_)
 .intro i ga x post hx hi
  cases ga<;>cases hx
 ·(refine WW ?_)
  exact zP [] Z Z Z Z
def EN (l:List Rq) (u:ln l<=1000) (hb:∀r∈l,ln r.legs<=1000):
  zO 219 [zD zX l] [] (.ref 1001 0 (l.map zX).length) [(1001,.arr 5 (l.map zX) false)]:=by
 have c:=Yn l u hb;refine eM call219 λF hF=>?_
 refine zQ c ?_;exact zP [1001] Z Z Z Z
def QC:zO 219 [zD zX []] [] (.s (.slice none 0 0)) []:=by
 have c:=Xn;refine eM call219 λF hF=>?_
 refine zQ c ?_;exact zP [] Z Z Z Z
section
variable {P:Program} {K0:List Nat} {F:Fr K0} {m:Nat}
def xg (n len:Nat) {Q:Exit->St->Prop} {id:Nat} {l:List Oper} (u:Nat.beq (ln l) len=true) (z:P.follows .mixedOrders=true)
 (hk:yQ P F m l.toArray true (l.take n) st [] (λfs s=>SA l n (KZ l) fs.reverse=true/\yQ P F m l.toArray false (l.drop n) s [] (λ_ s=>Q .normal s))):uR P F m (.region id l.toArray true) st Q:=iu n z hk
end
def VQ (l:List Rq) (id:Int):Nat:=l.findIdx λr=>!decide (r.id<id)
def Rd (l:List Rq) (id:Int):VQ l id<=ln l:=List.findIdx_le_length
theorem Pd {id:Int} {i:Nat} (h:i<VQ l id):(l.getD i dd).id<id:=by grind [VQ]
theorem Od {id:Int} (h:VQ l id<ln l):¬(l.getD (VQ l id) dd).id<id:=by grind [VQ]
def fU (id:Int) (v:Vh) (u:Int) (x:List Lg) (f4:Int):Rq:=⟨id,v.id,v.cls,f4+u,x⟩
def eE (l:List Rq) (r:Rq):List Rq:=l.take (VQ l r.id)++r::l.drop (VQ l r.id)
def NI (l:List Rq) (q id u:Int) (x:List Lg):Int:=
 if¬(0<=id/\id<=4294967295/\1<=u/\u<=600/\sa x=true)then 8 else if jF l id=true then 11 else if q<=ln l\/4<=(ln l:Int)then 14 else 0
theorem Wn (l:List Rq) (q id:Int) (v:Vh) (u:Int) (x:List Lg) (f4:Int) (hv:bW l) (hq:(ln l:Int)<=q) (v0:0<=v.id) (v1:v.id<=4294967295) (w0:0<=v.cls) (w1:v.cls<=3) (n0:0<=f4) (n1:f4<=1073741824):
  zO 355 [zD zX l,iA q,iA id,vE v,iA u,zD yN x,iA f4] [] (.tup [zD zX (if NI l q id u x=0 then eE l (fU id v u x f4)else []),iA (NI l q id u x)]) []:=by
 have h4:=hv.n4;have hl:=zA zX l;have G:=QD l q hv hq;have A:=KQ v.id;have B:=Jd v.cls;have C:=bg f4;have z:=KQ id;have I:=fg x;have M:=KL l id zB;rw[zAd ⟨v0,v1⟩]at A;rw[zAd ⟨w0,w1⟩]at B;rw[zAd ⟨n0,n1⟩]at C;by_cases S:0<=id/\id<=4294967295
 case neg=>
  rw[zAc S]at z;have e:NI l q id u x=8:=Os λh=>S ⟨h.1,h.2.1⟩
  rw[e,Of yX];refine eM call355 λF hF=>?_
  exact ld (KO G A B C z)
 rw[zAd S]at z;by_cases g2:1<=u/\u<=600
 case neg=>
  have e:NI l q id u x=8:=Os λh=>g2 ⟨h.2.2.1,h.2.2.2.1⟩
  rw[e,Of yX];by_cases g3:1<=u
  all_goals
   (refine eM call355 λF hF=>?_)
   exact ld (KO G A B C z)
 obtain⟨g2,g3⟩:=g2
 cases R:sa x with
 |false=>
  rw[R]at I;have e:NI l q id u x=8:=Os λh=>zAp (R.symm.trans h.2.2.2.2)
  rw[e,Of yX];refine eM call355 λF hF=>?_
  exact ld (Ld G A B C z I)
 |true=>
 rw[R]at I
 have O:NI l q id u x=if jF l id=true then 11 else if q<=ln l\/4<=(ln l:Int)then 14 else 0:=Of λh=>h ⟨S.1,S.2,g2,g3,R⟩
 cases hh:jF l id with
 |true=>
  have hx:=Ud (p:=λx:Rq=>x.id==id) (l:=l) hh;generalize RZ (λx:Rq=>x.id==id) l=n at *;have e:NI l q id u x=11:=by rw[O,Os hh]
  rw[e,Of yX];refine eM call355 λF hF=>?_
  exact ld (Ox G A B C z I M)
 |false=>
 have hx:=ZC (p:=λx:Rq=>x.id==id) (l:=l) (by simpa [jF]using hh);rw[hx]at M;rw[Of Sa]at O;by_cases g4:q<=ln l\/4<=(ln l:Int)
 case pos=>
  rw[Os g4]at O;rw[O,Of yX];by_cases g5:q<=ln l
  ·(refine eM call355 λF hF=>?_)
   exact ld (Ox G A B C z I M)
  .have g6:4<=(ln l:Int):=g4.resolve_left g5;refine eM call355 λF hF=>?_
   exact ld (Ox G A B C z I M)
 rw[Of g4]at O;rw[O,Os Z];have ax:=VR R;have c8:=ZB x zB;have hk:=Rd l id;have V:=λi h=>Pd (l:=l) (id:=id) (i:=i) h
 have W:=Od (l:=l) (id:=id)
 have E:(l.map zX).take (VQ l id)++zX (fU id v u x f4)::(l.map zX).drop (VQ l id)=(eE l (fU id v u x f4)).map zX:=by
  unfold eE fU;rw[zAf,zBk,zDg,zC4]
 have ap:((eE l (fU id v u x f4)).map zX).length=(l.map zX).length+1:=by
  rw[<-E,zAh,zAm,zAw,zA8];omega
 have h5:∀y∈l.map zX,ln y.cells=5:=λy hy=>by
  obtain⟨r,_,rfl⟩:=zB0.1 hy;rfl
 have r1:=λh=>sn (l.map zX) (zX (fU id v u x f4)) (VQ l id) Z h5 h zB zB
 have L:=λh c hc=>Zn (l.map zX) (zX (fU id v u x f4)) (VQ l id) c Z h5 h zB zB hc
 have r3:=Yu (zX (fU id v u x f4)) Z;rw[E]at r1 L;have d1:=EN l zB (λr hr=>by have:=hv.lg3 hr;omega);clear hv R;have hR:zD zX (eE l (fU id v u x f4))=AV.sl false ((eE l (fU id v u x f4)).map zX):=rfl;rw[hR];by_cases ag:l=[]
 .subst ag;have d0:=QC;have hY:(eE [] (fU id v u x f4)).map zX=[zX (fU id v u x f4)]:=rfl;rw[hY];clear r1 L hY hR E ap;refine eM call355 λF hF=>?_
  refine yJ (Ox G A B C z I M) ?_;refine zN (0) [10] [10] [0,2,4,5,6,10] [16,0,2,4,5,6,10] Z (λi T U=>⟨(16,iA i)::T,U⟩) (Lq ?_ ?_)
  .intro i hi;omega
  .exact ld (kC c8 d0 r3)
 have au:1<=ln l:=by
  cases l with
  |nil=>exact absurd Z ag
  |cons a b=>simp
 have r1:=r1 zB;have L:=L zB;clear r3 hR E;generalize (eE l (fU id v u x f4)).map zX=Y at *;refine eM call355 λF hF=>?_
 refine yJ (Ox G A B C z I M) ?_;refine zN (VQ l id) [10] [10] [0,2,4,5,6,10] [16,0,2,4,5,6,10] Z (λi T U=>⟨(16,iA i)::T,U⟩) (Lq ?_ ?_)
 .intro i hi;have hy:=zJ zX l i zB;have av:=V i hi;generalize l.getD i dd=r at *;refine WW ?_;rfl
 .clear V;by_cases ac:VQ l id<ln l
  case' pos=>
   have hy:=zJ zX l (VQ l id) ac;have ar:=W ac;generalize l.getD (VQ l id) dd=r at*
  all_goals clear W
  all_goals generalize VQ l id=k at*
  all_goals (have gd:=c8;have gn:=d1;(repeat' (first|refine WS ?_|refine SG (I2 (λhc=>?_) λhc=>?_)|refine SG λhc=>?_|(apply zG;first|refine SM ?_)|(first|refine xg 5 8 Z Z ?_|first|refine SR ?_|refine SK (I2 (λhc=>?_) λhc=>?_)|refine SK λhc=>?_|fail)|fail))<;>clear gd gn)
  all_goals refine mn UH ?_
  all_goals refine j2 95 1001 ((l.map zX).length+1) [98] [96,98] (st':=⟨[(96,iA k),(98,.ref 98 0 1)],[(98,.arr 5 [zX (fU id v u x f4)] false)]⟩) Z Z zB zB zB Z Z Z (λc hc=>?_) ?_
  case' pos.refine_1|neg.refine_1=>
   have L:=L c hc;exact lk L
  all_goals rw[show(l.map zX).length+1-(l.map zX).length=1 by omega]
  all_goals (refine zQ r1 ?_)
  all_goals (refine zH [] Z Z ?_ Z;show AV.tup [AV.sl false (Y.take ((l.map zX).length+1)),iA 0]=_;rw[zAj zB])
