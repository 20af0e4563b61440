/- Part 17. -/
import Derived.Test.YteajjdidebfcjaaGreatR16
namespace Go.Proofs.YteajjdidebfcjaaGreat
namespace Av
open Tryz
set_option linter.all false
set_option maxRecDepth 4000
set_option maxHeartbeats 4000000
def HR (r:Rg) (hb:DK r):zN 165 [uX r] [] (uX r) []:=by
 have hs:=hb.s;have hlm:=hb.l;have k1:=wV r.ag.sec zB;have k2:=WP r.ag.lim zB;have hn:=hb.tk.n;have hv:=hb.v;have c2:=YU r.tk zB;have c3:=DI r.vh zB;have hll:=zA yV r.tk;refine eM call165 λF hF=>?_
 refine yR (gK k1 k2 c2) ?_;refine zO ((r.tk.map yV).length) [1001,1,2] [1,2] [1,2,22] [23,1,2,22] Z (λi T U=>⟨(23,iA i)::T,(1001,.arr 6 (kN i (r.tk.map yV)) false)::U⟩) ?_;(conv=>whnf);refine⟨by rfl,?_,?_⟩
 ·intro i hi;have hi':i<r.tk.length:=by omega
  have hy:(kN i (r.tk.map yV))[i]? =some (yV (r.tk.getD i default)):=zM yV r.tk i hi';have e:=qT yV r.tk i hi';have c2:=wV (r.tk.getD i default).sec (by have:=hb.tk.s (r.tk.getD i default) bE;omega);generalize (r.tk.getD i default)=t at *;generalize kN i (r.tk.map yV)=xs at *;generalize kN (i+1) (r.tk.map yV)=ys at *;subst e;refine zV c2 ?_;rfl
 ·(refine zV c3 ?_)
  exact zK [] Z Z (yA6 (rgX r) yAf) Z
structure yY where
 rg:Rg
 rq:List Rq
 dr:List (List Int)
 au:List Bool
def qY (l:List Int):AV:=zD yA l
def wC (r:Rg) (a b c:AV):AV:= .agg [iA r.num,zD yA r.ag.sec,iA r.ag.rights,iA r.ag.cls,zD iA r.ag.lim,iA r.ag.req,iA r.ag.ses,iA r.ag.rate,iA r.ag.burst,zD yV r.tk,zD vZ r.vh,iA r.bk.level,iA r.bk.rate,iA r.bk.burst,a,b,c]
def zI (d:yY):AV:=wC d.rg (zD yG d.rq) (zD qY d.dr) (zD bA d.au)
structure fI (d:yY):Prop where
 rg:DK d.rg
 q:d.rq.length<=1000
 g:∀r∈d.rq,r.legs.length<=1000
 n:d.dr.length<=1000
 e:∀b∈d.dr,b.length<=1000
 a:d.au.length<=1000
def XJ (l:List Rq) (hl:l.length<=1073741824):zN 166 [zD yG l] [] (.ref 1001 0 (l.map yG).length) [(1001,.arr 5 (l.map yG) false)]:=by
 have hll:=zA yG l;refine eM call166 λF hF=>?_
 refine yS 0 Z (λcap hx=>?_) ?_
 ·have:l=[]:=by simpa using hx
  subst this
  (repeat' (first|refine WZN ?_|((first|apply xM|apply wA)<;>intro hc)|fail))
  refine uH 2 1001 5 Z Z Z (yT ?_);exact zL [1001] Z Z Z Z
 ·repeat' (first|(refine zE ?_;first|refine vW tok Z Z ?_|(refine wL ?_;refine wG (xE tok (.inl ⟨rfl,rfl⟩) Z Z Z Z) Z ?_)|(refine xB ?_;refine uS (nw:=[1001]) (yH tok 1001 (xs:=[]) Z Z Z Z Z Z Z Z Z) Z Z Z ?_)|(refine xC ?_;refine wF tok Z Z Z Z Z Z Z (xO _ _ (λ_=>rfl)) Z Z Z zB Z ?_)|refine qJ ?_)|(first|refine xS ?_|refine xD ?_|refine vI Z ?_|refine zY Z ?_|refine zS Z ?_|refine xL Z (λhc=>?_) λhc=>?_|refine xA ?_|refine yT ?_|refine xF ?_|refine yW ?_))
  exact zL [1001] Z Z Z Z
def OO (l:List (List Int)) (hl:l.length<=1073741824):zN 168 [zD qY l] [] (.ref 1002 0 (l.map qY).length) [(1002,.arr 1 (l.map qY) false)]:=by
 have hll:=zA qY l;refine eM call168 λF hF=>?_
 refine yS 0 Z (λcap hx=>?_) ?_
 ·have:l=[]:=by simpa using hx
  subst this
  (repeat' (first|refine WZN ?_|((first|apply xM|apply wA)<;>intro hc)|fail))
  refine uH 2 1002 1 Z Z Z (yT ?_);exact zL [1002] Z Z Z Z
 ·repeat' (first|(refine zE ?_;first|refine vW tok Z Z ?_|(refine wL ?_;refine wG (xE tok (.inl ⟨rfl,rfl⟩) Z Z Z Z) Z ?_)|(refine xB ?_;refine uS (nw:=[1002]) (yH tok 1002 (xs:=[]) Z Z Z Z Z Z Z Z Z) Z Z Z ?_)|(refine xC ?_;refine wF tok Z Z Z Z Z Z Z (xO _ _ (λ_=>rfl)) Z Z Z zB Z ?_)|refine qJ ?_)|(first|refine xS ?_|refine xD ?_|refine vI Z ?_|refine zY Z ?_|refine zS Z ?_|refine xL Z (λhc=>?_) λhc=>?_|refine xA ?_|refine yT ?_|refine xF ?_|refine yW ?_))
  exact zL [1002] Z Z Z Z
def CY (l:List Bool) (hl:l.length<=1073741824):zN 169 [zD bA l] [] (zD bA l) []:=by
 have hll:=zA bA l;refine eM call169 λF hF=>?_
 refine yS 0 Z (λcap hx=>?_) ?_
 ·have:l=[]:=by simpa using hx
  subst this;refine WW ?_;exact zJ
 ·(refine WW ?_)
  refine zK [] Z Z (eW _ _) Z
def dW (d:yY) (hb:fI d):zN 127 [zI d] [] (zI d) []:=by
 have k1:=HR d.rg hb.rg;have hq:=hb.q;have hdn:=hb.n;have hau:=hb.a;have k2:=XJ d.rq zB;have k3:=OO d.dr zB;have k4:=CY d.au zB;have hlq:=zA yG d.rq;have hld:=zA qY d.dr;unfold zI wC;unfold uX at k1;refine eM call127 λF hF=>?_
 refine yR (vH k1 k2) ?_;refine zO ((d.rq.map yG).length) [1001,1,2] [1,2] [1,2,15] [16,1,2,15] Z (λi T U=>⟨(16,iA i)::T,(1001,.arr 5 (kN i (d.rq.map yG)) false)::U⟩) ?_;(conv=>whnf);refine⟨by rfl,?_,?_⟩
 ·intro i hi;have hi':i<d.rq.length:=by omega
  have hy:(kN i (d.rq.map yG))[i]? =some (yG (d.rq.getD i default)):=zM yG d.rq i hi';have e:=qT yG d.rq i hi';have c2:=dP (d.rq.getD i default).legs (hb.g (d.rq.getD i default) bE);generalize (d.rq.getD i default)=t at *;generalize kN i (d.rq.map yG)=xs at *;generalize kN (i+1) (d.rq.map yG)=ys at *;subst e;refine zV c2 ?_;rfl
 ·(refine zV k3 ?_)
  refine zO ((d.dr.map qY).length) [1002,1,2,1001] [1,2,1001] [1,2,38] [39,1,2,38] Z (λi T U=>⟨(39,iA i)::T,(1002,.arr 1 (kN i (d.dr.map qY)) false)::U⟩) ?_;(conv=>whnf);refine⟨by rfl,?_,?_⟩
  ·intro i hi;have hi':i<d.dr.length:=by omega
   have hy:(kN i (d.dr.map qY))[i]? =some (qY (d.dr.getD i default)):=zM qY d.dr i hi';have e:=qT qY d.dr i hi';have c2:=wV (d.dr.getD i default) (by have:=hb.e (d.dr.getD i default) bE;omega);generalize (d.dr.getD i default)=t at *;generalize kN i (d.dr.map qY)=xs at *;generalize kN (i+1) (d.dr.map qY)=ys at *;subst e;refine zV c2 ?_;rfl
  ·(refine zV k4 ?_)
   refine zK [] Z Z ?_ Z
   show wC d.rg (.sl false ((d.rq.map yG).take (d.rq.map yG).length)) (.sl false ((d.dr.map qY).take (d.dr.map qY).length)) (zD bA d.au)=_
   rw[yAf,yAf];rfl
def jA (d:yY) (hb:fI d):yP [zI d] [] (zI d) []:=yD
def dX (l:List Vh) (id:Int):Vh:=(l.find? λv=>v.id==id).getD ⟨0,0⟩
def TE (l:List Vh) (id:Int):Bool:=l.any λv=>v.id==id
def zFn {l pre post:List Vh} {x:Vh} {id:Int} (h:l=pre++x::post) (hn:∀y∈pre,y.id≠id) (hx:x.id=id):dX l id=x/\TE l id=true:=by
 subst h;have h1:pre.find? (λv=>v.id==id)=none:=yE8.2 λy hy=>by simpa using hn y hy
 refine⟨?_,by simp[TE,hx]⟩;unfold dX;rw[yF0,h1];simp[hx]
def zBh {l:List Vh} {id:Int} (hn:∀y∈l,y.id≠id):dX l id=⟨0,0⟩/\TE l id=false:=by
 have h1:l.find? (λv=>v.id==id)=none:=yE8.2 λy hy=>by simpa using hn y hy
 exact⟨by unfold dX;rw[h1];rfl,by simpa [TE]using hn⟩
def zRl (l:List Vh) (id:Int) (hn:l.length<=1000000):yP [zD vZ l,iA id] [] (.tup [vZ (dX l id),bA (TE l id)]) []:=yD
def kO (l:List Vh) (c:Int):Nat:=(l.filter λv=>v.cls==c).length
def zMt (l:List Vh) (c:Int) (hn:l.length<=1000000):yP [zD vZ l,iA c] [] (iA (kO l c)) []:=yD
def TF (l:List Vh) (i:Nat):Bool:=decide (0<=(l.getD i default).id/\(l.getD i default).id<=4294967295/\0<=(l.getD i default).cls/\(l.getD i default).cls<=3/\(0<i->(l.getD (i-1) default).id<(l.getD i default).id))
def GP (l:List Vh):Bool:=((List.range l.length).all λi=>TF l i)&&decide ((l.length:Int)<=8)
def zWi {l:List Vh} {i:Nat} (hi:i<l.length) (h:TF l i=false):GP l=false:=by
 unfold GP;have:((List.range l.length).all λi=>TF l i)=false:=yC1.2 ⟨i,yAt.2 hi,by simp[h]⟩;rw[this];simp
def zFo (l:List Vh) (hn:l.length<=1000000):yP [zD vZ l] [] (bA (GP l)) []:=yD
def jS (k v:Int):Ms:=⟨14,[],[k,v],[]⟩
def HS (k v:Int):zN 203 [iA k,iA v] [] (yB (jS k v)) []:=by
 refine eM call203 λF hF=>?_
 refine WL ?_;exact zJ
def HT (l:List Tk):Nat:=(l.filter λt=>!t.used).length
def cZ (d:yY):Ms:=⟨20,[],[(HT d.rg.tk:Int),8-(d.rg.vh.length:Int),d.rg.ag.req-(d.rq.length:Int),d.rg.bk.level],[]⟩
def zFp (pre:List Tk) (x:Tk):HT (pre++[x])=HT pre+(if x.used=true then 0 else 1):=by
 unfold HT;rw[yDc,yAd]
 cases hu:x.used<;>simp[hu]
def zRm (d:yY) (hb:fI d) (h0:0<=d.rg.ag.req) (h1:d.rg.ag.req<=1000):yP [zI d] [] (yB (cZ d)) []:=yD
def zBi (d:yY) (k now:Int) (hk1:k≠1) (hk9:k≠9) (hb:fI d) (h0:0<=d.rg.ag.req) (h1:d.rg.ag.req<=1000):zN 204 [zI d,iA k,iA now] [] (yB (cZ d)) []:=by
 have hq:=hb.q;have hn:=hb.rg.tk.n;have hv:=hb.rg.v;have hlt:=zA yV d.rg.tk;have hlv:=zA vZ d.rg.vh;have hlq:=zA yG d.rq;unfold cZ;rw[<-hlv,<-hlq];unfold zI wC;refine eM call204 λF hF=>?_
 refine WW ?_;refine yL (d.rg.tk) [3,6] [3,6] [3,6,45,46] [10,47,3,6,45,46] Z (λi pre T U=>⟨(10,iA (HT pre))::(47,iA i)::T,U⟩) ?_;(conv=>whnf);refine⟨by rfl,?_,?_⟩
 ·intro i pre x post hx hi;have hy:=xI yV hx hi;have hlt2:=yN hx hi;have hle:HT pre<=i:=by rw[<-hi];exact yCl _ _
  have e:=zFp pre x;clear hx
  cases hu:x.used with
  |true=>
   rw[hu,zZ8 Z,yDd]at e;rw[e];generalize HT pre=m at *;obtain⟨us,sec,par,ri,cl,ti⟩:=x;cases hu;refine WW ?_;rfl
  |false=>
   rw[hu,zZ7 yAs]at e;rw[e];generalize HT pre=m at *;obtain⟨us,sec,par,ri,cl,ti⟩:=x;cases hu;refine WW ?_;rfl
 ·(refine WL ?_)
  exact zJ
def OP (d:yY) (now:Int):Ms:=⟨13,[],[d.rg.num,now],[]⟩
def CZ (d:yY) (now:Int):zN 204 [zI d,iA 1,iA now] [] (yB (OP d now)) []:=by
 unfold OP zI wC;refine eM call204 λF hF=>?_
 refine WL ?_;exact zJ
def gP (l:List Rq):List Int:=(l.map λr=>[r.id,r.til]).flatten
def OQ (d:yY):Ms:=⟨19,[],gP d.rq,[]⟩
def zBj (pre:List Rq) (x:Rq):(gP (pre++[x])).map iA=(gP pre).map iA++[iA x.id,iA x.til]:=by simp[gP]
theorem TG:∀l:List Rq,(gP l).length=2*l.length
 | []=>rfl
 |x::l=>by
  have:=TG l
  show(x.id::x.til::gP l).length=_
  rw[yAl,yAl,yAl];omega
def zBk (d:yY) (now:Int) (hb:fI d):zN 204 [zI d,iA 9,iA now] [] (yB (OQ d)) []:=by
 have hq:=hb.q;have hlq:=zA yG d.rq;unfold OQ zI wC;refine eM call204 λF hF=>?_
 refine WW ?_;refine uF 7 2 1001 1 Z Z Z Z Z ?_;refine yL (d.rq) [7,1001,6] [6] [6,7,26,27] [28,6,7,26,27] Z (λi pre T U=>⟨(28,iA i)::T,(7,.box [iA 19,.s (.slice none 0 0),.ref 1001 0 ((gP pre).map iA).length,.s (.slice none 0 0)])::(1001,.arr 1 ((gP pre).map iA) true)::U⟩) ?_;(conv=>whnf);refine⟨by rfl,?_,?_⟩
 ·intro i pre x post hx hi;have hy:=xI yG hx hi;have hlt2:=yN hx hi;have hle:=TG pre;have hlm:=zA iA (gP pre);have e:=zBj pre x;clear hx;rw[e];generalize (gP pre).map iA=xs at *;refine WW ?_;rfl
 ·(refine WW ?_)
  refine zK [] Z Z ?_ Z
  show AV.agg [iA 19,.sl false [],.sl false (((gP d.rq).map iA).take ((gP d.rq).map iA).length),.sl false []]=_
  rw[yAf];rfl
def zRn (l:List Vh) (id:Int) (hn:l.length<=1000000):zN 243 [zD vZ l,iA id] [] (.tup [vZ (dX l id),bA (TE l id)]) []:=by
 have hl:=zA vZ l;refine eM call243 λF hF=>?_
 refine WW ?_;refine qW (l) [4] [] [1,4,8,9] [10,1,4,8,9] Z (λi pre T U zs=>(∀y∈pre,y.id≠id)/\zs=⟨(10,iA i)::T,(4,.box [.s (.int .i64 0),.s (.int .i64 0)])::U⟩) ?_;(conv=>whnf);refine⟨?_,?_,?_⟩
 ·exact⟨by simp,rfl⟩
 ·rintro i pre x post st hx hi ⟨hp,rfl⟩;have hy:=xI vZ hx hi;have hlt:=yN hx hi;by_cases he:x.id=id
  ·obtain⟨e1,e2⟩:=zFn hx hp he;rw[e1,e2];clear hx;refine WW ?_;exact zJ
  ·clear hx;refine WW ?_;exact⟨λy hy=>by simp only[yAw,yA8]at hy;rcases hy with hy|rfl;exact hp y hy;exact he,rfl⟩
 ·rintro st ⟨hp,rfl⟩;obtain⟨e1,e2⟩:=zBh hp;rw[e1,e2];refine WW ?_;exact zJ
def zFq (l:List Rq) (q id:Int) (v:Vh) (life:Int) (x:List Lg) (now:Int) (hv:bJ l) (hq:(l.length:Int)<=q) (hb:¬((0<=v.id/\v.id<=4294967295)/\(0<=v.cls/\v.cls<=3))):
  zN 245 [zD yG l,iA q,iA id,vZ v,iA life,zD xP x,iA now] [] (.tup [zD yG [],iA 1]) []:=by
 have c1:=WN l q hv hq;have c2:=PM v.id;have c3:=zAq v.cls;by_cases h1:0<=v.id/\v.id<=4294967295
 ·have h2:¬(0<=v.cls/\v.cls<=3):=λh=>hb ⟨h1,h⟩
  rw[yAe h1]at c2;rw[yAh h2]at c3;refine eM call245 λF hF=>?_
  refine yR (gK c1 c2 c3) ?_;exact zJ
 ·rw[yAh h1]at c2;refine eM call245 λF hF=>?_
  refine yR (vH c1 c2) ?_;exact zJ
structure Qd where
 j:Int
 p:Int
 f:Int
 t:Int
def q4 (q:Qd):List Int:=[q.j,q.p,q.f,q.t]
def ZM (qs:List Qd):List Int:=(qs.map q4).flatten
def OR (c:Cf) (now:Int) (q:Qd):Bool:=decide (q.j<(c.js.length:Int))&&(decide (q.p<((c.js.getD q.j.toNat default).ph.length:Int))&&mwB q.j q.p q.f q.t now)
def HU (now:Int) (q:Qd):Lg:=mwF q.j q.p q.f q.t now
def zMu (v:Vh):Bool:=decide ((0<=v.id/\v.id<=4294967295)/\(0<=v.cls/\v.cls<=3))
def sxE (l:List Rq) (q id life:Int) (v:Vh) (x:List Lg):Int:=if(l.length:Int)<=q then(if zMu v=true then suE l q id life x else 1)else 1
def sxL (l:List Rq) (q id life now:Int) (v:Vh) (x:List Lg):List Rq:=if sxE l q id life v x=0 then bC l (cK id v life x now)else []
def zZ2 (l:List Rq) (q id:Int) (v:Vh) (life:Int) (x:List Lg) (now:Int) (hv:bJ l) (n0:0<=now) (n1:now<=1073741824):
  zN 245 [zD yG l,iA q,iA id,vZ v,iA life,zD xP x,iA now] [] (.tup [zD yG (sxL l q id life now v x),iA (sxE l q id life v x)]) []:=by
 unfold sxL sxE;by_cases hq:(l.length:Int)<=q
 ·rw[zZ8 hq];by_cases hb:(0<=v.id/\v.id<=4294967295)/\(0<=v.cls/\v.cls<=3)
  ·have hv1:zMu v=true:=yAe hb;rw[zZ8 hv1];exact zK8 l q id v life x now hv hq hb.1.1 hb.1.2 hb.2.1 hb.2.2 n0 n1
  ·have hv1:¬zMu v=true:=λh=>hb (yD5 h)
   rw[zZ7 hv1,zZ7 xG];exact zFq l q id v life x now hv hq hb
 ·rw[zZ7 hq,zZ7 xG];exact zEu l q id v life x now hv hq
theorem RX:∀qs:List Qd,(ZM qs).length=4*qs.length
 | []=>rfl
 |x::l=>by
  have:=RX l
  show(x.j::x.p::x.f::x.t::ZM l).length=_
  simp only[yAl];omega
def zRo (a b:List Qd):ZM (a++b)=ZM a++ZM b:=by simp[ZM]
def zMv (x y z:Int) (pre post:List Qd) (i:Nat) (hi:pre.length=i):(x::y::z::ZM (pre++post)).drop (3+4*i)=ZM post:=by
 rw[zRo,show 3+4*i=4*i+1+1+1 by omega,yDi,yDi,yDi,yEp (by rw[RX];omega),yEo (by rw[RX];omega),yCo]
def ZF {α:Type} {l:List α} {n:Nat} {r:List α} (h:l.drop n=r) (k:Nat):l[n+k]? =r[k]? :=by rw[<-h,yCf]
def zY1 (x y z:Int) (pre post:List Qd) (q:Qd) (I:Int) (hI:I=3+4*(pre.length:Int)):
  ((x::y::z::ZM (pre++q::post)).map iA)[I.toNat]? =some (iA q.j)/\((x::y::z::ZM (pre++q::post)).map iA)[(I+1).toNat]? =some (iA q.p)/\((x::y::z::ZM (pre++q::post)).map iA)[(I+2).toNat]? =some (iA q.f)/\((x::y::z::ZM (pre++q::post)).map iA)[(I+3).toNat]? =some (iA q.t):=by
 have h:=zMv x y z pre (q::post) pre.length Z
 refine⟨?_,?_,?_,?_⟩<;>rw[yAa]
 ·rw[show I.toNat=3+4*pre.length+0 by omega,ZF h];rfl
 ·rw[show(I+1).toNat=3+4*pre.length+1 by omega,ZF h];rfl
 ·rw[show(I+2).toNat=3+4*pre.length+2 by omega,ZF h];rfl
 ·rw[show(I+3).toNat=3+4*pre.length+3 by omega,ZF h];rfl
def dsE (c:Cf) (d:yY) (cls id v life now:Int) (qs:List Qd):Int:=
 if TE d.rg.vh v=true then(if cls<(dX d.rg.vh v).cls then 17 else if qs.all (OR c now)=true then sxE d.rq d.rg.ag.req id life (dX d.rg.vh v) (qs.map (HU now))else 8)else 12
def dsL (c:Cf) (d:yY) (cls id v life now:Int) (qs:List Qd):List Rq:=
 if dsE c d cls id v life now qs=0 then bC d.rq (cK id (dX d.rg.vh v) life (qs.map (HU now)) now)else []
def zWj {α:Type} {p:α->Bool} {pre post:List α} {x:α} (h:p x=false):¬(pre++x::post).all p=true:=by
 simp[h]
theorem zFr (c:Cf) (d:yY) (id v life slot now:Int) (qs:List Qd) (hb:fI d) (hv:bJ d.rq) (s0:0<=slot) (s1:slot<(d.rg.tk.length:Int)) (hq:qs.length<=3) (hp:∀q∈qs,0<=q.j/\0<=q.p) (n0:0<=now) (n1:now<=1073741824):
  zN 222 [vG c,zI d,zD iA (id::v::life::ZM qs),iA slot,iA now] [] (.tup [zD yG (dsL c d (d.rg.tk.getD slot.toNat default).cls id v life now qs),iA (dsE c d (d.rg.tk.getD slot.toNat default).cls id v life now qs)]) []:=by
 have hfv:=zRn d.rg.vh v (by have:=hb.rg.v;omega);have hlt:=zA yV d.rg.tk;have hyt:=yI yV d.rg.tk slot s0 s1;have hsx:=zZ2 d.rq d.rg.ag.req id (dX d.rg.vh v) life (qs.map (HU now)) now hv n0 n1;have hll:((id::v::life::ZM qs).map iA).length=3+4*qs.length:=by simp[RX];omega
 have hlj:=zA wJ c.js;have hnt:=hb.rg.tk.n;unfold dsL dsE;unfold vG zI wC;generalize (d.rg.tk.getD slot.toNat default)=t at *;rw[show yV t= .agg [bA t.used,zD yA t.sec,iA t.par,iA t.rights,iA t.cls,iA t.til]from Z]at hyt;generalize TE d.rg.vh v=hv1 at*
 cases hv1 with
 |false=>
  rw[zZ7 yAs,zZ7 xG];refine eM call222 λF hF=>?_
  refine zV hfv ?_;exact zJ
 |true=>
 rw[zZ8 Z];generalize dX d.rg.vh v=vh at *;unfold vZ at hfv hsx;by_cases hcl:t.cls<vh.cls
 ·rw[zZ8 hcl,zZ7 xG];refine eM call222 λF hF=>?_
  refine zV hfv ?_;exact zJ
 rw[zZ7 hcl];refine eM call222 λF hF=>?_
 refine zV hfv ?_;refine yZ 15 1001 5 Z Z Z ?_;refine kX (qs.length) [1001,5,6,12] [5,6,12] [2,4,5,6,12] [15,16,2,4,5,6,12] Z (λzn T U zs=>∃(pre:List Qd) (post:List Qd),(qs=pre++post/\zn=post.length/\pre.all (OR c now)=true)/\zs=⟨(15,.ref 1001 0 (pre.map λq=>xP (HU now q)).length)::(16,iA (3+4*(pre.length:Int)))::T,(1001,.arr 5 (pre.map λq=>xP (HU now q)) true)::U⟩) ?_;(conv=>whnf);refine⟨?_,?_⟩
 ·exact⟨[],qs,⟨rfl,rfl,rfl⟩,rfl⟩
 ·rintro zn st ⟨pre,post,⟨hqs,hzn,hok⟩,rfl⟩;have hln:qs.length=pre.length+post.length:=by rw[hqs,yAd]
  have hpl:=zA (λq=>xP (HU now q)) pre
  cases post with
  |nil=>
   rw[yBc]at hqs;subst hqs;rw[zZ8 hok];rw[yBr]at hln hzn;have e1:(qs.map λq=>xP (HU now q))=(qs.map (HU now)).map xP:=by rw[yE9];rfl
   unfold sxL at hsx;rw[e1]at *; generalize qs.map (HU now)=ls at *;generalize sxE d.rq d.rg.ag.req id life vh ls=e at *;generalize bC d.rq (cK id vh life ls now)=il at *;generalize hI:3+4*(qs.length:Int)=I at *;rw[show(id::v::life::ZM qs).map iA=iA id::iA v::iA life::(ZM qs).map iA from Z]at *; generalize (ZM qs).map iA=A at *;refine WD ?_;refine qH [5,6,12] [2,4,5,6,12,15] Z ?_
   (conv=>whnf)
   simp only[yA9,yAf];refine zV hsx ?_;exact zJ
  | cons q post=>
   have hpq:=hp q (by rw[hqs];simp);obtain⟨y0,y1,y2,y3⟩:=zY1 id v life pre post q _ Z;rw[<-hqs]at y0 y1 y2 y3;rw[yAl]at hln hzn;have hno:OR c now q=false->¬qs.all (OR c now)=true:=λh=>by rw[hqs];exact zWj h
   have hyes:OR c now q=true->(pre++[q]).all (OR c now)=true:=λh=>by rw[List.all_append,hok,yFx,h];rfl
   have hmp:((pre++[q]).map λq=>xP (HU now q))=(pre.map λq=>xP (HU now q))++[xP (HU now q)]:=by simp
   have hw:=zC9 q.j q.p q.f q.t now;rw[show OR c now q=(decide (q.j<(c.js.length:Int))&&(decide (q.p<((c.js.getD q.j.toNat default).ph.length:Int))&&mwB q.j q.p q.f q.t now))from Z]at hno hyes;generalize hA:(id::v::life::ZM qs).map iA=A at *;have hA2:zD iA (id::v::life::ZM qs)= .sl false A:=by rw[<-hA];rfl
   have hI:0<=3+4*(pre.length:Int)/\3+4*(pre.length:Int)+4=3+4*((pre++[q]).length:Int)/\3+4*(pre.length:Int)+3<A.length:=⟨zB,by simp;omega,zB⟩;by_cases g1:q.j<(c.js.length:Int)
   case neg=>
    rw[yAh g1]at hno;rw[zZ7 (hno Z),zZ7 xG];generalize 3+4*(pre.length:Int)=I at *;clear hno hyes hw hmp hqs;refine WW ?_;exact zJ
   have hyj:=yI wJ c.js q.j hpq.1 g1;rw[yAe g1]at hno hyes;rw[show wJ (c.js.getD q.j.toNat default)= .agg [zD wS (c.js.getD q.j.toNat default).ph,zD iA (c.js.getD q.j.toNat default).cf,iA (c.js.getD q.j.toNat default).st]from Z]at hyj;generalize c.js.getD q.j.toNat default=jn at *;have hlp:=zA wS jn.ph;by_cases g2:q.p<(jn.ph.length:Int)
   case neg=>
    rw[yAh g2]at hno;rw[zZ7 (hno Z),zZ7 xG];generalize 3+4*(pre.length:Int)=I at *;clear hno hyes hw hmp hqs;refine WW ?_;exact zJ
   rw[yAe g2]at hno hyes
   cases g3:mwB q.j q.p q.f q.t now with
   |false=>
    rw[g3]at hno hw;rw[zZ7 yAs]at hw;rw[zZ7 (hno Z),zZ7 xG];generalize 3+4*(pre.length:Int)=I at *;generalize mwF q.j q.p q.f q.t now=lg at *;clear hno hyes hmp hqs;refine zV hw ?_;exact zJ
   |true=>
    rw[g3]at hyes hw;rw[zZ8 Z]at hw;have hy2:=hyes Z;obtain⟨hI0,hI1,hI2⟩:=hI;have hfin:qs=(pre++[q])++post:=by rw[hqs];simp
    rw[show mwF q.j q.p q.f q.t now=HU now q from Z]at hw;generalize HU now q=lg at *;clear hno hyes hqs;generalize hqq:pre++[q]=pq at *;generalize (pre.map λq=>xP (HU now q))=xs at *;generalize 3+4*(pre.length:Int)=I at *;refine zV hw ?_;exact⟨post.length,zB,pq,post,⟨hfin,rfl,hy2⟩,by rw[hmp,<-hI1];rfl⟩
def dkQ (d:yY) (l:List Rq):yY:=⟨d.rg,l,d.dr,d.au⟩
def zBl (c:Cf) (d:yY) (k:Int) (tkn:List Int) (id v life cls now:Int) (qs:List Qd) (hb:fI d) (hv:bJ d.rq) (hq:qs.length<=3) (hp:∀q∈qs,0<=q.j/\0<=q.p) (n0:0<=now) (n1:now<=1073741824):
 yP [vG c,zI d,yB ⟨k,tkn,id::v::life::ZM qs,[]⟩,iA cls,iA now] [] (.tup [zI (dkQ d (if dsE c d cls id v life now qs=0 then dsL c d cls id v life now qs else d.rq)),iA (dsE c d cls id v life now qs)]) []:=yD
def OS (n:Int) (a:Ag) (N:Nat):yY:=⟨EW n a,[],[],List.replicate N false⟩
def zWk (n:Int) (a:Ag) (N:Nat) (hN:N=1∨N=2) (ha:a.ses=(N:Int)) (hs:a.sec.length<=1000000) (hl:a.lim.length<=1000000):zN 57 [iA n,wK a] [] (zI (OS n a N)) []:=by
 have c1:=zVh n a hs hl;unfold OS;obtain⟨sec,ri,cl,li,rq,se,ra,bu⟩:=a;dsimp only at ha;subst ha;unfold wK uX at c1;unfold wK zI wC;dsimp only at *;generalize EW n ⟨sec,ri,cl,li,rq,(N:Int),ra,bu⟩=r at*
 rcases hN with rfl|rfl
 all_goals
  refine eM call57 λF hF=>?_
  refine zV c1 ?_;exact zJ
def zRp (n:Int) (a:Ag) (N:Nat) (hN:N=1∨N=2) (ha:a.ses=(N:Int)) (hs:a.sec.length<=1000000) (hl:a.lim.length<=1000000):yP [iA n,wK a] [] (zI (OS n a N)) []:=yD
def w2 (p:Int×Int):List Int:=[p.1,p.2]
def HV (ws:List (Int×Int)):List Int:=(ws.map w2).flatten
theorem RY:∀ws:List (Int×Int),(HV ws).length=2*ws.length
 | []=>rfl
 |x::l=>by
  have:=RY l
  show(x.1::x.2::HV l).length=_
  simp only[yAl];omega
def zRq (a b:List (Int×Int)):HV (a++b)=HV a++HV b:=by simp[HV]
def zY2 (x:Int) (pre post:List (Int×Int)) (q:Int×Int) (I:Int) (hI:I=1+2*(pre.length:Int)):
  ((x::HV (pre++q::post)).map iA)[I.toNat]? =some (iA q.1)/\((x::HV (pre++q::post)).map iA)[(I+1).toNat]? =some (iA q.2):=by
 have h:(x::HV (pre++q::post)).drop (1+2*pre.length)=HV (q::post):=by
  rw[zRq,show 1+2*pre.length=2*pre.length+1 by omega,yDi,yEp (by rw[RY];omega),yEo (by rw[RY];omega),yCo]
 refine⟨?_,?_⟩<;>rw[yAa]
 ·rw[show I.toNat=1+2*pre.length+0 by omega,ZF h];rfl
 ·rw[show(I+1).toNat=1+2*pre.length+1 by omega,ZF h];rfl
def upQ (l:List Rq) (id:Int) (ws:List (Int×Int)) (now:Int):List Rq:=if cI l id ws now=0 then NQ l id ws now else []
def zWl (c:Cf) (d:yY) (tkn:List Int) (id slot now:Int) (ws:List (Int×Int)) (hv:bJ d.rq) (hw:ws.length<=3) (n0:0<=now) (n1:now<=1073741824):
  zN 202 [vG c,zI d,yB ⟨7,tkn,id::HV ws,[]⟩,iA slot,iA now] [] (.tup [zD yG (upQ d.rq id ws now),iA (cI d.rq id ws now)]) []:=by
 have hu:=zKm d.rq id ws now hv zB n0 n1;have hll:((id::HV ws).map iA).length=1+2*ws.length:=by simp[RY];omega
 unfold upQ;unfold vG zI wC;rw[show yB ⟨7,tkn,id::HV ws,[]⟩= .agg [iA 7,zD yA tkn,zD iA (id::HV ws),.sl false []]from Z];generalize cI d.rq id ws now=e at *;generalize NQ d.rq id ws now=ul at *;refine eM call202 λF hF=>?_
 refine WW ?_;refine yZ 13 1001 2 Z Z Z ?_;refine kX (ws.length) [1001,6,7] [6,7] [4,6,7,12] [13,14,4,6,7,12] Z (λzn T U zs=>∃(pre:List (Int×Int)) (post:List (Int×Int)),(ws=pre++post/\zn=post.length)/\zs=⟨(13,.ref 1001 0 (pre.map wnA).length)::(14,iA (1+2*(pre.length:Int)))::T,(1001,.arr 2 (pre.map wnA) true)::U⟩) ?_;(conv=>whnf);refine⟨?_,?_⟩
 ·exact⟨[],ws,⟨rfl,rfl⟩,rfl⟩
 ·rintro zn st ⟨pre,post,⟨hqs,hzn⟩,rfl⟩;have hln:ws.length=pre.length+post.length:=by rw[hqs,yAd]
  have hpl:=zA wnA pre
  cases post with
  |nil=>
   rw[yBc]at hqs;subst hqs;rw[yBr]at hln hzn;generalize hI:1+2*(ws.length:Int)=I at *;generalize (id::HV ws).map iA=A at*
   (have zc1:=hu;have zf1:=(⟨⟩:FzD 223 [5,6,7] [58,59,60,61]);refine WW ?_;clear zc1 zf1)
   exact zJ
  |cons q post=>
   obtain⟨y0,y1⟩:=zY2 id pre post q _ Z;rw[<-hqs]at y0 y1;rw[yAl]at hln hzn;have hmp:((pre++[q]).map wnA)=pre.map wnA++[.agg [iA q.1,iA q.2]]:=by simp[wnA]
   have hI:0<=1+2*(pre.length:Int)/\1+2*(pre.length:Int)+2=1+2*((pre++[q]).length:Int)/\1+2*(pre.length:Int)+1<((id::HV ws).map iA).length:=⟨zB,by simp;omega,zB⟩;have hfin:ws=(pre++[q])++post:=by rw[hqs];simp
   generalize (id::HV ws).map iA=A at *;obtain⟨hI0,hI1,hI2⟩:=hI;clear hqs;generalize hqq:pre++[q]=pq at *;generalize pre.map wnA=xs at *;generalize 1+2*(pre.length:Int)=I at *;refine WW ?_;exact⟨post.length,zB,pq,post,⟨hfin,rfl⟩,by rw[hmp,<-hI1];rfl⟩
def zWm (d:yY) (tkn:List Int) (id now:Int) (ws:List (Int×Int)) (hv:bJ d.rq) (hw:ws.length<=3) (n0:0<=now) (n1:now<=1073741824):
 yP [zI d,yB ⟨7,tkn,id::HV ws,[]⟩,iA now] [] (.tup [zI (dkQ d (if cI d.rq id ws now=0 then upQ d.rq id ws now else d.rq)),iA (cI d.rq id ws now)]) []:=yD
def zWn (c:Cf) (d:yY) (tkn:List Int) (id v life slot now:Int) (qs:List Qd) (hb:fI d) (hv:bJ d.rq) (s0:0<=slot) (s1:slot<(d.rg.tk.length:Int)) (hq:qs.length<=3) (hp:∀q∈qs,0<=q.j/\0<=q.p) (n0:0<=now) (n1:now<=1073741824):
  zN 202 [vG c,zI d,yB ⟨6,tkn,id::v::life::ZM qs,[]⟩,iA slot,iA now] [] (.tup [zD yG (dsL c d (d.rg.tk.getD slot.toNat default).cls id v life now qs),iA (dsE c d (d.rg.tk.getD slot.toNat default).cls id v life now qs)]) []:=by
 have h:=zFr c d id v life slot now qs hb hv s0 s1 hq hp n0 n1;generalize dsE c d (d.rg.tk.getD slot.toNat default).cls id v life now qs=e at *;generalize dsL c d (d.rg.tk.getD slot.toNat default).cls id v life now qs=ul at *;rw[show zD iA (id::v::life::ZM qs)= .sl false (iA id::iA v::iA life::(ZM qs).map iA)from Z]at h;rw[show yB ⟨6,tkn,id::v::life::ZM qs,[]⟩= .agg [iA 6,zD yA tkn,.sl false (iA id::iA v::iA life::(ZM qs).map iA),.sl false []]from Z];generalize (ZM qs).map iA=A at *;unfold vG zI wC at *;refine eM call202 λF hF=>?_
 refine zV h ?_;exact zJ
def zWo (c:Cf) (d:yY) (tkn:List Int) (id slot now:Int) (hv:bJ d.rq):
  zN 202 [vG c,zI d,yB ⟨8,tkn,[id],[]⟩,iA slot,iA now] [] (.tup [zD yG (if jQ d.rq id=true then zKz d.rq id else []),iA (if jQ d.rq id=true then 0 else 12)]) []:=by
 have h:=zK1 d.rq id hv;generalize (if jQ d.rq id=true then zKz d.rq id else [])=l at *;generalize (if jQ d.rq id=true then(0:Int)else 12)=e at *;rw[show yB ⟨8,tkn,[id],[]⟩= .agg [iA 8,zD yA tkn,.sl false [iA id],.sl false []]from Z];unfold vG zI wC at *;refine eM call202 λF hF=>?_
 refine zV h ?_;exact zJ
def VR (l:List Tk) (s:Int):zN 236 [zD yV l,iA s] [] (bA (gX l s)) []:=by
 have hl:=zA yV l;unfold gX;by_cases h1:0<=s
 ·by_cases h2:s<l.length
  ·have hy:=yI yV l s h1 h2;rw[yAe ⟨h1,h2⟩,yAv];refine eM call236 λF hF=>?_
   refine WW ?_;exact zJ
  ·rw[yAh zB,yBy];refine eM call236 λF hF=>?_
   refine WW ?_;exact zJ
 ·rw[yAh zB,yBy];refine eM call236 λF hF=>?_
  refine WW ?_;exact zJ
def zMw (g s:Int) (l:List Int) (hl:l.length<=1000000) (g0:0<=g) (g1:g<256) (s0:0<=s) (s1:s<256):zN 266 [iA g,iA s,zD yA l] [] (zD yA (g::s::l)) []:=by
 have hll:=zA yA l;refine eM call266 λF hF=>?_
 refine WW ?_;exact zK [] Z Z (yA6 (AV.sl false) (yAj zU)) Z
def zZ3 (n:Int) (h:0<=n):uM n 7=n/128:=by
 unfold uM;rw[yDn _ xG];rfl
def P7:Nat->Int
 |0=>1
 |z+1=>128*P7 z
def hiB (n:Int):Int:=IntKind.u8.wrap ((BitVec.ofInt IntKind.u8.bits (IntKind.u8.wrap (fH n 127)) ||| BitVec.ofInt IntKind.u8.bits 128).toNat)
def vbN:Nat->Int->List Int
 |0,n=>[n]
 |z+1,n=>if 128<=n then hiB n::vbN z (n/128)else [n]
theorem HW:∀z n,(vbN z n).length<=z+1
 |0,n=>yAb _
 |z+1,n=>by
  unfold vbN;split
  ·have:=HW z (n/128);simp only[yAl];omega
  ·simp
def zRr (z:Nat) (n:Int) (h:n<128):vbN z n=[n]:=by
 cases z with
 |zero=>rfl
 |succ z=>unfold vbN;rw[zZ7 zB]
def TH (n:Int):List Int:=if 0<=n/\n<=4294967295 then vbN 5 n else []
def veF (n:Int):Int:=if 0<=n/\n<=4294967295 then 0 else 8
def cV (n:Int):(TH n).length<=6:=by
 unfold TH;split
 ·exact HW 5 n
 ·simp
def HX (n:Int):zN 180 [iA n] [] (.tup [zD yA (TH n),iA (veF n)]) []:=by
 unfold TH veF;by_cases h1:0<=n
 case neg=>
  rw[zZ7 (λh=>h1 h.1),zZ7 (λh=>h1 h.1)];refine eM call180 λF hF=>?_
  refine WW ?_;exact zJ
 by_cases h2:n<=4294967295
 case neg=>
  rw[zZ7 (λh=>h2 h.2),zZ7 (λh=>h2 h.2)];refine eM call180 λF hF=>?_
  refine WW ?_;exact zJ
 rw[zZ8 ⟨h1,h2⟩,zZ8 ⟨h1,h2⟩];refine eM call180 λF hF=>?_
 refine WW ?_;refine qB 11 Z ?_;refine kX (5) [11] [] [] [0,4] Z (λzn T U zs=>∃(acc:List Int) (x:Int),(0<=x/\x<P7 zn*128/\acc++vbN zn x=vbN 5 n/\acc.length<=100)/\zs=⟨(0,iA x)::(4,.ref 11 0 (acc.map yA).length)::T,(11,.arr 1 (acc.map yA) true)::U⟩) ?_;(conv=>whnf);refine⟨?_,?_⟩
 ·exact⟨[],n,⟨h1,by show n<34359738368*128;omega,rfl,by simp⟩,rfl⟩
 ·rintro zn st ⟨acc,x,⟨b1,b2,b3,b4⟩,rfl⟩;have hla:=zA yA acc;by_cases hx:128<=x
  ·have hz:zn≠0:=λe=>by
    subst e;have:P7 0=1:=rfl;omega
   obtain⟨z,rfl⟩:∃z,zn=z+1:=⟨zn-1,zB⟩;have e:=zZ3 x b1;have hP:P7 (z+1)=128*P7 z:=rfl
   have e2:vbN (z+1) x=hiB x::vbN z (x/128):=by
    show(if 128<=x then _ else _)=_
    rw[zZ8 hx]
   rw[e2]at b3;have hm:(acc++[hiB x]).map yA=acc.map yA++[yA (hiB x)]:=by simp
   have hb5:acc++[hiB x]++vbN z (uM x 7)=vbN 5 n:=by rw[e,yA7];exact b3
   have hx2:0<=uM x 7/\uM x 7<P7 z*128:=by rw[e];rw[hP]at b2;omega
   have hlc:acc.length+1<=100:=by
    have h6:=yA6 List.length b3;have h7:=HW 5 n;simp only[yAd,yAl]at h6;omega
   clear e2 b3 hP
   (repeat' (first|refine uL ?_|((first|apply xM|apply wA)<;>intro hc)|(refine zE ?_;first|(refine wL ?_;refine wG (HB Z Z) Z ?_))|fail))
   exact⟨z,zB,acc++[hiB x],uM x 7,⟨hx2.1,hx2.2,hb5,by simpa using hlc⟩,by rw[hm];rfl⟩
  ·rw[zRr zn x zB]at b3;rw[<-b3];have hm:zD yA (acc++[x])= .sl false ((acc.map yA++[yA (x)]).take (acc.map yA++[yA (x)]).length):=by rw[yAf];unfold zD;rw[yAi];rfl
   rw[hm];refine WW ?_;exact zJ
structure Shp where
 t:Int
 f:Int
 g:Int
 lo:Int
 hi:Int
 da:Int
def ZN (s:Shp):AV:= .agg [iA s.t,iA s.f,iA s.g,iA s.lo,iA s.hi,iA s.da]
structure zZ4 (k:Int) (s:Shp) (ok:Bool):Prop where
 t:0<=s.t/\s.t<=10
 f:0<=s.f/\s.f<=4
 g:s.g=0∨s.g=2∨s.g=3∨s.g=4
 da: -1<=s.da/\s.da<=10
 k2:k=2->s=⟨10,3,0,0,0,0⟩/\ok=true
 k3:k=3->s=⟨10,1,0,0,0,0⟩/\ok=true
 k4:k=4->s=⟨10,2,0,0,0,0⟩/\ok=true
 k5:k=5->s=⟨10,1,0,0,0,0⟩/\ok=true
theorem zRs (k:Int):∃(s:Shp) (ok:Bool),zZ4 k s ok/\zN 103 [iA k] [] (.tup [ZN s,bA ok]) []:=by
 by_cases h1:k=1
 ·subst h1;refine⟨⟨10,0,0,0,0,0⟩,true,⟨by decide,by decide,by decide,by decide,λh=>absurd h zB,λh=>absurd h zB,λh=>absurd h zB,λh=>absurd h zB⟩,?_⟩;unfold ZN;refine eM call103 λF hF=>?_
  refine WW ?_;exact zJ
 by_cases h2:k=2
 ·subst h2;refine⟨⟨10,3,0,0,0,0⟩,true,⟨by decide,by decide,by decide,by decide,λ_=>⟨rfl,rfl⟩,λh=>absurd h zB,λh=>absurd h zB,λh=>absurd h zB⟩,?_⟩;unfold ZN;refine eM call103 λF hF=>?_
  refine WW ?_;exact zJ
 by_cases h3:k=3
 ·subst h3;refine⟨⟨10,1,0,0,0,0⟩,true,⟨by decide,by decide,by decide,by decide,λh=>absurd h zB,λ_=>⟨rfl,rfl⟩,λh=>absurd h zB,λh=>absurd h zB⟩,?_⟩;unfold ZN;refine eM call103 λF hF=>?_
  refine WW ?_;exact zJ
 by_cases h4:k=4
 ·subst h4;refine⟨⟨10,2,0,0,0,0⟩,true,⟨by decide,by decide,by decide,by decide,λh=>absurd h zB,λh=>absurd h zB,λ_=>⟨rfl,rfl⟩,λh=>absurd h zB⟩,?_⟩;unfold ZN;refine eM call103 λF hF=>?_
  refine WW ?_;exact zJ
 by_cases h5:k=5
 ·subst h5;refine⟨⟨10,1,0,0,0,0⟩,true,⟨by decide,by decide,by decide,by decide,λh=>absurd h zB,λh=>absurd h zB,λh=>absurd h zB,λ_=>⟨rfl,rfl⟩⟩,?_⟩;unfold ZN;refine eM call103 λF hF=>?_
  refine WW ?_;exact zJ
 by_cases h6:k=6
 ·subst h6;refine⟨⟨10,3,4,1,3,0⟩,true,⟨by decide,by decide,by decide,by decide,λh=>absurd h zB,λh=>absurd h zB,λh=>absurd h zB,λh=>absurd h zB⟩,?_⟩;unfold ZN;refine eM call103 λF hF=>?_
  refine WW ?_;exact zJ
 by_cases h7:k=7
 ·subst h7;refine⟨⟨10,1,2,1,3,0⟩,true,⟨by decide,by decide,by decide,by decide,λh=>absurd h zB,λh=>absurd h zB,λh=>absurd h zB,λh=>absurd h zB⟩,?_⟩;unfold ZN;refine eM call103 λF hF=>?_
  refine WW ?_;exact zJ
 by_cases h8:k=8
 ·subst h8;refine⟨⟨10,1,0,0,0,0⟩,true,⟨by decide,by decide,by decide,by decide,λh=>absurd h zB,λh=>absurd h zB,λh=>absurd h zB,λh=>absurd h zB⟩,?_⟩;unfold ZN;refine eM call103 λF hF=>?_
  refine WW ?_;exact zJ
 by_cases h9:k=9
 ·subst h9;refine⟨⟨10,0,0,0,0,0⟩,true,⟨by decide,by decide,by decide,by decide,λh=>absurd h zB,λh=>absurd h zB,λh=>absurd h zB,λh=>absurd h zB⟩,?_⟩;unfold ZN;refine eM call103 λF hF=>?_
  refine WW ?_;exact zJ
 by_cases h10:k=10
 ·subst h10;refine⟨⟨10,1,0,0,0,0⟩,true,⟨by decide,by decide,by decide,by decide,λh=>absurd h zB,λh=>absurd h zB,λh=>absurd h zB,λh=>absurd h zB⟩,?_⟩;unfold ZN;refine eM call103 λF hF=>?_
  refine WW ?_;exact zJ
 by_cases h11:k=11
 ·subst h11;refine⟨⟨10,1,0,0,0,0⟩,true,⟨by decide,by decide,by decide,by decide,λh=>absurd h zB,λh=>absurd h zB,λh=>absurd h zB,λh=>absurd h zB⟩,?_⟩;unfold ZN;refine eM call103 λF hF=>?_
  refine WW ?_;exact zJ
 by_cases h12:k=12
 ·subst h12;refine⟨⟨10,0,0,0,0,0⟩,true,⟨by decide,by decide,by decide,by decide,λh=>absurd h zB,λh=>absurd h zB,λh=>absurd h zB,λh=>absurd h zB⟩,?_⟩;unfold ZN;refine eM call103 λF hF=>?_
  refine WW ?_;exact zJ
 by_cases h13:k=13
 ·subst h13;refine⟨⟨0,2,0,0,0,0⟩,true,⟨by decide,by decide,by decide,by decide,λh=>absurd h zB,λh=>absurd h zB,λh=>absurd h zB,λh=>absurd h zB⟩,?_⟩;unfold ZN;refine eM call103 λF hF=>?_
  refine WW ?_;exact zJ
 by_cases h14:k=14
 ·subst h14;refine⟨⟨0,2,0,0,0,0⟩,true,⟨by decide,by decide,by decide,by decide,λh=>absurd h zB,λh=>absurd h zB,λh=>absurd h zB,λh=>absurd h zB⟩,?_⟩;unfold ZN;refine eM call103 λF hF=>?_
  refine WW ?_;exact zJ
 by_cases h15:k=15
 ·subst h15;refine⟨⟨0,2,0,0,0,0⟩,true,⟨by decide,by decide,by decide,by decide,λh=>absurd h zB,λh=>absurd h zB,λh=>absurd h zB,λh=>absurd h zB⟩,?_⟩;unfold ZN;refine eM call103 λF hF=>?_
  refine WW ?_;exact zJ
 by_cases h16:k=16
 ·subst h16;refine⟨⟨0,1,0,0,0,10⟩,true,⟨by decide,by decide,by decide,by decide,λh=>absurd h zB,λh=>absurd h zB,λh=>absurd h zB,λh=>absurd h zB⟩,?_⟩;unfold ZN;refine eM call103 λF hF=>?_
  refine WW ?_;exact zJ
 by_cases h17:k=17
 ·subst h17;refine⟨⟨0,1,0,0,0,-1⟩,true,⟨by decide,by decide,by decide,by decide,λh=>absurd h zB,λh=>absurd h zB,λh=>absurd h zB,λh=>absurd h zB⟩,?_⟩;unfold ZN;refine eM call103 λF hF=>?_
  refine WW ?_;exact zJ
 by_cases h18:k=18
 ·subst h18;refine⟨⟨0,1,3,0,16,0⟩,true,⟨by decide,by decide,by decide,by decide,λh=>absurd h zB,λh=>absurd h zB,λh=>absurd h zB,λh=>absurd h zB⟩,?_⟩;unfold ZN;refine eM call103 λF hF=>?_
  refine WW ?_;exact zJ
 by_cases h19:k=19
 ·subst h19;refine⟨⟨0,0,2,0,4,0⟩,true,⟨by decide,by decide,by decide,by decide,λh=>absurd h zB,λh=>absurd h zB,λh=>absurd h zB,λh=>absurd h zB⟩,?_⟩;unfold ZN;refine eM call103 λF hF=>?_
  refine WW ?_;exact zJ
 by_cases h20:k=20
 ·subst h20;refine⟨⟨0,4,0,0,0,0⟩,true,⟨by decide,by decide,by decide,by decide,λh=>absurd h zB,λh=>absurd h zB,λh=>absurd h zB,λh=>absurd h zB⟩,?_⟩;unfold ZN;refine eM call103 λF hF=>?_
  refine WW ?_;exact zJ
 by_cases h21:k=21
 ·subst h21;refine⟨⟨0,1,0,0,0,-1⟩,true,⟨by decide,by decide,by decide,by decide,λh=>absurd h zB,λh=>absurd h zB,λh=>absurd h zB,λh=>absurd h zB⟩,?_⟩;unfold ZN;refine eM call103 λF hF=>?_
  refine WW ?_;exact zJ
 by_cases h22:k=22
 ·subst h22;refine⟨⟨0,1,0,0,0,0⟩,true,⟨by decide,by decide,by decide,by decide,λh=>absurd h zB,λh=>absurd h zB,λh=>absurd h zB,λh=>absurd h zB⟩,?_⟩;unfold ZN;refine eM call103 λF hF=>?_
  refine WW ?_;exact zJ
 refine⟨⟨0,0,0,0,0,0⟩,false,⟨by decide,by decide,by decide,by decide,λh=>absurd h h2,λh=>absurd h h3,λh=>absurd h h4,λh=>absurd h h5⟩,?_⟩;unfold ZN;refine eM call103 λF hF=>?_
 refine WW ?_;exact zJ
theorem zMx (s:Shp) (hg:s.g=0∨s.g=2∨s.g=3∨s.g=4) (hf:0<=s.f/\s.f<=4) (n:Int) (hn:0<=n/\n<=1000000):∃(gr:Int) (ok:Bool),(-1000000<=gr/\gr<=1000000)/\(s.g=0->gr=0/\ok=decide (n=s.f))/\zN 179 [ZN s,iA n] [] (.tup [iA gr,bA ok]) []:=by
 obtain⟨t,f,g,lo,hi,da⟩:=s;dsimp only at *;rw[show ZN ⟨t,f,g,lo,hi,da⟩= .agg [iA t,iA f,iA g,iA lo,iA hi,iA da]from Z]
 rcases hg with rfl|rfl|rfl|rfl
 ·by_cases h:n=f
  ·refine⟨0,true,zB,λ_=>⟨rfl,(yAe h).symm⟩,?_⟩;refine eM call179 λF hF=>?_
   refine WW ?_;exact zJ
  ·refine⟨0,false,zB,λ_=>⟨rfl,(yAh h).symm⟩,?_⟩;refine eM call179 λF hF=>?_
   refine WW ?_;exact zJ
 ·by_cases h1:n-f<0
  ·refine⟨0,false,zB,λh=>absurd h xG,?_⟩;refine eM call179 λF hF=>?_
   refine WW ?_;exact zJ
  have hb:0<=(n-f).tdiv 2/\(n-f).tdiv 2<=1000000:=by
   rw[yB3 zB];omega
  have hq:XN .i64 ((n-f).tdiv 2):=by
   unfold XN;have e1:IntKind.i64.min= -9223372036854775808:=by decide
   have e2:IntKind.i64.max=9223372036854775807:=by decide
   omega
  by_cases h2:(n-f).tmod 2=0
  case neg=>
   refine⟨0,false,zB,λh=>absurd h xG,?_⟩;refine eM call179 λF hF=>?_
   refine WW ?_;exact zJ
  generalize hm:(n-f).tmod 2=m at *;by_cases h3:lo<=(n-f).tdiv 2
  case neg=>
   refine⟨(n-f).tdiv 2,false,zB,λh=>absurd h xG,?_⟩;subst hm;refine eM call179 λF hF=>?_
   refine WW ?_;exact zJ
  by_cases h4:(n-f).tdiv 2<=hi
  ·refine⟨(n-f).tdiv 2,true,zB,λh=>absurd h xG,?_⟩;subst hm;refine eM call179 λF hF=>?_
   refine WW ?_;exact zJ
  ·refine⟨(n-f).tdiv 2,false,zB,λh=>absurd h xG,?_⟩;subst hm;refine eM call179 λF hF=>?_
   refine WW ?_;exact zJ
 ·by_cases h1:n-f<0
  ·refine⟨0,false,zB,λh=>absurd h xG,?_⟩;refine eM call179 λF hF=>?_
   refine WW ?_;exact zJ
  have hb:0<=(n-f).tdiv 3/\(n-f).tdiv 3<=1000000:=by
   rw[yB3 zB];omega
  have hq:XN .i64 ((n-f).tdiv 3):=by
   unfold XN;have e1:IntKind.i64.min= -9223372036854775808:=by decide
   have e2:IntKind.i64.max=9223372036854775807:=by decide
   omega
  by_cases h2:(n-f).tmod 3=0
  case neg=>
   refine⟨0,false,zB,λh=>absurd h xG,?_⟩;refine eM call179 λF hF=>?_
   refine WW ?_;exact zJ
  generalize hm:(n-f).tmod 3=m at *;by_cases h3:lo<=(n-f).tdiv 3
  case neg=>
   refine⟨(n-f).tdiv 3,false,zB,λh=>absurd h xG,?_⟩;subst hm;refine eM call179 λF hF=>?_
   refine WW ?_;exact zJ
  by_cases h4:(n-f).tdiv 3<=hi
  ·refine⟨(n-f).tdiv 3,true,zB,λh=>absurd h xG,?_⟩;subst hm;refine eM call179 λF hF=>?_
   refine WW ?_;exact zJ
  ·refine⟨(n-f).tdiv 3,false,zB,λh=>absurd h xG,?_⟩;subst hm;refine eM call179 λF hF=>?_
   refine WW ?_;exact zJ
 ·by_cases h1:n-f<0
  ·refine⟨0,false,zB,λh=>absurd h xG,?_⟩;refine eM call179 λF hF=>?_
   refine WW ?_;exact zJ
  have hb:0<=(n-f).tdiv 4/\(n-f).tdiv 4<=1000000:=by
   rw[yB3 zB];omega
  have hq:XN .i64 ((n-f).tdiv 4):=by
   unfold XN;have e1:IntKind.i64.min= -9223372036854775808:=by decide
   have e2:IntKind.i64.max=9223372036854775807:=by decide
   omega
  by_cases h2:(n-f).tmod 4=0
  case neg=>
   refine⟨0,false,zB,λh=>absurd h xG,?_⟩;refine eM call179 λF hF=>?_
   refine WW ?_;exact zJ
  generalize hm:(n-f).tmod 4=m at *;by_cases h3:lo<=(n-f).tdiv 4
  case neg=>
   refine⟨(n-f).tdiv 4,false,zB,λh=>absurd h xG,?_⟩;subst hm;refine eM call179 λF hF=>?_
   refine WW ?_;exact zJ
  by_cases h4:(n-f).tdiv 4<=hi
  ·refine⟨(n-f).tdiv 4,true,zB,λh=>absurd h xG,?_⟩;subst hm;refine eM call179 λF hF=>?_
   refine WW ?_;exact zJ
  ·refine⟨(n-f).tdiv 4,false,zB,λh=>absurd h xG,?_⟩;subst hm;refine eM call179 λF hF=>?_
   refine WW ?_;exact zJ
end Av
end Go.Proofs.YteajjdidebfcjaaGreat
