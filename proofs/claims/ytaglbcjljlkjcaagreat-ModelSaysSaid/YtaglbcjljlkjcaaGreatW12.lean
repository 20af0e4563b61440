/- Part 12. -/
import Derived.Test.YtaglbcjljlkjcaaGreatW11
namespace Go.Proofs.YtaglbcjljlkjcaaGreat.Av
open Tryz
set_option linter.all false
set_option maxRecDepth 4000
set_option maxHeartbeats 2000000
open List renaming length->ln,range->pb
open Inhabited renaming default->dd
variable {l:List Vh}
def Gf (r:Rg) (hb:GR r):zN 167 [uQ r] [] (uQ r) []:=by
 have I:=hb.s;have B:=hb.l;have C:=kS r.ag.sec zB;have E:=TC r.ag.lim zB;have G:=hb.tk.n;have hv:=hb.v;have u:=VL r.tk zB;have z:=AH r.vh zB;have A:=zA yP r.tk;refine eM call167 λF hF=>?_
 refine yG (qM C E u) ?_;refine zO ((r.tk.map yP).length) [1001,1,2] [1,2] [1,2,22] [23,1,2,22] Z (λi T U=>⟨(23,iA i)::T,(1001,.arr 6 (dR i (r.tk.map yP)) false)::U⟩) (Lq ?_ ?_)
 .intro i hi;have hi':i<ln r.tk:=by omega
  have L:(dR i (r.tk.map yP))[i]? =some (yP (r.tk.getD i dd)):=zJ yP r.tk i hi';have e:=cB yP r.tk i hi';have u:=kS (r.tk.getD i dd).sec (by have:=hb.tk.s (r.tk.getD i dd) QK;omega);generalize (r.tk.getD i dd)=t,dR i (r.tk.map yP)=xs,dR (i+1) (r.tk.map yP)=ys at *;subst e;refine zS u ?_;rfl
 ·(refine zS z ?_)
  exact zH [] Z Z (zBb (rgX r) zAt) Z
structure wC where
 rg:Rg
 rq:List Rq
 dr:List (List Int)
 au:List Bool
def qQ (l:List Int):AV:=zE yA l
def xD (r:Rg) (a b c:AV):AV:= .agg [iA r.num,zE yA r.ag.sec,iA r.ag.rights,iA r.ag.cls,zE iA r.ag.lim,iA r.ag.req,iA r.ag.ses,iA r.ag.rate,iA r.ag.burst,zE yP r.tk,zE vB r.vh,iA r.bk.level,iA r.bk.rate,iA r.bk.burst,a,b,c]
def zM (d:wC):AV:=xD d.rg (zE zY d.rq) (zE qQ d.dr) (zE bA d.au)
structure dN (d:wC):Prop where
 rg:GR d.rg
 q:d.rq.length<=1000
 g:∀r∈d.rq,r.legs.length<=1000
 n:d.dr.length<=1000
 e:∀b∈d.dr,b.length<=1000
 a:d.au.length<=1000
def MP (l:List Rq) (hl:ln l<=1073741824):zN 168 [zE zY l] [] (.ref 1001 0 (l.map zY).length) [(1001,.arr 5 (l.map zY) false)]:=by
 have u:=zA zY l;refine eM call168 λF hF=>?_
 refine xH 0 Z (λcap hx=>?_) ?_
 .have:l=[]:=by simpa using hx
  subst this
  (repeat' (first|refine Zf ?_|apply yW|apply xI|intro hc|fail))
  refine qH 2 1001 5 Z Z Z (xL ?_);exact zP [1001] Z Z Z Z
 .repeat' (first|(apply zG;first|refine uL tok Z Z ?_|(apply wV;refine wM (xX tok (.inl ⟨rfl,rfl⟩) Z Z Z Z) Z ?_)|(apply yH;refine uU (nw:=[1001]) (yV tok 1001 (xs:=[]) Z Z Z Z Z Z Z Z Z) Z Z Z ?_)|(apply yC;refine vA tok Z Z Z Z Z Z Z (yM _ _ (λ_=>rfl)) Z Z Z zB Z ?_)|apply kP)|(first|apply xY|apply xR|refine vZ Z ?_|refine yR Z ?_|refine yD Z ?_|refine xZ Z (λhc=>?_) λhc=>?_|apply xJ|apply xL|apply xQ|apply xC))
  exact zP [1001] Z Z Z Z
def MQ (l:List (List Int)) (hl:ln l<=1073741824):zN 170 [zE qQ l] [] (.ref 1002 0 (l.map qQ).length) [(1002,.arr 1 (l.map qQ) false)]:=by
 have u:=zA qQ l;refine eM call170 λF hF=>?_
 refine xH 0 Z (λcap hx=>?_) ?_
 .have:l=[]:=by simpa using hx
  subst this
  (repeat' (first|refine Zf ?_|apply yW|apply xI|intro hc|fail))
  refine qH 2 1002 1 Z Z Z (xL ?_);exact zP [1002] Z Z Z Z
 .repeat' (first|(apply zG;first|refine uL tok Z Z ?_|(apply wV;refine wM (xX tok (.inl ⟨rfl,rfl⟩) Z Z Z Z) Z ?_)|(apply yH;refine uU (nw:=[1002]) (yV tok 1002 (xs:=[]) Z Z Z Z Z Z Z Z Z) Z Z Z ?_)|(apply yC;refine vA tok Z Z Z Z Z Z Z (yM _ _ (λ_=>rfl)) Z Z Z zB Z ?_)|apply kP)|(first|apply xY|apply xR|refine vZ Z ?_|refine yR Z ?_|refine yD Z ?_|refine xZ Z (λhc=>?_) λhc=>?_|apply xJ|apply xL|apply xQ|apply xC))
  exact zP [1002] Z Z Z Z
def Ho (l:List Bool) (hl:ln l<=1073741824):zN 171 [zE bA l] [] (zE bA l) []:=by
 have u:=zA bA l;refine eM call171 λF hF=>?_
 refine xH 0 Z (λcap hx=>?_) ?_
 .have:l=[]:=by simpa using hx
  subst this;exact ly
 ·(refine WW ?_)
  refine zH [] Z Z (fY _ _) Z
def MR (d:wC) (hb:dN d):zN 106 [zM d] [] (zM d) []:=by
 have z:=Gf d.rg hb.rg;have O:=hb.q;have B:=hb.n;have A:=hb.a;have I:=MP d.rq zB;have L:=MQ d.dr zB;have M:=Ho d.au zB;have E:=zA zY d.rq;have C:=zA qQ d.dr;unfold zM xD;unfold uQ at z;refine eM call106 λF hF=>?_
 refine yG (xV z I) ?_;refine zO ((d.rq.map zY).length) [1001,1,2] [1,2] [1,2,15] [16,1,2,15] Z (λi T U=>⟨(16,iA i)::T,(1001,.arr 5 (dR i (d.rq.map zY)) false)::U⟩) (Lq ?_ ?_)
 .intro i hi;have hi':i<ln d.rq:=by omega
  have G:(dR i (d.rq.map zY))[i]? =some (zY (d.rq.getD i dd)):=zJ zY d.rq i hi';have e:=cB zY d.rq i hi';have u:=XD (d.rq.getD i dd).legs (hb.g (d.rq.getD i dd) QK);generalize (d.rq.getD i dd)=t,dR i (d.rq.map zY)=xs,dR (i+1) (d.rq.map zY)=ys at *;subst e;refine zS u ?_;rfl
 ·(refine zS L ?_)
  refine zO ((d.dr.map qQ).length) [1002,1,2,1001] [1,2,1001] [1,2,38] [39,1,2,38] Z (λi T U=>⟨(39,iA i)::T,(1002,.arr 1 (dR i (d.dr.map qQ)) false)::U⟩) (Lq ?_ ?_)
  .intro i hi;have hi':i<ln d.dr:=by omega
   have G:(dR i (d.dr.map qQ))[i]? =some (qQ (d.dr.getD i dd)):=zJ qQ d.dr i hi';have e:=cB qQ d.dr i hi';have u:=kS (d.dr.getD i dd) (by have:=hb.e (d.dr.getD i dd) QK;omega);generalize (d.dr.getD i dd)=t,dR i (d.dr.map qQ)=xs,dR (i+1) (d.dr.map qQ)=ys at *;subst e;refine zS u ?_;rfl
  ·(refine zS M ?_)
   refine zH [] Z Z ?_ Z
   show xD d.rg (.sl false ((d.rq.map zY).take (d.rq.map zY).length)) (.sl false ((d.dr.map qQ).take (d.dr.map qQ).length)) (zE bA d.au)=_
   rw[zAt,zAt];rfl
def kN (d:wC) (hb:dN d):zN 125 [zM d] [] (zM d) []:=by
 have u:=eI d.rg hb.rg;have M:=fZ d.rq hb.q hb.g;have O:=hb.q;have A:=hb.n;have z:=hb.a;have E:=zA zY d.rq;have C:=zA qQ d.dr;have B:=zA bA d.au;unfold zM xD;unfold uQ at u;refine eM call125 λF hF=>?_
 refine RE (xV u M) ?_;refine zQ 4 1001 1 Z Z Z ?_;refine zU (d.dr) [1001,2,3] [2,3] [2,3,18,19] [4,20,2,3,18,19] Z (λi f4 T U=>⟨(4,.ref 1001 0 (f4.map qQ).length)::(20,iA i)::T,(1001,.arr 1 (f4.map qQ) true)::U⟩) (Lq ?_ ?_)
 .intro i f4 x post hx hi;have S:=yJ qQ hx hi;have G:=zX hx hi;have I:(f4.map qQ).length=i:=by rw[zAr,hi]
  have R:=hb.e x (xA hx);have L:=zA yA x;have e:(f4++[x]).map qQ=f4.map qQ++[qQ x]:=by simp
  clear hx;rw[e];generalize f4.map qQ=xs,d.dr.map qQ=V at *;refine WL ?_;rfl
 ·(refine WL ?_)
  refine zH [] Z Z ?_ Z
  show xD d.rg (zE zY d.rq) (.sl false ((d.dr.map qQ).take (d.dr.map qQ).length)) (zE bA d.au)=_
  rw[zAt];rfl
def dG (l:List Vh) (id:Int):Vh:=(l.find? λv=>v.id==id).getD ⟨0,0⟩
def XR (l:List Vh) (id:Int):Bool:=l.any λv=>v.id==id
def IE {f4 post:List Vh} {x:Vh} {id:Int} (h:l=f4++x::post) (u:∀y∈f4,y.id≠id) (hx:x.id=id):dG l id=x/\XR l id=true:=by grind [dG,XR]
def MS {id:Int} (u:∀y∈l,y.id≠id):dG l id=⟨0,0⟩/\XR l id=false:=by grind [dG,XR,List.find?_eq_none]
def Ff (l:List Vh) (id:Int) (E:ln l<=1000000):zN 291 [zE vB l,iA id] [] (.tup [vB (dG l id),bA (XR l id)]) []:=by
 have hl:=zA vB l;refine eM call291 λF hF=>?_
 refine WW ?_;refine uX (l) [4] [] [1,4,8,9] [10,1,4,8,9] Z (λi f4 T U C=>(∀y∈f4,y.id≠id)/\C=⟨(10,iA i)::T,(4,.box [.s (.int .i64 0),.s (.int .i64 0)])::U⟩) (Lp ?_ ?_ ?_)
 .exact⟨by simp,rfl⟩
 .rintro i f4 x post st hx hi ⟨hp,rfl⟩;have u:=yJ vB hx hi;have B:=zX hx hi;by_cases A:x.id=id
  .obtain⟨e1,z⟩:=IE hx hp A;rw[e1,z];clear hx;exact ly
  .clear hx;refine WW ?_;exact⟨λy u=>by simp only[zBc,zBl]at u;rcases u with u|rfl;exact hp y u;exact A,rfl⟩
 .rintro st ⟨hp,rfl⟩;obtain⟨e1,z⟩:=MS hp;rw[e1,z];exact ly
def uY (l:List Vh) (c:Int):Nat:=(l.filter λv=>v.cls==c).length
def Fo (l:List Vh) (c:Int) (A:ln l<=1000000):zN 368 [zE vB l,iA c] [] (iA (uY l c)) []:=by
 have hl:=zA vB l;refine eM call368 λF hF=>?_
 refine WW ?_;refine zU (l) [] [] [1,8,9] [5,10,1,8,9] Z (λi f4 T U=>⟨(5,iA (uY f4 c))::(10,iA i)::T,U⟩) (Lq ?_ ?_)
 .intro i f4 x post hx hi;have B:=yJ vB hx hi;have z:=zX hx hi;have u:uY f4 c<=i:=by rw[<-hi];exact zCh _ _
  have e:uY (f4++[x]) c=uY f4 c+(if x.cls=c then 1 else 0):=by
   unfold uY;rw[zFr,zAv];by_cases h:x.cls=c
   all_goals simp[h]
  clear hx;by_cases h:x.cls=c
  .rw[f5 h]at e;rw[e];generalize uY f4 c=m at *;refine WW ?_;rfl
  .rw[Os h,zDh]at e;rw[e];generalize uY f4 c=m at *;refine WW ?_;rfl
 .exact ly
def bX (l:List Vh) (i:Nat):Bool:=decide (0<=(l.getD i dd).id/\(l.getD i dd).id<=4294967295/\0<=(l.getD i dd).cls/\(l.getD i dd).cls<=3/\(0<i->(l.getD (i-1) dd).id<(l.getD i dd).id))
def MT (l:List Vh):Bool:=((pb (ln l)).all λi=>bX l i)&&decide ((ln l:Int)<=8)
def Eo {i:Nat} (hi:i<ln l) (h:bX l i=false):MT l=false:=by grind [bX,MT]
def RK (l:List Vh) (hn:ln l<=1000000):zN 364 [zE vB l] [] (bA (MT l)) []:=by
 have hl:=zA vB l;refine eM call364 λF hF=>?_
 refine WW ?_;refine yU (ln l) [] [] [0,5,6] [7,0,5,6] Z (λi T U zs=>(∀s:Nat,s<i->bX l s=true)/\zs=⟨(7,iA i)::T,U⟩) (Lp ?_ ?_ ?_)
 .exact⟨λs V=>absurd V (zCm _),rfl⟩
 .rintro i st hi ⟨hp,rfl⟩
  have z:bX l i=true->∀s:Nat,s<i+1->bX l s=true:=λh s V=>by
   by_cases R:s=i
   .subst R;exact h
   .exact hp s zB
  have A:=λh=>Eo (l:=l) hi h
  have hy:=zJ vB l i hi;have u:bX l i=_:=rfl
  conv at u=>rhs;unfold bX
  by_cases C:0<i
  .have B:=yE vB l ((i:Int)-1) zB zB;rw[show((i:Int)-1).toNat=i-1 by omega]at B;have ac:(l.map vB)[((i:Int)-1).toNat]? =some (vB (l.getD (i-1) dd)):=by rw[show((i:Int)-1).toNat=i-1 by omega];exact B
   clear B;generalize l.getD i dd=t,l.getD (i-1) dd=p,bX l i=tk at *;by_cases h1:0<=t.id/\t.id<=4294967295/\0<=t.cls/\t.cls<=3/\p.id<t.id
   .obtain⟨h1,h2,M,O,Y⟩:=h1;rw[zAu ⟨h1,h2,M,O,λ_=>Y⟩]at u;refine WW ?_;exact⟨z u,rfl⟩
   .rw[zAs (λh=>h1 ⟨h.1,h.2.1,h.2.2.1,h.2.2.2.1,h.2.2.2.2 C⟩)]at u;rw[A u]
    by_cases E:0<=t.id<;>by_cases G:t.id<=4294967295<;>by_cases I:0<=t.cls<;>by_cases L:t.cls<=3<;>by_cases W:p.id<t.id<;>first|(exfalso;exact h1 ⟨E,G,I,L,W⟩)|(exfalso;omega;done)|(clear h1;((refine WW ?_));exact zI)
  .obtain rfl:i=0:=by omega
   generalize l.getD 0 dd=t,bX l 0=tk at *;by_cases h1:0<=t.id/\t.id<=4294967295/\0<=t.cls/\t.cls<=3
   .obtain⟨h1,h2,M,O⟩:=h1;rw[zAu ⟨h1,h2,M,O,λh=>absurd h C⟩]at u;refine WW ?_;exact⟨z u,rfl⟩
   .rw[zAs (λh=>h1 ⟨h.1,h.2.1,h.2.2.1,h.2.2.2.1⟩)]at u;rw[A u]
    by_cases E:0<=t.id<;>by_cases G:t.id<=4294967295<;>by_cases I:0<=t.cls<;>by_cases L:t.cls<=3<;>first|(exfalso;exact h1 ⟨E,G,I,L⟩)|(exfalso;omega;done)|(clear h1;((refine WW ?_));exact zI)
 .rintro st ⟨hp,rfl⟩;have e:((pb (ln l)).all λi=>bX l i)=true:=zA5.2 λi hi=>hp i (zBi.1 hi)
  unfold MT;rw[e,zA3];by_cases S:(ln l:Int)<=8
  .rw[zAu S];exact ly
  .rw[zAs S];exact ly
def jD (k v:Int):Ms:=⟨14,[],[k,v],[]⟩
def FG (k v:Int):zN 271 [iA k,iA v] [] (zW (jD k v)) []:=by
 refine eM call271 λF hF=>?_
 exact nl
def RL (l:List Tk):Nat:=(l.filter λt=>!t.used).length
def bY (d:wC):Ms:=⟨20,[],[(RL d.rg.tk:Int),8-(ln d.rg.vh:Int),d.rg.ag.req-(ln d.rq:Int),d.rg.bk.level],[]⟩
theorem IF (f4:List Tk) (x:Tk):RL (f4++[x])=RL f4+(if x.used=true then 0 else 1):=by grind [RL]
def pv (d:wC) (hb:dN d) (R:0<=d.rg.ag.req) (h1:d.rg.ag.req<=1000):zN 246 [zM d] [] (zW (bY d)) []:=by
 have V:=hb.q;have S:=hb.rg.tk.n;have hv:=hb.rg.v;have I:=zA yP d.rg.tk;have A:=zA vB d.rg.vh;have z:=zA zY d.rq;unfold bY;rw[<-A,<-z];unfold zM xD;refine eM call246 λF hF=>?_
 refine WW ?_;refine zU (d.rg.tk) [1,2] [1,2] [1,2,8,9] [3,10,1,2,8,9] Z (λi f4 T U=>⟨(3,iA (RL f4))::(10,iA i)::T,U⟩) (Lq ?_ ?_)
 .intro i f4 x post hx hi;have W:=yJ yP hx hi;have C:=zX hx hi;have G:RL f4<=i:=by rw[<-hi];exact zCh _ _
  have e:=IF f4 x;clear hx
  cases u:x.used with
  |true=>
   rw[u,f5 Z,zDh]at e;rw[e];generalize RL f4=m at *;obtain⟨O,B,par,L,E,M⟩:=x;cases u;refine WW ?_;rfl
  |false=>
   rw[u,Os zA7]at e;rw[e];generalize RL f4=m at *;obtain⟨O,B,par,L,E,M⟩:=x;cases u;refine WW ?_;rfl
 .exact nl
def Yd (d:wC) (k f3:Int) (G:k≠1) (I:k≠9) (hb:dN d) (V:0<=d.rg.ag.req) (h1:d.rg.ag.req<=1000):zN 272 [zM d,iA k,iA f3] [] (zW (bY d)) []:=by
 have Y:=hb.q;have W:=hb.rg.tk.n;have hv:=hb.rg.v;have M:=zA yP d.rg.tk;have A:=zA vB d.rg.vh;have z:=zA zY d.rq;unfold bY;rw[<-A,<-z];unfold zM xD;refine eM call272 λF hF=>?_
 refine WW ?_;refine zU (d.rg.tk) [3,6] [3,6] [3,6,45,46] [10,47,3,6,45,46] Z (λi f4 T U=>⟨(10,iA (RL f4))::(47,iA i)::T,U⟩) (Lq ?_ ?_)
 .intro i f4 x post hx hi;have hy:=yJ yP hx hi;have C:=zX hx hi;have L:RL f4<=i:=by rw[<-hi];exact zCh _ _
  have e:=IF f4 x;clear hx
  cases u:x.used with
  |true=>
   rw[u,f5 Z,zDh]at e;rw[e];generalize RL f4=m at *;obtain⟨S,B,par,O,E,R⟩:=x;cases u;refine WW ?_;rfl
  |false=>
   rw[u,Os zA7]at e;rw[e];generalize RL f4=m at *;obtain⟨S,B,par,O,E,R⟩:=x;cases u;refine WW ?_;rfl
 .exact nl
def RM (d:wC) (f3:Int):Ms:=⟨13,[],[d.rg.num,f3],[]⟩
def wa (d:wC) (f3:Int):zN 272 [zM d,iA 1,iA f3] [] (zW (RM d f3)) []:=by
 unfold RM zM xD;refine eM call272 λF hF=>?_
 exact nl
def gA (l:List Rq):List Int:=(l.map λr=>[r.id,r.til]).flatten
def QD (d:wC):Ms:=⟨19,[],gA d.rq,[]⟩
def MU (f4:List Rq) (x:Rq):(gA (f4++[x])).map iA=(gA f4).map iA++[iA x.id,iA x.til]:=by simp[gA]
theorem XI:∀l:List Rq,(gA l).length=2*ln l
 | []=>rfl
 |x::l=>by
  have:=XI l
  show(x.id::x.til::gA l).length=_
  rw[zA6,zA6,zA6];omega
def Xd (d:wC) (f3:Int) (hb:dN d):zN 272 [zM d,iA 9,iA f3] [] (zW (QD d)) []:=by
 have C:=hb.q;have B:=zA zY d.rq;unfold QD zM xD;refine eM call272 λF hF=>?_
 refine WW ?_;refine gI 7 2 1001 1 Z Z Z Z Z ?_;refine zU (d.rq) [7,1001,6] [6] [6,7,26,27] [28,6,7,26,27] Z (λi f4 T U=>⟨(28,iA i)::T,(7,.box [iA 19,.s (.slice none 0 0),.ref 1001 0 ((gA f4).map iA).length,.s (.slice none 0 0)])::(1001,.arr 1 ((gA f4).map iA) true)::U⟩) (Lq ?_ ?_)
 .intro i f4 x post hx hi;have E:=yJ zY hx hi;have u:=zX hx hi;have z:=XI f4;have A:=zA iA (gA f4);have e:=MU f4 x;clear hx;rw[e];generalize (gA f4).map iA=xs at *;refine WW ?_;rfl
 ·(refine WW ?_)
  refine zH [] Z Z ?_ Z
  show AV.agg [iA 19,.sl false [],.sl false (((gA d.rq).map iA).take ((gA d.rq).map iA).length),.sl false []]=_
  rw[zAt];rfl
def nv (l:List Vh) (id:Int) (E:ln l<=1000000):zN 351 [zE vB l,iA id] [] (.tup [vB (dG l id),bA (XR l id)]) []:=by
 have hl:=zA vB l;refine eM call351 λF hF=>?_
 refine WW ?_;refine uX (l) [4] [] [1,4,8,9] [10,1,4,8,9] Z (λi f4 T U C=>(∀y∈f4,y.id≠id)/\C=⟨(10,iA i)::T,(4,.box [.s (.int .i64 0),.s (.int .i64 0)])::U⟩) (Lp ?_ ?_ ?_)
 .exact⟨by simp,rfl⟩
 .rintro i f4 x post st hx hi ⟨hp,rfl⟩;have u:=yJ vB hx hi;have B:=zX hx hi;by_cases A:x.id=id
  .obtain⟨e1,z⟩:=IE hx hp A;rw[e1,z];clear hx;exact ly
  .clear hx;refine WW ?_;exact⟨λy u=>by simp only[zBc,zBl]at u;rcases u with u|rfl;exact hp y u;exact A,rfl⟩
 .rintro st ⟨hp,rfl⟩;obtain⟨e1,z⟩:=MS hp;rw[e1,z];exact ly
def gi (l:List Rq) (q id:Int) (v:Vh) (u:Int) (x:List Lg) (f3:Int) (hv:cJ l) (C:(ln l:Int)<=q) (hb:¬((0<=v.id/\v.id<=4294967295)/\(0<=v.cls/\v.cls<=3))):
  zN 353 [zE zY l,iA q,iA id,vB v,iA u,zE yO x,iA f3] [] (.tup [zE zY [],iA 1]) []:=by
 have A:=TK l q hv C;have z:=MI v.id;have B:=Ec v.cls;by_cases h1:0<=v.id/\v.id<=4294967295
 .have h2:¬(0<=v.cls/\v.cls<=3):=λh=>hb ⟨h1,h⟩
  rw[zAu h1]at z;rw[zAs h2]at B;refine eM call353 λF hF=>?_
  exact mx (qM A z B)
 .rw[zAs h1]at z;refine eM call353 λF hF=>?_
  exact mx (xV A z)
def Wd (l:List Rq) (q id:Int) (v:Vh) (u:Int) (x:List Lg) (f3:Int) (hv:cJ l) (C:(ln l:Int)<=q) (hb:¬((0<=v.id/\v.id<=4294967295)/\(0<=v.cls/\v.cls<=3))):
  zN 293 [zE zY l,iA q,iA id,vB v,iA u,zE yO x,iA f3] [] (.tup [zE zY [],iA 1]) []:=by
 have A:=XG l q hv C;have z:=wQ v.id 0 4294967295;have B:=wQ v.cls 0 3;by_cases h1:0<=v.id/\v.id<=4294967295
 .have h2:¬(0<=v.cls/\v.cls<=3):=λh=>hb ⟨h1,h⟩
  rw[zAu h1]at z;rw[zAs h2]at B;refine eM call293 λF hF=>?_
  exact mx (qM A z B)
 .rw[zAs h1]at z;refine eM call293 λF hF=>?_
  exact mx (xV A z)
structure Qd where
 j:Int
 p:Int
 f:Int
 t:Int
def q4 (q:Qd):List Int:=[q.j,q.p,q.f,q.t]
def bE (u:List Qd):List Int:=(u.map q4).flatten
def aO (c:Cf) (f3:Int) (q:Qd):Bool:=decide (q.j<(ln c.js:Int))&&(decide (q.p<((c.js.getD q.j.toNat dd).ph.length:Int))&&EL q.j q.p q.f q.t f3)
def XS (f3:Int) (q:Qd):Lg:=GV q.j q.p q.f q.t f3
def va (v:Vh):Bool:=decide ((0<=v.id/\v.id<=4294967295)/\(0<=v.cls/\v.cls<=3))
def Hr (l:List Rq) (q id u:Int) (v:Vh) (x:List Lg):Int:=if(ln l:Int)<=q then(if va v=true then QU l q id u x else 1)else 1
def u6 (l:List Rq) (q id u f3:Int) (v:Vh) (x:List Lg):List Rq:=if Hr l q id u v x=0 then gW l (gN id v u x f3)else []
def zAc (l:List Rq) (q id:Int) (v:Vh) (u:Int) (x:List Lg) (f3:Int) (hv:cJ l) (B:0<=f3) (C:f3<=1073741824):
  zN 353 [zE zY l,iA q,iA id,vB v,iA u,zE yO x,iA f3] [] (.tup [zE zY (u6 l q id u f3 v x),iA (Hr l q id u v x)]) []:=by
 unfold u6 Hr;by_cases A:(ln l:Int)<=q
 .rw[f5 A];by_cases hb:(0<=v.id/\v.id<=4294967295)/\(0<=v.cls/\v.cls<=3)
  .have z:va v=true:=zAu hb;rw[f5 z];exact sn l q id v u x f3 hv A hb.1.1 hb.1.2 hb.2.1 hb.2.2 B C
  .have z:¬va v=true:=λh=>hb (zEj h)
   rw[Os z,Os yY];exact gi l q id v u x f3 hv A hb
 .rw[Os A,Os yY];exact Yi l q id v u x f3 hv A
def R7 (l:List Rq) (q id:Int) (v:Vh) (u:Int) (x:List Lg) (f3:Int) (hv:cJ l) (B:0<=f3) (C:f3<=1073741824) (hx:ln x<=1000):
  zN 293 [zE zY l,iA q,iA id,vB v,iA u,zE yO x,iA f3] [] (.tup [zE zY (u6 l q id u f3 v x),iA (Hr l q id u v x)]) []:=by
 unfold u6 Hr;by_cases A:(ln l:Int)<=q
 .rw[f5 A];by_cases hb:(0<=v.id/\v.id<=4294967295)/\(0<=v.cls/\v.cls<=3)
  .have z:va v=true:=zAu hb;rw[f5 z];exact Mh l q id v u x f3 hv A hb.1.1 hb.1.2 hb.2.1 hb.2.2 B C hx
  .have z:¬va v=true:=λh=>hb (zEj h)
   rw[Os z,Os yY];exact Wd l q id v u x f3 hv A hb
 .rw[Os A,Os yY];exact Md l q id v u x f3 hv A
theorem TP:∀u:List Qd,(bE u).length=4*ln u
 | []=>rfl
 |x::l=>by
  have:=TP l
  show(x.j::x.p::x.f::x.t::bE l).length=_
  simp only[zA6];omega
theorem mv (a b:List Qd):bE (a++b)=bE a++bE b:=by simp[bE]
theorem ua (x y z:Int) (f4 post:List Qd) (i:Nat) (hi:ln f4=i):(x::y::z::bE (f4++post)).drop (3+4*i)=bE post:=by grind [bE,mv,TP,List.drop_of_length_le]
def XJ {α:Type} {l:List α} {n:Nat} {r:List α} (h:l.drop n=r) (k:Nat):l[n+k]? =r[k]? :=by rw[<-h,zCz]
def Q7 (x y z:Int) (f4 post:List Qd) (q:Qd) (I:Int) (u:I=3+4*(ln f4:Int)):
  ((x::y::z::bE (f4++q::post)).map iA)[I.toNat]? =some (iA q.j)/\((x::y::z::bE (f4++q::post)).map iA)[(I+1).toNat]? =some (iA q.p)/\((x::y::z::bE (f4++q::post)).map iA)[(I+2).toNat]? =some (iA q.f)/\((x::y::z::bE (f4++q::post)).map iA)[(I+3).toNat]? =some (iA q.t):=by
 have h:=ua x y z f4 (q::post) (ln f4) Z
 refine⟨?_,?_,?_,?_⟩<;>rw[zAz]
 .rw[show I.toNat=3+4*ln f4+0 by omega,XJ h];rfl
 .rw[show(I+1).toNat=3+4*ln f4+1 by omega,XJ h];rfl
 .rw[show(I+2).toNat=3+4*ln f4+2 by omega,XJ h];rfl
 .rw[show(I+3).toNat=3+4*ln f4+3 by omega,XJ h];rfl
def j3 (x y z:Int) (f4 post:List Qd) (q:Qd) (I:Int) (u:I=3+4*(ln f4:Int)):
  (((x::y::z::bE (f4++q::post)).map iA).drop I.toNat).take ((I+4).toNat-I.toNat)=[iA q.j,iA q.p,iA q.f,iA q.t]:=by
 have h:=ua x y z f4 (q::post) (ln f4) Z;rw[<-zDn,show I.toNat=3+4*ln f4 by omega,h,show(I+4).toNat-(3+4*ln f4)=4 by omega];rfl
def qa (c:Cf) (d:wC) (z id v u f3:Int) (A:List Qd):Int:=
 if XR d.rg.vh v=true then(if z<(dG d.rg.vh v).cls then 17 else if A.all (aO c f3)=true then Hr d.rq d.rg.ag.req id u (dG d.rg.vh v) (A.map (XS f3))else 8)else 12
def Co (c:Cf) (d:wC) (z id v u f3:Int) (A:List Qd):List Rq:=
 if qa c d z id v u f3 A=0 then gW d.rq (gN id (dG d.rg.vh v) u (A.map (XS f3)) f3)else []
def Bo {α:Type} {p:α->Bool} {f4 post:List α} {x:α} (h:p x=false):¬(f4++x::post).all p=true:=by
 simp[h]
theorem bi (c:Cf) (d:wC) (id v u E f3:Int) (C:List Qd) (hb:dN d) (hv:cJ d.rq) (s0:0<=E) (s1:E<(ln d.rg.tk:Int)) (hq:ln C<=3) (hp:∀q∈C,0<=q.j/\0<=q.p) (n0:0<=f3) (n1:f3<=1073741824):
  zN 309 [wE c,zM d,zE iA (id::v::u::bE C),iA E,iA f3] [] (.tup [zE zY (Co c d (d.rg.tk.getD E.toNat dd).cls id v u f3 C),iA (qa c d (d.rg.tk.getD E.toNat dd).cls id v u f3 C)]) []:=by
 have G:=nv d.rg.vh v (by have:=hb.rg.v;omega);have a5:=zA yP d.rg.tk;have av:=yE yP d.rg.tk E s0 s1;have O:=zAc d.rq d.rg.ag.req id (dG d.rg.vh v) u (C.map (XS f3)) f3 hv n0 n1;have a3:((id::v::u::bE C).map iA).length=3+4*ln C:=by simp[TP];omega
 have a2:=zA wJ c.js;have a6:=hb.rg.tk.n;unfold Co qa;unfold wE zM xD;generalize (d.rg.tk.getD E.toNat dd)=t at *;rw[show yP t= .agg [bA t.used,zE yA t.sec,iA t.par,iA t.rights,iA t.cls,iA t.til]from Z]at av;generalize XR d.rg.vh v=ap at*
 cases ap with
 |false=>
  rw[Os zA7,Os yY];refine eM call309 λF hF=>?_
  exact ng G
 |true=>
 rw[f5 Z];generalize dG d.rg.vh v=vh at *;unfold vB at G O;by_cases R:t.cls<vh.cls
 .rw[f5 R,Os yY];refine eM call309 λF hF=>?_
  exact ng G
 rw[Os R];refine eM call309 λF hF=>?_
 refine zS G ?_;refine zQ 15 1001 5 Z Z Z ?_;refine gD (ln C) [1001,5,6,12] [5,6,12] [2,4,5,6,12] [15,16,2,4,5,6,12] Z (λzn T U zs=>∃(f4:List Qd) (post:List Qd),(C=f4++post/\zn=ln post/\f4.all (aO c f3)=true)/\zs=⟨(15,.ref 1001 0 (f4.map λq=>yO (XS f3 q)).length)::(16,iA (3+4*(ln f4:Int)))::T,(1001,.arr 5 (f4.map λq=>yO (XS f3 q)) true)::U⟩) ?_;(conv=>whnf);refine⟨?_,?_⟩
 .exact⟨[],C,⟨rfl,rfl,rfl⟩,rfl⟩
 .rintro zn st ⟨f4,post,⟨hqs,hzn,hok⟩,rfl⟩;have V:ln C=ln f4+ln post:=by rw[hqs,zAv]
  have a7:=zA (λq=>yO (XS f3 q)) f4
  cases post with
  |nil=>
   rw[zBn]at hqs;subst hqs;rw[f5 hok];rw[zBx]at V hzn;have e1:(C.map λq=>yO (XS f3 q))=(C.map (XS f3)).map yO:=by rw[zGf];rfl
   unfold u6 at O;rw[e1]at *; generalize C.map (XS f3)=ls at *;generalize Hr d.rq d.rg.ag.req id u vh ls=e at *;generalize gW d.rq (gN id vh u ls f3)=il at *;generalize hI:3+4*(ln C:Int)=I at *;rw[show(id::v::u::bE C).map iA=iA id::iA v::iA u::(bE C).map iA from Z]at *; generalize (bE C).map iA=A at *;refine WD ?_;refine wI [5,6,12] [2,4,5,6,12,15] Z ?_
   (conv=>whnf)
   simp only[zBd,zAt];exact ng O
  | cons q post=>
   have ac:=hp q (by rw[hqs];simp);obtain⟨y0,y1,y2,y3⟩:=Q7 id v u f4 post q _ Z;rw[<-hqs]at y0 y1 y2 y3;rw[zA6]at V hzn;have B:aO c f3 q=false->¬C.all (aO c f3)=true:=λh=>by rw[hqs];exact Bo h
   have z:aO c f3 q=true->(f4++[q]).all (aO c f3)=true:=λh=>by rw[List.all_append,hok,zFw,h];rfl
   have L:((f4++[q]).map λq=>yO (XS f3 q))=(f4.map λq=>yO (XS f3 q))++[yO (XS f3 q)]:=by simp
   have M:=Vf q.j q.p q.f q.t f3;rw[show aO c f3 q=(decide (q.j<(ln c.js:Int))&&(decide (q.p<((c.js.getD q.j.toNat dd).ph.length:Int))&&EL q.j q.p q.f q.t f3))from Z]at B z;generalize hA:(id::v::u::bE C).map iA=A at *;have ax:zE iA (id::v::u::bE C)= .sl false A:=by rw[<-hA];rfl
   have hI:0<=3+4*(ln f4:Int)/\3+4*(ln f4:Int)+4=3+4*((f4++[q]).length:Int)/\3+4*(ln f4:Int)+3<ln A:=⟨zB,by simp;omega,zB⟩;by_cases W:q.j<(ln c.js:Int)
   case neg=>
    rw[zAs W]at B;rw[Os (B Z),Os yY];generalize 3+4*(ln f4:Int)=I at *;clear B z M L hqs;exact ly
   have au:=yE wJ c.js q.j ac.1 W;rw[zAu W]at B z;rw[show wJ (c.js.getD q.j.toNat dd)= .agg [zE xN (c.js.getD q.j.toNat dd).ph,zE iA (c.js.getD q.j.toNat dd).cf,iA (c.js.getD q.j.toNat dd).st]from Z]at au;generalize c.js.getD q.j.toNat dd=jn at *;have a4:=zA xN jn.ph;by_cases g2:q.p<(ln jn.ph:Int)
   case neg=>
    rw[zAs g2]at B;rw[Os (B Z),Os yY];generalize 3+4*(ln f4:Int)=I at *;clear B z M L hqs;exact ly
   rw[zAu g2]at B z
   cases g3:EL q.j q.p q.f q.t f3 with
   |false=>
    rw[g3]at B M;rw[Os zA7]at M;rw[Os (B Z),Os yY];generalize 3+4*(ln f4:Int)=I at *;generalize GV q.j q.p q.f q.t f3=lg at *;clear B z L hqs;exact ng M
   |true=>
    rw[g3]at z M;rw[f5 Z]at M;have ar:=z Z;obtain⟨az,Y,a1⟩:=hI;have S:C=(f4++[q])++post:=by rw[hqs];simp
    rw[show GV q.j q.p q.f q.t f3=XS f3 q from Z]at M;generalize XS f3 q=lg at *;clear B z hqs;generalize a8:f4++[q]=pq at *;generalize (f4.map λq=>yO (XS f3 q))=xs at *;generalize 3+4*(ln f4:Int)=I at *;refine zS M ?_;exact⟨ln post,zB,pq,post,⟨S,rfl,ar⟩,by rw[L,<-Y];rfl⟩
def Ef (d:wC) (l:List Rq):wC:=⟨d.rg,l,d.dr,d.au⟩
theorem Vd (c:Cf) (d:wC) (k:Int) (R:List Int) (id v u G f3:Int) (C:List Qd) (hb:dN d) (hv:cJ d.rq) (hq:ln C<=3) (hp:∀q∈C,0<=q.j/\0<=q.p) (n0:0<=f3) (n1:f3<=1073741824):
  zN 243 [wE c,zM d,zW ⟨k,R,id::v::u::bE C,[]⟩,iA G,iA f3] [] (.tup [zM (Ef d (if qa c d G id v u f3 C=0 then Co c d G id v u f3 C else d.rq)),iA (qa c d G id v u f3 C)]) []:=by
 have L:=Ff d.rg.vh v (by have:=hb.rg.v;omega);have E:=R7 d.rq d.rg.ag.req id (dG d.rg.vh v) u (C.map (XS f3)) f3 hv n0 n1 (by rw[zAr];omega);have a4:((id::v::u::bE C).map iA).length=3+4*ln C:=by simp[TP];omega
 have a3:=zA wJ c.js;unfold Co qa Ef;unfold wE zM xD;rw[show zW ⟨k,R,id::v::u::bE C,[]⟩= .agg [iA k,zE yA R,zE iA (id::v::u::bE C),.sl false []]from Z];generalize XR d.rg.vh v=au at*
 cases au with
 |false=>
  rw[Os zA7,Os yY];refine eM call243 λF hF=>?_
  exact ng L
 |true=>
 rw[f5 Z];generalize dG d.rg.vh v=vh at *;unfold vB at L E;by_cases S:G<vh.cls
 .rw[f5 S,Os yY];refine eM call243 λF hF=>?_
  exact ng L
 rw[Os S];refine eM call243 λF hF=>?_
 refine zS L ?_;refine zQ 14 1001 5 Z Z Z ?_;refine gD (ln C) [1001,5,6,7,12,10] [5,6,7,12,10] [4,5,6,7,10,12] [14,15,4,5,6,7,10,12] Z (λzn T U zs=>∃(f4:List Qd) (post:List Qd),(C=f4++post/\zn=ln post/\f4.all (aO c f3)=true)/\zs=⟨(14,.ref 1001 0 (f4.map λq=>yO (XS f3 q)).length)::(15,iA (3+4*(ln f4:Int)))::T,(1001,.arr 5 (f4.map λq=>yO (XS f3 q)) true)::U⟩) ?_;(conv=>whnf);refine⟨?_,?_⟩
 .exact⟨[],C,⟨rfl,rfl,rfl⟩,rfl⟩
 .rintro zn st ⟨f4,post,⟨hqs,hzn,hok⟩,rfl⟩;have W:ln C=ln f4+ln post:=by rw[hqs,zAv]
  have a6:=zA (λq=>yO (XS f3 q)) f4
  cases post with
  |nil=>
   rw[zBn]at hqs;subst hqs;rw[f5 hok];rw[zBx]at W hzn;have e1:(C.map λq=>yO (XS f3 q))=(C.map (XS f3)).map yO:=by rw[zGf];rfl
   unfold u6 at E;rw[e1]at *; generalize C.map (XS f3)=ls at *;generalize Hr d.rq d.rg.ag.req id u vh ls=e at *;generalize gW d.rq (gN id vh u ls f3)=il at *;generalize hI:3+4*(ln C:Int)=I at *;rw[show(id::v::u::bE C).map iA=iA id::iA v::iA u::(bE C).map iA from Z]at *; generalize (bE C).map iA=A at *;refine WD ?_;refine wI [5,6,7,10,12] [4,5,6,7,10,12,14] Z ?_
   (conv=>whnf)
   simp only[zBd,zAt];by_cases he:e=0
   .subst he;rw[f5 Z]at E⊢;exact ng E
   .rw[Os he]at E⊢;exact ng E
  | cons q post=>
   have ap:=hp q (by rw[hqs];simp);have ar:=j3 id v u f4 post q _ Z;rw[<-hqs]at ar;rw[zA6]at W hzn;have z:aO c f3 q=false->¬C.all (aO c f3)=true:=λh=>by rw[hqs];exact Bo h
   have B:aO c f3 q=true->(f4++[q]).all (aO c f3)=true:=λh=>by rw[List.all_append,hok,zFw,h];rfl
   have M:((f4++[q]).map λq=>yO (XS f3 q))=(f4.map λq=>yO (XS f3 q))++[yO (XS f3 q)]:=by simp
   have O:=AK q.j q.p q.f q.t f3;rw[show aO c f3 q=(decide (q.j<(ln c.js:Int))&&(decide (q.p<((c.js.getD q.j.toNat dd).ph.length:Int))&&EL q.j q.p q.f q.t f3))from Z]at z B;have a2:(id::v::u::bE C).length=3+4*ln C:=by simp[TP];omega
   generalize hA:id::v::u::bE C=A at *;have hI:0<=3+4*(ln f4:Int)/\3+4*(ln f4:Int)+4=3+4*((f4++[q]).length:Int)/\3+4*(ln f4:Int)+4<=ln A:=⟨zB,by simp;omega,zB⟩
   cases g3:EL q.j q.p q.f q.t f3 with
   |false=>
    rw[g3]at z O;rw[zCp,zCp]at z;rw[Os zA7]at O;rw[Os (z Z),Os yY];generalize 3+4*(ln f4:Int)=I at *;generalize GV q.j q.p q.f q.t f3=lg at *;clear z B M hqs;exact ng O
   |true=>
   rw[g3]at B O z;rw[f5 Z]at O;by_cases Y:q.j<(ln c.js:Int)
   case neg=>
    rw[zAs Y]at z;rw[Os (z Z),Os yY];generalize 3+4*(ln f4:Int)=I at *;generalize GV q.j q.p q.f q.t f3=lg at *;clear z B M hqs;exact ng O
   have ax:=yE wJ c.js q.j ap.1 Y;rw[zAu Y]at z B;rw[show wJ (c.js.getD q.j.toNat dd)= .agg [zE xN (c.js.getD q.j.toNat dd).ph,zE iA (c.js.getD q.j.toNat dd).cf,iA (c.js.getD q.j.toNat dd).st]from Z]at ax;generalize c.js.getD q.j.toNat dd=jn at *;have a5:=zA xN jn.ph;by_cases g2:q.p<(ln jn.ph:Int)
   case neg=>
    rw[zAs g2]at z;rw[Os (z Z),Os yY];generalize 3+4*(ln f4:Int)=I at *;generalize GV q.j q.p q.f q.t f3=lg at *;clear z B M hqs;exact ng O
   rw[zAu g2]at B;have av:=B Z;obtain⟨az,ac,a1⟩:=hI;have V:C=(f4++[q])++post:=by rw[hqs];simp
   rw[show GV q.j q.p q.f q.t f3=XS f3 q from Z]at O;generalize XS f3 q=lg at *;clear z B hqs;generalize a7:f4++[q]=pq at *;generalize (f4.map λq=>yO (XS f3 q))=xs at *;generalize 3+4*(ln f4:Int)=I at *;refine zS O ?_;exact⟨ln post,zB,pq,post,⟨V,rfl,av⟩,by rw[M,<-ac];rfl⟩
def QW (n:Int) (a:Ag) (N:Nat):wC:=⟨QY n a,[],[],List.replicate N false⟩
def Z3 (n:Int) (a:Ag) (N:Nat) (hN:N=1\/N=2) (A:a.ses=(N:Int)) (E:ln a.sec<=1000000) (hl:ln a.lim<=1000000):zN 80 [iA n,uI a] [] (zM (QW n a N)) []:=by
 have z:=C3 n a E hl;unfold QW;obtain⟨u,L,C,G,M,O,I,B⟩:=a;dsimp only at A;subst A;unfold uI uQ at z;unfold uI zM xD;dsimp only at *;generalize QY n ⟨u,L,C,G,M,(N:Int),I,B⟩=r at*
 rcases hN with rfl|rfl
 all_goals
  refine eM call80 λF hF=>?_
  exact ng z
def iv (n:Int) (a:Ag) (N:Nat) (hN:N=1\/N=2) (A:a.ses=(N:Int)) (E:ln a.sec<=1000000) (hl:ln a.lim<=1000000):zN 85 [iA n,uI a] [] (zM (QW n a N)) []:=by
 have z:=Mv n a E hl;unfold QW;obtain⟨u,L,C,G,M,O,I,B⟩:=a;dsimp only at A;subst A;unfold uI uQ at z;unfold uI zM xD;dsimp only at *;generalize QY n ⟨u,L,C,G,M,(N:Int),I,B⟩=r at*
 rcases hN with rfl|rfl
 all_goals
  refine eM call85 λF hF=>?_
  exact ng z
def w2 (p:Int×Int):List Int:=[p.1,p.2]
def SD (u:List (Int×Int)):List Int:=(u.map w2).flatten
theorem OC:∀u:List (Int×Int),(SD u).length=2*ln u
 | []=>rfl
 |x::l=>by
  have:=OC l
  show(x.1::x.2::SD l).length=_
  simp only[zA6];omega
theorem Zv (a b:List (Int×Int)):SD (a++b)=SD a++SD b:=by simp[SD]
theorem Zy (x:Int) (f4 post:List (Int×Int)) (q:Int×Int) (I:Int) (u:I=1+2*(ln f4:Int)):
  ((x::SD (f4++q::post)).map iA)[I.toNat]? =some (iA q.1)/\((x::SD (f4++q::post)).map iA)[(I+1).toNat]? =some (iA q.2):=by
 have h:(x::SD (f4++q::post)).drop (1+2*ln f4)=SD (q::post):=by
  grind [SD,iA,Zv,OC,List.drop_of_length_le]
 refine⟨?_,?_⟩<;>rw[zAz]
 .rw[show I.toNat=1+2*ln f4+0 by omega,XJ h];rfl
 .rw[show(I+1).toNat=1+2*ln f4+1 by omega,XJ h];rfl
def Yy (l:List Rq) (id:Int) (u:List (Int×Int)) (f3:Int):List Rq:=if fO l id u f3=0 then ZS l id u f3 else []
def Y3 (c:Cf) (d:wC) (z:List Int) (id E f3:Int) (u:List (Int×Int)) (hv:cJ d.rq) (hw:ln u<=3) (n0:0<=f3) (n1:f3<=1073741824):
  zN 270 [wE c,zM d,zW ⟨7,z,id::SD u,[]⟩,iA E,iA f3] [] (.tup [zE zY (Yy d.rq id u f3),iA (fO d.rq id u f3)]) []:=by
 have hu:=Hm d.rq id u f3 hv zB n0 n1;have V:((id::SD u).map iA).length=1+2*ln u:=by simp[OC];omega
 unfold Yy;unfold wE zM xD;rw[show zW ⟨7,z,id::SD u,[]⟩= .agg [iA 7,zE yA z,zE iA (id::SD u),.sl false []]from Z];generalize fO d.rq id u f3=e,ZS d.rq id u f3=ul at *;refine eM call270 λF hF=>?_
 refine WW ?_;refine zQ 13 1001 2 Z Z Z ?_;refine gD (ln u) [1001,6,7] [6,7] [4,6,7,12] [13,14,4,6,7,12] Z (λO T U zs=>∃(f4:List (Int×Int)) (post:List (Int×Int)),(u=f4++post/\O=ln post)/\zs=⟨(13,.ref 1001 0 (f4.map QT).length)::(14,iA (1+2*(ln f4:Int)))::T,(1001,.arr 2 (f4.map QT) true)::U⟩) ?_;(conv=>whnf);refine⟨?_,?_⟩
 .exact⟨[],u,⟨rfl,rfl⟩,rfl⟩
 .rintro O st ⟨f4,post,⟨hqs,hzn⟩,rfl⟩;have C:ln u=ln f4+ln post:=by rw[hqs,zAv]
  have W:=zA QT f4
  cases post with
  |nil=>
   rw[zBn]at hqs;subst hqs;rw[zBx]at C hzn;generalize M:1+2*(ln u:Int)=I at *;generalize (id::SD u).map iA=A at*
   (have ga:=hu;have kj:=(⟨⟩:Su 310 [5,6,7] [58,59,60,61]);refine WW ?_;clear ga kj)
   exact zI
  |cons q post=>
   obtain⟨y0,y1⟩:=Zy id f4 post q _ Z;rw[<-hqs]at y0 y1;rw[zA6]at C hzn;have L:((f4++[q]).map QT)=f4.map QT++[.agg [iA q.1,iA q.2]]:=by simp[QT]
   have M:0<=1+2*(ln f4:Int)/\1+2*(ln f4:Int)+2=1+2*((f4++[q]).length:Int)/\1+2*(ln f4:Int)+1<((id::SD u).map iA).length:=⟨zB,by simp;omega,zB⟩;have B:u=(f4++[q])++post:=by rw[hqs];simp
   generalize (id::SD u).map iA=A at *;obtain⟨R,G,S⟩:=M;clear hqs;generalize Y:f4++[q]=pq at *;generalize f4.map QT=xs at *;generalize 1+2*(ln f4:Int)=I at *;refine WW ?_;exact⟨ln post,zB,pq,post,⟨B,rfl⟩,by rw[L,<-G];rfl⟩
def W3 (d:wC) (z:List Int) (id f3:Int) (u:List (Int×Int)) (hv:cJ d.rq) (hw:ln u<=3) (n0:0<=f3) (n1:f3<=1073741824):
  zN 244 [zM d,zW ⟨7,z,id::SD u,[]⟩,iA f3] [] (.tup [zM (Ef d (if fO d.rq id u f3=0 then Yy d.rq id u f3 else d.rq)),iA (fO d.rq id u f3)]) []:=by
 have E:=Lh d.rq id u f3 hv zB n0 n1;have W:((id::SD u).map iA).length=1+2*ln u:=by simp[OC];omega
 unfold Yy Ef;unfold zM xD;rw[show zW ⟨7,z,id::SD u,[]⟩= .agg [iA 7,zE yA z,zE iA (id::SD u),.sl false []]from Z];generalize fO d.rq id u f3=e,ZS d.rq id u f3=ul at *;refine eM call244 λF hF=>?_
 refine WW ?_;refine zQ 8 1001 2 Z Z Z ?_;refine gD (ln u) [1001,3,4,6] [3,4,6] [2,3,4,6] [8,9,2,3,4,6] Z (λR T U zs=>∃(f4:List (Int×Int)) (post:List (Int×Int)),(u=f4++post/\R=ln post)/\zs=⟨(8,.ref 1001 0 (f4.map QT).length)::(9,iA (1+2*(ln f4:Int)))::T,(1001,.arr 2 (f4.map QT) true)::U⟩) ?_;(conv=>whnf);refine⟨?_,?_⟩
 .exact⟨[],u,⟨rfl,rfl⟩,rfl⟩
 .rintro R st ⟨f4,post,⟨hqs,hzn⟩,rfl⟩;have C:ln u=ln f4+ln post:=by rw[hqs,zAv]
  have Y:=zA QT f4
  cases post with
  |nil=>
   rw[zBn]at hqs;subst hqs;rw[zBx]at C hzn;generalize M:1+2*(ln u:Int)=I at *;rw[show(id::SD u).map iA=iA id::(SD u).map iA from Z]at *; generalize (SD u).map iA=A at *;refine WD ?_;refine wI [3,4,6] [2,3,4,6,8] Z ?_
   (conv=>whnf)
   simp only[zBd,zAt];by_cases O:e=0
   .subst O;rw[f5 Z]at E⊢;exact ng E
   .rw[Os O]at E⊢;exact ng E
  |cons q post=>
   obtain⟨y0,y1⟩:=Zy id f4 post q _ Z;rw[<-hqs]at y0 y1;rw[zA6]at C hzn;have L:((f4++[q]).map QT)=f4.map QT++[.agg [iA q.1,iA q.2]]:=by simp[QT]
   have M:0<=1+2*(ln f4:Int)/\1+2*(ln f4:Int)+2=1+2*((f4++[q]).length:Int)/\1+2*(ln f4:Int)+1<((id::SD u).map iA).length:=⟨zB,by simp;omega,zB⟩;have B:u=(f4++[q])++post:=by rw[hqs];simp
   generalize (id::SD u).map iA=A at *;obtain⟨S,G,V⟩:=M;clear hqs;generalize ac:f4++[q]=pq at *;generalize f4.map QT=xs at *;generalize 1+2*(ln f4:Int)=I at *;refine WW ?_;exact⟨ln post,zB,pq,post,⟨B,rfl⟩,by rw[L,<-G];rfl⟩
def V3 (c:Cf) (d:wC) (C:List Int) (id v u z f3:Int) (B:List Qd) (hb:dN d) (hv:cJ d.rq) (M:0<=z) (O:z<(ln d.rg.tk:Int)) (G:ln B<=3) (E:∀q∈B,0<=q.j/\0<=q.p) (I:0<=f3) (L:f3<=1073741824):
  zN 270 [wE c,zM d,zW ⟨6,C,id::v::u::bE B,[]⟩,iA z,iA f3] [] (.tup [zE zY (Co c d (d.rg.tk.getD z.toNat dd).cls id v u f3 B),iA (qa c d (d.rg.tk.getD z.toNat dd).cls id v u f3 B)]) []:=by
 have h:=bi c d id v u z f3 B hb hv M O G E I L;generalize qa c d (d.rg.tk.getD z.toNat dd).cls id v u f3 B=e,Co c d (d.rg.tk.getD z.toNat dd).cls id v u f3 B=R at *;rw[show zE iA (id::v::u::bE B)= .sl false (iA id::iA v::iA u::(bE B).map iA)from Z]at h;rw[show zW ⟨6,C,id::v::u::bE B,[]⟩= .agg [iA 6,zE yA C,.sl false (iA id::iA v::iA u::(bE B).map iA),.sl false []]from Z];generalize (bE B).map iA=A at *;unfold wE zM xD at *;refine eM call270 λF hF=>?_
 exact ng h
def U3 (c:Cf) (d:wC) (u:List Int) (id z f3:Int) (hv:cJ d.rq):
  zN 270 [wE c,zM d,zW ⟨8,u,[id],[]⟩,iA z,iA f3] [] (.tup [zE zY (if kT d.rq id=true then TH d.rq id else []),iA (if kT d.rq id=true then 0 else 12)]) []:=by
 have h:=wn d.rq id hv;generalize (if kT d.rq id=true then TH d.rq id else [])=l,(if kT d.rq id=true then(0:Int)else 12)=e at *;rw[show zW ⟨8,u,[id],[]⟩= .agg [iA 8,zE yA u,.sl false [iA id],.sl false []]from Z];unfold wE zM xD at *;refine eM call270 λF hF=>?_
 exact ng h
def TQ (l:List Tk) (s:Int):zN 344 [zE yP l,iA s] [] (bA (jW l s)) []:=by
 have hl:=zA yP l;unfold jW;by_cases h1:0<=s
 .by_cases h2:s<ln l
  .have u:=yE yP l s h1 h2;rw[zAu ⟨h1,h2⟩,zA3];refine eM call344 λF hF=>?_
   exact ly
  .rw[zAs zB,zBt];refine eM call344 λF hF=>?_
   exact ly
 .rw[zAs zB,zBt];refine eM call344 λF hF=>?_
  exact ly
def Ao (g s:Int) (l:List Int) (hl:ln l<=1000000) (z:0<=g) (A:g<256) (B:0<=s) (C:s<256):zN 376 [iA g,iA s,zE yA l] [] (zE yA (g::s::l)) []:=by
 have u:=zA yA l;refine eM call376 λF hF=>?_
 refine WW ?_;exact zH [] Z Z (zBb (AV.sl false) (zA1 zV)) Z
theorem zAd (n:Int) (h:0<=n):vT n 7=n/128:=by grind [vT]
def P7:Nat->Int
 |0=>1
 |z+1=>128*P7 z
def j6 (n:Int):Int:=IntKind.u8.wrap ((BitVec.ofInt IntKind.u8.bits (IntKind.u8.wrap (jI n 127)) ||| BitVec.ofInt IntKind.u8.bits 128).toNat)
def mj:Nat->Int->List Int
 |0,n=>[n]
 |z+1,n=>if 128<=n then j6 n::mj z (n/128)else [n]
theorem FH:∀z n,(mj z n).length<=z+1
 |0,n=>zAw _
 |z+1,n=>by
  unfold mj;split
  .have:=FH z (n/128);simp only[zA6];omega
  .simp
def Yv (z:Nat) (n:Int) (h:n<128):mj z n=[n]:=by
 cases z with
 |zero=>rfl
 |succ z=>unfold mj;rw[Os zB]
def RN (n:Int):List Int:=if 0<=n/\n<=4294967295 then mj 5 n else []
def zp (n:Int):Int:=if 0<=n/\n<=4294967295 then 0 else 8
theorem aP (n:Int):(RN n).length<=6:=by grind [RN,FH]
def FI (n:Int):zN 235 [iA n] [] (.tup [zE yA (RN n),iA (zp n)]) []:=by
 unfold RN zp;by_cases h1:0<=n
 case neg=>
  rw[Os (λh=>h1 h.1),Os (λh=>h1 h.1)];refine eM call235 λF hF=>?_
  exact ly
 by_cases h2:n<=4294967295
 case neg=>
  rw[Os (λh=>h2 h.2),Os (λh=>h2 h.2)];refine eM call235 λF hF=>?_
  exact ly
 rw[f5 ⟨h1,h2⟩,f5 ⟨h1,h2⟩];refine eM call235 λF hF=>?_
 refine WW ?_;refine vO 11 Z ?_;refine gD (5) [11] [] [] [0,4] Z (λA T U R=>∃(u:List Int) (x:Int),(0<=x/\x<P7 A*128/\u++mj A x=mj 5 n/\u.length<=100)/\R=⟨(0,iA x)::(4,.ref 11 0 (u.map yA).length)::T,(11,.arr 1 (u.map yA) true)::U⟩) ?_;(conv=>whnf);refine⟨?_,?_⟩
 .exact⟨[],n,⟨h1,by show n<34359738368*128;omega,rfl,by simp⟩,rfl⟩
 .rintro A st ⟨u,x,⟨b1,b2,b3,b4⟩,rfl⟩;have O:=zA yA u;by_cases hx:128<=x
  .have V:A≠0:=λe=>by
    subst e;have:P7 0=1:=rfl;omega
   obtain⟨z,rfl⟩:∃z,A=z+1:=⟨A-1,zB⟩;have e:=zAd x b1;have L:P7 (z+1)=128*P7 z:=rfl
   have I:mj (z+1) x=j6 x::mj z (x/128):=by
    show(if 128<=x then _ else _)=_
    rw[f5 hx]
   rw[I]at b3;have G:(u++[j6 x]).map yA=u.map yA++[yA (j6 x)]:=by simp
   have C:u++[j6 x]++mj z (vT x 7)=mj 5 n:=by rw[e,zBh];exact b3
   have B:0<=vT x 7/\vT x 7<P7 z*128:=by rw[e];rw[L]at b2;omega
   have E:ln u+1<=100:=by
    have M:=zBb List.length b3;have S:=FH 5 n;simp only[zAv,zA6]at M;omega
   clear I b3 L
   (repeat' (first|refine uT ?_|apply yW|apply xI|intro hc|(apply zG;first|(apply wV;refine wM (HL Z Z) Z ?_))|fail))
   exact⟨z,zB,u++[j6 x],vT x 7,⟨B.1,B.2,C,by simpa using E⟩,by rw[G];rfl⟩
  .rw[Yv A x zB]at b3;rw[<-b3];have G:zE yA (u++[x])= .sl false ((u.map yA++[yA (x)]).take (u.map yA++[yA (x)]).length):=by rw[zAt];unfold zE;rw[zAy];rfl
   rw[G];exact ly
