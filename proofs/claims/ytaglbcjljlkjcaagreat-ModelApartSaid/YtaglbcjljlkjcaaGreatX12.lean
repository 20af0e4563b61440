/- Part 12. -/
import Derived.Test.YtaglbcjljlkjcaaGreatX11
namespace Go.Proofs.YtaglbcjljlkjcaaGreat.Av
open Tryz
set_option linter.all false
set_option maxRecDepth 4000
set_option maxHeartbeats 2000000
open List renaming length->ln,range->pb
open Inhabited renaming default->dd
variable {l:List Vh}
def bg (r:Rg) (hb:IQ r):zO 167 [uR r] [] (uR r) []:=by
 have I:=hb.s;have B:=hb.l;have C:=kU r.ag.sec zB;have E:=TL r.ag.lim zB;have G:=hb.tk.n;have hv:=hb.v;have u:=VL r.tk zB;have z:=AR r.vh zB;have A:=zA yN r.tk;refine eM call167 λF hF=>?_
 refine yJ (qM C E u) ?_;refine zN ((r.tk.map yN).length) [1001,1,2] [1,2] [1,2,22] [23,1,2,22] Z (λi T U=>⟨(23,iA i)::T,(1001,.arr 6 (dV i (r.tk.map yN)) false)::U⟩) (Lq ?_ ?_)
 .intro i hi;have hi':i<ln r.tk:=by omega
  have L:(dV i (r.tk.map yN))[i]? =some (yN (r.tk.getD i dd)):=zJ yN r.tk i hi';have e:=cH yN r.tk i hi';have u:=kU (r.tk.getD i dd).sec (by have:=hb.tk.s (r.tk.getD i dd) QZ;omega);generalize (r.tk.getD i dd)=t,dV i (r.tk.map yN)=xs,dV (i+1) (r.tk.map yN)=ys at *;subst e;refine zS u ?_;rfl
 ·(refine zS z ?_)
  exact zI [] Z Z (zBq (rgX r) zA8) Z
structure wE where
 rg:Rg
 rq:List Rq
 dr:List (List Int)
 au:List Bool
def qO (l:List Int):AV:=zE yA l
def xD (r:Rg) (a b c:AV):AV:= .agg [iA r.num,zE yA r.ag.sec,iA r.ag.rights,iA r.ag.cls,zE iA r.ag.lim,iA r.ag.req,iA r.ag.ses,iA r.ag.rate,iA r.ag.burst,zE yN r.tk,zE wX r.vh,iA r.bk.level,iA r.bk.rate,iA r.bk.burst,a,b,c]
def zM (d:wE):AV:=xD d.rg (zE zY d.rq) (zE qO d.dr) (zE bA d.au)
structure dH (d:wE):Prop where
 rg:IQ d.rg
 q:d.rq.length<=1000
 g:∀r∈d.rq,r.legs.length<=1000
 n:d.dr.length<=1000
 e:∀b∈d.dr,b.length<=1000
 a:d.au.length<=1000
def LE (l:List Rq) (hl:ln l<=1073741824):zO 168 [zE zY l] [] (.ref 1001 0 (l.map zY).length) [(1001,.arr 5 (l.map zY) false)]:=by
 have u:=zA zY l;refine eM call168 λF hF=>?_
 refine xI 0 Z (λcap z=>?_) ?_
 .have:l=[]:=by simpa using z
  subst this
  (repeat' (first|refine yf ?_|apply yW|apply xH|intro hc|fail))
  refine qH 2 1001 5 Z Z Z (xL ?_);exact zP [1001] Z Z Z Z
 .repeat' (first|(apply zG;first|refine uN tok Z Z ?_|(apply wT;refine wJ (xX tok (.inl ⟨rfl,rfl⟩) Z Z Z Z) Z ?_)|(apply yI;refine qA (nw:=[1001]) (yV tok 1001 (xs:=[]) Z Z Z Z Z Z Z Z Z) Z Z Z ?_)|(apply yE;refine vC tok Z Z Z Z Z Z Z (yM _ _ (λ_=>rfl)) Z Z Z zB Z ?_)|apply kR)|(first|apply xY|apply xR|refine uD Z ?_|refine yR Z ?_|refine yC Z ?_|refine wA Z (λhc=>?_) λhc=>?_|apply xJ|apply xL|apply xO|apply xC))
  exact zP [1001] Z Z Z Z
def LF (l:List (List Int)) (hl:ln l<=1073741824):zO 170 [zE qO l] [] (.ref 1002 0 (l.map qO).length) [(1002,.arr 1 (l.map qO) false)]:=by
 have u:=zA qO l;refine eM call170 λF hF=>?_
 refine xI 0 Z (λcap z=>?_) ?_
 .have:l=[]:=by simpa using z
  subst this
  (repeat' (first|refine yf ?_|apply yW|apply xH|intro hc|fail))
  refine qH 2 1002 1 Z Z Z (xL ?_);exact zP [1002] Z Z Z Z
 .repeat' (first|(apply zG;first|refine uN tok Z Z ?_|(apply wT;refine wJ (xX tok (.inl ⟨rfl,rfl⟩) Z Z Z Z) Z ?_)|(apply yI;refine qA (nw:=[1002]) (yV tok 1002 (xs:=[]) Z Z Z Z Z Z Z Z Z) Z Z Z ?_)|(apply yE;refine vC tok Z Z Z Z Z Z Z (yM _ _ (λ_=>rfl)) Z Z Z zB Z ?_)|apply kR)|(first|apply xY|apply xR|refine uD Z ?_|refine yR Z ?_|refine yC Z ?_|refine wA Z (λhc=>?_) λhc=>?_|apply xJ|apply xL|apply xO|apply xC))
  exact zP [1002] Z Z Z Z
def Rp (l:List Bool) (hl:ln l<=1073741824):zO 171 [zE bA l] [] (zE bA l) []:=by
 have u:=zA bA l;refine eM call171 λF hF=>?_
 refine xI 0 Z (λcap z=>?_) ?_
 .have:l=[]:=by simpa using z
  subst this;exact ly
 ·(refine WW ?_)
  refine zI [] Z Z (eJ _ _) Z
def LG (d:wE) (hb:dH d):zO 106 [zM d] [] (zM d) []:=by
 have z:=bg d.rg hb.rg;have O:=hb.q;have B:=hb.n;have A:=hb.a;have I:=LE d.rq zB;have L:=LF d.dr zB;have M:=Rp d.au zB;have E:=zA zY d.rq;have C:=zA qO d.dr;unfold zM xD;unfold uR at z;refine eM call106 λF hF=>?_
 refine yJ (xW z I) ?_;refine zN ((d.rq.map zY).length) [1001,1,2] [1,2] [1,2,15] [16,1,2,15] Z (λi T U=>⟨(16,iA i)::T,(1001,.arr 5 (dV i (d.rq.map zY)) false)::U⟩) (Lq ?_ ?_)
 .intro i hi;have hi':i<ln d.rq:=by omega
  have G:(dV i (d.rq.map zY))[i]? =some (zY (d.rq.getD i dd)):=zJ zY d.rq i hi';have e:=cH zY d.rq i hi';have u:=XF (d.rq.getD i dd).legs (hb.g (d.rq.getD i dd) QZ);generalize (d.rq.getD i dd)=t,dV i (d.rq.map zY)=xs,dV (i+1) (d.rq.map zY)=ys at *;subst e;refine zS u ?_;rfl
 ·(refine zS L ?_)
  refine zN ((d.dr.map qO).length) [1002,1,2,1001] [1,2,1001] [1,2,38] [39,1,2,38] Z (λi T U=>⟨(39,iA i)::T,(1002,.arr 1 (dV i (d.dr.map qO)) false)::U⟩) (Lq ?_ ?_)
  .intro i hi;have hi':i<ln d.dr:=by omega
   have G:(dV i (d.dr.map qO))[i]? =some (qO (d.dr.getD i dd)):=zJ qO d.dr i hi';have e:=cH qO d.dr i hi';have u:=kU (d.dr.getD i dd) (by have:=hb.e (d.dr.getD i dd) QZ;omega);generalize (d.dr.getD i dd)=t,dV i (d.dr.map qO)=xs,dV (i+1) (d.dr.map qO)=ys at *;subst e;refine zS u ?_;rfl
  ·(refine zS M ?_)
   refine zI [] Z Z ?_ Z
   show xD d.rg (.sl false ((d.rq.map zY).take (d.rq.map zY).length)) (.sl false ((d.dr.map qO).take (d.dr.map qO).length)) (zE bA d.au)=_
   rw[zA8,zA8];rfl
def kN (d:wE) (hb:dH d):zO 125 [zM d] [] (zM d) []:=by
 have z:=eI d.rg hb.rg;have O:=eK d.rq hb.q hb.g;have R:=hb.q;have B:=hb.n;have A:=hb.a;have G:=zA zY d.rq;have E:=zA qO d.dr;have C:=zA bA d.au;unfold zM xD;unfold uR at z;refine eM call125 λF hF=>?_
 refine QE (xW z O) ?_;refine zQ 4 1001 1 Z Z Z ?_;refine zU (d.dr) [1001,2,3] [2,3] [2,3,18,19] [4,20,2,3,18,19] Z (λi f4 T U=>⟨(4,.ref 1001 0 (f4.map qO).length)::(20,iA i)::T,(1001,.arr 1 (f4.map qO) true)::U⟩) (Lq ?_ ?_)
 .intro i f4 x post u hi;have V:=yG qO u hi;have I:=zW u hi;have L:(f4.map qO).length=i:=by rw[zA6,hi]
  have S:=hb.e x (yY u);have M:=zA yA x;have e:(f4++[x]).map qO=f4.map qO++[qO x]:=by simp
  clear u;rw[e];generalize f4.map qO=xs,d.dr.map qO=W at *;refine WL ?_;rfl
 ·(refine WL ?_)
  refine zI [] Z Z ?_ Z
  show xD d.rg (zE zY d.rq) (.sl false ((d.dr.map qO).take (d.dr.map qO).length)) (zE bA d.au)=_
  rw[zA8];rfl
def dK (l:List Vh) (id:Int):Vh:=(l.find? λv=>v.id==id).getD ⟨0,0⟩
def XQ (l:List Vh) (id:Int):Bool:=l.any λv=>v.id==id
def IV {f4 post:List Vh} {x:Vh} {id:Int} (h:l=f4++x::post) (u:∀y∈f4,y.id≠id) (z:x.id=id):dK l id=x/\XQ l id=true:=by grind [dK,XQ]
def LH {id:Int} (u:∀y∈l,y.id≠id):dK l id=⟨0,0⟩/\XQ l id=false:=by grind [dK,XQ,List.find?_eq_none]
def og (l:List Vh) (id:Int) (G:ln l<=1000000):zO 291 [zE wX l,iA id] [] (.tup [wX (dK l id),bA (XQ l id)]) []:=by
 have hl:=zA wX l;refine eM call291 λF hF=>?_
 refine WW ?_;refine uZ (l) [4] [] [1,4,8,9] [10,1,4,8,9] Z (λi f4 T U E=>(∀y∈f4,y.id≠id)/\E=⟨(10,iA i)::T,(4,.box [.s (.int .i64 0),.s (.int .i64 0)])::U⟩) (Lp ?_ ?_ ?_)
 .exact⟨by simp,rfl⟩
 .rintro i f4 x post st u hi ⟨hp,rfl⟩;have z:=yG wX u hi;have C:=zW u hi;by_cases B:x.id=id
  .obtain⟨e1,A⟩:=IV u hp B;rw[e1,A];clear u;exact ly
  .clear u;refine WW ?_;exact⟨λy z=>by simp only[zBs,zB1]at z;rcases z with z|rfl;exact hp y z;exact B,rfl⟩
 .rintro st ⟨hp,rfl⟩;obtain⟨e1,A⟩:=LH hp;rw[e1,A];exact ly
def qC (l:List Vh) (c:Int):Nat:=(l.filter λv=>v.cls==c).length
def Qp (l:List Vh) (c:Int) (B:ln l<=1000000):zO 368 [zE wX l,iA c] [] (iA (qC l c)) []:=by
 have hl:=zA wX l;refine eM call368 λF hF=>?_
 refine WW ?_;refine zU (l) [] [] [1,8,9] [5,10,1,8,9] Z (λi f4 T U=>⟨(5,iA (qC f4 c))::(10,iA i)::T,U⟩) (Lq ?_ ?_)
 .intro i f4 x post u hi;have C:=yG wX u hi;have A:=zW u hi;have z:qC f4 c<=i:=by rw[<-hi];exact zCw _ _
  have e:qC (f4++[x]) c=qC f4 c+(if x.cls=c then 1 else 0):=by
   unfold qC;rw[zGc,zBa];by_cases h:x.cls=c
   all_goals simp[h]
  clear u;by_cases h:x.cls=c
  .rw[zA5 h]at e;rw[e];generalize qC f4 c=m at *;refine WW ?_;rfl
  .rw[Os h,zDw]at e;rw[e];generalize qC f4 c=m at *;refine WW ?_;rfl
 .exact ly
def aC (l:List Vh) (i:Nat):Bool:=decide (0<=(l.getD i dd).id/\(l.getD i dd).id<=4294967295/\0<=(l.getD i dd).cls/\(l.getD i dd).cls<=3/\(0<i->(l.getD (i-1) dd).id<(l.getD i dd).id))
def LI (l:List Vh):Bool:=((pb (ln l)).all λi=>aC l i)&&decide ((ln l:Int)<=8)
def Pp {i:Nat} (hi:i<ln l) (h:aC l i=false):LI l=false:=by grind [aC,LI]
def RT (l:List Vh) (hn:ln l<=1000000):zO 364 [zE wX l] [] (bA (LI l)) []:=by
 have hl:=zA wX l;refine eM call364 λF hF=>?_
 refine WW ?_;refine yU (ln l) [] [] [0,5,6] [7,0,5,6] Z (λi T U zs=>(∀s:Nat,s<i->aC l s=true)/\zs=⟨(7,iA i)::T,U⟩) (Lp ?_ ?_ ?_)
 .exact⟨λs V=>absurd V (zC3 _),rfl⟩
 .rintro i st hi ⟨hp,rfl⟩
  have z:aC l i=true->∀s:Nat,s<i+1->aC l s=true:=λh s V=>by
   by_cases R:s=i
   .subst R;exact h
   .exact hp s zB
  have A:=λh=>Pp (l:=l) hi h
  have hy:=zJ wX l i hi;have u:aC l i=_:=rfl
  conv at u=>rhs;unfold aC
  by_cases C:0<i
  .have B:=yF wX l ((i:Int)-1) zB zB;rw[show((i:Int)-1).toNat=i-1 by omega]at B;have ac:(l.map wX)[((i:Int)-1).toNat]? =some (wX (l.getD (i-1) dd)):=by rw[show((i:Int)-1).toNat=i-1 by omega];exact B
   clear B;generalize l.getD i dd=t,l.getD (i-1) dd=p,aC l i=tk at *;by_cases h1:0<=t.id/\t.id<=4294967295/\0<=t.cls/\t.cls<=3/\p.id<t.id
   .obtain⟨h1,h2,M,O,Y⟩:=h1;rw[zA9 ⟨h1,h2,M,O,λ_=>Y⟩]at u;refine WW ?_;exact⟨z u,rfl⟩
   .rw[zA7 (λh=>h1 ⟨h.1,h.2.1,h.2.2.1,h.2.2.2.1,h.2.2.2.2 C⟩)]at u;rw[A u]
    by_cases E:0<=t.id<;>by_cases G:t.id<=4294967295<;>by_cases I:0<=t.cls<;>by_cases L:t.cls<=3<;>by_cases W:p.id<t.id<;>first|(exfalso;exact h1 ⟨E,G,I,L,W⟩)|(exfalso;omega;done)|(clear h1;((refine WW ?_));exact zH)
  .obtain rfl:i=0:=by omega
   generalize l.getD 0 dd=t,aC l 0=tk at *;by_cases h1:0<=t.id/\t.id<=4294967295/\0<=t.cls/\t.cls<=3
   .obtain⟨h1,h2,M,O⟩:=h1;rw[zA9 ⟨h1,h2,M,O,λh=>absurd h C⟩]at u;refine WW ?_;exact⟨z u,rfl⟩
   .rw[zA7 (λh=>h1 ⟨h.1,h.2.1,h.2.2.1,h.2.2.2.1⟩)]at u;rw[A u]
    by_cases E:0<=t.id<;>by_cases G:t.id<=4294967295<;>by_cases I:0<=t.cls<;>by_cases L:t.cls<=3<;>first|(exfalso;exact h1 ⟨E,G,I,L⟩)|(exfalso;omega;done)|(clear h1;((refine WW ?_));exact zH)
 .rintro st ⟨hp,rfl⟩;have e:((pb (ln l)).all λi=>aC l i)=true:=zBk.2 λi hi=>hp i (zBu.1 hi)
  unfold LI;rw[e,zBh];by_cases S:(ln l:Int)<=8
  .rw[zA9 S];exact ly
  .rw[zA7 S];exact ly
def jD (k v:Int):Ms:=⟨14,[],[k,v],[]⟩
def EG (k v:Int):zO 271 [iA k,iA v] [] (zX (jD k v)) []:=by
 refine eM call271 λF hF=>?_
 exact nl
def RU (l:List Tk):Nat:=(l.filter λt=>!t.used).length
def aD (d:wE):Ms:=⟨20,[],[(RU d.rg.tk:Int),8-(ln d.rg.vh:Int),d.rg.ag.req-(ln d.rq:Int),d.rg.bk.level],[]⟩
theorem IW (f4:List Tk) (x:Tk):RU (f4++[x])=RU f4+(if x.used=true then 0 else 1):=by grind [RU]
def Gv (d:wE) (hb:dH d) (S:0<=d.rg.ag.req) (h1:d.rg.ag.req<=1000):zO 246 [zM d] [] (zX (aD d)) []:=by
 have W:=hb.q;have V:=hb.rg.tk.n;have hv:=hb.rg.v;have L:=zA yN d.rg.tk;have A:=zA wX d.rg.vh;have z:=zA zY d.rq;unfold aD;rw[<-A,<-z];unfold zM xD;refine eM call246 λF hF=>?_
 refine WW ?_;refine zU (d.rg.tk) [1,2] [1,2] [1,2,8,9] [3,10,1,2,8,9] Z (λi f4 T U=>⟨(3,iA (RU f4))::(10,iA i)::T,U⟩) (Lq ?_ ?_)
 .intro i f4 x post B hi;have Y:=yG yN B hi;have E:=zW B hi;have I:RU f4<=i:=by rw[<-hi];exact zCw _ _
  have e:=IW f4 x;clear B
  cases u:x.used with
  |true=>
   rw[u,zA5 Z,zDw]at e;rw[e];generalize RU f4=m at *;obtain⟨R,C,par,M,G,O⟩:=x;cases u;refine WW ?_;rfl
  |false=>
   rw[u,Os zBm]at e;rw[e];generalize RU f4=m at *;obtain⟨R,C,par,M,G,O⟩:=x;cases u;refine WW ?_;rfl
 .exact nl
def Md (d:wE) (k f3:Int) (I:k≠1) (L:k≠9) (hb:dH d) (W:0<=d.rg.ag.req) (h1:d.rg.ag.req<=1000):zO 272 [zM d,iA k,iA f3] [] (zX (aD d)) []:=by
 have hq:=hb.q;have Y:=hb.rg.tk.n;have hv:=hb.rg.v;have O:=zA yN d.rg.tk;have A:=zA wX d.rg.vh;have z:=zA zY d.rq;unfold aD;rw[<-A,<-z];unfold zM xD;refine eM call272 λF hF=>?_
 refine WW ?_;refine zU (d.rg.tk) [3,6] [3,6] [3,6,45,46] [10,47,3,6,45,46] Z (λi f4 T U=>⟨(10,iA (RU f4))::(47,iA i)::T,U⟩) (Lq ?_ ?_)
 .intro i f4 x post B hi;have hy:=yG yN B hi;have E:=zW B hi;have M:RU f4<=i:=by rw[<-hi];exact zCw _ _
  have e:=IW f4 x;clear B
  cases u:x.used with
  |true=>
   rw[u,zA5 Z,zDw]at e;rw[e];generalize RU f4=m at *;obtain⟨V,C,par,R,G,S⟩:=x;cases u;refine WW ?_;rfl
  |false=>
   rw[u,Os zBm]at e;rw[e];generalize RU f4=m at *;obtain⟨V,C,par,R,G,S⟩:=x;cases u;refine WW ?_;rfl
 .exact nl
def RV (d:wE) (f3:Int):Ms:=⟨13,[],[d.rg.num,f3],[]⟩
def ta (d:wE) (f3:Int):zO 272 [zM d,iA 1,iA f3] [] (zX (RV d f3)) []:=by
 unfold RV zM xD;refine eM call272 λF hF=>?_
 exact nl
def gC (l:List Rq):List Int:=(l.map λr=>[r.id,r.til]).flatten
def QL (d:wE):Ms:=⟨19,[],gC d.rq,[]⟩
def LJ (f4:List Rq) (x:Rq):(gC (f4++[x])).map iA=(gC f4).map iA++[iA x.id,iA x.til]:=by simp[gC]
theorem XJ:∀l:List Rq,(gC l).length=2*ln l
 | []=>rfl
 |x::l=>by
  have:=XJ l
  show(x.id::x.til::gC l).length=_
  rw[zBl,zBl,zBl];omega
def Ld (d:wE) (f3:Int) (hb:dH d):zO 272 [zM d,iA 9,iA f3] [] (zX (QL d)) []:=by
 have E:=hb.q;have C:=zA zY d.rq;unfold QL zM xD;refine eM call272 λF hF=>?_
 refine WW ?_;refine gL 7 2 1001 1 Z Z Z Z Z ?_;refine zU (d.rq) [7,1001,6] [6] [6,7,26,27] [28,6,7,26,27] Z (λi f4 T U=>⟨(28,iA i)::T,(7,.box [iA 19,.s (.slice none 0 0),.ref 1001 0 ((gC f4).map iA).length,.s (.slice none 0 0)])::(1001,.arr 1 ((gC f4).map iA) true)::U⟩) (Lq ?_ ?_)
 .intro i f4 x post u hi;have G:=yG zY u hi;have z:=zW u hi;have A:=XJ f4;have B:=zA iA (gC f4);have e:=LJ f4 x;clear u;rw[e];generalize (gC f4).map iA=xs at *;refine WW ?_;rfl
 ·(refine WW ?_)
  refine zI [] Z Z ?_ Z
  show AV.agg [iA 19,.sl false [],.sl false (((gC d.rq).map iA).take ((gC d.rq).map iA).length),.sl false []]=_
  rw[zA8];rfl
def Fv (l:List Vh) (id:Int) (G:ln l<=1000000):zO 351 [zE wX l,iA id] [] (.tup [wX (dK l id),bA (XQ l id)]) []:=by
 have hl:=zA wX l;refine eM call351 λF hF=>?_
 refine WW ?_;refine uZ (l) [4] [] [1,4,8,9] [10,1,4,8,9] Z (λi f4 T U E=>(∀y∈f4,y.id≠id)/\E=⟨(10,iA i)::T,(4,.box [.s (.int .i64 0),.s (.int .i64 0)])::U⟩) (Lp ?_ ?_ ?_)
 .exact⟨by simp,rfl⟩
 .rintro i f4 x post st u hi ⟨hp,rfl⟩;have z:=yG wX u hi;have C:=zW u hi;by_cases B:x.id=id
  .obtain⟨e1,A⟩:=IV u hp B;rw[e1,A];clear u;exact ly
  .clear u;refine WW ?_;exact⟨λy z=>by simp only[zBs,zB1]at z;rcases z with z|rfl;exact hp y z;exact B,rfl⟩
 .rintro st ⟨hp,rfl⟩;obtain⟨e1,A⟩:=LH hp;rw[e1,A];exact ly
def Si (l:List Rq) (q id:Int) (v:Vh) (u:Int) (x:List Lg) (f3:Int) (hv:cN l) (C:(ln l:Int)<=q) (hb:¬((0<=v.id/\v.id<=4294967295)/\(0<=v.cls/\v.cls<=3))):
  zO 353 [zE zY l,iA q,iA id,wX v,iA u,zE yO x,iA f3] [] (.tup [zE zY [],iA 1]) []:=by
 have A:=UP l q hv C;have z:=NX v.id;have B:=Sc v.cls;by_cases h1:0<=v.id/\v.id<=4294967295
 .have h2:¬(0<=v.cls/\v.cls<=3):=λh=>hb ⟨h1,h⟩
  rw[zA9 h1]at z;rw[zA7 h2]at B;refine eM call353 λF hF=>?_
  exact mx (qM A z B)
 .rw[zA7 h1]at z;refine eM call353 λF hF=>?_
  exact mx (xW A z)
def Jd (l:List Rq) (q id:Int) (v:Vh) (u:Int) (x:List Lg) (f3:Int) (hv:cN l) (C:(ln l:Int)<=q) (hb:¬((0<=v.id/\v.id<=4294967295)/\(0<=v.cls/\v.cls<=3))):
  zO 293 [zE zY l,iA q,iA id,wX v,iA u,zE yO x,iA f3] [] (.tup [zE zY [],iA 1]) []:=by
 have A:=YV l q hv C;have z:=wQ v.id 0 4294967295;have B:=wQ v.cls 0 3;by_cases h1:0<=v.id/\v.id<=4294967295
 .have h2:¬(0<=v.cls/\v.cls<=3):=λh=>hb ⟨h1,h⟩
  rw[zA9 h1]at z;rw[zA7 h2]at B;refine eM call293 λF hF=>?_
  exact mx (qM A z B)
 .rw[zA7 h1]at z;refine eM call293 λF hF=>?_
  exact mx (xW A z)
structure Qd where
 j:Int
 p:Int
 f:Int
 t:Int
def q4 (q:Qd):List Int:=[q.j,q.p,q.f,q.t]
def bK (u:List Qd):List Int:=(u.map q4).flatten
def aV (c:Cf) (f3:Int) (q:Qd):Bool:=decide (q.j<(ln c.js:Int))&&(decide (q.p<((c.js.getD q.j.toNat dd).ph.length:Int))&&EX q.j q.p q.f q.t f3)
def XR (f3:Int) (q:Qd):Lg:=GO q.j q.p q.f q.t f3
def ia (v:Vh):Bool:=decide ((0<=v.id/\v.id<=4294967295)/\(0<=v.cls/\v.cls<=3))
def Cr (l:List Rq) (q id u:Int) (v:Vh) (x:List Lg):Int:=if(ln l:Int)<=q then(if ia v=true then PH l q id u x else 1)else 1
def O6 (l:List Rq) (q id u f3:Int) (v:Vh) (x:List Lg):List Rq:=if Cr l q id u v x=0 then fB l (gP id v u x f3)else []
def zAq (l:List Rq) (q id:Int) (v:Vh) (u:Int) (x:List Lg) (f3:Int) (hv:cN l) (B:0<=f3) (C:f3<=1073741824):
  zO 353 [zE zY l,iA q,iA id,wX v,iA u,zE yO x,iA f3] [] (.tup [zE zY (O6 l q id u f3 v x),iA (Cr l q id u v x)]) []:=by
 unfold O6 Cr;by_cases A:(ln l:Int)<=q
 .rw[zA5 A];by_cases hb:(0<=v.id/\v.id<=4294967295)/\(0<=v.cls/\v.cls<=3)
  .have z:ia v=true:=zA9 hb;rw[zA5 z];exact Ro l q id v u x f3 hv A hb.1.1 hb.1.2 hb.2.1 hb.2.2 B C
  .have z:¬ia v=true:=λh=>hb (zEy h)
   rw[Os z,Os xA];exact Si l q id v u x f3 hv A hb
 .rw[Os A,Os xA];exact Ki l q id v u x f3 hv A
def f8 (l:List Rq) (q id:Int) (v:Vh) (u:Int) (x:List Lg) (f3:Int) (hv:cN l) (C:0<=f3) (E:f3<=1073741824) (B:ln x<=1000):
  zO 293 [zE zY l,iA q,iA id,wX v,iA u,zE yO x,iA f3] [] (.tup [zE zY (O6 l q id u f3 v x),iA (Cr l q id u v x)]) []:=by
 unfold O6 Cr;by_cases A:(ln l:Int)<=q
 .rw[zA5 A];by_cases hb:(0<=v.id/\v.id<=4294967295)/\(0<=v.cls/\v.cls<=3)
  .have z:ia v=true:=zA9 hb;rw[zA5 z];exact mi l q id v u x f3 hv A hb.1.1 hb.1.2 hb.2.1 hb.2.2 C E B
  .have z:¬ia v=true:=λh=>hb (zEy h)
   rw[Os z,Os xA];exact Jd l q id v u x f3 hv A hb
 .rw[Os A,Os xA];exact ze l q id v u x f3 hv A
theorem TY:∀u:List Qd,(bK u).length=4*ln u
 | []=>rfl
 |x::l=>by
  have:=TY l
  show(x.j::x.p::x.f::x.t::bK l).length=_
  simp only[zBl];omega
theorem Dv (a b:List Qd):bK (a++b)=bK a++bK b:=by simp[bK]
theorem Za (x y z:Int) (f4 post:List Qd) (i:Nat) (hi:ln f4=i):(x::y::z::bK (f4++post)).drop (3+4*i)=bK post:=by grind [bK,Dv,TY,List.drop_of_length_le]
def XK {α:Type} {l:List α} {n:Nat} {r:List α} (h:l.drop n=r) (k:Nat):l[n+k]? =r[k]? :=by rw[<-h,zDe]
def d8 (x y z:Int) (f4 post:List Qd) (q:Qd) (I:Int) (u:I=3+4*(ln f4:Int)):
  ((x::y::z::bK (f4++q::post)).map iA)[I.toNat]? =some (iA q.j)/\((x::y::z::bK (f4++q::post)).map iA)[(I+1).toNat]? =some (iA q.p)/\((x::y::z::bK (f4++q::post)).map iA)[(I+2).toNat]? =some (iA q.f)/\((x::y::z::bK (f4++q::post)).map iA)[(I+3).toNat]? =some (iA q.t):=by
 have h:=Za x y z f4 (q::post) (ln f4) Z
 refine⟨?_,?_,?_,?_⟩<;>rw[zBe]
 .rw[show I.toNat=3+4*ln f4+0 by omega,XK h];rfl
 .rw[show(I+1).toNat=3+4*ln f4+1 by omega,XK h];rfl
 .rw[show(I+2).toNat=3+4*ln f4+2 by omega,XK h];rfl
 .rw[show(I+3).toNat=3+4*ln f4+3 by omega,XK h];rfl
def P4 (x y z:Int) (f4 post:List Qd) (q:Qd) (I:Int) (u:I=3+4*(ln f4:Int)):
  (((x::y::z::bK (f4++q::post)).map iA).drop I.toNat).take ((I+4).toNat-I.toNat)=[iA q.j,iA q.p,iA q.f,iA q.t]:=by
 have h:=Za x y z f4 (q::post) (ln f4) Z;rw[<-zD2,show I.toNat=3+4*ln f4 by omega,h,show(I+4).toNat-(3+4*ln f4)=4 by omega];rfl
def Ya (c:Cf) (d:wE) (z id v u f3:Int) (A:List Qd):Int:=
 if XQ d.rg.vh v=true then(if z<(dK d.rg.vh v).cls then 17 else if A.all (aV c f3)=true then Cr d.rq d.rg.ag.req id u (dK d.rg.vh v) (A.map (XR f3))else 8)else 12
def Np (c:Cf) (d:wE) (z id v u f3:Int) (A:List Qd):List Rq:=
 if Ya c d z id v u f3 A=0 then fB d.rq (gP id (dK d.rg.vh v) u (A.map (XR f3)) f3)else []
def Mp {α:Type} {p:α->Bool} {f4 post:List α} {x:α} (h:p x=false):¬(f4++x::post).all p=true:=by
 simp[h]
theorem Ri (c:Cf) (d:wE) (id v u E f3:Int) (C:List Qd) (hb:dH d) (hv:cN d.rq) (s0:0<=E) (s1:E<(ln d.rg.tk:Int)) (hq:ln C<=3) (hp:∀q∈C,0<=q.j/\0<=q.p) (n0:0<=f3) (n1:f3<=1073741824):
  zO 309 [wD c,zM d,zE iA (id::v::u::bK C),iA E,iA f3] [] (.tup [zE zY (Np c d (d.rg.tk.getD E.toNat dd).cls id v u f3 C),iA (Ya c d (d.rg.tk.getD E.toNat dd).cls id v u f3 C)]) []:=by
 have G:=Fv d.rg.vh v (by have:=hb.rg.v;omega);have a5:=zA yN d.rg.tk;have av:=yF yN d.rg.tk E s0 s1;have O:=zAq d.rq d.rg.ag.req id (dK d.rg.vh v) u (C.map (XR f3)) f3 hv n0 n1;have a3:((id::v::u::bK C).map iA).length=3+4*ln C:=by simp[TY];omega
 have a2:=zA wK c.js;have a6:=hb.rg.tk.n;unfold Np Ya;unfold wD zM xD;generalize (d.rg.tk.getD E.toNat dd)=t at *;rw[show yN t= .agg [bA t.used,zE yA t.sec,iA t.par,iA t.rights,iA t.cls,iA t.til]from Z]at av;generalize XQ d.rg.vh v=ap at*
 cases ap with
 |false=>
  rw[Os zBm,Os xA];refine eM call309 λF hF=>?_
  exact ng G
 |true=>
 rw[zA5 Z];generalize dK d.rg.vh v=vh at *;unfold wX at G O;by_cases R:t.cls<vh.cls
 .rw[zA5 R,Os xA];refine eM call309 λF hF=>?_
  exact ng G
 rw[Os R];refine eM call309 λF hF=>?_
 refine zS G ?_;refine zQ 15 1001 5 Z Z Z ?_;refine gE (ln C) [1001,5,6,12] [5,6,12] [2,4,5,6,12] [15,16,2,4,5,6,12] Z (λzn T U zs=>∃(f4:List Qd) (post:List Qd),(C=f4++post/\zn=ln post/\f4.all (aV c f3)=true)/\zs=⟨(15,.ref 1001 0 (f4.map λq=>yO (XR f3 q)).length)::(16,iA (3+4*(ln f4:Int)))::T,(1001,.arr 5 (f4.map λq=>yO (XR f3 q)) true)::U⟩) ?_;(conv=>whnf);refine⟨?_,?_⟩
 .exact⟨[],C,⟨rfl,rfl,rfl⟩,rfl⟩
 .rintro zn st ⟨f4,post,⟨hqs,hzn,hok⟩,rfl⟩;have V:ln C=ln f4+ln post:=by rw[hqs,zBa]
  have a7:=zA (λq=>yO (XR f3 q)) f4
  cases post with
  |nil=>
   rw[zB0]at hqs;subst hqs;rw[zA5 hok];rw[zCd]at V hzn;have e1:(C.map λq=>yO (XR f3 q))=(C.map (XR f3)).map yO:=by rw[zGy];rfl
   unfold O6 at O;rw[e1]at *; generalize C.map (XR f3)=ls at *;generalize Cr d.rq d.rg.ag.req id u vh ls=e at *;generalize fB d.rq (gP id vh u ls f3)=il at *;generalize hI:3+4*(ln C:Int)=I at *;rw[show(id::v::u::bK C).map iA=iA id::iA v::iA u::(bK C).map iA from Z]at *; generalize (bK C).map iA=A at *;refine WD ?_;refine wB [5,6,12] [2,4,5,6,12,15] Z ?_
   (conv=>whnf)
   simp only[zBr,zA8];exact ng O
  | cons q post=>
   have ac:=hp q (by rw[hqs];simp);obtain⟨y0,y1,y2,y3⟩:=d8 id v u f4 post q _ Z;rw[<-hqs]at y0 y1 y2 y3;rw[zBl]at V hzn;have B:aV c f3 q=false->¬C.all (aV c f3)=true:=λh=>by rw[hqs];exact Mp h
   have z:aV c f3 q=true->(f4++[q]).all (aV c f3)=true:=λh=>by rw[List.all_append,hok,zFq,h];rfl
   have L:((f4++[q]).map λq=>yO (XR f3 q))=(f4.map λq=>yO (XR f3 q))++[yO (XR f3 q)]:=by simp
   have M:=vf q.j q.p q.f q.t f3;rw[show aV c f3 q=(decide (q.j<(ln c.js:Int))&&(decide (q.p<((c.js.getD q.j.toNat dd).ph.length:Int))&&EX q.j q.p q.f q.t f3))from Z]at B z;generalize hA:(id::v::u::bK C).map iA=A at *;have ax:zE iA (id::v::u::bK C)= .sl false A:=by rw[<-hA];rfl
   have hI:0<=3+4*(ln f4:Int)/\3+4*(ln f4:Int)+4=3+4*((f4++[q]).length:Int)/\3+4*(ln f4:Int)+3<ln A:=⟨zB,by simp;omega,zB⟩;by_cases W:q.j<(ln c.js:Int)
   case neg=>
    rw[zA7 W]at B;rw[Os (B Z),Os xA];generalize 3+4*(ln f4:Int)=I at *;clear B z M L hqs;exact ly
   have au:=yF wK c.js q.j ac.1 W;rw[zA9 W]at B z;rw[show wK (c.js.getD q.j.toNat dd)= .agg [zE xN (c.js.getD q.j.toNat dd).ph,zE iA (c.js.getD q.j.toNat dd).cf,iA (c.js.getD q.j.toNat dd).st]from Z]at au;generalize c.js.getD q.j.toNat dd=jn at *;have a4:=zA xN jn.ph;by_cases g2:q.p<(ln jn.ph:Int)
   case neg=>
    rw[zA7 g2]at B;rw[Os (B Z),Os xA];generalize 3+4*(ln f4:Int)=I at *;clear B z M L hqs;exact ly
   rw[zA9 g2]at B z
   cases g3:EX q.j q.p q.f q.t f3 with
   |false=>
    rw[g3]at B M;rw[Os zBm]at M;rw[Os (B Z),Os xA];generalize 3+4*(ln f4:Int)=I at *;generalize GO q.j q.p q.f q.t f3=lg at *;clear B z L hqs;exact ng M
   |true=>
    rw[g3]at z M;rw[zA5 Z]at M;have ar:=z Z;obtain⟨az,Y,a1⟩:=hI;have S:C=(f4++[q])++post:=by rw[hqs];simp
    rw[show GO q.j q.p q.f q.t f3=XR f3 q from Z]at M;generalize XR f3 q=lg at *;clear B z hqs;generalize a8:f4++[q]=pq at *;generalize (f4.map λq=>yO (XR f3 q))=xs at *;generalize 3+4*(ln f4:Int)=I at *;refine zS M ?_;exact⟨ln post,zB,pq,post,⟨S,rfl,ar⟩,by rw[L,<-Y];rfl⟩
def mg (d:wE) (l:List Rq):wE:=⟨d.rg,l,d.dr,d.au⟩
theorem Id (c:Cf) (d:wE) (k:Int) (R:List Int) (id v u G f3:Int) (C:List Qd) (hb:dH d) (hv:cN d.rq) (hq:ln C<=3) (hp:∀q∈C,0<=q.j/\0<=q.p) (n0:0<=f3) (n1:f3<=1073741824):
  zO 243 [wD c,zM d,zX ⟨k,R,id::v::u::bK C,[]⟩,iA G,iA f3] [] (.tup [zM (mg d (if Ya c d G id v u f3 C=0 then Np c d G id v u f3 C else d.rq)),iA (Ya c d G id v u f3 C)]) []:=by
 have L:=og d.rg.vh v (by have:=hb.rg.v;omega);have E:=f8 d.rq d.rg.ag.req id (dK d.rg.vh v) u (C.map (XR f3)) f3 hv n0 n1 (by rw[zA6];omega);have a4:((id::v::u::bK C).map iA).length=3+4*ln C:=by simp[TY];omega
 have a3:=zA wK c.js;unfold Np Ya mg;unfold wD zM xD;rw[show zX ⟨k,R,id::v::u::bK C,[]⟩= .agg [iA k,zE yA R,zE iA (id::v::u::bK C),.sl false []]from Z];generalize XQ d.rg.vh v=au at*
 cases au with
 |false=>
  rw[Os zBm,Os xA];refine eM call243 λF hF=>?_
  exact ng L
 |true=>
 rw[zA5 Z];generalize dK d.rg.vh v=vh at *;unfold wX at L E;by_cases S:G<vh.cls
 .rw[zA5 S,Os xA];refine eM call243 λF hF=>?_
  exact ng L
 rw[Os S];refine eM call243 λF hF=>?_
 refine zS L ?_;refine zQ 14 1001 5 Z Z Z ?_;refine gE (ln C) [1001,5,6,7,12,10] [5,6,7,12,10] [4,5,6,7,10,12] [14,15,4,5,6,7,10,12] Z (λzn T U zs=>∃(f4:List Qd) (post:List Qd),(C=f4++post/\zn=ln post/\f4.all (aV c f3)=true)/\zs=⟨(14,.ref 1001 0 (f4.map λq=>yO (XR f3 q)).length)::(15,iA (3+4*(ln f4:Int)))::T,(1001,.arr 5 (f4.map λq=>yO (XR f3 q)) true)::U⟩) ?_;(conv=>whnf);refine⟨?_,?_⟩
 .exact⟨[],C,⟨rfl,rfl,rfl⟩,rfl⟩
 .rintro zn st ⟨f4,post,⟨hqs,hzn,hok⟩,rfl⟩;have W:ln C=ln f4+ln post:=by rw[hqs,zBa]
  have a6:=zA (λq=>yO (XR f3 q)) f4
  cases post with
  |nil=>
   rw[zB0]at hqs;subst hqs;rw[zA5 hok];rw[zCd]at W hzn;have e1:(C.map λq=>yO (XR f3 q))=(C.map (XR f3)).map yO:=by rw[zGy];rfl
   unfold O6 at E;rw[e1]at *; generalize C.map (XR f3)=ls at *;generalize Cr d.rq d.rg.ag.req id u vh ls=e at *;generalize fB d.rq (gP id vh u ls f3)=il at *;generalize hI:3+4*(ln C:Int)=I at *;rw[show(id::v::u::bK C).map iA=iA id::iA v::iA u::(bK C).map iA from Z]at *; generalize (bK C).map iA=A at *;refine WD ?_;refine wB [5,6,7,10,12] [4,5,6,7,10,12,14] Z ?_
   (conv=>whnf)
   simp only[zBr,zA8];by_cases he:e=0
   .subst he;rw[zA5 Z]at E⊢;exact ng E
   .rw[Os he]at E⊢;exact ng E
  | cons q post=>
   have ap:=hp q (by rw[hqs];simp);have ar:=P4 id v u f4 post q _ Z;rw[<-hqs]at ar;rw[zBl]at W hzn;have z:aV c f3 q=false->¬C.all (aV c f3)=true:=λh=>by rw[hqs];exact Mp h
   have B:aV c f3 q=true->(f4++[q]).all (aV c f3)=true:=λh=>by rw[List.all_append,hok,zFq,h];rfl
   have M:((f4++[q]).map λq=>yO (XR f3 q))=(f4.map λq=>yO (XR f3 q))++[yO (XR f3 q)]:=by simp
   have O:=BF q.j q.p q.f q.t f3;rw[show aV c f3 q=(decide (q.j<(ln c.js:Int))&&(decide (q.p<((c.js.getD q.j.toNat dd).ph.length:Int))&&EX q.j q.p q.f q.t f3))from Z]at z B;have a2:(id::v::u::bK C).length=3+4*ln C:=by simp[TY];omega
   generalize hA:id::v::u::bK C=A at *;have hI:0<=3+4*(ln f4:Int)/\3+4*(ln f4:Int)+4=3+4*((f4++[q]).length:Int)/\3+4*(ln f4:Int)+4<=ln A:=⟨zB,by simp;omega,zB⟩
   cases g3:EX q.j q.p q.f q.t f3 with
   |false=>
    rw[g3]at z O;rw[zC6,zC6]at z;rw[Os zBm]at O;rw[Os (z Z),Os xA];generalize 3+4*(ln f4:Int)=I at *;generalize GO q.j q.p q.f q.t f3=lg at *;clear z B M hqs;exact ng O
   |true=>
   rw[g3]at B O z;rw[zA5 Z]at O;by_cases Y:q.j<(ln c.js:Int)
   case neg=>
    rw[zA7 Y]at z;rw[Os (z Z),Os xA];generalize 3+4*(ln f4:Int)=I at *;generalize GO q.j q.p q.f q.t f3=lg at *;clear z B M hqs;exact ng O
   have ax:=yF wK c.js q.j ap.1 Y;rw[zA9 Y]at z B;rw[show wK (c.js.getD q.j.toNat dd)= .agg [zE xN (c.js.getD q.j.toNat dd).ph,zE iA (c.js.getD q.j.toNat dd).cf,iA (c.js.getD q.j.toNat dd).st]from Z]at ax;generalize c.js.getD q.j.toNat dd=jn at *;have a5:=zA xN jn.ph;by_cases g2:q.p<(ln jn.ph:Int)
   case neg=>
    rw[zA7 g2]at z;rw[Os (z Z),Os xA];generalize 3+4*(ln f4:Int)=I at *;generalize GO q.j q.p q.f q.t f3=lg at *;clear z B M hqs;exact ng O
   rw[zA9 g2]at B;have av:=B Z;obtain⟨az,ac,a1⟩:=hI;have V:C=(f4++[q])++post:=by rw[hqs];simp
   rw[show GO q.j q.p q.f q.t f3=XR f3 q from Z]at O;generalize XR f3 q=lg at *;clear z B hqs;generalize a7:f4++[q]=pq at *;generalize (f4.map λq=>yO (XR f3 q))=xs at *;generalize 3+4*(ln f4:Int)=I at *;refine zS O ?_;exact⟨ln post,zB,pq,post,⟨V,rfl,av⟩,by rw[M,<-ac];rfl⟩
def PJ (n:Int) (a:Ag) (N:Nat):wE:=⟨PF n a,[],[],List.replicate N false⟩
def O4 (n:Int) (a:Ag) (N:Nat) (hN:N=1\/N=2) (A:a.ses=(N:Int)) (E:ln a.sec<=1000000) (hl:ln a.lim<=1000000):zO 80 [iA n,vP a] [] (zM (PJ n a N)) []:=by
 have z:=S3 n a E hl;unfold PJ;obtain⟨u,L,C,G,M,O,I,B⟩:=a;dsimp only at A;subst A;unfold vP uR at z;unfold vP zM xD;dsimp only at *;generalize PF n ⟨u,L,C,G,M,(N:Int),I,B⟩=r at*
 rcases hN with rfl|rfl
 all_goals
  refine eM call80 λF hF=>?_
  exact ng z
def Cv (n:Int) (a:Ag) (N:Nat) (hN:N=1\/N=2) (A:a.ses=(N:Int)) (E:ln a.sec<=1000000) (hl:ln a.lim<=1000000):zO 85 [iA n,vP a] [] (zM (PJ n a N)) []:=by
 have z:=Hu n a E hl;unfold PJ;obtain⟨u,L,C,G,M,O,I,B⟩:=a;dsimp only at A;subst A;unfold vP uR at z;unfold vP zM xD;dsimp only at *;generalize PF n ⟨u,L,C,G,M,(N:Int),I,B⟩=r at*
 rcases hN with rfl|rfl
 all_goals
  refine eM call85 λF hF=>?_
  exact ng z
def w2 (p:Int×Int):List Int:=[p.1,p.2]
def SH (u:List (Int×Int)):List Int:=(u.map w2).flatten
theorem ON:∀u:List (Int×Int),(SH u).length=2*ln u
 | []=>rfl
 |x::l=>by
  have:=ON l
  show(x.1::x.2::SH l).length=_
  simp only[zBl];omega
theorem Bv (a b:List (Int×Int)):SH (a++b)=SH a++SH b:=by simp[SH]
theorem Gy (x:Int) (f4 post:List (Int×Int)) (q:Int×Int) (I:Int) (u:I=1+2*(ln f4:Int)):
  ((x::SH (f4++q::post)).map iA)[I.toNat]? =some (iA q.1)/\((x::SH (f4++q::post)).map iA)[(I+1).toNat]? =some (iA q.2):=by
 have h:(x::SH (f4++q::post)).drop (1+2*ln f4)=SH (q::post):=by
  grind [SH,iA,Bv,ON,List.drop_of_length_le]
 refine⟨?_,?_⟩<;>rw[zBe]
 .rw[show I.toNat=1+2*ln f4+0 by omega,XK h];rfl
 .rw[show(I+1).toNat=1+2*ln f4+1 by omega,XK h];rfl
def Fy (l:List Rq) (id:Int) (u:List (Int×Int)) (f3:Int):List Rq:=if fV l id u f3=0 then YF l id u f3 else []
def N4 (c:Cf) (d:wE) (z:List Int) (id E f3:Int) (u:List (Int×Int)) (hv:cN d.rq) (hw:ln u<=3) (n0:0<=f3) (n1:f3<=1073741824):
  zO 270 [wD c,zM d,zX ⟨7,z,id::SH u,[]⟩,iA E,iA f3] [] (.tup [zE zY (Fy d.rq id u f3),iA (fV d.rq id u f3)]) []:=by
 have hu:=Ao d.rq id u f3 hv zB n0 n1;have V:((id::SH u).map iA).length=1+2*ln u:=by simp[ON];omega
 unfold Fy;unfold wD zM xD;rw[show zX ⟨7,z,id::SH u,[]⟩= .agg [iA 7,zE yA z,zE iA (id::SH u),.sl false []]from Z];generalize fV d.rq id u f3=e,YF d.rq id u f3=ul at *;refine eM call270 λF hF=>?_
 refine WW ?_;refine zQ 13 1001 2 Z Z Z ?_;refine gE (ln u) [1001,6,7] [6,7] [4,6,7,12] [13,14,4,6,7,12] Z (λO T U zs=>∃(f4:List (Int×Int)) (post:List (Int×Int)),(u=f4++post/\O=ln post)/\zs=⟨(13,.ref 1001 0 (f4.map PI).length)::(14,iA (1+2*(ln f4:Int)))::T,(1001,.arr 2 (f4.map PI) true)::U⟩) ?_;(conv=>whnf);refine⟨?_,?_⟩
 .exact⟨[],u,⟨rfl,rfl⟩,rfl⟩
 .rintro O st ⟨f4,post,⟨hqs,hzn⟩,rfl⟩;have C:ln u=ln f4+ln post:=by rw[hqs,zBa]
  have W:=zA PI f4
  cases post with
  |nil=>
   rw[zB0]at hqs;subst hqs;rw[zCd]at C hzn;generalize M:1+2*(ln u:Int)=I at *;generalize (id::SH u).map iA=A at*
   (have ga:=hu;have kh:=(⟨⟩:yu 310 [5,6,7] [58,59,60,61]);refine WW ?_;clear ga kh)
   exact zH
  |cons q post=>
   obtain⟨y0,y1⟩:=Gy id f4 post q _ Z;rw[<-hqs]at y0 y1;rw[zBl]at C hzn;have L:((f4++[q]).map PI)=f4.map PI++[.agg [iA q.1,iA q.2]]:=by simp[PI]
   have M:0<=1+2*(ln f4:Int)/\1+2*(ln f4:Int)+2=1+2*((f4++[q]).length:Int)/\1+2*(ln f4:Int)+1<((id::SH u).map iA).length:=⟨zB,by simp;omega,zB⟩;have B:u=(f4++[q])++post:=by rw[hqs];simp
   generalize (id::SH u).map iA=A at *;obtain⟨R,G,S⟩:=M;clear hqs;generalize Y:f4++[q]=pq at *;generalize f4.map PI=xs at *;generalize 1+2*(ln f4:Int)=I at *;refine WW ?_;exact⟨ln post,zB,pq,post,⟨B,rfl⟩,by rw[L,<-G];rfl⟩
def M4 (d:wE) (z:List Int) (id f3:Int) (u:List (Int×Int)) (hv:cN d.rq) (hw:ln u<=3) (n0:0<=f3) (n1:f3<=1073741824):
  zO 244 [zM d,zX ⟨7,z,id::SH u,[]⟩,iA f3] [] (.tup [zM (mg d (if fV d.rq id u f3=0 then Fy d.rq id u f3 else d.rq)),iA (fV d.rq id u f3)]) []:=by
 have E:=ii d.rq id u f3 hv zB n0 n1;have W:((id::SH u).map iA).length=1+2*ln u:=by simp[ON];omega
 unfold Fy mg;unfold zM xD;rw[show zX ⟨7,z,id::SH u,[]⟩= .agg [iA 7,zE yA z,zE iA (id::SH u),.sl false []]from Z];generalize fV d.rq id u f3=e,YF d.rq id u f3=ul at *;refine eM call244 λF hF=>?_
 refine WW ?_;refine zQ 8 1001 2 Z Z Z ?_;refine gE (ln u) [1001,3,4,6] [3,4,6] [2,3,4,6] [8,9,2,3,4,6] Z (λR T U zs=>∃(f4:List (Int×Int)) (post:List (Int×Int)),(u=f4++post/\R=ln post)/\zs=⟨(8,.ref 1001 0 (f4.map PI).length)::(9,iA (1+2*(ln f4:Int)))::T,(1001,.arr 2 (f4.map PI) true)::U⟩) ?_;(conv=>whnf);refine⟨?_,?_⟩
 .exact⟨[],u,⟨rfl,rfl⟩,rfl⟩
 .rintro R st ⟨f4,post,⟨hqs,hzn⟩,rfl⟩;have C:ln u=ln f4+ln post:=by rw[hqs,zBa]
  have Y:=zA PI f4
  cases post with
  |nil=>
   rw[zB0]at hqs;subst hqs;rw[zCd]at C hzn;generalize M:1+2*(ln u:Int)=I at *;rw[show(id::SH u).map iA=iA id::(SH u).map iA from Z]at *; generalize (SH u).map iA=A at *;refine WD ?_;refine wB [3,4,6] [2,3,4,6,8] Z ?_
   (conv=>whnf)
   simp only[zBr,zA8];by_cases O:e=0
   .subst O;rw[zA5 Z]at E⊢;exact ng E
   .rw[Os O]at E⊢;exact ng E
  |cons q post=>
   obtain⟨y0,y1⟩:=Gy id f4 post q _ Z;rw[<-hqs]at y0 y1;rw[zBl]at C hzn;have L:((f4++[q]).map PI)=f4.map PI++[.agg [iA q.1,iA q.2]]:=by simp[PI]
   have M:0<=1+2*(ln f4:Int)/\1+2*(ln f4:Int)+2=1+2*((f4++[q]).length:Int)/\1+2*(ln f4:Int)+1<((id::SH u).map iA).length:=⟨zB,by simp;omega,zB⟩;have B:u=(f4++[q])++post:=by rw[hqs];simp
   generalize (id::SH u).map iA=A at *;obtain⟨S,G,V⟩:=M;clear hqs;generalize ac:f4++[q]=pq at *;generalize f4.map PI=xs at *;generalize 1+2*(ln f4:Int)=I at *;refine WW ?_;exact⟨ln post,zB,pq,post,⟨B,rfl⟩,by rw[L,<-G];rfl⟩
def L4 (c:Cf) (d:wE) (C:List Int) (id v u z f3:Int) (B:List Qd) (hb:dH d) (hv:cN d.rq) (M:0<=z) (O:z<(ln d.rg.tk:Int)) (G:ln B<=3) (E:∀q∈B,0<=q.j/\0<=q.p) (I:0<=f3) (L:f3<=1073741824):
  zO 270 [wD c,zM d,zX ⟨6,C,id::v::u::bK B,[]⟩,iA z,iA f3] [] (.tup [zE zY (Np c d (d.rg.tk.getD z.toNat dd).cls id v u f3 B),iA (Ya c d (d.rg.tk.getD z.toNat dd).cls id v u f3 B)]) []:=by
 have h:=Ri c d id v u z f3 B hb hv M O G E I L;generalize Ya c d (d.rg.tk.getD z.toNat dd).cls id v u f3 B=e,Np c d (d.rg.tk.getD z.toNat dd).cls id v u f3 B=R at *;rw[show zE iA (id::v::u::bK B)= .sl false (iA id::iA v::iA u::(bK B).map iA)from Z]at h;rw[show zX ⟨6,C,id::v::u::bK B,[]⟩= .agg [iA 6,zE yA C,.sl false (iA id::iA v::iA u::(bK B).map iA),.sl false []]from Z];generalize (bK B).map iA=A at *;unfold wD zM xD at *;refine eM call270 λF hF=>?_
 exact ng h
def K4 (c:Cf) (d:wE) (u:List Int) (id z f3:Int) (hv:cN d.rq):
  zO 270 [wD c,zM d,zX ⟨8,u,[id],[]⟩,iA z,iA f3] [] (.tup [zE zY (if kV d.rq id=true then TP d.rq id else []),iA (if kV d.rq id=true then 0 else 12)]) []:=by
 have h:=Yo d.rq id hv;generalize (if kV d.rq id=true then TP d.rq id else [])=l,(if kV d.rq id=true then(0:Int)else 12)=e at *;rw[show zX ⟨8,u,[id],[]⟩= .agg [iA 8,zE yA u,.sl false [iA id],.sl false []]from Z];unfold wD zM xD at *;refine eM call270 λF hF=>?_
 exact ng h
def TZ (l:List Tk) (s:Int):zO 344 [zE yN l,iA s] [] (bA (jZ l s)) []:=by
 have hl:=zA yN l;unfold jZ;by_cases h1:0<=s
 .by_cases h2:s<ln l
  .have u:=yF yN l s h1 h2;rw[zA9 ⟨h1,h2⟩,zBh];refine eM call344 λF hF=>?_
   exact ly
  .rw[zA7 zB,zB8];refine eM call344 λF hF=>?_
   exact ly
 .rw[zA7 zB,zB8];refine eM call344 λF hF=>?_
  exact ly
def Kp (g s:Int) (l:List Int) (hl:ln l<=1000000) (z:0<=g) (A:g<256) (B:0<=s) (C:s<256):zO 376 [iA g,iA s,zE yA l] [] (zE yA (g::s::l)) []:=by
 have u:=zA yA l;refine eM call376 λF hF=>?_
 refine WW ?_;exact zI [] Z Z (zBq (AV.sl false) (zBf zV)) Z
theorem zAr (n:Int) (h:0<=n):vX n 7=n/128:=by grind [vX]
def P7:Nat->Int
 |0=>1
 |z+1=>128*P7 z
def N6 (n:Int):Int:=IntKind.u8.wrap ((BitVec.ofInt IntKind.u8.bits (IntKind.u8.wrap (jF n 127)) ||| BitVec.ofInt IntKind.u8.bits 128).toNat)
def Uj:Nat->Int->List Int
 |0,n=>[n]
 |z+1,n=>if 128<=n then N6 n::Uj z (n/128)else [n]
theorem EH:∀z n,(Uj z n).length<=z+1
 |0,n=>zBb _
 |z+1,n=>by
  unfold Uj;split
  .have:=EH z (n/128);simp only[zBl];omega
  .simp
def zw (z:Nat) (n:Int) (h:n<128):Uj z n=[n]:=by
 cases z with
 |zero=>rfl
 |succ z=>unfold Uj;rw[Os zB]
def RW (n:Int):List Int:=if 0<=n/\n<=4294967295 then Uj 5 n else []
def Jp (n:Int):Int:=if 0<=n/\n<=4294967295 then 0 else 8
theorem aW (n:Int):(RW n).length<=6:=by grind [RW,EH]
def EJ (n:Int):zO 235 [iA n] [] (.tup [zE yA (RW n),iA (Jp n)]) []:=by
 unfold RW Jp;by_cases h1:0<=n
 case neg=>
  rw[Os (λh=>h1 h.1),Os (λh=>h1 h.1)];refine eM call235 λF hF=>?_
  exact ly
 by_cases h2:n<=4294967295
 case neg=>
  rw[Os (λh=>h2 h.2),Os (λh=>h2 h.2)];refine eM call235 λF hF=>?_
  exact ly
 rw[zA5 ⟨h1,h2⟩,zA5 ⟨h1,h2⟩];refine eM call235 λF hF=>?_
 refine WW ?_;refine vQ 11 Z ?_;refine gE (5) [11] [] [] [0,4] Z (λA T U S=>∃(u:List Int) (x:Int),(0<=x/\x<P7 A*128/\u++Uj A x=Uj 5 n/\u.length<=100)/\S=⟨(0,iA x)::(4,.ref 11 0 (u.map yA).length)::T,(11,.arr 1 (u.map yA) true)::U⟩) ?_;(conv=>whnf);refine⟨?_,?_⟩
 .exact⟨[],n,⟨h1,by show n<34359738368*128;omega,rfl,by simp⟩,rfl⟩
 .rintro A st ⟨u,x,⟨b1,b2,b3,b4⟩,rfl⟩;have O:=zA yA u;by_cases R:128<=x
  .have W:A≠0:=λe=>by
    subst e;have:P7 0=1:=rfl;omega
   obtain⟨z,rfl⟩:∃z,A=z+1:=⟨A-1,zB⟩;have e:=zAr x b1;have L:P7 (z+1)=128*P7 z:=rfl
   have I:Uj (z+1) x=N6 x::Uj z (x/128):=by
    show(if 128<=x then _ else _)=_
    rw[zA5 R]
   rw[I]at b3;have G:(u++[N6 x]).map yA=u.map yA++[yA (N6 x)]:=by simp
   have C:u++[N6 x]++Uj z (vX x 7)=Uj 5 n:=by rw[e,zBy];exact b3
   have B:0<=vX x 7/\vX x 7<P7 z*128:=by rw[e];rw[L]at b2;omega
   have E:ln u+1<=100:=by
    have M:=zBq List.length b3;have V:=EH 5 n;simp only[zBa,zBl]at M;omega
   clear I b3 L
   (repeat' (first|refine uT ?_|apply yW|apply xH|intro hc|(apply zG;first|(apply wT;refine wJ (FC Z Z) Z ?_))|fail))
   exact⟨z,zB,u++[N6 x],vX x 7,⟨B.1,B.2,C,by simpa using E⟩,by rw[G];rfl⟩
  .rw[zw A x zB]at b3;rw[<-b3];have G:zE yA (u++[x])= .sl false ((u.map yA++[yA (x)]).take (u.map yA++[yA (x)]).length):=by rw[zA8];unfold zE;rw[zBd];rfl
   rw[G];exact ly
