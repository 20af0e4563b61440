/- Part 12. -/
import Derived.Test.YtaglbcjljlkjcaaGreatT11
namespace Go.Proofs.YtaglbcjljlkjcaaGreat.Av
open Tryz
set_option linter.all false
set_option maxRecDepth 4000
set_option maxHeartbeats 2000000
open List renaming length->ln,range->oj
open Inhabited renaming default->dd
variable {l:List Vh}
def bg (r:Rg) (hb:IM r):zM 167 [uR r] [] (uR r) []:=by
 have I:=hb.s;have B:=hb.l;have C:=kU r.ag.sec zB;have E:=TK r.ag.lim zB;have G:=hb.tk.n;have hv:=hb.v;have u:=VO r.tk zB;have z:=AS r.vh zB;have A:=zA yN r.tk;refine eM call167 λF hF=>?_
 refine yH (qL C E u) ?_;refine zO ((r.tk.map yN).length) [1001,1,2] [1,2] [1,2,22] [23,1,2,22] Z (λi T U=>⟨(23,iA i)::T,(1001,.arr 6 (dV i (r.tk.map yN)) false)::U⟩) (Lq ?_ ?_)
 .intro i hi;have hi':i<ln r.tk:=by omega
  have L:(dV i (r.tk.map yN))[i]? =some (yN (r.tk.getD i dd)):=zJ yN r.tk i hi';have e:=cG yN r.tk i hi';have u:=kU (r.tk.getD i dd).sec (by have:=hb.tk.s (r.tk.getD i dd) QP;omega);generalize (r.tk.getD i dd)=t,dV i (r.tk.map yN)=xs,dV (i+1) (r.tk.map yN)=ys at *;subst e;refine zU u ?_;rfl
 ·(refine zU z ?_)
  exact zI [] Z Z (zBp (rgX r) zA8) Z
structure wD where
 rg:Rg
 rq:List Rq
 dr:List (List Int)
 au:List Bool
def qM (l:List Int):AV:=zE yA l
def xD (r:Rg) (a b c:AV):AV:= .agg [iA r.num,zE yA r.ag.sec,iA r.ag.rights,iA r.ag.cls,zE iA r.ag.lim,iA r.ag.req,iA r.ag.ses,iA r.ag.rate,iA r.ag.burst,zE yN r.tk,zE vA r.vh,iA r.bk.level,iA r.bk.rate,iA r.bk.burst,a,b,c]
def zN (d:wD):AV:=xD d.rg (zE zY d.rq) (zE qM d.dr) (zE bA d.au)
structure dH (d:wD):Prop where
 rg:IM d.rg
 q:d.rq.length<=1000
 g:∀r∈d.rq,r.legs.length<=1000
 n:d.dr.length<=1000
 e:∀b∈d.dr,b.length<=1000
 a:d.au.length<=1000
def MZ (l:List Rq) (hl:ln l<=1073741824):zM 168 [zE zY l] [] (.ref 1001 0 (l.map zY).length) [(1001,.arr 5 (l.map zY) false)]:=by
 have u:=zA zY l;refine eM call168 λF hF=>?_
 refine xI 0 Z (λcap z=>?_) ?_
 .have:l=[]:=by simpa using z
  subst this
  (repeat' (first|refine Yf ?_|apply yW|apply xG|intro hc|fail))
  refine qG 2 1001 5 Z Z Z (xL ?_);exact zP [1001] Z Z Z Z
 .repeat' (first|(apply zG;first|refine uN tok Z Z ?_|(apply wR;refine wJ (xY tok (.inl ⟨rfl,rfl⟩) Z Z Z Z) Z ?_)|(apply yI;refine uX (nw:=[1001]) (yX tok 1001 (xs:=[]) Z Z Z Z Z Z Z Z Z) Z Z Z ?_)|(apply yD;refine vD tok Z Z Z Z Z Z Z (yM _ _ (λ_=>rfl)) Z Z Z zB Z ?_)|apply kP)|(first|apply xZ|apply xR|refine uD Z ?_|refine yR Z ?_|refine yE Z ?_|refine wA Z (λhc=>?_) λhc=>?_|apply xJ|apply xL|apply xQ|apply xB))
  exact zP [1001] Z Z Z Z
def LA (l:List (List Int)) (hl:ln l<=1073741824):zM 170 [zE qM l] [] (.ref 1002 0 (l.map qM).length) [(1002,.arr 1 (l.map qM) false)]:=by
 have u:=zA qM l;refine eM call170 λF hF=>?_
 refine xI 0 Z (λcap z=>?_) ?_
 .have:l=[]:=by simpa using z
  subst this
  (repeat' (first|refine Yf ?_|apply yW|apply xG|intro hc|fail))
  refine qG 2 1002 1 Z Z Z (xL ?_);exact zP [1002] Z Z Z Z
 .repeat' (first|(apply zG;first|refine uN tok Z Z ?_|(apply wR;refine wJ (xY tok (.inl ⟨rfl,rfl⟩) Z Z Z Z) Z ?_)|(apply yI;refine uX (nw:=[1002]) (yX tok 1002 (xs:=[]) Z Z Z Z Z Z Z Z Z) Z Z Z ?_)|(apply yD;refine vD tok Z Z Z Z Z Z Z (yM _ _ (λ_=>rfl)) Z Z Z zB Z ?_)|apply kP)|(first|apply xZ|apply xR|refine uD Z ?_|refine yR Z ?_|refine yE Z ?_|refine wA Z (λhc=>?_) λhc=>?_|apply xJ|apply xL|apply xQ|apply xB))
  exact zP [1002] Z Z Z Z
def Up (l:List Bool) (hl:ln l<=1073741824):zM 171 [zE bA l] [] (zE bA l) []:=by
 have u:=zA bA l;refine eM call171 λF hF=>?_
 refine xI 0 Z (λcap z=>?_) ?_
 .have:l=[]:=by simpa using z
  subst this;exact ly
 ·(refine WW ?_)
  refine zI [] Z Z (eJ _ _) Z
def LB (d:wD) (hb:dH d):zM 106 [zN d] [] (zN d) []:=by
 have z:=bg d.rg hb.rg;have O:=hb.q;have B:=hb.n;have A:=hb.a;have I:=MZ d.rq zB;have L:=LA d.dr zB;have M:=Up d.au zB;have E:=zA zY d.rq;have C:=zA qM d.dr;unfold zN xD;unfold uR at z;refine eM call106 λF hF=>?_
 refine yH (xU z I) ?_;refine zO ((d.rq.map zY).length) [1001,1,2] [1,2] [1,2,15] [16,1,2,15] Z (λi T U=>⟨(16,iA i)::T,(1001,.arr 5 (dV i (d.rq.map zY)) false)::U⟩) (Lq ?_ ?_)
 .intro i hi;have hi':i<ln d.rq:=by omega
  have G:(dV i (d.rq.map zY))[i]? =some (zY (d.rq.getD i dd)):=zJ zY d.rq i hi';have e:=cG zY d.rq i hi';have u:=XH (d.rq.getD i dd).legs (hb.g (d.rq.getD i dd) QP);generalize (d.rq.getD i dd)=t,dV i (d.rq.map zY)=xs,dV (i+1) (d.rq.map zY)=ys at *;subst e;refine zU u ?_;rfl
 ·(refine zU L ?_)
  refine zO ((d.dr.map qM).length) [1002,1,2,1001] [1,2,1001] [1,2,38] [39,1,2,38] Z (λi T U=>⟨(39,iA i)::T,(1002,.arr 1 (dV i (d.dr.map qM)) false)::U⟩) (Lq ?_ ?_)
  .intro i hi;have hi':i<ln d.dr:=by omega
   have G:(dV i (d.dr.map qM))[i]? =some (qM (d.dr.getD i dd)):=zJ qM d.dr i hi';have e:=cG qM d.dr i hi';have u:=kU (d.dr.getD i dd) (by have:=hb.e (d.dr.getD i dd) QP;omega);generalize (d.dr.getD i dd)=t,dV i (d.dr.map qM)=xs,dV (i+1) (d.dr.map qM)=ys at *;subst e;refine zU u ?_;rfl
  ·(refine zU M ?_)
   refine zI [] Z Z ?_ Z
   show xD d.rg (.sl false ((d.rq.map zY).take (d.rq.map zY).length)) (.sl false ((d.dr.map qM).take (d.dr.map qM).length)) (zE bA d.au)=_
   rw[zA8,zA8];rfl
def kN (d:wD) (hb:dH d):zM 125 [zN d] [] (zN d) []:=by
 have z:=eI d.rg hb.rg;have O:=eK d.rq hb.q hb.g;have R:=hb.q;have B:=hb.n;have A:=hb.a;have G:=zA zY d.rq;have E:=zA qM d.dr;have C:=zA bA d.au;unfold zN xD;unfold uR at z;refine eM call125 λF hF=>?_
 refine QG (xU z O) ?_;refine zS 4 1001 1 Z Z Z ?_;refine zQ (d.dr) [1001,2,3] [2,3] [2,3,18,19] [4,20,2,3,18,19] Z (λi f4 T U=>⟨(4,.ref 1001 0 (f4.map qM).length)::(20,iA i)::T,(1001,.arr 1 (f4.map qM) true)::U⟩) (Lq ?_ ?_)
 .intro i f4 x post u hi;have V:=zZ qM u hi;have I:=zV u hi;have L:(f4.map qM).length=i:=by rw[zA5,hi]
  have S:=hb.e x (yU u);have M:=zA yA x;have e:(f4++[x]).map qM=f4.map qM++[qM x]:=by simp
  clear u;rw[e];generalize f4.map qM=xs,d.dr.map qM=W at *;refine WL ?_;rfl
 ·(refine WL ?_)
  refine zI [] Z Z ?_ Z
  show xD d.rg (zE zY d.rq) (.sl false ((d.dr.map qM).take (d.dr.map qM).length)) (zE bA d.au)=_
  rw[zA8];rfl
def dL (l:List Vh) (id:Int):Vh:=(l.find? λv=>v.id==id).getD ⟨0,0⟩
def XS (l:List Vh) (id:Int):Bool:=l.any λv=>v.id==id
def IR {f4 post:List Vh} {x:Vh} {id:Int} (h:l=f4++x::post) (u:∀y∈f4,y.id≠id) (z:x.id=id):dL l id=x/\XS l id=true:=by grind [dL,XS]
def LC {id:Int} (u:∀y∈l,y.id≠id):dL l id=⟨0,0⟩/\XS l id=false:=by grind [dL,XS,List.find?_eq_none]
def og (l:List Vh) (id:Int) (G:ln l<=1000000):zM 291 [zE vA l,iA id] [] (.tup [vA (dL l id),bA (XS l id)]) []:=by
 have hl:=zA vA l;refine eM call291 λF hF=>?_
 refine WW ?_;refine uS (l) [4] [] [1,4,8,9] [10,1,4,8,9] Z (λi f4 T U E=>(∀y∈f4,y.id≠id)/\E=⟨(10,iA i)::T,(4,.box [.s (.int .i64 0),.s (.int .i64 0)])::U⟩) (Lp ?_ ?_ ?_)
 .exact⟨by simp,rfl⟩
 .rintro i f4 x post st u hi ⟨hp,rfl⟩;have z:=zZ vA u hi;have C:=zV u hi;by_cases B:x.id=id
  .obtain⟨e1,A⟩:=IR u hp B;rw[e1,A];clear u;exact ly
  .clear u;refine WW ?_;exact⟨λy z=>by simp only[zBq,zBz]at z;rcases z with z|rfl;exact hp y z;exact B,rfl⟩
 .rintro st ⟨hp,rfl⟩;obtain⟨e1,A⟩:=LC hp;rw[e1,A];exact ly
def qA (l:List Vh) (c:Int):Nat:=(l.filter λv=>v.cls==c).length
def Tp (l:List Vh) (c:Int) (B:ln l<=1000000):zM 368 [zE vA l,iA c] [] (iA (qA l c)) []:=by
 have hl:=zA vA l;refine eM call368 λF hF=>?_
 refine WW ?_;refine zQ (l) [] [] [1,8,9] [5,10,1,8,9] Z (λi f4 T U=>⟨(5,iA (qA f4 c))::(10,iA i)::T,U⟩) (Lq ?_ ?_)
 .intro i f4 x post u hi;have C:=zZ vA u hi;have A:=zV u hi;have z:qA f4 c<=i:=by rw[<-hi];exact zCv _ _
  have e:qA (f4++[x]) c=qA f4 c+(if x.cls=c then 1 else 0):=by
   unfold qA;rw[zF8,zA9];by_cases h:x.cls=c
   all_goals simp[h]
  clear u;by_cases h:x.cls=c
  .rw[zA4 h]at e;rw[e];generalize qA f4 c=m at *;refine WW ?_;rfl
  .rw[Os h,zDv]at e;rw[e];generalize qA f4 c=m at *;refine WW ?_;rfl
 .exact ly
def aB (l:List Vh) (i:Nat):Bool:=decide (0<=(l.getD i dd).id/\(l.getD i dd).id<=4294967295/\0<=(l.getD i dd).cls/\(l.getD i dd).cls<=3/\(0<i->(l.getD (i-1) dd).id<(l.getD i dd).id))
def LD (l:List Vh):Bool:=((oj (ln l)).all λi=>aB l i)&&decide ((ln l:Int)<=8)
def Sp {i:Nat} (hi:i<ln l) (h:aB l i=false):LD l=false:=by grind [aB,LD]
def RS (l:List Vh) (hn:ln l<=1000000):zM 364 [zE vA l] [] (bA (LD l)) []:=by
 have hl:=zA vA l;refine eM call364 λF hF=>?_
 refine WW ?_;refine yV (ln l) [] [] [0,5,6] [7,0,5,6] Z (λi T U zs=>(∀s:Nat,s<i->aB l s=true)/\zs=⟨(7,iA i)::T,U⟩) (Lp ?_ ?_ ?_)
 .exact⟨λs V=>absurd V (zC0 _),rfl⟩
 .rintro i st hi ⟨hp,rfl⟩
  have z:aB l i=true->∀s:Nat,s<i+1->aB l s=true:=λh s V=>by
   by_cases R:s=i
   .subst R;exact h
   .exact hp s zB
  have A:=λh=>Sp (l:=l) hi h
  have hy:=zJ vA l i hi;have u:aB l i=_:=rfl
  conv at u=>rhs;unfold aB
  by_cases C:0<i
  .have B:=yF vA l ((i:Int)-1) zB zB;rw[show((i:Int)-1).toNat=i-1 by omega]at B;have ac:(l.map vA)[((i:Int)-1).toNat]? =some (vA (l.getD (i-1) dd)):=by rw[show((i:Int)-1).toNat=i-1 by omega];exact B
   clear B;generalize l.getD i dd=t,l.getD (i-1) dd=p,aB l i=tk at *;by_cases h1:0<=t.id/\t.id<=4294967295/\0<=t.cls/\t.cls<=3/\p.id<t.id
   .obtain⟨h1,h2,M,O,Y⟩:=h1;rw[zA7 ⟨h1,h2,M,O,λ_=>Y⟩]at u;refine WW ?_;exact⟨z u,rfl⟩
   .rw[zA6 (λh=>h1 ⟨h.1,h.2.1,h.2.2.1,h.2.2.2.1,h.2.2.2.2 C⟩)]at u;rw[A u]
    by_cases E:0<=t.id<;>by_cases G:t.id<=4294967295<;>by_cases I:0<=t.cls<;>by_cases L:t.cls<=3<;>by_cases W:p.id<t.id<;>first|(exfalso;exact h1 ⟨E,G,I,L,W⟩)|(exfalso;omega;done)|(clear h1;((refine WW ?_));exact zH)
  .obtain rfl:i=0:=by omega
   generalize l.getD 0 dd=t,aB l 0=tk at *;by_cases h1:0<=t.id/\t.id<=4294967295/\0<=t.cls/\t.cls<=3
   .obtain⟨h1,h2,M,O⟩:=h1;rw[zA7 ⟨h1,h2,M,O,λh=>absurd h C⟩]at u;refine WW ?_;exact⟨z u,rfl⟩
   .rw[zA6 (λh=>h1 ⟨h.1,h.2.1,h.2.2.1,h.2.2.2.1⟩)]at u;rw[A u]
    by_cases E:0<=t.id<;>by_cases G:t.id<=4294967295<;>by_cases I:0<=t.cls<;>by_cases L:t.cls<=3<;>first|(exfalso;exact h1 ⟨E,G,I,L⟩)|(exfalso;omega;done)|(clear h1;((refine WW ?_));exact zH)
 .rintro st ⟨hp,rfl⟩;have e:((oj (ln l)).all λi=>aB l i)=true:=zBi.2 λi hi=>hp i (zBv.1 hi)
  unfold LD;rw[e,zBg];by_cases S:(ln l:Int)<=8
  .rw[zA7 S];exact ly
  .rw[zA6 S];exact ly
def jD (k v:Int):Ms:=⟨14,[],[k,v],[]⟩
def FX (k v:Int):zM 271 [iA k,iA v] [] (zX (jD k v)) []:=by
 refine eM call271 λF hF=>?_
 exact ng
def RT (l:List Tk):Nat:=(l.filter λt=>!t.used).length
def aC (d:wD):Ms:=⟨20,[],[(RT d.rg.tk:Int),8-(ln d.rg.vh:Int),d.rg.ag.req-(ln d.rq:Int),d.rg.bk.level],[]⟩
theorem IS (f4:List Tk) (x:Tk):RT (f4++[x])=RT f4+(if x.used=true then 0 else 1):=by grind [RT]
def Jv (d:wD) (hb:dH d) (S:0<=d.rg.ag.req) (h1:d.rg.ag.req<=1000):zM 246 [zN d] [] (zX (aC d)) []:=by
 have W:=hb.q;have V:=hb.rg.tk.n;have hv:=hb.rg.v;have L:=zA yN d.rg.tk;have A:=zA vA d.rg.vh;have z:=zA zY d.rq;unfold aC;rw[<-A,<-z];unfold zN xD;refine eM call246 λF hF=>?_
 refine WW ?_;refine zQ (d.rg.tk) [1,2] [1,2] [1,2,8,9] [3,10,1,2,8,9] Z (λi f4 T U=>⟨(3,iA (RT f4))::(10,iA i)::T,U⟩) (Lq ?_ ?_)
 .intro i f4 x post B hi;have Y:=zZ yN B hi;have E:=zV B hi;have I:RT f4<=i:=by rw[<-hi];exact zCv _ _
  have e:=IS f4 x;clear B
  cases u:x.used with
  |true=>
   rw[u,zA4 Z,zDv]at e;rw[e];generalize RT f4=m at *;obtain⟨R,C,par,M,G,O⟩:=x;cases u;refine WW ?_;rfl
  |false=>
   rw[u,Os zBl]at e;rw[e];generalize RT f4=m at *;obtain⟨R,C,par,M,G,O⟩:=x;cases u;refine WW ?_;rfl
 .exact ng
def Md (d:wD) (k f3:Int) (I:k≠1) (L:k≠9) (hb:dH d) (W:0<=d.rg.ag.req) (h1:d.rg.ag.req<=1000):zM 272 [zN d,iA k,iA f3] [] (zX (aC d)) []:=by
 have hq:=hb.q;have Y:=hb.rg.tk.n;have hv:=hb.rg.v;have O:=zA yN d.rg.tk;have A:=zA vA d.rg.vh;have z:=zA zY d.rq;unfold aC;rw[<-A,<-z];unfold zN xD;refine eM call272 λF hF=>?_
 refine WW ?_;refine zQ (d.rg.tk) [3,6] [3,6] [3,6,45,46] [10,47,3,6,45,46] Z (λi f4 T U=>⟨(10,iA (RT f4))::(47,iA i)::T,U⟩) (Lq ?_ ?_)
 .intro i f4 x post B hi;have hy:=zZ yN B hi;have E:=zV B hi;have M:RT f4<=i:=by rw[<-hi];exact zCv _ _
  have e:=IS f4 x;clear B
  cases u:x.used with
  |true=>
   rw[u,zA4 Z,zDv]at e;rw[e];generalize RT f4=m at *;obtain⟨V,C,par,R,G,S⟩:=x;cases u;refine WW ?_;rfl
  |false=>
   rw[u,Os zBl]at e;rw[e];generalize RT f4=m at *;obtain⟨V,C,par,R,G,S⟩:=x;cases u;refine WW ?_;rfl
 .exact ng
def RU (d:wD) (f3:Int):Ms:=⟨13,[],[d.rg.num,f3],[]⟩
def ta (d:wD) (f3:Int):zM 272 [zN d,iA 1,iA f3] [] (zX (RU d f3)) []:=by
 unfold RU zN xD;refine eM call272 λF hF=>?_
 exact ng
def gB (l:List Rq):List Int:=(l.map λr=>[r.id,r.til]).flatten
def QI (d:wD):Ms:=⟨19,[],gB d.rq,[]⟩
def LE (f4:List Rq) (x:Rq):(gB (f4++[x])).map iA=(gB f4).map iA++[iA x.id,iA x.til]:=by simp[gB]
theorem XL:∀l:List Rq,(gB l).length=2*ln l
 | []=>rfl
 |x::l=>by
  have:=XL l
  show(x.id::x.til::gB l).length=_
  rw[zBj,zBj,zBj];omega
def Ld (d:wD) (f3:Int) (hb:dH d):zM 272 [zN d,iA 9,iA f3] [] (zX (QI d)) []:=by
 have E:=hb.q;have C:=zA zY d.rq;unfold QI zN xD;refine eM call272 λF hF=>?_
 refine WW ?_;refine gJ 7 2 1001 1 Z Z Z Z Z ?_;refine zQ (d.rq) [7,1001,6] [6] [6,7,26,27] [28,6,7,26,27] Z (λi f4 T U=>⟨(28,iA i)::T,(7,.box [iA 19,.s (.slice none 0 0),.ref 1001 0 ((gB f4).map iA).length,.s (.slice none 0 0)])::(1001,.arr 1 ((gB f4).map iA) true)::U⟩) (Lq ?_ ?_)
 .intro i f4 x post u hi;have G:=zZ zY u hi;have z:=zV u hi;have A:=XL f4;have B:=zA iA (gB f4);have e:=LE f4 x;clear u;rw[e];generalize (gB f4).map iA=xs at *;refine WW ?_;rfl
 ·(refine WW ?_)
  refine zI [] Z Z ?_ Z
  show AV.agg [iA 19,.sl false [],.sl false (((gB d.rq).map iA).take ((gB d.rq).map iA).length),.sl false []]=_
  rw[zA8];rfl
def Iv (l:List Vh) (id:Int) (G:ln l<=1000000):zM 351 [zE vA l,iA id] [] (.tup [vA (dL l id),bA (XS l id)]) []:=by
 have hl:=zA vA l;refine eM call351 λF hF=>?_
 refine WW ?_;refine uS (l) [4] [] [1,4,8,9] [10,1,4,8,9] Z (λi f4 T U E=>(∀y∈f4,y.id≠id)/\E=⟨(10,iA i)::T,(4,.box [.s (.int .i64 0),.s (.int .i64 0)])::U⟩) (Lp ?_ ?_ ?_)
 .exact⟨by simp,rfl⟩
 .rintro i f4 x post st u hi ⟨hp,rfl⟩;have z:=zZ vA u hi;have C:=zV u hi;by_cases B:x.id=id
  .obtain⟨e1,A⟩:=IR u hp B;rw[e1,A];clear u;exact ly
  .clear u;refine WW ?_;exact⟨λy z=>by simp only[zBq,zBz]at z;rcases z with z|rfl;exact hp y z;exact B,rfl⟩
 .rintro st ⟨hp,rfl⟩;obtain⟨e1,A⟩:=LC hp;rw[e1,A];exact ly
def Ui (l:List Rq) (q id:Int) (v:Vh) (u:Int) (x:List Lg) (f3:Int) (hv:cM l) (C:(ln l:Int)<=q) (hb:¬((0<=v.id/\v.id<=4294967295)/\(0<=v.cls/\v.cls<=3))):
  zM 353 [zE zY l,iA q,iA id,vA v,iA u,zE yO x,iA f3] [] (.tup [zE zY [],iA 1]) []:=by
 have A:=TC l q hv C;have z:=MK v.id;have B:=Fc v.cls;by_cases h1:0<=v.id/\v.id<=4294967295
 .have h2:¬(0<=v.cls/\v.cls<=3):=λh=>hb ⟨h1,h⟩
  rw[zA7 h1]at z;rw[zA6 h2]at B;refine eM call353 λF hF=>?_
  exact mt (qL A z B)
 .rw[zA6 h1]at z;refine eM call353 λF hF=>?_
  exact mt (xU A z)
def Jd (l:List Rq) (q id:Int) (v:Vh) (u:Int) (x:List Lg) (f3:Int) (hv:cM l) (C:(ln l:Int)<=q) (hb:¬((0<=v.id/\v.id<=4294967295)/\(0<=v.cls/\v.cls<=3))):
  zM 293 [zE zY l,iA q,iA id,vA v,iA u,zE yO x,iA f3] [] (.tup [zE zY [],iA 1]) []:=by
 have A:=XC l q hv C;have z:=wS v.id 0 4294967295;have B:=wS v.cls 0 3;by_cases h1:0<=v.id/\v.id<=4294967295
 .have h2:¬(0<=v.cls/\v.cls<=3):=λh=>hb ⟨h1,h⟩
  rw[zA7 h1]at z;rw[zA6 h2]at B;refine eM call293 λF hF=>?_
  exact mt (qL A z B)
 .rw[zA6 h1]at z;refine eM call293 λF hF=>?_
  exact mt (xU A z)
structure Qd where
 j:Int
 p:Int
 f:Int
 t:Int
def q4 (q:Qd):List Int:=[q.j,q.p,q.f,q.t]
def bH (u:List Qd):List Int:=(u.map q4).flatten
def aV (c:Cf) (f3:Int) (q:Qd):Bool:=decide (q.j<(ln c.js:Int))&&(decide (q.p<((c.js.getD q.j.toNat dd).ph.length:Int))&&EU q.j q.p q.f q.t f3)
def XT (f3:Int) (q:Qd):Lg:=FB q.j q.p q.f q.t f3
def ia (v:Vh):Bool:=decide ((0<=v.id/\v.id<=4294967295)/\(0<=v.cls/\v.cls<=3))
def Er (l:List Rq) (q id u:Int) (v:Vh) (x:List Lg):Int:=if(ln l:Int)<=q then(if ia v=true then PC l q id u x else 1)else 1
def L6 (l:List Rq) (q id u f3:Int) (v:Vh) (x:List Lg):List Rq:=if Er l q id u v x=0 then fA l (gO id v u x f3)else []
def zAp (l:List Rq) (q id:Int) (v:Vh) (u:Int) (x:List Lg) (f3:Int) (hv:cM l) (B:0<=f3) (C:f3<=1073741824):
  zM 353 [zE zY l,iA q,iA id,vA v,iA u,zE yO x,iA f3] [] (.tup [zE zY (L6 l q id u f3 v x),iA (Er l q id u v x)]) []:=by
 unfold L6 Er;by_cases A:(ln l:Int)<=q
 .rw[zA4 A];by_cases hb:(0<=v.id/\v.id<=4294967295)/\(0<=v.cls/\v.cls<=3)
  .have z:ia v=true:=zA7 hb;rw[zA4 z];exact Uo l q id v u x f3 hv A hb.1.1 hb.1.2 hb.2.1 hb.2.2 B C
  .have z:¬ia v=true:=λh=>hb (zEx h)
   rw[Os z,Os xA];exact Ui l q id v u x f3 hv A hb
 .rw[Os A,Os xA];exact Ni l q id v u x f3 hv A
def k8 (l:List Rq) (q id:Int) (v:Vh) (u:Int) (x:List Lg) (f3:Int) (hv:cM l) (C:0<=f3) (E:f3<=1073741824) (B:ln x<=1000):
  zM 293 [zE zY l,iA q,iA id,vA v,iA u,zE yO x,iA f3] [] (.tup [zE zY (L6 l q id u f3 v x),iA (Er l q id u v x)]) []:=by
 unfold L6 Er;by_cases A:(ln l:Int)<=q
 .rw[zA4 A];by_cases hb:(0<=v.id/\v.id<=4294967295)/\(0<=v.cls/\v.cls<=3)
  .have z:ia v=true:=zA7 hb;rw[zA4 z];exact ni l q id v u x f3 hv A hb.1.1 hb.1.2 hb.2.1 hb.2.2 C E B
  .have z:¬ia v=true:=λh=>hb (zEx h)
   rw[Os z,Os xA];exact Jd l q id v u x f3 hv A hb
 .rw[Os A,Os xA];exact ze l q id v u x f3 hv A
theorem TX:∀u:List Qd,(bH u).length=4*ln u
 | []=>rfl
 |x::l=>by
  have:=TX l
  show(x.j::x.p::x.f::x.t::bH l).length=_
  simp only[zBj];omega
theorem Hv (a b:List Qd):bH (a++b)=bH a++bH b:=by simp[bH]
theorem Za (x y z:Int) (f4 post:List Qd) (i:Nat) (hi:ln f4=i):(x::y::z::bH (f4++post)).drop (3+4*i)=bH post:=by grind [bH,Hv,TX,List.drop_of_length_le]
def XM {α:Type} {l:List α} {n:Nat} {r:List α} (h:l.drop n=r) (k:Nat):l[n+k]? =r[k]? :=by rw[<-h,zDd]
def j8 (x y z:Int) (f4 post:List Qd) (q:Qd) (I:Int) (u:I=3+4*(ln f4:Int)):
  ((x::y::z::bH (f4++q::post)).map iA)[I.toNat]? =some (iA q.j)/\((x::y::z::bH (f4++q::post)).map iA)[(I+1).toNat]? =some (iA q.p)/\((x::y::z::bH (f4++q::post)).map iA)[(I+2).toNat]? =some (iA q.f)/\((x::y::z::bH (f4++q::post)).map iA)[(I+3).toNat]? =some (iA q.t):=by
 have h:=Za x y z f4 (q::post) (ln f4) Z
 refine⟨?_,?_,?_,?_⟩<;>rw[zBd]
 .rw[show I.toNat=3+4*ln f4+0 by omega,XM h];rfl
 .rw[show(I+1).toNat=3+4*ln f4+1 by omega,XM h];rfl
 .rw[show(I+2).toNat=3+4*ln f4+2 by omega,XM h];rfl
 .rw[show(I+3).toNat=3+4*ln f4+3 by omega,XM h];rfl
def O4 (x y z:Int) (f4 post:List Qd) (q:Qd) (I:Int) (u:I=3+4*(ln f4:Int)):
  (((x::y::z::bH (f4++q::post)).map iA).drop I.toNat).take ((I+4).toNat-I.toNat)=[iA q.j,iA q.p,iA q.f,iA q.t]:=by
 have h:=Za x y z f4 (q::post) (ln f4) Z;rw[<-zD0,show I.toNat=3+4*ln f4 by omega,h,show(I+4).toNat-(3+4*ln f4)=4 by omega];rfl
def Ya (c:Cf) (d:wD) (z id v u f3:Int) (A:List Qd):Int:=
 if XS d.rg.vh v=true then(if z<(dL d.rg.vh v).cls then 17 else if A.all (aV c f3)=true then Er d.rq d.rg.ag.req id u (dL d.rg.vh v) (A.map (XT f3))else 8)else 12
def Rp (c:Cf) (d:wD) (z id v u f3:Int) (A:List Qd):List Rq:=
 if Ya c d z id v u f3 A=0 then fA d.rq (gO id (dL d.rg.vh v) u (A.map (XT f3)) f3)else []
def Qp {α:Type} {p:α->Bool} {f4 post:List α} {x:α} (h:p x=false):¬(f4++x::post).all p=true:=by
 simp[h]
theorem Ti (c:Cf) (d:wD) (id v u E f3:Int) (C:List Qd) (hb:dH d) (hv:cM d.rq) (s0:0<=E) (s1:E<(ln d.rg.tk:Int)) (hq:ln C<=3) (hp:∀q∈C,0<=q.j/\0<=q.p) (n0:0<=f3) (n1:f3<=1073741824):
  zM 309 [wH c,zN d,zE iA (id::v::u::bH C),iA E,iA f3] [] (.tup [zE zY (Rp c d (d.rg.tk.getD E.toNat dd).cls id v u f3 C),iA (Ya c d (d.rg.tk.getD E.toNat dd).cls id v u f3 C)]) []:=by
 have G:=Iv d.rg.vh v (by have:=hb.rg.v;omega);have a5:=zA yN d.rg.tk;have av:=yF yN d.rg.tk E s0 s1;have O:=zAp d.rq d.rg.ag.req id (dL d.rg.vh v) u (C.map (XT f3)) f3 hv n0 n1;have a3:((id::v::u::bH C).map iA).length=3+4*ln C:=by simp[TX];omega
 have a2:=zA wK c.js;have a6:=hb.rg.tk.n;unfold Rp Ya;unfold wH zN xD;generalize (d.rg.tk.getD E.toNat dd)=t at *;rw[show yN t= .agg [bA t.used,zE yA t.sec,iA t.par,iA t.rights,iA t.cls,iA t.til]from Z]at av;generalize XS d.rg.vh v=ap at*
 cases ap with
 |false=>
  rw[Os zBl,Os xA];refine eM call309 λF hF=>?_
  exact mx G
 |true=>
 rw[zA4 Z];generalize dL d.rg.vh v=vh at *;unfold vA at G O;by_cases R:t.cls<vh.cls
 .rw[zA4 R,Os xA];refine eM call309 λF hF=>?_
  exact mx G
 rw[Os R];refine eM call309 λF hF=>?_
 refine zU G ?_;refine zS 15 1001 5 Z Z Z ?_;refine gE (ln C) [1001,5,6,12] [5,6,12] [2,4,5,6,12] [15,16,2,4,5,6,12] Z (λzn T U zs=>∃(f4:List Qd) (post:List Qd),(C=f4++post/\zn=ln post/\f4.all (aV c f3)=true)/\zs=⟨(15,.ref 1001 0 (f4.map λq=>yO (XT f3 q)).length)::(16,iA (3+4*(ln f4:Int)))::T,(1001,.arr 5 (f4.map λq=>yO (XT f3 q)) true)::U⟩) ?_;(conv=>whnf);refine⟨?_,?_⟩
 .exact⟨[],C,⟨rfl,rfl,rfl⟩,rfl⟩
 .rintro zn st ⟨f4,post,⟨hqs,hzn,hok⟩,rfl⟩;have V:ln C=ln f4+ln post:=by rw[hqs,zA9]
  have a7:=zA (λq=>yO (XT f3 q)) f4
  cases post with
  |nil=>
   rw[zB1]at hqs;subst hqs;rw[zA4 hok];rw[zCb]at V hzn;have e1:(C.map λq=>yO (XT f3 q))=(C.map (XT f3)).map yO:=by rw[zGu];rfl
   unfold L6 at O;rw[e1]at *; generalize C.map (XT f3)=ls at *;generalize Er d.rq d.rg.ag.req id u vh ls=e at *;generalize fA d.rq (gO id vh u ls f3)=il at *;generalize hI:3+4*(ln C:Int)=I at *;rw[show(id::v::u::bH C).map iA=iA id::iA v::iA u::(bH C).map iA from Z]at *; generalize (bH C).map iA=A at *;refine WD ?_;refine wL [5,6,12] [2,4,5,6,12,15] Z ?_
   (conv=>whnf)
   simp only[zBr,zA8];exact mx O
  | cons q post=>
   have ac:=hp q (by rw[hqs];simp);obtain⟨y0,y1,y2,y3⟩:=j8 id v u f4 post q _ Z;rw[<-hqs]at y0 y1 y2 y3;rw[zBj]at V hzn;have B:aV c f3 q=false->¬C.all (aV c f3)=true:=λh=>by rw[hqs];exact Qp h
   have z:aV c f3 q=true->(f4++[q]).all (aV c f3)=true:=λh=>by rw[List.all_append,hok,zFm,h];rfl
   have L:((f4++[q]).map λq=>yO (XT f3 q))=(f4.map λq=>yO (XT f3 q))++[yO (XT f3 q)]:=by simp
   have M:=Wf q.j q.p q.f q.t f3;rw[show aV c f3 q=(decide (q.j<(ln c.js:Int))&&(decide (q.p<((c.js.getD q.j.toNat dd).ph.length:Int))&&EU q.j q.p q.f q.t f3))from Z]at B z;generalize hA:(id::v::u::bH C).map iA=A at *;have ax:zE iA (id::v::u::bH C)= .sl false A:=by rw[<-hA];rfl
   have hI:0<=3+4*(ln f4:Int)/\3+4*(ln f4:Int)+4=3+4*((f4++[q]).length:Int)/\3+4*(ln f4:Int)+3<ln A:=⟨zB,by simp;omega,zB⟩;by_cases W:q.j<(ln c.js:Int)
   case neg=>
    rw[zA6 W]at B;rw[Os (B Z),Os xA];generalize 3+4*(ln f4:Int)=I at *;clear B z M L hqs;exact ly
   have au:=yF wK c.js q.j ac.1 W;rw[zA7 W]at B z;rw[show wK (c.js.getD q.j.toNat dd)= .agg [zE xN (c.js.getD q.j.toNat dd).ph,zE iA (c.js.getD q.j.toNat dd).cf,iA (c.js.getD q.j.toNat dd).st]from Z]at au;generalize c.js.getD q.j.toNat dd=jn at *;have a4:=zA xN jn.ph;by_cases g2:q.p<(ln jn.ph:Int)
   case neg=>
    rw[zA6 g2]at B;rw[Os (B Z),Os xA];generalize 3+4*(ln f4:Int)=I at *;clear B z M L hqs;exact ly
   rw[zA7 g2]at B z
   cases g3:EU q.j q.p q.f q.t f3 with
   |false=>
    rw[g3]at B M;rw[Os zBl]at M;rw[Os (B Z),Os xA];generalize 3+4*(ln f4:Int)=I at *;generalize FB q.j q.p q.f q.t f3=lg at *;clear B z L hqs;exact mx M
   |true=>
    rw[g3]at z M;rw[zA4 Z]at M;have ar:=z Z;obtain⟨az,Y,a1⟩:=hI;have S:C=(f4++[q])++post:=by rw[hqs];simp
    rw[show FB q.j q.p q.f q.t f3=XT f3 q from Z]at M;generalize XT f3 q=lg at *;clear B z hqs;generalize a8:f4++[q]=pq at *;generalize (f4.map λq=>yO (XT f3 q))=xs at *;generalize 3+4*(ln f4:Int)=I at *;refine zU M ?_;exact⟨ln post,zB,pq,post,⟨S,rfl,ar⟩,by rw[L,<-Y];rfl⟩
def mg (d:wD) (l:List Rq):wD:=⟨d.rg,l,d.dr,d.au⟩
theorem Id (c:Cf) (d:wD) (k:Int) (R:List Int) (id v u G f3:Int) (C:List Qd) (hb:dH d) (hv:cM d.rq) (hq:ln C<=3) (hp:∀q∈C,0<=q.j/\0<=q.p) (n0:0<=f3) (n1:f3<=1073741824):
  zM 243 [wH c,zN d,zX ⟨k,R,id::v::u::bH C,[]⟩,iA G,iA f3] [] (.tup [zN (mg d (if Ya c d G id v u f3 C=0 then Rp c d G id v u f3 C else d.rq)),iA (Ya c d G id v u f3 C)]) []:=by
 have L:=og d.rg.vh v (by have:=hb.rg.v;omega);have E:=k8 d.rq d.rg.ag.req id (dL d.rg.vh v) u (C.map (XT f3)) f3 hv n0 n1 (by rw[zA5];omega);have a4:((id::v::u::bH C).map iA).length=3+4*ln C:=by simp[TX];omega
 have a3:=zA wK c.js;unfold Rp Ya mg;unfold wH zN xD;rw[show zX ⟨k,R,id::v::u::bH C,[]⟩= .agg [iA k,zE yA R,zE iA (id::v::u::bH C),.sl false []]from Z];generalize XS d.rg.vh v=au at*
 cases au with
 |false=>
  rw[Os zBl,Os xA];refine eM call243 λF hF=>?_
  exact mx L
 |true=>
 rw[zA4 Z];generalize dL d.rg.vh v=vh at *;unfold vA at L E;by_cases S:G<vh.cls
 .rw[zA4 S,Os xA];refine eM call243 λF hF=>?_
  exact mx L
 rw[Os S];refine eM call243 λF hF=>?_
 refine zU L ?_;refine zS 14 1001 5 Z Z Z ?_;refine gE (ln C) [1001,5,6,7,12,10] [5,6,7,12,10] [4,5,6,7,10,12] [14,15,4,5,6,7,10,12] Z (λzn T U zs=>∃(f4:List Qd) (post:List Qd),(C=f4++post/\zn=ln post/\f4.all (aV c f3)=true)/\zs=⟨(14,.ref 1001 0 (f4.map λq=>yO (XT f3 q)).length)::(15,iA (3+4*(ln f4:Int)))::T,(1001,.arr 5 (f4.map λq=>yO (XT f3 q)) true)::U⟩) ?_;(conv=>whnf);refine⟨?_,?_⟩
 .exact⟨[],C,⟨rfl,rfl,rfl⟩,rfl⟩
 .rintro zn st ⟨f4,post,⟨hqs,hzn,hok⟩,rfl⟩;have W:ln C=ln f4+ln post:=by rw[hqs,zA9]
  have a6:=zA (λq=>yO (XT f3 q)) f4
  cases post with
  |nil=>
   rw[zB1]at hqs;subst hqs;rw[zA4 hok];rw[zCb]at W hzn;have e1:(C.map λq=>yO (XT f3 q))=(C.map (XT f3)).map yO:=by rw[zGu];rfl
   unfold L6 at E;rw[e1]at *; generalize C.map (XT f3)=ls at *;generalize Er d.rq d.rg.ag.req id u vh ls=e at *;generalize fA d.rq (gO id vh u ls f3)=il at *;generalize hI:3+4*(ln C:Int)=I at *;rw[show(id::v::u::bH C).map iA=iA id::iA v::iA u::(bH C).map iA from Z]at *; generalize (bH C).map iA=A at *;refine WD ?_;refine wL [5,6,7,10,12] [4,5,6,7,10,12,14] Z ?_
   (conv=>whnf)
   simp only[zBr,zA8];by_cases he:e=0
   .subst he;rw[zA4 Z]at E⊢;exact mx E
   .rw[Os he]at E⊢;exact mx E
  | cons q post=>
   have ap:=hp q (by rw[hqs];simp);have ar:=O4 id v u f4 post q _ Z;rw[<-hqs]at ar;rw[zBj]at W hzn;have z:aV c f3 q=false->¬C.all (aV c f3)=true:=λh=>by rw[hqs];exact Qp h
   have B:aV c f3 q=true->(f4++[q]).all (aV c f3)=true:=λh=>by rw[List.all_append,hok,zFm,h];rfl
   have M:((f4++[q]).map λq=>yO (XT f3 q))=(f4.map λq=>yO (XT f3 q))++[yO (XT f3 q)]:=by simp
   have O:=AG q.j q.p q.f q.t f3;rw[show aV c f3 q=(decide (q.j<(ln c.js:Int))&&(decide (q.p<((c.js.getD q.j.toNat dd).ph.length:Int))&&EU q.j q.p q.f q.t f3))from Z]at z B;have a2:(id::v::u::bH C).length=3+4*ln C:=by simp[TX];omega
   generalize hA:id::v::u::bH C=A at *;have hI:0<=3+4*(ln f4:Int)/\3+4*(ln f4:Int)+4=3+4*((f4++[q]).length:Int)/\3+4*(ln f4:Int)+4<=ln A:=⟨zB,by simp;omega,zB⟩
   cases g3:EU q.j q.p q.f q.t f3 with
   |false=>
    rw[g3]at z O;rw[zC4,zC4]at z;rw[Os zBl]at O;rw[Os (z Z),Os xA];generalize 3+4*(ln f4:Int)=I at *;generalize FB q.j q.p q.f q.t f3=lg at *;clear z B M hqs;exact mx O
   |true=>
   rw[g3]at B O z;rw[zA4 Z]at O;by_cases Y:q.j<(ln c.js:Int)
   case neg=>
    rw[zA6 Y]at z;rw[Os (z Z),Os xA];generalize 3+4*(ln f4:Int)=I at *;generalize FB q.j q.p q.f q.t f3=lg at *;clear z B M hqs;exact mx O
   have ax:=yF wK c.js q.j ap.1 Y;rw[zA7 Y]at z B;rw[show wK (c.js.getD q.j.toNat dd)= .agg [zE xN (c.js.getD q.j.toNat dd).ph,zE iA (c.js.getD q.j.toNat dd).cf,iA (c.js.getD q.j.toNat dd).st]from Z]at ax;generalize c.js.getD q.j.toNat dd=jn at *;have a5:=zA xN jn.ph;by_cases g2:q.p<(ln jn.ph:Int)
   case neg=>
    rw[zA6 g2]at z;rw[Os (z Z),Os xA];generalize 3+4*(ln f4:Int)=I at *;generalize FB q.j q.p q.f q.t f3=lg at *;clear z B M hqs;exact mx O
   rw[zA7 g2]at B;have av:=B Z;obtain⟨az,ac,a1⟩:=hI;have V:C=(f4++[q])++post:=by rw[hqs];simp
   rw[show FB q.j q.p q.f q.t f3=XT f3 q from Z]at O;generalize XT f3 q=lg at *;clear z B hqs;generalize a7:f4++[q]=pq at *;generalize (f4.map λq=>yO (XT f3 q))=xs at *;generalize 3+4*(ln f4:Int)=I at *;refine zU O ?_;exact⟨ln post,zB,pq,post,⟨V,rfl,av⟩,by rw[M,<-ac];rfl⟩
def PE (n:Int) (a:Ag) (N:Nat):wD:=⟨PA n a,[],[],List.replicate N false⟩
def N4 (n:Int) (a:Ag) (N:Nat) (hN:N=1\/N=2) (A:a.ses=(N:Int)) (E:ln a.sec<=1000000) (hl:ln a.lim<=1000000):zM 80 [iA n,uK a] [] (zN (PE n a N)) []:=by
 have z:=S3 n a E hl;unfold PE;obtain⟨u,L,C,G,M,O,I,B⟩:=a;dsimp only at A;subst A;unfold uK uR at z;unfold uK zN xD;dsimp only at *;generalize PA n ⟨u,L,C,G,M,(N:Int),I,B⟩=r at*
 rcases hN with rfl|rfl
 all_goals
  refine eM call80 λF hF=>?_
  exact mx z
def Gv (n:Int) (a:Ag) (N:Nat) (hN:N=1\/N=2) (A:a.ses=(N:Int)) (E:ln a.sec<=1000000) (hl:ln a.lim<=1000000):zM 85 [iA n,uK a] [] (zN (PE n a N)) []:=by
 have z:=Ju n a E hl;unfold PE;obtain⟨u,L,C,G,M,O,I,B⟩:=a;dsimp only at A;subst A;unfold uK uR at z;unfold uK zN xD;dsimp only at *;generalize PA n ⟨u,L,C,G,M,(N:Int),I,B⟩=r at*
 rcases hN with rfl|rfl
 all_goals
  refine eM call85 λF hF=>?_
  exact mx z
def w2 (p:Int×Int):List Int:=[p.1,p.2]
def SJ (u:List (Int×Int)):List Int:=(u.map w2).flatten
theorem OJ:∀u:List (Int×Int),(SJ u).length=2*ln u
 | []=>rfl
 |x::l=>by
  have:=OJ l
  show(x.1::x.2::SJ l).length=_
  simp only[zBj];omega
theorem Fv (a b:List (Int×Int)):SJ (a++b)=SJ a++SJ b:=by simp[SJ]
theorem Iy (x:Int) (f4 post:List (Int×Int)) (q:Int×Int) (I:Int) (u:I=1+2*(ln f4:Int)):
  ((x::SJ (f4++q::post)).map iA)[I.toNat]? =some (iA q.1)/\((x::SJ (f4++q::post)).map iA)[(I+1).toNat]? =some (iA q.2):=by
 have h:(x::SJ (f4++q::post)).drop (1+2*ln f4)=SJ (q::post):=by
  grind [SJ,iA,Fv,OJ,List.drop_of_length_le]
 refine⟨?_,?_⟩<;>rw[zBd]
 .rw[show I.toNat=1+2*ln f4+0 by omega,XM h];rfl
 .rw[show(I+1).toNat=1+2*ln f4+1 by omega,XM h];rfl
def Hy (l:List Rq) (id:Int) (u:List (Int×Int)) (f3:Int):List Rq:=if fV l id u f3=0 then YF l id u f3 else []
def M4 (c:Cf) (d:wD) (z:List Int) (id E f3:Int) (u:List (Int×Int)) (hv:cM d.rq) (hw:ln u<=3) (n0:0<=f3) (n1:f3<=1073741824):
  zM 270 [wH c,zN d,zX ⟨7,z,id::SJ u,[]⟩,iA E,iA f3] [] (.tup [zE zY (Hy d.rq id u f3),iA (fV d.rq id u f3)]) []:=by
 have hu:=Eo d.rq id u f3 hv zB n0 n1;have V:((id::SJ u).map iA).length=1+2*ln u:=by simp[OJ];omega
 unfold Hy;unfold wH zN xD;rw[show zX ⟨7,z,id::SJ u,[]⟩= .agg [iA 7,zE yA z,zE iA (id::SJ u),.sl false []]from Z];generalize fV d.rq id u f3=e,YF d.rq id u f3=ul at *;refine eM call270 λF hF=>?_
 refine WW ?_;refine zS 13 1001 2 Z Z Z ?_;refine gE (ln u) [1001,6,7] [6,7] [4,6,7,12] [13,14,4,6,7,12] Z (λO T U zs=>∃(f4:List (Int×Int)) (post:List (Int×Int)),(u=f4++post/\O=ln post)/\zs=⟨(13,.ref 1001 0 (f4.map PD).length)::(14,iA (1+2*(ln f4:Int)))::T,(1001,.arr 2 (f4.map PD) true)::U⟩) ?_;(conv=>whnf);refine⟨?_,?_⟩
 .exact⟨[],u,⟨rfl,rfl⟩,rfl⟩
 .rintro O st ⟨f4,post,⟨hqs,hzn⟩,rfl⟩;have C:ln u=ln f4+ln post:=by rw[hqs,zA9]
  have W:=zA PD f4
  cases post with
  |nil=>
   rw[zB1]at hqs;subst hqs;rw[zCb]at C hzn;generalize M:1+2*(ln u:Int)=I at *;generalize (id::SJ u).map iA=A at*
   (have ga:=hu;have kh:=(⟨⟩:su 310 [5,6,7] [58,59,60,61]);refine WW ?_;clear ga kh)
   exact zH
  |cons q post=>
   obtain⟨y0,y1⟩:=Iy id f4 post q _ Z;rw[<-hqs]at y0 y1;rw[zBj]at C hzn;have L:((f4++[q]).map PD)=f4.map PD++[.agg [iA q.1,iA q.2]]:=by simp[PD]
   have M:0<=1+2*(ln f4:Int)/\1+2*(ln f4:Int)+2=1+2*((f4++[q]).length:Int)/\1+2*(ln f4:Int)+1<((id::SJ u).map iA).length:=⟨zB,by simp;omega,zB⟩;have B:u=(f4++[q])++post:=by rw[hqs];simp
   generalize (id::SJ u).map iA=A at *;obtain⟨R,G,S⟩:=M;clear hqs;generalize Y:f4++[q]=pq at *;generalize f4.map PD=xs at *;generalize 1+2*(ln f4:Int)=I at *;refine WW ?_;exact⟨ln post,zB,pq,post,⟨B,rfl⟩,by rw[L,<-G];rfl⟩
def L4 (d:wD) (z:List Int) (id f3:Int) (u:List (Int×Int)) (hv:cM d.rq) (hw:ln u<=3) (n0:0<=f3) (n1:f3<=1073741824):
  zM 244 [zN d,zX ⟨7,z,id::SJ u,[]⟩,iA f3] [] (.tup [zN (mg d (if fV d.rq id u f3=0 then Hy d.rq id u f3 else d.rq)),iA (fV d.rq id u f3)]) []:=by
 have E:=mi d.rq id u f3 hv zB n0 n1;have W:((id::SJ u).map iA).length=1+2*ln u:=by simp[OJ];omega
 unfold Hy mg;unfold zN xD;rw[show zX ⟨7,z,id::SJ u,[]⟩= .agg [iA 7,zE yA z,zE iA (id::SJ u),.sl false []]from Z];generalize fV d.rq id u f3=e,YF d.rq id u f3=ul at *;refine eM call244 λF hF=>?_
 refine WW ?_;refine zS 8 1001 2 Z Z Z ?_;refine gE (ln u) [1001,3,4,6] [3,4,6] [2,3,4,6] [8,9,2,3,4,6] Z (λR T U zs=>∃(f4:List (Int×Int)) (post:List (Int×Int)),(u=f4++post/\R=ln post)/\zs=⟨(8,.ref 1001 0 (f4.map PD).length)::(9,iA (1+2*(ln f4:Int)))::T,(1001,.arr 2 (f4.map PD) true)::U⟩) ?_;(conv=>whnf);refine⟨?_,?_⟩
 .exact⟨[],u,⟨rfl,rfl⟩,rfl⟩
 .rintro R st ⟨f4,post,⟨hqs,hzn⟩,rfl⟩;have C:ln u=ln f4+ln post:=by rw[hqs,zA9]
  have Y:=zA PD f4
  cases post with
  |nil=>
   rw[zB1]at hqs;subst hqs;rw[zCb]at C hzn;generalize M:1+2*(ln u:Int)=I at *;rw[show(id::SJ u).map iA=iA id::(SJ u).map iA from Z]at *; generalize (SJ u).map iA=A at *;refine WD ?_;refine wL [3,4,6] [2,3,4,6,8] Z ?_
   (conv=>whnf)
   simp only[zBr,zA8];by_cases O:e=0
   .subst O;rw[zA4 Z]at E⊢;exact mx E
   .rw[Os O]at E⊢;exact mx E
  |cons q post=>
   obtain⟨y0,y1⟩:=Iy id f4 post q _ Z;rw[<-hqs]at y0 y1;rw[zBj]at C hzn;have L:((f4++[q]).map PD)=f4.map PD++[.agg [iA q.1,iA q.2]]:=by simp[PD]
   have M:0<=1+2*(ln f4:Int)/\1+2*(ln f4:Int)+2=1+2*((f4++[q]).length:Int)/\1+2*(ln f4:Int)+1<((id::SJ u).map iA).length:=⟨zB,by simp;omega,zB⟩;have B:u=(f4++[q])++post:=by rw[hqs];simp
   generalize (id::SJ u).map iA=A at *;obtain⟨S,G,V⟩:=M;clear hqs;generalize ac:f4++[q]=pq at *;generalize f4.map PD=xs at *;generalize 1+2*(ln f4:Int)=I at *;refine WW ?_;exact⟨ln post,zB,pq,post,⟨B,rfl⟩,by rw[L,<-G];rfl⟩
def K4 (c:Cf) (d:wD) (C:List Int) (id v u z f3:Int) (B:List Qd) (hb:dH d) (hv:cM d.rq) (M:0<=z) (O:z<(ln d.rg.tk:Int)) (G:ln B<=3) (E:∀q∈B,0<=q.j/\0<=q.p) (I:0<=f3) (L:f3<=1073741824):
  zM 270 [wH c,zN d,zX ⟨6,C,id::v::u::bH B,[]⟩,iA z,iA f3] [] (.tup [zE zY (Rp c d (d.rg.tk.getD z.toNat dd).cls id v u f3 B),iA (Ya c d (d.rg.tk.getD z.toNat dd).cls id v u f3 B)]) []:=by
 have h:=Ti c d id v u z f3 B hb hv M O G E I L;generalize Ya c d (d.rg.tk.getD z.toNat dd).cls id v u f3 B=e,Rp c d (d.rg.tk.getD z.toNat dd).cls id v u f3 B=R at *;rw[show zE iA (id::v::u::bH B)= .sl false (iA id::iA v::iA u::(bH B).map iA)from Z]at h;rw[show zX ⟨6,C,id::v::u::bH B,[]⟩= .agg [iA 6,zE yA C,.sl false (iA id::iA v::iA u::(bH B).map iA),.sl false []]from Z];generalize (bH B).map iA=A at *;unfold wH zN xD at *;refine eM call270 λF hF=>?_
 exact mx h
def J4 (c:Cf) (d:wD) (u:List Int) (id z f3:Int) (hv:cM d.rq):
  zM 270 [wH c,zN d,zX ⟨8,u,[id],[]⟩,iA z,iA f3] [] (.tup [zE zY (if kV d.rq id=true then TO d.rq id else []),iA (if kV d.rq id=true then 0 else 12)]) []:=by
 have h:=ao d.rq id hv;generalize (if kV d.rq id=true then TO d.rq id else [])=l,(if kV d.rq id=true then(0:Int)else 12)=e at *;rw[show zX ⟨8,u,[id],[]⟩= .agg [iA 8,zE yA u,.sl false [iA id],.sl false []]from Z];unfold wH zN xD at *;refine eM call270 λF hF=>?_
 exact mx h
def TY (l:List Tk) (s:Int):zM 344 [zE yN l,iA s] [] (bA (jZ l s)) []:=by
 have hl:=zA yN l;unfold jZ;by_cases h1:0<=s
 .by_cases h2:s<ln l
  .have u:=yF yN l s h1 h2;rw[zA7 ⟨h1,h2⟩,zBg];refine eM call344 λF hF=>?_
   exact ly
  .rw[zA6 zB,zB7];refine eM call344 λF hF=>?_
   exact ly
 .rw[zA6 zB,zB7];refine eM call344 λF hF=>?_
  exact ly
def Pp (g s:Int) (l:List Int) (hl:ln l<=1000000) (z:0<=g) (A:g<256) (B:0<=s) (C:s<256):zM 376 [iA g,iA s,zE yA l] [] (zE yA (g::s::l)) []:=by
 have u:=zA yA l;refine eM call376 λF hF=>?_
 refine WW ?_;exact zI [] Z Z (zBp (AV.sl false) (zBf zW)) Z
theorem zAq (n:Int) (h:0<=n):vV n 7=n/128:=by grind [vV]
def P7:Nat->Int
 |0=>1
 |z+1=>128*P7 z
def K6 (n:Int):Int:=IntKind.u8.wrap ((BitVec.ofInt IntKind.u8.bits (IntKind.u8.wrap (jJ n 127)) ||| BitVec.ofInt IntKind.u8.bits 128).toNat)
def Uj:Nat->Int->List Int
 |0,n=>[n]
 |z+1,n=>if 128<=n then K6 n::Uj z (n/128)else [n]
theorem FY:∀z n,(Uj z n).length<=z+1
 |0,n=>zBa _
 |z+1,n=>by
  unfold Uj;split
  .have:=FY z (n/128);simp only[zBj];omega
  .simp
def Dv (z:Nat) (n:Int) (h:n<128):Uj z n=[n]:=by
 cases z with
 |zero=>rfl
 |succ z=>unfold Uj;rw[Os zB]
def RV (n:Int):List Int:=if 0<=n/\n<=4294967295 then Uj 5 n else []
def Np (n:Int):Int:=if 0<=n/\n<=4294967295 then 0 else 8
theorem aW (n:Int):(RV n).length<=6:=by grind [RV,FY]
def FZ (n:Int):zM 235 [iA n] [] (.tup [zE yA (RV n),iA (Np n)]) []:=by
 unfold RV Np;by_cases h1:0<=n
 case neg=>
  rw[Os (λh=>h1 h.1),Os (λh=>h1 h.1)];refine eM call235 λF hF=>?_
  exact ly
 by_cases h2:n<=4294967295
 case neg=>
  rw[Os (λh=>h2 h.2),Os (λh=>h2 h.2)];refine eM call235 λF hF=>?_
  exact ly
 rw[zA4 ⟨h1,h2⟩,zA4 ⟨h1,h2⟩];refine eM call235 λF hF=>?_
 refine WW ?_;refine vS 11 Z ?_;refine gE (5) [11] [] [] [0,4] Z (λA T U S=>∃(u:List Int) (x:Int),(0<=x/\x<P7 A*128/\u++Uj A x=Uj 5 n/\u.length<=100)/\S=⟨(0,iA x)::(4,.ref 11 0 (u.map yA).length)::T,(11,.arr 1 (u.map yA) true)::U⟩) ?_;(conv=>whnf);refine⟨?_,?_⟩
 .exact⟨[],n,⟨h1,by show n<34359738368*128;omega,rfl,by simp⟩,rfl⟩
 .rintro A st ⟨u,x,⟨b1,b2,b3,b4⟩,rfl⟩;have O:=zA yA u;by_cases R:128<=x
  .have W:A≠0:=λe=>by
    subst e;have:P7 0=1:=rfl;omega
   obtain⟨z,rfl⟩:∃z,A=z+1:=⟨A-1,zB⟩;have e:=zAq x b1;have L:P7 (z+1)=128*P7 z:=rfl
   have I:Uj (z+1) x=K6 x::Uj z (x/128):=by
    show(if 128<=x then _ else _)=_
    rw[zA4 R]
   rw[I]at b3;have G:(u++[K6 x]).map yA=u.map yA++[yA (K6 x)]:=by simp
   have C:u++[K6 x]++Uj z (vV x 7)=Uj 5 n:=by rw[e,zBx];exact b3
   have B:0<=vV x 7/\vV x 7<P7 z*128:=by rw[e];rw[L]at b2;omega
   have E:ln u+1<=100:=by
    have M:=zBp List.length b3;have V:=FY 5 n;simp only[zA9,zBj]at M;omega
   clear I b3 L
   (repeat' (first|refine uQ ?_|apply yW|apply xG|intro hc|(apply zG;first|(apply wR;refine wJ (HW Z Z) Z ?_))|fail))
   exact⟨z,zB,u++[K6 x],vV x 7,⟨B.1,B.2,C,by simpa using E⟩,by rw[G];rfl⟩
  .rw[Dv A x zB]at b3;rw[<-b3];have G:zE yA (u++[x])= .sl false ((u.map yA++[yA (x)]).take (u.map yA++[yA (x)]).length):=by rw[zA8];unfold zE;rw[zBc];rfl
   rw[G];exact ly
