/- Part 12. -/
import Derived.Test.YtaglbcjljlkjcaaGreatU11
namespace Go.Proofs.YtaglbcjljlkjcaaGreat.Av
open Tryz
set_option linter.all false
set_option maxRecDepth 4000
set_option maxHeartbeats 2000000
open List renaming length->ln,range->pi
open Inhabited renaming default->dd
variable {l:List Vh}
def Ff (r:Rg) (hb:GW r):zN 167 [uQ r] [] (uQ r) []:=by
 have I:=hb.s;have B:=hb.l;have C:=kT r.ag.sec zB;have E:=TC r.ag.lim zB;have G:=hb.tk.n;have hv:=hb.v;have u:=VM r.tk zB;have z:=AG r.vh zB;have A:=zA yP r.tk;refine eM call167 λF hF=>?_
 refine yF (qC C E u) ?_;refine zO ((r.tk.map yP).length) [1001,1,2] [1,2] [1,2,22] [23,1,2,22] Z (λi T U=>⟨(23,iA i)::T,(1001,.arr 6 (dR i (r.tk.map yP)) false)::U⟩) (Lq ?_ ?_)
 .intro i hi;have hi':i<ln r.tk:=by omega
  have L:(dR i (r.tk.map yP))[i]? =some (yP (r.tk.getD i dd)):=zJ yP r.tk i hi';have e:=cB yP r.tk i hi';have u:=kT (r.tk.getD i dd).sec (by have:=hb.tk.s (r.tk.getD i dd) QM;omega);generalize (r.tk.getD i dd)=t,dR i (r.tk.map yP)=xs,dR (i+1) (r.tk.map yP)=ys at *;subst e;refine zS u ?_;rfl
 ·(refine zS z ?_)
  exact zI [] Z Z (zBd (rgX r) zAv) Z
structure wC where
 rg:Rg
 rq:List Rq
 dr:List (List Int)
 au:List Bool
def qO (l:List Int):AV:=zE yA l
def xD (r:Rg) (a b c:AV):AV:= .agg [iA r.num,zE yA r.ag.sec,iA r.ag.rights,iA r.ag.cls,zE iA r.ag.lim,iA r.ag.req,iA r.ag.ses,iA r.ag.rate,iA r.ag.burst,zE yP r.tk,zE vC r.vh,iA r.bk.level,iA r.bk.rate,iA r.bk.burst,a,b,c]
def zM (d:wC):AV:=xD d.rg (zE zY d.rq) (zE qO d.dr) (zE bA d.au)
structure dN (d:wC):Prop where
 rg:GW d.rg
 q:d.rq.length<=1000
 g:∀r∈d.rq,r.legs.length<=1000
 n:d.dr.length<=1000
 e:∀b∈d.dr,b.length<=1000
 a:d.au.length<=1000
def MX (l:List Rq) (hl:ln l<=1073741824):zN 168 [zE zY l] [] (.ref 1001 0 (l.map zY).length) [(1001,.arr 5 (l.map zY) false)]:=by
 have u:=zA zY l;refine eM call168 λF hF=>?_
 refine xI 0 Z (λcap z=>?_) ?_
 .have:l=[]:=by simpa using z
  subst this
  (repeat' (first|refine Xf ?_|apply yW|apply xH|intro hc|fail))
  refine qH 2 1001 5 Z Z Z (xL ?_);exact zP [1001] Z Z Z Z
 .repeat' (first|(apply zG;first|refine uM tok Z Z ?_|(apply wY;refine wM (xY tok (.inl ⟨rfl,rfl⟩) Z Z Z Z) Z ?_)|(apply yH;refine uT (nw:=[1001]) (yV tok 1001 (xs:=[]) Z Z Z Z Z Z Z Z Z) Z Z Z ?_)|(apply yC;refine vB tok Z Z Z Z Z Z Z (yM _ _ (λ_=>rfl)) Z Z Z zB Z ?_)|apply kQ)|(first|apply xX|apply xT|refine vZ Z ?_|refine yS Z ?_|refine yD Z ?_|refine xZ Z (λhc=>?_) λhc=>?_|apply xJ|apply xL|apply xS|apply xB))
  exact zP [1001] Z Z Z Z
def MY (l:List (List Int)) (hl:ln l<=1073741824):zN 170 [zE qO l] [] (.ref 1002 0 (l.map qO).length) [(1002,.arr 1 (l.map qO) false)]:=by
 have u:=zA qO l;refine eM call170 λF hF=>?_
 refine xI 0 Z (λcap z=>?_) ?_
 .have:l=[]:=by simpa using z
  subst this
  (repeat' (first|refine Xf ?_|apply yW|apply xH|intro hc|fail))
  refine qH 2 1002 1 Z Z Z (xL ?_);exact zP [1002] Z Z Z Z
 .repeat' (first|(apply zG;first|refine uM tok Z Z ?_|(apply wY;refine wM (xY tok (.inl ⟨rfl,rfl⟩) Z Z Z Z) Z ?_)|(apply yH;refine uT (nw:=[1002]) (yV tok 1002 (xs:=[]) Z Z Z Z Z Z Z Z Z) Z Z Z ?_)|(apply yC;refine vB tok Z Z Z Z Z Z Z (yM _ _ (λ_=>rfl)) Z Z Z zB Z ?_)|apply kQ)|(first|apply xX|apply xT|refine vZ Z ?_|refine yS Z ?_|refine yD Z ?_|refine xZ Z (λhc=>?_) λhc=>?_|apply xJ|apply xL|apply xS|apply xB))
  exact zP [1002] Z Z Z Z
def zp (l:List Bool) (hl:ln l<=1073741824):zN 171 [zE bA l] [] (zE bA l) []:=by
 have u:=zA bA l;refine eM call171 λF hF=>?_
 refine xI 0 Z (λcap z=>?_) ?_
 .have:l=[]:=by simpa using z
  subst this;exact mx
 ·(refine WW ?_)
  refine zI [] Z Z (fZ _ _) Z
def MZ (d:wC) (hb:dN d):zN 106 [zM d] [] (zM d) []:=by
 have z:=Ff d.rg hb.rg;have O:=hb.q;have B:=hb.n;have A:=hb.a;have I:=MX d.rq zB;have L:=MY d.dr zB;have M:=zp d.au zB;have E:=zA zY d.rq;have C:=zA qO d.dr;unfold zM xD;unfold uQ at z;refine eM call106 λF hF=>?_
 refine yF (xQ z I) ?_;refine zO ((d.rq.map zY).length) [1001,1,2] [1,2] [1,2,15] [16,1,2,15] Z (λi T U=>⟨(16,iA i)::T,(1001,.arr 5 (dR i (d.rq.map zY)) false)::U⟩) (Lq ?_ ?_)
 .intro i hi;have hi':i<ln d.rq:=by omega
  have G:(dR i (d.rq.map zY))[i]? =some (zY (d.rq.getD i dd)):=zJ zY d.rq i hi';have e:=cB zY d.rq i hi';have u:=XC (d.rq.getD i dd).legs (hb.g (d.rq.getD i dd) QM);generalize (d.rq.getD i dd)=t,dR i (d.rq.map zY)=xs,dR (i+1) (d.rq.map zY)=ys at *;subst e;refine zS u ?_;rfl
 ·(refine zS L ?_)
  refine zO ((d.dr.map qO).length) [1002,1,2,1001] [1,2,1001] [1,2,38] [39,1,2,38] Z (λi T U=>⟨(39,iA i)::T,(1002,.arr 1 (dR i (d.dr.map qO)) false)::U⟩) (Lq ?_ ?_)
  .intro i hi;have hi':i<ln d.dr:=by omega
   have G:(dR i (d.dr.map qO))[i]? =some (qO (d.dr.getD i dd)):=zJ qO d.dr i hi';have e:=cB qO d.dr i hi';have u:=kT (d.dr.getD i dd) (by have:=hb.e (d.dr.getD i dd) QM;omega);generalize (d.dr.getD i dd)=t,dR i (d.dr.map qO)=xs,dR (i+1) (d.dr.map qO)=ys at *;subst e;refine zS u ?_;rfl
  ·(refine zS M ?_)
   refine zI [] Z Z ?_ Z
   show xD d.rg (.sl false ((d.rq.map zY).take (d.rq.map zY).length)) (.sl false ((d.dr.map qO).take (d.dr.map qO).length)) (zE bA d.au)=_
   rw[zAv,zAv];rfl
def kN (d:wC) (hb:dN d):zN 125 [zM d] [] (zM d) []:=by
 have z:=eI d.rg hb.rg;have O:=eE d.rq hb.q hb.g;have S:=hb.q;have B:=hb.n;have A:=hb.a;have G:=zA zY d.rq;have E:=zA qO d.dr;have C:=zA bA d.au;unfold zM xD;unfold uQ at z;refine eM call125 λF hF=>?_
 refine RH (xQ z O) ?_;refine zQ 4 1001 1 Z Z Z ?_;refine zU (d.dr) [1001,2,3] [2,3] [2,3,18,19] [4,20,2,3,18,19] Z (λi ga T U=>⟨(4,.ref 1001 0 (ga.map qO).length)::(20,iA i)::T,(1001,.arr 1 (ga.map qO) true)::U⟩) (Lq ?_ ?_)
 .intro i ga x post u hi;have W:=yJ qO u hi;have I:=zW u hi;have L:(ga.map qO).length=i:=by rw[zAt,hi]
  have V:=hb.e x (xA u);have M:=zA yA x;have e:(ga++[x]).map qO=ga.map qO++[qO x]:=by simp
  clear u;rw[e];generalize ga.map qO=xs,d.dr.map qO=Y at *;refine WL ?_;rfl
 ·(refine WL ?_)
  refine zI [] Z Z ?_ Z
  show xD d.rg (zE zY d.rq) (.sl false ((d.dr.map qO).take (d.dr.map qO).length)) (zE bA d.au)=_
  rw[zAv];rfl
def dG (l:List Vh) (id:Int):Vh:=(l.find? λv=>v.id==id).getD ⟨0,0⟩
def XQ (l:List Vh) (id:Int):Bool:=l.any λv=>v.id==id
def IL {ga post:List Vh} {x:Vh} {id:Int} (h:l=ga++x::post) (u:∀y∈ga,y.id≠id) (z:x.id=id):dG l id=x/\XQ l id=true:=by grind [dG,XQ]
def LA {id:Int} (u:∀y∈l,y.id≠id):dG l id=⟨0,0⟩/\XQ l id=false:=by grind [dG,XQ,List.find?_eq_none]
def Ef (l:List Vh) (id:Int) (G:ln l<=1000000):zN 291 [zE vC l,iA id] [] (.tup [vC (dG l id),bA (XQ l id)]) []:=by
 have hl:=zA vC l;refine eM call291 λF hF=>?_
 refine WW ?_;refine uW (l) [4] [] [1,4,8,9] [10,1,4,8,9] Z (λi ga T U E=>(∀y∈ga,y.id≠id)/\E=⟨(10,iA i)::T,(4,.box [.s (.int .i64 0),.s (.int .i64 0)])::U⟩) (Lp ?_ ?_ ?_)
 .exact⟨by simp,rfl⟩
 .rintro i ga x post st u hi ⟨hp,rfl⟩;have z:=yJ vC u hi;have C:=zW u hi;by_cases B:x.id=id
  .obtain⟨e1,A⟩:=IL u hp B;rw[e1,A];clear u;exact mx
  .clear u;refine WW ?_;exact⟨λy z=>by simp only[zBe,zBm]at z;rcases z with z|rfl;exact hp y z;exact B,rfl⟩
 .rintro st ⟨hp,rfl⟩;obtain⟨e1,A⟩:=LA hp;rw[e1,A];exact mx
def uX (l:List Vh) (c:Int):Nat:=(l.filter λv=>v.cls==c).length
def yp (l:List Vh) (c:Int) (B:ln l<=1000000):zN 368 [zE vC l,iA c] [] (iA (uX l c)) []:=by
 have hl:=zA vC l;refine eM call368 λF hF=>?_
 refine WW ?_;refine zU (l) [] [] [1,8,9] [5,10,1,8,9] Z (λi ga T U=>⟨(5,iA (uX ga c))::(10,iA i)::T,U⟩) (Lq ?_ ?_)
 .intro i ga x post u hi;have C:=yJ vC u hi;have A:=zW u hi;have z:uX ga c<=i:=by rw[<-hi];exact zCj _ _
  have e:uX (ga++[x]) c=uX ga c+(if x.cls=c then 1 else 0):=by
   unfold uX;rw[zFt,zAx];by_cases h:x.cls=c
   all_goals simp[h]
  clear u;by_cases h:x.cls=c
  .rw[zAs h]at e;rw[e];generalize uX ga c=m at *;refine WW ?_;rfl
  .rw[Os h,zDi]at e;rw[e];generalize uX ga c=m at *;refine WW ?_;rfl
 .exact mx
def bZ (l:List Vh) (i:Nat):Bool:=decide (0<=(l.getD i dd).id/\(l.getD i dd).id<=4294967295/\0<=(l.getD i dd).cls/\(l.getD i dd).cls<=3/\(0<i->(l.getD (i-1) dd).id<(l.getD i dd).id))
def LB (l:List Vh):Bool:=((pi (ln l)).all λi=>bZ l i)&&decide ((ln l:Int)<=8)
def xp {i:Nat} (hi:i<ln l) (h:bZ l i=false):LB l=false:=by grind [bZ,LB]
def RN (l:List Vh) (hn:ln l<=1000000):zN 364 [zE vC l] [] (bA (LB l)) []:=by
 have hl:=zA vC l;refine eM call364 λF hF=>?_
 refine WW ?_;refine yU (ln l) [] [] [0,5,6] [7,0,5,6] Z (λi T U zs=>(∀s:Nat,s<i->bZ l s=true)/\zs=⟨(7,iA i)::T,U⟩) (Lp ?_ ?_ ?_)
 .exact⟨λs W=>absurd W (zCp _),rfl⟩
 .rintro i st hi ⟨hp,rfl⟩
  have z:bZ l i=true->∀s:Nat,s<i+1->bZ l s=true:=λh s W=>by
   by_cases S:s=i
   .subst S;exact h
   .exact hp s zB
  have A:=λh=>xp (l:=l) hi h
  have hy:=zJ vC l i hi;have u:bZ l i=_:=rfl
  conv at u=>rhs;unfold bZ
  by_cases C:0<i
  .have B:=yE vC l ((i:Int)-1) zB zB;rw[show((i:Int)-1).toNat=i-1 by omega]at B;have ac:(l.map vC)[((i:Int)-1).toNat]? =some (vC (l.getD (i-1) dd)):=by rw[show((i:Int)-1).toNat=i-1 by omega];exact B
   clear B;generalize l.getD i dd=t,l.getD (i-1) dd=p,bZ l i=tk at *;by_cases h1:0<=t.id/\t.id<=4294967295/\0<=t.cls/\t.cls<=3/\p.id<t.id
   .obtain⟨h1,h2,M,O,h5⟩:=h1;rw[zAw ⟨h1,h2,M,O,λ_=>h5⟩]at u;refine WW ?_;exact⟨z u,rfl⟩
   .rw[zAu (λh=>h1 ⟨h.1,h.2.1,h.2.2.1,h.2.2.2.1,h.2.2.2.2 C⟩)]at u;rw[A u]
    by_cases E:0<=t.id<;>by_cases G:t.id<=4294967295<;>by_cases I:0<=t.cls<;>by_cases L:t.cls<=3<;>by_cases Y:p.id<t.id<;>first|(exfalso;exact h1 ⟨E,G,I,L,Y⟩)|(exfalso;omega;done)|(clear h1;((refine WW ?_));exact zH)
  .obtain rfl:i=0:=by omega
   generalize l.getD 0 dd=t,bZ l 0=tk at *;by_cases h1:0<=t.id/\t.id<=4294967295/\0<=t.cls/\t.cls<=3
   .obtain⟨h1,h2,M,O⟩:=h1;rw[zAw ⟨h1,h2,M,O,λh=>absurd h C⟩]at u;refine WW ?_;exact⟨z u,rfl⟩
   .rw[zAu (λh=>h1 ⟨h.1,h.2.1,h.2.2.1,h.2.2.2.1⟩)]at u;rw[A u]
    by_cases E:0<=t.id<;>by_cases G:t.id<=4294967295<;>by_cases I:0<=t.cls<;>by_cases L:t.cls<=3<;>first|(exfalso;exact h1 ⟨E,G,I,L⟩)|(exfalso;omega;done)|(clear h1;((refine WW ?_));exact zH)
 .rintro st ⟨hp,rfl⟩;have e:((pi (ln l)).all λi=>bZ l i)=true:=zA7.2 λi hi=>hp i (zBj.1 hi)
  unfold LB;rw[e,zA3];by_cases V:(ln l:Int)<=8
  .rw[zAw V];exact mx
  .rw[zAu V];exact mx
def jD (k v:Int):Ms:=⟨14,[],[k,v],[]⟩
def FK (k v:Int):zN 271 [iA k,iA v] [] (zX (jD k v)) []:=by
 refine eM call271 λF hF=>?_
 exact nm
def RO (l:List Tk):Nat:=(l.filter λt=>!t.used).length
def aA (d:wC):Ms:=⟨20,[],[(RO d.rg.tk:Int),8-(ln d.rg.vh:Int),d.rg.ag.req-(ln d.rq:Int),d.rg.bk.level],[]⟩
theorem IM (ga:List Tk) (x:Tk):RO (ga++[x])=RO ga+(if x.used=true then 0 else 1):=by grind [RO]
def pv (d:wC) (hb:dN d) (V:0<=d.rg.ag.req) (h1:d.rg.ag.req<=1000):zN 246 [zM d] [] (zX (aA d)) []:=by
 have Y:=hb.q;have W:=hb.rg.tk.n;have hv:=hb.rg.v;have L:=zA yP d.rg.tk;have A:=zA vC d.rg.vh;have z:=zA zY d.rq;unfold aA;rw[<-A,<-z];unfold zM xD;refine eM call246 λF hF=>?_
 refine WW ?_;refine zU (d.rg.tk) [1,2] [1,2] [1,2,8,9] [3,10,1,2,8,9] Z (λi ga T U=>⟨(3,iA (RO ga))::(10,iA i)::T,U⟩) (Lq ?_ ?_)
 .intro i ga x post B hi;have hy:=yJ yP B hi;have E:=zW B hi;have I:RO ga<=i:=by rw[<-hi];exact zCj _ _
  have e:=IM ga x;clear B
  cases u:x.used with
  |true=>
   rw[u,zAs Z,zDi]at e;rw[e];generalize RO ga=m at *;obtain⟨S,C,par,M,G,O⟩:=x;cases u;refine WW ?_;rfl
  |false=>
   rw[u,Os zA9]at e;rw[e];generalize RO ga=m at *;obtain⟨S,C,par,M,G,O⟩:=x;cases u;refine WW ?_;rfl
 .exact nm
def rd (d:wC) (k f4:Int) (I:k≠1) (L:k≠9) (hb:dN d) (Y:0<=d.rg.ag.req) (h1:d.rg.ag.req<=1000):zN 272 [zM d,iA k,iA f4] [] (zX (aA d)) []:=by
 have hq:=hb.q;have hn:=hb.rg.tk.n;have hv:=hb.rg.v;have O:=zA yP d.rg.tk;have A:=zA vC d.rg.vh;have z:=zA zY d.rq;unfold aA;rw[<-A,<-z];unfold zM xD;refine eM call272 λF hF=>?_
 refine WW ?_;refine zU (d.rg.tk) [3,6] [3,6] [3,6,45,46] [10,47,3,6,45,46] Z (λi ga T U=>⟨(10,iA (RO ga))::(47,iA i)::T,U⟩) (Lq ?_ ?_)
 .intro i ga x post B hi;have hy:=yJ yP B hi;have E:=zW B hi;have M:RO ga<=i:=by rw[<-hi];exact zCj _ _
  have e:=IM ga x;clear B
  cases u:x.used with
  |true=>
   rw[u,zAs Z,zDi]at e;rw[e];generalize RO ga=m at *;obtain⟨W,C,par,S,G,V⟩:=x;cases u;refine WW ?_;rfl
  |false=>
   rw[u,Os zA9]at e;rw[e];generalize RO ga=m at *;obtain⟨W,C,par,S,G,V⟩:=x;cases u;refine WW ?_;rfl
 .exact nm
def RP (d:wC) (f4:Int):Ms:=⟨13,[],[d.rg.num,f4],[]⟩
def za (d:wC) (f4:Int):zN 272 [zM d,iA 1,iA f4] [] (zX (RP d f4)) []:=by
 unfold RP zM xD;refine eM call272 λF hF=>?_
 exact nm
def gC (l:List Rq):List Int:=(l.map λr=>[r.id,r.til]).flatten
def QF (d:wC):Ms:=⟨19,[],gC d.rq,[]⟩
def LC (ga:List Rq) (x:Rq):(gC (ga++[x])).map iA=(gC ga).map iA++[iA x.id,iA x.til]:=by simp[gC]
theorem XH:∀l:List Rq,(gC l).length=2*ln l
 | []=>rfl
 |x::l=>by
  have:=XH l
  show(x.id::x.til::gC l).length=_
  rw[zA8,zA8,zA8];omega
def Zd (d:wC) (f4:Int) (hb:dN d):zN 272 [zM d,iA 9,iA f4] [] (zX (QF d)) []:=by
 have E:=hb.q;have C:=zA zY d.rq;unfold QF zM xD;refine eM call272 λF hF=>?_
 refine WW ?_;refine gJ 7 2 1001 1 Z Z Z Z Z ?_;refine zU (d.rq) [7,1001,6] [6] [6,7,26,27] [28,6,7,26,27] Z (λi ga T U=>⟨(28,iA i)::T,(7,.box [iA 19,.s (.slice none 0 0),.ref 1001 0 ((gC ga).map iA).length,.s (.slice none 0 0)])::(1001,.arr 1 ((gC ga).map iA) true)::U⟩) (Lq ?_ ?_)
 .intro i ga x post u hi;have G:=yJ zY u hi;have z:=zW u hi;have A:=XH ga;have B:=zA iA (gC ga);have e:=LC ga x;clear u;rw[e];generalize (gC ga).map iA=xs at *;refine WW ?_;rfl
 ·(refine WW ?_)
  refine zI [] Z Z ?_ Z
  show AV.agg [iA 19,.sl false [],.sl false (((gC d.rq).map iA).take ((gC d.rq).map iA).length),.sl false []]=_
  rw[zAv];rfl
def nv (l:List Vh) (id:Int) (G:ln l<=1000000):zN 351 [zE vC l,iA id] [] (.tup [vC (dG l id),bA (XQ l id)]) []:=by
 have hl:=zA vC l;refine eM call351 λF hF=>?_
 refine WW ?_;refine uW (l) [4] [] [1,4,8,9] [10,1,4,8,9] Z (λi ga T U E=>(∀y∈ga,y.id≠id)/\E=⟨(10,iA i)::T,(4,.box [.s (.int .i64 0),.s (.int .i64 0)])::U⟩) (Lp ?_ ?_ ?_)
 .exact⟨by simp,rfl⟩
 .rintro i ga x post st u hi ⟨hp,rfl⟩;have z:=yJ vC u hi;have C:=zW u hi;by_cases B:x.id=id
  .obtain⟨e1,A⟩:=IL u hp B;rw[e1,A];clear u;exact mx
  .clear u;refine WW ?_;exact⟨λy z=>by simp only[zBe,zBm]at z;rcases z with z|rfl;exact hp y z;exact B,rfl⟩
 .rintro st ⟨hp,rfl⟩;obtain⟨e1,A⟩:=LA hp;rw[e1,A];exact mx
def bi (l:List Rq) (q id:Int) (v:Vh) (u:Int) (x:List Lg) (f4:Int) (hv:cJ l) (C:(ln l:Int)<=q) (hb:¬((0<=v.id/\v.id<=4294967295)/\(0<=v.cls/\v.cls<=3))):
  zN 353 [zE zY l,iA q,iA id,vC v,iA u,zE yO x,iA f4] [] (.tup [zE zY [],iA 1]) []:=by
 have A:=TK l q hv C;have z:=MQ v.id;have B:=Fc v.cls;by_cases h1:0<=v.id/\v.id<=4294967295
 .have h2:¬(0<=v.cls/\v.cls<=3):=λh=>hb ⟨h1,h⟩
  rw[zAw h1]at z;rw[zAu h2]at B;refine eM call353 λF hF=>?_
  exact ng (qC A z B)
 .rw[zAu h1]at z;refine eM call353 λF hF=>?_
  exact ng (xQ A z)
def Yd (l:List Rq) (q id:Int) (v:Vh) (u:Int) (x:List Lg) (f4:Int) (hv:cJ l) (C:(ln l:Int)<=q) (hb:¬((0<=v.id/\v.id<=4294967295)/\(0<=v.cls/\v.cls<=3))):
  zN 293 [zE zY l,iA q,iA id,vC v,iA u,zE yO x,iA f4] [] (.tup [zE zY [],iA 1]) []:=by
 have A:=XF l q hv C;have z:=wR v.id 0 4294967295;have B:=wR v.cls 0 3;by_cases h1:0<=v.id/\v.id<=4294967295
 .have h2:¬(0<=v.cls/\v.cls<=3):=λh=>hb ⟨h1,h⟩
  rw[zAw h1]at z;rw[zAu h2]at B;refine eM call293 λF hF=>?_
  exact ng (qC A z B)
 .rw[zAu h1]at z;refine eM call293 λF hF=>?_
  exact ng (xQ A z)
structure Qd where
 j:Int
 p:Int
 f:Int
 t:Int
def q4 (q:Qd):List Int:=[q.j,q.p,q.f,q.t]
def bF (u:List Qd):List Int:=(u.map q4).flatten
def aR (c:Cf) (f4:Int) (q:Qd):Bool:=decide (q.j<(ln c.js:Int))&&(decide (q.p<((c.js.getD q.j.toNat dd).ph.length:Int))&&EO q.j q.p q.f q.t f4)
def XR (f4:Int) (q:Qd):Lg:=GZ q.j q.p q.f q.t f4
def ya (v:Vh):Bool:=decide ((0<=v.id/\v.id<=4294967295)/\(0<=v.cls/\v.cls<=3))
def Cr (l:List Rq) (q id u:Int) (v:Vh) (x:List Lg):Int:=if(ln l:Int)<=q then(if ya v=true then QW l q id u x else 1)else 1
def u6 (l:List Rq) (q id u f4:Int) (v:Vh) (x:List Lg):List Rq:=if Cr l q id u v x=0 then gX l (gO id v u x f4)else []
def zAc (l:List Rq) (q id:Int) (v:Vh) (u:Int) (x:List Lg) (f4:Int) (hv:cJ l) (B:0<=f4) (C:f4<=1073741824):
  zN 353 [zE zY l,iA q,iA id,vC v,iA u,zE yO x,iA f4] [] (.tup [zE zY (u6 l q id u f4 v x),iA (Cr l q id u v x)]) []:=by
 unfold u6 Cr;by_cases A:(ln l:Int)<=q
 .rw[zAs A];by_cases hb:(0<=v.id/\v.id<=4294967295)/\(0<=v.cls/\v.cls<=3)
  .have z:ya v=true:=zAw hb;rw[zAs z];exact Vn l q id v u x f4 hv A hb.1.1 hb.1.2 hb.2.1 hb.2.2 B C
  .have z:¬ya v=true:=λh=>hb (zEl h)
   rw[Os z,Os yY];exact bi l q id v u x f4 hv A hb
 .rw[Os A,Os yY];exact Wi l q id v u x f4 hv A
def U7 (l:List Rq) (q id:Int) (v:Vh) (u:Int) (x:List Lg) (f4:Int) (hv:cJ l) (C:0<=f4) (E:f4<=1073741824) (B:ln x<=1000):
  zN 293 [zE zY l,iA q,iA id,vC v,iA u,zE yO x,iA f4] [] (.tup [zE zY (u6 l q id u f4 v x),iA (Cr l q id u v x)]) []:=by
 unfold u6 Cr;by_cases A:(ln l:Int)<=q
 .rw[zAs A];by_cases hb:(0<=v.id/\v.id<=4294967295)/\(0<=v.cls/\v.cls<=3)
  .have z:ya v=true:=zAw hb;rw[zAs z];exact Lh l q id v u x f4 hv A hb.1.1 hb.1.2 hb.2.1 hb.2.2 C E B
  .have z:¬ya v=true:=λh=>hb (zEl h)
   rw[Os z,Os yY];exact Yd l q id v u x f4 hv A hb
 .rw[Os A,Os yY];exact Od l q id v u x f4 hv A
theorem TQ:∀u:List Qd,(bF u).length=4*ln u
 | []=>rfl
 |x::l=>by
  have:=TQ l
  show(x.j::x.p::x.f::x.t::bF l).length=_
  simp only[zA8];omega
theorem mv (a b:List Qd):bF (a++b)=bF a++bF b:=by simp[bF]
theorem wa (x y z:Int) (ga post:List Qd) (i:Nat) (hi:ln ga=i):(x::y::z::bF (ga++post)).drop (3+4*i)=bF post:=by grind [bF,mv,TQ,List.drop_of_length_le]
def XI {α:Type} {l:List α} {n:Nat} {r:List α} (h:l.drop n=r) (k:Nat):l[n+k]? =r[k]? :=by rw[<-h,zC1]
def T7 (x y z:Int) (ga post:List Qd) (q:Qd) (I:Int) (u:I=3+4*(ln ga:Int)):
  ((x::y::z::bF (ga++q::post)).map iA)[I.toNat]? =some (iA q.j)/\((x::y::z::bF (ga++q::post)).map iA)[(I+1).toNat]? =some (iA q.p)/\((x::y::z::bF (ga++q::post)).map iA)[(I+2).toNat]? =some (iA q.f)/\((x::y::z::bF (ga++q::post)).map iA)[(I+3).toNat]? =some (iA q.t):=by
 have h:=wa x y z ga (q::post) (ln ga) Z
 refine⟨?_,?_,?_,?_⟩<;>rw[zA1]
 .rw[show I.toNat=3+4*ln ga+0 by omega,XI h];rfl
 .rw[show(I+1).toNat=3+4*ln ga+1 by omega,XI h];rfl
 .rw[show(I+2).toNat=3+4*ln ga+2 by omega,XI h];rfl
 .rw[show(I+3).toNat=3+4*ln ga+3 by omega,XI h];rfl
def Z3 (x y z:Int) (ga post:List Qd) (q:Qd) (I:Int) (u:I=3+4*(ln ga:Int)):
  (((x::y::z::bF (ga++q::post)).map iA).drop I.toNat).take ((I+4).toNat-I.toNat)=[iA q.j,iA q.p,iA q.f,iA q.t]:=by
 have h:=wa x y z ga (q::post) (ln ga) Z;rw[<-zDo,show I.toNat=3+4*ln ga by omega,h,show(I+4).toNat-(3+4*ln ga)=4 by omega];rfl
def va (c:Cf) (d:wC) (z id v u f4:Int) (A:List Qd):Int:=
 if XQ d.rg.vh v=true then(if z<(dG d.rg.vh v).cls then 17 else if A.all (aR c f4)=true then Cr d.rq d.rg.ag.req id u (dG d.rg.vh v) (A.map (XR f4))else 8)else 12
def vp (c:Cf) (d:wC) (z id v u f4:Int) (A:List Qd):List Rq:=
 if va c d z id v u f4 A=0 then gX d.rq (gO id (dG d.rg.vh v) u (A.map (XR f4)) f4)else []
def up {α:Type} {p:α->Bool} {ga post:List α} {x:α} (h:p x=false):¬(ga++x::post).all p=true:=by
 simp[h]
theorem ai (c:Cf) (d:wC) (id v u E f4:Int) (C:List Qd) (hb:dN d) (hv:cJ d.rq) (s0:0<=E) (s1:E<(ln d.rg.tk:Int)) (hq:ln C<=3) (hp:∀q∈C,0<=q.j/\0<=q.p) (n0:0<=f4) (n1:f4<=1073741824):
  zN 309 [wH c,zM d,zE iA (id::v::u::bF C),iA E,iA f4] [] (.tup [zE zY (vp c d (d.rg.tk.getD E.toNat dd).cls id v u f4 C),iA (va c d (d.rg.tk.getD E.toNat dd).cls id v u f4 C)]) []:=by
 have G:=nv d.rg.vh v (by have:=hb.rg.v;omega);have a6:=zA yP d.rg.tk;have ax:=yE yP d.rg.tk E s0 s1;have O:=zAc d.rq d.rg.ag.req id (dG d.rg.vh v) u (C.map (XR f4)) f4 hv n0 n1;have a4:((id::v::u::bF C).map iA).length=3+4*ln C:=by simp[TQ];omega
 have a3:=zA wD c.js;have a7:=hb.rg.tk.n;unfold vp va;unfold wH zM xD;generalize (d.rg.tk.getD E.toNat dd)=t at *;rw[show yP t= .agg [bA t.used,zE yA t.sec,iA t.par,iA t.rights,iA t.cls,iA t.til]from Z]at ax;generalize XQ d.rg.vh v=ar at*
 cases ar with
 |false=>
  rw[Os zA9,Os yY];refine eM call309 λF hF=>?_
  exact nl G
 |true=>
 rw[zAs Z];generalize dG d.rg.vh v=vh at *;unfold vC at G O;by_cases S:t.cls<vh.cls
 .rw[zAs S,Os yY];refine eM call309 λF hF=>?_
  exact nl G
 rw[Os S];refine eM call309 λF hF=>?_
 refine zS G ?_;refine zQ 15 1001 5 Z Z Z ?_;refine jQ (ln C) [1001,5,6,12] [5,6,12] [2,4,5,6,12] [15,16,2,4,5,6,12] Z (λzn T U zs=>∃(ga:List Qd) (post:List Qd),(C=ga++post/\zn=ln post/\ga.all (aR c f4)=true)/\zs=⟨(15,.ref 1001 0 (ga.map λq=>yO (XR f4 q)).length)::(16,iA (3+4*(ln ga:Int)))::T,(1001,.arr 5 (ga.map λq=>yO (XR f4 q)) true)::U⟩) ?_;(conv=>whnf);refine⟨?_,?_⟩
 .exact⟨[],C,⟨rfl,rfl,rfl⟩,rfl⟩
 .rintro zn st ⟨ga,post,⟨hqs,hzn,hok⟩,rfl⟩;have W:ln C=ln ga+ln post:=by rw[hqs,zAx]
  have a8:=zA (λq=>yO (XR f4 q)) ga
  cases post with
  |nil=>
   rw[zBo]at hqs;subst hqs;rw[zAs hok];rw[zBz]at W hzn;have e1:(C.map λq=>yO (XR f4 q))=(C.map (XR f4)).map yO:=by rw[zGh];rfl
   unfold u6 at O;rw[e1]at *; generalize C.map (XR f4)=ls at *;generalize Cr d.rq d.rg.ag.req id u vh ls=e at *;generalize gX d.rq (gO id vh u ls f4)=il at *;generalize hI:3+4*(ln C:Int)=I at *;rw[show(id::v::u::bF C).map iA=iA id::iA v::iA u::(bF C).map iA from Z]at *; generalize (bF C).map iA=A at *;refine WD ?_;refine wJ [5,6,12] [2,4,5,6,12,15] Z ?_
   (conv=>whnf)
   simp only[zBf,zAv];exact nl O
  | cons q post=>
   have ap:=hp q (by rw[hqs];simp);obtain⟨y0,y1,y2,y3⟩:=T7 id v u ga post q _ Z;rw[<-hqs]at y0 y1 y2 y3;rw[zA8]at W hzn;have B:aR c f4 q=false->¬C.all (aR c f4)=true:=λh=>by rw[hqs];exact up h
   have z:aR c f4 q=true->(ga++[q]).all (aR c f4)=true:=λh=>by rw[List.all_append,hok,zFy,h];rfl
   have L:((ga++[q]).map λq=>yO (XR f4 q))=(ga.map λq=>yO (XR f4 q))++[yO (XR f4 q)]:=by simp
   have M:=Uf q.j q.p q.f q.t f4;rw[show aR c f4 q=(decide (q.j<(ln c.js:Int))&&(decide (q.p<((c.js.getD q.j.toNat dd).ph.length:Int))&&EO q.j q.p q.f q.t f4))from Z]at B z;generalize hA:(id::v::u::bF C).map iA=A at *;have az:zE iA (id::v::u::bF C)= .sl false A:=by rw[<-hA];rfl
   have hI:0<=3+4*(ln ga:Int)/\3+4*(ln ga:Int)+4=3+4*((ga++[q]).length:Int)/\3+4*(ln ga:Int)+3<ln A:=⟨zB,by simp;omega,zB⟩;by_cases Y:q.j<(ln c.js:Int)
   case neg=>
    rw[zAu Y]at B;rw[Os (B Z),Os yY];generalize 3+4*(ln ga:Int)=I at *;clear B z M L hqs;exact mx
   have av:=yE wD c.js q.j ap.1 Y;rw[zAw Y]at B z;rw[show wD (c.js.getD q.j.toNat dd)= .agg [zE xN (c.js.getD q.j.toNat dd).ph,zE iA (c.js.getD q.j.toNat dd).cf,iA (c.js.getD q.j.toNat dd).st]from Z]at av;generalize c.js.getD q.j.toNat dd=jn at *;have a5:=zA xN jn.ph;by_cases g2:q.p<(ln jn.ph:Int)
   case neg=>
    rw[zAu g2]at B;rw[Os (B Z),Os yY];generalize 3+4*(ln ga:Int)=I at *;clear B z M L hqs;exact mx
   rw[zAw g2]at B z
   cases g3:EO q.j q.p q.f q.t f4 with
   |false=>
    rw[g3]at B M;rw[Os zA9]at M;rw[Os (B Z),Os yY];generalize 3+4*(ln ga:Int)=I at *;generalize GZ q.j q.p q.f q.t f4=lg at *;clear B z L hqs;exact nl M
   |true=>
    rw[g3]at z M;rw[zAs Z]at M;have au:=z Z;obtain⟨a1,ac,a2⟩:=hI;have V:C=(ga++[q])++post:=by rw[hqs];simp
    rw[show GZ q.j q.p q.f q.t f4=XR f4 q from Z]at M;generalize XR f4 q=lg at *;clear B z hqs;generalize a9:ga++[q]=pq at *;generalize (ga.map λq=>yO (XR f4 q))=xs at *;generalize 3+4*(ln ga:Int)=I at *;refine zS M ?_;exact⟨ln post,zB,pq,post,⟨V,rfl,au⟩,by rw[L,<-ac];rfl⟩
def Df (d:wC) (l:List Rq):wC:=⟨d.rg,l,d.dr,d.au⟩
theorem Xd (c:Cf) (d:wC) (k:Int) (S:List Int) (id v u G f4:Int) (C:List Qd) (hb:dN d) (hv:cJ d.rq) (hq:ln C<=3) (hp:∀q∈C,0<=q.j/\0<=q.p) (n0:0<=f4) (n1:f4<=1073741824):
  zN 243 [wH c,zM d,zX ⟨k,S,id::v::u::bF C,[]⟩,iA G,iA f4] [] (.tup [zM (Df d (if va c d G id v u f4 C=0 then vp c d G id v u f4 C else d.rq)),iA (va c d G id v u f4 C)]) []:=by
 have L:=Ef d.rg.vh v (by have:=hb.rg.v;omega);have E:=U7 d.rq d.rg.ag.req id (dG d.rg.vh v) u (C.map (XR f4)) f4 hv n0 n1 (by rw[zAt];omega);have a4:((id::v::u::bF C).map iA).length=3+4*ln C:=by simp[TQ];omega
 have a3:=zA wD c.js;unfold vp va Df;unfold wH zM xD;rw[show zX ⟨k,S,id::v::u::bF C,[]⟩= .agg [iA k,zE yA S,zE iA (id::v::u::bF C),.sl false []]from Z];generalize XQ d.rg.vh v=au at*
 cases au with
 |false=>
  rw[Os zA9,Os yY];refine eM call243 λF hF=>?_
  exact nl L
 |true=>
 rw[zAs Z];generalize dG d.rg.vh v=vh at *;unfold vC at L E;by_cases V:G<vh.cls
 .rw[zAs V,Os yY];refine eM call243 λF hF=>?_
  exact nl L
 rw[Os V];refine eM call243 λF hF=>?_
 refine zS L ?_;refine zQ 14 1001 5 Z Z Z ?_;refine jQ (ln C) [1001,5,6,7,12,10] [5,6,7,12,10] [4,5,6,7,10,12] [14,15,4,5,6,7,10,12] Z (λzn T U zs=>∃(ga:List Qd) (post:List Qd),(C=ga++post/\zn=ln post/\ga.all (aR c f4)=true)/\zs=⟨(14,.ref 1001 0 (ga.map λq=>yO (XR f4 q)).length)::(15,iA (3+4*(ln ga:Int)))::T,(1001,.arr 5 (ga.map λq=>yO (XR f4 q)) true)::U⟩) ?_;(conv=>whnf);refine⟨?_,?_⟩
 .exact⟨[],C,⟨rfl,rfl,rfl⟩,rfl⟩
 .rintro zn st ⟨ga,post,⟨hqs,hzn,hok⟩,rfl⟩;have Y:ln C=ln ga+ln post:=by rw[hqs,zAx]
  have a6:=zA (λq=>yO (XR f4 q)) ga
  cases post with
  |nil=>
   rw[zBo]at hqs;subst hqs;rw[zAs hok];rw[zBz]at Y hzn;have e1:(C.map λq=>yO (XR f4 q))=(C.map (XR f4)).map yO:=by rw[zGh];rfl
   unfold u6 at E;rw[e1]at *; generalize C.map (XR f4)=ls at *;generalize Cr d.rq d.rg.ag.req id u vh ls=e at *;generalize gX d.rq (gO id vh u ls f4)=il at *;generalize hI:3+4*(ln C:Int)=I at *;rw[show(id::v::u::bF C).map iA=iA id::iA v::iA u::(bF C).map iA from Z]at *; generalize (bF C).map iA=A at *;refine WD ?_;refine wJ [5,6,7,10,12] [4,5,6,7,10,12,14] Z ?_
   (conv=>whnf)
   simp only[zBf,zAv];by_cases he:e=0
   .subst he;rw[zAs Z]at E⊢;exact nl E
   .rw[Os he]at E⊢;exact nl E
  | cons q post=>
   have ap:=hp q (by rw[hqs];simp);have ar:=Z3 id v u ga post q _ Z;rw[<-hqs]at ar;rw[zA8]at Y hzn;have z:aR c f4 q=false->¬C.all (aR c f4)=true:=λh=>by rw[hqs];exact up h
   have B:aR c f4 q=true->(ga++[q]).all (aR c f4)=true:=λh=>by rw[List.all_append,hok,zFy,h];rfl
   have M:((ga++[q]).map λq=>yO (XR f4 q))=(ga.map λq=>yO (XR f4 q))++[yO (XR f4 q)]:=by simp
   have O:=AJ q.j q.p q.f q.t f4;rw[show aR c f4 q=(decide (q.j<(ln c.js:Int))&&(decide (q.p<((c.js.getD q.j.toNat dd).ph.length:Int))&&EO q.j q.p q.f q.t f4))from Z]at z B;have a2:(id::v::u::bF C).length=3+4*ln C:=by simp[TQ];omega
   generalize hA:id::v::u::bF C=A at *;have hI:0<=3+4*(ln ga:Int)/\3+4*(ln ga:Int)+4=3+4*((ga++[q]).length:Int)/\3+4*(ln ga:Int)+4<=ln A:=⟨zB,by simp;omega,zB⟩
   cases g3:EO q.j q.p q.f q.t f4 with
   |false=>
    rw[g3]at z O;rw[zCs,zCs]at z;rw[Os zA9]at O;rw[Os (z Z),Os yY];generalize 3+4*(ln ga:Int)=I at *;generalize GZ q.j q.p q.f q.t f4=lg at *;clear z B M hqs;exact nl O
   |true=>
   rw[g3]at B O z;rw[zAs Z]at O;by_cases g1:q.j<(ln c.js:Int)
   case neg=>
    rw[zAu g1]at z;rw[Os (z Z),Os yY];generalize 3+4*(ln ga:Int)=I at *;generalize GZ q.j q.p q.f q.t f4=lg at *;clear z B M hqs;exact nl O
   have ax:=yE wD c.js q.j ap.1 g1;rw[zAw g1]at z B;rw[show wD (c.js.getD q.j.toNat dd)= .agg [zE xN (c.js.getD q.j.toNat dd).ph,zE iA (c.js.getD q.j.toNat dd).cf,iA (c.js.getD q.j.toNat dd).st]from Z]at ax;generalize c.js.getD q.j.toNat dd=jn at *;have a5:=zA xN jn.ph;by_cases g2:q.p<(ln jn.ph:Int)
   case neg=>
    rw[zAu g2]at z;rw[Os (z Z),Os yY];generalize 3+4*(ln ga:Int)=I at *;generalize GZ q.j q.p q.f q.t f4=lg at *;clear z B M hqs;exact nl O
   rw[zAw g2]at B;have av:=B Z;obtain⟨az,ac,a1⟩:=hI;have W:C=(ga++[q])++post:=by rw[hqs];simp
   rw[show GZ q.j q.p q.f q.t f4=XR f4 q from Z]at O;generalize XR f4 q=lg at *;clear z B hqs;generalize a7:ga++[q]=pq at *;generalize (ga.map λq=>yO (XR f4 q))=xs at *;generalize 3+4*(ln ga:Int)=I at *;refine zS O ?_;exact⟨ln post,zB,pq,post,⟨W,rfl,av⟩,by rw[M,<-ac];rfl⟩
def QY (n:Int) (a:Ag) (N:Nat):wC:=⟨PA n a,[],[],List.replicate N false⟩
def Y3 (n:Int) (a:Ag) (N:Nat) (hN:N=1\/N=2) (A:a.ses=(N:Int)) (E:ln a.sec<=1000000) (hl:ln a.lim<=1000000):zN 80 [iA n,uF a] [] (zM (QY n a N)) []:=by
 have z:=A3 n a E hl;unfold QY;obtain⟨u,L,C,G,M,O,I,B⟩:=a;dsimp only at A;subst A;unfold uF uQ at z;unfold uF zM xD;dsimp only at *;generalize PA n ⟨u,L,C,G,M,(N:Int),I,B⟩=r at*
 rcases hN with rfl|rfl
 all_goals
  refine eM call80 λF hF=>?_
  exact nl z
def iv (n:Int) (a:Ag) (N:Nat) (hN:N=1\/N=2) (A:a.ses=(N:Int)) (E:ln a.sec<=1000000) (hl:ln a.lim<=1000000):zN 85 [iA n,uF a] [] (zM (QY n a N)) []:=by
 have z:=Mv n a E hl;unfold QY;obtain⟨u,L,C,G,M,O,I,B⟩:=a;dsimp only at A;subst A;unfold uF uQ at z;unfold uF zM xD;dsimp only at *;generalize PA n ⟨u,L,C,G,M,(N:Int),I,B⟩=r at*
 rcases hN with rfl|rfl
 all_goals
  refine eM call85 λF hF=>?_
  exact nl z
def w2 (p:Int×Int):List Int:=[p.1,p.2]
def SE (u:List (Int×Int)):List Int:=(u.map w2).flatten
theorem OG:∀u:List (Int×Int),(SE u).length=2*ln u
 | []=>rfl
 |x::l=>by
  have:=OG l
  show(x.1::x.2::SE l).length=_
  simp only[zA8];omega
theorem Zv (a b:List (Int×Int)):SE (a++b)=SE a++SE b:=by simp[SE]
theorem Zy (x:Int) (ga post:List (Int×Int)) (q:Int×Int) (I:Int) (u:I=1+2*(ln ga:Int)):
  ((x::SE (ga++q::post)).map iA)[I.toNat]? =some (iA q.1)/\((x::SE (ga++q::post)).map iA)[(I+1).toNat]? =some (iA q.2):=by
 have h:(x::SE (ga++q::post)).drop (1+2*ln ga)=SE (q::post):=by
  grind [SE,iA,Zv,OG,List.drop_of_length_le]
 refine⟨?_,?_⟩<;>rw[zA1]
 .rw[show I.toNat=1+2*ln ga+0 by omega,XI h];rfl
 .rw[show(I+1).toNat=1+2*ln ga+1 by omega,XI h];rfl
def Yy (l:List Rq) (id:Int) (u:List (Int×Int)) (f4:Int):List Rq:=if fP l id u f4=0 then ZV l id u f4 else []
def W3 (c:Cf) (d:wC) (z:List Int) (id E f4:Int) (u:List (Int×Int)) (hv:cJ d.rq) (hw:ln u<=3) (n0:0<=f4) (n1:f4<=1073741824):
  zN 270 [wH c,zM d,zX ⟨7,z,id::SE u,[]⟩,iA E,iA f4] [] (.tup [zE zY (Yy d.rq id u f4),iA (fP d.rq id u f4)]) []:=by
 have hu:=Cm d.rq id u f4 hv zB n0 n1;have W:((id::SE u).map iA).length=1+2*ln u:=by simp[OG];omega
 unfold Yy;unfold wH zM xD;rw[show zX ⟨7,z,id::SE u,[]⟩= .agg [iA 7,zE yA z,zE iA (id::SE u),.sl false []]from Z];generalize fP d.rq id u f4=e,ZV d.rq id u f4=ul at *;refine eM call270 λF hF=>?_
 refine WW ?_;refine zQ 13 1001 2 Z Z Z ?_;refine jQ (ln u) [1001,6,7] [6,7] [4,6,7,12] [13,14,4,6,7,12] Z (λO T U zs=>∃(ga:List (Int×Int)) (post:List (Int×Int)),(u=ga++post/\O=ln post)/\zs=⟨(13,.ref 1001 0 (ga.map QV).length)::(14,iA (1+2*(ln ga:Int)))::T,(1001,.arr 2 (ga.map QV) true)::U⟩) ?_;(conv=>whnf);refine⟨?_,?_⟩
 .exact⟨[],u,⟨rfl,rfl⟩,rfl⟩
 .rintro O st ⟨ga,post,⟨hqs,hzn⟩,rfl⟩;have C:ln u=ln ga+ln post:=by rw[hqs,zAx]
  have Y:=zA QV ga
  cases post with
  |nil=>
   rw[zBo]at hqs;subst hqs;rw[zBz]at C hzn;generalize M:1+2*(ln u:Int)=I at *;generalize (id::SE u).map iA=A at*
   (have gd:=hu;have kj:=(⟨⟩:Su 310 [5,6,7] [58,59,60,61]);refine WW ?_;clear gd kj)
   exact zH
  |cons q post=>
   obtain⟨y0,y1⟩:=Zy id ga post q _ Z;rw[<-hqs]at y0 y1;rw[zA8]at C hzn;have L:((ga++[q]).map QV)=ga.map QV++[.agg [iA q.1,iA q.2]]:=by simp[QV]
   have M:0<=1+2*(ln ga:Int)/\1+2*(ln ga:Int)+2=1+2*((ga++[q]).length:Int)/\1+2*(ln ga:Int)+1<((id::SE u).map iA).length:=⟨zB,by simp;omega,zB⟩;have B:u=(ga++[q])++post:=by rw[hqs];simp
   generalize (id::SE u).map iA=A at *;obtain⟨S,G,V⟩:=M;clear hqs;generalize ac:ga++[q]=pq at *;generalize ga.map QV=xs at *;generalize 1+2*(ln ga:Int)=I at *;refine WW ?_;exact⟨ln post,zB,pq,post,⟨B,rfl⟩,by rw[L,<-G];rfl⟩
def V3 (d:wC) (z:List Int) (id f4:Int) (u:List (Int×Int)) (hv:cJ d.rq) (hw:ln u<=3) (n0:0<=f4) (n1:f4<=1073741824):
  zN 244 [zM d,zX ⟨7,z,id::SE u,[]⟩,iA f4] [] (.tup [zM (Df d (if fP d.rq id u f4=0 then Yy d.rq id u f4 else d.rq)),iA (fP d.rq id u f4)]) []:=by
 have E:=Kh d.rq id u f4 hv zB n0 n1;have Y:((id::SE u).map iA).length=1+2*ln u:=by simp[OG];omega
 unfold Yy Df;unfold zM xD;rw[show zX ⟨7,z,id::SE u,[]⟩= .agg [iA 7,zE yA z,zE iA (id::SE u),.sl false []]from Z];generalize fP d.rq id u f4=e,ZV d.rq id u f4=ul at *;refine eM call244 λF hF=>?_
 refine WW ?_;refine zQ 8 1001 2 Z Z Z ?_;refine jQ (ln u) [1001,3,4,6] [3,4,6] [2,3,4,6] [8,9,2,3,4,6] Z (λS T U zs=>∃(ga:List (Int×Int)) (post:List (Int×Int)),(u=ga++post/\S=ln post)/\zs=⟨(8,.ref 1001 0 (ga.map QV).length)::(9,iA (1+2*(ln ga:Int)))::T,(1001,.arr 2 (ga.map QV) true)::U⟩) ?_;(conv=>whnf);refine⟨?_,?_⟩
 .exact⟨[],u,⟨rfl,rfl⟩,rfl⟩
 .rintro S st ⟨ga,post,⟨hqs,hzn⟩,rfl⟩;have C:ln u=ln ga+ln post:=by rw[hqs,zAx]
  have ac:=zA QV ga
  cases post with
  |nil=>
   rw[zBo]at hqs;subst hqs;rw[zBz]at C hzn;generalize M:1+2*(ln u:Int)=I at *;rw[show(id::SE u).map iA=iA id::(SE u).map iA from Z]at *; generalize (SE u).map iA=A at *;refine WD ?_;refine wJ [3,4,6] [2,3,4,6,8] Z ?_
   (conv=>whnf)
   simp only[zBf,zAv];by_cases O:e=0
   .subst O;rw[zAs Z]at E⊢;exact nl E
   .rw[Os O]at E⊢;exact nl E
  |cons q post=>
   obtain⟨y0,y1⟩:=Zy id ga post q _ Z;rw[<-hqs]at y0 y1;rw[zA8]at C hzn;have L:((ga++[q]).map QV)=ga.map QV++[.agg [iA q.1,iA q.2]]:=by simp[QV]
   have M:0<=1+2*(ln ga:Int)/\1+2*(ln ga:Int)+2=1+2*((ga++[q]).length:Int)/\1+2*(ln ga:Int)+1<((id::SE u).map iA).length:=⟨zB,by simp;omega,zB⟩;have B:u=(ga++[q])++post:=by rw[hqs];simp
   generalize (id::SE u).map iA=A at *;obtain⟨V,G,W⟩:=M;clear hqs;generalize ag:ga++[q]=pq at *;generalize ga.map QV=xs at *;generalize 1+2*(ln ga:Int)=I at *;refine WW ?_;exact⟨ln post,zB,pq,post,⟨B,rfl⟩,by rw[L,<-G];rfl⟩
def U3 (c:Cf) (d:wC) (C:List Int) (id v u z f4:Int) (B:List Qd) (hb:dN d) (hv:cJ d.rq) (M:0<=z) (O:z<(ln d.rg.tk:Int)) (G:ln B<=3) (E:∀q∈B,0<=q.j/\0<=q.p) (I:0<=f4) (L:f4<=1073741824):
  zN 270 [wH c,zM d,zX ⟨6,C,id::v::u::bF B,[]⟩,iA z,iA f4] [] (.tup [zE zY (vp c d (d.rg.tk.getD z.toNat dd).cls id v u f4 B),iA (va c d (d.rg.tk.getD z.toNat dd).cls id v u f4 B)]) []:=by
 have h:=ai c d id v u z f4 B hb hv M O G E I L;generalize va c d (d.rg.tk.getD z.toNat dd).cls id v u f4 B=e,vp c d (d.rg.tk.getD z.toNat dd).cls id v u f4 B=S at *;rw[show zE iA (id::v::u::bF B)= .sl false (iA id::iA v::iA u::(bF B).map iA)from Z]at h;rw[show zX ⟨6,C,id::v::u::bF B,[]⟩= .agg [iA 6,zE yA C,.sl false (iA id::iA v::iA u::(bF B).map iA),.sl false []]from Z];generalize (bF B).map iA=A at *;unfold wH zM xD at *;refine eM call270 λF hF=>?_
 exact nl h
def S3 (c:Cf) (d:wC) (u:List Int) (id z f4:Int) (hv:cJ d.rq):
  zN 270 [wH c,zM d,zX ⟨8,u,[id],[]⟩,iA z,iA f4] [] (.tup [zE zY (if kU d.rq id=true then TH d.rq id else []),iA (if kU d.rq id=true then 0 else 12)]) []:=by
 have h:=pn d.rq id hv;generalize (if kU d.rq id=true then TH d.rq id else [])=l,(if kU d.rq id=true then(0:Int)else 12)=e at *;rw[show zX ⟨8,u,[id],[]⟩= .agg [iA 8,zE yA u,.sl false [iA id],.sl false []]from Z];unfold wH zM xD at *;refine eM call270 λF hF=>?_
 exact nl h
def TR (l:List Tk) (s:Int):zN 344 [zE yP l,iA s] [] (bA (jY l s)) []:=by
 have hl:=zA yP l;unfold jY;by_cases h1:0<=s
 .by_cases h2:s<ln l
  .have u:=yE yP l s h1 h2;rw[zAw ⟨h1,h2⟩,zA3];refine eM call344 λF hF=>?_
   exact mx
  .rw[zAu zB,zBt];refine eM call344 λF hF=>?_
   exact mx
 .rw[zAu zB,zBt];refine eM call344 λF hF=>?_
  exact mx
def qp (g s:Int) (l:List Int) (hl:ln l<=1000000) (z:0<=g) (A:g<256) (B:0<=s) (C:s<256):zN 376 [iA g,iA s,zE yA l] [] (zE yA (g::s::l)) []:=by
 have u:=zA yA l;refine eM call376 λF hF=>?_
 refine WW ?_;exact zI [] Z Z (zBd (AV.sl false) (zA2 zV)) Z
theorem zAd (n:Int) (h:0<=n):vQ n 7=n/128:=by grind [vQ]
def P7:Nat->Int
 |0=>1
 |z+1=>128*P7 z
def j6 (n:Int):Int:=IntKind.u8.wrap ((BitVec.ofInt IntKind.u8.bits (IntKind.u8.wrap (kX n 127)) ||| BitVec.ofInt IntKind.u8.bits 128).toNat)
def tj:Nat->Int->List Int
 |0,n=>[n]
 |z+1,n=>if 128<=n then j6 n::tj z (n/128)else [n]
theorem FL:∀z n,(tj z n).length<=z+1
 |0,n=>zAy _
 |z+1,n=>by
  unfold tj;split
  .have:=FL z (n/128);simp only[zA8];omega
  .simp
def Yv (z:Nat) (n:Int) (h:n<128):tj z n=[n]:=by
 cases z with
 |zero=>rfl
 |succ z=>unfold tj;rw[Os zB]
def RQ (n:Int):List Int:=if 0<=n/\n<=4294967295 then tj 5 n else []
def dp (n:Int):Int:=if 0<=n/\n<=4294967295 then 0 else 8
theorem aT (n:Int):(RQ n).length<=6:=by grind [RQ,FL]
def FM (n:Int):zN 235 [iA n] [] (.tup [zE yA (RQ n),iA (dp n)]) []:=by
 unfold RQ dp;by_cases h1:0<=n
 case neg=>
  rw[Os (λh=>h1 h.1),Os (λh=>h1 h.1)];refine eM call235 λF hF=>?_
  exact mx
 by_cases h2:n<=4294967295
 case neg=>
  rw[Os (λh=>h2 h.2),Os (λh=>h2 h.2)];refine eM call235 λF hF=>?_
  exact mx
 rw[zAs ⟨h1,h2⟩,zAs ⟨h1,h2⟩];refine eM call235 λF hF=>?_
 refine WW ?_;refine vP 11 Z ?_;refine jQ (5) [11] [] [] [0,4] Z (λA T U V=>∃(u:List Int) (x:Int),(0<=x/\x<P7 A*128/\u++tj A x=tj 5 n/\u.length<=100)/\V=⟨(0,iA x)::(4,.ref 11 0 (u.map yA).length)::T,(11,.arr 1 (u.map yA) true)::U⟩) ?_;(conv=>whnf);refine⟨?_,?_⟩
 .exact⟨[],n,⟨h1,by show n<34359738368*128;omega,rfl,by simp⟩,rfl⟩
 .rintro A st ⟨u,x,⟨b1,b2,b3,b4⟩,rfl⟩;have O:=zA yA u;by_cases S:128<=x
  .have Y:A≠0:=λe=>by
    subst e;have:P7 0=1:=rfl;omega
   obtain⟨z,rfl⟩:∃z,A=z+1:=⟨A-1,zB⟩;have e:=zAd x b1;have L:P7 (z+1)=128*P7 z:=rfl
   have I:tj (z+1) x=j6 x::tj z (x/128):=by
    show(if 128<=x then _ else _)=_
    rw[zAs S]
   rw[I]at b3;have G:(u++[j6 x]).map yA=u.map yA++[yA (j6 x)]:=by simp
   have C:u++[j6 x]++tj z (vQ x 7)=tj 5 n:=by rw[e,zBl];exact b3
   have B:0<=vQ x 7/\vQ x 7<P7 z*128:=by rw[e];rw[L]at b2;omega
   have E:ln u+1<=100:=by
    have M:=zBd List.length b3;have W:=FL 5 n;simp only[zAx,zA8]at M;omega
   clear I b3 L
   (repeat' (first|refine uS ?_|apply yW|apply xH|intro hc|(apply zG;first|(apply wY;refine wM (HP Z Z) Z ?_))|fail))
   exact⟨z,zB,u++[j6 x],vQ x 7,⟨B.1,B.2,C,by simpa using E⟩,by rw[G];rfl⟩
  .rw[Yv A x zB]at b3;rw[<-b3];have G:zE yA (u++[x])= .sl false ((u.map yA++[yA (x)]).take (u.map yA++[yA (x)]).length):=by rw[zAv];unfold zE;rw[zA0];rfl
   rw[G];exact mx
