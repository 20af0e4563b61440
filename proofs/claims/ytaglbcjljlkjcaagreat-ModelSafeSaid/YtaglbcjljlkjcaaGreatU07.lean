/- Part 7. -/
import Derived.Test.YtaglbcjljlkjcaaGreatU06
namespace Go.Proofs.YtaglbcjljlkjcaaGreat.Av
open Tryz
set_option linter.all false
set_option maxRecDepth 4000
set_option maxHeartbeats 2000000
open List renaming length->ln,getD->pi
open Inhabited renaming default->dd
variable {f4:Int}{w:List (Int×Int)}{gs:List Lg}{l post ga:List Rq}{i:Nat}{x:Rq}
def Gr (l:List Rq) (id:Int):Rq:=(l.find? λx=>x.id==id).getD ⟨0,0,0,0,[]⟩
theorem gf {id:Int} (h:l=ga++x::post) (u:∀y∈ga,y.id≠id) (z:x.id=id):Gr l id=x/\kU l id=true:=by grind [Gr,kU]
theorem Fm {id:Int} (u:∀y∈l,y.id≠id):Gr l id=⟨0,0,0,0,[]⟩/\kU l id=false:=by grind [Gr,kU,List.find?_eq_none]
def mu (l:List Rq) (id:Int) (I:ln l<=1000) (hb:∀r∈l,ln r.legs<=1000):zN 336 [zE zY l,iA id] [] (.tup [zY (Gr l id),bA (kU l id)]) []:=by
 have hl:=zA zY l;refine eM call336 λF hF=>?_
 refine WW ?_;refine uW (l) [4] [] [1,4,8,9] [10,1,4,8,9] Z (λi ga T U G=>(∀y∈ga,y.id≠id)/\G=⟨(10,iA i)::T,(4,.box [.s (.int .i64 0),.s (.int .i64 0),.s (.int .i64 0),.s (.int .i64 0),.s (.slice none 0 0)])::U⟩) (Lp ?_ ?_ ?_)
 .exact⟨by simp,rfl⟩
 .rintro i ga x post st u hi ⟨hp,rfl⟩;have z:=yJ zY u hi;have E:=zW u hi;by_cases B:x.id=id
  .obtain⟨e1,A⟩:=gf u hp B;have c:zN 187 [.sl false [.agg [iA x.id,iA x.vh,iA x.cls,iA x.til,zE yO x.legs]]] [] (.sl false [.agg [iA x.id,iA x.vh,iA x.cls,iA x.til,zE yO x.legs]]) []:=eE [x] zV (λr C=>by rw[zBm]at C;subst C;exact hb _ (xA u));rw[e1,A];clear u e1;exact pb c
  .clear u;refine WW ?_;exact⟨λy z=>by simp only[zBe,zBm]at z;rcases z with z|rfl;exact hp y z;exact B,rfl⟩
 .rintro st ⟨hp,rfl⟩;obtain⟨e1,A⟩:=Fm hp;rw[e1,A];exact mx
theorem Lh (l:List Rq) (q id:Int) (v:Vh) (u:Int) (x:List Lg) (f4:Int) (hv:cJ l) (hq:(ln l:Int)<=q) (v0:0<=v.id) (v1:v.id<=4294967295) (w0:0<=v.cls) (w1:v.cls<=3) (n0:0<=f4) (n1:f4<=1073741824) (a3:ln x<=1000):
  zN 293 [zE zY l,iA q,iA id,vC v,iA u,zE yO x,iA f4] [] (.tup [zE zY (if QW l q id u x=0 then gX l (gO id v u x f4)else []),iA (QW l q id u x)]) []:=by
 have h4:=hv.n4;have hl:=zA zY l;have I:=XF l q hv hq;have B:=wR v.id 0 4294967295;have C:=wR v.cls 0 3;have E:=wR f4 0 1073741824;have z:=wR id 0 4294967295;have G:=wR u 1 600;have L:=FA x zB;have M:=mu l id zB (λr A=>by have:=hv.lg3 A;omega);rw[zAw ⟨v0,v1⟩]at B;rw[zAw ⟨w0,w1⟩]at C;rw[zAw ⟨n0,n1⟩]at E;by_cases V:0<=id/\id<=4294967295
 case neg=>
  rw[zAu V]at z;have e:QW l q id u x=8:=zAs λh=>V ⟨h.1,h.2.1⟩
  rw[e,Os yY];refine eM call293 λF hF=>?_
  exact ng (MO I B C E z)
 rw[zAw V]at z;by_cases W:1<=u/\u<=600
 case neg=>
  rw[zAu W]at G;have e:QW l q id u x=8:=zAs λh=>W ⟨h.2.2.1,h.2.2.2.1⟩
  rw[e,Os yY];refine eM call293 λF hF=>?_
  exact ng (qb I B C E z G)
 rw[zAw W]at G
 cases S:AK x with
 |false=>
  rw[S]at L;have e:QW l q id u x=8:=zAs λh=>zA9 (S.symm.trans h.2.2.2.2)
  rw[e,Os yY];refine eM call293 λF hF=>?_
  exact ng (zy I B C E z G L)
 |true=>
 rw[S]at L
 have O:QW l q id u x=if kU l id=true then 11 else if q<=ln l\/4<=(ln l:Int)then 14 else 0:=Os λh=>h ⟨V.1,V.2,W.1,W.2,S⟩
 have a2:=XE S;clear S;generalize Gr l id=fq at*
 cases hh:kU l id with
 |true=>
  rw[hh]at M;have e:QW l q id u x=11:=by rw[O,zAs hh]
  rw[e,Os yY];refine eM call293 λF hF=>?_
  exact ng (yy I B C E z G L M)
 |false=>
 rw[hh]at M;rw[Os CD]at O;by_cases g4:q<=ln l\/4<=(ln l:Int)
 case pos=>
  rw[zAs g4]at O;rw[O,Os yY];by_cases g5:q<=ln l
  ·(refine eM call293 λF hF=>?_)
   exact ng (yy I B C E z G L M)
  .have g6:4<=(ln l:Int):=g4.resolve_left g5;refine eM call293 λF hF=>?_
   exact ng (yy I B C E z G L M)
 rw[Os g4]at O;rw[O,zAs Z];have hk:=Kc l id;have ac:=λi h=>Jc (l:=l) (id:=id) (i:=i) h
 have ag:=Ic (l:=l) (id:=id)
 have Y:((l.take (XD l id:Int).toNat).map zY++[zY (gO id v u x f4)])++(l.drop (XD l id:Int).toNat).map zY=(gX l (gO id v u x f4)).map zY:=by
  rw[zBh];unfold gX gO;rw[zA0,zCc,zBl];rfl
 have d1:=eE (gX l (gO id v u x f4)) (by unfold gX;rw[zAx,zA8,zBi,zBr];omega) (λr A=>by
  unfold gX at A;rw[zBe,zCh]at A
  rcases A with A|rfl|A
  .have:=hv.lg3 (zCr A);omega
  .show (ln x)<=1000;omega
  .have:=hv.lg3 (zB1 A);omega)
 have ar:∀y,((l.take (XD l id:Int).toNat).map zY)[0]? =some y->ln y.cells=5:=yM _ _ (λ_=>rfl);have a1:∀y,((l.drop (XD l id:Int).toNat).map zY)[0]? =some y->ln y.cells=5:=yM _ _ (λ_=>rfl);have az:((l.take (XD l id:Int).toNat).map zY).length=XD l id:=by rw[zAt,zBi];omega
 have au:((l.drop (XD l id:Int).toNat).map zY).length=ln l-XD l id:=by rw[zAt,zBr];omega
 clear hv;have hR:zE zY (gX l (gO id v u x f4))=AV.sl false ((gX l (gO id v u x f4)).map zY):=rfl;rw[hR]at d1⊢;rw[<-Y]at d1⊢;clear hR Y;refine eM call293 λF hF=>?_
 refine yF (yy I B C E z G L M) ?_;refine zO (XD l id) [10] [10] [0,2,4,5,6,10] [18,0,2,4,5,6,10] Z (λi T U=>⟨(18,iA i)::T,U⟩) (Lq ?_ ?_)
 .intro i hi;have hy:=zJ zY l i zB;have ax:=ac i hi;generalize l.getD i dd=r at *;refine WW ?_;rfl
 .clear ac;by_cases ap:XD l id<ln l
  case' pos=>
   have hy:=zJ zY l (XD l id) ap;have av:=ag ap;generalize l.getD (XD l id) dd=r at*
  all_goals clear ag
  all_goals generalize XD l id=k at*
  all_goals (repeat' (first|refine WS ?_|refine SG (I2 (λhc=>?_) λhc=>?_)|refine SG λhc=>?_|(apply zG;first|(apply yC;refine gQ tok Z Z Z Z Z Z ar Z Z Z zB Z Z Z ?_)|refine SM ?_)|(first|refine GY 11 14 Z Z ?_|first|refine SR ?_|refine SK (I2 (λhc=>?_) λhc=>?_)|refine SK λhc=>?_|fail)|fail))
  all_goals refine Mc NI ?_
  all_goals (have gd:=d1;have kj:=(⟨⟩:Su 187 [] [105]);refine WW ?_;clear gd kj)
  all_goals exact zH
def wF (r:Rq) (k:Nat):AV:= .agg [iA r.id,iA r.vh,iA r.cls,iA r.til,.ref k 0 (r.legs.map yO).length]
def qE (r:Rq):xW:= .arr 5 (r.legs.map yO) false
def KI (l:List Lg) (h1:1<=ln l) (hl:ln l<=1000):zN 169 [zE yO l] [] (.ref 1101 0 (l.map yO).length) [(1101,.arr 5 (l.map yO) false)]:=by
 have u:=zA yO l;refine eM call169 λF hF=>?_
 refine xI 0 Z (λcap z=>?_) ?_
 .have:l=[]:=by simpa using z
  subst this;simp at h1
 ·(repeat' (first|refine WV ?_|refine SG (I2 (λhc=>?_) λhc=>?_)|refine SG λhc=>?_|(apply zG;first|(apply yH;refine uT (nw:=[1101]) (yV tok 1101 (xs:=[]) Z Z Z Z Z Z Z Z Z) Z Z Z ?_))|refine SB ?_|(first|apply xX|apply xT|refine vZ Z ?_|refine yS Z ?_|refine yD Z ?_|refine xZ Z (λhc=>?_) λhc=>?_|apply xJ|apply xL|apply xS|apply xB)|fail))
  exact zP [1101] Z Z Z Z
def gV (r:Rq) (h1:1<=ln r.legs) (hl:ln r.legs<=1000):zN 265 [zY r] [] (wF r 1101) [(1101,qE r)]:=by
 have c:=KI r.legs h1 hl;have u:=zA yO r.legs;refine eM call265 λF hF=>?_
 refine zS c ?_;exact zP [1101] Z Z Z Z
def KJ (l:List Lg) (h1:1<=ln l) (hl:ln l<=1000):zN 169 [zE yO l] [] (.ref 1102 0 (l.map yO).length) [(1102,.arr 5 (l.map yO) false)]:=by
 have u:=zA yO l;refine eM call169 λF hF=>?_
 refine xI 0 Z (λcap z=>?_) ?_
 .have:l=[]:=by simpa using z
  subst this;simp at h1
 ·(repeat' (first|refine WV ?_|refine SG (I2 (λhc=>?_) λhc=>?_)|refine SG λhc=>?_|(apply zG;first|(apply yH;refine uT (nw:=[1102]) (yV tok 1102 (xs:=[]) Z Z Z Z Z Z Z Z Z) Z Z Z ?_))|refine SB ?_|(first|apply xX|apply xT|refine vZ Z ?_|refine yS Z ?_|refine yD Z ?_|refine xZ Z (λhc=>?_) λhc=>?_|apply xJ|apply xL|apply xS|apply xB)|fail))
  exact zP [1102] Z Z Z Z
def aO (r:Rq) (h1:1<=ln r.legs) (hl:ln r.legs<=1000):zN 265 [zY r] [] (wF r 1102) [(1102,qE r)]:=by
 have c:=KJ r.legs h1 hl;have u:=zA yO r.legs;refine eM call265 λF hF=>?_
 refine zS c ?_;exact zP [1102] Z Z Z Z
def KL (l:List Lg) (h1:1<=ln l) (hl:ln l<=1000):zN 169 [zE yO l] [] (.ref 1103 0 (l.map yO).length) [(1103,.arr 5 (l.map yO) false)]:=by
 have u:=zA yO l;refine eM call169 λF hF=>?_
 refine xI 0 Z (λcap z=>?_) ?_
 .have:l=[]:=by simpa using z
  subst this;simp at h1
 ·(repeat' (first|refine WV ?_|refine SG (I2 (λhc=>?_) λhc=>?_)|refine SG λhc=>?_|(apply zG;first|(apply yH;refine uT (nw:=[1103]) (yV tok 1103 (xs:=[]) Z Z Z Z Z Z Z Z Z) Z Z Z ?_))|refine SB ?_|(first|apply xX|apply xT|refine vZ Z ?_|refine yS Z ?_|refine yD Z ?_|refine xZ Z (λhc=>?_) λhc=>?_|apply xJ|apply xL|apply xS|apply xB)|fail))
  exact zP [1103] Z Z Z Z
def TA (r:Rq) (h1:1<=ln r.legs) (hl:ln r.legs<=1000):zN 265 [zY r] [] (wF r 1103) [(1103,qE r)]:=by
 have c:=KL r.legs h1 hl;have u:=zA yO r.legs;refine eM call265 λF hF=>?_
 refine zS c ?_;exact zP [1103] Z Z Z Z
def KM (l:List Lg) (h1:1<=ln l) (hl:ln l<=1000):zN 169 [zE yO l] [] (.ref 1104 0 (l.map yO).length) [(1104,.arr 5 (l.map yO) false)]:=by
 have u:=zA yO l;refine eM call169 λF hF=>?_
 refine xI 0 Z (λcap z=>?_) ?_
 .have:l=[]:=by simpa using z
  subst this;simp at h1
 ·(repeat' (first|refine WV ?_|refine SG (I2 (λhc=>?_) λhc=>?_)|refine SG λhc=>?_|(apply zG;first|(apply yH;refine uT (nw:=[1104]) (yV tok 1104 (xs:=[]) Z Z Z Z Z Z Z Z Z) Z Z Z ?_))|refine SB ?_|(first|apply xX|apply xT|refine vZ Z ?_|refine yS Z ?_|refine yD Z ?_|refine xZ Z (λhc=>?_) λhc=>?_|apply xJ|apply xL|apply xS|apply xB)|fail))
  exact zP [1104] Z Z Z Z
def GU (r:Rq) (h1:1<=ln r.legs) (hl:ln r.legs<=1000):zN 265 [zY r] [] (wF r 1104) [(1104,qE r)]:=by
 have c:=KM r.legs h1 hl;have u:=zA yO r.legs;refine eM call265 λF hF=>?_
 refine zS c ?_;exact zP [1104] Z Z Z Z
def lu (a:Rq) (C:1<=ln a.legs) (B:ln a.legs<=1000):zN 222 [zE zY [a],.fn 273 []] [] (.ref 1001 0 1) [(1001,.arr 5 [wF a 1101] ⟨false,true⟩),(1101,qE a)]:=by
 have z:=vM a;have A:=gV a C B;refine eM call222 λF hF=>?_
 refine WW ?_;refine zQ 5 1001 5 Z Z Z ?_;refine wB 2 [1001,1101] [5,10,1,8,9] Z ?_;refine yB (st0:=⟨[(5,.ref 1001 0 0),(10,iA 0),(1,.fn 273 []),(8,.sl false [zY a]),(9,iA 1)],[(1001,.arr 5 [] ⟨true,false⟩)]⟩) Z ?_
 (have gd:=z;have gn:=A;(repeat' (first|refine jZ ?_|apply yW|apply xH|intro hc|(apply zG;first|(apply yH;refine qF (xs:=[_]) 1002 tok Z Z Z Z Z Z Z Z Z Z Z Z ?_)|(apply yC;first|refine wA tok Z Z Z Z Z Z Z (by intro y u;cases u;rfl) Z Z Z zV Z ?_|refine wN tok Z Z Z Z Z Z Z Z Z Z Z (by intro y u;cases u;rfl) zV Z ?_))|refine SB ?_|fail))<;>clear gd gn)
 refine yB (st0:=⟨[(5,.ref 1001 0 1),(10,iA 1),(1,.fn 273 []),(8,.sl false [zY a]),(9,iA 1)],[(1001,.arr 5 [wF a 1101] ⟨false,true⟩),(1101,qE a)]⟩) Z ?_;refine WW ?_;exact zP [1001,1101] Z Z Z Z
def BX (a:Rq) (z:1<=ln a.legs) (u:ln a.legs<=1000):zN 225 [zE zY [a]] [] (.ref 1001 0 1) [(1001,.arr 5 [wF a 1101] ⟨false,true⟩),(1101,qE a)]:=by
 have c:=lu a z u;refine eM call225 λF hF=>?_
 refine zS c ?_;exact zP [1001,1101] Z Z Z Z
def ru (a b:Rq) (I:1<=ln a.legs) (E:ln a.legs<=1000) (hb:1<=ln b.legs) (G:ln b.legs<=1000):zN 222 [zE zY [a,b],.fn 273 []] [] (.ref 1001 0 2) [(1001,.arr 5 [wF a 1101,wF b 1102] ⟨true,true⟩),(1101,qE a),(1102,qE b)]:=by
 have z:=vM a;have B:=gV a I E;have A:=vM b;have C:=aO b hb G;refine eM call222 λF hF=>?_
 refine WW ?_;refine zQ 5 1001 5 Z Z Z ?_;refine wB 3 [1001,1101,1102] [5,10,1,8,9] Z ?_;refine yB (st0:=⟨[(5,.ref 1001 0 0),(10,iA 0),(1,.fn 273 []),(8,.sl false [zY a,zY b]),(9,iA 2)],[(1001,.arr 5 [] ⟨true,false⟩)]⟩) Z ?_
 (have gd:=z;have gn:=B;(repeat' (first|refine jZ ?_|apply yW|apply xH|intro hc|(apply zG;first|(apply yH;refine qF (xs:=[_]) 1002 tok Z Z Z Z Z Z Z Z Z Z Z Z ?_)|(apply yC;first|refine wA tok Z Z Z Z Z Z Z (by intro y u;cases u;rfl) Z Z Z zV Z ?_|refine wN tok Z Z Z Z Z Z Z Z Z Z Z (by intro y u;cases u;rfl) zV Z ?_))|refine SB ?_|fail))<;>clear gd gn)
 refine yB (st0:=⟨[(5,.ref 1001 0 1),(10,iA 1),(1,.fn 273 []),(8,.sl false [zY a,zY b]),(9,iA 2)],[(1001,.arr 5 [wF a 1101] ⟨false,true⟩),(1101,qE a)]⟩) Z ?_
 (have gd:=A;have gn:=C;(repeat' (first|refine jZ ?_|apply yW|apply xH|intro hc|(apply zG;first|(apply yH;refine qF (xs:=[_]) 1002 tok Z Z Z Z Z Z Z Z Z Z Z Z ?_)|(apply yC;first|refine wA tok Z Z Z Z Z Z Z (by intro y u;cases u;rfl) Z Z Z zV Z ?_|refine wN tok Z Z Z Z Z Z Z Z Z Z Z (by intro y u;cases u;rfl) zV Z ?_))|refine SB ?_|fail))<;>clear gd gn)
 refine yB (st0:=⟨[(5,.ref 1001 0 2),(10,iA 2),(1,.fn 273 []),(8,.sl false [zY a,zY b]),(9,iA 2)],[(1001,.arr 5 [wF a 1101,wF b 1102] ⟨true,true⟩),(1101,qE a),(1102,qE b)]⟩) Z ?_;refine WW ?_;exact zP [1001,1101,1102] Z Z Z Z
def BZ (a b:Rq) (A:1<=ln a.legs) (u:ln a.legs<=1000) (hb:1<=ln b.legs) (z:ln b.legs<=1000):zN 225 [zE zY [a,b]] [] (.ref 1001 0 2) [(1001,.arr 5 [wF a 1101,wF b 1102] ⟨true,true⟩),(1101,qE a),(1102,qE b)]:=by
 have c:=ru a b A u hb z;refine eM call225 λF hF=>?_
 refine zS c ?_;exact zP [1001,1101,1102] Z Z Z Z
def su (a b c:Rq) (M:1<=ln a.legs) (I:ln a.legs<=1000) (hb:1<=ln b.legs) (L:ln b.legs<=1000) (hc:1<=ln c.legs) (gc:ln c.legs<=1000):zN 222 [zE zY [a,b,c],.fn 273 []] [] (.ref 1001 0 3) [(1001,.arr 5 [wF a 1101,wF b 1102,wF c 1103] ⟨true,true⟩),(1101,qE a),(1102,qE b),(1103,qE c)]:=by
 have z:=vM a;have C:=gV a M I;have A:=vM b;have E:=aO b hb L;have B:=vM c;have G:=TA c hc gc;refine eM call222 λF hF=>?_
 refine WW ?_;refine zQ 5 1001 5 Z Z Z ?_;refine wB 4 [1001,1101,1102,1103] [5,10,1,8,9] Z ?_;refine yB (st0:=⟨[(5,.ref 1001 0 0),(10,iA 0),(1,.fn 273 []),(8,.sl false [zY a,zY b,zY c]),(9,iA 3)],[(1001,.arr 5 [] ⟨true,false⟩)]⟩) Z ?_
 (have gd:=z;have gn:=C;(repeat' (first|refine jZ ?_|apply yW|apply xH|intro hc|(apply zG;first|(apply yH;refine qF (xs:=[_]) 1002 tok Z Z Z Z Z Z Z Z Z Z Z Z ?_)|(apply yC;first|refine wA tok Z Z Z Z Z Z Z (by intro y u;cases u;rfl) Z Z Z zV Z ?_|refine wN tok Z Z Z Z Z Z Z Z Z Z Z (by intro y u;cases u;rfl) zV Z ?_))|refine SB ?_|fail))<;>clear gd gn)
 refine yB (st0:=⟨[(5,.ref 1001 0 1),(10,iA 1),(1,.fn 273 []),(8,.sl false [zY a,zY b,zY c]),(9,iA 3)],[(1001,.arr 5 [wF a 1101] ⟨false,true⟩),(1101,qE a)]⟩) Z ?_
 (have gd:=A;have gn:=E;(repeat' (first|refine jZ ?_|apply yW|apply xH|intro hc|(apply zG;first|(apply yH;refine qF (xs:=[_]) 1002 tok Z Z Z Z Z Z Z Z Z Z Z Z ?_)|(apply yC;first|refine wA tok Z Z Z Z Z Z Z (by intro y u;cases u;rfl) Z Z Z zV Z ?_|refine wN tok Z Z Z Z Z Z Z Z Z Z Z (by intro y u;cases u;rfl) zV Z ?_))|refine SB ?_|fail))<;>clear gd gn)
 refine yB (st0:=⟨[(5,.ref 1001 0 2),(10,iA 2),(1,.fn 273 []),(8,.sl false [zY a,zY b,zY c]),(9,iA 3)],[(1001,.arr 5 [wF a 1101,wF b 1102] ⟨true,true⟩),(1101,qE a),(1102,qE b)]⟩) Z ?_
 (have gd:=B;have gn:=G;(repeat' (first|refine jZ ?_|apply yW|apply xH|intro hc|(apply zG;first|(apply yH;refine qF (xs:=[_]) 1002 tok Z Z Z Z Z Z Z Z Z Z Z Z ?_)|(apply yC;first|refine wA tok Z Z Z Z Z Z Z (by intro y u;cases u;rfl) Z Z Z zV Z ?_|refine wN tok Z Z Z Z Z Z Z Z Z Z Z (by intro y u;cases u;rfl) zV Z ?_))|refine SB ?_|fail))<;>clear gd gn)
 refine yB (st0:=⟨[(5,.ref 1001 0 3),(10,iA 3),(1,.fn 273 []),(8,.sl false [zY a,zY b,zY c]),(9,iA 3)],[(1001,.arr 5 [wF a 1101,wF b 1102,wF c 1103] ⟨true,true⟩),(1101,qE a),(1102,qE b),(1103,qE c)]⟩) Z ?_;refine WW ?_;exact zP [1001,1101,1102,1103] Z Z Z Z
def AA (a b c:Rq) (A:1<=ln a.legs) (u:ln a.legs<=1000) (hb:1<=ln b.legs) (z:ln b.legs<=1000) (hc:1<=ln c.legs) (gc:ln c.legs<=1000):zN 225 [zE zY [a,b,c]] [] (.ref 1001 0 3) [(1001,.arr 5 [wF a 1101,wF b 1102,wF c 1103] ⟨true,true⟩),(1101,qE a),(1102,qE b),(1103,qE c)]:=by
 have c:=su a b c A u hb z hc gc;refine eM call225 λF hF=>?_
 refine zS c ?_;exact zP [1001,1101,1102,1103] Z Z Z Z
theorem tu (a b c d:Rq) (S:1<=a.legs.length) (L:a.legs.length<=1000) (hb:1<=b.legs.length) (M:b.legs.length<=1000) (hc:1<=c.legs.length) (gc:c.legs.length<=1000) (hd:1<=d.legs.length) (O:d.legs.length<=1000):zN 222 [zE zY [a,b,c,d],.fn 273 []] [] (.ref 1001 0 4) [(1001,.arr 5 [wF a 1101,wF b 1102,wF c 1103,wF d 1104] ⟨true,true⟩),(1101,qE a),(1102,qE b),(1103,qE c),(1104,qE d)]:=by
 have z:=vM a;have E:=gV a S L;have A:=vM b;have G:=aO b hb M;have B:=vM c;have I:=TA c hc gc;have C:=vM d;have dd:=GU d hd O;refine eM call222 λF hF=>?_
 refine WW ?_;refine zQ 5 1001 5 Z Z Z ?_;refine wB 5 [1001,1101,1102,1103,1104] [5,10,1,8,9] Z ?_;refine yB (st0:=⟨[(5,.ref 1001 0 0),(10,iA 0),(1,.fn 273 []),(8,.sl false [zY a,zY b,zY c,zY d]),(9,iA 4)],[(1001,.arr 5 [] ⟨true,false⟩)]⟩) Z ?_
 (have gd:=z;have gn:=E;(repeat' (first|refine jZ ?_|apply yW|apply xH|intro hc|(apply zG;first|(apply yH;refine qF (xs:=[_]) 1002 tok Z Z Z Z Z Z Z Z Z Z Z Z ?_)|(apply yC;first|refine wA tok Z Z Z Z Z Z Z (by intro y u;cases u;rfl) Z Z Z zV Z ?_|refine wN tok Z Z Z Z Z Z Z Z Z Z Z (by intro y u;cases u;rfl) zV Z ?_))|refine SB ?_|fail))<;>clear gd gn)
 refine yB (st0:=⟨[(5,.ref 1001 0 1),(10,iA 1),(1,.fn 273 []),(8,.sl false [zY a,zY b,zY c,zY d]),(9,iA 4)],[(1001,.arr 5 [wF a 1101] ⟨false,true⟩),(1101,qE a)]⟩) Z ?_
 (have gd:=A;have gn:=G;(repeat' (first|refine jZ ?_|apply yW|apply xH|intro hc|(apply zG;first|(apply yH;refine qF (xs:=[_]) 1002 tok Z Z Z Z Z Z Z Z Z Z Z Z ?_)|(apply yC;first|refine wA tok Z Z Z Z Z Z Z (by intro y u;cases u;rfl) Z Z Z zV Z ?_|refine wN tok Z Z Z Z Z Z Z Z Z Z Z (by intro y u;cases u;rfl) zV Z ?_))|refine SB ?_|fail))<;>clear gd gn)
 refine yB (st0:=⟨[(5,.ref 1001 0 2),(10,iA 2),(1,.fn 273 []),(8,.sl false [zY a,zY b,zY c,zY d]),(9,iA 4)],[(1001,.arr 5 [wF a 1101,wF b 1102] ⟨true,true⟩),(1101,qE a),(1102,qE b)]⟩) Z ?_
 (have gd:=B;have gn:=I;(repeat' (first|refine jZ ?_|apply yW|apply xH|intro hc|(apply zG;first|(apply yH;refine qF (xs:=[_]) 1002 tok Z Z Z Z Z Z Z Z Z Z Z Z ?_)|(apply yC;first|refine wA tok Z Z Z Z Z Z Z (by intro y u;cases u;rfl) Z Z Z zV Z ?_|refine wN tok Z Z Z Z Z Z Z Z Z Z Z (by intro y u;cases u;rfl) zV Z ?_))|refine SB ?_|fail))<;>clear gd gn)
 refine yB (st0:=⟨[(5,.ref 1001 0 3),(10,iA 3),(1,.fn 273 []),(8,.sl false [zY a,zY b,zY c,zY d]),(9,iA 4)],[(1001,.arr 5 [wF a 1101,wF b 1102,wF c 1103] ⟨true,true⟩),(1101,qE a),(1102,qE b),(1103,qE c)]⟩) Z ?_
 (have gd:=C;have gn:=dd;(repeat' (first|refine jZ ?_|apply yW|apply xH|intro hc|(apply zG;first|(apply yH;refine qF (xs:=[_]) 1002 tok Z Z Z Z Z Z Z Z Z Z Z Z ?_)|(apply yC;first|refine wA tok Z Z Z Z Z Z Z (by intro y u;cases u;rfl) Z Z Z zV Z ?_|refine wN tok Z Z Z Z Z Z Z Z Z Z Z (by intro y u;cases u;rfl) zV Z ?_))|refine SB ?_|fail))<;>clear gd gn)
 refine yB (st0:=⟨[(5,.ref 1001 0 4),(10,iA 4),(1,.fn 273 []),(8,.sl false [zY a,zY b,zY c,zY d]),(9,iA 4)],[(1001,.arr 5 [wF a 1101,wF b 1102,wF c 1103,wF d 1104] ⟨true,true⟩),(1101,qE a),(1102,qE b),(1103,qE c),(1104,qE d)]⟩) Z ?_;refine WW ?_;exact zP [1001,1101,1102,1103,1104] Z Z Z Z
def AB (a b c d:Rq) (B:1<=ln a.legs) (u:ln a.legs<=1000) (hb:1<=ln b.legs) (z:ln b.legs<=1000) (hc:1<=ln c.legs) (gc:ln c.legs<=1000) (hd:1<=ln d.legs) (A:ln d.legs<=1000):zN 225 [zE zY [a,b,c,d]] [] (.ref 1001 0 4) [(1001,.arr 5 [wF a 1101,wF b 1102,wF c 1103,wF d 1104] ⟨true,true⟩),(1101,qE a),(1102,qE b),(1103,qE c),(1104,qE d)]:=by
 have c:=tu a b c d B u hb z hc gc hd A;refine eM call225 λF hF=>?_
 refine zS c ?_;exact zP [1001,1101,1102,1103,1104] Z Z Z Z
theorem MI (K:List Nat) (h:yT):∀a b:List AV,kP K h (a++b)=kP K h a++kP K h b
 | [],b=>rfl
 |v::a,b=>by rw[zD8,kP,kP,MI K h a b];rfl
theorem TB (K:List Nat) (h:yT):∀l:List Rq,kP K h (l.map zY)=l.map zY
 | []=>rfl
 |r::l=>by rw[zCc,kP,TB K h l];rfl
theorem JX (K:List Nat) (h:yT):∀a b:List AV,vK K h (a++b)=vK K h a++vK K h b
 | [],b=>rfl
 |v::a,b=>by rw[zD8,vK,vK,JX K h a b];rfl
theorem MJ (K:List Nat) (h:yT):∀l:List Rq,vK K h (l.map zY)=l.map zY
 | []=>rfl
 |r::l=>by rw[zCc,vK,MJ K h l];rfl
theorem VL:∀a b:List AV,vI (a++b)=(vI a&&vI b)
 | [],b=>rfl
 |v::a,b=>by rw[zD8,vI,vI,VL a b,Bool.and_assoc]
theorem YZ:∀l:List Rq,vI (l.map zY)=true
 | []=>rfl
 |r::l=>by rw[zCc,vI,YZ l];rfl
def fE (ga:List Rq) (x:Rq) (post:List Rq) (k:Nat):List AV:=ga.map zY++wF x k::post.map zY
def gW (ga:List Rq) (x:Rq) (post:List Rq) (k:Nat):(fE ga x post k).length=ln ga+1+ln post:=by simp[fE];omega
theorem dL (h:yT) (ga:List Rq) (x:Rq) (post:List Rq) (b:Bool):qY [1001,1101] h (.arr 5 (fE ga x post 1101) ⟨b,true⟩)= .arr 5 (fE ga x post 1101) ⟨b,true⟩:=by
 have e:kP [1001,1101] h (fE ga x post 1101)=fE ga x post 1101:=by
  unfold fE;rw[MI,TB,kP,TB];rfl
 have u:vI (fE ga x post 1101)=false:=by
  unfold fE;rw[VL,YZ,vI];rfl
 simp_all [yT,qY,fE]
theorem df (ga:List Rq) (x:Rq) (post:List Rq) (k:Nat) (y:Rq):fE ga x post k++[zY y]=fE ga x (post++[y]) k:=by grind [fE,zY]
theorem iu (ga:List Rq) (x:Rq) (post:List Rq) (l:List Rq) (hL:l=ga++x::post) (Y:ln l<=1000) (hb:∀r∈l,1<=ln r.legs/\r.legs.length<=1000):
  zN 222 [zE zY l,.fn 273 []] [] (.ref 1001 0 (fE ga x post 1101).length) [(1001,.arr 5 (fE ga x post 1101) ⟨true,true⟩),(1101,qE x)]:=by
 have hl:=zA zY l;have M:ln l=ln ga+1+ln post:=by rw[hL];simp;omega
 refine eM call222 λF hF=>?_
 refine WW ?_;refine zQ 5 1001 5 rfl rfl rfl ?_;refine wQ (λn st=>∃i,n+i=ln l/\st=if i<=ln ga then(⟨[(5,.ref 1001 0 ((l.take i).map zY).length),(10,iA i),(1,.fn 273 []),(8,zE zY l),(9,iA (l.map zY).length)],[(1001,.arr 5 ((l.take i).map zY) true)]⟩:St)else⟨[(5,.ref 1001 0 (fE ga x (post.take (i-ga.length-1)) 1101).length),(10,iA i),(1,.fn 273 []),(8,zE zY l),(9,iA (l.map zY).length)],[(1001,.arr 5 (fE ga x (post.take (i-ga.length-1)) 1101) ⟨true,true⟩),(1101,qE x)]⟩) (ln l) [1001,1101] [5,10,1,8,9] rfl ⟨0,zB,by rw[zAs (zBb _)];rfl⟩ ?_;rintro n st ⟨i,hi,rfl⟩;by_cases U:i<ln ga
 .rw[zAs zB];have z:=zJ zY l i zB;have C:l.getD i dd∈l:=by simp[pi,show i<ln l by omega]
  have O:=hb _ C
  have e:(l.take (i+1)).map zY=(l.take i).map zY++[zY (l.getD i dd)]:=by
   rw[zDs,zA0,zBq zB];simp[pi,show i<ln l by omega]
  have V:((l.take i).map zY).length=i:=by rw[zAt,zBi];omega
  have u:i<ln l:=by omega
  clear C;generalize l.getD i dd=r at *;have A:=vM r;have B:=TE r zB
  (have gd:=A;have gn:=B;(repeat' (first|refine uS ?_|apply yW|apply xH|intro hc|(apply zG;first|(apply yC;refine uT (nw:=[]) (wS true false tok Z Z Z Z Z Z (λh=>by cases h) Z (by intro y z;cases z;rfl) Z Z Z Z (by simp only[gW,zAt,zBi,zA8,zBz,zBr];omega) (λh=>by cases h)) Z Z Z ?_)|refine SM ?_)|fail))<;>clear gd gn)
  exact⟨n-1,zB,i+1,zB,by rw[zAs zB,e];rfl⟩
 by_cases G:i=ln ga
 .rw[zAs zB];subst G;have u:ln ga<ln l:=by omega
  have W:(l.take (ln ga)).map zY=ga.map zY:=by rw[hL];simp
  have z:(l.map zY)[ln ga]? =some (zY x):=by rw[hL];simp
  have O:=hb x CE;rw[W];clear hL;have A:=vM x;have B:=gV x zB zB;have I:ln ga<=1000:=by omega
  (have gd:=A;have gn:=B;(repeat' (first|refine jZ ?_|apply yW|apply xH|intro hc|(apply zG;first|(apply yH;refine qF (xs:=[_]) 1002 tok Z Z Z Z Z Z Z Z Z Z Z Z ?_)|(apply yC;refine uT (nw:=[]) (wS true true tok Z Z Z Z Z Z (λh=>by cases h) Z (by intro y z;cases z;rfl) Z Z Z Z (by simp only[gW,zAt,zBi,zA8,zBz,zBr];omega) (λh=>by cases h)) Z Z Z ?_))|refine SB ?_|fail))<;>clear gd gn)
  refine⟨n-1,zB,ln ga+1,zB,?_⟩;rw[Os zB,show (ln ga)+1-ga.length-1=0 by omega];refine zBd (St.mk _) ?_
  show [(1001,qY [1001,1101] _ (.arr 5 (fE ga x [] 1101) ⟨true,true⟩)),(1101,qE x)]=_
  rw[dL];rfl
 rw[Os zB];by_cases u:i<ln l
 .have z:=zJ zY l i u;have C:l.getD i dd∈l:=by simp[pi,u]
  have O:=hb _ C
  have L:post[i-ga.length-1]? =some (l.getD i dd):=by
   have h1:l[i]? =some (l.getD i dd):=by simp[pi,u]
   rw[hL,zBy zB]at h1;rw[show i-ga.length=(i-ga.length-1)+1 by omega,List.getElem?_cons_succ]at h1;rw[<-hL]at h1;exact h1
  have e:fE ga x (post.take (i+1-ga.length-1)) 1101=fE ga x (post.take (i-ga.length-1)) 1101++[zY (l.getD i dd)]:=by
   rw[df,show i+1-ga.length-1=(i-ga.length-1)+1 by omega,zDs,L];rfl
  have S:=gW ga x (post.take (i-ga.length-1)) 1101;have I:(post.take (i-ga.length-1)).length<=1000:=by rw[zBi];omega
  have E:=λh=>dL h ga x (post.take (i+1-ga.length-1)) true
  rw[e]at E;clear C L hL;generalize l.getD i dd=r,fE ga x (post.take (i-ga.length-1)) 1101=cs at *;have A:=vM r;have B:=TE r zB
  (have gd:=A;have gn:=B;(repeat' (first|refine uS ?_|apply yW|apply xH|intro hc|(apply zG;first|(apply yC;refine uT (nw:=[]) (wS true true tok Z Z Z Z Z Z (λh=>by cases h) Z (by intro y z;cases z;rfl) Z Z Z Z (by simp only[gW,zAt,zBi,zA8,zBz,zBr];omega) (λh=>by cases h)) Z Z Z ?_)|refine SM ?_)|fail))<;>clear gd gn)
  refine⟨n-1,zB,i+1,zB,?_⟩;rw[Os zB,e];refine zBd (St.mk _) ?_
  show [(1001,qY [1001,1101] _ (.arr 5 (cs++[zY r]) ⟨true,true⟩)),(1101,qE x)]=_
  rw[E]
 .have E:=λh=>dL h ga x post true
  rw[show i-ga.length-1=ln post by omega,zAv];generalize fE ga x post 1101=cs at *;refine WW ?_;refine zP [1001,1101] Z Z Z ?_
  show [(1001,qY [1001,1101] _ (.arr 5 cs ⟨true,true⟩)),(1101,qE x)]=_
  rw[E]
def AC (ga:List Rq) (x:Rq) (post:List Rq) (l:List Rq) (hL:l=ga++x::post) (z:ln l<=1000) (hb:∀r∈l,1<=ln r.legs/\r.legs.length<=1000):
  zN 225 [zE zY l] [] (.ref 1001 0 (fE ga x post 1101).length) [(1001,.arr 5 (fE ga x post 1101) ⟨true,true⟩),(1101,qE x)]:=by
 have c:=iu ga x post l hL z hb;have u:=λh=>dL h ga x post true
 generalize fE ga x post 1101=cs at *;refine eM call225 λF hF=>?_
 refine zS c ?_;refine zP [1001,1101] Z Z Z ?_
 show [(1001,qY [1001,1101] _ (.arr 5 cs ⟨true,true⟩)),(1101,qE x)]=_
 rw[u]
theorem Zu (ga:List Rq) (x:Rq) (post:List Rq) (l:List Rq) (hL:l=ga++x::post) (W:ln l<=1000) (hb:∀r∈l,1<=ln r.legs/\r.legs.length<=1000):
  zN 187 [zE zY l] [] (.ref 1001 0 (fE ga x post 1101).length) [(1001,.arr 5 (fE ga x post 1101) ⟨true,true⟩),(1101,qE x)]:=by
 have hl:=zA zY l;have L:ln l=ln ga+1+ln post:=by rw[hL];simp;omega
 refine eM call187 λF hF=>?_
 refine WW ?_;refine zQ 3 1001 5 rfl rfl rfl ?_;refine wQ (λn st=>∃i,n+i=ln l/\st=if i<=ln ga then(⟨[(3,.ref 1001 0 ((l.take i).map zY).length),(8,iA i),(6,zE zY l),(7,iA (l.map zY).length)],[(1001,.arr 5 ((l.take i).map zY) true)]⟩:St)else⟨[(3,.ref 1001 0 (fE ga x (post.take (i-ga.length-1)) 1101).length),(8,iA i),(6,zE zY l),(7,iA (l.map zY).length)],[(1001,.arr 5 (fE ga x (post.take (i-ga.length-1)) 1101) ⟨true,true⟩),(1101,qE x)]⟩) (ln l) [1001,1101] [3,8,6,7] rfl ⟨0,zB,by rw[zAs (zBb _)];rfl⟩ ?_;rintro n st ⟨i,hi,rfl⟩;by_cases S:i<ln ga
 .rw[zAs zB];have z:=zJ zY l i zB;have A:l.getD i dd∈l:=by simp[pi,show i<ln l by omega]
  have M:=hb _ A
  have e:(l.take (i+1)).map zY=(l.take i).map zY++[zY (l.getD i dd)]:=by
   rw[zDs,zA0,zBq zB];simp[pi,show i<ln l by omega]
  have U:((l.take i).map zY).length=i:=by rw[zAt,zBi];omega
  have u:i<ln l:=by omega
  clear A;generalize l.getD i dd=r at *;have B:=zA yO r.legs
  (repeat' (first|refine jZ ?_|apply yW|apply xH|intro hc|(apply zG;first|(apply yC;refine uT (nw:=[]) (wS true false tok Z Z Z Z Z Z (λh=>by cases h) Z (by intro y z;cases z;rfl) Z Z Z Z (by simp only[gW,zAt,zBi,zA8,zBz,zBr];omega) (λh=>by cases h)) Z Z Z ?_)|refine SL ?_|refine SM ?_)|refine SB ?_|fail))
  exact⟨n-1,zB,i+1,zB,by rw[zAs zB,e];rfl⟩
 by_cases E:i=ln ga
 .rw[zAs zB];subst E;have u:ln ga<ln l:=by omega
  have V:(l.take (ln ga)).map zY=ga.map zY:=by rw[hL];simp
  have z:(l.map zY)[ln ga]? =some (zY x):=by rw[hL];simp
  have M:=hb x CE;rw[V];clear hL;have B:=zA yO x.legs;have G:ln ga<=1000:=by omega
  (repeat' (first|refine jZ ?_|apply yW|apply xH|intro hc|(apply zG;first|(apply yC;refine xG 1101 tok Z Z Z Z Z Z (yM _ _ (λ_=>rfl)) Z Z Z zB Z Z Z ?_)|(apply yH;refine qF (xs:=[_]) 1002 tok Z Z Z Z Z Z Z Z Z Z Z Z ?_)|(apply yC;refine uT (nw:=[]) (wS true true tok Z Z Z Z Z Z (λh=>by cases h) Z (by intro y z;cases z;rfl) Z Z Z Z (by simp only[gW,zAt,zBi,zA8,zBz,zBr];omega) (λh=>by cases h)) Z Z Z ?_))|refine SB ?_|fail))
  refine⟨n-1,zB,ln ga+1,zB,?_⟩;rw[Os zB,show (ln ga)+1-ga.length-1=0 by omega];refine zBd (St.mk _) ?_
  show [(1001,qY [1001,1101] _ (.arr 5 (fE ga x [] 1101) ⟨true,true⟩)),(1101,qE x)]=_
  rw[dL];rfl
 rw[Os zB];by_cases u:i<ln l
 .have z:=zJ zY l i u;have A:l.getD i dd∈l:=by simp[pi,u]
  have M:=hb _ A
  have I:post[i-ga.length-1]? =some (l.getD i dd):=by
   have h1:l[i]? =some (l.getD i dd):=by simp[pi,u]
   rw[hL,zBy zB]at h1;rw[show i-ga.length=(i-ga.length-1)+1 by omega,List.getElem?_cons_succ]at h1;rw[<-hL]at h1;exact h1
  have e:fE ga x (post.take (i+1-ga.length-1)) 1101=fE ga x (post.take (i-ga.length-1)) 1101++[zY (l.getD i dd)]:=by
   rw[df,show i+1-ga.length-1=(i-ga.length-1)+1 by omega,zDs,I];rfl
  have O:=gW ga x (post.take (i-ga.length-1)) 1101;have G:(post.take (i-ga.length-1)).length<=1000:=by rw[zBi];omega
  have C:=λh=>dL h ga x (post.take (i+1-ga.length-1)) true
  rw[e]at C;clear A I hL;generalize l.getD i dd=r,fE ga x (post.take (i-ga.length-1)) 1101=cs at *;have B:=zA yO r.legs
  (repeat' (first|refine jZ ?_|apply yW|apply xH|intro hc|(apply zG;first|(apply yC;refine uT (nw:=[]) (wS true true tok Z Z Z Z Z Z (λh=>by cases h) Z (by intro y z;cases z;rfl) Z Z Z Z (by simp only[gW,zAt,zBi,zA8,zBz,zBr];omega) (λh=>by cases h)) Z Z Z ?_)|refine SL ?_|refine SM ?_)|refine SB ?_|fail))
  refine⟨n-1,zB,i+1,zB,?_⟩;rw[Os zB,e];refine zBd (St.mk _) ?_
  show [(1001,qY [1001,1101] _ (.arr 5 (cs++[zY r]) ⟨true,true⟩)),(1101,qE x)]=_
  rw[C]
 .have C:=λh=>dL h ga x post true
  rw[show i-ga.length-1=ln post by omega,zAv];generalize fE ga x post 1101=cs at *;refine WW ?_;refine zP [1001,1101] Z Z Z ?_
  show [(1001,qY [1001,1101] _ (.arr 5 cs ⟨true,true⟩)),(1101,qE x)]=_
  rw[C]
def QV (p:Int×Int):AV:= .agg [iA p.1,iA p.2]
def EN (f4:Int) (g:Lg) (p:Int×Int):Lg:=⟨g.jn,g.ph,f4+p.1,f4+p.2,g.sc⟩
def JY (f4:Int) (g:Lg) (p:Int×Int):Bool:=EO g.jn g.ph p.1 p.2 f4
def AD (gs:List Lg) (w:List (Int×Int)) (f4:Int):Bool:=(gs.zipWith (JY f4) w).all id
def fP (l:List Rq) (id:Int) (w:List (Int×Int)) (f4:Int):Int:=
 if kU l id=true then(if (ln w)=(Gr l id).legs.length/\AD (Gr l id).legs w f4=true then 0 else 8)else 12
def ZV (l:List Rq) (id:Int) (w:List (Int×Int)) (f4:Int):List Rq:=l.map λr=>if r.id=id then⟨r.id,r.vh,r.cls,r.til,r.legs.zipWith (EN f4) w⟩else r
def KN (gs:List Lg) (w:List (Int×Int)) (f4:Int) (i:Nat):List Lg:=(gs.take i).zipWith (EN f4) (w.take i)++gs.drop i
theorem PY (h:ln w=ln gs) (hi:i<=ln gs):(KN gs w f4 i).length=ln gs:=by grind [KN]
theorem Em (h:ln w=ln gs) (hi:i<ln gs):((KN gs w f4 i).map yO)[i]? =some (yO (gs.getD i dd)):=by grind [KN,yO]
theorem af (h:ln w=ln gs) (hi:i<ln gs):((KN gs w f4 i).map yO).set i (yO (EN f4 (gs.getD i dd) (w.getD i dd)))=(KN gs w f4 (i+1)).map yO:=by
 unfold KN;have e:((gs.take i).zipWith (EN f4) (w.take i)).length=i:=by rw[List.length_zipWith,zBi,zBi];omega
 rw[<-zCe,zEs _ _ zB,e,zDx,zE3 hi,zFv];rw[zDs,zDs,List.zipWith_append (by rw[zBi,zBi];omega)]
 simp_all [KN,yO,EN]
def Bx (gs:List Lg) (w:List (Int×Int)) (f4:Int):KN gs w f4 0=gs:=by simp[KN]
theorem pf (h:ln w=ln gs):KN gs w f4 (ln gs)=gs.zipWith (EN f4) w:=by grind [KN,EN]
theorem nf (h:ln w=ln gs) (u:∀i,i<ln gs->JY f4 (gs.getD i dd) (w.getD i dd)=true):AD gs w f4=true:=by grind [JY,AD,List.all_eq_true,List.mem_iff_getElem,List.length_zipWith,List.getD]
theorem Dm (h:ln w=ln gs) (hi:i<ln gs) (u:JY f4 (gs.getD i dd) (w.getD i dd)=false):AD gs w f4=false:=by
 unfold AD;rw[zD0];refine⟨JY f4 (gs.getD i dd) (w.getD i dd),?_,by rw[u];decide⟩
 have:(gs.zipWith (JY f4) w)[i]? =some (JY f4 (gs.getD i dd) (w.getD i dd)):=by
  grind
 grind
theorem GV {id:Int} (hL:l=ga++x::post) (hv:cJ l) (z:x.id=id):ZV l id w f4=ga++⟨x.id,x.vh,x.cls,x.til,x.legs.zipWith (EN f4) w⟩::post:=by
 have u:=hv.so;rw[hL,zEz,zFu]at u;obtain⟨_,⟨h2,_⟩,A⟩:=u;unfold ZV;rw[hL,zA0,zCc,zAs z]
 congr 1
 .conv=>rhs;rw[<-List.map_id ga]
  grind [ZV,EN,List.map_congr_left]
 .congr 1
  conv=>rhs;rw[<-List.map_id post]
  grind [ZV,EN,List.map_congr_left]
def mf {h:yT} {b:Bool} (h1:h 1001=some (.arr 5 (fE ga x post 1101) ⟨b,true⟩)) (h2:h 1101=some (.arr 5 (gs.map yO) false)) (hl:ln gs=ln x.legs):
  wW [] h (.ref 1001 0 (fE ga x post 1101).length)=zE zY (ga++⟨x.id,x.vh,x.cls,x.til,gs⟩::post):=by
 have e:vK [] h (fE ga x post 1101)=(ga++⟨x.id,x.vh,x.cls,x.til,gs⟩::post).map zY:=by
  unfold fE;rw[JX,MJ,vK,MJ,zA0,zCc]
  congr 1
  congr 1
  show AV.agg [iA x.id,iA x.vh,iA x.cls,iA x.til,qX [] h (.ref 1101 0 (x.legs.map yO).length)]=_
  have z:qX [] h (.ref 1101 0 (x.legs.map yO).length)=zE yO gs:=by
   simp only[qX,h2]
   show AV.sl false (((gs.map yO).drop 0).take (x.legs.map yO).length)=_
   rw[zBf,zAt,zA2 (by rw[zAt,hl];exact zAy _)];rfl
  rw[z];rfl
 have u:(fE ga x post 1101).length=((ga++⟨x.id,x.vh,x.cls,x.til,gs⟩::post).map zY).length:=by rw[gW];simp;omega
 rw[u];simp only[wW,h1]
 show(bif vI (vK [] h (fE ga x post 1101))then AV.sl false (((vK [] h (fE ga x post 1101)).drop 0).take _)else .bot)=_
 rw[e,YZ,zBf,zAv];rfl
theorem RF {id:Int} (h:kU l id=true):∃ga x post,l=ga++x::post/\x.id=id/\(∀y∈ga,y.id≠id)/\Gr l id=x/\TF (λr:Rq=>r.id==id) l=(ln ga:Int):=by
 induction l with
 |nil=>cases h
 |cons a l z=>
  by_cases u:a.id=id
  .refine⟨[],a,l,rfl,u,by simp,(gf (ga:=[]) Z zV u).1,OA (ga:=[]) Z zV (by simpa using u)⟩
  all_goals grind [kU,Gr,TF]
theorem Cm (l:List Rq) (id:Int) (w:List (Int×Int)) (f4:Int) (hv:cJ l) (hw:ln w<=1000) (n0:0<=f4) (n1:f4<=1073741824):
  zN 310 [zE zY l,iA id,zE QV w,iA f4] [] (.tup [zE zY (if fP l id w f4=0 then ZV l id w f4 else []),iA (fP l id w f4)]) []:=by
 have h4:=hv.n4;have av:=zA QV w;have c1:=TK l 4 hv zB;have Y:=Pf f4;have I:=ML l id zB;rw[zAw ⟨n0,n1⟩]at Y
 cases hh:kU l id with
 |false=>
  have hx:=bU (p:=λx:Rq=>x.id==id) (l:=l) (by simpa [kU]using hh);rw[hx]at I;have e:fP l id w f4=12:=Os CD;rw[e,Os yY];refine eM call310 λF hF=>?_
  exact ng (qC c1 Y I)
 |true=>
 obtain⟨ga,x,post,hL,hx,_,hf,M⟩:=RF hh;rw[M]at I;have E:=GV (w:=w) (f4:=f4) hL hv hx
 have A:fP l id w f4=if (ln w)=ln x.legs/\AD x.legs w f4=true then 0 else 8:=by unfold fP;rw[zAs hh,hf]
 have ag:ln l=ln ga+1+ln post:=by rw[hL];simp;omega
 have az:=hv.lg3 (r:=x) CE;have c4:=AC ga x post l hL zB (λr hr=>by have:=hv.lg3 hr;omega);have ar:=gW ga x post 1101;have L:=λh=>dL h ga x post true
 have ap:(fE ga x post 1101)[((ln ga:Int)).toNat]? =some (wF x 1101):=by unfold fE;simp
 have z:=λh gs=>mf (h:=h) (ga:=ga) (post:=post) (x:=x) (b:=true) (gs:=gs)
 have ax:=zA yO x.legs;generalize fE ga x post 1101=cs at *;clear hL hv M hf hh hx;by_cases u:ln w=ln x.legs
 case neg=>
  rw[Os (λh=>u h.1)]at A;rw[A,Os yY];refine eM call310 λF hF=>?_
  exact ng (cI c1 Y I c4)
 refine eM call310 λF hF=>?_
 refine yF (cI c1 Y I c4) ?_;refine wQ (λn st=>∃i,n+i=ln x.legs/\(∀j,j<i->JY f4 (x.legs.getD j dd) (w.getD j dd)=true)/\st=(⟨[(44,iA i),(3,iA f4),(11,.ref 1001 0 (ln cs)),(12,.ref 1101 0 (x.legs.map yO).length),(42,zE QV w),(43,iA (w.map QV).length)],[(1001,.arr 5 cs ⟨true,true⟩),(1101,.arr 5 ((KN x.legs w f4 i).map yO) false)]⟩:St)) (ln x.legs) [1001,1101] [44,3,11,12,42,43] Z ⟨0,zB,λj hj=>absurd hj (zCp _),?_⟩ ?_
 .rw[Bx];refine zBd (St.mk _) ?_
  show [(1001,qY [1001,1101] _ (.arr 5 cs ⟨true,true⟩)),(1101,qE x)]=_
  rw[L];rfl
 rintro n st ⟨i,hi,hok,rfl⟩;by_cases B:i<ln x.legs
 .have C:=PY (i:=i) (f4:=f4) u zB;have au:=zA yO (KN x.legs w f4 i);have a1:=zJ QV w i zB;have hy:=Em (f4:=f4) u B;have V:=af (f4:=f4) u B;have G:=Uf (x.legs.getD i dd).jn (x.legs.getD i dd).ph (w.getD i dd).1 (w.getD i dd).2 f4
  cases hb:JY f4 (x.legs.getD i dd) (w.getD i dd)with
  |false=>
   have O:=Dm u B hb;rw[Os (λh=>by rw[O]at h;cases h.2)]at A;rw[A,Os yY];unfold JY at hb;unfold GZ at G;rw[hb,Os zA9,Os zA9]at G;clear hok z E O V;generalize x.legs.getD i dd=g,w.getD i dd=q,(KN x.legs w f4 i).map yO=ys at *;exact nl G
  | true=>
   have S:∀j,j<i+1->JY f4 (x.legs.getD j dd) (w.getD j dd)=true:=λj hj=>by
    by_cases ac:j=i
    .rw[ac];exact hb
    .exact hok j zB
   unfold JY at hb;unfold GZ at G;rw[hb,zAs Z,zAs Z]at G;have U:∀y:AV,(((KN x.legs w f4 i).map yO).set i y)[i]? =some y:=λy=>zBs zB
   clear hok z E A hb;generalize x.legs.getD i dd=g,w.getD i dd=q,(KN x.legs w f4 i).map yO=ys at *
   (have gd:=G;(repeat' (first|refine WTR ?_|apply yW|apply xH|intro hc|(apply zG;first|(apply dX;refine Dc tok Z Z Z (U _) Z Z Z Z Z Z Z Z ?_)|refine SM ?_)|refine SB ?_|fail))<;>clear gd)
   refine⟨n-1,zB,i+1,zB,S,?_⟩;refine zBd (St.mk _) ?_
   show [(1001,qY [1001,1101] _ (.arr 5 cs ⟨true,true⟩)),(1101,.arr 5 ((ys.set i _).set i (yO (EN f4 g q))) false)]=_
   rw[L,zE4,V]
 .obtain rfl:i=ln x.legs:=by omega
  have C:=PY (i:=ln x.legs) (f4:=f4) u (zAy _);have W:=nf u hok;rw[zAs ⟨u,W⟩]at A;rw[A,zAs Z,E];rw[pf u]at C⊢;generalize x.legs.zipWith (EN f4) w=gs at *;refine WW ?_;refine zI [] Z Z ?_ Z
  show AV.tup [ZD (wW [] _ (.ref 1001 0 (ln cs))),iA 0]=_
  rw[z _ gs Z Z C];rfl
theorem Bm (K:List Nat) (z:K.contains 1101=true) (h:yT) (ga:List Rq) (x:Rq) (post:List Rq) (b:Bool):qY K h (.arr 5 (fE ga x post 1101) ⟨b,true⟩)= .arr 5 (fE ga x post 1101) ⟨b,true⟩:=by
 have u:wW K h (wF x 1101)=wF x 1101:=by
  show AV.agg [_,_,_,_,bif K.contains 1101 then .ref 1101 0 (x.legs.map yO).length else _]=_
  rw[z];rfl
 have e:kP K h (fE ga x post 1101)=fE ga x post 1101:=by
  unfold fE;rw[MI,TB,kP,TB,u]
 have A:vI (fE ga x post 1101)=false:=by
  unfold fE;rw[VL,YZ,vI];rfl
 simp_all [yT,qY,fE]
theorem Kh (l:List Rq) (id:Int) (w:List (Int×Int)) (f4:Int) (hv:cJ l) (hw:ln w<=1000) (n0:0<=f4) (n1:f4<=1073741824):
  zN 294 [zE zY l,iA id,zE QV w,iA f4] [] (.tup [zE zY (if fP l id w f4=0 then ZV l id w f4 else []),iA (fP l id w f4)]) []:=by
 have h4:=hv.n4;have ax:=zA QV w;have c1:=XF l 4 hv zB;have c2:=wR f4 0 1073741824;rw[zAw ⟨n0,n1⟩]at c2
 cases hh:kU l id with
 | false=>
  have c3:=eE l zB (λr hr=>by have:=hv.lg3 hr;omega);have e:fP l id w f4=12:=Os CD;have C:∀r∈l,r.id≠id:=by simpa [kU]using hh
  have hl:=zA zY l;rw[e,Os yY];clear hh e;refine eM call294 λF hF=>?_
  refine yF (qC c1 c2 c3) ?_;refine zO (ln l) [] [] [1,2,3,10,27,28] [29,1,2,3,10,27,28] Z (λi T U=>⟨(29,iA i)::T,U⟩) (Lq ?_ ?_)
  .intro i hi;have hy:=zJ zY l i hi;have hm:=C (l.getD i dd) (by simp[pi,hi]);generalize l.getD i dd=r at *;refine WW ?_;rfl
  .exact mx
 |true=>
 obtain⟨ga,x,post,hL,hx,W,hf,_⟩:=RF hh;have M:=GV (w:=w) (f4:=f4) hL hv hx
 have G:fP l id w f4=if (ln w)=ln x.legs/\AD x.legs w f4=true then 0 else 8:=by unfold fP;rw[zAs hh,hf]
 have ar:ln l=ln ga+1+ln post:=by rw[hL];simp;omega
 have a1:=hv.lg3 (r:=x) CE;have c4:=Zu ga x post l hL zB (λr hr=>by have:=hv.lg3 hr;omega);have au:=gW ga x post 1101;have I:=λh=>dL h ga x post true
 have E:=λh=>Bm [12,1001,1101] Z h ga x post true
 have S:(fE ga x post 1101)[ln ga]? =some (wF x 1101):=by unfold fE;simp
 have A:∀i,i<ln ga->∃r:Rq,r.id≠id/\(fE ga x post 1101)[i]? =some (zY r):=λi hi=>by
  refine⟨ga[i],W _ (zEn hi),?_⟩;unfold fE;rw[zBw DX];simp[hi]
 have z:=λh gs=>mf (h:=h) (ga:=ga) (post:=post) (x:=x) (b:=true) (gs:=gs)
 have az:=zA yO x.legs;generalize fE ga x post 1101=cs at *;clear hL hv hf hh W;refine eM call294 λF hF=>?_
 refine yF (qC c1 c2 c4) ?_;refine wQ (λn st=>∃i,n+i=ln ga/\st=(⟨[(29,iA i),(1,iA id),(2,zE QV w),(3,iA f4),(10,.ref 1001 0 (ln cs)),(27,.ref 1001 0 (ln cs)),(28,iA (ln cs))],[(1001,.arr 5 cs ⟨true,true⟩),(1101,qE x)]⟩:St)) (ln ga) [1001,1101] [29,1,2,3,10,27,28] Z ⟨0,zB,?_⟩ ?_
 .refine zBd (St.mk _) ?_
  show [(1001,qY [1001,1101] _ (.arr 5 cs ⟨true,true⟩)),(1101,qE x)]=_
  rw[I]
 rintro n st ⟨i,hi,rfl⟩;by_cases B:i<ln ga
 .obtain⟨r,hr,hy⟩:=A i B;clear z A S;refine WW ?_;refine⟨n-1,zB,i+1,zB,?_⟩;refine zBd (St.mk _) ?_
  show [(1001,qY [1001,1101] _ (.arr 5 cs ⟨true,true⟩)),(1101,qE x)]=_
  rw[I]
 obtain rfl:i=ln ga:=by omega
 clear A I hi;have ap:cs[((ln ga:Int)).toNat]? =some (wF x 1101):=S;by_cases u:ln w=ln x.legs
 case neg=>
  rw[Os (λh=>u h.1)]at G;rw[G,Os yY];clear z;exact mx
 refine WW ?_;refine wQ (λn st=>∃i,n+i=ln x.legs/\(∀j,j<i->JY f4 (x.legs.getD j dd) (w.getD j dd)=true)/\st=(⟨[(46,iA i),(3,iA f4),(10,.ref 1001 0 (ln cs)),(11,iA (ln ga)),(12,.ptr 12 0 0),(44,zE QV w),(45,iA (w.map QV).length)],[(12,.box [iA x.id,iA x.vh,iA x.cls,iA x.til,.ref 1101 0 (x.legs.map yO).length]),(1001,.arr 5 cs ⟨true,true⟩),(1101,.arr 5 ((KN x.legs w f4 i).map yO) false)]⟩:St)) (ln x.legs) [12,1001,1101] [46,3,10,11,12,44,45] Z ⟨0,zB,λj hj=>absurd hj (zCp _),?_⟩ ?_
 .rw[Bx];refine zBd (St.mk _) ?_
  show [(12,.box [iA x.id,iA x.vh,iA x.cls,iA x.til,.ref 1101 0 (x.legs.map yO).length]),(1001,qY [12,1001,1101] _ (.arr 5 cs ⟨true,true⟩)),(1101,qE x)]=_
  rw[E];rfl
 rintro n st ⟨i,hi,hok,rfl⟩;by_cases B:i<ln x.legs
 .have L:=PY (i:=i) (f4:=f4) u zB;have av:=zA yO (KN x.legs w f4 i);have a2:=zJ QV w i zB;have hy:=Em (f4:=f4) u B;have Y:=af (f4:=f4) u B;have O:=AJ (x.legs.getD i dd).jn (x.legs.getD i dd).ph (w.getD i dd).1 (w.getD i dd).2 f4
  cases hb:JY f4 (x.legs.getD i dd) (w.getD i dd)with
  |false=>
   have C:=Dm u B hb;rw[Os (λh=>by rw[C]at h;cases h.2)]at G;rw[G,Os yY];unfold JY at hb;unfold GZ at O;rw[hb,Os zA9,Os zA9]at O;clear hok z M C Y;generalize x.legs.getD i dd=g,w.getD i dd=q,(KN x.legs w f4 i).map yO=ys at *;exact nl O
  | true=>
   have V:∀j,j<i+1->JY f4 (x.legs.getD j dd) (w.getD j dd)=true:=λj hj=>by
    by_cases ag:j=i
    .rw[ag];exact hb
    .exact hok j zB
   unfold JY at hb;unfold GZ at O;rw[hb,zAs Z,zAs Z]at O;clear hok z M G hb;generalize x.legs.getD i dd=g,w.getD i dd=q,(KN x.legs w f4 i).map yO=ys at *;refine zS O ?_;refine⟨n-1,zB,i+1,zB,V,?_⟩;refine zBd (St.mk _) ?_
   show [(12,.box [iA x.id,iA x.vh,iA x.cls,iA x.til,.ref 1101 0 (x.legs.map yO).length]),(1001,qY [12,1001,1101] _ (.arr 5 cs ⟨true,true⟩)),(1101,.arr 5 (ys.set i (yO (EN f4 g q))) false)]=_
   rw[E,Y]
 .obtain rfl:i=ln x.legs:=by omega
  have L:=PY (i:=ln x.legs) (f4:=f4) u (zAy _);have ac:=nf u hok;rw[zAs ⟨u,ac⟩]at G;rw[G,zAs Z,M];rw[pf u]at L⊢;generalize x.legs.zipWith (EN f4) w=gs at *;refine WW ?_;refine zI [] Z Z ?_ Z
  show AV.tup [ZD (wW [] _ (.ref 1001 0 (ln cs))),iA 0]=_
  rw[z _ gs Z Z L];rfl
