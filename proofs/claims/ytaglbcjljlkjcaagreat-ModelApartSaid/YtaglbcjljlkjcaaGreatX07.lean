/- Part 7. -/
import Derived.Test.YtaglbcjljlkjcaaGreatX06
namespace Go.Proofs.YtaglbcjljlkjcaaGreat.Av
open Tryz
set_option linter.all false
set_option maxRecDepth 4000
set_option maxHeartbeats 2000000
open List renaming length->ln,getD->pb
open Inhabited renaming default->dd
variable {f3:Int}{w:List (Int×Int)}{gs:List Lg}{l post f4:List Rq}{i:Nat}{x:Rq}
def Dr (l:List Rq) (id:Int):Rq:=(l.find? λx=>x.id==id).getD ⟨0,0,0,0,[]⟩
theorem yg {id:Int} (h:l=f4++x::post) (u:∀y∈f4,y.id≠id) (z:x.id=id):Dr l id=x/\kV l id=true:=by grind [Dr,kV]
theorem Eo {id:Int} (u:∀y∈l,y.id≠id):Dr l id=⟨0,0,0,0,[]⟩/\kV l id=false:=by grind [Dr,kV,List.find?_eq_none]
def mv (l:List Rq) (id:Int) (I:ln l<=1000) (hb:∀r∈l,ln r.legs<=1000):zO 336 [zE zY l,iA id] [] (.tup [zY (Dr l id),bA (kV l id)]) []:=by
 have hl:=zA zY l;refine eM call336 λF hF=>?_
 refine WW ?_;refine uZ (l) [4] [] [1,4,8,9] [10,1,4,8,9] Z (λi f4 T U G=>(∀y∈f4,y.id≠id)/\G=⟨(10,iA i)::T,(4,.box [.s (.int .i64 0),.s (.int .i64 0),.s (.int .i64 0),.s (.int .i64 0),.s (.slice none 0 0)])::U⟩) (Lp ?_ ?_ ?_)
 .exact⟨by simp,rfl⟩
 .rintro i f4 x post st u hi ⟨hp,rfl⟩;have z:=yG zY u hi;have E:=zW u hi;by_cases B:x.id=id
  .obtain⟨e1,A⟩:=yg u hp B;have c:zO 187 [.sl false [.agg [iA x.id,iA x.vh,iA x.cls,iA x.til,zE yO x.legs]]] [] (.sl false [.agg [iA x.id,iA x.vh,iA x.cls,iA x.til,zE yO x.legs]]) []:=eK [x] zV (λr C=>by rw[zB1]at C;subst C;exact hb _ (yY u));rw[e1,A];clear u e1;exact oj c
  .clear u;refine WW ?_;exact⟨λy z=>by simp only[zBs,zB1]at z;rcases z with z|rfl;exact hp y z;exact B,rfl⟩
 .rintro st ⟨hp,rfl⟩;obtain⟨e1,A⟩:=Eo hp;rw[e1,A];exact ly
theorem mi (l:List Rq) (q id:Int) (v:Vh) (u:Int) (x:List Lg) (f3:Int) (hv:cN l) (hq:(ln l:Int)<=q) (v0:0<=v.id) (v1:v.id<=4294967295) (w0:0<=v.cls) (w1:v.cls<=3) (n0:0<=f3) (n1:f3<=1073741824) (a2:ln x<=1000):
  zO 293 [zE zY l,iA q,iA id,wX v,iA u,zE yO x,iA f3] [] (.tup [zE zY (if PH l q id u x=0 then fB l (gP id v u x f3)else []),iA (PH l q id u x)]) []:=by
 have h4:=hv.n4;have hl:=zA zY l;have I:=YV l q hv hq;have B:=wQ v.id 0 4294967295;have C:=wQ v.cls 0 3;have E:=wQ f3 0 1073741824;have z:=wQ id 0 4294967295;have G:=wQ u 1 600;have L:=GP x zB;have M:=mv l id zB (λr A=>by have:=hv.lg3 A;omega);rw[zA9 ⟨v0,v1⟩]at B;rw[zA9 ⟨w0,w1⟩]at C;rw[zA9 ⟨n0,n1⟩]at E;by_cases S:0<=id/\id<=4294967295
 case neg=>
  rw[zA7 S]at z;have e:PH l q id u x=8:=zA5 λh=>S ⟨h.1,h.2.1⟩
  rw[e,Os xA];refine eM call293 λF hF=>?_
  exact mx (NV I B C E z)
 rw[zA9 S]at z;by_cases V:1<=u/\u<=600
 case neg=>
  rw[zA7 V]at G;have e:PH l q id u x=8:=zA5 λh=>V ⟨h.2.2.1,h.2.2.2.1⟩
  rw[e,Os xA];refine eM call293 λF hF=>?_
  exact mx (Zb I B C E z G)
 rw[zA9 V]at G
 cases R:BG x with
 |false=>
  rw[R]at L;have e:PH l q id u x=8:=zA5 λh=>zBm (R.symm.trans h.2.2.2.2)
  rw[e,Os xA];refine eM call293 λF hF=>?_
  exact mx (wy I B C E z G L)
 |true=>
 rw[R]at L
 have O:PH l q id u x=if kV l id=true then 11 else if q<=ln l\/4<=(ln l:Int)then 14 else 0:=Os λh=>h ⟨S.1,S.2,V.1,V.2,R⟩
 have a1:=YU R;clear R;generalize Dr l id=fq at*
 cases hh:kV l id with
 |true=>
  rw[hh]at M;have e:PH l q id u x=11:=by rw[O,zA5 hh]
  rw[e,Os xA];refine eM call293 λF hF=>?_
  exact mx (vy I B C E z G L M)
 |false=>
 rw[hh]at M;rw[Os BW]at O;by_cases g4:q<=ln l\/4<=(ln l:Int)
 case pos=>
  rw[zA5 g4]at O;rw[O,Os xA];by_cases g5:q<=ln l
  ·(refine eM call293 λF hF=>?_)
   exact mx (vy I B C E z G L M)
  .have g6:4<=(ln l:Int):=g4.resolve_left g5;refine eM call293 λF hF=>?_
   exact mx (vy I B C E z G L M)
 rw[Os g4]at O;rw[O,zA5 Z];have hk:=Sd l id;have Y:=λi h=>Rd (l:=l) (id:=id) (i:=i) h
 have ac:=Pd (l:=l) (id:=id)
 have W:((l.take (XG l id:Int).toNat).map zY++[zY (gP id v u x f3)])++(l.drop (XG l id:Int).toNat).map zY=(fB l (gP id v u x f3)).map zY:=by
  rw[zBx];unfold fB gP;rw[zBd,zCo,zBy];rfl
 have d1:=eK (fB l (gP id v u x f3)) (by unfold fB;rw[zBa,zBl,zBv,zB6];omega) (λr A=>by
  unfold fB at A;rw[zBs,zCt]at A
  rcases A with A|rfl|A
  .have:=hv.lg3 (zC2 A);omega
  .show (ln x)<=1000;omega
  .have:=hv.lg3 (zCc A);omega)
 have ap:∀y,((l.take (XG l id:Int).toNat).map zY)[0]? =some y->ln y.cells=5:=yM _ _ (λ_=>rfl);have az:∀y,((l.drop (XG l id:Int).toNat).map zY)[0]? =some y->ln y.cells=5:=yM _ _ (λ_=>rfl);have ax:((l.take (XG l id:Int).toNat).map zY).length=XG l id:=by rw[zA6,zBv];omega
 have ar:((l.drop (XG l id:Int).toNat).map zY).length=ln l-XG l id:=by rw[zA6,zB6];omega
 clear hv;have hR:zE zY (fB l (gP id v u x f3))=AV.sl false ((fB l (gP id v u x f3)).map zY):=rfl;rw[hR]at d1⊢;rw[<-W]at d1⊢;clear hR W;refine eM call293 λF hF=>?_
 refine yJ (vy I B C E z G L M) ?_;refine zN (XG l id) [10] [10] [0,2,4,5,6,10] [18,0,2,4,5,6,10] Z (λi T U=>⟨(18,iA i)::T,U⟩) (Lq ?_ ?_)
 .intro i hi;have hy:=zJ zY l i zB;have av:=Y i hi;generalize l.getD i dd=r at *;refine WW ?_;rfl
 .clear Y;by_cases ag:XG l id<ln l
  case' pos=>
   have hy:=zJ zY l (XG l id) ag;have au:=ac ag;generalize l.getD (XG l id) dd=r at*
  all_goals clear ac
  all_goals generalize XG l id=k at*
  all_goals (repeat' (first|refine WS ?_|refine SG (I2 (λhc=>?_) λhc=>?_)|refine SG λhc=>?_|(apply zG;first|(apply yE;refine gW tok Z Z Z Z Z Z ap Z Z Z zB Z Z Z ?_)|refine SM ?_)|(first|refine EA 11 14 Z Z ?_|first|refine SR ?_|refine SK (I2 (λhc=>?_) λhc=>?_)|refine SK λhc=>?_|fail)|fail))
  all_goals refine Vd gY ?_
  all_goals (have ga:=d1;have kh:=(⟨⟩:yu 187 [] [105]);refine WW ?_;clear ga kh)
  all_goals exact zH
def wG (r:Rq) (k:Nat):AV:= .agg [iA r.id,iA r.vh,iA r.cls,iA r.til,.ref k 0 (r.legs.map yO).length]
def qG (r:Rq):xV:= .arr 5 (r.legs.map yO) false
def KM (l:List Lg) (h1:1<=ln l) (hl:ln l<=1000):zO 169 [zE yO l] [] (.ref 1101 0 (l.map yO).length) [(1101,.arr 5 (l.map yO) false)]:=by
 have u:=zA yO l;refine eM call169 λF hF=>?_
 refine xI 0 Z (λcap z=>?_) ?_
 .have:l=[]:=by simpa using z
  subst this;simp at h1
 ·(repeat' (first|refine WV ?_|refine SG (I2 (λhc=>?_) λhc=>?_)|refine SG λhc=>?_|(apply zG;first|(apply yI;refine qA (nw:=[1101]) (yV tok 1101 (xs:=[]) Z Z Z Z Z Z Z Z Z) Z Z Z ?_))|refine SB ?_|(first|apply xY|apply xR|refine uD Z ?_|refine yR Z ?_|refine yC Z ?_|refine wA Z (λhc=>?_) λhc=>?_|apply xJ|apply xL|apply xO|apply xC)|fail))
  exact zP [1101] Z Z Z Z
def fC (r:Rq) (h1:1<=ln r.legs) (hl:ln r.legs<=1000):zO 265 [zY r] [] (wG r 1101) [(1101,qG r)]:=by
 have c:=KM r.legs h1 hl;have u:=zA yO r.legs;refine eM call265 λF hF=>?_
 refine zS c ?_;exact zP [1101] Z Z Z Z
def KN (l:List Lg) (h1:1<=ln l) (hl:ln l<=1000):zO 169 [zE yO l] [] (.ref 1102 0 (l.map yO).length) [(1102,.arr 5 (l.map yO) false)]:=by
 have u:=zA yO l;refine eM call169 λF hF=>?_
 refine xI 0 Z (λcap z=>?_) ?_
 .have:l=[]:=by simpa using z
  subst this;simp at h1
 ·(repeat' (first|refine WV ?_|refine SG (I2 (λhc=>?_) λhc=>?_)|refine SG λhc=>?_|(apply zG;first|(apply yI;refine qA (nw:=[1102]) (yV tok 1102 (xs:=[]) Z Z Z Z Z Z Z Z Z) Z Z Z ?_))|refine SB ?_|(first|apply xY|apply xR|refine uD Z ?_|refine yR Z ?_|refine yC Z ?_|refine wA Z (λhc=>?_) λhc=>?_|apply xJ|apply xL|apply xO|apply xC)|fail))
  exact zP [1102] Z Z Z Z
def aU (r:Rq) (h1:1<=ln r.legs) (hl:ln r.legs<=1000):zO 265 [zY r] [] (wG r 1102) [(1102,qG r)]:=by
 have c:=KN r.legs h1 hl;have u:=zA yO r.legs;refine eM call265 λF hF=>?_
 refine zS c ?_;exact zP [1102] Z Z Z Z
def KO (l:List Lg) (h1:1<=ln l) (hl:ln l<=1000):zO 169 [zE yO l] [] (.ref 1103 0 (l.map yO).length) [(1103,.arr 5 (l.map yO) false)]:=by
 have u:=zA yO l;refine eM call169 λF hF=>?_
 refine xI 0 Z (λcap z=>?_) ?_
 .have:l=[]:=by simpa using z
  subst this;simp at h1
 ·(repeat' (first|refine WV ?_|refine SG (I2 (λhc=>?_) λhc=>?_)|refine SG λhc=>?_|(apply zG;first|(apply yI;refine qA (nw:=[1103]) (yV tok 1103 (xs:=[]) Z Z Z Z Z Z Z Z Z) Z Z Z ?_))|refine SB ?_|(first|apply xY|apply xR|refine uD Z ?_|refine yR Z ?_|refine yC Z ?_|refine wA Z (λhc=>?_) λhc=>?_|apply xJ|apply xL|apply xO|apply xC)|fail))
  exact zP [1103] Z Z Z Z
def TU (r:Rq) (h1:1<=ln r.legs) (hl:ln r.legs<=1000):zO 265 [zY r] [] (wG r 1103) [(1103,qG r)]:=by
 have c:=KO r.legs h1 hl;have u:=zA yO r.legs;refine eM call265 λF hF=>?_
 refine zS c ?_;exact zP [1103] Z Z Z Z
def KP (l:List Lg) (h1:1<=ln l) (hl:ln l<=1000):zO 169 [zE yO l] [] (.ref 1104 0 (l.map yO).length) [(1104,.arr 5 (l.map yO) false)]:=by
 have u:=zA yO l;refine eM call169 λF hF=>?_
 refine xI 0 Z (λcap z=>?_) ?_
 .have:l=[]:=by simpa using z
  subst this;simp at h1
 ·(repeat' (first|refine WV ?_|refine SG (I2 (λhc=>?_) λhc=>?_)|refine SG λhc=>?_|(apply zG;first|(apply yI;refine qA (nw:=[1104]) (yV tok 1104 (xs:=[]) Z Z Z Z Z Z Z Z Z) Z Z Z ?_))|refine SB ?_|(first|apply xY|apply xR|refine uD Z ?_|refine yR Z ?_|refine yC Z ?_|refine wA Z (λhc=>?_) λhc=>?_|apply xJ|apply xL|apply xO|apply xC)|fail))
  exact zP [1104] Z Z Z Z
def EC (r:Rq) (h1:1<=ln r.legs) (hl:ln r.legs<=1000):zO 265 [zY r] [] (wG r 1104) [(1104,qG r)]:=by
 have c:=KP r.legs h1 hl;have u:=zA yO r.legs;refine eM call265 λF hF=>?_
 refine zS c ?_;exact zP [1104] Z Z Z Z
def iv (a:Rq) (C:1<=ln a.legs) (B:ln a.legs<=1000):zO 222 [zE zY [a],.fn 273 []] [] (.ref 1001 0 1) [(1001,.arr 5 [wG a 1101] ⟨false,true⟩),(1101,qG a)]:=by
 have z:=vN a;have A:=fC a C B;refine eM call222 λF hF=>?_
 refine WW ?_;refine zQ 5 1001 5 Z Z Z ?_;refine wC 2 [1001,1101] [5,10,1,8,9] Z ?_;refine yD (st0:=⟨[(5,.ref 1001 0 0),(10,iA 0),(1,.fn 273 []),(8,.sl false [zY a]),(9,iA 1)],[(1001,.arr 5 [] ⟨true,false⟩)]⟩) Z ?_
 (have ga:=z;have ge:=A;(repeat' (first|refine jX ?_|apply yW|apply xH|intro hc|(apply zG;first|(apply yI;refine qF (xs:=[_]) 1002 tok Z Z Z Z Z Z Z Z Z Z Z Z ?_)|(apply yE;first|refine xZ tok Z Z Z Z Z Z Z (by intro y u;cases u;rfl) Z Z Z zV Z ?_|refine wN tok Z Z Z Z Z Z Z Z Z Z Z (by intro y u;cases u;rfl) zV Z ?_))|refine SB ?_|fail))<;>clear ga ge)
 refine yD (st0:=⟨[(5,.ref 1001 0 1),(10,iA 1),(1,.fn 273 []),(8,.sl false [zY a]),(9,iA 1)],[(1001,.arr 5 [wG a 1101] ⟨false,true⟩),(1101,qG a)]⟩) Z ?_;refine WW ?_;exact zP [1001,1101] Z Z Z Z
def AW (a:Rq) (z:1<=ln a.legs) (u:ln a.legs<=1000):zO 225 [zE zY [a]] [] (.ref 1001 0 1) [(1001,.arr 5 [wG a 1101] ⟨false,true⟩),(1101,qG a)]:=by
 have c:=iv a z u;refine eM call225 λF hF=>?_
 refine zS c ?_;exact zP [1001,1101] Z Z Z Z
def Zv (a b:Rq) (I:1<=ln a.legs) (E:ln a.legs<=1000) (hb:1<=ln b.legs) (G:ln b.legs<=1000):zO 222 [zE zY [a,b],.fn 273 []] [] (.ref 1001 0 2) [(1001,.arr 5 [wG a 1101,wG b 1102] ⟨true,true⟩),(1101,qG a),(1102,qG b)]:=by
 have z:=vN a;have B:=fC a I E;have A:=vN b;have C:=aU b hb G;refine eM call222 λF hF=>?_
 refine WW ?_;refine zQ 5 1001 5 Z Z Z ?_;refine wC 3 [1001,1101,1102] [5,10,1,8,9] Z ?_;refine yD (st0:=⟨[(5,.ref 1001 0 0),(10,iA 0),(1,.fn 273 []),(8,.sl false [zY a,zY b]),(9,iA 2)],[(1001,.arr 5 [] ⟨true,false⟩)]⟩) Z ?_
 (have ga:=z;have ge:=B;(repeat' (first|refine jX ?_|apply yW|apply xH|intro hc|(apply zG;first|(apply yI;refine qF (xs:=[_]) 1002 tok Z Z Z Z Z Z Z Z Z Z Z Z ?_)|(apply yE;first|refine xZ tok Z Z Z Z Z Z Z (by intro y u;cases u;rfl) Z Z Z zV Z ?_|refine wN tok Z Z Z Z Z Z Z Z Z Z Z (by intro y u;cases u;rfl) zV Z ?_))|refine SB ?_|fail))<;>clear ga ge)
 refine yD (st0:=⟨[(5,.ref 1001 0 1),(10,iA 1),(1,.fn 273 []),(8,.sl false [zY a,zY b]),(9,iA 2)],[(1001,.arr 5 [wG a 1101] ⟨false,true⟩),(1101,qG a)]⟩) Z ?_
 (have ga:=A;have ge:=C;(repeat' (first|refine jX ?_|apply yW|apply xH|intro hc|(apply zG;first|(apply yI;refine qF (xs:=[_]) 1002 tok Z Z Z Z Z Z Z Z Z Z Z Z ?_)|(apply yE;first|refine xZ tok Z Z Z Z Z Z Z (by intro y u;cases u;rfl) Z Z Z zV Z ?_|refine wN tok Z Z Z Z Z Z Z Z Z Z Z (by intro y u;cases u;rfl) zV Z ?_))|refine SB ?_|fail))<;>clear ga ge)
 refine yD (st0:=⟨[(5,.ref 1001 0 2),(10,iA 2),(1,.fn 273 []),(8,.sl false [zY a,zY b]),(9,iA 2)],[(1001,.arr 5 [wG a 1101,wG b 1102] ⟨true,true⟩),(1101,qG a),(1102,qG b)]⟩) Z ?_;refine WW ?_;exact zP [1001,1101,1102] Z Z Z Z
def AX (a b:Rq) (A:1<=ln a.legs) (u:ln a.legs<=1000) (hb:1<=ln b.legs) (z:ln b.legs<=1000):zO 225 [zE zY [a,b]] [] (.ref 1001 0 2) [(1001,.arr 5 [wG a 1101,wG b 1102] ⟨true,true⟩),(1101,qG a),(1102,qG b)]:=by
 have c:=Zv a b A u hb z;refine eM call225 λF hF=>?_
 refine zS c ?_;exact zP [1001,1101,1102] Z Z Z Z
def Yv (a b c:Rq) (M:1<=ln a.legs) (I:ln a.legs<=1000) (hb:1<=ln b.legs) (L:ln b.legs<=1000) (hc:1<=ln c.legs) (gc:ln c.legs<=1000):zO 222 [zE zY [a,b,c],.fn 273 []] [] (.ref 1001 0 3) [(1001,.arr 5 [wG a 1101,wG b 1102,wG c 1103] ⟨true,true⟩),(1101,qG a),(1102,qG b),(1103,qG c)]:=by
 have z:=vN a;have C:=fC a M I;have A:=vN b;have E:=aU b hb L;have B:=vN c;have G:=TU c hc gc;refine eM call222 λF hF=>?_
 refine WW ?_;refine zQ 5 1001 5 Z Z Z ?_;refine wC 4 [1001,1101,1102,1103] [5,10,1,8,9] Z ?_;refine yD (st0:=⟨[(5,.ref 1001 0 0),(10,iA 0),(1,.fn 273 []),(8,.sl false [zY a,zY b,zY c]),(9,iA 3)],[(1001,.arr 5 [] ⟨true,false⟩)]⟩) Z ?_
 (have ga:=z;have ge:=C;(repeat' (first|refine jX ?_|apply yW|apply xH|intro hc|(apply zG;first|(apply yI;refine qF (xs:=[_]) 1002 tok Z Z Z Z Z Z Z Z Z Z Z Z ?_)|(apply yE;first|refine xZ tok Z Z Z Z Z Z Z (by intro y u;cases u;rfl) Z Z Z zV Z ?_|refine wN tok Z Z Z Z Z Z Z Z Z Z Z (by intro y u;cases u;rfl) zV Z ?_))|refine SB ?_|fail))<;>clear ga ge)
 refine yD (st0:=⟨[(5,.ref 1001 0 1),(10,iA 1),(1,.fn 273 []),(8,.sl false [zY a,zY b,zY c]),(9,iA 3)],[(1001,.arr 5 [wG a 1101] ⟨false,true⟩),(1101,qG a)]⟩) Z ?_
 (have ga:=A;have ge:=E;(repeat' (first|refine jX ?_|apply yW|apply xH|intro hc|(apply zG;first|(apply yI;refine qF (xs:=[_]) 1002 tok Z Z Z Z Z Z Z Z Z Z Z Z ?_)|(apply yE;first|refine xZ tok Z Z Z Z Z Z Z (by intro y u;cases u;rfl) Z Z Z zV Z ?_|refine wN tok Z Z Z Z Z Z Z Z Z Z Z (by intro y u;cases u;rfl) zV Z ?_))|refine SB ?_|fail))<;>clear ga ge)
 refine yD (st0:=⟨[(5,.ref 1001 0 2),(10,iA 2),(1,.fn 273 []),(8,.sl false [zY a,zY b,zY c]),(9,iA 3)],[(1001,.arr 5 [wG a 1101,wG b 1102] ⟨true,true⟩),(1101,qG a),(1102,qG b)]⟩) Z ?_
 (have ga:=B;have ge:=G;(repeat' (first|refine jX ?_|apply yW|apply xH|intro hc|(apply zG;first|(apply yI;refine qF (xs:=[_]) 1002 tok Z Z Z Z Z Z Z Z Z Z Z Z ?_)|(apply yE;first|refine xZ tok Z Z Z Z Z Z Z (by intro y u;cases u;rfl) Z Z Z zV Z ?_|refine wN tok Z Z Z Z Z Z Z Z Z Z Z (by intro y u;cases u;rfl) zV Z ?_))|refine SB ?_|fail))<;>clear ga ge)
 refine yD (st0:=⟨[(5,.ref 1001 0 3),(10,iA 3),(1,.fn 273 []),(8,.sl false [zY a,zY b,zY c]),(9,iA 3)],[(1001,.arr 5 [wG a 1101,wG b 1102,wG c 1103] ⟨true,true⟩),(1101,qG a),(1102,qG b),(1103,qG c)]⟩) Z ?_;refine WW ?_;exact zP [1001,1101,1102,1103] Z Z Z Z
def AY (a b c:Rq) (A:1<=ln a.legs) (u:ln a.legs<=1000) (hb:1<=ln b.legs) (z:ln b.legs<=1000) (hc:1<=ln c.legs) (gc:ln c.legs<=1000):zO 225 [zE zY [a,b,c]] [] (.ref 1001 0 3) [(1001,.arr 5 [wG a 1101,wG b 1102,wG c 1103] ⟨true,true⟩),(1101,qG a),(1102,qG b),(1103,qG c)]:=by
 have c:=Yv a b c A u hb z hc gc;refine eM call225 λF hF=>?_
 refine zS c ?_;exact zP [1001,1101,1102,1103] Z Z Z Z
theorem Xv (a b c d:Rq) (R:1<=a.legs.length) (L:a.legs.length<=1000) (hb:1<=b.legs.length) (M:b.legs.length<=1000) (hc:1<=c.legs.length) (gc:c.legs.length<=1000) (hd:1<=d.legs.length) (O:d.legs.length<=1000):zO 222 [zE zY [a,b,c,d],.fn 273 []] [] (.ref 1001 0 4) [(1001,.arr 5 [wG a 1101,wG b 1102,wG c 1103,wG d 1104] ⟨true,true⟩),(1101,qG a),(1102,qG b),(1103,qG c),(1104,qG d)]:=by
 have z:=vN a;have E:=fC a R L;have A:=vN b;have G:=aU b hb M;have B:=vN c;have I:=TU c hc gc;have C:=vN d;have dd:=EC d hd O;refine eM call222 λF hF=>?_
 refine WW ?_;refine zQ 5 1001 5 Z Z Z ?_;refine wC 5 [1001,1101,1102,1103,1104] [5,10,1,8,9] Z ?_;refine yD (st0:=⟨[(5,.ref 1001 0 0),(10,iA 0),(1,.fn 273 []),(8,.sl false [zY a,zY b,zY c,zY d]),(9,iA 4)],[(1001,.arr 5 [] ⟨true,false⟩)]⟩) Z ?_
 (have ga:=z;have ge:=E;(repeat' (first|refine jX ?_|apply yW|apply xH|intro hc|(apply zG;first|(apply yI;refine qF (xs:=[_]) 1002 tok Z Z Z Z Z Z Z Z Z Z Z Z ?_)|(apply yE;first|refine xZ tok Z Z Z Z Z Z Z (by intro y u;cases u;rfl) Z Z Z zV Z ?_|refine wN tok Z Z Z Z Z Z Z Z Z Z Z (by intro y u;cases u;rfl) zV Z ?_))|refine SB ?_|fail))<;>clear ga ge)
 refine yD (st0:=⟨[(5,.ref 1001 0 1),(10,iA 1),(1,.fn 273 []),(8,.sl false [zY a,zY b,zY c,zY d]),(9,iA 4)],[(1001,.arr 5 [wG a 1101] ⟨false,true⟩),(1101,qG a)]⟩) Z ?_
 (have ga:=A;have ge:=G;(repeat' (first|refine jX ?_|apply yW|apply xH|intro hc|(apply zG;first|(apply yI;refine qF (xs:=[_]) 1002 tok Z Z Z Z Z Z Z Z Z Z Z Z ?_)|(apply yE;first|refine xZ tok Z Z Z Z Z Z Z (by intro y u;cases u;rfl) Z Z Z zV Z ?_|refine wN tok Z Z Z Z Z Z Z Z Z Z Z (by intro y u;cases u;rfl) zV Z ?_))|refine SB ?_|fail))<;>clear ga ge)
 refine yD (st0:=⟨[(5,.ref 1001 0 2),(10,iA 2),(1,.fn 273 []),(8,.sl false [zY a,zY b,zY c,zY d]),(9,iA 4)],[(1001,.arr 5 [wG a 1101,wG b 1102] ⟨true,true⟩),(1101,qG a),(1102,qG b)]⟩) Z ?_
 (have ga:=B;have ge:=I;(repeat' (first|refine jX ?_|apply yW|apply xH|intro hc|(apply zG;first|(apply yI;refine qF (xs:=[_]) 1002 tok Z Z Z Z Z Z Z Z Z Z Z Z ?_)|(apply yE;first|refine xZ tok Z Z Z Z Z Z Z (by intro y u;cases u;rfl) Z Z Z zV Z ?_|refine wN tok Z Z Z Z Z Z Z Z Z Z Z (by intro y u;cases u;rfl) zV Z ?_))|refine SB ?_|fail))<;>clear ga ge)
 refine yD (st0:=⟨[(5,.ref 1001 0 3),(10,iA 3),(1,.fn 273 []),(8,.sl false [zY a,zY b,zY c,zY d]),(9,iA 4)],[(1001,.arr 5 [wG a 1101,wG b 1102,wG c 1103] ⟨true,true⟩),(1101,qG a),(1102,qG b),(1103,qG c)]⟩) Z ?_
 (have ga:=C;have ge:=dd;(repeat' (first|refine jX ?_|apply yW|apply xH|intro hc|(apply zG;first|(apply yI;refine qF (xs:=[_]) 1002 tok Z Z Z Z Z Z Z Z Z Z Z Z ?_)|(apply yE;first|refine xZ tok Z Z Z Z Z Z Z (by intro y u;cases u;rfl) Z Z Z zV Z ?_|refine wN tok Z Z Z Z Z Z Z Z Z Z Z (by intro y u;cases u;rfl) zV Z ?_))|refine SB ?_|fail))<;>clear ga ge)
 refine yD (st0:=⟨[(5,.ref 1001 0 4),(10,iA 4),(1,.fn 273 []),(8,.sl false [zY a,zY b,zY c,zY d]),(9,iA 4)],[(1001,.arr 5 [wG a 1101,wG b 1102,wG c 1103,wG d 1104] ⟨true,true⟩),(1101,qG a),(1102,qG b),(1103,qG c),(1104,qG d)]⟩) Z ?_;refine WW ?_;exact zP [1001,1101,1102,1103,1104] Z Z Z Z
def AZ (a b c d:Rq) (B:1<=ln a.legs) (u:ln a.legs<=1000) (hb:1<=ln b.legs) (z:ln b.legs<=1000) (hc:1<=ln c.legs) (gc:ln c.legs<=1000) (hd:1<=ln d.legs) (A:ln d.legs<=1000):zO 225 [zE zY [a,b,c,d]] [] (.ref 1001 0 4) [(1001,.arr 5 [wG a 1101,wG b 1102,wG c 1103,wG d 1104] ⟨true,true⟩),(1101,qG a),(1102,qG b),(1103,qG c),(1104,qG d)]:=by
 have c:=Xv a b c d B u hb z hc gc hd A;refine eM call225 λF hF=>?_
 refine zS c ?_;exact zP [1001,1101,1102,1103,1104] Z Z Z Z
theorem LB (K:List Nat) (h:yT):∀a b:List AV,kQ K h (a++b)=kQ K h a++kQ K h b
 | [],b=>rfl
 |v::a,b=>by rw[zEl,kQ,kQ,LB K h a b];rfl
theorem TW (K:List Nat) (h:yT):∀l:List Rq,kQ K h (l.map zY)=l.map zY
 | []=>rfl
 |r::l=>by rw[zCo,kQ,TW K h l];rfl
theorem IS (K:List Nat) (h:yT):∀a b:List AV,vM K h (a++b)=vM K h a++vM K h b
 | [],b=>rfl
 |v::a,b=>by rw[zEl,vM,vM,IS K h a b];rfl
theorem LC (K:List Nat) (h:yT):∀l:List Rq,vM K h (l.map zY)=l.map zY
 | []=>rfl
 |r::l=>by rw[zCo,vM,LC K h l];rfl
theorem VO:∀a b:List AV,vK (a++b)=(vK a&&vK b)
 | [],b=>rfl
 |v::a,b=>by rw[zEl,vK,vK,VO a b,Bool.and_assoc]
theorem XH:∀l:List Rq,vK (l.map zY)=true
 | []=>rfl
 |r::l=>by rw[zCo,vK,XH l];rfl
def fG (f4:List Rq) (x:Rq) (post:List Rq) (k:Nat):List AV:=f4.map zY++wG x k::post.map zY
def fD (f4:List Rq) (x:Rq) (post:List Rq) (k:Nat):(fG f4 x post k).length=ln f4+1+ln post:=by simp[fG];omega
theorem dQ (h:yT) (f4:List Rq) (x:Rq) (post:List Rq) (b:Bool):kD [1001,1101] h (.arr 5 (fG f4 x post 1101) ⟨b,true⟩)= .arr 5 (fG f4 x post 1101) ⟨b,true⟩:=by
 have e:kQ [1001,1101] h (fG f4 x post 1101)=fG f4 x post 1101:=by
  unfold fG;rw[LB,TW,kQ,TW];rfl
 have u:vK (fG f4 x post 1101)=false:=by
  unfold fG;rw[VO,XH,vK];rfl
 simp_all [yT,kD,fG]
theorem xg (f4:List Rq) (x:Rq) (post:List Rq) (k:Nat) (y:Rq):fG f4 x post k++[zY y]=fG f4 x (post++[y]) k:=by grind [fG,zY]
theorem Wv (f4:List Rq) (x:Rq) (post:List Rq) (l:List Rq) (hL:l=f4++x::post) (W:ln l<=1000) (hb:∀r∈l,1<=ln r.legs/\r.legs.length<=1000):
  zO 222 [zE zY l,.fn 273 []] [] (.ref 1001 0 (fG f4 x post 1101).length) [(1001,.arr 5 (fG f4 x post 1101) ⟨true,true⟩),(1101,qG x)]:=by
 have hl:=zA zY l;have M:ln l=ln f4+1+ln post:=by rw[hL];simp;omega
 refine eM call222 λF hF=>?_
 refine WW ?_;refine zQ 5 1001 5 rfl rfl rfl ?_;refine wS (λn st=>∃i,n+i=ln l/\st=if i<=ln f4 then(⟨[(5,.ref 1001 0 ((l.take i).map zY).length),(10,iA i),(1,.fn 273 []),(8,zE zY l),(9,iA (l.map zY).length)],[(1001,.arr 5 ((l.take i).map zY) true)]⟩:St)else⟨[(5,.ref 1001 0 (fG f4 x (post.take (i-f4.length-1)) 1101).length),(10,iA i),(1,.fn 273 []),(8,zE zY l),(9,iA (l.map zY).length)],[(1001,.arr 5 (fG f4 x (post.take (i-f4.length-1)) 1101) ⟨true,true⟩),(1101,qG x)]⟩) (ln l) [1001,1101] [5,10,1,8,9] rfl ⟨0,zB,by rw[zA5 (zBn _)];rfl⟩ ?_;rintro n st ⟨i,hi,rfl⟩;by_cases S:i<ln f4
 .rw[zA5 zB];have z:=zJ zY l i zB;have C:l.getD i dd∈l:=by simp[pb,show i<ln l by omega]
  have O:=hb _ C
  have e:(l.take (i+1)).map zY=(l.take i).map zY++[zY (l.getD i dd)]:=by
   rw[zD7,zBd,zB2 zB];simp[pb,show i<ln l by omega]
  have U:((l.take i).map zY).length=i:=by rw[zA6,zBv];omega
  have u:i<ln l:=by omega
  clear C;generalize l.getD i dd=r at *;have A:=vN r;have B:=TM r zB
  (have ga:=A;have ge:=B;(repeat' (first|refine uT ?_|apply yW|apply xH|intro hc|(apply zG;first|(apply yE;refine qA (nw:=[]) (wU true false tok Z Z Z Z Z Z (λh=>by cases h) Z (by intro y z;cases z;rfl) Z Z Z Z (by simp only[fD,zA6,zBv,zBl,zCd,zB6];omega) (λh=>by cases h)) Z Z Z ?_)|refine SM ?_)|fail))<;>clear ga ge)
  exact⟨n-1,zB,i+1,zB,by rw[zA5 zB,e];rfl⟩
 by_cases G:i=ln f4
 .rw[zA5 zB];subst G;have u:ln f4<ln l:=by omega
  have V:(l.take (ln f4)).map zY=f4.map zY:=by rw[hL];simp
  have z:(l.map zY)[ln f4]? =some (zY x):=by rw[hL];simp
  have O:=hb x BX;rw[V];clear hL;have A:=vN x;have B:=fC x zB zB;have I:ln f4<=1000:=by omega
  (have ga:=A;have ge:=B;(repeat' (first|refine jX ?_|apply yW|apply xH|intro hc|(apply zG;first|(apply yI;refine qF (xs:=[_]) 1002 tok Z Z Z Z Z Z Z Z Z Z Z Z ?_)|(apply yE;refine qA (nw:=[]) (wU true true tok Z Z Z Z Z Z (λh=>by cases h) Z (by intro y z;cases z;rfl) Z Z Z Z (by simp only[fD,zA6,zBv,zBl,zCd,zB6];omega) (λh=>by cases h)) Z Z Z ?_))|refine SB ?_|fail))<;>clear ga ge)
  refine⟨n-1,zB,ln f4+1,zB,?_⟩;rw[Os zB,show (ln f4)+1-f4.length-1=0 by omega];refine zBq (St.mk _) ?_
  show [(1001,kD [1001,1101] _ (.arr 5 (fG f4 x [] 1101) ⟨true,true⟩)),(1101,qG x)]=_
  rw[dQ];rfl
 rw[Os zB];by_cases u:i<ln l
 .have z:=zJ zY l i u;have C:l.getD i dd∈l:=by simp[pb,u]
  have O:=hb _ C
  have L:post[i-f4.length-1]? =some (l.getD i dd):=by
   have h1:l[i]? =some (l.getD i dd):=by simp[pb,u]
   rw[hL,zCe zB]at h1;rw[show i-f4.length=(i-f4.length-1)+1 by omega,List.getElem?_cons_succ]at h1;rw[<-hL]at h1;exact h1
  have e:fG f4 x (post.take (i+1-f4.length-1)) 1101=fG f4 x (post.take (i-f4.length-1)) 1101++[zY (l.getD i dd)]:=by
   rw[xg,show i+1-f4.length-1=(i-f4.length-1)+1 by omega,zD7,L];rfl
  have R:=fD f4 x (post.take (i-f4.length-1)) 1101;have I:(post.take (i-f4.length-1)).length<=1000:=by rw[zBv];omega
  have E:=λh=>dQ h f4 x (post.take (i+1-f4.length-1)) true
  rw[e]at E;clear C L hL;generalize l.getD i dd=r,fG f4 x (post.take (i-f4.length-1)) 1101=cs at *;have A:=vN r;have B:=TM r zB
  (have ga:=A;have ge:=B;(repeat' (first|refine uT ?_|apply yW|apply xH|intro hc|(apply zG;first|(apply yE;refine qA (nw:=[]) (wU true true tok Z Z Z Z Z Z (λh=>by cases h) Z (by intro y z;cases z;rfl) Z Z Z Z (by simp only[fD,zA6,zBv,zBl,zCd,zB6];omega) (λh=>by cases h)) Z Z Z ?_)|refine SM ?_)|fail))<;>clear ga ge)
  refine⟨n-1,zB,i+1,zB,?_⟩;rw[Os zB,e];refine zBq (St.mk _) ?_
  show [(1001,kD [1001,1101] _ (.arr 5 (cs++[zY r]) ⟨true,true⟩)),(1101,qG x)]=_
  rw[E]
 .have E:=λh=>dQ h f4 x post true
  rw[show i-f4.length-1=ln post by omega,zA8];generalize fG f4 x post 1101=cs at *;refine WW ?_;refine zP [1001,1101] Z Z Z ?_
  show [(1001,kD [1001,1101] _ (.arr 5 cs ⟨true,true⟩)),(1101,qG x)]=_
  rw[E]
def za (f4:List Rq) (x:Rq) (post:List Rq) (l:List Rq) (hL:l=f4++x::post) (z:ln l<=1000) (hb:∀r∈l,1<=ln r.legs/\r.legs.length<=1000):
  zO 225 [zE zY l] [] (.ref 1001 0 (fG f4 x post 1101).length) [(1001,.arr 5 (fG f4 x post 1101) ⟨true,true⟩),(1101,qG x)]:=by
 have c:=Wv f4 x post l hL z hb;have u:=λh=>dQ h f4 x post true
 generalize fG f4 x post 1101=cs at *;refine eM call225 λF hF=>?_
 refine zS c ?_;refine zP [1001,1101] Z Z Z ?_
 show [(1001,kD [1001,1101] _ (.arr 5 cs ⟨true,true⟩)),(1101,qG x)]=_
 rw[u]
theorem Vv (f4:List Rq) (x:Rq) (post:List Rq) (l:List Rq) (hL:l=f4++x::post) (V:ln l<=1000) (hb:∀r∈l,1<=ln r.legs/\r.legs.length<=1000):
  zO 187 [zE zY l] [] (.ref 1001 0 (fG f4 x post 1101).length) [(1001,.arr 5 (fG f4 x post 1101) ⟨true,true⟩),(1101,qG x)]:=by
 have hl:=zA zY l;have L:ln l=ln f4+1+ln post:=by rw[hL];simp;omega
 refine eM call187 λF hF=>?_
 refine WW ?_;refine zQ 3 1001 5 rfl rfl rfl ?_;refine wS (λn st=>∃i,n+i=ln l/\st=if i<=ln f4 then(⟨[(3,.ref 1001 0 ((l.take i).map zY).length),(8,iA i),(6,zE zY l),(7,iA (l.map zY).length)],[(1001,.arr 5 ((l.take i).map zY) true)]⟩:St)else⟨[(3,.ref 1001 0 (fG f4 x (post.take (i-f4.length-1)) 1101).length),(8,iA i),(6,zE zY l),(7,iA (l.map zY).length)],[(1001,.arr 5 (fG f4 x (post.take (i-f4.length-1)) 1101) ⟨true,true⟩),(1101,qG x)]⟩) (ln l) [1001,1101] [3,8,6,7] rfl ⟨0,zB,by rw[zA5 (zBn _)];rfl⟩ ?_;rintro n st ⟨i,hi,rfl⟩;by_cases R:i<ln f4
 .rw[zA5 zB];have z:=zJ zY l i zB;have A:l.getD i dd∈l:=by simp[pb,show i<ln l by omega]
  have M:=hb _ A
  have e:(l.take (i+1)).map zY=(l.take i).map zY++[zY (l.getD i dd)]:=by
   rw[zD7,zBd,zB2 zB];simp[pb,show i<ln l by omega]
  have S:((l.take i).map zY).length=i:=by rw[zA6,zBv];omega
  have u:i<ln l:=by omega
  clear A;generalize l.getD i dd=r at *;have B:=zA yO r.legs
  (repeat' (first|refine jX ?_|apply yW|apply xH|intro hc|(apply zG;first|(apply yE;refine qA (nw:=[]) (wU true false tok Z Z Z Z Z Z (λh=>by cases h) Z (by intro y z;cases z;rfl) Z Z Z Z (by simp only[fD,zA6,zBv,zBl,zCd,zB6];omega) (λh=>by cases h)) Z Z Z ?_)|refine SL ?_|refine SM ?_)|refine SB ?_|fail))
  exact⟨n-1,zB,i+1,zB,by rw[zA5 zB,e];rfl⟩
 by_cases E:i=ln f4
 .rw[zA5 zB];subst E;have u:ln f4<ln l:=by omega
  have U:(l.take (ln f4)).map zY=f4.map zY:=by rw[hL];simp
  have z:(l.map zY)[ln f4]? =some (zY x):=by rw[hL];simp
  have M:=hb x BX;rw[U];clear hL;have B:=zA yO x.legs;have G:ln f4<=1000:=by omega
  (repeat' (first|refine jX ?_|apply yW|apply xH|intro hc|(apply zG;first|(apply yE;refine xE 1101 tok Z Z Z Z Z Z (yM _ _ (λ_=>rfl)) Z Z Z zB Z Z Z ?_)|(apply yI;refine qF (xs:=[_]) 1002 tok Z Z Z Z Z Z Z Z Z Z Z Z ?_)|(apply yE;refine qA (nw:=[]) (wU true true tok Z Z Z Z Z Z (λh=>by cases h) Z (by intro y z;cases z;rfl) Z Z Z Z (by simp only[fD,zA6,zBv,zBl,zCd,zB6];omega) (λh=>by cases h)) Z Z Z ?_))|refine SB ?_|fail))
  refine⟨n-1,zB,ln f4+1,zB,?_⟩;rw[Os zB,show (ln f4)+1-f4.length-1=0 by omega];refine zBq (St.mk _) ?_
  show [(1001,kD [1001,1101] _ (.arr 5 (fG f4 x [] 1101) ⟨true,true⟩)),(1101,qG x)]=_
  rw[dQ];rfl
 rw[Os zB];by_cases u:i<ln l
 .have z:=zJ zY l i u;have A:l.getD i dd∈l:=by simp[pb,u]
  have M:=hb _ A
  have I:post[i-f4.length-1]? =some (l.getD i dd):=by
   have h1:l[i]? =some (l.getD i dd):=by simp[pb,u]
   rw[hL,zCe zB]at h1;rw[show i-f4.length=(i-f4.length-1)+1 by omega,List.getElem?_cons_succ]at h1;rw[<-hL]at h1;exact h1
  have e:fG f4 x (post.take (i+1-f4.length-1)) 1101=fG f4 x (post.take (i-f4.length-1)) 1101++[zY (l.getD i dd)]:=by
   rw[xg,show i+1-f4.length-1=(i-f4.length-1)+1 by omega,zD7,I];rfl
  have O:=fD f4 x (post.take (i-f4.length-1)) 1101;have G:(post.take (i-f4.length-1)).length<=1000:=by rw[zBv];omega
  have C:=λh=>dQ h f4 x (post.take (i+1-f4.length-1)) true
  rw[e]at C;clear A I hL;generalize l.getD i dd=r,fG f4 x (post.take (i-f4.length-1)) 1101=cs at *;have B:=zA yO r.legs
  (repeat' (first|refine jX ?_|apply yW|apply xH|intro hc|(apply zG;first|(apply yE;refine qA (nw:=[]) (wU true true tok Z Z Z Z Z Z (λh=>by cases h) Z (by intro y z;cases z;rfl) Z Z Z Z (by simp only[fD,zA6,zBv,zBl,zCd,zB6];omega) (λh=>by cases h)) Z Z Z ?_)|refine SL ?_|refine SM ?_)|refine SB ?_|fail))
  refine⟨n-1,zB,i+1,zB,?_⟩;rw[Os zB,e];refine zBq (St.mk _) ?_
  show [(1001,kD [1001,1101] _ (.arr 5 (cs++[zY r]) ⟨true,true⟩)),(1101,qG x)]=_
  rw[C]
 .have C:=λh=>dQ h f4 x post true
  rw[show i-f4.length-1=ln post by omega,zA8];generalize fG f4 x post 1101=cs at *;refine WW ?_;refine zP [1001,1101] Z Z Z ?_
  show [(1001,kD [1001,1101] _ (.arr 5 cs ⟨true,true⟩)),(1101,qG x)]=_
  rw[C]
def PI (p:Int×Int):AV:= .agg [iA p.1,iA p.2]
def DB (f3:Int) (g:Lg) (p:Int×Int):Lg:=⟨g.jn,g.ph,f3+p.1,f3+p.2,g.sc⟩
def IT (f3:Int) (g:Lg) (p:Int×Int):Bool:=EX g.jn g.ph p.1 p.2 f3
def ya (gs:List Lg) (w:List (Int×Int)) (f3:Int):Bool:=(gs.zipWith (IT f3) w).all id
def fV (l:List Rq) (id:Int) (w:List (Int×Int)) (f3:Int):Int:=
 if kV l id=true then(if (ln w)=(Dr l id).legs.length/\ya (Dr l id).legs w f3=true then 0 else 8)else 12
def YF (l:List Rq) (id:Int) (w:List (Int×Int)) (f3:Int):List Rq:=l.map λr=>if r.id=id then⟨r.id,r.vh,r.cls,r.til,r.legs.zipWith (DB f3) w⟩else r
def KQ (gs:List Lg) (w:List (Int×Int)) (f3:Int) (i:Nat):List Lg:=(gs.take i).zipWith (DB f3) (w.take i)++gs.drop i
theorem OJ (h:ln w=ln gs) (hi:i<=ln gs):(KQ gs w f3 i).length=ln gs:=by grind [KQ]
theorem Co (h:ln w=ln gs) (hi:i<ln gs):((KQ gs w f3 i).map yO)[i]? =some (yO (gs.getD i dd)):=by grind [KQ,yO]
theorem wg (h:ln w=ln gs) (hi:i<ln gs):((KQ gs w f3 i).map yO).set i (yO (DB f3 (gs.getD i dd) (w.getD i dd)))=(KQ gs w f3 (i+1)).map yO:=by
 unfold KQ;have e:((gs.take i).zipWith (DB f3) (w.take i)).length=i:=by rw[List.length_zipWith,zBv,zBv];omega
 rw[<-zCs,zE5 _ _ zB,e,zEj,zFh hi,zGe];rw[zD7,zD7,List.zipWith_append (by rw[zBv,zBv];omega)]
 simp_all [KQ,yO,DB]
def Qy (gs:List Lg) (w:List (Int×Int)) (f3:Int):KQ gs w f3 0=gs:=by simp[KQ]
theorem vg (h:ln w=ln gs):KQ gs w f3 (ln gs)=gs.zipWith (DB f3) w:=by grind [KQ,DB]
theorem ug (h:ln w=ln gs) (u:∀i,i<ln gs->IT f3 (gs.getD i dd) (w.getD i dd)=true):ya gs w f3=true:=by grind [IT,ya,List.all_eq_true,List.mem_iff_getElem,List.length_zipWith,List.getD]
theorem Bo (h:ln w=ln gs) (hi:i<ln gs) (u:IT f3 (gs.getD i dd) (w.getD i dd)=false):ya gs w f3=false:=by
 unfold ya;rw[zEd];refine⟨IT f3 (gs.getD i dd) (w.getD i dd),?_,by rw[u];decide⟩
 have:(gs.zipWith (IT f3) w)[i]? =some (IT f3 (gs.getD i dd) (w.getD i dd)):=by
  grind
 grind
theorem ED {id:Int} (hL:l=f4++x::post) (hv:cN l) (z:x.id=id):YF l id w f3=f4++⟨x.id,x.vh,x.cls,x.til,x.legs.zipWith (DB f3) w⟩::post:=by
 have u:=hv.so;rw[hL,zFd,zGd]at u;obtain⟨_,⟨h2,_⟩,A⟩:=u;unfold YF;rw[hL,zBd,zCo,zA5 z]
 congr 1
 .conv=>rhs;rw[<-List.map_id f4]
  grind [YF,DB,List.map_congr_left]
 .congr 1
  conv=>rhs;rw[<-List.map_id post]
  grind [YF,DB,List.map_congr_left]
def qg {h:yT} {b:Bool} (h1:h 1001=some (.arr 5 (fG f4 x post 1101) ⟨b,true⟩)) (h2:h 1101=some (.arr 5 (gs.map yO) false)) (hl:ln gs=ln x.legs):
  wY [] h (.ref 1001 0 (fG f4 x post 1101).length)=zE zY (f4++⟨x.id,x.vh,x.cls,x.til,gs⟩::post):=by
 have e:vM [] h (fG f4 x post 1101)=(f4++⟨x.id,x.vh,x.cls,x.til,gs⟩::post).map zY:=by
  unfold fG;rw[IS,LC,vM,LC,zBd,zCo]
  congr 1
  congr 1
  show AV.agg [iA x.id,iA x.vh,iA x.cls,iA x.til,kC [] h (.ref 1101 0 (x.legs.map yO).length)]=_
  have z:kC [] h (.ref 1101 0 (x.legs.map yO).length)=zE yO gs:=by
   simp only[kC,h2]
   show AV.sl false (((gs.map yO).drop 0).take (x.legs.map yO).length)=_
   rw[zBr,zA6,zBf (by rw[zA6,hl];exact zBb _)];rfl
  rw[z];rfl
 have u:(fG f4 x post 1101).length=((f4++⟨x.id,x.vh,x.cls,x.til,gs⟩::post).map zY).length:=by rw[fD];simp;omega
 rw[u];simp only[wY,h1]
 show(bif vK (vM [] h (fG f4 x post 1101))then AV.sl false (((vM [] h (fG f4 x post 1101)).drop 0).take _)else .bot)=_
 rw[e,XH,zBr,zA8];rfl
theorem RQ {id:Int} (h:kV l id=true):∃f4 x post,l=f4++x::post/\x.id=id/\(∀y∈f4,y.id≠id)/\Dr l id=x/\TN (λr:Rq=>r.id==id) l=(ln f4:Int):=by
 induction l with
 |nil=>cases h
 |cons a l z=>
  by_cases u:a.id=id
  .refine⟨[],a,l,rfl,u,by simp,(yg (f4:=[]) Z zV u).1,OI (f4:=[]) Z zV (by simpa using u)⟩
  all_goals grind [kV,Dr,TN]
theorem Ao (l:List Rq) (id:Int) (w:List (Int×Int)) (f3:Int) (hv:cN l) (hw:ln w<=1000) (n0:0<=f3) (n1:f3<=1073741824):
  zO 310 [zE zY l,iA id,zE PI w,iA f3] [] (.tup [zE zY (if fV l id w f3=0 then YF l id w f3 else []),iA (fV l id w f3)]) []:=by
 have h4:=hv.n4;have av:=zA PI w;have c1:=UP l 4 hv zB;have W:=af f3;have I:=MY l id zB;rw[zA9 ⟨n0,n1⟩]at W
 cases hh:kV l id with
 |false=>
  have Y:=bX (p:=λx:Rq=>x.id==id) (l:=l) (by simpa [kV]using hh);rw[Y]at I;have e:fV l id w f3=12:=Os BW;rw[e,Os xA];refine eM call310 λF hF=>?_
  exact mx (qM c1 W I)
 |true=>
 obtain⟨f4,x,post,hL,Y,_,hf,M⟩:=RQ hh;rw[M]at I;have E:=ED (w:=w) (f3:=f3) hL hv Y
 have A:fV l id w f3=if (ln w)=ln x.legs/\ya x.legs w f3=true then 0 else 8:=by unfold fV;rw[zA5 hh,hf]
 have ag:ln l=ln f4+1+ln post:=by rw[hL];simp;omega
 have az:=hv.lg3 (r:=x) BX;have c4:=za f4 x post l hL zB (λr hr=>by have:=hv.lg3 hr;omega);have ar:=fD f4 x post 1101;have L:=λh=>dQ h f4 x post true
 have ap:(fG f4 x post 1101)[((ln f4:Int)).toNat]? =some (wG x 1101):=by unfold fG;simp
 have z:=λh gs=>qg (h:=h) (f4:=f4) (post:=post) (x:=x) (b:=true) (gs:=gs)
 have ax:=zA yO x.legs;generalize fG f4 x post 1101=cs at *;clear hL hv M hf hh Y;by_cases u:ln w=ln x.legs
 case neg=>
  rw[Os (λh=>u h.1)]at A;rw[A,Os xA];refine eM call310 λF hF=>?_
  exact mx (cM c1 W I c4)
 refine eM call310 λF hF=>?_
 refine yJ (cM c1 W I c4) ?_;refine wS (λn st=>∃i,n+i=ln x.legs/\(∀j,j<i->IT f3 (x.legs.getD j dd) (w.getD j dd)=true)/\st=(⟨[(44,iA i),(3,iA f3),(11,.ref 1001 0 (ln cs)),(12,.ref 1101 0 (x.legs.map yO).length),(42,zE PI w),(43,iA (w.map PI).length)],[(1001,.arr 5 cs ⟨true,true⟩),(1101,.arr 5 ((KQ x.legs w f3 i).map yO) false)]⟩:St)) (ln x.legs) [1001,1101] [44,3,11,12,42,43] Z ⟨0,zB,λj hj=>absurd hj (zC3 _),?_⟩ ?_
 .rw[Qy];refine zBq (St.mk _) ?_
  show [(1001,kD [1001,1101] _ (.arr 5 cs ⟨true,true⟩)),(1101,qG x)]=_
  rw[L];rfl
 rintro n st ⟨i,hi,hok,rfl⟩;by_cases B:i<ln x.legs
 .have C:=OJ (i:=i) (f3:=f3) u zB;have au:=zA yO (KQ x.legs w f3 i);have a1:=zJ PI w i zB;have hy:=Co (f3:=f3) u B;have U:=wg (f3:=f3) u B;have G:=vf (x.legs.getD i dd).jn (x.legs.getD i dd).ph (w.getD i dd).1 (w.getD i dd).2 f3
  cases hb:IT f3 (x.legs.getD i dd) (w.getD i dd)with
  |false=>
   have O:=Bo u B hb;rw[Os (λh=>by rw[O]at h;cases h.2)]at A;rw[A,Os xA];unfold IT at hb;unfold GO at G;rw[hb,Os zBm,Os zBm]at G;clear hok z E O U;generalize x.legs.getD i dd=g,w.getD i dd=q,(KQ x.legs w f3 i).map yO=ys at *;exact ng G
  | true=>
   have R:∀j,j<i+1->IT f3 (x.legs.getD j dd) (w.getD j dd)=true:=λj hj=>by
    by_cases ac:j=i
    .rw[ac];exact hb
    .exact hok j zB
   unfold IT at hb;unfold GO at G;rw[hb,zA5 Z,zA5 Z]at G;have S:∀y:AV,(((KQ x.legs w f3 i).map yO).set i y)[i]? =some y:=λy=>zB7 zB
   clear hok z E A hb;generalize x.legs.getD i dd=g,w.getD i dd=q,(KQ x.legs w f3 i).map yO=ys at *
   (have ga:=G;(repeat' (first|refine WTR ?_|apply yW|apply xH|intro hc|(apply zG;first|(apply cE;refine Qc tok Z Z Z (S _) Z Z Z Z Z Z Z Z ?_)|refine SM ?_)|refine SB ?_|fail))<;>clear ga)
   refine⟨n-1,zB,i+1,zB,R,?_⟩;refine zBq (St.mk _) ?_
   show [(1001,kD [1001,1101] _ (.arr 5 cs ⟨true,true⟩)),(1101,.arr 5 ((ys.set i _).set i (yO (DB f3 g q))) false)]=_
   rw[L,zFj,U]
 .obtain rfl:i=ln x.legs:=by omega
  have C:=OJ (i:=ln x.legs) (f3:=f3) u (zBb _);have V:=ug u hok;rw[zA5 ⟨u,V⟩]at A;rw[A,zA5 Z,E];rw[vg u]at C⊢;generalize x.legs.zipWith (DB f3) w=gs at *;refine WW ?_;refine zI [] Z Z ?_ Z
  show AV.tup [ZG (wY [] _ (.ref 1001 0 (ln cs))),iA 0]=_
  rw[z _ gs Z Z C];rfl
theorem zp (K:List Nat) (z:K.contains 1101=true) (h:yT) (f4:List Rq) (x:Rq) (post:List Rq) (b:Bool):kD K h (.arr 5 (fG f4 x post 1101) ⟨b,true⟩)= .arr 5 (fG f4 x post 1101) ⟨b,true⟩:=by
 have u:wY K h (wG x 1101)=wG x 1101:=by
  show AV.agg [_,_,_,_,bif K.contains 1101 then .ref 1101 0 (x.legs.map yO).length else _]=_
  rw[z];rfl
 have e:kQ K h (fG f4 x post 1101)=fG f4 x post 1101:=by
  unfold fG;rw[LB,TW,kQ,TW,u]
 have A:vK (fG f4 x post 1101)=false:=by
  unfold fG;rw[VO,XH,vK];rfl
 simp_all [yT,kD,fG]
theorem ii (l:List Rq) (id:Int) (w:List (Int×Int)) (f3:Int) (hv:cN l) (hw:ln w<=1000) (n0:0<=f3) (n1:f3<=1073741824):
  zO 294 [zE zY l,iA id,zE PI w,iA f3] [] (.tup [zE zY (if fV l id w f3=0 then YF l id w f3 else []),iA (fV l id w f3)]) []:=by
 have h4:=hv.n4;have av:=zA PI w;have c1:=YV l 4 hv zB;have c2:=wQ f3 0 1073741824;rw[zA9 ⟨n0,n1⟩]at c2
 cases hh:kV l id with
 | false=>
  have c3:=eK l zB (λr hr=>by have:=hv.lg3 hr;omega);have e:fV l id w f3=12:=Os BW;have C:∀r∈l,r.id≠id:=by simpa [kV]using hh
  have hl:=zA zY l;rw[e,Os xA];clear hh e;refine eM call294 λF hF=>?_
  refine yJ (qM c1 c2 c3) ?_;refine zN (ln l) [] [] [1,2,3,10,27,28] [29,1,2,3,10,27,28] Z (λi T U=>⟨(29,iA i)::T,U⟩) (Lq ?_ ?_)
  .intro i hi;have hy:=zJ zY l i hi;have hm:=C (l.getD i dd) (by simp[pb,hi]);generalize l.getD i dd=r at *;refine WW ?_;rfl
  .exact ly
 |true=>
 obtain⟨f4,x,post,hL,hx,V,hf,_⟩:=RQ hh;have M:=ED (w:=w) (f3:=f3) hL hv hx
 have G:fV l id w f3=if (ln w)=ln x.legs/\ya x.legs w f3=true then 0 else 8:=by unfold fV;rw[zA5 hh,hf]
 have ap:ln l=ln f4+1+ln post:=by rw[hL];simp;omega
 have az:=hv.lg3 (r:=x) BX;have c4:=Vv f4 x post l hL zB (λr hr=>by have:=hv.lg3 hr;omega);have ar:=fD f4 x post 1101;have I:=λh=>dQ h f4 x post true
 have E:=λh=>zp [12,1001,1101] Z h f4 x post true
 have R:(fG f4 x post 1101)[ln f4]? =some (wG x 1101):=by unfold fG;simp
 have A:∀i,i<ln f4->∃r:Rq,r.id≠id/\(fG f4 x post 1101)[i]? =some (zY r):=λi hi=>by
  refine⟨f4[i],V _ (zE0 hi),?_⟩;unfold fG;rw[zB9 ML];simp[hi]
 have z:=λh gs=>qg (h:=h) (f4:=f4) (post:=post) (x:=x) (b:=true) (gs:=gs)
 have ax:=zA yO x.legs;generalize fG f4 x post 1101=cs at *;clear hL hv hf hh V;refine eM call294 λF hF=>?_
 refine yJ (qM c1 c2 c4) ?_;refine wS (λn st=>∃i,n+i=ln f4/\st=(⟨[(29,iA i),(1,iA id),(2,zE PI w),(3,iA f3),(10,.ref 1001 0 (ln cs)),(27,.ref 1001 0 (ln cs)),(28,iA (ln cs))],[(1001,.arr 5 cs ⟨true,true⟩),(1101,qG x)]⟩:St)) (ln f4) [1001,1101] [29,1,2,3,10,27,28] Z ⟨0,zB,?_⟩ ?_
 .refine zBq (St.mk _) ?_
  show [(1001,kD [1001,1101] _ (.arr 5 cs ⟨true,true⟩)),(1101,qG x)]=_
  rw[I]
 rintro n st ⟨i,hi,rfl⟩;by_cases B:i<ln f4
 .obtain⟨r,hr,hy⟩:=A i B;clear z A R;refine WW ?_;refine⟨n-1,zB,i+1,zB,?_⟩;refine zBq (St.mk _) ?_
  show [(1001,kD [1001,1101] _ (.arr 5 cs ⟨true,true⟩)),(1101,qG x)]=_
  rw[I]
 obtain rfl:i=ln f4:=by omega
 clear A I hi;have ag:cs[((ln f4:Int)).toNat]? =some (wG x 1101):=R;by_cases u:ln w=ln x.legs
 case neg=>
  rw[Os (λh=>u h.1)]at G;rw[G,Os xA];clear z;exact ly
 refine WW ?_;refine wS (λn st=>∃i,n+i=ln x.legs/\(∀j,j<i->IT f3 (x.legs.getD j dd) (w.getD j dd)=true)/\st=(⟨[(46,iA i),(3,iA f3),(10,.ref 1001 0 (ln cs)),(11,iA (ln f4)),(12,.ptr 12 0 0),(44,zE PI w),(45,iA (w.map PI).length)],[(12,.box [iA x.id,iA x.vh,iA x.cls,iA x.til,.ref 1101 0 (x.legs.map yO).length]),(1001,.arr 5 cs ⟨true,true⟩),(1101,.arr 5 ((KQ x.legs w f3 i).map yO) false)]⟩:St)) (ln x.legs) [12,1001,1101] [46,3,10,11,12,44,45] Z ⟨0,zB,λj hj=>absurd hj (zC3 _),?_⟩ ?_
 .rw[Qy];refine zBq (St.mk _) ?_
  show [(12,.box [iA x.id,iA x.vh,iA x.cls,iA x.til,.ref 1101 0 (x.legs.map yO).length]),(1001,kD [12,1001,1101] _ (.arr 5 cs ⟨true,true⟩)),(1101,qG x)]=_
  rw[E];rfl
 rintro n st ⟨i,hi,hok,rfl⟩;by_cases B:i<ln x.legs
 .have L:=OJ (i:=i) (f3:=f3) u zB;have au:=zA yO (KQ x.legs w f3 i);have a1:=zJ PI w i zB;have hy:=Co (f3:=f3) u B;have W:=wg (f3:=f3) u B;have O:=BF (x.legs.getD i dd).jn (x.legs.getD i dd).ph (w.getD i dd).1 (w.getD i dd).2 f3
  cases hb:IT f3 (x.legs.getD i dd) (w.getD i dd)with
  |false=>
   have C:=Bo u B hb;rw[Os (λh=>by rw[C]at h;cases h.2)]at G;rw[G,Os xA];unfold IT at hb;unfold GO at O;rw[hb,Os zBm,Os zBm]at O;clear hok z M C W;generalize x.legs.getD i dd=g,w.getD i dd=q,(KQ x.legs w f3 i).map yO=ys at *;exact ng O
  | true=>
   have S:∀j,j<i+1->IT f3 (x.legs.getD j dd) (w.getD j dd)=true:=λj hj=>by
    by_cases ac:j=i
    .rw[ac];exact hb
    .exact hok j zB
   unfold IT at hb;unfold GO at O;rw[hb,zA5 Z,zA5 Z]at O;clear hok z M G hb;generalize x.legs.getD i dd=g,w.getD i dd=q,(KQ x.legs w f3 i).map yO=ys at *;refine zS O ?_;refine⟨n-1,zB,i+1,zB,S,?_⟩;refine zBq (St.mk _) ?_
   show [(12,.box [iA x.id,iA x.vh,iA x.cls,iA x.til,.ref 1101 0 (x.legs.map yO).length]),(1001,kD [12,1001,1101] _ (.arr 5 cs ⟨true,true⟩)),(1101,.arr 5 (ys.set i (yO (DB f3 g q))) false)]=_
   rw[E,W]
 .obtain rfl:i=ln x.legs:=by omega
  have L:=OJ (i:=ln x.legs) (f3:=f3) u (zBb _);have Y:=ug u hok;rw[zA5 ⟨u,Y⟩]at G;rw[G,zA5 Z,M];rw[vg u]at L⊢;generalize x.legs.zipWith (DB f3) w=gs at *;refine WW ?_;refine zI [] Z Z ?_ Z
  show AV.tup [ZG (wY [] _ (.ref 1001 0 (ln cs))),iA 0]=_
  rw[z _ gs Z Z L];rfl
