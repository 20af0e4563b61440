/- Part 7. -/
import Derived.Test.YtaglbcjljlkjcaaGreatW06
namespace Go.Proofs.YtaglbcjljlkjcaaGreat.Av
open Tryz
set_option linter.all false
set_option maxRecDepth 4000
set_option maxHeartbeats 2000000
open List renaming length->ln,getD->pb
open Inhabited renaming default->dd
variable {f3:Int}{w:List (Int×Int)}{gs:List Lg}{l post f4:List Rq}{i:Nat}{x:Rq}
def Kr (l:List Rq) (id:Int):Rq:=(l.find? λx=>x.id==id).getD ⟨0,0,0,0,[]⟩
theorem uf {id:Int} (h:l=f4++x::post) (u:∀y∈f4,y.id≠id) (hx:x.id=id):Kr l id=x/\kT l id=true:=by grind [Kr,kT]
theorem Km {id:Int} (u:∀y∈l,y.id≠id):Kr l id=⟨0,0,0,0,[]⟩/\kT l id=false:=by grind [Kr,kT,List.find?_eq_none]
def mu (l:List Rq) (id:Int) (G:ln l<=1000) (hb:∀r∈l,ln r.legs<=1000):zN 336 [zE zY l,iA id] [] (.tup [zY (Kr l id),bA (kT l id)]) []:=by
 have hl:=zA zY l;refine eM call336 λF hF=>?_
 refine WW ?_;refine uX (l) [4] [] [1,4,8,9] [10,1,4,8,9] Z (λi f4 T U E=>(∀y∈f4,y.id≠id)/\E=⟨(10,iA i)::T,(4,.box [.s (.int .i64 0),.s (.int .i64 0),.s (.int .i64 0),.s (.int .i64 0),.s (.slice none 0 0)])::U⟩) (Lp ?_ ?_ ?_)
 .exact⟨by simp,rfl⟩
 .rintro i f4 x post st hx hi ⟨hp,rfl⟩;have u:=yJ zY hx hi;have C:=zX hx hi;by_cases A:x.id=id
  .obtain⟨e1,z⟩:=uf hx hp A;have c:zN 187 [.sl false [.agg [iA x.id,iA x.vh,iA x.cls,iA x.til,zE yO x.legs]]] [] (.sl false [.agg [iA x.id,iA x.vh,iA x.cls,iA x.til,zE yO x.legs]]) []:=fZ [x] zV (λr B=>by rw[zBl]at B;subst B;exact hb _ (xA hx));rw[e1,z];clear hx e1;exact oj c
  .clear hx;refine WW ?_;exact⟨λy u=>by simp only[zBc,zBl]at u;rcases u with u|rfl;exact hp y u;exact A,rfl⟩
 .rintro st ⟨hp,rfl⟩;obtain⟨e1,z⟩:=Km hp;rw[e1,z];exact ly
theorem Mh (l:List Rq) (q id:Int) (v:Vh) (u:Int) (x:List Lg) (f3:Int) (hv:cJ l) (hq:(ln l:Int)<=q) (v0:0<=v.id) (v1:v.id<=4294967295) (w0:0<=v.cls) (w1:v.cls<=3) (n0:0<=f3) (n1:f3<=1073741824) (a2:ln x<=1000):
  zN 293 [zE zY l,iA q,iA id,vB v,iA u,zE yO x,iA f3] [] (.tup [zE zY (if QU l q id u x=0 then gW l (gN id v u x f3)else []),iA (QU l q id u x)]) []:=by
 have h4:=hv.n4;have hl:=zA zY l;have I:=XG l q hv hq;have B:=wQ v.id 0 4294967295;have C:=wQ v.cls 0 3;have E:=wQ f3 0 1073741824;have z:=wQ id 0 4294967295;have G:=wQ u 1 600;have L:=GW x zB;have M:=mu l id zB (λr A=>by have:=hv.lg3 A;omega);rw[zAu ⟨v0,v1⟩]at B;rw[zAu ⟨w0,w1⟩]at C;rw[zAu ⟨n0,n1⟩]at E;by_cases S:0<=id/\id<=4294967295
 case neg=>
  rw[zAs S]at z;have e:QU l q id u x=8:=f5 λh=>S ⟨h.1,h.2.1⟩
  rw[e,Os yY];refine eM call293 λF hF=>?_
  exact mx (MG I B C E z)
 rw[zAu S]at z;by_cases V:1<=u/\u<=600
 case neg=>
  rw[zAs V]at G;have e:QU l q id u x=8:=f5 λh=>V ⟨h.2.2.1,h.2.2.2.1⟩
  rw[e,Os yY];refine eM call293 λF hF=>?_
  exact mx (mb I B C E z G)
 rw[zAu V]at G
 cases R:AL x with
 |false=>
  rw[R]at L;have e:QU l q id u x=8:=f5 λh=>zA7 (R.symm.trans h.2.2.2.2)
  rw[e,Os yY];refine eM call293 λF hF=>?_
  exact mx (Ax I B C E z G L)
 |true=>
 rw[R]at L
 have O:QU l q id u x=if kT l id=true then 11 else if q<=ln l\/4<=(ln l:Int)then 14 else 0:=Os λh=>h ⟨S.1,S.2,V.1,V.2,R⟩
 have a1:=XF R;clear R;generalize Kr l id=fq at*
 cases hh:kT l id with
 |true=>
  rw[hh]at M;have e:QU l q id u x=11:=by rw[O,f5 hh]
  rw[e,Os yY];refine eM call293 λF hF=>?_
  exact mx (zy I B C E z G L M)
 |false=>
 rw[hh]at M;rw[Os CE]at O;by_cases g4:q<=ln l\/4<=(ln l:Int)
 case pos=>
  rw[f5 g4]at O;rw[O,Os yY];by_cases g5:q<=ln l
  ·(refine eM call293 λF hF=>?_)
   exact mx (zy I B C E z G L M)
  .have g6:4<=(ln l:Int):=g4.resolve_left g5;refine eM call293 λF hF=>?_
   exact mx (zy I B C E z G L M)
 rw[Os g4]at O;rw[O,f5 Z];have hk:=Jc l id;have Y:=λi h=>Ic (l:=l) (id:=id) (i:=i) h
 have ac:=Gc (l:=l) (id:=id)
 have W:((l.take (XE l id:Int).toNat).map zY++[zY (gN id v u x f3)])++(l.drop (XE l id:Int).toNat).map zY=(gW l (gN id v u x f3)).map zY:=by
  rw[zBf];unfold gW gN;rw[zAy,zCb,zBh];rfl
 have d1:=fZ (gW l (gN id v u x f3)) (by unfold gW;rw[zAv,zA6,zBg,zBr];omega) (λr A=>by
  unfold gW at A;rw[zBc,zCf]at A
  rcases A with A|rfl|A
  .have:=hv.lg3 (zCo A);omega
  .show (ln x)<=1000;omega
  .have:=hv.lg3 (zBz A);omega)
 have ap:∀y,((l.take (XE l id:Int).toNat).map zY)[0]? =some y->ln y.cells=5:=yM _ _ (λ_=>rfl);have az:∀y,((l.drop (XE l id:Int).toNat).map zY)[0]? =some y->ln y.cells=5:=yM _ _ (λ_=>rfl);have ax:((l.take (XE l id:Int).toNat).map zY).length=XE l id:=by rw[zAr,zBg];omega
 have ar:((l.drop (XE l id:Int).toNat).map zY).length=ln l-XE l id:=by rw[zAr,zBr];omega
 clear hv;have hR:zE zY (gW l (gN id v u x f3))=AV.sl false ((gW l (gN id v u x f3)).map zY):=rfl;rw[hR]at d1⊢;rw[<-W]at d1⊢;clear hR W;refine eM call293 λF hF=>?_
 refine yG (zy I B C E z G L M) ?_;refine zO (XE l id) [10] [10] [0,2,4,5,6,10] [18,0,2,4,5,6,10] Z (λi T U=>⟨(18,iA i)::T,U⟩) (Lq ?_ ?_)
 .intro i hi;have hy:=zJ zY l i zB;have av:=Y i hi;generalize l.getD i dd=r at *;refine WW ?_;rfl
 .clear Y;by_cases ag:XE l id<ln l
  case' pos=>
   have hy:=zJ zY l (XE l id) ag;have au:=ac ag;generalize l.getD (XE l id) dd=r at*
  all_goals clear ac
  all_goals generalize XE l id=k at*
  all_goals (repeat' (first|refine WS ?_|refine SG (I2 (λhc=>?_) λhc=>?_)|refine SG λhc=>?_|(apply zG;first|(apply yC;refine gP tok Z Z Z Z Z Z ap Z Z Z zB Z Z Z ?_)|refine SM ?_)|(first|refine GU 11 14 Z Z ?_|first|refine SR ?_|refine SK (I2 (λhc=>?_) λhc=>?_)|refine SK λhc=>?_|fail)|fail))
  all_goals refine Lc NA ?_
  all_goals (have ga:=d1;have kj:=(⟨⟩:Su 187 [] [105]);refine WW ?_;clear ga kj)
  all_goals exact zI
def wF (r:Rq) (k:Nat):AV:= .agg [iA r.id,iA r.vh,iA r.cls,iA r.til,.ref k 0 (r.legs.map yO).length]
def qE (r:Rq):xW:= .arr 5 (r.legs.map yO) false
def LX (l:List Lg) (h1:1<=ln l) (hl:ln l<=1000):zN 169 [zE yO l] [] (.ref 1101 0 (l.map yO).length) [(1101,.arr 5 (l.map yO) false)]:=by
 have u:=zA yO l;refine eM call169 λF hF=>?_
 refine xH 0 Z (λcap hx=>?_) ?_
 .have:l=[]:=by simpa using hx
  subst this;simp at h1
 ·(repeat' (first|refine WV ?_|refine SG (I2 (λhc=>?_) λhc=>?_)|refine SG λhc=>?_|(apply zG;first|(apply yH;refine uU (nw:=[1101]) (yV tok 1101 (xs:=[]) Z Z Z Z Z Z Z Z Z) Z Z Z ?_))|refine SB ?_|(first|apply xY|apply xR|refine vZ Z ?_|refine yR Z ?_|refine yD Z ?_|refine xZ Z (λhc=>?_) λhc=>?_|apply xJ|apply xL|apply xQ|apply xC)|fail))
  exact zP [1101] Z Z Z Z
def gU (r:Rq) (h1:1<=ln r.legs) (hl:ln r.legs<=1000):zN 265 [zY r] [] (wF r 1101) [(1101,qE r)]:=by
 have c:=LX r.legs h1 hl;have u:=zA yO r.legs;refine eM call265 λF hF=>?_
 refine zS c ?_;exact zP [1101] Z Z Z Z
def LY (l:List Lg) (h1:1<=ln l) (hl:ln l<=1000):zN 169 [zE yO l] [] (.ref 1102 0 (l.map yO).length) [(1102,.arr 5 (l.map yO) false)]:=by
 have u:=zA yO l;refine eM call169 λF hF=>?_
 refine xH 0 Z (λcap hx=>?_) ?_
 .have:l=[]:=by simpa using hx
  subst this;simp at h1
 ·(repeat' (first|refine WV ?_|refine SG (I2 (λhc=>?_) λhc=>?_)|refine SG λhc=>?_|(apply zG;first|(apply yH;refine uU (nw:=[1102]) (yV tok 1102 (xs:=[]) Z Z Z Z Z Z Z Z Z) Z Z Z ?_))|refine SB ?_|(first|apply xY|apply xR|refine vZ Z ?_|refine yR Z ?_|refine yD Z ?_|refine xZ Z (λhc=>?_) λhc=>?_|apply xJ|apply xL|apply xQ|apply xC)|fail))
  exact zP [1102] Z Z Z Z
def aL (r:Rq) (h1:1<=ln r.legs) (hl:ln r.legs<=1000):zN 265 [zY r] [] (wF r 1102) [(1102,qE r)]:=by
 have c:=LY r.legs h1 hl;have u:=zA yO r.legs;refine eM call265 λF hF=>?_
 refine zS c ?_;exact zP [1102] Z Z Z Z
def LZ (l:List Lg) (h1:1<=ln l) (hl:ln l<=1000):zN 169 [zE yO l] [] (.ref 1103 0 (l.map yO).length) [(1103,.arr 5 (l.map yO) false)]:=by
 have u:=zA yO l;refine eM call169 λF hF=>?_
 refine xH 0 Z (λcap hx=>?_) ?_
 .have:l=[]:=by simpa using hx
  subst this;simp at h1
 ·(repeat' (first|refine WV ?_|refine SG (I2 (λhc=>?_) λhc=>?_)|refine SG λhc=>?_|(apply zG;first|(apply yH;refine uU (nw:=[1103]) (yV tok 1103 (xs:=[]) Z Z Z Z Z Z Z Z Z) Z Z Z ?_))|refine SB ?_|(first|apply xY|apply xR|refine vZ Z ?_|refine yR Z ?_|refine yD Z ?_|refine xZ Z (λhc=>?_) λhc=>?_|apply xJ|apply xL|apply xQ|apply xC)|fail))
  exact zP [1103] Z Z Z Z
def TA (r:Rq) (h1:1<=ln r.legs) (hl:ln r.legs<=1000):zN 265 [zY r] [] (wF r 1103) [(1103,qE r)]:=by
 have c:=LZ r.legs h1 hl;have u:=zA yO r.legs;refine eM call265 λF hF=>?_
 refine zS c ?_;exact zP [1103] Z Z Z Z
def KA (l:List Lg) (h1:1<=ln l) (hl:ln l<=1000):zN 169 [zE yO l] [] (.ref 1104 0 (l.map yO).length) [(1104,.arr 5 (l.map yO) false)]:=by
 have u:=zA yO l;refine eM call169 λF hF=>?_
 refine xH 0 Z (λcap hx=>?_) ?_
 .have:l=[]:=by simpa using hx
  subst this;simp at h1
 ·(repeat' (first|refine WV ?_|refine SG (I2 (λhc=>?_) λhc=>?_)|refine SG λhc=>?_|(apply zG;first|(apply yH;refine uU (nw:=[1104]) (yV tok 1104 (xs:=[]) Z Z Z Z Z Z Z Z Z) Z Z Z ?_))|refine SB ?_|(first|apply xY|apply xR|refine vZ Z ?_|refine yR Z ?_|refine yD Z ?_|refine xZ Z (λhc=>?_) λhc=>?_|apply xJ|apply xL|apply xQ|apply xC)|fail))
  exact zP [1104] Z Z Z Z
def GP (r:Rq) (h1:1<=ln r.legs) (hl:ln r.legs<=1000):zN 265 [zY r] [] (wF r 1104) [(1104,qE r)]:=by
 have c:=KA r.legs h1 hl;have u:=zA yO r.legs;refine eM call265 λF hF=>?_
 refine zS c ?_;exact zP [1104] Z Z Z Z
def lu (a:Rq) (C:1<=ln a.legs) (B:ln a.legs<=1000):zN 222 [zE zY [a],.fn 273 []] [] (.ref 1001 0 1) [(1001,.arr 5 [wF a 1101] ⟨false,true⟩),(1101,qE a)]:=by
 have z:=vM a;have A:=gU a C B;refine eM call222 λF hF=>?_
 refine WW ?_;refine zQ 5 1001 5 Z Z Z ?_;refine wB 2 [1001,1101] [5,10,1,8,9] Z ?_;refine yB (st0:=⟨[(5,.ref 1001 0 0),(10,iA 0),(1,.fn 273 []),(8,.sl false [zY a]),(9,iA 1)],[(1001,.arr 5 [] ⟨true,false⟩)]⟩) Z ?_
 (have ga:=z;have ge:=A;(repeat' (first|refine jX ?_|apply yW|apply xI|intro hc|(apply zG;first|(apply yH;refine qF (xs:=[_]) 1002 tok Z Z Z Z Z Z Z Z Z Z Z Z ?_)|(apply yC;first|refine wA tok Z Z Z Z Z Z Z (by intro y u;cases u;rfl) Z Z Z zV Z ?_|refine wN tok Z Z Z Z Z Z Z Z Z Z Z (by intro y u;cases u;rfl) zV Z ?_))|refine SB ?_|fail))<;>clear ga ge)
 refine yB (st0:=⟨[(5,.ref 1001 0 1),(10,iA 1),(1,.fn 273 []),(8,.sl false [zY a]),(9,iA 1)],[(1001,.arr 5 [wF a 1101] ⟨false,true⟩),(1101,qE a)]⟩) Z ?_;refine WW ?_;exact zP [1001,1101] Z Z Z Z
def BZ (a:Rq) (z:1<=ln a.legs) (u:ln a.legs<=1000):zN 225 [zE zY [a]] [] (.ref 1001 0 1) [(1001,.arr 5 [wF a 1101] ⟨false,true⟩),(1101,qE a)]:=by
 have c:=lu a z u;refine eM call225 λF hF=>?_
 refine zS c ?_;exact zP [1001,1101] Z Z Z Z
def ru (a b:Rq) (I:1<=ln a.legs) (E:ln a.legs<=1000) (hb:1<=ln b.legs) (G:ln b.legs<=1000):zN 222 [zE zY [a,b],.fn 273 []] [] (.ref 1001 0 2) [(1001,.arr 5 [wF a 1101,wF b 1102] ⟨true,true⟩),(1101,qE a),(1102,qE b)]:=by
 have z:=vM a;have B:=gU a I E;have A:=vM b;have C:=aL b hb G;refine eM call222 λF hF=>?_
 refine WW ?_;refine zQ 5 1001 5 Z Z Z ?_;refine wB 3 [1001,1101,1102] [5,10,1,8,9] Z ?_;refine yB (st0:=⟨[(5,.ref 1001 0 0),(10,iA 0),(1,.fn 273 []),(8,.sl false [zY a,zY b]),(9,iA 2)],[(1001,.arr 5 [] ⟨true,false⟩)]⟩) Z ?_
 (have ga:=z;have ge:=B;(repeat' (first|refine jX ?_|apply yW|apply xI|intro hc|(apply zG;first|(apply yH;refine qF (xs:=[_]) 1002 tok Z Z Z Z Z Z Z Z Z Z Z Z ?_)|(apply yC;first|refine wA tok Z Z Z Z Z Z Z (by intro y u;cases u;rfl) Z Z Z zV Z ?_|refine wN tok Z Z Z Z Z Z Z Z Z Z Z (by intro y u;cases u;rfl) zV Z ?_))|refine SB ?_|fail))<;>clear ga ge)
 refine yB (st0:=⟨[(5,.ref 1001 0 1),(10,iA 1),(1,.fn 273 []),(8,.sl false [zY a,zY b]),(9,iA 2)],[(1001,.arr 5 [wF a 1101] ⟨false,true⟩),(1101,qE a)]⟩) Z ?_
 (have ga:=A;have ge:=C;(repeat' (first|refine jX ?_|apply yW|apply xI|intro hc|(apply zG;first|(apply yH;refine qF (xs:=[_]) 1002 tok Z Z Z Z Z Z Z Z Z Z Z Z ?_)|(apply yC;first|refine wA tok Z Z Z Z Z Z Z (by intro y u;cases u;rfl) Z Z Z zV Z ?_|refine wN tok Z Z Z Z Z Z Z Z Z Z Z (by intro y u;cases u;rfl) zV Z ?_))|refine SB ?_|fail))<;>clear ga ge)
 refine yB (st0:=⟨[(5,.ref 1001 0 2),(10,iA 2),(1,.fn 273 []),(8,.sl false [zY a,zY b]),(9,iA 2)],[(1001,.arr 5 [wF a 1101,wF b 1102] ⟨true,true⟩),(1101,qE a),(1102,qE b)]⟩) Z ?_;refine WW ?_;exact zP [1001,1101,1102] Z Z Z Z
def AA (a b:Rq) (A:1<=ln a.legs) (u:ln a.legs<=1000) (hb:1<=ln b.legs) (z:ln b.legs<=1000):zN 225 [zE zY [a,b]] [] (.ref 1001 0 2) [(1001,.arr 5 [wF a 1101,wF b 1102] ⟨true,true⟩),(1101,qE a),(1102,qE b)]:=by
 have c:=ru a b A u hb z;refine eM call225 λF hF=>?_
 refine zS c ?_;exact zP [1001,1101,1102] Z Z Z Z
def su (a b c:Rq) (M:1<=ln a.legs) (I:ln a.legs<=1000) (hb:1<=ln b.legs) (L:ln b.legs<=1000) (hc:1<=ln c.legs) (gc:ln c.legs<=1000):zN 222 [zE zY [a,b,c],.fn 273 []] [] (.ref 1001 0 3) [(1001,.arr 5 [wF a 1101,wF b 1102,wF c 1103] ⟨true,true⟩),(1101,qE a),(1102,qE b),(1103,qE c)]:=by
 have z:=vM a;have C:=gU a M I;have A:=vM b;have E:=aL b hb L;have B:=vM c;have G:=TA c hc gc;refine eM call222 λF hF=>?_
 refine WW ?_;refine zQ 5 1001 5 Z Z Z ?_;refine wB 4 [1001,1101,1102,1103] [5,10,1,8,9] Z ?_;refine yB (st0:=⟨[(5,.ref 1001 0 0),(10,iA 0),(1,.fn 273 []),(8,.sl false [zY a,zY b,zY c]),(9,iA 3)],[(1001,.arr 5 [] ⟨true,false⟩)]⟩) Z ?_
 (have ga:=z;have ge:=C;(repeat' (first|refine jX ?_|apply yW|apply xI|intro hc|(apply zG;first|(apply yH;refine qF (xs:=[_]) 1002 tok Z Z Z Z Z Z Z Z Z Z Z Z ?_)|(apply yC;first|refine wA tok Z Z Z Z Z Z Z (by intro y u;cases u;rfl) Z Z Z zV Z ?_|refine wN tok Z Z Z Z Z Z Z Z Z Z Z (by intro y u;cases u;rfl) zV Z ?_))|refine SB ?_|fail))<;>clear ga ge)
 refine yB (st0:=⟨[(5,.ref 1001 0 1),(10,iA 1),(1,.fn 273 []),(8,.sl false [zY a,zY b,zY c]),(9,iA 3)],[(1001,.arr 5 [wF a 1101] ⟨false,true⟩),(1101,qE a)]⟩) Z ?_
 (have ga:=A;have ge:=E;(repeat' (first|refine jX ?_|apply yW|apply xI|intro hc|(apply zG;first|(apply yH;refine qF (xs:=[_]) 1002 tok Z Z Z Z Z Z Z Z Z Z Z Z ?_)|(apply yC;first|refine wA tok Z Z Z Z Z Z Z (by intro y u;cases u;rfl) Z Z Z zV Z ?_|refine wN tok Z Z Z Z Z Z Z Z Z Z Z (by intro y u;cases u;rfl) zV Z ?_))|refine SB ?_|fail))<;>clear ga ge)
 refine yB (st0:=⟨[(5,.ref 1001 0 2),(10,iA 2),(1,.fn 273 []),(8,.sl false [zY a,zY b,zY c]),(9,iA 3)],[(1001,.arr 5 [wF a 1101,wF b 1102] ⟨true,true⟩),(1101,qE a),(1102,qE b)]⟩) Z ?_
 (have ga:=B;have ge:=G;(repeat' (first|refine jX ?_|apply yW|apply xI|intro hc|(apply zG;first|(apply yH;refine qF (xs:=[_]) 1002 tok Z Z Z Z Z Z Z Z Z Z Z Z ?_)|(apply yC;first|refine wA tok Z Z Z Z Z Z Z (by intro y u;cases u;rfl) Z Z Z zV Z ?_|refine wN tok Z Z Z Z Z Z Z Z Z Z Z (by intro y u;cases u;rfl) zV Z ?_))|refine SB ?_|fail))<;>clear ga ge)
 refine yB (st0:=⟨[(5,.ref 1001 0 3),(10,iA 3),(1,.fn 273 []),(8,.sl false [zY a,zY b,zY c]),(9,iA 3)],[(1001,.arr 5 [wF a 1101,wF b 1102,wF c 1103] ⟨true,true⟩),(1101,qE a),(1102,qE b),(1103,qE c)]⟩) Z ?_;refine WW ?_;exact zP [1001,1101,1102,1103] Z Z Z Z
def AB (a b c:Rq) (A:1<=ln a.legs) (u:ln a.legs<=1000) (hb:1<=ln b.legs) (z:ln b.legs<=1000) (hc:1<=ln c.legs) (gc:ln c.legs<=1000):zN 225 [zE zY [a,b,c]] [] (.ref 1001 0 3) [(1001,.arr 5 [wF a 1101,wF b 1102,wF c 1103] ⟨true,true⟩),(1101,qE a),(1102,qE b),(1103,qE c)]:=by
 have c:=su a b c A u hb z hc gc;refine eM call225 λF hF=>?_
 refine zS c ?_;exact zP [1001,1101,1102,1103] Z Z Z Z
theorem tu (a b c d:Rq) (R:1<=a.legs.length) (L:a.legs.length<=1000) (hb:1<=b.legs.length) (M:b.legs.length<=1000) (hc:1<=c.legs.length) (gc:c.legs.length<=1000) (hd:1<=d.legs.length) (O:d.legs.length<=1000):zN 222 [zE zY [a,b,c,d],.fn 273 []] [] (.ref 1001 0 4) [(1001,.arr 5 [wF a 1101,wF b 1102,wF c 1103,wF d 1104] ⟨true,true⟩),(1101,qE a),(1102,qE b),(1103,qE c),(1104,qE d)]:=by
 have z:=vM a;have E:=gU a R L;have A:=vM b;have G:=aL b hb M;have B:=vM c;have I:=TA c hc gc;have C:=vM d;have dd:=GP d hd O;refine eM call222 λF hF=>?_
 refine WW ?_;refine zQ 5 1001 5 Z Z Z ?_;refine wB 5 [1001,1101,1102,1103,1104] [5,10,1,8,9] Z ?_;refine yB (st0:=⟨[(5,.ref 1001 0 0),(10,iA 0),(1,.fn 273 []),(8,.sl false [zY a,zY b,zY c,zY d]),(9,iA 4)],[(1001,.arr 5 [] ⟨true,false⟩)]⟩) Z ?_
 (have ga:=z;have ge:=E;(repeat' (first|refine jX ?_|apply yW|apply xI|intro hc|(apply zG;first|(apply yH;refine qF (xs:=[_]) 1002 tok Z Z Z Z Z Z Z Z Z Z Z Z ?_)|(apply yC;first|refine wA tok Z Z Z Z Z Z Z (by intro y u;cases u;rfl) Z Z Z zV Z ?_|refine wN tok Z Z Z Z Z Z Z Z Z Z Z (by intro y u;cases u;rfl) zV Z ?_))|refine SB ?_|fail))<;>clear ga ge)
 refine yB (st0:=⟨[(5,.ref 1001 0 1),(10,iA 1),(1,.fn 273 []),(8,.sl false [zY a,zY b,zY c,zY d]),(9,iA 4)],[(1001,.arr 5 [wF a 1101] ⟨false,true⟩),(1101,qE a)]⟩) Z ?_
 (have ga:=A;have ge:=G;(repeat' (first|refine jX ?_|apply yW|apply xI|intro hc|(apply zG;first|(apply yH;refine qF (xs:=[_]) 1002 tok Z Z Z Z Z Z Z Z Z Z Z Z ?_)|(apply yC;first|refine wA tok Z Z Z Z Z Z Z (by intro y u;cases u;rfl) Z Z Z zV Z ?_|refine wN tok Z Z Z Z Z Z Z Z Z Z Z (by intro y u;cases u;rfl) zV Z ?_))|refine SB ?_|fail))<;>clear ga ge)
 refine yB (st0:=⟨[(5,.ref 1001 0 2),(10,iA 2),(1,.fn 273 []),(8,.sl false [zY a,zY b,zY c,zY d]),(9,iA 4)],[(1001,.arr 5 [wF a 1101,wF b 1102] ⟨true,true⟩),(1101,qE a),(1102,qE b)]⟩) Z ?_
 (have ga:=B;have ge:=I;(repeat' (first|refine jX ?_|apply yW|apply xI|intro hc|(apply zG;first|(apply yH;refine qF (xs:=[_]) 1002 tok Z Z Z Z Z Z Z Z Z Z Z Z ?_)|(apply yC;first|refine wA tok Z Z Z Z Z Z Z (by intro y u;cases u;rfl) Z Z Z zV Z ?_|refine wN tok Z Z Z Z Z Z Z Z Z Z Z (by intro y u;cases u;rfl) zV Z ?_))|refine SB ?_|fail))<;>clear ga ge)
 refine yB (st0:=⟨[(5,.ref 1001 0 3),(10,iA 3),(1,.fn 273 []),(8,.sl false [zY a,zY b,zY c,zY d]),(9,iA 4)],[(1001,.arr 5 [wF a 1101,wF b 1102,wF c 1103] ⟨true,true⟩),(1101,qE a),(1102,qE b),(1103,qE c)]⟩) Z ?_
 (have ga:=C;have ge:=dd;(repeat' (first|refine jX ?_|apply yW|apply xI|intro hc|(apply zG;first|(apply yH;refine qF (xs:=[_]) 1002 tok Z Z Z Z Z Z Z Z Z Z Z Z ?_)|(apply yC;first|refine wA tok Z Z Z Z Z Z Z (by intro y u;cases u;rfl) Z Z Z zV Z ?_|refine wN tok Z Z Z Z Z Z Z Z Z Z Z (by intro y u;cases u;rfl) zV Z ?_))|refine SB ?_|fail))<;>clear ga ge)
 refine yB (st0:=⟨[(5,.ref 1001 0 4),(10,iA 4),(1,.fn 273 []),(8,.sl false [zY a,zY b,zY c,zY d]),(9,iA 4)],[(1001,.arr 5 [wF a 1101,wF b 1102,wF c 1103,wF d 1104] ⟨true,true⟩),(1101,qE a),(1102,qE b),(1103,qE c),(1104,qE d)]⟩) Z ?_;refine WW ?_;exact zP [1001,1101,1102,1103,1104] Z Z Z Z
def AC (a b c d:Rq) (B:1<=ln a.legs) (u:ln a.legs<=1000) (hb:1<=ln b.legs) (z:ln b.legs<=1000) (hc:1<=ln c.legs) (gc:ln c.legs<=1000) (hd:1<=ln d.legs) (A:ln d.legs<=1000):zN 225 [zE zY [a,b,c,d]] [] (.ref 1001 0 4) [(1001,.arr 5 [wF a 1101,wF b 1102,wF c 1103,wF d 1104] ⟨true,true⟩),(1101,qE a),(1102,qE b),(1103,qE c),(1104,qE d)]:=by
 have c:=tu a b c d B u hb z hc gc hd A;refine eM call225 λF hF=>?_
 refine zS c ?_;exact zP [1001,1101,1102,1103,1104] Z Z Z Z
theorem MA (K:List Nat) (h:yS):∀a b:List AV,kO K h (a++b)=kO K h a++kO K h b
 | [],b=>rfl
 |v::a,b=>by rw[zD6,kO,kO,MA K h a b];rfl
theorem TB (K:List Nat) (h:yS):∀l:List Rq,kO K h (l.map zY)=l.map zY
 | []=>rfl
 |r::l=>by rw[zCb,kO,TB K h l];rfl
theorem JO (K:List Nat) (h:yS):∀a b:List AV,vK K h (a++b)=vK K h a++vK K h b
 | [],b=>rfl
 |v::a,b=>by rw[zD6,vK,vK,JO K h a b];rfl
theorem MB (K:List Nat) (h:yS):∀l:List Rq,vK K h (l.map zY)=l.map zY
 | []=>rfl
 |r::l=>by rw[zCb,vK,MB K h l];rfl
theorem VK:∀a b:List AV,vI (a++b)=(vI a&&vI b)
 | [],b=>rfl
 |v::a,b=>by rw[zD6,vI,vI,VK a b,Bool.and_assoc]
theorem XA:∀l:List Rq,vI (l.map zY)=true
 | []=>rfl
 |r::l=>by rw[zCb,vI,XA l];rfl
def fD (f4:List Rq) (x:Rq) (post:List Rq) (k:Nat):List AV:=f4.map zY++wF x k::post.map zY
def gV (f4:List Rq) (x:Rq) (post:List Rq) (k:Nat):(fD f4 x post k).length=ln f4+1+ln post:=by simp[fD];omega
theorem dL (h:yS) (f4:List Rq) (x:Rq) (post:List Rq) (b:Bool):kC [1001,1101] h (.arr 5 (fD f4 x post 1101) ⟨b,true⟩)= .arr 5 (fD f4 x post 1101) ⟨b,true⟩:=by
 have e:kO [1001,1101] h (fD f4 x post 1101)=fD f4 x post 1101:=by
  unfold fD;rw[MA,TB,kO,TB];rfl
 have u:vI (fD f4 x post 1101)=false:=by
  unfold fD;rw[VK,XA,vI];rfl
 simp_all [yS,kC,fD]
theorem qf (f4:List Rq) (x:Rq) (post:List Rq) (k:Nat) (y:Rq):fD f4 x post k++[zY y]=fD f4 x (post++[y]) k:=by grind [fD,zY]
theorem iu (f4:List Rq) (x:Rq) (post:List Rq) (l:List Rq) (hL:l=f4++x::post) (W:ln l<=1000) (hb:∀r∈l,1<=ln r.legs/\r.legs.length<=1000):
  zN 222 [zE zY l,.fn 273 []] [] (.ref 1001 0 (fD f4 x post 1101).length) [(1001,.arr 5 (fD f4 x post 1101) ⟨true,true⟩),(1101,qE x)]:=by
 have hl:=zA zY l;have M:ln l=ln f4+1+ln post:=by rw[hL];simp;omega
 refine eM call222 λF hF=>?_
 refine WW ?_;refine zQ 5 1001 5 rfl rfl rfl ?_;refine wP (λn st=>∃i,n+i=ln l/\st=if i<=ln f4 then(⟨[(5,.ref 1001 0 ((l.take i).map zY).length),(10,iA i),(1,.fn 273 []),(8,zE zY l),(9,iA (l.map zY).length)],[(1001,.arr 5 ((l.take i).map zY) true)]⟩:St)else⟨[(5,.ref 1001 0 (fD f4 x (post.take (i-f4.length-1)) 1101).length),(10,iA i),(1,.fn 273 []),(8,zE zY l),(9,iA (l.map zY).length)],[(1001,.arr 5 (fD f4 x (post.take (i-f4.length-1)) 1101) ⟨true,true⟩),(1101,qE x)]⟩) (ln l) [1001,1101] [5,10,1,8,9] rfl ⟨0,zB,by rw[f5 (zA9 _)];rfl⟩ ?_;rintro n st ⟨i,hi,rfl⟩;by_cases S:i<ln f4
 .rw[f5 zB];have z:=zJ zY l i zB;have C:l.getD i dd∈l:=by simp[pb,show i<ln l by omega]
  have O:=hb _ C
  have e:(l.take (i+1)).map zY=(l.take i).map zY++[zY (l.getD i dd)]:=by
   rw[zDr,zAy,zBk zB];simp[pb,show i<ln l by omega]
  have U:((l.take i).map zY).length=i:=by rw[zAr,zBg];omega
  have u:i<ln l:=by omega
  clear C;generalize l.getD i dd=r at *;have A:=vM r;have B:=TE r zB
  (have ga:=A;have ge:=B;(repeat' (first|refine uT ?_|apply yW|apply xI|intro hc|(apply zG;first|(apply yC;refine uU (nw:=[]) (wR true false tok Z Z Z Z Z Z (λh=>by cases h) Z (by intro y z;cases z;rfl) Z Z Z Z (by simp only[gV,zAr,zBg,zA6,zBx,zBr];omega) (λh=>by cases h)) Z Z Z ?_)|refine SM ?_)|fail))<;>clear ga ge)
  exact⟨n-1,zB,i+1,zB,by rw[f5 zB,e];rfl⟩
 by_cases G:i=ln f4
 .rw[f5 zB];subst G;have u:ln f4<ln l:=by omega
  have V:(l.take (ln f4)).map zY=f4.map zY:=by rw[hL];simp
  have z:(l.map zY)[ln f4]? =some (zY x):=by rw[hL];simp
  have O:=hb x CF;rw[V];clear hL;have A:=vM x;have B:=gU x zB zB;have I:ln f4<=1000:=by omega
  (have ga:=A;have ge:=B;(repeat' (first|refine jX ?_|apply yW|apply xI|intro hc|(apply zG;first|(apply yH;refine qF (xs:=[_]) 1002 tok Z Z Z Z Z Z Z Z Z Z Z Z ?_)|(apply yC;refine uU (nw:=[]) (wR true true tok Z Z Z Z Z Z (λh=>by cases h) Z (by intro y z;cases z;rfl) Z Z Z Z (by simp only[gV,zAr,zBg,zA6,zBx,zBr];omega) (λh=>by cases h)) Z Z Z ?_))|refine SB ?_|fail))<;>clear ga ge)
  refine⟨n-1,zB,ln f4+1,zB,?_⟩;rw[Os zB,show (ln f4)+1-f4.length-1=0 by omega];refine zBb (St.mk _) ?_
  show [(1001,kC [1001,1101] _ (.arr 5 (fD f4 x [] 1101) ⟨true,true⟩)),(1101,qE x)]=_
  rw[dL];rfl
 rw[Os zB];by_cases u:i<ln l
 .have z:=zJ zY l i u;have C:l.getD i dd∈l:=by simp[pb,u]
  have O:=hb _ C
  have L:post[i-f4.length-1]? =some (l.getD i dd):=by
   have h1:l[i]? =some (l.getD i dd):=by simp[pb,u]
   rw[hL,zBq zB]at h1;rw[show i-f4.length=(i-f4.length-1)+1 by omega,List.getElem?_cons_succ]at h1;rw[<-hL]at h1;exact h1
  have e:fD f4 x (post.take (i+1-f4.length-1)) 1101=fD f4 x (post.take (i-f4.length-1)) 1101++[zY (l.getD i dd)]:=by
   rw[qf,show i+1-f4.length-1=(i-f4.length-1)+1 by omega,zDr,L];rfl
  have R:=gV f4 x (post.take (i-f4.length-1)) 1101;have I:(post.take (i-f4.length-1)).length<=1000:=by rw[zBg];omega
  have E:=λh=>dL h f4 x (post.take (i+1-f4.length-1)) true
  rw[e]at E;clear C L hL;generalize l.getD i dd=r,fD f4 x (post.take (i-f4.length-1)) 1101=cs at *;have A:=vM r;have B:=TE r zB
  (have ga:=A;have ge:=B;(repeat' (first|refine uT ?_|apply yW|apply xI|intro hc|(apply zG;first|(apply yC;refine uU (nw:=[]) (wR true true tok Z Z Z Z Z Z (λh=>by cases h) Z (by intro y z;cases z;rfl) Z Z Z Z (by simp only[gV,zAr,zBg,zA6,zBx,zBr];omega) (λh=>by cases h)) Z Z Z ?_)|refine SM ?_)|fail))<;>clear ga ge)
  refine⟨n-1,zB,i+1,zB,?_⟩;rw[Os zB,e];refine zBb (St.mk _) ?_
  show [(1001,kC [1001,1101] _ (.arr 5 (cs++[zY r]) ⟨true,true⟩)),(1101,qE x)]=_
  rw[E]
 .have E:=λh=>dL h f4 x post true
  rw[show i-f4.length-1=ln post by omega,zAt];generalize fD f4 x post 1101=cs at *;refine WW ?_;refine zP [1001,1101] Z Z Z ?_
  show [(1001,kC [1001,1101] _ (.arr 5 cs ⟨true,true⟩)),(1101,qE x)]=_
  rw[E]
def AD (f4:List Rq) (x:Rq) (post:List Rq) (l:List Rq) (hL:l=f4++x::post) (z:ln l<=1000) (hb:∀r∈l,1<=ln r.legs/\r.legs.length<=1000):
  zN 225 [zE zY l] [] (.ref 1001 0 (fD f4 x post 1101).length) [(1001,.arr 5 (fD f4 x post 1101) ⟨true,true⟩),(1101,qE x)]:=by
 have c:=iu f4 x post l hL z hb;have u:=λh=>dL h f4 x post true
 generalize fD f4 x post 1101=cs at *;refine eM call225 λF hF=>?_
 refine zS c ?_;refine zP [1001,1101] Z Z Z ?_
 show [(1001,kC [1001,1101] _ (.arr 5 cs ⟨true,true⟩)),(1101,qE x)]=_
 rw[u]
theorem Zu (f4:List Rq) (x:Rq) (post:List Rq) (l:List Rq) (hL:l=f4++x::post) (V:ln l<=1000) (hb:∀r∈l,1<=ln r.legs/\r.legs.length<=1000):
  zN 187 [zE zY l] [] (.ref 1001 0 (fD f4 x post 1101).length) [(1001,.arr 5 (fD f4 x post 1101) ⟨true,true⟩),(1101,qE x)]:=by
 have hl:=zA zY l;have L:ln l=ln f4+1+ln post:=by rw[hL];simp;omega
 refine eM call187 λF hF=>?_
 refine WW ?_;refine zQ 3 1001 5 rfl rfl rfl ?_;refine wP (λn st=>∃i,n+i=ln l/\st=if i<=ln f4 then(⟨[(3,.ref 1001 0 ((l.take i).map zY).length),(8,iA i),(6,zE zY l),(7,iA (l.map zY).length)],[(1001,.arr 5 ((l.take i).map zY) true)]⟩:St)else⟨[(3,.ref 1001 0 (fD f4 x (post.take (i-f4.length-1)) 1101).length),(8,iA i),(6,zE zY l),(7,iA (l.map zY).length)],[(1001,.arr 5 (fD f4 x (post.take (i-f4.length-1)) 1101) ⟨true,true⟩),(1101,qE x)]⟩) (ln l) [1001,1101] [3,8,6,7] rfl ⟨0,zB,by rw[f5 (zA9 _)];rfl⟩ ?_;rintro n st ⟨i,hi,rfl⟩;by_cases R:i<ln f4
 .rw[f5 zB];have z:=zJ zY l i zB;have A:l.getD i dd∈l:=by simp[pb,show i<ln l by omega]
  have M:=hb _ A
  have e:(l.take (i+1)).map zY=(l.take i).map zY++[zY (l.getD i dd)]:=by
   rw[zDr,zAy,zBk zB];simp[pb,show i<ln l by omega]
  have S:((l.take i).map zY).length=i:=by rw[zAr,zBg];omega
  have u:i<ln l:=by omega
  clear A;generalize l.getD i dd=r at *;have B:=zA yO r.legs
  (repeat' (first|refine jX ?_|apply yW|apply xI|intro hc|(apply zG;first|(apply yC;refine uU (nw:=[]) (wR true false tok Z Z Z Z Z Z (λh=>by cases h) Z (by intro y z;cases z;rfl) Z Z Z Z (by simp only[gV,zAr,zBg,zA6,zBx,zBr];omega) (λh=>by cases h)) Z Z Z ?_)|refine SL ?_|refine SM ?_)|refine SB ?_|fail))
  exact⟨n-1,zB,i+1,zB,by rw[f5 zB,e];rfl⟩
 by_cases E:i=ln f4
 .rw[f5 zB];subst E;have u:ln f4<ln l:=by omega
  have U:(l.take (ln f4)).map zY=f4.map zY:=by rw[hL];simp
  have z:(l.map zY)[ln f4]? =some (zY x):=by rw[hL];simp
  have M:=hb x CF;rw[U];clear hL;have B:=zA yO x.legs;have G:ln f4<=1000:=by omega
  (repeat' (first|refine jX ?_|apply yW|apply xI|intro hc|(apply zG;first|(apply yC;refine xG 1101 tok Z Z Z Z Z Z (yM _ _ (λ_=>rfl)) Z Z Z zB Z Z Z ?_)|(apply yH;refine qF (xs:=[_]) 1002 tok Z Z Z Z Z Z Z Z Z Z Z Z ?_)|(apply yC;refine uU (nw:=[]) (wR true true tok Z Z Z Z Z Z (λh=>by cases h) Z (by intro y z;cases z;rfl) Z Z Z Z (by simp only[gV,zAr,zBg,zA6,zBx,zBr];omega) (λh=>by cases h)) Z Z Z ?_))|refine SB ?_|fail))
  refine⟨n-1,zB,ln f4+1,zB,?_⟩;rw[Os zB,show (ln f4)+1-f4.length-1=0 by omega];refine zBb (St.mk _) ?_
  show [(1001,kC [1001,1101] _ (.arr 5 (fD f4 x [] 1101) ⟨true,true⟩)),(1101,qE x)]=_
  rw[dL];rfl
 rw[Os zB];by_cases u:i<ln l
 .have z:=zJ zY l i u;have A:l.getD i dd∈l:=by simp[pb,u]
  have M:=hb _ A
  have I:post[i-f4.length-1]? =some (l.getD i dd):=by
   have h1:l[i]? =some (l.getD i dd):=by simp[pb,u]
   rw[hL,zBq zB]at h1;rw[show i-f4.length=(i-f4.length-1)+1 by omega,List.getElem?_cons_succ]at h1;rw[<-hL]at h1;exact h1
  have e:fD f4 x (post.take (i+1-f4.length-1)) 1101=fD f4 x (post.take (i-f4.length-1)) 1101++[zY (l.getD i dd)]:=by
   rw[qf,show i+1-f4.length-1=(i-f4.length-1)+1 by omega,zDr,I];rfl
  have O:=gV f4 x (post.take (i-f4.length-1)) 1101;have G:(post.take (i-f4.length-1)).length<=1000:=by rw[zBg];omega
  have C:=λh=>dL h f4 x (post.take (i+1-f4.length-1)) true
  rw[e]at C;clear A I hL;generalize l.getD i dd=r,fD f4 x (post.take (i-f4.length-1)) 1101=cs at *;have B:=zA yO r.legs
  (repeat' (first|refine jX ?_|apply yW|apply xI|intro hc|(apply zG;first|(apply yC;refine uU (nw:=[]) (wR true true tok Z Z Z Z Z Z (λh=>by cases h) Z (by intro y z;cases z;rfl) Z Z Z Z (by simp only[gV,zAr,zBg,zA6,zBx,zBr];omega) (λh=>by cases h)) Z Z Z ?_)|refine SL ?_|refine SM ?_)|refine SB ?_|fail))
  refine⟨n-1,zB,i+1,zB,?_⟩;rw[Os zB,e];refine zBb (St.mk _) ?_
  show [(1001,kC [1001,1101] _ (.arr 5 (cs++[zY r]) ⟨true,true⟩)),(1101,qE x)]=_
  rw[C]
 .have C:=λh=>dL h f4 x post true
  rw[show i-f4.length-1=ln post by omega,zAt];generalize fD f4 x post 1101=cs at *;refine WW ?_;refine zP [1001,1101] Z Z Z ?_
  show [(1001,kC [1001,1101] _ (.arr 5 cs ⟨true,true⟩)),(1101,qE x)]=_
  rw[C]
def QT (p:Int×Int):AV:= .agg [iA p.1,iA p.2]
def EK (f3:Int) (g:Lg) (p:Int×Int):Lg:=⟨g.jn,g.ph,f3+p.1,f3+p.2,g.sc⟩
def JP (f3:Int) (g:Lg) (p:Int×Int):Bool:=EL g.jn g.ph p.1 p.2 f3
def AE (gs:List Lg) (w:List (Int×Int)) (f3:Int):Bool:=(gs.zipWith (JP f3) w).all id
def fO (l:List Rq) (id:Int) (w:List (Int×Int)) (f3:Int):Int:=
 if kT l id=true then(if (ln w)=(Kr l id).legs.length/\AE (Kr l id).legs w f3=true then 0 else 8)else 12
def ZS (l:List Rq) (id:Int) (w:List (Int×Int)) (f3:Int):List Rq:=l.map λr=>if r.id=id then⟨r.id,r.vh,r.cls,r.til,r.legs.zipWith (EK f3) w⟩else r
def KB (gs:List Lg) (w:List (Int×Int)) (f3:Int) (i:Nat):List Lg:=(gs.take i).zipWith (EK f3) (w.take i)++gs.drop i
theorem PU (h:ln w=ln gs) (hi:i<=ln gs):(KB gs w f3 i).length=ln gs:=by grind [KB]
theorem Jm (h:ln w=ln gs) (hi:i<ln gs):((KB gs w f3 i).map yO)[i]? =some (yO (gs.getD i dd)):=by grind [KB,yO]
theorem gf (h:ln w=ln gs) (hi:i<ln gs):((KB gs w f3 i).map yO).set i (yO (EK f3 (gs.getD i dd) (w.getD i dd)))=(KB gs w f3 (i+1)).map yO:=by
 unfold KB;have e:((gs.take i).zipWith (EK f3) (w.take i)).length=i:=by rw[List.length_zipWith,zBg,zBg];omega
 rw[<-zCe,zEq _ _ zB,e,zC7,zE1 hi,zFt];rw[zDr,zDr,List.zipWith_append (by rw[zBg,zBg];omega)]
 simp_all [KB,yO,EK]
def Cx (gs:List Lg) (w:List (Int×Int)) (f3:Int):KB gs w f3 0=gs:=by simp[KB]
theorem df (h:ln w=ln gs):KB gs w f3 (ln gs)=gs.zipWith (EK f3) w:=by grind [KB,EK]
theorem af (h:ln w=ln gs) (u:∀i,i<ln gs->JP f3 (gs.getD i dd) (w.getD i dd)=true):AE gs w f3=true:=by grind [JP,AE,List.all_eq_true,List.mem_iff_getElem,List.length_zipWith,List.getD]
theorem Im (h:ln w=ln gs) (hi:i<ln gs) (u:JP f3 (gs.getD i dd) (w.getD i dd)=false):AE gs w f3=false:=by
 unfold AE;rw[zDy];refine⟨JP f3 (gs.getD i dd) (w.getD i dd),?_,by rw[u];decide⟩
 have:(gs.zipWith (JP f3) w)[i]? =some (JP f3 (gs.getD i dd) (w.getD i dd)):=by
  grind
 grind
theorem GQ {id:Int} (hL:l=f4++x::post) (hv:cJ l) (hx:x.id=id):ZS l id w f3=f4++⟨x.id,x.vh,x.cls,x.til,x.legs.zipWith (EK f3) w⟩::post:=by
 have u:=hv.so;rw[hL,zEx,zFs]at u;obtain⟨_,⟨h2,_⟩,z⟩:=u;unfold ZS;rw[hL,zAy,zCb,f5 hx]
 congr 1
 .conv=>rhs;rw[<-List.map_id f4]
  grind [ZS,EK,List.map_congr_left]
 .congr 1
  conv=>rhs;rw[<-List.map_id post]
  grind [ZS,EK,List.map_congr_left]
def pf {h:yS} {b:Bool} (h1:h 1001=some (.arr 5 (fD f4 x post 1101) ⟨b,true⟩)) (h2:h 1101=some (.arr 5 (gs.map yO) false)) (hl:ln gs=ln x.legs):
  wT [] h (.ref 1001 0 (fD f4 x post 1101).length)=zE zY (f4++⟨x.id,x.vh,x.cls,x.til,gs⟩::post):=by
 have e:vK [] h (fD f4 x post 1101)=(f4++⟨x.id,x.vh,x.cls,x.til,gs⟩::post).map zY:=by
  unfold fD;rw[JO,MB,vK,MB,zAy,zCb]
  congr 1
  congr 1
  show AV.agg [iA x.id,iA x.vh,iA x.cls,iA x.til,qZ [] h (.ref 1101 0 (x.legs.map yO).length)]=_
  have z:qZ [] h (.ref 1101 0 (x.legs.map yO).length)=zE yO gs:=by
   simp only[qZ,h2]
   show AV.sl false (((gs.map yO).drop 0).take (x.legs.map yO).length)=_
   rw[zBd,zAr,zA1 (by rw[zAr,hl];exact zAw _)];rfl
  rw[z];rfl
 have u:(fD f4 x post 1101).length=((f4++⟨x.id,x.vh,x.cls,x.til,gs⟩::post).map zY).length:=by rw[gV];simp;omega
 rw[u];simp only[wT,h1]
 show(bif vI (vK [] h (fD f4 x post 1101))then AV.sl false (((vK [] h (fD f4 x post 1101)).drop 0).take _)else .bot)=_
 rw[e,XA,zBd,zAt];rfl
theorem RC {id:Int} (h:kT l id=true):∃f4 x post,l=f4++x::post/\x.id=id/\(∀y∈f4,y.id≠id)/\Kr l id=x/\TF (λr:Rq=>r.id==id) l=(ln f4:Int):=by
 induction l with
 |nil=>cases h
 |cons a l z=>
  by_cases u:a.id=id
  .refine⟨[],a,l,rfl,u,by simp,(uf (f4:=[]) Z zV u).1,PW (f4:=[]) Z zV (by simpa using u)⟩
  all_goals grind [kT,Kr,TF]
theorem Hm (l:List Rq) (id:Int) (w:List (Int×Int)) (f3:Int) (hv:cJ l) (hw:ln w<=1000) (n0:0<=f3) (n1:f3<=1073741824):
  zN 310 [zE zY l,iA id,zE QT w,iA f3] [] (.tup [zE zY (if fO l id w f3=0 then ZS l id w f3 else []),iA (fO l id w f3)]) []:=by
 have h4:=hv.n4;have av:=zA QT w;have Y:=TK l 4 hv zB;have W:=Qf f3;have I:=MD l id zB;rw[zAu ⟨n0,n1⟩]at W
 cases hh:kT l id with
 |false=>
  have hx:=bS (p:=λx:Rq=>x.id==id) (l:=l) (by simpa [kT]using hh);rw[hx]at I;have e:fO l id w f3=12:=Os CE;rw[e,Os yY];refine eM call310 λF hF=>?_
  exact mx (qM Y W I)
 |true=>
 obtain⟨f4,x,post,hL,hx,_,hf,M⟩:=RC hh;rw[M]at I;have E:=GQ (w:=w) (f3:=f3) hL hv hx
 have A:fO l id w f3=if (ln w)=ln x.legs/\AE x.legs w f3=true then 0 else 8:=by unfold fO;rw[f5 hh,hf]
 have ag:ln l=ln f4+1+ln post:=by rw[hL];simp;omega
 have az:=hv.lg3 (r:=x) CF;have c4:=AD f4 x post l hL zB (λr hr=>by have:=hv.lg3 hr;omega);have ar:=gV f4 x post 1101;have L:=λh=>dL h f4 x post true
 have ap:(fD f4 x post 1101)[((ln f4:Int)).toNat]? =some (wF x 1101):=by unfold fD;simp
 have z:=λh gs=>pf (h:=h) (f4:=f4) (post:=post) (x:=x) (b:=true) (gs:=gs)
 have ax:=zA yO x.legs;generalize fD f4 x post 1101=cs at *;clear hL hv M hf hh hx;by_cases u:ln w=ln x.legs
 case neg=>
  rw[Os (λh=>u h.1)]at A;rw[A,Os yY];refine eM call310 λF hF=>?_
  exact mx (cD Y W I c4)
 refine eM call310 λF hF=>?_
 refine yG (cD Y W I c4) ?_;refine wP (λn st=>∃i,n+i=ln x.legs/\(∀j,j<i->JP f3 (x.legs.getD j dd) (w.getD j dd)=true)/\st=(⟨[(44,iA i),(3,iA f3),(11,.ref 1001 0 (ln cs)),(12,.ref 1101 0 (x.legs.map yO).length),(42,zE QT w),(43,iA (w.map QT).length)],[(1001,.arr 5 cs ⟨true,true⟩),(1101,.arr 5 ((KB x.legs w f3 i).map yO) false)]⟩:St)) (ln x.legs) [1001,1101] [44,3,11,12,42,43] Z ⟨0,zB,λj hj=>absurd hj (zCm _),?_⟩ ?_
 .rw[Cx];refine zBb (St.mk _) ?_
  show [(1001,kC [1001,1101] _ (.arr 5 cs ⟨true,true⟩)),(1101,qE x)]=_
  rw[L];rfl
 rintro n st ⟨i,hi,hok,rfl⟩;by_cases B:i<ln x.legs
 .have C:=PU (i:=i) (f3:=f3) u zB;have au:=zA yO (KB x.legs w f3 i);have a1:=zJ QT w i zB;have hy:=Jm (f3:=f3) u B;have U:=gf (f3:=f3) u B;have G:=Vf (x.legs.getD i dd).jn (x.legs.getD i dd).ph (w.getD i dd).1 (w.getD i dd).2 f3
  cases hb:JP f3 (x.legs.getD i dd) (w.getD i dd)with
  |false=>
   have O:=Im u B hb;rw[Os (λh=>by rw[O]at h;cases h.2)]at A;rw[A,Os yY];unfold JP at hb;unfold GV at G;rw[hb,Os zA7,Os zA7]at G;clear hok z E O U;generalize x.legs.getD i dd=g,w.getD i dd=q,(KB x.legs w f3 i).map yO=ys at *;exact ng G
  | true=>
   have R:∀j,j<i+1->JP f3 (x.legs.getD j dd) (w.getD j dd)=true:=λj hj=>by
    by_cases ac:j=i
    .rw[ac];exact hb
    .exact hok j zB
   unfold JP at hb;unfold GV at G;rw[hb,f5 Z,f5 Z]at G;have S:∀y:AV,(((KB x.legs w f3 i).map yO).set i y)[i]? =some y:=λy=>zBs zB
   clear hok z E A hb;generalize x.legs.getD i dd=g,w.getD i dd=q,(KB x.legs w f3 i).map yO=ys at *
   (have ga:=G;(repeat' (first|refine WTR ?_|apply yW|apply xI|intro hc|(apply zG;first|(apply dX;refine Cc tok Z Z Z (S _) Z Z Z Z Z Z Z Z ?_)|refine SM ?_)|refine SB ?_|fail))<;>clear ga)
   refine⟨n-1,zB,i+1,zB,R,?_⟩;refine zBb (St.mk _) ?_
   show [(1001,kC [1001,1101] _ (.arr 5 cs ⟨true,true⟩)),(1101,.arr 5 ((ys.set i _).set i (yO (EK f3 g q))) false)]=_
   rw[L,zE2,U]
 .obtain rfl:i=ln x.legs:=by omega
  have C:=PU (i:=ln x.legs) (f3:=f3) u (zAw _);have V:=af u hok;rw[f5 ⟨u,V⟩]at A;rw[A,f5 Z,E];rw[df u]at C⊢;generalize x.legs.zipWith (EK f3) w=gs at *;refine WW ?_;refine zH [] Z Z ?_ Z
  show AV.tup [ZC (wT [] _ (.ref 1001 0 (ln cs))),iA 0]=_
  rw[z _ gs Z Z C];rfl
theorem Gm (K:List Nat) (z:K.contains 1101=true) (h:yS) (f4:List Rq) (x:Rq) (post:List Rq) (b:Bool):kC K h (.arr 5 (fD f4 x post 1101) ⟨b,true⟩)= .arr 5 (fD f4 x post 1101) ⟨b,true⟩:=by
 have u:wT K h (wF x 1101)=wF x 1101:=by
  show AV.agg [_,_,_,_,bif K.contains 1101 then .ref 1101 0 (x.legs.map yO).length else _]=_
  rw[z];rfl
 have e:kO K h (fD f4 x post 1101)=fD f4 x post 1101:=by
  unfold fD;rw[MA,TB,kO,TB,u]
 have A:vI (fD f4 x post 1101)=false:=by
  unfold fD;rw[VK,XA,vI];rfl
 simp_all [yS,kC,fD]
theorem Lh (l:List Rq) (id:Int) (w:List (Int×Int)) (f3:Int) (hv:cJ l) (hw:ln w<=1000) (n0:0<=f3) (n1:f3<=1073741824):
  zN 294 [zE zY l,iA id,zE QT w,iA f3] [] (.tup [zE zY (if fO l id w f3=0 then ZS l id w f3 else []),iA (fO l id w f3)]) []:=by
 have h4:=hv.n4;have av:=zA QT w;have c1:=XG l 4 hv zB;have c2:=wQ f3 0 1073741824;rw[zAu ⟨n0,n1⟩]at c2
 cases hh:kT l id with
 | false=>
  have c3:=fZ l zB (λr hr=>by have:=hv.lg3 hr;omega);have e:fO l id w f3=12:=Os CE;have C:∀r∈l,r.id≠id:=by simpa [kT]using hh
  have hl:=zA zY l;rw[e,Os yY];clear hh e;refine eM call294 λF hF=>?_
  refine yG (qM c1 c2 c3) ?_;refine zO (ln l) [] [] [1,2,3,10,27,28] [29,1,2,3,10,27,28] Z (λi T U=>⟨(29,iA i)::T,U⟩) (Lq ?_ ?_)
  .intro i hi;have hy:=zJ zY l i hi;have hm:=C (l.getD i dd) (by simp[pb,hi]);generalize l.getD i dd=r at *;refine WW ?_;rfl
  .exact ly
 |true=>
 obtain⟨f4,x,post,hL,hx,V,hf,_⟩:=RC hh;have M:=GQ (w:=w) (f3:=f3) hL hv hx
 have G:fO l id w f3=if (ln w)=ln x.legs/\AE x.legs w f3=true then 0 else 8:=by unfold fO;rw[f5 hh,hf]
 have ap:ln l=ln f4+1+ln post:=by rw[hL];simp;omega
 have az:=hv.lg3 (r:=x) CF;have c4:=Zu f4 x post l hL zB (λr hr=>by have:=hv.lg3 hr;omega);have ar:=gV f4 x post 1101;have I:=λh=>dL h f4 x post true
 have E:=λh=>Gm [12,1001,1101] Z h f4 x post true
 have R:(fD f4 x post 1101)[ln f4]? =some (wF x 1101):=by unfold fD;simp
 have A:∀i,i<ln f4->∃r:Rq,r.id≠id/\(fD f4 x post 1101)[i]? =some (zY r):=λi hi=>by
  refine⟨f4[i],V _ (zEl hi),?_⟩;unfold fD;rw[zBp DY];simp[hi]
 have z:=λh gs=>pf (h:=h) (f4:=f4) (post:=post) (x:=x) (b:=true) (gs:=gs)
 have ax:=zA yO x.legs;generalize fD f4 x post 1101=cs at *;clear hL hv hf hh V;refine eM call294 λF hF=>?_
 refine yG (qM c1 c2 c4) ?_;refine wP (λn st=>∃i,n+i=ln f4/\st=(⟨[(29,iA i),(1,iA id),(2,zE QT w),(3,iA f3),(10,.ref 1001 0 (ln cs)),(27,.ref 1001 0 (ln cs)),(28,iA (ln cs))],[(1001,.arr 5 cs ⟨true,true⟩),(1101,qE x)]⟩:St)) (ln f4) [1001,1101] [29,1,2,3,10,27,28] Z ⟨0,zB,?_⟩ ?_
 .refine zBb (St.mk _) ?_
  show [(1001,kC [1001,1101] _ (.arr 5 cs ⟨true,true⟩)),(1101,qE x)]=_
  rw[I]
 rintro n st ⟨i,hi,rfl⟩;by_cases B:i<ln f4
 .obtain⟨r,hr,hy⟩:=A i B;clear z A R;refine WW ?_;refine⟨n-1,zB,i+1,zB,?_⟩;refine zBb (St.mk _) ?_
  show [(1001,kC [1001,1101] _ (.arr 5 cs ⟨true,true⟩)),(1101,qE x)]=_
  rw[I]
 obtain rfl:i=ln f4:=by omega
 clear A I hi;have ag:cs[((ln f4:Int)).toNat]? =some (wF x 1101):=R;by_cases u:ln w=ln x.legs
 case neg=>
  rw[Os (λh=>u h.1)]at G;rw[G,Os yY];clear z;exact ly
 refine WW ?_;refine wP (λn st=>∃i,n+i=ln x.legs/\(∀j,j<i->JP f3 (x.legs.getD j dd) (w.getD j dd)=true)/\st=(⟨[(46,iA i),(3,iA f3),(10,.ref 1001 0 (ln cs)),(11,iA (ln f4)),(12,.ptr 12 0 0),(44,zE QT w),(45,iA (w.map QT).length)],[(12,.box [iA x.id,iA x.vh,iA x.cls,iA x.til,.ref 1101 0 (x.legs.map yO).length]),(1001,.arr 5 cs ⟨true,true⟩),(1101,.arr 5 ((KB x.legs w f3 i).map yO) false)]⟩:St)) (ln x.legs) [12,1001,1101] [46,3,10,11,12,44,45] Z ⟨0,zB,λj hj=>absurd hj (zCm _),?_⟩ ?_
 .rw[Cx];refine zBb (St.mk _) ?_
  show [(12,.box [iA x.id,iA x.vh,iA x.cls,iA x.til,.ref 1101 0 (x.legs.map yO).length]),(1001,kC [12,1001,1101] _ (.arr 5 cs ⟨true,true⟩)),(1101,qE x)]=_
  rw[E];rfl
 rintro n st ⟨i,hi,hok,rfl⟩;by_cases B:i<ln x.legs
 .have L:=PU (i:=i) (f3:=f3) u zB;have au:=zA yO (KB x.legs w f3 i);have a1:=zJ QT w i zB;have hy:=Jm (f3:=f3) u B;have W:=gf (f3:=f3) u B;have O:=AK (x.legs.getD i dd).jn (x.legs.getD i dd).ph (w.getD i dd).1 (w.getD i dd).2 f3
  cases hb:JP f3 (x.legs.getD i dd) (w.getD i dd)with
  |false=>
   have C:=Im u B hb;rw[Os (λh=>by rw[C]at h;cases h.2)]at G;rw[G,Os yY];unfold JP at hb;unfold GV at O;rw[hb,Os zA7,Os zA7]at O;clear hok z M C W;generalize x.legs.getD i dd=g,w.getD i dd=q,(KB x.legs w f3 i).map yO=ys at *;exact ng O
  | true=>
   have S:∀j,j<i+1->JP f3 (x.legs.getD j dd) (w.getD j dd)=true:=λj hj=>by
    by_cases ac:j=i
    .rw[ac];exact hb
    .exact hok j zB
   unfold JP at hb;unfold GV at O;rw[hb,f5 Z,f5 Z]at O;clear hok z M G hb;generalize x.legs.getD i dd=g,w.getD i dd=q,(KB x.legs w f3 i).map yO=ys at *;refine zS O ?_;refine⟨n-1,zB,i+1,zB,S,?_⟩;refine zBb (St.mk _) ?_
   show [(12,.box [iA x.id,iA x.vh,iA x.cls,iA x.til,.ref 1101 0 (x.legs.map yO).length]),(1001,kC [12,1001,1101] _ (.arr 5 cs ⟨true,true⟩)),(1101,.arr 5 (ys.set i (yO (EK f3 g q))) false)]=_
   rw[E,W]
 .obtain rfl:i=ln x.legs:=by omega
  have L:=PU (i:=ln x.legs) (f3:=f3) u (zAw _);have Y:=af u hok;rw[f5 ⟨u,Y⟩]at G;rw[G,f5 Z,M];rw[df u]at L⊢;generalize x.legs.zipWith (EK f3) w=gs at *;refine WW ?_;refine zH [] Z Z ?_ Z
  show AV.tup [ZC (wT [] _ (.ref 1001 0 (ln cs))),iA 0]=_
  rw[z _ gs Z Z L];rfl
