/- Part 8. -/
import Derived.Test.YtaglbcjljlkjcaaGreatX07
namespace Go.Proofs.YtaglbcjljlkjcaaGreat.Av
open Tryz
set_option linter.all false
set_option maxRecDepth 4000
set_option maxHeartbeats 4000000
open List renaming length->ln,take->pb,drop->pi
open Inhabited renaming default->dd
def mkR (f3:Int) (r:Rq):Rq:=⟨r.id,r.vh,r.cls,r.til,r.legs.map λg=>fE g f3⟩
def DA (l:List Rq) (f3:Int):List Rq:=l.map (mkR f3)
def qK (l:List Lg) (f3:Int) (k:Nat):List Lg:=(l.take k).map (λg=>fE g f3)++l.drop k
def cZ (l:List Lg) (f3:Int):qK l f3 (ln l)=l.map λg=>fE g f3:=by simp[qK]
def uL (l:List Lg) (f3:Int) (k:Nat):(qK l f3 k).length=ln l:=by simp[qK];omega
def qW {l f4 post:List Lg} {g:Lg} {k:Nat} (f3:Int) (u:l=f4++g::post) (hk:ln f4=k):((qK l f3 k).map yO)[k]? =some (yO g):=by grind [qK,yO]
def uM {l f4 post:List Lg} {g:Lg} {k:Nat} (f3:Int) (u:l=f4++g::post) (hk:ln f4=k):(qK l f3 (k+1)).map yO=((qK l f3 k).map yO).set k (yO (fE g f3)):=by
 subst u hk;have e1:(f4++g::post).take (ln f4+1)=f4++[g]:=by rw[List.take_append,zBf zB];simp
 simp_all [qK,yO,fE]
def Ry (l:List Lg) (f3:Int):pb (l.map yO).length (pi 0 ((l.map λg=>fE g f3).map yO))=(l.map λg=>fE g f3).map yO:=by
 rw[zBr];exact zBf zV
def vZ (r:Rq) (f3:Int) (k:Nat):xV:= .arr 5 ((qK r.legs f3 k).map yO) false
def uv (a:Rq) (E:1<=ln a.legs) (C:ln a.legs<=1000) (f3:Int):zO 177 [zE zY [a],iA f3] [] (zE zY (DA [a] f3)) []:=by
 have L:=AW a E C;have R:=zA yO a.legs;refine eM call177 λF hF=>?_
 refine zS L ?_;refine wC 2 [1001,1101] [13,11,12,1,5] Z ?_;refine yD (st0:=⟨[(13,iA 0),(11,.ref 1001 0 1),(12,iA 1),(1,iA f3),(5,.ref 1001 0 1)],[(1001,.arr 5 [wG a 1101] ⟨false,true⟩),(1101,vZ a f3 0)]⟩) Z ?_;unfold vZ;refine WW ?_;refine zU (a.legs) [1101,7,1001] [7,1001] [1,5,7,11,12,13,19] [20,1,5,7,11,12,13,19] Z (λi f4 T U=>⟨(20,iA i)::T,(1101,.arr 5 ((qK a.legs f3 i).map yO) false)::U⟩) (Lq ?_ ?_)
 .intro k f4 g post u hk;have G:=zW u hk;have O:=qW f3 u hk;have z:=uM f3 u hk;have I:((qK a.legs f3 k).map yO).length=ln a.legs:=by rw[zA6,uL]
  have A:∀y:AV,(((qK a.legs f3 k).map yO).set k y)[k]? =some y:=λy=>zB7 zB
  have B:=eE g f3;rw[z];clear u z;generalize (qK a.legs f3 k).map yO=ys,fE g f3=M at *
  (have ga:=B;(repeat' (first|refine uT ?_|apply yW|apply xH|intro hc|fail))<;>clear ga)
  rfl
 refine WW ?_;refine yD (st0:=⟨[(13,iA 1),(11,.ref 1001 0 1),(12,iA 1),(1,iA f3),(5,.ref 1001 0 1)],[(1001,.arr 5 [wG a 1101] ⟨false,true⟩),(1101,vZ a f3 (ln a.legs))]⟩) Z ?_;unfold vZ;simp only[cZ];refine WW ?_;refine zI [] Z Z ?_ Z
 show AV.sl false [.agg [iA a.id,iA a.vh,iA a.cls,iA a.til,.sl false (pb (a.legs.map yO).length (pi 0 ((a.legs.map λg=>fE g f3).map yO)))]]=_
 simp only[Ry];rfl
theorem qv (a b:Rq) (M:1<=ln a.legs) (I:ln a.legs<=1000) (hb:1<=ln b.legs) (L:ln b.legs<=1000) (f3:Int):zO 177 [zE zY [a,b],iA f3] [] (zE zY (DA [a,b] f3)) []:=by
 have R:=AX a b M I hb L;have S:=zA yO a.legs;have V:=zA yO b.legs;refine eM call177 λF hF=>?_
 refine zS R ?_;refine wC 3 [1001,1101,1102] [13,11,12,1,5] Z ?_;refine yD (st0:=⟨[(13,iA 0),(11,.ref 1001 0 2),(12,iA 2),(1,iA f3),(5,.ref 1001 0 2)],[(1001,.arr 5 [wG a 1101,wG b 1102] ⟨true,true⟩),(1101,vZ a f3 0),(1102,vZ b f3 0)]⟩) Z ?_;unfold vZ;refine WW ?_;refine zU (a.legs) [1101,7,1001,1102] [7,1001,1102] [1,5,7,11,12,13,19] [20,1,5,7,11,12,13,19] Z (λi f4 T U=>⟨(20,iA i)::T,(1101,.arr 5 ((qK a.legs f3 i).map yO) false)::U⟩) (Lq ?_ ?_)
 .intro k f4 g post u hk;have C:=zW u hk;have O:=qW f3 u hk;have z:=uM f3 u hk;have E:((qK a.legs f3 k).map yO).length=ln a.legs:=by rw[zA6,uL]
  have A:∀y:AV,(((qK a.legs f3 k).map yO).set k y)[k]? =some y:=λy=>zB7 zB
  have B:=eE g f3;rw[z];clear u z;generalize (qK a.legs f3 k).map yO=ys,fE g f3=G at *
  (have ga:=B;(repeat' (first|refine uT ?_|apply yW|apply xH|intro hc|fail))<;>clear ga)
  rfl
 refine WW ?_;refine yD (st0:=⟨[(13,iA 1),(11,.ref 1001 0 2),(12,iA 2),(1,iA f3),(5,.ref 1001 0 2)],[(1001,.arr 5 [wG a 1101,wG b 1102] ⟨true,true⟩),(1101,vZ a f3 (ln a.legs)),(1102,vZ b f3 0)]⟩) Z ?_;unfold vZ;refine WW ?_;refine zU (b.legs) [1102,7,1001,1101] [7,1001,1101] [1,5,7,11,12,13,19] [20,1,5,7,11,12,13,19] Z (λi f4 T U=>⟨(20,iA i)::T,(1102,.arr 5 ((qK b.legs f3 i).map yO) false)::U⟩) (Lq ?_ ?_)
 .intro k f4 g post u hk;have C:=zW u hk;have O:=qW f3 u hk;have z:=uM f3 u hk;have E:((qK b.legs f3 k).map yO).length=ln b.legs:=by rw[zA6,uL]
  have A:∀y:AV,(((qK b.legs f3 k).map yO).set k y)[k]? =some y:=λy=>zB7 zB
  have B:=eE g f3;rw[z];clear u z;generalize (qK b.legs f3 k).map yO=ys,fE g f3=G at *
  (have ga:=B;(repeat' (first|refine uT ?_|apply yW|apply xH|intro hc|fail))<;>clear ga)
  rfl
 refine WW ?_;refine yD (st0:=⟨[(13,iA 2),(11,.ref 1001 0 2),(12,iA 2),(1,iA f3),(5,.ref 1001 0 2)],[(1001,.arr 5 [wG a 1101,wG b 1102] ⟨true,true⟩),(1101,vZ a f3 (ln a.legs)),(1102,vZ b f3 (ln b.legs))]⟩) Z ?_;unfold vZ;simp only[cZ];refine WW ?_;refine zI [] Z Z ?_ Z
 show AV.sl false [.agg [iA a.id,iA a.vh,iA a.cls,iA a.til,.sl false (pb (a.legs.map yO).length (pi 0 ((a.legs.map λg=>fE g f3).map yO)))],.agg [iA b.id,iA b.vh,iA b.cls,iA b.til,.sl false (pb (b.legs.map yO).length (pi 0 ((b.legs.map λg=>fE g f3).map yO)))]]=_
 simp only[Ry];rfl
theorem dv (a b c:Rq) (O:1<=ln a.legs) (L:ln a.legs<=1000) (hb:1<=ln b.legs) (M:ln b.legs<=1000) (hc:1<=ln c.legs) (gc:ln c.legs<=1000) (f3:Int):zO 177 [zE zY [a,b,c],iA f3] [] (zE zY (DA [a,b,c] f3)) []:=by
 have R:=AY a b c O L hb M hc gc;have S:=zA yO a.legs;have V:=zA yO b.legs;have W:=zA yO c.legs;refine eM call177 λF hF=>?_
 refine zS R ?_;refine wC 4 [1001,1101,1102,1103] [13,11,12,1,5] Z ?_;refine yD (st0:=⟨[(13,iA 0),(11,.ref 1001 0 3),(12,iA 3),(1,iA f3),(5,.ref 1001 0 3)],[(1001,.arr 5 [wG a 1101,wG b 1102,wG c 1103] ⟨true,true⟩),(1101,vZ a f3 0),(1102,vZ b f3 0),(1103,vZ c f3 0)]⟩) Z ?_;unfold vZ;refine WW ?_;refine zU (a.legs) [1101,7,1001,1102,1103] [7,1001,1102,1103] [1,5,7,11,12,13,19] [20,1,5,7,11,12,13,19] Z (λi f4 T U=>⟨(20,iA i)::T,(1101,.arr 5 ((qK a.legs f3 i).map yO) false)::U⟩) (Lq ?_ ?_)
 .intro k f4 g post u hk;have C:=zW u hk;have I:=qW f3 u hk;have z:=uM f3 u hk;have E:((qK a.legs f3 k).map yO).length=ln a.legs:=by rw[zA6,uL]
  have A:∀y:AV,(((qK a.legs f3 k).map yO).set k y)[k]? =some y:=λy=>zB7 zB
  have B:=eE g f3;rw[z];clear u z;generalize (qK a.legs f3 k).map yO=ys,fE g f3=G at *
  (have ga:=B;(repeat' (first|refine uT ?_|apply yW|apply xH|intro hc|fail))<;>clear ga)
  rfl
 refine WW ?_;refine yD (st0:=⟨[(13,iA 1),(11,.ref 1001 0 3),(12,iA 3),(1,iA f3),(5,.ref 1001 0 3)],[(1001,.arr 5 [wG a 1101,wG b 1102,wG c 1103] ⟨true,true⟩),(1101,vZ a f3 (ln a.legs)),(1102,vZ b f3 0),(1103,vZ c f3 0)]⟩) Z ?_;unfold vZ;refine WW ?_;refine zU (b.legs) [1102,7,1001,1101,1103] [7,1001,1101,1103] [1,5,7,11,12,13,19] [20,1,5,7,11,12,13,19] Z (λi f4 T U=>⟨(20,iA i)::T,(1102,.arr 5 ((qK b.legs f3 i).map yO) false)::U⟩) (Lq ?_ ?_)
 .intro k f4 g post u hk;have C:=zW u hk;have I:=qW f3 u hk;have z:=uM f3 u hk;have E:((qK b.legs f3 k).map yO).length=ln b.legs:=by rw[zA6,uL]
  have A:∀y:AV,(((qK b.legs f3 k).map yO).set k y)[k]? =some y:=λy=>zB7 zB
  have B:=eE g f3;rw[z];clear u z;generalize (qK b.legs f3 k).map yO=ys,fE g f3=G at *
  (have ga:=B;(repeat' (first|refine uT ?_|apply yW|apply xH|intro hc|fail))<;>clear ga)
  rfl
 refine WW ?_;refine yD (st0:=⟨[(13,iA 2),(11,.ref 1001 0 3),(12,iA 3),(1,iA f3),(5,.ref 1001 0 3)],[(1001,.arr 5 [wG a 1101,wG b 1102,wG c 1103] ⟨true,true⟩),(1101,vZ a f3 (ln a.legs)),(1102,vZ b f3 (ln b.legs)),(1103,vZ c f3 0)]⟩) Z ?_;unfold vZ;refine WW ?_;refine zU (c.legs) [1103,7,1001,1101,1102] [7,1001,1101,1102] [1,5,7,11,12,13,19] [20,1,5,7,11,12,13,19] Z (λi f4 T U=>⟨(20,iA i)::T,(1103,.arr 5 ((qK c.legs f3 i).map yO) false)::U⟩) (Lq ?_ ?_)
 .intro k f4 g post u hk;have C:=zW u hk;have I:=qW f3 u hk;have z:=uM f3 u hk;have E:((qK c.legs f3 k).map yO).length=ln c.legs:=by rw[zA6,uL]
  have A:∀y:AV,(((qK c.legs f3 k).map yO).set k y)[k]? =some y:=λy=>zB7 zB
  have B:=eE g f3;rw[z];clear u z;generalize (qK c.legs f3 k).map yO=ys,fE g f3=G at *
  (have ga:=B;(repeat' (first|refine uT ?_|apply yW|apply xH|intro hc|fail))<;>clear ga)
  rfl
 refine WW ?_;refine yD (st0:=⟨[(13,iA 3),(11,.ref 1001 0 3),(12,iA 3),(1,iA f3),(5,.ref 1001 0 3)],[(1001,.arr 5 [wG a 1101,wG b 1102,wG c 1103] ⟨true,true⟩),(1101,vZ a f3 (ln a.legs)),(1102,vZ b f3 (ln b.legs)),(1103,vZ c f3 (ln c.legs))]⟩) Z ?_;unfold vZ;simp only[cZ];refine WW ?_;refine zI [] Z Z ?_ Z
 show AV.sl false [.agg [iA a.id,iA a.vh,iA a.cls,iA a.til,.sl false (pb (a.legs.map yO).length (pi 0 ((a.legs.map λg=>fE g f3).map yO)))],.agg [iA b.id,iA b.vh,iA b.cls,iA b.til,.sl false (pb (b.legs.map yO).length (pi 0 ((b.legs.map λg=>fE g f3).map yO)))],.agg [iA c.id,iA c.vh,iA c.cls,iA c.til,.sl false (pb (c.legs.map yO).length (pi 0 ((c.legs.map λg=>fE g f3).map yO)))]]=_
 simp only[Ry];rfl
theorem bv (a b c d:Rq) (R:1<=ln a.legs) (L:ln a.legs<=1000) (hb:1<=ln b.legs) (M:ln b.legs<=1000) (hc:1<=ln c.legs) (gc:ln c.legs<=1000) (hd:1<=ln d.legs) (O:ln d.legs<=1000) (f3:Int):zO 177 [zE zY [a,b,c,d],iA f3] [] (zE zY (DA [a,b,c,d] f3)) []:=by
 have S:=AZ a b c d R L hb M hc gc hd O;have V:=zA yO a.legs;have W:=zA yO b.legs;have Y:=zA yO c.legs;have ld:=zA yO d.legs;refine eM call177 λF hF=>?_
 refine zS S ?_;refine wC 5 [1001,1101,1102,1103,1104] [13,11,12,1,5] Z ?_;refine yD (st0:=⟨[(13,iA 0),(11,.ref 1001 0 4),(12,iA 4),(1,iA f3),(5,.ref 1001 0 4)],[(1001,.arr 5 [wG a 1101,wG b 1102,wG c 1103,wG d 1104] ⟨true,true⟩),(1101,vZ a f3 0),(1102,vZ b f3 0),(1103,vZ c f3 0),(1104,vZ d f3 0)]⟩) Z ?_;unfold vZ;refine WW ?_;refine zU (a.legs) [1101,7,1001,1102,1103,1104] [7,1001,1102,1103,1104] [1,5,7,11,12,13,19] [20,1,5,7,11,12,13,19] Z (λi f4 T U=>⟨(20,iA i)::T,(1101,.arr 5 ((qK a.legs f3 i).map yO) false)::U⟩) (Lq ?_ ?_)
 .intro k f4 g post u hk;have C:=zW u hk;have I:=qW f3 u hk;have z:=uM f3 u hk;have E:((qK a.legs f3 k).map yO).length=ln a.legs:=by rw[zA6,uL]
  have A:∀y:AV,(((qK a.legs f3 k).map yO).set k y)[k]? =some y:=λy=>zB7 zB
  have B:=eE g f3;rw[z];clear u z;generalize (qK a.legs f3 k).map yO=ys,fE g f3=G at *
  (have ga:=B;(repeat' (first|refine uT ?_|apply yW|apply xH|intro hc|fail))<;>clear ga)
  rfl
 refine WW ?_;refine yD (st0:=⟨[(13,iA 1),(11,.ref 1001 0 4),(12,iA 4),(1,iA f3),(5,.ref 1001 0 4)],[(1001,.arr 5 [wG a 1101,wG b 1102,wG c 1103,wG d 1104] ⟨true,true⟩),(1101,vZ a f3 (ln a.legs)),(1102,vZ b f3 0),(1103,vZ c f3 0),(1104,vZ d f3 0)]⟩) Z ?_;unfold vZ;refine WW ?_;refine zU (b.legs) [1102,7,1001,1101,1103,1104] [7,1001,1101,1103,1104] [1,5,7,11,12,13,19] [20,1,5,7,11,12,13,19] Z (λi f4 T U=>⟨(20,iA i)::T,(1102,.arr 5 ((qK b.legs f3 i).map yO) false)::U⟩) (Lq ?_ ?_)
 .intro k f4 g post u hk;have C:=zW u hk;have I:=qW f3 u hk;have z:=uM f3 u hk;have E:((qK b.legs f3 k).map yO).length=ln b.legs:=by rw[zA6,uL]
  have A:∀y:AV,(((qK b.legs f3 k).map yO).set k y)[k]? =some y:=λy=>zB7 zB
  have B:=eE g f3;rw[z];clear u z;generalize (qK b.legs f3 k).map yO=ys,fE g f3=G at *
  (have ga:=B;(repeat' (first|refine uT ?_|apply yW|apply xH|intro hc|fail))<;>clear ga)
  rfl
 refine WW ?_;refine yD (st0:=⟨[(13,iA 2),(11,.ref 1001 0 4),(12,iA 4),(1,iA f3),(5,.ref 1001 0 4)],[(1001,.arr 5 [wG a 1101,wG b 1102,wG c 1103,wG d 1104] ⟨true,true⟩),(1101,vZ a f3 (ln a.legs)),(1102,vZ b f3 (ln b.legs)),(1103,vZ c f3 0),(1104,vZ d f3 0)]⟩) Z ?_;unfold vZ;refine WW ?_;refine zU (c.legs) [1103,7,1001,1101,1102,1104] [7,1001,1101,1102,1104] [1,5,7,11,12,13,19] [20,1,5,7,11,12,13,19] Z (λi f4 T U=>⟨(20,iA i)::T,(1103,.arr 5 ((qK c.legs f3 i).map yO) false)::U⟩) (Lq ?_ ?_)
 .intro k f4 g post u hk;have C:=zW u hk;have I:=qW f3 u hk;have z:=uM f3 u hk;have E:((qK c.legs f3 k).map yO).length=ln c.legs:=by rw[zA6,uL]
  have A:∀y:AV,(((qK c.legs f3 k).map yO).set k y)[k]? =some y:=λy=>zB7 zB
  have B:=eE g f3;rw[z];clear u z;generalize (qK c.legs f3 k).map yO=ys,fE g f3=G at *
  (have ga:=B;(repeat' (first|refine uT ?_|apply yW|apply xH|intro hc|fail))<;>clear ga)
  rfl
 refine WW ?_;refine yD (st0:=⟨[(13,iA 3),(11,.ref 1001 0 4),(12,iA 4),(1,iA f3),(5,.ref 1001 0 4)],[(1001,.arr 5 [wG a 1101,wG b 1102,wG c 1103,wG d 1104] ⟨true,true⟩),(1101,vZ a f3 (ln a.legs)),(1102,vZ b f3 (ln b.legs)),(1103,vZ c f3 (ln c.legs)),(1104,vZ d f3 0)]⟩) Z ?_;unfold vZ;refine WW ?_;refine zU (d.legs) [1104,7,1001,1101,1102,1103] [7,1001,1101,1102,1103] [1,5,7,11,12,13,19] [20,1,5,7,11,12,13,19] Z (λi f4 T U=>⟨(20,iA i)::T,(1104,.arr 5 ((qK d.legs f3 i).map yO) false)::U⟩) (Lq ?_ ?_)
 .intro k f4 g post u hk;have C:=zW u hk;have I:=qW f3 u hk;have z:=uM f3 u hk;have E:((qK d.legs f3 k).map yO).length=ln d.legs:=by rw[zA6,uL]
  have A:∀y:AV,(((qK d.legs f3 k).map yO).set k y)[k]? =some y:=λy=>zB7 zB
  have B:=eE g f3;rw[z];clear u z;generalize (qK d.legs f3 k).map yO=ys,fE g f3=G at *
  (have ga:=B;(repeat' (first|refine uT ?_|apply yW|apply xH|intro hc|fail))<;>clear ga)
  rfl
 refine WW ?_;refine yD (st0:=⟨[(13,iA 4),(11,.ref 1001 0 4),(12,iA 4),(1,iA f3),(5,.ref 1001 0 4)],[(1001,.arr 5 [wG a 1101,wG b 1102,wG c 1103,wG d 1104] ⟨true,true⟩),(1101,vZ a f3 (ln a.legs)),(1102,vZ b f3 (ln b.legs)),(1103,vZ c f3 (ln c.legs)),(1104,vZ d f3 (ln d.legs))]⟩) Z ?_;unfold vZ;simp only[cZ];refine WW ?_;refine zI [] Z Z ?_ Z
 show AV.sl false [.agg [iA a.id,iA a.vh,iA a.cls,iA a.til,.sl false (pb (a.legs.map yO).length (pi 0 ((a.legs.map λg=>fE g f3).map yO)))],.agg [iA b.id,iA b.vh,iA b.cls,iA b.til,.sl false (pb (b.legs.map yO).length (pi 0 ((b.legs.map λg=>fE g f3).map yO)))],.agg [iA c.id,iA c.vh,iA c.cls,iA c.til,.sl false (pb (c.legs.map yO).length (pi 0 ((c.legs.map λg=>fE g f3).map yO)))],.agg [iA d.id,iA d.vh,iA d.cls,iA d.til,.sl false (pb (d.legs.map yO).length (pi 0 ((d.legs.map λg=>fE g f3).map yO)))]]=_
 simp only[Ry];rfl
def Qo (a:Rq) (A:1<=ln a.legs) (z:ln a.legs<=1000):zO 187 [zE zY [a]] [] (.ref 1001 0 1) [(1001,.arr 5 [wG a 1101] ⟨false,true⟩),(1101,qG a)]:=by
 have B:=zA yO a.legs;refine eM call187 λF hF=>?_
 refine WW ?_;refine zQ 3 1001 5 Z Z Z ?_;refine wC 2 [1001,1101] [3,8,6,7] Z ?_;refine yD (st0:=⟨[(3,.ref 1001 0 0),(8,iA 0),(6,.sl false [zY a]),(7,iA 1)],[(1001,.arr 5 [] ⟨true,false⟩)]⟩) Z ?_
 (repeat' (first|refine jX ?_|apply yW|apply xH|intro hc|(apply zG;first|(apply yE;refine xE 1101 tok Z Z Z Z Z Z (yM _ _ (λ_=>rfl)) Z Z Z zB Z Z Z ?_)|(apply yI;refine qF (xs:=[_]) 1002 tok Z Z Z Z Z Z Z Z Z Z Z Z ?_)|(apply yE;first|refine xZ tok Z Z Z Z Z Z Z (by intro y u;cases u;rfl) Z Z Z zV Z ?_|refine wN tok Z Z Z Z Z Z Z Z Z Z Z (by intro y u;cases u;rfl) zV Z ?_))|refine SB ?_|fail))
 refine yD (st0:=⟨[(3,.ref 1001 0 1),(8,iA 1),(6,.sl false [zY a]),(7,iA 1)],[(1001,.arr 5 [wG a 1101] ⟨false,true⟩),(1101,qG a)]⟩) Z ?_;refine WW ?_;exact zP [1001,1101] Z Z Z Z
def Po (a b:Rq) (B:1<=ln a.legs) (z:ln a.legs<=1000) (hb:1<=ln b.legs) (A:ln b.legs<=1000):zO 187 [zE zY [a,b]] [] (.ref 1001 0 2) [(1001,.arr 5 [wG a 1101,wG b 1102] ⟨true,true⟩),(1101,qG a),(1102,qG b)]:=by
 have C:=zA yO a.legs;have E:=zA yO b.legs;refine eM call187 λF hF=>?_
 refine WW ?_;refine zQ 3 1001 5 Z Z Z ?_;refine wC 3 [1001,1101,1102] [3,8,6,7] Z ?_;refine yD (st0:=⟨[(3,.ref 1001 0 0),(8,iA 0),(6,.sl false [zY a,zY b]),(7,iA 2)],[(1001,.arr 5 [] ⟨true,false⟩)]⟩) Z ?_
 (repeat' (first|refine jX ?_|apply yW|apply xH|intro hc|(apply zG;first|(apply yE;refine xE 1101 tok Z Z Z Z Z Z (yM _ _ (λ_=>rfl)) Z Z Z zB Z Z Z ?_)|(apply yI;refine qF (xs:=[_]) 1002 tok Z Z Z Z Z Z Z Z Z Z Z Z ?_)|(apply yE;first|refine xZ tok Z Z Z Z Z Z Z (by intro y u;cases u;rfl) Z Z Z zV Z ?_|refine wN tok Z Z Z Z Z Z Z Z Z Z Z (by intro y u;cases u;rfl) zV Z ?_))|refine SB ?_|fail))
 refine yD (st0:=⟨[(3,.ref 1001 0 1),(8,iA 1),(6,.sl false [zY a,zY b]),(7,iA 2)],[(1001,.arr 5 [wG a 1101] ⟨false,true⟩),(1101,qG a)]⟩) Z ?_
 (repeat' (first|refine jX ?_|apply yW|apply xH|intro hc|(apply zG;first|(apply yE;refine xE 1102 tok Z Z Z Z Z Z (yM _ _ (λ_=>rfl)) Z Z Z zB Z Z Z ?_)|(apply yI;refine qF (xs:=[_]) 1002 tok Z Z Z Z Z Z Z Z Z Z Z Z ?_)|(apply yE;first|refine xZ tok Z Z Z Z Z Z Z (by intro y u;cases u;rfl) Z Z Z zV Z ?_|refine wN tok Z Z Z Z Z Z Z Z Z Z Z (by intro y u;cases u;rfl) zV Z ?_))|refine SB ?_|fail))
 refine yD (st0:=⟨[(3,.ref 1001 0 2),(8,iA 2),(6,.sl false [zY a,zY b]),(7,iA 2)],[(1001,.arr 5 [wG a 1101,wG b 1102] ⟨true,true⟩),(1101,qG a),(1102,qG b)]⟩) Z ?_;refine WW ?_;exact zP [1001,1101,1102] Z Z Z Z
def Oo (a b c:Rq) (B:1<=ln a.legs) (z:ln a.legs<=1000) (hb:1<=ln b.legs) (A:ln b.legs<=1000) (hc:1<=ln c.legs) (gc:ln c.legs<=1000):zO 187 [zE zY [a,b,c]] [] (.ref 1001 0 3) [(1001,.arr 5 [wG a 1101,wG b 1102,wG c 1103] ⟨true,true⟩),(1101,qG a),(1102,qG b),(1103,qG c)]:=by
 have C:=zA yO a.legs;have E:=zA yO b.legs;have G:=zA yO c.legs;refine eM call187 λF hF=>?_
 refine WW ?_;refine zQ 3 1001 5 Z Z Z ?_;refine wC 4 [1001,1101,1102,1103] [3,8,6,7] Z ?_;refine yD (st0:=⟨[(3,.ref 1001 0 0),(8,iA 0),(6,.sl false [zY a,zY b,zY c]),(7,iA 3)],[(1001,.arr 5 [] ⟨true,false⟩)]⟩) Z ?_
 (repeat' (first|refine jX ?_|apply yW|apply xH|intro hc|(apply zG;first|(apply yE;refine xE 1101 tok Z Z Z Z Z Z (yM _ _ (λ_=>rfl)) Z Z Z zB Z Z Z ?_)|(apply yI;refine qF (xs:=[_]) 1002 tok Z Z Z Z Z Z Z Z Z Z Z Z ?_)|(apply yE;first|refine xZ tok Z Z Z Z Z Z Z (by intro y u;cases u;rfl) Z Z Z zV Z ?_|refine wN tok Z Z Z Z Z Z Z Z Z Z Z (by intro y u;cases u;rfl) zV Z ?_))|refine SB ?_|fail))
 refine yD (st0:=⟨[(3,.ref 1001 0 1),(8,iA 1),(6,.sl false [zY a,zY b,zY c]),(7,iA 3)],[(1001,.arr 5 [wG a 1101] ⟨false,true⟩),(1101,qG a)]⟩) Z ?_
 (repeat' (first|refine jX ?_|apply yW|apply xH|intro hc|(apply zG;first|(apply yE;refine xE 1102 tok Z Z Z Z Z Z (yM _ _ (λ_=>rfl)) Z Z Z zB Z Z Z ?_)|(apply yI;refine qF (xs:=[_]) 1002 tok Z Z Z Z Z Z Z Z Z Z Z Z ?_)|(apply yE;first|refine xZ tok Z Z Z Z Z Z Z (by intro y u;cases u;rfl) Z Z Z zV Z ?_|refine wN tok Z Z Z Z Z Z Z Z Z Z Z (by intro y u;cases u;rfl) zV Z ?_))|refine SB ?_|fail))
 refine yD (st0:=⟨[(3,.ref 1001 0 2),(8,iA 2),(6,.sl false [zY a,zY b,zY c]),(7,iA 3)],[(1001,.arr 5 [wG a 1101,wG b 1102] ⟨true,true⟩),(1101,qG a),(1102,qG b)]⟩) Z ?_
 (repeat' (first|refine jX ?_|apply yW|apply xH|intro hc|(apply zG;first|(apply yE;refine xE 1103 tok Z Z Z Z Z Z (yM _ _ (λ_=>rfl)) Z Z Z zB Z Z Z ?_)|(apply yI;refine qF (xs:=[_]) 1002 tok Z Z Z Z Z Z Z Z Z Z Z Z ?_)|(apply yE;first|refine xZ tok Z Z Z Z Z Z Z (by intro y u;cases u;rfl) Z Z Z zV Z ?_|refine wN tok Z Z Z Z Z Z Z Z Z Z Z (by intro y u;cases u;rfl) zV Z ?_))|refine SB ?_|fail))
 refine yD (st0:=⟨[(3,.ref 1001 0 3),(8,iA 3),(6,.sl false [zY a,zY b,zY c]),(7,iA 3)],[(1001,.arr 5 [wG a 1101,wG b 1102,wG c 1103] ⟨true,true⟩),(1101,qG a),(1102,qG b),(1103,qG c)]⟩) Z ?_;refine WW ?_;exact zP [1001,1101,1102,1103] Z Z Z Z
theorem No (a b c d:Rq) (C:1<=ln a.legs) (z:ln a.legs<=1000) (hb:1<=ln b.legs) (A:ln b.legs<=1000) (hc:1<=ln c.legs) (gc:ln c.legs<=1000) (hd:1<=ln d.legs) (B:ln d.legs<=1000):zO 187 [zE zY [a,b,c,d]] [] (.ref 1001 0 4) [(1001,.arr 5 [wG a 1101,wG b 1102,wG c 1103,wG d 1104] ⟨true,true⟩),(1101,qG a),(1102,qG b),(1103,qG c),(1104,qG d)]:=by
 have E:=zA yO a.legs;have G:=zA yO b.legs;have I:=zA yO c.legs;have L:=zA yO d.legs;refine eM call187 λF hF=>?_
 refine WW ?_;refine zQ 3 1001 5 Z Z Z ?_;refine wC 5 [1001,1101,1102,1103,1104] [3,8,6,7] Z ?_;refine yD (st0:=⟨[(3,.ref 1001 0 0),(8,iA 0),(6,.sl false [zY a,zY b,zY c,zY d]),(7,iA 4)],[(1001,.arr 5 [] ⟨true,false⟩)]⟩) Z ?_
 (repeat' (first|refine jX ?_|apply yW|apply xH|intro hc|(apply zG;first|(apply yE;refine xE 1101 tok Z Z Z Z Z Z (yM _ _ (λ_=>rfl)) Z Z Z zB Z Z Z ?_)|(apply yI;refine qF (xs:=[_]) 1002 tok Z Z Z Z Z Z Z Z Z Z Z Z ?_)|(apply yE;first|refine xZ tok Z Z Z Z Z Z Z (by intro y u;cases u;rfl) Z Z Z zV Z ?_|refine wN tok Z Z Z Z Z Z Z Z Z Z Z (by intro y u;cases u;rfl) zV Z ?_))|refine SB ?_|fail))
 refine yD (st0:=⟨[(3,.ref 1001 0 1),(8,iA 1),(6,.sl false [zY a,zY b,zY c,zY d]),(7,iA 4)],[(1001,.arr 5 [wG a 1101] ⟨false,true⟩),(1101,qG a)]⟩) Z ?_
 (repeat' (first|refine jX ?_|apply yW|apply xH|intro hc|(apply zG;first|(apply yE;refine xE 1102 tok Z Z Z Z Z Z (yM _ _ (λ_=>rfl)) Z Z Z zB Z Z Z ?_)|(apply yI;refine qF (xs:=[_]) 1002 tok Z Z Z Z Z Z Z Z Z Z Z Z ?_)|(apply yE;first|refine xZ tok Z Z Z Z Z Z Z (by intro y u;cases u;rfl) Z Z Z zV Z ?_|refine wN tok Z Z Z Z Z Z Z Z Z Z Z (by intro y u;cases u;rfl) zV Z ?_))|refine SB ?_|fail))
 refine yD (st0:=⟨[(3,.ref 1001 0 2),(8,iA 2),(6,.sl false [zY a,zY b,zY c,zY d]),(7,iA 4)],[(1001,.arr 5 [wG a 1101,wG b 1102] ⟨true,true⟩),(1101,qG a),(1102,qG b)]⟩) Z ?_
 (repeat' (first|refine jX ?_|apply yW|apply xH|intro hc|(apply zG;first|(apply yE;refine xE 1103 tok Z Z Z Z Z Z (yM _ _ (λ_=>rfl)) Z Z Z zB Z Z Z ?_)|(apply yI;refine qF (xs:=[_]) 1002 tok Z Z Z Z Z Z Z Z Z Z Z Z ?_)|(apply yE;first|refine xZ tok Z Z Z Z Z Z Z (by intro y u;cases u;rfl) Z Z Z zV Z ?_|refine wN tok Z Z Z Z Z Z Z Z Z Z Z (by intro y u;cases u;rfl) zV Z ?_))|refine SB ?_|fail))
 refine yD (st0:=⟨[(3,.ref 1001 0 3),(8,iA 3),(6,.sl false [zY a,zY b,zY c,zY d]),(7,iA 4)],[(1001,.arr 5 [wG a 1101,wG b 1102,wG c 1103] ⟨true,true⟩),(1101,qG a),(1102,qG b),(1103,qG c)]⟩) Z ?_
 (repeat' (first|refine jX ?_|apply yW|apply xH|intro hc|(apply zG;first|(apply yE;refine xE 1104 tok Z Z Z Z Z Z (yM _ _ (λ_=>rfl)) Z Z Z zB Z Z Z ?_)|(apply yI;refine qF (xs:=[_]) 1002 tok Z Z Z Z Z Z Z Z Z Z Z Z ?_)|(apply yE;first|refine xZ tok Z Z Z Z Z Z Z (by intro y u;cases u;rfl) Z Z Z zV Z ?_|refine wN tok Z Z Z Z Z Z Z Z Z Z Z (by intro y u;cases u;rfl) zV Z ?_))|refine SB ?_|fail))
 refine yD (st0:=⟨[(3,.ref 1001 0 4),(8,iA 4),(6,.sl false [zY a,zY b,zY c,zY d]),(7,iA 4)],[(1001,.arr 5 [wG a 1101,wG b 1102,wG c 1103,wG d 1104] ⟨true,true⟩),(1101,qG a),(1102,qG b),(1103,qG c),(1104,qG d)]⟩) Z ?_;refine WW ?_;exact zP [1001,1101,1102,1103,1104] Z Z Z Z
def Mo (a:Rq) (E:1<=ln a.legs) (C:ln a.legs<=1000) (f3:Int):zO 132 [zE zY [a],iA f3] [] (zE zY (DA [a] f3)) []:=by
 have L:=Qo a E C;have R:=zA yO a.legs;refine eM call132 λF hF=>?_
 refine zS L ?_;refine wC 2 [1001,1101] [14,12,13,1,5] Z ?_;refine yD (st0:=⟨[(14,iA 0),(12,.ref 1001 0 1),(13,iA 1),(1,iA f3),(5,.ref 1001 0 1)],[(1001,.arr 5 [wG a 1101] ⟨false,true⟩),(1101,vZ a f3 0)]⟩) Z ?_;unfold vZ;refine WW ?_;refine zU (a.legs) [1101,7,1001] [7,1001] [1,5,7,12,13,14,19,20] [21,1,5,7,12,13,14,19,20] Z (λi f4 T U=>⟨(21,iA i)::T,(1101,.arr 5 ((qK a.legs f3 i).map yO) false)::U⟩) (Lq ?_ ?_)
 .intro k f4 g post u hk;have G:=zW u hk;have O:=qW f3 u hk;have z:=uM f3 u hk;have I:((qK a.legs f3 k).map yO).length=ln a.legs:=by rw[zA6,uL]
  have A:∀y:AV,(((qK a.legs f3 k).map yO).set k y)[k]? =some y:=λy=>zB7 zB
  have B:=gA g f3;rw[z];clear u z;generalize (qK a.legs f3 k).map yO=ys,fE g f3=M at *
  (have ga:=B;(repeat' (first|refine uT ?_|apply yW|apply xH|intro hc|fail))<;>clear ga)
  rfl
 refine WW ?_;refine yD (st0:=⟨[(14,iA 1),(12,.ref 1001 0 1),(13,iA 1),(1,iA f3),(5,.ref 1001 0 1)],[(1001,.arr 5 [wG a 1101] ⟨false,true⟩),(1101,vZ a f3 (ln a.legs))]⟩) Z ?_;unfold vZ;simp only[cZ];refine WW ?_;refine zI [] Z Z ?_ Z
 show AV.sl false [.agg [iA a.id,iA a.vh,iA a.cls,iA a.til,.sl false (pb (a.legs.map yO).length (pi 0 ((a.legs.map λg=>fE g f3).map yO)))]]=_
 simp only[Ry];rfl
theorem Lo (a b:Rq) (M:1<=ln a.legs) (I:ln a.legs<=1000) (hb:1<=ln b.legs) (L:ln b.legs<=1000) (f3:Int):zO 132 [zE zY [a,b],iA f3] [] (zE zY (DA [a,b] f3)) []:=by
 have R:=Po a b M I hb L;have S:=zA yO a.legs;have V:=zA yO b.legs;refine eM call132 λF hF=>?_
 refine zS R ?_;refine wC 3 [1001,1101,1102] [14,12,13,1,5] Z ?_;refine yD (st0:=⟨[(14,iA 0),(12,.ref 1001 0 2),(13,iA 2),(1,iA f3),(5,.ref 1001 0 2)],[(1001,.arr 5 [wG a 1101,wG b 1102] ⟨true,true⟩),(1101,vZ a f3 0),(1102,vZ b f3 0)]⟩) Z ?_;unfold vZ;refine WW ?_;refine zU (a.legs) [1101,7,1001,1102] [7,1001,1102] [1,5,7,12,13,14,19,20] [21,1,5,7,12,13,14,19,20] Z (λi f4 T U=>⟨(21,iA i)::T,(1101,.arr 5 ((qK a.legs f3 i).map yO) false)::U⟩) (Lq ?_ ?_)
 .intro k f4 g post u hk;have C:=zW u hk;have O:=qW f3 u hk;have z:=uM f3 u hk;have E:((qK a.legs f3 k).map yO).length=ln a.legs:=by rw[zA6,uL]
  have A:∀y:AV,(((qK a.legs f3 k).map yO).set k y)[k]? =some y:=λy=>zB7 zB
  have B:=gA g f3;rw[z];clear u z;generalize (qK a.legs f3 k).map yO=ys,fE g f3=G at *
  (have ga:=B;(repeat' (first|refine uT ?_|apply yW|apply xH|intro hc|fail))<;>clear ga)
  rfl
 refine WW ?_;refine yD (st0:=⟨[(14,iA 1),(12,.ref 1001 0 2),(13,iA 2),(1,iA f3),(5,.ref 1001 0 2)],[(1001,.arr 5 [wG a 1101,wG b 1102] ⟨true,true⟩),(1101,vZ a f3 (ln a.legs)),(1102,vZ b f3 0)]⟩) Z ?_;unfold vZ;refine WW ?_;refine zU (b.legs) [1102,7,1001,1101] [7,1001,1101] [1,5,7,12,13,14,19,20] [21,1,5,7,12,13,14,19,20] Z (λi f4 T U=>⟨(21,iA i)::T,(1102,.arr 5 ((qK b.legs f3 i).map yO) false)::U⟩) (Lq ?_ ?_)
 .intro k f4 g post u hk;have C:=zW u hk;have O:=qW f3 u hk;have z:=uM f3 u hk;have E:((qK b.legs f3 k).map yO).length=ln b.legs:=by rw[zA6,uL]
  have A:∀y:AV,(((qK b.legs f3 k).map yO).set k y)[k]? =some y:=λy=>zB7 zB
  have B:=gA g f3;rw[z];clear u z;generalize (qK b.legs f3 k).map yO=ys,fE g f3=G at *
  (have ga:=B;(repeat' (first|refine uT ?_|apply yW|apply xH|intro hc|fail))<;>clear ga)
  rfl
 refine WW ?_;refine yD (st0:=⟨[(14,iA 2),(12,.ref 1001 0 2),(13,iA 2),(1,iA f3),(5,.ref 1001 0 2)],[(1001,.arr 5 [wG a 1101,wG b 1102] ⟨true,true⟩),(1101,vZ a f3 (ln a.legs)),(1102,vZ b f3 (ln b.legs))]⟩) Z ?_;unfold vZ;simp only[cZ];refine WW ?_;refine zI [] Z Z ?_ Z
 show AV.sl false [.agg [iA a.id,iA a.vh,iA a.cls,iA a.til,.sl false (pb (a.legs.map yO).length (pi 0 ((a.legs.map λg=>fE g f3).map yO)))],.agg [iA b.id,iA b.vh,iA b.cls,iA b.til,.sl false (pb (b.legs.map yO).length (pi 0 ((b.legs.map λg=>fE g f3).map yO)))]]=_
 simp only[Ry];rfl
theorem Ko (a b c:Rq) (O:1<=ln a.legs) (L:ln a.legs<=1000) (hb:1<=ln b.legs) (M:ln b.legs<=1000) (hc:1<=ln c.legs) (gc:ln c.legs<=1000) (f3:Int):zO 132 [zE zY [a,b,c],iA f3] [] (zE zY (DA [a,b,c] f3)) []:=by
 have R:=Oo a b c O L hb M hc gc;have S:=zA yO a.legs;have V:=zA yO b.legs;have W:=zA yO c.legs;refine eM call132 λF hF=>?_
 refine zS R ?_;refine wC 4 [1001,1101,1102,1103] [14,12,13,1,5] Z ?_;refine yD (st0:=⟨[(14,iA 0),(12,.ref 1001 0 3),(13,iA 3),(1,iA f3),(5,.ref 1001 0 3)],[(1001,.arr 5 [wG a 1101,wG b 1102,wG c 1103] ⟨true,true⟩),(1101,vZ a f3 0),(1102,vZ b f3 0),(1103,vZ c f3 0)]⟩) Z ?_;unfold vZ;refine WW ?_;refine zU (a.legs) [1101,7,1001,1102,1103] [7,1001,1102,1103] [1,5,7,12,13,14,19,20] [21,1,5,7,12,13,14,19,20] Z (λi f4 T U=>⟨(21,iA i)::T,(1101,.arr 5 ((qK a.legs f3 i).map yO) false)::U⟩) (Lq ?_ ?_)
 .intro k f4 g post u hk;have C:=zW u hk;have I:=qW f3 u hk;have z:=uM f3 u hk;have E:((qK a.legs f3 k).map yO).length=ln a.legs:=by rw[zA6,uL]
  have A:∀y:AV,(((qK a.legs f3 k).map yO).set k y)[k]? =some y:=λy=>zB7 zB
  have B:=gA g f3;rw[z];clear u z;generalize (qK a.legs f3 k).map yO=ys,fE g f3=G at *
  (have ga:=B;(repeat' (first|refine uT ?_|apply yW|apply xH|intro hc|fail))<;>clear ga)
  rfl
 refine WW ?_;refine yD (st0:=⟨[(14,iA 1),(12,.ref 1001 0 3),(13,iA 3),(1,iA f3),(5,.ref 1001 0 3)],[(1001,.arr 5 [wG a 1101,wG b 1102,wG c 1103] ⟨true,true⟩),(1101,vZ a f3 (ln a.legs)),(1102,vZ b f3 0),(1103,vZ c f3 0)]⟩) Z ?_;unfold vZ;refine WW ?_;refine zU (b.legs) [1102,7,1001,1101,1103] [7,1001,1101,1103] [1,5,7,12,13,14,19,20] [21,1,5,7,12,13,14,19,20] Z (λi f4 T U=>⟨(21,iA i)::T,(1102,.arr 5 ((qK b.legs f3 i).map yO) false)::U⟩) (Lq ?_ ?_)
 .intro k f4 g post u hk;have C:=zW u hk;have I:=qW f3 u hk;have z:=uM f3 u hk;have E:((qK b.legs f3 k).map yO).length=ln b.legs:=by rw[zA6,uL]
  have A:∀y:AV,(((qK b.legs f3 k).map yO).set k y)[k]? =some y:=λy=>zB7 zB
  have B:=gA g f3;rw[z];clear u z;generalize (qK b.legs f3 k).map yO=ys,fE g f3=G at *
  (have ga:=B;(repeat' (first|refine uT ?_|apply yW|apply xH|intro hc|fail))<;>clear ga)
  rfl
 refine WW ?_;refine yD (st0:=⟨[(14,iA 2),(12,.ref 1001 0 3),(13,iA 3),(1,iA f3),(5,.ref 1001 0 3)],[(1001,.arr 5 [wG a 1101,wG b 1102,wG c 1103] ⟨true,true⟩),(1101,vZ a f3 (ln a.legs)),(1102,vZ b f3 (ln b.legs)),(1103,vZ c f3 0)]⟩) Z ?_;unfold vZ;refine WW ?_;refine zU (c.legs) [1103,7,1001,1101,1102] [7,1001,1101,1102] [1,5,7,12,13,14,19,20] [21,1,5,7,12,13,14,19,20] Z (λi f4 T U=>⟨(21,iA i)::T,(1103,.arr 5 ((qK c.legs f3 i).map yO) false)::U⟩) (Lq ?_ ?_)
 .intro k f4 g post u hk;have C:=zW u hk;have I:=qW f3 u hk;have z:=uM f3 u hk;have E:((qK c.legs f3 k).map yO).length=ln c.legs:=by rw[zA6,uL]
  have A:∀y:AV,(((qK c.legs f3 k).map yO).set k y)[k]? =some y:=λy=>zB7 zB
  have B:=gA g f3;rw[z];clear u z;generalize (qK c.legs f3 k).map yO=ys,fE g f3=G at *
  (have ga:=B;(repeat' (first|refine uT ?_|apply yW|apply xH|intro hc|fail))<;>clear ga)
  rfl
 refine WW ?_;refine yD (st0:=⟨[(14,iA 3),(12,.ref 1001 0 3),(13,iA 3),(1,iA f3),(5,.ref 1001 0 3)],[(1001,.arr 5 [wG a 1101,wG b 1102,wG c 1103] ⟨true,true⟩),(1101,vZ a f3 (ln a.legs)),(1102,vZ b f3 (ln b.legs)),(1103,vZ c f3 (ln c.legs))]⟩) Z ?_;unfold vZ;simp only[cZ];refine WW ?_;refine zI [] Z Z ?_ Z
 show AV.sl false [.agg [iA a.id,iA a.vh,iA a.cls,iA a.til,.sl false (pb (a.legs.map yO).length (pi 0 ((a.legs.map λg=>fE g f3).map yO)))],.agg [iA b.id,iA b.vh,iA b.cls,iA b.til,.sl false (pb (b.legs.map yO).length (pi 0 ((b.legs.map λg=>fE g f3).map yO)))],.agg [iA c.id,iA c.vh,iA c.cls,iA c.til,.sl false (pb (c.legs.map yO).length (pi 0 ((c.legs.map λg=>fE g f3).map yO)))]]=_
 simp only[Ry];rfl
theorem Jo (a b c d:Rq) (R:1<=ln a.legs) (L:ln a.legs<=1000) (hb:1<=ln b.legs) (M:ln b.legs<=1000) (hc:1<=ln c.legs) (gc:ln c.legs<=1000) (hd:1<=ln d.legs) (O:ln d.legs<=1000) (f3:Int):zO 132 [zE zY [a,b,c,d],iA f3] [] (zE zY (DA [a,b,c,d] f3)) []:=by
 have S:=No a b c d R L hb M hc gc hd O;have V:=zA yO a.legs;have W:=zA yO b.legs;have Y:=zA yO c.legs;have ld:=zA yO d.legs;refine eM call132 λF hF=>?_
 refine zS S ?_;refine wC 5 [1001,1101,1102,1103,1104] [14,12,13,1,5] Z ?_;refine yD (st0:=⟨[(14,iA 0),(12,.ref 1001 0 4),(13,iA 4),(1,iA f3),(5,.ref 1001 0 4)],[(1001,.arr 5 [wG a 1101,wG b 1102,wG c 1103,wG d 1104] ⟨true,true⟩),(1101,vZ a f3 0),(1102,vZ b f3 0),(1103,vZ c f3 0),(1104,vZ d f3 0)]⟩) Z ?_;unfold vZ;refine WW ?_;refine zU (a.legs) [1101,7,1001,1102,1103,1104] [7,1001,1102,1103,1104] [1,5,7,12,13,14,19,20] [21,1,5,7,12,13,14,19,20] Z (λi f4 T U=>⟨(21,iA i)::T,(1101,.arr 5 ((qK a.legs f3 i).map yO) false)::U⟩) (Lq ?_ ?_)
 .intro k f4 g post u hk;have C:=zW u hk;have I:=qW f3 u hk;have z:=uM f3 u hk;have E:((qK a.legs f3 k).map yO).length=ln a.legs:=by rw[zA6,uL]
  have A:∀y:AV,(((qK a.legs f3 k).map yO).set k y)[k]? =some y:=λy=>zB7 zB
  have B:=gA g f3;rw[z];clear u z;generalize (qK a.legs f3 k).map yO=ys,fE g f3=G at *
  (have ga:=B;(repeat' (first|refine uT ?_|apply yW|apply xH|intro hc|fail))<;>clear ga)
  rfl
 refine WW ?_;refine yD (st0:=⟨[(14,iA 1),(12,.ref 1001 0 4),(13,iA 4),(1,iA f3),(5,.ref 1001 0 4)],[(1001,.arr 5 [wG a 1101,wG b 1102,wG c 1103,wG d 1104] ⟨true,true⟩),(1101,vZ a f3 (ln a.legs)),(1102,vZ b f3 0),(1103,vZ c f3 0),(1104,vZ d f3 0)]⟩) Z ?_;unfold vZ;refine WW ?_;refine zU (b.legs) [1102,7,1001,1101,1103,1104] [7,1001,1101,1103,1104] [1,5,7,12,13,14,19,20] [21,1,5,7,12,13,14,19,20] Z (λi f4 T U=>⟨(21,iA i)::T,(1102,.arr 5 ((qK b.legs f3 i).map yO) false)::U⟩) (Lq ?_ ?_)
 .intro k f4 g post u hk;have C:=zW u hk;have I:=qW f3 u hk;have z:=uM f3 u hk;have E:((qK b.legs f3 k).map yO).length=ln b.legs:=by rw[zA6,uL]
  have A:∀y:AV,(((qK b.legs f3 k).map yO).set k y)[k]? =some y:=λy=>zB7 zB
  have B:=gA g f3;rw[z];clear u z;generalize (qK b.legs f3 k).map yO=ys,fE g f3=G at *
  (have ga:=B;(repeat' (first|refine uT ?_|apply yW|apply xH|intro hc|fail))<;>clear ga)
  rfl
 refine WW ?_;refine yD (st0:=⟨[(14,iA 2),(12,.ref 1001 0 4),(13,iA 4),(1,iA f3),(5,.ref 1001 0 4)],[(1001,.arr 5 [wG a 1101,wG b 1102,wG c 1103,wG d 1104] ⟨true,true⟩),(1101,vZ a f3 (ln a.legs)),(1102,vZ b f3 (ln b.legs)),(1103,vZ c f3 0),(1104,vZ d f3 0)]⟩) Z ?_;unfold vZ;refine WW ?_;refine zU (c.legs) [1103,7,1001,1101,1102,1104] [7,1001,1101,1102,1104] [1,5,7,12,13,14,19,20] [21,1,5,7,12,13,14,19,20] Z (λi f4 T U=>⟨(21,iA i)::T,(1103,.arr 5 ((qK c.legs f3 i).map yO) false)::U⟩) (Lq ?_ ?_)
 .intro k f4 g post u hk;have C:=zW u hk;have I:=qW f3 u hk;have z:=uM f3 u hk;have E:((qK c.legs f3 k).map yO).length=ln c.legs:=by rw[zA6,uL]
  have A:∀y:AV,(((qK c.legs f3 k).map yO).set k y)[k]? =some y:=λy=>zB7 zB
  have B:=gA g f3;rw[z];clear u z;generalize (qK c.legs f3 k).map yO=ys,fE g f3=G at *
  (have ga:=B;(repeat' (first|refine uT ?_|apply yW|apply xH|intro hc|fail))<;>clear ga)
  rfl
 refine WW ?_;refine yD (st0:=⟨[(14,iA 3),(12,.ref 1001 0 4),(13,iA 4),(1,iA f3),(5,.ref 1001 0 4)],[(1001,.arr 5 [wG a 1101,wG b 1102,wG c 1103,wG d 1104] ⟨true,true⟩),(1101,vZ a f3 (ln a.legs)),(1102,vZ b f3 (ln b.legs)),(1103,vZ c f3 (ln c.legs)),(1104,vZ d f3 0)]⟩) Z ?_;unfold vZ;refine WW ?_;refine zU (d.legs) [1104,7,1001,1101,1102,1103] [7,1001,1101,1102,1103] [1,5,7,12,13,14,19,20] [21,1,5,7,12,13,14,19,20] Z (λi f4 T U=>⟨(21,iA i)::T,(1104,.arr 5 ((qK d.legs f3 i).map yO) false)::U⟩) (Lq ?_ ?_)
 .intro k f4 g post u hk;have C:=zW u hk;have I:=qW f3 u hk;have z:=uM f3 u hk;have E:((qK d.legs f3 k).map yO).length=ln d.legs:=by rw[zA6,uL]
  have A:∀y:AV,(((qK d.legs f3 k).map yO).set k y)[k]? =some y:=λy=>zB7 zB
  have B:=gA g f3;rw[z];clear u z;generalize (qK d.legs f3 k).map yO=ys,fE g f3=G at *
  (have ga:=B;(repeat' (first|refine uT ?_|apply yW|apply xH|intro hc|fail))<;>clear ga)
  rfl
 refine WW ?_;refine yD (st0:=⟨[(14,iA 4),(12,.ref 1001 0 4),(13,iA 4),(1,iA f3),(5,.ref 1001 0 4)],[(1001,.arr 5 [wG a 1101,wG b 1102,wG c 1103,wG d 1104] ⟨true,true⟩),(1101,vZ a f3 (ln a.legs)),(1102,vZ b f3 (ln b.legs)),(1103,vZ c f3 (ln c.legs)),(1104,vZ d f3 (ln d.legs))]⟩) Z ?_;unfold vZ;simp only[cZ];refine WW ?_;refine zI [] Z Z ?_ Z
 show AV.sl false [.agg [iA a.id,iA a.vh,iA a.cls,iA a.til,.sl false (pb (a.legs.map yO).length (pi 0 ((a.legs.map λg=>fE g f3).map yO)))],.agg [iA b.id,iA b.vh,iA b.cls,iA b.til,.sl false (pb (b.legs.map yO).length (pi 0 ((b.legs.map λg=>fE g f3).map yO)))],.agg [iA c.id,iA c.vh,iA c.cls,iA c.til,.sl false (pb (c.legs.map yO).length (pi 0 ((c.legs.map λg=>fE g f3).map yO)))],.agg [iA d.id,iA d.vh,iA d.cls,iA d.til,.sl false (pb (d.legs.map yO).length (pi 0 ((d.legs.map λg=>fE g f3).map yO)))]]=_
 simp only[Ry];rfl
def Io (l:List Rq) (f3:Int) (hv:cN l):zO 177 [zE zY l,iA f3] [] (zE zY (DA l f3)) []:=by
 have u:=hv.n4;have hb:∀r∈l,1<=ln r.legs/\r.legs.length<=1000:=λr z=>by have:=hv.lg3 z;omega
 match l,u,hb with
 | [],_,_=>
  have A:=TQ;refine eM call177 λF hF=>?_
  refine zS A ?_;refine wC 1 [] [13,11,12,1,5] Z ?_;refine yD (st0:=⟨[(13,iA 0),(11,.s (.slice none 0 0)),(12,iA 0),(1,iA f3),(5,.s (.slice none 0 0))],[]⟩) Z ?_;exact ly
 | [a],_,hb=>exact uv a (hb a zV).1 (hb a zV).2 f3
 | [a,b],_,hb=>exact qv a b (hb a zV).1 (hb a zV).2 (hb b zV).1 (hb b zV).2 f3
 | [a,b,c],_,hb=>exact dv a b c (hb a zV).1 (hb a zV).2 (hb b zV).1 (hb b zV).2 (hb c zV).1 (hb c zV).2 f3
 | [a,b,c,d],_,hb=>exact bv a b c d (hb a zV).1 (hb a zV).2 (hb b zV).1 (hb b zV).2 (hb c zV).1 (hb c zV).2 (hb d zV).1 (hb d zV).2 f3
 |_::_::_::_::_::_,h,_=>simp at h
def pv (l:List Rq) (f3:Int) (hv:cN l):zO 132 [zE zY l,iA f3] [] (zE zY (DA l f3)) []:=by
 have z:=hv.n4;have hb:∀r∈l,1<=ln r.legs/\r.legs.length<=1000:=λr u=>by have:=hv.lg3 u;omega
 match l,z,hb with
 | [],_,_=>
  have A:=eK [] zV (λr u=>by simp at u);refine eM call132 λF hF=>?_
  refine zS A ?_;refine wC 1 [] [14,12,13,1,5] Z ?_;refine yD (st0:=⟨[(14,iA 0),(12,.sl false []),(13,iA 0),(1,iA f3),(5,.sl false [])],[]⟩) Z ?_;exact ly
 | [a],_,hb=>exact Mo a (hb a zV).1 (hb a zV).2 f3
 | [a,b],_,hb=>exact Lo a b (hb a zV).1 (hb a zV).2 (hb b zV).1 (hb b zV).2 f3
 | [a,b,c],_,hb=>exact Ko a b c (hb a zV).1 (hb a zV).2 (hb b zV).1 (hb b zV).2 (hb c zV).1 (hb c zV).2 f3
 | [a,b,c,d],_,hb=>exact Jo a b c d (hb a zV).1 (hb a zV).2 (hb b zV).1 (hb b zV).2 (hb c zV).1 (hb c zV).2 (hb d zV).1 (hb d zV).2 f3
 |_::_::_::_::_::_,h,_=>simp at h
def Ho (g:Lg) (f3:Int) (u:0<=f3) (z:f3<=1073741824):(fE g f3).jn=g.jn/\(fE g f3).ph=g.ph/\(QW g=true->QW (fE g f3)=true):=by
 unfold fE;split
 .split
  .refine⟨rfl,rfl,λh=>?_⟩;unfold QW at *;rw[zBc]at *; dsimp only;omega
  .exact⟨rfl,rfl,id⟩
 .refine⟨rfl,rfl,λh=>?_⟩;unfold QW at *;rw[zBc]at *; dsimp only;omega
theorem Af {f3:Int} (B:0<=f3) (C:f3<=1073741824):∀(gs f4 u:List Lg),u.map (·.jn)=f4.map (·.jn)->kO f4 gs=true->kO u (gs.map λg=>fE g f3)=true
 | [],_,_,_,_=>rfl
 |x::post,f4,u,A,h=>by
  obtain⟨e1,_,e3⟩:=Ho x f3 B C;have z:∀(l:List Lg),(l.any λy=>y.jn==x.jn)=(l.map (·.jn)).any λn=>n==x.jn:=λl=>by rw[List.any_map];rfl
  rw[kO,zBg,zBg]at h;rw[zCo,kO,e3 h.1,e1,z,A,<-z,h.2.1,zBh,zBh];exact Af B C post (f4++[x]) (u++[fE x f3]) (by rw[zBd,zBd,A];simp[e1]) h.2.2
def B7 {l:List Rq} (hv:cN l) (f3:Int) (A:0<=f3) (B:f3<=1073741824):cN (DA l f3):=by
 refine⟨λr u=>?_,?_,by unfold DA;rw[zA6];exact hv.n4⟩
 .obtain⟨x,z,rfl⟩:=zCl.1 u;have h:=hv.ok x z;refine⟨h.i0,h.i1,h.v0,h.v1,h.c0,h.c1,h.t0,h.t1,?_⟩;have h1:=h.lg;rw[BG,zBg]at h1;unfold BG mkR;dsimp only;rw[zBg,zA6];exact⟨h1.1,Af A B x.legs [] [] Z h1.2⟩
 .unfold DA;rw[List.pairwise_map];exact hv.so
def gB (p:Nat->Bool):Nat->Int
 |0=>0
 |n+1=>if p n=true then gB p n+p2 n else gB p n
theorem VN (p:Nat->Bool):∀n:Nat,n<=30->0<=gB p n/\gB p n<p2 n
 |0,_=>⟨zDg 0,by show(0:Int)<1;decide⟩
 | n+1,h=>by
  have u:=VN p n zB
  have h2:p2 ((n+1:Nat):Int)=2*p2 (n:Int):=by
   unfold p2;rw[zBx,zBx,zGm];omega
  have:=BK n zB;unfold gB
  split<;>omega
theorem bY {p q:Nat->Bool}:∀n:Nat,(∀i,i<n->p i=q i)->gB p n=gB q n
 |0,_=>rfl
 |n+1,h=>by unfold gB;rw[h n zB,bY n λi hi=>h i zB]
def bq (u z A B C E G I:Bool):Nat->Bool
 |0=>u|1=>z|2=>A|3=>B|4=>C|5=>E|6=>G|7=>I|_=>false
def A7:∀u z A B C E G I:Bool,∀i:_root_.Fin 8,(jF (vX (gB (bq u z A B C E G I) 8) i.val) 1==1)=bq u z A B C E G I i.val:=by decide +kernel
def zg (p:Nat->Bool) (i:Nat) (hi:i<8):(jF (vX (gB p 8) i) 1==1)=p i:=by
 have e:∀j,j<8->p j=bq (p 0) (p 1) (p 2) (p 3) (p 4) (p 5) (p 6) (p 7) j:=λj hj=>by
  match j,hj with
  |0,_=>rfl|1,_=>rfl|2,_=>rfl|3,_=>rfl|4,_=>rfl|5,_=>rfl|6,_=>rfl|7,_=>rfl
  |j+8,h=>omega
 rw[bY 8 e,e i hi];exact A7 _ _ _ _ _ _ _ _ ⟨i,hi⟩
def nv (p:Nat->Bool):Nat->Nat
 |0=>0
 |n+1=>if p n=true then nv p n+2 ^ n else nv p n
theorem AU (p:Nat->Bool):∀n,gB p n=(nv p n:Int)
 |0=>rfl
 |n+1=>by
  unfold gB nv;rw[AU p n];split
  .unfold p2;simp
  .rfl
theorem LA (p:Nat->Bool):∀n,nv p n<2 ^ n
 |0=>(show 0<1 by omega)
 |n+1=>by
  have:=LA p n;unfold nv;rw[Nat.pow_succ]
  split<;>omega
theorem TR (p:Nat->Bool):∀n i,(nv p n).testBit i=(decide (i<n)&&p i)
 |0,i=>by simp[nv]
 | n+1,i=>by
  have z:=LA p n;unfold nv
  rcases zFn i n with h|h|h
  .rw[zA9 zB,zBh];split
   .rw[Nat.add_comm,Nat.testBit_two_pow_add_gt h,TR p n i,zA9 h,zBh]
   .rw[TR p n i,zA9 h,zBh]
  .subst h;rw[zA9 zB,zBh];split
   .rename_i u;rw[Nat.add_comm,Nat.testBit_two_pow_add_eq,TR p i i,zA7 zB,u];rfl
   .rename_i u;rw[TR p i i,zA7 zB];simpa using u
  .rw[zA7 zB,zB8];refine Nat.testBit_lt_two_pow ?_;have h2:2 ^ (n+1)<=2 ^ i:=zEz zB zB;rw[Nat.pow_succ]at h2
   split<;>omega
def EB (a b:Nat) (u:a<2 ^ 30) (hb:b<2 ^ 30):Yj a b=((a ||| b:Nat):Int):=by
 have h:=zGi u hb;unfold Yj;rw[zEc,zEc,zGq,zEb,zEb];have e:(2:Nat) ^ IntKind.i64.bits=18446744073709551616:=by decide
 grind [Yj,Nat.mod_eq_of_lt,kL,aG]
def Fo (p q:Nat->Bool):Yj (gB p 8) (gB q 8)=gB (λi=>p i||q i) 8:=by
 have h1:=LA p 8;have h2:=LA q 8;rw[AU,AU,AU,EB _ _ zB zB]
 congr 1
 apply Nat.eq_of_testBit_eq
 grind [Yj,gB,TR]
