/- Part 8. -/
import Derived.Test.YtaglbcjljlkjcaaGreatT07
namespace Go.Proofs.YtaglbcjljlkjcaaGreat.Av
open Tryz
set_option linter.all false
set_option maxRecDepth 4000
set_option maxHeartbeats 4000000
open List renaming length->ln,take->oj,drop->pb
open Inhabited renaming default->dd
def mkR (f3:Int) (r:Rq):Rq:=⟨r.id,r.vh,r.cls,r.til,r.legs.map λg=>fE g f3⟩
def EW (l:List Rq) (f3:Int):List Rq:=l.map (mkR f3)
def qH (l:List Lg) (f3:Int) (k:Nat):List Lg:=(l.take k).map (λg=>fE g f3)++l.drop k
def cW (l:List Lg) (f3:Int):qH l f3 (ln l)=l.map λg=>fE g f3:=by simp[qH]
def uL (l:List Lg) (f3:Int) (k:Nat):(qH l f3 k).length=ln l:=by simp[qH];omega
def qX {l f4 post:List Lg} {g:Lg} {k:Nat} (f3:Int) (u:l=f4++g::post) (hk:ln f4=k):((qH l f3 k).map yO)[k]? =some (yO g):=by grind [qH,yO]
def uM {l f4 post:List Lg} {g:Lg} {k:Nat} (f3:Int) (u:l=f4++g::post) (hk:ln f4=k):(qH l f3 (k+1)).map yO=((qH l f3 k).map yO).set k (yO (fE g f3)):=by
 subst u hk;have e1:(f4++g::post).take (ln f4+1)=f4++[g]:=by rw[List.take_append,zBf zB];simp
 simp_all [qH,yO,fE]
def Ty (l:List Lg) (f3:Int):oj (l.map yO).length (pb 0 ((l.map λg=>fE g f3).map yO))=(l.map λg=>fE g f3).map yO:=by
 rw[zBr];exact zBf zW
def vZ (r:Rq) (f3:Int) (k:Nat):xW:= .arr 5 ((qH r.legs f3 k).map yO) false
def wv (a:Rq) (E:1<=ln a.legs) (C:ln a.legs<=1000) (f3:Int):zM 177 [zE zY [a],iA f3] [] (zE zY (EW [a] f3)) []:=by
 have L:=AX a E C;have R:=zA yO a.legs;refine eM call177 λF hF=>?_
 refine zU L ?_;refine wC 2 [1001,1101] [13,11,12,1,5] Z ?_;refine yC (st0:=⟨[(13,iA 0),(11,.ref 1001 0 1),(12,iA 1),(1,iA f3),(5,.ref 1001 0 1)],[(1001,.arr 5 [wF a 1101] ⟨false,true⟩),(1101,vZ a f3 0)]⟩) Z ?_;unfold vZ;refine WW ?_;refine zQ (a.legs) [1101,7,1001] [7,1001] [1,5,7,11,12,13,19] [20,1,5,7,11,12,13,19] Z (λi f4 T U=>⟨(20,iA i)::T,(1101,.arr 5 ((qH a.legs f3 i).map yO) false)::U⟩) (Lq ?_ ?_)
 .intro k f4 g post u hk;have G:=zV u hk;have O:=qX f3 u hk;have z:=uM f3 u hk;have I:((qH a.legs f3 k).map yO).length=ln a.legs:=by rw[zA5,uL]
  have A:∀y:AV,(((qH a.legs f3 k).map yO).set k y)[k]? =some y:=λy=>zB6 zB
  have B:=eG g f3;rw[z];clear u z;generalize (qH a.legs f3 k).map yO=ys,fE g f3=M at *
  (have ga:=B;(repeat' (first|refine uQ ?_|apply yW|apply xG|intro hc|fail))<;>clear ga)
  rfl
 refine WW ?_;refine yC (st0:=⟨[(13,iA 1),(11,.ref 1001 0 1),(12,iA 1),(1,iA f3),(5,.ref 1001 0 1)],[(1001,.arr 5 [wF a 1101] ⟨false,true⟩),(1101,vZ a f3 (ln a.legs))]⟩) Z ?_;unfold vZ;simp only[cW];refine WW ?_;refine zI [] Z Z ?_ Z
 show AV.sl false [.agg [iA a.id,iA a.vh,iA a.cls,iA a.til,.sl false (oj (a.legs.map yO).length (pb 0 ((a.legs.map λg=>fE g f3).map yO)))]]=_
 simp only[Ty];rfl
theorem vv (a b:Rq) (M:1<=ln a.legs) (I:ln a.legs<=1000) (hb:1<=ln b.legs) (L:ln b.legs<=1000) (f3:Int):zM 177 [zE zY [a,b],iA f3] [] (zE zY (EW [a,b] f3)) []:=by
 have R:=AY a b M I hb L;have S:=zA yO a.legs;have V:=zA yO b.legs;refine eM call177 λF hF=>?_
 refine zU R ?_;refine wC 3 [1001,1101,1102] [13,11,12,1,5] Z ?_;refine yC (st0:=⟨[(13,iA 0),(11,.ref 1001 0 2),(12,iA 2),(1,iA f3),(5,.ref 1001 0 2)],[(1001,.arr 5 [wF a 1101,wF b 1102] ⟨true,true⟩),(1101,vZ a f3 0),(1102,vZ b f3 0)]⟩) Z ?_;unfold vZ;refine WW ?_;refine zQ (a.legs) [1101,7,1001,1102] [7,1001,1102] [1,5,7,11,12,13,19] [20,1,5,7,11,12,13,19] Z (λi f4 T U=>⟨(20,iA i)::T,(1101,.arr 5 ((qH a.legs f3 i).map yO) false)::U⟩) (Lq ?_ ?_)
 .intro k f4 g post u hk;have C:=zV u hk;have O:=qX f3 u hk;have z:=uM f3 u hk;have E:((qH a.legs f3 k).map yO).length=ln a.legs:=by rw[zA5,uL]
  have A:∀y:AV,(((qH a.legs f3 k).map yO).set k y)[k]? =some y:=λy=>zB6 zB
  have B:=eG g f3;rw[z];clear u z;generalize (qH a.legs f3 k).map yO=ys,fE g f3=G at *
  (have ga:=B;(repeat' (first|refine uQ ?_|apply yW|apply xG|intro hc|fail))<;>clear ga)
  rfl
 refine WW ?_;refine yC (st0:=⟨[(13,iA 1),(11,.ref 1001 0 2),(12,iA 2),(1,iA f3),(5,.ref 1001 0 2)],[(1001,.arr 5 [wF a 1101,wF b 1102] ⟨true,true⟩),(1101,vZ a f3 (ln a.legs)),(1102,vZ b f3 0)]⟩) Z ?_;unfold vZ;refine WW ?_;refine zQ (b.legs) [1102,7,1001,1101] [7,1001,1101] [1,5,7,11,12,13,19] [20,1,5,7,11,12,13,19] Z (λi f4 T U=>⟨(20,iA i)::T,(1102,.arr 5 ((qH b.legs f3 i).map yO) false)::U⟩) (Lq ?_ ?_)
 .intro k f4 g post u hk;have C:=zV u hk;have O:=qX f3 u hk;have z:=uM f3 u hk;have E:((qH b.legs f3 k).map yO).length=ln b.legs:=by rw[zA5,uL]
  have A:∀y:AV,(((qH b.legs f3 k).map yO).set k y)[k]? =some y:=λy=>zB6 zB
  have B:=eG g f3;rw[z];clear u z;generalize (qH b.legs f3 k).map yO=ys,fE g f3=G at *
  (have ga:=B;(repeat' (first|refine uQ ?_|apply yW|apply xG|intro hc|fail))<;>clear ga)
  rfl
 refine WW ?_;refine yC (st0:=⟨[(13,iA 2),(11,.ref 1001 0 2),(12,iA 2),(1,iA f3),(5,.ref 1001 0 2)],[(1001,.arr 5 [wF a 1101,wF b 1102] ⟨true,true⟩),(1101,vZ a f3 (ln a.legs)),(1102,vZ b f3 (ln b.legs))]⟩) Z ?_;unfold vZ;simp only[cW];refine WW ?_;refine zI [] Z Z ?_ Z
 show AV.sl false [.agg [iA a.id,iA a.vh,iA a.cls,iA a.til,.sl false (oj (a.legs.map yO).length (pb 0 ((a.legs.map λg=>fE g f3).map yO)))],.agg [iA b.id,iA b.vh,iA b.cls,iA b.til,.sl false (oj (b.legs.map yO).length (pb 0 ((b.legs.map λg=>fE g f3).map yO)))]]=_
 simp only[Ty];rfl
theorem uv (a b c:Rq) (O:1<=ln a.legs) (L:ln a.legs<=1000) (hb:1<=ln b.legs) (M:ln b.legs<=1000) (hc:1<=ln c.legs) (gc:ln c.legs<=1000) (f3:Int):zM 177 [zE zY [a,b,c],iA f3] [] (zE zY (EW [a,b,c] f3)) []:=by
 have R:=AZ a b c O L hb M hc gc;have S:=zA yO a.legs;have V:=zA yO b.legs;have W:=zA yO c.legs;refine eM call177 λF hF=>?_
 refine zU R ?_;refine wC 4 [1001,1101,1102,1103] [13,11,12,1,5] Z ?_;refine yC (st0:=⟨[(13,iA 0),(11,.ref 1001 0 3),(12,iA 3),(1,iA f3),(5,.ref 1001 0 3)],[(1001,.arr 5 [wF a 1101,wF b 1102,wF c 1103] ⟨true,true⟩),(1101,vZ a f3 0),(1102,vZ b f3 0),(1103,vZ c f3 0)]⟩) Z ?_;unfold vZ;refine WW ?_;refine zQ (a.legs) [1101,7,1001,1102,1103] [7,1001,1102,1103] [1,5,7,11,12,13,19] [20,1,5,7,11,12,13,19] Z (λi f4 T U=>⟨(20,iA i)::T,(1101,.arr 5 ((qH a.legs f3 i).map yO) false)::U⟩) (Lq ?_ ?_)
 .intro k f4 g post u hk;have C:=zV u hk;have I:=qX f3 u hk;have z:=uM f3 u hk;have E:((qH a.legs f3 k).map yO).length=ln a.legs:=by rw[zA5,uL]
  have A:∀y:AV,(((qH a.legs f3 k).map yO).set k y)[k]? =some y:=λy=>zB6 zB
  have B:=eG g f3;rw[z];clear u z;generalize (qH a.legs f3 k).map yO=ys,fE g f3=G at *
  (have ga:=B;(repeat' (first|refine uQ ?_|apply yW|apply xG|intro hc|fail))<;>clear ga)
  rfl
 refine WW ?_;refine yC (st0:=⟨[(13,iA 1),(11,.ref 1001 0 3),(12,iA 3),(1,iA f3),(5,.ref 1001 0 3)],[(1001,.arr 5 [wF a 1101,wF b 1102,wF c 1103] ⟨true,true⟩),(1101,vZ a f3 (ln a.legs)),(1102,vZ b f3 0),(1103,vZ c f3 0)]⟩) Z ?_;unfold vZ;refine WW ?_;refine zQ (b.legs) [1102,7,1001,1101,1103] [7,1001,1101,1103] [1,5,7,11,12,13,19] [20,1,5,7,11,12,13,19] Z (λi f4 T U=>⟨(20,iA i)::T,(1102,.arr 5 ((qH b.legs f3 i).map yO) false)::U⟩) (Lq ?_ ?_)
 .intro k f4 g post u hk;have C:=zV u hk;have I:=qX f3 u hk;have z:=uM f3 u hk;have E:((qH b.legs f3 k).map yO).length=ln b.legs:=by rw[zA5,uL]
  have A:∀y:AV,(((qH b.legs f3 k).map yO).set k y)[k]? =some y:=λy=>zB6 zB
  have B:=eG g f3;rw[z];clear u z;generalize (qH b.legs f3 k).map yO=ys,fE g f3=G at *
  (have ga:=B;(repeat' (first|refine uQ ?_|apply yW|apply xG|intro hc|fail))<;>clear ga)
  rfl
 refine WW ?_;refine yC (st0:=⟨[(13,iA 2),(11,.ref 1001 0 3),(12,iA 3),(1,iA f3),(5,.ref 1001 0 3)],[(1001,.arr 5 [wF a 1101,wF b 1102,wF c 1103] ⟨true,true⟩),(1101,vZ a f3 (ln a.legs)),(1102,vZ b f3 (ln b.legs)),(1103,vZ c f3 0)]⟩) Z ?_;unfold vZ;refine WW ?_;refine zQ (c.legs) [1103,7,1001,1101,1102] [7,1001,1101,1102] [1,5,7,11,12,13,19] [20,1,5,7,11,12,13,19] Z (λi f4 T U=>⟨(20,iA i)::T,(1103,.arr 5 ((qH c.legs f3 i).map yO) false)::U⟩) (Lq ?_ ?_)
 .intro k f4 g post u hk;have C:=zV u hk;have I:=qX f3 u hk;have z:=uM f3 u hk;have E:((qH c.legs f3 k).map yO).length=ln c.legs:=by rw[zA5,uL]
  have A:∀y:AV,(((qH c.legs f3 k).map yO).set k y)[k]? =some y:=λy=>zB6 zB
  have B:=eG g f3;rw[z];clear u z;generalize (qH c.legs f3 k).map yO=ys,fE g f3=G at *
  (have ga:=B;(repeat' (first|refine uQ ?_|apply yW|apply xG|intro hc|fail))<;>clear ga)
  rfl
 refine WW ?_;refine yC (st0:=⟨[(13,iA 3),(11,.ref 1001 0 3),(12,iA 3),(1,iA f3),(5,.ref 1001 0 3)],[(1001,.arr 5 [wF a 1101,wF b 1102,wF c 1103] ⟨true,true⟩),(1101,vZ a f3 (ln a.legs)),(1102,vZ b f3 (ln b.legs)),(1103,vZ c f3 (ln c.legs))]⟩) Z ?_;unfold vZ;simp only[cW];refine WW ?_;refine zI [] Z Z ?_ Z
 show AV.sl false [.agg [iA a.id,iA a.vh,iA a.cls,iA a.til,.sl false (oj (a.legs.map yO).length (pb 0 ((a.legs.map λg=>fE g f3).map yO)))],.agg [iA b.id,iA b.vh,iA b.cls,iA b.til,.sl false (oj (b.legs.map yO).length (pb 0 ((b.legs.map λg=>fE g f3).map yO)))],.agg [iA c.id,iA c.vh,iA c.cls,iA c.til,.sl false (oj (c.legs.map yO).length (pb 0 ((c.legs.map λg=>fE g f3).map yO)))]]=_
 simp only[Ty];rfl
theorem qv (a b c d:Rq) (R:1<=ln a.legs) (L:ln a.legs<=1000) (hb:1<=ln b.legs) (M:ln b.legs<=1000) (hc:1<=ln c.legs) (gc:ln c.legs<=1000) (hd:1<=ln d.legs) (O:ln d.legs<=1000) (f3:Int):zM 177 [zE zY [a,b,c,d],iA f3] [] (zE zY (EW [a,b,c,d] f3)) []:=by
 have S:=za a b c d R L hb M hc gc hd O;have V:=zA yO a.legs;have W:=zA yO b.legs;have Y:=zA yO c.legs;have ld:=zA yO d.legs;refine eM call177 λF hF=>?_
 refine zU S ?_;refine wC 5 [1001,1101,1102,1103,1104] [13,11,12,1,5] Z ?_;refine yC (st0:=⟨[(13,iA 0),(11,.ref 1001 0 4),(12,iA 4),(1,iA f3),(5,.ref 1001 0 4)],[(1001,.arr 5 [wF a 1101,wF b 1102,wF c 1103,wF d 1104] ⟨true,true⟩),(1101,vZ a f3 0),(1102,vZ b f3 0),(1103,vZ c f3 0),(1104,vZ d f3 0)]⟩) Z ?_;unfold vZ;refine WW ?_;refine zQ (a.legs) [1101,7,1001,1102,1103,1104] [7,1001,1102,1103,1104] [1,5,7,11,12,13,19] [20,1,5,7,11,12,13,19] Z (λi f4 T U=>⟨(20,iA i)::T,(1101,.arr 5 ((qH a.legs f3 i).map yO) false)::U⟩) (Lq ?_ ?_)
 .intro k f4 g post u hk;have C:=zV u hk;have I:=qX f3 u hk;have z:=uM f3 u hk;have E:((qH a.legs f3 k).map yO).length=ln a.legs:=by rw[zA5,uL]
  have A:∀y:AV,(((qH a.legs f3 k).map yO).set k y)[k]? =some y:=λy=>zB6 zB
  have B:=eG g f3;rw[z];clear u z;generalize (qH a.legs f3 k).map yO=ys,fE g f3=G at *
  (have ga:=B;(repeat' (first|refine uQ ?_|apply yW|apply xG|intro hc|fail))<;>clear ga)
  rfl
 refine WW ?_;refine yC (st0:=⟨[(13,iA 1),(11,.ref 1001 0 4),(12,iA 4),(1,iA f3),(5,.ref 1001 0 4)],[(1001,.arr 5 [wF a 1101,wF b 1102,wF c 1103,wF d 1104] ⟨true,true⟩),(1101,vZ a f3 (ln a.legs)),(1102,vZ b f3 0),(1103,vZ c f3 0),(1104,vZ d f3 0)]⟩) Z ?_;unfold vZ;refine WW ?_;refine zQ (b.legs) [1102,7,1001,1101,1103,1104] [7,1001,1101,1103,1104] [1,5,7,11,12,13,19] [20,1,5,7,11,12,13,19] Z (λi f4 T U=>⟨(20,iA i)::T,(1102,.arr 5 ((qH b.legs f3 i).map yO) false)::U⟩) (Lq ?_ ?_)
 .intro k f4 g post u hk;have C:=zV u hk;have I:=qX f3 u hk;have z:=uM f3 u hk;have E:((qH b.legs f3 k).map yO).length=ln b.legs:=by rw[zA5,uL]
  have A:∀y:AV,(((qH b.legs f3 k).map yO).set k y)[k]? =some y:=λy=>zB6 zB
  have B:=eG g f3;rw[z];clear u z;generalize (qH b.legs f3 k).map yO=ys,fE g f3=G at *
  (have ga:=B;(repeat' (first|refine uQ ?_|apply yW|apply xG|intro hc|fail))<;>clear ga)
  rfl
 refine WW ?_;refine yC (st0:=⟨[(13,iA 2),(11,.ref 1001 0 4),(12,iA 4),(1,iA f3),(5,.ref 1001 0 4)],[(1001,.arr 5 [wF a 1101,wF b 1102,wF c 1103,wF d 1104] ⟨true,true⟩),(1101,vZ a f3 (ln a.legs)),(1102,vZ b f3 (ln b.legs)),(1103,vZ c f3 0),(1104,vZ d f3 0)]⟩) Z ?_;unfold vZ;refine WW ?_;refine zQ (c.legs) [1103,7,1001,1101,1102,1104] [7,1001,1101,1102,1104] [1,5,7,11,12,13,19] [20,1,5,7,11,12,13,19] Z (λi f4 T U=>⟨(20,iA i)::T,(1103,.arr 5 ((qH c.legs f3 i).map yO) false)::U⟩) (Lq ?_ ?_)
 .intro k f4 g post u hk;have C:=zV u hk;have I:=qX f3 u hk;have z:=uM f3 u hk;have E:((qH c.legs f3 k).map yO).length=ln c.legs:=by rw[zA5,uL]
  have A:∀y:AV,(((qH c.legs f3 k).map yO).set k y)[k]? =some y:=λy=>zB6 zB
  have B:=eG g f3;rw[z];clear u z;generalize (qH c.legs f3 k).map yO=ys,fE g f3=G at *
  (have ga:=B;(repeat' (first|refine uQ ?_|apply yW|apply xG|intro hc|fail))<;>clear ga)
  rfl
 refine WW ?_;refine yC (st0:=⟨[(13,iA 3),(11,.ref 1001 0 4),(12,iA 4),(1,iA f3),(5,.ref 1001 0 4)],[(1001,.arr 5 [wF a 1101,wF b 1102,wF c 1103,wF d 1104] ⟨true,true⟩),(1101,vZ a f3 (ln a.legs)),(1102,vZ b f3 (ln b.legs)),(1103,vZ c f3 (ln c.legs)),(1104,vZ d f3 0)]⟩) Z ?_;unfold vZ;refine WW ?_;refine zQ (d.legs) [1104,7,1001,1101,1102,1103] [7,1001,1101,1102,1103] [1,5,7,11,12,13,19] [20,1,5,7,11,12,13,19] Z (λi f4 T U=>⟨(20,iA i)::T,(1104,.arr 5 ((qH d.legs f3 i).map yO) false)::U⟩) (Lq ?_ ?_)
 .intro k f4 g post u hk;have C:=zV u hk;have I:=qX f3 u hk;have z:=uM f3 u hk;have E:((qH d.legs f3 k).map yO).length=ln d.legs:=by rw[zA5,uL]
  have A:∀y:AV,(((qH d.legs f3 k).map yO).set k y)[k]? =some y:=λy=>zB6 zB
  have B:=eG g f3;rw[z];clear u z;generalize (qH d.legs f3 k).map yO=ys,fE g f3=G at *
  (have ga:=B;(repeat' (first|refine uQ ?_|apply yW|apply xG|intro hc|fail))<;>clear ga)
  rfl
 refine WW ?_;refine yC (st0:=⟨[(13,iA 4),(11,.ref 1001 0 4),(12,iA 4),(1,iA f3),(5,.ref 1001 0 4)],[(1001,.arr 5 [wF a 1101,wF b 1102,wF c 1103,wF d 1104] ⟨true,true⟩),(1101,vZ a f3 (ln a.legs)),(1102,vZ b f3 (ln b.legs)),(1103,vZ c f3 (ln c.legs)),(1104,vZ d f3 (ln d.legs))]⟩) Z ?_;unfold vZ;simp only[cW];refine WW ?_;refine zI [] Z Z ?_ Z
 show AV.sl false [.agg [iA a.id,iA a.vh,iA a.cls,iA a.til,.sl false (oj (a.legs.map yO).length (pb 0 ((a.legs.map λg=>fE g f3).map yO)))],.agg [iA b.id,iA b.vh,iA b.cls,iA b.til,.sl false (oj (b.legs.map yO).length (pb 0 ((b.legs.map λg=>fE g f3).map yO)))],.agg [iA c.id,iA c.vh,iA c.cls,iA c.til,.sl false (oj (c.legs.map yO).length (pb 0 ((c.legs.map λg=>fE g f3).map yO)))],.agg [iA d.id,iA d.vh,iA d.cls,iA d.til,.sl false (oj (d.legs.map yO).length (pb 0 ((d.legs.map λg=>fE g f3).map yO)))]]=_
 simp only[Ty];rfl
def To (a:Rq) (A:1<=ln a.legs) (z:ln a.legs<=1000):zM 187 [zE zY [a]] [] (.ref 1001 0 1) [(1001,.arr 5 [wF a 1101] ⟨false,true⟩),(1101,qE a)]:=by
 have B:=zA yO a.legs;refine eM call187 λF hF=>?_
 refine WW ?_;refine zS 3 1001 5 Z Z Z ?_;refine wC 2 [1001,1101] [3,8,6,7] Z ?_;refine yC (st0:=⟨[(3,.ref 1001 0 0),(8,iA 0),(6,.sl false [zY a]),(7,iA 1)],[(1001,.arr 5 [] ⟨true,false⟩)]⟩) Z ?_
 (repeat' (first|refine jX ?_|apply yW|apply xG|intro hc|(apply zG;first|(apply yD;refine xH 1101 tok Z Z Z Z Z Z (yM _ _ (λ_=>rfl)) Z Z Z zB Z Z Z ?_)|(apply yI;refine qD (xs:=[_]) 1002 tok Z Z Z Z Z Z Z Z Z Z Z Z ?_)|(apply yD;first|refine wB tok Z Z Z Z Z Z Z (by intro y u;cases u;rfl) Z Z Z zW Z ?_|refine wO tok Z Z Z Z Z Z Z Z Z Z Z (by intro y u;cases u;rfl) zW Z ?_))|refine SB ?_|fail))
 refine yC (st0:=⟨[(3,.ref 1001 0 1),(8,iA 1),(6,.sl false [zY a]),(7,iA 1)],[(1001,.arr 5 [wF a 1101] ⟨false,true⟩),(1101,qE a)]⟩) Z ?_;refine WW ?_;exact zP [1001,1101] Z Z Z Z
def So (a b:Rq) (B:1<=ln a.legs) (z:ln a.legs<=1000) (hb:1<=ln b.legs) (A:ln b.legs<=1000):zM 187 [zE zY [a,b]] [] (.ref 1001 0 2) [(1001,.arr 5 [wF a 1101,wF b 1102] ⟨true,true⟩),(1101,qE a),(1102,qE b)]:=by
 have C:=zA yO a.legs;have E:=zA yO b.legs;refine eM call187 λF hF=>?_
 refine WW ?_;refine zS 3 1001 5 Z Z Z ?_;refine wC 3 [1001,1101,1102] [3,8,6,7] Z ?_;refine yC (st0:=⟨[(3,.ref 1001 0 0),(8,iA 0),(6,.sl false [zY a,zY b]),(7,iA 2)],[(1001,.arr 5 [] ⟨true,false⟩)]⟩) Z ?_
 (repeat' (first|refine jX ?_|apply yW|apply xG|intro hc|(apply zG;first|(apply yD;refine xH 1101 tok Z Z Z Z Z Z (yM _ _ (λ_=>rfl)) Z Z Z zB Z Z Z ?_)|(apply yI;refine qD (xs:=[_]) 1002 tok Z Z Z Z Z Z Z Z Z Z Z Z ?_)|(apply yD;first|refine wB tok Z Z Z Z Z Z Z (by intro y u;cases u;rfl) Z Z Z zW Z ?_|refine wO tok Z Z Z Z Z Z Z Z Z Z Z (by intro y u;cases u;rfl) zW Z ?_))|refine SB ?_|fail))
 refine yC (st0:=⟨[(3,.ref 1001 0 1),(8,iA 1),(6,.sl false [zY a,zY b]),(7,iA 2)],[(1001,.arr 5 [wF a 1101] ⟨false,true⟩),(1101,qE a)]⟩) Z ?_
 (repeat' (first|refine jX ?_|apply yW|apply xG|intro hc|(apply zG;first|(apply yD;refine xH 1102 tok Z Z Z Z Z Z (yM _ _ (λ_=>rfl)) Z Z Z zB Z Z Z ?_)|(apply yI;refine qD (xs:=[_]) 1002 tok Z Z Z Z Z Z Z Z Z Z Z Z ?_)|(apply yD;first|refine wB tok Z Z Z Z Z Z Z (by intro y u;cases u;rfl) Z Z Z zW Z ?_|refine wO tok Z Z Z Z Z Z Z Z Z Z Z (by intro y u;cases u;rfl) zW Z ?_))|refine SB ?_|fail))
 refine yC (st0:=⟨[(3,.ref 1001 0 2),(8,iA 2),(6,.sl false [zY a,zY b]),(7,iA 2)],[(1001,.arr 5 [wF a 1101,wF b 1102] ⟨true,true⟩),(1101,qE a),(1102,qE b)]⟩) Z ?_;refine WW ?_;exact zP [1001,1101,1102] Z Z Z Z
def Ro (a b c:Rq) (B:1<=ln a.legs) (z:ln a.legs<=1000) (hb:1<=ln b.legs) (A:ln b.legs<=1000) (hc:1<=ln c.legs) (gc:ln c.legs<=1000):zM 187 [zE zY [a,b,c]] [] (.ref 1001 0 3) [(1001,.arr 5 [wF a 1101,wF b 1102,wF c 1103] ⟨true,true⟩),(1101,qE a),(1102,qE b),(1103,qE c)]:=by
 have C:=zA yO a.legs;have E:=zA yO b.legs;have G:=zA yO c.legs;refine eM call187 λF hF=>?_
 refine WW ?_;refine zS 3 1001 5 Z Z Z ?_;refine wC 4 [1001,1101,1102,1103] [3,8,6,7] Z ?_;refine yC (st0:=⟨[(3,.ref 1001 0 0),(8,iA 0),(6,.sl false [zY a,zY b,zY c]),(7,iA 3)],[(1001,.arr 5 [] ⟨true,false⟩)]⟩) Z ?_
 (repeat' (first|refine jX ?_|apply yW|apply xG|intro hc|(apply zG;first|(apply yD;refine xH 1101 tok Z Z Z Z Z Z (yM _ _ (λ_=>rfl)) Z Z Z zB Z Z Z ?_)|(apply yI;refine qD (xs:=[_]) 1002 tok Z Z Z Z Z Z Z Z Z Z Z Z ?_)|(apply yD;first|refine wB tok Z Z Z Z Z Z Z (by intro y u;cases u;rfl) Z Z Z zW Z ?_|refine wO tok Z Z Z Z Z Z Z Z Z Z Z (by intro y u;cases u;rfl) zW Z ?_))|refine SB ?_|fail))
 refine yC (st0:=⟨[(3,.ref 1001 0 1),(8,iA 1),(6,.sl false [zY a,zY b,zY c]),(7,iA 3)],[(1001,.arr 5 [wF a 1101] ⟨false,true⟩),(1101,qE a)]⟩) Z ?_
 (repeat' (first|refine jX ?_|apply yW|apply xG|intro hc|(apply zG;first|(apply yD;refine xH 1102 tok Z Z Z Z Z Z (yM _ _ (λ_=>rfl)) Z Z Z zB Z Z Z ?_)|(apply yI;refine qD (xs:=[_]) 1002 tok Z Z Z Z Z Z Z Z Z Z Z Z ?_)|(apply yD;first|refine wB tok Z Z Z Z Z Z Z (by intro y u;cases u;rfl) Z Z Z zW Z ?_|refine wO tok Z Z Z Z Z Z Z Z Z Z Z (by intro y u;cases u;rfl) zW Z ?_))|refine SB ?_|fail))
 refine yC (st0:=⟨[(3,.ref 1001 0 2),(8,iA 2),(6,.sl false [zY a,zY b,zY c]),(7,iA 3)],[(1001,.arr 5 [wF a 1101,wF b 1102] ⟨true,true⟩),(1101,qE a),(1102,qE b)]⟩) Z ?_
 (repeat' (first|refine jX ?_|apply yW|apply xG|intro hc|(apply zG;first|(apply yD;refine xH 1103 tok Z Z Z Z Z Z (yM _ _ (λ_=>rfl)) Z Z Z zB Z Z Z ?_)|(apply yI;refine qD (xs:=[_]) 1002 tok Z Z Z Z Z Z Z Z Z Z Z Z ?_)|(apply yD;first|refine wB tok Z Z Z Z Z Z Z (by intro y u;cases u;rfl) Z Z Z zW Z ?_|refine wO tok Z Z Z Z Z Z Z Z Z Z Z (by intro y u;cases u;rfl) zW Z ?_))|refine SB ?_|fail))
 refine yC (st0:=⟨[(3,.ref 1001 0 3),(8,iA 3),(6,.sl false [zY a,zY b,zY c]),(7,iA 3)],[(1001,.arr 5 [wF a 1101,wF b 1102,wF c 1103] ⟨true,true⟩),(1101,qE a),(1102,qE b),(1103,qE c)]⟩) Z ?_;refine WW ?_;exact zP [1001,1101,1102,1103] Z Z Z Z
theorem Qo (a b c d:Rq) (C:1<=ln a.legs) (z:ln a.legs<=1000) (hb:1<=ln b.legs) (A:ln b.legs<=1000) (hc:1<=ln c.legs) (gc:ln c.legs<=1000) (hd:1<=ln d.legs) (B:ln d.legs<=1000):zM 187 [zE zY [a,b,c,d]] [] (.ref 1001 0 4) [(1001,.arr 5 [wF a 1101,wF b 1102,wF c 1103,wF d 1104] ⟨true,true⟩),(1101,qE a),(1102,qE b),(1103,qE c),(1104,qE d)]:=by
 have E:=zA yO a.legs;have G:=zA yO b.legs;have I:=zA yO c.legs;have L:=zA yO d.legs;refine eM call187 λF hF=>?_
 refine WW ?_;refine zS 3 1001 5 Z Z Z ?_;refine wC 5 [1001,1101,1102,1103,1104] [3,8,6,7] Z ?_;refine yC (st0:=⟨[(3,.ref 1001 0 0),(8,iA 0),(6,.sl false [zY a,zY b,zY c,zY d]),(7,iA 4)],[(1001,.arr 5 [] ⟨true,false⟩)]⟩) Z ?_
 (repeat' (first|refine jX ?_|apply yW|apply xG|intro hc|(apply zG;first|(apply yD;refine xH 1101 tok Z Z Z Z Z Z (yM _ _ (λ_=>rfl)) Z Z Z zB Z Z Z ?_)|(apply yI;refine qD (xs:=[_]) 1002 tok Z Z Z Z Z Z Z Z Z Z Z Z ?_)|(apply yD;first|refine wB tok Z Z Z Z Z Z Z (by intro y u;cases u;rfl) Z Z Z zW Z ?_|refine wO tok Z Z Z Z Z Z Z Z Z Z Z (by intro y u;cases u;rfl) zW Z ?_))|refine SB ?_|fail))
 refine yC (st0:=⟨[(3,.ref 1001 0 1),(8,iA 1),(6,.sl false [zY a,zY b,zY c,zY d]),(7,iA 4)],[(1001,.arr 5 [wF a 1101] ⟨false,true⟩),(1101,qE a)]⟩) Z ?_
 (repeat' (first|refine jX ?_|apply yW|apply xG|intro hc|(apply zG;first|(apply yD;refine xH 1102 tok Z Z Z Z Z Z (yM _ _ (λ_=>rfl)) Z Z Z zB Z Z Z ?_)|(apply yI;refine qD (xs:=[_]) 1002 tok Z Z Z Z Z Z Z Z Z Z Z Z ?_)|(apply yD;first|refine wB tok Z Z Z Z Z Z Z (by intro y u;cases u;rfl) Z Z Z zW Z ?_|refine wO tok Z Z Z Z Z Z Z Z Z Z Z (by intro y u;cases u;rfl) zW Z ?_))|refine SB ?_|fail))
 refine yC (st0:=⟨[(3,.ref 1001 0 2),(8,iA 2),(6,.sl false [zY a,zY b,zY c,zY d]),(7,iA 4)],[(1001,.arr 5 [wF a 1101,wF b 1102] ⟨true,true⟩),(1101,qE a),(1102,qE b)]⟩) Z ?_
 (repeat' (first|refine jX ?_|apply yW|apply xG|intro hc|(apply zG;first|(apply yD;refine xH 1103 tok Z Z Z Z Z Z (yM _ _ (λ_=>rfl)) Z Z Z zB Z Z Z ?_)|(apply yI;refine qD (xs:=[_]) 1002 tok Z Z Z Z Z Z Z Z Z Z Z Z ?_)|(apply yD;first|refine wB tok Z Z Z Z Z Z Z (by intro y u;cases u;rfl) Z Z Z zW Z ?_|refine wO tok Z Z Z Z Z Z Z Z Z Z Z (by intro y u;cases u;rfl) zW Z ?_))|refine SB ?_|fail))
 refine yC (st0:=⟨[(3,.ref 1001 0 3),(8,iA 3),(6,.sl false [zY a,zY b,zY c,zY d]),(7,iA 4)],[(1001,.arr 5 [wF a 1101,wF b 1102,wF c 1103] ⟨true,true⟩),(1101,qE a),(1102,qE b),(1103,qE c)]⟩) Z ?_
 (repeat' (first|refine jX ?_|apply yW|apply xG|intro hc|(apply zG;first|(apply yD;refine xH 1104 tok Z Z Z Z Z Z (yM _ _ (λ_=>rfl)) Z Z Z zB Z Z Z ?_)|(apply yI;refine qD (xs:=[_]) 1002 tok Z Z Z Z Z Z Z Z Z Z Z Z ?_)|(apply yD;first|refine wB tok Z Z Z Z Z Z Z (by intro y u;cases u;rfl) Z Z Z zW Z ?_|refine wO tok Z Z Z Z Z Z Z Z Z Z Z (by intro y u;cases u;rfl) zW Z ?_))|refine SB ?_|fail))
 refine yC (st0:=⟨[(3,.ref 1001 0 4),(8,iA 4),(6,.sl false [zY a,zY b,zY c,zY d]),(7,iA 4)],[(1001,.arr 5 [wF a 1101,wF b 1102,wF c 1103,wF d 1104] ⟨true,true⟩),(1101,qE a),(1102,qE b),(1103,qE c),(1104,qE d)]⟩) Z ?_;refine WW ?_;exact zP [1001,1101,1102,1103,1104] Z Z Z Z
def Po (a:Rq) (E:1<=ln a.legs) (C:ln a.legs<=1000) (f3:Int):zM 132 [zE zY [a],iA f3] [] (zE zY (EW [a] f3)) []:=by
 have L:=To a E C;have R:=zA yO a.legs;refine eM call132 λF hF=>?_
 refine zU L ?_;refine wC 2 [1001,1101] [14,12,13,1,5] Z ?_;refine yC (st0:=⟨[(14,iA 0),(12,.ref 1001 0 1),(13,iA 1),(1,iA f3),(5,.ref 1001 0 1)],[(1001,.arr 5 [wF a 1101] ⟨false,true⟩),(1101,vZ a f3 0)]⟩) Z ?_;unfold vZ;refine WW ?_;refine zQ (a.legs) [1101,7,1001] [7,1001] [1,5,7,12,13,14,19,20] [21,1,5,7,12,13,14,19,20] Z (λi f4 T U=>⟨(21,iA i)::T,(1101,.arr 5 ((qH a.legs f3 i).map yO) false)::U⟩) (Lq ?_ ?_)
 .intro k f4 g post u hk;have G:=zV u hk;have O:=qX f3 u hk;have z:=uM f3 u hk;have I:((qH a.legs f3 k).map yO).length=ln a.legs:=by rw[zA5,uL]
  have A:∀y:AV,(((qH a.legs f3 k).map yO).set k y)[k]? =some y:=λy=>zB6 zB
  have B:=hH g f3;rw[z];clear u z;generalize (qH a.legs f3 k).map yO=ys,fE g f3=M at *
  (have ga:=B;(repeat' (first|refine uQ ?_|apply yW|apply xG|intro hc|fail))<;>clear ga)
  rfl
 refine WW ?_;refine yC (st0:=⟨[(14,iA 1),(12,.ref 1001 0 1),(13,iA 1),(1,iA f3),(5,.ref 1001 0 1)],[(1001,.arr 5 [wF a 1101] ⟨false,true⟩),(1101,vZ a f3 (ln a.legs))]⟩) Z ?_;unfold vZ;simp only[cW];refine WW ?_;refine zI [] Z Z ?_ Z
 show AV.sl false [.agg [iA a.id,iA a.vh,iA a.cls,iA a.til,.sl false (oj (a.legs.map yO).length (pb 0 ((a.legs.map λg=>fE g f3).map yO)))]]=_
 simp only[Ty];rfl
theorem Oo (a b:Rq) (M:1<=ln a.legs) (I:ln a.legs<=1000) (hb:1<=ln b.legs) (L:ln b.legs<=1000) (f3:Int):zM 132 [zE zY [a,b],iA f3] [] (zE zY (EW [a,b] f3)) []:=by
 have R:=So a b M I hb L;have S:=zA yO a.legs;have V:=zA yO b.legs;refine eM call132 λF hF=>?_
 refine zU R ?_;refine wC 3 [1001,1101,1102] [14,12,13,1,5] Z ?_;refine yC (st0:=⟨[(14,iA 0),(12,.ref 1001 0 2),(13,iA 2),(1,iA f3),(5,.ref 1001 0 2)],[(1001,.arr 5 [wF a 1101,wF b 1102] ⟨true,true⟩),(1101,vZ a f3 0),(1102,vZ b f3 0)]⟩) Z ?_;unfold vZ;refine WW ?_;refine zQ (a.legs) [1101,7,1001,1102] [7,1001,1102] [1,5,7,12,13,14,19,20] [21,1,5,7,12,13,14,19,20] Z (λi f4 T U=>⟨(21,iA i)::T,(1101,.arr 5 ((qH a.legs f3 i).map yO) false)::U⟩) (Lq ?_ ?_)
 .intro k f4 g post u hk;have C:=zV u hk;have O:=qX f3 u hk;have z:=uM f3 u hk;have E:((qH a.legs f3 k).map yO).length=ln a.legs:=by rw[zA5,uL]
  have A:∀y:AV,(((qH a.legs f3 k).map yO).set k y)[k]? =some y:=λy=>zB6 zB
  have B:=hH g f3;rw[z];clear u z;generalize (qH a.legs f3 k).map yO=ys,fE g f3=G at *
  (have ga:=B;(repeat' (first|refine uQ ?_|apply yW|apply xG|intro hc|fail))<;>clear ga)
  rfl
 refine WW ?_;refine yC (st0:=⟨[(14,iA 1),(12,.ref 1001 0 2),(13,iA 2),(1,iA f3),(5,.ref 1001 0 2)],[(1001,.arr 5 [wF a 1101,wF b 1102] ⟨true,true⟩),(1101,vZ a f3 (ln a.legs)),(1102,vZ b f3 0)]⟩) Z ?_;unfold vZ;refine WW ?_;refine zQ (b.legs) [1102,7,1001,1101] [7,1001,1101] [1,5,7,12,13,14,19,20] [21,1,5,7,12,13,14,19,20] Z (λi f4 T U=>⟨(21,iA i)::T,(1102,.arr 5 ((qH b.legs f3 i).map yO) false)::U⟩) (Lq ?_ ?_)
 .intro k f4 g post u hk;have C:=zV u hk;have O:=qX f3 u hk;have z:=uM f3 u hk;have E:((qH b.legs f3 k).map yO).length=ln b.legs:=by rw[zA5,uL]
  have A:∀y:AV,(((qH b.legs f3 k).map yO).set k y)[k]? =some y:=λy=>zB6 zB
  have B:=hH g f3;rw[z];clear u z;generalize (qH b.legs f3 k).map yO=ys,fE g f3=G at *
  (have ga:=B;(repeat' (first|refine uQ ?_|apply yW|apply xG|intro hc|fail))<;>clear ga)
  rfl
 refine WW ?_;refine yC (st0:=⟨[(14,iA 2),(12,.ref 1001 0 2),(13,iA 2),(1,iA f3),(5,.ref 1001 0 2)],[(1001,.arr 5 [wF a 1101,wF b 1102] ⟨true,true⟩),(1101,vZ a f3 (ln a.legs)),(1102,vZ b f3 (ln b.legs))]⟩) Z ?_;unfold vZ;simp only[cW];refine WW ?_;refine zI [] Z Z ?_ Z
 show AV.sl false [.agg [iA a.id,iA a.vh,iA a.cls,iA a.til,.sl false (oj (a.legs.map yO).length (pb 0 ((a.legs.map λg=>fE g f3).map yO)))],.agg [iA b.id,iA b.vh,iA b.cls,iA b.til,.sl false (oj (b.legs.map yO).length (pb 0 ((b.legs.map λg=>fE g f3).map yO)))]]=_
 simp only[Ty];rfl
theorem No (a b c:Rq) (O:1<=ln a.legs) (L:ln a.legs<=1000) (hb:1<=ln b.legs) (M:ln b.legs<=1000) (hc:1<=ln c.legs) (gc:ln c.legs<=1000) (f3:Int):zM 132 [zE zY [a,b,c],iA f3] [] (zE zY (EW [a,b,c] f3)) []:=by
 have R:=Ro a b c O L hb M hc gc;have S:=zA yO a.legs;have V:=zA yO b.legs;have W:=zA yO c.legs;refine eM call132 λF hF=>?_
 refine zU R ?_;refine wC 4 [1001,1101,1102,1103] [14,12,13,1,5] Z ?_;refine yC (st0:=⟨[(14,iA 0),(12,.ref 1001 0 3),(13,iA 3),(1,iA f3),(5,.ref 1001 0 3)],[(1001,.arr 5 [wF a 1101,wF b 1102,wF c 1103] ⟨true,true⟩),(1101,vZ a f3 0),(1102,vZ b f3 0),(1103,vZ c f3 0)]⟩) Z ?_;unfold vZ;refine WW ?_;refine zQ (a.legs) [1101,7,1001,1102,1103] [7,1001,1102,1103] [1,5,7,12,13,14,19,20] [21,1,5,7,12,13,14,19,20] Z (λi f4 T U=>⟨(21,iA i)::T,(1101,.arr 5 ((qH a.legs f3 i).map yO) false)::U⟩) (Lq ?_ ?_)
 .intro k f4 g post u hk;have C:=zV u hk;have I:=qX f3 u hk;have z:=uM f3 u hk;have E:((qH a.legs f3 k).map yO).length=ln a.legs:=by rw[zA5,uL]
  have A:∀y:AV,(((qH a.legs f3 k).map yO).set k y)[k]? =some y:=λy=>zB6 zB
  have B:=hH g f3;rw[z];clear u z;generalize (qH a.legs f3 k).map yO=ys,fE g f3=G at *
  (have ga:=B;(repeat' (first|refine uQ ?_|apply yW|apply xG|intro hc|fail))<;>clear ga)
  rfl
 refine WW ?_;refine yC (st0:=⟨[(14,iA 1),(12,.ref 1001 0 3),(13,iA 3),(1,iA f3),(5,.ref 1001 0 3)],[(1001,.arr 5 [wF a 1101,wF b 1102,wF c 1103] ⟨true,true⟩),(1101,vZ a f3 (ln a.legs)),(1102,vZ b f3 0),(1103,vZ c f3 0)]⟩) Z ?_;unfold vZ;refine WW ?_;refine zQ (b.legs) [1102,7,1001,1101,1103] [7,1001,1101,1103] [1,5,7,12,13,14,19,20] [21,1,5,7,12,13,14,19,20] Z (λi f4 T U=>⟨(21,iA i)::T,(1102,.arr 5 ((qH b.legs f3 i).map yO) false)::U⟩) (Lq ?_ ?_)
 .intro k f4 g post u hk;have C:=zV u hk;have I:=qX f3 u hk;have z:=uM f3 u hk;have E:((qH b.legs f3 k).map yO).length=ln b.legs:=by rw[zA5,uL]
  have A:∀y:AV,(((qH b.legs f3 k).map yO).set k y)[k]? =some y:=λy=>zB6 zB
  have B:=hH g f3;rw[z];clear u z;generalize (qH b.legs f3 k).map yO=ys,fE g f3=G at *
  (have ga:=B;(repeat' (first|refine uQ ?_|apply yW|apply xG|intro hc|fail))<;>clear ga)
  rfl
 refine WW ?_;refine yC (st0:=⟨[(14,iA 2),(12,.ref 1001 0 3),(13,iA 3),(1,iA f3),(5,.ref 1001 0 3)],[(1001,.arr 5 [wF a 1101,wF b 1102,wF c 1103] ⟨true,true⟩),(1101,vZ a f3 (ln a.legs)),(1102,vZ b f3 (ln b.legs)),(1103,vZ c f3 0)]⟩) Z ?_;unfold vZ;refine WW ?_;refine zQ (c.legs) [1103,7,1001,1101,1102] [7,1001,1101,1102] [1,5,7,12,13,14,19,20] [21,1,5,7,12,13,14,19,20] Z (λi f4 T U=>⟨(21,iA i)::T,(1103,.arr 5 ((qH c.legs f3 i).map yO) false)::U⟩) (Lq ?_ ?_)
 .intro k f4 g post u hk;have C:=zV u hk;have I:=qX f3 u hk;have z:=uM f3 u hk;have E:((qH c.legs f3 k).map yO).length=ln c.legs:=by rw[zA5,uL]
  have A:∀y:AV,(((qH c.legs f3 k).map yO).set k y)[k]? =some y:=λy=>zB6 zB
  have B:=hH g f3;rw[z];clear u z;generalize (qH c.legs f3 k).map yO=ys,fE g f3=G at *
  (have ga:=B;(repeat' (first|refine uQ ?_|apply yW|apply xG|intro hc|fail))<;>clear ga)
  rfl
 refine WW ?_;refine yC (st0:=⟨[(14,iA 3),(12,.ref 1001 0 3),(13,iA 3),(1,iA f3),(5,.ref 1001 0 3)],[(1001,.arr 5 [wF a 1101,wF b 1102,wF c 1103] ⟨true,true⟩),(1101,vZ a f3 (ln a.legs)),(1102,vZ b f3 (ln b.legs)),(1103,vZ c f3 (ln c.legs))]⟩) Z ?_;unfold vZ;simp only[cW];refine WW ?_;refine zI [] Z Z ?_ Z
 show AV.sl false [.agg [iA a.id,iA a.vh,iA a.cls,iA a.til,.sl false (oj (a.legs.map yO).length (pb 0 ((a.legs.map λg=>fE g f3).map yO)))],.agg [iA b.id,iA b.vh,iA b.cls,iA b.til,.sl false (oj (b.legs.map yO).length (pb 0 ((b.legs.map λg=>fE g f3).map yO)))],.agg [iA c.id,iA c.vh,iA c.cls,iA c.til,.sl false (oj (c.legs.map yO).length (pb 0 ((c.legs.map λg=>fE g f3).map yO)))]]=_
 simp only[Ty];rfl
theorem Mo (a b c d:Rq) (R:1<=ln a.legs) (L:ln a.legs<=1000) (hb:1<=ln b.legs) (M:ln b.legs<=1000) (hc:1<=ln c.legs) (gc:ln c.legs<=1000) (hd:1<=ln d.legs) (O:ln d.legs<=1000) (f3:Int):zM 132 [zE zY [a,b,c,d],iA f3] [] (zE zY (EW [a,b,c,d] f3)) []:=by
 have S:=Qo a b c d R L hb M hc gc hd O;have V:=zA yO a.legs;have W:=zA yO b.legs;have Y:=zA yO c.legs;have ld:=zA yO d.legs;refine eM call132 λF hF=>?_
 refine zU S ?_;refine wC 5 [1001,1101,1102,1103,1104] [14,12,13,1,5] Z ?_;refine yC (st0:=⟨[(14,iA 0),(12,.ref 1001 0 4),(13,iA 4),(1,iA f3),(5,.ref 1001 0 4)],[(1001,.arr 5 [wF a 1101,wF b 1102,wF c 1103,wF d 1104] ⟨true,true⟩),(1101,vZ a f3 0),(1102,vZ b f3 0),(1103,vZ c f3 0),(1104,vZ d f3 0)]⟩) Z ?_;unfold vZ;refine WW ?_;refine zQ (a.legs) [1101,7,1001,1102,1103,1104] [7,1001,1102,1103,1104] [1,5,7,12,13,14,19,20] [21,1,5,7,12,13,14,19,20] Z (λi f4 T U=>⟨(21,iA i)::T,(1101,.arr 5 ((qH a.legs f3 i).map yO) false)::U⟩) (Lq ?_ ?_)
 .intro k f4 g post u hk;have C:=zV u hk;have I:=qX f3 u hk;have z:=uM f3 u hk;have E:((qH a.legs f3 k).map yO).length=ln a.legs:=by rw[zA5,uL]
  have A:∀y:AV,(((qH a.legs f3 k).map yO).set k y)[k]? =some y:=λy=>zB6 zB
  have B:=hH g f3;rw[z];clear u z;generalize (qH a.legs f3 k).map yO=ys,fE g f3=G at *
  (have ga:=B;(repeat' (first|refine uQ ?_|apply yW|apply xG|intro hc|fail))<;>clear ga)
  rfl
 refine WW ?_;refine yC (st0:=⟨[(14,iA 1),(12,.ref 1001 0 4),(13,iA 4),(1,iA f3),(5,.ref 1001 0 4)],[(1001,.arr 5 [wF a 1101,wF b 1102,wF c 1103,wF d 1104] ⟨true,true⟩),(1101,vZ a f3 (ln a.legs)),(1102,vZ b f3 0),(1103,vZ c f3 0),(1104,vZ d f3 0)]⟩) Z ?_;unfold vZ;refine WW ?_;refine zQ (b.legs) [1102,7,1001,1101,1103,1104] [7,1001,1101,1103,1104] [1,5,7,12,13,14,19,20] [21,1,5,7,12,13,14,19,20] Z (λi f4 T U=>⟨(21,iA i)::T,(1102,.arr 5 ((qH b.legs f3 i).map yO) false)::U⟩) (Lq ?_ ?_)
 .intro k f4 g post u hk;have C:=zV u hk;have I:=qX f3 u hk;have z:=uM f3 u hk;have E:((qH b.legs f3 k).map yO).length=ln b.legs:=by rw[zA5,uL]
  have A:∀y:AV,(((qH b.legs f3 k).map yO).set k y)[k]? =some y:=λy=>zB6 zB
  have B:=hH g f3;rw[z];clear u z;generalize (qH b.legs f3 k).map yO=ys,fE g f3=G at *
  (have ga:=B;(repeat' (first|refine uQ ?_|apply yW|apply xG|intro hc|fail))<;>clear ga)
  rfl
 refine WW ?_;refine yC (st0:=⟨[(14,iA 2),(12,.ref 1001 0 4),(13,iA 4),(1,iA f3),(5,.ref 1001 0 4)],[(1001,.arr 5 [wF a 1101,wF b 1102,wF c 1103,wF d 1104] ⟨true,true⟩),(1101,vZ a f3 (ln a.legs)),(1102,vZ b f3 (ln b.legs)),(1103,vZ c f3 0),(1104,vZ d f3 0)]⟩) Z ?_;unfold vZ;refine WW ?_;refine zQ (c.legs) [1103,7,1001,1101,1102,1104] [7,1001,1101,1102,1104] [1,5,7,12,13,14,19,20] [21,1,5,7,12,13,14,19,20] Z (λi f4 T U=>⟨(21,iA i)::T,(1103,.arr 5 ((qH c.legs f3 i).map yO) false)::U⟩) (Lq ?_ ?_)
 .intro k f4 g post u hk;have C:=zV u hk;have I:=qX f3 u hk;have z:=uM f3 u hk;have E:((qH c.legs f3 k).map yO).length=ln c.legs:=by rw[zA5,uL]
  have A:∀y:AV,(((qH c.legs f3 k).map yO).set k y)[k]? =some y:=λy=>zB6 zB
  have B:=hH g f3;rw[z];clear u z;generalize (qH c.legs f3 k).map yO=ys,fE g f3=G at *
  (have ga:=B;(repeat' (first|refine uQ ?_|apply yW|apply xG|intro hc|fail))<;>clear ga)
  rfl
 refine WW ?_;refine yC (st0:=⟨[(14,iA 3),(12,.ref 1001 0 4),(13,iA 4),(1,iA f3),(5,.ref 1001 0 4)],[(1001,.arr 5 [wF a 1101,wF b 1102,wF c 1103,wF d 1104] ⟨true,true⟩),(1101,vZ a f3 (ln a.legs)),(1102,vZ b f3 (ln b.legs)),(1103,vZ c f3 (ln c.legs)),(1104,vZ d f3 0)]⟩) Z ?_;unfold vZ;refine WW ?_;refine zQ (d.legs) [1104,7,1001,1101,1102,1103] [7,1001,1101,1102,1103] [1,5,7,12,13,14,19,20] [21,1,5,7,12,13,14,19,20] Z (λi f4 T U=>⟨(21,iA i)::T,(1104,.arr 5 ((qH d.legs f3 i).map yO) false)::U⟩) (Lq ?_ ?_)
 .intro k f4 g post u hk;have C:=zV u hk;have I:=qX f3 u hk;have z:=uM f3 u hk;have E:((qH d.legs f3 k).map yO).length=ln d.legs:=by rw[zA5,uL]
  have A:∀y:AV,(((qH d.legs f3 k).map yO).set k y)[k]? =some y:=λy=>zB6 zB
  have B:=hH g f3;rw[z];clear u z;generalize (qH d.legs f3 k).map yO=ys,fE g f3=G at *
  (have ga:=B;(repeat' (first|refine uQ ?_|apply yW|apply xG|intro hc|fail))<;>clear ga)
  rfl
 refine WW ?_;refine yC (st0:=⟨[(14,iA 4),(12,.ref 1001 0 4),(13,iA 4),(1,iA f3),(5,.ref 1001 0 4)],[(1001,.arr 5 [wF a 1101,wF b 1102,wF c 1103,wF d 1104] ⟨true,true⟩),(1101,vZ a f3 (ln a.legs)),(1102,vZ b f3 (ln b.legs)),(1103,vZ c f3 (ln c.legs)),(1104,vZ d f3 (ln d.legs))]⟩) Z ?_;unfold vZ;simp only[cW];refine WW ?_;refine zI [] Z Z ?_ Z
 show AV.sl false [.agg [iA a.id,iA a.vh,iA a.cls,iA a.til,.sl false (oj (a.legs.map yO).length (pb 0 ((a.legs.map λg=>fE g f3).map yO)))],.agg [iA b.id,iA b.vh,iA b.cls,iA b.til,.sl false (oj (b.legs.map yO).length (pb 0 ((b.legs.map λg=>fE g f3).map yO)))],.agg [iA c.id,iA c.vh,iA c.cls,iA c.til,.sl false (oj (c.legs.map yO).length (pb 0 ((c.legs.map λg=>fE g f3).map yO)))],.agg [iA d.id,iA d.vh,iA d.cls,iA d.til,.sl false (oj (d.legs.map yO).length (pb 0 ((d.legs.map λg=>fE g f3).map yO)))]]=_
 simp only[Ty];rfl
def Lo (l:List Rq) (f3:Int) (hv:cM l):zM 177 [zE zY l,iA f3] [] (zE zY (EW l f3)) []:=by
 have u:=hv.n4;have hb:∀r∈l,1<=ln r.legs/\r.legs.length<=1000:=λr z=>by have:=hv.lg3 z;omega
 match l,u,hb with
 | [],_,_=>
  have A:=TP;refine eM call177 λF hF=>?_
  refine zU A ?_;refine wC 1 [] [13,11,12,1,5] Z ?_;refine yC (st0:=⟨[(13,iA 0),(11,.s (.slice none 0 0)),(12,iA 0),(1,iA f3),(5,.s (.slice none 0 0))],[]⟩) Z ?_;exact ly
 | [a],_,hb=>exact wv a (hb a zW).1 (hb a zW).2 f3
 | [a,b],_,hb=>exact vv a b (hb a zW).1 (hb a zW).2 (hb b zW).1 (hb b zW).2 f3
 | [a,b,c],_,hb=>exact uv a b c (hb a zW).1 (hb a zW).2 (hb b zW).1 (hb b zW).2 (hb c zW).1 (hb c zW).2 f3
 | [a,b,c,d],_,hb=>exact qv a b c d (hb a zW).1 (hb a zW).2 (hb b zW).1 (hb b zW).2 (hb c zW).1 (hb c zW).2 (hb d zW).1 (hb d zW).2 f3
 |_::_::_::_::_::_,h,_=>simp at h
def dv (l:List Rq) (f3:Int) (hv:cM l):zM 132 [zE zY l,iA f3] [] (zE zY (EW l f3)) []:=by
 have z:=hv.n4;have hb:∀r∈l,1<=ln r.legs/\r.legs.length<=1000:=λr u=>by have:=hv.lg3 u;omega
 match l,z,hb with
 | [],_,_=>
  have A:=eK [] zW (λr u=>by simp at u);refine eM call132 λF hF=>?_
  refine zU A ?_;refine wC 1 [] [14,12,13,1,5] Z ?_;refine yC (st0:=⟨[(14,iA 0),(12,.sl false []),(13,iA 0),(1,iA f3),(5,.sl false [])],[]⟩) Z ?_;exact ly
 | [a],_,hb=>exact Po a (hb a zW).1 (hb a zW).2 f3
 | [a,b],_,hb=>exact Oo a b (hb a zW).1 (hb a zW).2 (hb b zW).1 (hb b zW).2 f3
 | [a,b,c],_,hb=>exact No a b c (hb a zW).1 (hb a zW).2 (hb b zW).1 (hb b zW).2 (hb c zW).1 (hb c zW).2 f3
 | [a,b,c,d],_,hb=>exact Mo a b c d (hb a zW).1 (hb a zW).2 (hb b zW).1 (hb b zW).2 (hb c zW).1 (hb c zW).2 (hb d zW).1 (hb d zW).2 f3
 |_::_::_::_::_::_,h,_=>simp at h
def Ko (g:Lg) (f3:Int) (u:0<=f3) (z:f3<=1073741824):(fE g f3).jn=g.jn/\(fE g f3).ph=g.ph/\(QY g=true->QY (fE g f3)=true):=by
 unfold fE;split
 .split
  .refine⟨rfl,rfl,λh=>?_⟩;unfold QY at *;rw[zBb]at *; dsimp only;omega
  .exact⟨rfl,rfl,id⟩
 .refine⟨rfl,rfl,λh=>?_⟩;unfold QY at *;rw[zBb]at *; dsimp only;omega
theorem Af {f3:Int} (B:0<=f3) (C:f3<=1073741824):∀(gs f4 u:List Lg),u.map (·.jn)=f4.map (·.jn)->kS f4 gs=true->kS u (gs.map λg=>fE g f3)=true
 | [],_,_,_,_=>rfl
 |x::post,f4,u,A,h=>by
  obtain⟨e1,_,e3⟩:=Ko x f3 B C;have z:∀(l:List Lg),(l.any λy=>y.jn==x.jn)=(l.map (·.jn)).any λn=>n==x.jn:=λl=>by rw[List.any_map];rfl
  rw[kS,zBe,zBe]at h;rw[zCn,kS,e3 h.1,e1,z,A,<-z,h.2.1,zBg,zBg];exact Af B C post (f4++[x]) (u++[fE x f3]) (by rw[zBc,zBc,A];simp[e1]) h.2.2
def D7 {l:List Rq} (hv:cM l) (f3:Int) (A:0<=f3) (B:f3<=1073741824):cM (EW l f3):=by
 refine⟨λr u=>?_,?_,by unfold EW;rw[zA5];exact hv.n4⟩
 .obtain⟨x,z,rfl⟩:=zCo.1 u;have h:=hv.ok x z;refine⟨h.i0,h.i1,h.v0,h.v1,h.c0,h.c1,h.t0,h.t1,?_⟩;have h1:=h.lg;rw[AH,zBe]at h1;unfold AH mkR;dsimp only;rw[zBe,zA5];exact⟨h1.1,Af A B x.legs [] [] Z h1.2⟩
 .unfold EW;rw[List.pairwise_map];exact hv.so
def gA (p:Nat->Bool):Nat->Int
 |0=>0
 |n+1=>if p n=true then gA p n+p2 n else gA p n
theorem VQ (p:Nat->Bool):∀n:Nat,n<=30->0<=gA p n/\gA p n<p2 n
 |0,_=>⟨zDf 0,by show(0:Int)<1;decide⟩
 | n+1,h=>by
  have u:=VQ p n zB
  have h2:p2 ((n+1:Nat):Int)=2*p2 (n:Int):=by
   unfold p2;rw[zBu,zBu,zGi];omega
  have:=AL n zB;unfold gA
  split<;>omega
theorem bX {p q:Nat->Bool}:∀n:Nat,(∀i,i<n->p i=q i)->gA p n=gA q n
 |0,_=>rfl
 |n+1,h=>by unfold gA;rw[h n zB,bX n λi hi=>h i zB]
def bq (u z A B C E G I:Bool):Nat->Bool
 |0=>u|1=>z|2=>A|3=>B|4=>C|5=>E|6=>G|7=>I|_=>false
def C7:∀u z A B C E G I:Bool,∀i:_root_.Fin 8,(jJ (vV (gA (bq u z A B C E G I) 8) i.val) 1==1)=bq u z A B C E G I i.val:=by decide +kernel
def zg (p:Nat->Bool) (i:Nat) (hi:i<8):(jJ (vV (gA p 8) i) 1==1)=p i:=by
 have e:∀j,j<8->p j=bq (p 0) (p 1) (p 2) (p 3) (p 4) (p 5) (p 6) (p 7) j:=λj hj=>by
  match j,hj with
  |0,_=>rfl|1,_=>rfl|2,_=>rfl|3,_=>rfl|4,_=>rfl|5,_=>rfl|6,_=>rfl|7,_=>rfl
  |j+8,h=>omega
 rw[bX 8 e,e i hi];exact C7 _ _ _ _ _ _ _ _ ⟨i,hi⟩
def bv (p:Nat->Bool):Nat->Nat
 |0=>0
 |n+1=>if p n=true then bv p n+2 ^ n else bv p n
theorem AW (p:Nat->Bool):∀n,gA p n=(bv p n:Int)
 |0=>rfl
 |n+1=>by
  unfold gA bv;rw[AW p n];split
  .unfold p2;simp
  .rfl
theorem MV (p:Nat->Bool):∀n,bv p n<2 ^ n
 |0=>(show 0<1 by omega)
 |n+1=>by
  have:=MV p n;unfold bv;rw[Nat.pow_succ]
  split<;>omega
theorem TQ (p:Nat->Bool):∀n i,(bv p n).testBit i=(decide (i<n)&&p i)
 |0,i=>by simp[bv]
 | n+1,i=>by
  have z:=MV p n;unfold bv
  rcases Nat.lt_trichotomy i n with h|h|h
  .rw[zA7 zB,zBg];split
   .rw[Nat.add_comm,Nat.testBit_two_pow_add_gt h,TQ p n i,zA7 h,zBg]
   .rw[TQ p n i,zA7 h,zBg]
  .subst h;rw[zA7 zB,zBg];split
   .rename_i u;rw[Nat.add_comm,Nat.testBit_two_pow_add_eq,TQ p i i,zA6 zB,u];rfl
   .rename_i u;rw[TQ p i i,zA6 zB];simpa using u
  .rw[zA6 zB,zB7];refine Nat.testBit_lt_two_pow ?_;have h2:2 ^ (n+1)<=2 ^ i:=zEy zB zB;rw[Nat.pow_succ]at h2
   split<;>omega
def FS (a b:Nat) (u:a<2 ^ 30) (hb:b<2 ^ 30):Yj a b=((a ||| b:Nat):Int):=by
 have h:=zGe u hb;unfold Yj;rw[zEc,zEc,zGm,zEa,zEa];have e:(2:Nat) ^ IntKind.i64.bits=18446744073709551616:=by decide
 grind [Yj,Nat.mod_eq_of_lt,kI,bI]
def Jo (p q:Nat->Bool):Yj (gA p 8) (gA q 8)=gA (λi=>p i||q i) 8:=by
 have h1:=MV p 8;have h2:=MV q 8;rw[AW,AW,AW,FS _ _ zB zB]
 congr 1
 apply Nat.eq_of_testBit_eq
 grind [Yj,gA,TQ]
