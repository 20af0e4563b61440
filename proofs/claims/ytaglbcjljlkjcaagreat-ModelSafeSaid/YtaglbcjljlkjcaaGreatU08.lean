/- Part 8. -/
import Derived.Test.YtaglbcjljlkjcaaGreatU07
namespace Go.Proofs.YtaglbcjljlkjcaaGreat.Av
open Tryz
set_option linter.all false
set_option maxRecDepth 4000
set_option maxHeartbeats 4000000
open List renaming length->ln,take->pi,drop->py
open Inhabited renaming default->dd
def mkR (f4:Int) (r:Rq):Rq:=⟨r.id,r.vh,r.cls,r.til,r.legs.map λg=>fB g f4⟩
def EQ (l:List Rq) (f4:Int):List Rq:=l.map (mkR f4)
def qI (l:List Lg) (f4:Int) (k:Nat):List Lg:=(l.take k).map (λg=>fB g f4)++l.drop k
def cV (l:List Lg) (f4:Int):qI l f4 (ln l)=l.map λg=>fB g f4:=by simp[qI]
def uK (l:List Lg) (f4:Int) (k:Nat):(qI l f4 k).length=ln l:=by simp[qI];omega
def qV {l ga post:List Lg} {g:Lg} {k:Nat} (f4:Int) (u:l=ga++g::post) (hk:ln ga=k):((qI l f4 k).map yO)[k]? =some (yO g):=by grind [qI,yO]
def uL {l ga post:List Lg} {g:Lg} {k:Nat} (f4:Int) (u:l=ga++g::post) (hk:ln ga=k):(qI l f4 (k+1)).map yO=((qI l f4 k).map yO).set k (yO (fB g f4)):=by
 subst u hk;have e1:(ga++g::post).take (ln ga+1)=ga++[g]:=by rw[List.take_append,zA2 zB];simp
 simp_all [qI,yO,fB]
def uy (l:List Lg) (f4:Int):pi (l.map yO).length (py 0 ((l.map λg=>fB g f4).map yO))=(l.map λg=>fB g f4).map yO:=by
 rw[zBf];exact zA2 zV
def vW (r:Rq) (f4:Int) (k:Nat):xW:= .arr 5 ((qI r.legs f4 k).map yO) false
def Ju (a:Rq) (E:1<=ln a.legs) (C:ln a.legs<=1000) (f4:Int):zN 177 [zE zY [a],iA f4] [] (zE zY (EQ [a] f4)) []:=by
 have L:=BX a E C;have S:=zA yO a.legs;refine eM call177 λF hF=>?_
 refine zS L ?_;refine wB 2 [1001,1101] [13,11,12,1,5] Z ?_;refine yB (st0:=⟨[(13,iA 0),(11,.ref 1001 0 1),(12,iA 1),(1,iA f4),(5,.ref 1001 0 1)],[(1001,.arr 5 [wF a 1101] ⟨false,true⟩),(1101,vW a f4 0)]⟩) Z ?_;unfold vW;refine WW ?_;refine zU (a.legs) [1101,7,1001] [7,1001] [1,5,7,11,12,13,19] [20,1,5,7,11,12,13,19] Z (λi ga T U=>⟨(20,iA i)::T,(1101,.arr 5 ((qI a.legs f4 i).map yO) false)::U⟩) (Lq ?_ ?_)
 .intro k ga g post u hk;have G:=zW u hk;have O:=qV f4 u hk;have z:=uL f4 u hk;have I:((qI a.legs f4 k).map yO).length=ln a.legs:=by rw[zAt,uK]
  have A:∀y:AV,(((qI a.legs f4 k).map yO).set k y)[k]? =some y:=λy=>zBs zB
  have B:=eG g f4;rw[z];clear u z;generalize (qI a.legs f4 k).map yO=ys,fB g f4=M at *
  (have gd:=B;(repeat' (first|refine uS ?_|apply yW|apply xH|intro hc|fail))<;>clear gd)
  rfl
 refine WW ?_;refine yB (st0:=⟨[(13,iA 1),(11,.ref 1001 0 1),(12,iA 1),(1,iA f4),(5,.ref 1001 0 1)],[(1001,.arr 5 [wF a 1101] ⟨false,true⟩),(1101,vW a f4 (ln a.legs))]⟩) Z ?_;unfold vW;simp only[cV];refine WW ?_;refine zI [] Z Z ?_ Z
 show AV.sl false [.agg [iA a.id,iA a.vh,iA a.cls,iA a.til,.sl false (pi (a.legs.map yO).length (py 0 ((a.legs.map λg=>fB g f4).map yO)))]]=_
 simp only[uy];rfl
theorem Iu (a b:Rq) (M:1<=ln a.legs) (I:ln a.legs<=1000) (hb:1<=ln b.legs) (L:ln b.legs<=1000) (f4:Int):zN 177 [zE zY [a,b],iA f4] [] (zE zY (EQ [a,b] f4)) []:=by
 have S:=BZ a b M I hb L;have V:=zA yO a.legs;have W:=zA yO b.legs;refine eM call177 λF hF=>?_
 refine zS S ?_;refine wB 3 [1001,1101,1102] [13,11,12,1,5] Z ?_;refine yB (st0:=⟨[(13,iA 0),(11,.ref 1001 0 2),(12,iA 2),(1,iA f4),(5,.ref 1001 0 2)],[(1001,.arr 5 [wF a 1101,wF b 1102] ⟨true,true⟩),(1101,vW a f4 0),(1102,vW b f4 0)]⟩) Z ?_;unfold vW;refine WW ?_;refine zU (a.legs) [1101,7,1001,1102] [7,1001,1102] [1,5,7,11,12,13,19] [20,1,5,7,11,12,13,19] Z (λi ga T U=>⟨(20,iA i)::T,(1101,.arr 5 ((qI a.legs f4 i).map yO) false)::U⟩) (Lq ?_ ?_)
 .intro k ga g post u hk;have C:=zW u hk;have O:=qV f4 u hk;have z:=uL f4 u hk;have E:((qI a.legs f4 k).map yO).length=ln a.legs:=by rw[zAt,uK]
  have A:∀y:AV,(((qI a.legs f4 k).map yO).set k y)[k]? =some y:=λy=>zBs zB
  have B:=eG g f4;rw[z];clear u z;generalize (qI a.legs f4 k).map yO=ys,fB g f4=G at *
  (have gd:=B;(repeat' (first|refine uS ?_|apply yW|apply xH|intro hc|fail))<;>clear gd)
  rfl
 refine WW ?_;refine yB (st0:=⟨[(13,iA 1),(11,.ref 1001 0 2),(12,iA 2),(1,iA f4),(5,.ref 1001 0 2)],[(1001,.arr 5 [wF a 1101,wF b 1102] ⟨true,true⟩),(1101,vW a f4 (ln a.legs)),(1102,vW b f4 0)]⟩) Z ?_;unfold vW;refine WW ?_;refine zU (b.legs) [1102,7,1001,1101] [7,1001,1101] [1,5,7,11,12,13,19] [20,1,5,7,11,12,13,19] Z (λi ga T U=>⟨(20,iA i)::T,(1102,.arr 5 ((qI b.legs f4 i).map yO) false)::U⟩) (Lq ?_ ?_)
 .intro k ga g post u hk;have C:=zW u hk;have O:=qV f4 u hk;have z:=uL f4 u hk;have E:((qI b.legs f4 k).map yO).length=ln b.legs:=by rw[zAt,uK]
  have A:∀y:AV,(((qI b.legs f4 k).map yO).set k y)[k]? =some y:=λy=>zBs zB
  have B:=eG g f4;rw[z];clear u z;generalize (qI b.legs f4 k).map yO=ys,fB g f4=G at *
  (have gd:=B;(repeat' (first|refine uS ?_|apply yW|apply xH|intro hc|fail))<;>clear gd)
  rfl
 refine WW ?_;refine yB (st0:=⟨[(13,iA 2),(11,.ref 1001 0 2),(12,iA 2),(1,iA f4),(5,.ref 1001 0 2)],[(1001,.arr 5 [wF a 1101,wF b 1102] ⟨true,true⟩),(1101,vW a f4 (ln a.legs)),(1102,vW b f4 (ln b.legs))]⟩) Z ?_;unfold vW;simp only[cV];refine WW ?_;refine zI [] Z Z ?_ Z
 show AV.sl false [.agg [iA a.id,iA a.vh,iA a.cls,iA a.til,.sl false (pi (a.legs.map yO).length (py 0 ((a.legs.map λg=>fB g f4).map yO)))],.agg [iA b.id,iA b.vh,iA b.cls,iA b.til,.sl false (pi (b.legs.map yO).length (py 0 ((b.legs.map λg=>fB g f4).map yO)))]]=_
 simp only[uy];rfl
theorem Hu (a b c:Rq) (O:1<=ln a.legs) (L:ln a.legs<=1000) (hb:1<=ln b.legs) (M:ln b.legs<=1000) (hc:1<=ln c.legs) (gc:ln c.legs<=1000) (f4:Int):zN 177 [zE zY [a,b,c],iA f4] [] (zE zY (EQ [a,b,c] f4)) []:=by
 have S:=AA a b c O L hb M hc gc;have V:=zA yO a.legs;have W:=zA yO b.legs;have Y:=zA yO c.legs;refine eM call177 λF hF=>?_
 refine zS S ?_;refine wB 4 [1001,1101,1102,1103] [13,11,12,1,5] Z ?_;refine yB (st0:=⟨[(13,iA 0),(11,.ref 1001 0 3),(12,iA 3),(1,iA f4),(5,.ref 1001 0 3)],[(1001,.arr 5 [wF a 1101,wF b 1102,wF c 1103] ⟨true,true⟩),(1101,vW a f4 0),(1102,vW b f4 0),(1103,vW c f4 0)]⟩) Z ?_;unfold vW;refine WW ?_;refine zU (a.legs) [1101,7,1001,1102,1103] [7,1001,1102,1103] [1,5,7,11,12,13,19] [20,1,5,7,11,12,13,19] Z (λi ga T U=>⟨(20,iA i)::T,(1101,.arr 5 ((qI a.legs f4 i).map yO) false)::U⟩) (Lq ?_ ?_)
 .intro k ga g post u hk;have C:=zW u hk;have I:=qV f4 u hk;have z:=uL f4 u hk;have E:((qI a.legs f4 k).map yO).length=ln a.legs:=by rw[zAt,uK]
  have A:∀y:AV,(((qI a.legs f4 k).map yO).set k y)[k]? =some y:=λy=>zBs zB
  have B:=eG g f4;rw[z];clear u z;generalize (qI a.legs f4 k).map yO=ys,fB g f4=G at *
  (have gd:=B;(repeat' (first|refine uS ?_|apply yW|apply xH|intro hc|fail))<;>clear gd)
  rfl
 refine WW ?_;refine yB (st0:=⟨[(13,iA 1),(11,.ref 1001 0 3),(12,iA 3),(1,iA f4),(5,.ref 1001 0 3)],[(1001,.arr 5 [wF a 1101,wF b 1102,wF c 1103] ⟨true,true⟩),(1101,vW a f4 (ln a.legs)),(1102,vW b f4 0),(1103,vW c f4 0)]⟩) Z ?_;unfold vW;refine WW ?_;refine zU (b.legs) [1102,7,1001,1101,1103] [7,1001,1101,1103] [1,5,7,11,12,13,19] [20,1,5,7,11,12,13,19] Z (λi ga T U=>⟨(20,iA i)::T,(1102,.arr 5 ((qI b.legs f4 i).map yO) false)::U⟩) (Lq ?_ ?_)
 .intro k ga g post u hk;have C:=zW u hk;have I:=qV f4 u hk;have z:=uL f4 u hk;have E:((qI b.legs f4 k).map yO).length=ln b.legs:=by rw[zAt,uK]
  have A:∀y:AV,(((qI b.legs f4 k).map yO).set k y)[k]? =some y:=λy=>zBs zB
  have B:=eG g f4;rw[z];clear u z;generalize (qI b.legs f4 k).map yO=ys,fB g f4=G at *
  (have gd:=B;(repeat' (first|refine uS ?_|apply yW|apply xH|intro hc|fail))<;>clear gd)
  rfl
 refine WW ?_;refine yB (st0:=⟨[(13,iA 2),(11,.ref 1001 0 3),(12,iA 3),(1,iA f4),(5,.ref 1001 0 3)],[(1001,.arr 5 [wF a 1101,wF b 1102,wF c 1103] ⟨true,true⟩),(1101,vW a f4 (ln a.legs)),(1102,vW b f4 (ln b.legs)),(1103,vW c f4 0)]⟩) Z ?_;unfold vW;refine WW ?_;refine zU (c.legs) [1103,7,1001,1101,1102] [7,1001,1101,1102] [1,5,7,11,12,13,19] [20,1,5,7,11,12,13,19] Z (λi ga T U=>⟨(20,iA i)::T,(1103,.arr 5 ((qI c.legs f4 i).map yO) false)::U⟩) (Lq ?_ ?_)
 .intro k ga g post u hk;have C:=zW u hk;have I:=qV f4 u hk;have z:=uL f4 u hk;have E:((qI c.legs f4 k).map yO).length=ln c.legs:=by rw[zAt,uK]
  have A:∀y:AV,(((qI c.legs f4 k).map yO).set k y)[k]? =some y:=λy=>zBs zB
  have B:=eG g f4;rw[z];clear u z;generalize (qI c.legs f4 k).map yO=ys,fB g f4=G at *
  (have gd:=B;(repeat' (first|refine uS ?_|apply yW|apply xH|intro hc|fail))<;>clear gd)
  rfl
 refine WW ?_;refine yB (st0:=⟨[(13,iA 3),(11,.ref 1001 0 3),(12,iA 3),(1,iA f4),(5,.ref 1001 0 3)],[(1001,.arr 5 [wF a 1101,wF b 1102,wF c 1103] ⟨true,true⟩),(1101,vW a f4 (ln a.legs)),(1102,vW b f4 (ln b.legs)),(1103,vW c f4 (ln c.legs))]⟩) Z ?_;unfold vW;simp only[cV];refine WW ?_;refine zI [] Z Z ?_ Z
 show AV.sl false [.agg [iA a.id,iA a.vh,iA a.cls,iA a.til,.sl false (pi (a.legs.map yO).length (py 0 ((a.legs.map λg=>fB g f4).map yO)))],.agg [iA b.id,iA b.vh,iA b.cls,iA b.til,.sl false (pi (b.legs.map yO).length (py 0 ((b.legs.map λg=>fB g f4).map yO)))],.agg [iA c.id,iA c.vh,iA c.cls,iA c.til,.sl false (pi (c.legs.map yO).length (py 0 ((c.legs.map λg=>fB g f4).map yO)))]]=_
 simp only[uy];rfl
theorem Gu (a b c d:Rq) (S:1<=ln a.legs) (L:ln a.legs<=1000) (hb:1<=ln b.legs) (M:ln b.legs<=1000) (hc:1<=ln c.legs) (gc:ln c.legs<=1000) (hd:1<=ln d.legs) (O:ln d.legs<=1000) (f4:Int):zN 177 [zE zY [a,b,c,d],iA f4] [] (zE zY (EQ [a,b,c,d] f4)) []:=by
 have V:=AB a b c d S L hb M hc gc hd O;have W:=zA yO a.legs;have Y:=zA yO b.legs;have lc:=zA yO c.legs;have ld:=zA yO d.legs;refine eM call177 λF hF=>?_
 refine zS V ?_;refine wB 5 [1001,1101,1102,1103,1104] [13,11,12,1,5] Z ?_;refine yB (st0:=⟨[(13,iA 0),(11,.ref 1001 0 4),(12,iA 4),(1,iA f4),(5,.ref 1001 0 4)],[(1001,.arr 5 [wF a 1101,wF b 1102,wF c 1103,wF d 1104] ⟨true,true⟩),(1101,vW a f4 0),(1102,vW b f4 0),(1103,vW c f4 0),(1104,vW d f4 0)]⟩) Z ?_;unfold vW;refine WW ?_;refine zU (a.legs) [1101,7,1001,1102,1103,1104] [7,1001,1102,1103,1104] [1,5,7,11,12,13,19] [20,1,5,7,11,12,13,19] Z (λi ga T U=>⟨(20,iA i)::T,(1101,.arr 5 ((qI a.legs f4 i).map yO) false)::U⟩) (Lq ?_ ?_)
 .intro k ga g post u hk;have C:=zW u hk;have I:=qV f4 u hk;have z:=uL f4 u hk;have E:((qI a.legs f4 k).map yO).length=ln a.legs:=by rw[zAt,uK]
  have A:∀y:AV,(((qI a.legs f4 k).map yO).set k y)[k]? =some y:=λy=>zBs zB
  have B:=eG g f4;rw[z];clear u z;generalize (qI a.legs f4 k).map yO=ys,fB g f4=G at *
  (have gd:=B;(repeat' (first|refine uS ?_|apply yW|apply xH|intro hc|fail))<;>clear gd)
  rfl
 refine WW ?_;refine yB (st0:=⟨[(13,iA 1),(11,.ref 1001 0 4),(12,iA 4),(1,iA f4),(5,.ref 1001 0 4)],[(1001,.arr 5 [wF a 1101,wF b 1102,wF c 1103,wF d 1104] ⟨true,true⟩),(1101,vW a f4 (ln a.legs)),(1102,vW b f4 0),(1103,vW c f4 0),(1104,vW d f4 0)]⟩) Z ?_;unfold vW;refine WW ?_;refine zU (b.legs) [1102,7,1001,1101,1103,1104] [7,1001,1101,1103,1104] [1,5,7,11,12,13,19] [20,1,5,7,11,12,13,19] Z (λi ga T U=>⟨(20,iA i)::T,(1102,.arr 5 ((qI b.legs f4 i).map yO) false)::U⟩) (Lq ?_ ?_)
 .intro k ga g post u hk;have C:=zW u hk;have I:=qV f4 u hk;have z:=uL f4 u hk;have E:((qI b.legs f4 k).map yO).length=ln b.legs:=by rw[zAt,uK]
  have A:∀y:AV,(((qI b.legs f4 k).map yO).set k y)[k]? =some y:=λy=>zBs zB
  have B:=eG g f4;rw[z];clear u z;generalize (qI b.legs f4 k).map yO=ys,fB g f4=G at *
  (have gd:=B;(repeat' (first|refine uS ?_|apply yW|apply xH|intro hc|fail))<;>clear gd)
  rfl
 refine WW ?_;refine yB (st0:=⟨[(13,iA 2),(11,.ref 1001 0 4),(12,iA 4),(1,iA f4),(5,.ref 1001 0 4)],[(1001,.arr 5 [wF a 1101,wF b 1102,wF c 1103,wF d 1104] ⟨true,true⟩),(1101,vW a f4 (ln a.legs)),(1102,vW b f4 (ln b.legs)),(1103,vW c f4 0),(1104,vW d f4 0)]⟩) Z ?_;unfold vW;refine WW ?_;refine zU (c.legs) [1103,7,1001,1101,1102,1104] [7,1001,1101,1102,1104] [1,5,7,11,12,13,19] [20,1,5,7,11,12,13,19] Z (λi ga T U=>⟨(20,iA i)::T,(1103,.arr 5 ((qI c.legs f4 i).map yO) false)::U⟩) (Lq ?_ ?_)
 .intro k ga g post u hk;have C:=zW u hk;have I:=qV f4 u hk;have z:=uL f4 u hk;have E:((qI c.legs f4 k).map yO).length=ln c.legs:=by rw[zAt,uK]
  have A:∀y:AV,(((qI c.legs f4 k).map yO).set k y)[k]? =some y:=λy=>zBs zB
  have B:=eG g f4;rw[z];clear u z;generalize (qI c.legs f4 k).map yO=ys,fB g f4=G at *
  (have gd:=B;(repeat' (first|refine uS ?_|apply yW|apply xH|intro hc|fail))<;>clear gd)
  rfl
 refine WW ?_;refine yB (st0:=⟨[(13,iA 3),(11,.ref 1001 0 4),(12,iA 4),(1,iA f4),(5,.ref 1001 0 4)],[(1001,.arr 5 [wF a 1101,wF b 1102,wF c 1103,wF d 1104] ⟨true,true⟩),(1101,vW a f4 (ln a.legs)),(1102,vW b f4 (ln b.legs)),(1103,vW c f4 (ln c.legs)),(1104,vW d f4 0)]⟩) Z ?_;unfold vW;refine WW ?_;refine zU (d.legs) [1104,7,1001,1101,1102,1103] [7,1001,1101,1102,1103] [1,5,7,11,12,13,19] [20,1,5,7,11,12,13,19] Z (λi ga T U=>⟨(20,iA i)::T,(1104,.arr 5 ((qI d.legs f4 i).map yO) false)::U⟩) (Lq ?_ ?_)
 .intro k ga g post u hk;have C:=zW u hk;have I:=qV f4 u hk;have z:=uL f4 u hk;have E:((qI d.legs f4 k).map yO).length=ln d.legs:=by rw[zAt,uK]
  have A:∀y:AV,(((qI d.legs f4 k).map yO).set k y)[k]? =some y:=λy=>zBs zB
  have B:=eG g f4;rw[z];clear u z;generalize (qI d.legs f4 k).map yO=ys,fB g f4=G at *
  (have gd:=B;(repeat' (first|refine uS ?_|apply yW|apply xH|intro hc|fail))<;>clear gd)
  rfl
 refine WW ?_;refine yB (st0:=⟨[(13,iA 4),(11,.ref 1001 0 4),(12,iA 4),(1,iA f4),(5,.ref 1001 0 4)],[(1001,.arr 5 [wF a 1101,wF b 1102,wF c 1103,wF d 1104] ⟨true,true⟩),(1101,vW a f4 (ln a.legs)),(1102,vW b f4 (ln b.legs)),(1103,vW c f4 (ln c.legs)),(1104,vW d f4 (ln d.legs))]⟩) Z ?_;unfold vW;simp only[cV];refine WW ?_;refine zI [] Z Z ?_ Z
 show AV.sl false [.agg [iA a.id,iA a.vh,iA a.cls,iA a.til,.sl false (pi (a.legs.map yO).length (py 0 ((a.legs.map λg=>fB g f4).map yO)))],.agg [iA b.id,iA b.vh,iA b.cls,iA b.til,.sl false (pi (b.legs.map yO).length (py 0 ((b.legs.map λg=>fB g f4).map yO)))],.agg [iA c.id,iA c.vh,iA c.cls,iA c.til,.sl false (pi (c.legs.map yO).length (py 0 ((c.legs.map λg=>fB g f4).map yO)))],.agg [iA d.id,iA d.vh,iA d.cls,iA d.til,.sl false (pi (d.legs.map yO).length (py 0 ((d.legs.map λg=>fB g f4).map yO)))]]=_
 simp only[uy];rfl
def qo (a:Rq) (A:1<=ln a.legs) (z:ln a.legs<=1000):zN 187 [zE zY [a]] [] (.ref 1001 0 1) [(1001,.arr 5 [wF a 1101] ⟨false,true⟩),(1101,qE a)]:=by
 have B:=zA yO a.legs;refine eM call187 λF hF=>?_
 refine WW ?_;refine zQ 3 1001 5 Z Z Z ?_;refine wB 2 [1001,1101] [3,8,6,7] Z ?_;refine yB (st0:=⟨[(3,.ref 1001 0 0),(8,iA 0),(6,.sl false [zY a]),(7,iA 1)],[(1001,.arr 5 [] ⟨true,false⟩)]⟩) Z ?_
 (repeat' (first|refine jZ ?_|apply yW|apply xH|intro hc|(apply zG;first|(apply yC;refine xG 1101 tok Z Z Z Z Z Z (yM _ _ (λ_=>rfl)) Z Z Z zB Z Z Z ?_)|(apply yH;refine qF (xs:=[_]) 1002 tok Z Z Z Z Z Z Z Z Z Z Z Z ?_)|(apply yC;first|refine wA tok Z Z Z Z Z Z Z (by intro y u;cases u;rfl) Z Z Z zV Z ?_|refine wN tok Z Z Z Z Z Z Z Z Z Z Z (by intro y u;cases u;rfl) zV Z ?_))|refine SB ?_|fail))
 refine yB (st0:=⟨[(3,.ref 1001 0 1),(8,iA 1),(6,.sl false [zY a]),(7,iA 1)],[(1001,.arr 5 [wF a 1101] ⟨false,true⟩),(1101,qE a)]⟩) Z ?_;refine WW ?_;exact zP [1001,1101] Z Z Z Z
def jo (a b:Rq) (B:1<=ln a.legs) (z:ln a.legs<=1000) (hb:1<=ln b.legs) (A:ln b.legs<=1000):zN 187 [zE zY [a,b]] [] (.ref 1001 0 2) [(1001,.arr 5 [wF a 1101,wF b 1102] ⟨true,true⟩),(1101,qE a),(1102,qE b)]:=by
 have C:=zA yO a.legs;have E:=zA yO b.legs;refine eM call187 λF hF=>?_
 refine WW ?_;refine zQ 3 1001 5 Z Z Z ?_;refine wB 3 [1001,1101,1102] [3,8,6,7] Z ?_;refine yB (st0:=⟨[(3,.ref 1001 0 0),(8,iA 0),(6,.sl false [zY a,zY b]),(7,iA 2)],[(1001,.arr 5 [] ⟨true,false⟩)]⟩) Z ?_
 (repeat' (first|refine jZ ?_|apply yW|apply xH|intro hc|(apply zG;first|(apply yC;refine xG 1101 tok Z Z Z Z Z Z (yM _ _ (λ_=>rfl)) Z Z Z zB Z Z Z ?_)|(apply yH;refine qF (xs:=[_]) 1002 tok Z Z Z Z Z Z Z Z Z Z Z Z ?_)|(apply yC;first|refine wA tok Z Z Z Z Z Z Z (by intro y u;cases u;rfl) Z Z Z zV Z ?_|refine wN tok Z Z Z Z Z Z Z Z Z Z Z (by intro y u;cases u;rfl) zV Z ?_))|refine SB ?_|fail))
 refine yB (st0:=⟨[(3,.ref 1001 0 1),(8,iA 1),(6,.sl false [zY a,zY b]),(7,iA 2)],[(1001,.arr 5 [wF a 1101] ⟨false,true⟩),(1101,qE a)]⟩) Z ?_
 (repeat' (first|refine jZ ?_|apply yW|apply xH|intro hc|(apply zG;first|(apply yC;refine xG 1102 tok Z Z Z Z Z Z (yM _ _ (λ_=>rfl)) Z Z Z zB Z Z Z ?_)|(apply yH;refine qF (xs:=[_]) 1002 tok Z Z Z Z Z Z Z Z Z Z Z Z ?_)|(apply yC;first|refine wA tok Z Z Z Z Z Z Z (by intro y u;cases u;rfl) Z Z Z zV Z ?_|refine wN tok Z Z Z Z Z Z Z Z Z Z Z (by intro y u;cases u;rfl) zV Z ?_))|refine SB ?_|fail))
 refine yB (st0:=⟨[(3,.ref 1001 0 2),(8,iA 2),(6,.sl false [zY a,zY b]),(7,iA 2)],[(1001,.arr 5 [wF a 1101,wF b 1102] ⟨true,true⟩),(1101,qE a),(1102,qE b)]⟩) Z ?_;refine WW ?_;exact zP [1001,1101,1102] Z Z Z Z
def eo (a b c:Rq) (B:1<=ln a.legs) (z:ln a.legs<=1000) (hb:1<=ln b.legs) (A:ln b.legs<=1000) (hc:1<=ln c.legs) (gc:ln c.legs<=1000):zN 187 [zE zY [a,b,c]] [] (.ref 1001 0 3) [(1001,.arr 5 [wF a 1101,wF b 1102,wF c 1103] ⟨true,true⟩),(1101,qE a),(1102,qE b),(1103,qE c)]:=by
 have C:=zA yO a.legs;have E:=zA yO b.legs;have G:=zA yO c.legs;refine eM call187 λF hF=>?_
 refine WW ?_;refine zQ 3 1001 5 Z Z Z ?_;refine wB 4 [1001,1101,1102,1103] [3,8,6,7] Z ?_;refine yB (st0:=⟨[(3,.ref 1001 0 0),(8,iA 0),(6,.sl false [zY a,zY b,zY c]),(7,iA 3)],[(1001,.arr 5 [] ⟨true,false⟩)]⟩) Z ?_
 (repeat' (first|refine jZ ?_|apply yW|apply xH|intro hc|(apply zG;first|(apply yC;refine xG 1101 tok Z Z Z Z Z Z (yM _ _ (λ_=>rfl)) Z Z Z zB Z Z Z ?_)|(apply yH;refine qF (xs:=[_]) 1002 tok Z Z Z Z Z Z Z Z Z Z Z Z ?_)|(apply yC;first|refine wA tok Z Z Z Z Z Z Z (by intro y u;cases u;rfl) Z Z Z zV Z ?_|refine wN tok Z Z Z Z Z Z Z Z Z Z Z (by intro y u;cases u;rfl) zV Z ?_))|refine SB ?_|fail))
 refine yB (st0:=⟨[(3,.ref 1001 0 1),(8,iA 1),(6,.sl false [zY a,zY b,zY c]),(7,iA 3)],[(1001,.arr 5 [wF a 1101] ⟨false,true⟩),(1101,qE a)]⟩) Z ?_
 (repeat' (first|refine jZ ?_|apply yW|apply xH|intro hc|(apply zG;first|(apply yC;refine xG 1102 tok Z Z Z Z Z Z (yM _ _ (λ_=>rfl)) Z Z Z zB Z Z Z ?_)|(apply yH;refine qF (xs:=[_]) 1002 tok Z Z Z Z Z Z Z Z Z Z Z Z ?_)|(apply yC;first|refine wA tok Z Z Z Z Z Z Z (by intro y u;cases u;rfl) Z Z Z zV Z ?_|refine wN tok Z Z Z Z Z Z Z Z Z Z Z (by intro y u;cases u;rfl) zV Z ?_))|refine SB ?_|fail))
 refine yB (st0:=⟨[(3,.ref 1001 0 2),(8,iA 2),(6,.sl false [zY a,zY b,zY c]),(7,iA 3)],[(1001,.arr 5 [wF a 1101,wF b 1102] ⟨true,true⟩),(1101,qE a),(1102,qE b)]⟩) Z ?_
 (repeat' (first|refine jZ ?_|apply yW|apply xH|intro hc|(apply zG;first|(apply yC;refine xG 1103 tok Z Z Z Z Z Z (yM _ _ (λ_=>rfl)) Z Z Z zB Z Z Z ?_)|(apply yH;refine qF (xs:=[_]) 1002 tok Z Z Z Z Z Z Z Z Z Z Z Z ?_)|(apply yC;first|refine wA tok Z Z Z Z Z Z Z (by intro y u;cases u;rfl) Z Z Z zV Z ?_|refine wN tok Z Z Z Z Z Z Z Z Z Z Z (by intro y u;cases u;rfl) zV Z ?_))|refine SB ?_|fail))
 refine yB (st0:=⟨[(3,.ref 1001 0 3),(8,iA 3),(6,.sl false [zY a,zY b,zY c]),(7,iA 3)],[(1001,.arr 5 [wF a 1101,wF b 1102,wF c 1103] ⟨true,true⟩),(1101,qE a),(1102,qE b),(1103,qE c)]⟩) Z ?_;refine WW ?_;exact zP [1001,1101,1102,1103] Z Z Z Z
theorem bo (a b c d:Rq) (C:1<=ln a.legs) (z:ln a.legs<=1000) (hb:1<=ln b.legs) (A:ln b.legs<=1000) (hc:1<=ln c.legs) (gc:ln c.legs<=1000) (hd:1<=ln d.legs) (B:ln d.legs<=1000):zN 187 [zE zY [a,b,c,d]] [] (.ref 1001 0 4) [(1001,.arr 5 [wF a 1101,wF b 1102,wF c 1103,wF d 1104] ⟨true,true⟩),(1101,qE a),(1102,qE b),(1103,qE c),(1104,qE d)]:=by
 have E:=zA yO a.legs;have G:=zA yO b.legs;have I:=zA yO c.legs;have L:=zA yO d.legs;refine eM call187 λF hF=>?_
 refine WW ?_;refine zQ 3 1001 5 Z Z Z ?_;refine wB 5 [1001,1101,1102,1103,1104] [3,8,6,7] Z ?_;refine yB (st0:=⟨[(3,.ref 1001 0 0),(8,iA 0),(6,.sl false [zY a,zY b,zY c,zY d]),(7,iA 4)],[(1001,.arr 5 [] ⟨true,false⟩)]⟩) Z ?_
 (repeat' (first|refine jZ ?_|apply yW|apply xH|intro hc|(apply zG;first|(apply yC;refine xG 1101 tok Z Z Z Z Z Z (yM _ _ (λ_=>rfl)) Z Z Z zB Z Z Z ?_)|(apply yH;refine qF (xs:=[_]) 1002 tok Z Z Z Z Z Z Z Z Z Z Z Z ?_)|(apply yC;first|refine wA tok Z Z Z Z Z Z Z (by intro y u;cases u;rfl) Z Z Z zV Z ?_|refine wN tok Z Z Z Z Z Z Z Z Z Z Z (by intro y u;cases u;rfl) zV Z ?_))|refine SB ?_|fail))
 refine yB (st0:=⟨[(3,.ref 1001 0 1),(8,iA 1),(6,.sl false [zY a,zY b,zY c,zY d]),(7,iA 4)],[(1001,.arr 5 [wF a 1101] ⟨false,true⟩),(1101,qE a)]⟩) Z ?_
 (repeat' (first|refine jZ ?_|apply yW|apply xH|intro hc|(apply zG;first|(apply yC;refine xG 1102 tok Z Z Z Z Z Z (yM _ _ (λ_=>rfl)) Z Z Z zB Z Z Z ?_)|(apply yH;refine qF (xs:=[_]) 1002 tok Z Z Z Z Z Z Z Z Z Z Z Z ?_)|(apply yC;first|refine wA tok Z Z Z Z Z Z Z (by intro y u;cases u;rfl) Z Z Z zV Z ?_|refine wN tok Z Z Z Z Z Z Z Z Z Z Z (by intro y u;cases u;rfl) zV Z ?_))|refine SB ?_|fail))
 refine yB (st0:=⟨[(3,.ref 1001 0 2),(8,iA 2),(6,.sl false [zY a,zY b,zY c,zY d]),(7,iA 4)],[(1001,.arr 5 [wF a 1101,wF b 1102] ⟨true,true⟩),(1101,qE a),(1102,qE b)]⟩) Z ?_
 (repeat' (first|refine jZ ?_|apply yW|apply xH|intro hc|(apply zG;first|(apply yC;refine xG 1103 tok Z Z Z Z Z Z (yM _ _ (λ_=>rfl)) Z Z Z zB Z Z Z ?_)|(apply yH;refine qF (xs:=[_]) 1002 tok Z Z Z Z Z Z Z Z Z Z Z Z ?_)|(apply yC;first|refine wA tok Z Z Z Z Z Z Z (by intro y u;cases u;rfl) Z Z Z zV Z ?_|refine wN tok Z Z Z Z Z Z Z Z Z Z Z (by intro y u;cases u;rfl) zV Z ?_))|refine SB ?_|fail))
 refine yB (st0:=⟨[(3,.ref 1001 0 3),(8,iA 3),(6,.sl false [zY a,zY b,zY c,zY d]),(7,iA 4)],[(1001,.arr 5 [wF a 1101,wF b 1102,wF c 1103] ⟨true,true⟩),(1101,qE a),(1102,qE b),(1103,qE c)]⟩) Z ?_
 (repeat' (first|refine jZ ?_|apply yW|apply xH|intro hc|(apply zG;first|(apply yC;refine xG 1104 tok Z Z Z Z Z Z (yM _ _ (λ_=>rfl)) Z Z Z zB Z Z Z ?_)|(apply yH;refine qF (xs:=[_]) 1002 tok Z Z Z Z Z Z Z Z Z Z Z Z ?_)|(apply yC;first|refine wA tok Z Z Z Z Z Z Z (by intro y u;cases u;rfl) Z Z Z zV Z ?_|refine wN tok Z Z Z Z Z Z Z Z Z Z Z (by intro y u;cases u;rfl) zV Z ?_))|refine SB ?_|fail))
 refine yB (st0:=⟨[(3,.ref 1001 0 4),(8,iA 4),(6,.sl false [zY a,zY b,zY c,zY d]),(7,iA 4)],[(1001,.arr 5 [wF a 1101,wF b 1102,wF c 1103,wF d 1104] ⟨true,true⟩),(1101,qE a),(1102,qE b),(1103,qE c),(1104,qE d)]⟩) Z ?_;refine WW ?_;exact zP [1001,1101,1102,1103,1104] Z Z Z Z
def ao (a:Rq) (E:1<=ln a.legs) (C:ln a.legs<=1000) (f4:Int):zN 132 [zE zY [a],iA f4] [] (zE zY (EQ [a] f4)) []:=by
 have L:=qo a E C;have S:=zA yO a.legs;refine eM call132 λF hF=>?_
 refine zS L ?_;refine wB 2 [1001,1101] [14,12,13,1,5] Z ?_;refine yB (st0:=⟨[(14,iA 0),(12,.ref 1001 0 1),(13,iA 1),(1,iA f4),(5,.ref 1001 0 1)],[(1001,.arr 5 [wF a 1101] ⟨false,true⟩),(1101,vW a f4 0)]⟩) Z ?_;unfold vW;refine WW ?_;refine zU (a.legs) [1101,7,1001] [7,1001] [1,5,7,12,13,14,19,20] [21,1,5,7,12,13,14,19,20] Z (λi ga T U=>⟨(21,iA i)::T,(1101,.arr 5 ((qI a.legs f4 i).map yO) false)::U⟩) (Lq ?_ ?_)
 .intro k ga g post u hk;have G:=zW u hk;have O:=qV f4 u hk;have z:=uL f4 u hk;have I:((qI a.legs f4 k).map yO).length=ln a.legs:=by rw[zAt,uK]
  have A:∀y:AV,(((qI a.legs f4 k).map yO).set k y)[k]? =some y:=λy=>zBs zB
  have B:=gA g f4;rw[z];clear u z;generalize (qI a.legs f4 k).map yO=ys,fB g f4=M at *
  (have gd:=B;(repeat' (first|refine uS ?_|apply yW|apply xH|intro hc|fail))<;>clear gd)
  rfl
 refine WW ?_;refine yB (st0:=⟨[(14,iA 1),(12,.ref 1001 0 1),(13,iA 1),(1,iA f4),(5,.ref 1001 0 1)],[(1001,.arr 5 [wF a 1101] ⟨false,true⟩),(1101,vW a f4 (ln a.legs))]⟩) Z ?_;unfold vW;simp only[cV];refine WW ?_;refine zI [] Z Z ?_ Z
 show AV.sl false [.agg [iA a.id,iA a.vh,iA a.cls,iA a.til,.sl false (pi (a.legs.map yO).length (py 0 ((a.legs.map λg=>fB g f4).map yO)))]]=_
 simp only[uy];rfl
theorem mo (a b:Rq) (M:1<=ln a.legs) (I:ln a.legs<=1000) (hb:1<=ln b.legs) (L:ln b.legs<=1000) (f4:Int):zN 132 [zE zY [a,b],iA f4] [] (zE zY (EQ [a,b] f4)) []:=by
 have S:=jo a b M I hb L;have V:=zA yO a.legs;have W:=zA yO b.legs;refine eM call132 λF hF=>?_
 refine zS S ?_;refine wB 3 [1001,1101,1102] [14,12,13,1,5] Z ?_;refine yB (st0:=⟨[(14,iA 0),(12,.ref 1001 0 2),(13,iA 2),(1,iA f4),(5,.ref 1001 0 2)],[(1001,.arr 5 [wF a 1101,wF b 1102] ⟨true,true⟩),(1101,vW a f4 0),(1102,vW b f4 0)]⟩) Z ?_;unfold vW;refine WW ?_;refine zU (a.legs) [1101,7,1001,1102] [7,1001,1102] [1,5,7,12,13,14,19,20] [21,1,5,7,12,13,14,19,20] Z (λi ga T U=>⟨(21,iA i)::T,(1101,.arr 5 ((qI a.legs f4 i).map yO) false)::U⟩) (Lq ?_ ?_)
 .intro k ga g post u hk;have C:=zW u hk;have O:=qV f4 u hk;have z:=uL f4 u hk;have E:((qI a.legs f4 k).map yO).length=ln a.legs:=by rw[zAt,uK]
  have A:∀y:AV,(((qI a.legs f4 k).map yO).set k y)[k]? =some y:=λy=>zBs zB
  have B:=gA g f4;rw[z];clear u z;generalize (qI a.legs f4 k).map yO=ys,fB g f4=G at *
  (have gd:=B;(repeat' (first|refine uS ?_|apply yW|apply xH|intro hc|fail))<;>clear gd)
  rfl
 refine WW ?_;refine yB (st0:=⟨[(14,iA 1),(12,.ref 1001 0 2),(13,iA 2),(1,iA f4),(5,.ref 1001 0 2)],[(1001,.arr 5 [wF a 1101,wF b 1102] ⟨true,true⟩),(1101,vW a f4 (ln a.legs)),(1102,vW b f4 0)]⟩) Z ?_;unfold vW;refine WW ?_;refine zU (b.legs) [1102,7,1001,1101] [7,1001,1101] [1,5,7,12,13,14,19,20] [21,1,5,7,12,13,14,19,20] Z (λi ga T U=>⟨(21,iA i)::T,(1102,.arr 5 ((qI b.legs f4 i).map yO) false)::U⟩) (Lq ?_ ?_)
 .intro k ga g post u hk;have C:=zW u hk;have O:=qV f4 u hk;have z:=uL f4 u hk;have E:((qI b.legs f4 k).map yO).length=ln b.legs:=by rw[zAt,uK]
  have A:∀y:AV,(((qI b.legs f4 k).map yO).set k y)[k]? =some y:=λy=>zBs zB
  have B:=gA g f4;rw[z];clear u z;generalize (qI b.legs f4 k).map yO=ys,fB g f4=G at *
  (have gd:=B;(repeat' (first|refine uS ?_|apply yW|apply xH|intro hc|fail))<;>clear gd)
  rfl
 refine WW ?_;refine yB (st0:=⟨[(14,iA 2),(12,.ref 1001 0 2),(13,iA 2),(1,iA f4),(5,.ref 1001 0 2)],[(1001,.arr 5 [wF a 1101,wF b 1102] ⟨true,true⟩),(1101,vW a f4 (ln a.legs)),(1102,vW b f4 (ln b.legs))]⟩) Z ?_;unfold vW;simp only[cV];refine WW ?_;refine zI [] Z Z ?_ Z
 show AV.sl false [.agg [iA a.id,iA a.vh,iA a.cls,iA a.til,.sl false (pi (a.legs.map yO).length (py 0 ((a.legs.map λg=>fB g f4).map yO)))],.agg [iA b.id,iA b.vh,iA b.cls,iA b.til,.sl false (pi (b.legs.map yO).length (py 0 ((b.legs.map λg=>fB g f4).map yO)))]]=_
 simp only[uy];rfl
theorem Zo (a b c:Rq) (O:1<=ln a.legs) (L:ln a.legs<=1000) (hb:1<=ln b.legs) (M:ln b.legs<=1000) (hc:1<=ln c.legs) (gc:ln c.legs<=1000) (f4:Int):zN 132 [zE zY [a,b,c],iA f4] [] (zE zY (EQ [a,b,c] f4)) []:=by
 have S:=eo a b c O L hb M hc gc;have V:=zA yO a.legs;have W:=zA yO b.legs;have Y:=zA yO c.legs;refine eM call132 λF hF=>?_
 refine zS S ?_;refine wB 4 [1001,1101,1102,1103] [14,12,13,1,5] Z ?_;refine yB (st0:=⟨[(14,iA 0),(12,.ref 1001 0 3),(13,iA 3),(1,iA f4),(5,.ref 1001 0 3)],[(1001,.arr 5 [wF a 1101,wF b 1102,wF c 1103] ⟨true,true⟩),(1101,vW a f4 0),(1102,vW b f4 0),(1103,vW c f4 0)]⟩) Z ?_;unfold vW;refine WW ?_;refine zU (a.legs) [1101,7,1001,1102,1103] [7,1001,1102,1103] [1,5,7,12,13,14,19,20] [21,1,5,7,12,13,14,19,20] Z (λi ga T U=>⟨(21,iA i)::T,(1101,.arr 5 ((qI a.legs f4 i).map yO) false)::U⟩) (Lq ?_ ?_)
 .intro k ga g post u hk;have C:=zW u hk;have I:=qV f4 u hk;have z:=uL f4 u hk;have E:((qI a.legs f4 k).map yO).length=ln a.legs:=by rw[zAt,uK]
  have A:∀y:AV,(((qI a.legs f4 k).map yO).set k y)[k]? =some y:=λy=>zBs zB
  have B:=gA g f4;rw[z];clear u z;generalize (qI a.legs f4 k).map yO=ys,fB g f4=G at *
  (have gd:=B;(repeat' (first|refine uS ?_|apply yW|apply xH|intro hc|fail))<;>clear gd)
  rfl
 refine WW ?_;refine yB (st0:=⟨[(14,iA 1),(12,.ref 1001 0 3),(13,iA 3),(1,iA f4),(5,.ref 1001 0 3)],[(1001,.arr 5 [wF a 1101,wF b 1102,wF c 1103] ⟨true,true⟩),(1101,vW a f4 (ln a.legs)),(1102,vW b f4 0),(1103,vW c f4 0)]⟩) Z ?_;unfold vW;refine WW ?_;refine zU (b.legs) [1102,7,1001,1101,1103] [7,1001,1101,1103] [1,5,7,12,13,14,19,20] [21,1,5,7,12,13,14,19,20] Z (λi ga T U=>⟨(21,iA i)::T,(1102,.arr 5 ((qI b.legs f4 i).map yO) false)::U⟩) (Lq ?_ ?_)
 .intro k ga g post u hk;have C:=zW u hk;have I:=qV f4 u hk;have z:=uL f4 u hk;have E:((qI b.legs f4 k).map yO).length=ln b.legs:=by rw[zAt,uK]
  have A:∀y:AV,(((qI b.legs f4 k).map yO).set k y)[k]? =some y:=λy=>zBs zB
  have B:=gA g f4;rw[z];clear u z;generalize (qI b.legs f4 k).map yO=ys,fB g f4=G at *
  (have gd:=B;(repeat' (first|refine uS ?_|apply yW|apply xH|intro hc|fail))<;>clear gd)
  rfl
 refine WW ?_;refine yB (st0:=⟨[(14,iA 2),(12,.ref 1001 0 3),(13,iA 3),(1,iA f4),(5,.ref 1001 0 3)],[(1001,.arr 5 [wF a 1101,wF b 1102,wF c 1103] ⟨true,true⟩),(1101,vW a f4 (ln a.legs)),(1102,vW b f4 (ln b.legs)),(1103,vW c f4 0)]⟩) Z ?_;unfold vW;refine WW ?_;refine zU (c.legs) [1103,7,1001,1101,1102] [7,1001,1101,1102] [1,5,7,12,13,14,19,20] [21,1,5,7,12,13,14,19,20] Z (λi ga T U=>⟨(21,iA i)::T,(1103,.arr 5 ((qI c.legs f4 i).map yO) false)::U⟩) (Lq ?_ ?_)
 .intro k ga g post u hk;have C:=zW u hk;have I:=qV f4 u hk;have z:=uL f4 u hk;have E:((qI c.legs f4 k).map yO).length=ln c.legs:=by rw[zAt,uK]
  have A:∀y:AV,(((qI c.legs f4 k).map yO).set k y)[k]? =some y:=λy=>zBs zB
  have B:=gA g f4;rw[z];clear u z;generalize (qI c.legs f4 k).map yO=ys,fB g f4=G at *
  (have gd:=B;(repeat' (first|refine uS ?_|apply yW|apply xH|intro hc|fail))<;>clear gd)
  rfl
 refine WW ?_;refine yB (st0:=⟨[(14,iA 3),(12,.ref 1001 0 3),(13,iA 3),(1,iA f4),(5,.ref 1001 0 3)],[(1001,.arr 5 [wF a 1101,wF b 1102,wF c 1103] ⟨true,true⟩),(1101,vW a f4 (ln a.legs)),(1102,vW b f4 (ln b.legs)),(1103,vW c f4 (ln c.legs))]⟩) Z ?_;unfold vW;simp only[cV];refine WW ?_;refine zI [] Z Z ?_ Z
 show AV.sl false [.agg [iA a.id,iA a.vh,iA a.cls,iA a.til,.sl false (pi (a.legs.map yO).length (py 0 ((a.legs.map λg=>fB g f4).map yO)))],.agg [iA b.id,iA b.vh,iA b.cls,iA b.til,.sl false (pi (b.legs.map yO).length (py 0 ((b.legs.map λg=>fB g f4).map yO)))],.agg [iA c.id,iA c.vh,iA c.cls,iA c.til,.sl false (pi (c.legs.map yO).length (py 0 ((c.legs.map λg=>fB g f4).map yO)))]]=_
 simp only[uy];rfl
theorem Yo (a b c d:Rq) (S:1<=ln a.legs) (L:ln a.legs<=1000) (hb:1<=ln b.legs) (M:ln b.legs<=1000) (hc:1<=ln c.legs) (gc:ln c.legs<=1000) (hd:1<=ln d.legs) (O:ln d.legs<=1000) (f4:Int):zN 132 [zE zY [a,b,c,d],iA f4] [] (zE zY (EQ [a,b,c,d] f4)) []:=by
 have V:=bo a b c d S L hb M hc gc hd O;have W:=zA yO a.legs;have Y:=zA yO b.legs;have lc:=zA yO c.legs;have ld:=zA yO d.legs;refine eM call132 λF hF=>?_
 refine zS V ?_;refine wB 5 [1001,1101,1102,1103,1104] [14,12,13,1,5] Z ?_;refine yB (st0:=⟨[(14,iA 0),(12,.ref 1001 0 4),(13,iA 4),(1,iA f4),(5,.ref 1001 0 4)],[(1001,.arr 5 [wF a 1101,wF b 1102,wF c 1103,wF d 1104] ⟨true,true⟩),(1101,vW a f4 0),(1102,vW b f4 0),(1103,vW c f4 0),(1104,vW d f4 0)]⟩) Z ?_;unfold vW;refine WW ?_;refine zU (a.legs) [1101,7,1001,1102,1103,1104] [7,1001,1102,1103,1104] [1,5,7,12,13,14,19,20] [21,1,5,7,12,13,14,19,20] Z (λi ga T U=>⟨(21,iA i)::T,(1101,.arr 5 ((qI a.legs f4 i).map yO) false)::U⟩) (Lq ?_ ?_)
 .intro k ga g post u hk;have C:=zW u hk;have I:=qV f4 u hk;have z:=uL f4 u hk;have E:((qI a.legs f4 k).map yO).length=ln a.legs:=by rw[zAt,uK]
  have A:∀y:AV,(((qI a.legs f4 k).map yO).set k y)[k]? =some y:=λy=>zBs zB
  have B:=gA g f4;rw[z];clear u z;generalize (qI a.legs f4 k).map yO=ys,fB g f4=G at *
  (have gd:=B;(repeat' (first|refine uS ?_|apply yW|apply xH|intro hc|fail))<;>clear gd)
  rfl
 refine WW ?_;refine yB (st0:=⟨[(14,iA 1),(12,.ref 1001 0 4),(13,iA 4),(1,iA f4),(5,.ref 1001 0 4)],[(1001,.arr 5 [wF a 1101,wF b 1102,wF c 1103,wF d 1104] ⟨true,true⟩),(1101,vW a f4 (ln a.legs)),(1102,vW b f4 0),(1103,vW c f4 0),(1104,vW d f4 0)]⟩) Z ?_;unfold vW;refine WW ?_;refine zU (b.legs) [1102,7,1001,1101,1103,1104] [7,1001,1101,1103,1104] [1,5,7,12,13,14,19,20] [21,1,5,7,12,13,14,19,20] Z (λi ga T U=>⟨(21,iA i)::T,(1102,.arr 5 ((qI b.legs f4 i).map yO) false)::U⟩) (Lq ?_ ?_)
 .intro k ga g post u hk;have C:=zW u hk;have I:=qV f4 u hk;have z:=uL f4 u hk;have E:((qI b.legs f4 k).map yO).length=ln b.legs:=by rw[zAt,uK]
  have A:∀y:AV,(((qI b.legs f4 k).map yO).set k y)[k]? =some y:=λy=>zBs zB
  have B:=gA g f4;rw[z];clear u z;generalize (qI b.legs f4 k).map yO=ys,fB g f4=G at *
  (have gd:=B;(repeat' (first|refine uS ?_|apply yW|apply xH|intro hc|fail))<;>clear gd)
  rfl
 refine WW ?_;refine yB (st0:=⟨[(14,iA 2),(12,.ref 1001 0 4),(13,iA 4),(1,iA f4),(5,.ref 1001 0 4)],[(1001,.arr 5 [wF a 1101,wF b 1102,wF c 1103,wF d 1104] ⟨true,true⟩),(1101,vW a f4 (ln a.legs)),(1102,vW b f4 (ln b.legs)),(1103,vW c f4 0),(1104,vW d f4 0)]⟩) Z ?_;unfold vW;refine WW ?_;refine zU (c.legs) [1103,7,1001,1101,1102,1104] [7,1001,1101,1102,1104] [1,5,7,12,13,14,19,20] [21,1,5,7,12,13,14,19,20] Z (λi ga T U=>⟨(21,iA i)::T,(1103,.arr 5 ((qI c.legs f4 i).map yO) false)::U⟩) (Lq ?_ ?_)
 .intro k ga g post u hk;have C:=zW u hk;have I:=qV f4 u hk;have z:=uL f4 u hk;have E:((qI c.legs f4 k).map yO).length=ln c.legs:=by rw[zAt,uK]
  have A:∀y:AV,(((qI c.legs f4 k).map yO).set k y)[k]? =some y:=λy=>zBs zB
  have B:=gA g f4;rw[z];clear u z;generalize (qI c.legs f4 k).map yO=ys,fB g f4=G at *
  (have gd:=B;(repeat' (first|refine uS ?_|apply yW|apply xH|intro hc|fail))<;>clear gd)
  rfl
 refine WW ?_;refine yB (st0:=⟨[(14,iA 3),(12,.ref 1001 0 4),(13,iA 4),(1,iA f4),(5,.ref 1001 0 4)],[(1001,.arr 5 [wF a 1101,wF b 1102,wF c 1103,wF d 1104] ⟨true,true⟩),(1101,vW a f4 (ln a.legs)),(1102,vW b f4 (ln b.legs)),(1103,vW c f4 (ln c.legs)),(1104,vW d f4 0)]⟩) Z ?_;unfold vW;refine WW ?_;refine zU (d.legs) [1104,7,1001,1101,1102,1103] [7,1001,1101,1102,1103] [1,5,7,12,13,14,19,20] [21,1,5,7,12,13,14,19,20] Z (λi ga T U=>⟨(21,iA i)::T,(1104,.arr 5 ((qI d.legs f4 i).map yO) false)::U⟩) (Lq ?_ ?_)
 .intro k ga g post u hk;have C:=zW u hk;have I:=qV f4 u hk;have z:=uL f4 u hk;have E:((qI d.legs f4 k).map yO).length=ln d.legs:=by rw[zAt,uK]
  have A:∀y:AV,(((qI d.legs f4 k).map yO).set k y)[k]? =some y:=λy=>zBs zB
  have B:=gA g f4;rw[z];clear u z;generalize (qI d.legs f4 k).map yO=ys,fB g f4=G at *
  (have gd:=B;(repeat' (first|refine uS ?_|apply yW|apply xH|intro hc|fail))<;>clear gd)
  rfl
 refine WW ?_;refine yB (st0:=⟨[(14,iA 4),(12,.ref 1001 0 4),(13,iA 4),(1,iA f4),(5,.ref 1001 0 4)],[(1001,.arr 5 [wF a 1101,wF b 1102,wF c 1103,wF d 1104] ⟨true,true⟩),(1101,vW a f4 (ln a.legs)),(1102,vW b f4 (ln b.legs)),(1103,vW c f4 (ln c.legs)),(1104,vW d f4 (ln d.legs))]⟩) Z ?_;unfold vW;simp only[cV];refine WW ?_;refine zI [] Z Z ?_ Z
 show AV.sl false [.agg [iA a.id,iA a.vh,iA a.cls,iA a.til,.sl false (pi (a.legs.map yO).length (py 0 ((a.legs.map λg=>fB g f4).map yO)))],.agg [iA b.id,iA b.vh,iA b.cls,iA b.til,.sl false (pi (b.legs.map yO).length (py 0 ((b.legs.map λg=>fB g f4).map yO)))],.agg [iA c.id,iA c.vh,iA c.cls,iA c.til,.sl false (pi (c.legs.map yO).length (py 0 ((c.legs.map λg=>fB g f4).map yO)))],.agg [iA d.id,iA d.vh,iA d.cls,iA d.til,.sl false (pi (d.legs.map yO).length (py 0 ((d.legs.map λg=>fB g f4).map yO)))]]=_
 simp only[uy];rfl
def Xo (l:List Rq) (f4:Int) (hv:cJ l):zN 177 [zE zY l,iA f4] [] (zE zY (EQ l f4)) []:=by
 have u:=hv.n4;have hb:∀r∈l,1<=ln r.legs/\r.legs.length<=1000:=λr z=>by have:=hv.lg3 z;omega
 match l,u,hb with
 | [],_,_=>
  have A:=TJ;refine eM call177 λF hF=>?_
  refine zS A ?_;refine wB 1 [] [13,11,12,1,5] Z ?_;refine yB (st0:=⟨[(13,iA 0),(11,.s (.slice none 0 0)),(12,iA 0),(1,iA f4),(5,.s (.slice none 0 0))],[]⟩) Z ?_;exact mx
 | [a],_,hb=>exact Ju a (hb a zV).1 (hb a zV).2 f4
 | [a,b],_,hb=>exact Iu a b (hb a zV).1 (hb a zV).2 (hb b zV).1 (hb b zV).2 f4
 | [a,b,c],_,hb=>exact Hu a b c (hb a zV).1 (hb a zV).2 (hb b zV).1 (hb b zV).2 (hb c zV).1 (hb c zV).2 f4
 | [a,b,c,d],_,hb=>exact Gu a b c d (hb a zV).1 (hb a zV).2 (hb b zV).1 (hb b zV).2 (hb c zV).1 (hb c zV).2 (hb d zV).1 (hb d zV).2 f4
 |_::_::_::_::_::_,h,_=>simp at h
def Fu (l:List Rq) (f4:Int) (hv:cJ l):zN 132 [zE zY l,iA f4] [] (zE zY (EQ l f4)) []:=by
 have z:=hv.n4;have hb:∀r∈l,1<=ln r.legs/\r.legs.length<=1000:=λr u=>by have:=hv.lg3 u;omega
 match l,z,hb with
 | [],_,_=>
  have A:=eE [] zV (λr u=>by simp at u);refine eM call132 λF hF=>?_
  refine zS A ?_;refine wB 1 [] [14,12,13,1,5] Z ?_;refine yB (st0:=⟨[(14,iA 0),(12,.sl false []),(13,iA 0),(1,iA f4),(5,.sl false [])],[]⟩) Z ?_;exact mx
 | [a],_,hb=>exact ao a (hb a zV).1 (hb a zV).2 f4
 | [a,b],_,hb=>exact mo a b (hb a zV).1 (hb a zV).2 (hb b zV).1 (hb b zV).2 f4
 | [a,b,c],_,hb=>exact Zo a b c (hb a zV).1 (hb a zV).2 (hb b zV).1 (hb b zV).2 (hb c zV).1 (hb c zV).2 f4
 | [a,b,c,d],_,hb=>exact Yo a b c d (hb a zV).1 (hb a zV).2 (hb b zV).1 (hb b zV).2 (hb c zV).1 (hb c zV).2 (hb d zV).1 (hb d zV).2 f4
 |_::_::_::_::_::_,h,_=>simp at h
def Wo (g:Lg) (f4:Int) (u:0<=f4) (z:f4<=1073741824):(fB g f4).jn=g.jn/\(fB g f4).ph=g.ph/\(QX g=true->QX (fB g f4)=true):=by
 unfold fB;split
 .split
  .refine⟨rfl,rfl,λh=>?_⟩;unfold QX at *;rw[zAz]at *; dsimp only;omega
  .exact⟨rfl,rfl,id⟩
 .refine⟨rfl,rfl,λh=>?_⟩;unfold QX at *;rw[zAz]at *; dsimp only;omega
theorem Kf {f4:Int} (B:0<=f4) (C:f4<=1073741824):∀(gs ga u:List Lg),u.map (·.jn)=ga.map (·.jn)->kV ga gs=true->kV u (gs.map λg=>fB g f4)=true
 | [],_,_,_,_=>rfl
 |x::post,ga,u,A,h=>by
  obtain⟨e1,_,e3⟩:=Wo x f4 B C;have z:∀(l:List Lg),(l.any λy=>y.jn==x.jn)=(l.map (·.jn)).any λn=>n==x.jn:=λl=>by rw[List.any_map];rfl
  rw[kV,zA4,zA4]at h;rw[zCc,kV,e3 h.1,e1,z,A,<-z,h.2.1,zA3,zA3];exact Kf B C post (ga++[x]) (u++[fB x f4]) (by rw[zA0,zA0,A];simp[e1]) h.2.2
def Z7 {l:List Rq} (hv:cJ l) (f4:Int) (A:0<=f4) (B:f4<=1073741824):cJ (EQ l f4):=by
 refine⟨λr u=>?_,?_,by unfold EQ;rw[zAt];exact hv.n4⟩
 .obtain⟨x,z,rfl⟩:=zCb.1 u;have h:=hv.ok x z;refine⟨h.i0,h.i1,h.v0,h.v1,h.c0,h.c1,h.t0,h.t1,?_⟩;have h1:=h.lg;rw[AK,zA4]at h1;unfold AK mkR;dsimp only;rw[zA4,zAt];exact⟨h1.1,Kf A B x.legs [] [] Z h1.2⟩
 .unfold EQ;rw[List.pairwise_map];exact hv.so
def kO (p:Nat->Bool):Nat->Int
 |0=>0
 |n+1=>if p n=true then kO p n+p2 n else kO p n
theorem ZY (p:Nat->Bool):∀n:Nat,n<=30->0<=kO p n/\kO p n<p2 n
 |0,_=>⟨zC3 0,by show(0:Int)<1;decide⟩
 | n+1,h=>by
  have u:=ZY p n zB
  have h2:p2 ((n+1:Nat):Int)=2*p2 (n:Int):=by
   unfold p2;rw[zBh,zBh,zF5];omega
  have:=AO n zB;unfold kO
  split<;>omega
theorem bV {p q:Nat->Bool}:∀n:Nat,(∀i,i<n->p i=q i)->kO p n=kO q n
 |0,_=>rfl
 |n+1,h=>by unfold kO;rw[h n zB,bV n λi hi=>h i zB]
def bq (u z A B C E G I:Bool):Nat->Bool
 |0=>u|1=>z|2=>A|3=>B|4=>C|5=>E|6=>G|7=>I|_=>false
def Y7:∀u z A B C E G I:Bool,∀i:_root_.Fin 8,(kX (vQ (kO (bq u z A B C E G I) 8) i.val) 1==1)=bq u z A B C E G I i.val:=by decide +kernel
def Jf (p:Nat->Bool) (i:Nat) (hi:i<8):(kX (vQ (kO p 8) i) 1==1)=p i:=by
 have e:∀j,j<8->p j=bq (p 0) (p 1) (p 2) (p 3) (p 4) (p 5) (p 6) (p 7) j:=λj hj=>by
  match j,hj with
  |0,_=>rfl|1,_=>rfl|2,_=>rfl|3,_=>rfl|4,_=>rfl|5,_=>rfl|6,_=>rfl|7,_=>rfl
  |j+8,h=>omega
 rw[bV 8 e,e i hi];exact Y7 _ _ _ _ _ _ _ _ ⟨i,hi⟩
def Eu (p:Nat->Bool):Nat->Nat
 |0=>0
 |n+1=>if p n=true then Eu p n+2 ^ n else Eu p n
theorem AQ (p:Nat->Bool):∀n,kO p n=(Eu p n:Int)
 |0=>rfl
 |n+1=>by
  unfold kO Eu;rw[AQ p n];split
  .unfold p2;simp
  .rfl
theorem MV (p:Nat->Bool):∀n,Eu p n<2 ^ n
 |0=>(show 0<1 by omega)
 |n+1=>by
  have:=MV p n;unfold Eu;rw[Nat.pow_succ]
  split<;>omega
theorem TO (p:Nat->Bool):∀n i,(Eu p n).testBit i=(decide (i<n)&&p i)
 |0,i=>by simp[Eu]
 | n+1,i=>by
  have z:=MV p n;unfold Eu
  rcases Nat.lt_trichotomy i n with h|h|h
  .rw[zAw zB,zA3];split
   .rw[Nat.add_comm,Nat.testBit_two_pow_add_gt h,TO p n i,zAw h,zA3]
   .rw[TO p n i,zAw h,zA3]
  .subst h;rw[zAw zB,zA3];split
   .rename_i u;rw[Nat.add_comm,Nat.testBit_two_pow_add_eq,TO p i i,zAu zB,u];rfl
   .rename_i u;rw[TO p i i,zAu zB];simpa using u
  .rw[zAu zB,zBt];refine Nat.testBit_lt_two_pow ?_;have h2:2 ^ (n+1)<=2 ^ i:=zEm zB zB;rw[Nat.pow_succ]at h2
   split<;>omega
def FH (a b:Nat) (u:a<2 ^ 30) (hb:b<2 ^ 30):rj a b=((a ||| b:Nat):Int):=by
 have h:=zF0 u hb;unfold rj;rw[zDy,zDy,zF9,zDw,zDw];have e:(2:Nat) ^ IntKind.i64.bits=18446744073709551616:=by decide
 grind [rj,Nat.mod_eq_of_lt,kI,aD]
def Vo (p q:Nat->Bool):rj (kO p 8) (kO q 8)=kO (λi=>p i||q i) 8:=by
 have h1:=MV p 8;have h2:=MV q 8;rw[AQ,AQ,AQ,FH _ _ zB zB]
 congr 1
 apply Nat.eq_of_testBit_eq
 grind [rj,kO,TO]
