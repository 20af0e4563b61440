/- Part 8. -/
import Derived.Test.YtaglbcjljlkjcaaGreatW07
namespace Go.Proofs.YtaglbcjljlkjcaaGreat.Av
open Tryz
set_option linter.all false
set_option maxRecDepth 4000
set_option maxHeartbeats 4000000
open List renaming length->ln,take->pb,drop->pi
open Inhabited renaming default->dd
def mkR (f3:Int) (r:Rq):Rq:=⟨r.id,r.vh,r.cls,r.til,r.legs.map λg=>fA g f3⟩
def EN (l:List Rq) (f3:Int):List Rq:=l.map (mkR f3)
def qI (l:List Lg) (f3:Int) (k:Nat):List Lg:=(l.take k).map (λg=>fA g f3)++l.drop k
def cT (l:List Lg) (f3:Int):qI l f3 (ln l)=l.map λg=>fA g f3:=by simp[qI]
def uJ (l:List Lg) (f3:Int) (k:Nat):(qI l f3 k).length=ln l:=by simp[qI];omega
def qX {l f4 post:List Lg} {g:Lg} {k:Nat} (f3:Int) (hx:l=f4++g::post) (hk:ln f4=k):((qI l f3 k).map yO)[k]? =some (yO g):=by grind [qI,yO]
def uK {l f4 post:List Lg} {g:Lg} {k:Nat} (f3:Int) (hx:l=f4++g::post) (hk:ln f4=k):(qI l f3 (k+1)).map yO=((qI l f3 k).map yO).set k (yO (fA g f3)):=by
 subst hx hk;have e1:(f4++g::post).take (ln f4+1)=f4++[g]:=by rw[List.take_append,zA1 zB];simp
 simp_all [qI,yO,fA]
def vy (l:List Lg) (f3:Int):pb (l.map yO).length (pi 0 ((l.map λg=>fA g f3).map yO))=(l.map λg=>fA g f3).map yO:=by
 rw[zBd];exact zA1 zV
def vW (r:Rq) (f3:Int) (k:Nat):xW:= .arr 5 ((qI r.legs f3 k).map yO) false
def Ju (a:Rq) (C:1<=ln a.legs) (B:ln a.legs<=1000) (f3:Int):zN 177 [zE zY [a],iA f3] [] (zE zY (EN [a] f3)) []:=by
 have I:=BZ a C B;have O:=zA yO a.legs;refine eM call177 λF hF=>?_
 refine zS I ?_;refine wB 2 [1001,1101] [13,11,12,1,5] Z ?_;refine yB (st0:=⟨[(13,iA 0),(11,.ref 1001 0 1),(12,iA 1),(1,iA f3),(5,.ref 1001 0 1)],[(1001,.arr 5 [wF a 1101] ⟨false,true⟩),(1101,vW a f3 0)]⟩) Z ?_;unfold vW;refine WW ?_;refine zU (a.legs) [1101,7,1001] [7,1001] [1,5,7,11,12,13,19] [20,1,5,7,11,12,13,19] Z (λi f4 T U=>⟨(20,iA i)::T,(1101,.arr 5 ((qI a.legs f3 i).map yO) false)::U⟩) (Lq ?_ ?_)
 .intro k f4 g post hx hk;have E:=zX hx hk;have M:=qX f3 hx hk;have u:=uK f3 hx hk;have G:((qI a.legs f3 k).map yO).length=ln a.legs:=by rw[zAr,uJ]
  have z:∀y:AV,(((qI a.legs f3 k).map yO).set k y)[k]? =some y:=λy=>zBs zB
  have A:=eG g f3;rw[u];clear hx u;generalize (qI a.legs f3 k).map yO=ys,fA g f3=L at *
  (have ga:=A;(repeat' (first|refine uT ?_|apply yW|apply xI|intro hc|fail))<;>clear ga)
  rfl
 refine WW ?_;refine yB (st0:=⟨[(13,iA 1),(11,.ref 1001 0 1),(12,iA 1),(1,iA f3),(5,.ref 1001 0 1)],[(1001,.arr 5 [wF a 1101] ⟨false,true⟩),(1101,vW a f3 (ln a.legs))]⟩) Z ?_;unfold vW;simp only[cT];refine WW ?_;refine zH [] Z Z ?_ Z
 show AV.sl false [.agg [iA a.id,iA a.vh,iA a.cls,iA a.til,.sl false (pb (a.legs.map yO).length (pi 0 ((a.legs.map λg=>fA g f3).map yO)))]]=_
 simp only[vy];rfl
theorem Iu (a b:Rq) (L:1<=ln a.legs) (G:ln a.legs<=1000) (hb:1<=ln b.legs) (I:ln b.legs<=1000) (f3:Int):zN 177 [zE zY [a,b],iA f3] [] (zE zY (EN [a,b] f3)) []:=by
 have O:=AA a b L G hb I;have R:=zA yO a.legs;have S:=zA yO b.legs;refine eM call177 λF hF=>?_
 refine zS O ?_;refine wB 3 [1001,1101,1102] [13,11,12,1,5] Z ?_;refine yB (st0:=⟨[(13,iA 0),(11,.ref 1001 0 2),(12,iA 2),(1,iA f3),(5,.ref 1001 0 2)],[(1001,.arr 5 [wF a 1101,wF b 1102] ⟨true,true⟩),(1101,vW a f3 0),(1102,vW b f3 0)]⟩) Z ?_;unfold vW;refine WW ?_;refine zU (a.legs) [1101,7,1001,1102] [7,1001,1102] [1,5,7,11,12,13,19] [20,1,5,7,11,12,13,19] Z (λi f4 T U=>⟨(20,iA i)::T,(1101,.arr 5 ((qI a.legs f3 i).map yO) false)::U⟩) (Lq ?_ ?_)
 .intro k f4 g post hx hk;have B:=zX hx hk;have M:=qX f3 hx hk;have u:=uK f3 hx hk;have C:((qI a.legs f3 k).map yO).length=ln a.legs:=by rw[zAr,uJ]
  have z:∀y:AV,(((qI a.legs f3 k).map yO).set k y)[k]? =some y:=λy=>zBs zB
  have A:=eG g f3;rw[u];clear hx u;generalize (qI a.legs f3 k).map yO=ys,fA g f3=E at *
  (have ga:=A;(repeat' (first|refine uT ?_|apply yW|apply xI|intro hc|fail))<;>clear ga)
  rfl
 refine WW ?_;refine yB (st0:=⟨[(13,iA 1),(11,.ref 1001 0 2),(12,iA 2),(1,iA f3),(5,.ref 1001 0 2)],[(1001,.arr 5 [wF a 1101,wF b 1102] ⟨true,true⟩),(1101,vW a f3 (ln a.legs)),(1102,vW b f3 0)]⟩) Z ?_;unfold vW;refine WW ?_;refine zU (b.legs) [1102,7,1001,1101] [7,1001,1101] [1,5,7,11,12,13,19] [20,1,5,7,11,12,13,19] Z (λi f4 T U=>⟨(20,iA i)::T,(1102,.arr 5 ((qI b.legs f3 i).map yO) false)::U⟩) (Lq ?_ ?_)
 .intro k f4 g post hx hk;have B:=zX hx hk;have M:=qX f3 hx hk;have u:=uK f3 hx hk;have C:((qI b.legs f3 k).map yO).length=ln b.legs:=by rw[zAr,uJ]
  have z:∀y:AV,(((qI b.legs f3 k).map yO).set k y)[k]? =some y:=λy=>zBs zB
  have A:=eG g f3;rw[u];clear hx u;generalize (qI b.legs f3 k).map yO=ys,fA g f3=E at *
  (have ga:=A;(repeat' (first|refine uT ?_|apply yW|apply xI|intro hc|fail))<;>clear ga)
  rfl
 refine WW ?_;refine yB (st0:=⟨[(13,iA 2),(11,.ref 1001 0 2),(12,iA 2),(1,iA f3),(5,.ref 1001 0 2)],[(1001,.arr 5 [wF a 1101,wF b 1102] ⟨true,true⟩),(1101,vW a f3 (ln a.legs)),(1102,vW b f3 (ln b.legs))]⟩) Z ?_;unfold vW;simp only[cT];refine WW ?_;refine zH [] Z Z ?_ Z
 show AV.sl false [.agg [iA a.id,iA a.vh,iA a.cls,iA a.til,.sl false (pb (a.legs.map yO).length (pi 0 ((a.legs.map λg=>fA g f3).map yO)))],.agg [iA b.id,iA b.vh,iA b.cls,iA b.til,.sl false (pb (b.legs.map yO).length (pi 0 ((b.legs.map λg=>fA g f3).map yO)))]]=_
 simp only[vy];rfl
theorem Hu (a b c:Rq) (M:1<=ln a.legs) (I:ln a.legs<=1000) (hb:1<=ln b.legs) (L:ln b.legs<=1000) (hc:1<=ln c.legs) (gc:ln c.legs<=1000) (f3:Int):zN 177 [zE zY [a,b,c],iA f3] [] (zE zY (EN [a,b,c] f3)) []:=by
 have O:=AB a b c M I hb L hc gc;have R:=zA yO a.legs;have S:=zA yO b.legs;have V:=zA yO c.legs;refine eM call177 λF hF=>?_
 refine zS O ?_;refine wB 4 [1001,1101,1102,1103] [13,11,12,1,5] Z ?_;refine yB (st0:=⟨[(13,iA 0),(11,.ref 1001 0 3),(12,iA 3),(1,iA f3),(5,.ref 1001 0 3)],[(1001,.arr 5 [wF a 1101,wF b 1102,wF c 1103] ⟨true,true⟩),(1101,vW a f3 0),(1102,vW b f3 0),(1103,vW c f3 0)]⟩) Z ?_;unfold vW;refine WW ?_;refine zU (a.legs) [1101,7,1001,1102,1103] [7,1001,1102,1103] [1,5,7,11,12,13,19] [20,1,5,7,11,12,13,19] Z (λi f4 T U=>⟨(20,iA i)::T,(1101,.arr 5 ((qI a.legs f3 i).map yO) false)::U⟩) (Lq ?_ ?_)
 .intro k f4 g post hx hk;have B:=zX hx hk;have G:=qX f3 hx hk;have u:=uK f3 hx hk;have C:((qI a.legs f3 k).map yO).length=ln a.legs:=by rw[zAr,uJ]
  have z:∀y:AV,(((qI a.legs f3 k).map yO).set k y)[k]? =some y:=λy=>zBs zB
  have A:=eG g f3;rw[u];clear hx u;generalize (qI a.legs f3 k).map yO=ys,fA g f3=E at *
  (have ga:=A;(repeat' (first|refine uT ?_|apply yW|apply xI|intro hc|fail))<;>clear ga)
  rfl
 refine WW ?_;refine yB (st0:=⟨[(13,iA 1),(11,.ref 1001 0 3),(12,iA 3),(1,iA f3),(5,.ref 1001 0 3)],[(1001,.arr 5 [wF a 1101,wF b 1102,wF c 1103] ⟨true,true⟩),(1101,vW a f3 (ln a.legs)),(1102,vW b f3 0),(1103,vW c f3 0)]⟩) Z ?_;unfold vW;refine WW ?_;refine zU (b.legs) [1102,7,1001,1101,1103] [7,1001,1101,1103] [1,5,7,11,12,13,19] [20,1,5,7,11,12,13,19] Z (λi f4 T U=>⟨(20,iA i)::T,(1102,.arr 5 ((qI b.legs f3 i).map yO) false)::U⟩) (Lq ?_ ?_)
 .intro k f4 g post hx hk;have B:=zX hx hk;have G:=qX f3 hx hk;have u:=uK f3 hx hk;have C:((qI b.legs f3 k).map yO).length=ln b.legs:=by rw[zAr,uJ]
  have z:∀y:AV,(((qI b.legs f3 k).map yO).set k y)[k]? =some y:=λy=>zBs zB
  have A:=eG g f3;rw[u];clear hx u;generalize (qI b.legs f3 k).map yO=ys,fA g f3=E at *
  (have ga:=A;(repeat' (first|refine uT ?_|apply yW|apply xI|intro hc|fail))<;>clear ga)
  rfl
 refine WW ?_;refine yB (st0:=⟨[(13,iA 2),(11,.ref 1001 0 3),(12,iA 3),(1,iA f3),(5,.ref 1001 0 3)],[(1001,.arr 5 [wF a 1101,wF b 1102,wF c 1103] ⟨true,true⟩),(1101,vW a f3 (ln a.legs)),(1102,vW b f3 (ln b.legs)),(1103,vW c f3 0)]⟩) Z ?_;unfold vW;refine WW ?_;refine zU (c.legs) [1103,7,1001,1101,1102] [7,1001,1101,1102] [1,5,7,11,12,13,19] [20,1,5,7,11,12,13,19] Z (λi f4 T U=>⟨(20,iA i)::T,(1103,.arr 5 ((qI c.legs f3 i).map yO) false)::U⟩) (Lq ?_ ?_)
 .intro k f4 g post hx hk;have B:=zX hx hk;have G:=qX f3 hx hk;have u:=uK f3 hx hk;have C:((qI c.legs f3 k).map yO).length=ln c.legs:=by rw[zAr,uJ]
  have z:∀y:AV,(((qI c.legs f3 k).map yO).set k y)[k]? =some y:=λy=>zBs zB
  have A:=eG g f3;rw[u];clear hx u;generalize (qI c.legs f3 k).map yO=ys,fA g f3=E at *
  (have ga:=A;(repeat' (first|refine uT ?_|apply yW|apply xI|intro hc|fail))<;>clear ga)
  rfl
 refine WW ?_;refine yB (st0:=⟨[(13,iA 3),(11,.ref 1001 0 3),(12,iA 3),(1,iA f3),(5,.ref 1001 0 3)],[(1001,.arr 5 [wF a 1101,wF b 1102,wF c 1103] ⟨true,true⟩),(1101,vW a f3 (ln a.legs)),(1102,vW b f3 (ln b.legs)),(1103,vW c f3 (ln c.legs))]⟩) Z ?_;unfold vW;simp only[cT];refine WW ?_;refine zH [] Z Z ?_ Z
 show AV.sl false [.agg [iA a.id,iA a.vh,iA a.cls,iA a.til,.sl false (pb (a.legs.map yO).length (pi 0 ((a.legs.map λg=>fA g f3).map yO)))],.agg [iA b.id,iA b.vh,iA b.cls,iA b.til,.sl false (pb (b.legs.map yO).length (pi 0 ((b.legs.map λg=>fA g f3).map yO)))],.agg [iA c.id,iA c.vh,iA c.cls,iA c.til,.sl false (pb (c.legs.map yO).length (pi 0 ((c.legs.map λg=>fA g f3).map yO)))]]=_
 simp only[vy];rfl
theorem Gu (a b c d:Rq) (O:1<=ln a.legs) (I:ln a.legs<=1000) (hb:1<=ln b.legs) (L:ln b.legs<=1000) (hc:1<=ln c.legs) (gc:ln c.legs<=1000) (hd:1<=ln d.legs) (M:ln d.legs<=1000) (f3:Int):zN 177 [zE zY [a,b,c,d],iA f3] [] (zE zY (EN [a,b,c,d] f3)) []:=by
 have R:=AC a b c d O I hb L hc gc hd M;have S:=zA yO a.legs;have V:=zA yO b.legs;have W:=zA yO c.legs;have Y:=zA yO d.legs;refine eM call177 λF hF=>?_
 refine zS R ?_;refine wB 5 [1001,1101,1102,1103,1104] [13,11,12,1,5] Z ?_;refine yB (st0:=⟨[(13,iA 0),(11,.ref 1001 0 4),(12,iA 4),(1,iA f3),(5,.ref 1001 0 4)],[(1001,.arr 5 [wF a 1101,wF b 1102,wF c 1103,wF d 1104] ⟨true,true⟩),(1101,vW a f3 0),(1102,vW b f3 0),(1103,vW c f3 0),(1104,vW d f3 0)]⟩) Z ?_;unfold vW;refine WW ?_;refine zU (a.legs) [1101,7,1001,1102,1103,1104] [7,1001,1102,1103,1104] [1,5,7,11,12,13,19] [20,1,5,7,11,12,13,19] Z (λi f4 T U=>⟨(20,iA i)::T,(1101,.arr 5 ((qI a.legs f3 i).map yO) false)::U⟩) (Lq ?_ ?_)
 .intro k f4 g post hx hk;have B:=zX hx hk;have G:=qX f3 hx hk;have u:=uK f3 hx hk;have C:((qI a.legs f3 k).map yO).length=ln a.legs:=by rw[zAr,uJ]
  have z:∀y:AV,(((qI a.legs f3 k).map yO).set k y)[k]? =some y:=λy=>zBs zB
  have A:=eG g f3;rw[u];clear hx u;generalize (qI a.legs f3 k).map yO=ys,fA g f3=E at *
  (have ga:=A;(repeat' (first|refine uT ?_|apply yW|apply xI|intro hc|fail))<;>clear ga)
  rfl
 refine WW ?_;refine yB (st0:=⟨[(13,iA 1),(11,.ref 1001 0 4),(12,iA 4),(1,iA f3),(5,.ref 1001 0 4)],[(1001,.arr 5 [wF a 1101,wF b 1102,wF c 1103,wF d 1104] ⟨true,true⟩),(1101,vW a f3 (ln a.legs)),(1102,vW b f3 0),(1103,vW c f3 0),(1104,vW d f3 0)]⟩) Z ?_;unfold vW;refine WW ?_;refine zU (b.legs) [1102,7,1001,1101,1103,1104] [7,1001,1101,1103,1104] [1,5,7,11,12,13,19] [20,1,5,7,11,12,13,19] Z (λi f4 T U=>⟨(20,iA i)::T,(1102,.arr 5 ((qI b.legs f3 i).map yO) false)::U⟩) (Lq ?_ ?_)
 .intro k f4 g post hx hk;have B:=zX hx hk;have G:=qX f3 hx hk;have u:=uK f3 hx hk;have C:((qI b.legs f3 k).map yO).length=ln b.legs:=by rw[zAr,uJ]
  have z:∀y:AV,(((qI b.legs f3 k).map yO).set k y)[k]? =some y:=λy=>zBs zB
  have A:=eG g f3;rw[u];clear hx u;generalize (qI b.legs f3 k).map yO=ys,fA g f3=E at *
  (have ga:=A;(repeat' (first|refine uT ?_|apply yW|apply xI|intro hc|fail))<;>clear ga)
  rfl
 refine WW ?_;refine yB (st0:=⟨[(13,iA 2),(11,.ref 1001 0 4),(12,iA 4),(1,iA f3),(5,.ref 1001 0 4)],[(1001,.arr 5 [wF a 1101,wF b 1102,wF c 1103,wF d 1104] ⟨true,true⟩),(1101,vW a f3 (ln a.legs)),(1102,vW b f3 (ln b.legs)),(1103,vW c f3 0),(1104,vW d f3 0)]⟩) Z ?_;unfold vW;refine WW ?_;refine zU (c.legs) [1103,7,1001,1101,1102,1104] [7,1001,1101,1102,1104] [1,5,7,11,12,13,19] [20,1,5,7,11,12,13,19] Z (λi f4 T U=>⟨(20,iA i)::T,(1103,.arr 5 ((qI c.legs f3 i).map yO) false)::U⟩) (Lq ?_ ?_)
 .intro k f4 g post hx hk;have B:=zX hx hk;have G:=qX f3 hx hk;have u:=uK f3 hx hk;have C:((qI c.legs f3 k).map yO).length=ln c.legs:=by rw[zAr,uJ]
  have z:∀y:AV,(((qI c.legs f3 k).map yO).set k y)[k]? =some y:=λy=>zBs zB
  have A:=eG g f3;rw[u];clear hx u;generalize (qI c.legs f3 k).map yO=ys,fA g f3=E at *
  (have ga:=A;(repeat' (first|refine uT ?_|apply yW|apply xI|intro hc|fail))<;>clear ga)
  rfl
 refine WW ?_;refine yB (st0:=⟨[(13,iA 3),(11,.ref 1001 0 4),(12,iA 4),(1,iA f3),(5,.ref 1001 0 4)],[(1001,.arr 5 [wF a 1101,wF b 1102,wF c 1103,wF d 1104] ⟨true,true⟩),(1101,vW a f3 (ln a.legs)),(1102,vW b f3 (ln b.legs)),(1103,vW c f3 (ln c.legs)),(1104,vW d f3 0)]⟩) Z ?_;unfold vW;refine WW ?_;refine zU (d.legs) [1104,7,1001,1101,1102,1103] [7,1001,1101,1102,1103] [1,5,7,11,12,13,19] [20,1,5,7,11,12,13,19] Z (λi f4 T U=>⟨(20,iA i)::T,(1104,.arr 5 ((qI d.legs f3 i).map yO) false)::U⟩) (Lq ?_ ?_)
 .intro k f4 g post hx hk;have B:=zX hx hk;have G:=qX f3 hx hk;have u:=uK f3 hx hk;have C:((qI d.legs f3 k).map yO).length=ln d.legs:=by rw[zAr,uJ]
  have z:∀y:AV,(((qI d.legs f3 k).map yO).set k y)[k]? =some y:=λy=>zBs zB
  have A:=eG g f3;rw[u];clear hx u;generalize (qI d.legs f3 k).map yO=ys,fA g f3=E at *
  (have ga:=A;(repeat' (first|refine uT ?_|apply yW|apply xI|intro hc|fail))<;>clear ga)
  rfl
 refine WW ?_;refine yB (st0:=⟨[(13,iA 4),(11,.ref 1001 0 4),(12,iA 4),(1,iA f3),(5,.ref 1001 0 4)],[(1001,.arr 5 [wF a 1101,wF b 1102,wF c 1103,wF d 1104] ⟨true,true⟩),(1101,vW a f3 (ln a.legs)),(1102,vW b f3 (ln b.legs)),(1103,vW c f3 (ln c.legs)),(1104,vW d f3 (ln d.legs))]⟩) Z ?_;unfold vW;simp only[cT];refine WW ?_;refine zH [] Z Z ?_ Z
 show AV.sl false [.agg [iA a.id,iA a.vh,iA a.cls,iA a.til,.sl false (pb (a.legs.map yO).length (pi 0 ((a.legs.map λg=>fA g f3).map yO)))],.agg [iA b.id,iA b.vh,iA b.cls,iA b.til,.sl false (pb (b.legs.map yO).length (pi 0 ((b.legs.map λg=>fA g f3).map yO)))],.agg [iA c.id,iA c.vh,iA c.cls,iA c.til,.sl false (pb (c.legs.map yO).length (pi 0 ((c.legs.map λg=>fA g f3).map yO)))],.agg [iA d.id,iA d.vh,iA d.cls,iA d.til,.sl false (pb (d.legs.map yO).length (pi 0 ((d.legs.map λg=>fA g f3).map yO)))]]=_
 simp only[vy];rfl
def An (a:Rq) (A:1<=ln a.legs) (z:ln a.legs<=1000):zN 187 [zE zY [a]] [] (.ref 1001 0 1) [(1001,.arr 5 [wF a 1101] ⟨false,true⟩),(1101,qE a)]:=by
 have B:=zA yO a.legs;refine eM call187 λF hF=>?_
 refine WW ?_;refine zQ 3 1001 5 Z Z Z ?_;refine wB 2 [1001,1101] [3,8,6,7] Z ?_;refine yB (st0:=⟨[(3,.ref 1001 0 0),(8,iA 0),(6,.sl false [zY a]),(7,iA 1)],[(1001,.arr 5 [] ⟨true,false⟩)]⟩) Z ?_
 (repeat' (first|refine jX ?_|apply yW|apply xI|intro hc|(apply zG;first|(apply yC;refine xG 1101 tok Z Z Z Z Z Z (yM _ _ (λ_=>rfl)) Z Z Z zB Z Z Z ?_)|(apply yH;refine qF (xs:=[_]) 1002 tok Z Z Z Z Z Z Z Z Z Z Z Z ?_)|(apply yC;first|refine wA tok Z Z Z Z Z Z Z (by intro y u;cases u;rfl) Z Z Z zV Z ?_|refine wN tok Z Z Z Z Z Z Z Z Z Z Z (by intro y u;cases u;rfl) zV Z ?_))|refine SB ?_|fail))
 refine yB (st0:=⟨[(3,.ref 1001 0 1),(8,iA 1),(6,.sl false [zY a]),(7,iA 1)],[(1001,.arr 5 [wF a 1101] ⟨false,true⟩),(1101,qE a)]⟩) Z ?_;refine WW ?_;exact zP [1001,1101] Z Z Z Z
def zo (a b:Rq) (B:1<=ln a.legs) (z:ln a.legs<=1000) (hb:1<=ln b.legs) (A:ln b.legs<=1000):zN 187 [zE zY [a,b]] [] (.ref 1001 0 2) [(1001,.arr 5 [wF a 1101,wF b 1102] ⟨true,true⟩),(1101,qE a),(1102,qE b)]:=by
 have C:=zA yO a.legs;have E:=zA yO b.legs;refine eM call187 λF hF=>?_
 refine WW ?_;refine zQ 3 1001 5 Z Z Z ?_;refine wB 3 [1001,1101,1102] [3,8,6,7] Z ?_;refine yB (st0:=⟨[(3,.ref 1001 0 0),(8,iA 0),(6,.sl false [zY a,zY b]),(7,iA 2)],[(1001,.arr 5 [] ⟨true,false⟩)]⟩) Z ?_
 (repeat' (first|refine jX ?_|apply yW|apply xI|intro hc|(apply zG;first|(apply yC;refine xG 1101 tok Z Z Z Z Z Z (yM _ _ (λ_=>rfl)) Z Z Z zB Z Z Z ?_)|(apply yH;refine qF (xs:=[_]) 1002 tok Z Z Z Z Z Z Z Z Z Z Z Z ?_)|(apply yC;first|refine wA tok Z Z Z Z Z Z Z (by intro y u;cases u;rfl) Z Z Z zV Z ?_|refine wN tok Z Z Z Z Z Z Z Z Z Z Z (by intro y u;cases u;rfl) zV Z ?_))|refine SB ?_|fail))
 refine yB (st0:=⟨[(3,.ref 1001 0 1),(8,iA 1),(6,.sl false [zY a,zY b]),(7,iA 2)],[(1001,.arr 5 [wF a 1101] ⟨false,true⟩),(1101,qE a)]⟩) Z ?_
 (repeat' (first|refine jX ?_|apply yW|apply xI|intro hc|(apply zG;first|(apply yC;refine xG 1102 tok Z Z Z Z Z Z (yM _ _ (λ_=>rfl)) Z Z Z zB Z Z Z ?_)|(apply yH;refine qF (xs:=[_]) 1002 tok Z Z Z Z Z Z Z Z Z Z Z Z ?_)|(apply yC;first|refine wA tok Z Z Z Z Z Z Z (by intro y u;cases u;rfl) Z Z Z zV Z ?_|refine wN tok Z Z Z Z Z Z Z Z Z Z Z (by intro y u;cases u;rfl) zV Z ?_))|refine SB ?_|fail))
 refine yB (st0:=⟨[(3,.ref 1001 0 2),(8,iA 2),(6,.sl false [zY a,zY b]),(7,iA 2)],[(1001,.arr 5 [wF a 1101,wF b 1102] ⟨true,true⟩),(1101,qE a),(1102,qE b)]⟩) Z ?_;refine WW ?_;exact zP [1001,1101,1102] Z Z Z Z
def yo (a b c:Rq) (B:1<=ln a.legs) (z:ln a.legs<=1000) (hb:1<=ln b.legs) (A:ln b.legs<=1000) (hc:1<=ln c.legs) (gc:ln c.legs<=1000):zN 187 [zE zY [a,b,c]] [] (.ref 1001 0 3) [(1001,.arr 5 [wF a 1101,wF b 1102,wF c 1103] ⟨true,true⟩),(1101,qE a),(1102,qE b),(1103,qE c)]:=by
 have C:=zA yO a.legs;have E:=zA yO b.legs;have G:=zA yO c.legs;refine eM call187 λF hF=>?_
 refine WW ?_;refine zQ 3 1001 5 Z Z Z ?_;refine wB 4 [1001,1101,1102,1103] [3,8,6,7] Z ?_;refine yB (st0:=⟨[(3,.ref 1001 0 0),(8,iA 0),(6,.sl false [zY a,zY b,zY c]),(7,iA 3)],[(1001,.arr 5 [] ⟨true,false⟩)]⟩) Z ?_
 (repeat' (first|refine jX ?_|apply yW|apply xI|intro hc|(apply zG;first|(apply yC;refine xG 1101 tok Z Z Z Z Z Z (yM _ _ (λ_=>rfl)) Z Z Z zB Z Z Z ?_)|(apply yH;refine qF (xs:=[_]) 1002 tok Z Z Z Z Z Z Z Z Z Z Z Z ?_)|(apply yC;first|refine wA tok Z Z Z Z Z Z Z (by intro y u;cases u;rfl) Z Z Z zV Z ?_|refine wN tok Z Z Z Z Z Z Z Z Z Z Z (by intro y u;cases u;rfl) zV Z ?_))|refine SB ?_|fail))
 refine yB (st0:=⟨[(3,.ref 1001 0 1),(8,iA 1),(6,.sl false [zY a,zY b,zY c]),(7,iA 3)],[(1001,.arr 5 [wF a 1101] ⟨false,true⟩),(1101,qE a)]⟩) Z ?_
 (repeat' (first|refine jX ?_|apply yW|apply xI|intro hc|(apply zG;first|(apply yC;refine xG 1102 tok Z Z Z Z Z Z (yM _ _ (λ_=>rfl)) Z Z Z zB Z Z Z ?_)|(apply yH;refine qF (xs:=[_]) 1002 tok Z Z Z Z Z Z Z Z Z Z Z Z ?_)|(apply yC;first|refine wA tok Z Z Z Z Z Z Z (by intro y u;cases u;rfl) Z Z Z zV Z ?_|refine wN tok Z Z Z Z Z Z Z Z Z Z Z (by intro y u;cases u;rfl) zV Z ?_))|refine SB ?_|fail))
 refine yB (st0:=⟨[(3,.ref 1001 0 2),(8,iA 2),(6,.sl false [zY a,zY b,zY c]),(7,iA 3)],[(1001,.arr 5 [wF a 1101,wF b 1102] ⟨true,true⟩),(1101,qE a),(1102,qE b)]⟩) Z ?_
 (repeat' (first|refine jX ?_|apply yW|apply xI|intro hc|(apply zG;first|(apply yC;refine xG 1103 tok Z Z Z Z Z Z (yM _ _ (λ_=>rfl)) Z Z Z zB Z Z Z ?_)|(apply yH;refine qF (xs:=[_]) 1002 tok Z Z Z Z Z Z Z Z Z Z Z Z ?_)|(apply yC;first|refine wA tok Z Z Z Z Z Z Z (by intro y u;cases u;rfl) Z Z Z zV Z ?_|refine wN tok Z Z Z Z Z Z Z Z Z Z Z (by intro y u;cases u;rfl) zV Z ?_))|refine SB ?_|fail))
 refine yB (st0:=⟨[(3,.ref 1001 0 3),(8,iA 3),(6,.sl false [zY a,zY b,zY c]),(7,iA 3)],[(1001,.arr 5 [wF a 1101,wF b 1102,wF c 1103] ⟨true,true⟩),(1101,qE a),(1102,qE b),(1103,qE c)]⟩) Z ?_;refine WW ?_;exact zP [1001,1101,1102,1103] Z Z Z Z
theorem wo (a b c d:Rq) (C:1<=ln a.legs) (z:ln a.legs<=1000) (hb:1<=ln b.legs) (A:ln b.legs<=1000) (hc:1<=ln c.legs) (gc:ln c.legs<=1000) (hd:1<=ln d.legs) (B:ln d.legs<=1000):zN 187 [zE zY [a,b,c,d]] [] (.ref 1001 0 4) [(1001,.arr 5 [wF a 1101,wF b 1102,wF c 1103,wF d 1104] ⟨true,true⟩),(1101,qE a),(1102,qE b),(1103,qE c),(1104,qE d)]:=by
 have E:=zA yO a.legs;have G:=zA yO b.legs;have I:=zA yO c.legs;have L:=zA yO d.legs;refine eM call187 λF hF=>?_
 refine WW ?_;refine zQ 3 1001 5 Z Z Z ?_;refine wB 5 [1001,1101,1102,1103,1104] [3,8,6,7] Z ?_;refine yB (st0:=⟨[(3,.ref 1001 0 0),(8,iA 0),(6,.sl false [zY a,zY b,zY c,zY d]),(7,iA 4)],[(1001,.arr 5 [] ⟨true,false⟩)]⟩) Z ?_
 (repeat' (first|refine jX ?_|apply yW|apply xI|intro hc|(apply zG;first|(apply yC;refine xG 1101 tok Z Z Z Z Z Z (yM _ _ (λ_=>rfl)) Z Z Z zB Z Z Z ?_)|(apply yH;refine qF (xs:=[_]) 1002 tok Z Z Z Z Z Z Z Z Z Z Z Z ?_)|(apply yC;first|refine wA tok Z Z Z Z Z Z Z (by intro y u;cases u;rfl) Z Z Z zV Z ?_|refine wN tok Z Z Z Z Z Z Z Z Z Z Z (by intro y u;cases u;rfl) zV Z ?_))|refine SB ?_|fail))
 refine yB (st0:=⟨[(3,.ref 1001 0 1),(8,iA 1),(6,.sl false [zY a,zY b,zY c,zY d]),(7,iA 4)],[(1001,.arr 5 [wF a 1101] ⟨false,true⟩),(1101,qE a)]⟩) Z ?_
 (repeat' (first|refine jX ?_|apply yW|apply xI|intro hc|(apply zG;first|(apply yC;refine xG 1102 tok Z Z Z Z Z Z (yM _ _ (λ_=>rfl)) Z Z Z zB Z Z Z ?_)|(apply yH;refine qF (xs:=[_]) 1002 tok Z Z Z Z Z Z Z Z Z Z Z Z ?_)|(apply yC;first|refine wA tok Z Z Z Z Z Z Z (by intro y u;cases u;rfl) Z Z Z zV Z ?_|refine wN tok Z Z Z Z Z Z Z Z Z Z Z (by intro y u;cases u;rfl) zV Z ?_))|refine SB ?_|fail))
 refine yB (st0:=⟨[(3,.ref 1001 0 2),(8,iA 2),(6,.sl false [zY a,zY b,zY c,zY d]),(7,iA 4)],[(1001,.arr 5 [wF a 1101,wF b 1102] ⟨true,true⟩),(1101,qE a),(1102,qE b)]⟩) Z ?_
 (repeat' (first|refine jX ?_|apply yW|apply xI|intro hc|(apply zG;first|(apply yC;refine xG 1103 tok Z Z Z Z Z Z (yM _ _ (λ_=>rfl)) Z Z Z zB Z Z Z ?_)|(apply yH;refine qF (xs:=[_]) 1002 tok Z Z Z Z Z Z Z Z Z Z Z Z ?_)|(apply yC;first|refine wA tok Z Z Z Z Z Z Z (by intro y u;cases u;rfl) Z Z Z zV Z ?_|refine wN tok Z Z Z Z Z Z Z Z Z Z Z (by intro y u;cases u;rfl) zV Z ?_))|refine SB ?_|fail))
 refine yB (st0:=⟨[(3,.ref 1001 0 3),(8,iA 3),(6,.sl false [zY a,zY b,zY c,zY d]),(7,iA 4)],[(1001,.arr 5 [wF a 1101,wF b 1102,wF c 1103] ⟨true,true⟩),(1101,qE a),(1102,qE b),(1103,qE c)]⟩) Z ?_
 (repeat' (first|refine jX ?_|apply yW|apply xI|intro hc|(apply zG;first|(apply yC;refine xG 1104 tok Z Z Z Z Z Z (yM _ _ (λ_=>rfl)) Z Z Z zB Z Z Z ?_)|(apply yH;refine qF (xs:=[_]) 1002 tok Z Z Z Z Z Z Z Z Z Z Z Z ?_)|(apply yC;first|refine wA tok Z Z Z Z Z Z Z (by intro y u;cases u;rfl) Z Z Z zV Z ?_|refine wN tok Z Z Z Z Z Z Z Z Z Z Z (by intro y u;cases u;rfl) zV Z ?_))|refine SB ?_|fail))
 refine yB (st0:=⟨[(3,.ref 1001 0 4),(8,iA 4),(6,.sl false [zY a,zY b,zY c,zY d]),(7,iA 4)],[(1001,.arr 5 [wF a 1101,wF b 1102,wF c 1103,wF d 1104] ⟨true,true⟩),(1101,qE a),(1102,qE b),(1103,qE c),(1104,qE d)]⟩) Z ?_;refine WW ?_;exact zP [1001,1101,1102,1103,1104] Z Z Z Z
def vo (a:Rq) (C:1<=ln a.legs) (B:ln a.legs<=1000) (f3:Int):zN 132 [zE zY [a],iA f3] [] (zE zY (EN [a] f3)) []:=by
 have I:=An a C B;have O:=zA yO a.legs;refine eM call132 λF hF=>?_
 refine zS I ?_;refine wB 2 [1001,1101] [14,12,13,1,5] Z ?_;refine yB (st0:=⟨[(14,iA 0),(12,.ref 1001 0 1),(13,iA 1),(1,iA f3),(5,.ref 1001 0 1)],[(1001,.arr 5 [wF a 1101] ⟨false,true⟩),(1101,vW a f3 0)]⟩) Z ?_;unfold vW;refine WW ?_;refine zU (a.legs) [1101,7,1001] [7,1001] [1,5,7,12,13,14,19,20] [21,1,5,7,12,13,14,19,20] Z (λi f4 T U=>⟨(21,iA i)::T,(1101,.arr 5 ((qI a.legs f3 i).map yO) false)::U⟩) (Lq ?_ ?_)
 .intro k f4 g post hx hk;have E:=zX hx hk;have M:=qX f3 hx hk;have u:=uK f3 hx hk;have G:((qI a.legs f3 k).map yO).length=ln a.legs:=by rw[zAr,uJ]
  have z:∀y:AV,(((qI a.legs f3 k).map yO).set k y)[k]? =some y:=λy=>zBs zB
  have A:=hG g f3;rw[u];clear hx u;generalize (qI a.legs f3 k).map yO=ys,fA g f3=L at *
  (have ga:=A;(repeat' (first|refine uT ?_|apply yW|apply xI|intro hc|fail))<;>clear ga)
  rfl
 refine WW ?_;refine yB (st0:=⟨[(14,iA 1),(12,.ref 1001 0 1),(13,iA 1),(1,iA f3),(5,.ref 1001 0 1)],[(1001,.arr 5 [wF a 1101] ⟨false,true⟩),(1101,vW a f3 (ln a.legs))]⟩) Z ?_;unfold vW;simp only[cT];refine WW ?_;refine zH [] Z Z ?_ Z
 show AV.sl false [.agg [iA a.id,iA a.vh,iA a.cls,iA a.til,.sl false (pb (a.legs.map yO).length (pi 0 ((a.legs.map λg=>fA g f3).map yO)))]]=_
 simp only[vy];rfl
theorem uo (a b:Rq) (L:1<=ln a.legs) (G:ln a.legs<=1000) (hb:1<=ln b.legs) (I:ln b.legs<=1000) (f3:Int):zN 132 [zE zY [a,b],iA f3] [] (zE zY (EN [a,b] f3)) []:=by
 have O:=zo a b L G hb I;have R:=zA yO a.legs;have S:=zA yO b.legs;refine eM call132 λF hF=>?_
 refine zS O ?_;refine wB 3 [1001,1101,1102] [14,12,13,1,5] Z ?_;refine yB (st0:=⟨[(14,iA 0),(12,.ref 1001 0 2),(13,iA 2),(1,iA f3),(5,.ref 1001 0 2)],[(1001,.arr 5 [wF a 1101,wF b 1102] ⟨true,true⟩),(1101,vW a f3 0),(1102,vW b f3 0)]⟩) Z ?_;unfold vW;refine WW ?_;refine zU (a.legs) [1101,7,1001,1102] [7,1001,1102] [1,5,7,12,13,14,19,20] [21,1,5,7,12,13,14,19,20] Z (λi f4 T U=>⟨(21,iA i)::T,(1101,.arr 5 ((qI a.legs f3 i).map yO) false)::U⟩) (Lq ?_ ?_)
 .intro k f4 g post hx hk;have B:=zX hx hk;have M:=qX f3 hx hk;have u:=uK f3 hx hk;have C:((qI a.legs f3 k).map yO).length=ln a.legs:=by rw[zAr,uJ]
  have z:∀y:AV,(((qI a.legs f3 k).map yO).set k y)[k]? =some y:=λy=>zBs zB
  have A:=hG g f3;rw[u];clear hx u;generalize (qI a.legs f3 k).map yO=ys,fA g f3=E at *
  (have ga:=A;(repeat' (first|refine uT ?_|apply yW|apply xI|intro hc|fail))<;>clear ga)
  rfl
 refine WW ?_;refine yB (st0:=⟨[(14,iA 1),(12,.ref 1001 0 2),(13,iA 2),(1,iA f3),(5,.ref 1001 0 2)],[(1001,.arr 5 [wF a 1101,wF b 1102] ⟨true,true⟩),(1101,vW a f3 (ln a.legs)),(1102,vW b f3 0)]⟩) Z ?_;unfold vW;refine WW ?_;refine zU (b.legs) [1102,7,1001,1101] [7,1001,1101] [1,5,7,12,13,14,19,20] [21,1,5,7,12,13,14,19,20] Z (λi f4 T U=>⟨(21,iA i)::T,(1102,.arr 5 ((qI b.legs f3 i).map yO) false)::U⟩) (Lq ?_ ?_)
 .intro k f4 g post hx hk;have B:=zX hx hk;have M:=qX f3 hx hk;have u:=uK f3 hx hk;have C:((qI b.legs f3 k).map yO).length=ln b.legs:=by rw[zAr,uJ]
  have z:∀y:AV,(((qI b.legs f3 k).map yO).set k y)[k]? =some y:=λy=>zBs zB
  have A:=hG g f3;rw[u];clear hx u;generalize (qI b.legs f3 k).map yO=ys,fA g f3=E at *
  (have ga:=A;(repeat' (first|refine uT ?_|apply yW|apply xI|intro hc|fail))<;>clear ga)
  rfl
 refine WW ?_;refine yB (st0:=⟨[(14,iA 2),(12,.ref 1001 0 2),(13,iA 2),(1,iA f3),(5,.ref 1001 0 2)],[(1001,.arr 5 [wF a 1101,wF b 1102] ⟨true,true⟩),(1101,vW a f3 (ln a.legs)),(1102,vW b f3 (ln b.legs))]⟩) Z ?_;unfold vW;simp only[cT];refine WW ?_;refine zH [] Z Z ?_ Z
 show AV.sl false [.agg [iA a.id,iA a.vh,iA a.cls,iA a.til,.sl false (pb (a.legs.map yO).length (pi 0 ((a.legs.map λg=>fA g f3).map yO)))],.agg [iA b.id,iA b.vh,iA b.cls,iA b.til,.sl false (pb (b.legs.map yO).length (pi 0 ((b.legs.map λg=>fA g f3).map yO)))]]=_
 simp only[vy];rfl
theorem qo (a b c:Rq) (M:1<=ln a.legs) (I:ln a.legs<=1000) (hb:1<=ln b.legs) (L:ln b.legs<=1000) (hc:1<=ln c.legs) (gc:ln c.legs<=1000) (f3:Int):zN 132 [zE zY [a,b,c],iA f3] [] (zE zY (EN [a,b,c] f3)) []:=by
 have O:=yo a b c M I hb L hc gc;have R:=zA yO a.legs;have S:=zA yO b.legs;have V:=zA yO c.legs;refine eM call132 λF hF=>?_
 refine zS O ?_;refine wB 4 [1001,1101,1102,1103] [14,12,13,1,5] Z ?_;refine yB (st0:=⟨[(14,iA 0),(12,.ref 1001 0 3),(13,iA 3),(1,iA f3),(5,.ref 1001 0 3)],[(1001,.arr 5 [wF a 1101,wF b 1102,wF c 1103] ⟨true,true⟩),(1101,vW a f3 0),(1102,vW b f3 0),(1103,vW c f3 0)]⟩) Z ?_;unfold vW;refine WW ?_;refine zU (a.legs) [1101,7,1001,1102,1103] [7,1001,1102,1103] [1,5,7,12,13,14,19,20] [21,1,5,7,12,13,14,19,20] Z (λi f4 T U=>⟨(21,iA i)::T,(1101,.arr 5 ((qI a.legs f3 i).map yO) false)::U⟩) (Lq ?_ ?_)
 .intro k f4 g post hx hk;have B:=zX hx hk;have G:=qX f3 hx hk;have u:=uK f3 hx hk;have C:((qI a.legs f3 k).map yO).length=ln a.legs:=by rw[zAr,uJ]
  have z:∀y:AV,(((qI a.legs f3 k).map yO).set k y)[k]? =some y:=λy=>zBs zB
  have A:=hG g f3;rw[u];clear hx u;generalize (qI a.legs f3 k).map yO=ys,fA g f3=E at *
  (have ga:=A;(repeat' (first|refine uT ?_|apply yW|apply xI|intro hc|fail))<;>clear ga)
  rfl
 refine WW ?_;refine yB (st0:=⟨[(14,iA 1),(12,.ref 1001 0 3),(13,iA 3),(1,iA f3),(5,.ref 1001 0 3)],[(1001,.arr 5 [wF a 1101,wF b 1102,wF c 1103] ⟨true,true⟩),(1101,vW a f3 (ln a.legs)),(1102,vW b f3 0),(1103,vW c f3 0)]⟩) Z ?_;unfold vW;refine WW ?_;refine zU (b.legs) [1102,7,1001,1101,1103] [7,1001,1101,1103] [1,5,7,12,13,14,19,20] [21,1,5,7,12,13,14,19,20] Z (λi f4 T U=>⟨(21,iA i)::T,(1102,.arr 5 ((qI b.legs f3 i).map yO) false)::U⟩) (Lq ?_ ?_)
 .intro k f4 g post hx hk;have B:=zX hx hk;have G:=qX f3 hx hk;have u:=uK f3 hx hk;have C:((qI b.legs f3 k).map yO).length=ln b.legs:=by rw[zAr,uJ]
  have z:∀y:AV,(((qI b.legs f3 k).map yO).set k y)[k]? =some y:=λy=>zBs zB
  have A:=hG g f3;rw[u];clear hx u;generalize (qI b.legs f3 k).map yO=ys,fA g f3=E at *
  (have ga:=A;(repeat' (first|refine uT ?_|apply yW|apply xI|intro hc|fail))<;>clear ga)
  rfl
 refine WW ?_;refine yB (st0:=⟨[(14,iA 2),(12,.ref 1001 0 3),(13,iA 3),(1,iA f3),(5,.ref 1001 0 3)],[(1001,.arr 5 [wF a 1101,wF b 1102,wF c 1103] ⟨true,true⟩),(1101,vW a f3 (ln a.legs)),(1102,vW b f3 (ln b.legs)),(1103,vW c f3 0)]⟩) Z ?_;unfold vW;refine WW ?_;refine zU (c.legs) [1103,7,1001,1101,1102] [7,1001,1101,1102] [1,5,7,12,13,14,19,20] [21,1,5,7,12,13,14,19,20] Z (λi f4 T U=>⟨(21,iA i)::T,(1103,.arr 5 ((qI c.legs f3 i).map yO) false)::U⟩) (Lq ?_ ?_)
 .intro k f4 g post hx hk;have B:=zX hx hk;have G:=qX f3 hx hk;have u:=uK f3 hx hk;have C:((qI c.legs f3 k).map yO).length=ln c.legs:=by rw[zAr,uJ]
  have z:∀y:AV,(((qI c.legs f3 k).map yO).set k y)[k]? =some y:=λy=>zBs zB
  have A:=hG g f3;rw[u];clear hx u;generalize (qI c.legs f3 k).map yO=ys,fA g f3=E at *
  (have ga:=A;(repeat' (first|refine uT ?_|apply yW|apply xI|intro hc|fail))<;>clear ga)
  rfl
 refine WW ?_;refine yB (st0:=⟨[(14,iA 3),(12,.ref 1001 0 3),(13,iA 3),(1,iA f3),(5,.ref 1001 0 3)],[(1001,.arr 5 [wF a 1101,wF b 1102,wF c 1103] ⟨true,true⟩),(1101,vW a f3 (ln a.legs)),(1102,vW b f3 (ln b.legs)),(1103,vW c f3 (ln c.legs))]⟩) Z ?_;unfold vW;simp only[cT];refine WW ?_;refine zH [] Z Z ?_ Z
 show AV.sl false [.agg [iA a.id,iA a.vh,iA a.cls,iA a.til,.sl false (pb (a.legs.map yO).length (pi 0 ((a.legs.map λg=>fA g f3).map yO)))],.agg [iA b.id,iA b.vh,iA b.cls,iA b.til,.sl false (pb (b.legs.map yO).length (pi 0 ((b.legs.map λg=>fA g f3).map yO)))],.agg [iA c.id,iA c.vh,iA c.cls,iA c.til,.sl false (pb (c.legs.map yO).length (pi 0 ((c.legs.map λg=>fA g f3).map yO)))]]=_
 simp only[vy];rfl
theorem jo (a b c d:Rq) (O:1<=ln a.legs) (I:ln a.legs<=1000) (hb:1<=ln b.legs) (L:ln b.legs<=1000) (hc:1<=ln c.legs) (gc:ln c.legs<=1000) (hd:1<=ln d.legs) (M:ln d.legs<=1000) (f3:Int):zN 132 [zE zY [a,b,c,d],iA f3] [] (zE zY (EN [a,b,c,d] f3)) []:=by
 have R:=wo a b c d O I hb L hc gc hd M;have S:=zA yO a.legs;have V:=zA yO b.legs;have W:=zA yO c.legs;have Y:=zA yO d.legs;refine eM call132 λF hF=>?_
 refine zS R ?_;refine wB 5 [1001,1101,1102,1103,1104] [14,12,13,1,5] Z ?_;refine yB (st0:=⟨[(14,iA 0),(12,.ref 1001 0 4),(13,iA 4),(1,iA f3),(5,.ref 1001 0 4)],[(1001,.arr 5 [wF a 1101,wF b 1102,wF c 1103,wF d 1104] ⟨true,true⟩),(1101,vW a f3 0),(1102,vW b f3 0),(1103,vW c f3 0),(1104,vW d f3 0)]⟩) Z ?_;unfold vW;refine WW ?_;refine zU (a.legs) [1101,7,1001,1102,1103,1104] [7,1001,1102,1103,1104] [1,5,7,12,13,14,19,20] [21,1,5,7,12,13,14,19,20] Z (λi f4 T U=>⟨(21,iA i)::T,(1101,.arr 5 ((qI a.legs f3 i).map yO) false)::U⟩) (Lq ?_ ?_)
 .intro k f4 g post hx hk;have B:=zX hx hk;have G:=qX f3 hx hk;have u:=uK f3 hx hk;have C:((qI a.legs f3 k).map yO).length=ln a.legs:=by rw[zAr,uJ]
  have z:∀y:AV,(((qI a.legs f3 k).map yO).set k y)[k]? =some y:=λy=>zBs zB
  have A:=hG g f3;rw[u];clear hx u;generalize (qI a.legs f3 k).map yO=ys,fA g f3=E at *
  (have ga:=A;(repeat' (first|refine uT ?_|apply yW|apply xI|intro hc|fail))<;>clear ga)
  rfl
 refine WW ?_;refine yB (st0:=⟨[(14,iA 1),(12,.ref 1001 0 4),(13,iA 4),(1,iA f3),(5,.ref 1001 0 4)],[(1001,.arr 5 [wF a 1101,wF b 1102,wF c 1103,wF d 1104] ⟨true,true⟩),(1101,vW a f3 (ln a.legs)),(1102,vW b f3 0),(1103,vW c f3 0),(1104,vW d f3 0)]⟩) Z ?_;unfold vW;refine WW ?_;refine zU (b.legs) [1102,7,1001,1101,1103,1104] [7,1001,1101,1103,1104] [1,5,7,12,13,14,19,20] [21,1,5,7,12,13,14,19,20] Z (λi f4 T U=>⟨(21,iA i)::T,(1102,.arr 5 ((qI b.legs f3 i).map yO) false)::U⟩) (Lq ?_ ?_)
 .intro k f4 g post hx hk;have B:=zX hx hk;have G:=qX f3 hx hk;have u:=uK f3 hx hk;have C:((qI b.legs f3 k).map yO).length=ln b.legs:=by rw[zAr,uJ]
  have z:∀y:AV,(((qI b.legs f3 k).map yO).set k y)[k]? =some y:=λy=>zBs zB
  have A:=hG g f3;rw[u];clear hx u;generalize (qI b.legs f3 k).map yO=ys,fA g f3=E at *
  (have ga:=A;(repeat' (first|refine uT ?_|apply yW|apply xI|intro hc|fail))<;>clear ga)
  rfl
 refine WW ?_;refine yB (st0:=⟨[(14,iA 2),(12,.ref 1001 0 4),(13,iA 4),(1,iA f3),(5,.ref 1001 0 4)],[(1001,.arr 5 [wF a 1101,wF b 1102,wF c 1103,wF d 1104] ⟨true,true⟩),(1101,vW a f3 (ln a.legs)),(1102,vW b f3 (ln b.legs)),(1103,vW c f3 0),(1104,vW d f3 0)]⟩) Z ?_;unfold vW;refine WW ?_;refine zU (c.legs) [1103,7,1001,1101,1102,1104] [7,1001,1101,1102,1104] [1,5,7,12,13,14,19,20] [21,1,5,7,12,13,14,19,20] Z (λi f4 T U=>⟨(21,iA i)::T,(1103,.arr 5 ((qI c.legs f3 i).map yO) false)::U⟩) (Lq ?_ ?_)
 .intro k f4 g post hx hk;have B:=zX hx hk;have G:=qX f3 hx hk;have u:=uK f3 hx hk;have C:((qI c.legs f3 k).map yO).length=ln c.legs:=by rw[zAr,uJ]
  have z:∀y:AV,(((qI c.legs f3 k).map yO).set k y)[k]? =some y:=λy=>zBs zB
  have A:=hG g f3;rw[u];clear hx u;generalize (qI c.legs f3 k).map yO=ys,fA g f3=E at *
  (have ga:=A;(repeat' (first|refine uT ?_|apply yW|apply xI|intro hc|fail))<;>clear ga)
  rfl
 refine WW ?_;refine yB (st0:=⟨[(14,iA 3),(12,.ref 1001 0 4),(13,iA 4),(1,iA f3),(5,.ref 1001 0 4)],[(1001,.arr 5 [wF a 1101,wF b 1102,wF c 1103,wF d 1104] ⟨true,true⟩),(1101,vW a f3 (ln a.legs)),(1102,vW b f3 (ln b.legs)),(1103,vW c f3 (ln c.legs)),(1104,vW d f3 0)]⟩) Z ?_;unfold vW;refine WW ?_;refine zU (d.legs) [1104,7,1001,1101,1102,1103] [7,1001,1101,1102,1103] [1,5,7,12,13,14,19,20] [21,1,5,7,12,13,14,19,20] Z (λi f4 T U=>⟨(21,iA i)::T,(1104,.arr 5 ((qI d.legs f3 i).map yO) false)::U⟩) (Lq ?_ ?_)
 .intro k f4 g post hx hk;have B:=zX hx hk;have G:=qX f3 hx hk;have u:=uK f3 hx hk;have C:((qI d.legs f3 k).map yO).length=ln d.legs:=by rw[zAr,uJ]
  have z:∀y:AV,(((qI d.legs f3 k).map yO).set k y)[k]? =some y:=λy=>zBs zB
  have A:=hG g f3;rw[u];clear hx u;generalize (qI d.legs f3 k).map yO=ys,fA g f3=E at *
  (have ga:=A;(repeat' (first|refine uT ?_|apply yW|apply xI|intro hc|fail))<;>clear ga)
  rfl
 refine WW ?_;refine yB (st0:=⟨[(14,iA 4),(12,.ref 1001 0 4),(13,iA 4),(1,iA f3),(5,.ref 1001 0 4)],[(1001,.arr 5 [wF a 1101,wF b 1102,wF c 1103,wF d 1104] ⟨true,true⟩),(1101,vW a f3 (ln a.legs)),(1102,vW b f3 (ln b.legs)),(1103,vW c f3 (ln c.legs)),(1104,vW d f3 (ln d.legs))]⟩) Z ?_;unfold vW;simp only[cT];refine WW ?_;refine zH [] Z Z ?_ Z
 show AV.sl false [.agg [iA a.id,iA a.vh,iA a.cls,iA a.til,.sl false (pb (a.legs.map yO).length (pi 0 ((a.legs.map λg=>fA g f3).map yO)))],.agg [iA b.id,iA b.vh,iA b.cls,iA b.til,.sl false (pb (b.legs.map yO).length (pi 0 ((b.legs.map λg=>fA g f3).map yO)))],.agg [iA c.id,iA c.vh,iA c.cls,iA c.til,.sl false (pb (c.legs.map yO).length (pi 0 ((c.legs.map λg=>fA g f3).map yO)))],.agg [iA d.id,iA d.vh,iA d.cls,iA d.til,.sl false (pb (d.legs.map yO).length (pi 0 ((d.legs.map λg=>fA g f3).map yO)))]]=_
 simp only[vy];rfl
def eo (l:List Rq) (f3:Int) (hv:cJ l):zN 177 [zE zY l,iA f3] [] (zE zY (EN l f3)) []:=by
 have u:=hv.n4;have hb:∀r∈l,1<=ln r.legs/\r.legs.length<=1000:=λr z=>by have:=hv.lg3 z;omega
 match l,u,hb with
 | [],_,_=>
  have A:=TJ;refine eM call177 λF hF=>?_
  refine zS A ?_;refine wB 1 [] [13,11,12,1,5] Z ?_;refine yB (st0:=⟨[(13,iA 0),(11,.s (.slice none 0 0)),(12,iA 0),(1,iA f3),(5,.s (.slice none 0 0))],[]⟩) Z ?_;exact ly
 | [a],_,hb=>exact Ju a (hb a zV).1 (hb a zV).2 f3
 | [a,b],_,hb=>exact Iu a b (hb a zV).1 (hb a zV).2 (hb b zV).1 (hb b zV).2 f3
 | [a,b,c],_,hb=>exact Hu a b c (hb a zV).1 (hb a zV).2 (hb b zV).1 (hb b zV).2 (hb c zV).1 (hb c zV).2 f3
 | [a,b,c,d],_,hb=>exact Gu a b c d (hb a zV).1 (hb a zV).2 (hb b zV).1 (hb b zV).2 (hb c zV).1 (hb c zV).2 (hb d zV).1 (hb d zV).2 f3
 |_::_::_::_::_::_,h,_=>simp at h
def Fu (l:List Rq) (f3:Int) (hv:cJ l):zN 132 [zE zY l,iA f3] [] (zE zY (EN l f3)) []:=by
 have z:=hv.n4;have hb:∀r∈l,1<=ln r.legs/\r.legs.length<=1000:=λr u=>by have:=hv.lg3 u;omega
 match l,z,hb with
 | [],_,_=>
  have A:=fZ [] zV (λr u=>by simp at u);refine eM call132 λF hF=>?_
  refine zS A ?_;refine wB 1 [] [14,12,13,1,5] Z ?_;refine yB (st0:=⟨[(14,iA 0),(12,.sl false []),(13,iA 0),(1,iA f3),(5,.sl false [])],[]⟩) Z ?_;exact ly
 | [a],_,hb=>exact vo a (hb a zV).1 (hb a zV).2 f3
 | [a,b],_,hb=>exact uo a b (hb a zV).1 (hb a zV).2 (hb b zV).1 (hb b zV).2 f3
 | [a,b,c],_,hb=>exact qo a b c (hb a zV).1 (hb a zV).2 (hb b zV).1 (hb b zV).2 (hb c zV).1 (hb c zV).2 f3
 | [a,b,c,d],_,hb=>exact jo a b c d (hb a zV).1 (hb a zV).2 (hb b zV).1 (hb b zV).2 (hb c zV).1 (hb c zV).2 (hb d zV).1 (hb d zV).2 f3
 |_::_::_::_::_::_,h,_=>simp at h
def bo (g:Lg) (f3:Int) (u:0<=f3) (z:f3<=1073741824):(fA g f3).jn=g.jn/\(fA g f3).ph=g.ph/\(QV g=true->QV (fA g f3)=true):=by
 unfold fA;split
 .split
  .refine⟨rfl,rfl,λh=>?_⟩;unfold QV at *;rw[zAx]at *; dsimp only;omega
  .exact⟨rfl,rfl,id⟩
 .refine⟨rfl,rfl,λh=>?_⟩;unfold QV at *;rw[zAx]at *; dsimp only;omega
theorem Lf {f3:Int} (B:0<=f3) (C:f3<=1073741824):∀(gs f4 u:List Lg),u.map (·.jn)=f4.map (·.jn)->kU f4 gs=true->kU u (gs.map λg=>fA g f3)=true
 | [],_,_,_,_=>rfl
 |x::post,f4,u,A,h=>by
  obtain⟨e1,_,e3⟩:=bo x f3 B C;have z:∀(l:List Lg),(l.any λy=>y.jn==x.jn)=(l.map (·.jn)).any λn=>n==x.jn:=λl=>by rw[List.any_map];rfl
  rw[kU,zA2,zA2]at h;rw[zCb,kU,e3 h.1,e1,z,A,<-z,h.2.1,zA3,zA3];exact Lf B C post (f4++[x]) (u++[fA x f3]) (by rw[zAy,zAy,A];simp[e1]) h.2.2
def W7 {l:List Rq} (hv:cJ l) (f3:Int) (z:0<=f3) (A:f3<=1073741824):cJ (EN l f3):=by
 refine⟨λr u=>?_,?_,by unfold EN;rw[zAr];exact hv.n4⟩
 .obtain⟨x,hx,rfl⟩:=zCa.1 u;have h:=hv.ok x hx;refine⟨h.i0,h.i1,h.v0,h.v1,h.c0,h.c1,h.t0,h.t1,?_⟩;have h1:=h.lg;rw[AL,zA2]at h1;unfold AL mkR;dsimp only;rw[zA2,zAr];exact⟨h1.1,Lf z A x.legs [] [] Z h1.2⟩
 .unfold EN;rw[List.pairwise_map];exact hv.so
def hH (p:Nat->Bool):Nat->Int
 |0=>0
 |n+1=>if p n=true then hH p n+p2 n else hH p n
theorem VO (p:Nat->Bool):∀n:Nat,n<=30->0<=hH p n/\hH p n<p2 n
 |0,_=>⟨zC1 0,by show(0:Int)<1;decide⟩
 | n+1,h=>by
  have u:=VO p n zB
  have h2:p2 ((n+1:Nat):Int)=2*p2 (n:Int):=by
   unfold p2;rw[zBf,zBf,zF3];omega
  have:=AQ n zB;unfold hH
  split<;>omega
theorem bT {p q:Nat->Bool}:∀n:Nat,(∀i,i<n->p i=q i)->hH p n=hH q n
 |0,_=>rfl
 |n+1,h=>by unfold hH;rw[h n zB,bT n λi hi=>h i zB]
def bq (u z A B C E G I:Bool):Nat->Bool
 |0=>u|1=>z|2=>A|3=>B|4=>C|5=>E|6=>G|7=>I|_=>false
def V7:∀u z A B C E G I:Bool,∀i:_root_.Fin 8,(jI (vT (hH (bq u z A B C E G I) 8) i.val) 1==1)=bq u z A B C E G I i.val:=by decide +kernel
def Kf (p:Nat->Bool) (i:Nat) (hi:i<8):(jI (vT (hH p 8) i) 1==1)=p i:=by
 have e:∀j,j<8->p j=bq (p 0) (p 1) (p 2) (p 3) (p 4) (p 5) (p 6) (p 7) j:=λj hj=>by
  match j,hj with
  |0,_=>rfl|1,_=>rfl|2,_=>rfl|3,_=>rfl|4,_=>rfl|5,_=>rfl|6,_=>rfl|7,_=>rfl
  |j+8,h=>omega
 rw[bT 8 e,e i hi];exact V7 _ _ _ _ _ _ _ _ ⟨i,hi⟩
def Eu (p:Nat->Bool):Nat->Nat
 |0=>0
 |n+1=>if p n=true then Eu p n+2 ^ n else Eu p n
theorem AS (p:Nat->Bool):∀n,hH p n=(Eu p n:Int)
 |0=>rfl
 |n+1=>by
  unfold hH Eu;rw[AS p n];split
  .unfold p2;simp
  .rfl
theorem MN (p:Nat->Bool):∀n,Eu p n<2 ^ n
 |0=>(show 0<1 by omega)
 |n+1=>by
  have:=MN p n;unfold Eu;rw[Nat.pow_succ]
  split<;>omega
theorem TN (p:Nat->Bool):∀n i,(Eu p n).testBit i=(decide (i<n)&&p i)
 |0,i=>by simp[Eu]
 | n+1,i=>by
  have z:=MN p n;unfold Eu
  rcases Nat.lt_trichotomy i n with h|h|h
  .rw[zAu zB,zA3];split
   .rw[Nat.add_comm,Nat.testBit_two_pow_add_gt h,TN p n i,zAu h,zA3]
   .rw[TN p n i,zAu h,zA3]
  .subst h;rw[zAu zB,zA3];split
   .rename_i u;rw[Nat.add_comm,Nat.testBit_two_pow_add_eq,TN p i i,zAs zB,u];rfl
   .rename_i u;rw[TN p i i,zAs zB];simpa using u
  .rw[zAs zB,zBt];refine Nat.testBit_lt_two_pow ?_;have h2:2 ^ (n+1)<=2 ^ i:=zEk zB zB;rw[Nat.pow_succ]at h2
   split<;>omega
def FD (a b:Nat) (u:a<2 ^ 30) (hb:b<2 ^ 30):pj a b=((a ||| b:Nat):Int):=by
 have h:=zFy u hb;unfold pj;rw[zDw,zDw,zF7,zDv,zDv];have e:(2:Nat) ^ IntKind.i64.bits=18446744073709551616:=by decide
 grind [pj,Nat.mod_eq_of_lt,kI,aB]
def ao (p q:Nat->Bool):pj (hH p 8) (hH q 8)=hH (λi=>p i||q i) 8:=by
 have h1:=MN p 8;have h2:=MN q 8;rw[AS,AS,AS,FD _ _ zB zB]
 congr 1
 apply Nat.eq_of_testBit_eq
 grind [pj,hH,TN]
