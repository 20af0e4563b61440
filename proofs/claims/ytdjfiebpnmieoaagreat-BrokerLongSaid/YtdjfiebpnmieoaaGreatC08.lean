/- Part 8. -/
import Derived.Test.YtdjfiebpnmieoaaGreatC07
namespace Go.Proofs.YtdjfiebpnmieoaaGreat.Av
open Tryz
set_option linter.all false
set_option maxRecDepth 4000
set_option maxHeartbeats 4000000
open List renaming length->ln,take->nm,drop->ny
open Inhabited renaming default->dd
def B8 (f4:Int) (r:Rq):Rq:=⟨r.id,r.vh,r.cls,r.til,r.legs.map λg=>eP g f4⟩
def CS (l:List Rq) (f4:Int):List Rq:=l.map (B8 f4)
def qX (l:List Lg) (f4:Int) (k:Nat):List Lg:=(l.take k).map (λg=>eP g f4)++l.drop k
def aF (l:List Lg) (f4:Int):qX l f4 (ln l)=l.map λg=>eP g f4:=by simp[qX]
def uX (l:List Lg) (f4:Int) (k:Nat):(qX l f4 k).length=ln l:=by simp[qX];omega
def kR {l ga post:List Lg} {g:Lg} {k:Nat} (f4:Int) (hx:l=ga++g::post) (hk:ln ga=k):((qX l f4 k).map yN)[k]? =some (yN g):=by grind [qX,yN]
def uY {l ga post:List Lg} {g:Lg} {k:Nat} (f4:Int) (hx:l=ga++g::post) (hk:ln ga=k):(qX l f4 (k+1)).map yN=((qX l f4 k).map yN).set k (yN (eP g f4)):=by
 subst hx hk;have e1:(ga++g::post).take (ln ga+1)=ga++[g]:=by rw[List.take_append,zAj zB];simp
 simp_all [qX,yN,eP]
def Ax (l:List Lg) (f4:Int):nm (l.map yN).length (ny 0 ((l.map λg=>eP g f4).map yN))=(l.map λg=>eP g f4).map yN:=by
 rw[zAu];exact zAj zW
def uL (r:Rq) (f4:Int) (k:Nat):wB:= .arr 5 ((qX r.legs f4 k).map yN) false
def Du (a:Rq) (B:1<=ln a.legs) (A:ln a.legs<=1000) (f4:Int):zO 179 [zD zX [a],iA f4] [] (zD zX (CS [a] f4)) []:=by
 have G:=AY a B A;have M:=zA yN a.legs;refine eM call179 λF hF=>?_
 refine zQ G ?_;refine wH 2 [1001,1101] [13,11,12,1,5] Z ?_;refine yD (st0:=⟨[(13,iA 0),(11,.ref 1001 0 1),(12,iA 1),(1,iA f4),(5,.ref 1001 0 1)],[(1001,.arr 5 [wI a 1101] ⟨false,true⟩),(1101,uL a f4 0)]⟩) Z ?_;unfold uL;refine WW ?_;refine zU (a.legs) [1101,7,1001] [7,1001] [1,5,7,11,12,13,19] [20,1,5,7,11,12,13,19] Z (λi ga T U=>⟨(20,iA i)::T,(1101,.arr 5 ((qX a.legs f4 i).map yN) false)::U⟩) (Lq ?_ ?_)
 .intro k ga g post hx hk;have C:=zV hx hk;have L:=kR f4 hx hk;have hs:=uY f4 hx hk;have E:((qX a.legs f4 k).map yN).length=ln a.legs:=by rw[zAa,uX]
  have u:∀y:AV,(((qX a.legs f4 k).map yN).set k y)[k]? =some y:=λy=>zA6 zB
  have z:=dR g f4;rw[hs];clear hx hs;generalize (qX a.legs f4 k).map yN=ys,eP g f4=I at *
  (have gd:=z;(repeat' (first|refine uD ?_|apply yZ|apply xM|intro hc|fail))<;>clear gd)
  rfl
 refine WW ?_;refine yD (st0:=⟨[(13,iA 1),(11,.ref 1001 0 1),(12,iA 1),(1,iA f4),(5,.ref 1001 0 1)],[(1001,.arr 5 [wI a 1101] ⟨false,true⟩),(1101,uL a f4 (ln a.legs))]⟩) Z ?_;unfold uL;simp only[aF];refine WW ?_;refine zH [] Z Z ?_ Z
 show AV.sl false [.agg [iA a.id,iA a.vh,iA a.cls,iA a.til,.sl false (nm (a.legs.map yN).length (ny 0 ((a.legs.map λg=>eP g f4).map yN)))]]=_
 simp only[Ax];rfl
theorem Cu (a b:Rq) (I:1<=ln a.legs) (E:ln a.legs<=1000) (hb:1<=ln b.legs) (G:ln b.legs<=1000) (f4:Int):zO 179 [zD zX [a,b],iA f4] [] (zD zX (CS [a,b] f4)) []:=by
 have M:=AZ a b I E hb G;have O:=zA yN a.legs;have R:=zA yN b.legs;refine eM call179 λF hF=>?_
 refine zQ M ?_;refine wH 3 [1001,1101,1102] [13,11,12,1,5] Z ?_;refine yD (st0:=⟨[(13,iA 0),(11,.ref 1001 0 2),(12,iA 2),(1,iA f4),(5,.ref 1001 0 2)],[(1001,.arr 5 [wI a 1101,wI b 1102] ⟨true,true⟩),(1101,uL a f4 0),(1102,uL b f4 0)]⟩) Z ?_;unfold uL;refine WW ?_;refine zU (a.legs) [1101,7,1001,1102] [7,1001,1102] [1,5,7,11,12,13,19] [20,1,5,7,11,12,13,19] Z (λi ga T U=>⟨(20,iA i)::T,(1101,.arr 5 ((qX a.legs f4 i).map yN) false)::U⟩) (Lq ?_ ?_)
 .intro k ga g post hx hk;have A:=zV hx hk;have L:=kR f4 hx hk;have hs:=uY f4 hx hk;have B:((qX a.legs f4 k).map yN).length=ln a.legs:=by rw[zAa,uX]
  have u:∀y:AV,(((qX a.legs f4 k).map yN).set k y)[k]? =some y:=λy=>zA6 zB
  have z:=dR g f4;rw[hs];clear hx hs;generalize (qX a.legs f4 k).map yN=ys,eP g f4=C at *
  (have gd:=z;(repeat' (first|refine uD ?_|apply yZ|apply xM|intro hc|fail))<;>clear gd)
  rfl
 refine WW ?_;refine yD (st0:=⟨[(13,iA 1),(11,.ref 1001 0 2),(12,iA 2),(1,iA f4),(5,.ref 1001 0 2)],[(1001,.arr 5 [wI a 1101,wI b 1102] ⟨true,true⟩),(1101,uL a f4 (ln a.legs)),(1102,uL b f4 0)]⟩) Z ?_;unfold uL;refine WW ?_;refine zU (b.legs) [1102,7,1001,1101] [7,1001,1101] [1,5,7,11,12,13,19] [20,1,5,7,11,12,13,19] Z (λi ga T U=>⟨(20,iA i)::T,(1102,.arr 5 ((qX b.legs f4 i).map yN) false)::U⟩) (Lq ?_ ?_)
 .intro k ga g post hx hk;have A:=zV hx hk;have L:=kR f4 hx hk;have hs:=uY f4 hx hk;have B:((qX b.legs f4 k).map yN).length=ln b.legs:=by rw[zAa,uX]
  have u:∀y:AV,(((qX b.legs f4 k).map yN).set k y)[k]? =some y:=λy=>zA6 zB
  have z:=dR g f4;rw[hs];clear hx hs;generalize (qX b.legs f4 k).map yN=ys,eP g f4=C at *
  (have gd:=z;(repeat' (first|refine uD ?_|apply yZ|apply xM|intro hc|fail))<;>clear gd)
  rfl
 refine WW ?_;refine yD (st0:=⟨[(13,iA 2),(11,.ref 1001 0 2),(12,iA 2),(1,iA f4),(5,.ref 1001 0 2)],[(1001,.arr 5 [wI a 1101,wI b 1102] ⟨true,true⟩),(1101,uL a f4 (ln a.legs)),(1102,uL b f4 (ln b.legs))]⟩) Z ?_;unfold uL;simp only[aF];refine WW ?_;refine zH [] Z Z ?_ Z
 show AV.sl false [.agg [iA a.id,iA a.vh,iA a.cls,iA a.til,.sl false (nm (a.legs.map yN).length (ny 0 ((a.legs.map λg=>eP g f4).map yN)))],.agg [iA b.id,iA b.vh,iA b.cls,iA b.til,.sl false (nm (b.legs.map yN).length (ny 0 ((b.legs.map λg=>eP g f4).map yN)))]]=_
 simp only[Ax];rfl
theorem Bu (a b c:Rq) (L:1<=ln a.legs) (G:ln a.legs<=1000) (hb:1<=ln b.legs) (I:ln b.legs<=1000) (hc:1<=ln c.legs) (gc:ln c.legs<=1000) (f4:Int):zO 179 [zD zX [a,b,c],iA f4] [] (zD zX (CS [a,b,c] f4)) []:=by
 have M:=za a b c L G hb I hc gc;have O:=zA yN a.legs;have R:=zA yN b.legs;have S:=zA yN c.legs;refine eM call179 λF hF=>?_
 refine zQ M ?_;refine wH 4 [1001,1101,1102,1103] [13,11,12,1,5] Z ?_;refine yD (st0:=⟨[(13,iA 0),(11,.ref 1001 0 3),(12,iA 3),(1,iA f4),(5,.ref 1001 0 3)],[(1001,.arr 5 [wI a 1101,wI b 1102,wI c 1103] ⟨true,true⟩),(1101,uL a f4 0),(1102,uL b f4 0),(1103,uL c f4 0)]⟩) Z ?_;unfold uL;refine WW ?_;refine zU (a.legs) [1101,7,1001,1102,1103] [7,1001,1102,1103] [1,5,7,11,12,13,19] [20,1,5,7,11,12,13,19] Z (λi ga T U=>⟨(20,iA i)::T,(1101,.arr 5 ((qX a.legs f4 i).map yN) false)::U⟩) (Lq ?_ ?_)
 .intro k ga g post hx hk;have A:=zV hx hk;have E:=kR f4 hx hk;have hs:=uY f4 hx hk;have B:((qX a.legs f4 k).map yN).length=ln a.legs:=by rw[zAa,uX]
  have u:∀y:AV,(((qX a.legs f4 k).map yN).set k y)[k]? =some y:=λy=>zA6 zB
  have z:=dR g f4;rw[hs];clear hx hs;generalize (qX a.legs f4 k).map yN=ys,eP g f4=C at *
  (have gd:=z;(repeat' (first|refine uD ?_|apply yZ|apply xM|intro hc|fail))<;>clear gd)
  rfl
 refine WW ?_;refine yD (st0:=⟨[(13,iA 1),(11,.ref 1001 0 3),(12,iA 3),(1,iA f4),(5,.ref 1001 0 3)],[(1001,.arr 5 [wI a 1101,wI b 1102,wI c 1103] ⟨true,true⟩),(1101,uL a f4 (ln a.legs)),(1102,uL b f4 0),(1103,uL c f4 0)]⟩) Z ?_;unfold uL;refine WW ?_;refine zU (b.legs) [1102,7,1001,1101,1103] [7,1001,1101,1103] [1,5,7,11,12,13,19] [20,1,5,7,11,12,13,19] Z (λi ga T U=>⟨(20,iA i)::T,(1102,.arr 5 ((qX b.legs f4 i).map yN) false)::U⟩) (Lq ?_ ?_)
 .intro k ga g post hx hk;have A:=zV hx hk;have E:=kR f4 hx hk;have hs:=uY f4 hx hk;have B:((qX b.legs f4 k).map yN).length=ln b.legs:=by rw[zAa,uX]
  have u:∀y:AV,(((qX b.legs f4 k).map yN).set k y)[k]? =some y:=λy=>zA6 zB
  have z:=dR g f4;rw[hs];clear hx hs;generalize (qX b.legs f4 k).map yN=ys,eP g f4=C at *
  (have gd:=z;(repeat' (first|refine uD ?_|apply yZ|apply xM|intro hc|fail))<;>clear gd)
  rfl
 refine WW ?_;refine yD (st0:=⟨[(13,iA 2),(11,.ref 1001 0 3),(12,iA 3),(1,iA f4),(5,.ref 1001 0 3)],[(1001,.arr 5 [wI a 1101,wI b 1102,wI c 1103] ⟨true,true⟩),(1101,uL a f4 (ln a.legs)),(1102,uL b f4 (ln b.legs)),(1103,uL c f4 0)]⟩) Z ?_;unfold uL;refine WW ?_;refine zU (c.legs) [1103,7,1001,1101,1102] [7,1001,1101,1102] [1,5,7,11,12,13,19] [20,1,5,7,11,12,13,19] Z (λi ga T U=>⟨(20,iA i)::T,(1103,.arr 5 ((qX c.legs f4 i).map yN) false)::U⟩) (Lq ?_ ?_)
 .intro k ga g post hx hk;have A:=zV hx hk;have E:=kR f4 hx hk;have hs:=uY f4 hx hk;have B:((qX c.legs f4 k).map yN).length=ln c.legs:=by rw[zAa,uX]
  have u:∀y:AV,(((qX c.legs f4 k).map yN).set k y)[k]? =some y:=λy=>zA6 zB
  have z:=dR g f4;rw[hs];clear hx hs;generalize (qX c.legs f4 k).map yN=ys,eP g f4=C at *
  (have gd:=z;(repeat' (first|refine uD ?_|apply yZ|apply xM|intro hc|fail))<;>clear gd)
  rfl
 refine WW ?_;refine yD (st0:=⟨[(13,iA 3),(11,.ref 1001 0 3),(12,iA 3),(1,iA f4),(5,.ref 1001 0 3)],[(1001,.arr 5 [wI a 1101,wI b 1102,wI c 1103] ⟨true,true⟩),(1101,uL a f4 (ln a.legs)),(1102,uL b f4 (ln b.legs)),(1103,uL c f4 (ln c.legs))]⟩) Z ?_;unfold uL;simp only[aF];refine WW ?_;refine zH [] Z Z ?_ Z
 show AV.sl false [.agg [iA a.id,iA a.vh,iA a.cls,iA a.til,.sl false (nm (a.legs.map yN).length (ny 0 ((a.legs.map λg=>eP g f4).map yN)))],.agg [iA b.id,iA b.vh,iA b.cls,iA b.til,.sl false (nm (b.legs.map yN).length (ny 0 ((b.legs.map λg=>eP g f4).map yN)))],.agg [iA c.id,iA c.vh,iA c.cls,iA c.til,.sl false (nm (c.legs.map yN).length (ny 0 ((c.legs.map λg=>eP g f4).map yN)))]]=_
 simp only[Ax];rfl
theorem Au (a b c d:Rq) (M:1<=ln a.legs) (G:ln a.legs<=1000) (hb:1<=ln b.legs) (I:ln b.legs<=1000) (hc:1<=ln c.legs) (gc:ln c.legs<=1000) (hd:1<=ln d.legs) (L:ln d.legs<=1000) (f4:Int):zO 179 [zD zX [a,b,c,d],iA f4] [] (zD zX (CS [a,b,c,d] f4)) []:=by
 have O:=ya a b c d M G hb I hc gc hd L;have R:=zA yN a.legs;have S:=zA yN b.legs;have V:=zA yN c.legs;have W:=zA yN d.legs;refine eM call179 λF hF=>?_
 refine zQ O ?_;refine wH 5 [1001,1101,1102,1103,1104] [13,11,12,1,5] Z ?_;refine yD (st0:=⟨[(13,iA 0),(11,.ref 1001 0 4),(12,iA 4),(1,iA f4),(5,.ref 1001 0 4)],[(1001,.arr 5 [wI a 1101,wI b 1102,wI c 1103,wI d 1104] ⟨true,true⟩),(1101,uL a f4 0),(1102,uL b f4 0),(1103,uL c f4 0),(1104,uL d f4 0)]⟩) Z ?_;unfold uL;refine WW ?_;refine zU (a.legs) [1101,7,1001,1102,1103,1104] [7,1001,1102,1103,1104] [1,5,7,11,12,13,19] [20,1,5,7,11,12,13,19] Z (λi ga T U=>⟨(20,iA i)::T,(1101,.arr 5 ((qX a.legs f4 i).map yN) false)::U⟩) (Lq ?_ ?_)
 .intro k ga g post hx hk;have A:=zV hx hk;have E:=kR f4 hx hk;have hs:=uY f4 hx hk;have B:((qX a.legs f4 k).map yN).length=ln a.legs:=by rw[zAa,uX]
  have u:∀y:AV,(((qX a.legs f4 k).map yN).set k y)[k]? =some y:=λy=>zA6 zB
  have z:=dR g f4;rw[hs];clear hx hs;generalize (qX a.legs f4 k).map yN=ys,eP g f4=C at *
  (have gd:=z;(repeat' (first|refine uD ?_|apply yZ|apply xM|intro hc|fail))<;>clear gd)
  rfl
 refine WW ?_;refine yD (st0:=⟨[(13,iA 1),(11,.ref 1001 0 4),(12,iA 4),(1,iA f4),(5,.ref 1001 0 4)],[(1001,.arr 5 [wI a 1101,wI b 1102,wI c 1103,wI d 1104] ⟨true,true⟩),(1101,uL a f4 (ln a.legs)),(1102,uL b f4 0),(1103,uL c f4 0),(1104,uL d f4 0)]⟩) Z ?_;unfold uL;refine WW ?_;refine zU (b.legs) [1102,7,1001,1101,1103,1104] [7,1001,1101,1103,1104] [1,5,7,11,12,13,19] [20,1,5,7,11,12,13,19] Z (λi ga T U=>⟨(20,iA i)::T,(1102,.arr 5 ((qX b.legs f4 i).map yN) false)::U⟩) (Lq ?_ ?_)
 .intro k ga g post hx hk;have A:=zV hx hk;have E:=kR f4 hx hk;have hs:=uY f4 hx hk;have B:((qX b.legs f4 k).map yN).length=ln b.legs:=by rw[zAa,uX]
  have u:∀y:AV,(((qX b.legs f4 k).map yN).set k y)[k]? =some y:=λy=>zA6 zB
  have z:=dR g f4;rw[hs];clear hx hs;generalize (qX b.legs f4 k).map yN=ys,eP g f4=C at *
  (have gd:=z;(repeat' (first|refine uD ?_|apply yZ|apply xM|intro hc|fail))<;>clear gd)
  rfl
 refine WW ?_;refine yD (st0:=⟨[(13,iA 2),(11,.ref 1001 0 4),(12,iA 4),(1,iA f4),(5,.ref 1001 0 4)],[(1001,.arr 5 [wI a 1101,wI b 1102,wI c 1103,wI d 1104] ⟨true,true⟩),(1101,uL a f4 (ln a.legs)),(1102,uL b f4 (ln b.legs)),(1103,uL c f4 0),(1104,uL d f4 0)]⟩) Z ?_;unfold uL;refine WW ?_;refine zU (c.legs) [1103,7,1001,1101,1102,1104] [7,1001,1101,1102,1104] [1,5,7,11,12,13,19] [20,1,5,7,11,12,13,19] Z (λi ga T U=>⟨(20,iA i)::T,(1103,.arr 5 ((qX c.legs f4 i).map yN) false)::U⟩) (Lq ?_ ?_)
 .intro k ga g post hx hk;have A:=zV hx hk;have E:=kR f4 hx hk;have hs:=uY f4 hx hk;have B:((qX c.legs f4 k).map yN).length=ln c.legs:=by rw[zAa,uX]
  have u:∀y:AV,(((qX c.legs f4 k).map yN).set k y)[k]? =some y:=λy=>zA6 zB
  have z:=dR g f4;rw[hs];clear hx hs;generalize (qX c.legs f4 k).map yN=ys,eP g f4=C at *
  (have gd:=z;(repeat' (first|refine uD ?_|apply yZ|apply xM|intro hc|fail))<;>clear gd)
  rfl
 refine WW ?_;refine yD (st0:=⟨[(13,iA 3),(11,.ref 1001 0 4),(12,iA 4),(1,iA f4),(5,.ref 1001 0 4)],[(1001,.arr 5 [wI a 1101,wI b 1102,wI c 1103,wI d 1104] ⟨true,true⟩),(1101,uL a f4 (ln a.legs)),(1102,uL b f4 (ln b.legs)),(1103,uL c f4 (ln c.legs)),(1104,uL d f4 0)]⟩) Z ?_;unfold uL;refine WW ?_;refine zU (d.legs) [1104,7,1001,1101,1102,1103] [7,1001,1101,1102,1103] [1,5,7,11,12,13,19] [20,1,5,7,11,12,13,19] Z (λi ga T U=>⟨(20,iA i)::T,(1104,.arr 5 ((qX d.legs f4 i).map yN) false)::U⟩) (Lq ?_ ?_)
 .intro k ga g post hx hk;have A:=zV hx hk;have E:=kR f4 hx hk;have hs:=uY f4 hx hk;have B:((qX d.legs f4 k).map yN).length=ln d.legs:=by rw[zAa,uX]
  have u:∀y:AV,(((qX d.legs f4 k).map yN).set k y)[k]? =some y:=λy=>zA6 zB
  have z:=dR g f4;rw[hs];clear hx hs;generalize (qX d.legs f4 k).map yN=ys,eP g f4=C at *
  (have gd:=z;(repeat' (first|refine uD ?_|apply yZ|apply xM|intro hc|fail))<;>clear gd)
  rfl
 refine WW ?_;refine yD (st0:=⟨[(13,iA 4),(11,.ref 1001 0 4),(12,iA 4),(1,iA f4),(5,.ref 1001 0 4)],[(1001,.arr 5 [wI a 1101,wI b 1102,wI c 1103,wI d 1104] ⟨true,true⟩),(1101,uL a f4 (ln a.legs)),(1102,uL b f4 (ln b.legs)),(1103,uL c f4 (ln c.legs)),(1104,uL d f4 (ln d.legs))]⟩) Z ?_;unfold uL;simp only[aF];refine WW ?_;refine zH [] Z Z ?_ Z
 show AV.sl false [.agg [iA a.id,iA a.vh,iA a.cls,iA a.til,.sl false (nm (a.legs.map yN).length (ny 0 ((a.legs.map λg=>eP g f4).map yN)))],.agg [iA b.id,iA b.vh,iA b.cls,iA b.til,.sl false (nm (b.legs.map yN).length (ny 0 ((b.legs.map λg=>eP g f4).map yN)))],.agg [iA c.id,iA c.vh,iA c.cls,iA c.til,.sl false (nm (c.legs.map yN).length (ny 0 ((c.legs.map λg=>eP g f4).map yN)))],.agg [iA d.id,iA d.vh,iA d.cls,iA d.til,.sl false (nm (d.legs.map yN).length (ny 0 ((d.legs.map λg=>eP g f4).map yN)))]]=_
 simp only[Ax];rfl
def Fo (a:Rq) (A:1<=ln a.legs) (z:ln a.legs<=1000):zO 170 [zD zX [a]] [] (.ref 1001 0 1) [(1001,.arr 5 [wI a 1101] ⟨false,true⟩),(1101,qT a)]:=by
 have B:=zA yN a.legs;refine eM call170 λF hF=>?_
 refine WW ?_;refine zS 3 1001 5 Z Z Z ?_;refine wH 2 [1001,1101] [3,8,6,7] Z ?_;refine yD (st0:=⟨[(3,.ref 1001 0 0),(8,iA 0),(6,.sl false [zX a]),(7,iA 1)],[(1001,.arr 5 [] ⟨true,false⟩)]⟩) Z ?_
 (repeat' (first|refine dZ ?_|apply yZ|apply xM|intro hc|(apply zG;first|(apply yG;refine wA 1101 tok Z Z Z Z Z Z (zZ _ _ (λ_=>rfl)) Z Z Z zB Z Z Z ?_)|(apply yR;refine qV (xs:=[_]) 1002 tok Z Z Z Z Z Z Z Z Z Z Z Z ?_)|(apply yG;first|refine wE tok Z Z Z Z Z Z Z (by intro y u;cases u;rfl) Z Z Z zW Z ?_|refine wP tok Z Z Z Z Z Z Z Z Z Z Z (by intro y u;cases u;rfl) zW Z ?_))|refine SB ?_|fail))
 refine yD (st0:=⟨[(3,.ref 1001 0 1),(8,iA 1),(6,.sl false [zX a]),(7,iA 1)],[(1001,.arr 5 [wI a 1101] ⟨false,true⟩),(1101,qT a)]⟩) Z ?_;refine WW ?_;exact zP [1001,1101] Z Z Z Z
def Eo (a b:Rq) (B:1<=ln a.legs) (z:ln a.legs<=1000) (hb:1<=ln b.legs) (A:ln b.legs<=1000):zO 170 [zD zX [a,b]] [] (.ref 1001 0 2) [(1001,.arr 5 [wI a 1101,wI b 1102] ⟨true,true⟩),(1101,qT a),(1102,qT b)]:=by
 have C:=zA yN a.legs;have E:=zA yN b.legs;refine eM call170 λF hF=>?_
 refine WW ?_;refine zS 3 1001 5 Z Z Z ?_;refine wH 3 [1001,1101,1102] [3,8,6,7] Z ?_;refine yD (st0:=⟨[(3,.ref 1001 0 0),(8,iA 0),(6,.sl false [zX a,zX b]),(7,iA 2)],[(1001,.arr 5 [] ⟨true,false⟩)]⟩) Z ?_
 (repeat' (first|refine dZ ?_|apply yZ|apply xM|intro hc|(apply zG;first|(apply yG;refine wA 1101 tok Z Z Z Z Z Z (zZ _ _ (λ_=>rfl)) Z Z Z zB Z Z Z ?_)|(apply yR;refine qV (xs:=[_]) 1002 tok Z Z Z Z Z Z Z Z Z Z Z Z ?_)|(apply yG;first|refine wE tok Z Z Z Z Z Z Z (by intro y u;cases u;rfl) Z Z Z zW Z ?_|refine wP tok Z Z Z Z Z Z Z Z Z Z Z (by intro y u;cases u;rfl) zW Z ?_))|refine SB ?_|fail))
 refine yD (st0:=⟨[(3,.ref 1001 0 1),(8,iA 1),(6,.sl false [zX a,zX b]),(7,iA 2)],[(1001,.arr 5 [wI a 1101] ⟨false,true⟩),(1101,qT a)]⟩) Z ?_
 (repeat' (first|refine dZ ?_|apply yZ|apply xM|intro hc|(apply zG;first|(apply yG;refine wA 1102 tok Z Z Z Z Z Z (zZ _ _ (λ_=>rfl)) Z Z Z zB Z Z Z ?_)|(apply yR;refine qV (xs:=[_]) 1002 tok Z Z Z Z Z Z Z Z Z Z Z Z ?_)|(apply yG;first|refine wE tok Z Z Z Z Z Z Z (by intro y u;cases u;rfl) Z Z Z zW Z ?_|refine wP tok Z Z Z Z Z Z Z Z Z Z Z (by intro y u;cases u;rfl) zW Z ?_))|refine SB ?_|fail))
 refine yD (st0:=⟨[(3,.ref 1001 0 2),(8,iA 2),(6,.sl false [zX a,zX b]),(7,iA 2)],[(1001,.arr 5 [wI a 1101,wI b 1102] ⟨true,true⟩),(1101,qT a),(1102,qT b)]⟩) Z ?_;refine WW ?_;exact zP [1001,1101,1102] Z Z Z Z
def Co (a b c:Rq) (B:1<=ln a.legs) (z:ln a.legs<=1000) (hb:1<=ln b.legs) (A:ln b.legs<=1000) (hc:1<=ln c.legs) (gc:ln c.legs<=1000):zO 170 [zD zX [a,b,c]] [] (.ref 1001 0 3) [(1001,.arr 5 [wI a 1101,wI b 1102,wI c 1103] ⟨true,true⟩),(1101,qT a),(1102,qT b),(1103,qT c)]:=by
 have C:=zA yN a.legs;have E:=zA yN b.legs;have G:=zA yN c.legs;refine eM call170 λF hF=>?_
 refine WW ?_;refine zS 3 1001 5 Z Z Z ?_;refine wH 4 [1001,1101,1102,1103] [3,8,6,7] Z ?_;refine yD (st0:=⟨[(3,.ref 1001 0 0),(8,iA 0),(6,.sl false [zX a,zX b,zX c]),(7,iA 3)],[(1001,.arr 5 [] ⟨true,false⟩)]⟩) Z ?_
 (repeat' (first|refine dZ ?_|apply yZ|apply xM|intro hc|(apply zG;first|(apply yG;refine wA 1101 tok Z Z Z Z Z Z (zZ _ _ (λ_=>rfl)) Z Z Z zB Z Z Z ?_)|(apply yR;refine qV (xs:=[_]) 1002 tok Z Z Z Z Z Z Z Z Z Z Z Z ?_)|(apply yG;first|refine wE tok Z Z Z Z Z Z Z (by intro y u;cases u;rfl) Z Z Z zW Z ?_|refine wP tok Z Z Z Z Z Z Z Z Z Z Z (by intro y u;cases u;rfl) zW Z ?_))|refine SB ?_|fail))
 refine yD (st0:=⟨[(3,.ref 1001 0 1),(8,iA 1),(6,.sl false [zX a,zX b,zX c]),(7,iA 3)],[(1001,.arr 5 [wI a 1101] ⟨false,true⟩),(1101,qT a)]⟩) Z ?_
 (repeat' (first|refine dZ ?_|apply yZ|apply xM|intro hc|(apply zG;first|(apply yG;refine wA 1102 tok Z Z Z Z Z Z (zZ _ _ (λ_=>rfl)) Z Z Z zB Z Z Z ?_)|(apply yR;refine qV (xs:=[_]) 1002 tok Z Z Z Z Z Z Z Z Z Z Z Z ?_)|(apply yG;first|refine wE tok Z Z Z Z Z Z Z (by intro y u;cases u;rfl) Z Z Z zW Z ?_|refine wP tok Z Z Z Z Z Z Z Z Z Z Z (by intro y u;cases u;rfl) zW Z ?_))|refine SB ?_|fail))
 refine yD (st0:=⟨[(3,.ref 1001 0 2),(8,iA 2),(6,.sl false [zX a,zX b,zX c]),(7,iA 3)],[(1001,.arr 5 [wI a 1101,wI b 1102] ⟨true,true⟩),(1101,qT a),(1102,qT b)]⟩) Z ?_
 (repeat' (first|refine dZ ?_|apply yZ|apply xM|intro hc|(apply zG;first|(apply yG;refine wA 1103 tok Z Z Z Z Z Z (zZ _ _ (λ_=>rfl)) Z Z Z zB Z Z Z ?_)|(apply yR;refine qV (xs:=[_]) 1002 tok Z Z Z Z Z Z Z Z Z Z Z Z ?_)|(apply yG;first|refine wE tok Z Z Z Z Z Z Z (by intro y u;cases u;rfl) Z Z Z zW Z ?_|refine wP tok Z Z Z Z Z Z Z Z Z Z Z (by intro y u;cases u;rfl) zW Z ?_))|refine SB ?_|fail))
 refine yD (st0:=⟨[(3,.ref 1001 0 3),(8,iA 3),(6,.sl false [zX a,zX b,zX c]),(7,iA 3)],[(1001,.arr 5 [wI a 1101,wI b 1102,wI c 1103] ⟨true,true⟩),(1101,qT a),(1102,qT b),(1103,qT c)]⟩) Z ?_;refine WW ?_;exact zP [1001,1101,1102,1103] Z Z Z Z
theorem Bo (a b c d:Rq) (C:1<=ln a.legs) (z:ln a.legs<=1000) (hb:1<=ln b.legs) (A:ln b.legs<=1000) (hc:1<=ln c.legs) (gc:ln c.legs<=1000) (hd:1<=ln d.legs) (B:ln d.legs<=1000):zO 170 [zD zX [a,b,c,d]] [] (.ref 1001 0 4) [(1001,.arr 5 [wI a 1101,wI b 1102,wI c 1103,wI d 1104] ⟨true,true⟩),(1101,qT a),(1102,qT b),(1103,qT c),(1104,qT d)]:=by
 have E:=zA yN a.legs;have G:=zA yN b.legs;have I:=zA yN c.legs;have L:=zA yN d.legs;refine eM call170 λF hF=>?_
 refine WW ?_;refine zS 3 1001 5 Z Z Z ?_;refine wH 5 [1001,1101,1102,1103,1104] [3,8,6,7] Z ?_;refine yD (st0:=⟨[(3,.ref 1001 0 0),(8,iA 0),(6,.sl false [zX a,zX b,zX c,zX d]),(7,iA 4)],[(1001,.arr 5 [] ⟨true,false⟩)]⟩) Z ?_
 (repeat' (first|refine dZ ?_|apply yZ|apply xM|intro hc|(apply zG;first|(apply yG;refine wA 1101 tok Z Z Z Z Z Z (zZ _ _ (λ_=>rfl)) Z Z Z zB Z Z Z ?_)|(apply yR;refine qV (xs:=[_]) 1002 tok Z Z Z Z Z Z Z Z Z Z Z Z ?_)|(apply yG;first|refine wE tok Z Z Z Z Z Z Z (by intro y u;cases u;rfl) Z Z Z zW Z ?_|refine wP tok Z Z Z Z Z Z Z Z Z Z Z (by intro y u;cases u;rfl) zW Z ?_))|refine SB ?_|fail))
 refine yD (st0:=⟨[(3,.ref 1001 0 1),(8,iA 1),(6,.sl false [zX a,zX b,zX c,zX d]),(7,iA 4)],[(1001,.arr 5 [wI a 1101] ⟨false,true⟩),(1101,qT a)]⟩) Z ?_
 (repeat' (first|refine dZ ?_|apply yZ|apply xM|intro hc|(apply zG;first|(apply yG;refine wA 1102 tok Z Z Z Z Z Z (zZ _ _ (λ_=>rfl)) Z Z Z zB Z Z Z ?_)|(apply yR;refine qV (xs:=[_]) 1002 tok Z Z Z Z Z Z Z Z Z Z Z Z ?_)|(apply yG;first|refine wE tok Z Z Z Z Z Z Z (by intro y u;cases u;rfl) Z Z Z zW Z ?_|refine wP tok Z Z Z Z Z Z Z Z Z Z Z (by intro y u;cases u;rfl) zW Z ?_))|refine SB ?_|fail))
 refine yD (st0:=⟨[(3,.ref 1001 0 2),(8,iA 2),(6,.sl false [zX a,zX b,zX c,zX d]),(7,iA 4)],[(1001,.arr 5 [wI a 1101,wI b 1102] ⟨true,true⟩),(1101,qT a),(1102,qT b)]⟩) Z ?_
 (repeat' (first|refine dZ ?_|apply yZ|apply xM|intro hc|(apply zG;first|(apply yG;refine wA 1103 tok Z Z Z Z Z Z (zZ _ _ (λ_=>rfl)) Z Z Z zB Z Z Z ?_)|(apply yR;refine qV (xs:=[_]) 1002 tok Z Z Z Z Z Z Z Z Z Z Z Z ?_)|(apply yG;first|refine wE tok Z Z Z Z Z Z Z (by intro y u;cases u;rfl) Z Z Z zW Z ?_|refine wP tok Z Z Z Z Z Z Z Z Z Z Z (by intro y u;cases u;rfl) zW Z ?_))|refine SB ?_|fail))
 refine yD (st0:=⟨[(3,.ref 1001 0 3),(8,iA 3),(6,.sl false [zX a,zX b,zX c,zX d]),(7,iA 4)],[(1001,.arr 5 [wI a 1101,wI b 1102,wI c 1103] ⟨true,true⟩),(1101,qT a),(1102,qT b),(1103,qT c)]⟩) Z ?_
 (repeat' (first|refine dZ ?_|apply yZ|apply xM|intro hc|(apply zG;first|(apply yG;refine wA 1104 tok Z Z Z Z Z Z (zZ _ _ (λ_=>rfl)) Z Z Z zB Z Z Z ?_)|(apply yR;refine qV (xs:=[_]) 1002 tok Z Z Z Z Z Z Z Z Z Z Z Z ?_)|(apply yG;first|refine wE tok Z Z Z Z Z Z Z (by intro y u;cases u;rfl) Z Z Z zW Z ?_|refine wP tok Z Z Z Z Z Z Z Z Z Z Z (by intro y u;cases u;rfl) zW Z ?_))|refine SB ?_|fail))
 refine yD (st0:=⟨[(3,.ref 1001 0 4),(8,iA 4),(6,.sl false [zX a,zX b,zX c,zX d]),(7,iA 4)],[(1001,.arr 5 [wI a 1101,wI b 1102,wI c 1103,wI d 1104] ⟨true,true⟩),(1101,qT a),(1102,qT b),(1103,qT c),(1104,qT d)]⟩) Z ?_;refine WW ?_;exact zP [1001,1101,1102,1103,1104] Z Z Z Z
def Ao (a:Rq) (B:1<=ln a.legs) (A:ln a.legs<=1000) (f4:Int):zO 200 [zD zX [a],iA f4] [] (zD zX (CS [a] f4)) []:=by
 have G:=Fo a B A;have M:=zA yN a.legs;refine eM call200 λF hF=>?_
 refine zQ G ?_;refine wH 2 [1001,1101] [14,12,13,1,5] Z ?_;refine yD (st0:=⟨[(14,iA 0),(12,.ref 1001 0 1),(13,iA 1),(1,iA f4),(5,.ref 1001 0 1)],[(1001,.arr 5 [wI a 1101] ⟨false,true⟩),(1101,uL a f4 0)]⟩) Z ?_;unfold uL;refine WW ?_;refine zU (a.legs) [1101,7,1001] [7,1001] [1,5,7,12,13,14,19,20] [21,1,5,7,12,13,14,19,20] Z (λi ga T U=>⟨(21,iA i)::T,(1101,.arr 5 ((qX a.legs f4 i).map yN) false)::U⟩) (Lq ?_ ?_)
 .intro k ga g post hx hk;have C:=zV hx hk;have L:=kR f4 hx hk;have hs:=uY f4 hx hk;have E:((qX a.legs f4 k).map yN).length=ln a.legs:=by rw[zAa,uX]
  have u:∀y:AV,(((qX a.legs f4 k).map yN).set k y)[k]? =some y:=λy=>zA6 zB
  have z:=gX g f4;rw[hs];clear hx hs;generalize (qX a.legs f4 k).map yN=ys,eP g f4=I at *
  (have gd:=z;(repeat' (first|refine uD ?_|apply yZ|apply xM|intro hc|fail))<;>clear gd)
  rfl
 refine WW ?_;refine yD (st0:=⟨[(14,iA 1),(12,.ref 1001 0 1),(13,iA 1),(1,iA f4),(5,.ref 1001 0 1)],[(1001,.arr 5 [wI a 1101] ⟨false,true⟩),(1101,uL a f4 (ln a.legs))]⟩) Z ?_;unfold uL;simp only[aF];refine WW ?_;refine zH [] Z Z ?_ Z
 show AV.sl false [.agg [iA a.id,iA a.vh,iA a.cls,iA a.til,.sl false (nm (a.legs.map yN).length (ny 0 ((a.legs.map λg=>eP g f4).map yN)))]]=_
 simp only[Ax];rfl
theorem zp (a b:Rq) (I:1<=ln a.legs) (E:ln a.legs<=1000) (hb:1<=ln b.legs) (G:ln b.legs<=1000) (f4:Int):zO 200 [zD zX [a,b],iA f4] [] (zD zX (CS [a,b] f4)) []:=by
 have M:=Eo a b I E hb G;have O:=zA yN a.legs;have R:=zA yN b.legs;refine eM call200 λF hF=>?_
 refine zQ M ?_;refine wH 3 [1001,1101,1102] [14,12,13,1,5] Z ?_;refine yD (st0:=⟨[(14,iA 0),(12,.ref 1001 0 2),(13,iA 2),(1,iA f4),(5,.ref 1001 0 2)],[(1001,.arr 5 [wI a 1101,wI b 1102] ⟨true,true⟩),(1101,uL a f4 0),(1102,uL b f4 0)]⟩) Z ?_;unfold uL;refine WW ?_;refine zU (a.legs) [1101,7,1001,1102] [7,1001,1102] [1,5,7,12,13,14,19,20] [21,1,5,7,12,13,14,19,20] Z (λi ga T U=>⟨(21,iA i)::T,(1101,.arr 5 ((qX a.legs f4 i).map yN) false)::U⟩) (Lq ?_ ?_)
 .intro k ga g post hx hk;have A:=zV hx hk;have L:=kR f4 hx hk;have hs:=uY f4 hx hk;have B:((qX a.legs f4 k).map yN).length=ln a.legs:=by rw[zAa,uX]
  have u:∀y:AV,(((qX a.legs f4 k).map yN).set k y)[k]? =some y:=λy=>zA6 zB
  have z:=gX g f4;rw[hs];clear hx hs;generalize (qX a.legs f4 k).map yN=ys,eP g f4=C at *
  (have gd:=z;(repeat' (first|refine uD ?_|apply yZ|apply xM|intro hc|fail))<;>clear gd)
  rfl
 refine WW ?_;refine yD (st0:=⟨[(14,iA 1),(12,.ref 1001 0 2),(13,iA 2),(1,iA f4),(5,.ref 1001 0 2)],[(1001,.arr 5 [wI a 1101,wI b 1102] ⟨true,true⟩),(1101,uL a f4 (ln a.legs)),(1102,uL b f4 0)]⟩) Z ?_;unfold uL;refine WW ?_;refine zU (b.legs) [1102,7,1001,1101] [7,1001,1101] [1,5,7,12,13,14,19,20] [21,1,5,7,12,13,14,19,20] Z (λi ga T U=>⟨(21,iA i)::T,(1102,.arr 5 ((qX b.legs f4 i).map yN) false)::U⟩) (Lq ?_ ?_)
 .intro k ga g post hx hk;have A:=zV hx hk;have L:=kR f4 hx hk;have hs:=uY f4 hx hk;have B:((qX b.legs f4 k).map yN).length=ln b.legs:=by rw[zAa,uX]
  have u:∀y:AV,(((qX b.legs f4 k).map yN).set k y)[k]? =some y:=λy=>zA6 zB
  have z:=gX g f4;rw[hs];clear hx hs;generalize (qX b.legs f4 k).map yN=ys,eP g f4=C at *
  (have gd:=z;(repeat' (first|refine uD ?_|apply yZ|apply xM|intro hc|fail))<;>clear gd)
  rfl
 refine WW ?_;refine yD (st0:=⟨[(14,iA 2),(12,.ref 1001 0 2),(13,iA 2),(1,iA f4),(5,.ref 1001 0 2)],[(1001,.arr 5 [wI a 1101,wI b 1102] ⟨true,true⟩),(1101,uL a f4 (ln a.legs)),(1102,uL b f4 (ln b.legs))]⟩) Z ?_;unfold uL;simp only[aF];refine WW ?_;refine zH [] Z Z ?_ Z
 show AV.sl false [.agg [iA a.id,iA a.vh,iA a.cls,iA a.til,.sl false (nm (a.legs.map yN).length (ny 0 ((a.legs.map λg=>eP g f4).map yN)))],.agg [iA b.id,iA b.vh,iA b.cls,iA b.til,.sl false (nm (b.legs.map yN).length (ny 0 ((b.legs.map λg=>eP g f4).map yN)))]]=_
 simp only[Ax];rfl
theorem yp (a b c:Rq) (L:1<=ln a.legs) (G:ln a.legs<=1000) (hb:1<=ln b.legs) (I:ln b.legs<=1000) (hc:1<=ln c.legs) (gc:ln c.legs<=1000) (f4:Int):zO 200 [zD zX [a,b,c],iA f4] [] (zD zX (CS [a,b,c] f4)) []:=by
 have M:=Co a b c L G hb I hc gc;have O:=zA yN a.legs;have R:=zA yN b.legs;have S:=zA yN c.legs;refine eM call200 λF hF=>?_
 refine zQ M ?_;refine wH 4 [1001,1101,1102,1103] [14,12,13,1,5] Z ?_;refine yD (st0:=⟨[(14,iA 0),(12,.ref 1001 0 3),(13,iA 3),(1,iA f4),(5,.ref 1001 0 3)],[(1001,.arr 5 [wI a 1101,wI b 1102,wI c 1103] ⟨true,true⟩),(1101,uL a f4 0),(1102,uL b f4 0),(1103,uL c f4 0)]⟩) Z ?_;unfold uL;refine WW ?_;refine zU (a.legs) [1101,7,1001,1102,1103] [7,1001,1102,1103] [1,5,7,12,13,14,19,20] [21,1,5,7,12,13,14,19,20] Z (λi ga T U=>⟨(21,iA i)::T,(1101,.arr 5 ((qX a.legs f4 i).map yN) false)::U⟩) (Lq ?_ ?_)
 .intro k ga g post hx hk;have A:=zV hx hk;have E:=kR f4 hx hk;have hs:=uY f4 hx hk;have B:((qX a.legs f4 k).map yN).length=ln a.legs:=by rw[zAa,uX]
  have u:∀y:AV,(((qX a.legs f4 k).map yN).set k y)[k]? =some y:=λy=>zA6 zB
  have z:=gX g f4;rw[hs];clear hx hs;generalize (qX a.legs f4 k).map yN=ys,eP g f4=C at *
  (have gd:=z;(repeat' (first|refine uD ?_|apply yZ|apply xM|intro hc|fail))<;>clear gd)
  rfl
 refine WW ?_;refine yD (st0:=⟨[(14,iA 1),(12,.ref 1001 0 3),(13,iA 3),(1,iA f4),(5,.ref 1001 0 3)],[(1001,.arr 5 [wI a 1101,wI b 1102,wI c 1103] ⟨true,true⟩),(1101,uL a f4 (ln a.legs)),(1102,uL b f4 0),(1103,uL c f4 0)]⟩) Z ?_;unfold uL;refine WW ?_;refine zU (b.legs) [1102,7,1001,1101,1103] [7,1001,1101,1103] [1,5,7,12,13,14,19,20] [21,1,5,7,12,13,14,19,20] Z (λi ga T U=>⟨(21,iA i)::T,(1102,.arr 5 ((qX b.legs f4 i).map yN) false)::U⟩) (Lq ?_ ?_)
 .intro k ga g post hx hk;have A:=zV hx hk;have E:=kR f4 hx hk;have hs:=uY f4 hx hk;have B:((qX b.legs f4 k).map yN).length=ln b.legs:=by rw[zAa,uX]
  have u:∀y:AV,(((qX b.legs f4 k).map yN).set k y)[k]? =some y:=λy=>zA6 zB
  have z:=gX g f4;rw[hs];clear hx hs;generalize (qX b.legs f4 k).map yN=ys,eP g f4=C at *
  (have gd:=z;(repeat' (first|refine uD ?_|apply yZ|apply xM|intro hc|fail))<;>clear gd)
  rfl
 refine WW ?_;refine yD (st0:=⟨[(14,iA 2),(12,.ref 1001 0 3),(13,iA 3),(1,iA f4),(5,.ref 1001 0 3)],[(1001,.arr 5 [wI a 1101,wI b 1102,wI c 1103] ⟨true,true⟩),(1101,uL a f4 (ln a.legs)),(1102,uL b f4 (ln b.legs)),(1103,uL c f4 0)]⟩) Z ?_;unfold uL;refine WW ?_;refine zU (c.legs) [1103,7,1001,1101,1102] [7,1001,1101,1102] [1,5,7,12,13,14,19,20] [21,1,5,7,12,13,14,19,20] Z (λi ga T U=>⟨(21,iA i)::T,(1103,.arr 5 ((qX c.legs f4 i).map yN) false)::U⟩) (Lq ?_ ?_)
 .intro k ga g post hx hk;have A:=zV hx hk;have E:=kR f4 hx hk;have hs:=uY f4 hx hk;have B:((qX c.legs f4 k).map yN).length=ln c.legs:=by rw[zAa,uX]
  have u:∀y:AV,(((qX c.legs f4 k).map yN).set k y)[k]? =some y:=λy=>zA6 zB
  have z:=gX g f4;rw[hs];clear hx hs;generalize (qX c.legs f4 k).map yN=ys,eP g f4=C at *
  (have gd:=z;(repeat' (first|refine uD ?_|apply yZ|apply xM|intro hc|fail))<;>clear gd)
  rfl
 refine WW ?_;refine yD (st0:=⟨[(14,iA 3),(12,.ref 1001 0 3),(13,iA 3),(1,iA f4),(5,.ref 1001 0 3)],[(1001,.arr 5 [wI a 1101,wI b 1102,wI c 1103] ⟨true,true⟩),(1101,uL a f4 (ln a.legs)),(1102,uL b f4 (ln b.legs)),(1103,uL c f4 (ln c.legs))]⟩) Z ?_;unfold uL;simp only[aF];refine WW ?_;refine zH [] Z Z ?_ Z
 show AV.sl false [.agg [iA a.id,iA a.vh,iA a.cls,iA a.til,.sl false (nm (a.legs.map yN).length (ny 0 ((a.legs.map λg=>eP g f4).map yN)))],.agg [iA b.id,iA b.vh,iA b.cls,iA b.til,.sl false (nm (b.legs.map yN).length (ny 0 ((b.legs.map λg=>eP g f4).map yN)))],.agg [iA c.id,iA c.vh,iA c.cls,iA c.til,.sl false (nm (c.legs.map yN).length (ny 0 ((c.legs.map λg=>eP g f4).map yN)))]]=_
 simp only[Ax];rfl
theorem xp (a b c d:Rq) (M:1<=ln a.legs) (G:ln a.legs<=1000) (hb:1<=ln b.legs) (I:ln b.legs<=1000) (hc:1<=ln c.legs) (gc:ln c.legs<=1000) (hd:1<=ln d.legs) (L:ln d.legs<=1000) (f4:Int):zO 200 [zD zX [a,b,c,d],iA f4] [] (zD zX (CS [a,b,c,d] f4)) []:=by
 have O:=Bo a b c d M G hb I hc gc hd L;have R:=zA yN a.legs;have S:=zA yN b.legs;have V:=zA yN c.legs;have W:=zA yN d.legs;refine eM call200 λF hF=>?_
 refine zQ O ?_;refine wH 5 [1001,1101,1102,1103,1104] [14,12,13,1,5] Z ?_;refine yD (st0:=⟨[(14,iA 0),(12,.ref 1001 0 4),(13,iA 4),(1,iA f4),(5,.ref 1001 0 4)],[(1001,.arr 5 [wI a 1101,wI b 1102,wI c 1103,wI d 1104] ⟨true,true⟩),(1101,uL a f4 0),(1102,uL b f4 0),(1103,uL c f4 0),(1104,uL d f4 0)]⟩) Z ?_;unfold uL;refine WW ?_;refine zU (a.legs) [1101,7,1001,1102,1103,1104] [7,1001,1102,1103,1104] [1,5,7,12,13,14,19,20] [21,1,5,7,12,13,14,19,20] Z (λi ga T U=>⟨(21,iA i)::T,(1101,.arr 5 ((qX a.legs f4 i).map yN) false)::U⟩) (Lq ?_ ?_)
 .intro k ga g post hx hk;have A:=zV hx hk;have E:=kR f4 hx hk;have hs:=uY f4 hx hk;have B:((qX a.legs f4 k).map yN).length=ln a.legs:=by rw[zAa,uX]
  have u:∀y:AV,(((qX a.legs f4 k).map yN).set k y)[k]? =some y:=λy=>zA6 zB
  have z:=gX g f4;rw[hs];clear hx hs;generalize (qX a.legs f4 k).map yN=ys,eP g f4=C at *
  (have gd:=z;(repeat' (first|refine uD ?_|apply yZ|apply xM|intro hc|fail))<;>clear gd)
  rfl
 refine WW ?_;refine yD (st0:=⟨[(14,iA 1),(12,.ref 1001 0 4),(13,iA 4),(1,iA f4),(5,.ref 1001 0 4)],[(1001,.arr 5 [wI a 1101,wI b 1102,wI c 1103,wI d 1104] ⟨true,true⟩),(1101,uL a f4 (ln a.legs)),(1102,uL b f4 0),(1103,uL c f4 0),(1104,uL d f4 0)]⟩) Z ?_;unfold uL;refine WW ?_;refine zU (b.legs) [1102,7,1001,1101,1103,1104] [7,1001,1101,1103,1104] [1,5,7,12,13,14,19,20] [21,1,5,7,12,13,14,19,20] Z (λi ga T U=>⟨(21,iA i)::T,(1102,.arr 5 ((qX b.legs f4 i).map yN) false)::U⟩) (Lq ?_ ?_)
 .intro k ga g post hx hk;have A:=zV hx hk;have E:=kR f4 hx hk;have hs:=uY f4 hx hk;have B:((qX b.legs f4 k).map yN).length=ln b.legs:=by rw[zAa,uX]
  have u:∀y:AV,(((qX b.legs f4 k).map yN).set k y)[k]? =some y:=λy=>zA6 zB
  have z:=gX g f4;rw[hs];clear hx hs;generalize (qX b.legs f4 k).map yN=ys,eP g f4=C at *
  (have gd:=z;(repeat' (first|refine uD ?_|apply yZ|apply xM|intro hc|fail))<;>clear gd)
  rfl
 refine WW ?_;refine yD (st0:=⟨[(14,iA 2),(12,.ref 1001 0 4),(13,iA 4),(1,iA f4),(5,.ref 1001 0 4)],[(1001,.arr 5 [wI a 1101,wI b 1102,wI c 1103,wI d 1104] ⟨true,true⟩),(1101,uL a f4 (ln a.legs)),(1102,uL b f4 (ln b.legs)),(1103,uL c f4 0),(1104,uL d f4 0)]⟩) Z ?_;unfold uL;refine WW ?_;refine zU (c.legs) [1103,7,1001,1101,1102,1104] [7,1001,1101,1102,1104] [1,5,7,12,13,14,19,20] [21,1,5,7,12,13,14,19,20] Z (λi ga T U=>⟨(21,iA i)::T,(1103,.arr 5 ((qX c.legs f4 i).map yN) false)::U⟩) (Lq ?_ ?_)
 .intro k ga g post hx hk;have A:=zV hx hk;have E:=kR f4 hx hk;have hs:=uY f4 hx hk;have B:((qX c.legs f4 k).map yN).length=ln c.legs:=by rw[zAa,uX]
  have u:∀y:AV,(((qX c.legs f4 k).map yN).set k y)[k]? =some y:=λy=>zA6 zB
  have z:=gX g f4;rw[hs];clear hx hs;generalize (qX c.legs f4 k).map yN=ys,eP g f4=C at *
  (have gd:=z;(repeat' (first|refine uD ?_|apply yZ|apply xM|intro hc|fail))<;>clear gd)
  rfl
 refine WW ?_;refine yD (st0:=⟨[(14,iA 3),(12,.ref 1001 0 4),(13,iA 4),(1,iA f4),(5,.ref 1001 0 4)],[(1001,.arr 5 [wI a 1101,wI b 1102,wI c 1103,wI d 1104] ⟨true,true⟩),(1101,uL a f4 (ln a.legs)),(1102,uL b f4 (ln b.legs)),(1103,uL c f4 (ln c.legs)),(1104,uL d f4 0)]⟩) Z ?_;unfold uL;refine WW ?_;refine zU (d.legs) [1104,7,1001,1101,1102,1103] [7,1001,1101,1102,1103] [1,5,7,12,13,14,19,20] [21,1,5,7,12,13,14,19,20] Z (λi ga T U=>⟨(21,iA i)::T,(1104,.arr 5 ((qX d.legs f4 i).map yN) false)::U⟩) (Lq ?_ ?_)
 .intro k ga g post hx hk;have A:=zV hx hk;have E:=kR f4 hx hk;have hs:=uY f4 hx hk;have B:((qX d.legs f4 k).map yN).length=ln d.legs:=by rw[zAa,uX]
  have u:∀y:AV,(((qX d.legs f4 k).map yN).set k y)[k]? =some y:=λy=>zA6 zB
  have z:=gX g f4;rw[hs];clear hx hs;generalize (qX d.legs f4 k).map yN=ys,eP g f4=C at *
  (have gd:=z;(repeat' (first|refine uD ?_|apply yZ|apply xM|intro hc|fail))<;>clear gd)
  rfl
 refine WW ?_;refine yD (st0:=⟨[(14,iA 4),(12,.ref 1001 0 4),(13,iA 4),(1,iA f4),(5,.ref 1001 0 4)],[(1001,.arr 5 [wI a 1101,wI b 1102,wI c 1103,wI d 1104] ⟨true,true⟩),(1101,uL a f4 (ln a.legs)),(1102,uL b f4 (ln b.legs)),(1103,uL c f4 (ln c.legs)),(1104,uL d f4 (ln d.legs))]⟩) Z ?_;unfold uL;simp only[aF];refine WW ?_;refine zH [] Z Z ?_ Z
 show AV.sl false [.agg [iA a.id,iA a.vh,iA a.cls,iA a.til,.sl false (nm (a.legs.map yN).length (ny 0 ((a.legs.map λg=>eP g f4).map yN)))],.agg [iA b.id,iA b.vh,iA b.cls,iA b.til,.sl false (nm (b.legs.map yN).length (ny 0 ((b.legs.map λg=>eP g f4).map yN)))],.agg [iA c.id,iA c.vh,iA c.cls,iA c.til,.sl false (nm (c.legs.map yN).length (ny 0 ((c.legs.map λg=>eP g f4).map yN)))],.agg [iA d.id,iA d.vh,iA d.cls,iA d.til,.sl false (nm (d.legs.map yN).length (ny 0 ((d.legs.map λg=>eP g f4).map yN)))]]=_
 simp only[Ax];rfl
def vp (l:List Rq) (f4:Int) (hv:bW l):zO 179 [zD zX l,iA f4] [] (zD zX (CS l f4)) []:=by
 have u:=hv.n4;have hb:∀r∈l,1<=ln r.legs/\r.legs.length<=1000:=λr z=>by have:=hv.lg3 z;omega
 match l,u,hb with
 | [],_,_=>
  have A:=QC;refine eM call179 λF hF=>?_
  refine zQ A ?_;refine wH 1 [] [13,11,12,1,5] Z ?_;refine yD (st0:=⟨[(13,iA 0),(11,.s (.slice none 0 0)),(12,iA 0),(1,iA f4),(5,.s (.slice none 0 0))],[]⟩) Z ?_;exact lc
 | [a],_,hb=>exact Du a (hb a zW).1 (hb a zW).2 f4
 | [a,b],_,hb=>exact Cu a b (hb a zW).1 (hb a zW).2 (hb b zW).1 (hb b zW).2 f4
 | [a,b,c],_,hb=>exact Bu a b c (hb a zW).1 (hb a zW).2 (hb b zW).1 (hb b zW).2 (hb c zW).1 (hb c zW).2 f4
 | [a,b,c,d],_,hb=>exact Au a b c d (hb a zW).1 (hb a zW).2 (hb b zW).1 (hb b zW).2 (hb c zW).1 (hb c zW).2 (hb d zW).1 (hb d zW).2 f4
 |_::_::_::_::_::_,h,_=>simp at h
def zv (l:List Rq) (f4:Int) (hv:bW l):zO 200 [zD zX l,iA f4] [] (zD zX (CS l f4)) []:=by
 have z:=hv.n4;have hb:∀r∈l,1<=ln r.legs/\r.legs.length<=1000:=λr u=>by have:=hv.lg3 u;omega
 match l,z,hb with
 | [],_,_=>
  have A:=dQ [] zW (λr u=>by simp at u);refine eM call200 λF hF=>?_
  refine zQ A ?_;refine wH 1 [] [14,12,13,1,5] Z ?_;refine yD (st0:=⟨[(14,iA 0),(12,.sl false []),(13,iA 0),(1,iA f4),(5,.sl false [])],[]⟩) Z ?_;exact lc
 | [a],_,hb=>exact Ao a (hb a zW).1 (hb a zW).2 f4
 | [a,b],_,hb=>exact zp a b (hb a zW).1 (hb a zW).2 (hb b zW).1 (hb b zW).2 f4
 | [a,b,c],_,hb=>exact yp a b c (hb a zW).1 (hb a zW).2 (hb b zW).1 (hb b zW).2 (hb c zW).1 (hb c zW).2 f4
 | [a,b,c,d],_,hb=>exact xp a b c d (hb a zW).1 (hb a zW).2 (hb b zW).1 (hb b zW).2 (hb c zW).1 (hb c zW).2 (hb d zW).1 (hb d zW).2 f4
 |_::_::_::_::_::_,h,_=>simp at h
def up (g:Lg) (f4:Int) (u:0<=f4) (z:f4<=1073741824):(eP g f4).jn=g.jn/\(eP g f4).ph=g.ph/\(NJ g=true->NJ (eP g f4)=true):=by
 unfold eP;split
 .split
  .refine⟨rfl,rfl,λh=>?_⟩;unfold NJ at *;rw[zAe]at *; dsimp only;omega
  .exact⟨rfl,rfl,id⟩
 .refine⟨rfl,rfl,λh=>?_⟩;unfold NJ at *;rw[zAe]at *; dsimp only;omega
theorem Kg {f4:Int} (B:0<=f4) (C:f4<=1073741824):∀(gs ga u:List Lg),u.map (·.jn)=ga.map (·.jn)->jG ga gs=true->jG u (gs.map λg=>eP g f4)=true
 | [],_,_,_,_=>rfl
 |x::post,ga,u,A,h=>by
  obtain⟨e1,_,e3⟩:=up x f4 B C;have z:∀(l:List Lg),(l.any λy=>y.jn==x.jn)=(l.map (·.jn)).any λn=>n==x.jn:=λl=>by rw[List.any_map];rfl
  rw[jG,zAn,zAn]at h;rw[zBk,jG,e3 h.1,e1,z,A,<-z,h.2.1,zAo,zAo];exact Kg B C post (ga++[x]) (u++[eP x f4]) (by rw[zAf,zAf,A];simp[e1]) h.2.2
def G6 {l:List Rq} (hv:bW l) (f4:Int) (z:0<=f4) (A:f4<=1073741824):bW (CS l f4):=by
 refine⟨λr u=>?_,?_,by unfold CS;rw[zAa];exact hv.n4⟩
 .obtain⟨x,hx,rfl⟩:=zB0.1 u;have h:=hv.ok x hx;refine⟨h.i0,h.i1,h.v0,h.v1,h.c0,h.c1,h.t0,h.t1,?_⟩;have h1:=h.lg;rw[sa,zAn]at h1;unfold sa B8;dsimp only;rw[zAn,zAa];exact⟨h1.1,Kg z A x.legs [] [] Z h1.2⟩
 .unfold CS;rw[List.pairwise_map];exact hv.so
def fA (p:Nat->Bool):Nat->Int
 |0=>0
 |n+1=>if p n=true then fA p n+p2 n else fA p n
theorem SJ (p:Nat->Bool):∀n:Nat,n<=30->0<=fA p n/\fA p n<p2 n
 |0,_=>⟨zCn 0,by show(0:Int)<1;decide⟩
 | n+1,h=>by
  have u:=SJ p n zB
  have h2:p2 ((n+1:Nat):Int)=2*p2 (n:Int):=by
   unfold p2;rw[zAx,zAx,zFp];omega
  have:=Za n zB;unfold fA
  split<;>omega
theorem ZL {p q:Nat->Bool}:∀n:Nat,(∀i,i<n->p i=q i)->fA p n=fA q n
 |0,_=>rfl
 |n+1,h=>by unfold fA;rw[h n zB,ZL n λi hi=>h i zB]
def bq (u z A B C E G I:Bool):Nat->Bool
 |0=>u|1=>z|2=>A|3=>B|4=>C|5=>E|6=>G|7=>I|_=>false
def F6:∀u z A B C E G I:Bool,∀i:_root_.Fin 8,(jZ (vO (fA (bq u z A B C E G I) 8) i.val) 1==1)=bq u z A B C E G I i.val:=by decide +kernel
def Jg (p:Nat->Bool) (i:Nat) (hi:i<8):(jZ (vO (fA p 8) i) 1==1)=p i:=by
 have e:∀j,j<8->p j=bq (p 0) (p 1) (p 2) (p 3) (p 4) (p 5) (p 6) (p 7) j:=λj hj=>by
  match j,hj with
  |0,_=>rfl|1,_=>rfl|2,_=>rfl|3,_=>rfl|4,_=>rfl|5,_=>rfl|6,_=>rfl|7,_=>rfl
  |j+8,h=>omega
 rw[ZL 8 e,e i hi];exact F6 _ _ _ _ _ _ _ _ ⟨i,hi⟩
def yv (p:Nat->Bool):Nat->Nat
 |0=>0
 |n+1=>if p n=true then yv p n+2 ^ n else yv p n
theorem yb (p:Nat->Bool):∀n,fA p n=(yv p n:Int)
 |0=>rfl
 |n+1=>by
  unfold fA yv;rw[yb p n];split
  .unfold p2;simp
  .rfl
theorem JS (p:Nat->Bool):∀n,yv p n<2 ^ n
 |0=>(show 0<1 by omega)
 |n+1=>by
  have:=JS p n;unfold yv;rw[Nat.pow_succ]
  split<;>omega
theorem QU (p:Nat->Bool):∀n i,(yv p n).testBit i=(decide (i<n)&&p i)
 |0,i=>by simp[yv]
 | n+1,i=>by
  have z:=JS p n;unfold yv
  rcases Nat.lt_trichotomy i n with h|h|h
  .rw[zAd zB,zAo];split
   .rw[Nat.add_comm,Nat.testBit_two_pow_add_gt h,QU p n i,zAd h,zAo]
   .rw[QU p n i,zAd h,zAo]
  .subst h;rw[zAd zB,zAo];split
   .rename_i u;rw[Nat.add_comm,Nat.testBit_two_pow_add_eq,QU p i i,zAc zB,u];rfl
   .rename_i u;rw[QU p i i,zAc zB];simpa using u
  .rw[zAc zB,zA7];refine Nat.testBit_lt_two_pow ?_;have h2:2 ^ (n+1)<=2 ^ i:=zD8 zB zB;rw[Nat.pow_succ]at h2
   split<;>omega
def DK (a b:Nat) (u:a<2 ^ 30) (hb:b<2 ^ 30):Sj a b=((a ||| b:Nat):Int):=by
 have h:=zFk u hb;unfold Sj;rw[zDh,zDh,zFu,zDf,zDf];have e:(2:Nat) ^ IntKind.i64.bits=18446744073709551616:=by decide
 grind [Sj,Nat.mod_eq_of_lt,jD,UJ]
def qp (p q:Nat->Bool):Sj (fA p 8) (fA q 8)=fA (λi=>p i||q i) 8:=by
 have h1:=JS p 8;have h2:=JS q 8;rw[yb,yb,yb,DK _ _ zB zB]
 congr 1
 apply Nat.eq_of_testBit_eq
 grind [Sj,fA,QU]
