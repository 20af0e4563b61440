/- Part 13. -/
import Derived.Test.YteajjdidebfcjaaGreatV12
namespace Go.Proofs.YteajjdidebfcjaaGreat
namespace Av
open Tryz
set_option linter.all false
set_option maxRecDepth 4000
set_option maxHeartbeats 4000000
def mkR (now:Int) (r:Rq):Rq:=⟨r.id,r.vh,r.cls,r.til,r.legs.map λg=>YD g now⟩
def mkQ (l:List Rq) (now:Int):List Rq:=l.map (mkR now)
def dC (l:List Lg) (now:Int) (k:Nat):List Lg:=(l.take k).map (λg=>YD g now)++l.drop k
def QY (l:List Lg) (now:Int):dC l now l.length=l.map λg=>YD g now:=by simp[dC]
def fN (l:List Lg) (now:Int) (k:Nat):(dC l now k).length=l.length:=by simp[dC];omega
def bI {l pre post:List Lg} {g:Lg} {k:Nat} (now:Int) (hx:l=pre++g::post) (hk:pre.length=k):((dC l now k).map xW)[k]? =some (xW g):=by
 subst hx hk;simp[dC]
def fO {l pre post:List Lg} {g:Lg} {k:Nat} (now:Int) (hx:l=pre++g::post) (hk:pre.length=k):(dC l now (k+1)).map xW=((dC l now k).map xW).set k (xW (YD g now)):=by
 subst hx hk;have e1:(pre++g::post).take (pre.length+1)=pre++[g]:=by rw[List.take_append,zYe zB];simp
 have e2:(pre++g::post).drop (pre.length+1)=post:=by rw[List.drop_append];simp
 have e3:(pre++g::post).take pre.length=pre:=by simp
 have e4:(pre++g::post).drop pre.length=g::post:=by simp
 unfold dC;rw[e1,e2,e3,e4];simp
def tkM (l:List Lg) (now:Int):List.take (l.map xW).length (List.drop 0 ((l.map λg=>YD g now).map xW))=(l.map λg=>YD g now).map xW:=by
 rw[zYq];exact zYe zW
def fP (r:Rq) (now:Int) (k:Nat):xN:= .arr 5 ((dC r.legs now k).map xW) false
def zNg (a:Rq) (ha:1<=a.legs.length) (ga:a.legs.length<=1000) (now:Int):zO 129 [zD yL [a],iA now] [] (zD yL (mkQ [a] now)) []:=by
 have kc:=EF a ha ga;have la:=zA xW a.legs;refine eM call129 λF hF=>?_
 refine zY kc ?_;refine wM 2 [1001,1101] [13,11,12,1,5] Z ?_;refine yH (st0:=⟨[(13,iA 0),(11,.ref 1001 0 1),(12,iA 1),(1,iA now),(5,.ref 1001 0 1)],[(1001,.arr 5 [qU a 1101] ⟨false,true⟩),(1101,fP a now 0)]⟩) Z ?_;unfold fP;refine WW ?_;refine yT (a.legs) [1101,7,1001] [7,1001] [1,5,7,11,12,13,19] [20,1,5,7,11,12,13,19] Z (λi pre T U=>⟨(20,iA i)::T,(1101,.arr 5 ((dC a.legs now i).map xW) false)::U⟩) ?_;(conv=>whnf);refine⟨by rfl,?_,?_⟩
 ·intro k pre g post hx hk;have hlt:=yW hx hk;have hy:=bI now hx hk;have hs:=fO now hx hk;have hyl:((dC a.legs now k).map xW).length=a.legs.length:=by rw[zX5,fN]
  have hset:∀y:AV,(((dC a.legs now k).map xW).set k y)[k]? =some y:=λy=>zZu zB
  have cw:=fR g now;rw[hs];clear hx hs;generalize (dC a.legs now k).map xW=ys at *;generalize YD g now=g2 at*
  (have zc1:=cw;(repeat' (first|refine uJ ?_|apply xL|apply wB|intro hc|fail))<;>clear zc1)
  rfl
 refine WW ?_;refine yH (st0:=⟨[(13,iA 1),(11,.ref 1001 0 1),(12,iA 1),(1,iA now),(5,.ref 1001 0 1)],[(1001,.arr 5 [qU a 1101] ⟨false,true⟩),(1101,fP a now a.legs.length)]⟩) Z ?_;unfold fP;simp only[QY];refine WW ?_;refine zI [] Z Z ?_ Z
 show AV.sl false [.agg [iA a.id,iA a.vh,iA a.cls,iA a.til,.sl false (List.take (a.legs.map xW).length (List.drop 0 ((a.legs.map λg=>YD g now).map xW)))]]=_
 simp only[tkM];rfl
theorem zNh (a b:Rq) (ha:1<=a.legs.length) (ga:a.legs.length<=1000) (hb:1<=b.legs.length) (gb:b.legs.length<=1000) (now:Int):zO 129 [zD yL [a,b],iA now] [] (zD yL (mkQ [a,b] now)) []:=by
 have kc:=EG a b ha ga hb gb;have la:=zA xW a.legs;have lb:=zA xW b.legs;refine eM call129 λF hF=>?_
 refine zY kc ?_;refine wM 3 [1001,1101,1102] [13,11,12,1,5] Z ?_;refine yH (st0:=⟨[(13,iA 0),(11,.ref 1001 0 2),(12,iA 2),(1,iA now),(5,.ref 1001 0 2)],[(1001,.arr 5 [qU a 1101,qU b 1102] ⟨true,true⟩),(1101,fP a now 0),(1102,fP b now 0)]⟩) Z ?_;unfold fP;refine WW ?_;refine yT (a.legs) [1101,7,1001,1102] [7,1001,1102] [1,5,7,11,12,13,19] [20,1,5,7,11,12,13,19] Z (λi pre T U=>⟨(20,iA i)::T,(1101,.arr 5 ((dC a.legs now i).map xW) false)::U⟩) ?_;(conv=>whnf);refine⟨by rfl,?_,?_⟩
 ·intro k pre g post hx hk;have hlt:=yW hx hk;have hy:=bI now hx hk;have hs:=fO now hx hk;have hyl:((dC a.legs now k).map xW).length=a.legs.length:=by rw[zX5,fN]
  have hset:∀y:AV,(((dC a.legs now k).map xW).set k y)[k]? =some y:=λy=>zZu zB
  have cw:=fR g now;rw[hs];clear hx hs;generalize (dC a.legs now k).map xW=ys at *;generalize YD g now=g2 at*
  (have zc1:=cw;(repeat' (first|refine uJ ?_|apply xL|apply wB|intro hc|fail))<;>clear zc1)
  rfl
 refine WW ?_;refine yH (st0:=⟨[(13,iA 1),(11,.ref 1001 0 2),(12,iA 2),(1,iA now),(5,.ref 1001 0 2)],[(1001,.arr 5 [qU a 1101,qU b 1102] ⟨true,true⟩),(1101,fP a now a.legs.length),(1102,fP b now 0)]⟩) Z ?_;unfold fP;refine WW ?_;refine yT (b.legs) [1102,7,1001,1101] [7,1001,1101] [1,5,7,11,12,13,19] [20,1,5,7,11,12,13,19] Z (λi pre T U=>⟨(20,iA i)::T,(1102,.arr 5 ((dC b.legs now i).map xW) false)::U⟩) ?_;(conv=>whnf);refine⟨by rfl,?_,?_⟩
 ·intro k pre g post hx hk;have hlt:=yW hx hk;have hy:=bI now hx hk;have hs:=fO now hx hk;have hyl:((dC b.legs now k).map xW).length=b.legs.length:=by rw[zX5,fN]
  have hset:∀y:AV,(((dC b.legs now k).map xW).set k y)[k]? =some y:=λy=>zZu zB
  have cw:=fR g now;rw[hs];clear hx hs;generalize (dC b.legs now k).map xW=ys at *;generalize YD g now=g2 at*
  (have zc1:=cw;(repeat' (first|refine uJ ?_|apply xL|apply wB|intro hc|fail))<;>clear zc1)
  rfl
 refine WW ?_;refine yH (st0:=⟨[(13,iA 2),(11,.ref 1001 0 2),(12,iA 2),(1,iA now),(5,.ref 1001 0 2)],[(1001,.arr 5 [qU a 1101,qU b 1102] ⟨true,true⟩),(1101,fP a now a.legs.length),(1102,fP b now b.legs.length)]⟩) Z ?_;unfold fP;simp only[QY];refine WW ?_;refine zI [] Z Z ?_ Z
 show AV.sl false [.agg [iA a.id,iA a.vh,iA a.cls,iA a.til,.sl false (List.take (a.legs.map xW).length (List.drop 0 ((a.legs.map λg=>YD g now).map xW)))],.agg [iA b.id,iA b.vh,iA b.cls,iA b.til,.sl false (List.take (b.legs.map xW).length (List.drop 0 ((b.legs.map λg=>YD g now).map xW)))]]=_
 simp only[tkM];rfl
theorem zNi (a b c:Rq) (ha:1<=a.legs.length) (ga:a.legs.length<=1000) (hb:1<=b.legs.length) (gb:b.legs.length<=1000) (hc:1<=c.legs.length) (gc:c.legs.length<=1000) (now:Int):zO 129 [zD yL [a,b,c],iA now] [] (zD yL (mkQ [a,b,c] now)) []:=by
 have kc:=EH a b c ha ga hb gb hc gc;have la:=zA xW a.legs;have lb:=zA xW b.legs;have lc:=zA xW c.legs;refine eM call129 λF hF=>?_
 refine zY kc ?_;refine wM 4 [1001,1101,1102,1103] [13,11,12,1,5] Z ?_;refine yH (st0:=⟨[(13,iA 0),(11,.ref 1001 0 3),(12,iA 3),(1,iA now),(5,.ref 1001 0 3)],[(1001,.arr 5 [qU a 1101,qU b 1102,qU c 1103] ⟨true,true⟩),(1101,fP a now 0),(1102,fP b now 0),(1103,fP c now 0)]⟩) Z ?_;unfold fP;refine WW ?_;refine yT (a.legs) [1101,7,1001,1102,1103] [7,1001,1102,1103] [1,5,7,11,12,13,19] [20,1,5,7,11,12,13,19] Z (λi pre T U=>⟨(20,iA i)::T,(1101,.arr 5 ((dC a.legs now i).map xW) false)::U⟩) ?_;(conv=>whnf);refine⟨by rfl,?_,?_⟩
 ·intro k pre g post hx hk;have hlt:=yW hx hk;have hy:=bI now hx hk;have hs:=fO now hx hk;have hyl:((dC a.legs now k).map xW).length=a.legs.length:=by rw[zX5,fN]
  have hset:∀y:AV,(((dC a.legs now k).map xW).set k y)[k]? =some y:=λy=>zZu zB
  have cw:=fR g now;rw[hs];clear hx hs;generalize (dC a.legs now k).map xW=ys at *;generalize YD g now=g2 at*
  (have zc1:=cw;(repeat' (first|refine uJ ?_|apply xL|apply wB|intro hc|fail))<;>clear zc1)
  rfl
 refine WW ?_;refine yH (st0:=⟨[(13,iA 1),(11,.ref 1001 0 3),(12,iA 3),(1,iA now),(5,.ref 1001 0 3)],[(1001,.arr 5 [qU a 1101,qU b 1102,qU c 1103] ⟨true,true⟩),(1101,fP a now a.legs.length),(1102,fP b now 0),(1103,fP c now 0)]⟩) Z ?_;unfold fP;refine WW ?_;refine yT (b.legs) [1102,7,1001,1101,1103] [7,1001,1101,1103] [1,5,7,11,12,13,19] [20,1,5,7,11,12,13,19] Z (λi pre T U=>⟨(20,iA i)::T,(1102,.arr 5 ((dC b.legs now i).map xW) false)::U⟩) ?_;(conv=>whnf);refine⟨by rfl,?_,?_⟩
 ·intro k pre g post hx hk;have hlt:=yW hx hk;have hy:=bI now hx hk;have hs:=fO now hx hk;have hyl:((dC b.legs now k).map xW).length=b.legs.length:=by rw[zX5,fN]
  have hset:∀y:AV,(((dC b.legs now k).map xW).set k y)[k]? =some y:=λy=>zZu zB
  have cw:=fR g now;rw[hs];clear hx hs;generalize (dC b.legs now k).map xW=ys at *;generalize YD g now=g2 at*
  (have zc1:=cw;(repeat' (first|refine uJ ?_|apply xL|apply wB|intro hc|fail))<;>clear zc1)
  rfl
 refine WW ?_;refine yH (st0:=⟨[(13,iA 2),(11,.ref 1001 0 3),(12,iA 3),(1,iA now),(5,.ref 1001 0 3)],[(1001,.arr 5 [qU a 1101,qU b 1102,qU c 1103] ⟨true,true⟩),(1101,fP a now a.legs.length),(1102,fP b now b.legs.length),(1103,fP c now 0)]⟩) Z ?_;unfold fP;refine WW ?_;refine yT (c.legs) [1103,7,1001,1101,1102] [7,1001,1101,1102] [1,5,7,11,12,13,19] [20,1,5,7,11,12,13,19] Z (λi pre T U=>⟨(20,iA i)::T,(1103,.arr 5 ((dC c.legs now i).map xW) false)::U⟩) ?_;(conv=>whnf);refine⟨by rfl,?_,?_⟩
 ·intro k pre g post hx hk;have hlt:=yW hx hk;have hy:=bI now hx hk;have hs:=fO now hx hk;have hyl:((dC c.legs now k).map xW).length=c.legs.length:=by rw[zX5,fN]
  have hset:∀y:AV,(((dC c.legs now k).map xW).set k y)[k]? =some y:=λy=>zZu zB
  have cw:=fR g now;rw[hs];clear hx hs;generalize (dC c.legs now k).map xW=ys at *;generalize YD g now=g2 at*
  (have zc1:=cw;(repeat' (first|refine uJ ?_|apply xL|apply wB|intro hc|fail))<;>clear zc1)
  rfl
 refine WW ?_;refine yH (st0:=⟨[(13,iA 3),(11,.ref 1001 0 3),(12,iA 3),(1,iA now),(5,.ref 1001 0 3)],[(1001,.arr 5 [qU a 1101,qU b 1102,qU c 1103] ⟨true,true⟩),(1101,fP a now a.legs.length),(1102,fP b now b.legs.length),(1103,fP c now c.legs.length)]⟩) Z ?_;unfold fP;simp only[QY];refine WW ?_;refine zI [] Z Z ?_ Z
 show AV.sl false [.agg [iA a.id,iA a.vh,iA a.cls,iA a.til,.sl false (List.take (a.legs.map xW).length (List.drop 0 ((a.legs.map λg=>YD g now).map xW)))],.agg [iA b.id,iA b.vh,iA b.cls,iA b.til,.sl false (List.take (b.legs.map xW).length (List.drop 0 ((b.legs.map λg=>YD g now).map xW)))],.agg [iA c.id,iA c.vh,iA c.cls,iA c.til,.sl false (List.take (c.legs.map xW).length (List.drop 0 ((c.legs.map λg=>YD g now).map xW)))]]=_
 simp only[tkM];rfl
theorem zNj (a b c d:Rq) (ha:1<=a.legs.length) (ga:a.legs.length<=1000) (hb:1<=b.legs.length) (gb:b.legs.length<=1000) (hc:1<=c.legs.length) (gc:c.legs.length<=1000) (hd:1<=d.legs.length) (gd:d.legs.length<=1000) (now:Int):zO 129 [zD yL [a,b,c,d],iA now] [] (zD yL (mkQ [a,b,c,d] now)) []:=by
 have kc:=EJ a b c d ha ga hb gb hc gc hd gd;have la:=zA xW a.legs;have lb:=zA xW b.legs;have lc:=zA xW c.legs;have ld:=zA xW d.legs;refine eM call129 λF hF=>?_
 refine zY kc ?_;refine wM 5 [1001,1101,1102,1103,1104] [13,11,12,1,5] Z ?_;refine yH (st0:=⟨[(13,iA 0),(11,.ref 1001 0 4),(12,iA 4),(1,iA now),(5,.ref 1001 0 4)],[(1001,.arr 5 [qU a 1101,qU b 1102,qU c 1103,qU d 1104] ⟨true,true⟩),(1101,fP a now 0),(1102,fP b now 0),(1103,fP c now 0),(1104,fP d now 0)]⟩) Z ?_;unfold fP;refine WW ?_;refine yT (a.legs) [1101,7,1001,1102,1103,1104] [7,1001,1102,1103,1104] [1,5,7,11,12,13,19] [20,1,5,7,11,12,13,19] Z (λi pre T U=>⟨(20,iA i)::T,(1101,.arr 5 ((dC a.legs now i).map xW) false)::U⟩) ?_;(conv=>whnf);refine⟨by rfl,?_,?_⟩
 ·intro k pre g post hx hk;have hlt:=yW hx hk;have hy:=bI now hx hk;have hs:=fO now hx hk;have hyl:((dC a.legs now k).map xW).length=a.legs.length:=by rw[zX5,fN]
  have hset:∀y:AV,(((dC a.legs now k).map xW).set k y)[k]? =some y:=λy=>zZu zB
  have cw:=fR g now;rw[hs];clear hx hs;generalize (dC a.legs now k).map xW=ys at *;generalize YD g now=g2 at*
  (have zc1:=cw;(repeat' (first|refine uJ ?_|apply xL|apply wB|intro hc|fail))<;>clear zc1)
  rfl
 refine WW ?_;refine yH (st0:=⟨[(13,iA 1),(11,.ref 1001 0 4),(12,iA 4),(1,iA now),(5,.ref 1001 0 4)],[(1001,.arr 5 [qU a 1101,qU b 1102,qU c 1103,qU d 1104] ⟨true,true⟩),(1101,fP a now a.legs.length),(1102,fP b now 0),(1103,fP c now 0),(1104,fP d now 0)]⟩) Z ?_;unfold fP;refine WW ?_;refine yT (b.legs) [1102,7,1001,1101,1103,1104] [7,1001,1101,1103,1104] [1,5,7,11,12,13,19] [20,1,5,7,11,12,13,19] Z (λi pre T U=>⟨(20,iA i)::T,(1102,.arr 5 ((dC b.legs now i).map xW) false)::U⟩) ?_;(conv=>whnf);refine⟨by rfl,?_,?_⟩
 ·intro k pre g post hx hk;have hlt:=yW hx hk;have hy:=bI now hx hk;have hs:=fO now hx hk;have hyl:((dC b.legs now k).map xW).length=b.legs.length:=by rw[zX5,fN]
  have hset:∀y:AV,(((dC b.legs now k).map xW).set k y)[k]? =some y:=λy=>zZu zB
  have cw:=fR g now;rw[hs];clear hx hs;generalize (dC b.legs now k).map xW=ys at *;generalize YD g now=g2 at*
  (have zc1:=cw;(repeat' (first|refine uJ ?_|apply xL|apply wB|intro hc|fail))<;>clear zc1)
  rfl
 refine WW ?_;refine yH (st0:=⟨[(13,iA 2),(11,.ref 1001 0 4),(12,iA 4),(1,iA now),(5,.ref 1001 0 4)],[(1001,.arr 5 [qU a 1101,qU b 1102,qU c 1103,qU d 1104] ⟨true,true⟩),(1101,fP a now a.legs.length),(1102,fP b now b.legs.length),(1103,fP c now 0),(1104,fP d now 0)]⟩) Z ?_;unfold fP;refine WW ?_;refine yT (c.legs) [1103,7,1001,1101,1102,1104] [7,1001,1101,1102,1104] [1,5,7,11,12,13,19] [20,1,5,7,11,12,13,19] Z (λi pre T U=>⟨(20,iA i)::T,(1103,.arr 5 ((dC c.legs now i).map xW) false)::U⟩) ?_;(conv=>whnf);refine⟨by rfl,?_,?_⟩
 ·intro k pre g post hx hk;have hlt:=yW hx hk;have hy:=bI now hx hk;have hs:=fO now hx hk;have hyl:((dC c.legs now k).map xW).length=c.legs.length:=by rw[zX5,fN]
  have hset:∀y:AV,(((dC c.legs now k).map xW).set k y)[k]? =some y:=λy=>zZu zB
  have cw:=fR g now;rw[hs];clear hx hs;generalize (dC c.legs now k).map xW=ys at *;generalize YD g now=g2 at*
  (have zc1:=cw;(repeat' (first|refine uJ ?_|apply xL|apply wB|intro hc|fail))<;>clear zc1)
  rfl
 refine WW ?_;refine yH (st0:=⟨[(13,iA 3),(11,.ref 1001 0 4),(12,iA 4),(1,iA now),(5,.ref 1001 0 4)],[(1001,.arr 5 [qU a 1101,qU b 1102,qU c 1103,qU d 1104] ⟨true,true⟩),(1101,fP a now a.legs.length),(1102,fP b now b.legs.length),(1103,fP c now c.legs.length),(1104,fP d now 0)]⟩) Z ?_;unfold fP;refine WW ?_;refine yT (d.legs) [1104,7,1001,1101,1102,1103] [7,1001,1101,1102,1103] [1,5,7,11,12,13,19] [20,1,5,7,11,12,13,19] Z (λi pre T U=>⟨(20,iA i)::T,(1104,.arr 5 ((dC d.legs now i).map xW) false)::U⟩) ?_;(conv=>whnf);refine⟨by rfl,?_,?_⟩
 ·intro k pre g post hx hk;have hlt:=yW hx hk;have hy:=bI now hx hk;have hs:=fO now hx hk;have hyl:((dC d.legs now k).map xW).length=d.legs.length:=by rw[zX5,fN]
  have hset:∀y:AV,(((dC d.legs now k).map xW).set k y)[k]? =some y:=λy=>zZu zB
  have cw:=fR g now;rw[hs];clear hx hs;generalize (dC d.legs now k).map xW=ys at *;generalize YD g now=g2 at*
  (have zc1:=cw;(repeat' (first|refine uJ ?_|apply xL|apply wB|intro hc|fail))<;>clear zc1)
  rfl
 refine WW ?_;refine yH (st0:=⟨[(13,iA 4),(11,.ref 1001 0 4),(12,iA 4),(1,iA now),(5,.ref 1001 0 4)],[(1001,.arr 5 [qU a 1101,qU b 1102,qU c 1103,qU d 1104] ⟨true,true⟩),(1101,fP a now a.legs.length),(1102,fP b now b.legs.length),(1103,fP c now c.legs.length),(1104,fP d now d.legs.length)]⟩) Z ?_;unfold fP;simp only[QY];refine WW ?_;refine zI [] Z Z ?_ Z
 show AV.sl false [.agg [iA a.id,iA a.vh,iA a.cls,iA a.til,.sl false (List.take (a.legs.map xW).length (List.drop 0 ((a.legs.map λg=>YD g now).map xW)))],.agg [iA b.id,iA b.vh,iA b.cls,iA b.til,.sl false (List.take (b.legs.map xW).length (List.drop 0 ((b.legs.map λg=>YD g now).map xW)))],.agg [iA c.id,iA c.vh,iA c.cls,iA c.til,.sl false (List.take (c.legs.map xW).length (List.drop 0 ((c.legs.map λg=>YD g now).map xW)))],.agg [iA d.id,iA d.vh,iA d.cls,iA d.til,.sl false (List.take (d.legs.map xW).length (List.drop 0 ((d.legs.map λg=>YD g now).map xW)))]]=_
 simp only[tkM];rfl
def AU (l:List Rq) (now:Int) (hv:ZN l):zO 129 [zD yL l,iA now] [] (zD yL (mkQ l now)) []:=by
 have h4:=hv.n4;have hb:∀r∈l,1<=r.legs.length/\r.legs.length<=1000:=λr hr=>by have:=hv.lg3 hr;omega
 match l,h4,hb with
 | [],_,_=>
  have kc:=UQ;refine eM call129 λF hF=>?_
  refine zY kc ?_;refine wM 1 [] [13,11,12,1,5] Z ?_;refine yH (st0:=⟨[(13,iA 0),(11,.s (.slice none 0 0)),(12,iA 0),(1,iA now),(5,.s (.slice none 0 0))],[]⟩) Z ?_;refine WW ?_;exact zJ
 | [a],_,hb=>exact zNg a (hb a zW).1 (hb a zW).2 now
 | [a,b],_,hb=>exact zNh a b (hb a zW).1 (hb a zW).2 (hb b zW).1 (hb b zW).2 now
 | [a,b,c],_,hb=>exact zNi a b c (hb a zW).1 (hb a zW).2 (hb b zW).1 (hb b zW).2 (hb c zW).1 (hb c zW).2 now
 | [a,b,c,d],_,hb=>exact zNj a b c d (hb a zW).1 (hb a zW).2 (hb b zW).1 (hb b zW).2 (hb c zW).1 (hb c zW).2 (hb d zW).1 (hb d zW).2 now
 |_::_::_::_::_::_,h,_=>simp at h
def zIb (g:Lg) (now:Int) (n0:0<=now) (n1:now<=1073741824):(YD g now).jn=g.jn/\(YD g now).ph=g.ph/\(IF g=true->IF (YD g now)=true):=by
 unfold YD;split
 ·split
  ·refine⟨rfl,rfl,λh=>?_⟩;unfold IF at *;rw[zX9]at *; dsimp only;omega
  ·exact⟨rfl,rfl,id⟩
 ·refine⟨rfl,rfl,λh=>?_⟩;unfold IF at *;rw[zX9]at *; dsimp only;omega
theorem zCk {now:Int} (n0:0<=now) (n1:now<=1073741824):∀(gs pre pre':List Lg),pre'.map (·.jn)=pre.map (·.jn)->dF pre gs=true->dF pre' (gs.map λg=>YD g now)=true
 | [],_,_,_,_=>rfl
 |x::post,pre,pre',hp,h=>by
  obtain⟨e1,_,e3⟩:=zIb x now n0 n1;have ha:∀(l:List Lg),(l.any λy=>y.jn==x.jn)=(l.map (·.jn)).any λn=>n==x.jn:=λl=>by rw[List.any_map];rfl
  rw[dF,zYg,zYg]at h;rw[zZj,dF,e3 h.1,e1,ha,hp,<-ha,h.2.1,zYr,zYr];exact zCk n0 n1 post (pre++[x]) (pre'++[YD x now]) (by rw[zYd,zYd,hp];simp[e1]) h.2.2
def zV9 {l:List Rq} (hv:ZN l) (now:Int) (n0:0<=now) (n1:now<=1073741824):ZN (mkQ l now):=by
 refine⟨λr hr=>?_,?_,by unfold mkQ;rw[zX5];exact hv.n4⟩
 ·obtain⟨x,hx,rfl⟩:=zZn.1 hr;have h:=hv.ok x hx;refine⟨h.i0,h.i1,h.v0,h.v1,h.c0,h.c1,h.t0,h.t1,?_⟩;have h1:=h.lg;rw[vgF,zYg]at h1;unfold vgF mkR;dsimp only;rw[zYg,zX5];exact⟨h1.1,zCk n0 n1 x.legs [] [] Z h1.2⟩
 ·unfold mkQ;rw[List.pairwise_map];exact hv.so
def prA (p:Int×Int):AV:= .agg [iA p.1,iA p.2]
def qX (n:Int):List (Int×Int):=if n=0 then [(0,0),(0,0)]else if n=1 then [(0,0),(1,0),(0,1),(1,1)]else if n=2 then [(0,0),(1,0),(0,0)]
 else if n=3 then [(0,0),(0,0),(1,0),(1,0),(0,1),(0,1),(1,1),(1,1)]else if n=4 then [(1,0),(0,1),(0,2)]else [(0,0)]
def zIc (n:Int):zO 75 [iA n] [] (zD prA (qX n)) []:=by
 by_cases h0:n=0
 ·subst h0;refine eM call75 λF hF=>?_
  (repeat' (first|refine YA ?_|refine xL (λhc=>?_) λhc=>?_|fail))
  exact zJ
 by_cases h1:n=1
 ·subst h1;refine eM call75 λF hF=>?_
  (repeat' (first|refine YA ?_|refine xL (λhc=>?_) λhc=>?_|fail))
  exact zJ
 by_cases h2:n=2
 ·subst h2;refine eM call75 λF hF=>?_
  (repeat' (first|refine YA ?_|refine xL (λhc=>?_) λhc=>?_|fail))
  exact zJ
 by_cases h3:n=3
 ·subst h3;refine eM call75 λF hF=>?_
  (repeat' (first|refine YA ?_|refine xL (λhc=>?_) λhc=>?_|fail))
  exact zJ
 by_cases h4:n=4
 ·subst h4;refine eM call75 λF hF=>?_
  (repeat' (first|refine YA ?_|refine xL (λhc=>?_) λhc=>?_|fail))
  exact zJ
 rw[show qX n=[(0,0)] by simp[qX,h0,h1,h2,h3,h4]];refine eM call75 λF hF=>?_
 (repeat' (first|refine YA ?_|refine xL (λhc=>?_) λhc=>?_|fail))
 exact zJ
instance:Inhabited (Int×Int):=⟨(0,0)⟩
def SH (d:Dk) (s:Int×Int):Ph:=
 if nx (ad (ad (ad d))) 3=2 then⟨s.1,s.2,1+nx d (3-1+1),max (1+nx d (3-1+1)) (1+nx (ad (ad (ad (ad d)))) (2-1+1)+(1+nx (ad (ad (ad (ad (ad d))))) (2-1+1)))+nx (ad (ad (ad (ad (ad (ad d)))))) 4,1+nx (ad d) (2-1+1),nx (ad (ad d)) 3,1+nx (ad (ad (ad (ad d)))) (2-1+1),1+nx (ad (ad (ad (ad (ad d))))) (2-1+1)⟩
 else⟨s.1,s.2,1+nx d (3-1+1),max (1+nx d (3-1+1)) (0+0)+nx (ad (ad (ad (ad d)))) 4,1+nx (ad d) (2-1+1),nx (ad (ad d)) 3,0,0⟩
def phD (d:Dk):Dk:=if nx (ad (ad (ad d))) 3=2 then ad (ad (ad (ad (ad (ad (ad d))))))else ad (ad (ad (ad (ad d))))
def LP (d:Dk) (l:List (Int×Int)):Nat->List Ph×Dk
 |0=>([],d)
 |i+1=>((LP d l i).1++[SH (LP d l i).2 (l.getD i default)],phD (LP d l i).2)
theorem UJ (d:Dk) (l:List (Int×Int)):∀i,(LP d l i).1.length=i
 |0=>rfl
 |i+1=>by simp[LP,UJ d l i]
def cnd (ps:List Ph) (ex:Bool) (i k:Nat):Bool:=i != k&&((ps.getD i default).ring==(ps.getD k default).ring||(ps.getD i default).group != (ps.getD k default).group||ex&&((i:Int)+k).tmod 2==1)
def XL (ps:List Ph) (ex:Bool) (i:Nat):Nat->Int
 |0=>0
 |k+1=>if cnd ps ex i k=true then XL ps ex i k+2 ^ k else XL ps ex i k
theorem QZ (ps:List Ph) (ex:Bool) (i:Nat):∀k,0<=XL ps ex i k/\XL ps ex i k<2 ^ k
 |0=>by simp[XL]
 |k+1=>by
  have:=QZ ps ex i k;have e:(2:Int) ^ (k+1)=2 ^ k*2:=yDr 2 k;unfold XL
  split<;>omega
def fC (ps:List Ph) (ex:Bool) (n:Nat):List Int:=(List.range n).map λi=>XL ps ex i ps.length
def WR (d:Dk):List Ph×Dk:=LP (ad (ad d)) (qX (nx d 6)) (qX (nx d 6)).length
def jnF (d:Dk):Jn:=⟨(WR d).1,fC (WR d).1 (nx (WR d).2 4==3) (WR d).1.length,nx (ad d) 3⟩
def jnD (d:Dk):Dk:=ad (WR d).2
def OD (n:Int):1<=(qX n).length/\(qX n).length<=8:=by
 unfold qX
 (repeat' split)<;>simp
def zXm (k:Nat) (h:k<8):IntKind.i64.wrap (1*2 ^ (min ((k:Int)).toNat IntKind.i64.bits))=2 ^ k/\(2:Int) ^ k<=128:=by
 obtain rfl|rfl|rfl|rfl|rfl|rfl|rfl|rfl:k=0∨k=1∨k=2∨k=3∨k=4∨k=5∨k=6∨k=7:=by omega
 all_goals decide
theorem AW (d:Dk):zO 42 [.ptr 1000 0 0] [(1000,PD d)] (vC (jnF d)) [(1000,PD (jnD d))]:=by
 have hb:=wW d 6 zB;have hsl:=OD (nx d 6);have sc:=zIc (nx d 6);have ej:jnF d=⟨(WR d).1,fC (WR d).1 (nx (WR d).2 4==3) (WR d).1.length,nx (ad d) 3⟩:=rfl;have ed:jnD d=ad (WR d).2:=rfl;have ep:WR d=LP (ad (ad d)) (qX (nx d 6)) (qX (nx d 6)).length:=rfl;rw[ej,ed];generalize WR d=jp at *;generalize qX (nx d 6)=l at *;have hll:(l.map prA).length=l.length:=by simp
 refine eM call42 λF hF=>?_
 (repeat' (first|refine YA ?_|refine xL (λhc=>?_) λhc=>?_|(refine zE ?_;refine xJ ?_;(first|(refine vP 75 ?_;first|refine zP (zH (sc) Z Z Z Z Z) Z ?_|refine qE (zH (sc) Z Z Z Z Z) Z Z Z ?_|refine ZJ (zH (sc) Z Z Z Z Z) Z Z Z ?_)|(refine vP 15 ?_;first|refine zP (zH (vZ _ _ zB zB) Z Z Z Z Z) Z ?_|refine qE (zH (vZ _ _ zB zB) Z Z Z Z Z) Z Z Z ?_|refine ZJ (zH (vZ _ _ zB zB) Z Z Z Z Z) Z Z Z ?_)))|fail))
 refine uY 4 0 1001 8 Z Z Z Z Z ?_
 refine vH (λn st=>∃i:Nat,n+i=l.length/\st=⟨[(0,.ptr 1000 0 0),(2,.ptr 2 0 0),(4,.ptr 4 0 0),(20,zD prA l),(21,iA l.length),(22,iA i)],
   [(1000,PD (LP (ad (ad d)) l i).2),(2,.box [.s (.slice none 0 0),.s (.slice none 0 0),iA 0]),(4,.box [.ref 1001 0 ((LP (ad (ad d)) l i).1.map vK).length,.s (.slice none 0 0),iA (nx (ad d) 3)]),(1001,.arr 8 ((LP (ad (ad d)) l i).1.map vK) true)]⟩)
  l.length [1000,2,4,1001] [0,2,4,20,21,22] Z ⟨0,rfl,by rw[<-hll];rfl⟩ ?_
 rintro n st ⟨i,hi,rfl⟩;by_cases hlt:i<l.length
 ·have hy:=yN prA l i zB zB;rw[show((i:Int)).toNat=i from Z]at hy;have hm:(LP (ad (ad d)) l (i+1)).1.map vK=(LP (ad (ad d)) l i).1.map vK++[vK (SH (LP (ad (ad d)) l i).2 (l.getD i default))]:=zYd;have hd:(LP (ad (ad d)) l (i+1)).2=phD (LP (ad (ad d)) l i).2:=rfl;have hle:=UJ (ad (ad d)) l i;generalize l.getD i default=p at *;obtain⟨p1,p2⟩:=p;generalize hq':LP (ad (ad d)) l (i+1)=q' at hm hd;generalize LP (ad (ad d)) l i=q at *;obtain⟨ql,qd⟩:=q;dsimp only at hm hd hle⊢;have b0:=wW qd (3-1+1) zB;have b1:=wW (ad (ad (ad (ad qd)))) 4 zB;have b2:=wW (ad (ad (ad (ad qd)))) (2-1+1) zB;have b3:=wW (ad (ad (ad (ad (ad qd))))) (2-1+1) zB;have b4:=wW (ad (ad (ad (ad (ad (ad qd)))))) 4 zB;by_cases hz:nx (ad (ad (ad qd))) 3=2
  ·rw[show SH qd (p1,p2)=⟨p1,p2,1+nx qd (3-1+1),max (1+nx qd (3-1+1)) (1+nx (ad (ad (ad (ad qd)))) (2-1+1)+(1+nx (ad (ad (ad (ad (ad qd))))) (2-1+1)))+nx (ad (ad (ad (ad (ad (ad qd)))))) 4,1+nx (ad qd) (2-1+1),nx (ad (ad qd)) 3,1+nx (ad (ad (ad (ad qd)))) (2-1+1),1+nx (ad (ad (ad (ad (ad qd))))) (2-1+1)⟩ by unfold SH;rw[zX3 hz]]at hm;rw[show phD qd=ad (ad (ad (ad (ad (ad (ad qd)))))) by unfold phD;rw[zX3 hz]]at hd
   (repeat' (first|refine YA ?_|refine xL (λhc=>?_) λhc=>?_|(refine zE ?_;refine xJ ?_;(first|(refine vP 41 ?_;first|refine zP (zH (jW _ _ _ zB zB zB) Z Z Z Z Z) Z ?_|refine qE (zH (jW _ _ _ zB zB zB) Z Z Z Z Z) Z Z Z ?_|refine ZJ (zH (jW _ _ _ zB zB zB) Z Z Z Z Z) Z Z Z ?_)|(refine vP 15 ?_;first|refine zP (zH (vZ _ _ zB zB) Z Z Z Z Z) Z ?_|refine qE (zH (vZ _ _ zB zB) Z Z Z Z Z) Z Z Z ?_|refine ZJ (zH (vZ _ _ zB zB) Z Z Z Z Z) Z Z Z ?_)))|fail))
   exact⟨n-1,zB,i+1,zB,by rw[hq',hm,hd];rfl⟩
  ·rw[show SH qd (p1,p2)=⟨p1,p2,1+nx qd (3-1+1),max (1+nx qd (3-1+1)) (0+0)+nx (ad (ad (ad (ad qd)))) 4,1+nx (ad qd) (2-1+1),nx (ad (ad qd)) 3,0,0⟩ by unfold SH;rw[zX2 hz]]at hm;rw[show phD qd=ad (ad (ad (ad (ad qd)))) by unfold phD;rw[zX2 hz]]at hd
   (repeat' (first|refine YA ?_|refine xL (λhc=>?_) λhc=>?_|(refine zE ?_;refine xJ ?_;(first|(refine vP 41 ?_;first|refine zP (zH (jW _ _ _ zB zB zB) Z Z Z Z Z) Z ?_|refine qE (zH (jW _ _ _ zB zB zB) Z Z Z Z Z) Z Z Z ?_|refine ZJ (zH (jW _ _ _ zB zB zB) Z Z Z Z Z) Z Z Z ?_)|(refine vP 15 ?_;first|refine zP (zH (vZ _ _ zB zB) Z Z Z Z Z) Z ?_|refine qE (zH (vZ _ _ zB zB) Z Z Z Z Z) Z Z Z ?_|refine ZJ (zH (vZ _ _ zB zB) Z Z Z Z Z) Z Z Z ?_)))|fail))
   exact⟨n-1,zB,i+1,zB,by rw[hq',hm,hd];rfl⟩
 obtain rfl:i=l.length:=by omega
 have hpl:jp.1.length=l.length:=by rw[ep];exact UJ _ _ _
 rw[<-ep];clear ep ej ed sc hll hi hlt;obtain⟨ps,dj⟩:=jp;dsimp only at hpl⊢;have hlp:(ps.map vK).length=ps.length:=by simp
 generalize nx (ad d) 3=js
 (repeat' (first|refine YA ?_|refine xL (λhc=>?_) λhc=>?_|(refine zE ?_;refine xJ ?_;(first|(refine vP 15 ?_;first|refine zP (zH (vZ _ _ zB zB) Z Z Z Z Z) Z ?_|refine qE (zH (vZ _ _ zB zB) Z Z Z Z Z) Z Z Z ?_|refine ZJ (zH (vZ _ _ zB zB) Z Z Z Z Z) Z Z Z ?_)))|fail))
 generalize nx dj 4=n4
 refine jJ (st':=⟨[(0,.ptr 1000 0 0),(2,.ptr 2 0 0),(4,.ptr 4 0 0),(8,bA (n4==3)),(69,zD vK ps),(70,iA ps.length),(71,iA 0)],
   [(1000,PD (ad dj)),(2,.box [.s (.slice none 0 0),.s (.slice none 0 0),iA 0]),(4,.box [zD vK ps,.s (.slice none 0 0),iA js])]⟩) [1000,2,4] [0,2,4,8,69,70,71] Z (by
  have e1:zD vK ps= .sl false (List.take (ps.map vK).length (List.drop 0 (ps.map vK))):=by
   rw[zYq,zX6];rfl
  rw[e1,<-hlp]
  rfl) ?_
 generalize (n4==3)=ex;generalize ad dj=dk;refine uY 4 1 1002 1 Z Z Z Z Z ?_
 refine vH (λn st=>∃i:Nat,n+i=ps.length/\st=⟨[(0,.ptr 1000 0 0),(2,.ptr 2 0 0),(4,.ptr 4 0 0),(8,bA ex),(69,zD vK ps),(70,iA ps.length),(71,iA i)],
   [(1000,PD dk),(2,.box [.s (.slice none 0 0),.s (.slice none 0 0),iA 0]),(4,.box [zD vK ps,.ref 1002 0 ((fC ps ex i).map iA).length,iA js]),(1002,.arr 1 ((fC ps ex i).map iA) true)]⟩)
  ps.length [1000,2,4,1002] [0,2,4,8,69,70,71] Z ⟨0,rfl,rfl⟩ ?_
 clear n;rintro n st ⟨i,hi,rfl⟩;by_cases hlt:i<ps.length
 ·have hy:=yN vK ps i zB zB;rw[show((i:Int)).toNat=i from Z]at hy;have ht:(fC ps ex (i+1)).map iA=(fC ps ex i).map iA++[iA (XL ps ex i ps.length)]:=by unfold fC;rw[yAw];simp
  have hrl:(fC ps ex i).length=i:=by simp[fC]
  obtain⟨p,hp⟩:∃p,ps.getD i default=p:=⟨_,rfl⟩;rw[hp]at hy;obtain⟨rows,hrows⟩:∃r,fC ps ex i=r:=⟨_,rfl⟩;rw[hrows]at ht hrl⊢
  (repeat' (first|refine YA ?_|refine xL (λhc=>?_) λhc=>?_|fail))
  refine vH (λn st=>∃k:Nat,n+k=ps.length/\st=⟨[(0,.ptr 1000 0 0),(2,.ptr 2 0 0),(4,.ptr 4 0 0),(8,bA ex),(9,iA i),(10,.ptr 10 0 0),(11,iA (XL ps ex i k)),(69,zD vK ps),(70,iA ps.length),(71,iA i),(77,zD vK ps),(78,iA ps.length),(79,iA k)],
    [(1000,PD dk),(2,.box [.s (.slice none 0 0),.s (.slice none 0 0),iA 0]),(4,.box [zD vK ps,.ref 1002 0 (rows.map iA).length,iA js]),(10,.box [iA p.ring,iA p.group,iA p.ming,iA p.maxg,iA p.yel,iA p.red,iA p.walk,iA p.clear]),(1002,.arr 1 (rows.map iA) true)]⟩)
   ps.length [1000,2,4,10,1002] [0,2,4,8,9,10,11,69,70,71,77,78,79] Z ⟨0,rfl,by rw[<-hlp];rfl⟩ ?_
  rintro n2 st ⟨k,hk,rfl⟩;by_cases hlt2:k<ps.length
  ·have hy2:=yN vK ps k zB zB;rw[show((k:Int)).toNat=k from Z]at hy2
   have hn:XL ps ex i (k+1)=if cnd ps ex i k=true then XL ps ex i k+2 ^ k else XL ps ex i k:=rfl
   have hc:cnd ps ex i k=(i != k&&(p.ring==(ps.getD k default).ring||p.group != (ps.getD k default).group||ex&&((i:Int)+k).tmod 2==1)):=by rw[<-hp];rfl
   obtain⟨hw,hw2⟩:=zXm k zB;obtain⟨hr0,hr1⟩:=QZ ps ex i k;have hr2:0<=(2:Int) ^ k:=by omega
   rw[show(2:Int) ^ k=p2 k from Z]at hn hr1 hr2 hw2;clear hw;generalize ps.getD k default=q at *;by_cases h0:i=k
   ·rw[zX2 (by rw[hc];simp[h0])]at hn;clear hc;subst h0
    (repeat' (first|refine YA ?_|refine xL (λhc=>?_) λhc=>?_|fail))
    exact⟨n2-1,zB,i+1,zB,by rw[hn];rfl⟩
   by_cases h1:p.ring=q.ring
   ·rw[zX3 (by rw[hc];simp[h0,h1])]at hn;clear hc
    (repeat' (first|refine YA ?_|refine xL (λhc=>?_) λhc=>?_|fail))
    exact⟨n2-1,zB,k+1,zB,by rw[hn];rfl⟩
   by_cases h2:p.group=q.group
   ·cases ex with
    |false=>
     rw[zX2 (by rw[hc];simp[h0,h1,h2])]at hn;clear hc
     (repeat' (first|refine YA ?_|refine xL (λhc=>?_) λhc=>?_|fail))
     exact⟨n2-1,zB,k+1,zB,by rw[hn];rfl⟩
    | true=>
     by_cases h3:((i:Int)+k).tmod 2=1
     ·rw[zX3 (by rw[hc];simp[h0,h1,h2,h3])]at hn;clear hc
      (repeat' (first|refine YA ?_|refine xL (λhc=>?_) λhc=>?_|fail))
      exact⟨n2-1,zB,k+1,zB,by rw[hn];rfl⟩
     ·rw[zX2 (by rw[hc];simp[h0,h1,h2,h3])]at hn;clear hc
      (repeat' (first|refine YA ?_|refine xL (λhc=>?_) λhc=>?_|fail))
      exact⟨n2-1,zB,k+1,zB,by rw[hn];rfl⟩
   ·rw[zX3 (by rw[hc];simp[h0,h1,h2])]at hn;clear hc
    (repeat' (first|refine YA ?_|refine xL (λhc=>?_) λhc=>?_|fail))
    exact⟨n2-1,zB,k+1,zB,by rw[hn];rfl⟩
  ·obtain rfl:k=ps.length:=by omega
   have hr:=QZ ps ex i ps.length
   (repeat' (first|refine YA ?_|refine xL (λhc=>?_) λhc=>?_|fail))
   exact⟨n-1,zB,i+1,zB,by rw[ht];rfl⟩
 obtain rfl:i=ps.length:=by omega
 (repeat' (first|refine YA ?_|refine xL (λhc=>?_) λhc=>?_|fail))
 exact zL [1000] Z Z (zY3 (λx=>AV.agg [zD vK ps,AV.sl false x,iA js]) zX6) Z
def ad4 (d:Dk):Dk:=ad (ad (ad (ad d)))
def MD (d:Dk):Nat->List Jn×Dk
 |0=>([],d)
 |i+1=>((MD d i).1++[jnF (MD d i).2],jnD (MD d i).2)
def SI (d:Dk) (rights:Int):Nat->List Ag×Dk
 |0=>([],d)
 |i+1=>((SI d rights i).1++[agF (SI d rights i).2 i rights],ad (ad7 (SI d rights i).2))
theorem PA (d:Dk):∀i,(MD d i).1.length=i
 |0=>rfl
 |i+1=>by simp[MD,PA d i]
theorem cX (d:Dk) (rights:Int):∀i,(SI d rights i).1.length=i
 |0=>rfl
 |i+1=>by simp[SI,cX d rights i]
def zSu (d:Dk) (rights:Int) (i:Nat):(SI d rights (i+1)).2=ad (ad7 (SI d rights i).2):=by simp only[SI]
def zId (d:Dk) (rights:Int) (i:Nat):(SI d rights (i+1)).1=(SI d rights i).1++[agF (SI d rights i).2 i rights]:=by simp only[SI]
def cfN (d:Dk):Nat:=(1+nx (ad4 d) 2).toNat
def cfJ (d:Dk):List Jn×Dk:=MD (ad (ad4 d)) (cfN d)
def cfM (d:Dk):Nat:=(1+nx (cfJ d).2 3).toNat
def cfG (d:Dk) (rights:Int):List Ag×Dk:=SI (ad (cfJ d).2) rights (cfM d)
def QH (d:Dk) (rights:Int):Cf:=⟨(cfJ d).1,(cfG d rights).1,1+nx d (4-1+1),nx (ad d) 4,1+nx (ad (ad d)) (3-1+1),nx (ad (ad (ad d))) 5⟩
def cfD (d:Dk) (rights:Int):Dk:=(cfG d rights).2
theorem zIe (d:Dk) (rights:Int):zO 12 [.ptr 1000 0 0,iA rights] [(1000,PD d)] (vL (QH d rights)) [(1000,PD (cfD d rights))]:=by
 have hn:=wW (ad4 d) 2 zB;have hm:=wW (cfJ d).2 3 zB;have en:1+nx (ad4 d) 2=(cfN d:Int):=(yB0 zB).symm;have em:1+nx (cfJ d).2 3=(cfM d:Int):=(yB0 zB).symm;have ej:cfJ d=MD (ad (ad4 d)) (cfN d):=rfl;have eg:cfG d rights=SI (ad (cfJ d).2) rights (cfM d):=rfl;have ef:QH d rights=⟨(cfJ d).1,(cfG d rights).1,1+nx d (4-1+1),nx (ad d) 4,1+nx (ad (ad d)) (3-1+1),nx (ad (ad (ad d))) 5⟩:=rfl;have ed:cfD d rights=(cfG d rights).2:=rfl;rw[ef,ed];unfold ad4 at *;generalize cfJ d=jj at *;generalize cfG d rights=gg at *;generalize cfN d=N at *;generalize cfM d=M at *;have jc:=λi=>AW (MD (ad (ad (ad (ad (ad d))))) i).2
 refine eM call12 λF hF=>?_
 (repeat' (first|refine YA ?_|refine xL (λhc=>?_) λhc=>?_|(refine zE ?_;refine xJ ?_;(first|(refine vP 41 ?_;first|refine zP (zH (jW _ _ _ zB zB zB) Z Z Z Z Z) Z ?_|refine qE (zH (jW _ _ _ zB zB zB) Z Z Z Z Z) Z Z Z ?_|refine ZJ (zH (jW _ _ _ zB zB zB) Z Z Z Z Z) Z Z Z ?_)|(refine vP 15 ?_;first|refine zP (zH (vZ _ _ zB zB) Z Z Z Z Z) Z ?_|refine qE (zH (vZ _ _ zB zB) Z Z Z Z Z) Z Z Z ?_|refine ZJ (zH (vZ _ _ zB zB) Z Z Z Z Z) Z Z Z ?_)))|fail))
 generalize nx d (4-1+1)=c1 at *;generalize nx (ad d) 4=c2 at *;generalize nx (ad (ad d)) (3-1+1)=c3 at *;generalize nx (ad (ad (ad d))) 5=c4 at *;generalize nx (ad (ad (ad (ad d)))) 2=n0 at *;generalize ad (ad (ad (ad (ad d))))=d5 at *;refine uY 5 0 1001 3 Z Z Z Z Z ?_
 refine vH (λn st=>∃i:Nat,n+i=N/\st=⟨[(0,.ptr 1000 0 0),(1,iA rights),(4,.ptr 4 0 0),(5,.ptr 5 0 0),(6,iA (1+n0-i))],
   [(1000,PD (MD d5 i).2),(4,.box [.s (.slice none 0 0),.s (.slice none 0 0),iA 0,iA 0,iA 0,iA 0]),(5,.box [.ref 1001 0 ((MD d5 i).1.map vC).length,.s (.slice none 0 0),iA (1+c1),iA c2,iA (1+c3),iA c4]),(1001,.arr 3 ((MD d5 i).1.map vC) true)]⟩)
  N [1000,4,5,1001] [0,1,4,5,6] Z ⟨0,rfl,by rw[show 1+n0-(0:Nat)=1+n0 by omega];rfl⟩ ?_
 rintro n st ⟨i,hi,rfl⟩;by_cases hlt:i<N
 ·have hm2:(MD d5 (i+1)).1.map vC=(MD d5 i).1.map vC++[vC (jnF (MD d5 i).2)]:=zYd;have hd2:(MD d5 (i+1)).2=jnD (MD d5 i).2:=rfl;have c:=jc i;have hle:=PA d5 i;generalize hq':MD d5 (i+1)=q' at hm2 hd2;generalize MD d5 i=q at *;obtain⟨ql,qd⟩:=q;dsimp only at hm2 hd2 hle c⊢;generalize jnF qd=jf at *;generalize jnD qd=jd at *;refine zY c ?_;exact⟨n-1,zB,i+1,zB,by rw[hq',hm2,hd2,show 1+n0-((i+1:Nat):Int)=1+n0-i-1 by omega];rfl⟩
 obtain rfl:i=N:=by omega
 have hjl:jj.1.length=i:=by rw[ej];exact PA _ _
 rw[<-ej];clear ej jc ef ed;obtain⟨js,dj⟩:=jj;dsimp only at *;have hlp:(js.map vC).length=js.length:=by simp
 have hal:=cX (ad dj) rights M;have ac:=λk (hk:k<M)=>zIo (SI (ad dj) rights k).2 k rights zB zB
 rw[<-eg]at hal
 (repeat' (first|refine YA ?_|refine xL (λhc=>?_) λhc=>?_|(refine zE ?_;refine xJ ?_;(first|(refine vP 15 ?_;first|refine zP (zH (vZ _ _ zB zB) Z Z Z Z Z) Z ?_|refine qE (zH (vZ _ _ zB zB) Z Z Z Z Z) Z Z Z ?_|refine ZJ (zH (vZ _ _ zB zB) Z Z Z Z Z) Z Z Z ?_)))|fail))
 generalize nx dj 3=n3 at *;generalize ad dj=dk at*
 refine jJ (st':=⟨[(0,.ptr 1000 0 0),(1,iA rights),(4,.ptr 4 0 0),(5,.ptr 5 0 0),(33,iA (1+n3)),(34,iA 0)],
   [(1000,PD dk),(4,.box [.s (.slice none 0 0),.s (.slice none 0 0),iA 0,iA 0,iA 0,iA 0]),(5,.box [zD vC js,.s (.slice none 0 0),iA (1+c1),iA c2,iA (1+c3),iA c4])]⟩) [1000,4,5] [0,1,4,5,33,34] Z (by
  have e1:zD vC js= .sl false (List.take (js.map vC).length (List.drop 0 (js.map vC))):=by
   rw[zYq,zX6];rfl
  rw[e1]
  rfl) ?_
 refine uY 5 1 1002 8 Z Z Z Z Z ?_
 refine vH (λn st=>∃k:Nat,n+k=M/\st=⟨[(0,.ptr 1000 0 0),(1,iA rights),(4,.ptr 4 0 0),(5,.ptr 5 0 0),(33,iA (1+n3)),(34,iA k)],
   [(1000,PD (SI dk rights k).2),(4,.box [.s (.slice none 0 0),.s (.slice none 0 0),iA 0,iA 0,iA 0,iA 0]),(5,.box [zD vC js,.ref 1002 0 ((SI dk rights k).1.map vU).length,iA (1+c1),iA c2,iA (1+c3),iA c4]),(1002,.arr 8 ((SI dk rights k).1.map vU) true)]⟩)
  M [1000,4,5,1002] [0,1,4,5,33,34] Z ⟨0,rfl,rfl⟩ ?_
 clear n hi hlt;rintro n st ⟨k,hk,rfl⟩;by_cases hlt:k<M
 ·have hm2:(SI dk rights (k+1)).1.map vU=(SI dk rights k).1.map vU++[vU (agF (SI dk rights k).2 k rights)]:=by rw[zId];exact zYd
  have hd2:(SI dk rights (k+1)).2=ad (ad7 (SI dk rights k).2):=zSu dk rights k;have c:=ac k hlt;have hle:=cX dk rights k;clear ac;generalize hq':SI dk rights (k+1)=q' at hm2 hd2;generalize SI dk rights k=q at *;obtain⟨ql,qd⟩:=q;dsimp only at hm2 hd2 hle c⊢;generalize agF qd k rights=jf at *;generalize ad (ad7 qd)=jd at *;refine zY c ?_;exact⟨n-1,zB,k+1,zB,by rw[hq',hm2,hd2];rfl⟩
 obtain rfl:k=M:=by omega
 rw[<-eg];clear eg ac;refine WW ?_;exact zL [1000] Z Z (zY3 (λx=>AV.agg [zD vC js,AV.sl false x,iA (1+c1),iA c2,iA (1+c3),iA c4]) zX6) Z
def CfW (c:Cf):Prop:=c.js.length<=4/\∀j∈c.js,1<=j.ph.length/\j.ph.length<=8
theorem CfW.at {c:Cf} (h:CfW c) {j:Int} (h0:0<=j) (h1:j<((c.js.map vC).length:Int)):1<=(c.js.getD j.toNat default).ph.length/\(c.js.getD j.toNat default).ph.length<=8:=by
 rw[zX5]at h1;refine h.2 _ ?_;rw[zYc,zYk zB,yAg];exact yAr _
def JU (l:List Int):Prop:=∀x∈l,0<=x/\x<=4294967295
theorem JU.app {a b:List Int} (h1:JU a) (h2:JU b):JU (a++b):=λx hx=>(zYy.1 hx).elim (h1 x) (h2 x)
theorem JU.cons {x:Int} {b:List Int} (h1:0<=x/\x<=4294967295) (h2:JU b):JU (x::b):=λy hy=>(zZg.1 hy).elim (λe=>e▸h1) (h2 y)
theorem JU.nil:JU []:=λx hx=>by cases hx
section
variable (c:Cf) (d:xI) (s now:Int) (tk0:List Int) (sl:Int)
def zIf:yV [vL c,zK d,iA s,yF ⟨1,tk0,[],[]⟩,iA sl,iA now] [] (hT d (NJ d now) (-1) 0) []:=yI
def zSv (k:Int) (ar:List Int) (a:Int) (ar1:List Int) (har:ar=a::ar1) (hk:k=2∨k=3∨k=4∨k=5) (d':xI) (p:Ms) (e:Int) (k4:yV [zK d,yF ⟨k,tk0,ar,[]⟩,iA sl,iA now] [] (.tup [zK d',yF p,iA e]) []):
 yV [vL c,zK d,iA s,yF ⟨k,tk0,ar,[]⟩,iA sl,iA now] [] (hT d' p (-1) e) []:=yI
def zIg (ar:List Int) (a:Int) (ar1:List Int) (har:ar=a::ar1) (h0:0<=sl) (h1:sl<(d.rg.tk.length:Int)) (d':xI) (e:Int) (k4:yV [vL c,zK d,yF ⟨6,tk0,ar,[]⟩,iA (d.rg.tk.getD sl.toNat default).cls,iA now] [] (.tup [zK d',iA e]) []):
 yV [vL c,zK d,iA s,yF ⟨6,tk0,ar,[]⟩,iA sl,iA now] [] (hT d' (fA 6 a) (-1) e) []:=yI
def zIh (ar:List Int) (a:Int) (ar1:List Int) (har:ar=a::ar1) (d':xI) (e:Int) (k4:yV [zK d,yF ⟨7,tk0,ar,[]⟩,iA now] [] (.tup [zK d',iA e]) []):
 yV [vL c,zK d,iA s,yF ⟨7,tk0,ar,[]⟩,iA sl,iA now] [] (hT d' (fA 7 a) (-1) e) []:=yI
def zSw (a:Int) (l:List Rq) (e:Int) (k4:yV [zD yL d.rq,iA a] [] (.tup [zD yL l,iA e]) []):
 yV [vL c,zK d,iA s,yF ⟨8,tk0,[a],[]⟩,iA sl,iA now] [] (hT (dkQ d (if e=0 then l else d.rq)) (fA 8 a) (-1) e) []:=yI
def zNk (k4:yV [zK d] [] (yF (ZF d)) []):yV [vL c,zK d,iA s,yF ⟨12,tk0,[],[]⟩,iA sl,iA now] [] (hT d (ZF d) (-1) 0) []:=yI
def zNl (a:Int) (ha:(c.js.length:Int)<=a):yV [vL c,zK d,iA s,yF ⟨11,tk0,[a],[]⟩,iA sl,iA now] [] (hT d (fA 11 a) (-1) 8) []:=yI
def zNm (a:Int) (ha:a<(c.js.length:Int)):yV [vL c,zK d,iA s,yF ⟨11,tk0,[a],[]⟩,iA sl,iA now] [] (hT d (fA 11 a) a 0) []:=yI
def zNn (a:Int) (ha:1<a):yV [vL c,zK d,iA s,yF ⟨10,tk0,[a],[]⟩,iA sl,iA now] [] (hT d (fA 10 a) (-1) 8) []:=yI
def zNo (a:Int) (ha:a<=1) (hs:¬(0<=s/\s<(d.au.length:Int))):yV [vL c,zK d,iA s,yF ⟨10,tk0,[a],[]⟩,iA sl,iA now] [] (hT d (fA 10 a) (-1) 0) []:=yI
def zNp (hb:cO d):yV [vL c,zK d,iA s,yF ⟨9,tk0,[],[]⟩,iA sl,iA now] [] (hT d (NK d) (-1) 0) []:=yI
end
def UK (d:xI):AV:=wI d.rg (zD yL d.rq) (zD kE d.dr) (.ref 1004 0 (d.au.map bA).length)
def BM (l:List Bool):xN:= .arr 1 (l.map bA) false
def hTO (d:xI) (p:Ms) (k e:Int):AV:= .tup [UK d,yF p,iA k,iA e]
def zIi (l:List Bool) (h1:1<=l.length) (hl:l.length<=1073741824):zO 169 [zD bA l] [] (.ref 1004 0 (l.map bA).length) [(1004,BM l)]:=by
 have hll:=zA bA l;unfold BM;refine eM call169 λF hF=>?_
 refine yX 0 Z (λcap hx=>?_) ?_
 ·have:l=[]:=by simpa using hx
  subst this;simp at h1
 ·repeat' (first|(refine zE ?_;first|refine wL tok Z Z ?_|(refine xM ?_;refine zP (yG tok (.inl ⟨rfl,rfl⟩) Z Z Z Z) Z ?_)|(refine xR ?_;refine qE (nw:=[1004]) (yK tok 1004 (xs:=[]) Z Z Z Z Z Z Z Z Z) Z Z Z ?_)|(refine yD ?_;refine xF tok Z Z Z Z Z Z Z (zN _ _ (λ_=>rfl)) Z Z Z zB Z ?_)|refine uI ?_)|(first|refine xS ?_|refine xC ?_|refine vQ Z ?_|refine yC Z ?_|refine zU Z ?_|refine xH Z (λhc=>?_) λhc=>?_|refine yZ ?_|refine yU ?_|refine xB ?_|refine yQ ?_))
  exact zL [1004] Z Z Z Z
def UL (d:xI) (hb:cO d) (h1:1<=d.au.length):zO 127 [zK d] [] (UK d) [(1004,BM d.au)]:=by
 have k1:=HB d.rg hb.rg;have hq:=hb.q;have hdn:=hb.n;have hau:=hb.a;have k2:=VL d.rq zB;have k3:=NG d.dr zB;have k4:=zIi d.au h1 zB;have hlq:=zA yL d.rq;have hld:=zA kE d.dr;unfold UK zK wI;unfold BM at *;unfold qW at k1;refine eM call127 λF hF=>?_
 refine yR (wZ k1 k2) ?_;refine zS ((d.rq.map yL).length) [1001,1,2] [1,2] [1,2,15] [16,1,2,15] Z (λi T U=>⟨(16,iA i)::T,(1001,.arr 5 (jQ i (d.rq.map yL)) false)::U⟩) ?_;(conv=>whnf);refine⟨by rfl,?_,?_⟩
 ·intro i hi;have hi':i<d.rq.length:=by omega
  have hy:(jQ i (d.rq.map yL))[i]? =some (yL (d.rq.getD i default)):=zM yL d.rq i hi';have e:=jD yL d.rq i hi';have c2:=bS (d.rq.getD i default).legs (hb.g (d.rq.getD i default) ZK);generalize (d.rq.getD i default)=t at *;generalize jQ i (d.rq.map yL)=xs at *;generalize jQ (i+1) (d.rq.map yL)=ys at *;subst e;refine zY c2 ?_;rfl
 ·(refine zY k3 ?_)
  refine zS ((d.dr.map kE).length) [1002,1,2,1001] [1,2,1001] [1,2,38] [39,1,2,38] Z (λi T U=>⟨(39,iA i)::T,(1002,.arr 1 (jQ i (d.dr.map kE)) false)::U⟩) ?_;(conv=>whnf);refine⟨by rfl,?_,?_⟩
  ·intro i hi;have hi':i<d.dr.length:=by omega
   have hy:(jQ i (d.dr.map kE))[i]? =some (kE (d.dr.getD i default)):=zM kE d.dr i hi';have e:=jD kE d.dr i hi';have c2:=wK (d.dr.getD i default) (by have:=hb.e (d.dr.getD i default) ZK;omega);generalize (d.dr.getD i default)=t at *;generalize jQ i (d.dr.map kE)=xs at *;generalize jQ (i+1) (d.dr.map kE)=ys at *;subst e;refine zY c2 ?_;rfl
  ·(refine zY k4 ?_)
   refine zI [1004] Z Z ?_ Z
   show wI d.rg (.sl false ((d.rq.map yL).take (d.rq.map yL).length)) (.sl false ((d.dr.map kE).take (d.dr.map kE).length)) (.ref 1004 0 (d.au.map bA).length)=_
   rw[zX6,zX6];rfl
def AX (d:xI) (hb:cO d):yV [zK d] [] (UK d) [(1004,BM d.au)]:=yI
def zNq (c:Cf) (d:xI) (s now:Int) (pa tk0:List Int) (a:Int) (h0:0<=a) (h1:a<=1) (k2:zO 69 [iA 10,zD yA pa] [] (.tup [yF ⟨10,tk0,[a],[]⟩,iA 0]) []) (r:Rg) (sl:Int)
  (k3:zO 200 [qW d.rg,yF ⟨10,tk0,[a],[]⟩,iA now] [] (.tup [qW r,iA sl,iA 0]) []) (hs:0<=s/\s<(d.au.length:Int)):
  zO 170 [vL c,UK d,iA s,wO ⟨0,10,pa⟩,iA now] [(1004,BM d.au)] (hTO ⟨r,d.rq,d.dr,d.au.set s.toNat (a==1)⟩ (fA 10 a) (-1) 0) [(1004,BM (d.au.set s.toNat (a==1)))]:=by
 have k1:=dA 10;have k5:=HG 10 a;have hla:=zA bA d.au;have hya:=zM bA d.au s.toNat zB;unfold fA yF at k5;rw[show yF ⟨10,tk0,[a],[]⟩= .agg [iA 10,zD yA tk0,.sl false [iA a],.sl false []]from Z]at k2 k3;unfold qW at k3;have hls:(d.au.set s.toNat (a==1)).map bA=(d.au.map bA).set s.toNat (bA (a==1)):=zZ8;unfold vL hTO UK wI wO fA yF BM;dsimp only;rw[hls,zZx];generalize d.au.getD s.toNat default=b0 at *;generalize d.au.map bA=xs at*
 obtain rfl|rfl:a=0∨a=1:=by omega
 all_goals
  refine eM call170 λF hF=>?_
  refine EV (XU k1 k2 k3 k5) ?_;exact zI [1004] Z Z Z Z
def zNr (c:Cf) (d:xI) (s now:Int) (tk0:List Int) (sl:Int) (a:Int) (h0:0<=a) (h1:a<=1) (hs:0<=s/\s<(d.au.length:Int)):
 yV [vL c,UK d,iA s,yF ⟨10,tk0,[a],[]⟩,iA sl,iA now] [(1004,BM d.au)] (hTO ⟨d.rg,d.rq,d.dr,d.au.set s.toNat (a==1)⟩ (fA 10 a) (-1) 0) [(1004,BM (d.au.set s.toNat (a==1)))]:=yI
def gA (k e:Int):Ms:=⟨15,[],[k,e],[]⟩
def MN (a k e:Int):AV:= .agg [iA a,iA k,iA e]
structure Hd where
 d:xI
 p:Ms
 k:Int
 e:Int
def ED (n ki:Int) (h:Hd):AV:= .tup [zK h.d,yF h.p,MN n ki h.e,iA h.k]
def OE (d:xI):AV:=wI d.rg (zD yL d.rq) (.ref 1005 0 (d.dr.map kE).length) (zD bA d.au)
def dkD (d:xI):xN:= .arr 1 (d.dr.map kE) true
def EE (n ki:Int) (h:Hd):AV:= .tup [OE h.d,yF h.p,MN n ki h.e,iA h.k]
def fE (d:xI) (hb:cO d):yV [zK d] [] (OE d) [(1005,dkD d)]:=yI
def AY (c:Cf) (d:xI) (s now:Int) (i:It) (h:Hd):Prop:=
 yV [vL c,zK d,iA s,wO i,iA now] [] (ED d.rg.num i.kind h) []/\yV [vL c,zK d,iA s,wO i,iA now] [] (EE d.rg.num i.kind h) [(1005,dkD h.d)]
def hdM (ki:Int) (d:xI) (p:Ms) (k e:Int):Hd:=if e=0 then⟨d,p,k,0⟩else⟨d,gA ki e,-1,e⟩
def zQq (c:Cf) (d:xI) (s now:Int) (i:It) (hb:cO d) (d':xI) (p:Ms) (k e:Int) (k4:zO 170 [vL c,zK d,iA s,wO i,iA now] [] (hT d' p k e) []):
  zO 128 [vL c,zK d,iA s,wO i,iA now] [] (ED d'.rg.num i.kind (hdM i.kind d' p k e)) []:=by
 have k1:=aB d hb;unfold hT vL wO at k4;unfold vL wO;unfold zK wI yF at *;by_cases he:e=0
 ·subst he;unfold hdM ED MN zK wI yF;rw[zX3 Z];refine eM call128 λF hF=>?_
  refine EV (wZ k1 k4) ?_;exact zJ
 ·unfold hdM ED MN gA zK wI yF;rw[zX2 he];refine eM call128 λF hF=>?_
  refine EV (wZ k1 k4) ?_;exact zJ
def zSx (c:Cf) (d:xI) (s now:Int) (i:It) (hb:cO d) (h1:1<=d.au.length) (d':xI) (p:Ms) (k:Int) (k4:zO 170 [vL c,UK d,iA s,wO i,iA now] [(1004,BM d.au)] (hTO d' p k 0) [(1004,BM d'.au)]):
  zO 128 [vL c,zK d,iA s,wO i,iA now] [] (ED d'.rg.num i.kind ⟨d',p,k,0⟩) []:=by
 have k1:=UL d hb h1;unfold hTO vL wO at k4;unfold vL wO;unfold BM UK at *;unfold zK wI yF at *;unfold ED MN zK wI yF;refine eM call128 λF hF=>?_
 refine EV (wZ k1 k4) ?_;refine zI [] Z Z ?_ Z
 show AV.tup [wI d'.rg (zD yL d'.rq) (zD kE d'.dr) (.sl false ((d'.au.map bA).take (d'.au.map bA).length)),yF p,MN d'.rg.num i.kind 0,iA k]=_
 rw[zX6];rfl
section
variable (c:Cf) (d:xI) (s now:Int) (hb:cO d)
include hb
theorem zNs (i:It) (hc:i.code≠0):AY c d s now i ⟨d,gA i.kind i.code,-1,i.code⟩:=by
 have kd:=fE d hb;have k1:=gE d hb;unfold AY vL ED EE gA MN wO zK OE dkD wI yF at *;refine⟨?_,?_⟩
 ·exact yI
 ·exact yI
theorem zNt (i:It) (hc:i.code=0) (hk:¬(1<=i.kind/\i.kind<=12)):AY c d s now i ⟨d,gA i.kind 5,-1,5⟩:=by
 have kd:=fE d hb;have k1:=gE d hb;have k2:=dQ i.kind;rw[zYb hk]at k2;obtain⟨co,ki,pa⟩:=i;dsimp only at *;subst hc;unfold AY vL ED EE gA MN wO zK OE dkD wI yF at *;refine⟨?_,?_⟩
 ·exact yI
 ·exact yI
theorem zNu (k:Int) (pa:List Int) (h0:1<=k) (h1:k<=12) (k3:zO 71 [iA k,zD yA pa] [] (deT k (pa.take 10) none) []):AY c d s now ⟨0,k,pa⟩ ⟨d,gA k 6,-1,6⟩:=by
 have kd:=fE d hb;have k1:=gE d hb;have k2:=dQ k;rw[zYa ⟨h0,h1⟩]at k2;unfold deT yF at k3;unfold AY vL ED EE gA MN wO zK OE dkD wI yF at *;refine⟨?_,?_⟩
 ·exact yI
 ·exact yI
variable (k:Int) (pa tk0 ar:List Int) (h0:1<=k) (h1:k<=12) (k3:zO 71 [iA k,zD yA pa] [] (.tup [yF ⟨k,tk0,ar,[]⟩,iA 0]) [])
include h0 h1 k3
theorem zNv (r:Rg) (sl e:Int) (he:e≠0) (k4:yV [qW d.rg,yF ⟨k,tk0,ar,[]⟩,iA now] [] (.tup [qW r,iA sl,iA e]) []):
  AY c d s now ⟨0,k,pa⟩ ⟨d,gA k e,-1,e⟩:=by
 have kd:=fE d hb;have k1:=gE d hb;have k2:=dQ k;rw[zYa ⟨h0,h1⟩]at k2;unfold qW at k4;unfold AY vL ED EE gA MN wO zK OE dkD wI yF at *;refine⟨?_,?_⟩
 ·exact yI
 ·exact yI
theorem zQr (r:Rg) (sl:Int) (k4:yV [qW d.rg,yF ⟨k,tk0,ar,[]⟩,iA now] [] (.tup [qW r,iA sl,iA 0]) []) (d':xI) (hb':cO d') (p:Ms) (kk e:Int)
  (k5:yV [vL c,zK (wE d r),iA s,yF ⟨k,tk0,ar,[]⟩,iA sl,iA now] [] (hT d' p kk e) []):
  AY c d s now ⟨0,k,pa⟩ (hdM k d' p kk e):=by
 have kd:=fE d' hb';have k1:=gE d hb;have k6:=gE d' hb';have k2:=dQ k;rw[zYa ⟨h0,h1⟩]at k2;unfold qW at k4;unfold hT wE at k5;unfold AY vL wO zK OE dkD wI yF at *;by_cases he:e=0
 ·subst he;unfold hdM ED EE MN zK OE wI yF;rw[zX3 Z];refine⟨?_,?_⟩
  ·exact yI
  ·exact yI
 ·unfold hdM ED EE MN gA zK OE wI yF;rw[zX2 he];refine⟨?_,?_⟩
  ·exact yI
  ·exact yI
theorem zSy (r:Rg) (sl:Int) (k4:yV [qW d.rg,yF ⟨k,tk0,ar,[]⟩,iA now] [] (.tup [qW r,iA sl,iA 0]) []) (d':xI) (hb':cO d') (p:Ms) (kk:Int)
  (k5:yV [vL c,UK (wE d r),iA s,yF ⟨k,tk0,ar,[]⟩,iA sl,iA now] [(1004,BM d.au)] (hTO d' p kk 0) [(1004,BM d'.au)]):
  AY c d s now ⟨0,k,pa⟩ ⟨d',p,kk,0⟩:=by
 have kd:=fE d' hb';have k1:=AX d hb;have k6:=gE d' hb';have k2:=dQ k;rw[zYa ⟨h0,h1⟩]at k2;unfold qW at k4;unfold hTO wE at k5;unfold BM UK at *;unfold AY vL wO zK OE dkD wI yF at *;unfold ED EE MN zK OE wI yF;refine⟨?_,?_⟩
 ·exact yI
 ·exact yI
end
def zNw (r:Rg) (m:Ms) (now:Int) (hr:ER r) (hm:BY m.tok) (hl:r.bk.level<=1000000):yV [qW r,yF m,iA now] [] (.tup [qW (opR r m now),iA (opS r m now),iA (opE r m now)]) []:=yI
end Av
end Go.Proofs.YteajjdidebfcjaaGreat
