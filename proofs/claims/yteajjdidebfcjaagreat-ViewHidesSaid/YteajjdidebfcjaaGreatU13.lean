/- Part 13. -/
import Derived.Test.YteajjdidebfcjaaGreatU07
namespace Go.Proofs.YteajjdidebfcjaaGreat
namespace Av
open Tryz
set_option linter.all false
set_option maxRecDepth 4000
set_option maxHeartbeats 4000000
def mkR (now:Int) (r:Rq):Rq:=⟨r.id,r.vh,r.cls,r.til,r.legs.map λg=>ZT g now⟩
def mkQ (l:List Rq) (now:Int):List Rq:=l.map (mkR now)
def eE (l:List Lg) (now:Int) (k:Nat):List Lg:=(l.take k).map (λg=>ZT g now)++l.drop k
def OJ (l:List Lg) (now:Int):eE l now l.length=l.map λg=>ZT g now:=by simp[eE]
def fC (l:List Lg) (now:Int) (k:Nat):(eE l now k).length=l.length:=by simp[eE];omega
def cZ {l pre post:List Lg} {g:Lg} {k:Nat} (now:Int) (hx:l=pre++g::post) (hk:pre.length=k):((eE l now k).map xW)[k]? =some (xW g):=by
 subst hx hk;simp[eE]
def fD {l pre post:List Lg} {g:Lg} {k:Nat} (now:Int) (hx:l=pre++g::post) (hk:pre.length=k):(eE l now (k+1)).map xW=((eE l now k).map xW).set k (xW (ZT g now)):=by
 subst hx hk;have e1:(pre++g::post).take (pre.length+1)=pre++[g]:=by rw[List.take_append,yAo zB];simp
 have e2:(pre++g::post).drop (pre.length+1)=post:=by rw[List.drop_append];simp
 have e3:(pre++g::post).take pre.length=pre:=by simp
 have e4:(pre++g::post).drop pre.length=g::post:=by simp
 unfold eE;rw[e1,e2,e3,e4];simp
def tkM (l:List Lg) (now:Int):List.take (l.map xW).length (List.drop 0 ((l.map λg=>ZT g now).map xW))=(l.map λg=>ZT g now).map xW:=by
 rw[yBf];exact yAo zS
def fE (r:Rq) (now:Int) (k:Nat):xO:= .arr 5 ((eE r.legs now k).map xW) false
def zQ6 (a:Rq) (ha:1<=a.legs.length) (ga:a.legs.length<=1000) (now:Int):zN 129 [zC yL [a],iA now] [] (zC yL (mkQ [a] now)) []:=by
 have kc:=EO a ha ga;have la:=zA xW a.legs;refine eM call129 λF hF=>?_
 refine zV kc ?_;refine wM 2 [1001,1101] [13,11,12,1,5] Z ?_;refine yE (st0:=⟨[(13,iA 0),(11,.ref 1001 0 1),(12,iA 1),(1,iA now),(5,.ref 1001 0 1)],[(1001,.arr 5 [qF a 1101] ⟨false,true⟩),(1101,fE a now 0)]⟩) Z ?_;unfold fE;refine WW ?_;refine yM (a.legs) [1101,7,1001] [7,1001] [1,5,7,11,12,13,19] [20,1,5,7,11,12,13,19] Z (λi pre T U=>⟨(20,iA i)::T,(1101,.arr 5 ((eE a.legs now i).map xW) false)::U⟩) ?_;(conv=>whnf);refine⟨by rfl,?_,?_⟩
 ·intro k pre g post hx hk;have hlt:=yP hx hk;have hy:=cZ now hx hk;have hs:=fD now hx hk;have hyl:((eE a.legs now k).map xW).length=a.legs.length:=by rw[yAe,fC]
  have hset:∀y:AV,(((eE a.legs now k).map xW).set k y)[k]? =some y:=λy=>yB5 zB
  have cw:=gX g now;rw[hs];clear hx hs;generalize (eE a.legs now k).map xW=ys at *;generalize ZT g now=g2 at*
  (have zc1:=cw;(repeat' (first|refine uP ?_|apply xM|apply xZ|intro hc|fail))<;>clear zc1)
  rfl
 refine WW ?_;refine yE (st0:=⟨[(13,iA 1),(11,.ref 1001 0 1),(12,iA 1),(1,iA now),(5,.ref 1001 0 1)],[(1001,.arr 5 [qF a 1101] ⟨false,true⟩),(1101,fE a now a.legs.length)]⟩) Z ?_;unfold fE;simp only[OJ];refine WW ?_;refine zH [] Z Z ?_ Z
 show AV.sl false [.agg [iA a.id,iA a.vh,iA a.cls,iA a.til,.sl false (List.take (a.legs.map xW).length (List.drop 0 ((a.legs.map λg=>ZT g now).map xW)))]]=_
 simp only[tkM];rfl
theorem zQ7 (a b:Rq) (ha:1<=a.legs.length) (ga:a.legs.length<=1000) (hb:1<=b.legs.length) (gb:b.legs.length<=1000) (now:Int):zN 129 [zC yL [a,b],iA now] [] (zC yL (mkQ [a,b] now)) []:=by
 have kc:=EP a b ha ga hb gb;have la:=zA xW a.legs;have lb:=zA xW b.legs;refine eM call129 λF hF=>?_
 refine zV kc ?_;refine wM 3 [1001,1101,1102] [13,11,12,1,5] Z ?_;refine yE (st0:=⟨[(13,iA 0),(11,.ref 1001 0 2),(12,iA 2),(1,iA now),(5,.ref 1001 0 2)],[(1001,.arr 5 [qF a 1101,qF b 1102] ⟨true,true⟩),(1101,fE a now 0),(1102,fE b now 0)]⟩) Z ?_;unfold fE;refine WW ?_;refine yM (a.legs) [1101,7,1001,1102] [7,1001,1102] [1,5,7,11,12,13,19] [20,1,5,7,11,12,13,19] Z (λi pre T U=>⟨(20,iA i)::T,(1101,.arr 5 ((eE a.legs now i).map xW) false)::U⟩) ?_;(conv=>whnf);refine⟨by rfl,?_,?_⟩
 ·intro k pre g post hx hk;have hlt:=yP hx hk;have hy:=cZ now hx hk;have hs:=fD now hx hk;have hyl:((eE a.legs now k).map xW).length=a.legs.length:=by rw[yAe,fC]
  have hset:∀y:AV,(((eE a.legs now k).map xW).set k y)[k]? =some y:=λy=>yB5 zB
  have cw:=gX g now;rw[hs];clear hx hs;generalize (eE a.legs now k).map xW=ys at *;generalize ZT g now=g2 at*
  (have zc1:=cw;(repeat' (first|refine uP ?_|apply xM|apply xZ|intro hc|fail))<;>clear zc1)
  rfl
 refine WW ?_;refine yE (st0:=⟨[(13,iA 1),(11,.ref 1001 0 2),(12,iA 2),(1,iA now),(5,.ref 1001 0 2)],[(1001,.arr 5 [qF a 1101,qF b 1102] ⟨true,true⟩),(1101,fE a now a.legs.length),(1102,fE b now 0)]⟩) Z ?_;unfold fE;refine WW ?_;refine yM (b.legs) [1102,7,1001,1101] [7,1001,1101] [1,5,7,11,12,13,19] [20,1,5,7,11,12,13,19] Z (λi pre T U=>⟨(20,iA i)::T,(1102,.arr 5 ((eE b.legs now i).map xW) false)::U⟩) ?_;(conv=>whnf);refine⟨by rfl,?_,?_⟩
 ·intro k pre g post hx hk;have hlt:=yP hx hk;have hy:=cZ now hx hk;have hs:=fD now hx hk;have hyl:((eE b.legs now k).map xW).length=b.legs.length:=by rw[yAe,fC]
  have hset:∀y:AV,(((eE b.legs now k).map xW).set k y)[k]? =some y:=λy=>yB5 zB
  have cw:=gX g now;rw[hs];clear hx hs;generalize (eE b.legs now k).map xW=ys at *;generalize ZT g now=g2 at*
  (have zc1:=cw;(repeat' (first|refine uP ?_|apply xM|apply xZ|intro hc|fail))<;>clear zc1)
  rfl
 refine WW ?_;refine yE (st0:=⟨[(13,iA 2),(11,.ref 1001 0 2),(12,iA 2),(1,iA now),(5,.ref 1001 0 2)],[(1001,.arr 5 [qF a 1101,qF b 1102] ⟨true,true⟩),(1101,fE a now a.legs.length),(1102,fE b now b.legs.length)]⟩) Z ?_;unfold fE;simp only[OJ];refine WW ?_;refine zH [] Z Z ?_ Z
 show AV.sl false [.agg [iA a.id,iA a.vh,iA a.cls,iA a.til,.sl false (List.take (a.legs.map xW).length (List.drop 0 ((a.legs.map λg=>ZT g now).map xW)))],.agg [iA b.id,iA b.vh,iA b.cls,iA b.til,.sl false (List.take (b.legs.map xW).length (List.drop 0 ((b.legs.map λg=>ZT g now).map xW)))]]=_
 simp only[tkM];rfl
theorem zQ8 (a b c:Rq) (ha:1<=a.legs.length) (ga:a.legs.length<=1000) (hb:1<=b.legs.length) (gb:b.legs.length<=1000) (hc:1<=c.legs.length) (gc:c.legs.length<=1000) (now:Int):zN 129 [zC yL [a,b,c],iA now] [] (zC yL (mkQ [a,b,c] now)) []:=by
 have kc:=EQ a b c ha ga hb gb hc gc;have la:=zA xW a.legs;have lb:=zA xW b.legs;have lc:=zA xW c.legs;refine eM call129 λF hF=>?_
 refine zV kc ?_;refine wM 4 [1001,1101,1102,1103] [13,11,12,1,5] Z ?_;refine yE (st0:=⟨[(13,iA 0),(11,.ref 1001 0 3),(12,iA 3),(1,iA now),(5,.ref 1001 0 3)],[(1001,.arr 5 [qF a 1101,qF b 1102,qF c 1103] ⟨true,true⟩),(1101,fE a now 0),(1102,fE b now 0),(1103,fE c now 0)]⟩) Z ?_;unfold fE;refine WW ?_;refine yM (a.legs) [1101,7,1001,1102,1103] [7,1001,1102,1103] [1,5,7,11,12,13,19] [20,1,5,7,11,12,13,19] Z (λi pre T U=>⟨(20,iA i)::T,(1101,.arr 5 ((eE a.legs now i).map xW) false)::U⟩) ?_;(conv=>whnf);refine⟨by rfl,?_,?_⟩
 ·intro k pre g post hx hk;have hlt:=yP hx hk;have hy:=cZ now hx hk;have hs:=fD now hx hk;have hyl:((eE a.legs now k).map xW).length=a.legs.length:=by rw[yAe,fC]
  have hset:∀y:AV,(((eE a.legs now k).map xW).set k y)[k]? =some y:=λy=>yB5 zB
  have cw:=gX g now;rw[hs];clear hx hs;generalize (eE a.legs now k).map xW=ys at *;generalize ZT g now=g2 at*
  (have zc1:=cw;(repeat' (first|refine uP ?_|apply xM|apply xZ|intro hc|fail))<;>clear zc1)
  rfl
 refine WW ?_;refine yE (st0:=⟨[(13,iA 1),(11,.ref 1001 0 3),(12,iA 3),(1,iA now),(5,.ref 1001 0 3)],[(1001,.arr 5 [qF a 1101,qF b 1102,qF c 1103] ⟨true,true⟩),(1101,fE a now a.legs.length),(1102,fE b now 0),(1103,fE c now 0)]⟩) Z ?_;unfold fE;refine WW ?_;refine yM (b.legs) [1102,7,1001,1101,1103] [7,1001,1101,1103] [1,5,7,11,12,13,19] [20,1,5,7,11,12,13,19] Z (λi pre T U=>⟨(20,iA i)::T,(1102,.arr 5 ((eE b.legs now i).map xW) false)::U⟩) ?_;(conv=>whnf);refine⟨by rfl,?_,?_⟩
 ·intro k pre g post hx hk;have hlt:=yP hx hk;have hy:=cZ now hx hk;have hs:=fD now hx hk;have hyl:((eE b.legs now k).map xW).length=b.legs.length:=by rw[yAe,fC]
  have hset:∀y:AV,(((eE b.legs now k).map xW).set k y)[k]? =some y:=λy=>yB5 zB
  have cw:=gX g now;rw[hs];clear hx hs;generalize (eE b.legs now k).map xW=ys at *;generalize ZT g now=g2 at*
  (have zc1:=cw;(repeat' (first|refine uP ?_|apply xM|apply xZ|intro hc|fail))<;>clear zc1)
  rfl
 refine WW ?_;refine yE (st0:=⟨[(13,iA 2),(11,.ref 1001 0 3),(12,iA 3),(1,iA now),(5,.ref 1001 0 3)],[(1001,.arr 5 [qF a 1101,qF b 1102,qF c 1103] ⟨true,true⟩),(1101,fE a now a.legs.length),(1102,fE b now b.legs.length),(1103,fE c now 0)]⟩) Z ?_;unfold fE;refine WW ?_;refine yM (c.legs) [1103,7,1001,1101,1102] [7,1001,1101,1102] [1,5,7,11,12,13,19] [20,1,5,7,11,12,13,19] Z (λi pre T U=>⟨(20,iA i)::T,(1103,.arr 5 ((eE c.legs now i).map xW) false)::U⟩) ?_;(conv=>whnf);refine⟨by rfl,?_,?_⟩
 ·intro k pre g post hx hk;have hlt:=yP hx hk;have hy:=cZ now hx hk;have hs:=fD now hx hk;have hyl:((eE c.legs now k).map xW).length=c.legs.length:=by rw[yAe,fC]
  have hset:∀y:AV,(((eE c.legs now k).map xW).set k y)[k]? =some y:=λy=>yB5 zB
  have cw:=gX g now;rw[hs];clear hx hs;generalize (eE c.legs now k).map xW=ys at *;generalize ZT g now=g2 at*
  (have zc1:=cw;(repeat' (first|refine uP ?_|apply xM|apply xZ|intro hc|fail))<;>clear zc1)
  rfl
 refine WW ?_;refine yE (st0:=⟨[(13,iA 3),(11,.ref 1001 0 3),(12,iA 3),(1,iA now),(5,.ref 1001 0 3)],[(1001,.arr 5 [qF a 1101,qF b 1102,qF c 1103] ⟨true,true⟩),(1101,fE a now a.legs.length),(1102,fE b now b.legs.length),(1103,fE c now c.legs.length)]⟩) Z ?_;unfold fE;simp only[OJ];refine WW ?_;refine zH [] Z Z ?_ Z
 show AV.sl false [.agg [iA a.id,iA a.vh,iA a.cls,iA a.til,.sl false (List.take (a.legs.map xW).length (List.drop 0 ((a.legs.map λg=>ZT g now).map xW)))],.agg [iA b.id,iA b.vh,iA b.cls,iA b.til,.sl false (List.take (b.legs.map xW).length (List.drop 0 ((b.legs.map λg=>ZT g now).map xW)))],.agg [iA c.id,iA c.vh,iA c.cls,iA c.til,.sl false (List.take (c.legs.map xW).length (List.drop 0 ((c.legs.map λg=>ZT g now).map xW)))]]=_
 simp only[tkM];rfl
theorem zQ9 (a b c d:Rq) (ha:1<=a.legs.length) (ga:a.legs.length<=1000) (hb:1<=b.legs.length) (gb:b.legs.length<=1000) (hc:1<=c.legs.length) (gc:c.legs.length<=1000) (hd:1<=d.legs.length) (gd:d.legs.length<=1000) (now:Int):zN 129 [zC yL [a,b,c,d],iA now] [] (zC yL (mkQ [a,b,c,d] now)) []:=by
 have kc:=ER a b c d ha ga hb gb hc gc hd gd;have la:=zA xW a.legs;have lb:=zA xW b.legs;have lc:=zA xW c.legs;have ld:=zA xW d.legs;refine eM call129 λF hF=>?_
 refine zV kc ?_;refine wM 5 [1001,1101,1102,1103,1104] [13,11,12,1,5] Z ?_;refine yE (st0:=⟨[(13,iA 0),(11,.ref 1001 0 4),(12,iA 4),(1,iA now),(5,.ref 1001 0 4)],[(1001,.arr 5 [qF a 1101,qF b 1102,qF c 1103,qF d 1104] ⟨true,true⟩),(1101,fE a now 0),(1102,fE b now 0),(1103,fE c now 0),(1104,fE d now 0)]⟩) Z ?_;unfold fE;refine WW ?_;refine yM (a.legs) [1101,7,1001,1102,1103,1104] [7,1001,1102,1103,1104] [1,5,7,11,12,13,19] [20,1,5,7,11,12,13,19] Z (λi pre T U=>⟨(20,iA i)::T,(1101,.arr 5 ((eE a.legs now i).map xW) false)::U⟩) ?_;(conv=>whnf);refine⟨by rfl,?_,?_⟩
 ·intro k pre g post hx hk;have hlt:=yP hx hk;have hy:=cZ now hx hk;have hs:=fD now hx hk;have hyl:((eE a.legs now k).map xW).length=a.legs.length:=by rw[yAe,fC]
  have hset:∀y:AV,(((eE a.legs now k).map xW).set k y)[k]? =some y:=λy=>yB5 zB
  have cw:=gX g now;rw[hs];clear hx hs;generalize (eE a.legs now k).map xW=ys at *;generalize ZT g now=g2 at*
  (have zc1:=cw;(repeat' (first|refine uP ?_|apply xM|apply xZ|intro hc|fail))<;>clear zc1)
  rfl
 refine WW ?_;refine yE (st0:=⟨[(13,iA 1),(11,.ref 1001 0 4),(12,iA 4),(1,iA now),(5,.ref 1001 0 4)],[(1001,.arr 5 [qF a 1101,qF b 1102,qF c 1103,qF d 1104] ⟨true,true⟩),(1101,fE a now a.legs.length),(1102,fE b now 0),(1103,fE c now 0),(1104,fE d now 0)]⟩) Z ?_;unfold fE;refine WW ?_;refine yM (b.legs) [1102,7,1001,1101,1103,1104] [7,1001,1101,1103,1104] [1,5,7,11,12,13,19] [20,1,5,7,11,12,13,19] Z (λi pre T U=>⟨(20,iA i)::T,(1102,.arr 5 ((eE b.legs now i).map xW) false)::U⟩) ?_;(conv=>whnf);refine⟨by rfl,?_,?_⟩
 ·intro k pre g post hx hk;have hlt:=yP hx hk;have hy:=cZ now hx hk;have hs:=fD now hx hk;have hyl:((eE b.legs now k).map xW).length=b.legs.length:=by rw[yAe,fC]
  have hset:∀y:AV,(((eE b.legs now k).map xW).set k y)[k]? =some y:=λy=>yB5 zB
  have cw:=gX g now;rw[hs];clear hx hs;generalize (eE b.legs now k).map xW=ys at *;generalize ZT g now=g2 at*
  (have zc1:=cw;(repeat' (first|refine uP ?_|apply xM|apply xZ|intro hc|fail))<;>clear zc1)
  rfl
 refine WW ?_;refine yE (st0:=⟨[(13,iA 2),(11,.ref 1001 0 4),(12,iA 4),(1,iA now),(5,.ref 1001 0 4)],[(1001,.arr 5 [qF a 1101,qF b 1102,qF c 1103,qF d 1104] ⟨true,true⟩),(1101,fE a now a.legs.length),(1102,fE b now b.legs.length),(1103,fE c now 0),(1104,fE d now 0)]⟩) Z ?_;unfold fE;refine WW ?_;refine yM (c.legs) [1103,7,1001,1101,1102,1104] [7,1001,1101,1102,1104] [1,5,7,11,12,13,19] [20,1,5,7,11,12,13,19] Z (λi pre T U=>⟨(20,iA i)::T,(1103,.arr 5 ((eE c.legs now i).map xW) false)::U⟩) ?_;(conv=>whnf);refine⟨by rfl,?_,?_⟩
 ·intro k pre g post hx hk;have hlt:=yP hx hk;have hy:=cZ now hx hk;have hs:=fD now hx hk;have hyl:((eE c.legs now k).map xW).length=c.legs.length:=by rw[yAe,fC]
  have hset:∀y:AV,(((eE c.legs now k).map xW).set k y)[k]? =some y:=λy=>yB5 zB
  have cw:=gX g now;rw[hs];clear hx hs;generalize (eE c.legs now k).map xW=ys at *;generalize ZT g now=g2 at*
  (have zc1:=cw;(repeat' (first|refine uP ?_|apply xM|apply xZ|intro hc|fail))<;>clear zc1)
  rfl
 refine WW ?_;refine yE (st0:=⟨[(13,iA 3),(11,.ref 1001 0 4),(12,iA 4),(1,iA now),(5,.ref 1001 0 4)],[(1001,.arr 5 [qF a 1101,qF b 1102,qF c 1103,qF d 1104] ⟨true,true⟩),(1101,fE a now a.legs.length),(1102,fE b now b.legs.length),(1103,fE c now c.legs.length),(1104,fE d now 0)]⟩) Z ?_;unfold fE;refine WW ?_;refine yM (d.legs) [1104,7,1001,1101,1102,1103] [7,1001,1101,1102,1103] [1,5,7,11,12,13,19] [20,1,5,7,11,12,13,19] Z (λi pre T U=>⟨(20,iA i)::T,(1104,.arr 5 ((eE d.legs now i).map xW) false)::U⟩) ?_;(conv=>whnf);refine⟨by rfl,?_,?_⟩
 ·intro k pre g post hx hk;have hlt:=yP hx hk;have hy:=cZ now hx hk;have hs:=fD now hx hk;have hyl:((eE d.legs now k).map xW).length=d.legs.length:=by rw[yAe,fC]
  have hset:∀y:AV,(((eE d.legs now k).map xW).set k y)[k]? =some y:=λy=>yB5 zB
  have cw:=gX g now;rw[hs];clear hx hs;generalize (eE d.legs now k).map xW=ys at *;generalize ZT g now=g2 at*
  (have zc1:=cw;(repeat' (first|refine uP ?_|apply xM|apply xZ|intro hc|fail))<;>clear zc1)
  rfl
 refine WW ?_;refine yE (st0:=⟨[(13,iA 4),(11,.ref 1001 0 4),(12,iA 4),(1,iA now),(5,.ref 1001 0 4)],[(1001,.arr 5 [qF a 1101,qF b 1102,qF c 1103,qF d 1104] ⟨true,true⟩),(1101,fE a now a.legs.length),(1102,fE b now b.legs.length),(1103,fE c now c.legs.length),(1104,fE d now d.legs.length)]⟩) Z ?_;unfold fE;simp only[OJ];refine WW ?_;refine zH [] Z Z ?_ Z
 show AV.sl false [.agg [iA a.id,iA a.vh,iA a.cls,iA a.til,.sl false (List.take (a.legs.map xW).length (List.drop 0 ((a.legs.map λg=>ZT g now).map xW)))],.agg [iA b.id,iA b.vh,iA b.cls,iA b.til,.sl false (List.take (b.legs.map xW).length (List.drop 0 ((b.legs.map λg=>ZT g now).map xW)))],.agg [iA c.id,iA c.vh,iA c.cls,iA c.til,.sl false (List.take (c.legs.map xW).length (List.drop 0 ((c.legs.map λg=>ZT g now).map xW)))],.agg [iA d.id,iA d.vh,iA d.cls,iA d.til,.sl false (List.take (d.legs.map xW).length (List.drop 0 ((d.legs.map λg=>ZT g now).map xW)))]]=_
 simp only[tkM];rfl
def zB1 (l:List Rq) (now:Int) (hv:ZL l):zN 129 [zC yL l,iA now] [] (zC yL (mkQ l now)) []:=by
 have h4:=hv.n4;have hb:∀r∈l,1<=r.legs.length/\r.legs.length<=1000:=λr hr=>by have:=hv.lg3 hr;omega
 match l,h4,hb with
 | [],_,_=>
  have kc:=UP;refine eM call129 λF hF=>?_
  refine zV kc ?_;refine wM 1 [] [13,11,12,1,5] Z ?_;refine yE (st0:=⟨[(13,iA 0),(11,.s (.slice none 0 0)),(12,iA 0),(1,iA now),(5,.s (.slice none 0 0))],[]⟩) Z ?_;refine WW ?_;exact zJ
 | [a],_,hb=>exact zQ6 a (hb a zS).1 (hb a zS).2 now
 | [a,b],_,hb=>exact zQ7 a b (hb a zS).1 (hb a zS).2 (hb b zS).1 (hb b zS).2 now
 | [a,b,c],_,hb=>exact zQ8 a b c (hb a zS).1 (hb a zS).2 (hb b zS).1 (hb b zS).2 (hb c zS).1 (hb c zS).2 now
 | [a,b,c,d],_,hb=>exact zQ9 a b c d (hb a zS).1 (hb a zS).2 (hb b zS).1 (hb b zS).2 (hb c zS).1 (hb c zS).2 (hb d zS).1 (hb d zS).2 now
 |_::_::_::_::_::_,h,_=>simp at h
def zL4 (g:Lg) (now:Int) (n0:0<=now) (n1:now<=1073741824):(ZT g now).jn=g.jn/\(ZT g now).ph=g.ph/\(HB g=true->HB (ZT g now)=true):=by
 unfold ZT;split
 ·split
  ·refine⟨rfl,rfl,λh=>?_⟩;unfold HB at *;rw[yAm]at *; dsimp only;omega
  ·exact⟨rfl,rfl,id⟩
 ·refine⟨rfl,rfl,λh=>?_⟩;unfold HB at *;rw[yAm]at *; dsimp only;omega
theorem zEe {now:Int} (n0:0<=now) (n1:now<=1073741824):∀(gs pre pre':List Lg),pre'.map (·.jn)=pre.map (·.jn)->eI pre gs=true->eI pre' (gs.map λg=>ZT g now)=true
 | [],_,_,_,_=>rfl
 |x::post,pre,pre',hp,h=>by
  obtain⟨e1,_,e3⟩:=zL4 x now n0 n1;have ha:∀(l:List Lg),(l.any λy=>y.jn==x.jn)=(l.map (·.jn)).any λn=>n==x.jn:=λl=>by rw[List.any_map];rfl
  rw[eI,yAs,yAs]at h;rw[yBs,eI,e3 h.1,e1,ha,hp,<-ha,h.2.1,yA3,yA3];exact zEe n0 n1 post (pre++[x]) (pre'++[ZT x now]) (by rw[yAn,yAn,hp];simp[e1]) h.2.2
def zX9 {l:List Rq} (hv:ZL l) (now:Int) (n0:0<=now) (n1:now<=1073741824):ZL (mkQ l now):=by
 refine⟨λr hr=>?_,?_,by unfold mkQ;rw[yAe];exact hv.n4⟩
 ·obtain⟨x,hx,rfl⟩:=yBl.1 hr;have h:=hv.ok x hx;refine⟨h.i0,h.i1,h.v0,h.v1,h.c0,h.c1,h.t0,h.t1,?_⟩;have h1:=h.lg;rw[vgF,yAs]at h1;unfold vgF mkR;dsimp only;rw[yAs,yAe];exact⟨h1.1,zEe n0 n1 x.legs [] [] Z h1.2⟩
 ·unfold mkQ;rw[List.pairwise_map];exact hv.so
def prA (p:Int×Int):AV:= .agg [iA p.1,iA p.2]
def qH (n:Int):List (Int×Int):=if n=0 then [(0,0),(0,0)]else if n=1 then [(0,0),(1,0),(0,1),(1,1)]else if n=2 then [(0,0),(1,0),(0,0)]
 else if n=3 then [(0,0),(0,0),(1,0),(1,0),(0,1),(0,1),(1,1),(1,1)]else if n=4 then [(1,0),(0,1),(0,2)]else [(0,0)]
def zL5 (n:Int):zN 75 [iA n] [] (zC prA (qH n)) []:=by
 by_cases h0:n=0
 ·subst h0;refine eM call75 λF hF=>?_
  (repeat' (first|refine ZK ?_|refine xM (λhc=>?_) λhc=>?_|fail))
  exact zJ
 by_cases h1:n=1
 ·subst h1;refine eM call75 λF hF=>?_
  (repeat' (first|refine ZK ?_|refine xM (λhc=>?_) λhc=>?_|fail))
  exact zJ
 by_cases h2:n=2
 ·subst h2;refine eM call75 λF hF=>?_
  (repeat' (first|refine ZK ?_|refine xM (λhc=>?_) λhc=>?_|fail))
  exact zJ
 by_cases h3:n=3
 ·subst h3;refine eM call75 λF hF=>?_
  (repeat' (first|refine ZK ?_|refine xM (λhc=>?_) λhc=>?_|fail))
  exact zJ
 by_cases h4:n=4
 ·subst h4;refine eM call75 λF hF=>?_
  (repeat' (first|refine ZK ?_|refine xM (λhc=>?_) λhc=>?_|fail))
  exact zJ
 rw[show qH n=[(0,0)] by simp[qH,h0,h1,h2,h3,h4]];refine eM call75 λF hF=>?_
 (repeat' (first|refine ZK ?_|refine xM (λhc=>?_) λhc=>?_|fail))
 exact zJ
instance:Inhabited (Int×Int):=⟨(0,0)⟩
def RC (d:Dk) (s:Int×Int):Ph:=
 if nx (ad (ad (ad d))) 3=2 then⟨s.1,s.2,1+nx d (3-1+1),max (1+nx d (3-1+1)) (1+nx (ad (ad (ad (ad d)))) (2-1+1)+(1+nx (ad (ad (ad (ad (ad d))))) (2-1+1)))+nx (ad (ad (ad (ad (ad (ad d)))))) 4,1+nx (ad d) (2-1+1),nx (ad (ad d)) 3,1+nx (ad (ad (ad (ad d)))) (2-1+1),1+nx (ad (ad (ad (ad (ad d))))) (2-1+1)⟩
 else⟨s.1,s.2,1+nx d (3-1+1),max (1+nx d (3-1+1)) (0+0)+nx (ad (ad (ad (ad d)))) 4,1+nx (ad d) (2-1+1),nx (ad (ad d)) 3,0,0⟩
def phD (d:Dk):Dk:=if nx (ad (ad (ad d))) 3=2 then ad (ad (ad (ad (ad (ad (ad d))))))else ad (ad (ad (ad (ad d))))
def JK (d:Dk) (l:List (Int×Int)):Nat->List Ph×Dk
 |0=>([],d)
 |i+1=>((JK d l i).1++[RC (JK d l i).2 (l.getD i default)],phD (JK d l i).2)
theorem SE (d:Dk) (l:List (Int×Int)):∀i,(JK d l i).1.length=i
 |0=>rfl
 |i+1=>by simp[JK,SE d l i]
def cnd (ps:List Ph) (ex:Bool) (i k:Nat):Bool:=i != k&&((ps.getD i default).ring==(ps.getD k default).ring||(ps.getD i default).group != (ps.getD k default).group||ex&&((i:Int)+k).tmod 2==1)
def XV (ps:List Ph) (ex:Bool) (i:Nat):Nat->Int
 |0=>0
 |k+1=>if cnd ps ex i k=true then XV ps ex i k+2 ^ k else XV ps ex i k
theorem OK (ps:List Ph) (ex:Bool) (i:Nat):∀k,0<=XV ps ex i k/\XV ps ex i k<2 ^ k
 |0=>by simp[XV]
 |k+1=>by
  have:=OK ps ex i k;have e:(2:Int) ^ (k+1)=2 ^ k*2:=yFr 2 k;unfold XV
  split<;>omega
def gM (ps:List Ph) (ex:Bool) (n:Nat):List Int:=(List.range n).map λi=>XV ps ex i ps.length
def VU (d:Dk):List Ph×Dk:=JK (ad (ad d)) (qH (nx d 6)) (qH (nx d 6)).length
def jnF (d:Dk):Jn:=⟨(VU d).1,gM (VU d).1 (nx (VU d).2 4==3) (VU d).1.length,nx (ad d) 3⟩
def jnD (d:Dk):Dk:=ad (VU d).2
def MN (n:Int):1<=(qH n).length/\(qH n).length<=8:=by
 unfold qH
 (repeat' split)<;>simp
def zZx (k:Nat) (h:k<8):IntKind.i64.wrap (1*2 ^ (min ((k:Int)).toNat IntKind.i64.bits))=2 ^ k/\(2:Int) ^ k<=128:=by
 obtain rfl|rfl|rfl|rfl|rfl|rfl|rfl|rfl:k=0∨k=1∨k=2∨k=3∨k=4∨k=5∨k=6∨k=7:=by omega
 all_goals decide
theorem zB2 (d:Dk):zN 42 [.ptr 1000 0 0] [(1000,cT d)] (wC (jnF d)) [(1000,cT (jnD d))]:=by
 have hb:=yD d 6 zB;have hsl:=MN (nx d 6);have sc:=zL5 (nx d 6);have ej:jnF d=⟨(VU d).1,gM (VU d).1 (nx (VU d).2 4==3) (VU d).1.length,nx (ad d) 3⟩:=rfl;have ed:jnD d=ad (VU d).2:=rfl;have ep:VU d=JK (ad (ad d)) (qH (nx d 6)) (qH (nx d 6)).length:=rfl;rw[ej,ed];generalize VU d=jp at *;generalize qH (nx d 6)=l at *;have hll:(l.map prA).length=l.length:=by simp
 refine eM call42 λF hF=>?_
 (repeat' (first|refine ZK ?_|refine xM (λhc=>?_) λhc=>?_|(refine zE ?_;refine xT ?_;(first|(refine vR 75 ?_;first|refine yJ (zI (sc) Z Z Z Z Z) Z ?_|refine uT (zI (sc) Z Z Z Z Z) Z Z Z ?_|refine XF (zI (sc) Z Z Z Z Z) Z Z Z ?_)|(refine vR 15 ?_;first|refine yJ (zI (yH _ _ zB zB) Z Z Z Z Z) Z ?_|refine uT (zI (yH _ _ zB zB) Z Z Z Z Z) Z Z Z ?_|refine XF (zI (yH _ _ zB zB) Z Z Z Z Z) Z Z Z ?_)))|fail))
 refine vW 4 0 1001 8 Z Z Z Z Z ?_
 refine vB (λn st=>∃i:Nat,n+i=l.length/\st=⟨[(0,.ptr 1000 0 0),(2,.ptr 2 0 0),(4,.ptr 4 0 0),(20,zC prA l),(21,iA l.length),(22,iA i)],
   [(1000,cT (JK (ad (ad d)) l i).2),(2,.box [.s (.slice none 0 0),.s (.slice none 0 0),iA 0]),(4,.box [.ref 1001 0 ((JK (ad (ad d)) l i).1.map vE).length,.s (.slice none 0 0),iA (nx (ad d) 3)]),(1001,.arr 8 ((JK (ad (ad d)) l i).1.map vE) true)]⟩)
  l.length [1000,2,4,1001] [0,2,4,20,21,22] Z ⟨0,rfl,by rw[<-hll];rfl⟩ ?_
 rintro n st ⟨i,hi,rfl⟩;by_cases hlt:i<l.length
 ·have hy:=yN prA l i zB zB;rw[show((i:Int)).toNat=i from Z]at hy;have hm:(JK (ad (ad d)) l (i+1)).1.map vE=(JK (ad (ad d)) l i).1.map vE++[vE (RC (JK (ad (ad d)) l i).2 (l.getD i default))]:=yAn;have hd:(JK (ad (ad d)) l (i+1)).2=phD (JK (ad (ad d)) l i).2:=rfl;have hle:=SE (ad (ad d)) l i;generalize l.getD i default=p at *;obtain⟨p1,p2⟩:=p;generalize hq':JK (ad (ad d)) l (i+1)=q' at hm hd;generalize JK (ad (ad d)) l i=q at *;obtain⟨ql,qd⟩:=q;dsimp only at hm hd hle⊢;have b0:=yD qd (3-1+1) zB;have b1:=yD (ad (ad (ad (ad qd)))) 4 zB;have b2:=yD (ad (ad (ad (ad qd)))) (2-1+1) zB;have b3:=yD (ad (ad (ad (ad (ad qd))))) (2-1+1) zB;have b4:=yD (ad (ad (ad (ad (ad (ad qd)))))) 4 zB;by_cases hz:nx (ad (ad (ad qd))) 3=2
  ·rw[show RC qd (p1,p2)=⟨p1,p2,1+nx qd (3-1+1),max (1+nx qd (3-1+1)) (1+nx (ad (ad (ad (ad qd)))) (2-1+1)+(1+nx (ad (ad (ad (ad (ad qd))))) (2-1+1)))+nx (ad (ad (ad (ad (ad (ad qd)))))) 4,1+nx (ad qd) (2-1+1),nx (ad (ad qd)) 3,1+nx (ad (ad (ad (ad qd)))) (2-1+1),1+nx (ad (ad (ad (ad (ad qd))))) (2-1+1)⟩ by unfold RC;rw[yAd hz]]at hm;rw[show phD qd=ad (ad (ad (ad (ad (ad (ad qd)))))) by unfold phD;rw[yAd hz]]at hd
   (repeat' (first|refine ZK ?_|refine xM (λhc=>?_) λhc=>?_|(refine zE ?_;refine xT ?_;(first|(refine vR 41 ?_;first|refine yJ (zI (kW _ _ _ zB zB zB) Z Z Z Z Z) Z ?_|refine uT (zI (kW _ _ _ zB zB zB) Z Z Z Z Z) Z Z Z ?_|refine XF (zI (kW _ _ _ zB zB zB) Z Z Z Z Z) Z Z Z ?_)|(refine vR 15 ?_;first|refine yJ (zI (yH _ _ zB zB) Z Z Z Z Z) Z ?_|refine uT (zI (yH _ _ zB zB) Z Z Z Z Z) Z Z Z ?_|refine XF (zI (yH _ _ zB zB) Z Z Z Z Z) Z Z Z ?_)))|fail))
   exact⟨n-1,zB,i+1,zB,by rw[hq',hm,hd];rfl⟩
  ·rw[show RC qd (p1,p2)=⟨p1,p2,1+nx qd (3-1+1),max (1+nx qd (3-1+1)) (0+0)+nx (ad (ad (ad (ad qd)))) 4,1+nx (ad qd) (2-1+1),nx (ad (ad qd)) 3,0,0⟩ by unfold RC;rw[yAc hz]]at hm;rw[show phD qd=ad (ad (ad (ad (ad qd)))) by unfold phD;rw[yAc hz]]at hd
   (repeat' (first|refine ZK ?_|refine xM (λhc=>?_) λhc=>?_|(refine zE ?_;refine xT ?_;(first|(refine vR 41 ?_;first|refine yJ (zI (kW _ _ _ zB zB zB) Z Z Z Z Z) Z ?_|refine uT (zI (kW _ _ _ zB zB zB) Z Z Z Z Z) Z Z Z ?_|refine XF (zI (kW _ _ _ zB zB zB) Z Z Z Z Z) Z Z Z ?_)|(refine vR 15 ?_;first|refine yJ (zI (yH _ _ zB zB) Z Z Z Z Z) Z ?_|refine uT (zI (yH _ _ zB zB) Z Z Z Z Z) Z Z Z ?_|refine XF (zI (yH _ _ zB zB) Z Z Z Z Z) Z Z Z ?_)))|fail))
   exact⟨n-1,zB,i+1,zB,by rw[hq',hm,hd];rfl⟩
 obtain rfl:i=l.length:=by omega
 have hpl:jp.1.length=l.length:=by rw[ep];exact SE _ _ _
 rw[<-ep];clear ep ej ed sc hll hi hlt;obtain⟨ps,dj⟩:=jp;dsimp only at hpl⊢;have hlp:(ps.map vE).length=ps.length:=by simp
 generalize nx (ad d) 3=js
 (repeat' (first|refine ZK ?_|refine xM (λhc=>?_) λhc=>?_|(refine zE ?_;refine xT ?_;(first|(refine vR 15 ?_;first|refine yJ (zI (yH _ _ zB zB) Z Z Z Z Z) Z ?_|refine uT (zI (yH _ _ zB zB) Z Z Z Z Z) Z Z Z ?_|refine XF (zI (yH _ _ zB zB) Z Z Z Z Z) Z Z Z ?_)))|fail))
 generalize nx dj 4=n4
 refine jS (st':=⟨[(0,.ptr 1000 0 0),(2,.ptr 2 0 0),(4,.ptr 4 0 0),(8,bA (n4==3)),(69,zC vE ps),(70,iA ps.length),(71,iA 0)],
   [(1000,cT (ad dj)),(2,.box [.s (.slice none 0 0),.s (.slice none 0 0),iA 0]),(4,.box [zC vE ps,.s (.slice none 0 0),iA js])]⟩) [1000,2,4] [0,2,4,8,69,70,71] Z (by
  have e1:zC vE ps= .sl false (List.take (ps.map vE).length (List.drop 0 (ps.map vE))):=by
   rw[yBf,yAh];rfl
  rw[e1,<-hlp]
  rfl) ?_
 generalize (n4==3)=ex;generalize ad dj=dk;refine vW 4 1 1002 1 Z Z Z Z Z ?_
 refine vB (λn st=>∃i:Nat,n+i=ps.length/\st=⟨[(0,.ptr 1000 0 0),(2,.ptr 2 0 0),(4,.ptr 4 0 0),(8,bA ex),(69,zC vE ps),(70,iA ps.length),(71,iA i)],
   [(1000,cT dk),(2,.box [.s (.slice none 0 0),.s (.slice none 0 0),iA 0]),(4,.box [zC vE ps,.ref 1002 0 ((gM ps ex i).map iA).length,iA js]),(1002,.arr 1 ((gM ps ex i).map iA) true)]⟩)
  ps.length [1000,2,4,1002] [0,2,4,8,69,70,71] Z ⟨0,rfl,rfl⟩ ?_
 clear n;rintro n st ⟨i,hi,rfl⟩;by_cases hlt:i<ps.length
 ·have hy:=yN vE ps i zB zB;rw[show((i:Int)).toNat=i from Z]at hy;have ht:(gM ps ex (i+1)).map iA=(gM ps ex i).map iA++[iA (XV ps ex i ps.length)]:=by unfold gM;rw[yCx];simp
  have hrl:(gM ps ex i).length=i:=by simp[gM]
  obtain⟨p,hp⟩:∃p,ps.getD i default=p:=⟨_,rfl⟩;rw[hp]at hy;obtain⟨rows,hrows⟩:∃r,gM ps ex i=r:=⟨_,rfl⟩;rw[hrows]at ht hrl⊢
  (repeat' (first|refine ZK ?_|refine xM (λhc=>?_) λhc=>?_|fail))
  refine vB (λn st=>∃k:Nat,n+k=ps.length/\st=⟨[(0,.ptr 1000 0 0),(2,.ptr 2 0 0),(4,.ptr 4 0 0),(8,bA ex),(9,iA i),(10,.ptr 10 0 0),(11,iA (XV ps ex i k)),(69,zC vE ps),(70,iA ps.length),(71,iA i),(77,zC vE ps),(78,iA ps.length),(79,iA k)],
    [(1000,cT dk),(2,.box [.s (.slice none 0 0),.s (.slice none 0 0),iA 0]),(4,.box [zC vE ps,.ref 1002 0 (rows.map iA).length,iA js]),(10,.box [iA p.ring,iA p.group,iA p.ming,iA p.maxg,iA p.yel,iA p.red,iA p.walk,iA p.clear]),(1002,.arr 1 (rows.map iA) true)]⟩)
   ps.length [1000,2,4,10,1002] [0,2,4,8,9,10,11,69,70,71,77,78,79] Z ⟨0,rfl,by rw[<-hlp];rfl⟩ ?_
  rintro n2 st ⟨k,hk,rfl⟩;by_cases hlt2:k<ps.length
  ·have hy2:=yN vE ps k zB zB;rw[show((k:Int)).toNat=k from Z]at hy2
   have hn:XV ps ex i (k+1)=if cnd ps ex i k=true then XV ps ex i k+2 ^ k else XV ps ex i k:=rfl
   have hc:cnd ps ex i k=(i != k&&(p.ring==(ps.getD k default).ring||p.group != (ps.getD k default).group||ex&&((i:Int)+k).tmod 2==1)):=by rw[<-hp];rfl
   obtain⟨hw,hw2⟩:=zZx k zB;obtain⟨hr0,hr1⟩:=OK ps ex i k;have hr2:0<=(2:Int) ^ k:=by omega
   rw[show(2:Int) ^ k=p2 k from Z]at hn hr1 hr2 hw2;clear hw;generalize ps.getD k default=q at *;by_cases h0:i=k
   ·rw[yAc (by rw[hc];simp[h0])]at hn;clear hc;subst h0
    (repeat' (first|refine ZK ?_|refine xM (λhc=>?_) λhc=>?_|fail))
    exact⟨n2-1,zB,i+1,zB,by rw[hn];rfl⟩
   by_cases h1:p.ring=q.ring
   ·rw[yAd (by rw[hc];simp[h0,h1])]at hn;clear hc
    (repeat' (first|refine ZK ?_|refine xM (λhc=>?_) λhc=>?_|fail))
    exact⟨n2-1,zB,k+1,zB,by rw[hn];rfl⟩
   by_cases h2:p.group=q.group
   ·cases ex with
    |false=>
     rw[yAc (by rw[hc];simp[h0,h1,h2])]at hn;clear hc
     (repeat' (first|refine ZK ?_|refine xM (λhc=>?_) λhc=>?_|fail))
     exact⟨n2-1,zB,k+1,zB,by rw[hn];rfl⟩
    | true=>
     by_cases h3:((i:Int)+k).tmod 2=1
     ·rw[yAd (by rw[hc];simp[h0,h1,h2,h3])]at hn;clear hc
      (repeat' (first|refine ZK ?_|refine xM (λhc=>?_) λhc=>?_|fail))
      exact⟨n2-1,zB,k+1,zB,by rw[hn];rfl⟩
     ·rw[yAc (by rw[hc];simp[h0,h1,h2,h3])]at hn;clear hc
      (repeat' (first|refine ZK ?_|refine xM (λhc=>?_) λhc=>?_|fail))
      exact⟨n2-1,zB,k+1,zB,by rw[hn];rfl⟩
   ·rw[yAd (by rw[hc];simp[h0,h1,h2])]at hn;clear hc
    (repeat' (first|refine ZK ?_|refine xM (λhc=>?_) λhc=>?_|fail))
    exact⟨n2-1,zB,k+1,zB,by rw[hn];rfl⟩
  ·obtain rfl:k=ps.length:=by omega
   have hr:=OK ps ex i ps.length
   (repeat' (first|refine ZK ?_|refine xM (λhc=>?_) λhc=>?_|fail))
   exact⟨n-1,zB,i+1,zB,by rw[ht];rfl⟩
 obtain rfl:i=ps.length:=by omega
 (repeat' (first|refine ZK ?_|refine xM (λhc=>?_) λhc=>?_|fail))
 exact zK [1000] Z Z (yBa (λx=>AV.agg [zC vE ps,AV.sl false x,iA js]) yAh) Z
def ad4 (d:Dk):Dk:=ad (ad (ad (ad d)))
def LD (d:Dk):Nat->List Jn×Dk
 |0=>([],d)
 |i+1=>((LD d i).1++[jnF (LD d i).2],jnD (LD d i).2)
def VV (d:Dk) (rights:Int):Nat->List Ag×Dk
 |0=>([],d)
 |i+1=>((VV d rights i).1++[agF (VV d rights i).2 i rights],ad (ad7 (VV d rights i).2))
theorem OL (d:Dk):∀i,(LD d i).1.length=i
 |0=>rfl
 |i+1=>by simp[LD,OL d i]
theorem cR (d:Dk) (rights:Int):∀i,(VV d rights i).1.length=i
 |0=>rfl
 |i+1=>by simp[VV,cR d rights i]
def zWb (d:Dk) (rights:Int) (i:Nat):(VV d rights (i+1)).2=ad (ad7 (VV d rights i).2):=by simp only[VV]
def zL6 (d:Dk) (rights:Int) (i:Nat):(VV d rights (i+1)).1=(VV d rights i).1++[agF (VV d rights i).2 i rights]:=by simp only[VV]
def cfN (d:Dk):Nat:=(1+nx (ad4 d) 2).toNat
def cfJ (d:Dk):List Jn×Dk:=LD (ad (ad4 d)) (cfN d)
def cfM (d:Dk):Nat:=(1+nx (cfJ d).2 3).toNat
def cfG (d:Dk) (rights:Int):List Ag×Dk:=VV (ad (cfJ d).2) rights (cfM d)
def QA (d:Dk) (rights:Int):Cf:=⟨(cfJ d).1,(cfG d rights).1,1+nx d (4-1+1),nx (ad d) 4,1+nx (ad (ad d)) (3-1+1),nx (ad (ad (ad d))) 5⟩
def cfD (d:Dk) (rights:Int):Dk:=(cfG d rights).2
theorem BQ (d:Dk) (rights:Int):zN 12 [.ptr 1000 0 0,iA rights] [(1000,cT d)] (wD (QA d rights)) [(1000,cT (cfD d rights))]:=by
 have hn:=yD (ad4 d) 2 zB;have hm:=yD (cfJ d).2 3 zB;have en:1+nx (ad4 d) 2=(cfN d:Int):=(yEl zB).symm;have em:1+nx (cfJ d).2 3=(cfM d:Int):=(yEl zB).symm;have ej:cfJ d=LD (ad (ad4 d)) (cfN d):=rfl;have eg:cfG d rights=VV (ad (cfJ d).2) rights (cfM d):=rfl;have ef:QA d rights=⟨(cfJ d).1,(cfG d rights).1,1+nx d (4-1+1),nx (ad d) 4,1+nx (ad (ad d)) (3-1+1),nx (ad (ad (ad d))) 5⟩:=rfl;have ed:cfD d rights=(cfG d rights).2:=rfl;rw[ef,ed];unfold ad4 at *;generalize cfJ d=jj at *;generalize cfG d rights=gg at *;generalize cfN d=N at *;generalize cfM d=M at *;have jc:=λi=>zB2 (LD (ad (ad (ad (ad (ad d))))) i).2
 refine eM call12 λF hF=>?_
 (repeat' (first|refine ZK ?_|refine xM (λhc=>?_) λhc=>?_|(refine zE ?_;refine xT ?_;(first|(refine vR 41 ?_;first|refine yJ (zI (kW _ _ _ zB zB zB) Z Z Z Z Z) Z ?_|refine uT (zI (kW _ _ _ zB zB zB) Z Z Z Z Z) Z Z Z ?_|refine XF (zI (kW _ _ _ zB zB zB) Z Z Z Z Z) Z Z Z ?_)|(refine vR 15 ?_;first|refine yJ (zI (yH _ _ zB zB) Z Z Z Z Z) Z ?_|refine uT (zI (yH _ _ zB zB) Z Z Z Z Z) Z Z Z ?_|refine XF (zI (yH _ _ zB zB) Z Z Z Z Z) Z Z Z ?_)))|fail))
 generalize nx d (4-1+1)=c1 at *;generalize nx (ad d) 4=c2 at *;generalize nx (ad (ad d)) (3-1+1)=c3 at *;generalize nx (ad (ad (ad d))) 5=c4 at *;generalize nx (ad (ad (ad (ad d)))) 2=n0 at *;generalize ad (ad (ad (ad (ad d))))=d5 at *;refine vW 5 0 1001 3 Z Z Z Z Z ?_
 refine vB (λn st=>∃i:Nat,n+i=N/\st=⟨[(0,.ptr 1000 0 0),(1,iA rights),(4,.ptr 4 0 0),(5,.ptr 5 0 0),(6,iA (1+n0-i))],
   [(1000,cT (LD d5 i).2),(4,.box [.s (.slice none 0 0),.s (.slice none 0 0),iA 0,iA 0,iA 0,iA 0]),(5,.box [.ref 1001 0 ((LD d5 i).1.map wC).length,.s (.slice none 0 0),iA (1+c1),iA c2,iA (1+c3),iA c4]),(1001,.arr 3 ((LD d5 i).1.map wC) true)]⟩)
  N [1000,4,5,1001] [0,1,4,5,6] Z ⟨0,rfl,by rw[show 1+n0-(0:Nat)=1+n0 by omega];rfl⟩ ?_
 rintro n st ⟨i,hi,rfl⟩;by_cases hlt:i<N
 ·have hm2:(LD d5 (i+1)).1.map wC=(LD d5 i).1.map wC++[wC (jnF (LD d5 i).2)]:=yAn;have hd2:(LD d5 (i+1)).2=jnD (LD d5 i).2:=rfl;have c:=jc i;have hle:=OL d5 i;generalize hq':LD d5 (i+1)=q' at hm2 hd2;generalize LD d5 i=q at *;obtain⟨ql,qd⟩:=q;dsimp only at hm2 hd2 hle c⊢;generalize jnF qd=jf at *;generalize jnD qd=jd at *;refine zV c ?_;exact⟨n-1,zB,i+1,zB,by rw[hq',hm2,hd2,show 1+n0-((i+1:Nat):Int)=1+n0-i-1 by omega];rfl⟩
 obtain rfl:i=N:=by omega
 have hjl:jj.1.length=i:=by rw[ej];exact OL _ _
 rw[<-ej];clear ej jc ef ed;obtain⟨js,dj⟩:=jj;dsimp only at *;have hlp:(js.map wC).length=js.length:=by simp
 have hal:=cR (ad dj) rights M;have ac:=λk (hk:k<M)=>zIr (VV (ad dj) rights k).2 k rights zB zB
 rw[<-eg]at hal
 (repeat' (first|refine ZK ?_|refine xM (λhc=>?_) λhc=>?_|(refine zE ?_;refine xT ?_;(first|(refine vR 15 ?_;first|refine yJ (zI (yH _ _ zB zB) Z Z Z Z Z) Z ?_|refine uT (zI (yH _ _ zB zB) Z Z Z Z Z) Z Z Z ?_|refine XF (zI (yH _ _ zB zB) Z Z Z Z Z) Z Z Z ?_)))|fail))
 generalize nx dj 3=n3 at *;generalize ad dj=dk at*
 refine jS (st':=⟨[(0,.ptr 1000 0 0),(1,iA rights),(4,.ptr 4 0 0),(5,.ptr 5 0 0),(33,iA (1+n3)),(34,iA 0)],
   [(1000,cT dk),(4,.box [.s (.slice none 0 0),.s (.slice none 0 0),iA 0,iA 0,iA 0,iA 0]),(5,.box [zC wC js,.s (.slice none 0 0),iA (1+c1),iA c2,iA (1+c3),iA c4])]⟩) [1000,4,5] [0,1,4,5,33,34] Z (by
  have e1:zC wC js= .sl false (List.take (js.map wC).length (List.drop 0 (js.map wC))):=by
   rw[yBf,yAh];rfl
  rw[e1]
  rfl) ?_
 refine vW 5 1 1002 8 Z Z Z Z Z ?_
 refine vB (λn st=>∃k:Nat,n+k=M/\st=⟨[(0,.ptr 1000 0 0),(1,iA rights),(4,.ptr 4 0 0),(5,.ptr 5 0 0),(33,iA (1+n3)),(34,iA k)],
   [(1000,cT (VV dk rights k).2),(4,.box [.s (.slice none 0 0),.s (.slice none 0 0),iA 0,iA 0,iA 0,iA 0]),(5,.box [zC wC js,.ref 1002 0 ((VV dk rights k).1.map wK).length,iA (1+c1),iA c2,iA (1+c3),iA c4]),(1002,.arr 8 ((VV dk rights k).1.map wK) true)]⟩)
  M [1000,4,5,1002] [0,1,4,5,33,34] Z ⟨0,rfl,rfl⟩ ?_
 clear n hi hlt;rintro n st ⟨k,hk,rfl⟩;by_cases hlt:k<M
 ·have hm2:(VV dk rights (k+1)).1.map wK=(VV dk rights k).1.map wK++[wK (agF (VV dk rights k).2 k rights)]:=by rw[zL6];exact yAn
  have hd2:(VV dk rights (k+1)).2=ad (ad7 (VV dk rights k).2):=zWb dk rights k;have c:=ac k hlt;have hle:=cR dk rights k;clear ac;generalize hq':VV dk rights (k+1)=q' at hm2 hd2;generalize VV dk rights k=q at *;obtain⟨ql,qd⟩:=q;dsimp only at hm2 hd2 hle c⊢;generalize agF qd k rights=jf at *;generalize ad (ad7 qd)=jd at *;refine zV c ?_;exact⟨n-1,zB,k+1,zB,by rw[hq',hm2,hd2];rfl⟩
 obtain rfl:k=M:=by omega
 rw[<-eg];clear eg ac;refine WW ?_;exact zK [1000] Z Z (yBa (λx=>AV.agg [zC wC js,AV.sl false x,iA (1+c1),iA c2,iA (1+c3),iA c4]) yAh) Z
end Av
end Go.Proofs.YteajjdidebfcjaaGreat
