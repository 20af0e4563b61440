/- top: TopNoStarvation. -/
import Derived.Test.YteajjdidebfcjaaGreatN33
namespace Go.Proofs.YteajjdidebfcjaaGreat
namespace Av
set_option linter.all false
set_option maxRecDepth 4000
set_option maxHeartbeats 8000000
theorem starve_c (l1:List Int) (h1:l1.length<=9223372036854775807) (v1:Int) (cm:Bool):zO 7 [zD iA l1,iA v1,bA cm] [] (bA true) []:=by
 have kf:=zY2 l1 h1;have ka:=zHb;have hm1:=zA iA l1
 cases hf:decide (l1.length<=300)<;>rw[hf]at kf
 ·(refine eM Tryz.call7 λF hF=>?_)
  refine WLc (vH kf ka) ?_;exact zJ
 have kn1:=zTg l1 h1;have kc:=DN ⟨l1,0,yBt _,h1⟩ 63;have hv:=zS6 ⟨l1,0,yBt _,h1⟩ 63 zB;generalize PR ⟨l1,0,yBt _,h1⟩ 63=c at *;generalize cfD ⟨l1,0,yBt _,h1⟩ 63=e0 at *;obtain⟨l,d',hl,ks⟩:=zAc c hv.w hv.ag cm e0;obtain⟨hl1,hl2⟩:=hl;have km:=CI v1 90 zB zB;have hmb:=yEf v1 (show(0:Int)<90 by omega);have hm0:=yEq v1 (show(90:Int)≠0 by omega);generalize v1 % 90=z at *;obtain⟨m,rfl⟩:∃m:Nat,z=(m:Int):=⟨z.toNat,zB⟩
 have hEb:∀e∈l++List.replicate m FS,UR e:=λe he=>by
  rcases yBy.1 he with h|h
  ·exact hl2 e h
  ·rw[(yFa.1 h).2];exact FT
 have hEl:(l++List.replicate m FS).length<=400:=by rw[yBf,yCw];omega
 have kst:=zHa c hv (l++List.replicate m FS) zB hEb;rw[yBo hEl]at kst;have hx:=(zG8 (l++List.replicate m FS) (EC c hv) (zCk hv) hEb (by show(0:Int)+_<_;omega)).x;rw[(zCq (l++List.replicate m FS) (EC c hv) hEb (by show(0:Int)+_<_;omega)).2.1]at hx;have hx:(rnW (qB c) ([],0) (l++List.replicate m FS)).2<dI c c.js.length:=hx.2;have klo:=zOf c hv;generalize (rnW (qB c) ([],0) (l++List.replicate m FS)).2=u at *;generalize dI c c.js.length=lo at *;have eM:(l++List.replicate m FS).map uY=l.map uY++List.replicate m (AV.agg [iA 6,iA 0,iA 0,iA 0,.sl false []]):=by rw[yBn,yEy];rfl
 unfold zD at kst;rw[eM]at kst;have hlX:=zA uY l;clear eM hEb hEl hl2;generalize l.map uY=X at *;unfold wN at *;refine eM Tryz.call7 λF hF=>?_
 refine yS (zt5 kf kn1 kc ks km) ?_;refine zN (m) [1001,8] [8] [8,23] [9,24,8,23] Z (λi T U=>⟨(9,.ref 1001 0 (X++List.replicate i (AV.agg [iA 6,iA 0,iA 0,iA 0,.sl false []])).length)::(24,iA i)::T,(1001,.arr 5 (X++List.replicate i (AV.agg [iA 6,iA 0,iA 0,iA 0,.sl false []])) true)::U⟩) ?_;(conv=>whnf);refine⟨by(rw[yFt,yCd];rfl),?_,?_⟩
 ·intro r hr;have hlr:(X++List.replicate r (AV.agg [iA 6,iA 0,iA 0,iA 0,.sl false []])).length<=400:=by simp;omega
  rw[show List.replicate (r+1) (AV.agg [iA 6,iA 0,iA 0,iA 0,.sl false []])=List.replicate r (AV.agg [iA 6,iA 0,iA 0,iA 0,.sl false []])++[AV.agg [iA 6,iA 0,iA 0,iA 0,.sl false []]]from yF9,<-yCa];generalize X++List.replicate r (AV.agg [iA 6,iA 0,iA 0,iA 0,.sl false []])=Y at*
  (repeat' (first|refine bW ?_|((first|apply xE|apply xV)<;>intro hc)|(refine zE ?_;first|(refine yR ?_;refine TR 27 Z Z Z ?_;refine qH tok Z Z ?_))|refine SB ?_|fail))
  rfl
 ·generalize X++List.replicate m (AV.agg [iA 6,iA 0,iA 0,iA 0,.sl false []])=Y at *;refine kM [8] [9,24,8,23] Z (yB8 (λy=>(⟨[(9,.sl false y),(24,iA (m:Int)),(8,.ptr 8 0 0),(23,iA (m:Int))],[(8,.box [zD wE c.js,zD vB c.ags,iA c.per,iA c.cap,iA c.hold,iA c.lock])]⟩:St)) yBj) ?_;refine yS (gW kst klo ka) ?_;exact zJ
end Av
end Go.Proofs.YteajjdidebfcjaaGreat
