/- Part 27: contracts of the functions, and what they rest upon. -/
import Derived.Test.YtaikgchmpieooaaGreatP25
import Derived.Test.YtaikgchmpieooaaGreatP26
namespace Go.Proofs.YtaikgchmpieooaaGreat
namespace Av
set_option linter.unusedSimpArgs false
set_option linter.unusedVariables false
set_option maxRecDepth 4000
set_option maxHeartbeats 4000000
def mkR (now:Int) (r:Rq):Rq:=⟨r.id,r.vh,r.cls,r.til,r.legs.map fun g=>mkL g now⟩
def mkQ (l:List Rq) (now:Int):List Rq:=l.map (mkR now)
def mkS (l:List Lg) (now:Int) (k:Nat):List Lg:=(l.take k).map (fun g=>mkL g now)++l.drop k
theorem mkS_all (l:List Lg) (now:Int):mkS l now l.length=l.map fun g=>mkL g now:=by simp[mkS]
theorem mkS_len (l:List Lg) (now:Int) (k:Nat):(mkS l now k).length=l.length:=by simp[mkS];omega
theorem mkS_at {l pre post:List Lg} {g:Lg} {k:Nat} (now:Int) (hx:l=pre++g::post) (hk:pre.length=k):((mkS l now k).map lgA)[k]? =some (lgA g):=by
 subst hx hk
 simp[mkS]
theorem mkS_set {l pre post:List Lg} {g:Lg} {k:Nat} (now:Int) (hx:l=pre++g::post) (hk:pre.length=k):(mkS l now (k+1)).map lgA=((mkS l now k).map lgA).set k (lgA (mkL g now)):=by
 subst hx hk
 have e1:(pre++g::post).take (pre.length+1)=pre++[g]:=by rw[List.take_append,List.take_of_length_le (by omega)];simp
 have e2:(pre++g::post).drop (pre.length+1)=post:=by rw[List.drop_append];simp
 have e3:(pre++g::post).take pre.length=pre:=by simp
 have e4:(pre++g::post).drop pre.length=g::post:=by simp
 unfold mkS
 rw[e1,e2,e3,e4]
 simp
theorem tkM (l:List Lg) (now:Int):List.take (l.map lgA).length (List.drop 0 ((l.map fun g=>mkL g now).map lgA))=(l.map fun g=>mkL g now).map lgA:=by
 rw[List.drop_zero]
 exact List.take_of_length_le (by simp)
def lgM (r:Rq) (now:Int) (k:Nat):Ent:= .arr 5 ((mkS r.legs now k).map lgA) false
theorem mark_n1 (a:Rq) (ha:1≤a.legs.length) (ga:a.legs.length≤1000) (now:Int):CallSim Tryz.prog 66 [slA rqA [a],iA now] [] (slA rqA (mkQ [a] now)) []:=by
 have kc:=cloneAll_n1 a ha ga
 have la:=map_len lgA a.legs
 (refine eN Tryz.func66 Tryz.call66 fun F hF=>?_)
 (have zc1:=kc;refine WW ?_;clear zc1)
 refine sim_rounds 2 [1001,1101] [13,11,12,1,5] rfl ?_
 refine rnd_next (st0:=⟨[(13,iA 0),(11,.ref 1001 0 1),(12,iA 1),(1,iA now),(5,.ref 1001 0 1)],[(1001,.arr 5 [rqO a 1101] ⟨false,true⟩),(1101,lgM a now 0)]⟩) rfl ?_
 unfold lgM
 (refine WW ?_)
 (refine sim_rng (a.legs) [1101,7,1001] [7,1001] [1,5,7,11,12,13,19] [20,1,5,7,11,12,13,19] rfl (fun i pre T U=>⟨(20,iA i)::T,(1101,.arr 5 ((mkS a.legs now i).map lgA) false)::U⟩) ?_;(conv=>whnf);refine⟨by rfl,?_,?_⟩)
 ·intro k pre g post hx hk
  have hlt:=rng_lt hx hk
  have hy:=mkS_at now hx hk
  have hs:=mkS_set now hx hk
  have hyl:((mkS a.legs now k).map lgA).length=a.legs.length:=by rw[List.length_map,mkS_len]
  have hset:∀y:AV,(((mkS a.legs now k).map lgA).set k y)[k]? =some y:=fun y=>List.getElem?_set_self (by omega)
  have cw:=wmark_c g now
  rw[hs]
  clear hx hs
  generalize (mkS a.legs now k).map lgA=ys at*
  generalize mkL g now=g2 at*
  (have zc1:=cw;(repeat' (first|refine WZ ?_|refine SG (I2 (fun hc=>?_) (fun hc=>?_))|refine SG (fun hc=>?_)|(refine is_ops ?_;refine is_call ?_;refine SC ?_)|(refine is_ops ?_;first|fail)|first|refine SR ?_|refine SK (I2 (fun hc=>?_) (fun hc=>?_))|refine SK (fun hc=>?_)|fail))<;>clear zc1)
  rfl
 (refine WW ?_)
 refine rnd_next (st0:=⟨[(13,iA 1),(11,.ref 1001 0 1),(12,iA 1),(1,iA now),(5,.ref 1001 0 1)],[(1001,.arr 5 [rqO a 1101] ⟨false,true⟩),(1101,lgM a now a.legs.length)]⟩) rfl ?_
 unfold lgM
 simp only[mkS_all]
 (refine WW ?_)
 refine fin_ret [] rfl rfl ?_ rfl
 show AV.sl false [.agg [iA a.id,iA a.vh,iA a.cls,iA a.til,.sl false (List.take (a.legs.map lgA).length (List.drop 0 ((a.legs.map fun g=>mkL g now).map lgA)))]]=_
 simp only[tkM]
 rfl
theorem mark_n2 (a b:Rq) (ha:1≤a.legs.length) (ga:a.legs.length≤1000) (hb:1≤b.legs.length) (gb:b.legs.length≤1000) (now:Int):CallSim Tryz.prog 66 [slA rqA [a,b],iA now] [] (slA rqA (mkQ [a,b] now)) []:=by
 have kc:=cloneAll_n2 a b ha ga hb gb
 have la:=map_len lgA a.legs
 have lb:=map_len lgA b.legs
 (refine eN Tryz.func66 Tryz.call66 fun F hF=>?_)
 (have zc1:=kc;refine WW ?_;clear zc1)
 refine sim_rounds 3 [1001,1101,1102] [13,11,12,1,5] rfl ?_
 refine rnd_next (st0:=⟨[(13,iA 0),(11,.ref 1001 0 2),(12,iA 2),(1,iA now),(5,.ref 1001 0 2)],[(1001,.arr 5 [rqO a 1101,rqO b 1102] ⟨true,true⟩),(1101,lgM a now 0),(1102,lgM b now 0)]⟩) rfl ?_
 unfold lgM
 (refine WW ?_)
 (refine sim_rng (a.legs) [1101,7,1001,1102] [7,1001,1102] [1,5,7,11,12,13,19] [20,1,5,7,11,12,13,19] rfl (fun i pre T U=>⟨(20,iA i)::T,(1101,.arr 5 ((mkS a.legs now i).map lgA) false)::U⟩) ?_;(conv=>whnf);refine⟨by rfl,?_,?_⟩)
 ·intro k pre g post hx hk
  have hlt:=rng_lt hx hk
  have hy:=mkS_at now hx hk
  have hs:=mkS_set now hx hk
  have hyl:((mkS a.legs now k).map lgA).length=a.legs.length:=by rw[List.length_map,mkS_len]
  have hset:∀y:AV,(((mkS a.legs now k).map lgA).set k y)[k]? =some y:=fun y=>List.getElem?_set_self (by omega)
  have cw:=wmark_c g now
  rw[hs]
  clear hx hs
  generalize (mkS a.legs now k).map lgA=ys at*
  generalize mkL g now=g2 at*
  (have zc1:=cw;(repeat' (first|refine WZ ?_|refine SG (I2 (fun hc=>?_) (fun hc=>?_))|refine SG (fun hc=>?_)|(refine is_ops ?_;refine is_call ?_;refine SC ?_)|(refine is_ops ?_;first|fail)|first|refine SR ?_|refine SK (I2 (fun hc=>?_) (fun hc=>?_))|refine SK (fun hc=>?_)|fail))<;>clear zc1)
  rfl
 (refine WW ?_)
 refine rnd_next (st0:=⟨[(13,iA 1),(11,.ref 1001 0 2),(12,iA 2),(1,iA now),(5,.ref 1001 0 2)],[(1001,.arr 5 [rqO a 1101,rqO b 1102] ⟨true,true⟩),(1101,lgM a now a.legs.length),(1102,lgM b now 0)]⟩) rfl ?_
 unfold lgM
 (refine WW ?_)
 (refine sim_rng (b.legs) [1102,7,1001,1101] [7,1001,1101] [1,5,7,11,12,13,19] [20,1,5,7,11,12,13,19] rfl (fun i pre T U=>⟨(20,iA i)::T,(1102,.arr 5 ((mkS b.legs now i).map lgA) false)::U⟩) ?_;(conv=>whnf);refine⟨by rfl,?_,?_⟩)
 ·intro k pre g post hx hk
  have hlt:=rng_lt hx hk
  have hy:=mkS_at now hx hk
  have hs:=mkS_set now hx hk
  have hyl:((mkS b.legs now k).map lgA).length=b.legs.length:=by rw[List.length_map,mkS_len]
  have hset:∀y:AV,(((mkS b.legs now k).map lgA).set k y)[k]? =some y:=fun y=>List.getElem?_set_self (by omega)
  have cw:=wmark_c g now
  rw[hs]
  clear hx hs
  generalize (mkS b.legs now k).map lgA=ys at*
  generalize mkL g now=g2 at*
  (have zc1:=cw;(repeat' (first|refine WZ ?_|refine SG (I2 (fun hc=>?_) (fun hc=>?_))|refine SG (fun hc=>?_)|(refine is_ops ?_;refine is_call ?_;refine SC ?_)|(refine is_ops ?_;first|fail)|first|refine SR ?_|refine SK (I2 (fun hc=>?_) (fun hc=>?_))|refine SK (fun hc=>?_)|fail))<;>clear zc1)
  rfl
 (refine WW ?_)
 refine rnd_next (st0:=⟨[(13,iA 2),(11,.ref 1001 0 2),(12,iA 2),(1,iA now),(5,.ref 1001 0 2)],[(1001,.arr 5 [rqO a 1101,rqO b 1102] ⟨true,true⟩),(1101,lgM a now a.legs.length),(1102,lgM b now b.legs.length)]⟩) rfl ?_
 unfold lgM
 simp only[mkS_all]
 (refine WW ?_)
 refine fin_ret [] rfl rfl ?_ rfl
 show AV.sl false [.agg [iA a.id,iA a.vh,iA a.cls,iA a.til,.sl false (List.take (a.legs.map lgA).length (List.drop 0 ((a.legs.map fun g=>mkL g now).map lgA)))],.agg [iA b.id,iA b.vh,iA b.cls,iA b.til,.sl false (List.take (b.legs.map lgA).length (List.drop 0 ((b.legs.map fun g=>mkL g now).map lgA)))]]=_
 simp only[tkM]
 rfl
theorem mark_n3 (a b c:Rq) (ha:1≤a.legs.length) (ga:a.legs.length≤1000) (hb:1≤b.legs.length) (gb:b.legs.length≤1000) (hc:1≤c.legs.length) (gc:c.legs.length≤1000) (now:Int):CallSim Tryz.prog 66 [slA rqA [a,b,c],iA now] [] (slA rqA (mkQ [a,b,c] now)) []:=by
 have kc:=cloneAll_n3 a b c ha ga hb gb hc gc
 have la:=map_len lgA a.legs
 have lb:=map_len lgA b.legs
 have lc:=map_len lgA c.legs
 (refine eN Tryz.func66 Tryz.call66 fun F hF=>?_)
 (have zc1:=kc;refine WW ?_;clear zc1)
 refine sim_rounds 4 [1001,1101,1102,1103] [13,11,12,1,5] rfl ?_
 refine rnd_next (st0:=⟨[(13,iA 0),(11,.ref 1001 0 3),(12,iA 3),(1,iA now),(5,.ref 1001 0 3)],[(1001,.arr 5 [rqO a 1101,rqO b 1102,rqO c 1103] ⟨true,true⟩),(1101,lgM a now 0),(1102,lgM b now 0),(1103,lgM c now 0)]⟩) rfl ?_
 unfold lgM
 (refine WW ?_)
 (refine sim_rng (a.legs) [1101,7,1001,1102,1103] [7,1001,1102,1103] [1,5,7,11,12,13,19] [20,1,5,7,11,12,13,19] rfl (fun i pre T U=>⟨(20,iA i)::T,(1101,.arr 5 ((mkS a.legs now i).map lgA) false)::U⟩) ?_;(conv=>whnf);refine⟨by rfl,?_,?_⟩)
 ·intro k pre g post hx hk
  have hlt:=rng_lt hx hk
  have hy:=mkS_at now hx hk
  have hs:=mkS_set now hx hk
  have hyl:((mkS a.legs now k).map lgA).length=a.legs.length:=by rw[List.length_map,mkS_len]
  have hset:∀y:AV,(((mkS a.legs now k).map lgA).set k y)[k]? =some y:=fun y=>List.getElem?_set_self (by omega)
  have cw:=wmark_c g now
  rw[hs]
  clear hx hs
  generalize (mkS a.legs now k).map lgA=ys at*
  generalize mkL g now=g2 at*
  (have zc1:=cw;(repeat' (first|refine WZ ?_|refine SG (I2 (fun hc=>?_) (fun hc=>?_))|refine SG (fun hc=>?_)|(refine is_ops ?_;refine is_call ?_;refine SC ?_)|(refine is_ops ?_;first|fail)|first|refine SR ?_|refine SK (I2 (fun hc=>?_) (fun hc=>?_))|refine SK (fun hc=>?_)|fail))<;>clear zc1)
  rfl
 (refine WW ?_)
 refine rnd_next (st0:=⟨[(13,iA 1),(11,.ref 1001 0 3),(12,iA 3),(1,iA now),(5,.ref 1001 0 3)],[(1001,.arr 5 [rqO a 1101,rqO b 1102,rqO c 1103] ⟨true,true⟩),(1101,lgM a now a.legs.length),(1102,lgM b now 0),(1103,lgM c now 0)]⟩) rfl ?_
 unfold lgM
 (refine WW ?_)
 (refine sim_rng (b.legs) [1102,7,1001,1101,1103] [7,1001,1101,1103] [1,5,7,11,12,13,19] [20,1,5,7,11,12,13,19] rfl (fun i pre T U=>⟨(20,iA i)::T,(1102,.arr 5 ((mkS b.legs now i).map lgA) false)::U⟩) ?_;(conv=>whnf);refine⟨by rfl,?_,?_⟩)
 ·intro k pre g post hx hk
  have hlt:=rng_lt hx hk
  have hy:=mkS_at now hx hk
  have hs:=mkS_set now hx hk
  have hyl:((mkS b.legs now k).map lgA).length=b.legs.length:=by rw[List.length_map,mkS_len]
  have hset:∀y:AV,(((mkS b.legs now k).map lgA).set k y)[k]? =some y:=fun y=>List.getElem?_set_self (by omega)
  have cw:=wmark_c g now
  rw[hs]
  clear hx hs
  generalize (mkS b.legs now k).map lgA=ys at*
  generalize mkL g now=g2 at*
  (have zc1:=cw;(repeat' (first|refine WZ ?_|refine SG (I2 (fun hc=>?_) (fun hc=>?_))|refine SG (fun hc=>?_)|(refine is_ops ?_;refine is_call ?_;refine SC ?_)|(refine is_ops ?_;first|fail)|first|refine SR ?_|refine SK (I2 (fun hc=>?_) (fun hc=>?_))|refine SK (fun hc=>?_)|fail))<;>clear zc1)
  rfl
 (refine WW ?_)
 refine rnd_next (st0:=⟨[(13,iA 2),(11,.ref 1001 0 3),(12,iA 3),(1,iA now),(5,.ref 1001 0 3)],[(1001,.arr 5 [rqO a 1101,rqO b 1102,rqO c 1103] ⟨true,true⟩),(1101,lgM a now a.legs.length),(1102,lgM b now b.legs.length),(1103,lgM c now 0)]⟩) rfl ?_
 unfold lgM
 (refine WW ?_)
 (refine sim_rng (c.legs) [1103,7,1001,1101,1102] [7,1001,1101,1102] [1,5,7,11,12,13,19] [20,1,5,7,11,12,13,19] rfl (fun i pre T U=>⟨(20,iA i)::T,(1103,.arr 5 ((mkS c.legs now i).map lgA) false)::U⟩) ?_;(conv=>whnf);refine⟨by rfl,?_,?_⟩)
 ·intro k pre g post hx hk
  have hlt:=rng_lt hx hk
  have hy:=mkS_at now hx hk
  have hs:=mkS_set now hx hk
  have hyl:((mkS c.legs now k).map lgA).length=c.legs.length:=by rw[List.length_map,mkS_len]
  have hset:∀y:AV,(((mkS c.legs now k).map lgA).set k y)[k]? =some y:=fun y=>List.getElem?_set_self (by omega)
  have cw:=wmark_c g now
  rw[hs]
  clear hx hs
  generalize (mkS c.legs now k).map lgA=ys at*
  generalize mkL g now=g2 at*
  (have zc1:=cw;(repeat' (first|refine WZ ?_|refine SG (I2 (fun hc=>?_) (fun hc=>?_))|refine SG (fun hc=>?_)|(refine is_ops ?_;refine is_call ?_;refine SC ?_)|(refine is_ops ?_;first|fail)|first|refine SR ?_|refine SK (I2 (fun hc=>?_) (fun hc=>?_))|refine SK (fun hc=>?_)|fail))<;>clear zc1)
  rfl
 (refine WW ?_)
 refine rnd_next (st0:=⟨[(13,iA 3),(11,.ref 1001 0 3),(12,iA 3),(1,iA now),(5,.ref 1001 0 3)],[(1001,.arr 5 [rqO a 1101,rqO b 1102,rqO c 1103] ⟨true,true⟩),(1101,lgM a now a.legs.length),(1102,lgM b now b.legs.length),(1103,lgM c now c.legs.length)]⟩) rfl ?_
 unfold lgM
 simp only[mkS_all]
 (refine WW ?_)
 refine fin_ret [] rfl rfl ?_ rfl
 show AV.sl false [.agg [iA a.id,iA a.vh,iA a.cls,iA a.til,.sl false (List.take (a.legs.map lgA).length (List.drop 0 ((a.legs.map fun g=>mkL g now).map lgA)))],.agg [iA b.id,iA b.vh,iA b.cls,iA b.til,.sl false (List.take (b.legs.map lgA).length (List.drop 0 ((b.legs.map fun g=>mkL g now).map lgA)))],.agg [iA c.id,iA c.vh,iA c.cls,iA c.til,.sl false (List.take (c.legs.map lgA).length (List.drop 0 ((c.legs.map fun g=>mkL g now).map lgA)))]]=_
 simp only[tkM]
 rfl
theorem mark_n4 (a b c d:Rq) (ha:1≤a.legs.length) (ga:a.legs.length≤1000) (hb:1≤b.legs.length) (gb:b.legs.length≤1000) (hc:1≤c.legs.length) (gc:c.legs.length≤1000) (hd:1≤d.legs.length) (gd:d.legs.length≤1000) (now:Int):CallSim Tryz.prog 66 [slA rqA [a,b,c,d],iA now] [] (slA rqA (mkQ [a,b,c,d] now)) []:=by
 have kc:=cloneAll_n4 a b c d ha ga hb gb hc gc hd gd
 have la:=map_len lgA a.legs
 have lb:=map_len lgA b.legs
 have lc:=map_len lgA c.legs
 have ld:=map_len lgA d.legs
 (refine eN Tryz.func66 Tryz.call66 fun F hF=>?_)
 (have zc1:=kc;refine WW ?_;clear zc1)
 refine sim_rounds 5 [1001,1101,1102,1103,1104] [13,11,12,1,5] rfl ?_
 refine rnd_next (st0:=⟨[(13,iA 0),(11,.ref 1001 0 4),(12,iA 4),(1,iA now),(5,.ref 1001 0 4)],[(1001,.arr 5 [rqO a 1101,rqO b 1102,rqO c 1103,rqO d 1104] ⟨true,true⟩),(1101,lgM a now 0),(1102,lgM b now 0),(1103,lgM c now 0),(1104,lgM d now 0)]⟩) rfl ?_
 unfold lgM
 (refine WW ?_)
 (refine sim_rng (a.legs) [1101,7,1001,1102,1103,1104] [7,1001,1102,1103,1104] [1,5,7,11,12,13,19] [20,1,5,7,11,12,13,19] rfl (fun i pre T U=>⟨(20,iA i)::T,(1101,.arr 5 ((mkS a.legs now i).map lgA) false)::U⟩) ?_;(conv=>whnf);refine⟨by rfl,?_,?_⟩)
 ·intro k pre g post hx hk
  have hlt:=rng_lt hx hk
  have hy:=mkS_at now hx hk
  have hs:=mkS_set now hx hk
  have hyl:((mkS a.legs now k).map lgA).length=a.legs.length:=by rw[List.length_map,mkS_len]
  have hset:∀y:AV,(((mkS a.legs now k).map lgA).set k y)[k]? =some y:=fun y=>List.getElem?_set_self (by omega)
  have cw:=wmark_c g now
  rw[hs]
  clear hx hs
  generalize (mkS a.legs now k).map lgA=ys at*
  generalize mkL g now=g2 at*
  (have zc1:=cw;(repeat' (first|refine WZ ?_|refine SG (I2 (fun hc=>?_) (fun hc=>?_))|refine SG (fun hc=>?_)|(refine is_ops ?_;refine is_call ?_;refine SC ?_)|(refine is_ops ?_;first|fail)|first|refine SR ?_|refine SK (I2 (fun hc=>?_) (fun hc=>?_))|refine SK (fun hc=>?_)|fail))<;>clear zc1)
  rfl
 (refine WW ?_)
 refine rnd_next (st0:=⟨[(13,iA 1),(11,.ref 1001 0 4),(12,iA 4),(1,iA now),(5,.ref 1001 0 4)],[(1001,.arr 5 [rqO a 1101,rqO b 1102,rqO c 1103,rqO d 1104] ⟨true,true⟩),(1101,lgM a now a.legs.length),(1102,lgM b now 0),(1103,lgM c now 0),(1104,lgM d now 0)]⟩) rfl ?_
 unfold lgM
 (refine WW ?_)
 (refine sim_rng (b.legs) [1102,7,1001,1101,1103,1104] [7,1001,1101,1103,1104] [1,5,7,11,12,13,19] [20,1,5,7,11,12,13,19] rfl (fun i pre T U=>⟨(20,iA i)::T,(1102,.arr 5 ((mkS b.legs now i).map lgA) false)::U⟩) ?_;(conv=>whnf);refine⟨by rfl,?_,?_⟩)
 ·intro k pre g post hx hk
  have hlt:=rng_lt hx hk
  have hy:=mkS_at now hx hk
  have hs:=mkS_set now hx hk
  have hyl:((mkS b.legs now k).map lgA).length=b.legs.length:=by rw[List.length_map,mkS_len]
  have hset:∀y:AV,(((mkS b.legs now k).map lgA).set k y)[k]? =some y:=fun y=>List.getElem?_set_self (by omega)
  have cw:=wmark_c g now
  rw[hs]
  clear hx hs
  generalize (mkS b.legs now k).map lgA=ys at*
  generalize mkL g now=g2 at*
  (have zc1:=cw;(repeat' (first|refine WZ ?_|refine SG (I2 (fun hc=>?_) (fun hc=>?_))|refine SG (fun hc=>?_)|(refine is_ops ?_;refine is_call ?_;refine SC ?_)|(refine is_ops ?_;first|fail)|first|refine SR ?_|refine SK (I2 (fun hc=>?_) (fun hc=>?_))|refine SK (fun hc=>?_)|fail))<;>clear zc1)
  rfl
 (refine WW ?_)
 refine rnd_next (st0:=⟨[(13,iA 2),(11,.ref 1001 0 4),(12,iA 4),(1,iA now),(5,.ref 1001 0 4)],[(1001,.arr 5 [rqO a 1101,rqO b 1102,rqO c 1103,rqO d 1104] ⟨true,true⟩),(1101,lgM a now a.legs.length),(1102,lgM b now b.legs.length),(1103,lgM c now 0),(1104,lgM d now 0)]⟩) rfl ?_
 unfold lgM
 (refine WW ?_)
 (refine sim_rng (c.legs) [1103,7,1001,1101,1102,1104] [7,1001,1101,1102,1104] [1,5,7,11,12,13,19] [20,1,5,7,11,12,13,19] rfl (fun i pre T U=>⟨(20,iA i)::T,(1103,.arr 5 ((mkS c.legs now i).map lgA) false)::U⟩) ?_;(conv=>whnf);refine⟨by rfl,?_,?_⟩)
 ·intro k pre g post hx hk
  have hlt:=rng_lt hx hk
  have hy:=mkS_at now hx hk
  have hs:=mkS_set now hx hk
  have hyl:((mkS c.legs now k).map lgA).length=c.legs.length:=by rw[List.length_map,mkS_len]
  have hset:∀y:AV,(((mkS c.legs now k).map lgA).set k y)[k]? =some y:=fun y=>List.getElem?_set_self (by omega)
  have cw:=wmark_c g now
  rw[hs]
  clear hx hs
  generalize (mkS c.legs now k).map lgA=ys at*
  generalize mkL g now=g2 at*
  (have zc1:=cw;(repeat' (first|refine WZ ?_|refine SG (I2 (fun hc=>?_) (fun hc=>?_))|refine SG (fun hc=>?_)|(refine is_ops ?_;refine is_call ?_;refine SC ?_)|(refine is_ops ?_;first|fail)|first|refine SR ?_|refine SK (I2 (fun hc=>?_) (fun hc=>?_))|refine SK (fun hc=>?_)|fail))<;>clear zc1)
  rfl
 (refine WW ?_)
 refine rnd_next (st0:=⟨[(13,iA 3),(11,.ref 1001 0 4),(12,iA 4),(1,iA now),(5,.ref 1001 0 4)],[(1001,.arr 5 [rqO a 1101,rqO b 1102,rqO c 1103,rqO d 1104] ⟨true,true⟩),(1101,lgM a now a.legs.length),(1102,lgM b now b.legs.length),(1103,lgM c now c.legs.length),(1104,lgM d now 0)]⟩) rfl ?_
 unfold lgM
 (refine WW ?_)
 (refine sim_rng (d.legs) [1104,7,1001,1101,1102,1103] [7,1001,1101,1102,1103] [1,5,7,11,12,13,19] [20,1,5,7,11,12,13,19] rfl (fun i pre T U=>⟨(20,iA i)::T,(1104,.arr 5 ((mkS d.legs now i).map lgA) false)::U⟩) ?_;(conv=>whnf);refine⟨by rfl,?_,?_⟩)
 ·intro k pre g post hx hk
  have hlt:=rng_lt hx hk
  have hy:=mkS_at now hx hk
  have hs:=mkS_set now hx hk
  have hyl:((mkS d.legs now k).map lgA).length=d.legs.length:=by rw[List.length_map,mkS_len]
  have hset:∀y:AV,(((mkS d.legs now k).map lgA).set k y)[k]? =some y:=fun y=>List.getElem?_set_self (by omega)
  have cw:=wmark_c g now
  rw[hs]
  clear hx hs
  generalize (mkS d.legs now k).map lgA=ys at*
  generalize mkL g now=g2 at*
  (have zc1:=cw;(repeat' (first|refine WZ ?_|refine SG (I2 (fun hc=>?_) (fun hc=>?_))|refine SG (fun hc=>?_)|(refine is_ops ?_;refine is_call ?_;refine SC ?_)|(refine is_ops ?_;first|fail)|first|refine SR ?_|refine SK (I2 (fun hc=>?_) (fun hc=>?_))|refine SK (fun hc=>?_)|fail))<;>clear zc1)
  rfl
 (refine WW ?_)
 refine rnd_next (st0:=⟨[(13,iA 4),(11,.ref 1001 0 4),(12,iA 4),(1,iA now),(5,.ref 1001 0 4)],[(1001,.arr 5 [rqO a 1101,rqO b 1102,rqO c 1103,rqO d 1104] ⟨true,true⟩),(1101,lgM a now a.legs.length),(1102,lgM b now b.legs.length),(1103,lgM c now c.legs.length),(1104,lgM d now d.legs.length)]⟩) rfl ?_
 unfold lgM
 simp only[mkS_all]
 (refine WW ?_)
 refine fin_ret [] rfl rfl ?_ rfl
 show AV.sl false [.agg [iA a.id,iA a.vh,iA a.cls,iA a.til,.sl false (List.take (a.legs.map lgA).length (List.drop 0 ((a.legs.map fun g=>mkL g now).map lgA)))],.agg [iA b.id,iA b.vh,iA b.cls,iA b.til,.sl false (List.take (b.legs.map lgA).length (List.drop 0 ((b.legs.map fun g=>mkL g now).map lgA)))],.agg [iA c.id,iA c.vh,iA c.cls,iA c.til,.sl false (List.take (c.legs.map lgA).length (List.drop 0 ((c.legs.map fun g=>mkL g now).map lgA)))],.agg [iA d.id,iA d.vh,iA d.cls,iA d.til,.sl false (List.take (d.legs.map lgA).length (List.drop 0 ((d.legs.map fun g=>mkL g now).map lgA)))]]=_
 simp only[tkM]
 rfl
end Av
end Go.Proofs.YtaikgchmpieooaaGreat
