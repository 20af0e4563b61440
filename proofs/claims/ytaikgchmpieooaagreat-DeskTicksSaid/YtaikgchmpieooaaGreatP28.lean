/- Part 28: contracts of the functions, and what they rest upon. -/
import Derived.Test.YtaikgchmpieooaaGreatP27
namespace Go.Proofs.YtaikgchmpieooaaGreat
namespace Av
set_option linter.unusedSimpArgs false
set_option linter.unusedVariables false
set_option maxRecDepth 4000
set_option maxHeartbeats 4000000
theorem copyR_n1 (a:Rq) (ha:1≤a.legs.length) (ga:a.legs.length≤1000):CallSim Tryz.prog 52 [slA rqA [a]] [] (.ref 1001 0 1) [(1001,.arr 5 [rqO a 1101] ⟨false,true⟩),(1101,lgE a)]:=by
 have la:=map_len lgA a.legs
 (refine eN Tryz.func52 Tryz.call52 fun F hF=>?_)
 (refine WW ?_)
 refine sim_virt 3 1001 5 rfl rfl rfl ?_
 refine sim_rounds 2 [1001,1101] [3,8,6,7] rfl ?_
 refine rnd_next (st0:=⟨[(3,.ref 1001 0 0),(8,iA 0),(6,.sl false [rqA a]),(7,iA 1)],[(1001,.arr 5 [] ⟨true,false⟩)]⟩) rfl ?_
 (repeat' (first|refine WY ?_|refine SG (I2 (fun hc=>?_) (fun hc=>?_))|refine SG (fun hc=>?_)|(refine is_ops ?_;refine is_call ?_;fail)|(refine is_ops ?_;first|(refine is_app ?_;refine x_appnilK 1101 tok rfl rfl rfl rfl rfl rfl (map_hd _ _ (fun _=>rfl)) rfl rfl rfl (by omega) rfl rfl rfl ?_)|(refine is_bsl ?_;refine x_bslN (xs:=[_]) 1002 tok rfl rfl rfl rfl rfl rfl rfl rfl rfl rfl rfl rfl ?_)|(refine is_app ?_;first|refine x_appref0N tok rfl rfl rfl rfl rfl rfl rfl (by intro y hy;cases hy;rfl) rfl rfl rfl (by simp) rfl ?_|refine x_apprefN tok rfl rfl rfl rfl rfl rfl rfl rfl rfl rfl rfl (by intro y hy;cases hy;rfl) (by simp) rfl ?_))|refine SB ?_|first|refine SR ?_|refine SK (I2 (fun hc=>?_) (fun hc=>?_))|refine SK (fun hc=>?_)|fail))
 refine rnd_next (st0:=⟨[(3,.ref 1001 0 1),(8,iA 1),(6,.sl false [rqA a]),(7,iA 1)],[(1001,.arr 5 [rqO a 1101] ⟨false,true⟩),(1101,lgE a)]⟩) rfl ?_
 (refine WW ?_)
 exact fin_own [1001,1101] rfl rfl rfl rfl
theorem copyR_n2 (a b:Rq) (ha:1≤a.legs.length) (ga:a.legs.length≤1000) (hb:1≤b.legs.length) (gb:b.legs.length≤1000):CallSim Tryz.prog 52 [slA rqA [a,b]] [] (.ref 1001 0 2) [(1001,.arr 5 [rqO a 1101,rqO b 1102] ⟨true,true⟩),(1101,lgE a),(1102,lgE b)]:=by
 have la:=map_len lgA a.legs
 have lb:=map_len lgA b.legs
 (refine eN Tryz.func52 Tryz.call52 fun F hF=>?_)
 (refine WW ?_)
 refine sim_virt 3 1001 5 rfl rfl rfl ?_
 refine sim_rounds 3 [1001,1101,1102] [3,8,6,7] rfl ?_
 refine rnd_next (st0:=⟨[(3,.ref 1001 0 0),(8,iA 0),(6,.sl false [rqA a,rqA b]),(7,iA 2)],[(1001,.arr 5 [] ⟨true,false⟩)]⟩) rfl ?_
 (repeat' (first|refine WY ?_|refine SG (I2 (fun hc=>?_) (fun hc=>?_))|refine SG (fun hc=>?_)|(refine is_ops ?_;refine is_call ?_;fail)|(refine is_ops ?_;first|(refine is_app ?_;refine x_appnilK 1101 tok rfl rfl rfl rfl rfl rfl (map_hd _ _ (fun _=>rfl)) rfl rfl rfl (by omega) rfl rfl rfl ?_)|(refine is_bsl ?_;refine x_bslN (xs:=[_]) 1002 tok rfl rfl rfl rfl rfl rfl rfl rfl rfl rfl rfl rfl ?_)|(refine is_app ?_;first|refine x_appref0N tok rfl rfl rfl rfl rfl rfl rfl (by intro y hy;cases hy;rfl) rfl rfl rfl (by simp) rfl ?_|refine x_apprefN tok rfl rfl rfl rfl rfl rfl rfl rfl rfl rfl rfl (by intro y hy;cases hy;rfl) (by simp) rfl ?_))|refine SB ?_|first|refine SR ?_|refine SK (I2 (fun hc=>?_) (fun hc=>?_))|refine SK (fun hc=>?_)|fail))
 refine rnd_next (st0:=⟨[(3,.ref 1001 0 1),(8,iA 1),(6,.sl false [rqA a,rqA b]),(7,iA 2)],[(1001,.arr 5 [rqO a 1101] ⟨false,true⟩),(1101,lgE a)]⟩) rfl ?_
 (repeat' (first|refine WY ?_|refine SG (I2 (fun hc=>?_) (fun hc=>?_))|refine SG (fun hc=>?_)|(refine is_ops ?_;refine is_call ?_;fail)|(refine is_ops ?_;first|(refine is_app ?_;refine x_appnilK 1102 tok rfl rfl rfl rfl rfl rfl (map_hd _ _ (fun _=>rfl)) rfl rfl rfl (by omega) rfl rfl rfl ?_)|(refine is_bsl ?_;refine x_bslN (xs:=[_]) 1002 tok rfl rfl rfl rfl rfl rfl rfl rfl rfl rfl rfl rfl ?_)|(refine is_app ?_;first|refine x_appref0N tok rfl rfl rfl rfl rfl rfl rfl (by intro y hy;cases hy;rfl) rfl rfl rfl (by simp) rfl ?_|refine x_apprefN tok rfl rfl rfl rfl rfl rfl rfl rfl rfl rfl rfl (by intro y hy;cases hy;rfl) (by simp) rfl ?_))|refine SB ?_|first|refine SR ?_|refine SK (I2 (fun hc=>?_) (fun hc=>?_))|refine SK (fun hc=>?_)|fail))
 refine rnd_next (st0:=⟨[(3,.ref 1001 0 2),(8,iA 2),(6,.sl false [rqA a,rqA b]),(7,iA 2)],[(1001,.arr 5 [rqO a 1101,rqO b 1102] ⟨true,true⟩),(1101,lgE a),(1102,lgE b)]⟩) rfl ?_
 (refine WW ?_)
 exact fin_own [1001,1101,1102] rfl rfl rfl rfl
theorem copyR_n3 (a b c:Rq) (ha:1≤a.legs.length) (ga:a.legs.length≤1000) (hb:1≤b.legs.length) (gb:b.legs.length≤1000) (hc:1≤c.legs.length) (gc:c.legs.length≤1000):CallSim Tryz.prog 52 [slA rqA [a,b,c]] [] (.ref 1001 0 3) [(1001,.arr 5 [rqO a 1101,rqO b 1102,rqO c 1103] ⟨true,true⟩),(1101,lgE a),(1102,lgE b),(1103,lgE c)]:=by
 have la:=map_len lgA a.legs
 have lb:=map_len lgA b.legs
 have lc:=map_len lgA c.legs
 (refine eN Tryz.func52 Tryz.call52 fun F hF=>?_)
 (refine WW ?_)
 refine sim_virt 3 1001 5 rfl rfl rfl ?_
 refine sim_rounds 4 [1001,1101,1102,1103] [3,8,6,7] rfl ?_
 refine rnd_next (st0:=⟨[(3,.ref 1001 0 0),(8,iA 0),(6,.sl false [rqA a,rqA b,rqA c]),(7,iA 3)],[(1001,.arr 5 [] ⟨true,false⟩)]⟩) rfl ?_
 (repeat' (first|refine WY ?_|refine SG (I2 (fun hc=>?_) (fun hc=>?_))|refine SG (fun hc=>?_)|(refine is_ops ?_;refine is_call ?_;fail)|(refine is_ops ?_;first|(refine is_app ?_;refine x_appnilK 1101 tok rfl rfl rfl rfl rfl rfl (map_hd _ _ (fun _=>rfl)) rfl rfl rfl (by omega) rfl rfl rfl ?_)|(refine is_bsl ?_;refine x_bslN (xs:=[_]) 1002 tok rfl rfl rfl rfl rfl rfl rfl rfl rfl rfl rfl rfl ?_)|(refine is_app ?_;first|refine x_appref0N tok rfl rfl rfl rfl rfl rfl rfl (by intro y hy;cases hy;rfl) rfl rfl rfl (by simp) rfl ?_|refine x_apprefN tok rfl rfl rfl rfl rfl rfl rfl rfl rfl rfl rfl (by intro y hy;cases hy;rfl) (by simp) rfl ?_))|refine SB ?_|first|refine SR ?_|refine SK (I2 (fun hc=>?_) (fun hc=>?_))|refine SK (fun hc=>?_)|fail))
 refine rnd_next (st0:=⟨[(3,.ref 1001 0 1),(8,iA 1),(6,.sl false [rqA a,rqA b,rqA c]),(7,iA 3)],[(1001,.arr 5 [rqO a 1101] ⟨false,true⟩),(1101,lgE a)]⟩) rfl ?_
 (repeat' (first|refine WY ?_|refine SG (I2 (fun hc=>?_) (fun hc=>?_))|refine SG (fun hc=>?_)|(refine is_ops ?_;refine is_call ?_;fail)|(refine is_ops ?_;first|(refine is_app ?_;refine x_appnilK 1102 tok rfl rfl rfl rfl rfl rfl (map_hd _ _ (fun _=>rfl)) rfl rfl rfl (by omega) rfl rfl rfl ?_)|(refine is_bsl ?_;refine x_bslN (xs:=[_]) 1002 tok rfl rfl rfl rfl rfl rfl rfl rfl rfl rfl rfl rfl ?_)|(refine is_app ?_;first|refine x_appref0N tok rfl rfl rfl rfl rfl rfl rfl (by intro y hy;cases hy;rfl) rfl rfl rfl (by simp) rfl ?_|refine x_apprefN tok rfl rfl rfl rfl rfl rfl rfl rfl rfl rfl rfl (by intro y hy;cases hy;rfl) (by simp) rfl ?_))|refine SB ?_|first|refine SR ?_|refine SK (I2 (fun hc=>?_) (fun hc=>?_))|refine SK (fun hc=>?_)|fail))
 refine rnd_next (st0:=⟨[(3,.ref 1001 0 2),(8,iA 2),(6,.sl false [rqA a,rqA b,rqA c]),(7,iA 3)],[(1001,.arr 5 [rqO a 1101,rqO b 1102] ⟨true,true⟩),(1101,lgE a),(1102,lgE b)]⟩) rfl ?_
 (repeat' (first|refine WY ?_|refine SG (I2 (fun hc=>?_) (fun hc=>?_))|refine SG (fun hc=>?_)|(refine is_ops ?_;refine is_call ?_;fail)|(refine is_ops ?_;first|(refine is_app ?_;refine x_appnilK 1103 tok rfl rfl rfl rfl rfl rfl (map_hd _ _ (fun _=>rfl)) rfl rfl rfl (by omega) rfl rfl rfl ?_)|(refine is_bsl ?_;refine x_bslN (xs:=[_]) 1002 tok rfl rfl rfl rfl rfl rfl rfl rfl rfl rfl rfl rfl ?_)|(refine is_app ?_;first|refine x_appref0N tok rfl rfl rfl rfl rfl rfl rfl (by intro y hy;cases hy;rfl) rfl rfl rfl (by simp) rfl ?_|refine x_apprefN tok rfl rfl rfl rfl rfl rfl rfl rfl rfl rfl rfl (by intro y hy;cases hy;rfl) (by simp) rfl ?_))|refine SB ?_|first|refine SR ?_|refine SK (I2 (fun hc=>?_) (fun hc=>?_))|refine SK (fun hc=>?_)|fail))
 refine rnd_next (st0:=⟨[(3,.ref 1001 0 3),(8,iA 3),(6,.sl false [rqA a,rqA b,rqA c]),(7,iA 3)],[(1001,.arr 5 [rqO a 1101,rqO b 1102,rqO c 1103] ⟨true,true⟩),(1101,lgE a),(1102,lgE b),(1103,lgE c)]⟩) rfl ?_
 (refine WW ?_)
 exact fin_own [1001,1101,1102,1103] rfl rfl rfl rfl
theorem copyR_n4 (a b c d:Rq) (ha:1≤a.legs.length) (ga:a.legs.length≤1000) (hb:1≤b.legs.length) (gb:b.legs.length≤1000) (hc:1≤c.legs.length) (gc:c.legs.length≤1000) (hd:1≤d.legs.length) (gd:d.legs.length≤1000):CallSim Tryz.prog 52 [slA rqA [a,b,c,d]] [] (.ref 1001 0 4) [(1001,.arr 5 [rqO a 1101,rqO b 1102,rqO c 1103,rqO d 1104] ⟨true,true⟩),(1101,lgE a),(1102,lgE b),(1103,lgE c),(1104,lgE d)]:=by
 have la:=map_len lgA a.legs
 have lb:=map_len lgA b.legs
 have lc:=map_len lgA c.legs
 have ld:=map_len lgA d.legs
 (refine eN Tryz.func52 Tryz.call52 fun F hF=>?_)
 (refine WW ?_)
 refine sim_virt 3 1001 5 rfl rfl rfl ?_
 refine sim_rounds 5 [1001,1101,1102,1103,1104] [3,8,6,7] rfl ?_
 refine rnd_next (st0:=⟨[(3,.ref 1001 0 0),(8,iA 0),(6,.sl false [rqA a,rqA b,rqA c,rqA d]),(7,iA 4)],[(1001,.arr 5 [] ⟨true,false⟩)]⟩) rfl ?_
 (repeat' (first|refine WY ?_|refine SG (I2 (fun hc=>?_) (fun hc=>?_))|refine SG (fun hc=>?_)|(refine is_ops ?_;refine is_call ?_;fail)|(refine is_ops ?_;first|(refine is_app ?_;refine x_appnilK 1101 tok rfl rfl rfl rfl rfl rfl (map_hd _ _ (fun _=>rfl)) rfl rfl rfl (by omega) rfl rfl rfl ?_)|(refine is_bsl ?_;refine x_bslN (xs:=[_]) 1002 tok rfl rfl rfl rfl rfl rfl rfl rfl rfl rfl rfl rfl ?_)|(refine is_app ?_;first|refine x_appref0N tok rfl rfl rfl rfl rfl rfl rfl (by intro y hy;cases hy;rfl) rfl rfl rfl (by simp) rfl ?_|refine x_apprefN tok rfl rfl rfl rfl rfl rfl rfl rfl rfl rfl rfl (by intro y hy;cases hy;rfl) (by simp) rfl ?_))|refine SB ?_|first|refine SR ?_|refine SK (I2 (fun hc=>?_) (fun hc=>?_))|refine SK (fun hc=>?_)|fail))
 refine rnd_next (st0:=⟨[(3,.ref 1001 0 1),(8,iA 1),(6,.sl false [rqA a,rqA b,rqA c,rqA d]),(7,iA 4)],[(1001,.arr 5 [rqO a 1101] ⟨false,true⟩),(1101,lgE a)]⟩) rfl ?_
 (repeat' (first|refine WY ?_|refine SG (I2 (fun hc=>?_) (fun hc=>?_))|refine SG (fun hc=>?_)|(refine is_ops ?_;refine is_call ?_;fail)|(refine is_ops ?_;first|(refine is_app ?_;refine x_appnilK 1102 tok rfl rfl rfl rfl rfl rfl (map_hd _ _ (fun _=>rfl)) rfl rfl rfl (by omega) rfl rfl rfl ?_)|(refine is_bsl ?_;refine x_bslN (xs:=[_]) 1002 tok rfl rfl rfl rfl rfl rfl rfl rfl rfl rfl rfl rfl ?_)|(refine is_app ?_;first|refine x_appref0N tok rfl rfl rfl rfl rfl rfl rfl (by intro y hy;cases hy;rfl) rfl rfl rfl (by simp) rfl ?_|refine x_apprefN tok rfl rfl rfl rfl rfl rfl rfl rfl rfl rfl rfl (by intro y hy;cases hy;rfl) (by simp) rfl ?_))|refine SB ?_|first|refine SR ?_|refine SK (I2 (fun hc=>?_) (fun hc=>?_))|refine SK (fun hc=>?_)|fail))
 refine rnd_next (st0:=⟨[(3,.ref 1001 0 2),(8,iA 2),(6,.sl false [rqA a,rqA b,rqA c,rqA d]),(7,iA 4)],[(1001,.arr 5 [rqO a 1101,rqO b 1102] ⟨true,true⟩),(1101,lgE a),(1102,lgE b)]⟩) rfl ?_
 (repeat' (first|refine WY ?_|refine SG (I2 (fun hc=>?_) (fun hc=>?_))|refine SG (fun hc=>?_)|(refine is_ops ?_;refine is_call ?_;fail)|(refine is_ops ?_;first|(refine is_app ?_;refine x_appnilK 1103 tok rfl rfl rfl rfl rfl rfl (map_hd _ _ (fun _=>rfl)) rfl rfl rfl (by omega) rfl rfl rfl ?_)|(refine is_bsl ?_;refine x_bslN (xs:=[_]) 1002 tok rfl rfl rfl rfl rfl rfl rfl rfl rfl rfl rfl rfl ?_)|(refine is_app ?_;first|refine x_appref0N tok rfl rfl rfl rfl rfl rfl rfl (by intro y hy;cases hy;rfl) rfl rfl rfl (by simp) rfl ?_|refine x_apprefN tok rfl rfl rfl rfl rfl rfl rfl rfl rfl rfl rfl (by intro y hy;cases hy;rfl) (by simp) rfl ?_))|refine SB ?_|first|refine SR ?_|refine SK (I2 (fun hc=>?_) (fun hc=>?_))|refine SK (fun hc=>?_)|fail))
 refine rnd_next (st0:=⟨[(3,.ref 1001 0 3),(8,iA 3),(6,.sl false [rqA a,rqA b,rqA c,rqA d]),(7,iA 4)],[(1001,.arr 5 [rqO a 1101,rqO b 1102,rqO c 1103] ⟨true,true⟩),(1101,lgE a),(1102,lgE b),(1103,lgE c)]⟩) rfl ?_
 (repeat' (first|refine WY ?_|refine SG (I2 (fun hc=>?_) (fun hc=>?_))|refine SG (fun hc=>?_)|(refine is_ops ?_;refine is_call ?_;fail)|(refine is_ops ?_;first|(refine is_app ?_;refine x_appnilK 1104 tok rfl rfl rfl rfl rfl rfl (map_hd _ _ (fun _=>rfl)) rfl rfl rfl (by omega) rfl rfl rfl ?_)|(refine is_bsl ?_;refine x_bslN (xs:=[_]) 1002 tok rfl rfl rfl rfl rfl rfl rfl rfl rfl rfl rfl rfl ?_)|(refine is_app ?_;first|refine x_appref0N tok rfl rfl rfl rfl rfl rfl rfl (by intro y hy;cases hy;rfl) rfl rfl rfl (by simp) rfl ?_|refine x_apprefN tok rfl rfl rfl rfl rfl rfl rfl rfl rfl rfl rfl (by intro y hy;cases hy;rfl) (by simp) rfl ?_))|refine SB ?_|first|refine SR ?_|refine SK (I2 (fun hc=>?_) (fun hc=>?_))|refine SK (fun hc=>?_)|fail))
 refine rnd_next (st0:=⟨[(3,.ref 1001 0 4),(8,iA 4),(6,.sl false [rqA a,rqA b,rqA c,rqA d]),(7,iA 4)],[(1001,.arr 5 [rqO a 1101,rqO b 1102,rqO c 1103,rqO d 1104] ⟨true,true⟩),(1101,lgE a),(1102,lgE b),(1103,lgE c),(1104,lgE d)]⟩) rfl ?_
 (refine WW ?_)
 exact fin_own [1001,1101,1102,1103,1104] rfl rfl rfl rfl
theorem mark2_n1 (a:Rq) (ha:1≤a.legs.length) (ga:a.legs.length≤1000) (now:Int):CallSim Tryz.prog 67 [slA rqA [a],iA now] [] (slA rqA (mkQ [a] now)) []:=by
 have kc:=copyR_n1 a ha ga
 have la:=map_len lgA a.legs
 (refine eN Tryz.func67 Tryz.call67 fun F hF=>?_)
 (have zc1:=kc;refine WW ?_;clear zc1)
 refine sim_rounds 2 [1001,1101] [14,12,13,1,5] rfl ?_
 refine rnd_next (st0:=⟨[(14,iA 0),(12,.ref 1001 0 1),(13,iA 1),(1,iA now),(5,.ref 1001 0 1)],[(1001,.arr 5 [rqO a 1101] ⟨false,true⟩),(1101,lgM a now 0)]⟩) rfl ?_
 unfold lgM
 (refine WW ?_)
 (refine sim_rng (a.legs) [1101,7,1001] [7,1001] [1,5,7,12,13,14,19,20] [21,1,5,7,12,13,14,19,20] rfl (fun i pre T U=>⟨(21,iA i)::T,(1101,.arr 5 ((mkS a.legs now i).map lgA) false)::U⟩) ?_;(conv=>whnf);refine⟨by rfl,?_,?_⟩)
 ·intro k pre g post hx hk
  have hlt:=rng_lt hx hk
  have hy:=mkS_at now hx hk
  have hs:=mkS_set now hx hk
  have hyl:((mkS a.legs now k).map lgA).length=a.legs.length:=by rw[List.length_map,mkS_len]
  have hset:∀y:AV,(((mkS a.legs now k).map lgA).set k y)[k]? =some y:=fun y=>List.getElem?_set_self (by omega)
  have cw:=wmark2_c g now
  rw[hs]
  clear hx hs
  generalize (mkS a.legs now k).map lgA=ys at*
  generalize mkL g now=g2 at*
  (have zc1:=cw;(repeat' (first|refine WZ ?_|refine SG (I2 (fun hc=>?_) (fun hc=>?_))|refine SG (fun hc=>?_)|(refine is_ops ?_;refine is_call ?_;refine SC ?_)|(refine is_ops ?_;first|fail)|first|refine SR ?_|refine SK (I2 (fun hc=>?_) (fun hc=>?_))|refine SK (fun hc=>?_)|fail))<;>clear zc1)
  rfl
 (refine WW ?_)
 refine rnd_next (st0:=⟨[(14,iA 1),(12,.ref 1001 0 1),(13,iA 1),(1,iA now),(5,.ref 1001 0 1)],[(1001,.arr 5 [rqO a 1101] ⟨false,true⟩),(1101,lgM a now a.legs.length)]⟩) rfl ?_
 unfold lgM
 simp only[mkS_all]
 (refine WW ?_)
 refine fin_ret [] rfl rfl ?_ rfl
 show AV.sl false [.agg [iA a.id,iA a.vh,iA a.cls,iA a.til,.sl false (List.take (a.legs.map lgA).length (List.drop 0 ((a.legs.map fun g=>mkL g now).map lgA)))]]=_
 simp only[tkM]
 rfl
theorem mark2_n2 (a b:Rq) (ha:1≤a.legs.length) (ga:a.legs.length≤1000) (hb:1≤b.legs.length) (gb:b.legs.length≤1000) (now:Int):CallSim Tryz.prog 67 [slA rqA [a,b],iA now] [] (slA rqA (mkQ [a,b] now)) []:=by
 have kc:=copyR_n2 a b ha ga hb gb
 have la:=map_len lgA a.legs
 have lb:=map_len lgA b.legs
 (refine eN Tryz.func67 Tryz.call67 fun F hF=>?_)
 (have zc1:=kc;refine WW ?_;clear zc1)
 refine sim_rounds 3 [1001,1101,1102] [14,12,13,1,5] rfl ?_
 refine rnd_next (st0:=⟨[(14,iA 0),(12,.ref 1001 0 2),(13,iA 2),(1,iA now),(5,.ref 1001 0 2)],[(1001,.arr 5 [rqO a 1101,rqO b 1102] ⟨true,true⟩),(1101,lgM a now 0),(1102,lgM b now 0)]⟩) rfl ?_
 unfold lgM
 (refine WW ?_)
 (refine sim_rng (a.legs) [1101,7,1001,1102] [7,1001,1102] [1,5,7,12,13,14,19,20] [21,1,5,7,12,13,14,19,20] rfl (fun i pre T U=>⟨(21,iA i)::T,(1101,.arr 5 ((mkS a.legs now i).map lgA) false)::U⟩) ?_;(conv=>whnf);refine⟨by rfl,?_,?_⟩)
 ·intro k pre g post hx hk
  have hlt:=rng_lt hx hk
  have hy:=mkS_at now hx hk
  have hs:=mkS_set now hx hk
  have hyl:((mkS a.legs now k).map lgA).length=a.legs.length:=by rw[List.length_map,mkS_len]
  have hset:∀y:AV,(((mkS a.legs now k).map lgA).set k y)[k]? =some y:=fun y=>List.getElem?_set_self (by omega)
  have cw:=wmark2_c g now
  rw[hs]
  clear hx hs
  generalize (mkS a.legs now k).map lgA=ys at*
  generalize mkL g now=g2 at*
  (have zc1:=cw;(repeat' (first|refine WZ ?_|refine SG (I2 (fun hc=>?_) (fun hc=>?_))|refine SG (fun hc=>?_)|(refine is_ops ?_;refine is_call ?_;refine SC ?_)|(refine is_ops ?_;first|fail)|first|refine SR ?_|refine SK (I2 (fun hc=>?_) (fun hc=>?_))|refine SK (fun hc=>?_)|fail))<;>clear zc1)
  rfl
 (refine WW ?_)
 refine rnd_next (st0:=⟨[(14,iA 1),(12,.ref 1001 0 2),(13,iA 2),(1,iA now),(5,.ref 1001 0 2)],[(1001,.arr 5 [rqO a 1101,rqO b 1102] ⟨true,true⟩),(1101,lgM a now a.legs.length),(1102,lgM b now 0)]⟩) rfl ?_
 unfold lgM
 (refine WW ?_)
 (refine sim_rng (b.legs) [1102,7,1001,1101] [7,1001,1101] [1,5,7,12,13,14,19,20] [21,1,5,7,12,13,14,19,20] rfl (fun i pre T U=>⟨(21,iA i)::T,(1102,.arr 5 ((mkS b.legs now i).map lgA) false)::U⟩) ?_;(conv=>whnf);refine⟨by rfl,?_,?_⟩)
 ·intro k pre g post hx hk
  have hlt:=rng_lt hx hk
  have hy:=mkS_at now hx hk
  have hs:=mkS_set now hx hk
  have hyl:((mkS b.legs now k).map lgA).length=b.legs.length:=by rw[List.length_map,mkS_len]
  have hset:∀y:AV,(((mkS b.legs now k).map lgA).set k y)[k]? =some y:=fun y=>List.getElem?_set_self (by omega)
  have cw:=wmark2_c g now
  rw[hs]
  clear hx hs
  generalize (mkS b.legs now k).map lgA=ys at*
  generalize mkL g now=g2 at*
  (have zc1:=cw;(repeat' (first|refine WZ ?_|refine SG (I2 (fun hc=>?_) (fun hc=>?_))|refine SG (fun hc=>?_)|(refine is_ops ?_;refine is_call ?_;refine SC ?_)|(refine is_ops ?_;first|fail)|first|refine SR ?_|refine SK (I2 (fun hc=>?_) (fun hc=>?_))|refine SK (fun hc=>?_)|fail))<;>clear zc1)
  rfl
 (refine WW ?_)
 refine rnd_next (st0:=⟨[(14,iA 2),(12,.ref 1001 0 2),(13,iA 2),(1,iA now),(5,.ref 1001 0 2)],[(1001,.arr 5 [rqO a 1101,rqO b 1102] ⟨true,true⟩),(1101,lgM a now a.legs.length),(1102,lgM b now b.legs.length)]⟩) rfl ?_
 unfold lgM
 simp only[mkS_all]
 (refine WW ?_)
 refine fin_ret [] rfl rfl ?_ rfl
 show AV.sl false [.agg [iA a.id,iA a.vh,iA a.cls,iA a.til,.sl false (List.take (a.legs.map lgA).length (List.drop 0 ((a.legs.map fun g=>mkL g now).map lgA)))],.agg [iA b.id,iA b.vh,iA b.cls,iA b.til,.sl false (List.take (b.legs.map lgA).length (List.drop 0 ((b.legs.map fun g=>mkL g now).map lgA)))]]=_
 simp only[tkM]
 rfl
theorem mark2_n3 (a b c:Rq) (ha:1≤a.legs.length) (ga:a.legs.length≤1000) (hb:1≤b.legs.length) (gb:b.legs.length≤1000) (hc:1≤c.legs.length) (gc:c.legs.length≤1000) (now:Int):CallSim Tryz.prog 67 [slA rqA [a,b,c],iA now] [] (slA rqA (mkQ [a,b,c] now)) []:=by
 have kc:=copyR_n3 a b c ha ga hb gb hc gc
 have la:=map_len lgA a.legs
 have lb:=map_len lgA b.legs
 have lc:=map_len lgA c.legs
 (refine eN Tryz.func67 Tryz.call67 fun F hF=>?_)
 (have zc1:=kc;refine WW ?_;clear zc1)
 refine sim_rounds 4 [1001,1101,1102,1103] [14,12,13,1,5] rfl ?_
 refine rnd_next (st0:=⟨[(14,iA 0),(12,.ref 1001 0 3),(13,iA 3),(1,iA now),(5,.ref 1001 0 3)],[(1001,.arr 5 [rqO a 1101,rqO b 1102,rqO c 1103] ⟨true,true⟩),(1101,lgM a now 0),(1102,lgM b now 0),(1103,lgM c now 0)]⟩) rfl ?_
 unfold lgM
 (refine WW ?_)
 (refine sim_rng (a.legs) [1101,7,1001,1102,1103] [7,1001,1102,1103] [1,5,7,12,13,14,19,20] [21,1,5,7,12,13,14,19,20] rfl (fun i pre T U=>⟨(21,iA i)::T,(1101,.arr 5 ((mkS a.legs now i).map lgA) false)::U⟩) ?_;(conv=>whnf);refine⟨by rfl,?_,?_⟩)
 ·intro k pre g post hx hk
  have hlt:=rng_lt hx hk
  have hy:=mkS_at now hx hk
  have hs:=mkS_set now hx hk
  have hyl:((mkS a.legs now k).map lgA).length=a.legs.length:=by rw[List.length_map,mkS_len]
  have hset:∀y:AV,(((mkS a.legs now k).map lgA).set k y)[k]? =some y:=fun y=>List.getElem?_set_self (by omega)
  have cw:=wmark2_c g now
  rw[hs]
  clear hx hs
  generalize (mkS a.legs now k).map lgA=ys at*
  generalize mkL g now=g2 at*
  (have zc1:=cw;(repeat' (first|refine WZ ?_|refine SG (I2 (fun hc=>?_) (fun hc=>?_))|refine SG (fun hc=>?_)|(refine is_ops ?_;refine is_call ?_;refine SC ?_)|(refine is_ops ?_;first|fail)|first|refine SR ?_|refine SK (I2 (fun hc=>?_) (fun hc=>?_))|refine SK (fun hc=>?_)|fail))<;>clear zc1)
  rfl
 (refine WW ?_)
 refine rnd_next (st0:=⟨[(14,iA 1),(12,.ref 1001 0 3),(13,iA 3),(1,iA now),(5,.ref 1001 0 3)],[(1001,.arr 5 [rqO a 1101,rqO b 1102,rqO c 1103] ⟨true,true⟩),(1101,lgM a now a.legs.length),(1102,lgM b now 0),(1103,lgM c now 0)]⟩) rfl ?_
 unfold lgM
 (refine WW ?_)
 (refine sim_rng (b.legs) [1102,7,1001,1101,1103] [7,1001,1101,1103] [1,5,7,12,13,14,19,20] [21,1,5,7,12,13,14,19,20] rfl (fun i pre T U=>⟨(21,iA i)::T,(1102,.arr 5 ((mkS b.legs now i).map lgA) false)::U⟩) ?_;(conv=>whnf);refine⟨by rfl,?_,?_⟩)
 ·intro k pre g post hx hk
  have hlt:=rng_lt hx hk
  have hy:=mkS_at now hx hk
  have hs:=mkS_set now hx hk
  have hyl:((mkS b.legs now k).map lgA).length=b.legs.length:=by rw[List.length_map,mkS_len]
  have hset:∀y:AV,(((mkS b.legs now k).map lgA).set k y)[k]? =some y:=fun y=>List.getElem?_set_self (by omega)
  have cw:=wmark2_c g now
  rw[hs]
  clear hx hs
  generalize (mkS b.legs now k).map lgA=ys at*
  generalize mkL g now=g2 at*
  (have zc1:=cw;(repeat' (first|refine WZ ?_|refine SG (I2 (fun hc=>?_) (fun hc=>?_))|refine SG (fun hc=>?_)|(refine is_ops ?_;refine is_call ?_;refine SC ?_)|(refine is_ops ?_;first|fail)|first|refine SR ?_|refine SK (I2 (fun hc=>?_) (fun hc=>?_))|refine SK (fun hc=>?_)|fail))<;>clear zc1)
  rfl
 (refine WW ?_)
 refine rnd_next (st0:=⟨[(14,iA 2),(12,.ref 1001 0 3),(13,iA 3),(1,iA now),(5,.ref 1001 0 3)],[(1001,.arr 5 [rqO a 1101,rqO b 1102,rqO c 1103] ⟨true,true⟩),(1101,lgM a now a.legs.length),(1102,lgM b now b.legs.length),(1103,lgM c now 0)]⟩) rfl ?_
 unfold lgM
 (refine WW ?_)
 (refine sim_rng (c.legs) [1103,7,1001,1101,1102] [7,1001,1101,1102] [1,5,7,12,13,14,19,20] [21,1,5,7,12,13,14,19,20] rfl (fun i pre T U=>⟨(21,iA i)::T,(1103,.arr 5 ((mkS c.legs now i).map lgA) false)::U⟩) ?_;(conv=>whnf);refine⟨by rfl,?_,?_⟩)
 ·intro k pre g post hx hk
  have hlt:=rng_lt hx hk
  have hy:=mkS_at now hx hk
  have hs:=mkS_set now hx hk
  have hyl:((mkS c.legs now k).map lgA).length=c.legs.length:=by rw[List.length_map,mkS_len]
  have hset:∀y:AV,(((mkS c.legs now k).map lgA).set k y)[k]? =some y:=fun y=>List.getElem?_set_self (by omega)
  have cw:=wmark2_c g now
  rw[hs]
  clear hx hs
  generalize (mkS c.legs now k).map lgA=ys at*
  generalize mkL g now=g2 at*
  (have zc1:=cw;(repeat' (first|refine WZ ?_|refine SG (I2 (fun hc=>?_) (fun hc=>?_))|refine SG (fun hc=>?_)|(refine is_ops ?_;refine is_call ?_;refine SC ?_)|(refine is_ops ?_;first|fail)|first|refine SR ?_|refine SK (I2 (fun hc=>?_) (fun hc=>?_))|refine SK (fun hc=>?_)|fail))<;>clear zc1)
  rfl
 (refine WW ?_)
 refine rnd_next (st0:=⟨[(14,iA 3),(12,.ref 1001 0 3),(13,iA 3),(1,iA now),(5,.ref 1001 0 3)],[(1001,.arr 5 [rqO a 1101,rqO b 1102,rqO c 1103] ⟨true,true⟩),(1101,lgM a now a.legs.length),(1102,lgM b now b.legs.length),(1103,lgM c now c.legs.length)]⟩) rfl ?_
 unfold lgM
 simp only[mkS_all]
 (refine WW ?_)
 refine fin_ret [] rfl rfl ?_ rfl
 show AV.sl false [.agg [iA a.id,iA a.vh,iA a.cls,iA a.til,.sl false (List.take (a.legs.map lgA).length (List.drop 0 ((a.legs.map fun g=>mkL g now).map lgA)))],.agg [iA b.id,iA b.vh,iA b.cls,iA b.til,.sl false (List.take (b.legs.map lgA).length (List.drop 0 ((b.legs.map fun g=>mkL g now).map lgA)))],.agg [iA c.id,iA c.vh,iA c.cls,iA c.til,.sl false (List.take (c.legs.map lgA).length (List.drop 0 ((c.legs.map fun g=>mkL g now).map lgA)))]]=_
 simp only[tkM]
 rfl
theorem mark2_n4 (a b c d:Rq) (ha:1≤a.legs.length) (ga:a.legs.length≤1000) (hb:1≤b.legs.length) (gb:b.legs.length≤1000) (hc:1≤c.legs.length) (gc:c.legs.length≤1000) (hd:1≤d.legs.length) (gd:d.legs.length≤1000) (now:Int):CallSim Tryz.prog 67 [slA rqA [a,b,c,d],iA now] [] (slA rqA (mkQ [a,b,c,d] now)) []:=by
 have kc:=copyR_n4 a b c d ha ga hb gb hc gc hd gd
 have la:=map_len lgA a.legs
 have lb:=map_len lgA b.legs
 have lc:=map_len lgA c.legs
 have ld:=map_len lgA d.legs
 (refine eN Tryz.func67 Tryz.call67 fun F hF=>?_)
 (have zc1:=kc;refine WW ?_;clear zc1)
 refine sim_rounds 5 [1001,1101,1102,1103,1104] [14,12,13,1,5] rfl ?_
 refine rnd_next (st0:=⟨[(14,iA 0),(12,.ref 1001 0 4),(13,iA 4),(1,iA now),(5,.ref 1001 0 4)],[(1001,.arr 5 [rqO a 1101,rqO b 1102,rqO c 1103,rqO d 1104] ⟨true,true⟩),(1101,lgM a now 0),(1102,lgM b now 0),(1103,lgM c now 0),(1104,lgM d now 0)]⟩) rfl ?_
 unfold lgM
 (refine WW ?_)
 (refine sim_rng (a.legs) [1101,7,1001,1102,1103,1104] [7,1001,1102,1103,1104] [1,5,7,12,13,14,19,20] [21,1,5,7,12,13,14,19,20] rfl (fun i pre T U=>⟨(21,iA i)::T,(1101,.arr 5 ((mkS a.legs now i).map lgA) false)::U⟩) ?_;(conv=>whnf);refine⟨by rfl,?_,?_⟩)
 ·intro k pre g post hx hk
  have hlt:=rng_lt hx hk
  have hy:=mkS_at now hx hk
  have hs:=mkS_set now hx hk
  have hyl:((mkS a.legs now k).map lgA).length=a.legs.length:=by rw[List.length_map,mkS_len]
  have hset:∀y:AV,(((mkS a.legs now k).map lgA).set k y)[k]? =some y:=fun y=>List.getElem?_set_self (by omega)
  have cw:=wmark2_c g now
  rw[hs]
  clear hx hs
  generalize (mkS a.legs now k).map lgA=ys at*
  generalize mkL g now=g2 at*
  (have zc1:=cw;(repeat' (first|refine WZ ?_|refine SG (I2 (fun hc=>?_) (fun hc=>?_))|refine SG (fun hc=>?_)|(refine is_ops ?_;refine is_call ?_;refine SC ?_)|(refine is_ops ?_;first|fail)|first|refine SR ?_|refine SK (I2 (fun hc=>?_) (fun hc=>?_))|refine SK (fun hc=>?_)|fail))<;>clear zc1)
  rfl
 (refine WW ?_)
 refine rnd_next (st0:=⟨[(14,iA 1),(12,.ref 1001 0 4),(13,iA 4),(1,iA now),(5,.ref 1001 0 4)],[(1001,.arr 5 [rqO a 1101,rqO b 1102,rqO c 1103,rqO d 1104] ⟨true,true⟩),(1101,lgM a now a.legs.length),(1102,lgM b now 0),(1103,lgM c now 0),(1104,lgM d now 0)]⟩) rfl ?_
 unfold lgM
 (refine WW ?_)
 (refine sim_rng (b.legs) [1102,7,1001,1101,1103,1104] [7,1001,1101,1103,1104] [1,5,7,12,13,14,19,20] [21,1,5,7,12,13,14,19,20] rfl (fun i pre T U=>⟨(21,iA i)::T,(1102,.arr 5 ((mkS b.legs now i).map lgA) false)::U⟩) ?_;(conv=>whnf);refine⟨by rfl,?_,?_⟩)
 ·intro k pre g post hx hk
  have hlt:=rng_lt hx hk
  have hy:=mkS_at now hx hk
  have hs:=mkS_set now hx hk
  have hyl:((mkS b.legs now k).map lgA).length=b.legs.length:=by rw[List.length_map,mkS_len]
  have hset:∀y:AV,(((mkS b.legs now k).map lgA).set k y)[k]? =some y:=fun y=>List.getElem?_set_self (by omega)
  have cw:=wmark2_c g now
  rw[hs]
  clear hx hs
  generalize (mkS b.legs now k).map lgA=ys at*
  generalize mkL g now=g2 at*
  (have zc1:=cw;(repeat' (first|refine WZ ?_|refine SG (I2 (fun hc=>?_) (fun hc=>?_))|refine SG (fun hc=>?_)|(refine is_ops ?_;refine is_call ?_;refine SC ?_)|(refine is_ops ?_;first|fail)|first|refine SR ?_|refine SK (I2 (fun hc=>?_) (fun hc=>?_))|refine SK (fun hc=>?_)|fail))<;>clear zc1)
  rfl
 (refine WW ?_)
 refine rnd_next (st0:=⟨[(14,iA 2),(12,.ref 1001 0 4),(13,iA 4),(1,iA now),(5,.ref 1001 0 4)],[(1001,.arr 5 [rqO a 1101,rqO b 1102,rqO c 1103,rqO d 1104] ⟨true,true⟩),(1101,lgM a now a.legs.length),(1102,lgM b now b.legs.length),(1103,lgM c now 0),(1104,lgM d now 0)]⟩) rfl ?_
 unfold lgM
 (refine WW ?_)
 (refine sim_rng (c.legs) [1103,7,1001,1101,1102,1104] [7,1001,1101,1102,1104] [1,5,7,12,13,14,19,20] [21,1,5,7,12,13,14,19,20] rfl (fun i pre T U=>⟨(21,iA i)::T,(1103,.arr 5 ((mkS c.legs now i).map lgA) false)::U⟩) ?_;(conv=>whnf);refine⟨by rfl,?_,?_⟩)
 ·intro k pre g post hx hk
  have hlt:=rng_lt hx hk
  have hy:=mkS_at now hx hk
  have hs:=mkS_set now hx hk
  have hyl:((mkS c.legs now k).map lgA).length=c.legs.length:=by rw[List.length_map,mkS_len]
  have hset:∀y:AV,(((mkS c.legs now k).map lgA).set k y)[k]? =some y:=fun y=>List.getElem?_set_self (by omega)
  have cw:=wmark2_c g now
  rw[hs]
  clear hx hs
  generalize (mkS c.legs now k).map lgA=ys at*
  generalize mkL g now=g2 at*
  (have zc1:=cw;(repeat' (first|refine WZ ?_|refine SG (I2 (fun hc=>?_) (fun hc=>?_))|refine SG (fun hc=>?_)|(refine is_ops ?_;refine is_call ?_;refine SC ?_)|(refine is_ops ?_;first|fail)|first|refine SR ?_|refine SK (I2 (fun hc=>?_) (fun hc=>?_))|refine SK (fun hc=>?_)|fail))<;>clear zc1)
  rfl
 (refine WW ?_)
 refine rnd_next (st0:=⟨[(14,iA 3),(12,.ref 1001 0 4),(13,iA 4),(1,iA now),(5,.ref 1001 0 4)],[(1001,.arr 5 [rqO a 1101,rqO b 1102,rqO c 1103,rqO d 1104] ⟨true,true⟩),(1101,lgM a now a.legs.length),(1102,lgM b now b.legs.length),(1103,lgM c now c.legs.length),(1104,lgM d now 0)]⟩) rfl ?_
 unfold lgM
 (refine WW ?_)
 (refine sim_rng (d.legs) [1104,7,1001,1101,1102,1103] [7,1001,1101,1102,1103] [1,5,7,12,13,14,19,20] [21,1,5,7,12,13,14,19,20] rfl (fun i pre T U=>⟨(21,iA i)::T,(1104,.arr 5 ((mkS d.legs now i).map lgA) false)::U⟩) ?_;(conv=>whnf);refine⟨by rfl,?_,?_⟩)
 ·intro k pre g post hx hk
  have hlt:=rng_lt hx hk
  have hy:=mkS_at now hx hk
  have hs:=mkS_set now hx hk
  have hyl:((mkS d.legs now k).map lgA).length=d.legs.length:=by rw[List.length_map,mkS_len]
  have hset:∀y:AV,(((mkS d.legs now k).map lgA).set k y)[k]? =some y:=fun y=>List.getElem?_set_self (by omega)
  have cw:=wmark2_c g now
  rw[hs]
  clear hx hs
  generalize (mkS d.legs now k).map lgA=ys at*
  generalize mkL g now=g2 at*
  (have zc1:=cw;(repeat' (first|refine WZ ?_|refine SG (I2 (fun hc=>?_) (fun hc=>?_))|refine SG (fun hc=>?_)|(refine is_ops ?_;refine is_call ?_;refine SC ?_)|(refine is_ops ?_;first|fail)|first|refine SR ?_|refine SK (I2 (fun hc=>?_) (fun hc=>?_))|refine SK (fun hc=>?_)|fail))<;>clear zc1)
  rfl
 (refine WW ?_)
 refine rnd_next (st0:=⟨[(14,iA 4),(12,.ref 1001 0 4),(13,iA 4),(1,iA now),(5,.ref 1001 0 4)],[(1001,.arr 5 [rqO a 1101,rqO b 1102,rqO c 1103,rqO d 1104] ⟨true,true⟩),(1101,lgM a now a.legs.length),(1102,lgM b now b.legs.length),(1103,lgM c now c.legs.length),(1104,lgM d now d.legs.length)]⟩) rfl ?_
 unfold lgM
 simp only[mkS_all]
 (refine WW ?_)
 refine fin_ret [] rfl rfl ?_ rfl
 show AV.sl false [.agg [iA a.id,iA a.vh,iA a.cls,iA a.til,.sl false (List.take (a.legs.map lgA).length (List.drop 0 ((a.legs.map fun g=>mkL g now).map lgA)))],.agg [iA b.id,iA b.vh,iA b.cls,iA b.til,.sl false (List.take (b.legs.map lgA).length (List.drop 0 ((b.legs.map fun g=>mkL g now).map lgA)))],.agg [iA c.id,iA c.vh,iA c.cls,iA c.til,.sl false (List.take (c.legs.map lgA).length (List.drop 0 ((c.legs.map fun g=>mkL g now).map lgA)))],.agg [iA d.id,iA d.vh,iA d.cls,iA d.til,.sl false (List.take (d.legs.map lgA).length (List.drop 0 ((d.legs.map fun g=>mkL g now).map lgA)))]]=_
 simp only[tkM]
 rfl
theorem mark_c (l:List Rq) (now:Int) (hv:RqV l):CallSim Tryz.prog 66 [slA rqA l,iA now] [] (slA rqA (mkQ l now)) []:=by
 have h4:=hv.n4
 have hb:∀r∈l,1≤r.legs.length∧r.legs.length≤1000:=fun r hr=>by have:=hv.lg3 hr;omega
 match l,h4,hb with
 | [],_,_=>
  have kc:=cloneAll_nil
  (refine eN Tryz.func66 Tryz.call66 fun F hF=>?_)
  (have zc1:=kc;refine WW ?_;clear zc1)
  refine sim_rounds 1 [] [13,11,12,1,5] rfl ?_
  refine rnd_next (st0:=⟨[(13,iA 0),(11,.s (.slice none 0 0)),(12,iA 0),(1,iA now),(5,.s (.slice none 0 0))],[]⟩) rfl ?_
  (refine WW ?_)
  exact fr0
 | [a],_,hb=>exact mark_n1 a (hb a (by simp)).1 (hb a (by simp)).2 now
 | [a,b],_,hb=>exact mark_n2 a b (hb a (by simp)).1 (hb a (by simp)).2 (hb b (by simp)).1 (hb b (by simp)).2 now
 | [a,b,c],_,hb=>exact mark_n3 a b c (hb a (by simp)).1 (hb a (by simp)).2 (hb b (by simp)).1 (hb b (by simp)).2 (hb c (by simp)).1 (hb c (by simp)).2 now
 | [a,b,c,d],_,hb=>exact mark_n4 a b c d (hb a (by simp)).1 (hb a (by simp)).2 (hb b (by simp)).1 (hb b (by simp)).2 (hb c (by simp)).1 (hb c (by simp)).2 (hb d (by simp)).1 (hb d (by simp)).2 now
 |_::_::_::_::_::_,h,_=>simp at h
theorem mark2_c (l:List Rq) (now:Int) (hv:RqV l):CallSim Tryz.prog 67 [slA rqA l,iA now] [] (slA rqA (mkQ l now)) []:=by
 have h4:=hv.n4
 have hb:∀r∈l,1≤r.legs.length∧r.legs.length≤1000:=fun r hr=>by have:=hv.lg3 hr;omega
 match l,h4,hb with
 | [],_,_=>
  have kc:=copy2_q [] (by simp) (fun r hr=>by simp at hr)
  (refine eN Tryz.func67 Tryz.call67 fun F hF=>?_)
  (have zc1:=kc;refine WW ?_;clear zc1)
  refine sim_rounds 1 [] [14,12,13,1,5] rfl ?_
  refine rnd_next (st0:=⟨[(14,iA 0),(12,.sl false []),(13,iA 0),(1,iA now),(5,.sl false [])],[]⟩) rfl ?_
  (refine WW ?_)
  exact fr0
 | [a],_,hb=>exact mark2_n1 a (hb a (by simp)).1 (hb a (by simp)).2 now
 | [a,b],_,hb=>exact mark2_n2 a b (hb a (by simp)).1 (hb a (by simp)).2 (hb b (by simp)).1 (hb b (by simp)).2 now
 | [a,b,c],_,hb=>exact mark2_n3 a b c (hb a (by simp)).1 (hb a (by simp)).2 (hb b (by simp)).1 (hb b (by simp)).2 (hb c (by simp)).1 (hb c (by simp)).2 now
 | [a,b,c,d],_,hb=>exact mark2_n4 a b c d (hb a (by simp)).1 (hb a (by simp)).2 (hb b (by simp)).1 (hb b (by simp)).2 (hb c (by simp)).1 (hb c (by simp)).2 (hb d (by simp)).1 (hb d (by simp)).2 now
 |_::_::_::_::_::_,h,_=>simp at h
theorem mkL_ok (g:Lg) (now:Int) (n0:0≤now) (n1:now≤1073741824):(mkL g now).jn=g.jn∧(mkL g now).ph=g.ph∧(lvB g=true→lvB (mkL g now)=true):=by
 unfold mkL
 split
 ·split
  ·refine⟨rfl,rfl,fun h=>?_⟩
   unfold lvB at*
   rw[decide_eq_true_eq]at*
   dsimp only
   omega
  ·exact⟨rfl,rfl,id⟩
 ·refine⟨rfl,rfl,fun h=>?_⟩
  unfold lvB at*
  rw[decide_eq_true_eq]at*
  dsimp only
  omega
theorem lgsF_mk {now:Int} (n0:0≤now) (n1:now≤1073741824):∀(gs pre pre':List Lg),pre'.map (·.jn)=pre.map (·.jn)→lgsF pre gs=true→lgsF pre' (gs.map fun g=>mkL g now)=true
 | [],_,_,_,_=>rfl
 |x::post,pre,pre',hp,h=>by
  obtain⟨e1,_,e3⟩:=mkL_ok x now n0 n1
  have ha:∀(l:List Lg),(l.any fun y=>y.jn==x.jn)=(l.map (·.jn)).any fun n=>n==x.jn:=fun l=>by rw[List.any_map];rfl
  rw[lgsF,Bool.and_eq_true,Bool.and_eq_true]at h
  rw[List.map_cons,lgsF,e3 h.1,e1,ha,hp,←ha,h.2.1,Bool.true_and,Bool.true_and]
  exact lgsF_mk n0 n1 post (pre++[x]) (pre'++[mkL x now]) (by rw[List.map_append,List.map_append,hp];simp[e1]) h.2.2
theorem mkQ_v {l:List Rq} (hv:RqV l) (now:Int) (n0:0≤now) (n1:now≤1073741824):RqV (mkQ l now):=by
 refine⟨fun r hr=>?_,?_,by unfold mkQ;rw[List.length_map];exact hv.n4⟩
 ·obtain⟨x,hx,rfl⟩:=List.mem_map.1 hr
  have h:=hv.ok x hx
  refine⟨h.i0,h.i1,h.v0,h.v1,h.c0,h.c1,h.t0,h.t1,?_⟩
  have h1:=h.lg
  rw[vgF,Bool.and_eq_true]at h1
  unfold vgF mkR
  dsimp only
  rw[Bool.and_eq_true,List.length_map]
  exact⟨h1.1,lgsF_mk n0 n1 x.legs [] [] rfl h1.2⟩
 ·unfold mkQ
  rw[List.pairwise_map]
  exact hv.so
end Av
end Go.Proofs.YtaikgchmpieooaaGreat
