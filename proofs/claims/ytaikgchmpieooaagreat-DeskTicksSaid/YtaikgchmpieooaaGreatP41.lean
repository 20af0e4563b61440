/- Part 41: contracts of the functions, and what they rest upon. -/
import Derived.Test.YtaikgchmpieooaaGreatP40
import Derived.Test.YtaikgchmpieooaaGreatP37
import Derived.Test.YtaikgchmpieooaaGreatP29
import Derived.Test.YtaikgchmpieooaaGreatP16
namespace Go.Proofs.YtaikgchmpieooaaGreat
namespace Av
set_option linter.unusedSimpArgs false
set_option linter.unusedVariables false
section
set_option maxRecDepth 4000
set_option maxHeartbeats 4000000
section
variable (c:Cf) (d:Dsk) (s now:Int) (tk0:List Int) (sl:Int)
theorem rD_hello:CallSim Tryz.prog 48 [cfA c,dskA d,iA s,msA ⟨1,tk0,[],[]⟩,iA sl,iA now] [] (hT d (helloM d now) (-1) 0) []:=by
 rw[show msA ⟨1,tk0,[],[]⟩= .agg [iA 1,slA yA tk0,.sl false [],.sl false []]from rfl]
 unfold cfA hT helloM dskA dskX msA
 (refine eN Tryz.func48 Tryz.call48 fun F hF=>?_)
 (refine WL ?_)
 exact fr0
theorem rD_reg (k:Int) (ar:List Int) (a:Int) (ar1:List Int) (har:ar=a::ar1) (hk:k=2∨k=3∨k=4∨k=5) (d':Dsk) (p:Ms) (e:Int) (k4:CallSim Tryz.prog 88 [dskA d,msA ⟨k,tk0,ar,[]⟩,iA sl,iA now] [] (.tup [dskA d',msA p,iA e]) []):
  CallSim Tryz.prog 48 [cfA c,dskA d,iA s,msA ⟨k,tk0,ar,[]⟩,iA sl,iA now] [] (hT d' p (-1) e) []:=by
 subst har
 rw[show msA ⟨k,tk0,a::ar1,[]⟩= .agg [iA k,slA yA tk0,.sl false (iA a::ar1.map iA),.sl false []]from rfl]at*
 have hl:(iA a::ar1.map iA).length=ar1.length+1:=by rw[List.length_cons,List.length_map]
 unfold dskA dskX msA at k4
 unfold cfA hT dskA dskX msA
 rcases hk with rfl|rfl|rfl|rfl
 all_goals
  (refine eN Tryz.func48 Tryz.call48 fun F hF=>?_)
  (have zc1:=k4;refine WL ?_;clear zc1)
  exact fr0
theorem rD_sub (ar:List Int) (a:Int) (ar1:List Int) (har:ar=a::ar1) (h0:0≤sl) (h1:sl<(d.rg.tk.length:Int)) (d':Dsk) (e:Int) (k4:CallSim Tryz.prog 89 [cfA c,dskA d,msA ⟨6,tk0,ar,[]⟩,iA (d.rg.tk.getD sl.toNat default).cls,iA now] [] (.tup [dskA d',iA e]) []):
  CallSim Tryz.prog 48 [cfA c,dskA d,iA s,msA ⟨6,tk0,ar,[]⟩,iA sl,iA now] [] (hT d' (ackM 6 a) (-1) e) []:=by
 subst har
 rw[show msA ⟨6,tk0,a::ar1,[]⟩= .agg [iA 6,slA yA tk0,.sl false (iA a::ar1.map iA),.sl false []]from rfl]at*
 have hl:(iA a::ar1.map iA).length=ar1.length+1:=by rw[List.length_cons,List.length_map]
 have hlt:=map_len tkA d.rg.tk
 have hyt:=map_atI tkA d.rg.tk sl h0 h1
 generalize (d.rg.tk.getD sl.toNat default)=t at*
 rw[show tkA t= .agg [bA t.used,slA yA t.sec,iA t.par,iA t.rights,iA t.cls,iA t.til]from rfl]at hyt
 unfold cfA dskA dskX at k4
 unfold cfA hT ackM dskA dskX msA
 (refine eN Tryz.func48 Tryz.call48 fun F hF=>?_)
 (have zc1:=k4;refine WL ?_;clear zc1)
 exact fr0
theorem rD_upd (ar:List Int) (a:Int) (ar1:List Int) (har:ar=a::ar1) (d':Dsk) (e:Int) (k4:CallSim Tryz.prog 90 [dskA d,msA ⟨7,tk0,ar,[]⟩,iA now] [] (.tup [dskA d',iA e]) []):
  CallSim Tryz.prog 48 [cfA c,dskA d,iA s,msA ⟨7,tk0,ar,[]⟩,iA sl,iA now] [] (hT d' (ackM 7 a) (-1) e) []:=by
 subst har
 rw[show msA ⟨7,tk0,a::ar1,[]⟩= .agg [iA 7,slA yA tk0,.sl false (iA a::ar1.map iA),.sl false []]from rfl]at*
 have hl:(iA a::ar1.map iA).length=ar1.length+1:=by rw[List.length_cons,List.length_map]
 unfold dskA dskX at k4
 unfold cfA hT ackM dskA dskX msA
 (refine eN Tryz.func48 Tryz.call48 fun F hF=>?_)
 (have zc1:=k4;refine WL ?_;clear zc1)
 exact fr0
theorem rD_can (a:Int) (l:List Rq) (e:Int) (k4:CallSim Tryz.prog 91 [slA rqA d.rq,iA a] [] (.tup [slA rqA l,iA e]) []):
  CallSim Tryz.prog 48 [cfA c,dskA d,iA s,msA ⟨8,tk0,[a],[]⟩,iA sl,iA now] [] (hT (dkQ d (if e=0 then l else d.rq)) (ackM 8 a) (-1) e) []:=by
 rw[show msA ⟨8,tk0,[a],[]⟩= .agg [iA 8,slA yA tk0,.sl false [iA a],.sl false []]from rfl]
 unfold cfA dkQ hT ackM dskA dskX msA
 by_cases he:e=0
 ·subst he
  rw[if_pos rfl]
  (refine eN Tryz.func48 Tryz.call48 fun F hF=>?_)
  (have zc1:=k4;refine WL ?_;clear zc1)
  exact fr0
 ·rw[if_neg he]
  (refine eN Tryz.func48 Tryz.call48 fun F hF=>?_)
  (have zc1:=k4;refine WL ?_;clear zc1)
  exact fr0
theorem rD_left (k4:CallSim Tryz.prog 92 [dskA d] [] (msA (leftM d)) []):CallSim Tryz.prog 48 [cfA c,dskA d,iA s,msA ⟨12,tk0,[],[]⟩,iA sl,iA now] [] (hT d (leftM d) (-1) 0) []:=by
 rw[show msA ⟨12,tk0,[],[]⟩= .agg [iA 12,slA yA tk0,.sl false [],.sl false []]from rfl]
 generalize leftM d=p at*
 unfold dskA dskX msA at k4
 unfold cfA hT dskA dskX msA
 (refine eN Tryz.func48 Tryz.call48 fun F hF=>?_)
 (have zc1:=k4;refine WL ?_;clear zc1)
 exact fr0
theorem rD_resE (a:Int) (ha:(c.js.length:Int)≤a):CallSim Tryz.prog 48 [cfA c,dskA d,iA s,msA ⟨11,tk0,[a],[]⟩,iA sl,iA now] [] (hT d (ackM 11 a) (-1) 8) []:=by
 have hlj:=map_len jnA c.js
 rw[show msA ⟨11,tk0,[a],[]⟩= .agg [iA 11,slA yA tk0,.sl false [iA a],.sl false []]from rfl]
 unfold cfA hT ackM dskA dskX msA
 (refine eN Tryz.func48 Tryz.call48 fun F hF=>?_)
 (refine WL ?_)
 exact fr0
theorem rD_resO (a:Int) (ha:a<(c.js.length:Int)):CallSim Tryz.prog 48 [cfA c,dskA d,iA s,msA ⟨11,tk0,[a],[]⟩,iA sl,iA now] [] (hT d (ackM 11 a) a 0) []:=by
 have hlj:=map_len jnA c.js
 rw[show msA ⟨11,tk0,[a],[]⟩= .agg [iA 11,slA yA tk0,.sl false [iA a],.sl false []]from rfl]
 unfold cfA hT ackM dskA dskX msA
 (refine eN Tryz.func48 Tryz.call48 fun F hF=>?_)
 (refine WL ?_)
 exact fr0
theorem rD_audE (a:Int) (ha:1<a):CallSim Tryz.prog 48 [cfA c,dskA d,iA s,msA ⟨10,tk0,[a],[]⟩,iA sl,iA now] [] (hT d (ackM 10 a) (-1) 8) []:=by
 rw[show msA ⟨10,tk0,[a],[]⟩= .agg [iA 10,slA yA tk0,.sl false [iA a],.sl false []]from rfl]
 unfold cfA hT ackM dskA dskX msA
 (refine eN Tryz.func48 Tryz.call48 fun F hF=>?_)
 (refine WL ?_)
 exact fr0
theorem rD_audN (a:Int) (ha:a≤1) (hs:¬(0≤s∧s<(d.au.length:Int))):CallSim Tryz.prog 48 [cfA c,dskA d,iA s,msA ⟨10,tk0,[a],[]⟩,iA sl,iA now] [] (hT d (ackM 10 a) (-1) 0) []:=by
 have hla:=map_len bA d.au
 rw[show msA ⟨10,tk0,[a],[]⟩= .agg [iA 10,slA yA tk0,.sl false [iA a],.sl false []]from rfl]
 unfold cfA hT ackM dskA dskX msA
 by_cases h2:0≤s
 ·have h3:(d.au.length:Int)≤s:=by omega
  (refine eN Tryz.func48 Tryz.call48 fun F hF=>?_)
  (refine WL ?_)
  exact fr0
 ·(refine eN Tryz.func48 Tryz.call48 fun F hF=>?_)
  (refine WL ?_)
  exact fr0
theorem rD_list (hb:DskB d):CallSim Tryz.prog 48 [cfA c,dskA d,iA s,msA ⟨9,tk0,[],[]⟩,iA sl,iA now] [] (hT d (listM d) (-1) 0) []:=by
 have hq:=hb.q
 have hlq:=map_len rqA d.rq
 rw[show msA ⟨9,tk0,[],[]⟩= .agg [iA 9,slA yA tk0,.sl false [],.sl false []]from rfl]
 unfold cfA hT listM dskA dskX msA
 (refine eN Tryz.func48 Tryz.call48 fun F hF=>?_)
 (refine WL ?_)
 refine sim_virt 21 1001 1 rfl rfl rfl ?_
 (refine sim_rng (d.rq) [1001,7,12,13,17] [7,12,13,17] [7,12,13,17,18,105,106] [21,107,7,12,13,17,18,105,106] rfl (fun i pre T U=>⟨(21,.ref 1001 0 ((holdF pre).map iA).length)::(107,iA i)::T,(1001,.arr 1 ((holdF pre).map iA) true)::U⟩) ?_;(conv=>whnf);refine⟨by rfl,?_,?_⟩)
 ·intro i pre x post hx hi
  have hy:=rng_at rqA hx hi
  have hlt2:=rng_lt hx hi
  have hle:=holdF_len pre
  have hlm:=map_len iA (holdF pre)
  have e:=holdF_snoc pre x
  clear hx
  rw[e]
  generalize (holdF pre).map iA=xs at*
  (refine WW ?_)
  rfl
 ·(refine WD ?_)
  refine sim_restrC [6,7,9,12,13,17] [6,7,9,12,13,14,15,16,17,18,21] rfl ?_
  (conv=>whnf)
  simp only[List.drop_zero,List.take_length]
  (refine WL ?_)
  exact fr0
end
end
section
set_option maxRecDepth 4000
set_option maxHeartbeats 4000000
def dskO (d:Dsk):AV:=dskX d.rg (slA rqA d.rq) (slA sYA d.dr) (.ref 1004 0 (d.au.map bA).length)
def auE (l:List Bool):Ent:= .arr 1 (l.map bA) false
def hTO (d:Dsk) (p:Ms) (k e:Int):AV:= .tup [dskO d,msA p,iA k,iA e]
theorem cloneB_o (l:List Bool) (h1:1≤l.length) (hl:l.length≤1073741824):CallSim Tryz.prog 85 [slA bA l] [] (.ref 1004 0 (l.map bA).length) [(1004,auE l)]:=by
 have hll:=map_len bA l
 unfold auE
 (refine eN Tryz.func85 Tryz.call85 fun F hF=>?_)
 refine sim_nsplit 0 rfl (fun cap hx=>?_) ?_
 ·have:l=[]:=by simpa using hx
  subst this
  simp at h1
 ·repeat' (first|(refine is_ops ?_;first|refine x_auto tok rfl rfl ?_|(refine is_bin ?_;refine x_q (stp_eqlNil_not tok (.inl ⟨rfl,rfl⟩) rfl rfl rfl rfl) rfl ?_)|(refine is_bsl ?_;refine x_w (nw:=[1004]) (stp_buildSlice tok 1004 (xs:=[]) rfl rfl rfl rfl rfl rfl rfl rfl rfl) rfl rfl rfl ?_)|(refine is_app ?_;refine x_appref0 tok rfl rfl rfl rfl rfl rfl rfl (map_hd _ _ (fun _=>rfl)) rfl rfl rfl (by omega) rfl ?_)|refine x_nil ?_)|(first|refine sim_seq ?_|refine x_region ?_|refine x_draw rfl ?_|refine sim_cond_true rfl ?_|refine sim_cond_false rfl ?_|refine sim_cond rfl (fun hc=>?_) (fun hc=>?_)|refine sim_skip ?_|refine sim_ret ?_|refine sim_exit ?_|refine sim_block ?_))
  exact fin_own [1004] rfl rfl rfl rfl
theorem cpDesk_o (d:Dsk) (hb:DskB d) (h1:1≤d.au.length):CallSim Tryz.prog 45 [dskA d] [] (dskO d) [(1004,auE d.au)]:=by
 have k1:=cpReg_c d.rg hb.rg
 have hq:=hb.q
 have hdn:=hb.n
 have hau:=hb.a
 have k2:=cloneQ_own d.rq (by omega)
 have k3:=cloneD_own d.dr (by omega)
 have k4:=cloneB_o d.au h1 (by omega)
 have hlq:=map_len rqA d.rq
 have hld:=map_len sYA d.dr
 unfold dskO dskA dskX
 unfold auE at*
 unfold rgA at k1
 (refine eN Tryz.func45 Tryz.call45 fun F hF=>?_)
 (have zc1:=k1;have zc2:=k2;refine WW ?_;clear zc1 zc2)
 (refine sim_cnt ((d.rq.map rqA).length) [1001,1,2] [1,2] [1,2,15] [16,1,2,15] rfl (fun i T U=>⟨(16,iA i)::T,(1001,.arr 5 (kpL i (d.rq.map rqA)) false)::U⟩) ?_;(conv=>whnf);refine⟨by rfl,?_,?_⟩)
 ·intro i hi
  have hi':i<d.rq.length:=by omega
  have hy:(kpL i (d.rq.map rqA))[i]? =some (rqA (d.rq.getD i default)):=map_at rqA d.rq i hi'
  have e:=set_at rqA d.rq i hi'
  have c2:=cloneLg_c (d.rq.getD i default).legs (hb.g (d.rq.getD i default) (by simp[List.getD,hi']))
  generalize (d.rq.getD i default)=t at*
  generalize kpL i (d.rq.map rqA)=xs at*
  generalize kpL (i+1) (d.rq.map rqA)=ys at*
  subst e
  (have zc1:=c2;refine WW ?_;clear zc1)
  rfl
 ·(have zc1:=k3;refine WW ?_;clear zc1)
  (refine sim_cnt ((d.dr.map sYA).length) [1002,1,2,1001] [1,2,1001] [1,2,38] [39,1,2,38] rfl (fun i T U=>⟨(39,iA i)::T,(1002,.arr 1 (kpL i (d.dr.map sYA)) false)::U⟩) ?_;(conv=>whnf);refine⟨by rfl,?_,?_⟩)
  ·intro i hi
   have hi':i<d.dr.length:=by omega
   have hy:(kpL i (d.dr.map sYA))[i]? =some (sYA (d.dr.getD i default)):=map_at sYA d.dr i hi'
   have e:=set_at sYA d.dr i hi'
   have c2:=cloneY_c (d.dr.getD i default) (by have:=hb.e (d.dr.getD i default) (by simp[List.getD,hi']);omega)
   generalize (d.dr.getD i default)=t at*
   generalize kpL i (d.dr.map sYA)=xs at*
   generalize kpL (i+1) (d.dr.map sYA)=ys at*
   subst e
   (have zc1:=c2;refine WW ?_;clear zc1)
   rfl
  ·(have zc1:=k4;refine WW ?_;clear zc1)
   refine fin_ret [1004] rfl rfl ?_ rfl
   show dskX d.rg (.sl false ((d.rq.map rqA).take (d.rq.map rqA).length)) (.sl false ((d.dr.map sYA).take (d.dr.map sYA).length)) (.ref 1004 0 (d.au.map bA).length)=_
   rw[List.take_length,List.take_length]
   rfl
theorem copyDesk_o (d:Dsk) (hb:DskB d):CallSim Tryz.prog 22 [dskA d] [] (dskO d) [(1004,auE d.au)]:=by
 have k1:=copyG_c d.rg hb.rg
 have k2:=copy2_q d.rq hb.q hb.g
 have hq:=hb.q
 have hdn:=hb.n
 have hau:=hb.a
 have hlq:=map_len rqA d.rq
 have hld:=map_len sYA d.dr
 have hla:=map_len bA d.au
 unfold dskO dskA dskX
 unfold auE
 unfold rgA at k1
 (refine eN Tryz.func22 Tryz.call22 fun F hF=>?_)
 (have zc1:=k1;have zc2:=k2;(repeat' (first|refine WZ ?_|refine SG (I2 (fun hc=>?_) (fun hc=>?_))|refine SG (fun hc=>?_)|(refine is_ops ?_;refine is_call ?_;refine SC ?_)|(refine is_ops ?_;first|(refine is_app ?_;refine x_appnilK 1004 tok rfl rfl rfl rfl rfl rfl (map_hd _ _ (fun _=>rfl)) rfl rfl rfl (by omega) rfl rfl rfl ?_))|first|refine SR ?_|refine SK (I2 (fun hc=>?_) (fun hc=>?_))|refine SK (fun hc=>?_)|fail))<;>clear zc1 zc2)
 refine sim_virt 4 1001 1 rfl rfl rfl ?_
 (refine sim_rng (d.dr) [1001,2,3,1004] [2,3,1004] [2,3,18,19] [4,20,2,3,18,19] rfl (fun i pre T U=>⟨(4,.ref 1001 0 (pre.map sYA).length)::(20,iA i)::T,(1001,.arr 1 (pre.map sYA) true)::U⟩) ?_;(conv=>whnf);refine⟨by rfl,?_,?_⟩)
 ·intro i pre x post hx hi
  have hy:=rng_at sYA hx hi
  have hlt:=rng_lt hx hi
  have hpl:(pre.map sYA).length=i:=by rw[List.length_map,hi]
  have hs:=hb.e x (rng_mem hx)
  have hsl:=map_len yA x
  have e:(pre++[x]).map sYA=pre.map sYA++[sYA x]:=by simp
  clear hx
  rw[e]
  generalize pre.map sYA=xs at*
  generalize d.dr.map sYA=ls at*
  (refine WL ?_)
  rfl
 ·(refine WL ?_)
  refine fin_ret [1004] rfl rfl ?_ rfl
  show dskX d.rg (slA rqA d.rq) (.sl false ((d.dr.map sYA).take (d.dr.map sYA).length)) (.ref 1004 0 (d.au.map bA).length)=_
  rw[List.take_length]
  rfl
theorem hP_audW (c:Cf) (d:Dsk) (s now:Int) (pa tk0:List Int) (a:Int) (h0:0≤a) (h1:a≤1) (k2:CallSim Tryz.prog 74 [iA 10,slA yA pa] [] (.tup [msA ⟨10,tk0,[a],[]⟩,iA 0]) []) (r:Rg) (sl:Int)
  (k3:CallSim Tryz.prog 75 [rgA d.rg,msA ⟨10,tk0,[a],[]⟩,iA now] [] (.tup [rgA r,iA sl,iA 0]) []) (hs:0≤s∧s<(d.au.length:Int)):
  CallSim Tryz.prog 44 [cfA c,dskO d,iA s,itA ⟨0,10,pa⟩,iA now] [(1004,auE d.au)] (hTO ⟨r,d.rq,d.dr,d.au.set s.toNat (a==1)⟩ (ackM 10 a) (-1) 0) [(1004,auE (d.au.set s.toNat (a==1)))]:=by
 have k1:=forS_c 10
 have k5:=dack_c 10 a
 have hla:=map_len bA d.au
 have hya:=map_at bA d.au s.toNat (by omega)
 unfold ackM msA at k5
 rw[show msA ⟨10,tk0,[a],[]⟩= .agg [iA 10,slA yA tk0,.sl false [iA a],.sl false []]from rfl]at k2 k3
 unfold rgA at k3
 have hls:(d.au.set s.toNat (a==1)).map bA=(d.au.map bA).set s.toNat (bA (a==1)):=List.map_set
 unfold cfA hTO dskO dskX itA ackM msA auE
 dsimp only
 rw[hls,List.length_set]
 generalize d.au.getD s.toNat default=b0 at*
 generalize d.au.map bA=xs at*
 obtain rfl|rfl:a=0∨a=1:=by omega
 all_goals
  (refine eN Tryz.func44 Tryz.call44 fun F hF=>?_)
  (have zc1:=k1;have zc2:=k2;have zc3:=k3;have zc4:=k5;refine WL ?_;clear zc1 zc2 zc3 zc4)
  exact fin_ret [1004] rfl rfl rfl rfl
theorem rD_audW (c:Cf) (d:Dsk) (s now:Int) (tk0:List Int) (sl:Int) (a:Int) (h0:0≤a) (h1:a≤1) (hs:0≤s∧s<(d.au.length:Int)):
  CallSim Tryz.prog 48 [cfA c,dskO d,iA s,msA ⟨10,tk0,[a],[]⟩,iA sl,iA now] [(1004,auE d.au)] (hTO ⟨d.rg,d.rq,d.dr,d.au.set s.toNat (a==1)⟩ (ackM 10 a) (-1) 0) [(1004,auE (d.au.set s.toNat (a==1)))]:=by
 have hla:=map_len bA d.au
 have hya:=map_at bA d.au s.toNat (by omega)
 rw[show msA ⟨10,tk0,[a],[]⟩= .agg [iA 10,slA yA tk0,.sl false [iA a],.sl false []]from rfl]
 have hls:(d.au.set s.toNat (a==1)).map bA=(d.au.map bA).set s.toNat (bA (a==1)):=List.map_set
 unfold cfA hTO dskO dskX ackM msA auE
 dsimp only
 rw[hls,List.length_set]
 generalize d.au.getD s.toNat default=b0 at*
 generalize d.au.map bA=xs at*
 obtain rfl|rfl:a=0∨a=1:=by omega
 all_goals
  (refine eN Tryz.func48 Tryz.call48 fun F hF=>?_)
  (refine WL ?_)
  exact fin_ret [1004] rfl rfl rfl rfl
end
section
set_option maxRecDepth 4000
set_option maxHeartbeats 4000000
def faultM (k e:Int):Ms:=⟨15,[],[k,e],[]⟩
def enA (a k e:Int):AV:= .agg [iA a,iA k,iA e]
structure Hd where
 d:Dsk
 p:Ms
 k:Int
 e:Int
def hdT (n ki:Int) (h:Hd):AV:= .tup [dskA h.d,msA h.p,enA n ki h.e,iA h.k]
def dskD (d:Dsk):AV:=dskX d.rg (slA rqA d.rq) (.ref 1005 0 (d.dr.map sYA).length) (slA bA d.au)
def dkD (d:Dsk):Ent:= .arr 1 (d.dr.map sYA) true
def hdTD (n ki:Int) (h:Hd):AV:= .tup [dskD h.d,msA h.p,enA n ki h.e,iA h.k]
theorem copyDesk_d (d:Dsk) (hb:DskB d):CallSim Tryz.prog 22 [dskA d] [] (dskD d) [(1005,dkD d)]:=by
 have k1:=copyG_c d.rg hb.rg
 have k2:=copy2_q d.rq hb.q hb.g
 have hq:=hb.q
 have hdn:=hb.n
 have hau:=hb.a
 have hlq:=map_len rqA d.rq
 have hld:=map_len sYA d.dr
 have hla:=map_len bA d.au
 unfold dskD dskA dskX
 unfold dkD
 unfold rgA at k1
 (refine eN Tryz.func22 Tryz.call22 fun F hF=>?_)
 (have zc1:=k1;have zc2:=k2;refine WL ?_;clear zc1 zc2)
 refine sim_virt 4 1005 1 rfl rfl rfl ?_
 (refine sim_rng (d.dr) [1005,2,3] [2,3] [2,3,18,19] [4,20,2,3,18,19] rfl (fun i pre T U=>⟨(4,.ref 1005 0 (pre.map sYA).length)::(20,iA i)::T,(1005,.arr 1 (pre.map sYA) true)::U⟩) ?_;(conv=>whnf);refine⟨by rfl,?_,?_⟩)
 ·intro i pre x post hx hi
  have hy:=rng_at sYA hx hi
  have hlt:=rng_lt hx hi
  have hpl:(pre.map sYA).length=i:=by rw[List.length_map,hi]
  have hs:=hb.e x (rng_mem hx)
  have hsl:=map_len yA x
  have e:(pre++[x]).map sYA=pre.map sYA++[sYA x]:=by simp
  clear hx
  rw[e]
  generalize pre.map sYA=xs at*
  generalize d.dr.map sYA=ls at*
  (refine WL ?_)
  rfl
 ·(refine WL ?_)
  exact fin_ret [1005] rfl rfl rfl rfl
def HRc (c:Cf) (d:Dsk) (s now:Int) (i:It) (h:Hd):Prop:=
 CallSim Tryz.prog 17 [cfA c,dskA d,iA s,itA i,iA now] [] (hdT d.rg.num i.kind h) []∧CallSim Tryz.prog 17 [cfA c,dskA d,iA s,itA i,iA now] [] (hdTD d.rg.num i.kind h) [(1005,dkD h.d)]
def hdM (ki:Int) (d:Dsk) (p:Ms) (k e:Int):Hd:=if e=0 then⟨d,p,k,0⟩else⟨d,faultM ki e,-1,e⟩
theorem HP_of (c:Cf) (d:Dsk) (s now:Int) (i:It) (hb:DskB d) (d':Dsk) (p:Ms) (k e:Int) (k4:CallSim Tryz.prog 44 [cfA c,dskA d,iA s,itA i,iA now] [] (hT d' p k e) []):
  CallSim Tryz.prog 16 [cfA c,dskA d,iA s,itA i,iA now] [] (hdT d'.rg.num i.kind (hdM i.kind d' p k e)) []:=by
 have k1:=cpDesk_c d hb
 unfold hT cfA itA at k4
 unfold cfA itA
 unfold dskA dskX msA at*
 by_cases he:e=0
 ·subst he
  unfold hdM hdT enA dskA dskX msA
  rw[if_pos rfl]
  (refine eN Tryz.func16 Tryz.call16 fun F hF=>?_)
  (have zc1:=k1;have zc2:=k4;refine WL ?_;clear zc1 zc2)
  exact fr0
 ·unfold hdM hdT enA faultM dskA dskX msA
  rw[if_neg he]
  (refine eN Tryz.func16 Tryz.call16 fun F hF=>?_)
  (have zc1:=k1;have zc2:=k4;refine WL ?_;clear zc1 zc2)
  exact fr0
theorem HPO_of (c:Cf) (d:Dsk) (s now:Int) (i:It) (hb:DskB d) (h1:1≤d.au.length) (d':Dsk) (p:Ms) (k:Int) (k4:CallSim Tryz.prog 44 [cfA c,dskO d,iA s,itA i,iA now] [(1004,auE d.au)] (hTO d' p k 0) [(1004,auE d'.au)]):
  CallSim Tryz.prog 16 [cfA c,dskA d,iA s,itA i,iA now] [] (hdT d'.rg.num i.kind ⟨d',p,k,0⟩) []:=by
 have k1:=cpDesk_o d hb h1
 unfold hTO cfA itA at k4
 unfold cfA itA
 unfold auE dskO at*
 unfold dskA dskX msA at*
 unfold hdT enA dskA dskX msA
 (refine eN Tryz.func16 Tryz.call16 fun F hF=>?_)
 (have zc1:=k1;have zc2:=k4;refine WL ?_;clear zc1 zc2)
 refine fin_ret [] rfl rfl ?_ rfl
 show AV.tup [dskX d'.rg (slA rqA d'.rq) (slA sYA d'.dr) (.sl false ((d'.au.map bA).take (d'.au.map bA).length)),msA p,enA d'.rg.num i.kind 0,iA k]=_
 rw[List.take_length]
 rfl
section
variable (c:Cf) (d:Dsk) (s now:Int) (hb:DskB d)
include hb
theorem HR_code (i:It) (hc:i.code≠0):HRc c d s now i ⟨d,faultM i.kind i.code,-1,i.code⟩:=by
 have kd:=copyDesk_d d hb
 have k1:=copyDesk_c d hb
 unfold HRc cfA hdT hdTD faultM enA itA dskA dskD dkD dskX msA at*
 refine⟨?_,?_⟩
 ·(refine eN Tryz.func17 Tryz.call17 fun F hF=>?_)
  (have zc1:=k1;refine WL ?_;clear zc1)
  exact fr0
 ·(refine eN Tryz.func17 Tryz.call17 fun F hF=>?_)
  (have zc1:=k1;refine WD ?_;clear zc1)
  (have zc1:=kd;refine WL ?_;clear zc1)
  exact fin_ret [1005] rfl rfl rfl rfl
theorem HR_kind (i:It) (hc:i.code=0) (hk:¬(1≤i.kind∧i.kind≤12)):HRc c d s now i ⟨d,faultM i.kind 5,-1,5⟩:=by
 have kd:=copyDesk_d d hb
 have k1:=copyDesk_c d hb
 have k2:=forS2_c i.kind
 rw[decide_eq_false hk]at k2
 obtain⟨co,ki,pa⟩:=i
 dsimp only at*
 subst hc
 unfold HRc cfA hdT hdTD faultM enA itA dskA dskD dkD dskX msA at*
 refine⟨?_,?_⟩
 ·(refine eN Tryz.func17 Tryz.call17 fun F hF=>?_)
  (have zc1:=k1;have zc2:=k2;refine WL ?_;clear zc1 zc2)
  exact fr0
 ·(refine eN Tryz.func17 Tryz.call17 fun F hF=>?_)
  (have zc1:=k1;have zc2:=k2;refine WD ?_;clear zc1 zc2)
  (have zc1:=kd;refine WL ?_;clear zc1)
  exact fin_ret [1005] rfl rfl rfl rfl
theorem HR_form (k:Int) (pa:List Int) (h0:1≤k) (h1:k≤12) (k3:CallSim Tryz.prog 25 [iA k,slA yA pa] [] (deT k (pa.take 10) none) []):HRc c d s now ⟨0,k,pa⟩ ⟨d,faultM k 6,-1,6⟩:=by
 have kd:=copyDesk_d d hb
 have k1:=copyDesk_c d hb
 have k2:=forS2_c k
 rw[decide_eq_true ⟨h0,h1⟩]at k2
 unfold deT msA at k3
 unfold HRc cfA hdT hdTD faultM enA itA dskA dskD dkD dskX msA at*
 refine⟨?_,?_⟩
 ·(refine eN Tryz.func17 Tryz.call17 fun F hF=>?_)
  (have zc1:=k1;have zc2:=k2;have zc3:=k3;refine WL ?_;clear zc1 zc2 zc3)
  exact fr0
 ·(refine eN Tryz.func17 Tryz.call17 fun F hF=>?_)
  (have zc1:=k1;have zc2:=k2;have zc3:=k3;refine WD ?_;clear zc1 zc2 zc3)
  (have zc1:=kd;refine WL ?_;clear zc1)
  exact fin_ret [1005] rfl rfl rfl rfl
variable (k:Int) (pa tk0 ar:List Int) (h0:1≤k) (h1:k≤12) (k3:CallSim Tryz.prog 25 [iA k,slA yA pa] [] (.tup [msA ⟨k,tk0,ar,[]⟩,iA 0]) [])
include h0 h1 k3
theorem HR_open (r:Rg) (sl e:Int) (he:e≠0) (k4:CallSim Tryz.prog 47 [rgA d.rg,msA ⟨k,tk0,ar,[]⟩,iA now] [] (.tup [rgA r,iA sl,iA e]) []):
  HRc c d s now ⟨0,k,pa⟩ ⟨d,faultM k e,-1,e⟩:=by
 have kd:=copyDesk_d d hb
 have k1:=copyDesk_c d hb
 have k2:=forS2_c k
 rw[decide_eq_true ⟨h0,h1⟩]at k2
 unfold rgA at k4
 unfold HRc cfA hdT hdTD faultM enA itA dskA dskD dkD dskX msA at*
 refine⟨?_,?_⟩
 ·(refine eN Tryz.func17 Tryz.call17 fun F hF=>?_)
  (have zc1:=k1;have zc2:=k2;have zc3:=k3;have zc4:=k4;refine WL ?_;clear zc1 zc2 zc3 zc4)
  exact fr0
 ·(refine eN Tryz.func17 Tryz.call17 fun F hF=>?_)
  (have zc1:=k1;have zc2:=k2;have zc3:=k3;have zc4:=k4;refine WD ?_;clear zc1 zc2 zc3 zc4)
  (have zc1:=kd;refine WL ?_;clear zc1)
  exact fin_ret [1005] rfl rfl rfl rfl
theorem HR_do (r:Rg) (sl:Int) (k4:CallSim Tryz.prog 47 [rgA d.rg,msA ⟨k,tk0,ar,[]⟩,iA now] [] (.tup [rgA r,iA sl,iA 0]) []) (d':Dsk) (hb':DskB d') (p:Ms) (kk e:Int)
  (k5:CallSim Tryz.prog 48 [cfA c,dskA (dkR' d r),iA s,msA ⟨k,tk0,ar,[]⟩,iA sl,iA now] [] (hT d' p kk e) []):
  HRc c d s now ⟨0,k,pa⟩ (hdM k d' p kk e):=by
 have kd:=copyDesk_d d' hb'
 have k1:=copyDesk_c d hb
 have k6:=copyDesk_c d' hb'
 have k2:=forS2_c k
 rw[decide_eq_true ⟨h0,h1⟩]at k2
 unfold rgA at k4
 unfold hT dkR' at k5
 unfold HRc cfA itA dskA dskD dkD dskX msA at*
 by_cases he:e=0
 ·subst he
  unfold hdM hdT hdTD enA dskA dskD dskX msA
  rw[if_pos rfl]
  refine⟨?_,?_⟩
  ·(refine eN Tryz.func17 Tryz.call17 fun F hF=>?_)
   (have zc1:=k1;have zc2:=k2;have zc3:=k3;have zc4:=k4;have zc5:=k5;have zc6:=k6;refine WL ?_;clear zc1 zc2 zc3 zc4 zc5 zc6)
   exact fr0
  ·(refine eN Tryz.func17 Tryz.call17 fun F hF=>?_)
   (have zc1:=k1;have zc2:=k2;have zc3:=k3;have zc4:=k4;have zc5:=k5;refine WD ?_;clear zc1 zc2 zc3 zc4 zc5)
   (have zc1:=kd;refine WL ?_;clear zc1)
   exact fin_ret [1005] rfl rfl rfl rfl
 ·unfold hdM hdT hdTD enA faultM dskA dskD dskX msA
  rw[if_neg he]
  refine⟨?_,?_⟩
  ·(refine eN Tryz.func17 Tryz.call17 fun F hF=>?_)
   (have zc1:=k1;have zc2:=k2;have zc3:=k3;have zc4:=k4;have zc5:=k5;have zc6:=k6;refine WL ?_;clear zc1 zc2 zc3 zc4 zc5 zc6)
   exact fr0
  ·(refine eN Tryz.func17 Tryz.call17 fun F hF=>?_)
   (have zc1:=k1;have zc2:=k2;have zc3:=k3;have zc4:=k4;have zc5:=k5;refine WD ?_;clear zc1 zc2 zc3 zc4 zc5)
   (have zc1:=kd;refine WL ?_;clear zc1)
   exact fin_ret [1005] rfl rfl rfl rfl
theorem HR_doO (r:Rg) (sl:Int) (k4:CallSim Tryz.prog 47 [rgA d.rg,msA ⟨k,tk0,ar,[]⟩,iA now] [] (.tup [rgA r,iA sl,iA 0]) []) (d':Dsk) (hb':DskB d') (p:Ms) (kk:Int)
  (k5:CallSim Tryz.prog 48 [cfA c,dskO (dkR' d r),iA s,msA ⟨k,tk0,ar,[]⟩,iA sl,iA now] [(1004,auE d.au)] (hTO d' p kk 0) [(1004,auE d'.au)]):
  HRc c d s now ⟨0,k,pa⟩ ⟨d',p,kk,0⟩:=by
 have kd:=copyDesk_d d' hb'
 have k1:=copyDesk_o d hb
 have k6:=copyDesk_c d' hb'
 have k2:=forS2_c k
 rw[decide_eq_true ⟨h0,h1⟩]at k2
 unfold rgA at k4
 unfold hTO dkR' at k5
 unfold auE dskO at*
 unfold HRc cfA itA dskA dskD dkD dskX msA at*
 unfold hdT hdTD enA dskA dskD dskX msA
 refine⟨?_,?_⟩
 ·(refine eN Tryz.func17 Tryz.call17 fun F hF=>?_)
  (have zc1:=k1;have zc2:=k2;have zc3:=k3;have zc4:=k4;have zc5:=k5;refine WD ?_;clear zc1 zc2 zc3 zc4 zc5)
  refine sim_restrC [5,6,8,10,11,12,14,17] [5,6,8,10,11,12,13,14,15,16,17] rfl ?_
  (conv=>whnf)
  simp only[List.drop_zero,List.take_length]
  (have zc1:=k6;refine WL ?_;clear zc1)
  exact fr0
 ·(refine eN Tryz.func17 Tryz.call17 fun F hF=>?_)
  (have zc1:=k1;have zc2:=k2;have zc3:=k3;have zc4:=k4;have zc5:=k5;refine WD ?_;clear zc1 zc2 zc3 zc4 zc5)
  refine sim_restrC [5,6,8,10,11,12,14,17] [5,6,8,10,11,12,13,14,15,16,17] rfl ?_
  (conv=>whnf)
  simp only[List.drop_zero,List.take_length]
  (have zc1:=kd;refine WL ?_;clear zc1)
  exact fin_ret [1005] rfl rfl rfl rfl
end
end
section
set_option maxRecDepth 4000
set_option maxHeartbeats 1000000
theorem check2_c (l:List Tk) (hn:l.length≤1000000) (g:Int) (b:List Int) (k now:Int) (hb:BY b):CallSim Tryz.prog 86 [slA tkA l,iA g,slA yA b,iA k,iA now] [] (.tup [iA (if ckB l g b k now=true then b.getD 1 default else 0),iA (if ckB l g b k now=true then 0 else 9)]) []:=by
 have hll:=map_len yA b
 have hlt:=map_len tkA l
 by_cases h1:(b.length:Int)=10
 case neg=>
  have e:ckB l g b k now=false:=by unfold ckB;rw[decide_eq_false (fun h=>h1 h.1)];rfl
  rw[e]
  (refine eN Tryz.func86 Tryz.call86 fun F hF=>?_)
  (refine WW ?_)
  exact fr0
 have hy0:=map_atI yA b 0 (by omega) (by omega)
 have hy1:=map_atI yA b 1 (by omega) (by omega)
 have b0:0≤b.getD 0 default∧b.getD 0 default<256:=hb _ (by simp[List.getD];rw[List.getElem?_eq_getElem (by omega)];simp)
 have b1:0≤b.getD 1 default∧b.getD 1 default<256:=hb _ (by simp[List.getD];rw[List.getElem?_eq_getElem (by omega)];simp)
 change (b.map yA)[0]? =some (yA (b.getD 0 default))at hy0
 change (b.map yA)[1]? =some (yA (b.getD 1 default))at hy1
 unfold ckB tkOf
 generalize b.getD 0 default=x0 at*
 generalize b.getD 1 default=x1 at*
 by_cases h2:x0=g
 case neg=>
  rw[decide_eq_false (fun h=>h2 h.2)]
  (refine eN Tryz.func86 Tryz.call86 fun F hF=>?_)
  (refine WW ?_)
  exact fr0
 rw[decide_eq_true ⟨h1,h2⟩]
 by_cases h3:x1<l.length
 case neg=>
  have hu:usF l x1=false:=by unfold usF;rw[decide_eq_false (by omega)];rfl
  rw[hu]
  (refine eN Tryz.func86 Tryz.call86 fun F hF=>?_)
  (refine WW ?_)
  exact fr0
 have hu:usF l x1=(l.getD x1.toNat default).used:=by unfold usF;rw[decide_eq_true ⟨b1.1,h3⟩,Bool.true_and]
 rw[hu]
 have hyt:=map_atI tkA l x1 b1.1 (by omega)
 generalize l.getD x1.toNat default=t at*
 cases hu:t.used
 ·rw[show tkA t=tkU false t by unfold tkA tkU;rw[hu]]at hyt
  unfold tkU at hyt
  (refine eN Tryz.func86 Tryz.call86 fun F hF=>?_)
  (refine WW ?_)
  exact fr0
 ·rw[show tkA t=tkU true t by unfold tkA tkU;rw[hu]]at hyt
  unfold tkU at hyt
  have hds:(b.drop 2).map yA=(b.map yA).drop 2:=by rw[List.map_drop]
  rw[eqY_comm (b.drop 2) t.sec]
  have cp:=permits2_c t.rights k
  generalize hq1:eqY t.sec (b.drop 2)=q1 at*
  generalize peF t.rights k=q3 at*
  have hex:exF t now=decide (t.til≠0∧t.til<now):=rfl
  rw[hex]
  cases q1 with
  |false=>
   (refine eN Tryz.func86 Tryz.call86 fun F hF=>?_)
   (refine WW ?_)
   exact fr0
  |true=>
  by_cases h4:t.til=0
  ·rw[decide_eq_false (fun h=>h.1 h4)]
   cases q3<;>((refine eN Tryz.func86 Tryz.call86 fun F hF=>?_);(have zc1:=cp;refine WW ?_;clear zc1);exact fr0)
  by_cases h5:t.til<now
  ·rw[decide_eq_true ⟨h4,h5⟩]
   (refine eN Tryz.func86 Tryz.call86 fun F hF=>?_)
   (refine WW ?_)
   exact fr0
  ·rw[decide_eq_false (fun h=>h5 h.2)]
   cases q3<;>((refine eN Tryz.func86 Tryz.call86 fun F hF=>?_);(have zc1:=cp;refine WW ?_;clear zc1);exact fr0)
theorem open2_c (r:Rg) (m:Ms) (now:Int) (hr:RgB r) (hm:BY m.tok) (hl:r.bk.level≤1000000):CallSim Tryz.prog 47 [rgA r,msA m,iA now] [] (.tup [rgA (opR r m now),iA (opS r m now),iA (opE r m now)]) []:=by
 have c1:=check2_c r.tk hr.tk.n r.num m.tok m.kind now hm
 have c2:=copyG_c r hr
 have c3:=btake2_c r.bk (by omega)
 unfold opR opS opE
 cases hc1:ckB r.tk r.num m.tok m.kind now<;>rw[hc1]at c1
 ·(refine eN Tryz.func47 Tryz.call47 fun F hF=>?_)
  (have zc1:=c1;refine WW ?_;clear zc1)
  exact fr0
 ·generalize m.tok.getD 1 default=slot at*
  cases hk:costs m.kind
  ·have hk':¬(2≤m.kind∧m.kind≤8):=of_decide_eq_false hk
   (refine eN Tryz.func47 Tryz.call47 fun F hF=>?_)
   (have zc1:=c1;have zc2:=c2;refine WW (I2 (fun hc=>?_) (fun hc=>?_))<;>clear zc1 zc2)
   all_goals (first|(exfalso;omega)|exact fr0)
  ·have hk':2≤m.kind∧m.kind≤8:=of_decide_eq_true hk
   by_cases hv:r.bk.level≤0
   ·rw[decide_eq_false (by omega)]at c3
    simp only[hv,and_self,if_true]
    (refine eN Tryz.func47 Tryz.call47 fun F hF=>?_)
    (have zc1:=c1;have zc2:=c2;have zc3:=c3;refine WW ?_;clear zc1 zc2 zc3)
    exact fr0
   ·rw[decide_eq_true (by omega)]at c3
    simp only[hv,and_false,if_false,if_true]
    generalize hb:tak1 r.bk=b2 at*
    (refine eN Tryz.func47 Tryz.call47 fun F hF=>?_)
    (have zc1:=c1;have zc2:=c2;have zc3:=c3;refine WW ?_;clear zc1 zc2 zc3)
    exact fr0
def bsN (p:Nat→Bool):Nat→Nat
 |0=>0
 |n+1=>if p n=true then bsN p n+2 ^ n else bsN p n
theorem bsF_N (p:Nat→Bool):∀n,bsF p n=(bsN p n:Int)
 |0=>rfl
 |n+1=>by
  unfold bsF bsN
  rw[bsF_N p n]
  split
  ·unfold p2;simp
  ·rfl
theorem bsN_lt (p:Nat→Bool):∀n,bsN p n<2 ^ n
 |0=>(show 0<1 by omega)
 |n+1=>by
  have:=bsN_lt p n
  unfold bsN
  rw[Nat.pow_succ]
  split<;>omega
theorem bsN_bit (p:Nat→Bool):∀n i,(bsN p n).testBit i=(decide (i<n)&&p i)
 |0,i=>by simp[bsN]
 | n+1,i=>by
  have hlt:=bsN_lt p n
  unfold bsN
  rcases Nat.lt_trichotomy i n with h|h|h
  ·rw[decide_eq_true (by omega),Bool.true_and]
   split
   ·rw[Nat.add_comm,Nat.testBit_two_pow_add_gt h,bsN_bit p n i,decide_eq_true h,Bool.true_and]
   ·rw[bsN_bit p n i,decide_eq_true h,Bool.true_and]
  ·subst h
   rw[decide_eq_true (by omega),Bool.true_and]
   split
   ·rename_i hp
    rw[Nat.add_comm,Nat.testBit_two_pow_add_eq,bsN_bit p i i,decide_eq_false (by omega),hp];rfl
   ·rename_i hp
    rw[bsN_bit p i i,decide_eq_false (by omega)]
    simpa using hp
  ·rw[decide_eq_false (by omega),Bool.false_and]
   refine Nat.testBit_lt_two_pow ?_
   have h2:2 ^ (n+1)≤2 ^ i:=Nat.pow_le_pow_right (by omega) (by omega)
   rw[Nat.pow_succ]at h2
   split<;>omega
theorem orI_nat (a b:Nat) (ha:a<2 ^ 30) (hb:b<2 ^ 30):orI a b=((a ||| b:Nat):Int):=by
 have h:=Nat.or_lt_two_pow ha hb
 unfold orI
 rw[BitVec.ofInt_natCast,BitVec.ofInt_natCast,BitVec.toNat_or,BitVec.toNat_ofNat,BitVec.toNat_ofNat]
 have e:(2:Nat) ^ IntKind.i64.bits=18446744073709551616:=by decide
 rw[e,Nat.mod_eq_of_lt (by omega),Nat.mod_eq_of_lt (by omega)]
 exact wrap_in (k:= .i64) (by unfold InR;omega)
theorem orI_bs (p q:Nat→Bool):orI (bsF p 8) (bsF q 8)=bsF (fun i=>p i||q i) 8:=by
 have h1:=bsN_lt p 8
 have h2:=bsN_lt q 8
 rw[bsF_N,bsF_N,bsF_N,orI_nat _ _ (by omega) (by omega)]
 congr 1
 apply Nat.eq_of_testBit_eq
 intro i
 rw[Nat.testBit_or,bsN_bit,bsN_bit,bsN_bit]
 cases decide (i<8)<;>simp
def exP (l:List Tk) (now:Int) (n:Nat) (j:Nat):Bool:=(List.range n).any fun i=>usF l i&&exF (l.getD i default) now&&ldF l 9 j i
theorem exP_succ (l:List Tk) (now:Int) (n:Nat):exP l now (n+1)=fun j=>exP l now n j||(usF l n&&exF (l.getD n default) now&&ldF l 9 j n):=by
 funext j
 unfold exP
 rw[List.range_succ,List.any_append]
 simp
theorem expire2_c (l:List Tk) (hb:TkB l) (h8:l.length=8) (now:Int):CallSim Tryz.prog 107 [slA tkA l,iA now] [] (slA tkA (expF l now)) []:=by
 have hll:=map_len tkA l
 have cf:=free2_c l hb (exP l now 8) h8
 have hx:=exp_fr h8 now
 change expF l now=frB (exP l now 8) l 8 at hx
 rw[hx]
 generalize frB (exP l now 8) l 8=l2 at*
 obtain⟨N,hN⟩:∃N:Nat,N=8:=⟨8,rfl⟩
 (refine eN Tryz.func107 Tryz.call107 fun F hF=>?_)
 (refine WW ?_)
 (refine sim_cnt (N) [] [] [0,1,8,9] [5,10,0,1,8,9] rfl (fun i T U=>⟨(5,iA (bsF (exP l now i) 8))::(10,iA i)::T,U⟩) ?_;(conv=>whnf);refine⟨by rfl,?_,?_⟩)
 ·intro i hi
  have hu:usF l i=(l.getD i default).used:=by unfold usF;rw[decide_eq_true (by omega),Bool.true_and,Int.toNat_natCast]
  have cw:=below_c l i h8
  rw[h8]at cw
  have hor:=orI_bs (exP l now i) (fun j=>ldF l 9 j i)
  have hy:=map_at tkA l i (by omega)
  have he:=exP_succ l now i
  rw[hu]at he
  rw[he]
  clear he hu cf hx
  generalize exP l now i=p at*
  generalize l.getD i default=t at*
  rw[show tkA t= .agg [bA t.used,slA yA t.sec,iA t.par,iA t.rights,iA t.cls,iA t.til]from rfl]at hy
  unfold exF
  cases hu:t.used with
  |false=>
   rw[hu]at hy
   rw[show(fun j=>p j||false&&decide (t.til≠0∧t.til<now)&&ldF l 9 j i)=p by funext j;simp]
   generalize bsF p 8=b at*
   (refine WW ?_)
   rfl
  |true=>
  rw[hu]at hy
  by_cases h4:t.til≠0∧t.til<now
  ·rw[decide_eq_true h4]
   rw[show(fun j=>p j||true&&true&&ldF l 9 j i)=fun j=>p j||ldF l 9 j i by funext j;simp,←hor]
   clear hor
   obtain⟨h4,h5⟩:=h4
   generalize bsF p 8=b at*
   generalize bsF (fun j=>ldF l 9 j i) 8=c at*
   (have zc1:=cw;refine WW ?_;clear zc1)
   rfl
  ·rw[decide_eq_false h4]
   rw[show(fun j=>p j||true&&false&&ldF l 9 j i)=p by funext j;simp]
   generalize bsF p 8=b at*
   by_cases h5:t.til=0
   ·(refine WW ?_)
    rfl
   ·(refine WW ?_)
    rfl
 ·rw[hN]
  (have zc1:=cf;refine WW ?_;clear zc1)
  exact fr0
theorem gtick2_c (r:Rg) (now:Int) (hr:RgB r) (h8:r.tk.length=8) (hl: -1000000≤r.bk.level+r.bk.rate∧r.bk.level+r.bk.rate≤1000000):CallSim Tryz.prog 64 [rgA r,iA now] [] (rgA (rtF r now)) []:=by
 have c1:=copyG_c r hr
 have c2:=expire2_c r.tk hr.tk h8 now
 have c3:=btick2_c r.bk (by omega)
 unfold rtF
 generalize expF r.tk now=tk at*
 generalize btF r.bk=bk at*
 (refine eN Tryz.func64 Tryz.call64 fun F hF=>?_)
 (have zc1:=c1;have zc2:=c2;have zc3:=c3;refine WW ?_;clear zc1 zc2 zc3)
 exact fr0
end
end Av
end Go.Proofs.YtaikgchmpieooaaGreat
