/- Part 40: contracts of the functions, and what they rest upon. -/
import Derived.Test.YtaikgchmpieooaaGreatP39
import Derived.Test.YtaikgchmpieooaaGreatP35
namespace Go.Proofs.YtaikgchmpieooaaGreat
namespace Av
set_option linter.unusedSimpArgs false
set_option linter.unusedVariables false
section
set_option maxRecDepth 4000
set_option maxHeartbeats 4000000
def nil3:AV:= .agg [iA 0,.s (.slice none 0 0),.s (.slice none 0 0),.s (.slice none 0 0)]
theorem gderive_no (r:Rg) (s R c life now e:Int) (he:¬e=0) (k:Nat) (sec:List Int)
  (c1:CallSim Tryz.prog 188 [slA tkA r.tk,iA s,iA R,iA c,iA life,slA yA (List.replicate 8 0),iA now] [] (.tup [.sl false [],iA k,iA e]) []):
  CallSim Tryz.prog 154 [.ptr 14 0 0,slA iA [R,c,life],iA s,iA now,slA yA sec] [(14,rgBx r)] (.tup [nil3,iA e]) [(14,rgBx r)]:=by
 have hls:=map_len yA sec
 have hl3:([R,c,life].map iA).length=3:=rfl
 unfold rgBx nil3
 rw[show slA yA (List.replicate 8 0)= .sl false (List.replicate 8 (AV.s (.int .u8 0)))from rfl]at c1
 (refine eN Tryz.func154 Tryz.call154 fun F hF=>?_)
 (repeat' (first|refine WZ ?_|refine SG (I2 (fun hc=>?_) (fun hc=>?_))|refine SG (fun hc=>?_)|(refine is_ops ?_;refine is_call ?_;fail)|(refine is_ops ?_;first|refine SM ?_)|refine SX ?_|fail))
 refine sim_restr (st':=⟨[(0,.ptr 14 0 0),(1,slA iA [R,c,life]),(2,iA s),(3,iA now),(4,slA yA sec),(10,.ptr 10 0 0),(11,iA 0),(12,.sl false (List.replicate 8 (AV.s (.int .u8 0))))],[(14,.box [iA r.num,slA yA r.ag.sec,iA r.ag.rights,iA r.ag.cls,slA iA r.ag.lim,iA r.ag.req,iA r.ag.ses,iA r.ag.rate,iA r.ag.burst,slA tkA r.tk,slA vhA r.vh,iA r.bk.level,iA r.bk.rate,iA r.bk.burst]),(10,.box [iA 0,.s (.slice none 0 0),.s (.slice none 0 0),.s (.slice none 0 0)])]⟩) [14,10] [0,1,2,3,4,10,11,12] rfl rfl ?_
 (have zc1:=c1;refine WW ?_;clear zc1)
 exact fin_own [14] rfl rfl rfl rfl
theorem gderive_dr (r:Rg) (s R c life now:Int) (k:Nat) (l1:List Tk)
  (c1:CallSim Tryz.prog 188 [slA tkA r.tk,iA s,iA R,iA c,iA life,slA yA (List.replicate 8 0),iA now] [] (.tup [slA tkA l1,iA k,iA 0]) []):
  CallSim Tryz.prog 154 [.ptr 14 0 0,slA iA [R,c,life],iA s,iA now,slA yA []] [(14,rgBx r)] (.tup [nil3,iA 18]) [(14,rgBx r)]:=by
 have hls:(([]:List Int).map yA).length=0:=rfl
 have hl3:([R,c,life].map iA).length=3:=rfl
 unfold rgBx nil3
 rw[show slA yA (List.replicate 8 0)= .sl false (List.replicate 8 (AV.s (.int .u8 0)))from rfl]at c1
 (refine eN Tryz.func154 Tryz.call154 fun F hF=>?_)
 (repeat' (first|refine WZ ?_|refine SG (I2 (fun hc=>?_) (fun hc=>?_))|refine SG (fun hc=>?_)|(refine is_ops ?_;refine is_call ?_;fail)|(refine is_ops ?_;first|refine SM ?_)|refine SX ?_|fail))
 refine sim_restr (st':=⟨[(0,.ptr 14 0 0),(1,slA iA [R,c,life]),(2,iA s),(3,iA now),(4,slA yA []),(10,.ptr 10 0 0),(11,iA 0),(12,.sl false (List.replicate 8 (AV.s (.int .u8 0))))],[(14,.box [iA r.num,slA yA r.ag.sec,iA r.ag.rights,iA r.ag.cls,slA iA r.ag.lim,iA r.ag.req,iA r.ag.ses,iA r.ag.rate,iA r.ag.burst,slA tkA r.tk,slA vhA r.vh,iA r.bk.level,iA r.bk.rate,iA r.bk.burst]),(10,.box [iA 0,.s (.slice none 0 0),.s (.slice none 0 0),.s (.slice none 0 0)])]⟩) [14,10] [0,1,2,3,4,10,11,12] rfl rfl ?_
 (have zc1:=c1;refine WW ?_;clear zc1)
 exact fin_own [14] rfl rfl rfl rfl
theorem gderive_ok (r:Rg) (hg:0≤r.num∧r.num<4) (s R c life now:Int) (sec:List Int) (hs:(sec.length:Int)=8) (k:Nat) (hk8:k<8) (l1 l2:List Tk)
  (c1:CallSim Tryz.prog 188 [slA tkA r.tk,iA s,iA R,iA c,iA life,slA yA (List.replicate 8 0),iA now] [] (.tup [slA tkA l1,iA k,iA 0]) [])
  (c2:CallSim Tryz.prog 188 [slA tkA r.tk,iA s,iA R,iA c,iA life,slA yA sec,iA now] [] (.tup [slA tkA l2,iA k,iA 0]) []):
  CallSim Tryz.prog 154 [.ptr 14 0 0,slA iA [R,c,life],iA s,iA now,slA yA sec] [(14,rgBx r)] (.tup [.agg [iA 16,.s (.slice none 0 0),.sl false [iA k],slA yA (r.num::(k:Int)::sec)],iA 0]) [(14,rgBx (rgT r l2))]:=by
 have c3:=tbytes_c r.num k sec (by omega) (by omega) (by omega) (by omega) (by omega)
 have hls:=map_len yA sec
 have hl3:([R,c,life].map iA).length=3:=rfl
 unfold rgBx rgT
 dsimp only
 generalize r.num::(k:Int)::sec=by1 at*
 rw[show slA yA (List.replicate 8 0)= .sl false (List.replicate 8 (AV.s (.int .u8 0)))from rfl]at c1
 (refine eN Tryz.func154 Tryz.call154 fun F hF=>?_)
 (repeat' (first|refine WZ ?_|refine SG (I2 (fun hc=>?_) (fun hc=>?_))|refine SG (fun hc=>?_)|(refine is_ops ?_;refine is_call ?_;fail)|(refine is_ops ?_;first|refine SM ?_)|refine SX ?_|fail))
 refine sim_restr (st':=⟨[(0,.ptr 14 0 0),(1,slA iA [R,c,life]),(2,iA s),(3,iA now),(4,slA yA sec),(10,.ptr 10 0 0),(11,iA 0),(12,.sl false (List.replicate 8 (AV.s (.int .u8 0))))],[(14,.box [iA r.num,slA yA r.ag.sec,iA r.ag.rights,iA r.ag.cls,slA iA r.ag.lim,iA r.ag.req,iA r.ag.ses,iA r.ag.rate,iA r.ag.burst,slA tkA r.tk,slA vhA r.vh,iA r.bk.level,iA r.bk.rate,iA r.bk.burst]),(10,.box [iA 0,.s (.slice none 0 0),.s (.slice none 0 0),.s (.slice none 0 0)])]⟩) [14,10] [0,1,2,3,4,10,11,12] rfl rfl ?_
 (have zc1:=c1;have zc2:=c2;have zc3:=c3;refine WW ?_;clear zc1 zc2 zc3)
 exact fin_own [14] rfl rfl rfl rfl
theorem rdo2_nil (r:Rg) (n8:r.tk.length=8) (tkn:List Int) (R c life s now:Int) (hs0:0≤s) (hs8:s<8) (x1:List Int) (x2 x3 x4 x5:Int) (hy:(r.tk.map tkA)[s.toNat]? =some (.agg [bA true,slA yA x1,iA x2,iA x3,iA x4,iA x5])) (k:Nat) (e f:Int) (hf:(e=0∧f=18)∨(¬e=0∧f=e)) (l1:List Tk)
  (k1:CallSim Tryz.prog 169 [rgA r] [] (bA true) []) (m2:CallSim Tryz.prog 58 [msA ⟨2,tkn,[R,c,life],[]⟩] [] (bA true) []) (k4:CallSim Tryz.prog 51 [rgA r] [] (rgA r) [])
  (e1:CallSim Tryz.prog 171 [slA tkA r.tk,iA s,iA R,iA c,iA life,slA yA (List.replicate 8 0),iA now] [] (.tup [slA tkA l1,iA k,iA e]) []) (kb:CallSim Tryz.prog 26 [iA r.num,iA k,slA yA []] [] (slA yA (r.num::(k:Int)::[])) []):
  CallSim Tryz.prog 129 [rgA r,msA ⟨2,tkn,[R,c,life],[]⟩,iA s,iA now,slA yA []] [] (doR f) []:=by
 rw[doR_eq]
 have k6:=rack_c 2 R
 rw[show msA ⟨14,[],[2,R],[]⟩= .agg [iA 14,.sl false [],.sl false [iA 2,iA R],.sl false []]from rfl]at k6
 have hls:(([]:List Int).map yA).length=0:=rfl
 have hlt:=map_len tkA r.tk
 have hl1:([R,c,life].map iA).length=3:=rfl
 have hr8:(List.replicate 8 (AV.s (.int .u8 0))).length=8:=rfl
 rw[show slA yA (List.replicate 8 0)= .sl false (List.replicate 8 (AV.s (.int .u8 0)))from rfl]at e1
 (refine eN Tryz.func129 Tryz.call129 fun F hF=>?_)
 (have zc1:=k1;have zc2:=m2;have zc3:=k4;(repeat' (first|refine WZ ?_|refine SG (I2 (fun hc=>?_) (fun hc=>?_))|refine SG (fun hc=>?_)|(refine is_ops ?_;refine is_call ?_;refine SC ?_)|(refine is_ops ?_;first|refine SM ?_)|refine SX ?_|fail))<;>clear zc1 zc2 zc3)
 refine x_draw rfl ?_
 (have zc1:=k6;(repeat' (first|refine WS ?_|refine SG (I2 (fun hc=>?_) (fun hc=>?_))|refine SG (fun hc=>?_)|(refine is_ops ?_;refine is_call ?_;refine SC ?_)|(refine is_ops ?_;first|refine SM ?_)|(first|refine SX ?_|refine sim_block ?_)|fail))<;>clear zc1)
 refine sim_restr (st':=⟨[(2,iA s),(3,iA now),(4,slA yA []),(5,.ptr 5 0 0),(6,.ptr 6 0 0),(10,.ptr 10 0 0),(11,.ptr 11 0 0),(12,bA false),(13,iA 0),(15,.ptr 15 0 0),(16,.ptr 16 0 0),(17,iA 0),(18,.sl false (List.replicate 8 (AV.s (.int .u8 0))))],[(15,rgBx r),(16,.box [iA 14,.sl false [],.sl false [iA 2,iA R],.sl false []]),(10,.box [iA 0,.s (.slice none 0 0),iA 0,iA 0,.s (.slice none 0 0),iA 0,iA 0,iA 0,iA 0,.s (.slice none 0 0),.s (.slice none 0 0),iA 0,iA 0,iA 0]),(11,.box [iA 0,.s (.slice none 0 0),.s (.slice none 0 0),.s (.slice none 0 0)]),(5,rgBx r),(6,.box [iA 2,slA yA tkn,slA iA [R,c,life],slA yA []])]⟩) [15,16,10,11,5,6] [2,3,4,5,6,10,11,12,13,15,16,17,18] rfl rfl ?_
 unfold rgBx
 rcases hf with⟨rfl,rfl⟩|⟨he,rfl⟩
 ·(have zc1:=e1;have zc2:=kb;refine WW ?_;clear zc1 zc2)
  exact fr0
 ·(have zc1:=e1;have zc2:=kb;refine WW ?_;clear zc1 zc2)
  exact fr0
theorem rdo2_sec (r:Rg) (n8:r.tk.length=8) (tkn:List Int) (R c life s now:Int) (sec:List Int) (hsl:(sec.length:Int)=8) (hs0:0≤s) (hs8:s<8) (x1:List Int) (x2 x3 x4 x5:Int) (hy:(r.tk.map tkA)[s.toNat]? =some (.agg [bA true,slA yA x1,iA x2,iA x3,iA x4,iA x5])) (k:Nat) (e:Int) (l1:List Tk)
  (k1:CallSim Tryz.prog 169 [rgA r] [] (bA true) []) (m2:CallSim Tryz.prog 58 [msA ⟨2,tkn,[R,c,life],[]⟩] [] (bA true) []) (k4:CallSim Tryz.prog 51 [rgA r] [] (rgA r) [])
  (e1:CallSim Tryz.prog 171 [slA tkA r.tk,iA s,iA R,iA c,iA life,slA yA sec,iA now] [] (.tup [slA tkA l1,iA k,iA e]) []) (kb:CallSim Tryz.prog 26 [iA r.num,iA k,slA yA sec] [] (slA yA (r.num::(k:Int)::sec)) []):
  CallSim Tryz.prog 129 [rgA r,msA ⟨2,tkn,[R,c,life],[]⟩,iA s,iA now,slA yA sec] [] (if e=0 then .tup [rgA (rgT r l1),msA ⟨16,[],[(k:Int)],r.num::(k:Int)::sec⟩,bA true,iA 0]else doR e) []:=by
 have k6:=rack_c 2 R
 rw[show msA ⟨14,[],[2,R],[]⟩= .agg [iA 14,.sl false [],.sl false [iA 2,iA R],.sl false []]from rfl]at k6
 have hls:=map_len yA sec
 have hlt:=map_len tkA r.tk
 have hl1:([R,c,life].map iA).length=3:=rfl
 rw[show msA ⟨16,[],[(k:Int)],r.num::(k:Int)::sec⟩= .agg [iA 16,.sl false [],.sl false [iA (k:Int)],slA yA (r.num::(k:Int)::sec)]from rfl]
 generalize r.num::(k:Int)::sec=by1 at*
 by_cases he:e=0
 ·rw[if_pos he]
  subst he
  (refine eN Tryz.func129 Tryz.call129 fun F hF=>?_)
  (have zc1:=k1;have zc2:=m2;have zc3:=k4;have zc4:=k6;have zc5:=e1;have zc6:=kb;refine WW ?_;clear zc1 zc2 zc3 zc4 zc5 zc6)
  exact fr0
 ·rw[if_neg he,doR_eq]
  (refine eN Tryz.func129 Tryz.call129 fun F hF=>?_)
  (have zc1:=k1;have zc2:=m2;have zc3:=k4;have zc4:=k6;have zc5:=e1;have zc6:=kb;refine WW ?_;clear zc1 zc2 zc3 zc4 zc5 zc6)
  exact fr0
theorem do2 (r:Rg) (hgv:gvF r=true) (tkn:List Int) (R c life s now:Int) (sec:List Int) (hu:usF r.tk s=true) (hs:(sec.length:Int)=0∨(sec.length:Int)=8)
  (m1:CallSim Tryz.prog 152 [msA ⟨2,tkn,[R,c,life],[]⟩] [] (bA true) []) (m2:CallSim Tryz.prog 58 [msA ⟨2,tkn,[R,c,life],[]⟩] [] (bA true) []):DoBoth r ⟨2,tkn,[R,c,life],[]⟩ s now sec:=by
 have H:=gv_b hgv
 have c1:=gvalid_x r (by have:=H.vl;omega)
 have k1:=gvalid2_c r (by have:=H.vl;omega)
 rw[hgv]at c1 k1
 have c3:=gused_c r.tk s
 rw[hu]at c3
 have c4:=rclone_c r H.b
 have k4:=copyG_c r H.b
 obtain⟨k,e,_,hk,hkf,hD⟩:=derive_both r.tk H.b.tk s R c life now
 have hn8:=H.n8
 have hk8:k<8:=by rcases hk with h|h<;>omega
 have hT0:e=0→∀t,T0K r.tk (dvO r.tk k e t):=fun he t h1 _=>by
  have h2:=(hkf he).2.2.2
  unfold dvO
  rw[if_pos he]
  have hk0:k≠0:=fun h=>by rw[h,h1]at h2;cases h2
  simp[List.getD,List.getElem?_set,hk0]
 clear hkf
 have kb:=bytes2_c r.num k sec (by omega) H.num.1 (by have:=H.num;omega) (by omega) (by omega)
 have hnum:=H.num
 have hls:=map_len yA sec
 have hlt:=map_len tkA r.tk
 have hl1:([R,c,life].map iA).length=3:=rfl
 have hU:(r.tk.getD s.toNat default).used=true∧0≤s∧s<8:=by
  unfold usF at hu
  rw[Bool.and_eq_true,decide_eq_true_eq]at hu
  exact⟨hu.2,hu.1.1,by omega⟩
 have hy:=map_atI tkA r.tk s hU.2.1 (by omega)
 have hbR:∀t:Tk,t.sec.length≤1000000→RgB (rgT r (dvO r.tk k e t)):=fun t ht=>⟨tkB_dv H.b.tk k e t ht,H.b.s,H.b.l,H.b.v⟩
 obtain⟨hU,hs0,hs8⟩:=hU
 clear hu H hgv hk
 generalize r.tk.getD s.toNat default=x at*
 obtain⟨xu,x1,x2,x3,x4,x5⟩:=x
 dsimp only at hU
 subst hU
 rw[show tkA ⟨true,x1,x2,x3,x4,x5⟩= .agg [bA true,slA yA x1,iA x2,iA x3,iA x4,iA x5]from rfl]at hy
 obtain⟨d1,e1⟩:=hD (List.replicate 8 0) rfl
 by_cases he:e=0
 ·subst he
  rcases hs with hs|hs
  ·
   have hs:=List.eq_nil_of_length_eq_zero (show sec.length=0 by omega)
   subst hs
   have R1:=rdo2_nil r hn8 tkn R c life s now hs0 hs8 x1 x2 x3 x4 x5 hy k 0 18 (.inl ⟨rfl,rfl⟩) _ k1 m2 k4 e1 kb
   refine .bad 18 (by decide) ?_ R1
   clear R1
   generalize dvO r.tk k 0 ⟨true,List.replicate 8 0,s,R,c,unF life now⟩=l1 at*
   have c5:=gderive_dr r s R c life now k l1 d1
   unfold rgBx nil3 at c5
   clear hD hbR
   rw[doR_eq]
   (refine eN Tryz.func120 Tryz.call120 fun F hF=>?_)
   (have zc1:=c1;have zc2:=m1;have zc3:=c3;have zc4:=c4;have zc5:=c5;refine WW ?_;clear zc1 zc2 zc3 zc4 zc5)
   exact fr0
  ·obtain⟨d2,e2⟩:=hD sec hs
   have R1:=rdo2_sec r hn8 tkn R c life s now sec hs hs0 hs8 x1 x2 x3 x4 x5 hy k 0 _ k1 m2 k4 e2 kb
   rw[if_pos rfl]at R1
   refine⟨rgT r (dvO r.tk k 0 ⟨true,sec,s,R,c,unF life now⟩),⟨16,[],[(k:Int)],r.num::(k:Int)::sec⟩,true,0,hbR _ (by show sec.length≤_;omega),⟨Nat.zero_le _,by simp,by simp;omega⟩,⟨fun h=>absurd rfl h,fun _=> .inl ⟨_,by rw[dvO,if_pos rfl,List.length_set];exact hn8,hT0 rfl _,rfl,.inr ⟨rfl,by omega,rfl,k,hk8,rfl⟩⟩⟩,?_,R1⟩
   clear R1
   generalize dvO r.tk k 0 ⟨true,List.replicate 8 0,s,R,c,unF life now⟩=l1 at*
   generalize dvO r.tk k 0 ⟨true,sec,s,R,c,unF life now⟩=l2 at*
   have c5:=gderive_ok r hnum s R c life now sec hs k hk8 l1 l2 d1 d2
   unfold rgBx at c5
   clear hD hbR
   rw[show msA ⟨16,[],[(k:Int)],r.num::(k:Int)::sec⟩= .agg [iA 16,.sl false [],.sl false [iA (k:Int)],slA yA (r.num::(k:Int)::sec)]from rfl]
   generalize r.num::(k:Int)::sec=by1 at*
   (refine eN Tryz.func120 Tryz.call120 fun F hF=>?_)
   (have zc1:=c1;have zc2:=m1;have zc3:=c3;have zc4:=c4;have zc5:=c5;refine WW ?_;clear zc1 zc2 zc3 zc4 zc5)
   exact fr0
 ·have hno:∀t,dvO r.tk k e t=[]:=fun t=>by unfold dvO;rw[if_neg he]
  have d1':=d1
  rw[hno]at d1'
  have c5:=gderive_no r s R c life now e he k sec d1'
  unfold rgBx nil3 at c5
  have R1:CallSim Tryz.prog 129 [rgA r,msA ⟨2,tkn,[R,c,life],[]⟩,iA s,iA now,slA yA sec] [] (doR e) []:=by
   rcases hs with hs|hs
   ·have hs:=List.eq_nil_of_length_eq_zero (show sec.length=0 by omega)
    subst hs
    exact rdo2_nil r hn8 tkn R c life s now hs0 hs8 x1 x2 x3 x4 x5 hy k e e (.inr ⟨he,rfl⟩) _ k1 m2 k4 e1 kb
   ·obtain⟨d2,e2⟩:=hD sec hs
    have R1:=rdo2_sec r hn8 tkn R c life s now sec hs hs0 hs8 x1 x2 x3 x4 x5 hy k e _ k1 m2 k4 e2 kb
    rw[if_neg he]at R1
    exact R1
  refine .bad e he ?_ R1
  clear R1 hD hbR hno e1 d1 d1'
  rw[doR_eq]
  rcases hs with hs|hs
  all_goals
   (refine eN Tryz.func120 Tryz.call120 fun F hF=>?_)
   (have zc1:=c1;have zc2:=m1;have zc3:=c3;have zc4:=c4;have zc5:=c5;refine WW ?_;clear zc1 zc2 zc3 zc4 zc5)
   exact fr0
end
section
set_option maxRecDepth 4000
set_option maxHeartbeats 4000000
theorem do_other (r:Rg) (m:Ms) (s now:Int) (sec:List Int) (c1:CallSim Tryz.prog 151 [rgA r] [] (bA true) []) (c2:CallSim Tryz.prog 152 [msA m] [] (bA true) []) (c3:CallSim Tryz.prog 153 [slA tkA r.tk,iA s] [] (bA true) []) (c4:CallSim Tryz.prog 102 [rgA r] [] (rgA r) []) (hs:(sec.length:Int)=0∨(sec.length:Int)=8)
  (h2:¬m.kind=2) (h3:¬m.kind=3) (h4:¬m.kind=4) (h5:¬m.kind=5):CallSim Tryz.prog 120 [rgA r,msA m,iA s,iA now,slA yA sec] [] (doR 1) []:=by
 rw[doR_eq]
 have hls:=map_len yA sec
 rcases hs with hs|hs
 all_goals
  (refine eN Tryz.func120 Tryz.call120 fun F hF=>?_)
  (have zc1:=c1;have zc2:=c2;have zc3:=c3;have zc4:=c4;refine WW ?_;clear zc1 zc2 zc3 zc4)
  exact fr0
theorem len1 {l:List Int} (h:l.length=1):∃a,l=[a]:=by
 match l,h with
 | [a],_=>exact⟨a,rfl⟩
theorem len2 {l:List Int} (h:l.length=2):∃a b,l=[a,b]:=by
 match l,h with
 | [a,b],_=>exact⟨a,b,rfl⟩
theorem len3 {l:List Int} (h:l.length=3):∃a b c,l=[a,b,c]:=by
 match l,h with
 | [a,b,c],_=>exact⟨a,b,c,rfl⟩
theorem do_both (r:Rg) (hv:r.vh.length≤1000) (m:Ms) (hm:MsB m) (s now:Int) (sec:List Int) (hs:sec.length≤1000):DoBoth r m s now sec:=by
 have c1:=gvalid_x r (by omega)
 have k1:=gvalid2_c r (by omega)
 obtain⟨b,c2,hb⟩:=mvalid_x m hm
 have c3:=gused_c r.tk s
 cases hg:gvF r with
 |false=>
  rw[hg]at c1 k1
  exact .bad 1 (by decide) (do_bad r m s now sec false b _ c1 c2 c3 (.inl rfl) hs) (rdo_bad1 r m s now sec k1)
 |true=>
 have H:=gv_b hg
 rw[hg]at c1 k1
 by_cases hk:m.kind=2∨m.kind=3∨m.kind=4∨m.kind=5
 case neg=>
  have h2:¬m.kind=2:=fun h=>hk (.inl h)
  have h3:¬m.kind=3:=fun h=>hk (.inr (.inl h))
  have h4:¬m.kind=4:=fun h=>hk (.inr (.inr (.inl h)))
  have h5:¬m.kind=5:=fun h=>hk (.inr (.inr (.inr h)))
  refine .bad 1 (by decide) ?_ (rdo_bad2 r m s now sec k1 h2 h3 h4 h5)
  cases b with
  |false=>exact do_bad r m s now sec true false _ c1 c2 c3 (.inr (.inl rfl)) hs
  |true=>
  cases hu:usF r.tk s with
  |false=>exact do_bad r m s now sec true true _ c1 c2 c3 (.inr (.inr (.inl hu))) hs
  |true=>
  rw[hu]at c3
  by_cases hsl:(sec.length:Int)=0∨(sec.length:Int)=8
  ·exact do_other r m s now sec c1 c2 c3 (rclone_c r H.b) hsl h2 h3 h4 h5
  ·exact do_bad r m s now sec true true true c1 c2 c3 (.inr (.inr (.inr ⟨fun h=>hsl (.inl h),fun h=>hsl (.inr h)⟩))) hs
 obtain⟨f,hf⟩:∃f,kdP m.kind f:=by
  unfold kdP
  rcases hk with h|h|h|h
  ·exact⟨3,.inl ⟨h,rfl⟩⟩
  ·exact⟨1,.inr (.inl ⟨h,rfl⟩)⟩
  ·exact⟨2,.inr (.inr (.inl ⟨h,rfl⟩))⟩
  ·exact⟨1,.inr (.inr (.inr ⟨h,rfl⟩))⟩
 obtain⟨b',k2,hb'⟩:=r5valid_x m hm f hf
 have hbb:b'=b:=by
  have h1:=hb f hf
  cases b<;>cases b'<;>simp_all
 subst hbb
 have h1:=hb f hf
 cases b' with
 |false=>exact .bad 1 (by decide) (do_bad r m s now sec true false _ c1 c2 c3 (.inr (.inl rfl)) hs) (rdo_bad3 r m s now sec H.n8 false k1 k2 hk (.inl rfl) hs)
 |true=>
 cases hu:usF r.tk s with
 |false=>exact .bad 1 (by decide) (do_bad r m s now sec true true _ c1 c2 c3 (.inr (.inr (.inl hu))) hs) (rdo_bad3 r m s now sec H.n8 true k1 k2 hk (.inr (.inl hu)) hs)
 |true=>
 by_cases hsl:(sec.length:Int)=0∨(sec.length:Int)=8
 case neg=>
  have hq:¬(sec.length:Int)=0∧¬(sec.length:Int)=8:=⟨fun h=>hsl (.inl h),fun h=>hsl (.inr h)⟩
  exact .bad 1 (by decide) (do_bad r m s now sec true true _ c1 c2 c3 (.inr (.inr (.inr hq))) hs) (rdo_bad3 r m s now sec H.n8 true k1 k2 hk (.inr (.inr hq)) hs)
 obtain⟨_,hd,hal,_⟩:=h1.1 rfl
 obtain⟨mk,tkn,ar,da⟩:=m
 dsimp only at hd hal hf
 subst hd
 rcases hf with⟨rfl,rfl⟩|⟨rfl,rfl⟩|⟨rfl,rfl⟩|⟨rfl,rfl⟩
 ·obtain⟨x,y,z,rfl⟩:=len3 hal
  exact do2 r hg tkn x y z s now sec hu hsl c2 k2
 ·obtain⟨x,rfl⟩:=len1 hal
  exact do3 r hg tkn x s now sec hu hsl c2 k2
 ·obtain⟨x,y,rfl⟩:=len2 hal
  exact do4 r hg tkn x y s now sec hu hsl c2 k2
 ·obtain⟨x,rfl⟩:=len1 hal
  exact do5 r hg tkn x s now sec hu hsl c2 k2
theorem msame_c (m:Ms) (hm:MsB m):CallSim Tryz.prog 19 [msA m,msA m] [] (bA true) []:=by
 have ha:=hm.a
 have hla:=map_len iA m.args
 (refine eN Tryz.func19 Tryz.call19 fun F hF=>?_)
 (refine WW (I3 (fun hc=>?_) (fun hc hc=>?_) (fun hc hc=>?_)))
 all_goals (try (exfalso;first|(simp[eqY_refl]at hc;done)|(revert hc;simp[eqY_refl];done)))
 (refine sim_rng (m.args) [3] [3] [3,40,41] [42,3,40,41] rfl (fun i pre T U=>⟨(42,iA i)::T,U⟩) ?_;(conv=>whnf);refine⟨by rfl,?_,?_⟩)
 ·intro i pre x post hx hi
  have hy:=rng_at iA hx hi
  have hlt:=rng_lt hx hi
  clear hx
  (refine WW ?_)
  all_goals (first|rfl|(exfalso;first|(simp[eqY_refl]at hc;done)|(revert hc;simp[eqY_refl];done)))
 ·(refine WW ?_)
  exact fr0
end
section
set_option maxRecDepth 4000
set_option maxHeartbeats 4000000
def dgD (d:Dsk) (m:Ms) (r':Rg) (u:Bool) (e:Int):Dsk:=if e=0 then⟨r',(if m.kind=5 then witQ d.rq (m.args.getD 0 0)else d.rq),(if u=true then d.dr.drop 1 else d.dr),d.au⟩else d
def secD (d:Dsk):List Int:=d.dr.headD []
theorem dreg_c (d:Dsk) (m:Ms) (slot now:Int) (hv:RqV d.rq) (hn:d.dr.length≤1000) (r':Rg) (p:Ms) (u:Bool) (e:Int)
  (f1:CallSim Tryz.prog 120 [rgA d.rg,msA m,iA slot,iA now,slA yA (secD d)] [] (.tup [rgA r',msA p,bA u,iA e]) []) (h5:m.kind=5→∃a,m.args=[a]):
  CallSim Tryz.prog 76 [dskA d,msA m,iA slot,iA now] [] (.tup [dskA (dgD d m r' u e),msA (if e=0 then p else ms0),iA e]) []:=by
 unfold dgD
 obtain⟨rg,rq,dr,au⟩:=d
 obtain⟨k,tk0,ar,da⟩:=m
 unfold secD at f1
 dsimp only at*
 have hlr:(dr.map sYA).length=dr.length:=map_len sYA dr
 cases dr with
 | nil=>
  rw[List.headD_nil]at f1
  by_cases he:e=0
  ·subst he
   rw[if_pos rfl,if_pos rfl]
   by_cases hk:k=5
   ·subst hk
    obtain⟨a,rfl⟩:=h5 rfl
    have hw:=without_q rq a hv
    rw[if_pos rfl,show([a]:List Int).getD 0 0=a from rfl]
    generalize witQ rq a=ql at*
    unfold rgA msA at f1
    unfold dskA dskX msA
    cases u
    ·(refine eN Tryz.func76 Tryz.call76 fun F hF=>?_)
     (have zc1:=f1;have zc2:=hw;refine WW ?_;clear zc1 zc2)
     exact fr0
    ·(refine eN Tryz.func76 Tryz.call76 fun F hF=>?_)
     (have zc1:=f1;have zc2:=hw;refine WW ?_;clear zc1 zc2)
     exact fr0
   ·rw[if_neg hk]
    clear h5
    unfold rgA msA at f1
    unfold dskA dskX msA
    cases u
    ·(refine eN Tryz.func76 Tryz.call76 fun F hF=>?_)
     (have zc1:=f1;refine WW ?_;clear zc1)
     exact fr0
    ·(refine eN Tryz.func76 Tryz.call76 fun F hF=>?_)
     (have zc1:=f1;refine WW ?_;clear zc1)
     exact fr0
  ·rw[if_neg he,if_neg he]
   clear h5
   unfold rgA msA at f1
   unfold dskA dskX msA ms0
   (refine eN Tryz.func76 Tryz.call76 fun F hF=>?_)
   (have zc1:=f1;refine WW ?_;clear zc1)
   exact fr0
 | cons b bs=>
  rw[List.headD_cons]at f1
  have hlr:(sYA b::bs.map sYA).length=bs.length+1:=by rw[List.length_cons,List.length_map]
  rw[List.length_cons]at hn
  have hbb:slA sYA (b::bs)= .sl false (sYA b::bs.map sYA):=rfl
  by_cases he:e=0
  ·subst he
   rw[if_pos rfl,if_pos rfl]
   by_cases hk:k=5
   ·subst hk
    obtain⟨a,rfl⟩:=h5 rfl
    have hw:=without_q rq a hv
    rw[if_pos rfl,show([a]:List Int).getD 0 0=a from rfl]
    generalize witQ rq a=ql at*
    unfold rgA msA at f1
    unfold dskA dskX msA
    rw[hbb]
    cases u
    ·(refine eN Tryz.func76 Tryz.call76 fun F hF=>?_)
     (have zc1:=f1;have zc2:=hw;refine WW ?_;clear zc1 zc2)
     exact fr0
    ·(refine eN Tryz.func76 Tryz.call76 fun F hF=>?_)
     (have zc1:=f1;have zc2:=hw;refine WW ?_;clear zc1 zc2)
     exact fr0
   ·rw[if_neg hk]
    clear h5
    unfold rgA msA at f1
    unfold dskA dskX msA
    rw[hbb]
    cases u
    ·(refine eN Tryz.func76 Tryz.call76 fun F hF=>?_)
     (have zc1:=f1;refine WW ?_;clear zc1)
     exact fr0
    ·(refine eN Tryz.func76 Tryz.call76 fun F hF=>?_)
     (have zc1:=f1;refine WW ?_;clear zc1)
     exact fr0
  ·rw[if_neg he,if_neg he]
   clear h5
   unfold rgA msA at f1
   unfold dskA dskX msA ms0
   rw[hbb]
   (refine eN Tryz.func76 Tryz.call76 fun F hF=>?_)
   (have zc1:=f1;refine WW ?_;clear zc1)
   exact fr0
theorem dreg2_c (d:Dsk) (m:Ms) (slot now:Int) (hv:RqV d.rq) (hn:d.dr.length≤1000) (r':Rg) (p:Ms) (u:Bool) (e:Int)
  (f1:CallSim Tryz.prog 129 [rgA d.rg,msA m,iA slot,iA now,slA yA (secD d)] [] (.tup [rgA r',msA p,bA u,iA e]) []) (h5:m.kind=5→∃a,m.args=[a]) (hu:u=true→d.dr≠[]):
  CallSim Tryz.prog 88 [dskA d,msA m,iA slot,iA now] [] (.tup [dskA (dgD d m r' u e),msA p,iA e]) []:=by
 unfold dgD
 obtain⟨rg,rq,dr,au⟩:=d
 obtain⟨k,tk0,ar,da⟩:=m
 unfold secD at f1
 dsimp only at*
 have hlr:(dr.map sYA).length=dr.length:=map_len sYA dr
 cases dr with
 | nil=>
  have hu0:u=false:=by
   cases u with
   |false=>rfl
   |true=>exact absurd rfl (hu rfl)
  subst hu0
  rw[List.headD_nil]at f1
  by_cases he:e=0
  ·subst he
   rw[if_pos rfl]
   by_cases hk:k=5
   ·subst hk
    obtain⟨a,rfl⟩:=h5 rfl
    have hw:=without2_q rq a hv
    rw[if_pos rfl,show([a]:List Int).getD 0 0=a from rfl]
    generalize witQ rq a=ql at*
    unfold rgA msA at f1
    unfold dskA dskX msA
    (refine eN Tryz.func88 Tryz.call88 fun F hF=>?_)
    (have zc1:=f1;have zc2:=hw;refine WW ?_;clear zc1 zc2)
    exact fr0
   ·rw[if_neg hk]
    clear h5
    unfold rgA msA at f1
    unfold dskA dskX msA
    (refine eN Tryz.func88 Tryz.call88 fun F hF=>?_)
    (have zc1:=f1;refine WW ?_;clear zc1)
    exact fr0
  ·rw[if_neg he]
   clear h5
   unfold rgA msA at f1
   unfold dskA dskX msA
   (refine eN Tryz.func88 Tryz.call88 fun F hF=>?_)
   (have zc1:=f1;refine WW ?_;clear zc1)
   exact fr0
 | cons b bs=>
  clear hu
  rw[List.headD_cons]at f1
  have hlr:(sYA b::bs.map sYA).length=bs.length+1:=by rw[List.length_cons,List.length_map]
  rw[List.length_cons]at hn
  have hbb:slA sYA (b::bs)= .sl false (sYA b::bs.map sYA):=rfl
  by_cases he:e=0
  ·subst he
   rw[if_pos rfl]
   by_cases hk:k=5
   ·subst hk
    obtain⟨a,rfl⟩:=h5 rfl
    have hw:=without2_q rq a hv
    rw[if_pos rfl,show([a]:List Int).getD 0 0=a from rfl]
    generalize witQ rq a=ql at*
    unfold rgA msA at f1
    unfold dskA dskX msA
    rw[hbb]
    cases u
    ·(refine eN Tryz.func88 Tryz.call88 fun F hF=>?_)
     (have zc1:=f1;have zc2:=hw;refine WW ?_;clear zc1 zc2)
     exact fr0
    ·(refine eN Tryz.func88 Tryz.call88 fun F hF=>?_)
     (have zc1:=f1;have zc2:=hw;refine WW ?_;clear zc1 zc2)
     exact fr0
   ·rw[if_neg hk]
    clear h5
    unfold rgA msA at f1
    unfold dskA dskX msA
    rw[hbb]
    cases u
    ·(refine eN Tryz.func88 Tryz.call88 fun F hF=>?_)
     (have zc1:=f1;refine WW ?_;clear zc1)
     exact fr0
    ·(refine eN Tryz.func88 Tryz.call88 fun F hF=>?_)
     (have zc1:=f1;refine WW ?_;clear zc1)
     exact fr0
  ·rw[if_neg he]
   clear h5
   unfold rgA msA at f1
   unfold dskA dskX msA
   rw[hbb]
   (refine eN Tryz.func88 Tryz.call88 fun F hF=>?_)
   (have zc1:=f1;refine WW ?_;clear zc1)
   exact fr0
end
section
set_option maxRecDepth 4000
set_option maxHeartbeats 4000000
structure It where
 code:Int
 kind:Int
 pay:List Int
def itA (i:It):AV:= .agg [iA i.code,iA i.kind,slA yA i.pay]
def hT (d:Dsk) (p:Ms) (k e:Int):AV:= .tup [dskA d,msA p,iA k,iA e]
theorem hP_code (c:Cf) (d:Dsk) (s now:Int) (i:It) (hc:i.code≠0):CallSim Tryz.prog 44 [cfA c,dskA d,iA s,itA i,iA now] [] (hT d ms0 (-1) i.code) []:=by
 unfold cfA hT dskA dskX itA msA ms0
 (refine eN Tryz.func44 Tryz.call44 fun F hF=>?_)
 (refine WW ?_)
 exact fr0
theorem hP_kind (c:Cf) (d:Dsk) (s now:Int) (i:It) (hc:i.code=0) (hk:¬(1≤i.kind∧i.kind≤12)):CallSim Tryz.prog 44 [cfA c,dskA d,iA s,itA i,iA now] [] (hT d ms0 (-1) 5) []:=by
 have k1:=forS_c i.kind
 rw[decide_eq_false hk]at k1
 obtain⟨co,ki,pa⟩:=i
 dsimp only at*
 subst hc
 unfold cfA hT dskA dskX itA msA ms0
 (refine eN Tryz.func44 Tryz.call44 fun F hF=>?_)
 (have zc1:=k1;refine WW ?_;clear zc1)
 exact fr0
theorem hP_form (c:Cf) (d:Dsk) (s now k:Int) (pa:List Int) (h0:1≤k) (h1:k≤12) (k2:CallSim Tryz.prog 74 [iA k,slA yA pa] [] (deT k (pa.take 10) none) []):CallSim Tryz.prog 44 [cfA c,dskA d,iA s,itA ⟨0,k,pa⟩,iA now] [] (hT d ms0 (-1) 6) []:=by
 have k1:=forS_c k
 rw[decide_eq_true ⟨h0,h1⟩]at k1
 unfold deT msA at k2
 unfold cfA hT dskA dskX itA msA ms0
 (refine eN Tryz.func44 Tryz.call44 fun F hF=>?_)
 (have zc1:=k1;have zc2:=k2;refine WW ?_;clear zc1 zc2)
 exact fr0
theorem hP_open (c:Cf) (d:Dsk) (s now k:Int) (pa tk0 ar:List Int) (h0:1≤k) (h1:k≤12) (k2:CallSim Tryz.prog 74 [iA k,slA yA pa] [] (.tup [msA ⟨k,tk0,ar,[]⟩,iA 0]) []) (r:Rg) (sl e:Int) (he:e≠0)
  (k3:CallSim Tryz.prog 75 [rgA d.rg,msA ⟨k,tk0,ar,[]⟩,iA now] [] (.tup [rgA r,iA sl,iA e]) []):CallSim Tryz.prog 44 [cfA c,dskA d,iA s,itA ⟨0,k,pa⟩,iA now] [] (hT d ms0 (-1) e) []:=by
 have k1:=forS_c k
 rw[decide_eq_true ⟨h0,h1⟩]at k1
 unfold msA at k2 k3
 unfold rgA at k3
 unfold cfA hT dskA dskX itA msA ms0
 (refine eN Tryz.func44 Tryz.call44 fun F hF=>?_)
 (have zc1:=k1;have zc2:=k2;have zc3:=k3;refine WW ?_;clear zc1 zc2 zc3)
 exact fr0
def dkR' (d:Dsk) (r:Rg):Dsk:=⟨r,d.rq,d.dr,d.au⟩
section
variable (c:Cf) (d:Dsk) (s now k:Int) (pa tk0 ar:List Int) (h0:1≤k) (h1:k≤12) (k2:CallSim Tryz.prog 74 [iA k,slA yA pa] [] (.tup [msA ⟨k,tk0,ar,[]⟩,iA 0]) []) (r:Rg) (sl:Int)
 (k3:CallSim Tryz.prog 75 [rgA d.rg,msA ⟨k,tk0,ar,[]⟩,iA now] [] (.tup [rgA r,iA sl,iA 0]) [])
include h0 h1 k2 k3
theorem hP_reg (hk:k=2∨k=3∨k=4∨k=5) (d':Dsk) (p:Ms) (e:Int) (k4:CallSim Tryz.prog 76 [dskA (dkR' d r),msA ⟨k,tk0,ar,[]⟩,iA sl,iA now] [] (.tup [dskA d',msA p,iA e]) []):
  CallSim Tryz.prog 44 [cfA c,dskA d,iA s,itA ⟨0,k,pa⟩,iA now] [] (hT d' p (-1) e) []:=by
 have k1:=forS_c k
 rw[decide_eq_true ⟨h0,h1⟩]at k1
 unfold msA at k2 k3 k4
 unfold rgA at k3
 unfold dkR' dskA dskX at k4
 unfold cfA hT dskA dskX itA msA
 rcases hk with rfl|rfl|rfl|rfl
 all_goals
  (refine eN Tryz.func44 Tryz.call44 fun F hF=>?_)
  (have zc1:=k1;have zc2:=k2;have zc3:=k3;have zc4:=k4;refine WW ?_;clear zc1 zc2 zc3 zc4)
  exact fr0
theorem hP_askE (hk:k=6∨k=7∨k=8) (l:List Rq) (e:Int) (he:e≠0) (k4:CallSim Tryz.prog 77 [cfA c,dskA (dkR' d r),msA ⟨k,tk0,ar,[]⟩,iA sl,iA now] [] (.tup [slA rqA l,iA e]) []):
  CallSim Tryz.prog 44 [cfA c,dskA d,iA s,itA ⟨0,k,pa⟩,iA now] [] (hT (dkR' d r) ms0 (-1) e) []:=by
 have k1:=forS_c k
 rw[decide_eq_true ⟨h0,h1⟩]at k1
 unfold msA at k2 k3 k4
 unfold rgA at k3
 unfold dkR' cfA dskA dskX at k4
 unfold dkR' cfA hT dskA dskX itA msA ms0
 rcases hk with rfl|rfl|rfl
 all_goals
  (refine eN Tryz.func44 Tryz.call44 fun F hF=>?_)
  (have zc1:=k1;have zc2:=k2;have zc3:=k3;have zc4:=k4;refine WW ?_;clear zc1 zc2 zc3 zc4)
  exact fr0
theorem hP_askO (hk:k=6∨k=7∨k=8) (a:Int) (as1:List Int) (har:ar=a::as1) (l:List Rq) (k4:CallSim Tryz.prog 77 [cfA c,dskA (dkR' d r),msA ⟨k,tk0,ar,[]⟩,iA sl,iA now] [] (.tup [slA rqA l,iA 0]) []):
  CallSim Tryz.prog 44 [cfA c,dskA d,iA s,itA ⟨0,k,pa⟩,iA now] [] (hT (dkQ (dkR' d r) l) (ackM k a) (-1) 0) []:=by
 subst har
 have k1:=forS_c k
 have k5:=dack_c k a
 rw[decide_eq_true ⟨h0,h1⟩]at k1
 unfold ackM msA at k5
 rw[show msA ⟨k,tk0,a::as1,[]⟩= .agg [iA k,slA yA tk0,.sl false (iA a::as1.map iA),.sl false []]from rfl]at k2 k3 k4
 generalize as1.map iA=A at*
 unfold rgA at k3
 unfold dkR' cfA dskA dskX at k4
 unfold dkQ dkR' cfA hT dskA dskX itA ackM msA
 rcases hk with rfl|rfl|rfl
 all_goals
  (refine eN Tryz.func44 Tryz.call44 fun F hF=>?_)
  (have zc1:=k1;have zc2:=k2;have zc3:=k3;have zc4:=k4;have zc5:=k5;refine WW ?_;clear zc1 zc2 zc3 zc4 zc5)
  exact fr0
theorem hP_tell (hk:k=1∨k=9∨k=12) (p:Ms) (k4:CallSim Tryz.prog 79 [dskA (dkR' d r),iA k,iA now] [] (msA p) []):
  CallSim Tryz.prog 44 [cfA c,dskA d,iA s,itA ⟨0,k,pa⟩,iA now] [] (hT (dkR' d r) p (-1) 0) []:=by
 have k1:=forS_c k
 rw[decide_eq_true ⟨h0,h1⟩]at k1
 unfold msA at k2 k3 k4
 unfold rgA at k3
 unfold dkR' dskA dskX at k4
 unfold dkR' cfA hT dskA dskX itA msA
 rcases hk with rfl|rfl|rfl
 all_goals
  (refine eN Tryz.func44 Tryz.call44 fun F hF=>?_)
  (have zc1:=k1;have zc2:=k2;have zc3:=k3;have zc4:=k4;refine WW ?_;clear zc1 zc2 zc3 zc4)
  exact fr0
theorem hP_resE (hk:k=11) (a:Int) (har:ar=[a]) (ha:(c.js.length:Int)≤a):
  CallSim Tryz.prog 44 [cfA c,dskA d,iA s,itA ⟨0,k,pa⟩,iA now] [] (hT (dkR' d r) ms0 (-1) 8) []:=by
 subst hk har
 have k1:=forS_c 11
 have hlj:=map_len jnA c.js
 rw[show msA ⟨11,tk0,[a],[]⟩= .agg [iA 11,slA yA tk0,.sl false [iA a],.sl false []]from rfl]at k2 k3
 unfold rgA at k3
 unfold dkR' cfA hT dskA dskX itA ms0 msA
 (refine eN Tryz.func44 Tryz.call44 fun F hF=>?_)
 (have zc1:=k1;have zc2:=k2;have zc3:=k3;refine WW ?_;clear zc1 zc2 zc3)
 exact fr0
theorem hP_resO (hk:k=11) (a:Int) (har:ar=[a]) (ha:a<(c.js.length:Int)):
  CallSim Tryz.prog 44 [cfA c,dskA d,iA s,itA ⟨0,k,pa⟩,iA now] [] (hT (dkR' d r) (ackM 11 a) a 0) []:=by
 subst hk har
 have k1:=forS_c 11
 have k5:=dack_c 11 a
 have hlj:=map_len jnA c.js
 unfold ackM msA at k5
 rw[show msA ⟨11,tk0,[a],[]⟩= .agg [iA 11,slA yA tk0,.sl false [iA a],.sl false []]from rfl]at k2 k3
 unfold rgA at k3
 unfold dkR' cfA hT dskA dskX itA ackM msA
 (refine eN Tryz.func44 Tryz.call44 fun F hF=>?_)
 (have zc1:=k1;have zc2:=k2;have zc3:=k3;have zc4:=k5;refine WW ?_;clear zc1 zc2 zc3 zc4)
 exact fr0
theorem hP_audE (hk:k=10) (a:Int) (har:ar=[a]) (ha:1<a):
  CallSim Tryz.prog 44 [cfA c,dskA d,iA s,itA ⟨0,k,pa⟩,iA now] [] (hT (dkR' d r) ms0 (-1) 8) []:=by
 subst hk har
 have k1:=forS_c 10
 rw[show msA ⟨10,tk0,[a],[]⟩= .agg [iA 10,slA yA tk0,.sl false [iA a],.sl false []]from rfl]at k2 k3
 unfold rgA at k3
 unfold dkR' cfA hT dskA dskX itA ms0 msA
 (refine eN Tryz.func44 Tryz.call44 fun F hF=>?_)
 (have zc1:=k1;have zc2:=k2;have zc3:=k3;refine WW ?_;clear zc1 zc2 zc3)
 exact fr0
theorem hP_audN (hk:k=10) (a:Int) (har:ar=[a]) (ha:a≤1) (hs:¬(0≤s∧s<(d.au.length:Int))):
  CallSim Tryz.prog 44 [cfA c,dskA d,iA s,itA ⟨0,k,pa⟩,iA now] [] (hT (dkR' d r) (ackM 10 a) (-1) 0) []:=by
 subst hk har
 have k1:=forS_c 10
 have k5:=dack_c 10 a
 have hla:=map_len bA d.au
 unfold ackM msA at k5
 rw[show msA ⟨10,tk0,[a],[]⟩= .agg [iA 10,slA yA tk0,.sl false [iA a],.sl false []]from rfl]at k2 k3
 unfold rgA at k3
 unfold dkR' cfA hT dskA dskX itA ackM msA
 by_cases h2:0≤s
 ·have h3:(d.au.length:Int)≤s:=by omega
  (refine eN Tryz.func44 Tryz.call44 fun F hF=>?_)
  (have zc1:=k1;have zc2:=k2;have zc3:=k3;have zc4:=k5;refine WW ?_;clear zc1 zc2 zc3 zc4)
  exact fr0
 ·(refine eN Tryz.func44 Tryz.call44 fun F hF=>?_)
  (have zc1:=k1;have zc2:=k2;have zc3:=k3;have zc4:=k5;refine WW ?_;clear zc1 zc2 zc3 zc4)
  exact fr0
end
end
end Av
end Go.Proofs.YtaikgchmpieooaaGreat
