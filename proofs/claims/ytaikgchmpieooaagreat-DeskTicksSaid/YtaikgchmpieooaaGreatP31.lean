/- Part 31: contracts of the functions, and what they rest upon. -/
import Derived.Test.YtaikgchmpieooaaGreatP26
namespace Go.Proofs.YtaikgchmpieooaaGreat
namespace Av
set_option linter.unusedSimpArgs false
set_option linter.unusedVariables false
section
set_option maxRecDepth 4000
set_option maxHeartbeats 2000000
def vdR:List Int→Nat→Int→Int×Int×Int
 | [],_,_=>(0,0,6)
 |x::r,i,n=>if i=5 then(0,0,6)else if 128≤x then vdR r (i+1) (n+x.tmod 128*128 ^ i)else if 4294967295<n+x.tmod 128*128 ^ i∨(0<i∧x=0)then(0,0,6)else(n+x.tmod 128*128 ^ i,i+1,0)
def vdF (b:List Int):Int×Int×Int:=vdR b 0 0
def szF (n:Int):Int:=if n<0∨4294967295<n then 0 else if n<128 then 1 else if n<16384 then 2 else if n<2097152 then 3 else if n<268435456 then 4 else 5
def lgF (m:Int):Int:=if m<128 then 0 else if m<16384 then 1 else if m<2097152 then 2 else if m<268435456 then 3 else 4
theorem szF_lg {n:Int} (h0:0≤n) (h1:n≤4294967295):szF n=1+lgF n:=by
 unfold szF lgF
 rw[if_neg (by omega)]
 repeat' split
 all_goals omega
theorem lgF_div {m:Int} (h0:128≤m) (h1:m≤4294967295):lgF m=1+lgF (m/128):=by
 unfold lgF
 rw[if_neg (by omega)]
 repeat' split
 all_goals omega
theorem lgF_lt {m:Int} (h:m<128):lgF m=0:=if_pos h
theorem sizeV2_c (n:Int):CallSim Tryz.prog 137 [iA n] [] (iA (szF n)) []:=by
 by_cases h:n<0∨4294967295<n
 ·have e:szF n=0:=if_pos h
  rw[e]
  by_cases h1:n<0
  ·(refine eN Tryz.func137 Tryz.call137 fun F hF=>?_)
   (refine WW ?_)
   exact fr0
  ·have h2:=h.resolve_left h1
   (refine eN Tryz.func137 Tryz.call137 fun F hF=>?_)
   (refine WW ?_)
   exact fr0
 have h1:0≤n:=by omega
 have h2:n≤4294967295:=by omega
 rw[szF_lg h1 h2]
 generalize hs:1+lgF n=s
 (refine eN Tryz.func137 Tryz.call137 fun F hF=>?_)
 (refine WW ?_)
 (refine sim_whl (5) [] [] [] [0,3] rfl (fun zn T U zs=>∃(m:Int) (k:Int),(0≤m∧m≤4294967295∧k=6-zn∧1≤k∧k≤5∧(k=2→m≤33554431)∧(k=3→m≤262143)∧(k=4→m≤2047)∧(k=5→m≤15)∧s=k+lgF m)∧zs=⟨(0,iA m)::(3,iA k)::T,U⟩) ?_;(conv=>whnf);refine⟨?_,?_⟩)
 ·exact⟨n,1,⟨h1,h2,by omega,by omega,by omega,by omega,by omega,by omega,by omega,hs.symm⟩,rfl⟩
 ·rintro zn st ⟨m,k,⟨q0,q1,q2,q3,q4,q5,q6,q7,q8,q9⟩,rfl⟩
  by_cases hm:128≤m
  ·have hd:=lgF_div hm q1
   have hmd:m.tdiv 128=m/128:=Int.tdiv_eq_ediv_of_nonneg q0
   have hir:InR .i64 (m.tdiv 128):=⟨by omega,by omega⟩
   (refine WW ?_)
   refine⟨zn-1,by omega,m.tdiv 128,k+1,⟨by omega,by omega,by omega,by omega,by omega,by omega,by omega,by omega,by omega,by rw[hmd];omega⟩,rfl⟩
  ·rw[lgF_lt (by omega)]at q9
   obtain rfl:s=k:=by omega
   (refine WW ?_)
   exact fr0
theorem p128 {i:Nat} (h:i≤4):((128:Int) ^ i=1∧i=0)∨((128:Int) ^ i=128∧i=1)∨((128:Int) ^ i=16384∧i=2)∨((128:Int) ^ i=2097152∧i=3)∨((128:Int) ^ i=268435456∧i=4):=by
 obtain rfl|rfl|rfl|rfl|rfl:i=0∨i=1∨i=2∨i=3∨i=4:=by omega
 all_goals simp
theorem sz_ok {i:Nat} {n x:Int} (h:i≤4) (h0:0≤n) (h1:n<128 ^ i) (x0:0≤x) (x1:x<128):(szF (n+x*128 ^ i)=(i:Int)+1)↔¬(4294967295<n+x*128 ^ i∨(0<i∧x=0)):=by
 rcases p128 h with⟨e,rfl⟩|⟨e,rfl⟩|⟨e,rfl⟩|⟨e,rfl⟩|⟨e,rfl⟩
 all_goals rw[e]at h1⊢
 all_goals unfold szF
 all_goals repeat' split
 all_goals omega
theorem mulBd {x P:Int} (x0:0≤x) (x1:x<128) (P0:1≤P) (P1:P≤268435456):0≤x*P∧x*P≤127*P:=by
 refine⟨Int.mul_nonneg x0 (by omega),Int.mul_le_mul_of_nonneg_right (by omega) (by omega)⟩
theorem vd2_c (b:List Int) (hb:BY b) (hn:b.length≤100000):CallSim Tryz.prog 99 [slA yA b] [] (.tup [iA (vdF b).1,iA (vdF b).2.1,iA (vdF b).2.2]) []:=by
 have hl:=map_len yA b
 (refine eN Tryz.func99 Tryz.call99 fun F hF=>?_)
 (refine WW ?_)
 (refine sim_whl (6) [] [] [0] [5,6,7,0] rfl (fun zn T U zs=>∃(i:Nat) (n:Int),(zn+i=6∧i≤5∧i≤b.length∧0≤n∧n<128 ^ i∧vdF b=vdR (b.drop i) i n)∧zs=⟨(5,iA n)::(6,iA (128 ^ i:Int))::(7,iA i)::T,U⟩) ?_;(conv=>whnf);refine⟨?_,?_⟩)
 ·exact⟨0,0,⟨rfl,by omega,by omega,by omega,by decide,rfl⟩,rfl⟩
 ·rintro zn st ⟨i,n,⟨q0,q1,q2,q3,q4,q5⟩,rfl⟩
  rw[q5]
  clear q5
  by_cases hib:i<b.length
  case neg=>
   have e:b.drop i=[]:=List.drop_eq_nil_of_le (by omega)
   rw[e]
   show Sim _ _ _ _ _ (rndQ (inB 0 (thenS _ _ _ _ (Fin _ _ [] (.tup [iA 0,iA 0,iA 6]) []))) _)
   generalize (128 ^ i:Int)=Pw at*
   (refine WW ?_)
   exact fr0
  have hx:=hb (b.getD i default) (by simp[List.getD,hib])
  have hy:=map_at yA b i hib
  have e:b.drop i=b.getD i default::b.drop (i+1):=by rw[List.drop_eq_getElem_cons hib];simp[List.getD,hib]
  rw[e]
  clear e
  generalize hr:b.drop (i+1)=r at*
  generalize hx':b.getD i default=x at*
  by_cases hi5:i=5
  ·subst hi5
   show Sim _ _ _ _ _ (rndQ (inB 0 (thenS _ _ _ _ (Fin _ _ [] (.tup [iA 0,iA 0,iA 6]) []))) _)
   generalize (128 ^ 5:Int)=Pw at*
   (refine WW ?_)
   exact fr0
  have ht:x.tmod 128=x % 128:=Int.tmod_eq_emod_of_nonneg hx.1
  have hPb:=p128 (i:=i) (by omega)
  have hPw:1≤(128:Int) ^ i∧(128:Int) ^ i≤268435456:=by omega
  have hz:=mulBd (x:=x.tmod 128) (P:=128 ^ i) (by omega) (by omega) (by omega) (by omega)
  have hso:=sz_ok (i:=i) (n:=n) (x:=x.tmod 128) (by omega) q3 q4 (by omega) (by omega)
  have hP1:(128:Int) ^ (i+1)=128 ^ i*128:=rfl
  by_cases h128:128≤x
  ·have e:vdR (x::r) i n=vdR r (i+1) (n+x.tmod 128*128 ^ i):=by rw[vdR,if_neg hi5,if_pos h128]
   rw[e]
   clear hso hPb hx'
   generalize (128:Int) ^ i=Pw at*
   have hir:InR .i64 (x.tmod 128*Pw):=by generalize x.tmod 128*Pw=Z at *; exact⟨by omega,by omega⟩
   have hir2:InR .i64 (n+x.tmod 128*Pw):=by generalize x.tmod 128*Pw=Z at *; exact⟨by omega,by omega⟩
   have hm1:0≤n+x.tmod 128*Pw∧n+x.tmod 128*Pw<Pw*128:=by generalize x.tmod 128*Pw=Z at *; omega
   (repeat' (first|refine WZ ?_|refine SG (I2 (fun hc=>?_) (fun hc=>?_))|refine SG (fun hc=>?_)|(refine is_ops ?_;refine is_call ?_;fail)|(refine is_ops ?_;first|(refine is_bin ?_;first|refine x_q (stp_mul rfl rfl hir) rfl ?_|refine x_q (stp_add rfl rfl hir2) rfl ?_)|refine SM ?_)|first|refine SR ?_|refine SK (I2 (fun hc=>?_) (fun hc=>?_))|refine SK (fun hc=>?_)|fail))
   refine⟨zn-1,by omega,i+1,n+x.tmod 128*Pw,⟨by omega,by omega,by omega,hm1.1,by rw[hP1];exact hm1.2,by rw[hr]⟩,?_⟩
   rw[hP1]
   rfl
  ·have hxm:x.tmod 128=x:=by omega
   have e:vdR (x::r) i n=if 4294967295<n+x.tmod 128*128 ^ i∨(0<i∧x=0)then(0,0,6)else(n+x.tmod 128*128 ^ i,(i:Int)+1,0):=by rw[vdR,if_neg hi5,if_neg h128]
   have c:=sizeV2_c (n+x.tmod 128*128 ^ i)
   rw[e]
   rw[hxm]at hso
   rw[hxm]at c hz⊢
   clear hPb hx' e
   generalize (128:Int) ^ i=Pw at*
   have hir:InR .i64 (x.tmod 128*Pw):=by rw[hxm];generalize x*Pw=Z at *; exact⟨by omega,by omega⟩
   have hir2:InR .i64 (n+x.tmod 128*Pw):=by rw[hxm];generalize x*Pw=Z at *; exact⟨by omega,by omega⟩
   by_cases hbad:4294967295<n+x*Pw∨(0<i∧x=0)
   ·have hne:szF (n+x*Pw)≠(i:Int)+1:=fun h=>hso.1 h hbad
    rw[if_pos hbad]
    clear hso hbad
    generalize szF (n+x*Pw)=s at*
    rw[←hxm]at c hz
    (have zc1:=c;(repeat' (first|refine WZ ?_|refine SG (I2 (fun hc=>?_) (fun hc=>?_))|refine SG (fun hc=>?_)|(refine is_ops ?_;refine is_call ?_;refine SC ?_)|(refine is_ops ?_;first|(refine is_bin ?_;first|refine x_q (stp_mul rfl rfl hir) rfl ?_|refine x_q (stp_add rfl rfl hir2) rfl ?_)|refine SM ?_)|first|refine SR ?_|refine SK (I2 (fun hc=>?_) (fun hc=>?_))|refine SK (fun hc=>?_)|fail))<;>clear zc1)
    exact fr0
   ·have heq:=hso.2 hbad
    rw[heq]at c
    rw[if_neg hbad]
    clear hso hbad heq
    rw[←hxm]at c hz⊢
    (have zc1:=c;(repeat' (first|refine WZ ?_|refine SG (I2 (fun hc=>?_) (fun hc=>?_))|refine SG (fun hc=>?_)|(refine is_ops ?_;refine is_call ?_;refine SC ?_)|(refine is_ops ?_;first|(refine is_bin ?_;first|refine x_q (stp_mul rfl rfl hir) rfl ?_|refine x_q (stp_add rfl rfl hir2) rfl ?_)|refine SM ?_)|first|refine SR ?_|refine SK (I2 (fun hc=>?_) (fun hc=>?_))|refine SK (fun hc=>?_)|fail))<;>clear zc1)
    exact fr0
section
variable {P:Program} {tm:List (Nat×AV)} {h:List (Nat×Ent)} {tx ty:Nat} {x y:Operand}
theorem and127:∀k:_root_.Fin 256,IntKind.u8.wrap (BitVec.ofInt IntKind.u8.bits (k.val:Int) &&& BitVec.ofInt IntKind.u8.bits 127).toNat=((k.val:Int)).tmod 128:=by decide +kernel
theorem stp_and7 {m:Int} (hx:opv (look tm) x= .s (.int .u8 m)) (hy:opv (look tm) y= .s (.int .u8 127)) (h0:0≤m∧m<256):Stp P ⟨tm,h⟩ (.binOp .and tx x y ty) (.s (.int .u8 (m.tmod 128))) [] [] []:=by
 have e:=and127 ⟨m.toNat,by omega⟩
 simp only[show((m.toNat:Nat):Int)=m by omega]at e
 rw[←e]
 exact stp_and hx hy
end
theorem orI_big (a b:Nat) (ha:a<2 ^ 60) (hb:b<2 ^ 60):orI a b=((a ||| b:Nat):Int):=by
 have h:=Nat.or_lt_two_pow ha hb
 unfold orI
 rw[show BitVec.ofInt IntKind.i64.bits (a:Int)=BitVec.ofNat IntKind.i64.bits a from BitVec.ofInt_natCast ..]
 rw[show BitVec.ofInt IntKind.i64.bits (b:Int)=BitVec.ofNat IntKind.i64.bits b from BitVec.ofInt_natCast ..]
 rw[BitVec.toNat_or,BitVec.toNat_ofNat,BitVec.toNat_ofNat,Nat.mod_eq_of_lt (Nat.lt_of_lt_of_le ha (Nat.pow_le_pow_right (by decide) (by decide))),Nat.mod_eq_of_lt (Nat.lt_of_lt_of_le hb (Nat.pow_le_pow_right (by decide) (by decide)))]
 refine wrap_in ⟨?_,?_⟩
 ·show(-9223372036854775808:Int)≤_
  omega
 ·show _≤(9223372036854775807:Int)
  have:(2:Nat) ^ 60=1152921504606846976:=rfl
  omega
theorem or_shl {i:Nat} {n y:Int} (h:i≤4) (h0:0≤n) (h1:n<128 ^ i) (y0:0≤y) (y1:y<128):orI n (IntKind.i64.wrap (y*2 ^ (min ((7*(i:Int)).toNat) IntKind.i64.bits)))=n+y*128 ^ i:=by
 have hb:IntKind.i64.bits=64:=rfl
 have e1:min ((7*(i:Int)).toNat) 64=7*i:=by omega
 have e2:(2:Int) ^ (7*i)=128 ^ i:=by rw[Int.pow_mul];rfl
 rw[hb,e1,e2]
 have hP:1≤(128:Int) ^ i∧(128:Int) ^ i≤268435456:=by have:=p128 h;omega
 have hz:=mulBd y0 y1 hP.1 hP.2
 rw[show IntKind.i64.wrap (y*128 ^ i)=y*128 ^ i from wrap_in (k:= .i64) (by unfold InR;generalize y*128 ^ i=Z at *; generalize (128:Int) ^ i=Pw at *; omega)]
 obtain⟨a,rfl⟩:=Int.eq_ofNat_of_zero_le h0
 obtain⟨c,rfl⟩:=Int.eq_ofNat_of_zero_le y0
 have hPn:(128:Int) ^ i=((128 ^ i:Nat):Int):=by simp
 rw[hPn]at h1 hz hP⊢
 have ha:a<128 ^ i:=by omega
 rw[show((c:Int)*((128 ^ i:Nat):Int))=((c*128 ^ i:Nat):Int) by simp]at hz⊢
 rw[orI_big a (c*128 ^ i) (by have:(2:Nat) ^ 60=1152921504606846976:=rfl;omega) (by have:(2:Nat) ^ 60=1152921504606846976:=rfl;omega)]
 have e3:(128:Nat) ^ i=2 ^ (7*i):=by rw[Nat.pow_mul]
 rw[e3]at ha⊢
 have:=Nat.shiftLeft_add_eq_or_of_lt ha c
 rw[Nat.shiftLeft_eq]at this
 rw[Nat.or_comm,←this]
 omega
theorem vd_c (b:List Int) (hb:BY b) (hn:b.length≤100000):CallSim Tryz.prog 147 [slA yA b] [] (.tup [iA (vdF b).1,iA (vdF b).2.1,iA (vdF b).2.2]) []:=by
 have hl:=map_len yA b
 (refine eN Tryz.func147 Tryz.call147 fun F hF=>?_)
 (refine WW ?_)
 (refine sim_rngP (b) [] [] [8,9] [5,10,8,9] rfl (fun i pre T U zs=>∃n:Int,(0≤n∧n<128 ^ i∧i≤5∧∀post,b=pre++post→vdF b=vdR post i n)∧zs=⟨(5,iA n)::(10,iA i)::T,U⟩) ?_;(conv=>whnf);refine⟨?_,?_,?_⟩)
 ·exact⟨0,⟨by omega,by decide,by omega,fun post h=>by rw[h];rfl⟩,rfl⟩
 ·rintro i pre x r st hx hi ⟨n,⟨q0,q1,q2,q3⟩,rfl⟩
  have hy:=rng_at yA hx hi
  have hlt:=rng_lt hx hi
  have hxb:=hb x (rng_mem hx)
  rw[q3 _ hx]
  have q4:∀post,b=pre++[x]++post→post=r:=fun post h=>by
   rw[hx,List.append_assoc]at h
   simpa using h.symm
  clear q3 hx
  by_cases hi5:i=5
  ·subst hi5
   show Sim _ _ _ _ _ (rndQ (inB 0 (thenS _ _ _ _ (Fin _ _ [] (.tup [iA 0,iA 0,iA 6]) []))) _)
   clear q4
   (refine WW ?_)
   exact fr0
  have ht:x.tmod 128=x % 128:=Int.tmod_eq_emod_of_nonneg hxb.1
  have hPb:=p128 (i:=i) (by omega)
  have hPw:1≤(128:Int) ^ i∧(128:Int) ^ i≤268435456:=by omega
  have hz:=mulBd (x:=x.tmod 128) (P:=128 ^ i) (by omega) (by omega) (by omega) (by omega)
  have hE:=or_shl (i:=i) (n:=n) (y:=x.tmod 128) (by omega) q0 q1 (by omega) (by omega)
  have hP1:(128:Int) ^ (i+1)=128 ^ i*128:=rfl
  by_cases h128:128≤x
  ·have e:vdR (x::r) i n=vdR r (i+1) (n+x.tmod 128*128 ^ i):=by rw[vdR,if_neg hi5,if_pos h128]
   rw[e]
   have hm1:0≤n+x.tmod 128*128 ^ i∧n+x.tmod 128*128 ^ i<128 ^ (i+1):=by
    rw[hP1]
    generalize x.tmod 128*128 ^ i=Z at*
    omega
   clear hPb e hz
   generalize n+x.tmod 128*128 ^ i=M at*
   (repeat' (first|refine WZ ?_|refine SG (I2 (fun hc=>?_) (fun hc=>?_))|refine SG (fun hc=>?_)|(refine is_ops ?_;refine is_call ?_;fail)|(refine is_ops ?_;first|(refine is_bin ?_;refine x_q (stp_and7 rfl rfl hxb) rfl ?_)|refine SM ?_)|first|refine SR ?_|refine SK (I2 (fun hc=>?_) (fun hc=>?_))|refine SK (fun hc=>?_)|fail))
   refine⟨M,⟨hm1.1,hm1.2,by omega,fun post h=>by rw[q4 post h]⟩,?_⟩
   rw[←hE]
   rfl
  ·have e:vdR (x::r) i n=if 4294967295<n+x.tmod 128*128 ^ i∨(0<i∧x=0)then(0,0,6)else(n+x.tmod 128*128 ^ i,(i:Int)+1,0):=by rw[vdR,if_neg hi5,if_neg h128]
   rw[e]
   have hm1:0≤n+x.tmod 128*128 ^ i∧n+x.tmod 128*128 ^ i<128 ^ (i+1):=by
    rw[hP1]
    generalize x.tmod 128*128 ^ i=Z at*
    omega
   clear hPb e hz q4 hP1
   generalize n+x.tmod 128*128 ^ i=M at*
   by_cases hbad:4294967295<M∨(0<i∧x=0)
   ·rw[if_pos hbad]
    by_cases hM:4294967295<M
    ·clear hbad
     (repeat' (first|refine WZ ?_|refine SG (I2 (fun hc=>?_) (fun hc=>?_))|refine SG (fun hc=>?_)|(refine is_ops ?_;refine is_call ?_;fail)|(refine is_ops ?_;first|(refine is_bin ?_;refine x_q (stp_and7 rfl rfl hxb) rfl ?_)|refine SM ?_)|first|refine SR ?_|refine SK (I2 (fun hc=>?_) (fun hc=>?_))|refine SK (fun hc=>?_)|fail))
     exact fr0
    ·obtain⟨h1,h2⟩:=hbad.resolve_left hM
     (repeat' (first|refine WZ ?_|refine SG (I2 (fun hc=>?_) (fun hc=>?_))|refine SG (fun hc=>?_)|(refine is_ops ?_;refine is_call ?_;fail)|(refine is_ops ?_;first|(refine is_bin ?_;refine x_q (stp_and7 rfl rfl hxb) rfl ?_)|refine SM ?_)|first|refine SR ?_|refine SK (I2 (fun hc=>?_) (fun hc=>?_))|refine SK (fun hc=>?_)|fail))
     exact fr0
   ·rw[if_neg hbad]
    by_cases hi0:0<i
    ·have hx0:x≠0:=fun h=>hbad (.inr ⟨hi0,h⟩)
     (repeat' (first|refine WZ ?_|refine SG (I2 (fun hc=>?_) (fun hc=>?_))|refine SG (fun hc=>?_)|(refine is_ops ?_;refine is_call ?_;fail)|(refine is_ops ?_;first|(refine is_bin ?_;refine x_q (stp_and7 rfl rfl hxb) rfl ?_)|refine SM ?_)|first|refine SR ?_|refine SK (I2 (fun hc=>?_) (fun hc=>?_))|refine SK (fun hc=>?_)|fail))
     rw[←hE]
     exact fr0
    ·(repeat' (first|refine WZ ?_|refine SG (I2 (fun hc=>?_) (fun hc=>?_))|refine SG (fun hc=>?_)|(refine is_ops ?_;refine is_call ?_;fail)|(refine is_ops ?_;first|(refine is_bin ?_;refine x_q (stp_and7 rfl rfl hxb) rfl ?_)|refine SM ?_)|first|refine SR ?_|refine SK (I2 (fun hc=>?_) (fun hc=>?_))|refine SK (fun hc=>?_)|fail))
     rw[←hE]
     exact fr0
 ·rintro st ⟨n,⟨q0,q1,q2,q3⟩,rfl⟩
  rw[q3 [] (by simp)]
  show Sim _ _ _ _ _ (rndQ (inB 0 (thenS _ _ _ _ (Fin _ _ [] (.tup [iA 0,iA 0,iA 6]) []))) _)
  (refine WW ?_)
  exact fr0
end
section
set_option maxRecDepth 4000
set_option maxHeartbeats 2000000
theorem vdR_ok:∀(r:List Int) (i:Nat) (n:Int),BY r→0≤n→(vdR r i n=(0,0,6))∨((vdR r i n).2.2=0∧0≤(vdR r i n).1∧(vdR r i n).1≤4294967295∧(i:Int)+1≤(vdR r i n).2.1∧(vdR r i n).2.1≤i+r.length)
 | [],i,n,_,_=> .inl rfl
 | x::r,i,n,hb,hn=>by
  have hx:=hb x (by simp)
  have hp:0≤n+x.tmod 128*128 ^ i:=by
   have h1:0≤x.tmod 128:=by rw[Int.tmod_eq_emod_of_nonneg hx.1];omega
   have h2:(0:Int)≤128 ^ i:=Int.pow_nonneg (by omega)
   have:=Int.mul_nonneg h1 h2
   omega
  rw[vdR]
  by_cases h5:i=5
  ·exact .inl (if_pos h5)
  rw[if_neg h5]
  by_cases h1:128≤x
  ·rw[if_pos h1]
   rcases vdR_ok r (i+1) (n+x.tmod 128*128 ^ i) (fun y hy=>hb y (by simp[hy])) hp with h|⟨a,b,c,d,e⟩
   ·exact .inl h
   ·refine .inr ⟨a,b,c,by omega,?_⟩
    rw[List.length_cons]
    omega
  ·rw[if_neg h1]
   by_cases h2:4294967295<n+x.tmod 128*128 ^ i∨(0<i∧x=0)
   ·exact .inl (if_pos h2)
   ·rw[if_neg h2]
    refine .inr ⟨rfl,hp,by omega,Int.le_refl _,?_⟩
    show(i:Int)+1≤_
    rw[List.length_cons]
    omega
theorem vdF_ok (b:List Int) (hb:BY b):vdF b=(0,0,6)∨((vdF b).2.2=0∧0≤(vdF b).1∧(vdF b).1≤4294967295∧1≤(vdF b).2.1∧(vdF b).2.1≤b.length):=by
 have:=vdR_ok b 0 0 hb (Int.le_refl _)
 rcases this with h|⟨a,b,c,d,e⟩
 ·exact .inl h
 ·exact .inr ⟨a,b,c,by have:(0:Int)+1≤(vdF _).2.1:=d;omega,by have:(vdF _).2.1≤(0:Int)+_:=e;omega⟩
def nbF:Nat→List Int→Option (List Int×List Int)
 |0,b=>some ([],b)
 |n+1,b=>if(vdF b).2.2=0 then(match nbF n (b.drop (vdF b).2.1.toNat)with|none=>none|some (l,r)=>some ((vdF b).1::l,r))else none
def nbG (l:List Int):Option (List Int×List Int)→Option (List Int×List Int)
 |none=>none
 |some (k,r)=>some (l++k,r)
theorem nbG_nil (o:Option (List Int×List Int)):nbG [] o=o:=by
 cases o with
 |none=>rfl
 |some p=>rfl
theorem nbG_no {l b:List Int} {n:Nat} (h:(vdF b).2.2≠0):nbG l (nbF (n+1) b)=none:=by
 rw[nbF,if_neg h]
 rfl
theorem nbG_go {l b:List Int} {n:Nat} (h:(vdF b).2.2=0):nbG l (nbF (n+1) b)=nbG (l++[(vdF b).1]) (nbF n (b.drop (vdF b).2.1.toNat)):=by
 rw[nbF,if_pos h]
 cases nbF n (b.drop (vdF b).2.1.toNat)with
 |none=>rfl
 |some p=>obtain⟨k,r⟩:=p;simp[nbG]
def nbT:Option (List Int×List Int)→AV
 |none=> .tup [slA iA [],slA yA [],bA false]
 |some (l,r)=> .tup [slA iA l,slA yA r,bA true]
theorem numbers_c (b:List Int) (n:Nat) (hb:BY b) (hbn:b.length≤100000) (hn:n≤1000):CallSim Tryz.prog 117 [slA yA b,iA n] [] (nbT (nbF n b)) []:=by
 (refine eN Tryz.func117 Tryz.call117 fun F hF=>?_)
 (refine WW ?_)
 refine sim_stale 12 rfl ?_
 (refine sim_cntP (n) [12] [] [13] [0,7,14,13] rfl (fun i T U zs=>∃acc c,(acc.length=i∧BY c∧c.length≤100000∧nbF n b=nbG acc (nbF (n-i) c))∧zs=⟨(0,slA yA c)::(7,.ref 12 0 (acc.map iA).length)::(14,iA i)::T,(12,.arr 1 (acc.map iA) true)::U⟩) ?_;(conv=>whnf);refine⟨?_,?_,?_⟩)
 ·exact⟨[],b,⟨rfl,hb,hbn,by rw[nbG_nil];rfl⟩,rfl⟩
 ·rintro i st hi ⟨acc,c,⟨q0,q1,q2,q3⟩,rfl⟩
  have hd:=vd_c c q1 q2
  have hl:=map_len yA c
  have hla:=map_len iA acc
  rw[show n-i=(n-(i+1))+1 by omega]at q3
  rcases vdF_ok c q1 with h|⟨h1,h2,h3,h4,h5⟩
  ·rw[q3,nbG_no (by rw[h];decide)]
   rw[h]at hd
   clear q3 h
   show Sim _ _ _ _ _ (rndQ (inB 0 (thenS _ _ _ _ (Fin _ _ [] (.tup [slA iA [],slA yA [],bA false]) []))) _)
   (have zc1:=hd;refine WW ?_;clear zc1)
   exact fr0
  ·rw[nbG_go h1]at q3
   rw[h1]at hd
   have hbd:BY (c.drop (vdF c).2.1.toNat):=fun y hy=>q1 y (List.mem_of_mem_drop hy)
   have hcd:(c.drop (vdF c).2.1.toNat).length≤100000:=by rw[List.length_drop];omega
   clear h1
   rw[q3]
   generalize (vdF c).1=v at*
   generalize (vdF c).2.1=k at*
   (have zc1:=hd;refine WW ?_;clear zc1)
   refine⟨acc++[v],c.drop k.toNat,⟨by simp[q0],hbd,hcd,rfl⟩,?_⟩
   rw[List.map_append]
   rfl
 ·rintro st ⟨acc,c,⟨q0,q1,q2,q3⟩,rfl⟩
  rw[q3,Nat.sub_self]
  show Sim _ _ _ _ _ (rndQ (inB 0 (thenS _ _ _ _ (Fin _ _ [] (.tup [slA iA (acc++[]),slA yA c,bA true]) []))) _)
  rw[List.append_nil]
  (refine WW ?_)
  exact fin_ret [] rfl rfl (congrArg (fun z=>AV.tup [z,slA yA c,bA true]) (wk_take _ _)) rfl
theorem numbers2_c (b:List Int) (n:Nat) (hb:BY b) (hbn:b.length≤100000) (hn:n≤1000):CallSim Tryz.prog 57 [slA yA b,iA n] [] (nbT (nbF n b)) []:=by
 (refine eN Tryz.func57 Tryz.call57 fun F hF=>?_)
 (refine WW ?_)
 refine sim_virt 7 1001 1 rfl rfl rfl ?_
 (refine sim_cntP (n) [1001] [] [11] [0,7,12,11] rfl (fun i T U zs=>∃acc c,(acc.length=i∧BY c∧c.length≤100000∧nbF n b=nbG acc (nbF (n-i) c))∧zs=⟨(0,slA yA c)::(7,.ref 1001 0 (acc.map iA).length)::(12,iA i)::T,(1001,.arr 1 (acc.map iA) true)::U⟩) ?_;(conv=>whnf);refine⟨?_,?_,?_⟩)
 ·exact⟨[],b,⟨rfl,hb,hbn,by rw[nbG_nil];rfl⟩,rfl⟩
 ·rintro i st hi ⟨acc,c,⟨q0,q1,q2,q3⟩,rfl⟩
  have hd:=vd2_c c q1 q2
  have hl:=map_len yA c
  have hla:=map_len iA acc
  rw[show n-i=(n-(i+1))+1 by omega]at q3
  rcases vdF_ok c q1 with h|⟨h1,h2,h3,h4,h5⟩
  ·rw[q3,nbG_no (by rw[h];decide)]
   rw[h]at hd
   clear q3 h
   show Sim _ _ _ _ _ (rndQ (inB 0 (thenS _ _ _ _ (Fin _ _ [] (.tup [slA iA [],slA yA [],bA false]) []))) _)
   (have zc1:=hd;refine WW ?_;clear zc1)
   exact fr0
  ·rw[nbG_go h1]at q3
   rw[h1]at hd
   have hbd:BY (c.drop (vdF c).2.1.toNat):=fun y hy=>q1 y (List.mem_of_mem_drop hy)
   have hcd:(c.drop (vdF c).2.1.toNat).length≤100000:=by rw[List.length_drop];omega
   clear h1
   rw[q3]
   generalize (vdF c).1=v at*
   generalize (vdF c).2.1=k at*
   (have zc1:=hd;refine WW ?_;clear zc1)
   refine⟨acc++[v],c.drop k.toNat,⟨by simp[q0],hbd,hcd,rfl⟩,?_⟩
   rw[List.map_append]
   rfl
 ·rintro st ⟨acc,c,⟨q0,q1,q2,q3⟩,rfl⟩
  rw[q3,Nat.sub_self]
  show Sim _ _ _ _ _ (rndQ (inB 0 (thenS _ _ _ _ (Fin _ _ [] (.tup [slA iA (acc++[]),slA yA c,bA true]) []))) _)
  rw[List.append_nil]
  (refine WW ?_)
  exact fin_ret [] rfl rfl (congrArg (fun z=>AV.tup [z,slA yA c,bA true]) (wk_take _ _)) rfl
end
section
set_option maxRecDepth 4000
set_option maxHeartbeats 2000000
def enR:Nat→Int→List Int
 |0,n=>[n]
 |f+1,n=>if n<128 then [n]else(n % 128+128)::enR f (n/128)
def enF (n:Int):List Int:=enR 4 n
theorem div_lt {n:Int} {z:Nat} (h:n<128 ^ (z+1+1)):n/128<128 ^ (z+1):=Int.ediv_lt_of_lt_mul (by decide) (by rw[Int.pow_succ]at h;exact h)
theorem enR_lt {f:Nat} {n:Int} (h:n<128):enR f n=[n]:=by
 cases f with
 |zero=>rfl
 |succ f=>exact if_pos h
theorem enR_ge {f:Nat} {n:Int} (h:128≤n):enR (f+1) n=(n % 128+128)::enR f (n/128):=if_neg (by omega)
theorem en2_c (n:Int) (h0:0≤n) (h1:n≤4294967295):CallSim Tryz.prog 100 [iA n] [] (.tup [slA yA (enF n),iA 0]) []:=by
 have cs:=sizeV2_c n
 have hsz:1≤szF n:=by
  rw[szF_lg h0 h1]
  unfold lgF
  repeat' split
  all_goals omega
 generalize szF n=s at*
 generalize hR:enF n=R
 (refine eN Tryz.func100 Tryz.call100 fun F hF=>?_)
 (have zc1:=cs;refine WW ?_;clear zc1)
 refine sim_virt 4 1001 1 rfl rfl rfl ?_
 (refine sim_whl (4) [1001] [] [] [0,4] rfl (fun zn T U zs=>∃(m:Int) (acc:List Int),(0≤m∧m≤4294967295∧m<128 ^ (zn+1)∧acc.length+zn=4∧acc++enR zn m=R)∧zs=⟨(0,iA m)::(4,.ref 1001 0 (acc.map yA).length)::T,(1001,.arr 1 (acc.map yA) true)::U⟩) ?_;(conv=>whnf);refine⟨?_,?_⟩)
 ·exact⟨n,[],⟨h0,h1,by show n<34359738368;omega,rfl,hR⟩,rfl⟩
 ·rintro zn st ⟨m,acc,⟨q0,q1,q2,q3,q4⟩,rfl⟩
  have hla:=map_len yA acc
  by_cases hm:128≤m
  ·obtain⟨z,rfl⟩:∃z,zn=z+1:=by
    cases zn with
    |zero=>exfalso;have:m<128:=q2;omega
    |succ z=>exact⟨z,rfl⟩
   rw[enR_ge hm]at q4
   have hd:=div_lt q2
   have ht:m.tmod 128=m % 128:=Int.tmod_eq_emod_of_nonneg q0
   have hmd:m.tdiv 128=m/128:=Int.tdiv_eq_ediv_of_nonneg q0
   have hir:InR .i64 (m.tdiv 128):=⟨by omega,by omega⟩
   clear q2
   (refine WW ?_)
   refine⟨z,by omega,m.tdiv 128,acc++[m.tmod 128+128],⟨by omega,by omega,by rw[hmd];exact hd,by simp;omega,by rw[hmd,ht,List.append_assoc];exact q4⟩,?_⟩
   rw[List.map_append]
   rfl
  ·rw[enR_lt (by omega)]at q4
   clear q2
   subst q4
   (refine WW ?_)
   refine fin_ret [] rfl rfl ?_ rfl
   show AV.tup [AV.sl false ((acc.map yA++[yA m]).take (acc.map yA++[yA m]).length),iA 0]=_
   rw[List.take_length]
   unfold slA
   rw[List.map_append]
   rfl
section
variable {P:Program} {tm:List (Nat×AV)} {h:List (Nat×Ent)} {tx ty:Nat} {x y:Operand}
end
end
section
set_option maxRecDepth 4000
set_option maxHeartbeats 2000000
theorem vdR_code:∀(r:List Int) (i:Nat) (n:Int),BY r→i≤5→(vdR r i n).2.2=0→∃q:Int,0≤q∧(vdR r i n).1=n+q*128 ^ i∧(0<i→0<q)∧i≤4∧∃j:Nat,(vdR r i n).2.1=((i+j:Nat):Int)∧enR (4-i) q=r.take j
 | [],i,n,_,_,h=>by exact absurd (show(6:Int)=0 from h) (by decide)
 | x ::r,i,n,hb,h5,h=>by
  have hx:=hb x (by simp)
  by_cases hi:i=5
  ·exfalso
   rw[vdR,if_pos hi]at h
   exact absurd (show(6:Int)=0 from h) (by decide)
  by_cases hx1:128≤x
  ·have e:vdR (x::r) i n=vdR r (i+1) (n+x.tmod 128*128 ^ i):=by rw[vdR,if_neg hi,if_pos hx1]
   rw[e]at h⊢
   obtain⟨q,q0,q1,q2,q3,j,q4,q5⟩:=vdR_code r (i+1) _ (fun y hy=>hb y (by simp[hy])) (by omega) h
   have ht:x.tmod 128=x % 128:=Int.tmod_eq_emod_of_nonneg hx.1
   have hq:=q2 (by omega)
   refine⟨x.tmod 128+q*128,by omega,?_,fun _=>by omega,by omega,j+1,by rw[q4];omega,?_⟩
   ·rw[q1,Int.pow_succ,Int.add_mul,Int.mul_assoc,Int.mul_comm 128,Int.add_assoc]
   ·obtain⟨f,hf⟩:∃f,4-i=f+1:=⟨3-i,by omega⟩
    rw[hf,enR_ge (by omega),List.take_succ_cons,←q5,show 4-(i+1)=f by omega]
    congr 1
    ·omega
    ·congr 1
     omega
  ·have hxm:x.tmod 128=x:=by rw[Int.tmod_eq_emod_of_nonneg hx.1];omega
   have e:vdR (x::r) i n=if 4294967295<n+x.tmod 128*128 ^ i∨(0<i∧x=0)then(0,0,6)else(n+x.tmod 128*128 ^ i,(i:Int)+1,0):=by rw[vdR,if_neg hi,if_neg hx1]
   rw[e]at h⊢
   by_cases hbad:4294967295<n+x.tmod 128*128 ^ i∨(0<i∧x=0)
   ·rw[if_pos hbad]at h
    exact absurd (show(6:Int)=0 from h) (by decide)
   ·rw[if_neg hbad,hxm]
    refine⟨x,hx.1,rfl,fun h0=>?_,by omega,1,by show(i:Int)+1=_;omega,?_⟩
    ·have:x≠0:=fun h=>hbad (.inr ⟨h0,h⟩)
     omega
    ·rw[enR_lt (by omega)]
     rfl
theorem vdF_code {b:List Int} (hb:BY b) (h:(vdF b).2.2=0):enF (vdF b).1=b.take (vdF b).2.1.toNat:=by
 obtain⟨q,_,q1,_,_,j,q4,q5⟩:=vdR_code b 0 0 hb (by omega) h
 have e1:(vdF b).1=q:=by
  show(vdR b 0 0).1=q
  rw[q1]
  simp
 have e2:(vdF b).2.1.toNat=j:=by
  show(vdR b 0 0).2.1.toNat=j
  rw[q4]
  simp
 rw[e1,e2]
 exact q5
theorem nbF_ok:∀(n:Nat) (b l r:List Int),BY b→nbF n b=some (l,r)→l.length=n∧BY r∧(∀x∈l,0≤x∧x≤4294967295)∧b=(l.map enF).flatten++r
 |0,b,l,r,hb,h=>by
  cases h
  exact⟨rfl,hb,by simp,rfl⟩
 | n +1,b,l,r,hb,h=>by
  rw[nbF]at h
  by_cases he:(vdF b).2.2=0
  ·rw[if_pos he]at h
   rcases vdF_ok b hb with h0|⟨_,h2,h3,h4,h5⟩
   ·rw[h0]at he
    exact absurd (show(6:Int)=0 from he) (by decide)
   cases hn:nbF n (b.drop (vdF b).2.1.toNat)with
   |none=>rw[hn]at h;cases h
   | some p=>
    obtain⟨l',r'⟩:=p
    rw[hn]at h
    cases h
    obtain⟨g1,g2,g3,g4⟩:=nbF_ok n _ l' r (fun y hy=>hb y (List.mem_of_mem_drop hy)) hn
    refine⟨by simp[g1],g2,fun x hx=>?_,?_⟩
    ·rcases List.mem_cons.1 hx with rfl|hx
     ·exact⟨h2,h3⟩
     ·exact g3 x hx
    ·rw[List.map_cons,List.flatten_cons,vdF_code hb he,List.append_assoc,←g4,List.take_append_drop]
  ·rw[if_neg he]at h
   cases h
end
section
set_option maxRecDepth 4000
set_option maxHeartbeats 2000000
theorem numbers_own (b:List Int) (n:Nat) (l r:List Int) (hb:BY b) (hbn:b.length≤100000) (hn:n≤1000) (hok:nbF n b=some (l,r)):CallSim Tryz.prog 117 [slA yA b,iA n] [] (.tup [.ref 1001 0 (l.map iA).length,slA yA r,bA true]) [(1001,.arr 1 (l.map iA) true)]:=by
 (refine eN Tryz.func117 Tryz.call117 fun F hF=>?_)
 (repeat' (first|refine WZ ?_|refine SG (I2 (fun hc=>?_) (fun hc=>?_))|refine SG (fun hc=>?_)|(refine is_ops ?_;refine is_call ?_;fail)|(refine is_ops ?_;first|(refine is_mks ?_;refine x_mksK 1001 tok rfl rfl rfl rfl rfl rfl rfl rfl rfl rfl rfl rfl rfl (by omega) (by omega) rfl rfl rfl ?_))|first|refine SR ?_|refine SK (I2 (fun hc=>?_) (fun hc=>?_))|refine SK (fun hc=>?_)|fail))
 refine sim_stale 1001 rfl ?_
 (refine sim_cntP (n) [1001] [] [13] [0,7,14,13] rfl (fun i T U zs=>∃acc c,(acc.length=i∧BY c∧c.length≤100000∧nbF n b=nbG acc (nbF (n-i) c))∧zs=⟨(0,slA yA c)::(7,.ref 1001 0 (acc.map iA).length)::(14,iA i)::T,(1001,.arr 1 (acc.map iA) true)::U⟩) ?_;(conv=>whnf);refine⟨?_,?_,?_⟩)
 ·exact⟨[],b,⟨rfl,hb,hbn,by rw[nbG_nil];rfl⟩,rfl⟩
 ·rintro i st hi ⟨acc,c,⟨q0,q1,q2,q3⟩,rfl⟩
  have hd:=vd_c c q1 q2
  have hl:=map_len yA c
  have hla:=map_len iA acc
  rw[show n-i=(n-(i+1))+1 by omega]at q3
  rcases vdF_ok c q1 with h|⟨h1,h2,h3,h4,h5⟩
  ·rw[nbG_no (by rw[h];decide),hok]at q3
   cases q3
  ·rw[nbG_go h1]at q3
   rw[h1]at hd
   have hbd:BY (c.drop (vdF c).2.1.toNat):=fun y hy=>q1 y (List.mem_of_mem_drop hy)
   have hcd:(c.drop (vdF c).2.1.toNat).length≤100000:=by rw[List.length_drop];omega
   clear h1
   generalize (vdF c).1=v at*
   generalize (vdF c).2.1=k at*
   (have zc1:=hd;refine WW ?_;clear zc1)
   refine⟨acc++[v],c.drop k.toNat,⟨by simp[q0],hbd,hcd,q3⟩,?_⟩
   rw[List.map_append]
   rfl
 ·rintro st ⟨acc,c,⟨q0,q1,q2,q3⟩,rfl⟩
  rw[Nat.sub_self,hok]at q3
  have e:(l,r)=(acc++[],c):=Option.some.inj q3
  rw[List.append_nil]at e
  cases e
  (refine WW ?_)
  exact fin_own [1001] rfl rfl rfl rfl
def fixF (k:Int):Nat:=if k=2∨k=6 then 3 else if k=4 then 2 else if k=1∨k=9∨k=12 then 0 else 1
def grpF (k:Int):Nat:=if k=6 then 4 else if k=7 then 2 else 0
def shA (fx gr:Nat):AV:= .agg [iA 10,iA fx,iA gr,iA (if gr=0 then 0 else 1),iA (if gr=0 then 0 else 3),iA 0]
theorem shape12_c (k:Int) (h0:1≤k) (h1:k≤12):CallSim Tryz.prog 116 [iA k] [] (.tup [shA (fixF k) (grpF k),bA true]) []:=by
 obtain rfl|rfl|rfl|rfl|rfl|rfl|rfl|rfl|rfl|rfl|rfl|rfl:k=1∨k=2∨k=3∨k=4∨k=5∨k=6∨k=7∨k=8∨k=9∨k=10∨k=11∨k=12:=by omega
 all_goals (refine eN Tryz.func116 Tryz.call116 fun F hF=>?_)
 all_goals (refine WW ?_)
 all_goals exact fr0
def dcF (fx gr:Nat) (p:List Int):Option (List Int):=
 if 200<p.length∨p.length<10 then none else match nbF fx (p.drop 10)with
 |none=>none
 | some (a,r)=>if gr=0 then(if r=[]then some a else none)else match nbF 1 r with
  |none=>none
  |some (c,r2)=>if c.getD 0 0<1∨3<c.getD 0 0 then none else match nbF ((c.getD 0 0).toNat*gr) r2 with
   |none=>none
   |some (f,r3)=>if r3=[]then some (a++f)else none
def deT (k:Int) (tok:List Int):Option (List Int)→AV
 |none=> .tup [msA ⟨0,[],[],[]⟩,iA 6]
 |some a=> .tup [msA ⟨k,tok,a,[]⟩,iA 0]
theorem decode_c (k:Int) (h0:1≤k) (h1:k≤12) (p:List Int) (hb:BY p) (hn:p.length≤100000):CallSim Tryz.prog 74 [iA k,slA yA p] [] (deT k (p.take 10) (dcF (fixF k) (grpF k) p)) []:=by
 have hl:=map_len yA p
 have c1:=shape12_c k h0 h1
 have hf:fixF k≤3:=by
  unfold fixF
  repeat' split
  all_goals omega
 have hg:grpF k=0∨(2≤grpF k∧grpF k≤4):=by
  unfold grpF
  repeat' split
  all_goals omega
 generalize fixF k=fx at*
 generalize grpF k=gr at*
 unfold shA at c1
 by_cases hlen:200<p.length∨p.length<10
 ·rw[show dcF fx gr p=none from if_pos hlen]
  show CallSim Tryz.prog 74 [iA k,slA yA p] [] (.tup [msA ⟨0,[],[],[]⟩,iA 6]) []
  by_cases h2:200<p.length
  ·(refine eN Tryz.func74 Tryz.call74 fun F hF=>?_)
   (have zc1:=c1;refine WW ?_;clear zc1)
   exact fr0
  ·have h3:=hlen.resolve_left h2
   (refine eN Tryz.func74 Tryz.call74 fun F hF=>?_)
   (have zc1:=c1;refine WW ?_;clear zc1)
   exact fr0
 have e0:dcF fx gr p=_:=if_neg hlen
 rw[e0]
 clear e0
 have hbd:BY (p.drop 10):=fun y hy=>hb y (List.mem_of_mem_drop hy)
 have hdl:(p.drop 10).length≤100000:=by rw[List.length_drop];omega
 have c2:=numbers_c (p.drop 10) fx hbd hdl (by omega)
 cases hnb:nbF fx (p.drop 10)with
 |none=>
  rw[hnb]at c2
  show CallSim Tryz.prog 74 [iA k,slA yA p] [] (.tup [msA ⟨0,[],[],[]⟩,iA 6]) []
  unfold nbT at c2
  (refine eN Tryz.func74 Tryz.call74 fun F hF=>?_)
  (have zc1:=c1;have zc2:=c2;refine WW ?_;clear zc1 zc2)
  exact fr0
 |some q=>
 obtain⟨a,r⟩:=q
 obtain⟨ha,hbr,har,hsp⟩:=nbF_ok _ _ _ _ hbd hnb
 have hrl:r.length≤100000:=by
  have:=congrArg List.length hsp
  rw[List.length_append]at this
  omega
 have hlr:=map_len yA r
 have hla:=map_len iA a
 have k1:=cloneY_c (p.take 10) (by rw[List.length_take];omega)
 rcases hg with rfl|⟨g2,g4⟩
 ·rw[hnb]at c2
  unfold nbT at c2
  dsimp only
  rw[if_pos rfl]
  by_cases hr:r=[]
  ·subst hr
   have k2:=cloneY_c [] (by simp)
   rw[if_pos rfl]
   show CallSim Tryz.prog 74 [iA k,slA yA p] [] (.tup [msA ⟨k,p.take 10,a,[]⟩,iA 0]) []
   (refine eN Tryz.func74 Tryz.call74 fun F hF=>?_)
   (have zc1:=c1;have zc2:=c2;have zc3:=k1;have zc4:=k2;refine WW ?_;clear zc1 zc2 zc3 zc4)
   exact fr0
  ·have hr0:r.length≠0:=fun h=>hr (List.eq_nil_of_length_eq_zero h)
   rw[if_neg hr]
   show CallSim Tryz.prog 74 [iA k,slA yA p] [] (.tup [msA ⟨0,[],[],[]⟩,iA 6]) []
   (refine eN Tryz.func74 Tryz.call74 fun F hF=>?_)
   (have zc1:=c1;have zc2:=c2;refine WW ?_;clear zc1 zc2)
   exact fr0
 have c2o:=numbers_own (p.drop 10) fx a r hbd hdl (by omega) hnb
 have c3:=numbers_c r 1 hbr hrl (by omega)
 clear c2
 dsimp only
 rw[if_neg (by omega)]
 cases hnc:nbF 1 r with
 |none=>
  rw[hnc]at c3
  unfold nbT at c3
  show CallSim Tryz.prog 74 [iA k,slA yA p] [] (.tup [msA ⟨0,[],[],[]⟩,iA 6]) []
  (refine eN Tryz.func74 Tryz.call74 fun F hF=>?_)
  (have zc1:=c1;have zc2:=c2o;have zc3:=c3;refine WW ?_;clear zc1 zc2 zc3)
  exact fr0
 |some q2=>
 obtain⟨c,r2⟩:=q2
 obtain⟨hc1,hbr2,hcr,hsp2⟩:=nbF_ok _ _ _ _ hbr hnc
 obtain⟨v,rfl⟩:∃v,c=[v]:=by
  cases c with
  |nil=>cases hc1
  |cons v c=>cases c with
   |nil=>exact⟨v,rfl⟩
   |cons w c=>simp at hc1
 have hrl2:r2.length≤100000:=by
  have:=congrArg List.length hsp2
  rw[List.length_append]at this
  omega
 rw[hnc]at c3
 unfold nbT at c3
 dsimp only
 rw[show [v].getD 0 0=v from rfl]
 by_cases hv:v<1∨3<v
 ·rw[if_pos hv]
  show CallSim Tryz.prog 74 [iA k,slA yA p] [] (.tup [msA ⟨0,[],[],[]⟩,iA 6]) []
  by_cases hv1:v<1
  ·(refine eN Tryz.func74 Tryz.call74 fun F hF=>?_)
   (have zc1:=c1;have zc2:=c2o;have zc3:=c3;refine WW ?_;clear zc1 zc2 zc3)
   exact fr0
  ·have hv2:=hv.resolve_left hv1
   (refine eN Tryz.func74 Tryz.call74 fun F hF=>?_)
   (have zc1:=c1;have zc2:=c2o;have zc3:=c3;refine WW ?_;clear zc1 zc2 zc3)
   exact fr0
 rw[if_neg hv]
 have hvg:v.toNat*gr≤12:=Nat.le_trans (Nat.mul_le_mul (show v.toNat≤3 by omega) g4) (by decide)
 have evg:((v.toNat*gr:Nat):Int)=v*(gr:Int):=by rw[Int.natCast_mul,Int.toNat_of_nonneg (by omega)]
 have c4:=numbers_c r2 (v.toNat*gr) hbr2 hrl2 (by omega)
 rw[evg]at c4
 have hm:0≤v*(gr:Int)∧v*(gr:Int)≤12:=by rw[←evg];omega
 clear evg
 cases hnd:nbF (v.toNat*gr) r2 with
 |none=>
  rw[hnd]at c4
  unfold nbT at c4
  show CallSim Tryz.prog 74 [iA k,slA yA p] [] (.tup [msA ⟨0,[],[],[]⟩,iA 6]) []
  (refine eN Tryz.func74 Tryz.call74 fun F hF=>?_)
  (have zc1:=c1;have zc2:=c2o;have zc3:=c3;have zc4:=c4;refine WW ?_;clear zc1 zc2 zc3 zc4)
  exact fr0
 |some q3=>
 obtain⟨f,r3⟩:=q3
 obtain⟨hfl,hbr3,hfr,hsp3⟩:=nbF_ok _ _ _ _ hbr2 hnd
 have hlf:=map_len iA f
 have hlr3:=map_len yA r3
 rw[hnd]at c4
 unfold nbT at c4
 dsimp only
 by_cases hr:r3=[]
 ·subst hr
  have k2:=cloneY_c [] (by simp)
  rw[if_pos rfl]
  show CallSim Tryz.prog 74 [iA k,slA yA p] [] (.tup [msA ⟨k,p.take 10,a++f,[]⟩,iA 0]) []
  (refine eN Tryz.func74 Tryz.call74 fun F hF=>?_)
  (have zc1:=c1;have zc2:=c2o;have zc3:=c3;have zc4:=c4;have zc5:=k1;have zc6:=k2;refine WW ?_;clear zc1 zc2 zc3 zc4 zc5 zc6)
  refine fin_ret [] rfl rfl ?_ rfl
  show AV.tup [.agg [iA k,slA yA (p.take 10),.sl false ((a.map iA++f.map iA).take (a.map iA++f.map iA).length),slA yA []],iA 0]=_
  rw[List.take_length,←List.map_append]
  rfl
 ·have hr0:r3.length≠0:=fun h=>hr (List.eq_nil_of_length_eq_zero h)
  rw[if_neg hr]
  show CallSim Tryz.prog 74 [iA k,slA yA p] [] (.tup [msA ⟨0,[],[],[]⟩,iA 6]) []
  (refine eN Tryz.func74 Tryz.call74 fun F hF=>?_)
  (have zc1:=c1;have zc2:=c2o;have zc3:=c3;have zc4:=c4;refine WW ?_;clear zc1 zc2 zc3 zc4)
  exact fr0
end
end Av
end Go.Proofs.YtaikgchmpieooaaGreat
