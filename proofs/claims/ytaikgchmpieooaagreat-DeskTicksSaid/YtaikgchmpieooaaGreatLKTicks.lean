/- law26: DeskTicks. -/
import Derived.Test.YtaikgchmpieooaaGreatP48
namespace Go.Proofs.YtaikgchmpieooaaGreat
namespace Av
set_option linter.unusedSimpArgs false
set_option linter.unusedVariables false
set_option maxRecDepth 4000
set_option maxHeartbeats 8000000
def ipR (c:Cf) (g q:Int) (s:Nat) (a b:List In×Dk):Prop:=∃(it:Nat→It) (e:Nat→Dk) (N:Nat),N≤3∧nx (ad a.2) 4=(N:Int)∧e 0=ad (ad a.2)∧(∀k,ItB (it k)∧CallSim Tryz.prog 15 [.ptr 1000 0 0,cfA c,iA g] [(1000,dkE (e k))] (itA (it k)) [(1000,dkE (e (k+1)))])∧
 b=(a.1++[⟨decide (0<nx a.2 5),if(s:Int)=q then []else(List.range N).map it⟩],e N)
theorem ip_ex (c:Cf) (hc:CfW c) (g q:Int) (hg:0≤g∧g<256) (d:Dk):∃f:Nat→List In×Dk,f 0=([],d)∧∀s,((f s).1.length=s∧∀i∈(f s).1,InB i)∧ipR c g q s (f s) (f (s+1)):=
 chain (fun s (a:List In×Dk)=>a.1.length=s∧∀i∈a.1,InB i) (fun s a b=>ipR c g q s a b)
  (fun s a ha=>by
   have w:=nx_bd (ad a.2) 4 (by omega)
   obtain⟨it,e,h0,he⟩:=items_ex c hc g hg (ad (ad a.2))
   refine⟨_,⟨it,e,(nx (ad a.2) 4).toNat,by omega,by omega,h0,he,rfl⟩,by simp[ha.1],fun i hi=>?_⟩
   rcases List.mem_append.1 hi with hi|hi
   ·exact ha.2 i hi
   ·rw[List.mem_singleton]at hi
    subst hi
    unfold InB
    dsimp only
    split
    ·exact⟨Nat.zero_le _,fun x hx=>by cases hx⟩
    ·refine⟨by simp;omega,fun x hx=>?_⟩
     obtain⟨k,_,rfl⟩:=List.mem_map.1 hx
     have:=(he k).1
     exact⟨this.1,by have:=this.2;omega⟩)
  ([],d) ⟨rfl,fun i hi=>by cases hi⟩
theorem ticks_c (l:List Int) (hl:l.length≤9223372036854775807) (now quiet:Int):CallSim Tryz.prog 8 [slA iA l,iA now,iA quiet] [] (bA true) []:=by
 have ka:=awake26_c
 have kn:=new_c l hl
 generalize (⟨l,0,Nat.zero_le _,hl⟩:Dk)=d0 at*
 obtain⟨x,e1,hM,km⟩:=made_ex d0 63 (by omega)
 have hw:=cfF_w d0 63
 generalize cfF d0 63=c at*
 generalize nx (cfD d0 63) (c.ags.length:Int)=kk at*
 have hI:=hM.i
 clear hM
 have m1:=mod_c now 40 (by omega) (by omega)
 have hm0:=Int.emod_nonneg now (show(40:Int)≠0 by omega)
 have hm1:=Int.emod_lt_of_pos now (show(0:Int)<40 by omega)
 generalize now % 40=nw at*
 have m2:=mod_c quiet 6 (by omega) (by omega)
 generalize quiet % 6=q at*
 have hnum:0≤x.rg.num∧x.rg.num<256:=by have:=hI.n;omega
 have kr:=range_c e1 0 3 (by omega) (by omega) (by omega)
 have wr:=nx_bd e1 (3-0+1) (by omega)
 obtain⟨S,hS⟩:∃S:Nat,0+nx e1 (3-0+1)=(S:Int):=⟨(0+nx e1 (3-0+1)).toNat,by omega⟩
 have hS3:S≤3:=by omega
 rw[hS]at kr
 clear hS wr
 obtain⟨zi,hi0,hi⟩:=ip_ex c hw x.rg.num q hnum (ad e1)
 rw[show ad e1=(zi 0).2 by rw[hi0]]at kr
 have hb1:=begin_c hI (2+nw)
 have hb2:=begin2_c hI (2+nw)
 have hbi:=(bgD_i hI (2+nw)).1
 have hins:=(hi S).1
 obtain⟨zF,hz0,hz⟩:=sess_ex c (2+nw) (by omega) (by omega) (zi S).1 hins.2 (dkU (bgD x (2+nw)) (zi S).1) (dkU_i hbi _)
 have kt:=tick_c hbi (zi S).1 (by omega) hins.2 (2+nw) (by omega) (by omega) zF hz0 hz
 have kt2:=tick2_c hbi (zi S).1 (by omega) hins.2 (2+nw) (by omega) (by omega) zF hz0 hz
 have kms:=ses_ms hins.2 (by rw[hz0]) (fun s=>(hz s).2.2) (bgD x (2+nw)).au.length
 have hau:(bgD x (2+nw)).au.length≤2:=by have:=hbi.au;have:=hbi.a.e;omega
 have hzn:=hz (bgD x (2+nw)).au.length
 have hdi:=dkM_i hzn.1.i (2+nw) (by omega) (by omega)
 generalize (bgD x (2+nw)).au.length=n at*
 have hRl:=hzn.2.1.1
 have hEl:=hzn.2.1.2.1
 have hKl:=hzn.2.1.2.2.1
 have ksd:=dsame_c _ hdi.bd
 have ksb:=dsame_c _ hbi.bd
 have hvj:∀k,k≤c.js.length→∀w∈(c.js.take k).map (fun j=>vwZ j.ph.length),VwB w:=fun k _ w hw9=>by
  obtain⟨j,hj,rfl⟩:=List.mem_map.1 hw9
  exact vwZ_b (hw.2 j (List.mem_of_mem_take hj)).2
 have hvl:c.js.length≤4:=hw.1
 have kst:=status_c (dkM (zF n).d (2+nw)) hdi.bd hdi.a.q (c.js.map (fun j=>vwZ j.ph.length)) (2+nw) (by rw[List.length_map];omega) (by have:=hvj c.js.length (Nat.le_refl _);rwa [List.take_length]at this)
 have kst2:=status2_c (dkM (zF n).d (2+nw)) hdi.bd hdi.a.q (c.js.map (fun j=>vwZ j.ph.length)) (2+nw) (by rw[List.length_map];omega) (by have:=hvj c.js.length (Nat.le_refl _);rwa [List.take_length]at this)
 have hsb:MsB (stF (dkM (zF n).d (2+nw)) (c.js.map (fun j=>vwZ j.ph.length)) (2+nw)):=by
  have h1:=rcF_len (l:=c.js.map (fun j=>vwZ j.ph.length)) (by have:=hvj c.js.length (Nat.le_refl _);rwa [List.take_length]at this)
  have h2:=hdi.a.q
  refine⟨Nat.zero_le _,by simp[stF,stM],?_⟩
  show(rcF _++cqL _ _ _ _).length≤1000
  rw[List.length_append]
  rw[List.length_map]at h1
  simp only[cqL,List.length_map,List.length_range]
  omega
 have ks:=msame_c _ hsb
 generalize stF (dkM (zF n).d (2+nw)) (c.js.map (fun j=>vwZ j.ph.length)) (2+nw)=sm at*
 generalize dkM (zF n).d (2+nw)=y at*
 generalize hRn:(zF n).R=R at*
 generalize (zF n).en=E at*
 generalize (zF n).ks=K at*
 clear hz hzn hz0 hdi hbi hsb hvj hRn
 have cfe:cfA c= .agg [.sl false (c.js.map jnA),.sl false (c.ags.map agA),iA c.per,iA c.cap,iA c.hold,iA c.lock]:=rfl
 have dse:∀d:Dsk,dskA d= .agg (dskL d):=fun _=>rfl
 rw[cfe]at km kt kt2
 unfold tkT at kt kt2
 rw[dse]at km kt kt2 hb1 hb2 ksd ksb kst kst2
 rw[dse y]at kt kt2
 rw[dse (bgD x (2+nw))]at hb1 hb2
 unfold dskL at*
 generalize hb0:bgD x (2+nw)=b0 at*
 clear hb0
 (refine eN Tryz.func8 Tryz.call8 fun F hF=>?_)
 (have zc1:=kn;have zc2:=km;have zc3:=m1;have zc4:=kr;refine WW ?_;clear zc1 zc2 zc3 zc4)
 refine sim_virt 10 1011 2 rfl rfl rfl ?_
 (refine sim_cnt (S) [1000,1011,8,9] [8,9] [1,2,7,8,9,40] [10,41,1,2,7,8,9,40] rfl (fun i T U=>⟨(10,.ref 1011 0 ((zi i).1.map inA).length)::(41,iA i)::T,(1000,dkE (zi i).2)::(1011,.arr 2 ((zi i).1.map inA) true)::U⟩) ?_;(conv=>whnf);refine⟨by(rw[hi0];rfl),?_,?_⟩)
 ·intro s hs
  obtain⟨⟨hzl,_⟩,it,e,N,hN,hnN,he0,hit,hnx⟩:=hi s
  rw[hnx]
  dsimp only
  have nA:=next_c (zi s).2 5 (by omega) (by omega)
  have nB:=next_c (ad (zi s).2) 4 (by omega) (by omega)
  rw[hnN,←he0]at nB
  have hapI:∀X:In,((zi s).1++[X]).map inA=(zi s).1.map inA++[inA X]:=fun X=>by simp
  rw[hapI]
  have hlen:((zi s).1.map inA).length=s:=by rw[List.length_map];exact hzl
  clear hapI hnx hi hi0 kt kt2 kst kst2 hb1 hb2 ksd ksb ks km kn kr ka hnN he0
  generalize nx (zi s).2 5=o at*
  generalize (zi s).1.map inA=ins9 at*
  generalize ad (zi s).2=eA at*
  (repeat' (first|refine WZ ?_|refine SG (I2 (fun hc=>?_) (fun hc=>?_))|refine SG (fun hc=>?_)|(refine is_ops ?_;refine is_call ?_;fail)|(refine is_ops ?_;first|refine SM ?_)|first|refine SV ?_|refine SK (I2 (fun hc=>?_) (fun hc=>?_))|refine SK (fun hc=>?_)|fail))
  refine sim_block ?_
  (have zc1:=nA;have zc2:=nB;(repeat' (first|refine WZ ?_|refine SG (I2 (fun hc=>?_) (fun hc=>?_))|refine SG (fun hc=>?_)|(refine is_ops ?_;refine is_call ?_;refine SC ?_)|(refine is_ops ?_;first|refine SM ?_)|refine SQ ?_|fail))<;>clear zc1 zc2)
  refine sim_virtB 12 1 1010 3 rfl rfl rfl rfl rfl ?_
  (refine WW ?_)
  (refine sim_cnt (N) [12,1000,1010,8,9,1011] [8,9,1011] [1,2,7,8,9,10,11,12,40,41] [13,1,2,7,8,9,10,11,12,40,41] rfl (fun i T U=>⟨(13,iA ((N:Int)-i))::T,(12,.box [bA (decide (0<o)),.ref 1010 0 (((List.range i).map it).map itA).length])::(1000,dkE (e i))::(1010,.arr 3 (((List.range i).map it).map itA) true)::U⟩) ?_;(conv=>whnf);refine⟨by(rw[show(N:Int)-(0:Nat)=N by omega];rfl),?_,?_⟩)
  ·intro k hk
   have ki:=(hit k).2
   have hl2:(((List.range k).map it).map itA).length=k:=by simp
   rw[show(N:Int)-((k+1:Nat):Int)=(N:Int)-k-1 by omega,show((List.range (k+1)).map it).map itA=((List.range k).map it).map itA++[itA (it k)] by rw[List.range_succ];simp]
   clear hit
   have q1:1≤(N:Int)-k:=by omega
   have q2:(N:Int)-k≤3:=by omega
   generalize (N:Int)-k=z9 at*
   generalize ((List.range k).map it).map itA=its9 at*
   generalize it k=i9 at*
   generalize e (k+1)=e9 at*
   generalize e k=e8 at*
   rw[cfe]at ki
   unfold itA at*
   (have zc1:=ki;refine WW ?_;clear zc1)
   rfl
  ·rw[show(N:Int)-(N:Int)=0 by omega]
   have hl2:(((List.range N).map it).map itA).length=N:=by simp
   have hin9:inA ⟨decide (0<o),(List.range N).map it⟩= .agg [bA (decide (0<o)),.sl false (((List.range N).map it).map itA)]:=rfl
   clear hit
   (repeat' (first|refine WZ ?_|refine SG (I2 (fun hc=>?_) (fun hc=>?_))|refine SG (fun hc=>?_)|(refine is_ops ?_;refine is_call ?_;fail)|(refine is_ops ?_;first|refine SM ?_)|refine SQ ?_|fail))
   refine sim_cond_false rfl ?_
   by_cases hq:(s:Int)=q
   ·rw[if_pos hq]
    (have zc1:=m2;(repeat' (first|refine WZ ?_|refine SG (I2 (fun hc=>?_) (fun hc=>?_))|refine SG (fun hc=>?_)|(refine is_ops ?_;refine is_call ?_;refine SC ?_)|(refine is_ops ?_;first|refine SM ?_)|refine SQ ?_|fail))<;>clear zc1)
    refine sim_cond_true rfl ?_
    refine x_region ?_
    (repeat' (first|refine WS ?_|refine SG (I2 (fun hc=>?_) (fun hc=>?_))|refine SG (fun hc=>?_)|(refine is_ops ?_;refine is_call ?_;fail)|(refine is_ops ?_;first|refine SM ?_)|fail|fail))
    refine sim_virtB 12 1 1012 3 rfl rfl rfl rfl rfl ?_
    refine sim_restrC [8,9,12,1000,1011] [1,2,7,8,9,10,11,12,40,41] rfl ?_
    (conv=>whnf)
    simp only[List.drop_zero,List.take_length]
    (refine WW ?_)
    rfl
   ·rw[if_neg hq,hin9]
    (have zc1:=m2;(repeat' (first|refine WZ ?_|refine SG (I2 (fun hc=>?_) (fun hc=>?_))|refine SG (fun hc=>?_)|(refine is_ops ?_;refine is_call ?_;refine SC ?_)|(refine is_ops ?_;first|refine SM ?_)|refine SQ ?_|fail))<;>clear zc1)
    refine sim_restrC [8,9,12,1000,1011] [1,2,7,8,9,10,11,12,40,41,68] rfl ?_
    (conv=>whnf)
    simp only[List.drop_zero,List.take_length]
    (refine WW ?_)
    rfl
 ·have hlen:((zi S).1.map inA).length=S:=by rw[List.length_map];exact(hi S).1.1
  clear hi hi0
  (repeat' (first|refine WZ ?_|refine SG (I2 (fun hc=>?_) (fun hc=>?_))|refine SG (fun hc=>?_)|(refine is_ops ?_;refine is_call ?_;fail)|(refine is_ops ?_;first|refine SM ?_)|refine SQ ?_|fail))
  refine sim_cond_false rfl ?_
  refine sim_restrC [8,9] [1,8,9,10] rfl ?_
  (conv=>whnf)
  simp only[List.drop_zero,List.take_length]
  (have zc1:=hb2;have zc2:=hb1;have zc3:=kt;have zc4:=kt2;have zc5:=ksd;have zc6:=ksb;refine WW ?_;clear zc1 zc2 zc3 zc4 zc5 zc6)
  clear km kn kr kt kt2 hb1 hb2 ksd ksb m1
  have l1:=map_len rlA R
  have l2:=map_len enB E
  have l3:=map_len iA K
  have l4:=map_len jnA c.js
  (refine sim_rng (R) [8,19] [8,19] [1,8,16,17,18,19,20,21,22,132] [133,1,8,16,17,18,19,20,21,22,132] rfl (fun i pre T U=>⟨(133,iA i)::T,U⟩) ?_;(conv=>whnf);refine⟨by rfl,?_,?_⟩)
  ·intro i pre r post hx hi
   have hy:=rng_at rlA hx hi
   have hlt:=rng_lt hx hi
   have hb:=kms r (rng_mem hx)
   have ks9:=sameall_c r (by omega) hb.2
   clear hx kms ks kst kst2
   (have zc1:=ks9;refine WW ?_;clear zc1)
   rfl
  clear kms
  (refine WW ?_)
  (refine sim_rng (E) [8,19] [8,19] [1,8,17,18,19,21,22,148] [149,1,8,17,18,19,21,22,148] rfl (fun i pre T U=>⟨(149,iA i)::T,U⟩) ?_;(conv=>whnf);refine⟨by rfl,?_,?_⟩)
  ·intro i pre r post hx hi
   have hy:=rng_at enB hx hi
   have hlt:=rng_lt hx hi
   clear hx ks kst kst2
   unfold enB enA at hy
   (repeat' (first|refine WZ ?_|refine SG (I2 (fun hc=>?_) (fun hc=>?_))|refine SG (fun hc=>?_)|(refine is_ops ?_;refine is_call ?_;fail)|(refine is_ops ?_;first|refine SE ?_)|first|refine SR ?_|refine SK (I2 (fun hc=>?_) (fun hc=>?_))|refine SK (fun hc=>?_)|fail))
   all_goals (first|rfl|(exfalso;first|(simp[eqY_refl]at hc;done)|(revert hc;simp[eqY_refl];done)))
  (refine WW ?_)
  (refine sim_rng (K) [8,19] [8,19] [1,8,18,19,22,163] [164,1,8,18,19,22,163] rfl (fun i pre T U=>⟨(164,iA i)::T,U⟩) ?_;(conv=>whnf);refine⟨by rfl,?_,?_⟩)
  ·intro i pre r post hx hi
   have hy:=rng_at iA hx hi
   have hlt:=rng_lt hx hi
   clear hx ks kst kst2
   (refine WW ?_)
   rfl
  (refine WW ?_)
  refine sim_virt 26 1013 4 rfl rfl rfl ?_
  (refine sim_rng (c.js) [1013,19] [19] [1,19,178,179] [26,180,1,19,178,179] rfl (fun i pre T U=>⟨(26,.ref 1013 0 ((pre.map fun j=>vwZ j.ph.length).map viA).length)::(180,iA i)::T,(1013,.arr 4 ((pre.map fun j=>vwZ j.ph.length).map viA) true)::U⟩) ?_;(conv=>whnf);refine⟨by rfl,?_,?_⟩)
  ·intro i pre j post hx hi
   have hy:=rng_at jnA hx hi
   have hlt:=rng_lt hx hi
   have kf:=flash_c j (hw.2 j (rng_mem hx)).2
   have hpl:((pre.map fun j=>vwZ j.ph.length).map viA).length=i:=by rw[List.length_map,List.length_map];exact hi
   rw[show((pre++[j]).map fun j=>vwZ j.ph.length).map viA=(pre.map fun j=>vwZ j.ph.length).map viA++[viA (vwZ j.ph.length)] by simp]
   clear hx ks kst kst2 hw
   generalize (pre.map fun j=>vwZ j.ph.length).map viA=vs9 at*
   unfold jnA at hy kf
   generalize vwZ j.ph.length=w9 at*
   unfold viA at*
   (have zc1:=kf;refine WW ?_;clear zc1)
   rfl
  (repeat' (first|refine WZ ?_|refine SG (I2 (fun hc=>?_) (fun hc=>?_))|refine SG (fun hc=>?_)|(refine is_ops ?_;refine is_call ?_;fail)|(refine is_ops ?_;first|refine SM ?_)|refine SQ ?_|fail))
  refine sim_cond_false rfl ?_
  refine sim_restrC [19] [1,19,26] rfl ?_
  (conv=>whnf)
  simp only[List.drop_zero,List.take_length]
  unfold msA at ks kst kst2
  (have zc1:=kst;have zc2:=kst2;have zc3:=ks;have zc4:=ka;refine WW ?_;clear zc1 zc2 zc3 zc4)
  exact fr0
end Av
end Go.Proofs.YtaikgchmpieooaaGreat
