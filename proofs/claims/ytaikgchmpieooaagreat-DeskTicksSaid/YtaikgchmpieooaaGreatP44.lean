/- Part 44: contracts of the functions, and what they rest upon. -/
import Derived.Test.YtaikgchmpieooaaGreatP43
import Derived.Test.YtaikgchmpieooaaGreatP28
namespace Go.Proofs.YtaikgchmpieooaaGreat
namespace Av
set_option linter.unusedSimpArgs false
set_option linter.unusedVariables false
section
set_option maxRecDepth 4000
set_option maxHeartbeats 2000000
theorem dnew2_d (n:Int) (a:Ag) (hv:AgV a):CallSim Tryz.prog 21 [iA n,agA a] [] (dskD (dskN n a a.ses.toNat)) [(1005,dkD (dskN n a a.ses.toNat))]:=by
 have he:=hv.e
 have h1:=hv.s
 have h2:=hv.l
 have c1:=gnew2_c n a (by omega) (by omega)
 obtain⟨N,hN,ha⟩:∃N:Nat,(N=1∨N=2)∧a.ses=(N:Int):=⟨a.ses.toNat,by omega,by omega⟩
 rw[show a.ses.toNat=N by omega]
 clear he h1 h2 hv
 unfold dskD dkD dskN
 obtain⟨sec,ri,cl,li,rq,se,ra,bu⟩:=a
 dsimp only at ha
 subst ha
 unfold agA rgA at c1
 unfold agA dskX
 dsimp only at*
 generalize rgN n ⟨sec,ri,cl,li,rq,(N:Int),ra,bu⟩=r at*
 rcases hN with rfl|rfl
 all_goals
  (refine eN Tryz.func21 Tryz.call21 fun F hF=>?_)
  (have zc1:=c1;(repeat' (first|refine WZ ?_|refine SG (I2 (fun hc=>?_) (fun hc=>?_))|refine SG (fun hc=>?_)|(refine is_ops ?_;refine is_call ?_;refine SC ?_)|(refine is_ops ?_;first|refine SM ?_)|first|refine SN ?_|refine SK (I2 (fun hc=>?_) (fun hc=>?_))|refine SK (fun hc=>?_)|fail))<;>clear zc1)
  refine sim_virtB 4 15 1005 1 rfl rfl rfl rfl rfl ?_
  refine sim_ret ?_
  exact fin_ret [1005] rfl rfl rfl rfl
theorem begin2_d {c:Cf} {d:Dsk} (h:DskI c d) (now:Int):CallSim Tryz.prog 33 [dskA d,iA now] [] (dskD (bgD d now)) [(1005,dkD (bgD d now))]:=by
 have k1:=copyDesk_d d h.bd
 have hl:=h.bl
 have hr:=h.br
 have hbb:=h.bb
 have ht:=h.a.t
 have hb:=h.a.b
 have k2:=gtick2_c d.rg now h.b h.t8 (by omega)
 have k3:=expire2_q d.rq now h.v
 unfold bgD
 generalize rtF d.rg now=r at*
 generalize expQ d.rq now=q at*
 unfold dskA dskD dkD dskX at*
 unfold rgA at k2
 (refine eN Tryz.func33 Tryz.call33 fun F hF=>?_)
 (have zc1:=k1;have zc2:=k2;have zc3:=k3;refine WL ?_;clear zc1 zc2 zc3)
 exact fin_ret [1005] rfl rfl rfl rfl
def dskC (x:Dsk):List AV:=[iA x.rg.num,slA yA x.rg.ag.sec,iA x.rg.ag.rights,iA x.rg.ag.cls,slA iA x.rg.ag.lim,iA x.rg.ag.req,iA x.rg.ag.ses,iA x.rg.ag.rate,iA x.rg.ag.burst,slA tkA x.rg.tk,slA vhA x.rg.vh,iA x.rg.bk.level,iA x.rg.bk.rate,iA x.rg.bk.burst,slA rqA x.rq,.ref 1005 0 (x.dr.map sYA).length,slA bA x.au]
theorem dskN_t0 (n:Int) (a:Ag) (N:Nat):T0 (dskN n a N):=rfl
theorem bgD_t0 {d:Dsk} (now:Int) (h8:d.rg.tk.length=8) (h:T0 d):T0 (bgD d now):=by
 unfold T0 at*
 show(expF d.rg.tk now).getD 0 default=_
 unfold expF
 rw[List.getD_eq_getElem?_getD,List.getElem?_map,List.getElem?_range (by omega),Option.map_some,Option.getD_some]
 unfold exAt
 rw[h]
 have e:chF d.rg.tk 8 ((0:Nat):Int)=[0]:=by
  have hu:usF d.rg.tk 0=true:=by
   unfold usF
   rw[show(0:Int).toNat=0 from rfl,h,decide_eq_true ⟨Int.le_refl 0,by omega⟩]
   rfl
  rw[show((0:Nat):Int)=0 from rfl,chF_succ,hu,cond_true,show(0:Int).toNat=0 from rfl,h,chF_succ,show usF d.rg.tk (-1)=false by unfold usF;rw[decide_eq_false (by omega),Bool.false_and],cond_false]
 rw[e]
 simp only[List.any_cons,List.any_nil,Bool.or_false]
 rw[show(0:Int).toNat=0 from rfl,h]
 rfl
structure MdP (c:Cf) (x:Dsk) (k:Int):Prop where
 i:DskI c x
 n:x.rg.num=k
 r:0≤k∧k<(c.ags.length:Int)
 a:x.rg.ag=c.ags.getD k.toNat default
 t:T0 x
 d:x.dr.length≤13
theorem chain {α:Type} (I:Nat→α→Prop) (R:Nat→α→α→Prop) (h:∀i a,I i a→∃b,R i a b∧I (i+1) b) (a0:α) (h0:I 0 a0):∃f:Nat→α,f 0=a0∧∀i,I i (f i)∧R i (f i) (f (i+1)):=by
 have hg:∀i a,∃b,I i a→R i a b∧I (i+1) b:=fun i a=>by
  by_cases hi:I i a
  ·obtain⟨b,hb⟩:=h i a hi
   exact⟨b,fun _=>hb⟩
  ·exact⟨a,fun h=>absurd h hi⟩
 let f:Nat→α:=fun n=>Nat.rec a0 (fun i a=>(hg i a).choose) n
 have hf:∀i,I i (f i):=fun i=>by
  induction i with
  |zero=>exact h0
  |succ i ih=>exact((hg i (f i)).choose_spec ih).2
 exact⟨f,rfl,fun i=>⟨hf i,((hg i (f i)).choose_spec (hf i)).1⟩⟩
def dkN (x:Dsk) (b:List Int):Dsk:=⟨x.rg,x.rq,x.dr++[b],x.au⟩
theorem dkN_i {c:Cf} {x:Dsk} (h:DskI c x) {b:List Int} (hb:b.length=8) (hn:x.dr.length<1000):DskI c (dkN x b):=by
 refine⟨h.b,h.v,h.q,h.lg,h.a,h.n,h.t8,h.br,h.bb,h.bl,h.au,?_,fun y hy=>?_,h.vh⟩
 ·show(x.dr++[b]).length≤1000
  rw[List.length_append,List.length_singleton];omega
 ·rcases List.mem_append.1 hy with hy|hy
  ·exact h.dr y hy
  ·rw[List.mem_singleton]at hy;subst hy;exact hb
def md1 (x:Dsk) (e:Dk):Dsk:=if nx e 4=3 then bgD x 2 else x
def md2 (k:Int) (x:Dsk) (e:Dk):Dsk:=if nx (ad e) 5=4 then dkN (md1 x e) (secF (2000+10*k+nx (ad (ad e)) 3))else md1 x e
def mde (e:Dk):Dk:=if nx (ad e) 5=4 then ad (ad (ad e))else ad (ad e)
def mdR (c:Cf) (k:Int) (p q:Dsk×Dk):Prop:=∃(i:It) (h:Hd),CallSim Tryz.prog 15 [.ptr 1000 0 0,cfA c,iA k] [(1000,dkE (ad (mde p.2)))] (itA i) [(1000,dkE q.2)]∧HRc c (md2 k p.1 p.2) (nx (mde p.2) 2) 2 i h∧q.1=h.d∧(md2 k p.1 p.2).rg.num=k
theorem md_step {c:Cf} (hc:CfW c) {k:Int} {a:Ag} (hk:0≤k∧k<3) (i:Nat) (hi:i≤900) (p:Dsk×Dk) (hI:DskI c p.1) (ha:p.1.rg.ag=a) (hn:p.1.rg.num=k) (ht:T0 p.1) (hd:p.1.dr.length≤i):
  ∃q:Dsk×Dk,mdR c k p q∧DskI c q.1∧q.1.rg.ag=a∧q.1.rg.num=k∧T0 q.1∧q.1.dr.length≤i+1:=by
 obtain⟨x,e⟩:=p
 dsimp only at*
 have h1:DskI c (md1 x e)∧(md1 x e).rg.ag=a∧(md1 x e).rg.num=k∧T0 (md1 x e)∧(md1 x e).dr.length≤i:=by
  unfold md1
  split
  ·have hb:=bgD_i hI 2
   exact⟨hb.1,hb.2.1.trans ha,hb.2.2.trans hn,bgD_t0 2 hI.t8 ht,hd⟩
  ·exact⟨hI,ha,hn,ht,hd⟩
 have h2:DskI c (md2 k x e)∧(md2 k x e).rg.ag=a∧(md2 k x e).rg.num=k∧T0 (md2 k x e)∧(md2 k x e).dr.length≤i+1:=by
  obtain⟨q1,q2,q3,q4,q5⟩:=h1
  unfold md2
  split
  ·exact⟨dkN_i q1 (secF_len _) (by omega),q2,q3,q4,by show(_++[_]).length≤_;rw[List.length_append,List.length_singleton];omega⟩
  ·exact⟨q1,q2,q3,q4,by omega⟩
 obtain⟨q1,q2,q3,q4,q5⟩:=h2
 obtain⟨it,e',hib,_,ki⟩:=item_ex c hc k (by omega) (ad (mde e))
 obtain⟨h,hB,hP⟩:=handle_ex c (md2 k x e) q1 (nx (mde e) 2) 2 (by omega) (by omega) it hib.1 (by have:=hib.2;omega)
 exact⟨(h.d,e'),⟨it,h,ki,hB.2,rfl,q3⟩,hP.inv,hP.ag.trans q2,hP.num.trans q3,hP.t0 q4,by have:=hP.dl;dsimp only;omega⟩
theorem made_ex (d:Dk) (r:Int) (hr:0≤r∧r≤63):∃(x:Dsk) (d':Dk),MdP (cfF d r) x (nx (cfD d r) ((cfF d r).ags.length:Int))∧CallSim Tryz.prog 12 [.ptr 1000 0 0,iA r] [(1000,dkE d)] (.tup [cfA (cfF d r),dskA x]) [(1000,dkE d')]:=by
 have kc:=config_c d r
 have hn:=cfF_n d r
 have hw:=cfF_w d r
 have hag:=cfF_ag d r hr
 generalize cfF d r=c at*
 generalize cfD d r=e0 at*
 have hal:=map_len agA c.ags
 have n1:=next_c e0 (c.ags.length:Int) (by omega) (by omega)
 have w1:=nx_bd e0 (c.ags.length:Int) (by omega)
 generalize nx e0 (c.ags.length:Int)=k at*
 have hA:=(hag k w1.1 w1.2).1
 have hy:=map_atI agA c.ags k w1.1 w1.2
 generalize hga:c.ags.getD k.toNat default=a at*
 have kn:=dnew2_d k a hA.v
 have hi0:=dskN_i (c:=c) hA.v k (by omega)
 have ht0:=dskN_t0 k a a.ses.toNat
 have ha0:(dskN k a a.ses.toNat).rg.ag=a:=rfl
 have hn0:(dskN k a a.ses.toNat).rg.num=k:=rfl
 have hd0:(dskN k a a.ses.toNat).dr.length=0:=rfl
 generalize dskN k a a.ses.toNat=x0 at*
 generalize ad e0=e1 at*
 have n2:=next_c e1 14 (by omega) (by omega)
 have w2:=nx_bd e1 14 (by omega)
 obtain⟨N,hN⟩:∃N:Nat,nx e1 14=(N:Int):=⟨(nx e1 14).toNat,by omega⟩
 rw[hN]at n2 w2
 clear hN hag
 generalize ad e1=e2 at*
 obtain⟨f,hf0,hf⟩:=chain (fun i (p:Dsk×Dk)=>i≤900→DskI c p.1∧p.1.rg.ag=a∧p.1.rg.num=k∧T0 p.1∧p.1.dr.length≤i) (fun i p q=>i<900→mdR c k p q)
  (fun i p hp=>by
   by_cases hi:i<900
   ·obtain⟨p1,p2,p3,p4,p5⟩:=hp (by omega)
    obtain⟨q,h1,h2⟩:=md_step hw (by omega) i (by omega) p p1 p2 p3 p4 p5
    exact⟨q,fun _=>h1,fun _=>h2⟩
   ·exact⟨p,fun h=>absurd h hi,fun h=>by omega⟩) (x0,e2) (fun _=>⟨hi0,ha0,hn0,ht0,by dsimp only;omega⟩)
 have hN9:=(hf N).1 (by omega)
 refine⟨(f N).1,(f N).2,⟨hN9.1,hN9.2.2.1,w1,hN9.2.1.trans hga.symm,hN9.2.2.2.1,by have:=hN9.2.2.2.2;omega⟩,?_⟩
 clear hN9 hA ha0 hn0 hd0 ht0 hi0
 rw[←hal]at n1
 unfold cfA at*
 unfold dskD dkD dskX at kn
 rw[show x0=(f 0).1 by rw[hf0]]at kn
 rw[show e2=(f 0).2 by rw[hf0]]at n2
 clear hf0
 (refine eN Tryz.func12 Tryz.call12 fun F hF=>?_)
 (have zc1:=kc;have zc2:=n1;have zc3:=n2;have zc4:=kn;refine WW ?_;clear zc1 zc2 zc3 zc4)
 (refine sim_cnt (N) [8,1000,1005,4,5,6] [4,5,6] [0,4,5,6,7,8] [9,0,4,5,6,7,8] rfl (fun i T U=>⟨(9,iA ((N:Int)-i))::T,(8,.box (dskC (f i).1))::(1000,dkE (f i).2)::(1005,.arr 1 ((f i).1.dr.map sYA) true)::U⟩) ?_;(conv=>whnf);refine⟨by(rw[show(N:Int)-(0:Nat)=N by omega];rfl),?_,?_⟩)
 ·intro i hi
  obtain⟨hI,hR⟩:=hf i
  obtain⟨hI,_,hn1,_,hlen⟩:=hI (by omega)
  obtain⟨it,h,ci,⟨_,kh⟩,hx',_⟩:=hR (by omega)
  rw[show((N:Int)-((i+1:Nat):Int))=(N:Int)-i-1 by omega,hx']
  generalize (f (i+1)).2=e' at*
  clear hx'
  have q1:1≤(N:Int)-i:=by omega
  have q2:(N:Int)-i≤14:=by omega
  generalize (N:Int)-i=q at*
  generalize f i=p at*
  obtain⟨x,e⟩:=p
  dsimp only at*
  have n3:=next_c e 4 (by omega) (by omega)
  have n4:=next_c (ad e) 5 (by omega) (by omega)
  have w3:=nx_bd e 4 (by omega)
  have w4:=nx_bd (ad e) 5 (by omega)
  have nh:=next_c (mde e) 2 (by omega) (by omega)
  have wh:=nx_bd (mde e) 2 (by omega)
  have hlen:x.dr.length≤14:=by omega
  unfold md2 md1 mde at*
  unfold cfA itA at*
  have hk3:0≤k∧k<3:=by omega
  clear n1 n2 kn kc hn hw hy
  by_cases h3:nx e 4=3<;>by_cases h4:nx (ad e) 5=4
  ·rw[if_pos h4,if_pos h4]at kh
   rw[if_pos h4]at ci nh wh
   rw[if_pos h3]at kh
   have kb:=begin2_d hI 2
   unfold dskD dkD dskA dskX at kb
   generalize hb1:bgD x 2=x1 at*
   have hl1:x1.dr.length=x.dr.length:=by rw[←hb1];rfl
   clear hb1
   have n5:=next_c (ad (ad e)) 3 (by omega) (by omega)
   have w5:=nx_bd (ad (ad e)) 3 (by omega)
   have cs:=secret_c (2000+10*k+nx (ad (ad e)) 3)
   generalize secF (2000+10*k+nx (ad (ad e)) 3)=b at*
   unfold dkN dskA dskX at kh
   dsimp only at kh
   rw[show slA sYA (x1.dr++[b])= .sl false (x1.dr.map sYA++[slA yA b]) by rw[slA,List.map_append];rfl]at kh
   have hml:=map_len sYA x1.dr
   unfold dskC hdTD enA dskD dkD dskX at*
   clear hI
   (repeat' (first|refine WZ ?_|refine SG (I2 (fun hc=>?_) (fun hc=>?_))|refine SG (fun hc=>?_)|(refine is_ops ?_;refine is_call ?_;fail)|(refine is_ops ?_;first|refine SM ?_)|first|refine SV ?_|refine SK (I2 (fun hc=>?_) (fun hc=>?_))|refine SK (fun hc=>?_)|fail))
   refine sim_block ?_
   (have zc1:=n3;(repeat' (first|refine WZ ?_|refine SG (I2 (fun hc=>?_) (fun hc=>?_))|refine SG (fun hc=>?_)|(refine is_ops ?_;refine is_call ?_;refine SC ?_)|(refine is_ops ?_;first|refine SM ?_)|refine SQ ?_|fail))<;>clear zc1)
   refine sim_restrC [1000,4,5,6,8] [0,4,5,6,7,8,9,33] rfl ?_
   (conv=>whnf)
   simp only[List.drop_zero,List.take_length]
   (have zc1:=n4;have zc2:=kb;refine WD ?_;clear zc1 zc2)
   refine x_draw rfl ?_
   (have zc1:=n5;have zc2:=cs;(repeat' (first|refine WV ?_|refine SG (I2 (fun hc=>?_) (fun hc=>?_))|refine SG (fun hc=>?_)|(refine is_ops ?_;refine is_call ?_;refine SC ?_)|(refine is_ops ?_;first|refine SL ?_)|refine SB ?_|fail|fail))<;>clear zc1 zc2)
   (refine WD ?_)
   refine sim_restrC [1000,4,5,6,8] [0,4,5,6,7,8,9] rfl ?_
   (conv=>whnf)
   simp only[List.drop_zero,List.take_length]
   (have zc1:=nh;have zc2:=ci;have zc3:=kh;refine WW ?_;clear zc1 zc2 zc3)
   rfl
  ·rw[if_neg h4,if_neg h4]at kh
   rw[if_neg h4]at ci nh wh
   rw[if_pos h3]at kh
   have kb:=begin2_d hI 2
   unfold dskD dkD dskA dskX at kb
   generalize hb1:bgD x 2=x1 at*
   have hl1:x1.dr.length=x.dr.length:=by rw[←hb1];rfl
   clear hb1
   unfold dskA dskX at kh
   have hml:=map_len sYA x1.dr
   unfold dskC hdTD enA dskD dkD dskX at*
   clear hI
   (repeat' (first|refine WZ ?_|refine SG (I2 (fun hc=>?_) (fun hc=>?_))|refine SG (fun hc=>?_)|(refine is_ops ?_;refine is_call ?_;fail)|(refine is_ops ?_;first|refine SM ?_)|first|refine SV ?_|refine SK (I2 (fun hc=>?_) (fun hc=>?_))|refine SK (fun hc=>?_)|fail))
   refine sim_block ?_
   (have zc1:=n3;(repeat' (first|refine WZ ?_|refine SG (I2 (fun hc=>?_) (fun hc=>?_))|refine SG (fun hc=>?_)|(refine is_ops ?_;refine is_call ?_;refine SC ?_)|(refine is_ops ?_;first|refine SM ?_)|refine SQ ?_|fail))<;>clear zc1)
   refine sim_restrC [1000,4,5,6,8] [0,4,5,6,7,8,9,33] rfl ?_
   (conv=>whnf)
   simp only[List.drop_zero,List.take_length]
   (have zc1:=n4;have zc2:=kb;refine WD ?_;clear zc1 zc2)
   refine sim_restrC [1000,4,5,6,8] [0,4,5,6,7,8,9] rfl ?_
   (conv=>whnf)
   simp only[List.drop_zero,List.take_length]
   (have zc1:=nh;have zc2:=ci;have zc3:=kh;refine WW ?_;clear zc1 zc2 zc3)
   rfl
  ·rw[if_pos h4,if_pos h4]at kh
   rw[if_pos h4]at ci nh wh
   rw[if_neg h3]at kh
   have n5:=next_c (ad (ad e)) 3 (by omega) (by omega)
   have w5:=nx_bd (ad (ad e)) 3 (by omega)
   have cs:=secret_c (2000+10*k+nx (ad (ad e)) 3)
   generalize secF (2000+10*k+nx (ad (ad e)) 3)=b at*
   unfold dkN dskA dskX at kh
   dsimp only at kh
   rw[show slA sYA (x.dr++[b])= .sl false (x.dr.map sYA++[slA yA b]) by rw[slA,List.map_append];rfl]at kh
   have hml:=map_len sYA x.dr
   unfold dskC hdTD enA dskD dkD dskX at*
   clear hI
   (repeat' (first|refine WZ ?_|refine SG (I2 (fun hc=>?_) (fun hc=>?_))|refine SG (fun hc=>?_)|(refine is_ops ?_;refine is_call ?_;fail)|(refine is_ops ?_;first|refine SM ?_)|first|refine SV ?_|refine SK (I2 (fun hc=>?_) (fun hc=>?_))|refine SK (fun hc=>?_)|fail))
   refine sim_block ?_
   (have zc1:=n3;have zc2:=n4;refine WD ?_;clear zc1 zc2)
   refine x_draw rfl ?_
   (have zc1:=n5;have zc2:=cs;(repeat' (first|refine WV ?_|refine SG (I2 (fun hc=>?_) (fun hc=>?_))|refine SG (fun hc=>?_)|(refine is_ops ?_;refine is_call ?_;refine SC ?_)|(refine is_ops ?_;first|refine SL ?_)|refine SB ?_|fail|fail))<;>clear zc1 zc2)
   (refine WD ?_)
   refine sim_restrC [1000,4,5,6,8] [0,4,5,6,7,8,9] rfl ?_
   (conv=>whnf)
   simp only[List.drop_zero,List.take_length]
   (have zc1:=nh;have zc2:=ci;have zc3:=kh;refine WW ?_;clear zc1 zc2 zc3)
   rfl
  ·rw[if_neg h4,if_neg h4]at kh
   rw[if_neg h4]at ci nh wh
   rw[if_neg h3]at kh
   unfold dskA dskX at kh
   have hml:=map_len sYA x.dr
   unfold dskC hdTD enA dskD dkD dskX at*
   clear hI
   (repeat' (first|refine WZ ?_|refine SG (I2 (fun hc=>?_) (fun hc=>?_))|refine SG (fun hc=>?_)|(refine is_ops ?_;refine is_call ?_;fail)|(refine is_ops ?_;first|refine SM ?_)|first|refine SV ?_|refine SK (I2 (fun hc=>?_) (fun hc=>?_))|refine SK (fun hc=>?_)|fail))
   refine sim_block ?_
   (have zc1:=n3;have zc2:=n4;refine WD ?_;clear zc1 zc2)
   refine sim_restrC [1000,4,5,6,8] [0,4,5,6,7,8,9] rfl ?_
   (conv=>whnf)
   simp only[List.drop_zero,List.take_length]
   (have zc1:=nh;have zc2:=ci;have zc3:=kh;refine WW ?_;clear zc1 zc2 zc3)
   rfl
 ·rw[show(N:Int)-(N:Int)=0 by omega]
  unfold dskC
  (refine WW ?_)
  refine fin_ret [1000] rfl rfl ?_ rfl
  rw[show dskA (f N).1=dskX (f N).1.rg (slA rqA (f N).1.rq) (.sl false (((f N).1.dr.map sYA).take ((f N).1.dr.map sYA).length)) (slA bA (f N).1.au) by rw[List.take_length];rfl]
  rfl
end
section
set_option maxRecDepth 4000
set_option maxHeartbeats 2000000
theorem rp_b {c:Cf} {d:Dsk} (hI:DskI c d) {s now:Int} {i:It} {h:Hd} (hP:HdP c d s i now h):MsB h.p:=by
 by_cases he:h.e=0
 ·obtain⟨a,_,hr⟩:=hP.yes he
  rcases hr with⟨_,e,_⟩|⟨_,e,_⟩|⟨_,e,_⟩|⟨_,k,sec,hk,hs,e⟩|⟨_,x,_,_,e⟩
  ·rw[e];exact⟨Nat.zero_le _,by simp[helloM],Nat.zero_le _⟩
  ·have:=hI.v.n4
   rw[e]
   exact⟨Nat.zero_le _,by simp only[listM,holdF_len];omega,Nat.zero_le _⟩
  ·rw[e];exact⟨Nat.zero_le _,by simp[leftM],Nat.zero_le _⟩
  ·rw[e];exact⟨Nat.zero_le _,by simp,by simp[hs]⟩
  ·rw[e];exact⟨Nat.zero_le _,by simp[ackM],Nat.zero_le _⟩
 ·rw[(hP.no he).2.1]
  exact⟨Nat.zero_le _,by simp[faultM],Nat.zero_le _⟩
theorem vd_fin (n acc:Int) (r:List Int) (i:Nat) (h0:0≤n) (h1:n<128) (hi:i≤4) (ha:acc+n*128 ^ i≤4294967295) (hz:0<i→0<n):vdR (n::r) i acc=(acc+n*128 ^ i,(i:Int)+1,0):=by
 have ht:n.tmod 128=n:=Int.tmod_eq_of_lt h0 h1
 rw[vdR,if_neg (by omega),if_neg (by omega),ht,if_neg (by omega)]
theorem vdR_enc:∀(f i:Nat) (n acc:Int) (r:List Int),f+i=4→0≤n→n<128 ^ (f+1)→acc+n*128 ^ i≤4294967295→(0<i→0<n)→vdR (enR f n++r) i acc=(acc+n*128 ^ i,(i:Int)+(enR f n).length,0)
 |0,i,n,acc,r,hf,h0,h1,ha,hz=>by
  rw[enR,List.cons_append,List.nil_append,vd_fin n acc r i h0 (by simpa using h1) (by omega) ha hz]
  rfl
 | f+1,i,n,acc,r,hf,h0,h1,ha,hz=>by
  by_cases hn:n<128
  ·rw[enR_lt hn,List.cons_append,List.nil_append,vd_fin n acc r i h0 hn (by omega) ha hz]
   rfl
  ·have e:n % 128*128 ^ i+n/128*128 ^ (i+1)=n*128 ^ i:=by
    rw[Int.pow_succ,Int.mul_comm (128 ^ i) 128,←Int.mul_assoc,←Int.add_mul]
    congr 1
    omega
   have ht:(n % 128+128).tmod 128=n % 128:=by rw[Int.tmod_eq_emod_of_nonneg (by omega)];omega
   have ih:=vdR_enc f (i+1) (n/128) (acc+n % 128*128 ^ i) r (by omega) (by omega) (div_lt h1) (by rw[Int.add_assoc,e];exact ha) (fun _=>by omega)
   rw[enR_ge (by omega),List.cons_append,vdR,if_neg (by omega),if_pos (by omega),ht,ih,Int.add_assoc,e,List.length_cons]
   congr 2
   omega
theorem vdF_enc (n:Int) (h0:0≤n) (h1:n≤4294967295) (r:List Int):vdF (enF n++r)=(n,((enF n).length:Int),0):=by
 have:=vdR_enc 4 0 n 0 r rfl h0 (by omega) (by simpa using h1) (fun h=>by omega)
 unfold vdF enF
 rw[this]
 simp
theorem nbF_enc:∀(l r:List Int),NmB l→nbF l.length ((l.map enF).flatten++r)=some (l,r)
 | [],r,_=>by simp[nbF]
 |x::l,r,h=>by
  have hx:=h x (by simp)
  have ih:=nbF_enc l r (fun y hy=>h y (by simp[hy]))
  rw[List.map_cons,List.flatten_cons,List.append_assoc,List.length_cons,nbF,vdF_enc x hx.1 hx.2,if_pos rfl]
  dsimp only
  rw[Int.toNat_natCast,List.drop_left,ih]
theorem pcF_flat (fx gr:Nat) (c:Int):∀(l:List Int) (i:Nat),fx<i∨gr=0→pcF fx gr c i l=(l.map enF).flatten
 | [],_,_=>rfl
 |x::l,i,h=>by
  rw[pcF,if_neg (by omega),pcF_flat fx gr c l (i+1) (by omega),List.map_cons,List.flatten_cons]
  rfl
theorem pcF_split (fx gr:Nat) (c:Int) (hg:gr≠0):∀(l:List Int) (i:Nat),i≤fx→fx-i<l.length→pcF fx gr c i l=((l.take (fx-i)).map enF).flatten++c::((l.drop (fx-i)).map enF).flatten
 | [],_,_,h=>by simp at h
 | x::l,i,hi,h=>by
  by_cases he:i=fx
  ·subst he
   rw[pcF,if_pos ⟨rfl,hg⟩,pcF_flat _ _ _ _ _ (.inl (Nat.lt_succ_self _)),Nat.sub_self]
   simp
  ·obtain⟨k,hk⟩:∃k,fx-i=k+1:=⟨fx-i-1,by omega⟩
   rw[pcF,if_neg (fun h=>he h.1),pcF_split fx gr c hg l (i+1) (by omega) (by rw[List.length_cons]at h;omega),hk,show fx-(i+1)=k by omega,List.take_succ_cons,List.drop_succ_cons,List.map_cons,List.flatten_cons,List.append_assoc,List.nil_append]
theorem dc_enc (m:Ms) (h:MgP m):∃p,BY p∧p.length≤200∧p.take 10=m.tok∧dcF (fixF m.kind) (grpF m.kind) p=some m.args∧CallSim Tryz.prog 28 [msA m] [] (.tup [slA yA p,iA 0]) []:=by
 obtain⟨n,n2,ng,nl⟩:=h.c
 obtain⟨p,h1,h2,h3,h4⟩:∃p,BY p∧p.length≤200∧p=plF2 (fixF m.kind) (grpF m.kind) n m∧CallSim Tryz.prog 28 [msA m] [] (.tup [slA yA p,iA 0]) []:=enc_pl m h n n2 ng nl
 have htl:=h.l
 have hf:(if grpF m.kind≠0∧m.args.length=fixF m.kind then [(0:Int)]else [])=[]:=by
  rw[if_neg]
  rintro⟨h5,h6⟩
  have:=ng h5
  have:1≤n*grpF m.kind:=Nat.mul_pos (by omega) (by omega)
  omega
 have hp:p=m.tok++pcF (fixF m.kind) (grpF m.kind) n 0 m.args:=by rw[h3,plF2,hf,h.d];simp
 have ht:p.take 10=m.tok:=by rw[hp,←htl,List.take_left]
 have hd:p.drop 10=pcF (fixF m.kind) (grpF m.kind) n 0 m.args:=by rw[hp,←htl,List.drop_left]
 refine⟨p,h1,h2,ht,?_,h4⟩
 have hpl:10≤p.length:=by rw[hp,List.length_append];omega
 unfold dcF
 rw[if_neg (by omega),hd]
 by_cases hg:grpF m.kind=0
 ·rw[pcF_flat _ _ _ _ _ (.inr hg)]
  rw[hg,Nat.mul_zero,Nat.add_zero]at nl
  have:=nbF_enc m.args [] h.n
  rw[List.append_nil]at this
  rw[←nl,this]
  dsimp only
  rw[if_pos hg,if_pos rfl]
 ·have hn1:=ng hg
  have hng:1≤n*grpF m.kind:=Nat.mul_pos (by omega) (by omega)
  rw[pcF_split _ _ _ hg _ _ (Nat.zero_le _) (by omega),Nat.sub_zero]
  have ha:NmB (m.args.take (fixF m.kind)):=fun x hx=>h.n x (List.mem_of_mem_take hx)
  have hb:NmB (m.args.drop (fixF m.kind)):=fun x hx=>h.n x (List.mem_of_mem_drop hx)
  have e1:=nbF_enc (m.args.take (fixF m.kind)) ((n:Int)::((m.args.drop (fixF m.kind)).map enF).flatten) ha
  rw[show(m.args.take (fixF m.kind)).length=fixF m.kind by rw[List.length_take];omega]at e1
  rw[e1]
  dsimp only
  rw[if_neg hg]
  have e2:=nbF_enc [(n:Int)] ((m.args.drop (fixF m.kind)).map enF).flatten (.cons (by omega) .nil)
  rw[List.map_cons,List.map_nil,List.flatten_cons,List.flatten_nil,List.append_nil,show enF (n:Int)=[(n:Int)]from enR_lt (f:=4) (by omega),List.singleton_append,List.length_singleton]at e2
  rw[e2]
  dsimp only
  rw[show([(n:Int)]:List Int).getD 0 0=(n:Int)from rfl,if_neg (by omega),Int.toNat_natCast]
  have e3:=nbF_enc (m.args.drop (fixF m.kind)) [] hb
  rw[List.append_nil,show(m.args.drop (fixF m.kind)).length=n*grpF m.kind by rw[List.length_drop];omega]at e3
  rw[e3]
  dsimp only
  rw[if_pos rfl,List.take_append_drop]
theorem ck_root {d:Dsk} (hT:T0 d) (h8:d.rg.tk.length=8) (hs:d.rg.ag.sec.length=8) (k now:Int) (hp:peF d.rg.ag.rights k=true):ckB d.rg.tk d.rg.num (d.rg.num::0::d.rg.ag.sec) k now=true:=by
 unfold T0 at hT
 have e1:(d.rg.num::0::d.rg.ag.sec).getD 1 default=0:=rfl
 have e2:tkOf d.rg.tk (d.rg.num::0::d.rg.ag.sec)=⟨true,d.rg.ag.sec,-1,d.rg.ag.rights,d.rg.ag.cls,0⟩:=hT
 unfold ckB
 rw[e2,e1]
 have e3:usF d.rg.tk 0=true:=by
  unfold usF
  rw[show(0:Int).toNat=0 from rfl,hT,decide_eq_true ⟨Int.le_refl 0,by omega⟩]
  rfl
 rw[e3,decide_eq_true ⟨by simp[hs],rfl⟩]
 dsimp only
 rw[hp,show(d.rg.num::0::d.rg.ag.sec).drop 2=d.rg.ag.sec from rfl,eqY_refl]
 rfl
def rtD (d:Dsk) (k:Int):Dsk:=if costs k=true then⟨⟨d.rg.num,d.rg.ag,d.rg.tk,d.rg.vh,tak1 d.rg.bk⟩,d.rq,d.dr,d.au⟩else d
structure Rt (c:Cf) (d:Dsk) (k now:Int) (ar p:List Int):Prop where
 k0:1≤k∧k≤12
 by':BY p
 len:p.length≤200
 opn:Opn d ⟨0,k,p⟩ now ar
 dec:CallSim Tryz.prog 74 [iA k,slA yA p] [] (.tup [msA ⟨k,d.rg.num::0::d.rg.ag.sec,ar,[]⟩,iA 0]) []
 open':CallSim Tryz.prog 75 [rgA d.rg,msA ⟨k,d.rg.num::0::d.rg.ag.sec,ar,[]⟩,iA now] [] (.tup [rgA (rtD d k).rg,iA 0,iA 0]) []
 dk:dkR' d (rtD d k).rg=rtD d k
theorem rt_of {c:Cf} {d:Dsk} (hI:DskI c d) (hT:T0 d) (k now:Int) (ar p:List Int) (hk:1≤k∧k≤12) (hb:BY p) (hl:p.length≤200) (ht:p.take 10=d.rg.num::0::d.rg.ag.sec) (hd:dcF (fixF k) (grpF k) p=some ar) (hp:peF d.rg.ag.rights k=true) (hlv:costs k=true→0<d.rg.bk.level):Rt c d k now ar p:=by
 have hs:d.rg.ag.sec.length=8:=by have:=hI.a.s;omega
 have hck:=ck_root hT hI.t8 hs k now hp
 have hoe:opE d.rg ⟨k,p.take 10,ar,[]⟩ now=0:=by
  rw[opE,ht,if_pos hck,if_neg (fun h=>by have:=hlv h.1;omega)]
 have hlv2:d.rg.bk.level≤1000000:=by have:=hI.bl;have:=hI.a.b;omega
 have k2:=decode_c k hk.1 hk.2 p hb (by omega)
 rw[hd]at k2
 have hbt:BY (p.take 10):=fun x hx=>hb x (List.mem_of_mem_take hx)
 have k3:=open_c d.rg ⟨k,p.take 10,ar,[]⟩ now hI.b hbt hlv2
 obtain⟨h1,_,_,h2⟩:=opR_ok hoe
 rw[hoe,h2,h1]at k3
 rw[ht]at k2 k3
 have e0:(d.rg.num::0::d.rg.ag.sec).getD 1 default=0:=rfl
 dsimp only at k3
 rw[e0]at k3
 have hrg:(rtD d k).rg=⟨d.rg.num,d.rg.ag,d.rg.tk,d.rg.vh,if costs k=true then tak1 d.rg.bk else d.rg.bk⟩:=by
  unfold rtD
  split<;>rfl
 rw[←hrg]at k3
 refine⟨hk,hb,hl,⟨rfl,hk.1,hk.2,hd,hoe⟩,k2,k3,?_⟩
 unfold dkR' rtD
 split<;>rfl
theorem rtD_i {c:Cf} {d:Dsk} (hI:DskI c d) (k:Int) (hlv:costs k=true→0<d.rg.bk.level):DskI c (rtD d k):=by
 unfold rtD
 split
 ·rename_i hk
  have h0:=hlv hk
  have hb:=hI.bl
  unfold tak1
  rw[if_neg (by omega)]
  exact⟨⟨hI.b.tk,hI.b.s,hI.b.l,hI.b.v⟩,hI.v,hI.q,hI.lg,hI.a,hI.n,hI.t8,hI.br,hI.bb,⟨by dsimp only;omega,by dsimp only;omega⟩,hI.au,hI.dn,hI.dr,hI.vh⟩
 ·exact hI
theorem rt_msg {c:Cf} {d:Dsk} (hI:DskI c d) (hT:T0 d) (hy:BY d.rg.ag.sec) (k now:Int) (ar:List Int) (hk:1≤k∧k≤12) (hn:NmB ar) (n:Nat) (n2:n≤2) (ng:grpF k≠0→1≤n) (nl:ar.length=fixF k+n*grpF k) (hp:peF d.rg.ag.rights k=true) (hlv:costs k=true→0<d.rg.bk.level):
  ∃p,Rt c d k now ar p∧CallSim Tryz.prog 28 [msA ⟨k,d.rg.num::0::d.rg.ag.sec,ar,[]⟩] [] (.tup [slA yA p,iA 0]) []:=by
 have hs:d.rg.ag.sec.length=8:=by have:=hI.a.s;omega
 have hm:MgP ⟨k,d.rg.num::0::d.rg.ag.sec,ar,[]⟩:=⟨by_tok (by have:=hI.n;omega) (by omega) hy,by simp[hs],hk,hn,⟨n,n2,ng,nl⟩,rfl⟩
 obtain⟨p,h1,h2,h3,h4,h5⟩:=dc_enc _ hm
 exact⟨p,rt_of hI hT k now ar p hk h1 h2 h3 h4 hp hlv,h5⟩
theorem pe63 (k:Int) (hk:1≤k∧k≤12):peF 63 k=true:=by
 obtain rfl|rfl|rfl|rfl|rfl|rfl|rfl|rfl|rfl|rfl|rfl|rfl:k=1∨k=2∨k=3∨k=4∨k=5∨k=6∨k=7∨k=8∨k=9∨k=10∨k=11∨k=12:=by omega
 all_goals decide
end
section
set_option maxRecDepth 4000
set_option maxHeartbeats 2000000
def d00:Dk:=⟨[],0,Nat.zero_le _,Nat.zero_le _⟩
theorem ag0 (d:Dk) (r:Int) (hr:0≤r∧r≤63):AgD ((cfF d r).ags.getD 0 default) 0∧((cfF d r).ags.getD 0 default).rights=r∧((cfF d r).ags.map agA)[0]? =some (agA ((cfF d r).ags.getD 0 default)):=by
 have hn:=cfF_n d r
 have h:=cfF_ag d r hr 0 (by omega) (by omega)
 exact⟨h.1,h.2,map_at agA _ 0 (by omega)⟩
theorem tak1_l {b:Bk} (h:0<b.level):(tak1 b).level=b.level-1:=by
 unfold tak1
 rw[if_neg (by omega)]
theorem sub_none {c:Cf} {d:Dsk} (hI:DskI c d) (s now:Int) (n0:0≤now) (n1:now≤1073741824) (id v life:Int) (qs:List Qd) (hq:qs.length≤3) (hp:∀q∈qs,0≤q.j∧0≤q.p) (p:List Int) (hR:Rt c d 6 now (id::v::life::q4L qs) p) (hlv:0<d.rg.bk.level) (hv:hasV d.rg.vh v=false):
  CallSim Tryz.prog 16 [cfA c,dskA d,iA s,itA ⟨0,6,p⟩,iA now] [] (hdT d.rg.num 6 ⟨rtD d 6,faultM 6 12,-1,12⟩) []:=by
 have hI1:=rtD_i hI 6 (fun _=>hlv)
 have htk:(rtD d 6).rg.tk.length=8:=hI1.t8
 have hvh:(rtD d 6).rg.vh=d.rg.vh:=by unfold rtD;split<;>rfl
 have hnum:(rtD d 6).rg.num=d.rg.num:=by unfold rtD;split<;>rfl
 have k4:=ask6_c c (rtD d 6) (d.rg.num::0::d.rg.ag.sec) id v life 0 now qs hI1.bd hI1.v (by omega) (by omega) hq hp n0 n1
 have he:dsE c (rtD d 6) ((rtD d 6).rg.tk.getD (0:Int).toNat default).cls id v life now qs=12:=by
  unfold dsE
  rw[hvh,hv,if_neg Bool.false_ne_true]
 rw[he]at k4
 have k5:=hP_askE c d s now 6 p _ _ hR.k0.1 hR.k0.2 hR.dec _ 0 hR.open' (.inl rfl) _ 12 (by decide) (by rw[hR.dk];exact k4)
 rw[hR.dk]at k5
 have k6:=HP_of c d s now ⟨0,6,p⟩ hI.bd _ _ _ _ k5
 rw[hdM_no (by decide),hnum]at k6
 exact k6
theorem awake26_c:CallSim Tryz.prog 10 [] [] (bA true) []:=by
 have kn:=new_c [] (by simp)
 have kc:=config_c d00 63
 have hn:=cfF_n d00 63
 obtain⟨hA,hr,hy⟩:=ag0 d00 63 (by omega)
 generalize cfF d00 63=c at*
 generalize cfD d00 63=e0 at*
 generalize c.ags.getD 0 default=a at*
 have hal:=map_len agA c.ags
 have kd:=(dnewB 0 a hA.v).1
 have hI:=dskN_i (c:=c) hA.v 0 (by omega)
 have hT:=dskN_t0 0 a a.ses.toNat
 have hlv:0<(dskN 0 a a.ses.toNat).rg.bk.level:=by
  have:=hA.b
  have:=hA.v.t
  show 0<a.burst
  omega
 have hsy:BY a.sec:=by rw[hA.s];exact secF_by _
 have hsl:a.sec.length=8:=by rw[hA.s];exact secF_len _
 obtain⟨p,hR,ke⟩:=rt_msg hI hT hsy 6 1 [1,1,5,0,0,0,5] (by omega) (fun x hx=>by simp at hx;omega) 1 (by omega) (fun _=>Nat.le_refl _) rfl (by show peF a.rights 6=true;rw[hr];exact pe63 6 (by omega)) (fun _=>hlv)
 have kh:=sub_none hI 0 1 (by omega) (by omega) 1 1 5 [⟨0,0,0,5⟩] (by simp) (by simp) p hR hlv rfl
 have kb:=bytes2_c 0 0 a.sec (by omega) (by omega) (by omega) (by omega) (by omega)
 rw[show(dskN 0 a a.ses.toNat).rg.num=0 from rfl]at kh ke
 rw[show(dskN 0 a a.ses.toNat).rg.ag=a from rfl]at ke
 have hl1:=tak1_l hlv
 have hlb:0<(dskN 0 a a.ses.toNat).rg.bk.level∧(dskN 0 a a.ses.toNat).rg.bk.level≤1000:=⟨hlv,by have:=hI.bl;have:=hI.a.b;omega⟩
 rw[show rtD (dskN 0 a a.ses.toNat) 6=⟨⟨(dskN 0 a a.ses.toNat).rg.num,(dskN 0 a a.ses.toNat).rg.ag,(dskN 0 a a.ses.toNat).rg.tk,(dskN 0 a a.ses.toNat).rg.vh,tak1 (dskN 0 a a.ses.toNat).rg.bk⟩,(dskN 0 a a.ses.toNat).rq,(dskN 0 a a.ses.toNat).dr,(dskN 0 a a.ses.toNat).au⟩from rfl]at kh
 generalize dskN 0 a a.ses.toNat=x at*
 unfold dskA dskX hdT enA faultM itA msA at*
 unfold dskA dskX at*
 dsimp only at kh
 generalize tak1 x.rg.bk=b1 at*
 unfold cfA agA at*
 clear hR hI hT hA hn hsl hsy
 (refine eN Tryz.func10 Tryz.call10 fun F hF=>?_)
 (have zc1:=kn;have zc2:=kc;have zc3:=kd;have zc4:=kb;have zc5:=ke;have zc6:=kh;refine WL ?_;clear zc1 zc2 zc3 zc4 zc5 zc6)
 all_goals first|(apply fin_bool;(exact fr0);simp[cmpB,hl1];done)|exact fr0
end
section
set_option maxRecDepth 4000
set_option maxHeartbeats 4000000
def upL {α:Type} [Inhabited α] (g:Nat→α→α) (l:List α) (i:Nat):List α:=(List.range l.length).map fun j=>if j<i then g j (l.getD j default)else l.getD j default
theorem upL_len {α:Type} [Inhabited α] (g:Nat→α→α) (l:List α) (i:Nat):(upL g l i).length=l.length:=by simp[upL]
theorem upL_get {α:Type} [Inhabited α] (g:Nat→α→α) (l:List α) (i j:Nat):(upL g l i)[j]? =if j<l.length then some (if j<i then g j (l.getD j default)else l.getD j default)else none:=by
 unfold upL
 rw[List.getElem?_map]
 by_cases hj:j<l.length
 ·rw[List.getElem?_range hj,if_pos hj];rfl
 ·rw[List.getElem?_eq_none (by simp;omega),if_neg hj];rfl
theorem upL_zero {α:Type} [Inhabited α] (g:Nat→α→α) (l:List α):upL g l 0=l:=by
 apply List.ext_getElem?
 intro j
 rw[upL_get]
 by_cases hj:j<l.length
 ·rw[if_pos hj,if_neg (by omega)];simp[List.getD,hj]
 ·rw[if_neg hj,List.getElem?_eq_none (by omega)]
theorem upL_set {α:Type} [Inhabited α] (g:Nat→α→α) (l:List α) (i:Nat) (hi:i<l.length):upL g l (i+1)=(upL g l i).set i (g i (l.getD i default)):=by
 apply List.ext_getElem?
 intro j
 rw[List.getElem?_set,upL_get,upL_get,upL_len]
 by_cases he:i=j
 ·subst he
  rw[if_pos hi,if_pos rfl,if_pos hi,if_pos (Nat.lt_succ_self i)]
 ·rw[if_neg he]
  by_cases hj:j<l.length
  ·rw[if_pos hj,if_pos hj]
   by_cases h2:j<i
   ·rw[if_pos (by omega),if_pos h2]
   ·rw[if_neg (by omega),if_neg h2]
  ·rw[if_neg hj,if_neg hj]
theorem upL_mapset {α:Type} [Inhabited α] (f:α→AV) (g:Nat→α→α) (l:List α) (i:Nat) (hi:i<l.length):(upL g l (i+1)).map f=((upL g l i).map f).set i (f (g i (l.getD i default))):=by
 rw[upL_set g l i hi,List.map_set]
structure In where
 opn:Bool
 its:List It
instance:Inhabited In:=⟨⟨false,[]⟩⟩
instance:Inhabited It:=⟨⟨0,0,[]⟩⟩
def inA (i:In):AV:= .agg [bA i.opn,slA itA i.its]
structure En where
 ag:Int
 ki:Int
 co:Int
def enB (e:En):AV:=enA e.ag e.ki e.co
structure TS where
 d:Dsk
 rs:List Ms
 en:List En
 ks:List Int
structure SS where
 d:Dsk
 R:List (List Ms)
 en:List En
 ks:List Int
def rlA (l:List Ms):AV:=slA msA l
def InB (i:In):Prop:=i.its.length≤1000∧∀x∈i.its,BY x.pay∧x.pay.length≤100000
def StR (c:Cf) (s now:Int) (i:It) (a b:TS):Prop:=∃h:Hd,HdBoth c a.d s i now h∧HdP c a.d s i now h∧b=⟨h.d,a.rs++[h.p],a.en++[⟨a.d.rg.num,i.kind,h.e⟩],if 0≤h.k then a.ks++[h.k]else a.ks⟩
structure TI' (c:Cf) (d0 d:Dsk):Prop where
 i:DskI c d
 n:d.rg.num=d0.rg.num
 a:d.rg.ag=d0.rg.ag
 t:T0 d0→T0 d
theorem TI'.refl {c:Cf} {d:Dsk} (h:DskI c d):TI' c d d:=⟨h,rfl,rfl,id⟩
theorem TI'.trans {c:Cf} {a b d:Dsk} (h1:TI' c a b) (h2:TI' c b d):TI' c a d:=⟨h2.i,h2.n.trans h1.n,h2.a.trans h1.a,fun h=>h2.t (h1.t h)⟩
theorem run_ex (c:Cf) (s now:Int) (n0:0≤now) (n1:now≤1073741824) (its:List It) (hib:∀x∈its,BY x.pay∧x.pay.length≤100000) (st:TS) (hI:DskI c st.d):
  ∃f:Nat→TS,f 0=st∧∀k,TI' c st.d (f k).d∧((f k).rs.length=st.rs.length+k∧(f k).en.length=st.en.length+k∧(f k).ks.length≤st.ks.length+k∧((∀x∈st.ks,0≤x∧x<(c.js.length:Int))→∀x∈(f k).ks,0≤x∧x<(c.js.length:Int)))∧(k<its.length→StR c s now (its.getD k default) (f k) (f (k+1))):=by
 have hx:∀k,BY (its.getD k default).pay∧(its.getD k default).pay.length≤100000:=fun k=>by
  by_cases hk:k<its.length
  ·refine hib _ ?_
   rw[List.getD_eq_getElem?_getD,List.getElem?_eq_getElem hk]
   exact List.getElem_mem _
  ·rw[List.getD_eq_getElem?_getD,List.getElem?_eq_none (by omega)]
   show BY ([]:List Int)∧([]:List Int).length≤100000
   exact⟨fun y hy=>absurd hy (by simp),Nat.zero_le _⟩
 obtain⟨f,h0,hf⟩:=chain (fun k (a:TS)=>TI' c st.d a.d∧(a.rs.length=st.rs.length+k∧a.en.length=st.en.length+k∧a.ks.length≤st.ks.length+k∧((∀x∈st.ks,0≤x∧x<(c.js.length:Int))→∀x∈a.ks,0≤x∧x<(c.js.length:Int)))) (fun k a b=>StR c s now (its.getD k default) a b)
  (fun k a ha=>by
   obtain⟨ha,h1,h2,h3,h4⟩:=ha
   obtain⟨h,hB,hP⟩:=handle_ex c a.d ha.i s now n0 n1 _ (hx k).1 (hx k).2
   refine⟨_,⟨h,hB,hP,rfl⟩,ha.trans ⟨hP.inv,hP.num,hP.ag,hP.t0⟩,?_,?_,?_,fun hks x hx=>?_⟩
   ·dsimp only;rw[List.length_append,List.length_singleton];omega
   ·dsimp only;rw[List.length_append,List.length_singleton];omega
   ·dsimp only;split
    ·rw[List.length_append,List.length_singleton];omega
    ·omega
   ·dsimp only at hx
    split at hx
    ·rename_i hk0
     rcases List.mem_append.1 hx with hx|hx
     ·exact h4 hks x hx
     ·rw[List.mem_singleton]at hx
      subst hx
      rcases hP.rst with h9|⟨_,h8,h9⟩
      ·omega
      ·exact⟨h8,h9⟩
    ·exact h4 hks x hx)
  st ⟨TI'.refl hI,by omega,by omega,by omega,id⟩
 exact⟨f,h0,fun k=>⟨(hf k).1.1,(hf k).1.2,fun _=>(hf k).2⟩⟩
def seI (ins:List In) (s:Nat):List It:=if s<ins.length∧(ins.getD s default).opn=true then(ins.getD s default).its else []
def SeR (c:Cf) (now:Int) (ins:List In) (s:Nat) (a b:SS):Prop:=∃f:Nat→TS,f 0=⟨a.d,[],a.en,a.ks⟩∧(∀k,k<(seI ins s).length→StR c (s:Int) now ((seI ins s).getD k default) (f k) (f (k+1)))∧(∀k,TI' c a.d (f k).d∧(f k).rs.length=k∧(f k).en.length=a.en.length+k∧(f k).ks.length≤a.ks.length+k)∧
 b=⟨(f (seI ins s).length).d,a.R++[(f (seI ins s).length).rs],(f (seI ins s).length).en,(f (seI ins s).length).ks⟩
theorem seI_b {ins:List In} (h:∀i∈ins,InB i) (s:Nat):(seI ins s).length≤1000∧∀x∈seI ins s,BY x.pay∧x.pay.length≤100000:=by
 unfold seI
 split
 ·rename_i hs
  refine h _ ?_
  rw[List.getD_eq_getElem?_getD,List.getElem?_eq_getElem hs.1]
  exact List.getElem_mem _
 ·exact⟨Nat.zero_le _,fun x hx=>by cases hx⟩
theorem sess_ex (c:Cf) (now:Int) (n0:0≤now) (n1:now≤1073741824) (ins:List In) (hin:∀i∈ins,InB i) (d:Dsk) (hI:DskI c d):
  ∃F:Nat→SS,F 0=⟨d,[],[],[]⟩∧∀s,TI' c d (F s).d∧((F s).R.length=s∧(F s).en.length≤1000*s∧(F s).ks.length≤1000*s∧∀x∈(F s).ks,0≤x∧x<(c.js.length:Int))∧SeR c now ins s (F s) (F (s+1)):=by
 obtain⟨F,h0,hF⟩:=chain (fun s (a:SS)=>TI' c d a.d∧(a.R.length=s∧a.en.length≤1000*s∧a.ks.length≤1000*s∧∀x∈a.ks,0≤x∧x<(c.js.length:Int))) (fun s a b=>SeR c now ins s a b)
  (fun s a ha=>by
   obtain⟨ha,h1,h2,h3,h4⟩:=ha
   obtain⟨hl,hb⟩:=seI_b hin s
   obtain⟨f,f0,hf⟩:=run_ex c (s:Int) now n0 n1 (seI ins s) hb ⟨a.d,[],a.en,a.ks⟩ ha.i
   have hL:=hf (seI ins s).length
   refine⟨_,⟨f,f0,fun k hk=>(hf k).2.2 hk,fun k=>⟨(hf k).1,by have:=(hf k).2.1.1;simpa using this,(hf k).2.1.2.1,(hf k).2.1.2.2.1⟩,rfl⟩,ha.trans hL.1,?_,?_,?_,hL.2.1.2.2.2 h4⟩
   ·dsimp only;rw[List.length_append,List.length_singleton];omega
   ·have:=hL.2.1.2.1;dsimp only at *; omega
   ·have:=hL.2.1.2.2.1;dsimp only at *; omega)
  ⟨d,[],[],[]⟩ ⟨TI'.refl hI,rfl,Nat.zero_le _,Nat.zero_le _,fun x hx=>by cases hx⟩
 exact⟨F,h0,fun s=>⟨(hF s).1.1,(hF s).1.2,(hF s).2⟩⟩
def auG (ins:List In) (s:Nat) (b:Bool):Bool:=if s<ins.length∧(ins.getD s default).opn=true then b else false
def auF (ins:List In) (l:List Bool):List Bool:=upL (auG ins) l l.length
def dkU (d:Dsk) (ins:List In):Dsk:=⟨d.rg,d.rq,d.dr,auF ins d.au⟩
theorem dkU_i {c:Cf} {d:Dsk} (h:DskI c d) (ins:List In):DskI c (dkU d ins):=
 ⟨h.b,h.v,h.q,h.lg,h.a,h.n,h.t8,h.br,h.bb,h.bl,by show((auF ins d.au).length:Int)=_;unfold auF;rw[upL_len];exact h.au,h.dn,h.dr,h.vh⟩
def dkM (d:Dsk) (now:Int):Dsk:=⟨d.rg,mkQ d.rq now,d.dr,d.au⟩
theorem dkM_i {c:Cf} {d:Dsk} (h:DskI c d) (now:Int) (n0:0≤now) (n1:now≤1073741824):DskI c (dkM d now):=by
 refine⟨h.b,mkQ_v h.v now n0 n1,?_,fun r hr g hg=>?_,h.a,h.n,h.t8,h.br,h.bb,h.bl,h.au,h.dn,h.dr,h.vh⟩
 ·show((mkQ d.rq now).length:Int)≤_
  unfold mkQ
  rw[List.length_map]
  exact h.q
 ·obtain⟨x,hx,rfl⟩:=List.mem_map.1 hr
  obtain⟨y,hy,rfl⟩:=List.mem_map.1 hg
  obtain⟨e1,e2,_⟩:=mkL_ok y now n0 n1
  have:=h.lg x hx y hy
  rw[e1,e2]
  exact this
end
end Av
end Go.Proofs.YtaikgchmpieooaaGreat
