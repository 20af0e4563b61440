/- Part 46: contracts of the functions, and what they rest upon. -/
import Derived.Test.YtaikgchmpieooaaGreatP45
namespace Go.Proofs.YtaikgchmpieooaaGreat
namespace Av
set_option linter.unusedSimpArgs false
set_option linter.unusedVariables false
set_option maxRecDepth 4000
set_option maxHeartbeats 8000000
def dskZ:List AV:=[iA 0,.s (.slice none 0 0),iA 0,iA 0,.s (.slice none 0 0),iA 0,iA 0,iA 0,iA 0,.s (.slice none 0 0),.s (.slice none 0 0),iA 0,iA 0,iA 0,.s (.slice none 0 0),.s (.slice none 0 0),.s (.slice none 0 0)]
theorem se_none {c:Cf} {now:Int} {ins:List In} {s:Nat} {a b:SS} (h:SeR c now ins s a b) (he:seI ins s=[]):b=⟨a.d,a.R++[[]],a.en,a.ks⟩:=by
 obtain⟨f,h0,_,_,h3⟩:=h
 rw[he,List.length_nil,h0]at h3
 exact h3
theorem tick_n1m0 {c:Cf} {d:Dsk} (hI:DskI c d) (ins:List In) (hil:ins.length≤1000) (hin:∀i∈ins,InB i) (now:Int) (n0:0≤now) (n1:now≤1073741824) (zF:Nat→SS) (hz0:zF 0=⟨dkU d ins,[],[],[]⟩) (hn:d.au.length=1) (hm:ins.length=0)
  (hz:∀s,TI' c (dkU d ins) (zF s).d∧((zF s).R.length=s∧(zF s).en.length≤1000*s∧(zF s).ks.length≤1000*s∧∀x∈(zF s).ks,0≤x∧x<(c.js.length:Int))∧SeR c now ins s (zF s) (zF (s+1))):
  CallSim Tryz.prog 34 [cfA c,dskA d,slA inA ins,iA now] [] (tkT (dkM (zF 1).d now) (zF 1).R (zF 1).en (zF 1).ks) []:=by
 have kc:=cpDesk_o d hI.bd (by omega)
 have hal:(d.au.map bA).length=1:=by rw[List.length_map,hn]
 have hinl:=map_len inA ins
 have km:=mark_c (zF 1).d.rq now (hz 1).1.i.v
 have cfe:cfA c= .agg [.sl false (c.js.map jnA),.sl false (c.ags.map agA),iA c.per,iA c.cap,iA c.hold,iA c.lock]:=rfl
 rw[cfe]
 unfold dskO dskA dskX at kc
 have e0:=upL_zero (auG ins) d.au
 have hkM:(min ((ins.map inA).length:Int) ((d.au.map bA).length:Int)).toNat=0:=by omega
 have htl:((ins.take 0).map inA).length=0:=by rw[List.length_map,List.length_take];omega
 have hty:∀s,s<0→((ins.take 0).map inA)[s]? =some (inA (ins.getD s default)):=fun s hs=>by
  rw[List.getElem?_map,List.getElem?_take,if_pos hs,List.getD_eq_getElem?_getD,List.getElem?_eq_getElem (by omega)]
  rfl
 have hx0:=se_none (hz 0).2.2 (by unfold seI;rw[if_neg (fun h=>by omega)])
 rw[hx0]at km⊢
 dsimp only at km⊢
 (refine eN Tryz.func34 Tryz.call34 fun F hF=>?_)
 (have zc1:=kc;refine WW ?_;clear zc1)
 rw[hkM,hal]
 (refine sim_cnt (1) [1004,4,5,8,28] [4,5,8,28] [2,3,4,5,8,12,13,14,39] [40,9,10,2,3,4,5,8,12,13,14,39] rfl (fun i T U=>⟨(40,iA i)::(9,.s (.slice none 0 0))::(10,.s (.slice none 0 0))::T,(1004,.arr 1 ((upL (auG ins) d.au i).map bA) false)::U⟩) ?_;(conv=>whnf);refine⟨by(rw[e0];rfl),?_,?_⟩)
 ·intro i hi
  have hya:((upL (auG ins) d.au i).map bA)[i]? =some (bA (d.au.getD i default)):=by rw[List.getElem?_map,upL_get,if_pos (by omega),if_neg (Nat.lt_irrefl i)];rfl
  have hxl:((upL (auG ins) d.au i).map bA).length=1:=by rw[List.length_map,upL_len,hn]
  rw[upL_mapset bA (auG ins) d.au i (by omega)]
  have hsame:=set_same hya
  clear kc km
  generalize (upL (auG ins) d.au i).map bA=xs at*
  generalize d.au.getD i default=b9 at*
  unfold auG
  rw[if_neg (fun h=>by omega)]
  (refine WW ?_)
  rfl
 ·(refine WW ?_)
  refine sim_restrC [4,5,8,28] [2,3,4,5,8,9,10,12,13,14,61,62] rfl ?_
  (conv=>whnf)
  rw[tk_upn (by omega:d.au.length=1),show upL (auG ins) d.au 1=auF ins d.au by unfold auF;rw[hn],htl]
  refine sim_virt 13 1002 3 rfl rfl rfl ?_
  refine sim_virt 14 1003 1 rfl rfl rfl ?_
  refine sim_virt 9 1006 4 rfl rfl rfl ?_
  refine sim_nest 28 rfl ?_
  refine sim_recell 28 0 1006 rfl rfl rfl rfl rfl ?_
  refine sim_rounds 1 [5,28,1002,1003,1006,4,8] [13,14,62,2,3,4,5,8,12,61] rfl ?_
  refine rnd_next (st0:=⟨[(13,.ref 1002 0 ((zF 0).en.map enB).length),(14,.ref 1003 0 ((zF 0).ks.map iA).length),(62,iA 0),(2,.sl false ((ins.take 0).map inA)),(3,iA now),(4,.ptr 4 0 0),(5,.ptr 5 0 0),(8,.ptr 8 0 0),(12,.ref 28 0 1),(61,iA 0)],[(5,.box (dskL (zF 0).d)),(28,.arr 1 [.ref 1006 0 ([]:List AV).length] ⟨false,true⟩),(1002,.arr 3 ((zF 0).en.map enB) true),(1003,.arr 1 ((zF 0).ks.map iA) true),(1006,.arr 4 ([]:List AV) true),(4,.box [.sl false (c.js.map jnA),.sl false (c.ags.map agA),iA c.per,iA c.cap,iA c.hold,iA c.lock]),(8,.box dskZ)]⟩) (by rw[hz0];rfl) ?_
  (have zc1:=km;refine WW ?_;clear zc1)
  refine fin_ret [] rfl rfl ?_ rfl
  show AV.tup [dskA (dkM (zF 0).d now),.sl false [.sl false (List.take _ (List.drop 0 ([]:List AV)))],.sl false (List.take _ (List.drop 0 ((zF 0).en.map enB))),.sl false (List.take _ (List.drop 0 ((zF 0).ks.map iA)))]=_
  simp only[List.drop_zero,List.take_length]
  unfold tkT
  rw[hz0]
  rfl
theorem tick_n1m1 {c:Cf} {d:Dsk} (hI:DskI c d) (ins:List In) (hil:ins.length≤1000) (hin:∀i∈ins,InB i) (now:Int) (n0:0≤now) (n1:now≤1073741824) (zF:Nat→SS) (hz0:zF 0=⟨dkU d ins,[],[],[]⟩) (hn:d.au.length=1) (hm:1≤ins.length)
  (hz:∀s,TI' c (dkU d ins) (zF s).d∧((zF s).R.length=s∧(zF s).en.length≤1000*s∧(zF s).ks.length≤1000*s∧∀x∈(zF s).ks,0≤x∧x<(c.js.length:Int))∧SeR c now ins s (zF s) (zF (s+1))):
  CallSim Tryz.prog 34 [cfA c,dskA d,slA inA ins,iA now] [] (tkT (dkM (zF 1).d now) (zF 1).R (zF 1).en (zF 1).ks) []:=by
 have kc:=cpDesk_o d hI.bd (by omega)
 have hal:(d.au.map bA).length=1:=by rw[List.length_map,hn]
 have hinl:=map_len inA ins
 have km:=mark_c (zF 1).d.rq now (hz 1).1.i.v
 have cfe:cfA c= .agg [.sl false (c.js.map jnA),.sl false (c.ags.map agA),iA c.per,iA c.cap,iA c.hold,iA c.lock]:=rfl
 rw[cfe]
 unfold dskO dskA dskX at kc
 have e0:=upL_zero (auG ins) d.au
 have hkM:(min ((ins.map inA).length:Int) ((d.au.map bA).length:Int)).toNat=1:=by omega
 have htl:((ins.take 1).map inA).length=1:=by rw[List.length_map,List.length_take];omega
 have hty:∀s,s<1→((ins.take 1).map inA)[s]? =some (inA (ins.getD s default)):=fun s hs=>by
  rw[List.getElem?_map,List.getElem?_take,if_pos hs,List.getD_eq_getElem?_getD,List.getElem?_eq_getElem (by omega)]
  rfl
 obtain⟨hT0,⟨ha0,hb0,hc0,_⟩,zf0,hf0,hs0,hl0,hx0⟩:=hz 0
 have hy0:=hty 0 (by omega)
 (refine eN Tryz.func34 Tryz.call34 fun F hF=>?_)
 (have zc1:=kc;refine WW ?_;clear zc1)
 rw[hkM,hal]
 (refine sim_cnt (1) [1004,4,5,8,28] [4,5,8,28] [2,3,4,5,8,12,13,14,39] [40,9,10,2,3,4,5,8,12,13,14,39] rfl (fun i T U=>⟨(40,iA i)::(9,.s (.slice none 0 0))::(10,.s (.slice none 0 0))::T,(1004,.arr 1 ((upL (auG ins) d.au i).map bA) false)::U⟩) ?_;(conv=>whnf);refine⟨by(rw[e0];rfl),?_,?_⟩)
 ·intro i hi
  have hya:((upL (auG ins) d.au i).map bA)[i]? =some (bA (d.au.getD i default)):=by rw[List.getElem?_map,upL_get,if_pos (by omega),if_neg (Nat.lt_irrefl i)];rfl
  have hxl:((upL (auG ins) d.au i).map bA).length=1:=by rw[List.length_map,upL_len,hn]
  rw[upL_mapset bA (auG ins) d.au i (by omega)]
  have hsame:=set_same hya
  clear kc km
  generalize (upL (auG ins) d.au i).map bA=xs at*
  generalize d.au.getD i default=b9 at*
  unfold auG
  by_cases h1:i<1
  ·have hy:=hty i h1
   have hlt:i<ins.length:=by omega
   generalize ins.getD i default=x at*
   obtain⟨op,its⟩:=x
   rw[show inA ⟨op,its⟩= .agg [bA op,slA itA its]from rfl]at hy
   cases op
   ·rw[if_neg (fun h=>by cases h.2)]
    (refine WW ?_)
    rfl
   ·rw[if_pos ⟨hlt,rfl⟩,hsame]
    (refine WW ?_)
    rfl
  ·rw[if_neg (fun h=>by omega)]
   (refine WW ?_)
   rfl
 ·(refine WW ?_)
  refine sim_restrC [4,5,8,28] [2,3,4,5,8,9,10,12,13,14,61,62] rfl ?_
  (conv=>whnf)
  rw[tk_upn (by omega:d.au.length=1),show upL (auG ins) d.au 1=auF ins d.au by unfold auF;rw[hn],htl]
  refine sim_virt 13 1002 3 rfl rfl rfl ?_
  refine sim_virt 14 1003 1 rfl rfl rfl ?_
  refine sim_virt 9 1006 4 rfl rfl rfl ?_
  refine sim_nest 28 rfl ?_
  refine sim_recell 28 0 1006 rfl rfl rfl rfl rfl ?_
  refine sim_rounds 2 [5,28,1002,1003,1006,4,8] [13,14,62,2,3,4,5,8,12,61] rfl ?_
  refine rnd_next (st0:=⟨[(13,.ref 1002 0 ((zF 0).en.map enB).length),(14,.ref 1003 0 ((zF 0).ks.map iA).length),(62,iA 0),(2,.sl false ((ins.take 1).map inA)),(3,iA now),(4,.ptr 4 0 0),(5,.ptr 5 0 0),(8,.ptr 8 0 0),(12,.ref 28 0 1),(61,iA 1)],[(5,.box (dskL (zF 0).d)),(28,.arr 1 [.ref 1006 0 ([]:List AV).length] ⟨false,true⟩),(1002,.arr 3 ((zF 0).en.map enB) true),(1003,.arr 1 ((zF 0).ks.map iA) true),(1006,.arr 4 ([]:List AV) true),(4,.box [.sl false (c.js.map jnA),.sl false (c.ags.map agA),iA c.per,iA c.cap,iA c.hold,iA c.lock]),(8,.box dskZ)]⟩) (by rw[hz0];rfl) ?_
  obtain⟨r0,hr0⟩:∃r,r=(zf0 (seI ins 0).length).rs:=⟨_,rfl⟩
  have hR0:(zF 1).R=(zF 0).R++[r0]:=by rw[hr0,hx0]
  have q0:(zF 1).d=(zf0 (seI ins 0).length).d∧(zF 1).en=(zf0 (seI ins 0).length).en∧(zF 1).ks=(zf0 (seI ins 0).length).ks:=by rw[hx0];exact⟨rfl,rfl,rfl⟩
  have ml1:=map_len enB (zF 0).en
  have ml2:=map_len iA (zF 0).ks
  by_cases ho:(ins.getD 0 default).opn=true
  case' pos=>
   have hse:seI ins 0=(ins.getD 0 default).its:=by unfold seI;rw[if_pos ⟨by omega,ho⟩]
   have hib:=(seI_b hin 0).1
   rw[hse]at hib q0 hs0 hr0
   clear hse
   generalize ins.getD 0 default=x at*
   obtain⟨op,its⟩:=x
   dsimp only at*
   subst ho
   rw[show inA ⟨true,its⟩= .agg [bA true,slA itA its]from rfl]at hy0
   have hil2:=map_len itA its
   (refine WW ?_)
   (refine sim_rng (its) [5,1002,1003,28,1006,4,8] [4,8] [2,3,4,5,8,12,16,61,62,75,76] [13,14,77,2,3,4,5,8,12,16,61,62,75,76] rfl (fun i pre T U=>⟨(13,.ref 1002 0 ((zf0 i).en.map enB).length)::(14,.ref 1003 0 ((zf0 i).ks.map iA).length)::(77,iA i)::T,(5,.box (dskL (zf0 i).d))::(1002,.arr 3 ((zf0 i).en.map enB) true)::(1003,.arr 1 ((zf0 i).ks.map iA) true)::(28,.arr 1 [.ref 1006 0 ((zf0 i).rs.map msA).length] ⟨false,true⟩)::(1006,.arr 4 ((zf0 i).rs.map msA) true)::U⟩) ?_;(conv=>whnf);refine⟨by(rw[hf0];rfl),?_,?_⟩)
   ·intro k pre it post hx hk
    have hy3:=rng_at itA hx hk
    have hlt3:=rng_lt hx hk
    have hgt:its.getD k default=it:=by rw[hx,←hk];simp[List.getD]
    obtain⟨h,hB,hP,hnx⟩:=hs0 k hlt3
    rw[hgt]at hB
    obtain⟨hk1,hk2,hk3,hk4⟩:=hl0 k
    have hm1:=map_len enB (zf0 k).en
    have hm2:=map_len iA (zf0 k).ks
    have hm3:=map_len msA (zf0 k).rs
    have kh:=hB.1
    rw[hnx]
    dsimp only
    rw[show((zf0 k).rs++[h.p]).map msA=(zf0 k).rs.map msA++[msA h.p] by simp,show∀e:En,((zf0 k).en++[e]).map enB=(zf0 k).en.map enB++[enB e]from fun e=>by simp,hgt]
    rw[cfe]at kh
    unfold hdT dskA dskX itA at kh
    unfold itA at hy3
    have hen:(zF 0).en.length≤2000∧(zF 0).ks.length≤2000:=by omega
    clear hx hgt hnx hB hP hty kc km
    generalize (zf0 k).rs.map msA=rs9 at*
    generalize (zf0 k).en.map enB=en9 at*
    generalize h.p=p9 at*
    generalize h.e=e9 at*
    generalize h.d=d9 at*
    generalize hkk:h.k=k9 at*
    generalize (zf0 k).d=dk9 at*
    obtain⟨pk,pt,pa,pd⟩:=p9
    unfold msA enA at kh
    dsimp only at kh
    unfold dskL enB enA msA
    by_cases h0:0≤k9
    ·rw[if_pos h0,show((zf0 k).ks++[k9]).map iA=(zf0 k).ks.map iA++[iA k9] by simp]
     generalize (zf0 k).ks.map iA=ks9 at*
     (have zc1:=kh;refine WW ?_;clear zc1)
     rfl
    ·rw[if_neg h0]
     generalize (zf0 k).ks.map iA=ks9 at*
     (have zc1:=kh;refine WW ?_;clear zc1)
     rfl
   obtain⟨w1,w2,w3⟩:=q0
   (refine WW ?_)
  case' neg=>
   have hse:seI ins 0=[]:=by unfold seI;rw[if_neg (fun h=>ho h.2)]
   rw[hse,List.length_nil,hf0]at q0 hr0
   obtain⟨w1,w2,w3⟩:=q0
   have hop:(ins.getD 0 default).opn=false:=by simpa using ho
   clear hse ho
   generalize ins.getD 0 default=x at*
   obtain⟨op,its⟩:=x
   dsimp only at*
   subst hop
   rw[show inA ⟨false,its⟩= .agg [bA false,slA itA its]from rfl]at hy0
   (refine WW ?_)
  all_goals clear hy0 ml1 ml2
  all_goals
   refine rnd_next (st0:=⟨[(13,.ref 1002 0 ((zF 1).en.map enB).length),(14,.ref 1003 0 ((zF 1).ks.map iA).length),(62,iA 1),(2,.sl false ((ins.take 1).map inA)),(3,iA now),(4,.ptr 4 0 0),(5,.ptr 5 0 0),(8,.ptr 8 0 0),(12,.ref 28 0 1),(61,iA 1)],[(5,.box (dskL (zF 1).d)),(28,.arr 1 [.ref 1006 0 (r0.map msA).length] ⟨false,true⟩),(1002,.arr 3 ((zF 1).en.map enB) true),(1003,.arr 1 ((zF 1).ks.map iA) true),(1006,.arr 4 (r0.map msA) true),(4,.box [.sl false (c.js.map jnA),.sl false (c.ags.map agA),iA c.per,iA c.cap,iA c.hold,iA c.lock]),(8,.box dskZ)]⟩) (by rw[w1,w2,w3,hr0];rfl) ?_
   (have zc1:=km;refine WW ?_;clear zc1)
   refine fin_ret [] rfl rfl ?_ rfl
   show AV.tup [dskA (dkM (zF 1).d now),.sl false [.sl false (List.take _ (List.drop 0 (r0.map msA)))],.sl false (List.take _ (List.drop 0 ((zF 1).en.map enB))),.sl false (List.take _ (List.drop 0 ((zF 1).ks.map iA)))]=_
   simp only[List.drop_zero,List.take_length]
   unfold tkT
   rw[hR0,hz0]
   rfl
theorem tick_n2m0 {c:Cf} {d:Dsk} (hI:DskI c d) (ins:List In) (hil:ins.length≤1000) (hin:∀i∈ins,InB i) (now:Int) (n0:0≤now) (n1:now≤1073741824) (zF:Nat→SS) (hz0:zF 0=⟨dkU d ins,[],[],[]⟩) (hn:d.au.length=2) (hm:ins.length=0)
  (hz:∀s,TI' c (dkU d ins) (zF s).d∧((zF s).R.length=s∧(zF s).en.length≤1000*s∧(zF s).ks.length≤1000*s∧∀x∈(zF s).ks,0≤x∧x<(c.js.length:Int))∧SeR c now ins s (zF s) (zF (s+1))):
  CallSim Tryz.prog 34 [cfA c,dskA d,slA inA ins,iA now] [] (tkT (dkM (zF 2).d now) (zF 2).R (zF 2).en (zF 2).ks) []:=by
 have kc:=cpDesk_o d hI.bd (by omega)
 have hal:(d.au.map bA).length=2:=by rw[List.length_map,hn]
 have hinl:=map_len inA ins
 have km:=mark_c (zF 2).d.rq now (hz 2).1.i.v
 have cfe:cfA c= .agg [.sl false (c.js.map jnA),.sl false (c.ags.map agA),iA c.per,iA c.cap,iA c.hold,iA c.lock]:=rfl
 rw[cfe]
 unfold dskO dskA dskX at kc
 have e0:=upL_zero (auG ins) d.au
 have hkM:(min ((ins.map inA).length:Int) ((d.au.map bA).length:Int)).toNat=0:=by omega
 have htl:((ins.take 0).map inA).length=0:=by rw[List.length_map,List.length_take];omega
 have hty:∀s,s<0→((ins.take 0).map inA)[s]? =some (inA (ins.getD s default)):=fun s hs=>by
  rw[List.getElem?_map,List.getElem?_take,if_pos hs,List.getD_eq_getElem?_getD,List.getElem?_eq_getElem (by omega)]
  rfl
 have hx0:=se_none (hz 0).2.2 (by unfold seI;rw[if_neg (fun h=>by omega)])
 have hx1:=se_none (hz 1).2.2 (by unfold seI;rw[if_neg (fun h=>by omega)])
 rw[hx1,hx0]at km⊢
 dsimp only at km⊢
 (refine eN Tryz.func34 Tryz.call34 fun F hF=>?_)
 (have zc1:=kc;refine WW ?_;clear zc1)
 rw[hkM,hal]
 (refine sim_cnt (2) [1004,4,5,8,28] [4,5,8,28] [2,3,4,5,8,12,13,14,39] [40,9,10,2,3,4,5,8,12,13,14,39] rfl (fun i T U=>⟨(40,iA i)::(9,.s (.slice none 0 0))::(10,.s (.slice none 0 0))::T,(1004,.arr 1 ((upL (auG ins) d.au i).map bA) false)::U⟩) ?_;(conv=>whnf);refine⟨by(rw[e0];rfl),?_,?_⟩)
 ·intro i hi
  have hya:((upL (auG ins) d.au i).map bA)[i]? =some (bA (d.au.getD i default)):=by rw[List.getElem?_map,upL_get,if_pos (by omega),if_neg (Nat.lt_irrefl i)];rfl
  have hxl:((upL (auG ins) d.au i).map bA).length=2:=by rw[List.length_map,upL_len,hn]
  rw[upL_mapset bA (auG ins) d.au i (by omega)]
  have hsame:=set_same hya
  clear kc km
  generalize (upL (auG ins) d.au i).map bA=xs at*
  generalize d.au.getD i default=b9 at*
  unfold auG
  rw[if_neg (fun h=>by omega)]
  (refine WW ?_)
  rfl
 ·(refine WW ?_)
  refine sim_restrC [4,5,8,28] [2,3,4,5,8,9,10,12,13,14,61,62] rfl ?_
  (conv=>whnf)
  rw[tk_upn (by omega:d.au.length=2),show upL (auG ins) d.au 2=auF ins d.au by unfold auF;rw[hn],htl]
  refine sim_virt 13 1002 3 rfl rfl rfl ?_
  refine sim_virt 14 1003 1 rfl rfl rfl ?_
  refine sim_virt 9 1006 4 rfl rfl rfl ?_
  refine sim_virt 10 1007 4 rfl rfl rfl ?_
  refine sim_nest 28 rfl ?_
  refine sim_recell 28 0 1006 rfl rfl rfl rfl rfl ?_
  refine sim_recell 28 1 1007 rfl rfl rfl rfl rfl ?_
  refine sim_rounds 1 [5,28,1002,1003,1006,1007,4,8] [13,14,62,2,3,4,5,8,12,61] rfl ?_
  refine rnd_next (st0:=⟨[(13,.ref 1002 0 ((zF 0).en.map enB).length),(14,.ref 1003 0 ((zF 0).ks.map iA).length),(62,iA 0),(2,.sl false ((ins.take 0).map inA)),(3,iA now),(4,.ptr 4 0 0),(5,.ptr 5 0 0),(8,.ptr 8 0 0),(12,.ref 28 0 2),(61,iA 0)],[(5,.box (dskL (zF 0).d)),(28,.arr 1 [.ref 1006 0 ([]:List AV).length,.ref 1007 0 ([]:List AV).length] ⟨false,true⟩),(1002,.arr 3 ((zF 0).en.map enB) true),(1003,.arr 1 ((zF 0).ks.map iA) true),(1006,.arr 4 ([]:List AV) true),(1007,.arr 4 ([]:List AV) true),(4,.box [.sl false (c.js.map jnA),.sl false (c.ags.map agA),iA c.per,iA c.cap,iA c.hold,iA c.lock]),(8,.box dskZ)]⟩) (by rw[hz0];rfl) ?_
  (have zc1:=km;refine WW ?_;clear zc1)
  refine fin_ret [] rfl rfl ?_ rfl
  show AV.tup [dskA (dkM (zF 0).d now),.sl false [.sl false (List.take _ (List.drop 0 ([]:List AV))),.sl false (List.take _ (List.drop 0 ([]:List AV)))],.sl false (List.take _ (List.drop 0 ((zF 0).en.map enB))),.sl false (List.take _ (List.drop 0 ((zF 0).ks.map iA)))]=_
  simp only[List.drop_zero,List.take_length]
  unfold tkT
  rw[hz0]
  rfl
theorem tick_n2m1 {c:Cf} {d:Dsk} (hI:DskI c d) (ins:List In) (hil:ins.length≤1000) (hin:∀i∈ins,InB i) (now:Int) (n0:0≤now) (n1:now≤1073741824) (zF:Nat→SS) (hz0:zF 0=⟨dkU d ins,[],[],[]⟩) (hn:d.au.length=2) (hm:ins.length=1)
  (hz:∀s,TI' c (dkU d ins) (zF s).d∧((zF s).R.length=s∧(zF s).en.length≤1000*s∧(zF s).ks.length≤1000*s∧∀x∈(zF s).ks,0≤x∧x<(c.js.length:Int))∧SeR c now ins s (zF s) (zF (s+1))):
  CallSim Tryz.prog 34 [cfA c,dskA d,slA inA ins,iA now] [] (tkT (dkM (zF 2).d now) (zF 2).R (zF 2).en (zF 2).ks) []:=by
 have kc:=cpDesk_o d hI.bd (by omega)
 have hal:(d.au.map bA).length=2:=by rw[List.length_map,hn]
 have hinl:=map_len inA ins
 have km:=mark_c (zF 2).d.rq now (hz 2).1.i.v
 have cfe:cfA c= .agg [.sl false (c.js.map jnA),.sl false (c.ags.map agA),iA c.per,iA c.cap,iA c.hold,iA c.lock]:=rfl
 rw[cfe]
 unfold dskO dskA dskX at kc
 have e0:=upL_zero (auG ins) d.au
 have hkM:(min ((ins.map inA).length:Int) ((d.au.map bA).length:Int)).toNat=1:=by omega
 have htl:((ins.take 1).map inA).length=1:=by rw[List.length_map,List.length_take];omega
 have hty:∀s,s<1→((ins.take 1).map inA)[s]? =some (inA (ins.getD s default)):=fun s hs=>by
  rw[List.getElem?_map,List.getElem?_take,if_pos hs,List.getD_eq_getElem?_getD,List.getElem?_eq_getElem (by omega)]
  rfl
 obtain⟨hT0,⟨ha0,hb0,hc0,_⟩,zf0,hf0,hs0,hl0,hx0⟩:=hz 0
 have hy0:=hty 0 (by omega)
 have hx1:=se_none (hz 1).2.2 (by unfold seI;rw[if_neg (fun h=>by omega)])
 rw[hx1]at km⊢
 dsimp only at km⊢
 (refine eN Tryz.func34 Tryz.call34 fun F hF=>?_)
 (have zc1:=kc;refine WW ?_;clear zc1)
 rw[hkM,hal]
 (refine sim_cnt (2) [1004,4,5,8,28] [4,5,8,28] [2,3,4,5,8,12,13,14,39] [40,9,10,2,3,4,5,8,12,13,14,39] rfl (fun i T U=>⟨(40,iA i)::(9,.s (.slice none 0 0))::(10,.s (.slice none 0 0))::T,(1004,.arr 1 ((upL (auG ins) d.au i).map bA) false)::U⟩) ?_;(conv=>whnf);refine⟨by(rw[e0];rfl),?_,?_⟩)
 ·intro i hi
  have hya:((upL (auG ins) d.au i).map bA)[i]? =some (bA (d.au.getD i default)):=by rw[List.getElem?_map,upL_get,if_pos (by omega),if_neg (Nat.lt_irrefl i)];rfl
  have hxl:((upL (auG ins) d.au i).map bA).length=2:=by rw[List.length_map,upL_len,hn]
  rw[upL_mapset bA (auG ins) d.au i (by omega)]
  have hsame:=set_same hya
  clear kc km
  generalize (upL (auG ins) d.au i).map bA=xs at*
  generalize d.au.getD i default=b9 at*
  unfold auG
  by_cases h1:i<1
  ·have hy:=hty i h1
   have hlt:i<ins.length:=by omega
   generalize ins.getD i default=x at*
   obtain⟨op,its⟩:=x
   rw[show inA ⟨op,its⟩= .agg [bA op,slA itA its]from rfl]at hy
   cases op
   ·rw[if_neg (fun h=>by cases h.2)]
    (refine WW ?_)
    rfl
   ·rw[if_pos ⟨hlt,rfl⟩,hsame]
    (refine WW ?_)
    rfl
  ·rw[if_neg (fun h=>by omega)]
   (refine WW ?_)
   rfl
 ·(refine WW ?_)
  refine sim_restrC [4,5,8,28] [2,3,4,5,8,9,10,12,13,14,61,62] rfl ?_
  (conv=>whnf)
  rw[tk_upn (by omega:d.au.length=2),show upL (auG ins) d.au 2=auF ins d.au by unfold auF;rw[hn],htl]
  refine sim_virt 13 1002 3 rfl rfl rfl ?_
  refine sim_virt 14 1003 1 rfl rfl rfl ?_
  refine sim_virt 9 1006 4 rfl rfl rfl ?_
  refine sim_virt 10 1007 4 rfl rfl rfl ?_
  refine sim_nest 28 rfl ?_
  refine sim_recell 28 0 1006 rfl rfl rfl rfl rfl ?_
  refine sim_recell 28 1 1007 rfl rfl rfl rfl rfl ?_
  refine sim_rounds 2 [5,28,1002,1003,1006,1007,4,8] [13,14,62,2,3,4,5,8,12,61] rfl ?_
  refine rnd_next (st0:=⟨[(13,.ref 1002 0 ((zF 0).en.map enB).length),(14,.ref 1003 0 ((zF 0).ks.map iA).length),(62,iA 0),(2,.sl false ((ins.take 1).map inA)),(3,iA now),(4,.ptr 4 0 0),(5,.ptr 5 0 0),(8,.ptr 8 0 0),(12,.ref 28 0 2),(61,iA 1)],[(5,.box (dskL (zF 0).d)),(28,.arr 1 [.ref 1006 0 ([]:List AV).length,.ref 1007 0 ([]:List AV).length] ⟨false,true⟩),(1002,.arr 3 ((zF 0).en.map enB) true),(1003,.arr 1 ((zF 0).ks.map iA) true),(1006,.arr 4 ([]:List AV) true),(1007,.arr 4 ([]:List AV) true),(4,.box [.sl false (c.js.map jnA),.sl false (c.ags.map agA),iA c.per,iA c.cap,iA c.hold,iA c.lock]),(8,.box dskZ)]⟩) (by rw[hz0];rfl) ?_
  obtain⟨r0,hr0⟩:∃r,r=(zf0 (seI ins 0).length).rs:=⟨_,rfl⟩
  have hR0:(zF 1).R=(zF 0).R++[r0]:=by rw[hr0,hx0]
  have q0:(zF 1).d=(zf0 (seI ins 0).length).d∧(zF 1).en=(zf0 (seI ins 0).length).en∧(zF 1).ks=(zf0 (seI ins 0).length).ks:=by rw[hx0];exact⟨rfl,rfl,rfl⟩
  have ml1:=map_len enB (zF 0).en
  have ml2:=map_len iA (zF 0).ks
  by_cases ho:(ins.getD 0 default).opn=true
  case' pos=>
   have hse:seI ins 0=(ins.getD 0 default).its:=by unfold seI;rw[if_pos ⟨by omega,ho⟩]
   have hib:=(seI_b hin 0).1
   rw[hse]at hib q0 hs0 hr0
   clear hse
   generalize ins.getD 0 default=x at*
   obtain⟨op,its⟩:=x
   dsimp only at*
   subst ho
   rw[show inA ⟨true,its⟩= .agg [bA true,slA itA its]from rfl]at hy0
   have hil2:=map_len itA its
   (refine WW ?_)
   (refine sim_rng (its) [5,1002,1003,28,1006,4,8,1007] [4,8,1007] [2,3,4,5,8,12,16,61,62,75,76] [13,14,77,2,3,4,5,8,12,16,61,62,75,76] rfl (fun i pre T U=>⟨(13,.ref 1002 0 ((zf0 i).en.map enB).length)::(14,.ref 1003 0 ((zf0 i).ks.map iA).length)::(77,iA i)::T,(5,.box (dskL (zf0 i).d))::(1002,.arr 3 ((zf0 i).en.map enB) true)::(1003,.arr 1 ((zf0 i).ks.map iA) true)::(28,.arr 1 [.ref 1006 0 ((zf0 i).rs.map msA).length,.ref 1007 0 ([]:List AV).length] ⟨false,true⟩)::(1006,.arr 4 ((zf0 i).rs.map msA) true)::U⟩) ?_;(conv=>whnf);refine⟨by(rw[hf0];rfl),?_,?_⟩)
   ·intro k pre it post hx hk
    have hy3:=rng_at itA hx hk
    have hlt3:=rng_lt hx hk
    have hgt:its.getD k default=it:=by rw[hx,←hk];simp[List.getD]
    obtain⟨h,hB,hP,hnx⟩:=hs0 k hlt3
    rw[hgt]at hB
    obtain⟨hk1,hk2,hk3,hk4⟩:=hl0 k
    have hm1:=map_len enB (zf0 k).en
    have hm2:=map_len iA (zf0 k).ks
    have hm3:=map_len msA (zf0 k).rs
    have kh:=hB.1
    rw[hnx]
    dsimp only
    rw[show((zf0 k).rs++[h.p]).map msA=(zf0 k).rs.map msA++[msA h.p] by simp,show∀e:En,((zf0 k).en++[e]).map enB=(zf0 k).en.map enB++[enB e]from fun e=>by simp,hgt]
    rw[cfe]at kh
    unfold hdT dskA dskX itA at kh
    unfold itA at hy3
    have hen:(zF 0).en.length≤2000∧(zF 0).ks.length≤2000:=by omega
    clear hx hgt hnx hB hP hty kc km
    generalize (zf0 k).rs.map msA=rs9 at*
    generalize (zf0 k).en.map enB=en9 at*
    generalize h.p=p9 at*
    generalize h.e=e9 at*
    generalize h.d=d9 at*
    generalize hkk:h.k=k9 at*
    generalize (zf0 k).d=dk9 at*
    obtain⟨pk,pt,pa,pd⟩:=p9
    unfold msA enA at kh
    dsimp only at kh
    unfold dskL enB enA msA
    by_cases h0:0≤k9
    ·rw[if_pos h0,show((zf0 k).ks++[k9]).map iA=(zf0 k).ks.map iA++[iA k9] by simp]
     generalize (zf0 k).ks.map iA=ks9 at*
     (have zc1:=kh;refine WW ?_;clear zc1)
     rfl
    ·rw[if_neg h0]
     generalize (zf0 k).ks.map iA=ks9 at*
     (have zc1:=kh;refine WW ?_;clear zc1)
     rfl
   obtain⟨w1,w2,w3⟩:=q0
   (refine WW ?_)
  case' neg=>
   have hse:seI ins 0=[]:=by unfold seI;rw[if_neg (fun h=>ho h.2)]
   rw[hse,List.length_nil,hf0]at q0 hr0
   obtain⟨w1,w2,w3⟩:=q0
   have hop:(ins.getD 0 default).opn=false:=by simpa using ho
   clear hse ho
   generalize ins.getD 0 default=x at*
   obtain⟨op,its⟩:=x
   dsimp only at*
   subst hop
   rw[show inA ⟨false,its⟩= .agg [bA false,slA itA its]from rfl]at hy0
   (refine WW ?_)
  all_goals clear hy0 ml1 ml2
  all_goals
   refine rnd_next (st0:=⟨[(13,.ref 1002 0 ((zF 1).en.map enB).length),(14,.ref 1003 0 ((zF 1).ks.map iA).length),(62,iA 1),(2,.sl false ((ins.take 1).map inA)),(3,iA now),(4,.ptr 4 0 0),(5,.ptr 5 0 0),(8,.ptr 8 0 0),(12,.ref 28 0 2),(61,iA 1)],[(5,.box (dskL (zF 1).d)),(28,.arr 1 [.ref 1006 0 (r0.map msA).length,.ref 1007 0 ([]:List AV).length] ⟨false,true⟩),(1002,.arr 3 ((zF 1).en.map enB) true),(1003,.arr 1 ((zF 1).ks.map iA) true),(1006,.arr 4 (r0.map msA) true),(1007,.arr 4 ([]:List AV) true),(4,.box [.sl false (c.js.map jnA),.sl false (c.ags.map agA),iA c.per,iA c.cap,iA c.hold,iA c.lock]),(8,.box dskZ)]⟩) (by rw[w1,w2,w3,hr0];rfl) ?_
   (have zc1:=km;refine WW ?_;clear zc1)
   refine fin_ret [] rfl rfl ?_ rfl
   show AV.tup [dskA (dkM (zF 1).d now),.sl false [.sl false (List.take _ (List.drop 0 (r0.map msA))),.sl false (List.take _ (List.drop 0 ([]:List AV)))],.sl false (List.take _ (List.drop 0 ((zF 1).en.map enB))),.sl false (List.take _ (List.drop 0 ((zF 1).ks.map iA)))]=_
   simp only[List.drop_zero,List.take_length]
   unfold tkT
   rw[hR0,hz0]
   rfl
theorem tick_n2m2 {c:Cf} {d:Dsk} (hI:DskI c d) (ins:List In) (hil:ins.length≤1000) (hin:∀i∈ins,InB i) (now:Int) (n0:0≤now) (n1:now≤1073741824) (zF:Nat→SS) (hz0:zF 0=⟨dkU d ins,[],[],[]⟩) (hn:d.au.length=2) (hm:2≤ins.length)
  (hz:∀s,TI' c (dkU d ins) (zF s).d∧((zF s).R.length=s∧(zF s).en.length≤1000*s∧(zF s).ks.length≤1000*s∧∀x∈(zF s).ks,0≤x∧x<(c.js.length:Int))∧SeR c now ins s (zF s) (zF (s+1))):
  CallSim Tryz.prog 34 [cfA c,dskA d,slA inA ins,iA now] [] (tkT (dkM (zF 2).d now) (zF 2).R (zF 2).en (zF 2).ks) []:=by
 have kc:=cpDesk_o d hI.bd (by omega)
 have hal:(d.au.map bA).length=2:=by rw[List.length_map,hn]
 have hinl:=map_len inA ins
 have km:=mark_c (zF 2).d.rq now (hz 2).1.i.v
 have cfe:cfA c= .agg [.sl false (c.js.map jnA),.sl false (c.ags.map agA),iA c.per,iA c.cap,iA c.hold,iA c.lock]:=rfl
 rw[cfe]
 unfold dskO dskA dskX at kc
 have e0:=upL_zero (auG ins) d.au
 have hkM:(min ((ins.map inA).length:Int) ((d.au.map bA).length:Int)).toNat=2:=by omega
 have htl:((ins.take 2).map inA).length=2:=by rw[List.length_map,List.length_take];omega
 have hty:∀s,s<2→((ins.take 2).map inA)[s]? =some (inA (ins.getD s default)):=fun s hs=>by
  rw[List.getElem?_map,List.getElem?_take,if_pos hs,List.getD_eq_getElem?_getD,List.getElem?_eq_getElem (by omega)]
  rfl
 obtain⟨hT0,⟨ha0,hb0,hc0,_⟩,zf0,hf0,hs0,hl0,hx0⟩:=hz 0
 have hy0:=hty 0 (by omega)
 obtain⟨hT1,⟨ha1,hb1,hc1,_⟩,zf1,hf1,hs1,hl1,hx1⟩:=hz 1
 have hy1:=hty 1 (by omega)
 (refine eN Tryz.func34 Tryz.call34 fun F hF=>?_)
 (have zc1:=kc;refine WW ?_;clear zc1)
 rw[hkM,hal]
 (refine sim_cnt (2) [1004,4,5,8,28] [4,5,8,28] [2,3,4,5,8,12,13,14,39] [40,9,10,2,3,4,5,8,12,13,14,39] rfl (fun i T U=>⟨(40,iA i)::(9,.s (.slice none 0 0))::(10,.s (.slice none 0 0))::T,(1004,.arr 1 ((upL (auG ins) d.au i).map bA) false)::U⟩) ?_;(conv=>whnf);refine⟨by(rw[e0];rfl),?_,?_⟩)
 ·intro i hi
  have hya:((upL (auG ins) d.au i).map bA)[i]? =some (bA (d.au.getD i default)):=by rw[List.getElem?_map,upL_get,if_pos (by omega),if_neg (Nat.lt_irrefl i)];rfl
  have hxl:((upL (auG ins) d.au i).map bA).length=2:=by rw[List.length_map,upL_len,hn]
  rw[upL_mapset bA (auG ins) d.au i (by omega)]
  have hsame:=set_same hya
  clear kc km
  generalize (upL (auG ins) d.au i).map bA=xs at*
  generalize d.au.getD i default=b9 at*
  unfold auG
  by_cases h1:i<2
  ·have hy:=hty i h1
   have hlt:i<ins.length:=by omega
   generalize ins.getD i default=x at*
   obtain⟨op,its⟩:=x
   rw[show inA ⟨op,its⟩= .agg [bA op,slA itA its]from rfl]at hy
   cases op
   ·rw[if_neg (fun h=>by cases h.2)]
    (refine WW ?_)
    rfl
   ·rw[if_pos ⟨hlt,rfl⟩,hsame]
    (refine WW ?_)
    rfl
  ·rw[if_neg (fun h=>by omega)]
   (refine WW ?_)
   rfl
 ·(refine WW ?_)
  refine sim_restrC [4,5,8,28] [2,3,4,5,8,9,10,12,13,14,61,62] rfl ?_
  (conv=>whnf)
  rw[tk_upn (by omega:d.au.length=2),show upL (auG ins) d.au 2=auF ins d.au by unfold auF;rw[hn],htl]
  refine sim_virt 13 1002 3 rfl rfl rfl ?_
  refine sim_virt 14 1003 1 rfl rfl rfl ?_
  refine sim_virt 9 1006 4 rfl rfl rfl ?_
  refine sim_virt 10 1007 4 rfl rfl rfl ?_
  refine sim_nest 28 rfl ?_
  refine sim_recell 28 0 1006 rfl rfl rfl rfl rfl ?_
  refine sim_recell 28 1 1007 rfl rfl rfl rfl rfl ?_
  refine sim_rounds 3 [5,28,1002,1003,1006,1007,4,8] [13,14,62,2,3,4,5,8,12,61] rfl ?_
  refine rnd_next (st0:=⟨[(13,.ref 1002 0 ((zF 0).en.map enB).length),(14,.ref 1003 0 ((zF 0).ks.map iA).length),(62,iA 0),(2,.sl false ((ins.take 2).map inA)),(3,iA now),(4,.ptr 4 0 0),(5,.ptr 5 0 0),(8,.ptr 8 0 0),(12,.ref 28 0 2),(61,iA 2)],[(5,.box (dskL (zF 0).d)),(28,.arr 1 [.ref 1006 0 ([]:List AV).length,.ref 1007 0 ([]:List AV).length] ⟨false,true⟩),(1002,.arr 3 ((zF 0).en.map enB) true),(1003,.arr 1 ((zF 0).ks.map iA) true),(1006,.arr 4 ([]:List AV) true),(1007,.arr 4 ([]:List AV) true),(4,.box [.sl false (c.js.map jnA),.sl false (c.ags.map agA),iA c.per,iA c.cap,iA c.hold,iA c.lock]),(8,.box dskZ)]⟩) (by rw[hz0];rfl) ?_
  obtain⟨r0,hr0⟩:∃r,r=(zf0 (seI ins 0).length).rs:=⟨_,rfl⟩
  have hR0:(zF 1).R=(zF 0).R++[r0]:=by rw[hr0,hx0]
  have q0:(zF 1).d=(zf0 (seI ins 0).length).d∧(zF 1).en=(zf0 (seI ins 0).length).en∧(zF 1).ks=(zf0 (seI ins 0).length).ks:=by rw[hx0];exact⟨rfl,rfl,rfl⟩
  have ml1:=map_len enB (zF 0).en
  have ml2:=map_len iA (zF 0).ks
  by_cases ho:(ins.getD 0 default).opn=true
  case' pos=>
   have hse:seI ins 0=(ins.getD 0 default).its:=by unfold seI;rw[if_pos ⟨by omega,ho⟩]
   have hib:=(seI_b hin 0).1
   rw[hse]at hib q0 hs0 hr0
   clear hse
   generalize ins.getD 0 default=x at*
   obtain⟨op,its⟩:=x
   dsimp only at*
   subst ho
   rw[show inA ⟨true,its⟩= .agg [bA true,slA itA its]from rfl]at hy0
   have hil2:=map_len itA its
   (refine WW ?_)
   (refine sim_rng (its) [5,1002,1003,28,1006,4,8,1007] [4,8,1007] [2,3,4,5,8,12,16,61,62,75,76] [13,14,77,2,3,4,5,8,12,16,61,62,75,76] rfl (fun i pre T U=>⟨(13,.ref 1002 0 ((zf0 i).en.map enB).length)::(14,.ref 1003 0 ((zf0 i).ks.map iA).length)::(77,iA i)::T,(5,.box (dskL (zf0 i).d))::(1002,.arr 3 ((zf0 i).en.map enB) true)::(1003,.arr 1 ((zf0 i).ks.map iA) true)::(28,.arr 1 [.ref 1006 0 ((zf0 i).rs.map msA).length,.ref 1007 0 ([]:List AV).length] ⟨false,true⟩)::(1006,.arr 4 ((zf0 i).rs.map msA) true)::U⟩) ?_;(conv=>whnf);refine⟨by(rw[hf0];rfl),?_,?_⟩)
   ·intro k pre it post hx hk
    have hy3:=rng_at itA hx hk
    have hlt3:=rng_lt hx hk
    have hgt:its.getD k default=it:=by rw[hx,←hk];simp[List.getD]
    obtain⟨h,hB,hP,hnx⟩:=hs0 k hlt3
    rw[hgt]at hB
    obtain⟨hk1,hk2,hk3,hk4⟩:=hl0 k
    have hm1:=map_len enB (zf0 k).en
    have hm2:=map_len iA (zf0 k).ks
    have hm3:=map_len msA (zf0 k).rs
    have kh:=hB.1
    rw[hnx]
    dsimp only
    rw[show((zf0 k).rs++[h.p]).map msA=(zf0 k).rs.map msA++[msA h.p] by simp,show∀e:En,((zf0 k).en++[e]).map enB=(zf0 k).en.map enB++[enB e]from fun e=>by simp,hgt]
    rw[cfe]at kh
    unfold hdT dskA dskX itA at kh
    unfold itA at hy3
    have hen:(zF 0).en.length≤2000∧(zF 0).ks.length≤2000:=by omega
    clear hx hgt hnx hB hP hty kc km
    generalize (zf0 k).rs.map msA=rs9 at*
    generalize (zf0 k).en.map enB=en9 at*
    generalize h.p=p9 at*
    generalize h.e=e9 at*
    generalize h.d=d9 at*
    generalize hkk:h.k=k9 at*
    generalize (zf0 k).d=dk9 at*
    obtain⟨pk,pt,pa,pd⟩:=p9
    unfold msA enA at kh
    dsimp only at kh
    unfold dskL enB enA msA
    by_cases h0:0≤k9
    ·rw[if_pos h0,show((zf0 k).ks++[k9]).map iA=(zf0 k).ks.map iA++[iA k9] by simp]
     generalize (zf0 k).ks.map iA=ks9 at*
     (have zc1:=kh;refine WW ?_;clear zc1)
     rfl
    ·rw[if_neg h0]
     generalize (zf0 k).ks.map iA=ks9 at*
     (have zc1:=kh;refine WW ?_;clear zc1)
     rfl
   obtain⟨w1,w2,w3⟩:=q0
   (refine WW ?_)
  case' neg=>
   have hse:seI ins 0=[]:=by unfold seI;rw[if_neg (fun h=>ho h.2)]
   rw[hse,List.length_nil,hf0]at q0 hr0
   obtain⟨w1,w2,w3⟩:=q0
   have hop:(ins.getD 0 default).opn=false:=by simpa using ho
   clear hse ho
   generalize ins.getD 0 default=x at*
   obtain⟨op,its⟩:=x
   dsimp only at*
   subst hop
   rw[show inA ⟨false,its⟩= .agg [bA false,slA itA its]from rfl]at hy0
   (refine WW ?_)
  all_goals clear hy0 ml1 ml2
  all_goals
   refine rnd_next (st0:=⟨[(13,.ref 1002 0 ((zF 1).en.map enB).length),(14,.ref 1003 0 ((zF 1).ks.map iA).length),(62,iA 1),(2,.sl false ((ins.take 2).map inA)),(3,iA now),(4,.ptr 4 0 0),(5,.ptr 5 0 0),(8,.ptr 8 0 0),(12,.ref 28 0 2),(61,iA 2)],[(5,.box (dskL (zF 1).d)),(28,.arr 1 [.ref 1006 0 (r0.map msA).length,.ref 1007 0 ([]:List AV).length] ⟨false,true⟩),(1002,.arr 3 ((zF 1).en.map enB) true),(1003,.arr 1 ((zF 1).ks.map iA) true),(1006,.arr 4 (r0.map msA) true),(1007,.arr 4 ([]:List AV) true),(4,.box [.sl false (c.js.map jnA),.sl false (c.ags.map agA),iA c.per,iA c.cap,iA c.hold,iA c.lock]),(8,.box dskZ)]⟩) (by rw[w1,w2,w3,hr0];rfl) ?_
   obtain⟨r1,hr1⟩:∃r,r=(zf1 (seI ins 1).length).rs:=⟨_,rfl⟩
   have hR1:(zF 2).R=(zF 1).R++[r1]:=by rw[hr1,hx1]
   have q1:(zF 2).d=(zf1 (seI ins 1).length).d∧(zF 2).en=(zf1 (seI ins 1).length).en∧(zF 2).ks=(zf1 (seI ins 1).length).ks:=by rw[hx1];exact⟨rfl,rfl,rfl⟩
   have ml1:=map_len enB (zF 1).en
   have ml2:=map_len iA (zF 1).ks
   by_cases ho:(ins.getD 1 default).opn=true
   case' pos=>
    have hse:seI ins 1=(ins.getD 1 default).its:=by unfold seI;rw[if_pos ⟨by omega,ho⟩]
    have hib:=(seI_b hin 1).1
    rw[hse]at hib q1 hs1 hr1
    clear hse
    generalize ins.getD 1 default=x at*
    obtain⟨op,its⟩:=x
    dsimp only at*
    subst ho
    rw[show inA ⟨true,its⟩= .agg [bA true,slA itA its]from rfl]at hy1
    have hil2:=map_len itA its
    (refine WW ?_)
    (refine sim_rng (its) [5,1002,1003,28,1007,4,8,1006] [4,8,1006] [2,3,4,5,8,12,16,61,62,75,76] [13,14,77,2,3,4,5,8,12,16,61,62,75,76] rfl (fun i pre T U=>⟨(13,.ref 1002 0 ((zf1 i).en.map enB).length)::(14,.ref 1003 0 ((zf1 i).ks.map iA).length)::(77,iA i)::T,(5,.box (dskL (zf1 i).d))::(1002,.arr 3 ((zf1 i).en.map enB) true)::(1003,.arr 1 ((zf1 i).ks.map iA) true)::(28,.arr 1 [.ref 1006 0 (r0.map msA).length,.ref 1007 0 ((zf1 i).rs.map msA).length] ⟨false,true⟩)::(1007,.arr 4 ((zf1 i).rs.map msA) true)::U⟩) ?_;(conv=>whnf);refine⟨by(rw[hf1];rfl),?_,?_⟩)
    ·intro k pre it post hx hk
     have hy3:=rng_at itA hx hk
     have hlt3:=rng_lt hx hk
     have hgt:its.getD k default=it:=by rw[hx,←hk];simp[List.getD]
     obtain⟨h,hB,hP,hnx⟩:=hs1 k hlt3
     rw[hgt]at hB
     obtain⟨hk1,hk2,hk3,hk4⟩:=hl1 k
     have hm1:=map_len enB (zf1 k).en
     have hm2:=map_len iA (zf1 k).ks
     have hm3:=map_len msA (zf1 k).rs
     have kh:=hB.1
     rw[hnx]
     dsimp only
     rw[show((zf1 k).rs++[h.p]).map msA=(zf1 k).rs.map msA++[msA h.p] by simp,show∀e:En,((zf1 k).en++[e]).map enB=(zf1 k).en.map enB++[enB e]from fun e=>by simp,hgt]
     rw[cfe]at kh
     unfold hdT dskA dskX itA at kh
     unfold itA at hy3
     have hen:(zF 1).en.length≤2000∧(zF 1).ks.length≤2000:=by omega
     clear hx hgt hnx hB hP hty kc km
     generalize (zf1 k).rs.map msA=rs9 at*
     generalize (zf1 k).en.map enB=en9 at*
     generalize h.p=p9 at*
     generalize h.e=e9 at*
     generalize h.d=d9 at*
     generalize hkk:h.k=k9 at*
     generalize (zf1 k).d=dk9 at*
     obtain⟨pk,pt,pa,pd⟩:=p9
     unfold msA enA at kh
     dsimp only at kh
     unfold dskL enB enA msA
     by_cases h0:0≤k9
     ·rw[if_pos h0,show((zf1 k).ks++[k9]).map iA=(zf1 k).ks.map iA++[iA k9] by simp]
      generalize (zf1 k).ks.map iA=ks9 at*
      (have zc1:=kh;refine WW ?_;clear zc1)
      rfl
     ·rw[if_neg h0]
      generalize (zf1 k).ks.map iA=ks9 at*
      (have zc1:=kh;refine WW ?_;clear zc1)
      rfl
    obtain⟨w1,w2,w3⟩:=q1
    (refine WW ?_)
   case' neg=>
    have hse:seI ins 1=[]:=by unfold seI;rw[if_neg (fun h=>ho h.2)]
    rw[hse,List.length_nil,hf1]at q1 hr1
    obtain⟨w1,w2,w3⟩:=q1
    have hop:(ins.getD 1 default).opn=false:=by simpa using ho
    clear hse ho
    generalize ins.getD 1 default=x at*
    obtain⟨op,its⟩:=x
    dsimp only at*
    subst hop
    rw[show inA ⟨false,its⟩= .agg [bA false,slA itA its]from rfl]at hy1
    (refine WW ?_)
   all_goals clear hy1 ml1 ml2
   all_goals
    refine rnd_next (st0:=⟨[(13,.ref 1002 0 ((zF 2).en.map enB).length),(14,.ref 1003 0 ((zF 2).ks.map iA).length),(62,iA 2),(2,.sl false ((ins.take 2).map inA)),(3,iA now),(4,.ptr 4 0 0),(5,.ptr 5 0 0),(8,.ptr 8 0 0),(12,.ref 28 0 2),(61,iA 2)],[(5,.box (dskL (zF 2).d)),(28,.arr 1 [.ref 1006 0 (r0.map msA).length,.ref 1007 0 (r1.map msA).length] ⟨false,true⟩),(1002,.arr 3 ((zF 2).en.map enB) true),(1003,.arr 1 ((zF 2).ks.map iA) true),(1006,.arr 4 (r0.map msA) true),(1007,.arr 4 (r1.map msA) true),(4,.box [.sl false (c.js.map jnA),.sl false (c.ags.map agA),iA c.per,iA c.cap,iA c.hold,iA c.lock]),(8,.box dskZ)]⟩) (by rw[w1,w2,w3,hr1];rfl) ?_
    (have zc1:=km;refine WW ?_;clear zc1)
    refine fin_ret [] rfl rfl ?_ rfl
    show AV.tup [dskA (dkM (zF 2).d now),.sl false [.sl false (List.take _ (List.drop 0 (r0.map msA))),.sl false (List.take _ (List.drop 0 (r1.map msA)))],.sl false (List.take _ (List.drop 0 ((zF 2).en.map enB))),.sl false (List.take _ (List.drop 0 ((zF 2).ks.map iA)))]=_
    simp only[List.drop_zero,List.take_length]
    unfold tkT
    rw[hR1,hR0,hz0]
    rfl
theorem tick_c {c:Cf} {d:Dsk} (hI:DskI c d) (ins:List In) (hil:ins.length≤1000) (hin:∀i∈ins,InB i) (now:Int) (n0:0≤now) (n1:now≤1073741824) (zF:Nat→SS) (hz0:zF 0=⟨dkU d ins,[],[],[]⟩)
  (hz:∀s,TI' c (dkU d ins) (zF s).d∧((zF s).R.length=s∧(zF s).en.length≤1000*s∧(zF s).ks.length≤1000*s∧∀x∈(zF s).ks,0≤x∧x<(c.js.length:Int))∧SeR c now ins s (zF s) (zF (s+1))):
  CallSim Tryz.prog 34 [cfA c,dskA d,slA inA ins,iA now] [] (tkT (dkM (zF d.au.length).d now) (zF d.au.length).R (zF d.au.length).en (zF d.au.length).ks) []:=by
 have hau:d.au.length=1∨d.au.length=2:=by have:=hI.au;have:=hI.a.e;omega
 rcases hau with hn|hn
 ·rw[hn]
  by_cases h0:ins.length=0
  ·exact tick_n1m0 hI ins hil hin now n0 n1 zF hz0 hn h0 hz
  ·exact tick_n1m1 hI ins hil hin now n0 n1 zF hz0 hn (by omega) hz
 ·rw[hn]
  by_cases h0:ins.length=0
  ·exact tick_n2m0 hI ins hil hin now n0 n1 zF hz0 hn h0 hz
  ·by_cases h1:ins.length=1
   ·exact tick_n2m1 hI ins hil hin now n0 n1 zF hz0 hn h1 hz
   ·exact tick_n2m2 hI ins hil hin now n0 n1 zF hz0 hn (by omega) hz
end Av
end Go.Proofs.YtaikgchmpieooaaGreat
