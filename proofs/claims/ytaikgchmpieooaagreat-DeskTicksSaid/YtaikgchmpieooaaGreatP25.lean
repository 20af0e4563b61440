/- Part 25: contracts of the functions, and what they rest upon. -/
import Derived.Test.YtaikgchmpieooaaGreatP24
namespace Go.Proofs.YtaikgchmpieooaaGreat
namespace Av
set_option linter.unusedSimpArgs false
set_option linter.unusedVariables false
section
set_option maxRecDepth 4000
set_option maxHeartbeats 2000000
section
variable {P:Program} {K0:List Nat} {F:Fr K0} {m:Nat}
theorem x_drawL (n len:Nat) {Q:Exit→St→Prop} {id:Nat} {l:List Oper} {st:St} (hlen:Nat.beq l.length len=true) (hm:P.follows .mixedOrders=true)
 (hk:OpsX P F m l.toArray true (l.take n) st [] (fun fs s=>regOKC l n (clos l) fs.reverse=true∧OpsX P F m l.toArray false (l.drop n) s [] (fun _ s=>Q .normal s))):Sim P F m (.region id l.toArray true) st Q:=x_drawC n hm hk
end
def qpl (l:List Rq) (id:Int):Nat:=l.findIdx fun r=>!decide (r.id<id)
theorem qpl_le (l:List Rq) (id:Int):qpl l id≤l.length:=List.findIdx_le_length
theorem qpl_lt {l:List Rq} {id:Int} {i:Nat} (h:i<qpl l id):(l.getD i default).id<id:=by
 have h1:=qpl_le l id
 have:=List.not_of_lt_findIdx h
 simpa [List.getD,show i<l.length by omega]using this
theorem qpl_at {l:List Rq} {id:Int} (h:qpl l id<l.length):¬(l.getD (qpl l id) default).id<id:=by
 have:=List.findIdx_getElem (p:=fun r:Rq=>!decide (r.id<id)) (w:=h)
 have h2:qpl l id<l.length:=h
 simp only[Bool.not_eq_true',decide_eq_false_iff_not]at this
 intro h3
 refine this ?_
 rw[List.getD_eq_getElem?_getD,List.getElem?_eq_getElem h2]at h3
 exact h3
def newQ (id:Int) (v:Vh) (life:Int) (x:List Lg) (now:Int):Rq:=⟨id,v.id,v.cls,now+life,x⟩
def insQ (l:List Rq) (r:Rq):List Rq:=l.take (qpl l r.id)++r::l.drop (qpl l r.id)
def suE (l:List Rq) (q id life:Int) (x:List Lg):Int:=
 if¬(0≤id∧id≤4294967295∧1≤life∧life≤600∧vgF x=true)then 8 else if hasQ l id=true then 11 else if q≤l.length∨4≤(l.length:Int)then 14 else 0
theorem submit_q (l:List Rq) (q id:Int) (v:Vh) (life:Int) (x:List Lg) (now:Int) (hv:RqV l) (hq:(l.length:Int)≤q) (v0:0≤v.id) (v1:v.id≤4294967295) (w0:0≤v.cls) (w1:v.cls≤3) (n0:0≤now) (n1:now≤1073741824):
  CallSim Tryz.prog 162 [slA rqA l,iA q,iA id,vhA v,iA life,slA lgA x,iA now] [] (.tup [slA rqA (if suE l q id life x=0 then insQ l (newQ id v life x now)else []),iA (suE l q id life x)]) []:=by
 have h4:=hv.n4
 have hl:=map_len rqA l
 have c1:=qvalid_c l q hv hq
 have c2:=rnum_c v.id
 have c3:=rcls_c v.cls
 have c4:=rtick_c now
 have c5:=rnum_c id
 have c6:=vlegs_c x
 have c7:=qindex_c l id (by omega)
 rw[decide_eq_true ⟨v0,v1⟩]at c2
 rw[decide_eq_true ⟨w0,w1⟩]at c3
 rw[decide_eq_true ⟨n0,n1⟩]at c4
 by_cases g1:0≤id∧id≤4294967295
 case neg=>
  rw[decide_eq_false g1]at c5
  have e:suE l q id life x=8:=if_pos fun h=>g1 ⟨h.1,h.2.1⟩
  rw[e,if_neg (by decide)]
  (refine eN Tryz.func162 Tryz.call162 fun F hF=>?_)
  (have zc1:=c1;have zc2:=c2;have zc3:=c3;have zc4:=c4;have zc5:=c5;refine WW ?_;clear zc1 zc2 zc3 zc4 zc5)
  exact fr0
 rw[decide_eq_true g1]at c5
 by_cases g2:1≤life∧life≤600
 case neg=>
  have e:suE l q id life x=8:=if_pos fun h=>g2 ⟨h.2.2.1,h.2.2.2.1⟩
  rw[e,if_neg (by decide)]
  by_cases g3:1≤life
  ·(refine eN Tryz.func162 Tryz.call162 fun F hF=>?_)
   (have zc1:=c1;have zc2:=c2;have zc3:=c3;have zc4:=c4;have zc5:=c5;refine WW ?_;clear zc1 zc2 zc3 zc4 zc5)
   exact fr0
  ·(refine eN Tryz.func162 Tryz.call162 fun F hF=>?_)
   (have zc1:=c1;have zc2:=c2;have zc3:=c3;have zc4:=c4;have zc5:=c5;refine WW ?_;clear zc1 zc2 zc3 zc4 zc5)
   exact fr0
 obtain⟨g2,g3⟩:=g2
 cases hg:vgF x with
 |false=>
  rw[hg]at c6
  have e:suE l q id life x=8:=if_pos fun h=>Bool.false_ne_true (hg.symm.trans h.2.2.2.2)
  rw[e,if_neg (by decide)]
  (refine eN Tryz.func162 Tryz.call162 fun F hF=>?_)
  (have zc1:=c1;have zc2:=c2;have zc3:=c3;have zc4:=c4;have zc5:=c5;have zc6:=c6;refine WW ?_;clear zc1 zc2 zc3 zc4 zc5 zc6)
  exact fr0
 |true=>
 rw[hg]at c6
 have e0:suE l q id life x=if hasQ l id=true then 11 else if q≤l.length∨4≤(l.length:Int)then 14 else 0:=if_neg fun h=>h ⟨g1.1,g1.2,g2,g3,hg⟩
 cases hh:hasQ l id with
 |true=>
  have hx:=ixF_lt (p:=fun x:Rq=>x.id==id) (l:=l) hh
  generalize ixF (fun x:Rq=>x.id==id) l=n at*
  have e:suE l q id life x=11:=by rw[e0,if_pos hh]
  rw[e,if_neg (by decide)]
  (refine eN Tryz.func162 Tryz.call162 fun F hF=>?_)
  (have zc1:=c1;have zc2:=c2;have zc3:=c3;have zc4:=c4;have zc5:=c5;have zc6:=c6;have zc7:=c7;refine WW ?_;clear zc1 zc2 zc3 zc4 zc5 zc6 zc7)
  exact fr0
 |false=>
 have hx:=ixF_none (p:=fun x:Rq=>x.id==id) (l:=l) (by simpa [hasQ]using hh)
 rw[hx]at c7
 rw[if_neg (by rw[hh];decide)]at e0
 by_cases g4:q≤l.length∨4≤(l.length:Int)
 case pos=>
  rw[if_pos g4]at e0
  rw[e0,if_neg (by decide)]
  by_cases g5:q≤l.length
  ·(refine eN Tryz.func162 Tryz.call162 fun F hF=>?_)
   (have zc1:=c1;have zc2:=c2;have zc3:=c3;have zc4:=c4;have zc5:=c5;have zc6:=c6;have zc7:=c7;refine WW ?_;clear zc1 zc2 zc3 zc4 zc5 zc6 zc7)
   exact fr0
  ·have g6:4≤(l.length:Int):=g4.resolve_left g5
   (refine eN Tryz.func162 Tryz.call162 fun F hF=>?_)
   (have zc1:=c1;have zc2:=c2;have zc3:=c3;have zc4:=c4;have zc5:=c5;have zc6:=c6;have zc7:=c7;refine WW ?_;clear zc1 zc2 zc3 zc4 zc5 zc6 zc7)
   exact fr0
 rw[if_neg g4]at e0
 rw[e0,if_pos rfl]
 have hxl:=vgF_len hg
 have c8:=cloneLg_c x (by omega)
 have hk:=qpl_le l id
 have hk1:=fun i h=>qpl_lt (l:=l) (id:=id) (i:=i) h
 have hk2:=qpl_at (l:=l) (id:=id)
 have hiQ:(l.map rqA).take (qpl l id)++rqA (newQ id v life x now)::(l.map rqA).drop (qpl l id)=(insQ l (newQ id v life x now)).map rqA:=by
  unfold insQ newQ
  rw[List.map_append,List.map_cons,List.map_take,List.map_drop]
 have hiL:((insQ l (newQ id v life x now)).map rqA).length=(l.map rqA).length+1:=by
  rw[←hiQ,List.length_append,List.length_cons,List.length_take,List.length_drop]
  omega
 have h5:∀y∈l.map rqA,y.cells.length=5:=fun y hy=>by
  obtain⟨r,_,rfl⟩:=List.mem_map.1 hy
  rfl
 have r1:=fun h=>ins_room (l.map rqA) (rqA (newQ id v life x now)) (qpl l id) rfl h5 h (by omega) (by omega)
 have r2:=fun h c hc=>ins_full (l.map rqA) (rqA (newQ id v life x now)) (qpl l id) c rfl h5 h (by omega) (by omega) hc
 have r3:=ins_nil (rqA (newQ id v life x now)) rfl
 rw[hiQ]at r1 r2
 have d1:=cloneAll_own l (by omega) (fun r hr=>by have:=hv.lg3 hr;omega)
 clear hv hg
 have hR:slA rqA (insQ l (newQ id v life x now))=AV.sl false ((insQ l (newQ id v life x now)).map rqA):=rfl
 rw[hR]
 by_cases hn0:l=[]
 ·subst hn0
  have d0:=cloneAll_nil
  have hY:(insQ [] (newQ id v life x now)).map rqA=[rqA (newQ id v life x now)]:=rfl
  rw[hY]
  clear r1 r2 hY hR hiQ hiL
  (refine eN Tryz.func162 Tryz.call162 fun F hF=>?_)
  (have zc1:=c1;have zc2:=c2;have zc3:=c3;have zc4:=c4;have zc5:=c5;have zc6:=c6;have zc7:=c7;refine WW ?_;clear zc1 zc2 zc3 zc4 zc5 zc6 zc7)
  (refine sim_cnt (0) [10] [10] [0,2,4,5,6,10] [16,0,2,4,5,6,10] rfl (fun i T U=>⟨(16,iA i)::T,U⟩) ?_;(conv=>whnf);refine⟨by rfl,?_,?_⟩)
  ·intro i hi;omega
  ·(have zc1:=c8;have zc2:=d0;have zc3:=r3;refine WW ?_;clear zc1 zc2 zc3)
   exact fr0
 have hl1:1≤l.length:=by
  cases l with
  |nil=>exact absurd rfl hn0
  |cons a b=>simp
 have r1:=r1 (by omega)
 have r2:=r2 (by omega)
 clear r3 hR hiQ
 generalize (insQ l (newQ id v life x now)).map rqA=Y at*
 (refine eN Tryz.func162 Tryz.call162 fun F hF=>?_)
 (have zc1:=c1;have zc2:=c2;have zc3:=c3;have zc4:=c4;have zc5:=c5;have zc6:=c6;have zc7:=c7;refine WW ?_;clear zc1 zc2 zc3 zc4 zc5 zc6 zc7)
 (refine sim_cnt (qpl l id) [10] [10] [0,2,4,5,6,10] [16,0,2,4,5,6,10] rfl (fun i T U=>⟨(16,iA i)::T,U⟩) ?_;(conv=>whnf);refine⟨by rfl,?_,?_⟩)
 ·intro i hi
  have hy:=map_at rqA l i (by omega)
  have hlt:=hk1 i hi
  generalize l.getD i default=r at*
  (refine WW ?_)
  rfl
 ·clear hk1
  by_cases hkl:qpl l id<l.length
  case' pos=>
   have hy:=map_at rqA l (qpl l id) hkl
   have hge:=hk2 hkl
   generalize l.getD (qpl l id) default=r at*
  all_goals clear hk2
  all_goals generalize qpl l id=k at*
  all_goals (have zc1:=c8;have zc2:=d1;(repeat' (first|refine WS ?_|refine SG (I2 (fun hc=>?_) (fun hc=>?_))|refine SG (fun hc=>?_)|(refine is_ops ?_;refine is_call ?_;refine SC ?_)|(refine is_ops ?_;first|refine SM ?_)|(first|refine x_drawL 5 8 rfl rfl ?_|first|refine SR ?_|refine SK (I2 (fun hc=>?_) (fun hc=>?_))|refine SK (fun hc=>?_))|fail))<;>clear zc1 zc2)
  all_goals refine x_cutC (by kernel_rfl) ?_
  all_goals refine x_fork 95 1001 ((l.map rqA).length+1) [98] [96,98] (st':=⟨[(96,iA k),(98,.ref 98 0 1)],[(98,.arr 5 [rqA (newQ id v life x now)] false)]⟩) rfl rfl (by omega) (by omega) (by omega) rfl rfl rfl (fun c hc=>?_) ?_
  case' pos.refine_1|neg.refine_1=>
   have r2:=r2 c hc
   (have zc1:=r2;refine WW ?_;clear zc1)
   exact fr0
  all_goals rw[show(l.map rqA).length+1-(l.map rqA).length=1 by omega]
  all_goals (have zc1:=r1;refine WW ?_;clear zc1)
  all_goals (refine fin_ret [] rfl rfl ?_ rfl;show AV.tup [AV.sl false (Y.take ((l.map rqA).length+1)),iA 0]=_;rw[List.take_of_length_le (by omega)])
end
section
set_option maxRecDepth 4000
set_option maxHeartbeats 2000000
def fdQ (l:List Rq) (id:Int):Rq:=(l.find? fun x=>x.id==id).getD ⟨0,0,0,0,[]⟩
theorem fdQ_hit {l pre post:List Rq} {x:Rq} {id:Int} (h:l=pre++x::post) (hn:∀y∈pre,y.id≠id) (hx:x.id=id):fdQ l id=x∧hasQ l id=true:=by
 subst h
 have h1:pre.find? (fun v=>v.id==id)=none:=List.find?_eq_none.2 fun y hy=>by simpa using hn y hy
 refine⟨?_,by simp[hasQ,hx]⟩
 unfold fdQ
 rw[List.find?_append,h1]
 simp[hx]
theorem fdQ_none {l:List Rq} {id:Int} (hn:∀y∈l,y.id≠id):fdQ l id=⟨0,0,0,0,[]⟩∧hasQ l id=false:=by
 have h1:l.find? (fun v=>v.id==id)=none:=List.find?_eq_none.2 fun y hy=>by simpa using hn y hy
 exact⟨by unfold fdQ;rw[h1];rfl,by simpa [hasQ]using hn⟩
theorem find2_q (l:List Rq) (id:Int) (hn:l.length≤1000) (hb:∀r∈l,r.legs.length≤1000):CallSim Tryz.prog 178 [slA rqA l,iA id] [] (.tup [rqA (fdQ l id),bA (hasQ l id)]) []:=by
 have hl:=map_len rqA l
 (refine eN Tryz.func178 Tryz.call178 fun F hF=>?_)
 (refine WW ?_)
 (refine sim_rngP (l) [4] [] [1,4,8,9] [10,1,4,8,9] rfl (fun i pre T U zs=>(∀y∈pre,y.id≠id)∧zs=⟨(10,iA i)::T,(4,.box [.s (.int .i64 0),.s (.int .i64 0),.s (.int .i64 0),.s (.int .i64 0),.s (.slice none 0 0)])::U⟩) ?_;(conv=>whnf);refine⟨?_,?_,?_⟩)
 ·exact⟨by simp,rfl⟩
 ·rintro i pre x post st hx hi ⟨hp,rfl⟩
  have hy:=rng_at rqA hx hi
  have hlt:=rng_lt hx hi
  by_cases he:x.id=id
  ·obtain⟨e1,e2⟩:=fdQ_hit hx hp he
   have c:CallSim Tryz.prog 52 [.sl false [.agg [iA x.id,iA x.vh,iA x.cls,iA x.til,slA lgA x.legs]]] [] (.sl false [.agg [iA x.id,iA x.vh,iA x.cls,iA x.til,slA lgA x.legs]]) []:=copy2_q [x] (by simp) (fun r hr=>by rw[List.mem_singleton]at hr;subst hr;exact hb _ (rng_mem hx))
   rw[e1,e2]
   clear hx e1
   (have zc1:=c;refine WL ?_;clear zc1)
   exact fr0
  ·clear hx
   (refine WW ?_)
   exact⟨fun y hy=>by simp only[List.mem_append,List.mem_singleton]at hy;rcases hy with hy|rfl;exact hp y hy;exact he,rfl⟩
 ·rintro st ⟨hp,rfl⟩
  obtain⟨e1,e2⟩:=fdQ_none hp
  rw[e1,e2]
  (refine WW ?_)
  exact fr0
theorem submit2_q (l:List Rq) (q id:Int) (v:Vh) (life:Int) (x:List Lg) (now:Int) (hv:RqV l) (hq:(l.length:Int)≤q) (v0:0≤v.id) (v1:v.id≤4294967295) (w0:0≤v.cls) (w1:v.cls≤3) (n0:0≤now) (n1:now≤1073741824) (hxn:x.length≤1000):
  CallSim Tryz.prog 133 [slA rqA l,iA q,iA id,vhA v,iA life,slA lgA x,iA now] [] (.tup [slA rqA (if suE l q id life x=0 then insQ l (newQ id v life x now)else []),iA (suE l q id life x)]) []:=by
 have h4:=hv.n4
 have hl:=map_len rqA l
 have c1:=qvalid2_c l q hv hq
 have c2:=within19_c v.id 0 4294967295
 have c3:=within19_c v.cls 0 3
 have c4:=within19_c now 0 1073741824
 have c5:=within19_c id 0 4294967295
 have c6:=within19_c life 1 600
 have c7:=legs2_c x (by omega)
 have c8:=find2_q l id (by omega) (fun r hr=>by have:=hv.lg3 hr;omega)
 rw[decide_eq_true ⟨v0,v1⟩]at c2
 rw[decide_eq_true ⟨w0,w1⟩]at c3
 rw[decide_eq_true ⟨n0,n1⟩]at c4
 by_cases g1:0≤id∧id≤4294967295
 case neg=>
  rw[decide_eq_false g1]at c5
  have e:suE l q id life x=8:=if_pos fun h=>g1 ⟨h.1,h.2.1⟩
  rw[e,if_neg (by decide)]
  (refine eN Tryz.func133 Tryz.call133 fun F hF=>?_)
  (have zc1:=c1;have zc2:=c2;have zc3:=c3;have zc4:=c4;have zc5:=c5;refine WW ?_;clear zc1 zc2 zc3 zc4 zc5)
  exact fr0
 rw[decide_eq_true g1]at c5
 by_cases g2:1≤life∧life≤600
 case neg=>
  rw[decide_eq_false g2]at c6
  have e:suE l q id life x=8:=if_pos fun h=>g2 ⟨h.2.2.1,h.2.2.2.1⟩
  rw[e,if_neg (by decide)]
  (refine eN Tryz.func133 Tryz.call133 fun F hF=>?_)
  (have zc1:=c1;have zc2:=c2;have zc3:=c3;have zc4:=c4;have zc5:=c5;have zc6:=c6;refine WW ?_;clear zc1 zc2 zc3 zc4 zc5 zc6)
  exact fr0
 rw[decide_eq_true g2]at c6
 cases hg:vgF x with
 |false=>
  rw[hg]at c7
  have e:suE l q id life x=8:=if_pos fun h=>Bool.false_ne_true (hg.symm.trans h.2.2.2.2)
  rw[e,if_neg (by decide)]
  (refine eN Tryz.func133 Tryz.call133 fun F hF=>?_)
  (have zc1:=c1;have zc2:=c2;have zc3:=c3;have zc4:=c4;have zc5:=c5;have zc6:=c6;have zc7:=c7;refine WW ?_;clear zc1 zc2 zc3 zc4 zc5 zc6 zc7)
  exact fr0
 |true=>
 rw[hg]at c7
 have e0:suE l q id life x=if hasQ l id=true then 11 else if q≤l.length∨4≤(l.length:Int)then 14 else 0:=if_neg fun h=>h ⟨g1.1,g1.2,g2.1,g2.2,hg⟩
 have hxl:=vgF_len hg
 clear hg
 generalize fdQ l id=fq at*
 cases hh:hasQ l id with
 |true=>
  rw[hh]at c8
  have e:suE l q id life x=11:=by rw[e0,if_pos hh]
  rw[e,if_neg (by decide)]
  (refine eN Tryz.func133 Tryz.call133 fun F hF=>?_)
  (have zc1:=c1;have zc2:=c2;have zc3:=c3;have zc4:=c4;have zc5:=c5;have zc6:=c6;have zc7:=c7;have zc8:=c8;refine WW ?_;clear zc1 zc2 zc3 zc4 zc5 zc6 zc7 zc8)
  exact fr0
 |false=>
 rw[hh]at c8
 rw[if_neg (by rw[hh];decide)]at e0
 by_cases g4:q≤l.length∨4≤(l.length:Int)
 case pos=>
  rw[if_pos g4]at e0
  rw[e0,if_neg (by decide)]
  by_cases g5:q≤l.length
  ·(refine eN Tryz.func133 Tryz.call133 fun F hF=>?_)
   (have zc1:=c1;have zc2:=c2;have zc3:=c3;have zc4:=c4;have zc5:=c5;have zc6:=c6;have zc7:=c7;have zc8:=c8;refine WW ?_;clear zc1 zc2 zc3 zc4 zc5 zc6 zc7 zc8)
   exact fr0
  ·have g6:4≤(l.length:Int):=g4.resolve_left g5
   (refine eN Tryz.func133 Tryz.call133 fun F hF=>?_)
   (have zc1:=c1;have zc2:=c2;have zc3:=c3;have zc4:=c4;have zc5:=c5;have zc6:=c6;have zc7:=c7;have zc8:=c8;refine WW ?_;clear zc1 zc2 zc3 zc4 zc5 zc6 zc7 zc8)
   exact fr0
 rw[if_neg g4]at e0
 rw[e0,if_pos rfl]
 have hk:=qpl_le l id
 have hk1:=fun i h=>qpl_lt (l:=l) (id:=id) (i:=i) h
 have hk2:=qpl_at (l:=l) (id:=id)
 have hiQ:((l.take (qpl l id:Int).toNat).map rqA++[rqA (newQ id v life x now)])++(l.drop (qpl l id:Int).toNat).map rqA=(insQ l (newQ id v life x now)).map rqA:=by
  rw[Int.toNat_natCast]
  unfold insQ newQ
  rw[List.map_append,List.map_cons,List.append_assoc]
  rfl
 have d1:=copy2_q (insQ l (newQ id v life x now)) (by unfold insQ;rw[List.length_append,List.length_cons,List.length_take,List.length_drop];omega) (fun r hr=>by
  unfold insQ at hr
  rw[List.mem_append,List.mem_cons]at hr
  rcases hr with hr|rfl|hr
  ·have:=hv.lg3 (List.mem_of_mem_take hr);omega
  ·show x.length≤1000;omega
  ·have:=hv.lg3 (List.mem_of_mem_drop hr);omega)
 have hxt:∀y,((l.take (qpl l id:Int).toNat).map rqA)[0]? =some y→y.cells.length=5:=map_hd _ _ (fun _=>rfl)
 have hxd:∀y,((l.drop (qpl l id:Int).toNat).map rqA)[0]? =some y→y.cells.length=5:=map_hd _ _ (fun _=>rfl)
 have htl:((l.take (qpl l id:Int).toNat).map rqA).length=qpl l id:=by rw[List.length_map,List.length_take];omega
 have hdl:((l.drop (qpl l id:Int).toNat).map rqA).length=l.length-qpl l id:=by rw[List.length_map,List.length_drop];omega
 clear hv
 have hR:slA rqA (insQ l (newQ id v life x now))=AV.sl false ((insQ l (newQ id v life x now)).map rqA):=rfl
 rw[hR]at d1⊢
 rw[←hiQ]at d1⊢
 clear hR hiQ
 (refine eN Tryz.func133 Tryz.call133 fun F hF=>?_)
 (have zc1:=c1;have zc2:=c2;have zc3:=c3;have zc4:=c4;have zc5:=c5;have zc6:=c6;have zc7:=c7;have zc8:=c8;refine WW ?_;clear zc1 zc2 zc3 zc4 zc5 zc6 zc7 zc8)
 (refine sim_cnt (qpl l id) [10] [10] [0,2,4,5,6,10] [18,0,2,4,5,6,10] rfl (fun i T U=>⟨(18,iA i)::T,U⟩) ?_;(conv=>whnf);refine⟨by rfl,?_,?_⟩)
 ·intro i hi
  have hy:=map_at rqA l i (by omega)
  have hlt:=hk1 i hi
  generalize l.getD i default=r at*
  (refine WW ?_)
  rfl
 ·clear hk1
  by_cases hkl:qpl l id<l.length
  case' pos=>
   have hy:=map_at rqA l (qpl l id) hkl
   have hge:=hk2 hkl
   generalize l.getD (qpl l id) default=r at*
  all_goals clear hk2
  all_goals generalize qpl l id=k at*
  all_goals (repeat' (first|refine WS ?_|refine SG (I2 (fun hc=>?_) (fun hc=>?_))|refine SG (fun hc=>?_)|(refine is_ops ?_;refine is_call ?_;fail)|(refine is_ops ?_;first|(refine is_app ?_;refine x_appnil tok rfl rfl rfl rfl rfl rfl hxt rfl rfl rfl (by omega) rfl rfl rfl ?_)|refine SM ?_)|(first|refine x_drawL 11 14 rfl rfl ?_|first|refine SR ?_|refine SK (I2 (fun hc=>?_) (fun hc=>?_))|refine SK (fun hc=>?_))|fail))
  all_goals refine x_cutC (by kernel_rfl) ?_
  all_goals (have zc1:=d1;have zf1:=(⟨⟩:FzD 52 [] [105]);refine WW ?_;clear zc1 zf1)
  all_goals exact fr0
end
section
set_option maxRecDepth 4000
set_option maxHeartbeats 2000000
def rqO (r:Rq) (k:Nat):AV:= .agg [iA r.id,iA r.vh,iA r.cls,iA r.til,.ref k 0 (r.legs.map lgA).length]
def lgE (r:Rq):Ent:= .arr 5 (r.legs.map lgA) false
theorem cloneLg_o1101 (l:List Lg) (h1:1≤l.length) (hl:l.length≤1000):CallSim Tryz.prog 82 [slA lgA l] [] (.ref 1101 0 (l.map lgA).length) [(1101,.arr 5 (l.map lgA) false)]:=by
 have hll:=map_len lgA l
 (refine eN Tryz.func82 Tryz.call82 fun F hF=>?_)
 refine sim_nsplit 0 rfl (fun cap hx=>?_) ?_
 ·have:l=[]:=by simpa using hx
  subst this
  simp at h1
 ·(repeat' (first|refine WV ?_|refine SG (I2 (fun hc=>?_) (fun hc=>?_))|refine SG (fun hc=>?_)|(refine is_ops ?_;refine is_call ?_;fail)|(refine is_ops ?_;first|(refine is_bsl ?_;refine x_w (nw:=[1101]) (stp_buildSlice tok 1101 (xs:=[]) rfl rfl rfl rfl rfl rfl rfl rfl rfl) rfl rfl rfl ?_))|refine SB ?_|(first|refine sim_seq ?_|refine x_region ?_|refine x_draw rfl ?_|refine sim_cond_true rfl ?_|refine sim_cond_false rfl ?_|refine sim_cond rfl (fun hc=>?_) (fun hc=>?_)|refine sim_skip ?_|refine sim_ret ?_|refine sim_exit ?_|refine sim_block ?_)|fail))
  exact fin_own [1101] rfl rfl rfl rfl
theorem qclone_o1101 (r:Rq) (h1:1≤r.legs.length) (hl:r.legs.length≤1000):CallSim Tryz.prog 141 [rqA r] [] (rqO r 1101) [(1101,lgE r)]:=by
 have c:=cloneLg_o1101 r.legs h1 hl
 have hll:=map_len lgA r.legs
 (refine eN Tryz.func141 Tryz.call141 fun F hF=>?_)
 (have zc1:=c;refine WW ?_;clear zc1)
 exact fin_own [1101] rfl rfl rfl rfl
theorem cloneLg_o1102 (l:List Lg) (h1:1≤l.length) (hl:l.length≤1000):CallSim Tryz.prog 82 [slA lgA l] [] (.ref 1102 0 (l.map lgA).length) [(1102,.arr 5 (l.map lgA) false)]:=by
 have hll:=map_len lgA l
 (refine eN Tryz.func82 Tryz.call82 fun F hF=>?_)
 refine sim_nsplit 0 rfl (fun cap hx=>?_) ?_
 ·have:l=[]:=by simpa using hx
  subst this
  simp at h1
 ·(repeat' (first|refine WV ?_|refine SG (I2 (fun hc=>?_) (fun hc=>?_))|refine SG (fun hc=>?_)|(refine is_ops ?_;refine is_call ?_;fail)|(refine is_ops ?_;first|(refine is_bsl ?_;refine x_w (nw:=[1102]) (stp_buildSlice tok 1102 (xs:=[]) rfl rfl rfl rfl rfl rfl rfl rfl rfl) rfl rfl rfl ?_))|refine SB ?_|(first|refine sim_seq ?_|refine x_region ?_|refine x_draw rfl ?_|refine sim_cond_true rfl ?_|refine sim_cond_false rfl ?_|refine sim_cond rfl (fun hc=>?_) (fun hc=>?_)|refine sim_skip ?_|refine sim_ret ?_|refine sim_exit ?_|refine sim_block ?_)|fail))
  exact fin_own [1102] rfl rfl rfl rfl
theorem qclone_o1102 (r:Rq) (h1:1≤r.legs.length) (hl:r.legs.length≤1000):CallSim Tryz.prog 141 [rqA r] [] (rqO r 1102) [(1102,lgE r)]:=by
 have c:=cloneLg_o1102 r.legs h1 hl
 have hll:=map_len lgA r.legs
 (refine eN Tryz.func141 Tryz.call141 fun F hF=>?_)
 (have zc1:=c;refine WW ?_;clear zc1)
 exact fin_own [1102] rfl rfl rfl rfl
theorem cloneLg_o1103 (l:List Lg) (h1:1≤l.length) (hl:l.length≤1000):CallSim Tryz.prog 82 [slA lgA l] [] (.ref 1103 0 (l.map lgA).length) [(1103,.arr 5 (l.map lgA) false)]:=by
 have hll:=map_len lgA l
 (refine eN Tryz.func82 Tryz.call82 fun F hF=>?_)
 refine sim_nsplit 0 rfl (fun cap hx=>?_) ?_
 ·have:l=[]:=by simpa using hx
  subst this
  simp at h1
 ·(repeat' (first|refine WV ?_|refine SG (I2 (fun hc=>?_) (fun hc=>?_))|refine SG (fun hc=>?_)|(refine is_ops ?_;refine is_call ?_;fail)|(refine is_ops ?_;first|(refine is_bsl ?_;refine x_w (nw:=[1103]) (stp_buildSlice tok 1103 (xs:=[]) rfl rfl rfl rfl rfl rfl rfl rfl rfl) rfl rfl rfl ?_))|refine SB ?_|(first|refine sim_seq ?_|refine x_region ?_|refine x_draw rfl ?_|refine sim_cond_true rfl ?_|refine sim_cond_false rfl ?_|refine sim_cond rfl (fun hc=>?_) (fun hc=>?_)|refine sim_skip ?_|refine sim_ret ?_|refine sim_exit ?_|refine sim_block ?_)|fail))
  exact fin_own [1103] rfl rfl rfl rfl
theorem qclone_o1103 (r:Rq) (h1:1≤r.legs.length) (hl:r.legs.length≤1000):CallSim Tryz.prog 141 [rqA r] [] (rqO r 1103) [(1103,lgE r)]:=by
 have c:=cloneLg_o1103 r.legs h1 hl
 have hll:=map_len lgA r.legs
 (refine eN Tryz.func141 Tryz.call141 fun F hF=>?_)
 (have zc1:=c;refine WW ?_;clear zc1)
 exact fin_own [1103] rfl rfl rfl rfl
theorem cloneLg_o1104 (l:List Lg) (h1:1≤l.length) (hl:l.length≤1000):CallSim Tryz.prog 82 [slA lgA l] [] (.ref 1104 0 (l.map lgA).length) [(1104,.arr 5 (l.map lgA) false)]:=by
 have hll:=map_len lgA l
 (refine eN Tryz.func82 Tryz.call82 fun F hF=>?_)
 refine sim_nsplit 0 rfl (fun cap hx=>?_) ?_
 ·have:l=[]:=by simpa using hx
  subst this
  simp at h1
 ·(repeat' (first|refine WV ?_|refine SG (I2 (fun hc=>?_) (fun hc=>?_))|refine SG (fun hc=>?_)|(refine is_ops ?_;refine is_call ?_;fail)|(refine is_ops ?_;first|(refine is_bsl ?_;refine x_w (nw:=[1104]) (stp_buildSlice tok 1104 (xs:=[]) rfl rfl rfl rfl rfl rfl rfl rfl rfl) rfl rfl rfl ?_))|refine SB ?_|(first|refine sim_seq ?_|refine x_region ?_|refine x_draw rfl ?_|refine sim_cond_true rfl ?_|refine sim_cond_false rfl ?_|refine sim_cond rfl (fun hc=>?_) (fun hc=>?_)|refine sim_skip ?_|refine sim_ret ?_|refine sim_exit ?_|refine sim_block ?_)|fail))
  exact fin_own [1104] rfl rfl rfl rfl
theorem qclone_o1104 (r:Rq) (h1:1≤r.legs.length) (hl:r.legs.length≤1000):CallSim Tryz.prog 141 [rqA r] [] (rqO r 1104) [(1104,lgE r)]:=by
 have c:=cloneLg_o1104 r.legs h1 hl
 have hll:=map_len lgA r.legs
 (refine eN Tryz.func141 Tryz.call141 fun F hF=>?_)
 (have zc1:=c;refine WW ?_;clear zc1)
 exact fin_own [1104] rfl rfl rfl rfl
theorem kept_n1 (a:Rq) (ha:1≤a.legs.length) (ga:a.legs.length≤1000):CallSim Tryz.prog 105 [slA rqA [a],.fn 144 []] [] (.ref 1001 0 1) [(1001,.arr 5 [rqO a 1101] ⟨false,true⟩),(1101,lgE a)]:=by
 have ca:=calltrue_c a
 have da:=qclone_o1101 a ha ga
 (refine eN Tryz.func105 Tryz.call105 fun F hF=>?_)
 (refine WW ?_)
 refine sim_virt 5 1001 5 rfl rfl rfl ?_
 refine sim_rounds 2 [1001,1101] [5,10,1,8,9] rfl ?_
 refine rnd_next (st0:=⟨[(5,.ref 1001 0 0),(10,iA 0),(1,.fn 144 []),(8,.sl false [rqA a]),(9,iA 1)],[(1001,.arr 5 [] ⟨true,false⟩)]⟩) rfl ?_
 (have zc1:=ca;have zc2:=da;(repeat' (first|refine WY ?_|refine SG (I2 (fun hc=>?_) (fun hc=>?_))|refine SG (fun hc=>?_)|(refine is_ops ?_;refine is_call ?_;refine SC ?_)|(refine is_ops ?_;first|(refine is_bsl ?_;refine x_bslN (xs:=[_]) 1002 tok rfl rfl rfl rfl rfl rfl rfl rfl rfl rfl rfl rfl ?_)|(refine is_app ?_;first|refine x_appref0N tok rfl rfl rfl rfl rfl rfl rfl (by intro y hy;cases hy;rfl) rfl rfl rfl (by simp) rfl ?_|refine x_apprefN tok rfl rfl rfl rfl rfl rfl rfl rfl rfl rfl rfl (by intro y hy;cases hy;rfl) (by simp) rfl ?_))|refine SB ?_|first|refine SR ?_|refine SK (I2 (fun hc=>?_) (fun hc=>?_))|refine SK (fun hc=>?_)|fail))<;>clear zc1 zc2)
 refine rnd_next (st0:=⟨[(5,.ref 1001 0 1),(10,iA 1),(1,.fn 144 []),(8,.sl false [rqA a]),(9,iA 1)],[(1001,.arr 5 [rqO a 1101] ⟨false,true⟩),(1101,lgE a)]⟩) rfl ?_
 (refine WW ?_)
 exact fin_own [1001,1101] rfl rfl rfl rfl
theorem cloneAll_n1 (a:Rq) (ha:1≤a.legs.length) (ga:a.legs.length≤1000):CallSim Tryz.prog 109 [slA rqA [a]] [] (.ref 1001 0 1) [(1001,.arr 5 [rqO a 1101] ⟨false,true⟩),(1101,lgE a)]:=by
 have c:=kept_n1 a ha ga
 (refine eN Tryz.func109 Tryz.call109 fun F hF=>?_)
 (have zc1:=c;refine WW ?_;clear zc1)
 exact fin_own [1001,1101] rfl rfl rfl rfl
theorem kept_n2 (a b:Rq) (ha:1≤a.legs.length) (ga:a.legs.length≤1000) (hb:1≤b.legs.length) (gb:b.legs.length≤1000):CallSim Tryz.prog 105 [slA rqA [a,b],.fn 144 []] [] (.ref 1001 0 2) [(1001,.arr 5 [rqO a 1101,rqO b 1102] ⟨true,true⟩),(1101,lgE a),(1102,lgE b)]:=by
 have ca:=calltrue_c a
 have da:=qclone_o1101 a ha ga
 have cb:=calltrue_c b
 have db:=qclone_o1102 b hb gb
 (refine eN Tryz.func105 Tryz.call105 fun F hF=>?_)
 (refine WW ?_)
 refine sim_virt 5 1001 5 rfl rfl rfl ?_
 refine sim_rounds 3 [1001,1101,1102] [5,10,1,8,9] rfl ?_
 refine rnd_next (st0:=⟨[(5,.ref 1001 0 0),(10,iA 0),(1,.fn 144 []),(8,.sl false [rqA a,rqA b]),(9,iA 2)],[(1001,.arr 5 [] ⟨true,false⟩)]⟩) rfl ?_
 (have zc1:=ca;have zc2:=da;(repeat' (first|refine WY ?_|refine SG (I2 (fun hc=>?_) (fun hc=>?_))|refine SG (fun hc=>?_)|(refine is_ops ?_;refine is_call ?_;refine SC ?_)|(refine is_ops ?_;first|(refine is_bsl ?_;refine x_bslN (xs:=[_]) 1002 tok rfl rfl rfl rfl rfl rfl rfl rfl rfl rfl rfl rfl ?_)|(refine is_app ?_;first|refine x_appref0N tok rfl rfl rfl rfl rfl rfl rfl (by intro y hy;cases hy;rfl) rfl rfl rfl (by simp) rfl ?_|refine x_apprefN tok rfl rfl rfl rfl rfl rfl rfl rfl rfl rfl rfl (by intro y hy;cases hy;rfl) (by simp) rfl ?_))|refine SB ?_|first|refine SR ?_|refine SK (I2 (fun hc=>?_) (fun hc=>?_))|refine SK (fun hc=>?_)|fail))<;>clear zc1 zc2)
 refine rnd_next (st0:=⟨[(5,.ref 1001 0 1),(10,iA 1),(1,.fn 144 []),(8,.sl false [rqA a,rqA b]),(9,iA 2)],[(1001,.arr 5 [rqO a 1101] ⟨false,true⟩),(1101,lgE a)]⟩) rfl ?_
 (have zc1:=cb;have zc2:=db;(repeat' (first|refine WY ?_|refine SG (I2 (fun hc=>?_) (fun hc=>?_))|refine SG (fun hc=>?_)|(refine is_ops ?_;refine is_call ?_;refine SC ?_)|(refine is_ops ?_;first|(refine is_bsl ?_;refine x_bslN (xs:=[_]) 1002 tok rfl rfl rfl rfl rfl rfl rfl rfl rfl rfl rfl rfl ?_)|(refine is_app ?_;first|refine x_appref0N tok rfl rfl rfl rfl rfl rfl rfl (by intro y hy;cases hy;rfl) rfl rfl rfl (by simp) rfl ?_|refine x_apprefN tok rfl rfl rfl rfl rfl rfl rfl rfl rfl rfl rfl (by intro y hy;cases hy;rfl) (by simp) rfl ?_))|refine SB ?_|first|refine SR ?_|refine SK (I2 (fun hc=>?_) (fun hc=>?_))|refine SK (fun hc=>?_)|fail))<;>clear zc1 zc2)
 refine rnd_next (st0:=⟨[(5,.ref 1001 0 2),(10,iA 2),(1,.fn 144 []),(8,.sl false [rqA a,rqA b]),(9,iA 2)],[(1001,.arr 5 [rqO a 1101,rqO b 1102] ⟨true,true⟩),(1101,lgE a),(1102,lgE b)]⟩) rfl ?_
 (refine WW ?_)
 exact fin_own [1001,1101,1102] rfl rfl rfl rfl
theorem cloneAll_n2 (a b:Rq) (ha:1≤a.legs.length) (ga:a.legs.length≤1000) (hb:1≤b.legs.length) (gb:b.legs.length≤1000):CallSim Tryz.prog 109 [slA rqA [a,b]] [] (.ref 1001 0 2) [(1001,.arr 5 [rqO a 1101,rqO b 1102] ⟨true,true⟩),(1101,lgE a),(1102,lgE b)]:=by
 have c:=kept_n2 a b ha ga hb gb
 (refine eN Tryz.func109 Tryz.call109 fun F hF=>?_)
 (have zc1:=c;refine WW ?_;clear zc1)
 exact fin_own [1001,1101,1102] rfl rfl rfl rfl
theorem kept_n3 (a b c:Rq) (ha:1≤a.legs.length) (ga:a.legs.length≤1000) (hb:1≤b.legs.length) (gb:b.legs.length≤1000) (hc:1≤c.legs.length) (gc:c.legs.length≤1000):CallSim Tryz.prog 105 [slA rqA [a,b,c],.fn 144 []] [] (.ref 1001 0 3) [(1001,.arr 5 [rqO a 1101,rqO b 1102,rqO c 1103] ⟨true,true⟩),(1101,lgE a),(1102,lgE b),(1103,lgE c)]:=by
 have ca:=calltrue_c a
 have da:=qclone_o1101 a ha ga
 have cb:=calltrue_c b
 have db:=qclone_o1102 b hb gb
 have cc:=calltrue_c c
 have dc:=qclone_o1103 c hc gc
 (refine eN Tryz.func105 Tryz.call105 fun F hF=>?_)
 (refine WW ?_)
 refine sim_virt 5 1001 5 rfl rfl rfl ?_
 refine sim_rounds 4 [1001,1101,1102,1103] [5,10,1,8,9] rfl ?_
 refine rnd_next (st0:=⟨[(5,.ref 1001 0 0),(10,iA 0),(1,.fn 144 []),(8,.sl false [rqA a,rqA b,rqA c]),(9,iA 3)],[(1001,.arr 5 [] ⟨true,false⟩)]⟩) rfl ?_
 (have zc1:=ca;have zc2:=da;(repeat' (first|refine WY ?_|refine SG (I2 (fun hc=>?_) (fun hc=>?_))|refine SG (fun hc=>?_)|(refine is_ops ?_;refine is_call ?_;refine SC ?_)|(refine is_ops ?_;first|(refine is_bsl ?_;refine x_bslN (xs:=[_]) 1002 tok rfl rfl rfl rfl rfl rfl rfl rfl rfl rfl rfl rfl ?_)|(refine is_app ?_;first|refine x_appref0N tok rfl rfl rfl rfl rfl rfl rfl (by intro y hy;cases hy;rfl) rfl rfl rfl (by simp) rfl ?_|refine x_apprefN tok rfl rfl rfl rfl rfl rfl rfl rfl rfl rfl rfl (by intro y hy;cases hy;rfl) (by simp) rfl ?_))|refine SB ?_|first|refine SR ?_|refine SK (I2 (fun hc=>?_) (fun hc=>?_))|refine SK (fun hc=>?_)|fail))<;>clear zc1 zc2)
 refine rnd_next (st0:=⟨[(5,.ref 1001 0 1),(10,iA 1),(1,.fn 144 []),(8,.sl false [rqA a,rqA b,rqA c]),(9,iA 3)],[(1001,.arr 5 [rqO a 1101] ⟨false,true⟩),(1101,lgE a)]⟩) rfl ?_
 (have zc1:=cb;have zc2:=db;(repeat' (first|refine WY ?_|refine SG (I2 (fun hc=>?_) (fun hc=>?_))|refine SG (fun hc=>?_)|(refine is_ops ?_;refine is_call ?_;refine SC ?_)|(refine is_ops ?_;first|(refine is_bsl ?_;refine x_bslN (xs:=[_]) 1002 tok rfl rfl rfl rfl rfl rfl rfl rfl rfl rfl rfl rfl ?_)|(refine is_app ?_;first|refine x_appref0N tok rfl rfl rfl rfl rfl rfl rfl (by intro y hy;cases hy;rfl) rfl rfl rfl (by simp) rfl ?_|refine x_apprefN tok rfl rfl rfl rfl rfl rfl rfl rfl rfl rfl rfl (by intro y hy;cases hy;rfl) (by simp) rfl ?_))|refine SB ?_|first|refine SR ?_|refine SK (I2 (fun hc=>?_) (fun hc=>?_))|refine SK (fun hc=>?_)|fail))<;>clear zc1 zc2)
 refine rnd_next (st0:=⟨[(5,.ref 1001 0 2),(10,iA 2),(1,.fn 144 []),(8,.sl false [rqA a,rqA b,rqA c]),(9,iA 3)],[(1001,.arr 5 [rqO a 1101,rqO b 1102] ⟨true,true⟩),(1101,lgE a),(1102,lgE b)]⟩) rfl ?_
 (have zc1:=cc;have zc2:=dc;(repeat' (first|refine WY ?_|refine SG (I2 (fun hc=>?_) (fun hc=>?_))|refine SG (fun hc=>?_)|(refine is_ops ?_;refine is_call ?_;refine SC ?_)|(refine is_ops ?_;first|(refine is_bsl ?_;refine x_bslN (xs:=[_]) 1002 tok rfl rfl rfl rfl rfl rfl rfl rfl rfl rfl rfl rfl ?_)|(refine is_app ?_;first|refine x_appref0N tok rfl rfl rfl rfl rfl rfl rfl (by intro y hy;cases hy;rfl) rfl rfl rfl (by simp) rfl ?_|refine x_apprefN tok rfl rfl rfl rfl rfl rfl rfl rfl rfl rfl rfl (by intro y hy;cases hy;rfl) (by simp) rfl ?_))|refine SB ?_|first|refine SR ?_|refine SK (I2 (fun hc=>?_) (fun hc=>?_))|refine SK (fun hc=>?_)|fail))<;>clear zc1 zc2)
 refine rnd_next (st0:=⟨[(5,.ref 1001 0 3),(10,iA 3),(1,.fn 144 []),(8,.sl false [rqA a,rqA b,rqA c]),(9,iA 3)],[(1001,.arr 5 [rqO a 1101,rqO b 1102,rqO c 1103] ⟨true,true⟩),(1101,lgE a),(1102,lgE b),(1103,lgE c)]⟩) rfl ?_
 (refine WW ?_)
 exact fin_own [1001,1101,1102,1103] rfl rfl rfl rfl
theorem cloneAll_n3 (a b c:Rq) (ha:1≤a.legs.length) (ga:a.legs.length≤1000) (hb:1≤b.legs.length) (gb:b.legs.length≤1000) (hc:1≤c.legs.length) (gc:c.legs.length≤1000):CallSim Tryz.prog 109 [slA rqA [a,b,c]] [] (.ref 1001 0 3) [(1001,.arr 5 [rqO a 1101,rqO b 1102,rqO c 1103] ⟨true,true⟩),(1101,lgE a),(1102,lgE b),(1103,lgE c)]:=by
 have c:=kept_n3 a b c ha ga hb gb hc gc
 (refine eN Tryz.func109 Tryz.call109 fun F hF=>?_)
 (have zc1:=c;refine WW ?_;clear zc1)
 exact fin_own [1001,1101,1102,1103] rfl rfl rfl rfl
theorem kept_n4 (a b c d:Rq) (ha:1≤a.legs.length) (ga:a.legs.length≤1000) (hb:1≤b.legs.length) (gb:b.legs.length≤1000) (hc:1≤c.legs.length) (gc:c.legs.length≤1000) (hd:1≤d.legs.length) (gd:d.legs.length≤1000):CallSim Tryz.prog 105 [slA rqA [a,b,c,d],.fn 144 []] [] (.ref 1001 0 4) [(1001,.arr 5 [rqO a 1101,rqO b 1102,rqO c 1103,rqO d 1104] ⟨true,true⟩),(1101,lgE a),(1102,lgE b),(1103,lgE c),(1104,lgE d)]:=by
 have ca:=calltrue_c a
 have da:=qclone_o1101 a ha ga
 have cb:=calltrue_c b
 have db:=qclone_o1102 b hb gb
 have cc:=calltrue_c c
 have dc:=qclone_o1103 c hc gc
 have cd:=calltrue_c d
 have dd:=qclone_o1104 d hd gd
 (refine eN Tryz.func105 Tryz.call105 fun F hF=>?_)
 (refine WW ?_)
 refine sim_virt 5 1001 5 rfl rfl rfl ?_
 refine sim_rounds 5 [1001,1101,1102,1103,1104] [5,10,1,8,9] rfl ?_
 refine rnd_next (st0:=⟨[(5,.ref 1001 0 0),(10,iA 0),(1,.fn 144 []),(8,.sl false [rqA a,rqA b,rqA c,rqA d]),(9,iA 4)],[(1001,.arr 5 [] ⟨true,false⟩)]⟩) rfl ?_
 (have zc1:=ca;have zc2:=da;(repeat' (first|refine WY ?_|refine SG (I2 (fun hc=>?_) (fun hc=>?_))|refine SG (fun hc=>?_)|(refine is_ops ?_;refine is_call ?_;refine SC ?_)|(refine is_ops ?_;first|(refine is_bsl ?_;refine x_bslN (xs:=[_]) 1002 tok rfl rfl rfl rfl rfl rfl rfl rfl rfl rfl rfl rfl ?_)|(refine is_app ?_;first|refine x_appref0N tok rfl rfl rfl rfl rfl rfl rfl (by intro y hy;cases hy;rfl) rfl rfl rfl (by simp) rfl ?_|refine x_apprefN tok rfl rfl rfl rfl rfl rfl rfl rfl rfl rfl rfl (by intro y hy;cases hy;rfl) (by simp) rfl ?_))|refine SB ?_|first|refine SR ?_|refine SK (I2 (fun hc=>?_) (fun hc=>?_))|refine SK (fun hc=>?_)|fail))<;>clear zc1 zc2)
 refine rnd_next (st0:=⟨[(5,.ref 1001 0 1),(10,iA 1),(1,.fn 144 []),(8,.sl false [rqA a,rqA b,rqA c,rqA d]),(9,iA 4)],[(1001,.arr 5 [rqO a 1101] ⟨false,true⟩),(1101,lgE a)]⟩) rfl ?_
 (have zc1:=cb;have zc2:=db;(repeat' (first|refine WY ?_|refine SG (I2 (fun hc=>?_) (fun hc=>?_))|refine SG (fun hc=>?_)|(refine is_ops ?_;refine is_call ?_;refine SC ?_)|(refine is_ops ?_;first|(refine is_bsl ?_;refine x_bslN (xs:=[_]) 1002 tok rfl rfl rfl rfl rfl rfl rfl rfl rfl rfl rfl rfl ?_)|(refine is_app ?_;first|refine x_appref0N tok rfl rfl rfl rfl rfl rfl rfl (by intro y hy;cases hy;rfl) rfl rfl rfl (by simp) rfl ?_|refine x_apprefN tok rfl rfl rfl rfl rfl rfl rfl rfl rfl rfl rfl (by intro y hy;cases hy;rfl) (by simp) rfl ?_))|refine SB ?_|first|refine SR ?_|refine SK (I2 (fun hc=>?_) (fun hc=>?_))|refine SK (fun hc=>?_)|fail))<;>clear zc1 zc2)
 refine rnd_next (st0:=⟨[(5,.ref 1001 0 2),(10,iA 2),(1,.fn 144 []),(8,.sl false [rqA a,rqA b,rqA c,rqA d]),(9,iA 4)],[(1001,.arr 5 [rqO a 1101,rqO b 1102] ⟨true,true⟩),(1101,lgE a),(1102,lgE b)]⟩) rfl ?_
 (have zc1:=cc;have zc2:=dc;(repeat' (first|refine WY ?_|refine SG (I2 (fun hc=>?_) (fun hc=>?_))|refine SG (fun hc=>?_)|(refine is_ops ?_;refine is_call ?_;refine SC ?_)|(refine is_ops ?_;first|(refine is_bsl ?_;refine x_bslN (xs:=[_]) 1002 tok rfl rfl rfl rfl rfl rfl rfl rfl rfl rfl rfl rfl ?_)|(refine is_app ?_;first|refine x_appref0N tok rfl rfl rfl rfl rfl rfl rfl (by intro y hy;cases hy;rfl) rfl rfl rfl (by simp) rfl ?_|refine x_apprefN tok rfl rfl rfl rfl rfl rfl rfl rfl rfl rfl rfl (by intro y hy;cases hy;rfl) (by simp) rfl ?_))|refine SB ?_|first|refine SR ?_|refine SK (I2 (fun hc=>?_) (fun hc=>?_))|refine SK (fun hc=>?_)|fail))<;>clear zc1 zc2)
 refine rnd_next (st0:=⟨[(5,.ref 1001 0 3),(10,iA 3),(1,.fn 144 []),(8,.sl false [rqA a,rqA b,rqA c,rqA d]),(9,iA 4)],[(1001,.arr 5 [rqO a 1101,rqO b 1102,rqO c 1103] ⟨true,true⟩),(1101,lgE a),(1102,lgE b),(1103,lgE c)]⟩) rfl ?_
 (have zc1:=cd;have zc2:=dd;(repeat' (first|refine WY ?_|refine SG (I2 (fun hc=>?_) (fun hc=>?_))|refine SG (fun hc=>?_)|(refine is_ops ?_;refine is_call ?_;refine SC ?_)|(refine is_ops ?_;first|(refine is_bsl ?_;refine x_bslN (xs:=[_]) 1002 tok rfl rfl rfl rfl rfl rfl rfl rfl rfl rfl rfl rfl ?_)|(refine is_app ?_;first|refine x_appref0N tok rfl rfl rfl rfl rfl rfl rfl (by intro y hy;cases hy;rfl) rfl rfl rfl (by simp) rfl ?_|refine x_apprefN tok rfl rfl rfl rfl rfl rfl rfl rfl rfl rfl rfl (by intro y hy;cases hy;rfl) (by simp) rfl ?_))|refine SB ?_|first|refine SR ?_|refine SK (I2 (fun hc=>?_) (fun hc=>?_))|refine SK (fun hc=>?_)|fail))<;>clear zc1 zc2)
 refine rnd_next (st0:=⟨[(5,.ref 1001 0 4),(10,iA 4),(1,.fn 144 []),(8,.sl false [rqA a,rqA b,rqA c,rqA d]),(9,iA 4)],[(1001,.arr 5 [rqO a 1101,rqO b 1102,rqO c 1103,rqO d 1104] ⟨true,true⟩),(1101,lgE a),(1102,lgE b),(1103,lgE c),(1104,lgE d)]⟩) rfl ?_
 (refine WW ?_)
 exact fin_own [1001,1101,1102,1103,1104] rfl rfl rfl rfl
theorem cloneAll_n4 (a b c d:Rq) (ha:1≤a.legs.length) (ga:a.legs.length≤1000) (hb:1≤b.legs.length) (gb:b.legs.length≤1000) (hc:1≤c.legs.length) (gc:c.legs.length≤1000) (hd:1≤d.legs.length) (gd:d.legs.length≤1000):CallSim Tryz.prog 109 [slA rqA [a,b,c,d]] [] (.ref 1001 0 4) [(1001,.arr 5 [rqO a 1101,rqO b 1102,rqO c 1103,rqO d 1104] ⟨true,true⟩),(1101,lgE a),(1102,lgE b),(1103,lgE c),(1104,lgE d)]:=by
 have c:=kept_n4 a b c d ha ga hb gb hc gc hd gd
 (refine eN Tryz.func109 Tryz.call109 fun F hF=>?_)
 (have zc1:=c;refine WW ?_;clear zc1)
 exact fin_own [1001,1101,1102,1103,1104] rfl rfl rfl rfl
end
end Av
end Go.Proofs.YtaikgchmpieooaaGreat
