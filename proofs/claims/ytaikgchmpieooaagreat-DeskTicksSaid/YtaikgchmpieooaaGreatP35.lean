/- Part 35: contracts of the functions, and what they rest upon. -/
import Derived.Test.YtaikgchmpieooaaGreatP34
import Derived.Test.YtaikgchmpieooaaGreatP30
import Derived.Test.YtaikgchmpieooaaGreatP16
namespace Go.Proofs.YtaikgchmpieooaaGreat
namespace Av
set_option linter.unusedSimpArgs false
set_option linter.unusedVariables false
section
set_option maxRecDepth 4000
set_option maxHeartbeats 2000000
def ackM (k v:Int):Ms:=⟨14,[],[k,v],[]⟩
theorem dack_c (k v:Int):CallSim Tryz.prog 78 [iA k,iA v] [] (msA (ackM k v)) []:=by
 (refine eN Tryz.func78 Tryz.call78 fun F hF=>?_)
 (refine WL ?_)
 exact fr0
def freN (l:List Tk):Nat:=(l.filter fun t=>!t.used).length
def leftM (d:Dsk):Ms:=⟨20,[],[(freN d.rg.tk:Int),8-(d.rg.vh.length:Int),d.rg.ag.req-(d.rq.length:Int),d.rg.bk.level],[]⟩
theorem freN_snoc (pre:List Tk) (x:Tk):freN (pre++[x])=freN pre+(if x.used=true then 0 else 1):=by
 unfold freN
 rw[List.filter_append,List.length_append]
 cases hu:x.used<;>simp[hu]
theorem left2_c (d:Dsk) (hb:DskB d) (h0:0≤d.rg.ag.req) (h1:d.rg.ag.req≤1000):CallSim Tryz.prog 92 [dskA d] [] (msA (leftM d)) []:=by
 have hq:=hb.q
 have hn:=hb.rg.tk.n
 have hv:=hb.rg.v
 have hlt:=map_len tkA d.rg.tk
 have hlv:=map_len vhA d.rg.vh
 have hlq:=map_len rqA d.rq
 unfold leftM
 rw[←hlv,←hlq]
 unfold dskA dskX
 (refine eN Tryz.func92 Tryz.call92 fun F hF=>?_)
 (refine WW ?_)
 (refine sim_rng (d.rg.tk) [1,2] [1,2] [1,2,8,9] [3,10,1,2,8,9] rfl (fun i pre T U=>⟨(3,iA (freN pre))::(10,iA i)::T,U⟩) ?_;(conv=>whnf);refine⟨by rfl,?_,?_⟩)
 ·intro i pre x post hx hi
  have hy:=rng_at tkA hx hi
  have hlt2:=rng_lt hx hi
  have hle:freN pre≤i:=by rw[←hi];exact List.length_filter_le _ _
  have e:=freN_snoc pre x
  clear hx
  cases hu:x.used with
  |true=>
   rw[hu,if_pos rfl,Nat.add_zero]at e
   rw[e]
   generalize freN pre=m at*
   obtain⟨us,sec,par,ri,cl,ti⟩:=x
   cases hu
   (refine WW ?_)
   rfl
  |false=>
   rw[hu,if_neg Bool.false_ne_true]at e
   rw[e]
   generalize freN pre=m at*
   obtain⟨us,sec,par,ri,cl,ti⟩:=x
   cases hu
   (refine WW ?_)
   rfl
 ·(refine WL ?_)
  exact fr0
theorem tellLeft_c (d:Dsk) (k now:Int) (hk1:k≠1) (hk9:k≠9) (hb:DskB d) (h0:0≤d.rg.ag.req) (h1:d.rg.ag.req≤1000):CallSim Tryz.prog 79 [dskA d,iA k,iA now] [] (msA (leftM d)) []:=by
 have hq:=hb.q
 have hn:=hb.rg.tk.n
 have hv:=hb.rg.v
 have hlt:=map_len tkA d.rg.tk
 have hlv:=map_len vhA d.rg.vh
 have hlq:=map_len rqA d.rq
 unfold leftM
 rw[←hlv,←hlq]
 unfold dskA dskX
 (refine eN Tryz.func79 Tryz.call79 fun F hF=>?_)
 (refine WW ?_)
 (refine sim_rng (d.rg.tk) [3,6] [3,6] [3,6,45,46] [10,47,3,6,45,46] rfl (fun i pre T U=>⟨(10,iA (freN pre))::(47,iA i)::T,U⟩) ?_;(conv=>whnf);refine⟨by rfl,?_,?_⟩)
 ·intro i pre x post hx hi
  have hy:=rng_at tkA hx hi
  have hlt2:=rng_lt hx hi
  have hle:freN pre≤i:=by rw[←hi];exact List.length_filter_le _ _
  have e:=freN_snoc pre x
  clear hx
  cases hu:x.used with
  |true=>
   rw[hu,if_pos rfl,Nat.add_zero]at e
   rw[e]
   generalize freN pre=m at*
   obtain⟨us,sec,par,ri,cl,ti⟩:=x
   cases hu
   (refine WW ?_)
   rfl
  |false=>
   rw[hu,if_neg Bool.false_ne_true]at e
   rw[e]
   generalize freN pre=m at*
   obtain⟨us,sec,par,ri,cl,ti⟩:=x
   cases hu
   (refine WW ?_)
   rfl
 ·(refine WL ?_)
  exact fr0
def helloM (d:Dsk) (now:Int):Ms:=⟨13,[],[d.rg.num,now],[]⟩
theorem tellHello_c (d:Dsk) (now:Int):CallSim Tryz.prog 79 [dskA d,iA 1,iA now] [] (msA (helloM d now)) []:=by
 unfold helloM dskA dskX
 (refine eN Tryz.func79 Tryz.call79 fun F hF=>?_)
 (refine WL ?_)
 exact fr0
def holdF (l:List Rq):List Int:=(l.map fun r=>[r.id,r.til]).flatten
def listM (d:Dsk):Ms:=⟨19,[],holdF d.rq,[]⟩
theorem holdF_snoc (pre:List Rq) (x:Rq):(holdF (pre++[x])).map iA=(holdF pre).map iA++[iA x.id,iA x.til]:=by simp[holdF]
theorem holdF_len:∀l:List Rq,(holdF l).length=2*l.length
 | []=>rfl
 |x::l=>by
  have:=holdF_len l
  show(x.id::x.til::holdF l).length=_
  rw[List.length_cons,List.length_cons,List.length_cons]
  omega
theorem tellList_c (d:Dsk) (now:Int) (hb:DskB d):CallSim Tryz.prog 79 [dskA d,iA 9,iA now] [] (msA (listM d)) []:=by
 have hq:=hb.q
 have hlq:=map_len rqA d.rq
 unfold listM dskA dskX
 (refine eN Tryz.func79 Tryz.call79 fun F hF=>?_)
 (refine WW ?_)
 refine sim_virtB 7 2 1001 1 rfl rfl rfl rfl rfl ?_
 (refine sim_rng (d.rq) [7,1001,6] [6] [6,7,26,27] [28,6,7,26,27] rfl (fun i pre T U=>⟨(28,iA i)::T,(7,.box [iA 19,.s (.slice none 0 0),.ref 1001 0 ((holdF pre).map iA).length,.s (.slice none 0 0)])::(1001,.arr 1 ((holdF pre).map iA) true)::U⟩) ?_;(conv=>whnf);refine⟨by rfl,?_,?_⟩)
 ·intro i pre x post hx hi
  have hy:=rng_at rqA hx hi
  have hlt2:=rng_lt hx hi
  have hle:=holdF_len pre
  have hlm:=map_len iA (holdF pre)
  have e:=holdF_snoc pre x
  clear hx
  rw[e]
  generalize (holdF pre).map iA=xs at*
  (refine WW ?_)
  rfl
 ·(refine WW ?_)
  refine fin_ret [] rfl rfl ?_ rfl
  show AV.agg [iA 19,.sl false [],.sl false (((holdF d.rq).map iA).take ((holdF d.rq).map iA).length),.sl false []]=_
  rw[List.take_length]
  rfl
theorem vfind_c (l:List Vh) (id:Int) (hn:l.length≤1000000):CallSim Tryz.prog 160 [slA vhA l,iA id] [] (.tup [vhA (findV l id),bA (hasV l id)]) []:=by
 have hl:=map_len vhA l
 (refine eN Tryz.func160 Tryz.call160 fun F hF=>?_)
 (refine WW ?_)
 (refine sim_rngP (l) [4] [] [1,4,8,9] [10,1,4,8,9] rfl (fun i pre T U zs=>(∀y∈pre,y.id≠id)∧zs=⟨(10,iA i)::T,(4,.box [.s (.int .i64 0),.s (.int .i64 0)])::U⟩) ?_;(conv=>whnf);refine⟨?_,?_,?_⟩)
 ·exact⟨by simp,rfl⟩
 ·rintro i pre x post st hx hi ⟨hp,rfl⟩
  have hy:=rng_at vhA hx hi
  have hlt:=rng_lt hx hi
  by_cases he:x.id=id
  ·obtain⟨e1,e2⟩:=findV_hit hx hp he
   rw[e1,e2]
   clear hx
   (refine WW ?_)
   exact fr0
  ·clear hx
   (refine WW ?_)
   exact⟨fun y hy=>by simp only[List.mem_append,List.mem_singleton]at hy;rcases hy with hy|rfl;exact hp y hy;exact he,rfl⟩
 ·rintro st ⟨hp,rfl⟩
  obtain⟨e1,e2⟩:=findV_none hp
  rw[e1,e2]
  (refine WW ?_)
  exact fr0
theorem submit_nv (l:List Rq) (q id:Int) (v:Vh) (life:Int) (x:List Lg) (now:Int) (hv:RqV l) (hq:(l.length:Int)≤q) (hb:¬((0≤v.id∧v.id≤4294967295)∧(0≤v.cls∧v.cls≤3))):
  CallSim Tryz.prog 162 [slA rqA l,iA q,iA id,vhA v,iA life,slA lgA x,iA now] [] (.tup [slA rqA [],iA 1]) []:=by
 have c1:=qvalid_c l q hv hq
 have c2:=rnum_c v.id
 have c3:=rcls_c v.cls
 by_cases h1:0≤v.id∧v.id≤4294967295
 ·have h2:¬(0≤v.cls∧v.cls≤3):=fun h=>hb ⟨h1,h⟩
  rw[decide_eq_true h1]at c2
  rw[decide_eq_false h2]at c3
  (refine eN Tryz.func162 Tryz.call162 fun F hF=>?_)
  (have zc1:=c1;have zc2:=c2;have zc3:=c3;refine WW ?_;clear zc1 zc2 zc3)
  exact fr0
 ·rw[decide_eq_false h1]at c2
  (refine eN Tryz.func162 Tryz.call162 fun F hF=>?_)
  (have zc1:=c1;have zc2:=c2;refine WW ?_;clear zc1 zc2)
  exact fr0
theorem submit2_nv (l:List Rq) (q id:Int) (v:Vh) (life:Int) (x:List Lg) (now:Int) (hv:RqV l) (hq:(l.length:Int)≤q) (hb:¬((0≤v.id∧v.id≤4294967295)∧(0≤v.cls∧v.cls≤3))):
  CallSim Tryz.prog 133 [slA rqA l,iA q,iA id,vhA v,iA life,slA lgA x,iA now] [] (.tup [slA rqA [],iA 1]) []:=by
 have c1:=qvalid2_c l q hv hq
 have c2:=within19_c v.id 0 4294967295
 have c3:=within19_c v.cls 0 3
 by_cases h1:0≤v.id∧v.id≤4294967295
 ·have h2:¬(0≤v.cls∧v.cls≤3):=fun h=>hb ⟨h1,h⟩
  rw[decide_eq_true h1]at c2
  rw[decide_eq_false h2]at c3
  (refine eN Tryz.func133 Tryz.call133 fun F hF=>?_)
  (have zc1:=c1;have zc2:=c2;have zc3:=c3;refine WW ?_;clear zc1 zc2 zc3)
  exact fr0
 ·rw[decide_eq_false h1]at c2
  (refine eN Tryz.func133 Tryz.call133 fun F hF=>?_)
  (have zc1:=c1;have zc2:=c2;refine WW ?_;clear zc1 zc2)
  exact fr0
end
section
set_option maxRecDepth 4000
set_option maxHeartbeats 2000000
structure Qd where
 j:Int
 p:Int
 f:Int
 t:Int
def q4 (q:Qd):List Int:=[q.j,q.p,q.f,q.t]
def q4L (qs:List Qd):List Int:=(qs.map q4).flatten
def lgOk (c:Cf) (now:Int) (q:Qd):Bool:=decide (q.j<(c.js.length:Int))&&(decide (q.p<((c.js.getD q.j.toNat default).ph.length:Int))&&mwB q.j q.p q.f q.t now)
def mwQ (now:Int) (q:Qd):Lg:=mwF q.j q.p q.f q.t now
def vokB (v:Vh):Bool:=decide ((0≤v.id∧v.id≤4294967295)∧(0≤v.cls∧v.cls≤3))
def sxE (l:List Rq) (q id life:Int) (v:Vh) (x:List Lg):Int:=if(l.length:Int)≤q then(if vokB v=true then suE l q id life x else 1)else 1
def sxL (l:List Rq) (q id life now:Int) (v:Vh) (x:List Lg):List Rq:=if sxE l q id life v x=0 then insQ l (newQ id v life x now)else []
theorem sx_c (l:List Rq) (q id:Int) (v:Vh) (life:Int) (x:List Lg) (now:Int) (hv:RqV l) (n0:0≤now) (n1:now≤1073741824):
  CallSim Tryz.prog 162 [slA rqA l,iA q,iA id,vhA v,iA life,slA lgA x,iA now] [] (.tup [slA rqA (sxL l q id life now v x),iA (sxE l q id life v x)]) []:=by
 unfold sxL sxE
 by_cases hq:(l.length:Int)≤q
 ·rw[if_pos hq]
  by_cases hb:(0≤v.id∧v.id≤4294967295)∧(0≤v.cls∧v.cls≤3)
  ·have hv1:vokB v=true:=decide_eq_true hb
   rw[if_pos hv1]
   exact submit_q l q id v life x now hv hq hb.1.1 hb.1.2 hb.2.1 hb.2.2 n0 n1
  ·have hv1:¬vokB v=true:=fun h=>hb (of_decide_eq_true h)
   rw[if_neg hv1,if_neg (by decide)]
   exact submit_nv l q id v life x now hv hq hb
 ·rw[if_neg hq,if_neg (by decide)]
  exact submit_no l q id v life x now hv hq
theorem sx2_c (l:List Rq) (q id:Int) (v:Vh) (life:Int) (x:List Lg) (now:Int) (hv:RqV l) (n0:0≤now) (n1:now≤1073741824) (hx:x.length≤1000):
  CallSim Tryz.prog 133 [slA rqA l,iA q,iA id,vhA v,iA life,slA lgA x,iA now] [] (.tup [slA rqA (sxL l q id life now v x),iA (sxE l q id life v x)]) []:=by
 unfold sxL sxE
 by_cases hq:(l.length:Int)≤q
 ·rw[if_pos hq]
  by_cases hb:(0≤v.id∧v.id≤4294967295)∧(0≤v.cls∧v.cls≤3)
  ·have hv1:vokB v=true:=decide_eq_true hb
   rw[if_pos hv1]
   exact submit2_q l q id v life x now hv hq hb.1.1 hb.1.2 hb.2.1 hb.2.2 n0 n1 hx
  ·have hv1:¬vokB v=true:=fun h=>hb (of_decide_eq_true h)
   rw[if_neg hv1,if_neg (by decide)]
   exact submit2_nv l q id v life x now hv hq hb
 ·rw[if_neg hq,if_neg (by decide)]
  exact submit2_no l q id v life x now hv hq
theorem q4L_len:∀qs:List Qd,(q4L qs).length=4*qs.length
 | []=>rfl
 |x::l=>by
  have:=q4L_len l
  show(x.j::x.p::x.f::x.t::q4L l).length=_
  simp only[List.length_cons]
  omega
theorem q4L_app (a b:List Qd):q4L (a++b)=q4L a++q4L b:=by simp[q4L]
theorem q4L_drop (x y z:Int) (pre post:List Qd) (i:Nat) (hi:pre.length=i):(x::y::z::q4L (pre++post)).drop (3+4*i)=q4L post:=by
 rw[q4L_app,show 3+4*i=4*i+1+1+1 by omega,List.drop_succ_cons,List.drop_succ_cons,List.drop_succ_cons,List.drop_append_of_le_length (by rw[q4L_len];omega),List.drop_of_length_le (by rw[q4L_len];omega),List.nil_append]
theorem at_drop {α:Type} {l:List α} {n:Nat} {r:List α} (h:l.drop n=r) (k:Nat):l[n+k]? =r[k]? :=by rw[←h,List.getElem?_drop]
theorem q4_at (x y z:Int) (pre post:List Qd) (q:Qd) (I:Int) (hI:I=3+4*(pre.length:Int)):
  ((x::y::z::q4L (pre++q::post)).map iA)[I.toNat]? =some (iA q.j)∧((x::y::z::q4L (pre++q::post)).map iA)[(I+1).toNat]? =some (iA q.p)∧((x::y::z::q4L (pre++q::post)).map iA)[(I+2).toNat]? =some (iA q.f)∧((x::y::z::q4L (pre++q::post)).map iA)[(I+3).toNat]? =some (iA q.t):=by
 have h:=q4L_drop x y z pre (q::post) pre.length rfl
 refine⟨?_,?_,?_,?_⟩<;>rw[List.getElem?_map]
 ·rw[show I.toNat=3+4*pre.length+0 by omega,at_drop h];rfl
 ·rw[show(I+1).toNat=3+4*pre.length+1 by omega,at_drop h];rfl
 ·rw[show(I+2).toNat=3+4*pre.length+2 by omega,at_drop h];rfl
 ·rw[show(I+3).toNat=3+4*pre.length+3 by omega,at_drop h];rfl
theorem q4_slc (x y z:Int) (pre post:List Qd) (q:Qd) (I:Int) (hI:I=3+4*(pre.length:Int)):
  (((x::y::z::q4L (pre++q::post)).map iA).drop I.toNat).take ((I+4).toNat-I.toNat)=[iA q.j,iA q.p,iA q.f,iA q.t]:=by
 have h:=q4L_drop x y z pre (q::post) pre.length rfl
 rw[←List.map_drop,show I.toNat=3+4*pre.length by omega,h,show(I+4).toNat-(3+4*pre.length)=4 by omega]
 rfl
def dsE (c:Cf) (d:Dsk) (cls id v life now:Int) (qs:List Qd):Int:=
 if hasV d.rg.vh v=true then(if cls<(findV d.rg.vh v).cls then 17 else if qs.all (lgOk c now)=true then sxE d.rq d.rg.ag.req id life (findV d.rg.vh v) (qs.map (mwQ now))else 8)else 12
def dsL (c:Cf) (d:Dsk) (cls id v life now:Int) (qs:List Qd):List Rq:=
 if dsE c d cls id v life now qs=0 then insQ d.rq (newQ id (findV d.rg.vh v) life (qs.map (mwQ now)) now)else []
theorem all_no {α:Type} {p:α→Bool} {pre post:List α} {x:α} (h:p x=false):¬(pre++x::post).all p=true:=by
 simp[h]
theorem dsubmit_c (c:Cf) (d:Dsk) (id v life slot now:Int) (qs:List Qd) (hb:DskB d) (hv:RqV d.rq) (s0:0≤slot) (s1:slot<(d.rg.tk.length:Int)) (hq:qs.length≤3) (hp:∀q∈qs,0≤q.j∧0≤q.p) (n0:0≤now) (n1:now≤1073741824):
  CallSim Tryz.prog 122 [cfA c,dskA d,slA iA (id::v::life::q4L qs),iA slot,iA now] [] (.tup [slA rqA (dsL c d (d.rg.tk.getD slot.toNat default).cls id v life now qs),iA (dsE c d (d.rg.tk.getD slot.toNat default).cls id v life now qs)]) []:=by
 have hfv:=vfind_c d.rg.vh v (by have:=hb.rg.v;omega)
 have hlt:=map_len tkA d.rg.tk
 have hyt:=map_atI tkA d.rg.tk slot s0 s1
 have hsx:=sx_c d.rq d.rg.ag.req id (findV d.rg.vh v) life (qs.map (mwQ now)) now hv n0 n1
 have hll:((id::v::life::q4L qs).map iA).length=3+4*qs.length:=by simp[q4L_len];omega
 have hlj:=map_len jnA c.js
 have hnt:=hb.rg.tk.n
 unfold dsL dsE
 unfold cfA dskA dskX
 generalize (d.rg.tk.getD slot.toNat default)=t at*
 rw[show tkA t= .agg [bA t.used,slA yA t.sec,iA t.par,iA t.rights,iA t.cls,iA t.til]from rfl]at hyt
 generalize hasV d.rg.vh v=hv1 at*
 cases hv1 with
 |false=>
  rw[if_neg Bool.false_ne_true,if_neg (by decide)]
  (refine eN Tryz.func122 Tryz.call122 fun F hF=>?_)
  (have zc1:=hfv;refine WW ?_;clear zc1)
  exact fr0
 |true=>
 rw[if_pos rfl]
 generalize findV d.rg.vh v=vh at*
 unfold vhA at hfv hsx
 by_cases hcl:t.cls<vh.cls
 ·rw[if_pos hcl,if_neg (by decide)]
  (refine eN Tryz.func122 Tryz.call122 fun F hF=>?_)
  (have zc1:=hfv;refine WW ?_;clear zc1)
  exact fr0
 rw[if_neg hcl]
 (refine eN Tryz.func122 Tryz.call122 fun F hF=>?_)
 (have zc1:=hfv;refine WW ?_;clear zc1)
 refine sim_virt 15 1001 5 rfl rfl rfl ?_
 (refine sim_whl (qs.length) [1001,5,6,12] [5,6,12] [2,4,5,6,12] [15,16,2,4,5,6,12] rfl (fun zn T U zs=>∃(pre:List Qd) (post:List Qd),(qs=pre++post∧zn=post.length∧pre.all (lgOk c now)=true)∧zs=⟨(15,.ref 1001 0 (pre.map fun q=>lgA (mwQ now q)).length)::(16,iA (3+4*(pre.length:Int)))::T,(1001,.arr 5 (pre.map fun q=>lgA (mwQ now q)) true)::U⟩) ?_;(conv=>whnf);refine⟨?_,?_⟩)
 ·exact⟨[],qs,⟨rfl,rfl,rfl⟩,rfl⟩
 ·rintro zn st ⟨pre,post,⟨hqs,hzn,hok⟩,rfl⟩
  have hln:qs.length=pre.length+post.length:=by rw[hqs,List.length_append]
  have hpl:=map_len (fun q=>lgA (mwQ now q)) pre
  cases post with
  |nil=>
   rw[List.append_nil]at hqs
   subst hqs
   rw[if_pos hok]
   rw[List.length_nil]at hln hzn
   have e1:(qs.map fun q=>lgA (mwQ now q))=(qs.map (mwQ now)).map lgA:=by rw[List.map_map];rfl
   unfold sxL at hsx
   rw[e1]at*
   generalize qs.map (mwQ now)=ls at*
   generalize sxE d.rq d.rg.ag.req id life vh ls=e at*
   generalize insQ d.rq (newQ id vh life ls now)=il at*
   generalize hI:3+4*(qs.length:Int)=I at*
   rw[show(id::v::life::q4L qs).map iA=iA id::iA v::iA life::(q4L qs).map iA from rfl]at*
   generalize (q4L qs).map iA=A at*
   (refine WD ?_)
   refine sim_restrC [5,6,12] [2,4,5,6,12,15] rfl ?_
   (conv=>whnf)
   simp only[List.drop_zero,List.take_length]
   (have zc1:=hsx;refine WW ?_;clear zc1)
   exact fr0
  | cons q post=>
   have hpq:=hp q (by rw[hqs];simp)
   obtain⟨y0,y1,y2,y3⟩:=q4_at id v life pre post q _ rfl
   rw[←hqs]at y0 y1 y2 y3
   rw[List.length_cons]at hln hzn
   have hno:lgOk c now q=false→¬qs.all (lgOk c now)=true:=fun h=>by rw[hqs];exact all_no h
   have hyes:lgOk c now q=true→(pre++[q]).all (lgOk c now)=true:=fun h=>by rw[List.all_append,hok,List.all_cons,h];rfl
   have hmp:((pre++[q]).map fun q=>lgA (mwQ now q))=(pre.map fun q=>lgA (mwQ now q))++[lgA (mwQ now q)]:=by simp
   have hw:=wmake_c q.j q.p q.f q.t now
   rw[show lgOk c now q=(decide (q.j<(c.js.length:Int))&&(decide (q.p<((c.js.getD q.j.toNat default).ph.length:Int))&&mwB q.j q.p q.f q.t now))from rfl]at hno hyes
   generalize hA:(id::v::life::q4L qs).map iA=A at*
   have hA2:slA iA (id::v::life::q4L qs)= .sl false A:=by rw[←hA];rfl
   have hI:0≤3+4*(pre.length:Int)∧3+4*(pre.length:Int)+4=3+4*((pre++[q]).length:Int)∧3+4*(pre.length:Int)+3<A.length:=⟨by omega,by simp;omega,by omega⟩
   by_cases g1:q.j<(c.js.length:Int)
   case neg=>
    rw[decide_eq_false g1]at hno
    rw[if_neg (hno rfl),if_neg (by decide)]
    generalize 3+4*(pre.length:Int)=I at*
    clear hno hyes hw hmp hqs
    (refine WW ?_)
    exact fr0
   have hyj:=map_atI jnA c.js q.j hpq.1 g1
   rw[decide_eq_true g1]at hno hyes
   rw[show jnA (c.js.getD q.j.toNat default)= .agg [slA phA (c.js.getD q.j.toNat default).ph,slA iA (c.js.getD q.j.toNat default).cf,iA (c.js.getD q.j.toNat default).st]from rfl]at hyj
   generalize c.js.getD q.j.toNat default=jn at*
   have hlp:=map_len phA jn.ph
   by_cases g2:q.p<(jn.ph.length:Int)
   case neg=>
    rw[decide_eq_false g2]at hno
    rw[if_neg (hno rfl),if_neg (by decide)]
    generalize 3+4*(pre.length:Int)=I at*
    clear hno hyes hw hmp hqs
    (refine WW ?_)
    exact fr0
   rw[decide_eq_true g2]at hno hyes
   cases g3:mwB q.j q.p q.f q.t now with
   |false=>
    rw[g3]at hno hw
    rw[if_neg Bool.false_ne_true]at hw
    rw[if_neg (hno rfl),if_neg (by decide)]
    generalize 3+4*(pre.length:Int)=I at*
    generalize mwF q.j q.p q.f q.t now=lg at*
    clear hno hyes hmp hqs
    (have zc1:=hw;refine WW ?_;clear zc1)
    exact fr0
   |true=>
    rw[g3]at hyes hw
    rw[if_pos rfl]at hw
    have hy2:=hyes rfl
    obtain⟨hI0,hI1,hI2⟩:=hI
    have hfin:qs=(pre++[q])++post:=by rw[hqs];simp
    rw[show mwF q.j q.p q.f q.t now=mwQ now q from rfl]at hw
    generalize mwQ now q=lg at*
    clear hno hyes hqs
    generalize hqq:pre++[q]=pq at*
    generalize (pre.map fun q=>lgA (mwQ now q))=xs at*
    generalize 3+4*(pre.length:Int)=I at*
    (have zc1:=hw;refine WW ?_;clear zc1)
    exact⟨post.length,by omega,pq,post,⟨hfin,rfl,hy2⟩,by rw[hmp,←hI1];rfl⟩
end
section
set_option maxRecDepth 4000
set_option maxHeartbeats 2000000
def dkQ (d:Dsk) (l:List Rq):Dsk:=⟨d.rg,l,d.dr,d.au⟩
theorem dsubmit2_c (c:Cf) (d:Dsk) (k:Int) (tkn:List Int) (id v life cls now:Int) (qs:List Qd) (hb:DskB d) (hv:RqV d.rq) (hq:qs.length≤3) (hp:∀q∈qs,0≤q.j∧0≤q.p) (n0:0≤now) (n1:now≤1073741824):
  CallSim Tryz.prog 89 [cfA c,dskA d,msA ⟨k,tkn,id::v::life::q4L qs,[]⟩,iA cls,iA now] [] (.tup [dskA (dkQ d (if dsE c d cls id v life now qs=0 then dsL c d cls id v life now qs else d.rq)),iA (dsE c d cls id v life now qs)]) []:=by
 have hfv:=find2_c d.rg.vh v (by have:=hb.rg.v;omega)
 have hsx:=sx2_c d.rq d.rg.ag.req id (findV d.rg.vh v) life (qs.map (mwQ now)) now hv n0 n1 (by rw[List.length_map];omega)
 have hll:((id::v::life::q4L qs).map iA).length=3+4*qs.length:=by simp[q4L_len];omega
 have hlj:=map_len jnA c.js
 unfold dsL dsE dkQ
 unfold cfA dskA dskX
 rw[show msA ⟨k,tkn,id::v::life::q4L qs,[]⟩= .agg [iA k,slA yA tkn,slA iA (id::v::life::q4L qs),.sl false []]from rfl]
 generalize hasV d.rg.vh v=hv1 at*
 cases hv1 with
 |false=>
  rw[if_neg Bool.false_ne_true,if_neg (by decide)]
  (refine eN Tryz.func89 Tryz.call89 fun F hF=>?_)
  (have zc1:=hfv;refine WW ?_;clear zc1)
  exact fr0
 |true=>
 rw[if_pos rfl]
 generalize findV d.rg.vh v=vh at*
 unfold vhA at hfv hsx
 by_cases hcl:cls<vh.cls
 ·rw[if_pos hcl,if_neg (by decide)]
  (refine eN Tryz.func89 Tryz.call89 fun F hF=>?_)
  (have zc1:=hfv;refine WW ?_;clear zc1)
  exact fr0
 rw[if_neg hcl]
 (refine eN Tryz.func89 Tryz.call89 fun F hF=>?_)
 (have zc1:=hfv;refine WW ?_;clear zc1)
 refine sim_virt 14 1001 5 rfl rfl rfl ?_
 (refine sim_whl (qs.length) [1001,5,6,7,12,10] [5,6,7,12,10] [4,5,6,7,10,12] [14,15,4,5,6,7,10,12] rfl (fun zn T U zs=>∃(pre:List Qd) (post:List Qd),(qs=pre++post∧zn=post.length∧pre.all (lgOk c now)=true)∧zs=⟨(14,.ref 1001 0 (pre.map fun q=>lgA (mwQ now q)).length)::(15,iA (3+4*(pre.length:Int)))::T,(1001,.arr 5 (pre.map fun q=>lgA (mwQ now q)) true)::U⟩) ?_;(conv=>whnf);refine⟨?_,?_⟩)
 ·exact⟨[],qs,⟨rfl,rfl,rfl⟩,rfl⟩
 ·rintro zn st ⟨pre,post,⟨hqs,hzn,hok⟩,rfl⟩
  have hln:qs.length=pre.length+post.length:=by rw[hqs,List.length_append]
  have hpl:=map_len (fun q=>lgA (mwQ now q)) pre
  cases post with
  | nil=>
   rw[List.append_nil]at hqs
   subst hqs
   rw[if_pos hok]
   rw[List.length_nil]at hln hzn
   have e1:(qs.map fun q=>lgA (mwQ now q))=(qs.map (mwQ now)).map lgA:=by rw[List.map_map];rfl
   unfold sxL at hsx
   rw[e1]at*
   generalize qs.map (mwQ now)=ls at*
   generalize sxE d.rq d.rg.ag.req id life vh ls=e at*
   generalize insQ d.rq (newQ id vh life ls now)=il at*
   generalize hI:3+4*(qs.length:Int)=I at*
   rw[show(id::v::life::q4L qs).map iA=iA id::iA v::iA life::(q4L qs).map iA from rfl]at*
   generalize (q4L qs).map iA=A at*
   (refine WD ?_)
   refine sim_restrC [5,6,7,10,12] [4,5,6,7,10,12,14] rfl ?_
   (conv=>whnf)
   simp only[List.drop_zero,List.take_length]
   by_cases he:e=0
   ·subst he
    rw[if_pos rfl]at hsx⊢
    (have zc1:=hsx;refine WW ?_;clear zc1)
    exact fr0
   ·rw[if_neg he]at hsx⊢
    (have zc1:=hsx;refine WW ?_;clear zc1)
    exact fr0
  | cons q post=>
   have hpq:=hp q (by rw[hqs];simp)
   have hsl:=q4_slc id v life pre post q _ rfl
   rw[←hqs]at hsl
   rw[List.length_cons]at hln hzn
   have hno:lgOk c now q=false→¬qs.all (lgOk c now)=true:=fun h=>by rw[hqs];exact all_no h
   have hyes:lgOk c now q=true→(pre++[q]).all (lgOk c now)=true:=fun h=>by rw[List.all_append,hok,List.all_cons,h];rfl
   have hmp:((pre++[q]).map fun q=>lgA (mwQ now q))=(pre.map fun q=>lgA (mwQ now q))++[lgA (mwQ now q)]:=by simp
   have hw:=wmake2_c q.j q.p q.f q.t now
   rw[show lgOk c now q=(decide (q.j<(c.js.length:Int))&&(decide (q.p<((c.js.getD q.j.toNat default).ph.length:Int))&&mwB q.j q.p q.f q.t now))from rfl]at hno hyes
   have hlX:(id::v::life::q4L qs).length=3+4*qs.length:=by simp[q4L_len];omega
   generalize hA:id::v::life::q4L qs=A at*
   have hI:0≤3+4*(pre.length:Int)∧3+4*(pre.length:Int)+4=3+4*((pre++[q]).length:Int)∧3+4*(pre.length:Int)+4≤A.length:=⟨by omega,by simp;omega,by omega⟩
   cases g3:mwB q.j q.p q.f q.t now with
   |false=>
    rw[g3]at hno hw
    rw[Bool.and_false,Bool.and_false]at hno
    rw[if_neg Bool.false_ne_true]at hw
    rw[if_neg (hno rfl),if_neg (by decide)]
    generalize 3+4*(pre.length:Int)=I at*
    generalize mwF q.j q.p q.f q.t now=lg at*
    clear hno hyes hmp hqs
    (have zc1:=hw;refine WW ?_;clear zc1)
    exact fr0
   |true=>
   rw[g3]at hyes hw hno
   rw[if_pos rfl]at hw
   by_cases g1:q.j<(c.js.length:Int)
   case neg=>
    rw[decide_eq_false g1]at hno
    rw[if_neg (hno rfl),if_neg (by decide)]
    generalize 3+4*(pre.length:Int)=I at*
    generalize mwF q.j q.p q.f q.t now=lg at*
    clear hno hyes hmp hqs
    (have zc1:=hw;refine WW ?_;clear zc1)
    exact fr0
   have hyj:=map_atI jnA c.js q.j hpq.1 g1
   rw[decide_eq_true g1]at hno hyes
   rw[show jnA (c.js.getD q.j.toNat default)= .agg [slA phA (c.js.getD q.j.toNat default).ph,slA iA (c.js.getD q.j.toNat default).cf,iA (c.js.getD q.j.toNat default).st]from rfl]at hyj
   generalize c.js.getD q.j.toNat default=jn at*
   have hlp:=map_len phA jn.ph
   by_cases g2:q.p<(jn.ph.length:Int)
   case neg=>
    rw[decide_eq_false g2]at hno
    rw[if_neg (hno rfl),if_neg (by decide)]
    generalize 3+4*(pre.length:Int)=I at*
    generalize mwF q.j q.p q.f q.t now=lg at*
    clear hno hyes hmp hqs
    (have zc1:=hw;refine WW ?_;clear zc1)
    exact fr0
   rw[decide_eq_true g2]at hyes
   have hy2:=hyes rfl
   obtain⟨hI0,hI1,hI2⟩:=hI
   have hfin:qs=(pre++[q])++post:=by rw[hqs];simp
   rw[show mwF q.j q.p q.f q.t now=mwQ now q from rfl]at hw
   generalize mwQ now q=lg at*
   clear hno hyes hqs
   generalize hqq:pre++[q]=pq at*
   generalize (pre.map fun q=>lgA (mwQ now q))=xs at*
   generalize 3+4*(pre.length:Int)=I at*
   (have zc1:=hw;refine WW ?_;clear zc1)
   exact⟨post.length,by omega,pq,post,⟨hfin,rfl,hy2⟩,by rw[hmp,←hI1];rfl⟩
end
section
set_option maxRecDepth 4000
set_option maxHeartbeats 2000000
def dskN (n:Int) (a:Ag) (N:Nat):Dsk:=⟨rgN n a,[],[],List.replicate N false⟩
theorem dnew_c (n:Int) (a:Ag) (N:Nat) (hN:N=1∨N=2) (ha:a.ses=(N:Int)) (hs:a.sec.length≤1000000) (hl:a.lim.length≤1000000):CallSim Tryz.prog 20 [iA n,agA a] [] (dskA (dskN n a N)) []:=by
 have c1:=gnew_c n a hs hl
 unfold dskN
 obtain⟨sec,ri,cl,li,rq,se,ra,bu⟩:=a
 dsimp only at ha
 subst ha
 unfold agA rgA at c1
 unfold agA dskA dskX
 dsimp only at*
 generalize rgN n ⟨sec,ri,cl,li,rq,(N:Int),ra,bu⟩=r at*
 rcases hN with rfl|rfl
 all_goals
  (refine eN Tryz.func20 Tryz.call20 fun F hF=>?_)
  (have zc1:=c1;refine WW ?_;clear zc1)
  exact fr0
theorem dnew2_c (n:Int) (a:Ag) (N:Nat) (hN:N=1∨N=2) (ha:a.ses=(N:Int)) (hs:a.sec.length≤1000000) (hl:a.lim.length≤1000000):CallSim Tryz.prog 21 [iA n,agA a] [] (dskA (dskN n a N)) []:=by
 have c1:=gnew2_c n a hs hl
 unfold dskN
 obtain⟨sec,ri,cl,li,rq,se,ra,bu⟩:=a
 dsimp only at ha
 subst ha
 unfold agA rgA at c1
 unfold agA dskA dskX
 dsimp only at*
 generalize rgN n ⟨sec,ri,cl,li,rq,(N:Int),ra,bu⟩=r at*
 rcases hN with rfl|rfl
 all_goals
  (refine eN Tryz.func21 Tryz.call21 fun F hF=>?_)
  (have zc1:=c1;refine WW ?_;clear zc1)
  exact fr0
def w2 (p:Int×Int):List Int:=[p.1,p.2]
def w2L (ws:List (Int×Int)):List Int:=(ws.map w2).flatten
theorem w2L_len:∀ws:List (Int×Int),(w2L ws).length=2*ws.length
 | []=>rfl
 |x::l=>by
  have:=w2L_len l
  show(x.1::x.2::w2L l).length=_
  simp only[List.length_cons]
  omega
theorem w2L_app (a b:List (Int×Int)):w2L (a++b)=w2L a++w2L b:=by simp[w2L]
theorem w2_at (x:Int) (pre post:List (Int×Int)) (q:Int×Int) (I:Int) (hI:I=1+2*(pre.length:Int)):
  ((x::w2L (pre++q::post)).map iA)[I.toNat]? =some (iA q.1)∧((x::w2L (pre++q::post)).map iA)[(I+1).toNat]? =some (iA q.2):=by
 have h:(x::w2L (pre++q::post)).drop (1+2*pre.length)=w2L (q::post):=by
  rw[w2L_app,show 1+2*pre.length=2*pre.length+1 by omega,List.drop_succ_cons,List.drop_append_of_le_length (by rw[w2L_len];omega),List.drop_of_length_le (by rw[w2L_len];omega),List.nil_append]
 refine⟨?_,?_⟩<;>rw[List.getElem?_map]
 ·rw[show I.toNat=1+2*pre.length+0 by omega,at_drop h];rfl
 ·rw[show(I+1).toNat=1+2*pre.length+1 by omega,at_drop h];rfl
def upQ (l:List Rq) (id:Int) (ws:List (Int×Int)) (now:Int):List Rq:=if updE l id ws now=0 then updF l id ws now else []
theorem ask7_c (c:Cf) (d:Dsk) (tkn:List Int) (id slot now:Int) (ws:List (Int×Int)) (hv:RqV d.rq) (hw:ws.length≤3) (n0:0≤now) (n1:now≤1073741824):
  CallSim Tryz.prog 77 [cfA c,dskA d,msA ⟨7,tkn,id::w2L ws,[]⟩,iA slot,iA now] [] (.tup [slA rqA (upQ d.rq id ws now),iA (updE d.rq id ws now)]) []:=by
 have hu:=update_q d.rq id ws now hv (by omega) n0 n1
 have hll:((id::w2L ws).map iA).length=1+2*ws.length:=by simp[w2L_len];omega
 unfold upQ
 unfold cfA dskA dskX
 rw[show msA ⟨7,tkn,id::w2L ws,[]⟩= .agg [iA 7,slA yA tkn,slA iA (id::w2L ws),.sl false []]from rfl]
 generalize updE d.rq id ws now=e at*
 generalize updF d.rq id ws now=ul at*
 (refine eN Tryz.func77 Tryz.call77 fun F hF=>?_)
 (refine WW ?_)
 refine sim_virt 13 1001 2 rfl rfl rfl ?_
 (refine sim_whl (ws.length) [1001,6,7] [6,7] [4,6,7,12] [13,14,4,6,7,12] rfl (fun zn T U zs=>∃(pre:List (Int×Int)) (post:List (Int×Int)),(ws=pre++post∧zn=post.length)∧zs=⟨(13,.ref 1001 0 (pre.map wnA).length)::(14,iA (1+2*(pre.length:Int)))::T,(1001,.arr 2 (pre.map wnA) true)::U⟩) ?_;(conv=>whnf);refine⟨?_,?_⟩)
 ·exact⟨[],ws,⟨rfl,rfl⟩,rfl⟩
 ·rintro zn st ⟨pre,post,⟨hqs,hzn⟩,rfl⟩
  have hln:ws.length=pre.length+post.length:=by rw[hqs,List.length_append]
  have hpl:=map_len wnA pre
  cases post with
  |nil=>
   rw[List.append_nil]at hqs
   subst hqs
   rw[List.length_nil]at hln hzn
   generalize hI:1+2*(ws.length:Int)=I at*
   generalize (id::w2L ws).map iA=A at*
   (have zc1:=hu;have zf1:=(⟨⟩:FzD 123 [5,6,7] [58,59,60,61]);refine WW ?_;clear zc1 zf1)
   exact fr0
  |cons q post=>
   obtain⟨y0,y1⟩:=w2_at id pre post q _ rfl
   rw[←hqs]at y0 y1
   rw[List.length_cons]at hln hzn
   have hmp:((pre++[q]).map wnA)=pre.map wnA++[.agg [iA q.1,iA q.2]]:=by simp[wnA]
   have hI:0≤1+2*(pre.length:Int)∧1+2*(pre.length:Int)+2=1+2*((pre++[q]).length:Int)∧1+2*(pre.length:Int)+1<((id::w2L ws).map iA).length:=⟨by omega,by simp;omega,by omega⟩
   have hfin:ws=(pre++[q])++post:=by rw[hqs];simp
   generalize (id::w2L ws).map iA=A at*
   obtain⟨hI0,hI1,hI2⟩:=hI
   clear hqs
   generalize hqq:pre++[q]=pq at*
   generalize pre.map wnA=xs at*
   generalize 1+2*(pre.length:Int)=I at*
   (refine WW ?_)
   exact⟨post.length,by omega,pq,post,⟨hfin,rfl⟩,by rw[hmp,←hI1];rfl⟩
theorem upd2_c (d:Dsk) (tkn:List Int) (id now:Int) (ws:List (Int×Int)) (hv:RqV d.rq) (hw:ws.length≤3) (n0:0≤now) (n1:now≤1073741824):
  CallSim Tryz.prog 90 [dskA d,msA ⟨7,tkn,id::w2L ws,[]⟩,iA now] [] (.tup [dskA (dkQ d (if updE d.rq id ws now=0 then upQ d.rq id ws now else d.rq)),iA (updE d.rq id ws now)]) []:=by
 have hu:=update2_q d.rq id ws now hv (by omega) n0 n1
 have hll:((id::w2L ws).map iA).length=1+2*ws.length:=by simp[w2L_len];omega
 unfold upQ dkQ
 unfold dskA dskX
 rw[show msA ⟨7,tkn,id::w2L ws,[]⟩= .agg [iA 7,slA yA tkn,slA iA (id::w2L ws),.sl false []]from rfl]
 generalize updE d.rq id ws now=e at*
 generalize updF d.rq id ws now=ul at*
 (refine eN Tryz.func90 Tryz.call90 fun F hF=>?_)
 (refine WW ?_)
 refine sim_virt 8 1001 2 rfl rfl rfl ?_
 (refine sim_whl (ws.length) [1001,3,4,6] [3,4,6] [2,3,4,6] [8,9,2,3,4,6] rfl (fun zn T U zs=>∃(pre:List (Int×Int)) (post:List (Int×Int)),(ws=pre++post∧zn=post.length)∧zs=⟨(8,.ref 1001 0 (pre.map wnA).length)::(9,iA (1+2*(pre.length:Int)))::T,(1001,.arr 2 (pre.map wnA) true)::U⟩) ?_;(conv=>whnf);refine⟨?_,?_⟩)
 ·exact⟨[],ws,⟨rfl,rfl⟩,rfl⟩
 ·rintro zn st ⟨pre,post,⟨hqs,hzn⟩,rfl⟩
  have hln:ws.length=pre.length+post.length:=by rw[hqs,List.length_append]
  have hpl:=map_len wnA pre
  cases post with
  | nil=>
   rw[List.append_nil]at hqs
   subst hqs
   rw[List.length_nil]at hln hzn
   generalize hI:1+2*(ws.length:Int)=I at*
   rw[show(id::w2L ws).map iA=iA id::(w2L ws).map iA from rfl]at*
   generalize (w2L ws).map iA=A at*
   (refine WD ?_)
   refine sim_restrC [3,4,6] [2,3,4,6,8] rfl ?_
   (conv=>whnf)
   simp only[List.drop_zero,List.take_length]
   by_cases he:e=0
   ·subst he
    rw[if_pos rfl]at hu⊢
    (have zc1:=hu;refine WW ?_;clear zc1)
    exact fr0
   ·rw[if_neg he]at hu⊢
    (have zc1:=hu;refine WW ?_;clear zc1)
    exact fr0
  |cons q post=>
   obtain⟨y0,y1⟩:=w2_at id pre post q _ rfl
   rw[←hqs]at y0 y1
   rw[List.length_cons]at hln hzn
   have hmp:((pre++[q]).map wnA)=pre.map wnA++[.agg [iA q.1,iA q.2]]:=by simp[wnA]
   have hI:0≤1+2*(pre.length:Int)∧1+2*(pre.length:Int)+2=1+2*((pre++[q]).length:Int)∧1+2*(pre.length:Int)+1<((id::w2L ws).map iA).length:=⟨by omega,by simp;omega,by omega⟩
   have hfin:ws=(pre++[q])++post:=by rw[hqs];simp
   generalize (id::w2L ws).map iA=A at*
   obtain⟨hI0,hI1,hI2⟩:=hI
   clear hqs
   generalize hqq:pre++[q]=pq at*
   generalize pre.map wnA=xs at*
   generalize 1+2*(pre.length:Int)=I at*
   (refine WW ?_)
   exact⟨post.length,by omega,pq,post,⟨hfin,rfl⟩,by rw[hmp,←hI1];rfl⟩
theorem ask6_c (c:Cf) (d:Dsk) (tkn:List Int) (id v life slot now:Int) (qs:List Qd) (hb:DskB d) (hv:RqV d.rq) (s0:0≤slot) (s1:slot<(d.rg.tk.length:Int)) (hq:qs.length≤3) (hp:∀q∈qs,0≤q.j∧0≤q.p) (n0:0≤now) (n1:now≤1073741824):
  CallSim Tryz.prog 77 [cfA c,dskA d,msA ⟨6,tkn,id::v::life::q4L qs,[]⟩,iA slot,iA now] [] (.tup [slA rqA (dsL c d (d.rg.tk.getD slot.toNat default).cls id v life now qs),iA (dsE c d (d.rg.tk.getD slot.toNat default).cls id v life now qs)]) []:=by
 have h:=dsubmit_c c d id v life slot now qs hb hv s0 s1 hq hp n0 n1
 generalize dsE c d (d.rg.tk.getD slot.toNat default).cls id v life now qs=e at*
 generalize dsL c d (d.rg.tk.getD slot.toNat default).cls id v life now qs=ul at*
 rw[show slA iA (id::v::life::q4L qs)= .sl false (iA id::iA v::iA life::(q4L qs).map iA)from rfl]at h
 rw[show msA ⟨6,tkn,id::v::life::q4L qs,[]⟩= .agg [iA 6,slA yA tkn,.sl false (iA id::iA v::iA life::(q4L qs).map iA),.sl false []]from rfl]
 generalize (q4L qs).map iA=A at*
 unfold cfA dskA dskX at*
 (refine eN Tryz.func77 Tryz.call77 fun F hF=>?_)
 (have zc1:=h;refine WW ?_;clear zc1)
 exact fr0
theorem ask8_c (c:Cf) (d:Dsk) (tkn:List Int) (id slot now:Int) (hv:RqV d.rq):
  CallSim Tryz.prog 77 [cfA c,dskA d,msA ⟨8,tkn,[id],[]⟩,iA slot,iA now] [] (.tup [slA rqA (if hasQ d.rq id=true then canQ d.rq id else []),iA (if hasQ d.rq id=true then 0 else 12)]) []:=by
 have h:=cancel_q d.rq id hv
 generalize (if hasQ d.rq id=true then canQ d.rq id else [])=l at*
 generalize (if hasQ d.rq id=true then(0:Int)else 12)=e at*
 rw[show msA ⟨8,tkn,[id],[]⟩= .agg [iA 8,slA yA tkn,.sl false [iA id],.sl false []]from rfl]
 unfold cfA dskA dskX at*
 (refine eN Tryz.func77 Tryz.call77 fun F hF=>?_)
 (have zc1:=h;refine WW ?_;clear zc1)
 exact fr0
end
section
set_option maxRecDepth 4000
set_option maxHeartbeats 1000000
theorem gused_c (l:List Tk) (s:Int):CallSim Tryz.prog 153 [slA tkA l,iA s] [] (bA (usF l s)) []:=by
 have hl:=map_len tkA l
 unfold usF
 by_cases h1:0≤s
 ·by_cases h2:s<l.length
  ·have hy:=map_atI tkA l s h1 h2
   rw[decide_eq_true ⟨h1,h2⟩,Bool.true_and]
   (refine eN Tryz.func153 Tryz.call153 fun F hF=>?_)
   (refine WW ?_)
   exact fr0
  ·rw[decide_eq_false (by omega),Bool.false_and]
   (refine eN Tryz.func153 Tryz.call153 fun F hF=>?_)
   (refine WW ?_)
   exact fr0
 ·rw[decide_eq_false (by omega),Bool.false_and]
  (refine eN Tryz.func153 Tryz.call153 fun F hF=>?_)
  (refine WW ?_)
  exact fr0
theorem tbytes_c (g s:Int) (l:List Int) (hl:l.length≤1000000) (g0:0≤g) (g1:g<256) (s0:0≤s) (s1:s<256):CallSim Tryz.prog 189 [iA g,iA s,slA yA l] [] (slA yA (g::s::l)) []:=by
 have hll:=map_len yA l
 (refine eN Tryz.func189 Tryz.call189 fun F hF=>?_)
 (refine WW ?_)
 exact fin_ret [] rfl rfl (congrArg (AV.sl false) (List.take_of_length_le (by simp))) rfl
end
section
set_option maxRecDepth 4000
set_option maxHeartbeats 2000000
theorem shr7 (n:Int) (h:0≤n):shrI n 7=n/128:=by
 unfold shrI
 rw[Int.fdiv_eq_ediv_of_nonneg _ (by decide)]
 rfl
def P7:Nat→Int
 |0=>1
 |z+1=>128*P7 z
def hiB (n:Int):Int:=IntKind.u8.wrap ((BitVec.ofInt IntKind.u8.bits (IntKind.u8.wrap (andI n 127)) ||| BitVec.ofInt IntKind.u8.bits 128).toNat)
def vbN:Nat→Int→List Int
 |0,n=>[n]
 |z+1,n=>if 128≤n then hiB n::vbN z (n/128)else [n]
theorem vbN_len:∀z n,(vbN z n).length≤z+1
 |0,n=>Nat.le_refl _
 | z+1,n=>by
  unfold vbN
  split
  ·have:=vbN_len z (n/128)
   simp only[List.length_cons];omega
  ·simp
theorem vbN_end (z:Nat) (n:Int) (h:n<128):vbN z n=[n]:=by
 cases z with
 |zero=>rfl
 |succ z=>unfold vbN;rw[if_neg (by omega)]
def vbF (n:Int):List Int:=if 0≤n∧n≤4294967295 then vbN 5 n else []
def veF (n:Int):Int:=if 0≤n∧n≤4294967295 then 0 else 8
theorem vbF_len (n:Int):(vbF n).length≤6:=by
 unfold vbF;split
 ·exact vbN_len 5 n
 ·simp
theorem vint_x (n:Int):CallSim Tryz.prog 215 [iA n] [] (.tup [slA yA (vbF n),iA (veF n)]) []:=by
 unfold vbF veF
 by_cases h1:0≤n
 case neg=>
  rw[if_neg (fun h=>h1 h.1),if_neg (fun h=>h1 h.1)]
  (refine eN Tryz.func215 Tryz.call215 fun F hF=>?_)
  (refine WW ?_)
  exact fr0
 by_cases h2:n≤4294967295
 case neg=>
  rw[if_neg (fun h=>h2 h.2),if_neg (fun h=>h2 h.2)]
  (refine eN Tryz.func215 Tryz.call215 fun F hF=>?_)
  (refine WW ?_)
  exact fr0
 rw[if_pos ⟨h1,h2⟩,if_pos ⟨h1,h2⟩]
 (refine eN Tryz.func215 Tryz.call215 fun F hF=>?_)
 (refine WW ?_)
 refine sim_stale 11 rfl ?_
 (refine sim_whl (5) [11] [] [] [0,4] rfl (fun zn T U zs=>∃(acc:List Int) (x:Int),(0≤x∧x<P7 zn*128∧acc++vbN zn x=vbN 5 n∧acc.length≤100)∧zs=⟨(0,iA x)::(4,.ref 11 0 (acc.map yA).length)::T,(11,.arr 1 (acc.map yA) true)::U⟩) ?_;(conv=>whnf);refine⟨?_,?_⟩)
 ·exact⟨[],n,⟨h1,by show n<34359738368*128;omega,rfl,by simp⟩,rfl⟩
 ·rintro zn st ⟨acc,x,⟨b1,b2,b3,b4⟩,rfl⟩
  have hla:=map_len yA acc
  by_cases hx:128≤x
  ·have hz:zn≠0:=fun e=>by
    subst e
    have:P7 0=1:=rfl
    omega
   obtain⟨z,rfl⟩:∃z,zn=z+1:=⟨zn-1,by omega⟩
   have e:=shr7 x b1
   have hP:P7 (z+1)=128*P7 z:=rfl
   have e2:vbN (z+1) x=hiB x::vbN z (x/128):=by
    show(if 128≤x then _ else _)=_
    rw[if_pos hx]
   rw[e2]at b3
   have hm:(acc++[hiB x]).map yA=acc.map yA++[yA (hiB x)]:=by simp
   have hb5:acc++[hiB x]++vbN z (shrI x 7)=vbN 5 n:=by rw[e,List.append_assoc];exact b3
   have hx2:0≤shrI x 7∧shrI x 7<P7 z*128:=by rw[e];rw[hP]at b2;omega
   have hlc:acc.length+1≤100:=by
    have h6:=congrArg List.length b3
    have h7:=vbN_len 5 n
    simp only[List.length_append,List.length_cons]at h6
    omega
   clear e2 b3 hP
   (repeat' (first|refine WZ ?_|refine SG (I2 (fun hc=>?_) (fun hc=>?_))|refine SG (fun hc=>?_)|(refine is_ops ?_;refine is_call ?_;fail)|(refine is_ops ?_;first|(refine is_bin ?_;refine x_q (stp_or rfl rfl) rfl ?_))|first|refine SR ?_|refine SK (I2 (fun hc=>?_) (fun hc=>?_))|refine SK (fun hc=>?_)|fail))
   exact⟨z,by omega,acc++[hiB x],shrI x 7,⟨hx2.1,hx2.2,hb5,by simpa using hlc⟩,by rw[hm];rfl⟩
  ·rw[vbN_end zn x (by omega)]at b3
   rw[←b3]
   have hm:slA yA (acc++[x])= .sl false ((acc.map yA++[yA (x)]).take (acc.map yA++[yA (x)]).length):=by rw[List.take_length];unfold slA;rw[List.map_append];rfl
   rw[hm]
   (refine WW ?_)
   exact fr0
end
end Av
end Go.Proofs.YtaikgchmpieooaaGreat
