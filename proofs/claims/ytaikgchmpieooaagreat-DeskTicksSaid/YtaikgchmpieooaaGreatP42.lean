/- Part 42: contracts of the functions, and what they rest upon. -/
import Derived.Test.YtaikgchmpieooaaGreatP41
import Derived.Test.YtaikgchmpieooaaGreatP33
namespace Go.Proofs.YtaikgchmpieooaaGreat
namespace Av
set_option linter.unusedSimpArgs false
set_option linter.unusedVariables false
section
set_option maxRecDepth 4000
set_option maxHeartbeats 4000000
def LgIn (c:Cf) (l:List Rq):Prop:=∀r∈l,∀g∈r.legs,g.jn<(c.js.length:Int)∧g.ph<((c.js.getD g.jn.toNat default).ph.length:Int)
structure DskI (c:Cf) (d:Dsk):Prop where
 b:RgB d.rg
 v:RqV d.rq
 q:(d.rq.length:Int)≤d.rg.ag.req
 lg:LgIn c d.rq
 a:AgV d.rg.ag
 n:0≤d.rg.num∧d.rg.num<4
 t8:d.rg.tk.length=8
 br:d.rg.bk.rate=d.rg.ag.rate
 bb:d.rg.bk.burst=d.rg.ag.burst
 bl:0≤d.rg.bk.level∧d.rg.bk.level≤d.rg.ag.burst
 au:(d.au.length:Int)=d.rg.ag.ses
 dn:d.dr.length≤1000
 dr:∀x∈d.dr,x.length=8
 vh:d.rg.vh.length≤9
theorem DskI.bd {c:Cf} {d:Dsk} (h:DskI c d):DskB d:=
 ⟨h.b,by have:=h.v.n4;omega,fun r hr=>by have:=h.v.lg3 hr;omega,h.dn,fun x hx=>by have:=h.dr x hx;omega,by have:=h.au;have:=h.a.e;omega⟩
theorem q4_of:∀(n:Nat) (l:List Int),l.length=4*n→∃qs:List Qd,l=q4L qs∧qs.length=n
 |0,l,h=>⟨[],List.eq_nil_of_length_eq_zero (by omega),rfl⟩
 |n+1,a::b::c::e::l,h=>by
  obtain⟨qs,h1,h2⟩:=q4_of n l (by simp only[List.length_cons]at h;omega)
  exact⟨⟨a,b,c,e⟩::qs,by rw[h1];rfl,by rw[List.length_cons,h2]⟩
 |n+1,[],h=>by simp at h
 |n+1,[_],h=>by simp at h;omega
 |n+1,[_,_],h=>by simp at h;omega
 |n+1,[_,_,_],h=>by simp at h;omega
theorem w2_of:∀(n:Nat) (l:List Int),l.length=2*n→∃ws:List (Int×Int),l=w2L ws∧ws.length=n
 |0,l,h=>⟨[],List.eq_nil_of_length_eq_zero (by omega),rfl⟩
 |n+1,a::b::l,h=>by
  obtain⟨ws,h1,h2⟩:=w2_of n l (by simp only[List.length_cons]at h;omega)
  exact⟨(a,b)::ws,by rw[h1];rfl,by rw[List.length_cons,h2]⟩
 |n+1,[],h=>by simp at h
 |n+1,[_],h=>by simp at h;omega
theorem dc_some {fx gr:Nat} {p a:List Int} (hb:BY p) (h:dcF fx gr p=some a):p.length≤200∧10≤p.length∧(∀x∈a,0≤x∧x≤4294967295)∧(gr=0→a.length=fx)∧(gr≠0→∃c:Nat,1≤c∧c≤3∧a.length=fx+c*gr):=by
 unfold dcF at h
 by_cases hl:200<p.length∨p.length<10
 ·rw[if_pos hl]at h;cases h
 rw[if_neg hl]at h
 have hbd:BY (p.drop 10):=fun x hx=>hb x (List.mem_of_mem_drop hx)
 cases h1:nbF fx (p.drop 10)with
 |none=>rw[h1]at h;cases h
 | some ar=>
  obtain⟨a1,r1⟩:=ar
  rw[h1]at h
  obtain⟨l1,b1,v1,_⟩:=nbF_ok fx _ a1 r1 hbd h1
  dsimp only at h
  by_cases hg:gr=0
  ·rw[if_pos hg]at h
   by_cases hr:r1=[]
   ·rw[if_pos hr]at h
    cases h
    exact⟨by omega,by omega,v1,fun _=>l1,fun h=>absurd hg h⟩
   ·rw[if_neg hr]at h;cases h
  ·rw [if_neg hg]at h
   cases h2:nbF 1 r1 with
   |none=>rw[h2]at h;cases h
   | some cr=>
    obtain⟨c1,r2⟩:=cr
    rw[h2]at h
    obtain⟨l2,b2,v2,_⟩:=nbF_ok 1 _ c1 r2 b1 h2
    dsimp only at h
    by_cases hc:c1.getD 0 0<1∨3<c1.getD 0 0
    ·rw[if_pos hc]at h;cases h
    rw[if_neg hc]at h
    cases h3:nbF ((c1.getD 0 0).toNat*gr) r2 with
    |none=>rw[h3]at h;cases h
    | some fr=>
     obtain⟨f1,r3⟩:=fr
     rw[h3]at h
     obtain⟨l3,b3,v3,_⟩:=nbF_ok _ _ f1 r3 b2 h3
     dsimp only at h
     by_cases hr:r3=[]
     ·rw[if_pos hr]at h
      cases h
      refine⟨by omega,by omega,fun x hx=>?_,fun h=>absurd h hg,fun _=>⟨(c1.getD 0 0).toNat,by omega,by omega,by rw[List.length_append,l1,l3]⟩⟩
      rw[List.mem_append]at hx
      exact hx.elim (v1 x) (v3 x)
     ·rw[if_neg hr]at h;cases h
def Opn (d:Dsk) (i:It) (now:Int) (a:List Int):Prop:=i.code=0∧1≤i.kind∧i.kind≤12∧dcF (fixF i.kind) (grpF i.kind) i.pay=some a∧opE d.rg ⟨i.kind,i.pay.take 10,a,[]⟩ now=0
def opD (d:Dsk) (i:It) (now:Int) (a:List Int):Dsk:=dkR' d (opR d.rg ⟨i.kind,i.pay.take 10,a,[]⟩ now)
def HdBoth (c:Cf) (d:Dsk) (s:Int) (i:It) (now:Int) (h:Hd):Prop:=
 CallSim Tryz.prog 16 [cfA c,dskA d,iA s,itA i,iA now] [] (hdT d.rg.num i.kind h) []∧HRc c d s now i h
def RpF (d:Dsk) (i:It) (now:Int) (a:List Int) (h:Hd):Prop:=
 (i.kind=1∧h.p=helloM d now∧h.d=d)∨(i.kind=9∧h.p=listM d∧h.d=d)∨(i.kind=12∧h.p=leftM d∧h.d=d)∨
 (i.kind=2∧∃(k:Nat) (sec:List Int),k<8∧sec.length=8∧h.p=⟨16,[],[(k:Int)],d.rg.num::(k:Int)::sec⟩)∨
 ((3≤i.kind∧i.kind≤8∨i.kind=10∨i.kind=11)∧∃x,0≤x∧x≤4294967295∧h.p=ackM i.kind x)
def T0 (d:Dsk):Prop:=d.rg.tk.getD 0 default=⟨true,d.rg.ag.sec,-1,d.rg.ag.rights,d.rg.ag.cls,0⟩
theorem T0.of {d d':Dsk} (h1:d'.rg.tk=d.rg.tk) (h2:d'.rg.ag=d.rg.ag) (h:T0 d):T0 d':=by
 unfold T0 at*
 rw[h1,h2]
 exact h
structure HdP (c:Cf) (d:Dsk) (s:Int) (i:It) (now:Int) (h:Hd):Prop where
 inv:DskI c h.d
 ag:h.d.rg.ag=d.rg.ag
 num:h.d.rg.num=d.rg.num
 no:h.e≠0→h.k= -1∧h.p=faultM i.kind h.e∧(h.d=d∨∃a,Opn d i now a∧h.d=opD d i now a)
 yes:h.e=0→∃a,Opn d i now a∧RpF d i now a h
 rst:h.k= -1∨(i.kind=11∧0≤h.k∧h.k<(c.js.length:Int))
 dl:h.d.dr.length≤d.dr.length
 t0:T0 d→T0 h.d
theorem opR_ok {r:Rg} {m:Ms} {now:Int} (h:opE r m now=0):opR r m now=⟨r.num,r.ag,r.tk,r.vh,if costs m.kind=true then tak1 r.bk else r.bk⟩∧ckB r.tk r.num m.tok m.kind now=true∧(costs m.kind=true→0<r.bk.level)∧opS r m now=m.tok.getD 1 default:=by
 have h1:ckB r.tk r.num m.tok m.kind now=true:=by
  cases hc:ckB r.tk r.num m.tok m.kind now with
  |true=>rfl
  |false=>rw[opE,hc,if_neg Bool.false_ne_true]at h;omega
 refine⟨?_,h1,fun hk=>?_,by rw[opS,if_pos h]⟩
 ·rw[opR,if_pos h]
  split<;>rfl
 ·rw[opE,if_pos h1]at h
  by_cases hl:r.bk.level≤0
  ·rw[if_pos ⟨hk,hl⟩]at h;omega
  ·omega
theorem opD_i {c:Cf} {d:Dsk} (hI:DskI c d) {i:It} {now:Int} {a:List Int} (h:Opn d i now a):DskI c (opD d i now a):=by
 obtain⟨h1,_,h3,_⟩:=opR_ok h.2.2.2.2
 unfold opD dkR'
 rw[h1]
 have hl:=hI.bl
 refine⟨⟨hI.b.tk,hI.b.s,hI.b.l,hI.b.v⟩,hI.v,hI.q,hI.lg,hI.a,hI.n,hI.t8,?_,?_,?_,hI.au,hI.dn,hI.dr,hI.vh⟩
 ·dsimp only;split
  ·unfold tak1;split
   ·exact hI.br
   ·exact hI.br
  ·exact hI.br
 ·dsimp only;split
  ·unfold tak1;split
   ·exact hI.bb
   ·exact hI.bb
  ·exact hI.bb
 ·dsimp only;split
  ·rename_i hk
   have:=h3 hk
   unfold tak1;split
   ·exact hl
   ·dsimp only;omega
  ·exact hl
theorem opD_same {d:Dsk} {i:It} {now:Int} {a:List Int} (h:Opn d i now a) (hk:i.kind=1∨9≤i.kind):opD d i now a=d:=by
 obtain⟨h1,_,_,_⟩:=opR_ok h.2.2.2.2
 unfold opD dkR'
 rw[h1,if_neg (fun h=>by unfold costs at h;rw[decide_eq_true_eq]at h;dsimp only at h;omega)]
theorem hdM_no {ki:Int} {d:Dsk} {p:Ms} {k e:Int} (h:e≠0):hdM ki d p k e=⟨d,faultM ki e,-1,e⟩:=if_neg h
theorem hdM_yes {ki:Int} {d:Dsk} {p:Ms} {k:Int}:hdM ki d p k 0=⟨d,p,k,0⟩:=if_pos rfl
theorem hd_no {c:Cf} {d:Dsk} {s now:Int} {i:It} (hI:DskI c d) {e:Int} (he:e≠0) (p:Ms) (d':Dsk) (hd:d'=d∨∃a,Opn d i now a∧d'=opD d i now a)
  (h1:CallSim Tryz.prog 44 [cfA c,dskA d,iA s,itA i,iA now] [] (hT d' p (-1) e) []) (h2:HRc c d s now i ⟨d',faultM i.kind e,-1,e⟩):∃h,HdBoth c d s i now h∧HdP c d s i now h:=by
 have hi:DskI c d'∧d'.rg.ag=d.rg.ag∧d'.rg.num=d.rg.num∧d'.dr=d.dr∧d'.rg.tk=d.rg.tk:=by
  rcases hd with rfl|⟨a,ho,rfl⟩
  ·exact⟨hI,rfl,rfl,rfl,rfl⟩
  ·refine⟨opD_i hI ho,?_,?_,?_,?_⟩<;>(unfold opD dkR';rw[(opR_ok ho.2.2.2.2).1])
 have h3:=HP_of c d s now i hI.bd d' p (-1) e h1
 rw[hdM_no he,hi.2.2.1]at h3
 exact⟨⟨d',faultM i.kind e,-1,e⟩,⟨h3,h2⟩,hi.1,hi.2.1,hi.2.2.1,fun _=>⟨rfl,rfl,hd⟩,fun h=>absurd h he,.inl rfl,by rw[hi.2.2.2.1];exact Nat.le_refl _,T0.of hi.2.2.2.2 hi.2.1⟩
theorem hd_yes {c:Cf} {d:Dsk} {s now:Int} {i:It} (hI:DskI c d) (a:List Int) (ho:Opn d i now a) (p:Ms) (k:Int) (d':Dsk) (hi:DskI c d') (ha:d'.rg.ag=d.rg.ag) (hn:d'.rg.num=d.rg.num)
  (hr:RpF d i now a ⟨d',p,k,0⟩) (hk:k= -1∨(i.kind=11∧0≤k∧k<(c.js.length:Int))) (hdl:d'.dr.length≤d.dr.length) (ht0:T0 d→T0 d')
  (h1:CallSim Tryz.prog 44 [cfA c,dskA d,iA s,itA i,iA now] [] (hT d' p k 0) []) (h2:HRc c d s now i ⟨d',p,k,0⟩):∃h,HdBoth c d s i now h∧HdP c d s i now h:=by
 have h3:=HP_of c d s now i hI.bd d' p k 0 h1
 rw[hdM_yes,hn]at h3
 exact⟨⟨d',p,k,0⟩,⟨h3,h2⟩,hi,ha,hn,fun h=>absurd rfl h,fun _=>⟨a,ho,hr⟩,hk,hdl,ht0⟩
end
section
set_option maxRecDepth 4000
set_option maxHeartbeats 4000000
theorem q4_mem:∀{qs:List Qd} {q:Qd},q∈qs→q.j∈q4L qs∧q.p∈q4L qs∧q.f∈q4L qs∧q.t∈q4L qs
 | x::l,q,h=>by
  rw[show q4L (x::l)=x.j::x.p::x.f::x.t::q4L l from rfl]
  rcases List.mem_cons.1 h with rfl|h
  ·simp
  ·obtain⟨h1,h2,h3,h4⟩:=q4_mem h
   simp[h1,h2,h3,h4]
theorem zw_mem {α β γ:Type} {f:α→β→γ}:∀{a:List α} {b:List β} {g:γ},g∈a.zipWith f b→∃x∈a,∃y,g=f x y
 | x::a,y::b,g,h=>by
  rw[List.zipWith_cons_cons]at h
  rcases List.mem_cons.1 h with rfl|h
  ·exact⟨x,by simp,y,rfl⟩
  ·obtain⟨z,hz,w,e⟩:=zw_mem h
   exact⟨z,by simp[hz],w,e⟩
 | [],_,_,h=>by simp at h
 |_::_,[],_,h=>by simp at h
theorem insQ_len (l:List Rq) (r:Rq):(insQ l r).length=l.length+1:=by
 have:=qpl_le l r.id
 unfold insQ
 rw[List.length_append,List.length_cons,List.length_take,List.length_drop]
 omega
theorem mwF_ok {j p f t now:Int} (h:mwB j p f t now=true):(mwF j p f t now).jn=j∧(mwF j p f t now).ph=p:=by
 unfold mwF;rw[if_pos h];exact⟨rfl,rfl⟩
theorem lg_mw {c:Cf} {now:Int} {qs:List Qd} (h:qs.all (lgOk c now)=true):∀g∈qs.map (mwQ now),g.jn<(c.js.length:Int)∧g.ph<((c.js.getD g.jn.toNat default).ph.length:Int):=by
 intro g hg
 rw[List.mem_map]at hg
 obtain⟨q,hq,rfl⟩:=hg
 have h1:=List.all_eq_true.1 h q hq
 unfold lgOk at h1
 simp only[Bool.and_eq_true,decide_eq_true_eq]at h1
 obtain⟨h2,h3,h4⟩:=h1
 obtain⟨e1,e2⟩:=mwF_ok h4
 unfold mwQ
 rw[e1,e2]
 exact⟨h2,h3⟩
theorem su_0 {l:List Rq} {q id life:Int} {x:List Lg} (h:suE l q id life x=0):(l.length:Int)<q∧(l.length:Int)<4:=by
 unfold suE at h
 split at h
 ·omega
 ·split at h
  ·omega
  ·split at h
   ·omega
   ·omega
theorem ds_0 {c:Cf} {d:Dsk} {cls id v life now:Int} {qs:List Qd} (h:dsE c d cls id v life now qs=0):vokB (findV d.rg.vh v)=true∧qs.all (lgOk c now)=true∧suE d.rq d.rg.ag.req id life (qs.map (mwQ now))=0:=by
 unfold dsE sxE at h
 split at h
 ·split at h
  ·omega
  ·split at h
   ·rename_i ha
    split at h
    ·split at h
     ·rename_i hv
      exact⟨hv,ha,h⟩
     ·omega
    ·omega
   ·omega
 ·omega
theorem ds_i {c:Cf} {d:Dsk} (hI:DskI c d) {cls id v life now:Int} {qs:List Qd} (n0:0≤now) (n1:now≤1073741824) (h:dsE c d cls id v life now qs=0):DskI c (dkQ d (dsL c d cls id v life now qs)):=by
 obtain⟨hv,ha,hs⟩:=ds_0 h
 unfold vokB at hv
 rw[decide_eq_true_eq]at hv
 have hl:=su_0 hs
 unfold dkQ dsL
 rw[if_pos h]
 refine⟨hI.b,insQ_v hI.v hs hv.1.1 hv.1.2 hv.2.1 hv.2.2 n0 n1,?_,fun r hr g hg=>?_,hI.a,hI.n,hI.t8,hI.br,hI.bb,hI.bl,hI.au,hI.dn,hI.dr,hI.vh⟩
 ·dsimp only;rw[insQ_len];omega
 ·rcases insQ_mem hr with rfl|hr
  ·exact lg_mw ha g hg
  ·exact hI.lg r hr g hg
theorem up_i {c:Cf} {d:Dsk} (hI:DskI c d) {id now:Int} {ws:List (Int×Int)} (h:updE d.rq id ws now=0):DskI c (dkQ d (upQ d.rq id ws now)):=by
 unfold dkQ upQ
 rw[if_pos h]
 have hl:(updF d.rq id ws now).length=d.rq.length:=by unfold updF;rw[List.length_map]
 refine⟨hI.b,updF_v hI.v h,?_,fun r hr g hg=>?_,hI.a,hI.n,hI.t8,hI.br,hI.bb,hI.bl,hI.au,hI.dn,hI.dr,hI.vh⟩
 ·dsimp only;rw[hl];exact hI.q
 ·dsimp only at hr
  unfold updF at hr
  rw[List.mem_map]at hr
  obtain⟨r0,hr0,rfl⟩:=hr
  split at hg
  ·obtain⟨x,hx,y,rfl⟩:=zw_mem hg
   exact hI.lg r0 hr0 x hx
  ·exact hI.lg r0 hr0 g hg
theorem fl_i {c:Cf} {d:Dsk} (hI:DskI c d) (p:Rq→Bool):DskI c (dkQ d (d.rq.filter p)):=by
 have hl:=List.length_filter_le p d.rq
 have hq:=hI.q
 refine⟨hI.b,hI.v.filter p,?_,fun r hr g hg=>hI.lg r ((List.mem_filter.1 hr).1) g hg,hI.a,hI.n,hI.t8,hI.br,hI.bb,hI.bl,hI.au,hI.dn,hI.dr,hI.vh⟩
 show((d.rq.filter p).length:Int)≤d.rg.ag.req
 omega
theorem dg_i {c:Cf} {d:Dsk} (hI:DskI c d) {m:Ms} {sec:List Int} {r':Rg} {p:Ms} {u:Bool} (hb:RgB r') (hP:DoP d.rg m sec r' p u 0):DskI c (dgD d m r' u 0)∧(dgD d m r' u 0).rg.ag=d.rg.ag∧(dgD d m r' u 0).rg.num=d.rg.num∧(dgD d m r' u 0).dr.length≤d.dr.length∧(T0 d→T0 (dgD d m r' u 0)):=by
 have hdr:(if u=true then d.dr.drop 1 else d.dr).length≤1000∧∀x∈(if u=true then d.dr.drop 1 else d.dr),x.length=8:=by
  split
  ·exact⟨by have:=hI.dn;rw[List.length_drop];omega,fun x hx=>hI.dr x (List.mem_of_mem_drop hx)⟩
  ·exact⟨hI.dn,hI.dr⟩
 have hrq:RqV (if m.kind=5 then witQ d.rq (m.args.getD 0 0)else d.rq)∧((if m.kind=5 then witQ d.rq (m.args.getD 0 0)else d.rq).length:Int)≤d.rg.ag.req∧LgIn c (if m.kind=5 then witQ d.rq (m.args.getD 0 0)else d.rq):=by
  split
  ·have h:=fl_i hI (fun x=>x.vh != m.args.getD 0 0)
   exact⟨h.v,h.q,h.lg⟩
  ·exact⟨hI.v,hI.q,hI.lg⟩
 have hdd:(if u=true then d.dr.drop 1 else d.dr).length≤d.dr.length:=by
  split
  ·rw[List.length_drop];omega
  ·exact Nat.le_refl _
 unfold dgD
 rw[if_pos rfl]
 rcases hP.2 rfl with⟨o,ho,hT,rfl,_⟩|⟨o,ho,rfl,_⟩
 ·refine⟨⟨hb,hrq.1,hrq.2.1,hrq.2.2,hI.a,hI.n,ho,hI.br,hI.bb,hI.bl,hI.au,hdr.1,hdr.2,hI.vh⟩,rfl,rfl,hdd,fun h=>?_⟩
  unfold T0 at h⊢
  exact(hT (by rw[h]) (by rw[h])).trans h
 ·exact⟨⟨hb,hrq.1,hrq.2.1,hrq.2.2,hI.a,hI.n,hI.t8,hI.br,hI.bb,hI.bl,hI.au,hdr.1,hdr.2,ho⟩,rfl,rfl,hdd,fun h=>h⟩
theorem opD_ag {d:Dsk} {i:It} {now:Int} {a:List Int} (ho:Opn d i now a):(opD d i now a).rg.ag=d.rg.ag∧(opD d i now a).rg.num=d.rg.num∧(opD d i now a).rg.tk=d.rg.tk∧(opD d i now a).rq=d.rq∧(opD d i now a).dr=d.dr∧(opD d i now a).au=d.au:=by
 unfold opD dkR'
 rw[(opR_ok ho.2.2.2.2).1]
 exact⟨rfl,rfl,rfl,rfl,rfl,rfl⟩
theorem ck_slot {l:List Tk} {g:Int} {b:List Int} {k now:Int} (h:ckB l g b k now=true):usF l (b.getD 1 default)=true:=by
 unfold ckB at h
 simp only[Bool.and_eq_true]at h
 exact h.1.2
theorem handle_ex (c:Cf) (d:Dsk) (hI:DskI c d) (s now:Int) (n0:0≤now) (n1:now≤1073741824) (i:It) (hby:BY i.pay) (hlen:i.pay.length≤100000):∃h,HdBoth c d s i now h∧HdP c d s i now h:=by
 by_cases hc:i.code=0
 case neg=>exact hd_no hI hc ms0 d (.inl rfl) (hP_code c d s now i hc) (HR_code c d s now hI.bd i hc)
 by_cases hk:1≤i.kind∧i.kind≤12
 case neg=>exact hd_no hI (by decide) ms0 d (.inl rfl) (hP_kind c d s now i hc hk) (HR_kind c d s now hI.bd i hc hk)
 obtain⟨h0,h1⟩:=hk
 have k2:=decode_c i.kind h0 h1 i.pay hby hlen
 have r2:=decode2_c i.kind h0 h1 i.pay hby hlen
 have hii:i=⟨0,i.kind,i.pay⟩:=by cases i;simp_all
 cases hd:dcF (fixF i.kind) (grpF i.kind) i.pay with
 |none=>
  rw[hd]at k2 r2
  have q1:=hP_form c d s now i.kind i.pay h0 h1 k2
  have q2:=HR_form c d s now hI.bd i.kind i.pay h0 h1 r2
  rw[←hii]at q1 q2
  exact hd_no hI (by decide) ms0 d (.inl rfl) q1 q2
 |some ar=>
 rw[hd]at k2 r2
 obtain⟨_,hl10,hv,hg0,hg1⟩:=dc_some hby hd
 have hbt:BY (i.pay.take 10):=fun x hx=>hby x (List.mem_of_mem_take hx)
 have hlv:d.rg.bk.level≤1000000:=by have:=hI.bl;have:=hI.a.b;omega
 have k3:=open_c d.rg ⟨i.kind,i.pay.take 10,ar,[]⟩ now hI.b hbt hlv
 have r3:=open2_c d.rg ⟨i.kind,i.pay.take 10,ar,[]⟩ now hI.b hbt hlv
 by_cases ho:opE d.rg ⟨i.kind,i.pay.take 10,ar,[]⟩ now=0
 case neg=>
  have q1:=hP_open c d s now i.kind i.pay (i.pay.take 10) ar h0 h1 k2 _ _ _ ho k3
  have q2:=HR_open c d s now hI.bd i.kind i.pay (i.pay.take 10) ar h0 h1 r2 _ _ _ ho r3
  rw[←hii]at q1 q2
  exact hd_no hI ho ms0 d (.inl rfl) q1 q2
 have hO:Opn d i now ar:=⟨hc,h0,h1,hd,ho⟩
 obtain⟨_,hck,_,hsl⟩:=opR_ok ho
 rw[ho,hsl]at k3 r3
 have hus:=ck_slot hck
 dsimp only at hsl hus
 generalize (i.pay.take 10).getD 1 default=sl at*
 have hI1:=opD_i hI hO
 obtain⟨ea,en,et,eq,er,eu⟩:=opD_ag hO
 have hs0:0≤sl∧sl<(d.rg.tk.length:Int):=by
  unfold usF at hus
  rw[Bool.and_eq_true,decide_eq_true_eq]at hus
  exact hus.1
 have hsd:opD d i now ar=dkR' d (opR d.rg ⟨i.kind,i.pay.take 10,ar,[]⟩ now):=rfl
 generalize opR d.rg ⟨i.kind,i.pay.take 10,ar,[]⟩ now=r1 at*
 have tl:(i.pay.take 10).length≤1000:=by rw[List.length_take];omega
 have NO:∀(e:Int),e≠0→∀(p p2:Ms) (k2':Int),CallSim Tryz.prog 44 [cfA c,dskA d,iA s,itA ⟨0,i.kind,i.pay⟩,iA now] [] (hT (dkR' d r1) p (-1) e) []→
   CallSim Tryz.prog 48 [cfA c,dskA (dkR' d r1),iA s,msA ⟨i.kind,i.pay.take 10,ar,[]⟩,iA sl,iA now] [] (hT (dkR' d r1) p2 k2' e) []→∃h,HdBoth c d s i now h∧HdP c d s i now h:=by
  intro e he p p2 k2' q1 q2
  have q3:=HR_do c d s now hI.bd i.kind i.pay _ ar h0 h1 r2 r1 sl r3 (dkR' d r1) (hsd▸hI1.bd) p2 k2' e q2
  rw[hdM_no he]at q3
  rw[←hii]at q1 q3
  exact hd_no hI he p _ (.inr ⟨ar,hO,hsd.symm⟩) q1 q3
 have YES:∀(d':Dsk) (p:Ms) (k:Int),DskI c d'→d'.rg.ag=d.rg.ag→d'.rg.num=d.rg.num→RpF d i now ar ⟨d',p,k,0⟩→(k= -1∨(i.kind=11∧0≤k∧k<(c.js.length:Int)))→d'.dr.length≤d.dr.length→(T0 d→T0 d')→CallSim Tryz.prog 44 [cfA c,dskA d,iA s,itA ⟨0,i.kind,i.pay⟩,iA now] [] (hT d' p k 0) []→
   CallSim Tryz.prog 48 [cfA c,dskA (dkR' d r1),iA s,msA ⟨i.kind,i.pay.take 10,ar,[]⟩,iA sl,iA now] [] (hT d' p k 0) []→∃h,HdBoth c d s i now h∧HdP c d s i now h:=by
  intro d' p k hi ha hn hr hk hdl ht0 q1 q2
  have q3:=HR_do c d s now hI.bd i.kind i.pay _ ar h0 h1 r2 r1 sl r3 d' hi.bd p k 0 q2
  rw[hdM_yes]at q3
  rw[←hii]at q1 q3
  exact hd_yes hI ar hO p k d' hi ha hn hr hk hdl ht0 q1 q3
 rw[hsd]at hI1 ea en et eq er eu
 have hgk:grpF i.kind=0∨grpF i.kind≠0:=by omega
 have hcs:i.kind=1∨(i.kind=2∨i.kind=3∨i.kind=4∨i.kind=5)∨i.kind=6∨i.kind=7∨i.kind=8∨i.kind=9∨i.kind=10∨i.kind=11∨i.kind=12:=by omega
 rcases hcs with hk|hk|hk|hk|hk|hk|hk|hk|hk
 ·
  have hal:ar=[]:=List.eq_nil_of_length_eq_zero (by rw[hg0 (by rw[hk];rfl),hk];rfl)
  subst hal
  have hsame:=opD_same hO (.inl hk)
  rw[hsd]at hsame
  rw[hsame]at hI1
  have q1:=hP_tell c d s now i.kind i.pay _ [] h0 h1 k2 r1 sl k3 (.inl hk) (helloM d now) (by rw[hsame,hk];exact tellHello_c d now)
  have q2:=rD_hello c d s now (i.pay.take 10) sl
  rw[hsame]at q1
  refine YES d _ _ hI1 rfl rfl (.inl ⟨hk,rfl,rfl⟩) (.inl rfl) (Nat.le_refl _) id q1 ?_
  rw[hsame,hk]
  exact q2
 ·
  obtain⟨a,ar1,har⟩:∃a ar1,ar=a::ar1:=by
   cases ar with
   |nil=>exfalso;have:=hg0 (by rcases hk with hk|hk|hk|hk<;>rw[hk]<;>rfl);rcases hk with hk|hk|hk|hk<;>rw[hk]at this<;>cases this
   |cons a ar1=>exact⟨a,ar1,rfl⟩
  have hal:ar.length≤1000:=by have:=hg0 (by rcases hk with hk|hk|hk|hk<;>rw[hk]<;>rfl);have:=fixF_3 i.kind;omega
  have hm:MsB ⟨i.kind,i.pay.take 10,ar,[]⟩:=⟨tl,hal,Nat.zero_le _⟩
  have hsec:(secD (dkR' d r1)).length≤1000:=by
   unfold secD dkR';dsimp only
   cases hdr:d.dr with
   |nil=>simp
   |cons b bs=>have:=hI.dr b (by rw[hdr];simp);simp;omega
  have hvh:r1.vh.length≤1000:=by have:=hI1.vh;exact Nat.le_trans this (by omega)
  obtain⟨r',p,u,e,hr',hp',hP,f1,f2⟩:=do_both r1 hvh ⟨i.kind,i.pay.take 10,ar,[]⟩ hm sl now (secD (dkR' d r1)) hsec
  have h5:i.kind=5→∃a,ar=[a]:=fun h=>by
   have h9:=hg0 (by rw[h];rfl)
   rw[h]at h9
   exact len1 h9
  have q1:=dreg_c (dkR' d r1) ⟨i.kind,i.pay.take 10,ar,[]⟩ sl now hI1.v hI1.dn r' p u e f1 h5
  have hu:u=true→(dkR' d r1).dr≠[]:=fun hu h9=>by
   have he:e=0:=by
    by_cases he:e=0
    ·exact he
    ·rw[hP.1 he]at hu;cases hu
   have h10:secD (dkR' d r1)=[]:=by unfold secD;rw[h9];rfl
   rcases hP.2 he with⟨o,_,_,_,h11|h11⟩|⟨o,_,_,h11,_⟩
   ·rw[h11.1]at hu;cases hu
   ·rw[h10]at h11;exact absurd h11.2.1 (by decide)
   ·rw[h11]at hu;cases hu
  have q2:=dreg2_c (dkR' d r1) ⟨i.kind,i.pay.take 10,ar,[]⟩ sl now hI1.v hI1.dn r' p u e f2 h5 hu
  have w1:=hP_reg c d s now i.kind i.pay _ ar h0 h1 k2 r1 sl k3 hk _ _ e q1
  have w2:=rD_reg c (dkR' d r1) s now (i.pay.take 10) sl i.kind ar a ar1 har hk _ p e q2
  by_cases he:e=0
  ·subst he
   rw[if_pos rfl]at w1
   obtain⟨hi,ha,hn,hd1,hd2⟩:=dg_i (m:=⟨i.kind,i.pay.take 10,ar,[]⟩) hI1 hr' hP
   have hvx:0≤a∧a≤4294967295:=hv a (by rw[har];simp)
   refine YES _ p (-1) hi (ha.trans ea) (hn.trans en) ?_ (.inl rfl) hd1 (fun h=>hd2 (T0.of et ea h)) w1 w2
   rcases hP.2 rfl with⟨o,_,_,_,h11|h11⟩|⟨o,_,_,_,h11,h12⟩
   ·obtain⟨_,h12,h13⟩:=h11
    dsimp only at h13 h12
    exact .inr (.inr (.inr (.inr ⟨by omega,a,hvx.1,hvx.2,by rw[h12,har,h13];rfl⟩)))
   ·obtain⟨_,h12,h13,k,h14,h15⟩:=h11
    have en':r1.num=d.rg.num:=en
    exact .inr (.inr (.inr (.inl ⟨h13,k,_,h14,h12,by rw[h15,en']⟩)))
   ·dsimp only at h11 h12
    exact .inr (.inr (.inr (.inr ⟨by omega,a,hvx.1,hvx.2,by rw[h12,har];rfl⟩)))
  ·have e1:dgD (dkR' d r1) ⟨i.kind,i.pay.take 10,ar,[]⟩ r' u e=dkR' d r1:=by unfold dgD;rw[if_neg he]
   rw[e1]at w1 w2
   exact NO e he _ _ _ w1 w2
 ·
  obtain⟨cc,c1,c3,hl⟩:=hg1 (by rw[hk];decide)
  rw[hk,show fixF 6=3 from rfl,show grpF 6=4 from rfl]at hl
  obtain⟨id,v,life,ar1,har⟩:∃id v life ar1,ar=id::v::life::ar1:=by
   match ar,hl with
   |id::v::life::ar1,_=>exact⟨id,v,life,ar1,rfl⟩
   | [],h=>simp at h;omega
   | [_],h=>simp at h;omega
   | [_,_],h=>simp at h;omega
  subst har
  obtain⟨qs,hqs,hqn⟩:=q4_of cc ar1 (by simp only[List.length_cons]at hl;omega)
  subst hqs
  have hp:∀q∈qs,0≤q.j∧0≤q.p:=fun q hq=>by
   obtain⟨m1,m2,_⟩:=q4_mem hq
   exact⟨(hv q.j (by simp[m1])).1,(hv q.p (by simp[m2])).1⟩
  have hvx:=hv id (by simp)
  have s1:sl<((dkR' d r1).rg.tk.length:Int):=by rw[et];exact hs0.2
  have q1:=ask6_c c (dkR' d r1) (i.pay.take 10) id v life sl now qs hI1.bd hI1.v hs0.1 s1 (by omega) hp n0 n1
  have q2:=dsubmit2_c c (dkR' d r1) 6 (i.pay.take 10) id v life ((dkR' d r1).rg.tk.getD sl.toNat default).cls now qs hI1.bd hI1.v (by omega) hp n0 n1
  by_cases he:dsE c (dkR' d r1) ((dkR' d r1).rg.tk.getD sl.toNat default).cls id v life now qs=0
  ·have hi:=ds_i hI1 n0 n1 he
   rw[he]at q1
   rw[if_pos he,he]at q2
   have w1:=hP_askO c d s now i.kind i.pay _ _ h0 h1 k2 r1 sl k3 (.inl hk) id _ rfl _ (by rw[hk];exact q1)
   have w2:=rD_sub c (dkR' d r1) s now (i.pay.take 10) sl _ id _ rfl hs0.1 s1 _ 0 q2
   refine YES _ (ackM i.kind id) (-1) hi ea en (.inr (.inr (.inr (.inr ⟨by omega,id,hvx.1,hvx.2,rfl⟩)))) (.inl rfl) (Nat.le_refl _) (T0.of et ea) w1 ?_
   rw[hk]
   exact w2
  ·rw[if_neg he]at q2
   have w1:=hP_askE c d s now i.kind i.pay _ _ h0 h1 k2 r1 sl k3 (.inl hk) _ _ he (by rw[hk];exact q1)
   have w2:=rD_sub c (dkR' d r1) s now (i.pay.take 10) sl _ id _ rfl hs0.1 s1 _ _ q2
   exact NO _ he _ _ _ w1 (by rw[hk];exact w2)
 ·
  obtain⟨cc,c1,c3,hl⟩:=hg1 (by rw[hk];decide)
  rw[hk,show fixF 7=1 from rfl,show grpF 7=2 from rfl]at hl
  obtain⟨id,ar1,har⟩:∃id ar1,ar=id::ar1:=by
   match ar,hl with
   |id::ar1,_=>exact⟨id,ar1,rfl⟩
   | [],h=>simp at h;omega
  subst har
  obtain⟨ws,hqs,hqn⟩:=w2_of cc ar1 (by simp only[List.length_cons]at hl;omega)
  subst hqs
  have hvx:=hv id (by simp)
  have q1:=ask7_c c (dkR' d r1) (i.pay.take 10) id sl now ws hI1.v (by omega) n0 n1
  have q2:=upd2_c (dkR' d r1) (i.pay.take 10) id now ws hI1.v (by omega) n0 n1
  by_cases he:updE (dkR' d r1).rq id ws now=0
  ·have hi:=up_i hI1 he
   rw[he]at q1
   rw[if_pos he,he]at q2
   have w1:=hP_askO c d s now i.kind i.pay _ _ h0 h1 k2 r1 sl k3 (.inr (.inl hk)) id _ rfl _ (by rw[hk];exact q1)
   have w2:=rD_upd c (dkR' d r1) s now (i.pay.take 10) sl _ id _ rfl _ 0 q2
   refine YES _ (ackM i.kind id) (-1) hi ea en (.inr (.inr (.inr (.inr ⟨by omega,id,hvx.1,hvx.2,rfl⟩)))) (.inl rfl) (Nat.le_refl _) (T0.of et ea) w1 ?_
   rw[hk]
   exact w2
  ·rw[if_neg he]at q2
   have w1:=hP_askE c d s now i.kind i.pay _ _ h0 h1 k2 r1 sl k3 (.inr (.inl hk)) _ _ he (by rw[hk];exact q1)
   have w2:=rD_upd c (dkR' d r1) s now (i.pay.take 10) sl _ id _ rfl _ _ q2
   exact NO _ he _ _ _ w1 (by rw[hk];exact w2)
 ·
  obtain⟨id,har⟩:=len1 (show ar.length=1 by rw[hg0 (by rw[hk];rfl),hk];rfl)
  subst har
  have hvx:=hv id (by simp)
  have q1:=ask8_c c (dkR' d r1) (i.pay.take 10) id sl now hI1.v
  have q2:=rD_can c (dkR' d r1) s now (i.pay.take 10) sl id _ _ (cancel2_q (dkR' d r1).rq id hI1.v)
  by_cases he:hasQ (dkR' d r1).rq id=true
  ·have hi:=fl_i hI1 (fun x=>x.id != id)
   rw[if_pos he,if_pos he]at q1
   rw[if_pos he,if_pos he,if_pos rfl]at q2
   have w1:=hP_askO c d s now i.kind i.pay _ _ h0 h1 k2 r1 sl k3 (.inr (.inr hk)) id [] rfl _ (by rw[hk];exact q1)
   refine YES _ (ackM i.kind id) (-1) hi ea en (.inr (.inr (.inr (.inr ⟨by omega,id,hvx.1,hvx.2,rfl⟩)))) (.inl rfl) (Nat.le_refl _) (T0.of et ea) w1 ?_
   rw[hk]
   exact q2
  ·rw[if_neg he,if_neg he]at q1
   rw[if_neg he,if_neg he,if_neg (by decide)]at q2
   have w1:=hP_askE c d s now i.kind i.pay _ _ h0 h1 k2 r1 sl k3 (.inr (.inr hk)) _ 12 (by decide) (by rw[hk];exact q1)
   exact NO 12 (by decide) _ _ _ w1 (by rw[hk];exact q2)
 ·
  have hal:ar=[]:=List.eq_nil_of_length_eq_zero (by rw[hg0 (by rw[hk];rfl),hk];rfl)
  subst hal
  have hsame:=opD_same hO (.inr (by omega))
  rw[hsd]at hsame
  rw[hsame]at hI1
  have q1:=hP_tell c d s now i.kind i.pay _ [] h0 h1 k2 r1 sl k3 (.inr (.inl hk)) (listM d) (by rw[hsame,hk];exact tellList_c d now hI.bd)
  have q2:=rD_list c d s now (i.pay.take 10) sl hI.bd
  rw[hsame]at q1
  refine YES d _ _ hI1 rfl rfl (.inr (.inl ⟨hk,rfl,rfl⟩)) (.inl rfl) (Nat.le_refl _) id q1 ?_
  rw[hsame,hk]
  exact q2
 ·
  obtain⟨a,har⟩:=len1 (show ar.length=1 by rw[hg0 (by rw[hk];rfl),hk];rfl)
  subst har
  have hvx:=hv a (by simp)
  by_cases ha:1<a
  ·have w1:=hP_audE c d s now i.kind i.pay _ [a] h0 h1 k2 r1 sl k3 hk a rfl ha
   have w2:=rD_audE c (dkR' d r1) s now (i.pay.take 10) sl a ha
   exact NO 8 (by decide) _ _ _ w1 (by rw[hk];exact w2)
  by_cases hs:0≤s∧s<(d.au.length:Int)
  case neg=>
   have w1:=hP_audN c d s now i.kind i.pay _ [a] h0 h1 k2 r1 sl k3 hk a rfl (by omega) hs
   have w2:=rD_audN c (dkR' d r1) s now (i.pay.take 10) sl a (by omega) (by rw[eu];exact hs)
   refine YES _ (ackM 10 a) (-1) hI1 ea en (.inr (.inr (.inr (.inr ⟨by omega,a,hvx.1,hvx.2,by rw[hk]⟩)))) (.inl rfl) (Nat.le_refl _) (T0.of et ea) w1 ?_
   rw[hk]
   exact w2
  rw[hk]at k2 r2 k3 r3
  have hI2:DskI c ⟨r1,d.rq,d.dr,d.au.set s.toNat (a==1)⟩:=⟨hI1.b,hI1.v,hI1.q,hI1.lg,hI1.a,hI1.n,hI1.t8,hI1.br,hI1.bb,hI1.bl,by have:=hI1.au;dsimp only;rw[List.length_set];exact this,hI1.dn,hI1.dr,hI1.vh⟩
  have w1:=hP_audW c d s now i.pay (i.pay.take 10) a hvx.1 (by omega) k2 r1 sl k3 hs
  have w2:=rD_audW c (dkR' d r1) s now (i.pay.take 10) sl a hvx.1 (by omega) (by rw[eu];exact hs)
  have q1:=HPO_of c d s now ⟨0,10,i.pay⟩ hI.bd (by omega) _ _ _ w1
  have q2:=HR_doO c d s now hI.bd 10 i.pay _ [a] (by decide) (by decide) r2 r1 sl r3 _ hI2.bd _ _ w2
  have en':r1.num=d.rg.num:=en
  rw[show(⟨r1,d.rq,d.dr,d.au.set s.toNat (a==1)⟩:Dsk).rg.num=d.rg.num from en']at q1
  rw[←hk,←hii]at q1 q2
  exact⟨⟨⟨r1,d.rq,d.dr,d.au.set s.toNat (a==1)⟩,ackM i.kind a,-1,0⟩,⟨q1,q2⟩,hI2,ea,en,fun h=>absurd rfl h,fun _=>⟨[a],hO,.inr (.inr (.inr (.inr ⟨by omega,a,hvx.1,hvx.2,rfl⟩)))⟩,.inl rfl,Nat.le_refl _,T0.of et ea⟩
 ·
  obtain⟨a,har⟩:=len1 (show ar.length=1 by rw[hg0 (by rw[hk];rfl),hk];rfl)
  subst har
  have hvx:=hv a (by simp)
  by_cases ha:a<(c.js.length:Int)
  ·have w1:=hP_resO c d s now i.kind i.pay _ [a] h0 h1 k2 r1 sl k3 hk a rfl ha
   have w2:=rD_resO c (dkR' d r1) s now (i.pay.take 10) sl a ha
   refine YES _ (ackM 11 a) a hI1 ea en (.inr (.inr (.inr (.inr ⟨by omega,a,hvx.1,hvx.2,by rw[hk]⟩)))) (.inr ⟨hk,hvx.1,ha⟩) (Nat.le_refl _) (T0.of et ea) w1 ?_
   rw[hk]
   exact w2
  ·have w1:=hP_resE c d s now i.kind i.pay _ [a] h0 h1 k2 r1 sl k3 hk a rfl (by omega)
   have w2:=rD_resE c (dkR' d r1) s now (i.pay.take 10) sl a (by omega)
   exact NO 8 (by decide) _ _ _ w1 (by rw[hk];exact w2)
 ·
  have hal:ar=[]:=List.eq_nil_of_length_eq_zero (by rw[hg0 (by rw[hk];rfl),hk];rfl)
  subst hal
  have hsame:=opD_same hO (.inr (by omega))
  rw[hsd]at hsame
  rw[hsame]at hI1
  have hrq:=hI.a.q
  have q1:=hP_tell c d s now i.kind i.pay _ [] h0 h1 k2 r1 sl k3 (.inr (.inr hk)) (leftM d) (by rw[hsame,hk];exact tellLeft_c d 12 now (by decide) (by decide) hI.bd (by omega) (by omega))
  have q2:=rD_left c d s now (i.pay.take 10) sl (left2_c d hI.bd (by omega) (by omega))
  rw[hsame]at q1
  refine YES d _ _ hI1 rfl rfl (.inr (.inr (.inl ⟨hk,rfl,rfl⟩))) (.inl rfl) (Nat.le_refl _) id q1 ?_
  rw[hsame,hk]
  exact q2
end
section
set_option maxRecDepth 4000
set_option maxHeartbeats 2000000
theorem jnF_ph (d:Dk):1≤(jnF d).ph.length∧(jnF d).ph.length≤8:=by
 show 1≤(jnP d).1.length∧(jnP d).1.length≤8
 unfold jnP
 rw[phL_len]
 exact shapes_len _
theorem cjL_mem (d:Dk):∀i,∀j∈(cjL d i).1,∃e,j=jnF e
 |0=>fun j hj=>by simp[cjL]at hj
 |i+1=>fun j hj=>by
  simp only[cjL,List.mem_append,List.mem_singleton]at hj
  rcases hj with hj|hj
  ·exact cjL_mem d i j hj
  ·exact⟨_,hj⟩
theorem cfF_js (d:Dk) (r:Int):(cfF d r).js=(cjL (ad (ad4 d)) (cfN d)).1:=by rw[cfF,cfJ]
theorem cfF_ags (d:Dk) (r:Int):(cfF d r).ags=(caL (ad (cfJ d).2) r (cfM d)).1:=by rw[cfF,cfG]
theorem cfF_n (d:Dk) (rights:Int):1≤(cfF d rights).js.length∧(cfF d rights).js.length≤2∧1≤(cfF d rights).ags.length∧(cfF d rights).ags.length≤3:=by
 have h1:=nx_bd (ad4 d) 2 (by omega)
 have h2:=nx_bd (cfJ d).2 3 (by omega)
 rw[cfF_js,cfF_ags,cjL_len,caL_len]
 unfold cfN cfM
 omega
theorem cfF_w (d:Dk) (rights:Int):CfW (cfF d rights):=by
 have h:=cfF_n d rights
 refine⟨by omega,fun j hj=>?_⟩
 rw[cfF_js]at hj
 obtain⟨e,rfl⟩:=cjL_mem _ _ j hj
 exact jnF_ph e
theorem agF_v (d:Dk) (n r:Int) (hr:0≤r∧r≤63):AgV (agF d n r):=by
 have w1:=nx_bd d (3-1+1) (by omega)
 have w2:=nx_bd (ad d) (3-1+1) (by omega)
 have w3:=nx_bd (ad (ad d)) 3 (by omega)
 have w4:=nx_bd (ad (ad (ad d))) 3 (by omega)
 have w5:=nx_bd (ad (ad (ad (ad d)))) (3-1+1) (by omega)
 have w6:=nx_bd (ad (ad (ad (ad (ad d))))) (2-1+1) (by omega)
 have w7:=nx_bd (ad (ad (ad (ad (ad (ad d)))))) (3-1+1) (by omega)
 have w8:=nx_bd (ad7 d) 5 (by omega)
 unfold agF
 refine⟨by dsimp only;rw[secF_len];rfl,rfl,fun x hx=>?_,hr,by dsimp only;omega,by dsimp only;omega,by dsimp only;omega,by dsimp only;omega,by dsimp only;omega⟩
 simp only[List.mem_cons,List.not_mem_nil,or_false]at hx
 rcases hx with rfl|rfl|rfl|rfl<;>omega
structure AgD (a:Ag) (n:Int):Prop where
 v:AgV a
 s:a.sec=secF (1000+n)
 q:1≤a.req∧a.req≤3
 b:1≤a.rate∧a.burst≤7
theorem agF_d (d:Dk) (n r:Int) (hr:0≤r∧r≤63):AgD (agF d n r) n:=by
 have w5:=nx_bd (ad (ad (ad (ad d)))) (3-1+1) (by omega)
 have w7:=nx_bd (ad (ad (ad (ad (ad (ad d)))))) (3-1+1) (by omega)
 have w8:=nx_bd (ad7 d) 5 (by omega)
 exact⟨agF_v d n r hr,rfl,by unfold agF;dsimp only;omega,by unfold agF;dsimp only;omega⟩
theorem caL_at (d:Dk) (r:Int) (hr:0≤r∧r≤63):∀i k,k<i→AgD ((caL d r i).1.getD k default) k∧((caL d r i).1.getD k default).rights=r
 |0,k,h=>by omega
 | i+1,k,h=>by
  rw[caL_s1,List.getD_eq_getElem?_getD]
  by_cases hk:k<i
  ·rw[List.getElem?_append_left (by rw[caL_len];exact hk),←List.getD_eq_getElem?_getD]
   exact caL_at d r hr i k hk
  ·obtain rfl:k=i:=by omega
   rw[List.getElem?_append_right (by rw[caL_len];omega),caL_len,Nat.sub_self]
   exact⟨agF_d _ _ _ hr,rfl⟩
theorem cfF_ag (d:Dk) (r:Int) (hr:0≤r∧r≤63) (k:Int) (h0:0≤k) (h1:k<((cfF d r).ags.length:Int)):AgD ((cfF d r).ags.getD k.toNat default) k∧((cfF d r).ags.getD k.toNat default).rights=r:=by
 rw[cfF_ags]at h1⊢
 rw[caL_len]at h1
 have:=caL_at (ad (cfJ d).2) r hr (cfM d) k.toNat (by omega)
 rw[show((k.toNat:Nat):Int)=k by omega]at this
 exact this
theorem dskN_i {c:Cf} {a:Ag} (hv:AgV a) (n:Int) (hn:0≤n∧n<4):DskI c (dskN n a a.ses.toNat):=by
 have he:=hv.e
 have hq:=hv.q
 have hb:=hv.b
 have ht:=hv.t
 have hs:=rgN_b n a hv
 have e1:(rgN n a).ag=a:=rfl
 have e2:(rgN n a).num=n:=rfl
 have e3:(rgN n a).tk.length=8:=by simp[rgN,tkN]
 have e4:(rgN n a).vh=[]:=rfl
 have e5:(rgN n a).bk=⟨a.burst,a.rate,a.burst⟩:=rfl
 unfold dskN
 generalize hN:a.ses.toNat=N
 generalize rgN n a=r at*
 constructor
 ·exact hs
 ·exact⟨fun r hr=>by simp at hr,List.Pairwise.nil,Nat.zero_le _⟩
 ·dsimp only;rw[e1];simp only[List.length_nil];omega
 ·intro r hr;simp at hr
 ·dsimp only;rw[e1];exact hv
 ·dsimp only;rw[e2];exact hn
 ·exact e3
 ·dsimp only;rw[e1,e5]
 ·dsimp only;rw[e1,e5]
 ·dsimp only;rw[e1,e5];exact⟨hb.1,Int.le_refl _⟩
 ·dsimp only;rw[e1,List.length_replicate];omega
 ·simp
 ·intro x hx;simp at hx
 ·dsimp only;rw[e4];simp
theorem dnewB (n:Int) (a:Ag) (hv:AgV a):CallSim Tryz.prog 20 [iA n,agA a] [] (dskA (dskN n a a.ses.toNat)) []∧CallSim Tryz.prog 21 [iA n,agA a] [] (dskA (dskN n a a.ses.toNat)) []:=by
 have he:=hv.e
 have h1:=hv.s
 have h2:=hv.l
 exact⟨dnew_c n a a.ses.toNat (by omega) (by omega) (by omega) (by omega),dnew2_c n a a.ses.toNat (by omega) (by omega) (by omega) (by omega)⟩
theorem expFb {l:List Tk} (h:TkB l) (now:Int):TkB (expF l now):=by
 refine⟨by unfold expF;rw[List.length_map,List.length_range];exact h.n,fun t ht=>?_⟩
 unfold expF at ht
 rw[List.mem_map]at ht
 obtain⟨j,hj,rfl⟩:=ht
 rw[List.mem_range]at hj
 unfold exAt
 split
 ·exact Nat.zero_le _
 ·rw[List.getD_eq_getElem?_getD,List.getElem?_eq_getElem hj,Option.getD_some]
  exact h.s _ (List.getElem_mem _)
def bgD (d:Dsk) (now:Int):Dsk:=⟨rtF d.rg now,expQ d.rq now,d.dr,d.au⟩
theorem bgD_i {c:Cf} {d:Dsk} (h:DskI c d) (now:Int):DskI c (bgD d now)∧(bgD d now).rg.ag=d.rg.ag∧(bgD d now).rg.num=d.rg.num:=by
 refine⟨?_,rfl,rfl⟩
 have hl:=h.bl
 have hr:=h.br
 have hbb:=h.bb
 have ht:=h.a.t
 have hql:=List.length_filter_le (fun x:Rq=>decide (now≤x.til)) d.rq
 have hq:=h.q
 refine⟨⟨expFb h.b.tk now,h.b.s,h.b.l,h.b.v⟩,h.v.filter _,?_,fun r hr g hg=>h.lg r (List.mem_filter.1 hr).1 g hg,h.a,h.n,?_,h.br,h.bb,?_,h.au,h.dn,h.dr,h.vh⟩
 ·show((d.rq.filter _).length:Int)≤d.rg.ag.req
  omega
 ·show(expF d.rg.tk now).length=8
  unfold expF
  rw[List.length_map,List.length_range,h.t8]
 ·show 0≤min (d.rg.bk.level+d.rg.bk.rate) d.rg.bk.burst∧min (d.rg.bk.level+d.rg.bk.rate) d.rg.bk.burst≤d.rg.ag.burst
  omega
theorem begin_c {c:Cf} {d:Dsk} (h:DskI c d) (now:Int):CallSim Tryz.prog 31 [dskA d,iA now] [] (dskA (bgD d now)) []:=by
 have k1:=cpDesk_c d h.bd
 have hl:=h.bl
 have hr:=h.br
 have hbb:=h.bb
 have ht:=h.a.t
 have hb:=h.a.b
 have k2:=gtick_c d.rg now h.b (by omega)
 have k3:=expire_q d.rq now h.v
 unfold bgD
 generalize rtF d.rg now=r at*
 generalize expQ d.rq now=q at*
 unfold dskA dskX at*
 unfold rgA at k2
 (refine eN Tryz.func31 Tryz.call31 fun F hF=>?_)
 (have zc1:=k1;have zc2:=k2;have zc3:=k3;refine WL ?_;clear zc1 zc2 zc3)
 exact fr0
theorem begin2_c {c:Cf} {d:Dsk} (h:DskI c d) (now:Int):CallSim Tryz.prog 33 [dskA d,iA now] [] (dskA (bgD d now)) []:=by
 have k1:=copyDesk_c d h.bd
 have hl:=h.bl
 have hr:=h.br
 have hbb:=h.bb
 have ht:=h.a.t
 have hb:=h.a.b
 have k2:=gtick2_c d.rg now h.b h.t8 (by omega)
 have k3:=expire2_q d.rq now h.v
 unfold bgD
 generalize rtF d.rg now=r at*
 generalize expQ d.rq now=q at*
 unfold dskA dskX at*
 unfold rgA at k2
 (refine eN Tryz.func33 Tryz.call33 fun F hF=>?_)
 (have zc1:=k1;have zc2:=k2;have zc3:=k3;refine WL ?_;clear zc1 zc2 zc3)
 exact fr0
theorem qsame_c (l:List Rq) (hn:l.length≤1000) (hb:∀r∈l,r.legs.length≤1000):CallSim Tryz.prog 24 [slA rqA l,slA rqA l] [] (bA true) []:=by
 have hl:=map_len rqA l
 (refine eN Tryz.func24 Tryz.call24 fun F hF=>?_)
 (refine WW ?_)
 (refine sim_rng (l) [] [] [1,15,16] [17,1,15,16] rfl (fun i pre T U=>⟨(17,iA i)::T,U⟩) ?_;(conv=>whnf);refine⟨by rfl,?_,?_⟩)
 ·intro i pre x post hx hi
  have hy:=rng_at rqA hx hi
  have hlt:=rng_lt hx hi
  have hlx:=hb x (rng_mem hx)
  have hl2:=map_len lgA x.legs
  unfold rqA slA at hy
  (refine WW ?_)
  (refine sim_rng (x.legs) [7] [7] [1,7,15,16,17,62,63] [64,1,7,15,16,17,62,63] rfl (fun i pre T U=>⟨(64,iA i)::T,U⟩) ?_;(conv=>whnf);refine⟨by rfl,?_,?_⟩)
  ·intro k pre2 g post2 hx2 hi2
   have hy2:=rng_at lgA hx2 hi2
   have hlt2:=rng_lt hx2 hi2
   unfold lgA at hy2
   clear hx hx2
   (repeat' (first|refine WZ ?_|refine SG (I2 (fun hc=>?_) (fun hc=>?_))|refine SG (fun hc=>?_)|(refine is_ops ?_;refine is_call ?_;fail)|(refine is_ops ?_;first|refine SF ?_)|first|refine SR ?_|refine SK (I2 (fun hc=>?_) (fun hc=>?_))|refine SK (fun hc=>?_)|fail))
   all_goals (first|rfl|(exfalso;first|(simp[eqY_refl]at hc;done)|(revert hc;simp[eqY_refl];done)))
  ·clear hx
   (refine WW ?_)
   all_goals (first|rfl|(exfalso;first|(simp[eqY_refl]at hc;done)|(revert hc;simp[eqY_refl];done)))
 ·(refine WW ?_)
  exact fr0
theorem dsame_c (d:Dsk) (h:DskB d):CallSim Tryz.prog 18 [dskA d,dskA d] [] (bA true) []:=by
 have k1:=gsame_c d.rg h.rg
 have k2:=qsame_c d.rq h.q h.g
 have hl:=map_len sYA d.dr
 have hl2:=map_len bA d.au
 have hdn:=h.n
 have hau:=h.a
 unfold dskA dskX at*
 unfold rgA at k1
 (refine eN Tryz.func18 Tryz.call18 fun F hF=>?_)
 (have zc1:=k1;have zc2:=k2;refine WW ?_;clear zc1 zc2)
 (refine sim_rng (d.dr) [2,3] [2,3] [2,3,42,43] [44,2,3,42,43] rfl (fun i pre T U=>⟨(44,iA i)::T,U⟩) ?_;(conv=>whnf);refine⟨by rfl,?_,?_⟩)
 ·intro i pre x post hx hi
  have hy:=rng_at sYA hx hi
  have hlt:=rng_lt hx hi
  have hxl:=h.e x (rng_mem hx)
  have hl3:=map_len yA x
  unfold sYA slA at hy
  clear hx
  (refine WW (I2 (fun hc=>?_) (fun hc=>?_)))
  all_goals (first|rfl|(exfalso;first|(simp[eqY_refl]at hc;done)|(revert hc;simp[eqY_refl];done)))
 ·(refine WW ?_)
  (refine sim_rng (d.au) [3] [3] [3,60,61] [62,3,60,61] rfl (fun i pre T U=>⟨(62,iA i)::T,U⟩) ?_;(conv=>whnf);refine⟨by rfl,?_,?_⟩)
  ·intro i pre x post hx hi
   have hy:=rng_at bA hx hi
   have hlt:=rng_lt hx hi
   unfold bA at hy
   clear hx
   (refine WW (I2 (fun hc=>?_) (fun hc=>?_)))
   all_goals (first|rfl|(exfalso;first|(simp[eqY_refl]at hc;done)|(revert hc;simp[eqY_refl];done)))
  ·(refine WW ?_)
   exact fr0
end
end Av
end Go.Proofs.YtaikgchmpieooaaGreat
