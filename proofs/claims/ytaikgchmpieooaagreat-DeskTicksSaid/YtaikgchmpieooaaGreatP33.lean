/- Part 33: contracts of the functions, and what they rest upon. -/
import Derived.Test.YtaikgchmpieooaaGreatP30
import Derived.Test.YtaikgchmpieooaaGreatP16
import Derived.Test.YtaikgchmpieooaaGreatP32
namespace Go.Proofs.YtaikgchmpieooaaGreat
namespace Av
set_option linter.unusedSimpArgs false
set_option linter.unusedVariables false
section
set_option maxRecDepth 4000
set_option maxHeartbeats 1000000
def CfW (c:Cf):Prop:=c.js.length≤4∧∀j∈c.js,1≤j.ph.length∧j.ph.length≤8
theorem CfW.at {c:Cf} (h:CfW c) {j:Int} (h0:0≤j) (h1:j<((c.js.map jnA).length:Int)):1≤(c.js.getD j.toNat default).ph.length∧(c.js.getD j.toNat default).ph.length≤8:=by
 rw[List.length_map]at h1
 refine h.2 _ ?_
 rw[List.getD_eq_getElem?_getD,List.getElem?_eq_getElem (by omega),Option.getD_some]
 exact List.getElem_mem _
def qJ (c:Cf) (e:Dk) (k:Nat):Int:=Int.tmod (nx e 3+k) (max 1 (((c.js.map jnA).length:Int)+(nx (ad e) 12).tdiv 11))
def qP (c:Cf) (j:Int):Int:=if j<((c.js.map jnA).length:Int)then(((c.js.getD j.toNat default).ph.map phA).length:Int)else 2
theorem qdiv11 (x:Int) (h:0≤x∧x<12):0≤x.tdiv 11∧x.tdiv 11≤1∧InR .i64 (x.tdiv 11):=by
 have:x.tdiv 11=x/11:=Int.tdiv_eq_ediv_of_nonneg h.1
 rw[this]
 refine⟨by omega,by omega,by unfold InR;omega⟩
theorem tmod_b (a b:Int) (h0:0≤a) (h1:1≤b) (h2:b≤1000):0≤a.tmod b∧a.tmod b≤1000∧InR .i64 (a.tmod b):=by
 have:=Int.tmod_nonneg b h0
 have h3:a.tmod b<b:=Int.tmod_lt_of_pos a (by omega)
 exact⟨this,by omega,by unfold InR;omega⟩
theorem qJ_b {c:Cf} (h:CfW c) (e:Dk) (k:Nat):0≤qJ c e k∧qJ c e k≤1000:=by
 have w1:=nx_bd e 3 (by omega)
 have w2:=nx_bd (ad e) 12 (by omega)
 obtain⟨v2,u2,i2⟩:=qdiv11 _ w2
 have h1:=h.1
 have h2:(c.js.map jnA).length=c.js.length:=List.length_map ..
 have:=tmod_b (nx e 3+k) (max 1 (((c.js.map jnA).length:Int)+(nx (ad e) 12).tdiv 11)) (by omega) (by omega) (by omega)
 exact⟨this.1,this.2.1⟩
theorem qP_b {c:Cf} (h:CfW c) {j:Int} (h0:0≤j):1≤qP c j∧qP c j≤8:=by
 unfold qP
 split
 ·rename_i h1
  have:=h.at h0 h1
  rw[List.length_map];omega
 ·omega
def qlgS (c:Cf) (k:Nat) (l:List Int) (e:Dk):List Int×Dk:=
 (l++[qJ c e k,nx (ad (ad (ad (ad e)))) (qP c (qJ c e k)+(nx (ad (ad (ad e))) 12).tdiv 11),nx (ad (ad e)) 3,nx (ad (ad e)) 3+nx (ad (ad (ad (ad (ad e))))) 50],ad (ad (ad (ad (ad (ad e))))))
def qlgL (c:Cf) (l:List Int) (d:Dk):Nat→List Int×Dk
 |0=>(l,d)
 |i+1=>qlgS c i (qlgL c l d i).1 (qlgL c l d i).2
def NmB (l:List Int):Prop:=∀x∈l,0≤x∧x≤4294967295
theorem NmB.app {a b:List Int} (h1:NmB a) (h2:NmB b):NmB (a++b):=fun x hx=>(List.mem_append.1 hx).elim (h1 x) (h2 x)
theorem NmB.cons {x:Int} {b:List Int} (h1:0≤x∧x≤4294967295) (h2:NmB b):NmB (x::b):=fun y hy=>(List.mem_cons.1 hy).elim (fun e=>e▸h1) (h2 y)
theorem NmB.nil:NmB []:=fun x hx=>by cases hx
theorem qlgL_p {c:Cf} (hc:CfW c) (l:List Int) (hl:NmB l) (d:Dk):∀i,(qlgL c l d i).1.length=l.length+i*4∧rem (qlgL c l d i).2≤rem d∧NmB (qlgL c l d i).1
 |0=>⟨rfl,Nat.le_refl _,hl⟩
 |i+1=>by
  have ih:=qlgL_p hc l hl d i
  show(qlgS c i _ _).1.length=_∧rem (qlgS c i _ _).2≤_∧NmB (qlgS c i _ _).1
  generalize (qlgL c l d i).2=e at*
  have r1:=rem_ad e
  have r2:=rem_ad (ad e)
  have r3:=rem_ad (ad (ad e))
  have r4:=rem_ad (ad (ad (ad e)))
  have r5:=rem_ad (ad (ad (ad (ad e))))
  have r6:=rem_ad (ad (ad (ad (ad (ad e)))))
  have j1:=qJ_b hc e i
  have j2:=qP_b hc j1.1
  have w3:=nx_bd (ad (ad e)) 3 (by omega)
  have w4:=nx_bd (ad (ad (ad e))) 12 (by omega)
  have w6:=nx_bd (ad (ad (ad (ad (ad e))))) 50 (by omega)
  obtain⟨v4,u4,_⟩:=qdiv11 _ w4
  have w5:=nx_bd (ad (ad (ad (ad e)))) (qP c (qJ c e i)+(nx (ad (ad (ad e))) 12).tdiv 11) (by omega)
  refine⟨by simp only[qlgS,List.length_append,List.length_cons,List.length_nil];omega,by simp only[qlgS];omega,?_⟩
  exact ih.2.2.app (.cons (by omega) (.cons (by omega) (.cons (by omega) (.cons (by omega) .nil))))
theorem qlegs_c (c:Cf) (hc:CfW c) (l:List Int) (hl:l.length≤1000) (hn:NmB l) (d:Dk):CallSim Tryz.prog 72 [.ptr 1000 0 0,cfA c,.ref 107 0 (l.map iA).length] [(1000,dkE d),(107,.arr 1 (l.map iA) false)] (.ref 107 0 ((qlgL c l (ad d) (1+(nx d 2).toNat)).1.map iA).length) [(1000,dkE (qlgL c l (ad d) (1+(nx d 2).toNat)).2),(107,.arr 1 ((qlgL c l (ad d) (1+(nx d 2).toNat)).1.map iA) true)]:=by
 have c1:=next_c d 2 (by omega) (by omega)
 have b1:=nx_bd d 2 (by omega)
 generalize nx d 2=n at*
 generalize ad d=d1 at*
 obtain⟨N,hN⟩:∃N:Nat,1+n.toNat=N:=⟨_,rfl⟩
 have hN2:1+n=(N:Int):=by omega
 rw[hN]
 have hjs:=hc.1
 have hjl:(c.js.map jnA).length=c.js.length:=List.length_map ..
 unfold cfA slA
 (refine eN Tryz.func72 Tryz.call72 fun F hF=>?_)
 (have zc1:=c1;refine WW ?_;clear zc1)
 refine sim_stale 107 rfl ?_
 (refine sim_cnt (N) [1000,107,4] [4] [0,4,15] [2,16,0,4,15] rfl (fun i T U=>⟨(2,.ref 107 0 ((qlgL c l d1 i).1.map iA).length)::(16,iA i)::T,(1000,dkE (qlgL c l d1 i).2)::(107,.arr 1 ((qlgL c l d1 i).1.map iA) true)::U⟩) ?_;(conv=>whnf);refine⟨by rfl,?_,?_⟩)
 ·intro i hi
  have hl:=(qlgL_p hc l hn d1 i).1
  have eS:qlgL c l d1 (i+1)=qlgS c i (qlgL c l d1 i).1 (qlgL c l d1 i).2:=rfl
  unfold qlgS at eS
  generalize (qlgL c l d1 i).1=p at*
  generalize (qlgL c l d1 i).2=e at*
  have hi2:(i:Int)≤1:=by omega
  have n1:=next_c e 3 (by omega) (by omega)
  have n2:=next_c (ad e) 12 (by omega) (by omega)
  have n3:=next_c (ad (ad e)) 3 (by omega) (by omega)
  have n4:=next_c (ad (ad (ad e))) 12 (by omega) (by omega)
  have w1:=nx_bd e 3 (by omega)
  have w2:=nx_bd (ad e) 12 (by omega)
  have w3:=nx_bd (ad (ad e)) 3 (by omega)
  have w4:=nx_bd (ad (ad (ad e))) 12 (by omega)
  obtain⟨v2,u2,i2⟩:=qdiv11 _ w2
  obtain⟨v4,u4,i4⟩:=qdiv11 _ w4
  have jb:=qJ_b hc e i
  have pb:=qP_b hc jb.1
  have n5:=next_c (ad (ad (ad (ad e)))) (qP c (qJ c e i)+(nx (ad (ad (ad e))) 12).tdiv 11) (by omega) (by omega)
  have n6:=next_c (ad (ad (ad (ad (ad e))))) 50 (by omega) (by omega)
  have w6:=nx_bd (ad (ad (ad (ad (ad e))))) 50 (by omega)
  generalize hx5:nx (ad (ad (ad (ad e)))) (qP c (qJ c e i)+(nx (ad (ad (ad e))) 12).tdiv 11)=x5 at*
  clear hx5
  have hat:=fun h=>map_atI jnA c.js (qJ c e i) jb.1 h
  have hat2:=fun h=>hc.at (c:=c) (j:=qJ c e i) jb.1 h
  have hm:1≤max 1 (((c.js.map jnA).length:Int)+(nx (ad e) 12).tdiv 11)∧max 1 (((c.js.map jnA).length:Int)+(nx (ad e) 12).tdiv 11)≤1000:=by omega
  have tb:=tmod_b (nx e 3+i) _ (by omega) hm.1 hm.2
  unfold qP at n5 pb
  unfold qJ at n5 eS jb hat hat2 pb
  rw[eS]
  clear eS hc
  generalize nx (ad (ad (ad (ad (ad e))))) 50=x6 at*
  generalize nx (ad (ad (ad e))) 12=x4 at*
  generalize nx (ad (ad e)) 3=x3 at*
  generalize nx (ad e) 12=x2 at*
  generalize nx e 3=x1 at*
  generalize ad e=e1 at*
  generalize ad e1=e2 at*
  generalize ad e2=e3 at*
  generalize ad e3=e4 at*
  generalize ad e4=e5 at*
  generalize ad e5=e6 at*
  obtain⟨hm1,hm2⟩:=hm
  obtain⟨tb1,tb2,tb3⟩:=tb
  by_cases hj:Int.tmod (x1+i) (max 1 (((c.js.map jnA).length:Int)+x2.tdiv 11))<((c.js.map jnA).length:Int)
  ·rw[if_pos hj]at n5 pb
   have hy:=hat (by omega)
   have hz:=hat2 hj
   clear hat hat2
   generalize c.js.getD (Int.tmod (x1+i) (max 1 (((c.js.map jnA).length:Int)+x2.tdiv 11))).toNat default=J at*
   have hpl:(J.ph.map phA).length=J.ph.length:=List.length_map ..
   unfold jnA slA at hy
   generalize J.ph.map phA=P at*
   generalize J.cf.map iA=Cz at*
   (have zc1:=n1;have zc2:=n2;have zc3:=n3;have zc4:=n4;have zc5:=n5;have zc6:=n6;refine WW ?_;clear zc1 zc2 zc3 zc4 zc5 zc6)
   show restr _ _ _=_
   rw[List.map_append]
   rfl
  ·rw[if_neg hj]at n5 pb
   clear hat hat2
   (have zc1:=n1;have zc2:=n2;have zc3:=n3;have zc4:=n4;have zc5:=n5;have zc6:=n6;refine WW ?_;clear zc1 zc2 zc3 zc4 zc5 zc6)
   show restr _ _ _=_
   rw[List.map_append]
   rfl
 ·(refine WW ?_)
  exact fin_own [1000,107] rfl rfl rfl rfl
def qmgT (g:Int) (d:Dk):List Int×Dk:=
 if nx d 9=7 then(g::nx (ad d) 4::secF (2000+10*g+nx (ad (ad d)) 3),ad (ad (ad d)))
 else if nx d 9=8 then(nx (ad d) 3::0::secF (1000+nx (ad (ad d)) 3),ad (ad (ad d)))
 else(g::0::secF (1000+g),ad d)
theorem qmgT_p (g:Int) (hg:0≤g∧g<256) (d:Dk):BY (qmgT g d).1∧rem (qmgT g d).2≤rem d:=by
 have r1:=rem_ad d
 have r2:=rem_ad (ad d)
 have r3:=rem_ad (ad (ad d))
 have b1:=nx_bd (ad d) 4 (by omega)
 have b2:=nx_bd (ad d) 3 (by omega)
 unfold qmgT
 split
 ·exact⟨by_tok hg (by omega) (secF_by _),by dsimp only;omega⟩
 ·split
  ·exact⟨by_tok (by omega) (by omega) (secF_by _),by dsimp only;omega⟩
  ·exact⟨by_tok hg (by omega) (secF_by _),by dsimp only;omega⟩
def qkd4 (q:Int):Int:=if q=1 then 4 else if q=3 then 7 else 6
theorem qkd4_at (q:Int) (h:0≤q∧q<4):([AV.s (.int .i64 6),AV.s (.int .i64 4),AV.s (.int .i64 6),AV.s (.int .i64 7)]:List AV)[q.toNat]? =some (AV.s (.int .i64 (qkd4 q))):=by
 have:q=0∨q=1∨q=2∨q=3:=by omega
 rcases this with rfl|rfl|rfl|rfl<;>rfl
def qmgK (k:Int) (d:Dk):Int×Dk:=if nx d 2=0 then(qkd4 (nx (ad d) 4),ad (ad d))else(k,ad d)
theorem qmgK_p (k:Int) (hk:1≤k∧k≤12) (d:Dk):(1≤(qmgK k d).1∧(qmgK k d).1≤12)∧rem (qmgK k d).2≤rem d:=by
 have r1:=rem_ad d
 have r2:=rem_ad (ad d)
 unfold qmgK qkd4
 split
 ·refine⟨?_,by dsimp only;omega⟩
  dsimp only
  split
  ·omega
  ·split<;>omega
 ·exact⟨hk,by dsimp only;omega⟩
def qupS (l:List Int) (d:Dk):List Int×Dk:=(l++[nx d 3,nx d 3+nx (ad d) 40],ad (ad d))
def qupL (l:List Int) (d:Dk):Nat→List Int×Dk
 |0=>(l,d)
 |i+1=>qupS (qupL l d i).1 (qupL l d i).2
theorem qupL_p (l:List Int) (hl:NmB l) (d:Dk):∀i,(qupL l d i).1.length=l.length+i*2∧rem (qupL l d i).2≤rem d∧NmB (qupL l d i).1
 |0=>⟨rfl,Nat.le_refl _,hl⟩
 |i+1=>by
  have ih:=qupL_p l hl d i
  show(qupS _ _).1.length=_∧rem (qupS _ _).2≤_∧NmB (qupS _ _).1
  generalize (qupL l d i).2=e at*
  have r1:=rem_ad e
  have r2:=rem_ad (ad e)
  have w1:=nx_bd e 3 (by omega)
  have w2:=nx_bd (ad e) 40 (by omega)
  refine⟨by simp only[qupS,List.length_append,List.length_cons,List.length_nil];omega,by simp only[qupS];omega,?_⟩
  exact ih.2.2.app (.cons (by omega) (.cons (by omega) .nil))
def qrq5 (q:Int):Int:=if q=0 then 63 else if q=1 then 1 else if q=2 then 3 else if q=3 then 47 else 64
def qlf4 (q:Int):Int:=if q=0 then 0 else if q=1 then 5 else if q=2 then 30 else 700
theorem qrq5_at (q:Int) (h:0≤q∧q<5):([AV.s (.int .i64 63),AV.s (.int .i64 1),AV.s (.int .i64 3),AV.s (.int .i64 47),AV.s (.int .i64 64)]:List AV)[q.toNat]? =some (AV.s (.int .i64 (qrq5 q))):=by
 have:q=0∨q=1∨q=2∨q=3∨q=4:=by omega
 rcases this with rfl|rfl|rfl|rfl|rfl<;>rfl
theorem qlf4_at (q:Int) (h:0≤q∧q<4):([AV.s (.int .i64 0),AV.s (.int .i64 5),AV.s (.int .i64 30),AV.s (.int .i64 700)]:List AV)[q.toNat]? =some (AV.s (.int .i64 (qlf4 q))):=by
 have:q=0∨q=1∨q=2∨q=3:=by omega
 rcases this with rfl|rfl|rfl|rfl<;>rfl
def qmgA (cf:Cf) (k c:Int) (d:Dk):List Int×Dk:=
 if k=2 then([qrq5 (nx d 5),nx (ad d) 5,qlf4 (nx (ad (ad d)) 4)],ad (ad (ad d)))
 else if k=3∨k=8∨k=5∨k=10∨k=11 then([nx d 4],ad d)
 else if k=4 then([nx d 4,c],ad d)
 else if k=6 then qlgL cf [nx d 4,nx (ad d) 4,1+nx (ad (ad d)) (60-1+1)] (ad (ad (ad (ad d)))) (1+(nx (ad (ad (ad d))) 2).toNat)
 else if k=7 then qupL [nx d 4] (ad (ad d)) (1+(nx (ad d) 2).toNat)
 else([],d)
theorem qmgT_len (g:Int) (d:Dk):(qmgT g d).1.length=10:=by
 unfold qmgT
 split
 ·simp[secF_len]
 ·split<;>simp[secF_len]
theorem qmgA_p {cf:Cf} (hc:CfW cf) (k c:Int) (h0:0≤c∧c≤10) (hk:1≤k∧k≤12) (d:Dk):rem (qmgA cf k c d).2≤rem d∧NmB (qmgA cf k c d).1∧∃n:Nat,n≤2∧(grpF k≠0→1≤n)∧(qmgA cf k c d).1.length=fixF k+n*grpF k:=by
 have r1:=rem_ad d
 have r2:=rem_ad (ad d)
 have r3:=rem_ad (ad (ad d))
 have r4:=rem_ad (ad (ad (ad d)))
 have w1:=nx_bd d 4 (by omega)
 have w2:=nx_bd (ad d) 4 (by omega)
 have w3:=nx_bd (ad (ad d)) (60-1+1) (by omega)
 have w4:=nx_bd (ad (ad (ad d))) 2 (by omega)
 have w5:=nx_bd (ad d) 2 (by omega)
 have w6:=nx_bd (ad d) 5 (by omega)
 have g1:0≤qrq5 (nx d 5)∧qrq5 (nx d 5)≤64:=by unfold qrq5;repeat' split;all_goals omega
 have g2:0≤qlf4 (nx (ad (ad d)) 4)∧qlf4 (nx (ad (ad d)) 4)≤700:=by unfold qlf4;repeat' split;all_goals omega
 unfold qmgA
 split
 ·rename_i h
  subst h
  exact⟨by dsimp only;omega,.cons (by omega) (.cons (by omega) (.cons (by omega) .nil)),0,by omega,fun h=>absurd rfl h,rfl⟩
 split
 ·rename_i h
  refine⟨by dsimp only;omega,.cons (by omega) .nil,0,by omega,fun h2=>?_,?_⟩<;>rcases h with rfl|rfl|rfl|rfl|rfl
  all_goals first|rfl|exact absurd rfl h2
 split
 ·rename_i h
  subst h
  exact⟨by dsimp only;omega,.cons (by omega) (.cons (by omega) .nil),0,by omega,fun h=>absurd rfl h,rfl⟩
 split
 ·rename_i h
  subst h
  obtain⟨p1,p2,p3⟩:=qlgL_p hc [nx d 4,nx (ad d) 4,1+nx (ad (ad d)) (60-1+1)] (.cons (by omega) (.cons (by omega) (.cons (by omega) .nil))) (ad (ad (ad (ad d)))) (1+(nx (ad (ad (ad d))) 2).toNat)
  exact⟨by omega,p3,_,by omega,fun _=>by omega,p1⟩
 split
 ·rename_i h
  subst h
  obtain⟨p1,p2,p3⟩:=qupL_p [nx d 4] (.cons (by omega) .nil) (ad (ad d)) (1+(nx (ad d) 2).toNat)
  exact⟨by omega,p3,_,by omega,fun _=>by omega,p1⟩
 ·rename_i h1 h2 h3 h4 h5
  have:k=1∨k=9∨k=12:=by omega
  refine⟨Nat.le_refl _,.nil,0,by omega,fun h2=>?_,?_⟩<;>rcases this with rfl|rfl|rfl
  all_goals first|rfl|exact absurd rfl h2
structure MgP (m:Ms):Prop where
 t:BY m.tok
 l:m.tok.length=10
 k:1≤m.kind∧m.kind≤12
 n:NmB m.args
 c:∃n:Nat,n≤2∧(grpF m.kind≠0→1≤n)∧m.args.length=fixF m.kind+n*grpF m.kind
 d:m.data=[]
def qcl (cm:Bool) (d:Dk):Int×Dk:=if cm=true then(nx (ad d) 2,ad (ad d))else(nx d 4,ad d)
theorem qcl_p (cm:Bool) (d:Dk):(0≤(qcl cm d).1∧(qcl cm d).1≤10)∧rem (qcl cm d).2≤rem d:=by
 have r1:=rem_ad d
 have r2:=rem_ad (ad d)
 have w1:=nx_bd d 4 (by omega)
 have w2:=nx_bd (ad d) 2 (by omega)
 unfold qcl
 split<;>(refine⟨?_,?_⟩<;>dsimp only<;>omega)
theorem qmessage_ex (c:Cf) (hc:CfW c) (g:Int) (hg:0≤g∧g<256) (cm:Bool) (d:Dk):∃(m:Ms) (d':Dk),MgP m∧rem d'≤rem d∧CallSim Tryz.prog 41 [.ptr 1000 0 0,cfA c,iA g,bA cm] [(1000,dkE d)] (msA m) [(1000,dkE d')]:=by
 have c1:=next_c d 12 (by omega) (by omega)
 have b1:=nx_bd d 12 (by omega)
 have r1:=rem_ad d
 have cs0:=secret_c (1000+g)
 have cb0:=bytes2_c g 0 (secF (1000+g)) (by rw[secF_len];omega) hg.1 hg.2 (by omega) (by omega)
 generalize hx:nx d 12=x at*
 generalize ad d=d1 at*
 have hT:=qmgT_p g hg d1
 have hTl:=qmgT_len g d1
 generalize hTe:qmgT g d1=v at*
 obtain⟨tk0,d2⟩:=v
 dsimp only at hT hTl
 have hK:=qmgK_p (1+x) (by omega) d2
 generalize hKe:qmgK (1+x) d2=v at*
 obtain⟨k,d3⟩:=v
 dsimp only at hK
 have hC:=qcl_p cm d3
 generalize hCe:qcl cm d3=v at*
 obtain⟨cl,d4⟩:=v
 dsimp only at hC
 have hA:=qmgA_p hc k cl hC.1 hK.1 d4
 generalize hAe:qmgA c k cl d4=v at*
 obtain⟨args,d5⟩:=v
 dsimp only at hA
 refine⟨⟨k,tk0,args,[]⟩,d5,⟨hT.1,hTl,hK.1,hA.2.1,hA.2.2,rfl⟩,by have:=hT.2;have:=hK.2;have:=hC.2;have:=hA.1;omega,?_⟩
 clear hTl
 have n9:=next_c d1 9 (by omega) (by omega)
 have cqf:=qlegs_c c hc
 unfold cfA at*
 rw[show slA jnA c.js= .sl false (c.js.map jnA)from rfl,show slA agA c.ags= .sl false (c.ags.map agA)from rfl]at*
 generalize c.js.map jnA=JS at*
 generalize c.ags.map agA=AGS at*
 (refine eN Tryz.func41 Tryz.call41 fun F hF=>?_)
 (have zc1:=c1;have zc2:=n9;have zc3:=cs0;have zc4:=cb0;(repeat' (first|refine WZ ?_|refine SG (I2 (fun hc=>?_) (fun hc=>?_))|refine SG (fun hc=>?_)|(refine is_ops ?_;refine is_call ?_;refine SC ?_)|(refine is_ops ?_;first|refine SM ?_)|refine SQ ?_|fail))<;>clear zc1 zc2 zc3 zc4)
 refine sim_join [1000,5,8,9] [0,2,3,5,8,9] ⟨[(0,.ptr 1000 0 0),(2,iA g),(3,bA cm),(5,.ptr 5 0 0),(8,.ptr 8 0 0),(9,.ptr 9 0 0)],[(1000,dkE d2),(5,.box [.sl false JS,.sl false AGS,iA c.per,iA c.cap,iA c.hold,iA c.lock]),(8,.box [iA 0,.s (.slice none 0 0),.s (.slice none 0 0),.s (.slice none 0 0)]),(9,.box [iA (1+x),slA yA tk0,.s (.slice none 0 0),.s (.slice none 0 0)])]⟩ rfl ?_ ?_
 ·unfold qmgT at hTe
  by_cases h7:nx d1 9=7
  ·rw[if_pos h7]at hTe
   cases hTe
   have n1:=next_c (ad d1) 4 (by omega) (by omega)
   have n2:=next_c (ad (ad d1)) 3 (by omega) (by omega)
   have w1:=nx_bd (ad d1) 4 (by omega)
   have w2:=nx_bd (ad (ad d1)) 3 (by omega)
   have cs:=secret_c (2000+10*g+nx (ad (ad d1)) 3)
   have cb:=bytes2_c g (nx (ad d1) 4) (secF (2000+10*g+nx (ad (ad d1)) 3)) (by rw[secF_len];omega) hg.1 hg.2 (by omega) (by omega)
   clear hT hKe
   (have zc1:=n1;have zc2:=n2;have zc3:=cs;have zc4:=cb;refine WW ?_;clear zc1 zc2 zc3 zc4)
   exact⟨rfl,rfl⟩
  rw[if_neg h7]at hTe
  by_cases h8:nx d1 9=8
  ·rw[if_pos h8]at hTe
   cases hTe
   have n1:=next_c (ad d1) 3 (by omega) (by omega)
   have n2:=next_c (ad (ad d1)) 3 (by omega) (by omega)
   have w1:=nx_bd (ad d1) 3 (by omega)
   have w2:=nx_bd (ad (ad d1)) 3 (by omega)
   have cs:=secret_c (1000+nx (ad (ad d1)) 3)
   have cb:=bytes2_c (nx (ad d1) 3) 0 (secF (1000+nx (ad (ad d1)) 3)) (by rw[secF_len];omega) (by omega) (by omega) (by omega) (by omega)
   clear hT hKe
   (have zc1:=n1;have zc2:=n2;have zc3:=cs;have zc4:=cb;refine WW ?_;clear zc1 zc2 zc3 zc4)
   exact⟨rfl,rfl⟩
  ·rw[if_neg h8]at hTe
   cases hTe
   clear hT hKe
   (refine WW ?_)
   exact⟨rfl,rfl⟩
 clear hTe n9 c1 cs0 cb0
 have n2:=next_c d2 2 (by omega) (by omega)
 (have zc1:=n2;(repeat' (first|refine WZ ?_|refine SG (I2 (fun hc=>?_) (fun hc=>?_))|refine SG (fun hc=>?_)|(refine is_ops ?_;refine is_call ?_;refine SC ?_)|(refine is_ops ?_;first|refine SM ?_)|refine SQ ?_|fail))<;>clear zc1)
 refine sim_join [1000,5,8,9] [0,2,3,5,8,9] ⟨[(0,.ptr 1000 0 0),(2,iA g),(3,bA cm),(5,.ptr 5 0 0),(8,.ptr 8 0 0),(9,.ptr 9 0 0)],[(1000,dkE d3),(5,.box [.sl false JS,.sl false AGS,iA c.per,iA c.cap,iA c.hold,iA c.lock]),(8,.box [iA 0,.s (.slice none 0 0),.s (.slice none 0 0),.s (.slice none 0 0)]),(9,.box [iA k,slA yA tk0,.s (.slice none 0 0),.s (.slice none 0 0)])]⟩ rfl ?_ ?_
 ·unfold qmgK at hKe
  have n3:=next_c (ad d2) 4 (by omega) (by omega)
  have w3:=nx_bd (ad d2) 4 (by omega)
  have hy:=qkd4_at _ w3
  have hl4:([AV.s (.int .i64 6),AV.s (.int .i64 4),AV.s (.int .i64 6),AV.s (.int .i64 7)]:List AV).length=4:=rfl
  clear hAe hCe hK
  by_cases h0:nx d2 2=0
  ·rw[if_pos h0]at hKe
   cases hKe
   (have zc1:=n3;refine WW (I2 (fun hc=>?_) (fun hc=>?_))<;>clear zc1)
   all_goals first|(exfalso;omega;done)|exact⟨rfl,rfl⟩
  ·rw[if_neg h0]at hKe
   cases hKe
   (have zc1:=n3;refine WW (I2 (fun hc=>?_) (fun hc=>?_))<;>clear zc1)
   all_goals first|(exfalso;omega;done)|exact⟨rfl,rfl⟩
 clear hKe n2
 have c3:=next_c d3 4 (by omega) (by omega)
 (have zc1:=c3;(repeat' (first|refine WZ ?_|refine SG (I2 (fun hc=>?_) (fun hc=>?_))|refine SG (fun hc=>?_)|(refine is_ops ?_;refine is_call ?_;refine SC ?_)|(refine is_ops ?_;first|refine SM ?_)|refine SQ ?_|fail))<;>clear zc1)
 refine sim_join [1000,5,8,9] [0,2,3,5,8,9,10] ⟨[(0,.ptr 1000 0 0),(2,iA g),(3,bA cm),(5,.ptr 5 0 0),(8,.ptr 8 0 0),(9,.ptr 9 0 0),(10,iA cl)],[(1000,dkE d4),(5,.box [.sl false JS,.sl false AGS,iA c.per,iA c.cap,iA c.hold,iA c.lock]),(8,.box [iA 0,.s (.slice none 0 0),.s (.slice none 0 0),.s (.slice none 0 0)]),(9,.box [iA k,slA yA tk0,.s (.slice none 0 0),.s (.slice none 0 0)])]⟩ rfl ?_ ?_
 ·unfold qcl at hCe
  clear hAe
  have n2:=next_c (ad d3) 2 (by omega) (by omega)
  cases cm with
  |true=>
   rw[if_pos rfl]at hCe
   cases hCe
   (have zc1:=n2;refine WW ?_;clear zc1)
   exact⟨rfl,rfl⟩
  |false=>
   rw[if_neg Bool.false_ne_true]at hCe
   cases hCe
   (refine WW ?_)
   exact⟨rfl,rfl⟩
 clear hCe c3
 (repeat' (first|refine WZ ?_|refine SG (I2 (fun hc=>?_) (fun hc=>?_))|refine SG (fun hc=>?_)|(refine is_ops ?_;refine is_call ?_;fail)|(refine is_ops ?_;first|refine SM ?_)|first|refine SV ?_|refine SK (I2 (fun hc=>?_) (fun hc=>?_))|refine SK (fun hc=>?_)|fail))
 have b4:=nx_bd d4 4 (by omega)
 unfold qmgA at hAe
 by_cases k2:k=2
 ·rw[if_pos k2]at hAe
  cases hAe
  have n1:=next_c d4 5 (by omega) (by omega)
  have n2:=next_c (ad d4) 5 (by omega) (by omega)
  have n3:=next_c (ad (ad d4)) 4 (by omega) (by omega)
  have w1:=nx_bd d4 5 (by omega)
  have w3:=nx_bd (ad (ad d4)) 4 (by omega)
  have h1:=qrq5_at _ w1
  have h3:=qlf4_at _ w3
  have hl5:([AV.s (.int .i64 63),AV.s (.int .i64 1),AV.s (.int .i64 3),AV.s (.int .i64 47),AV.s (.int .i64 64)]:List AV).length=5:=rfl
  have hl4:([AV.s (.int .i64 0),AV.s (.int .i64 5),AV.s (.int .i64 30),AV.s (.int .i64 700)]:List AV).length=4:=rfl
  generalize qrq5 (nx d4 5)=y1 at*
  generalize qlf4 (nx (ad (ad d4)) 4)=y3 at*
  clear hA hK hC hT
  (have zc1:=n1;have zc2:=n2;have zc3:=n3;refine WW ?_;clear zc1 zc2 zc3)
  exact fin_ret [1000] rfl rfl rfl rfl
 rw[if_neg k2]at hAe
 by_cases k3:k=3∨k=8∨k=5∨k=10∨k=11
 ·rw[if_pos k3]at hAe
  cases hAe
  have n1:=next_c d4 4 (by omega) (by omega)
  clear hA hK hC hT
  rcases k3 with h|h|h|h|h<;>((have zc1:=n1;refine WW ?_;clear zc1);exact fin_ret [1000] rfl rfl rfl rfl)
 rw[if_neg k3]at hAe
 by_cases k4:k=4
 ·rw[if_pos k4]at hAe
  cases hAe
  have n1:=next_c d4 4 (by omega) (by omega)
  clear hA hK hC hT
  (have zc1:=n1;refine WW ?_;clear zc1)
  exact fin_ret [1000] rfl rfl rfl rfl
 rw[if_neg k4]at hAe
 by_cases k6:k=6
 ·rw[if_pos k6]at hAe
  have n1:=next_c d4 4 (by omega) (by omega)
  have n2:=next_c (ad d4) 4 (by omega) (by omega)
  have n3:=range_c (ad (ad d4)) 1 60 (by omega) (by omega) (by omega)
  have w1:=nx_bd d4 4 (by omega)
  have w2:=nx_bd (ad d4) 4 (by omega)
  have w3:=nx_bd (ad (ad d4)) (60-1+1) (by omega)
  have cq:=cqf [nx d4 4,nx (ad d4) 4,1+nx (ad (ad d4)) (60-1+1)] (by simp) (.cons (by omega) (.cons (by omega) (.cons (by omega) .nil))) (ad (ad (ad d4)))
  rw[hAe]at cq
  clear cqf
  clear hA hK hC hT hAe
  generalize 1+nx (ad (ad d4)) (60-1+1)=x3 at*
  generalize nx (ad d4) 4=x2 at*
  generalize nx d4 4=x1 at*
  (have zc1:=n1;have zc2:=n2;have zc3:=n3;have zc4:=cq;refine WW ?_;clear zc1 zc2 zc3 zc4)
  exact fin_ret [1000] rfl rfl (congrArg (fun z=>AV.agg [iA k,slA yA tk0,.sl false z,slA yA []]) (List.take_length (l:=args.map iA))) rfl
 rw[if_neg k6]at hAe
 by_cases k7:k=7
 ·rw[if_pos k7]at hAe
  have n1:=next_c d4 4 (by omega) (by omega)
  have n2:=next_c (ad d4) 2 (by omega) (by omega)
  have w2:=nx_bd (ad d4) 2 (by omega)
  have w1:=nx_bd d4 4 (by omega)
  have hnx:NmB [nx d4 4]:= .cons (by omega) .nil
  clear w1
  clear hA hK hC hT
  generalize nx d4 4=x1 at*
  generalize nx (ad d4) 2=n at*
  generalize ad d4=e4 at*
  generalize ad e4=e5 at*
  obtain⟨N,hN⟩:∃N:Nat,1+n.toNat=N:=⟨_,rfl⟩
  have hN2:1+n=(N:Int):=by omega
  rw[hN]at hAe
  (have zc1:=n1;have zc2:=n2;refine WW ?_;clear zc1 zc2)
  refine sim_stale 114 rfl ?_
  (refine sim_cnt (N) [9,1000,114,8] [8] [0,8,9] [11,0,8,9] rfl (fun i T U=>⟨(11,iA ((N:Int)-i))::T,(9,.box [iA k,slA yA tk0,.ref 114 0 ((qupL [x1] e5 i).1.map iA).length,.s (.slice none 0 0)])::(1000,dkE (qupL [x1] e5 i).2)::(114,.arr 1 ((qupL [x1] e5 i).1.map iA) true)::U⟩) ?_;(conv=>whnf);refine⟨by(rw[show(N:Int)-(0:Nat)=1+n by omega];rfl),?_,?_⟩)
  ·intro i hi
   have hl:=(qupL_p [x1] hnx e5 i).1
   have eS:qupL [x1] e5 (i+1)=qupS (qupL [x1] e5 i).1 (qupL [x1] e5 i).2:=rfl
   unfold qupS at eS
   rw[show((N:Int)-((i+1:Nat):Int))=(N:Int)-i-1 by omega]
   generalize (qupL [x1] e5 i).1=p at*
   generalize (qupL [x1] e5 i).2=e at*
   have hk1:1≤(N:Int)-i:=by omega
   have hk2:(N:Int)-i≤10:=by omega
   have hp:p.length≤100:=by simp at hl;omega
   generalize (N:Int)-i=q at*
   have n1:=next_c e 3 (by omega) (by omega)
   have n2:=next_c (ad e) 40 (by omega) (by omega)
   have w1:=nx_bd e 3 (by omega)
   have w2:=nx_bd (ad e) 40 (by omega)
   generalize nx (ad e) 40=y2 at*
   generalize nx e 3=y1 at*
   generalize ad e=e1 at*
   generalize ad e1=e2 at*
   rw[eS]
   (have zc1:=n1;have zc2:=n2;refine WW ?_;clear zc1 zc2)
   show restr _ _ _=_
   rw[List.map_append]
   rfl
  ·rw[show(N:Int)-(N:Int)=0 by omega,hAe]
   (refine WW ?_)
   exact fin_ret [1000] rfl rfl (congrArg (fun z=>AV.agg [iA k,slA yA tk0,.sl false z,slA yA []]) (List.take_length (l:=args.map iA))) rfl
 ·rw[if_neg k7]at hAe
  cases hAe
  clear hA hK hC hT
  (refine WW ?_)
  exact fin_ret [1000] rfl rfl rfl rfl
end
section
set_option maxRecDepth 4000
set_option maxHeartbeats 2000000
theorem forS2_c (k:Int):CallSim Tryz.prog 46 [iA k] [] (bA (decide (1≤k∧k≤12))) []:=by
 cases hb:decide (1≤k∧k≤12)with
 |false=>(rw[decide_eq_false_iff_not]at hb;(refine eN Tryz.func46 Tryz.call46 fun F hF=>?_);((refine WW (I2 (fun hc=>?_) (fun hc=>?_))));all_goals (first|exact fr0|(exfalso;omega)|(apply fin_bool;(exact fr0);simp only[cmpB,decide_eq_false_iff_not,decide_eq_true_eq,beq_eq_false_iff_ne,bne_eq_false_iff_eq,beq_iff_eq,bne_iff_ne,ne_eq];omega)))
 |true=>(rw[decide_eq_true_eq]at hb;(refine eN Tryz.func46 Tryz.call46 fun F hF=>?_);((refine WW ?_));all_goals (first|exact fr0|(exfalso;omega)|(apply fin_bool;(exact fr0);simp only[cmpB,decide_eq_false_iff_not,decide_eq_true_eq,beq_eq_false_iff_ne,bne_eq_false_iff_eq,beq_iff_eq,bne_iff_ne,ne_eq];omega)))
theorem forS_c (k:Int):CallSim Tryz.prog 73 [iA k] [] (bA (decide (1≤k∧k≤12))) []:=by
 cases hb:decide (1≤k∧k≤12)with
 |false=>(rw[decide_eq_false_iff_not]at hb;(refine eN Tryz.func73 Tryz.call73 fun F hF=>?_);((refine WW (I2 (fun hc=>?_) (fun hc=>?_))));all_goals (first|exact fr0|(exfalso;omega)|(apply fin_bool;(exact fr0);simp only[cmpB,decide_eq_false_iff_not,decide_eq_true_eq,beq_eq_false_iff_ne,bne_eq_false_iff_eq,beq_iff_eq,bne_iff_ne,ne_eq];omega)))
 |true=>(rw[decide_eq_true_eq]at hb;(refine eN Tryz.func73 Tryz.call73 fun F hF=>?_);((refine WW ?_));all_goals (first|exact fr0|(exfalso;omega)|(apply fin_bool;(exact fr0);simp only[cmpB,decide_eq_false_iff_not,decide_eq_true_eq,beq_eq_false_iff_ne,bne_eq_false_iff_eq,beq_iff_eq,bne_iff_ne,ne_eq];omega)))
theorem pcF_len (fx gr:Nat) (c:Int):∀(l:List Int) (i:Nat),(pcF fx gr c i l).length≤6*l.length
 | [],i=>by simp[pcF]
 |x::r,i=>by
  have h1:=pcF_len fx gr c r (i+1)
  have h2:=enF_len x
  rw[pcF,List.length_append,List.length_append,List.length_cons]
  have h3:(if i=fx∧gr≠0 then [c]else []).length≤1:=by split<;>simp
  omega
def vmF (gr c:Nat) (d:List Int):Bool:=decide (d.length=0∧(gr=0∨1≤c))
theorem grpF_3 (k:Int):grpF k=0∨grpF k=2∨grpF k=4:=by
 unfold grpF
 repeat' split
 all_goals omega
theorem fixF_3 (k:Int):fixF k≤3:=by
 unfold fixF
 repeat' split
 all_goals omega
theorem valid5_c (k:Int) (h0:1≤k) (h1:k≤12) (m:Ms) (c:Nat) (hk:m.kind=k) (ht:m.tok.length=10) (hd:m.data.length≤100000) (ha:∀x∈m.args,0≤x∧x≤4294967295) (hc:m.args.length=fixF k+c*grpF k) (hc3:c≤3):
  CallSim Tryz.prog 58 [msA m] [] (bA (vmF (grpF k) c m.data)) []:=by
 have c1:=of12_c k h0 h1
 have c2:=forS2_c k
 have hf:=fixF_3 k
 rw[decide_eq_true ⟨h0,h1⟩]at c2
 have c3:=payload_c k h0 h1 m c hk ht hd ha (by have:=grpF_3 k;rcases this with h|h|h<;>rw[h]at hc<;>omega) (fun _=>hc) hc3
 have hpl:(plF2 (fixF k) (grpF k) c m).length≤10+(6*m.args.length+(1+m.data.length)):=by
  have h1:=pcF_len (fixF k) (grpF k) c m.args 0
  have h3:(if grpF k≠0∧m.args.length=fixF k then [(0:Int)]else []).length≤1:=by split<;>simp
  unfold plF2
  rw[List.length_append,List.length_append,List.length_append]
  omega
 have hlp:=map_len yA (plF2 (fixF k) (grpF k) c m)
 have hg:=grpF_3 k
 subst hk
 generalize plF2 (fixF m.kind) (grpF m.kind) c m=pl at*
 generalize fixF m.kind=fx at*
 generalize grpF m.kind=gr at*
 unfold sh2A at c1
 have hlt:=map_len yA m.tok
 have hla:=map_len iA m.args
 have hld:=map_len yA m.data
 cases hb:vmF gr c m.data with
 | true=>
  unfold vmF at hb
  rw[decide_eq_true_eq]at hb
  obtain⟨hb1,hb2⟩:=hb
  rcases hg with rfl|rfl|rfl
  ·rw[if_pos rfl,if_pos rfl]at c1
   (refine eN Tryz.func58 Tryz.call58 fun F hF=>?_)
   (have zc1:=c1;have zc2:=c2;refine WW ?_;clear zc1 zc2)
   (refine sim_rng (m.args) [1] [1] [1,97,98] [99,1,97,98] rfl (fun i pre T U=>⟨(99,iA i)::T,U⟩) ?_;(conv=>whnf);refine⟨by rfl,?_,?_⟩)
   ·intro i pre x post hx hi
    have hy:=rng_at iA hx hi
    have hlt2:=rng_lt hx hi
    have hxr:=ha x (rng_mem hx)
    clear hx
    (refine WW ?_)
    rfl
   ·(have zc1:=c3;refine WW ?_;clear zc1)
    exact fr0
  all_goals
   rw[if_neg (by decide),if_neg (by decide)]at c1
   have hm2:(((m.args.map iA).length:Int)-(fx:Int)).tmod ((2:Nat):Int)=0:=by rw[Int.tmod_eq_emod_of_nonneg (by omega)];omega
   have hm4:(((m.args.map iA).length:Int)-(fx:Int)).tmod ((4:Nat):Int)=(((m.args.map iA).length:Int)-(fx:Int)) % 4:=Int.tmod_eq_emod_of_nonneg (by omega)
   (refine eN Tryz.func58 Tryz.call58 fun F hF=>?_)
   (have zc1:=c1;have zc2:=c2;refine WW ?_;clear zc1 zc2)
   (refine sim_rng (m.args) [1] [1] [1,97,98] [99,1,97,98] rfl (fun i pre T U=>⟨(99,iA i)::T,U⟩) ?_;(conv=>whnf);refine⟨by rfl,?_,?_⟩)
   ·intro i pre x post hx hi
    have hy:=rng_at iA hx hi
    have hlt2:=rng_lt hx hi
    have hxr:=ha x (rng_mem hx)
    clear hx
    (refine WW ?_)
    rfl
   ·(have zc1:=c3;refine WW ?_;clear zc1)
    exact fr0
 | false=>
  unfold vmF at hb
  rw[decide_eq_false_iff_not]at hb
  rcases hg with rfl|rfl|rfl
  ·rw[if_pos rfl,if_pos rfl]at c1
   have hd0:m.data.length≠0:=fun h=>hb ⟨h,.inl rfl⟩
   (refine eN Tryz.func58 Tryz.call58 fun F hF=>?_)
   (have zc1:=c1;have zc2:=c2;refine WW ?_;clear zc1 zc2)
   exact fr0
  all_goals
   rw[if_neg (by decide),if_neg (by decide)]at c1
   have hm2:(((m.args.map iA).length:Int)-(fx:Int)).tmod ((2:Nat):Int)=0:=by rw[Int.tmod_eq_emod_of_nonneg (by omega)];omega
   have hm4:(((m.args.map iA).length:Int)-(fx:Int)).tmod ((4:Nat):Int)=(((m.args.map iA).length:Int)-(fx:Int)) % 4:=Int.tmod_eq_emod_of_nonneg (by omega)
   by_cases hc1:1≤c
   ·have hd0:m.data.length≠0:=fun h=>hb ⟨h,.inr hc1⟩
    (refine eN Tryz.func58 Tryz.call58 fun F hF=>?_)
    (have zc1:=c1;have zc2:=c2;refine WW ?_;clear zc1 zc2)
    exact fr0
   ·(refine eN Tryz.func58 Tryz.call58 fun F hF=>?_)
    (have zc1:=c1;have zc2:=c2;refine WW ?_;clear zc1 zc2)
    exact fr0
end
end Av
end Go.Proofs.YtaikgchmpieooaaGreat
