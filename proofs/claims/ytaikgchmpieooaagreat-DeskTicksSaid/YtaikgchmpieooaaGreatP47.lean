/- Part 47: contracts of the functions, and what they rest upon. -/
import Derived.Test.YtaikgchmpieooaaGreatP44
namespace Go.Proofs.YtaikgchmpieooaaGreat
namespace Av
set_option linter.unusedSimpArgs false
set_option linter.unusedVariables false
section
set_option maxRecDepth 4000
set_option maxHeartbeats 4000000
structure Vw where
 fl:Bool
 ov:Bool
 co:List Int
 cn:List Int
instance:Inhabited Vw:=⟨⟨false,false,[],[]⟩⟩
def viA (v:Vw):AV:= .agg [bA v.fl,bA v.ov,slA iA v.co,slA iA v.cn]
structure VwB (v:Vw):Prop where
 n:v.co.length≤8
 m:v.cn.length≤8
 c:∀c∈v.co,0≤c∧c≤2
def u8w (n:Int):Int:=IntKind.u8.wrap n
def hdF (a b:Bool):Int:=(if a=true then 1 else 0)+(if b=true then 2 else 0)
def colF (l:List Int):Nat→Int
 |0=>0
 |i+1=>colF l i+l.getD i 0*p2 (2*(i:Int))
def vwF (v:Vw):List Int:=[hdF v.fl v.ov,shrI (colF v.co v.co.length) 8,u8w (colF v.co v.co.length)]++v.cn.map u8w
def rcF (l:List Vw):List Int:=(l.map vwF).flatten
theorem p2_4 (i:Nat):p2 (2*((i+1:Nat):Int))=p2 (2*(i:Int))*4:=by
 unfold p2
 rw[show(2*((i+1:Nat):Int)).toNat=(2*(i:Int)).toNat+2 by omega,Int.pow_add]
 rfl
theorem p2_le8 (i:Nat) (h:i≤8):1≤p2 (2*(i:Int))∧p2 (2*(i:Int))≤65536:=by
 have:i=0∨i=1∨i=2∨i=3∨i=4∨i=5∨i=6∨i=7∨i=8:=by omega
 rcases this with rfl|rfl|rfl|rfl|rfl|rfl|rfl|rfl|rfl<;>decide
theorem colF_bd {l:List Int} (h:∀c∈l,0≤c∧c≤2):∀i,i≤l.length→i≤8→0≤colF l i∧colF l i<p2 (2*(i:Int))
 |0,_,_=>by simp[colF,p2]
 | i+1,h1,h2=>by
  have ih:=colF_bd h i (by omega) (by omega)
  have hm:l.getD i 0∈l:=by
   rw[List.getD_eq_getElem?_getD,List.getElem?_eq_getElem (by omega)]
   exact List.getElem_mem _
  have hc:=h _ hm
  have hp:=p2_le8 i (by omega)
  rw[p2_4,colF]
  generalize l.getD i 0=c at*
  generalize p2 (2*(i:Int))=w at*
  have:c=0∨c=1∨c=2:=by omega
  rcases this with rfl|rfl|rfl<;>omega
theorem shr8 {n:Int} (h0:0≤n) (h1:n<65536):0≤shrI n 8∧shrI n 8≤255:=by
 unfold shrI
 rw[show(2:Int) ^ (8:Int).toNat=256 from rfl,Int.fdiv_eq_ediv_of_nonneg _ (by omega)]
 omega
theorem rcF_snoc (pre:List Vw) (v:Vw):(rcF (pre++[v])).map yA=(rcF pre).map yA++[yA (hdF v.fl v.ov),yA (shrI (colF v.co v.co.length) 8),yA (u8w (colF v.co v.co.length))]++v.cn.map (fun n=>yA (u8w n)):=by
 unfold rcF vwF
 simp
theorem rcF_len {l:List Vw} (h:∀v∈l,VwB v):(rcF l).length≤11*l.length:=by
 unfold rcF
 induction l with
 |nil=>simp
 |cons v l ih=>
  have h1:=ih fun x hx=>h x (by simp[hx])
  have h2:=(h v (by simp)).m
  rw[List.map_cons,List.flatten_cons,List.length_append,List.length_cons]
  unfold vwF
  rw[List.length_append,List.length_map]
  simp only[List.length_cons,List.length_nil]
  unfold vwF at h1
  omega
theorem recB_c (l:List Vw) (hn:l.length≤1000) (hb:∀v∈l,VwB v):CallSim Tryz.prog 113 [slA viA l] [] (.ref 1001 0 ((rcF l).map yA).length) [(1001,.arr 1 ((rcF l).map yA) true)]:=by
 have hl:=map_len viA l
 have hfin:=rcF_len hb
 (refine eN Tryz.func113 Tryz.call113 fun F hF=>?_)
 (refine WW ?_)
 refine sim_virt 3 1001 1 rfl rfl rfl ?_
 (refine sim_rng (l) [1001] [] [13,14] [3,15,13,14] rfl (fun i pre T U=>⟨(3,.ref 1001 0 ((rcF pre).map yA).length)::(15,iA i)::T,(1001,.arr 1 ((rcF pre).map yA) true)::U⟩) ?_;(conv=>whnf);refine⟨by rfl,?_,?_⟩)
 ·intro i pre v post hx hi
  have hy:=rng_at viA hx hi
  have hlt:=rng_lt hx hi
  have hv:=hb v (rng_mem hx)
  have hpl:=rcF_len (l:=pre) (fun w hw=>hb w (by rw[hx];simp[hw]))
  have hxl:((rcF pre).map yA).length≤11000:=by rw[List.length_map];omega
  rw[rcF_snoc]
  clear hx hpl hfin
  generalize (rcF pre).map yA=xs at*
  have hc1:=map_len iA v.co
  have hc2:=map_len iA v.cn
  have hbd:=fun k hk=>colF_bd hv.c k hk (Nat.le_trans hk hv.n)
  have hn8:=hv.n
  have hm8:=hv.m
  obtain⟨fl,ov,co,cn⟩:=v
  dsimp only at*
  rw[show viA ⟨fl,ov,co,cn⟩= .agg [bA fl,bA ov,slA iA co,slA iA cn]from rfl]at hy
  have hlast:=hbd co.length (Nat.le_refl _)
  have hpl8:=p2_le8 co.length hn8
  have hs8:=shr8 (n:=colF co co.length) hlast.1 (by omega)
  cases fl<;>cases ov
  ·(refine WW ?_)
   (refine sim_rng (co) [5,1001] [5,1001] [3,5,6,13,14,15,28,29] [7,8,30,3,5,6,13,14,15,28,29] rfl (fun i pre T U=>⟨(7,iA (colF co i))::(8,iA (p2 (2*(i:Int))))::(30,iA i)::T,U⟩) ?_;(conv=>whnf);refine⟨by rfl,?_,?_⟩)
   ·intro k pre2 c post2 hx2 hk
    have hy2:=rng_at iA hx2 hk
    have hlt2:=rng_lt hx2 hk
    have hcm:=hv.c c (rng_mem hx2)
    have hg:co.getD k 0=c:=by rw[hx2,←hk];simp[List.getD]
    have hb1:=hbd k (by omega)
    have hp1:=p2_le8 k (by omega)
    have e1:colF co (k+1)=colF co k+c*p2 (2*(k:Int)):=by rw[colF,hg]
    rw[e1,p2_4]
    clear hx2 hbd hlast hpl8 hs8 e1 hv
    generalize colF co k=s at*
    generalize p2 (2*(k:Int))=w at*
    have:c=0∨c=1∨c=2:=by omega
    rcases this with rfl|rfl|rfl
    all_goals
     (refine WW ?_)
     rfl
   ·clear hbd hv
    generalize colF co co.length=s at*
    (refine WW ?_)
    (refine sim_rng (cn) [1001] [] [13,14,15,53,54] [3,55,13,14,15,53,54] rfl (fun i pre T U=>⟨(3,.ref 1001 0 (xs++[yA (hdF false false),yA (shrI s 8),yA (u8w s)]++pre.map (fun n=>yA (u8w n))).length)::(55,iA i)::T,(1001,.arr 1 (xs++[yA (hdF false false),yA (shrI s 8),yA (u8w s)]++pre.map (fun n=>yA (u8w n))) true)::U⟩) ?_;(conv=>whnf);refine⟨by(simp only[List.map_nil,List.append_nil];rfl),?_,?_⟩)
    ·intro k pre2 c post2 hx2 hk
     have hy2:=rng_at iA hx2 hk
     have hlt2:=rng_lt hx2 hk
     have hpk:(pre2.map (fun n=>yA (u8w n))).length=k:=by rw[List.length_map];exact hk
     rw[List.map_append,List.map_cons,List.map_nil,←List.append_assoc]
     clear hx2
     generalize pre2.map (fun n=>yA (u8w n))=zs2 at*
     (refine WW ?_)
     rfl
    ·(refine WW ?_)
     rfl
  ·(refine WW ?_)
   (refine sim_rng (co) [5,1001] [5,1001] [3,5,6,13,14,15,28,29] [7,8,30,3,5,6,13,14,15,28,29] rfl (fun i pre T U=>⟨(7,iA (colF co i))::(8,iA (p2 (2*(i:Int))))::(30,iA i)::T,U⟩) ?_;(conv=>whnf);refine⟨by rfl,?_,?_⟩)
   ·intro k pre2 c post2 hx2 hk
    have hy2:=rng_at iA hx2 hk
    have hlt2:=rng_lt hx2 hk
    have hcm:=hv.c c (rng_mem hx2)
    have hg:co.getD k 0=c:=by rw[hx2,←hk];simp[List.getD]
    have hb1:=hbd k (by omega)
    have hp1:=p2_le8 k (by omega)
    have e1:colF co (k+1)=colF co k+c*p2 (2*(k:Int)):=by rw[colF,hg]
    rw[e1,p2_4]
    clear hx2 hbd hlast hpl8 hs8 e1 hv
    generalize colF co k=s at*
    generalize p2 (2*(k:Int))=w at*
    have:c=0∨c=1∨c=2:=by omega
    rcases this with rfl|rfl|rfl
    all_goals
     (refine WW ?_)
     rfl
   ·clear hbd hv
    generalize colF co co.length=s at*
    (refine WW ?_)
    (refine sim_rng (cn) [1001] [] [13,14,15,53,54] [3,55,13,14,15,53,54] rfl (fun i pre T U=>⟨(3,.ref 1001 0 (xs++[yA (hdF false true),yA (shrI s 8),yA (u8w s)]++pre.map (fun n=>yA (u8w n))).length)::(55,iA i)::T,(1001,.arr 1 (xs++[yA (hdF false true),yA (shrI s 8),yA (u8w s)]++pre.map (fun n=>yA (u8w n))) true)::U⟩) ?_;(conv=>whnf);refine⟨by(simp only[List.map_nil,List.append_nil];rfl),?_,?_⟩)
    ·intro k pre2 c post2 hx2 hk
     have hy2:=rng_at iA hx2 hk
     have hlt2:=rng_lt hx2 hk
     have hpk:(pre2.map (fun n=>yA (u8w n))).length=k:=by rw[List.length_map];exact hk
     rw[List.map_append,List.map_cons,List.map_nil,←List.append_assoc]
     clear hx2
     generalize pre2.map (fun n=>yA (u8w n))=zs2 at*
     (refine WW ?_)
     rfl
    ·(refine WW ?_)
     rfl
  ·(refine WW ?_)
   (refine sim_rng (co) [5,1001] [5,1001] [3,5,6,13,14,15,28,29] [7,8,30,3,5,6,13,14,15,28,29] rfl (fun i pre T U=>⟨(7,iA (colF co i))::(8,iA (p2 (2*(i:Int))))::(30,iA i)::T,U⟩) ?_;(conv=>whnf);refine⟨by rfl,?_,?_⟩)
   ·intro k pre2 c post2 hx2 hk
    have hy2:=rng_at iA hx2 hk
    have hlt2:=rng_lt hx2 hk
    have hcm:=hv.c c (rng_mem hx2)
    have hg:co.getD k 0=c:=by rw[hx2,←hk];simp[List.getD]
    have hb1:=hbd k (by omega)
    have hp1:=p2_le8 k (by omega)
    have e1:colF co (k+1)=colF co k+c*p2 (2*(k:Int)):=by rw[colF,hg]
    rw[e1,p2_4]
    clear hx2 hbd hlast hpl8 hs8 e1 hv
    generalize colF co k=s at*
    generalize p2 (2*(k:Int))=w at*
    have:c=0∨c=1∨c=2:=by omega
    rcases this with rfl|rfl|rfl
    all_goals
     (refine WW ?_)
     rfl
   ·clear hbd hv
    generalize colF co co.length=s at*
    (refine WW ?_)
    (refine sim_rng (cn) [1001] [] [13,14,15,53,54] [3,55,13,14,15,53,54] rfl (fun i pre T U=>⟨(3,.ref 1001 0 (xs++[yA (hdF true false),yA (shrI s 8),yA (u8w s)]++pre.map (fun n=>yA (u8w n))).length)::(55,iA i)::T,(1001,.arr 1 (xs++[yA (hdF true false),yA (shrI s 8),yA (u8w s)]++pre.map (fun n=>yA (u8w n))) true)::U⟩) ?_;(conv=>whnf);refine⟨by(simp only[List.map_nil,List.append_nil];rfl),?_,?_⟩)
    ·intro k pre2 c post2 hx2 hk
     have hy2:=rng_at iA hx2 hk
     have hlt2:=rng_lt hx2 hk
     have hpk:(pre2.map (fun n=>yA (u8w n))).length=k:=by rw[List.length_map];exact hk
     rw[List.map_append,List.map_cons,List.map_nil,←List.append_assoc]
     clear hx2
     generalize pre2.map (fun n=>yA (u8w n))=zs2 at*
     (refine WW ?_)
     rfl
    ·(refine WW ?_)
     rfl
  ·(refine WW ?_)
   (refine sim_rng (co) [5,1001] [5,1001] [3,5,6,13,14,15,28,29] [7,8,30,3,5,6,13,14,15,28,29] rfl (fun i pre T U=>⟨(7,iA (colF co i))::(8,iA (p2 (2*(i:Int))))::(30,iA i)::T,U⟩) ?_;(conv=>whnf);refine⟨by rfl,?_,?_⟩)
   ·intro k pre2 c post2 hx2 hk
    have hy2:=rng_at iA hx2 hk
    have hlt2:=rng_lt hx2 hk
    have hcm:=hv.c c (rng_mem hx2)
    have hg:co.getD k 0=c:=by rw[hx2,←hk];simp[List.getD]
    have hb1:=hbd k (by omega)
    have hp1:=p2_le8 k (by omega)
    have e1:colF co (k+1)=colF co k+c*p2 (2*(k:Int)):=by rw[colF,hg]
    rw[e1,p2_4]
    clear hx2 hbd hlast hpl8 hs8 e1 hv
    generalize colF co k=s at*
    generalize p2 (2*(k:Int))=w at*
    have:c=0∨c=1∨c=2:=by omega
    rcases this with rfl|rfl|rfl
    all_goals
     (refine WW ?_)
     rfl
   ·clear hbd hv
    generalize colF co co.length=s at*
    (refine WW ?_)
    (refine sim_rng (cn) [1001] [] [13,14,15,53,54] [3,55,13,14,15,53,54] rfl (fun i pre T U=>⟨(3,.ref 1001 0 (xs++[yA (hdF true true),yA (shrI s 8),yA (u8w s)]++pre.map (fun n=>yA (u8w n))).length)::(55,iA i)::T,(1001,.arr 1 (xs++[yA (hdF true true),yA (shrI s 8),yA (u8w s)]++pre.map (fun n=>yA (u8w n))) true)::U⟩) ?_;(conv=>whnf);refine⟨by(simp only[List.map_nil,List.append_nil];rfl),?_,?_⟩)
    ·intro k pre2 c post2 hx2 hk
     have hy2:=rng_at iA hx2 hk
     have hlt2:=rng_lt hx2 hk
     have hpk:(pre2.map (fun n=>yA (u8w n))).length=k:=by rw[List.length_map];exact hk
     rw[List.map_append,List.map_cons,List.map_nil,←List.append_assoc]
     clear hx2
     generalize pre2.map (fun n=>yA (u8w n))=zs2 at*
     (refine WW ?_)
     rfl
    ·(refine WW ?_)
     rfl
 ·(refine WW ?_)
  exact fin_own [1001] rfl rfl rfl rfl
end
section
set_option maxRecDepth 4000
set_option maxHeartbeats 4000000
theorem shl_w {c:Int} {k:Nat} (hk:k<8) (hc:0≤c∧c≤2):IntKind.i64.wrap (c*2 ^ (min (2*(k:Int)).toNat IntKind.i64.bits))=c*p2 (2*(k:Int)):=by
 have hb:IntKind.i64.bits=64:=rfl
 have h1:=p2_le8 k (by omega)
 rw[hb,show min (2*(k:Int)).toNat 64=(2*(k:Int)).toNat by omega]
 have h2:c=0∨c=1∨c=2:=by omega
 unfold p2 at h1
 refine wrap_in (k:= .i64) ⟨?_,?_⟩
 ·show -9223372036854775808≤_
  rcases h2 with rfl|rfl|rfl<;>omega
 ·show _≤9223372036854775807
  rcases h2 with rfl|rfl|rfl<;>omega
theorem recB2_c (l:List Vw) (hn:l.length≤1000) (hb:∀v∈l,VwB v):CallSim Tryz.prog 114 [slA viA l] [] (.ref 1001 0 ((rcF l).map yA).length) [(1001,.arr 1 ((rcF l).map yA) true)]:=by
 have hl:=map_len viA l
 have hfin:=rcF_len hb
 (refine eN Tryz.func114 Tryz.call114 fun F hF=>?_)
 (refine WW ?_)
 refine sim_virt 3 1001 1 rfl rfl rfl ?_
 (refine sim_rng (l) [1001] [] [12,13] [3,14,12,13] rfl (fun i pre T U=>⟨(3,.ref 1001 0 ((rcF pre).map yA).length)::(14,iA i)::T,(1001,.arr 1 ((rcF pre).map yA) true)::U⟩) ?_;(conv=>whnf);refine⟨by rfl,?_,?_⟩)
 ·intro i pre v post hx hi
  have hy:=rng_at viA hx hi
  have hlt:=rng_lt hx hi
  have hv:=hb v (rng_mem hx)
  have hpl:=rcF_len (l:=pre) (fun w hw=>hb w (by rw[hx];simp[hw]))
  have hxl:((rcF pre).map yA).length≤11000:=by rw[List.length_map];omega
  rw[rcF_snoc]
  clear hx hpl hfin
  generalize (rcF pre).map yA=xs at*
  have hc1:=map_len iA v.co
  have hc2:=map_len iA v.cn
  have hbd:=fun k hk=>colF_bd hv.c k hk (Nat.le_trans hk hv.n)
  have hn8:=hv.n
  have hm8:=hv.m
  obtain⟨fl,ov,co,cn⟩:=v
  dsimp only at*
  rw[show viA ⟨fl,ov,co,cn⟩= .agg [bA fl,bA ov,slA iA co,slA iA cn]from rfl]at hy
  have hlast:=hbd co.length (Nat.le_refl _)
  have hpl8:=p2_le8 co.length hn8
  have hs8:=shr8 (n:=colF co co.length) hlast.1 (by omega)
  cases fl<;>cases ov
  ·(refine WW ?_)
   (refine sim_rng (co) [5,1001] [5,1001] [3,5,6,12,13,14,27,28] [7,29,3,5,6,12,13,14,27,28] rfl (fun i pre T U=>⟨(7,iA (colF co i))::(29,iA i)::T,U⟩) ?_;(conv=>whnf);refine⟨by rfl,?_,?_⟩)
   ·intro k pre2 c post2 hx2 hk
    have hy2:=rng_at iA hx2 hk
    have hlt2:=rng_lt hx2 hk
    have hcm:=hv.c c (rng_mem hx2)
    have hg:co.getD k 0=c:=by rw[hx2,←hk];simp[List.getD]
    have hb1:=hbd k (by omega)
    have hp1:=p2_le8 k (by omega)
    have e1:colF co (k+1)=colF co k+c*p2 (2*(k:Int)):=by rw[colF,hg]
    rw[e1]
    have hw0:=shl_w (c:=0) (k:=k) (by omega) (by omega)
    have hw2:=shl_w (c:=2) (k:=k) (by omega) (by omega)
    clear hx2 hbd hlast hpl8 hs8 e1 hv
    generalize colF co k=s at*
    have:c=0∨c=1∨c=2:=by omega
    rcases this with rfl|rfl|rfl
    ·(refine WW ?_)
     rw[hw0]
     rfl
    ·(refine WW ?_)
     rw[Int.one_mul]
     rfl
    ·(refine WW ?_)
     rw[hw2]
     rfl
   ·clear hbd hv
    generalize colF co co.length=s at*
    (refine WW ?_)
    (refine sim_rng (cn) [1001] [] [12,13,14,52,53] [3,54,12,13,14,52,53] rfl (fun i pre T U=>⟨(3,.ref 1001 0 (xs++[yA (hdF false false),yA (shrI s 8),yA (u8w s)]++pre.map (fun n=>yA (u8w n))).length)::(54,iA i)::T,(1001,.arr 1 (xs++[yA (hdF false false),yA (shrI s 8),yA (u8w s)]++pre.map (fun n=>yA (u8w n))) true)::U⟩) ?_;(conv=>whnf);refine⟨by(simp only[List.map_nil,List.append_nil];rfl),?_,?_⟩)
    ·intro k pre2 c post2 hx2 hk
     have hy2:=rng_at iA hx2 hk
     have hlt2:=rng_lt hx2 hk
     have hpk:(pre2.map (fun n=>yA (u8w n))).length=k:=by rw[List.length_map];exact hk
     rw[List.map_append,List.map_cons,List.map_nil,←List.append_assoc]
     clear hx2
     generalize pre2.map (fun n=>yA (u8w n))=zs2 at*
     (refine WW ?_)
     rfl
    ·(refine WW ?_)
     rfl
  ·(refine WW ?_)
   (refine sim_rng (co) [5,1001] [5,1001] [3,5,6,12,13,14,27,28] [7,29,3,5,6,12,13,14,27,28] rfl (fun i pre T U=>⟨(7,iA (colF co i))::(29,iA i)::T,U⟩) ?_;(conv=>whnf);refine⟨by rfl,?_,?_⟩)
   ·intro k pre2 c post2 hx2 hk
    have hy2:=rng_at iA hx2 hk
    have hlt2:=rng_lt hx2 hk
    have hcm:=hv.c c (rng_mem hx2)
    have hg:co.getD k 0=c:=by rw[hx2,←hk];simp[List.getD]
    have hb1:=hbd k (by omega)
    have hp1:=p2_le8 k (by omega)
    have e1:colF co (k+1)=colF co k+c*p2 (2*(k:Int)):=by rw[colF,hg]
    rw[e1]
    have hw0:=shl_w (c:=0) (k:=k) (by omega) (by omega)
    have hw2:=shl_w (c:=2) (k:=k) (by omega) (by omega)
    clear hx2 hbd hlast hpl8 hs8 e1 hv
    generalize colF co k=s at*
    have:c=0∨c=1∨c=2:=by omega
    rcases this with rfl|rfl|rfl
    ·(refine WW ?_)
     rw[hw0]
     rfl
    ·(refine WW ?_)
     rw[Int.one_mul]
     rfl
    ·(refine WW ?_)
     rw[hw2]
     rfl
   ·clear hbd hv
    generalize colF co co.length=s at*
    (refine WW ?_)
    (refine sim_rng (cn) [1001] [] [12,13,14,52,53] [3,54,12,13,14,52,53] rfl (fun i pre T U=>⟨(3,.ref 1001 0 (xs++[yA (hdF false true),yA (shrI s 8),yA (u8w s)]++pre.map (fun n=>yA (u8w n))).length)::(54,iA i)::T,(1001,.arr 1 (xs++[yA (hdF false true),yA (shrI s 8),yA (u8w s)]++pre.map (fun n=>yA (u8w n))) true)::U⟩) ?_;(conv=>whnf);refine⟨by(simp only[List.map_nil,List.append_nil];rfl),?_,?_⟩)
    ·intro k pre2 c post2 hx2 hk
     have hy2:=rng_at iA hx2 hk
     have hlt2:=rng_lt hx2 hk
     have hpk:(pre2.map (fun n=>yA (u8w n))).length=k:=by rw[List.length_map];exact hk
     rw[List.map_append,List.map_cons,List.map_nil,←List.append_assoc]
     clear hx2
     generalize pre2.map (fun n=>yA (u8w n))=zs2 at*
     (refine WW ?_)
     rfl
    ·(refine WW ?_)
     rfl
  ·(refine WW ?_)
   (refine sim_rng (co) [5,1001] [5,1001] [3,5,6,12,13,14,27,28] [7,29,3,5,6,12,13,14,27,28] rfl (fun i pre T U=>⟨(7,iA (colF co i))::(29,iA i)::T,U⟩) ?_;(conv=>whnf);refine⟨by rfl,?_,?_⟩)
   ·intro k pre2 c post2 hx2 hk
    have hy2:=rng_at iA hx2 hk
    have hlt2:=rng_lt hx2 hk
    have hcm:=hv.c c (rng_mem hx2)
    have hg:co.getD k 0=c:=by rw[hx2,←hk];simp[List.getD]
    have hb1:=hbd k (by omega)
    have hp1:=p2_le8 k (by omega)
    have e1:colF co (k+1)=colF co k+c*p2 (2*(k:Int)):=by rw[colF,hg]
    rw[e1]
    have hw0:=shl_w (c:=0) (k:=k) (by omega) (by omega)
    have hw2:=shl_w (c:=2) (k:=k) (by omega) (by omega)
    clear hx2 hbd hlast hpl8 hs8 e1 hv
    generalize colF co k=s at*
    have:c=0∨c=1∨c=2:=by omega
    rcases this with rfl|rfl|rfl
    ·(refine WW ?_)
     rw[hw0]
     rfl
    ·(refine WW ?_)
     rw[Int.one_mul]
     rfl
    ·(refine WW ?_)
     rw[hw2]
     rfl
   ·clear hbd hv
    generalize colF co co.length=s at*
    (refine WW ?_)
    (refine sim_rng (cn) [1001] [] [12,13,14,52,53] [3,54,12,13,14,52,53] rfl (fun i pre T U=>⟨(3,.ref 1001 0 (xs++[yA (hdF true false),yA (shrI s 8),yA (u8w s)]++pre.map (fun n=>yA (u8w n))).length)::(54,iA i)::T,(1001,.arr 1 (xs++[yA (hdF true false),yA (shrI s 8),yA (u8w s)]++pre.map (fun n=>yA (u8w n))) true)::U⟩) ?_;(conv=>whnf);refine⟨by(simp only[List.map_nil,List.append_nil];rfl),?_,?_⟩)
    ·intro k pre2 c post2 hx2 hk
     have hy2:=rng_at iA hx2 hk
     have hlt2:=rng_lt hx2 hk
     have hpk:(pre2.map (fun n=>yA (u8w n))).length=k:=by rw[List.length_map];exact hk
     rw[List.map_append,List.map_cons,List.map_nil,←List.append_assoc]
     clear hx2
     generalize pre2.map (fun n=>yA (u8w n))=zs2 at*
     (refine WW ?_)
     rfl
    ·(refine WW ?_)
     rfl
  ·(refine WW ?_)
   (refine sim_rng (co) [5,1001] [5,1001] [3,5,6,12,13,14,27,28] [7,29,3,5,6,12,13,14,27,28] rfl (fun i pre T U=>⟨(7,iA (colF co i))::(29,iA i)::T,U⟩) ?_;(conv=>whnf);refine⟨by rfl,?_,?_⟩)
   ·intro k pre2 c post2 hx2 hk
    have hy2:=rng_at iA hx2 hk
    have hlt2:=rng_lt hx2 hk
    have hcm:=hv.c c (rng_mem hx2)
    have hg:co.getD k 0=c:=by rw[hx2,←hk];simp[List.getD]
    have hb1:=hbd k (by omega)
    have hp1:=p2_le8 k (by omega)
    have e1:colF co (k+1)=colF co k+c*p2 (2*(k:Int)):=by rw[colF,hg]
    rw[e1]
    have hw0:=shl_w (c:=0) (k:=k) (by omega) (by omega)
    have hw2:=shl_w (c:=2) (k:=k) (by omega) (by omega)
    clear hx2 hbd hlast hpl8 hs8 e1 hv
    generalize colF co k=s at*
    have:c=0∨c=1∨c=2:=by omega
    rcases this with rfl|rfl|rfl
    ·(refine WW ?_)
     rw[hw0]
     rfl
    ·(refine WW ?_)
     rw[Int.one_mul]
     rfl
    ·(refine WW ?_)
     rw[hw2]
     rfl
   ·clear hbd hv
    generalize colF co co.length=s at*
    (refine WW ?_)
    (refine sim_rng (cn) [1001] [] [12,13,14,52,53] [3,54,12,13,14,52,53] rfl (fun i pre T U=>⟨(3,.ref 1001 0 (xs++[yA (hdF true true),yA (shrI s 8),yA (u8w s)]++pre.map (fun n=>yA (u8w n))).length)::(54,iA i)::T,(1001,.arr 1 (xs++[yA (hdF true true),yA (shrI s 8),yA (u8w s)]++pre.map (fun n=>yA (u8w n))) true)::U⟩) ?_;(conv=>whnf);refine⟨by(simp only[List.map_nil,List.append_nil];rfl),?_,?_⟩)
    ·intro k pre2 c post2 hx2 hk
     have hy2:=rng_at iA hx2 hk
     have hlt2:=rng_lt hx2 hk
     have hpk:(pre2.map (fun n=>yA (u8w n))).length=k:=by rw[List.length_map];exact hk
     rw[List.map_append,List.map_cons,List.map_nil,←List.append_assoc]
     clear hx2
     generalize pre2.map (fun n=>yA (u8w n))=zs2 at*
     (refine WW ?_)
     rfl
    ·(refine WW ?_)
     rfl
 ·(refine WW ?_)
  exact fin_own [1001] rfl rfl rfl rfl
end
section
set_option maxRecDepth 4000
set_option maxHeartbeats 4000000
def cdW (g:Lg) (w:Vw):Int:=if 0≤g.ph∧g.ph<(w.co.length:Int)then(if w.ov=true∧w.fl=false∧w.co.getD g.ph.toNat default=1 then 3 else 2)else 1
def cdF (g:Lg) (v:List Vw) (now:Int):Int:=if liB g now=true∧0≤g.jn∧g.jn<(v.length:Int)then cdW g (v.getD g.jn.toNat default)else 1
theorem cdF_bd (g:Lg) (v:List Vw) (now:Int):1≤cdF g v now∧cdF g v now≤3:=by
 unfold cdF cdW
 repeat' split
 all_goals omega
theorem cd_cases (g:Lg) (v:List Vw) (now:Int) {Q:Int→Prop} (q1:liB g now=false→Q 1) (q2:liB g now=true→g.jn<0→Q 1) (q3:liB g now=true→0≤g.jn→(v.length:Int)≤g.jn→Q 1)
  (q4:∀w,liB g now=true→0≤g.jn→g.jn<(v.length:Int)→(v.map viA)[g.jn.toNat]? =some (viA w)→g.ph<0→Q 1)
  (q5:∀w,liB g now=true→0≤g.jn→g.jn<(v.length:Int)→(v.map viA)[g.jn.toNat]? =some (viA w)→0≤g.ph→(w.co.length:Int)≤g.ph→Q 1)
  (q6:∀w c,liB g now=true→0≤g.jn→g.jn<(v.length:Int)→(v.map viA)[g.jn.toNat]? =some (viA w)→0≤g.ph→g.ph<(w.co.length:Int)→(w.co.map iA)[g.ph.toNat]? =some (iA c)→Q (if w.ov=true∧w.fl=false∧c=1 then 3 else 2)):Q (cdF g v now):=by
 unfold cdF
 cases hl:liB g now with
 |false=>rw[if_neg (fun h=>by cases h.1)];exact q1 hl
 |true=>
  by_cases j0:g.jn<0
  ·rw[if_neg (fun h=>by omega)];exact q2 hl j0
  by_cases j1:(v.length:Int)≤g.jn
  ·rw[if_neg (fun h=>by omega)];exact q3 hl (by omega) j1
  have hy:=map_atI viA v g.jn (by omega) (by omega)
  rw[if_pos ⟨rfl,by omega,by omega⟩]
  generalize v.getD g.jn.toNat default=w at*
  unfold cdW
  by_cases p0:g.ph<0
  ·rw[if_neg (fun h=>by omega)];exact q4 w hl (by omega) (by omega) hy p0
  by_cases p1:(w.co.length:Int)≤g.ph
  ·rw[if_neg (fun h=>by omega)];exact q5 w hl (by omega) (by omega) hy (by omega) p1
  have hy2:=map_atI iA w.co g.ph (by omega) (by omega)
  rw[if_pos ⟨by omega,by omega⟩]
  exact q6 w _ hl (by omega) (by omega) hy (by omega) (by omega) hy2
theorem code_c (g:Lg) (v:List Vw) (now:Int) (hn:v.length≤1000) (hb:∀w∈v,w.co.length≤1000):CallSim Tryz.prog 112 [lgA g,slA viA v,iA now] [] (iA (cdF g v now)) []:=by
 have cl:=live_c g now
 have hvl:=map_len viA v
 have hb:∀w,(v.map viA)[g.jn.toNat]? =some (viA w)→(w.co.map iA).length=w.co.length:=fun w _=>map_len iA w.co
 unfold lgA at*
 refine cd_cases (Q:=fun r=>CallSim Tryz.prog 112 [.agg [iA g.jn,iA g.ph,iA g.fr,iA g.to,iA g.sc],slA viA v,iA now] [] (iA r) []) g v now (fun h1=>?_) (fun h1 h2=>?_) (fun h1 h2 h3=>?_) (fun w h1 h2 h3 hy h4=>?_) (fun w h1 h2 h3 hy h4 h5=>?_) (fun w c h1 h2 h3 hy h4 h5 hy2=>?_)
 ·rw[h1]at cl
  (refine eN Tryz.func112 Tryz.call112 fun F hF=>?_)
  (have zc1:=cl;refine WW ?_;clear zc1)
  exact fr0
 ·rw[h1]at cl
  (refine eN Tryz.func112 Tryz.call112 fun F hF=>?_)
  (have zc1:=cl;refine WW ?_;clear zc1)
  exact fr0
 ·rw[h1]at cl
  (refine eN Tryz.func112 Tryz.call112 fun F hF=>?_)
  (have zc1:=cl;refine WW ?_;clear zc1)
  exact fr0
 ·rw[h1]at cl
  unfold viA at hy
  (refine eN Tryz.func112 Tryz.call112 fun F hF=>?_)
  (have zc1:=cl;refine WW ?_;clear zc1)
  exact fr0
 ·rw[h1]at cl
  have hwl:=hb w hy
  unfold viA slA at hy
  (refine eN Tryz.func112 Tryz.call112 fun F hF=>?_)
  (have zc1:=cl;refine WW ?_;clear zc1)
  exact fr0
 ·rw[h1]at cl
  have hwl:=hb w hy
  clear hb
  obtain⟨fl,ov,co,cn⟩:=w
  rw[show viA ⟨fl,ov,co,cn⟩= .agg [bA fl,bA ov,slA iA co,slA iA cn]from rfl]at hy
  dsimp only at*
  cases ov
  ·(refine eN Tryz.func112 Tryz.call112 fun F hF=>?_)
   (have zc1:=cl;refine WW ?_;clear zc1)
   exact fr0
  cases fl
  case true=>
   (refine eN Tryz.func112 Tryz.call112 fun F hF=>?_)
   (have zc1:=cl;refine WW ?_;clear zc1)
   exact fr0
  by_cases hc1:c=1
  ·rw[if_pos ⟨rfl,rfl,hc1⟩]
   (refine eN Tryz.func112 Tryz.call112 fun F hF=>?_)
   (have zc1:=cl;refine WW ?_;clear zc1)
   exact fr0
  ·rw[if_neg (fun h=>hc1 h.2.2)]
   (refine eN Tryz.func112 Tryz.call112 fun F hF=>?_)
   (have zc1:=cl;refine WW ?_;clear zc1)
   exact fr0
end
section
set_option maxRecDepth 4000
set_option maxHeartbeats 4000000
theorem code2_c (g:Lg) (v:List Vw) (now:Int) (hn:v.length≤1000) (hb:∀w∈v,w.co.length≤1000):CallSim Tryz.prog 115 [lgA g,slA viA v,iA now] [] (iA (cdF g v now)) []:=by
 have cl:=live2_c g now
 have hvl:=map_len viA v
 have hb:∀w,(v.map viA)[g.jn.toNat]? =some (viA w)→(w.co.map iA).length=w.co.length:=fun w _=>map_len iA w.co
 unfold lgA at*
 refine cd_cases (Q:=fun r=>CallSim Tryz.prog 115 [.agg [iA g.jn,iA g.ph,iA g.fr,iA g.to,iA g.sc],slA viA v,iA now] [] (iA r) []) g v now (fun h1=>?_) (fun h1 h2=>?_) (fun h1 h2 h3=>?_) (fun w h1 h2 h3 hy h4=>?_) (fun w h1 h2 h3 hy h4 h5=>?_) (fun w c h1 h2 h3 hy h4 h5 hy2=>?_)
 ·rw[h1]at cl
  (refine eN Tryz.func115 Tryz.call115 fun F hF=>?_)
  (have zc1:=cl;refine WW ?_;clear zc1)
  exact fr0
 ·rw[h1]at cl
  (refine eN Tryz.func115 Tryz.call115 fun F hF=>?_)
  (have zc1:=cl;refine WW ?_;clear zc1)
  exact fr0
 ·rw[h1]at cl
  (refine eN Tryz.func115 Tryz.call115 fun F hF=>?_)
  (have zc1:=cl;refine WW ?_;clear zc1)
  exact fr0
 ·rw[h1]at cl
  unfold viA at hy
  (refine eN Tryz.func115 Tryz.call115 fun F hF=>?_)
  (have zc1:=cl;refine WW ?_;clear zc1)
  exact fr0
 ·rw[h1]at cl
  have hwl:=hb w hy
  unfold viA slA at hy
  (refine eN Tryz.func115 Tryz.call115 fun F hF=>?_)
  (have zc1:=cl;refine WW ?_;clear zc1)
  exact fr0
 ·rw[h1]at cl
  have hwl:=hb w hy
  clear hb
  obtain⟨fl,ov,co,cn⟩:=w
  rw[show viA ⟨fl,ov,co,cn⟩= .agg [bA fl,bA ov,slA iA co,slA iA cn]from rfl]at hy
  dsimp only at*
  cases ov
  ·(refine eN Tryz.func115 Tryz.call115 fun F hF=>?_)
   (have zc1:=cl;refine WW ?_;clear zc1)
   exact fr0
  cases fl
  case true=>
   (refine eN Tryz.func115 Tryz.call115 fun F hF=>?_)
   (have zc1:=cl;refine WW ?_;clear zc1)
   exact fr0
  by_cases hc1:c=1
  ·rw[if_pos ⟨rfl,rfl,hc1⟩]
   (refine eN Tryz.func115 Tryz.call115 fun F hF=>?_)
   (have zc1:=cl;refine WW ?_;clear zc1)
   exact fr0
  ·rw[if_neg (fun h=>hc1 h.2.2)]
   (refine eN Tryz.func115 Tryz.call115 fun F hF=>?_)
   (have zc1:=cl;refine WW ?_;clear zc1)
   exact fr0
def cqF (l:List Rq) (v:List Vw) (now:Int) (i:Nat):Int:=if i/3<l.length∧i % 3<(l.getD (i/3) default).legs.length then cdF ((l.getD (i/3) default).legs.getD (i % 3) default) v now else 0
def cqL (l:List Rq) (v:List Vw) (now:Int) (n:Nat):List Int:=(List.range n).map (cqF l v now)
def cqN (l:List Rq) (v:List Vw) (now:Int) (N i:Nat):List Int:=(List.range N).map fun j=>if j<i then cqF l v now j else 0
theorem cqN_len (l:List Rq) (v:List Vw) (now:Int) (N i:Nat):(cqN l v now N i).length=N:=by simp[cqN]
theorem cqN_zero (l:List Rq) (v:List Vw) (now:Int) (N:Nat):(cqN l v now N 0).map yA=List.replicate N (yA 0):=by
 apply List.ext_getElem?
 intro j
 unfold cqN
 rw[List.getElem?_map,List.getElem?_map,List.getElem?_replicate]
 by_cases hj:j<N
 ·rw[List.getElem?_range hj,if_pos hj];simp
 ·rw[List.getElem?_eq_none (by simp;omega),if_neg hj];rfl
theorem cqN_at (l:List Rq) (v:List Vw) (now:Int) (N k j:Nat):((cqN l v now N k).map yA)[j]? =if j<N then some (yA (if j<k then cqF l v now j else 0))else none:=by
 unfold cqN
 rw[List.getElem?_map,List.getElem?_map]
 by_cases hj:j<N
 ·rw[List.getElem?_range hj,if_pos hj];rfl
 ·rw[List.getElem?_eq_none (by simp;omega),if_neg hj];rfl
theorem cqN_succ (l:List Rq) (v:List Vw) (now:Int) (N i:Nat) (hi:i<N):(cqN l v now N (i+1)).map yA=((cqN l v now N i).map yA).set i (yA (cqF l v now i)):=by
 apply List.ext_getElem?
 intro j
 rw[List.getElem?_set,cqN_at,cqN_at,List.length_map,cqN_len]
 by_cases he:i=j
 ·subst he
  rw[if_pos hi,if_pos rfl,if_pos hi,if_pos (Nat.lt_succ_self i)]
 ·rw[if_neg he]
  by_cases hj:j<N
  ·rw[if_pos hj,if_pos hj]
   by_cases h2:j<i
   ·rw[if_pos (by omega),if_pos h2]
   ·rw[if_neg (by omega),if_neg h2]
  ·rw[if_neg hj,if_neg hj]
theorem cqN_all (l:List Rq) (v:List Vw) (now:Int) (N:Nat):cqN l v now N N=cqL l v now N:=by
 unfold cqN cqL
 apply List.map_congr_left
 intro j hj
 rw[if_pos (List.mem_range.1 hj)]
theorem cqL_succ (l:List Rq) (v:List Vw) (now:Int) (n:Nat):(cqL l v now (n+1)).map yA=(cqL l v now n).map yA++[yA (cqF l v now n)]:=by
 unfold cqL
 rw[List.range_succ]
 simp
theorem codes_c (l:List Rq) (q:Nat) (v:List Vw) (now:Int) (hq:q≤1000) (hl:l.length≤1000) (hlg:∀r∈l,r.legs.length≤1000) (hn:v.length≤1000) (hb:∀w∈v,w.co.length≤1000):
  CallSim Tryz.prog 68 [slA rqA l,iA q,slA viA v,iA now] [] (slA yA (cqL l v now (q*3))) []:=by
 have hll:=map_len rqA l
 by_cases h0:q=0
 ·subst h0
  (refine eN Tryz.func68 Tryz.call68 fun F hF=>?_)
  (refine WW ?_)
  exact fr0
 have e0:=cqN_zero l v now (q*3)
 have hvl:=map_len viA v
 (refine eN Tryz.func68 Tryz.call68 fun F hF=>?_)
 (refine WW ?_)
 have hN9:q*3≤3000:=by omega
 generalize q*3=N at*
 (refine sim_cnt (N) [21] [] [0,2,3,9,23] [24,0,2,3,9,23] rfl (fun i T U=>⟨(24,iA i)::T,(21,.arr 1 ((cqN l v now N i).map yA) false)::U⟩) ?_;(conv=>whnf);refine⟨by(rw[e0];rfl),?_,?_⟩)
 ·intro i hi
  have hr:(i:Int).tdiv 3=((i/3:Nat):Int):=by rw[Int.tdiv_eq_ediv_of_nonneg (by omega)];omega
  have hk:(i:Int).tmod 3=((i % 3:Nat):Int):=by rw[Int.tmod_eq_emod_of_nonneg (by omega)];omega
  have hin:InR .i64 ((i:Int).tdiv 3):=⟨by show -9223372036854775808≤_;omega,by show _≤9223372036854775807;omega⟩
  have hnl:((cqN l v now N i).map yA).length=N:=by rw[List.length_map,cqN_len]
  have e:=cqN_succ l v now N i hi
  rw[e]
  have hyx:((cqN l v now N i).map yA)[i]? =some (yA (if i<i then cqF l v now i else 0)):=by rw[cqN_at,if_pos hi]
  have hset:∀y:AV,(((cqN l v now N i).map yA).set i y)[i]? =some y:=fun y=>List.getElem?_set_self (by omega)
  by_cases hr1:i/3<l.length
  ·have hy:(l.map rqA)[((i:Int).tdiv 3).toNat]? =some (rqA (l.getD (i/3) default)):=by rw[hr];exact map_at rqA l _ hr1
   have hxl:(l.getD (i/3) default).legs.length≤1000:=hlg _ (by rw[List.getD_eq_getElem?_getD,List.getElem?_eq_getElem hr1];exact List.getElem_mem _)
   have hxm:=map_len lgA (l.getD (i/3) default).legs
   have ec:cqF l v now i=if i % 3<(l.getD (i/3) default).legs.length then cdF ((l.getD (i/3) default).legs.getD (i % 3) default) v now else 0:=by
    unfold cqF
    by_cases h:i % 3<(l.getD (i/3) default).legs.length
    ·rw[if_pos ⟨hr1,h⟩,if_pos h]
    ·rw[if_neg (fun h9=>h h9.2),if_neg h]
   rw[ec]
   clear e ec e0
   generalize l.getD (i/3) default=x at*
   unfold rqA slA at hy
   by_cases hk1:i % 3<x.legs.length
   ·have hy2:(x.legs.map lgA)[((i:Int).tmod 3).toNat]? =some (lgA (x.legs.getD (i % 3) default)):=by rw[hk];exact map_at lgA x.legs _ hk1
    have cc:=code_c (x.legs.getD (i % 3) default) v now hn hb
    have hcb:=cdF_bd (x.legs.getD (i % 3) default) v now
    rw[if_pos hk1]
    generalize cdF (x.legs.getD (i % 3) default) v now=c at*
    generalize x.legs.getD (i % 3) default=g at*
    generalize (cqN l v now N i).map yA=xs at*
    (have zc1:=cc;(repeat' (first|refine WT ?_|refine SG (I2 (fun hc=>?_) (fun hc=>?_))|refine SG (fun hc=>?_)|(refine is_ops ?_;refine is_call ?_;refine SC ?_)|(refine is_ops ?_;first|(refine is_sto ?_;refine x_sto1 tok rfl rfl rfl (hset _) rfl rfl rfl rfl rfl rfl rfl rfl ?_)|refine SM ?_)|refine SB ?_|first|refine SR ?_|refine SK (I2 (fun hc=>?_) (fun hc=>?_))|refine SK (fun hc=>?_)|fail))<;>clear zc1)
    refine congrArg (St.mk _) ?_
    show [(21,Ent.arr 1 ((xs.set i _).set i _) _)]=_
    rw[List.set_set]
    rfl
   ·rw[if_neg hk1]
    generalize (cqN l v now N i).map yA=xs at*
    (refine WW ?_)
    rfl
  ·have ec:cqF l v now i=0:=by unfold cqF;rw[if_neg (fun h=>hr1 h.1)]
   rw[ec]
   clear e ec e0
   generalize (cqN l v now N i).map yA=xs at*
   (refine WW ?_)
   rfl
 ·rw[cqN_all]
  (refine WW ?_)
  refine fin_ret [] rfl rfl ?_ rfl
  exact congrArg (AV.sl false) (List.take_of_length_le (by simp[cqL]))
theorem codes2_c (l:List Rq) (q:Nat) (v:List Vw) (now:Int) (hq:q≤1000) (hl:l.length≤1000) (hlg:∀r∈l,r.legs.length≤1000) (hn:v.length≤1000) (hb:∀w∈v,w.co.length≤1000):
  CallSim Tryz.prog 71 [slA rqA l,iA q,slA viA v,iA now] [] (slA yA (cqL l v now (q*3))) []:=by
 have hll:=map_len rqA l
 (refine eN Tryz.func71 Tryz.call71 fun F hF=>?_)
 (refine WW ?_)
 refine sim_virt 9 1001 1 rfl rfl rfl ?_
 (refine sim_cnt (q) [1001] [] [0,2,3,13] [9,14,0,2,3,13] rfl (fun i T U=>⟨(9,.ref 1001 0 ((cqL l v now (i*3)).map yA).length)::(14,iA i)::T,(1001,.arr 1 ((cqL l v now (i*3)).map yA) true)::U⟩) ?_;(conv=>whnf);refine⟨by rfl,?_,?_⟩)
 ·intro r hr
  (refine WW ?_)
  (refine sim_cnt (3) [1001] [] [0,2,3,10,13,14] [9,17,0,2,3,10,13,14] rfl (fun i T U=>⟨(9,.ref 1001 0 ((cqL l v now (r*3+i)).map yA).length)::(17,iA i)::T,(1001,.arr 1 ((cqL l v now (r*3+i)).map yA) true)::U⟩) ?_;(conv=>whnf);refine⟨by rfl,?_,?_⟩)
  ·intro k hk
   have e:=cqL_succ l v now (r*3+k)
   have hxl:((cqL l v now (r*3+k)).map yA).length≤4000:=by simp[cqL];omega
   rw[show r*3+(k+1)=r*3+k+1 from rfl,e]
   have e3:(r*3+k)/3=r:=by omega
   have e4:(r*3+k) % 3=k:=by omega
   by_cases hr1:r<l.length
   ·have hy:=map_at rqA l r hr1
    have hlx:(l.getD r default).legs.length≤1000:=hlg _ (by rw[List.getD_eq_getElem?_getD,List.getElem?_eq_getElem hr1];exact List.getElem_mem _)
    have ec:cqF l v now (r*3+k)=if k<(l.getD r default).legs.length then cdF ((l.getD r default).legs.getD k default) v now else 0:=by
     unfold cqF
     rw[e3,e4]
     by_cases h:k<(l.getD r default).legs.length
     ·rw[if_pos ⟨hr1,h⟩,if_pos h]
     ·rw[if_neg (fun h9=>h h9.2),if_neg h]
    rw[ec]
    clear e ec
    generalize l.getD r default=x at*
    have hxm:=map_len lgA x.legs
    unfold rqA slA at hy
    by_cases hk1:k<x.legs.length
    ·have hy2:=map_at lgA x.legs k hk1
     have cc:=code2_c (x.legs.getD k default) v now hn hb
     have hcb:=cdF_bd (x.legs.getD k default) v now
     rw[if_pos hk1]
     generalize cdF (x.legs.getD k default) v now=c at*
     generalize x.legs.getD k default=g at*
     generalize (cqL l v now (r*3+k)).map yA=xs at*
     (have zc1:=cc;refine WW ?_;clear zc1)
     rfl
    ·rw[if_neg hk1]
     generalize (cqL l v now (r*3+k)).map yA=xs at*
     (refine WW ?_)
     rfl
   ·have ec:cqF l v now (r*3+k)=0:=by unfold cqF;rw[if_neg (fun h=>hr1 (by omega))]
    rw[ec]
    clear e ec
    generalize (cqL l v now (r*3+k)).map yA=xs at*
    (refine WW ?_)
    rfl
  ·rw[show r*3+3=(r+1)*3 by omega]
   (refine WW ?_)
   rfl
 ·(refine WW ?_)
  refine fin_ret [] rfl rfl ?_ rfl
  exact congrArg (AV.sl false) List.take_length
def stM (now:Int) (v:List Vw) (b:List Int):Ms:=⟨17,[],[now],rcF v++b⟩
theorem smsg_c (now:Int) (v:List Vw) (b:List Int) (hn:v.length≤1000) (hb:∀w∈v,VwB w) (hl:b.length≤10000):CallSim Tryz.prog 69 [iA now,slA viA v,slA yA b] [] (msA (stM now v b)) []:=by
 have kr:=recB_c v hn hb
 have h1:=rcF_len hb
 have hrl:=map_len yA (rcF v)
 have hbl:=map_len yA b
 rw[show msA (stM now v b)= .agg [iA 17,.sl false [],.sl false [iA now],.sl false ((rcF v).map yA++b.map yA)] by unfold stM msA slA;rw[List.map_append];rfl]
 generalize (rcF v).map yA=xs at*
 (refine eN Tryz.func69 Tryz.call69 fun F hF=>?_)
 (have zc1:=kr;refine WL ?_;clear zc1)
 refine fin_ret [] rfl rfl ?_ rfl
 exact congrArg (fun z=>AV.agg [iA 17,AV.sl false [],AV.sl false [iA now],AV.sl false z]) List.take_length
theorem smsg2_c (now:Int) (v:List Vw) (b:List Int) (hn:v.length≤1000) (hb:∀w∈v,VwB w) (hl:b.length≤10000):CallSim Tryz.prog 70 [iA now,slA viA v,slA yA b] [] (msA (stM now v b)) []:=by
 have kr:=recB2_c v hn hb
 have h1:=rcF_len hb
 have hrl:=map_len yA (rcF v)
 have hbl:=map_len yA b
 rw[show msA (stM now v b)= .agg [iA 17,.sl false [],.sl false [iA now],.sl false ((rcF v).map yA++b.map yA)] by unfold stM msA slA;rw[List.map_append];rfl]
 generalize (rcF v).map yA=xs at*
 (refine eN Tryz.func70 Tryz.call70 fun F hF=>?_)
 (have zc1:=kr;refine WL ?_;clear zc1)
 refine fin_ret [] rfl rfl ?_ rfl
 exact congrArg (fun z=>AV.agg [iA 17,AV.sl false [],AV.sl false [iA now],AV.sl false z]) List.take_length
def stF (d:Dsk) (v:List Vw) (now:Int):Ms:=stM now v (cqL d.rq v now (d.rg.ag.req.toNat*3))
theorem status_c (d:Dsk) (hd:DskB d) (hq:0≤d.rg.ag.req∧d.rg.ag.req≤4) (v:List Vw) (now:Int) (hn:v.length≤1000) (hb:∀w∈v,VwB w):CallSim Tryz.prog 38 [dskA d,slA viA v,iA now] [] (msA (stF d v now)) []:=by
 have c1:=codes_c d.rq d.rg.ag.req.toNat v now (by omega) hd.q hd.g hn (fun w hw=>Nat.le_trans (hb w hw).n (by decide))
 rw[show((d.rg.ag.req.toNat:Nat):Int)=d.rg.ag.req by omega]at c1
 have c2:=smsg_c now v (cqL d.rq v now (d.rg.ag.req.toNat*3)) hn hb (by simp[cqL];omega)
 unfold stF
 generalize cqL d.rq v now (d.rg.ag.req.toNat*3)=cs at*
 unfold msA at*
 unfold dskA dskX
 generalize rcF v=rc at*
 (refine eN Tryz.func38 Tryz.call38 fun F hF=>?_)
 (have zc1:=c1;have zc2:=c2;refine WW ?_;clear zc1 zc2)
 exact fr0
theorem status2_c (d:Dsk) (hd:DskB d) (hq:0≤d.rg.ag.req∧d.rg.ag.req≤4) (v:List Vw) (now:Int) (hn:v.length≤1000) (hb:∀w∈v,VwB w):CallSim Tryz.prog 39 [dskA d,slA viA v,iA now] [] (msA (stF d v now)) []:=by
 have c1:=codes2_c d.rq d.rg.ag.req.toNat v now (by omega) hd.q hd.g hn (fun w hw=>Nat.le_trans (hb w hw).n (by decide))
 rw[show((d.rg.ag.req.toNat:Nat):Int)=d.rg.ag.req by omega]at c1
 have c2:=smsg2_c now v (cqL d.rq v now (d.rg.ag.req.toNat*3)) hn hb (by simp[cqL];omega)
 unfold stF
 generalize cqL d.rq v now (d.rg.ag.req.toNat*3)=cs at*
 unfold msA at*
 unfold dskA dskX
 generalize rcF v=rc at*
 (refine eN Tryz.func39 Tryz.call39 fun F hF=>?_)
 (have zc1:=c1;have zc2:=c2;refine WW ?_;clear zc1 zc2)
 exact fr0
end
end Av
end Go.Proofs.YtaikgchmpieooaaGreat
