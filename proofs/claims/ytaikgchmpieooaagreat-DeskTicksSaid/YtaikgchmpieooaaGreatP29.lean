/- Part 29: contracts of the functions, and what they rest upon. -/
import Derived.Test.YtaikgchmpieooaaGreatP23
import Derived.Test.YtaikgchmpieooaaGreatP16
namespace Go.Proofs.YtaikgchmpieooaaGreat
namespace Av
set_option linter.unusedSimpArgs false
set_option linter.unusedVariables false
section
set_option maxRecDepth 4000
set_option maxHeartbeats 1000000
def chF (l:List Tk):Nat→Int→List Int
 |0,_=>[]
 |n+1,s=>bif usF l s then s::chF l n (l.getD s.toNat default).par else []
theorem chF_succ (l:List Tk) (k:Nat) (a:Int):chF l (k+1) a=bif usF l a then a::chF l k (l.getD a.toNat default).par else []:=rfl
theorem usF_bd {l:List Tk} {s:Int} (h:usF l s=true):0≤s∧s<l.length:=by
 unfold usF at h
 simp only[Bool.and_eq_true,decide_eq_true_eq]at h
 exact h.1
theorem chF_us {l:List Tk}:∀(n:Nat) (s x:Int),x∈chF l n s→usF l x=true
 |0,s,x,h=>by simp[chF]at h
 | n+1,s,x,h=>by
  unfold chF at h
  cases hu:usF l s<;>rw[hu]at h
  ·simp at h
  ·rw[cond_true,List.mem_cons]at h
   rcases h with rfl|h
   ·exact hu
   ·exact chF_us n _ x h
def ancH (l:List Tk) (s:Int):List (Nat×Ent):=[(1003,.box [iA s]),(1004,.box [slA tkA l])]
theorem anc_c (l:List Tk) (s:Int):CallSim Tryz.prog 139 [slA tkA l,iA s] [] (.fn 179 [.ptr 1003 0 0,.ptr 1004 0 0]) (ancH l s):=by
 (refine eN Tryz.func139 Tryz.call139 fun F hF=>?_)
 repeat' (first|(refine is_ops ?_;first|refine x_w (stp_box (v:=AV.sl _ _) 1004 rfl rfl) rfl rfl rfl ?_|refine x_w (stp_box (v:=AV.s _) 1003 rfl rfl) rfl rfl rfl ?_|refine x_auto tok rfl rfl ?_|refine x_nil ?_)|(first|refine sim_seq ?_|refine x_region ?_|refine x_draw rfl ?_|refine sim_cond_true rfl ?_|refine sim_cond_false rfl ?_|refine sim_cond rfl (fun hc=>?_) (fun hc=>?_)|refine sim_skip ?_|refine sim_ret ?_|refine sim_exit ?_|refine sim_block ?_))
 exact fin_own [1003,1004] rfl rfl rfl rfl
theorem anc_it (l:List Tk) (s:Int):IterSim Tryz.prog 179 [.ptr 1003 0 0,.ptr 1004 0 0] (ancH l s) ((chF l 8 s).map fun x=>[iA x]):=by
 have hl:=map_len tkA l
 refine iterSim_of Tryz.func179 rfl (fun args w=>Tryz.call179 args w) rfl rfl rfl (fun F y hro hit hY=>?_)
 unfold ancH
 (refine WW ?_)
 (refine sim_cntP (8) [1003,1004] [1003,1004] [0,2] [4,6,1000000,0,2] rfl (fun i T U zs=>∃(a:Int) (pre:List Int),(chF l 8 s=pre++chF l (8-i) a∧pre.length=i)∧zs=⟨(4,iA a)::(6,iA i)::(1000000,.gh i)::T,U⟩) ?_;(conv=>whnf);refine⟨?_,?_,?_⟩)
 ·exact⟨s,[],⟨rfl,rfl⟩,rfl⟩
 ·rintro i st hi ⟨a,pre,⟨hp,hpl⟩,rfl⟩
  have c:=used_c l a
  obtain⟨k,hk⟩:∃k,8-i=k+1:=⟨7-i,by omega⟩
  rw[hk,chF_succ l k a]at hp
  cases hu:usF l a<;>rw[hu]at c hp
  ·rw[cond_false,List.append_nil]at hp
   (have zc1:=c;refine WW ?_;clear zc1)
   exact fini_ret rfl (.inl (by rw[List.length_map,hp,hpl]))
  ·rw[cond_true]at hp
   obtain⟨h0,h1⟩:=usF_bd hu
   have hy:=map_atI tkA l a h0 h1
   have hys:((chF l 8 s).map fun x=>[iA x])[i]? =some [iA a]:=by rw[hp];simp[←hpl]
   have hlen:i<((chF l 8 s).map fun x=>[iA x]).length:=(List.getElem?_eq_some_iff.1 hys).1
   generalize ((chF l 8 s).map fun x=>[iA x])=xs at*
   have hp':chF l 8 s=(pre++[a])++chF l (8-(i+1)) (l.getD a.toNat default).par:=by rw[hp,show 8-(i+1)=k by omega];simp
   generalize l.getD a.toNat default=t at*
   (repeat' (first|refine WZ ?_|refine SG (I2 (fun hc=>?_) (fun hc=>?_))|refine SG (fun hc=>?_)|(refine is_ops ?_;refine is_call ?_;first|(first|(refine is_fn 148 ?_;first|refine x_q (stp_call (c) rfl rfl rfl rfl rfl) rfl ?_|refine x_w (stp_call (c) rfl rfl rfl rfl rfl) rfl rfl rfl ?_|refine x_d (stp_call (c) rfl rfl rfl rfl rfl) rfl rfl rfl ?_))|(refine is_cv ?_;refine x_yield hit hY rfl rfl hys rfl rfl rfl ?_ ?_))|(refine is_ops ?_;first|refine SM ?_)|first|refine SR ?_|refine SK (I2 (fun hc=>?_) (fun hc=>?_))|refine SK (fun hc=>?_)|fail))
   ·exact⟨t.par,pre++[a],⟨hp',by simp[hpl]⟩,rfl⟩
   ·exact fini_ret rfl (.inr (by omega))
 ·rintro st ⟨a,pre,⟨hp,hpl⟩,rfl⟩
  rw[show chF l (8-8) a=[]from rfl,List.append_nil]at hp
  (refine WW ?_)
  exact fini_normal rfl (.inl (by rw[List.length_map,hp,hpl]))
def deF (l:List Tk) (s top:Int):Bool:=(chF l 8 s).any fun a=>a==top
theorem desc_c (l:List Tk) (s top:Int):CallSim Tryz.prog 190 [slA tkA l,iA s,iA top] [] (bA (deF l s top)) []:=by
 have c:=anc_c l s
 unfold ancH at c
 (refine eN Tryz.func190 Tryz.call190 fun F hF=>?_)
 (have zc1:=c;refine WW ?_;clear zc1)
 refine sim_rangeFunc hF (anc_it l s) rfl [5,6] [5,6] rfl rfl rfl rfl rfl rfl rfl rfl rfl (fun i ys h=>?_) (fun _=>[(5,.box [iA top]),(6,.box [.s (.bool false)])]) (fun i=>∀x∈(chF l 8 s).take i,x≠top) (T:=[(5,.ptr 5 0 0),(6,.ptr 6 0 0)]) rfl (by simp) (fun i ys y hys hI F1 h1 h2=>?_) (fun hI=>?_)
 ·rw[List.getElem?_map,Option.map_eq_some_iff]at h
  obtain⟨x,_,rfl⟩:=h
  rfl
 ·rw[List.getElem?_map,Option.map_eq_some_iff]at hys
  obtain⟨x,hx,rfl⟩:=hys
  show Sim _ F1 _ _ ⟨[(11,iA x),(5,.ptr 5 0 0),(6,.ptr 6 0 0)],[(5,.box [iA top]),(6,.box [.s (.bool false)])]⟩ _
  have hmem:x∈chF l 8 s:=List.mem_of_getElem? hx
  (refine WW ?_)
  refine⟨rfl,fun F2 g1 g2=>?_⟩
  by_cases ht:x=top
  ·have hd:deF l s top=true:=List.any_eq_true.2 ⟨x,hmem,by simpa using ht⟩
   rw[hd]
   (refine WW ?_)
   exact fr0
  ·(refine WW ?_)
   refine⟨rfl,fun z hz=>?_⟩
   rw[List.take_add_one,hx]at hz
   simp only[Option.toList_some,List.mem_append,List.mem_singleton]at hz
   rcases hz with hz|rfl
   ·exact hI z hz
   ·exact ht
 ·rw[List.length_map,List.take_length]at hI
  have hd:deF l s top=false:=List.any_eq_false.2 fun x hx=>by simpa using hI x hx
  rw[hd]
  (refine WW ?_)
  exact fr0
def exAt (l:List Tk) (now:Int) (j:Nat):Tk:=if(chF l 8 j).any (fun a=>exF (l.getD a.toNat default) now)=true then frT else l.getD j default
def exS (l:List Tk) (now:Int) (s:Nat):List Tk:=(List.range l.length).map fun j=>if j<s then exAt l now j else l.getD j default
def expF (l:List Tk) (now:Int):List Tk:=(List.range l.length).map (exAt l now)
theorem exS_len (l:List Tk) (now:Int) (s:Nat):(exS l now s).length=l.length:=by simp[exS]
theorem exS_zero (l:List Tk) (now:Int):exS l now 0=l:=by
 unfold exS
 apply List.ext_getElem?
 intro j
 rw[List.getElem?_map]
 by_cases h:j<l.length
 ·rw[List.getElem?_range h];simp[List.getD,h]
 ·rw[List.getElem?_eq_none (by simp;omega),List.getElem?_eq_none (by omega)];rfl
theorem exS_end (l:List Tk) (now:Int):exS l now l.length=expF l now:=by
 unfold exS expF
 apply List.map_congr_left
 intro j hj
 rw[List.mem_range]at hj
 rw[if_pos hj]
theorem exS_at (l:List Tk) (now:Int) (s:Nat) (h:s<l.length):(exS l now s)[s]? =some (l.getD s default):=by
 unfold exS
 rw[List.getElem?_map,List.getElem?_range h]
 simp
theorem exS_succ (l:List Tk) (now:Int) (s:Nat):exS l now (s+1)=(exS l now s).set s (exAt l now s):=by
 unfold exS
 apply List.ext_getElem?
 intro j
 rw[List.getElem?_set,List.getElem?_map,List.getElem?_map]
 by_cases h:j<l.length
 ·rw[List.getElem?_range h]
  by_cases hs:s=j
  ·subst hs;simp[h]
  ·rw[if_neg hs]
   by_cases hj:j<s
   ·simp[hj,show j<s+1 by omega]
   ·simp[hj,show¬j<s+1 by omega]
 ·rw[List.getElem?_eq_none (by simp;omega)]
  split<;>simp;omega
theorem expire_c (l:List Tk) (hb:TkB l) (now:Int):CallSim Tryz.prog 103 [slA tkA l,iA now] [] (slA tkA (expF l now)) []:=by
 have c:=tclone_own l hb
 have hn:=hb.n
 have hll:=map_len tkA l
 (refine eN Tryz.func103 Tryz.call103 fun F hF=>?_)
 (have zc1:=c;refine WW ?_;clear zc1)
 (refine sim_cnt ((l.map tkA).length) [1001,2,3,5] [2,3,5] [2,3,5,11,18] [12,2,3,5,11,18] rfl (fun i T U=>⟨(12,iA i)::T,(1001,.arr 6 ((exS l now i).map tkA) false)::U⟩) ?_;(conv=>whnf);refine⟨by(rw[exS_zero];rfl),?_,?_⟩)
 ·intro i hi
  have hi':i<l.length:=by omega
  have c1:=anc_c l i
  unfold ancH at c1
  have hy:((exS l now i).map tkA)[i]? =some (tkA (l.getD i default)):=by rw[List.getElem?_map,exS_at l now i hi'];rfl
  have es:=exS_succ l now i
  have hif:=free_c
  have hrl:i<((exS l now i).map tkA).length:=by rw[List.length_map,exS_len];exact hi'
  (have zc1:=c1;refine WW ?_;clear zc1)
  refine sim_rangeFunc hF (anc_it l i) rfl [2,3,5,6,1001] [2,3,5,6,11,12] rfl rfl rfl rfl rfl rfl rfl rfl rfl (fun k ys h=>?_) (fun _=>[(2,.box [slA tkA l]),(3,.box [iA now]),(5,.box [.ref 1001 0 (l.map tkA).length]),(6,.box [iA i]),(1001,.arr 6 ((exS l now i).map tkA) false)]) (fun k=>∀x∈(chF l 8 i).take k,exF (l.getD x.toNat default) now=false)
   (T:=[(2,.ptr 2 0 0),(3,.ptr 3 0 0),(5,.ptr 5 0 0),(6,.ptr 6 0 0),(11,iA (l.map tkA).length),(12,iA i)]) rfl (by simp) (fun k ys y hys hI F1 h1 h2=>?_) (fun hI=>?_)
  ·rw[List.getElem?_map,Option.map_eq_some_iff]at h
   obtain⟨x,_,rfl⟩:=h
   rfl
  ·rw[List.getElem?_map,Option.map_eq_some_iff]at hys
   obtain⟨x,hx,rfl⟩:=hys
   show Sim _ F1 _ _ ⟨[(18,iA x),(2,.ptr 2 0 0),(3,.ptr 3 0 0),(5,.ptr 5 0 0),(6,.ptr 6 0 0),(11,iA (l.map tkA).length),(12,iA i)],[(2,.box [slA tkA l]),(3,.box [iA now]),(5,.box [.ref 1001 0 (l.map tkA).length]),(6,.box [iA i]),(1001,.arr 6 ((exS l now i).map tkA) false)]⟩ _
   have hmem:x∈chF l 8 i:=List.mem_of_getElem? hx
   obtain⟨b1,b2⟩:=usF_bd (chF_us _ _ _ hmem)
   have hy2:=map_atI tkA l x b1 b2
   have ce:=expired_c (l.getD x.toNat default) now
   (refine WW ?_)
   refine⟨rfl,fun F2 g1 g2=>?_⟩
   cases he:exF (l.getD x.toNat default) now<;>rw[he]at ce
   ·(have zc1:=ce;refine WW ?_;clear zc1)
    refine⟨rfl,fun z hz=>?_⟩
    rw[List.take_add_one,hx]at hz
    simp only[Option.toList_some,List.mem_append,List.mem_singleton]at hz
    rcases hz with hz|rfl
    ·exact hI z hz
    ·exact he
   ·have e2:(exS l now (i+1)).map tkA=((exS l now i).map tkA).set i (tkA frT):=by
     rw[es,exAt,if_pos (List.any_eq_true.2 ⟨x,hmem,he⟩),List.map_set]
    generalize (exS l now i).map tkA=xs at*
    generalize (exS l now (i+1)).map tkA=ys at*
    subst e2
    (have zc1:=ce;have zc2:=hif;refine WW ?_;clear zc1 zc2)
    rfl
  ·rw[List.length_map,List.take_length]at hI
   have e2:(exS l now (i+1)).map tkA=(exS l now i).map tkA:=by
    rw[es,exAt,if_neg (by simpa using hI)]
    congr 1
    have:=exS_at l now i hi'
    rw[List.getElem?_eq_some_iff]at this
    obtain⟨h,e⟩:=this
    rw[←e,List.set_getElem_self]
   generalize (exS l now i).map tkA=xs at*
   generalize (exS l now (i+1)).map tkA=ys at*
   subst e2
   (refine WW ?_)
   rfl
 ·have hl2:(l.map tkA).length=((exS l now l.length).map tkA).length:=by simp[exS_len]
  rw[←exS_end]
  rw[hll]at*
  (refine WW ?_)
  exact fin_ret [] rfl rfl (congrArg (AV.sl false) (List.take_of_length_le (by simp[exS_len]))) rfl
end
section
set_option maxRecDepth 4000
set_option maxHeartbeats 1000000
def tkN (a:Ag):List Tk:=⟨true,a.sec,-1,a.rights,a.cls,0⟩::List.replicate 7 frT
def zT:AV:= .agg [.s (.bool false),.s (.slice none 0 0),.s (.int .i64 0),.s (.int .i64 0),.s (.int .i64 0),.s (.int .i64 0)]
def mkT (i:Nat):List AV:=List.replicate i (tkA frT)++List.replicate (8-i) zT
theorem mkT_at (i:Nat) (h:i<8):(mkT i)[i]? =some zT:=by
 unfold mkT
 rw[List.getElem?_append_right (by simp)]
 simp[show 0<8-i by omega]
theorem mkT_set (i:Nat) (h:i<8):(mkT i).set i (tkA frT)=mkT (i+1):=by
 unfold mkT
 rw[show 8-i=(8-(i+1))+1 by omega,List.replicate_succ (n:=8-(i+1)),List.set_append_right _ _ (by simp),List.length_replicate,Nat.sub_self,List.set_cons_zero,List.replicate_succ' (n:=i),List.append_assoc]
 rfl
theorem tnew_c (a:Ag) (hs:a.sec.length≤1000000):CallSim Tryz.prog 94 [agA a] [] (slA tkA (tkN a)) []:=by
 have cf:=free_c
 have cs:=cloneY_c a.sec (by omega)
 obtain⟨N,hN⟩:∃N:Nat,N=8:=⟨8,rfl⟩
 (refine eN Tryz.func94 Tryz.call94 fun F hF=>?_)
 (refine WW ?_)
 (refine sim_cnt (N) [5,1] [1] [1] [8,7,3,1] rfl (fun i T U=>⟨(8,iA i)::(7,iA N)::(3,.ref 5 0 N)::T,(5,.arr 6 (mkT i) false)::U⟩) ?_;(conv=>whnf);refine⟨by(rw[hN];rfl),?_,?_⟩)
 ·intro i hi
  have hy:=mkT_at i (by omega)
  have e:=mkT_set i (by omega)
  have hln:(mkT i).length=8:=by unfold mkT;simp;omega
  generalize mkT i=xs at*
  generalize mkT (i+1)=ys at*
  subst e
  unfold zT at hy
  (have zc1:=cf;refine WW ?_;clear zc1)
  rfl
 ·rw[show mkT N=mkT 8 by rw[hN]]
  have hy:(mkT 8)[0]? =some (tkA frT):=rfl
  have e8:(mkT 8).set 0 (tkA ⟨true,a.sec,-1,a.rights,a.cls,0⟩)=(tkN a).map tkA:=rfl
  have hln:(mkT 8).length=8:=rfl
  generalize mkT 8=xs at*
  unfold tkA at hy
  (have zc1:=cs;refine WW ?_;clear zc1)
  exact fin_ret [] rfl rfl (congrArg (AV.sl false) ((List.take_of_length_le (by simp;omega)).trans e8)) rfl
def rgN (n:Int) (a:Ag):Rg:=⟨n,a,tkN a,[],⟨a.burst,a.rate,a.burst⟩⟩
theorem gnew_c (n:Int) (a:Ag) (hs:a.sec.length≤1000000) (hl:a.lim.length≤1000000):CallSim Tryz.prog 49 [iA n,agA a] [] (rgA (rgN n a)) []:=by
 have c1:=cloneA_c a hs hl
 have c2:=tnew_c a hs
 have c3:=rnew_c a.rate a.burst
 unfold rgN
 generalize tkN a=tk at*
 (refine eN Tryz.func49 Tryz.call49 fun F hF=>?_)
 (have zc1:=c1;have zc2:=c2;have zc3:=c3;refine WW ?_;clear zc1 zc2 zc3)
 exact fr0
theorem bytes2_c (g s:Int) (l:List Int) (hl:l.length≤1000000) (g0:0≤g) (g1:g<256) (s0:0≤s) (s1:s<256):CallSim Tryz.prog 26 [iA g,iA s,slA yA l] [] (slA yA (g::s::l)) []:=by
 have hll:=map_len yA l
 (refine eN Tryz.func26 Tryz.call26 fun F hF=>?_)
 (refine WW ?_)
 exact fin_ret [] rfl rfl (congrArg (AV.sl false) (List.take_of_length_le (by simp))) rfl
theorem byeq_c (a b:List Int):CallSim Tryz.prog 149 [slA yA a,slA yA b] [] (bA (eqY a b)) []:=by
 (refine eN Tryz.func149 Tryz.call149 fun F hF=>?_)
 (refine WW ?_)
 exact fr0
def tkOf (l:List Tk) (b:List Int):Tk:=l.getD (b.getD 1 default).toNat default
def ckB (l:List Tk) (g:Int) (b:List Int) (k now:Int):Bool:=decide ((b.length:Int)=10∧b.getD 0 default=g)&&usF l (b.getD 1 default)&&(eqY (b.drop 2) (tkOf l b).sec&& !exF (tkOf l b) now&&peF (tkOf l b).rights k)
theorem check_c (l:List Tk) (g:Int) (b:List Int) (k now:Int) (hb:BY b):CallSim Tryz.prog 118 [slA tkA l,iA g,slA yA b,iA k,iA now] [] (.tup [iA (if ckB l g b k now=true then b.getD 1 default else 0),iA (if ckB l g b k now=true then 0 else 9)]) []:=by
 have hll:=map_len yA b
 have hlt:=map_len tkA l
 by_cases h1:(b.length:Int)=10
 case neg=>
  have e:ckB l g b k now=false:=by unfold ckB;rw[decide_eq_false (fun h=>h1 h.1)];rfl
  rw[e]
  (refine eN Tryz.func118 Tryz.call118 fun F hF=>?_)
  (refine WW ?_)
  exact fr0
 have hy0:=map_atI yA b 0 (by omega) (by omega)
 have hy1:=map_atI yA b 1 (by omega) (by omega)
 have b0:0≤b.getD 0 default∧b.getD 0 default<256:=hb _ (by simp[List.getD];rw[List.getElem?_eq_getElem (by omega)];simp)
 have b1:0≤b.getD 1 default∧b.getD 1 default<256:=hb _ (by simp[List.getD];rw[List.getElem?_eq_getElem (by omega)];simp)
 change (b.map yA)[0]? =some (yA (b.getD 0 default))at hy0
 change (b.map yA)[1]? =some (yA (b.getD 1 default))at hy1
 unfold ckB tkOf
 generalize b.getD 0 default=x0 at*
 generalize b.getD 1 default=x1 at*
 by_cases h2:x0=g
 case neg=>
  rw[decide_eq_false (fun h=>h2 h.2)]
  (refine eN Tryz.func118 Tryz.call118 fun F hF=>?_)
  (refine WW ?_)
  exact fr0
 rw[decide_eq_true ⟨h1,h2⟩]
 have cu:=used_c l x1
 cases hu:usF l x1
 ·rw[hu]at cu
  (refine eN Tryz.func118 Tryz.call118 fun F hF=>?_)
  (have zc1:=cu;refine WW ?_;clear zc1)
  exact fr0
 rw[hu]at cu
 obtain⟨u0,u1⟩:=usF_bd hu
 have hyt:=map_atI tkA l x1 u0 u1
 generalize l.getD x1.toNat default=t at*
 have ce:=byeq_c (b.drop 2) t.sec
 have cx:=expired_c t now
 have cp:=permits_c t.rights k
 generalize eqY (b.drop 2) t.sec=q1 at*
 generalize exF t now=q2 at*
 generalize peF t.rights k=q3 at*
 cases q1<;>cases q2<;>cases q3<;>((refine eN Tryz.func118 Tryz.call118 fun F hF=>?_);(have zc1:=cu;have zc2:=ce;have zc3:=cx;have zc4:=cp;refine WW ?_;clear zc1 zc2 zc3 zc4);exact fr0)
end
section
set_option maxRecDepth 4000
set_option maxHeartbeats 1000000
def rgZ:Rg:=⟨0,⟨[],0,0,[],0,0,0,0⟩,[],[],⟨0,0,0⟩⟩
def costs (k:Int):Bool:=decide (2≤k∧k≤8)
def opE (r:Rg) (m:Ms) (now:Int):Int:=if ckB r.tk r.num m.tok m.kind now=true then(if costs m.kind=true∧r.bk.level≤0 then 13 else 0)else 9
def opR (r:Rg) (m:Ms) (now:Int):Rg:=if opE r m now=0 then(if costs m.kind=true then⟨r.num,r.ag,r.tk,r.vh,tak1 r.bk⟩else r)else rgZ
def opS (r:Rg) (m:Ms) (now:Int):Int:=if opE r m now=0 then m.tok.getD 1 default else 0
theorem open_c (r:Rg) (m:Ms) (now:Int) (hr:RgB r) (hm:BY m.tok) (hl:r.bk.level≤1000000):CallSim Tryz.prog 75 [rgA r,msA m,iA now] [] (.tup [rgA (opR r m now),iA (opS r m now),iA (opE r m now)]) []:=by
 have c1:=check_c r.tk r.num m.tok m.kind now hm
 have c2:=rclone_c r hr
 have c3:=btake_c r.bk (by omega)
 unfold opR opS opE
 cases hc1:ckB r.tk r.num m.tok m.kind now<;>rw[hc1]at c1
 ·(refine eN Tryz.func75 Tryz.call75 fun F hF=>?_)
  (have zc1:=c1;refine WW ?_;clear zc1)
  exact fr0
 ·generalize m.tok.getD 1 default=slot at*
  cases hk:costs m.kind
  ·have hk':¬(2≤m.kind∧m.kind≤8):=of_decide_eq_false hk
   (refine eN Tryz.func75 Tryz.call75 fun F hF=>?_)
   (have zc1:=c1;have zc2:=c2;refine WW (I2 (fun hc=>?_) (fun hc=>?_))<;>clear zc1 zc2)
   all_goals (first|(exfalso;omega)|exact fr0)
  ·have hk':2≤m.kind∧m.kind≤8:=of_decide_eq_true hk
   by_cases hv:r.bk.level≤0
   ·rw[decide_eq_false (by omega)]at c3
    simp only[hv,and_self,if_true]
    (refine eN Tryz.func75 Tryz.call75 fun F hF=>?_)
    (have zc1:=c1;have zc2:=c2;have zc3:=c3;refine WW ?_;clear zc1 zc2 zc3)
    exact fr0
   ·rw[decide_eq_true (by omega)]at c3
    simp only[hv,and_false,if_false,if_true]
    generalize hb:tak1 r.bk=b2 at*
    (refine eN Tryz.func75 Tryz.call75 fun F hF=>?_)
    (have zc1:=c1;have zc2:=c2;have zc3:=c3;refine WW ?_;clear zc1 zc2 zc3)
    exact fr0
def rtF (r:Rg) (now:Int):Rg:=⟨r.num,r.ag,expF r.tk now,r.vh,btF r.bk⟩
theorem gtick_c (r:Rg) (now:Int) (hr:RgB r) (hl: -1000000≤r.bk.level+r.bk.rate∧r.bk.level+r.bk.rate≤1000000):CallSim Tryz.prog 62 [rgA r,iA now] [] (rgA (rtF r now)) []:=by
 have c1:=rclone_c r hr
 have c2:=expire_c r.tk hr.tk now
 have c3:=btick_c r.bk (by omega)
 unfold rtF
 generalize expF r.tk now=tk at*
 generalize btF r.bk=bk at*
 (refine eN Tryz.func62 Tryz.call62 fun F hF=>?_)
 (have zc1:=c1;have zc2:=c2;have zc3:=c3;refine WW ?_;clear zc1 zc2 zc3)
 exact fr0
theorem tsame_c (l:List Tk) (hb:l.length≤1000000):CallSim Tryz.prog 54 [slA tkA l,slA tkA l] [] (bA true) []:=by
 have hl:=map_len tkA l
 (refine eN Tryz.func54 Tryz.call54 fun F hF=>?_)
 (refine WW ?_)
 (refine sim_rng (l) [] [] [1,13,14] [15,1,13,14] rfl (fun i pre T U=>⟨(15,iA i)::T,U⟩) ?_;(conv=>whnf);refine⟨by rfl,?_,?_⟩)
 ·intro i pre x post hx hi
  have hy:=rng_at tkA hx hi
  have hlt:=rng_lt hx hi
  clear hx
  (refine WW (I3 (fun hc=>?_) (fun hc hc=>?_) (fun hc hc=>?_)))
  all_goals (first|rfl|(exfalso;first|(simp[eqY_refl]at hc;done)|(revert hc;simp[eqY_refl];done)))
 ·(refine WW ?_)
  exact fr0
theorem vsame_c (l:List Vh) (hb:l.length≤1000000):CallSim Tryz.prog 55 [slA vhA l,slA vhA l] [] (bA true) []:=by
 have hl:=map_len vhA l
 (refine eN Tryz.func55 Tryz.call55 fun F hF=>?_)
 (refine WW ?_)
 (refine sim_rng (l) [] [] [1,12,13] [14,1,12,13] rfl (fun i pre T U=>⟨(14,iA i)::T,U⟩) ?_;(conv=>whnf);refine⟨by rfl,?_,?_⟩)
 ·intro i pre x post hx hi
  have hy:=rng_at vhA hx hi
  have hlt:=rng_lt hx hi
  clear hx
  (repeat' (first|refine WZ ?_|refine SG (I2 (fun hc=>?_) (fun hc=>?_))|refine SG (fun hc=>?_)|(refine is_ops ?_;refine is_call ?_;fail)|(refine is_ops ?_;first|refine SE ?_)|first|refine SR ?_|refine SK (I2 (fun hc=>?_) (fun hc=>?_))|refine SK (fun hc=>?_)|fail))
  all_goals (first|rfl|(exfalso;first|(simp[eqY_refl]at hc;done)|(revert hc;simp[eqY_refl];done)))
 ·(refine WW ?_)
  exact fr0
theorem asame_c (a:Ag) (hb:a.lim.length≤1000000):CallSim Tryz.prog 53 [agA a,agA a] [] (bA true) []:=by
 have hl:=map_len iA a.lim
 (refine eN Tryz.func53 Tryz.call53 fun F hF=>?_)
 (refine WW ?_)
 (refine sim_rng (a.lim) [2,3] [2,3] [2,3,15,16] [17,2,3,15,16] rfl (fun i pre T U=>⟨(17,iA i)::T,U⟩) ?_;(conv=>whnf);refine⟨by rfl,?_,?_⟩)
 ·intro i pre x post hx hi
  have hy:=rng_at iA hx hi
  have hlt:=rng_lt hx hi
  clear hx
  (refine WW ?_)
  all_goals (first|rfl|(exfalso;first|(simp[eqY_refl]at hc;done)|(revert hc;simp[eqY_refl];done)))
 ·(refine WW (I2 (fun hc=>?_) (fun hc=>?_)))
  all_goals (first|(exfalso;first|(simp[eqY_refl]at hc;done)|(revert hc;simp[eqY_refl];done))|exact fr0|(apply fin_bool;(exact fr0);simp[cmpB,eqY_refl]))
theorem gsame_c (r:Rg) (hr:RgB r):CallSim Tryz.prog 23 [rgA r,rgA r] [] (bA true) []:=by
 have c1:=asame_c r.ag hr.l
 have c2:=tsame_c r.tk hr.tk.n
 have c3:=vsame_c r.vh hr.v
 (refine eN Tryz.func23 Tryz.call23 fun F hF=>?_)
 (have zc1:=c1;have zc2:=c2;have zc3:=c3;(repeat' (first|refine WZ ?_|refine SG (I2 (fun hc=>?_) (fun hc=>?_))|refine SG (fun hc=>?_)|(refine is_ops ?_;refine is_call ?_;refine SC ?_)|(refine is_ops ?_;first|refine SE ?_)|first|refine SR ?_|refine SK (I2 (fun hc=>?_) (fun hc=>?_))|refine SK (fun hc=>?_)|fail))<;>clear zc1 zc2 zc3)
 all_goals (first|exact fr0|(apply fin_bool;(exact fr0);simp))
end
section
set_option maxRecDepth 4000
set_option maxHeartbeats 1000000
theorem copyT2_own (l:List Tk) (hb:TkB l):CallSim Tryz.prog 98 [slA tkA l] [] (.ref 1001 0 (l.map tkA).length) [(1001,.arr 6 (l.map tkA) false)]:=by
 have hn:=hb.n
 have hll:=map_len tkA l
 (refine eN Tryz.func98 Tryz.call98 fun F hF=>?_)
 (repeat' (first|refine WZ ?_|refine SG (I2 (fun hc=>?_) (fun hc=>?_))|refine SG (fun hc=>?_)|(refine is_ops ?_;refine is_call ?_;fail)|(refine is_ops ?_;first|fail)|first|refine SR ?_|refine SK (I2 (fun hc=>?_) (fun hc=>?_))|refine SK (fun hc=>?_)|fail))
 refine sim_virt 3 1001 6 rfl rfl rfl ?_
 (refine sim_rng (l) [1001] [] [6,7] [3,8,6,7] rfl (fun i pre T U=>⟨(3,.ref 1001 0 (pre.map tkA).length)::(8,iA i)::T,(1001,.arr 6 (pre.map tkA) true)::U⟩) ?_;(conv=>whnf);refine⟨by rfl,?_,?_⟩)
 ·intro i pre x post hx hi
  have hy:=rng_at tkA hx hi
  have hlt:=rng_lt hx hi
  have hpl:(pre.map tkA).length=i:=by rw[List.length_map,hi]
  have hs:=hb.s x (rng_mem hx)
  have hsl:=map_len yA x.sec
  have e:(pre++[x]).map tkA=pre.map tkA++[tkA x]:=by simp
  clear hx
  rw[e]
  generalize pre.map tkA=xs at*
  generalize l.map tkA=ls at*
  (refine WL ?_)
  rfl
 ·(repeat' (first|refine WZ ?_|refine SG (I2 (fun hc=>?_) (fun hc=>?_))|refine SG (fun hc=>?_)|(refine is_ops ?_;refine is_call ?_;fail)|(refine is_ops ?_;first|fail)|first|refine SN ?_|refine SK (I2 (fun hc=>?_) (fun hc=>?_))|refine SK (fun hc=>?_)|fail))
  refine sim_restr [1001] [2] rfl rfl ?_
  refine sim_compact 1001 [2] rfl rfl rfl rfl rfl (sim_ret ?_)
  exact fin_own [1001] rfl rfl rfl rfl
theorem copyT2_c (l:List Tk) (hb:TkB l):CallSim Tryz.prog 98 [slA tkA l] [] (slA tkA l) []:=by
 have hn:=hb.n
 have hll:=map_len tkA l
 (refine eN Tryz.func98 Tryz.call98 fun F hF=>?_)
 (repeat' (first|refine WZ ?_|refine SG (I2 (fun hc=>?_) (fun hc=>?_))|refine SG (fun hc=>?_)|(refine is_ops ?_;refine is_call ?_;fail)|(refine is_ops ?_;first|fail)|first|refine SR ?_|refine SK (I2 (fun hc=>?_) (fun hc=>?_))|refine SK (fun hc=>?_)|fail))
 refine sim_virt 3 1001 6 rfl rfl rfl ?_
 (refine sim_rng (l) [1001] [] [6,7] [3,8,6,7] rfl (fun i pre T U=>⟨(3,.ref 1001 0 (pre.map tkA).length)::(8,iA i)::T,(1001,.arr 6 (pre.map tkA) true)::U⟩) ?_;(conv=>whnf);refine⟨by rfl,?_,?_⟩)
 ·intro i pre x post hx hi
  have hy:=rng_at tkA hx hi
  have hlt:=rng_lt hx hi
  have hpl:(pre.map tkA).length=i:=by rw[List.length_map,hi]
  have hs:=hb.s x (rng_mem hx)
  have hsl:=map_len yA x.sec
  have e:(pre++[x]).map tkA=pre.map tkA++[tkA x]:=by simp
  clear hx
  rw[e]
  generalize pre.map tkA=xs at*
  generalize l.map tkA=ls at*
  (refine WL ?_)
  rfl
 ·(refine WL ?_)
  exact fin_ret [] rfl rfl (wk_take _ _) rfl
theorem copyG_c (r:Rg) (hb:RgB r):CallSim Tryz.prog 51 [rgA r] [] (rgA r) []:=by
 have c:=copyT2_c r.tk hb.tk
 have h1:=hb.s
 have h2:=hb.l
 have h3:=hb.v
 have l1:=map_len yA r.ag.sec
 have l2:=map_len iA r.ag.lim
 have l3:=map_len vhA r.vh
 (refine eN Tryz.func51 Tryz.call51 fun F hF=>?_)
 (have zc1:=c;refine WL ?_;clear zc1)
 exact fr0
def mkN (a:Ag) (i:Nat):List AV:=tkA ⟨true,a.sec,-1,a.rights,a.cls,0⟩::List.replicate i (tkA frT)
theorem tnew2_c (a:Ag) (hs:a.sec.length≤1000000):CallSim Tryz.prog 96 [agA a] [] (slA tkA (tkN a)) []:=by
 have hsl:=map_len yA a.sec
 obtain⟨N,hN⟩:∃N:Nat,N=7:=⟨7,rfl⟩
 (refine eN Tryz.func96 Tryz.call96 fun F hF=>?_)
 (repeat' (first|refine WY ?_|refine SG (I2 (fun hc=>?_) (fun hc=>?_))|refine SG (fun hc=>?_)|(refine is_ops ?_;refine is_call ?_;fail)|(refine is_ops ?_;first|(refine is_bsl ?_;refine x_w (nw:=[1001]) (stp_buildSlice tok 1001 (xs:=[.agg [.s (.bool true),.sl false (a.sec.map yA),.s (.int .i64 (-1)),.s (.int .i64 a.rights),.s (.int .i64 a.cls),.s (.int .i64 0)]]) rfl rfl rfl rfl rfl rfl rfl rfl rfl) rfl rfl rfl ?_)|refine SL ?_)|refine SB ?_|first|refine SR ?_|refine SK (I2 (fun hc=>?_) (fun hc=>?_))|refine SK (fun hc=>?_)|fail))
 refine sim_stale 1001 rfl ?_
 (refine sim_cnt (N) [1001] [] [] [3] rfl (fun i T U=>⟨(3,.ref 1001 0 (mkN a i).length)::T,(1001,.arr 6 (mkN a i) true)::U⟩) ?_;(conv=>whnf);refine⟨by rfl,?_,?_⟩)
 ·intro i hi
  have hl:(mkN a i).length=i+1:=by simp[mkN]
  have e:mkN a (i+1)=mkN a i++[tkA frT]:=by unfold mkN;rw[List.replicate_succ'];rfl
  have hh:∀y,(mkN a i)[0]? =some y→y.cells.length=6:=fun y hy=>by cases hy;rfl
  rw[e]
  generalize mkN a i=xs at*
  (repeat' (first|refine WY ?_|refine SG (I2 (fun hc=>?_) (fun hc=>?_))|refine SG (fun hc=>?_)|(refine is_ops ?_;refine is_call ?_;fail)|(refine is_ops ?_;first|(refine is_bsl ?_;refine x_wk 17 rfl rfl rfl ?_;refine x_lit tok rfl rfl ?_))|refine SB ?_|first|refine SR ?_|refine SK (I2 (fun hc=>?_) (fun hc=>?_))|refine SK (fun hc=>?_)|fail))
  rfl
 ·have hl:(mkN a N).length=N+1:=by simp[mkN]
  rw[show tkN a=tkN a from rfl]
  have e:(mkN a N).take (mkN a N).length=(tkN a).map tkA:=by rw[List.take_length,hN];rfl
  (refine WL ?_)
  exact fin_ret [] rfl rfl (congrArg (AV.sl false) e) rfl
theorem gnew2_c (n:Int) (a:Ag) (hs:a.sec.length≤1000000) (hl:a.lim.length≤1000000):CallSim Tryz.prog 50 [iA n,agA a] [] (rgA (rgN n a)) []:=by
 have c1:=tnew2_c a hs
 have c2:=rnew2_c a.rate a.burst
 have hb:RgB (rgN n a):=⟨⟨by simp[rgN,tkN],fun t ht=>by
  simp only[rgN,tkN,List.mem_cons]at ht
  rcases ht with rfl|ht
  ·exact hs
  ·rw[List.eq_of_mem_replicate ht];simp[frT]⟩,hs,hl,by simp[rgN]⟩
 have c3:=copyG_c (rgN n a) hb
 unfold rgN at*
 generalize tkN a=tk at*
 (refine eN Tryz.func50 Tryz.call50 fun F hF=>?_)
 (have zc1:=c1;have zc2:=c2;have zc3:=c3;refine WW ?_;clear zc1 zc2 zc3)
 exact fr0
end
section
set_option maxRecDepth 4000
set_option maxHeartbeats 1000000
def so2F (t:Tk):Bool:=decide ((t.sec.length:Int)=8∧0≤t.cls∧t.cls≤3∧0≤t.til∧t.til≤2147483648)
def soF (t:Tk):Bool:=rvF t.rights&&so2F t
theorem sound_c (t:Tk):CallSim Tryz.prog 210 [tkA t] [] (bA (soF t)) []:=by
 have c:=rvalid_c t.rights
 have hl:=map_len yA t.sec
 unfold soF
 generalize rvF t.rights=v at*
 cases v
 ·rw[Bool.false_and]
  (refine eN Tryz.func210 Tryz.call210 fun F hF=>?_)
  (have zc1:=c;refine WW (I2 (fun hc=>?_) (fun hc=>?_))<;>clear zc1)
  all_goals exact fr0
 ·rw[Bool.true_and]
  (cases hb:so2F t with|false=>((refine eN Tryz.func210 Tryz.call210 fun F hF=>?_);((have zc1:=c;refine WW (I5 (fun hc hc hc hc=>?_) (fun hc hc hc hc=>?_) (fun hc hc hc=>?_) (fun hc hc=>?_) (fun hc=>?_))<;>clear zc1));all_goals (first|exact fr0|(simp only[so2F,decide_eq_false_iff_not]at hb;first|(exfalso;omega)|(apply fin_bool;(exact fr0);simp only[cmpB,decide_eq_false_iff_not,decide_eq_true_eq,beq_eq_false_iff_ne,bne_eq_false_iff_eq,beq_iff_eq,bne_iff_ne,ne_eq];omega))))|true=>(simp only[so2F,decide_eq_true_eq]at hb;(refine eN Tryz.func210 Tryz.call210 fun F hF=>?_);((have zc1:=c;refine WW ?_;clear zc1));all_goals (first|exact fr0|(exfalso;omega)|(apply fin_bool;(exact fr0);simp only[cmpB,decide_eq_false_iff_not,decide_eq_true_eq,beq_eq_false_iff_ne,bne_eq_false_iff_eq,beq_iff_eq,bne_iff_ne,ne_eq];omega))))
def if2F (t:Tk):Bool:=decide ((t.sec.length:Int)=0∧t.par= -1∧t.rights=0∧t.cls=0∧t.til=0)
def tkU (u:Bool) (t:Tk):AV:= .agg [bA u,slA yA t.sec,iA t.par,iA t.rights,iA t.cls,iA t.til]
theorem isFree_c (t:Tk):CallSim Tryz.prog 211 [tkU false t] [] (bA (if2F t)) []:=by
 have hl:=map_len yA t.sec
 (cases hb:if2F t with|false=>((refine eN Tryz.func211 Tryz.call211 fun F hF=>?_);((refine WW (I5 (fun hc hc hc hc=>?_) (fun hc hc hc hc=>?_) (fun hc hc hc=>?_) (fun hc hc=>?_) (fun hc=>?_))));all_goals (first|exact fr0|(simp only[if2F,decide_eq_false_iff_not]at hb;first|(exfalso;omega)|(apply fin_bool;(exact fr0);simp only[cmpB,decide_eq_false_iff_not,decide_eq_true_eq,beq_eq_false_iff_ne,bne_eq_false_iff_eq,beq_iff_eq,bne_iff_ne,ne_eq];omega))))|true=>(simp only[if2F,decide_eq_true_eq]at hb;(refine eN Tryz.func211 Tryz.call211 fun F hF=>?_);((refine WW ?_));all_goals (first|exact fr0|(exfalso;omega)|(apply fin_bool;(exact fr0);simp only[cmpB,decide_eq_false_iff_not,decide_eq_true_eq,beq_eq_false_iff_ne,bne_eq_false_iff_eq,beq_iff_eq,bne_iff_ne,ne_eq];omega))))
def tokF (l:List Tk) (s:Int):Bool:=if(l.getD s.toNat default).used=true then soF (l.getD s.toNat default)&&deF l s 0&&(wiF (l.getD s.toNat default).rights (l.getD (l.getD s.toNat default).par.toNat default).rights&&decide ((l.getD s.toNat default).cls≤(l.getD (l.getD s.toNat default).par.toNat default).cls)&& !laF (l.getD s.toNat default).til (l.getD (l.getD s.toNat default).par.toNat default).til)
 else if2F (l.getD s.toNat default)
def rootF (t:Tk):Bool:=t.used&&decide (t.par= -1∧t.til=0)&&soF t
def tvF (l:List Tk):Bool:=decide ((l.length:Int)=8)&&(rootF (l.getD 0 default)&&(List.range 7).all fun i=>tokF l ((i:Int)+1))
theorem tvF_no {l:List Tk} {i:Nat} (hi:i<7) (h:tokF l ((i:Int)+1)=false):tvF l=false:=by
 unfold tvF
 have:((List.range 7).all fun i=>tokF l ((i:Int)+1))=false:=List.all_eq_false.2 ⟨i,List.mem_range.2 hi,by simp[h]⟩
 rw[this];simp
theorem deF_par {l:List Tk} {s:Int} (h:deF l s 0=true) (h0:s≠0):usF l (l.getD s.toNat default).par=true:=by
 unfold deF at h
 rw[chF_succ l 7 s]at h
 cases hu:usF l s<;>rw[hu]at h
 ·simp at h
 ·rw[cond_true,List.any_cons]at h
  have:(s==0)=false:=by simpa using h0
  rw[this,Bool.false_or,chF_succ l 6]at h
  cases hp:usF l (l.getD s.toNat default).par
  ·rw[hp]at h;simp at h
  ·rfl
theorem tvalid_c (l:List Tk):CallSim Tryz.prog 184 [slA tkA l] [] (bA (tvF l)) []:=by
 have hll:=map_len tkA l
 by_cases h8:(l.length:Int)=8
 case neg=>
  rw[show tvF l=false by unfold tvF;rw[decide_eq_false h8];rfl]
  (refine eN Tryz.func184 Tryz.call184 fun F hF=>?_)
  (refine WW ?_)
  exact fr0
 have hy0:=map_atI tkA l 0 (by omega) (by omega)
 change (l.map tkA)[0]? =some (tkA (l.getD 0 default))at hy0
 cases hr:rootF (l.getD 0 default)
 ·rw [show tvF l=false by unfold tvF;rw[hr];simp]
  have c:=sound_c (l.getD 0 default)
  unfold rootF at hr
  generalize l.getD 0 default=t at*
  generalize soF t=q at*
  cases hu:t.used
  ·rw[show tkA t=tkU false t by unfold tkA tkU;rw[hu]]at*
   unfold tkU at*
   (refine eN Tryz.func184 Tryz.call184 fun F hF=>?_)
   (have zc1:=c;refine WW ?_;clear zc1)
   exact fr0
  ·rw[show tkA t=tkU true t by unfold tkA tkU;rw[hu]]at*
   unfold tkU at*
   by_cases h1:t.par= -1
   ·by_cases h2:t.til=0
    ·rw[hu,decide_eq_true ⟨h1,h2⟩,Bool.true_and,Bool.true_and]at hr
     subst hr
     (refine eN Tryz.func184 Tryz.call184 fun F hF=>?_)
     (have zc1:=c;refine WW ?_;clear zc1)
     exact fr0
    ·(refine eN Tryz.func184 Tryz.call184 fun F hF=>?_)
     (have zc1:=c;refine WW ?_;clear zc1)
     exact fr0
   ·(refine eN Tryz.func184 Tryz.call184 fun F hF=>?_)
    (have zc1:=c;refine WW ?_;clear zc1)
    exact fr0
 have c0:=sound_c (l.getD 0 default)
 have hr':=hr
 unfold rootF at hr'
 simp only[Bool.and_eq_true,decide_eq_true_eq]at hr'
 obtain⟨⟨hu,h1,h2⟩,h3⟩:=hr'
 have hy0':=hy0
 rw[h3]at c0
 rw[show tkA (l.getD 0 default)=tkU true (l.getD 0 default) by unfold tkA tkU;rw[hu]]at hy0' c0
 unfold tkU at hy0' c0
 clear hy0
 generalize ht0:l.getD 0 default=t0 at hy0' c0 h1 h2
 (refine eN Tryz.func184 Tryz.call184 fun F hF=>?_)
 (have zc1:=c0;refine WW ?_;clear zc1)
 (refine sim_cntP (7) [] [] [0] [4,0] rfl (fun i T U zs=>(∀s:Nat,s<i→tokF l ((s:Int)+1)=true)∧zs=⟨(4,iA ((i:Int)+1))::T,U⟩) ?_;(conv=>whnf);refine⟨?_,?_,?_⟩)
 ·exact⟨fun s hs=>absurd hs (Nat.not_lt_zero _),rfl⟩
 ·rintro i st hi ⟨hp,rfl⟩
  have next:tokF l ((i:Int)+1)=true→∀s:Nat,s<i+1→tokF l ((s:Int)+1)=true:=fun h s hs=>by
   by_cases hsi:s=i
   ·subst hsi;exact h
   ·exact hp s (by omega)
  have stop:=fun h=>tvF_no (l:=l) hi h
  have hy:=map_atI tkA l ((i:Int)+1) (by omega) (by omega)
  have c1:=sound_c (l.getD ((i:Int)+1).toNat default)
  have c2:=isFree_c (l.getD ((i:Int)+1).toNat default)
  have c3:=desc_c l ((i:Int)+1) 0
  have hpar:=deF_par (l:=l) (s:=(i:Int)+1)
  have htok:tokF l ((i:Int)+1)=_:=rfl
  conv at htok=>rhs;unfold tokF
  generalize l.getD ((i:Int)+1).toNat default=t at*
  generalize tokF l ((i:Int)+1)=tk at*
  cases hu:t.used
  ·rw[show tkA t=tkU false t by unfold tkA tkU;rw[hu]]at hy
   rw[hu,if_neg (by simp)]at htok
   rw[←htok]at c2
   unfold tkU at hy c2
   cases tk
   ·rw[stop rfl]
    (have zc1:=c2;refine WW ?_;clear zc1)
    exact fr0
   ·(have zc1:=c2;refine WW ?_;clear zc1)
    exact⟨next rfl,by rw[Int.natCast_succ];rfl⟩
  ·rw[show tkA t=tkU true t by unfold tkA tkU;rw[hu]]at hy c1
   rw[hu,if_pos rfl]at htok
   unfold tkU at hy c1
   generalize soF t=q1 at*
   generalize hq2:deF l ((i:Int)+1) 0=q2 at*
   cases q1
   ·rw[Bool.false_and,Bool.false_and]at htok
    rw[stop htok]
    (have zc1:=c1;refine WW ?_;clear zc1)
    exact fr0
   cases q2
   ·rw[Bool.true_and,Bool.false_and]at htok
    rw[stop htok]
    (have zc1:=c1;have zc2:=c3;refine WW ?_;clear zc1 zc2)
    exact fr0
   rw[Bool.true_and,Bool.true_and]at htok
   obtain⟨p0,p1⟩:=usF_bd (hpar rfl (by omega))
   have hyp:=map_atI tkA l t.par p0 p1
   generalize l.getD t.par.toNat default=p at*
   have c4:=within_c t.rights p.rights
   have c5:=later_c t.til p.til
   generalize wiF t.rights p.rights=q3 at*
   generalize laF t.til p.til=q4 at*
   cases q3
   ·rw[Bool.false_and,Bool.false_and]at htok
    rw[stop htok]
    (have zc1:=c1;have zc2:=c3;have zc3:=c4;refine WW ?_;clear zc1 zc2 zc3)
    exact fr0
   by_cases hcl:t.cls≤p.cls
   ·rw[decide_eq_true hcl,Bool.true_and,Bool.true_and]at htok
    cases q4
    ·(have zc1:=c1;have zc2:=c3;have zc3:=c4;have zc4:=c5;refine WW ?_;clear zc1 zc2 zc3 zc4)
     exact⟨next htok,by rw[Int.natCast_succ];rfl⟩
    ·rw[stop htok]
     (have zc1:=c1;have zc2:=c3;have zc3:=c4;have zc4:=c5;refine WW ?_;clear zc1 zc2 zc3 zc4)
     exact fr0
   ·rw[decide_eq_false hcl,Bool.true_and,Bool.false_and]at htok
    rw[stop htok]
    (have zc1:=c1;have zc2:=c3;have zc3:=c4;have zc4:=c5;refine WW ?_;clear zc1 zc2 zc3 zc4)
    exact fr0
 ·rintro st ⟨hp,rfl⟩
  rw[show tvF l=true by
   unfold tvF
   rw[decide_eq_true h8,hr,Bool.true_and,Bool.true_and]
   exact List.all_eq_true.2 fun i hi=>hp i (List.mem_range.1 hi)]
  (refine WW ?_)
  exact fr0
end
end Av
end Go.Proofs.YtaikgchmpieooaaGreat
