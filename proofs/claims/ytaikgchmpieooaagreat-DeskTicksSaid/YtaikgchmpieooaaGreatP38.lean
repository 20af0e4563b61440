/- Part 38: contracts of the functions, and what they rest upon. -/
import Derived.Test.YtaikgchmpieooaaGreatP37
import Derived.Test.YtaikgchmpieooaaGreatP17
import Derived.Test.YtaikgchmpieooaaGreatP16
import Derived.Scope
import Derived.Test.YtaikgchmpieooaaGreatP35
namespace Go.Proofs.YtaikgchmpieooaaGreat
namespace Av
set_option linter.unusedSimpArgs false
set_option linter.unusedVariables false
section
set_option maxRecDepth 4000
set_option maxHeartbeats 2000000
theorem vplace_c (l:List Vh) (id:Int) (hn:l.length≤1000000) (k:Nat) (k1:k≤l.length) (k2:∀i,i<k→(l.getD i default).id<id) (k3:k<l.length→¬(l.getD k default).id<id):CallSim Tryz.prog 192 [slA vhA l,iA id] [] (iA k) []:=by
 have hll:=map_len vhA l
 (refine eN Tryz.func192 Tryz.call192 fun F hF=>?_)
 (refine WW ?_)
 (refine sim_cntP (l.length+1) [] [] [0,1] [5,0,1] rfl (fun i T U zs=>(i≤k)∧zs=⟨(5,iA i)::T,U⟩) ?_;(conv=>whnf);refine⟨?_,?_,?_⟩)
 ·exact⟨Nat.zero_le _,rfl⟩
 ·rintro i st hi ⟨hik,rfl⟩
  by_cases hlt:i<k
  ·have hy:=map_at vhA l i (by omega)
   have hh:=k2 i hlt
   generalize l.getD i default=x at*
   (refine WW ?_)
   exact⟨by omega,rfl⟩
  ·obtain rfl:i=k:=by omega
   by_cases hkl:i<l.length
   ·have hy:=map_at vhA l i hkl
    have hh:=k3 hkl
    generalize l.getD i default=x at*
    (refine WW ?_)
    exact fr0
   ·(refine WW ?_)
    exact fr0
 ·rintro st ⟨hik,rfl⟩
  exfalso;omega
theorem vcount_c (l:List Vh) (c:Int) (hn:l.length≤1000000):CallSim Tryz.prog 218 [slA vhA l,iA c] [] (iA (countV l c)) []:=by
 have hl:=map_len vhA l
 (refine eN Tryz.func218 Tryz.call218 fun F hF=>?_)
 (refine WW ?_)
 (refine sim_rng (l) [] [] [1,8,9] [5,10,1,8,9] rfl (fun i pre T U=>⟨(5,iA (countV pre c))::(10,iA i)::T,U⟩) ?_;(conv=>whnf);refine⟨by rfl,?_,?_⟩)
 ·intro i pre x post hx hi
  have hy:=rng_at vhA hx hi
  have hlt:=rng_lt hx hi
  have hle:countV pre c≤i:=by rw[←hi];exact List.length_filter_le _ _
  have e:countV (pre++[x]) c=countV pre c+(if x.cls=c then 1 else 0):=by
   unfold countV
   rw[List.filter_append,List.length_append]
   by_cases h:x.cls=c
   ·simp[h]
   ·simp[h]
  clear hx
  by_cases h:x.cls=c
  ·rw[if_pos h]at e
   rw[e]
   generalize countV pre c=m at*
   (refine WW ?_)
   rfl
  ·rw[if_neg h,Nat.add_zero]at e
   rw[e]
   generalize countV pre c=m at*
   (refine WW ?_)
   rfl
 ·(refine WW ?_)
  exact fr0
theorem vlimit_c (a:Ag) (c:Int) (h0:0≤c) (h1:c<a.lim.length):CallSim Tryz.prog 219 [agA a,iA c] [] (iA (a.lim.getD c.toNat default)) []:=by
 have hla:=map_len iA a.lim
 have hy:=map_atI iA a.lim c h0 h1
 (refine eN Tryz.func219 Tryz.call219 fun F hF=>?_)
 (refine WW ?_)
 exact fr0
def agC (a:Ag) (c:Int):Ag:=⟨a.sec,a.rights,c,a.lim,a.req,a.ses,a.rate,a.burst⟩
theorem vv_lt {l:List Vh} (hv:vvF l=true):∀j,j<l.length→∀i,i<j→(l.getD i default).id<(l.getD j default).id
 |0,_,i,hi=>absurd hi (Nat.not_lt_zero _)
 | j+1,hj,i,hi=>by
  have h1:=((vv_at.1 hv).2 (j+1) hj).2 (by omega)
  rw[Nat.add_sub_cancel]at h1
  by_cases h:i=j
  ·subst h;exact h1
  ·have:=vv_lt hv j (by omega) i (by omega)
   omega
theorem has_place {l:List Vh} {id:Int} (hv:vvF l=true) {k:Nat} (k1:k≤l.length) (k2:∀i,i<k→(l.getD i default).id<id) (k3:k<l.length→¬(l.getD k default).id<id):hasV l id=true↔k<l.length∧(l.getD k default).id=id:=by
 constructor
 ·intro h
  obtain⟨x,hx,he⟩:=List.any_eq_true.1 h
  obtain⟨i,hi,rfl⟩:=List.getElem_of_mem hx
  rw[beq_iff_eq]at he
  have hg:l.getD i default=l[i]:=by simp[List.getD,hi]
  rw[←hg]at he
  by_cases h1:i<k
  ·have:=k2 i h1;omega
  ·have hk:k<l.length:=by omega
   by_cases h2:i=k
   ·subst h2;exact⟨hk,he⟩
   ·have h3:=vv_lt hv i hi k (by omega)
    have h4:=k3 hk
    omega
 ·rintro⟨hk,he⟩
  exact List.any_eq_true.2 ⟨l.getD k default,by simp[List.getD,hk],by rw[beq_iff_eq];exact he⟩
theorem vregister_c (l:List Vh) (hn:l.length≤1000000) (a:Ag) (hlim:(a.lim.length:Int)=4) (hc3:a.cls≤3) (v:Vh) (hv:vvF l=true) (h1:0≤v.id) (h2:v.id≤4294967295) (h3:0≤v.cls) (h4:v.cls≤a.cls) (htw:hasV l v.id=false) (h5:(countV l v.cls:Int)<a.lim.getD v.cls.toNat default) (h6:l.length<8)
  (k:Nat) (k1:k≤l.length) (k2:∀i,i<k→(l.getD i default).id<v.id) (k3:k<l.length→¬(l.getD k default).id<v.id):CallSim Tryz.prog 191 [slA vhA l,agA a,vhA v] [] (.tup [slA vhA (l.take k++v::l.drop k),iA 0]) []:=by
 have hll:=map_len vhA l
 have hla:=map_len iA a.lim
 have c2:=vvalid_x l hn
 have c3:=vplace_c l v.id hn k k1 k2 k3
 have c4:=vcount_c l v.cls hn
 have c5:=vlimit_c a v.cls h3 (by omega)
 have hne:k<l.length→(l.getD k default).id≠v.id:=fun hk e=>by
  rw[(has_place hv k1 k2 k3).2 ⟨hk,e⟩]at htw
  cases htw
 rw[hv]at c2
 clear hv htw k2 k3
 have hcn:(countV l v.cls:Int)≤1000000:=by
  have:countV l v.cls≤l.length:=List.length_filter_le _ _
  omega
 generalize (countV l v.cls:Int)=cn at*
 generalize a.lim.getD v.cls.toNat default=lim at*
 have hlK:((l.take (k:Int).toNat).map vhA).length=k:=by simp;omega
 have hlD:((l.drop (k:Int).toNat).map vhA).length=l.length-k:=by simp
 obtain⟨N,hN⟩:∃N,N=l.length+1:=⟨_,rfl⟩
 have hnx:((l.map vhA).length:Int)+1=(N:Int):=by omega
 obtain⟨z1,hz1,hz1l⟩:∃z1,z1=(l.take k).map vhA++List.replicate (l.length+1-k) (AV.agg [.s (.int .i64 0),.s (.int .i64 0)])∧z1.length=l.length+1:=⟨_,rfl,by simp;omega⟩
 have hcp1:(List.replicate N (AV.agg [.s (.int .i64 0),.s (.int .i64 0)])).take 0++(l.take (k:Int).toNat).map vhA++(List.replicate N (AV.agg [.s (.int .i64 0),.s (.int .i64 0)])).drop (0+((l.take (k:Int).toNat).map vhA).length)=z1:=by
  rw[hz1,hlK,hN];simp
 have hat:z1[(k:Int).toNat]? =some (AV.agg [.s (.int .i64 0),.s (.int .i64 0)]):=by
  rw[hz1,List.getElem?_append_right (by simp;omega)]
  rw[List.getElem?_replicate,if_pos (by simp;omega)]
 have hcp2:(z1.set (k:Int).toNat (.agg [iA v.id,iA v.cls])).take ((k:Int)+1).toNat++(l.drop (k:Int).toNat).map vhA++(z1.set (k:Int).toNat (.agg [iA v.id,iA v.cls])).drop (((k:Int)+1).toNat+((l.drop (k:Int).toNat).map vhA).length)=(l.take k++v::l.drop k).map vhA:=by
  have e1:z1.set (k:Int).toNat (.agg [iA v.id,iA v.cls])=(l.take k++[v]).map vhA++List.replicate (l.length-k) (AV.agg [.s (.int .i64 0),.s (.int .i64 0)]):=by
   rw[hz1,List.set_append_right _ _ (by simp;omega),show l.length+1-k=(l.length-k)+1 by omega,List.replicate_succ]
   rw[show(k:Int).toNat-((l.take k).map vhA).length=0 by simp;omega]
   simp[vhA]
  have hl1:((l.take k++[v]).map vhA).length=k+1:=by simp;omega
  have e2:((l.take k++[v]).map vhA++List.replicate (l.length-k) (AV.agg [.s (.int .i64 0),.s (.int .i64 0)])).drop (k+1+(l.length-k))=[]:=List.drop_of_length_le (by rw[List.length_append,hl1,List.length_replicate];exact Nat.le_refl _)
  rw[e1,hlD,show((k:Int)+1).toNat=k+1 by omega,List.take_append_of_le_length (by omega),List.take_of_length_le (by omega),e2]
  simp
 clear hz1
 obtain⟨z3,hz3⟩:∃z3,z3=(l.take k++v::l.drop k).map vhA:=⟨_,rfl⟩
 have hz3l:z3.length=l.length+1:=by rw[hz3];simp;omega
 rw[←hz3]at hcp2
 rw[show slA vhA (l.take k++v::l.drop k)= .sl false z3 by rw[hz3];rfl]
 clear hz3
 rw[show vhA v= .agg [iA v.id,iA v.cls]from rfl]at*
 by_cases hk:k<l.length
 ·have hy:=map_at vhA l k hk
  have hne:=hne hk
  generalize l.getD k default=x at*
  (refine eN Tryz.func191 Tryz.call191 fun F hF=>?_)
  (have zc1:=c2;have zc2:=c3;have zc3:=c4;have zc4:=c5;(repeat' (first|refine WZ ?_|refine SG (I2 (fun hc=>?_) (fun hc=>?_))|refine SG (fun hc=>?_)|(refine is_ops ?_;refine is_call ?_;refine SC ?_)|(refine is_ops ?_;first|(refine is_mks ?_;refine x_mks tok rfl rfl rfl rfl rfl rfl rfl rfl rfl rfl rfl rfl hnx (by omega) (by omega) rfl rfl rfl ?_)|(refine x_cpy tok rfl rfl rfl rfl rfl rfl rfl (map_hd _ _ (fun _=>rfl)) rfl (by omega) (by first|exact hcp1|exact hcp2) rfl ?_)|(refine is_slc ?_;refine x_slcRL tok rfl rfl rfl rfl rfl rfl rfl (by omega) (by omega) rfl ?_))|first|refine SR ?_|refine SK (I2 (fun hc=>?_) (fun hc=>?_))|refine SK (fun hc=>?_)|fail))<;>clear zc1 zc2 zc3 zc4)
  exact fin_ret [] rfl rfl (congrArg (fun z=>AV.tup [AV.sl false z,iA 0]) (by rw[hN,List.drop_zero,←hz3l,List.take_length])) rfl
 ·clear hne
  (refine eN Tryz.func191 Tryz.call191 fun F hF=>?_)
  (have zc1:=c2;have zc2:=c3;have zc3:=c4;have zc4:=c5;(repeat' (first|refine WZ ?_|refine SG (I2 (fun hc=>?_) (fun hc=>?_))|refine SG (fun hc=>?_)|(refine is_ops ?_;refine is_call ?_;refine SC ?_)|(refine is_ops ?_;first|(refine is_mks ?_;refine x_mks tok rfl rfl rfl rfl rfl rfl rfl rfl rfl rfl rfl rfl hnx (by omega) (by omega) rfl rfl rfl ?_)|(refine x_cpy tok rfl rfl rfl rfl rfl rfl rfl (map_hd _ _ (fun _=>rfl)) rfl (by omega) (by first|exact hcp1|exact hcp2) rfl ?_)|(refine is_slc ?_;refine x_slcRL tok rfl rfl rfl rfl rfl rfl rfl (by omega) (by omega) rfl ?_))|first|refine SR ?_|refine SK (I2 (fun hc=>?_) (fun hc=>?_))|refine SK (fun hc=>?_)|fail))<;>clear zc1 zc2 zc3 zc4)
  exact fin_ret [] rfl rfl (congrArg (fun z=>AV.tup [AV.sl false z,iA 0]) (by rw[hN,List.drop_zero,←hz3l,List.take_length])) rfl
theorem register_both (l:List Vh) (hn:l.length≤1000000) (a:Ag) (most:Int) (hlim:(a.lim.length:Int)=4) (hc3:a.cls≤3) (v:Vh):∃(l':List Vh) (e:Int),(e≠0→l'=[])∧l'.length≤l.length+1∧CallSim Tryz.prog 191 [slA vhA l,agA (agC a (min a.cls most)),vhA v] [] (.tup [slA vhA l',iA e]) []∧CallSim Tryz.prog 173 [slA vhA l,agA a,vhA v,iA most] [] (.tup [slA vhA l',iA e]) []:=by
 have hll:=map_len vhA l
 have hla:=map_len iA a.lim
 have p2:=vvalid_x l hn
 have c1:=find2_c l v.id hn
 have c2:=vvalid2_c l hn
 have c3:=count3_c l v.cls hn
 have p4:=vcount_c l v.cls hn
 have hcm:min a.cls most≤3:=by omega
 have hcl:min a.cls most≤a.cls:=by omega
 obtain⟨k,k1,k2,k3⟩:=place_ex l v.id
 have hpl:=fun hv=>has_place (l:=l) (id:=v.id) hv k1 k2 k3
 have p3:=vplace_c l v.id hn k k1 k2 k3
 have hreg:=fun hv h1 h2 h3 h4 htw h5 h6=>vregister_c l hn (agC a (min a.cls most)) hlim hcm v hv h1 h2 h3 h4 htw h5 h6 k k1 k2 k3
 have hcn:countV l v.cls≤1000000:=by
  have:countV l v.cls≤l.length:=List.length_filter_le _ _
  omega
 have p5:=fun h3 h4=>vlimit_c (agC a (min a.cls most)) v.cls h3 h4
 rw[show(agC a (min a.cls most)).lim=a.lim from rfl]at hreg p5
 rw[show(agC a (min a.cls most)).cls=min a.cls most from rfl]at hreg
 have hAG:agA (agC a (min a.cls most))= .agg [slA yA a.sec,iA a.rights,iA (min a.cls most),slA iA a.lim,iA a.req,iA a.ses,iA a.rate,iA a.burst]:=rfl
 rw[hAG]at*
 generalize hf:findV l v.id=fv at*
 generalize htw:hasV l v.id=tw at*
 generalize hok:vvF l=ok at*
 generalize countV l v.cls=cn at*
 cases ok
 ·refine⟨[],1,fun _=>rfl,by simp,?_,?_⟩
  ·clear hpl hreg p5
   (refine eN Tryz.func191 Tryz.call191 fun F hF=>?_)
   (have zc1:=p2;refine WW ?_;clear zc1)
   exact fr0
  ·clear hpl hreg p5
   (refine eN Tryz.func173 Tryz.call173 fun F hF=>?_)
   (have zc1:=c1;have zc2:=c2;refine WL ?_;clear zc1 zc2)
   exact fr0
 by_cases h1:0≤v.id∧v.id≤4294967295
 case neg=>
  refine⟨[],8,fun _=>rfl,by simp,?_,?_⟩
  ·clear hpl hreg p5
   by_cases g1:0≤v.id<;>((refine eN Tryz.func191 Tryz.call191 fun F hF=>?_);((have zc1:=p2;refine WW ?_;clear zc1));exact fr0)
  ·clear hpl hreg p5
   by_cases g1:0≤v.id<;>((refine eN Tryz.func173 Tryz.call173 fun F hF=>?_);((have zc1:=c1;have zc2:=c2;refine WL ?_;clear zc1 zc2));exact fr0)
 obtain⟨h1,h2⟩:=h1
 generalize hmm:min a.cls most=mm at*
 by_cases h3:0≤v.cls∧v.cls≤mm
 case neg=>
  refine⟨[],17,fun _=>rfl,by simp,?_,?_⟩
  ·clear hpl hreg p5
   by_cases g1:0≤v.cls<;>((refine eN Tryz.func191 Tryz.call191 fun F hF=>?_);((have zc1:=p2;refine WW ?_;clear zc1));exact fr0)
  ·clear hpl hreg p5
   subst hmm
   by_cases g1:0≤v.cls<;>((refine eN Tryz.func173 Tryz.call173 fun F hF=>?_);((have zc1:=c1;have zc2:=c2;refine WL ?_;clear zc1 zc2));exact fr0)
 obtain⟨h3,h4⟩:=h3
 have hpl:=hpl rfl
 have hp5:=p5 h3 (by omega)
 clear p5
 cases tw
 case true=>
  obtain⟨hk,hid⟩:=hpl.1 rfl
  have hy:=map_at vhA l k hk
  refine⟨[],11,fun _=>rfl,by simp,?_,?_⟩
  ·clear hreg hpl k2 k3
   generalize l.getD k default=x at*
   (refine eN Tryz.func191 Tryz.call191 fun F hF=>?_)
   (have zc1:=p2;have zc2:=p3;refine WW ?_;clear zc1 zc2)
   exact fr0
  ·clear hpl hreg
   subst hmm
   (refine eN Tryz.func173 Tryz.call173 fun F hF=>?_)
   (have zc1:=c1;have zc2:=c2;refine WL ?_;clear zc1 zc2)
   exact fr0
 have hne:∀hk:k<l.length,(l.getD k default).id≠v.id:=fun hk e=>by
  have:=hpl.2 ⟨hk,e⟩
  cases this
 clear hpl
 have hyl:=map_atI iA a.lim v.cls h3 (by omega)
 have hreg:=hreg rfl h1 h2 h3 h4 rfl
 generalize a.lim.getD v.cls.toNat default=lim at*
 by_cases h5:lim≤cn
 ·refine⟨[],14,fun _=>rfl,by simp,?_,?_⟩
  ·clear hreg k2 k3
   by_cases hk:k<l.length
   ·have hy:=map_at vhA l k hk
    have hne:=hne hk
    generalize l.getD k default=x at*
    (refine eN Tryz.func191 Tryz.call191 fun F hF=>?_)
    (have zc1:=p2;have zc2:=p3;have zc3:=p4;have zc4:=hp5;refine WW ?_;clear zc1 zc2 zc3 zc4)
    exact fr0
   ·clear hne
    (refine eN Tryz.func191 Tryz.call191 fun F hF=>?_)
    (have zc1:=p2;have zc2:=p3;have zc3:=p4;have zc4:=hp5;refine WW ?_;clear zc1 zc2 zc3 zc4)
    exact fr0
  ·clear hreg hne k2 k3
   subst hmm
   (refine eN Tryz.func173 Tryz.call173 fun F hF=>?_)
   (have zc1:=c1;have zc2:=c2;have zc3:=c3;refine WL ?_;clear zc1 zc2 zc3)
   exact fr0
 by_cases h6:l.length<8
 case neg=>
  refine⟨[],10,fun _=>rfl,by simp,?_,?_⟩
  ·clear hreg k2 k3
   by_cases hk:k<l.length
   ·have hy:=map_at vhA l k hk
    have hne:=hne hk
    generalize l.getD k default=x at*
    (refine eN Tryz.func191 Tryz.call191 fun F hF=>?_)
    (have zc1:=p2;have zc2:=p3;have zc3:=p4;have zc4:=hp5;refine WW ?_;clear zc1 zc2 zc3 zc4)
    exact fr0
   ·clear hne
    (refine eN Tryz.func191 Tryz.call191 fun F hF=>?_)
    (have zc1:=p2;have zc2:=p3;have zc3:=p4;have zc4:=hp5;refine WW ?_;clear zc1 zc2 zc3 zc4)
    exact fr0
  ·clear hreg hne k2 k3
   subst hmm
   (refine eN Tryz.func173 Tryz.call173 fun F hF=>?_)
   (have zc1:=c1;have zc2:=c2;have zc3:=c3;refine WL ?_;clear zc1 zc2 zc3)
   exact fr0
 refine⟨l.take k++v::l.drop k,0,fun h=>absurd rfl h,by simp;omega,hreg (by omega) h6,?_⟩
 clear hok htw hreg hne p2 p3 p4 hp5
 subst hmm
 (refine eN Tryz.func173 Tryz.call173 fun F hF=>?_)
 (have zc1:=c1;have zc2:=c2;have zc3:=c3;refine WL ?_;clear zc1 zc2 zc3)
 (refine sim_cntP (l.length+1) [6] [6] [0,6] [12,0,6] rfl (fun i T U zs=>(i≤k)∧zs=⟨(12,iA i)::T,U⟩) ?_;(conv=>whnf);refine⟨?_,?_,?_⟩)
 ·exact⟨Nat.zero_le _,rfl⟩
 ·rintro i st hi ⟨hik,rfl⟩
  by_cases hlt:i<k
  ·have hy:=map_at vhA l i (by omega)
   have hh:=k2 i hlt
   generalize l.getD i default=x at*
   (refine WW ?_)
   exact⟨by omega,rfl⟩
  ·obtain rfl:i=k:=by omega
   by_cases hkl:i<l.length
   ·have hy:=map_at vhA l i hkl
    have hh:=k3 hkl
    generalize l.getD i default=x at*
    (repeat' (first|refine WY ?_|refine SG (I2 (fun hc=>?_) (fun hc=>?_))|refine SG (fun hc=>?_)|(refine is_ops ?_;refine is_call ?_;fail)|(refine is_ops ?_;first|(refine is_app ?_;refine x_appnilK 1001 tok rfl rfl rfl rfl rfl rfl (map_hd _ _ (fun _=>rfl)) rfl rfl rfl (by simp;omega) rfl rfl rfl ?_)|(refine is_bsl ?_;refine x_lit tok rfl rfl ?_))|refine SB ?_|first|refine SR ?_|refine SK (I2 (fun hc=>?_) (fun hc=>?_))|refine SK (fun hc=>?_)|fail))
    exact fin_ret [] rfl rfl (congrArg (fun z=>AV.tup [AV.sl false z,iA 0]) (by rw[List.drop_zero,List.take_length];simp[List.map_take,List.map_drop,vhA,iA])) rfl
   ·(repeat' (first|refine WY ?_|refine SG (I2 (fun hc=>?_) (fun hc=>?_))|refine SG (fun hc=>?_)|(refine is_ops ?_;refine is_call ?_;fail)|(refine is_ops ?_;first|(refine is_app ?_;refine x_appnilK 1001 tok rfl rfl rfl rfl rfl rfl (map_hd _ _ (fun _=>rfl)) rfl rfl rfl (by simp;omega) rfl rfl rfl ?_)|(refine is_bsl ?_;refine x_lit tok rfl rfl ?_))|refine SB ?_|first|refine SR ?_|refine SK (I2 (fun hc=>?_) (fun hc=>?_))|refine SK (fun hc=>?_)|fail))
    exact fin_ret [] rfl rfl (congrArg (fun z=>AV.tup [AV.sl false z,iA 0]) (by rw[List.drop_zero,List.take_length];simp[List.map_take,List.map_drop,vhA,iA])) rfl
 ·rintro st ⟨hik,rfl⟩
  exfalso;omega
end
section
section
variable {b:Frame} {a:Act} {k:List Item} {cs:List Frame} {w:World} {P:Program}
end
section
variable {F:Fence} {n:Nat} {P:Program} {Q:Exit→Act→World→Prop} {a:Act} {w:World}
end
section
variable {P:Program} {K0:List Nat} {F:Fr K0} {m:Nat} {Q:Exit→St→Prop} {st:St}
theorem sim_two {c:Code} (K ts:List Nat) (st0 st1 st2:St) (hK:K0.all (K.contains ·)=true) (he:restr K ts st=st0)
  (h0:Sim P F m c st0 (fun e s=>match e with| .normal=>restr K ts s=st1|e=>Q e s))
  (h1:Sim P F m c st1 (fun e s=>match e with| .normal=>restr K ts s=st2|e=>Q e s))
  (h2:Sim P F m c st2 (fun e s=>match e with| .normal=>False|e=>Q e s)):Sim P F m (.loop c) st Q:=by
 refine sim_loop_r (fun n s=>(n=2∧s=st0)∨(n=1∧s=st1)∨(n=0∧s=st2)) 2 K ts hK (.inl ⟨rfl,he⟩) ?_
 rintro n s (⟨rfl,rfl⟩|⟨rfl,rfl⟩|⟨rfl,rfl⟩)
 ·refine⟨fun a w H=>Code.wpIn_mono (fun e a' w' ⟨s,q1,q2⟩=>?_) (h0.run a w H)⟩
  cases e with
  |normal=>exact⟨s,⟨1,by omega,.inr (.inl ⟨rfl,q1⟩)⟩,q2⟩
  |_=>exact⟨s,q1,q2⟩
 ·refine⟨fun a w H=>Code.wpIn_mono (fun e a' w' ⟨s,q1,q2⟩=>?_) (h1.run a w H)⟩
  cases e with
  |normal=>exact⟨s,⟨0,by omega,.inr (.inr ⟨rfl,q1⟩)⟩,q2⟩
  |_=>exact⟨s,q1,q2⟩
 ·refine⟨fun a w H=>Code.wpIn_mono (fun e a' w' ⟨s,q1,q2⟩=>?_) (h2.run a w H)⟩
  cases e with
  |normal=>exact q1.elim
  |_=>exact⟨s,q1,q2⟩
end
end
section
set_option maxRecDepth 4000
set_option maxHeartbeats 2000000
theorem grow_c (N:Nat) (h1:1≤N) (h2:N≤1000000):CallSim Tryz.prog 220 [.s (.slice none 0 0),iA N] [] (.ref 1001 0 0) [(1001,.arr 2 [] true)]:=by
 have hnx:(N:Int)-(0-0)=(N:Int):=by omega
 have hn3:(N:Int)-(0-((0:Nat):Int))=(N:Int):=by omega
 (refine eN Tryz.func220 Tryz.call220 fun F hF=>?_)
 (repeat' (first|refine WS ?_|refine SG (I2 (fun hc=>?_) (fun hc=>?_))|refine SG (fun hc=>?_)|(refine is_ops ?_;refine is_call ?_;fail)|(refine is_ops ?_;first|(refine x_q (stp_capNil tok rfl rfl rfl) rfl ?_)|(refine is_slc ?_;refine x_q (stp_slcNil tok rfl rfl rfl rfl rfl) rfl ?_)|(refine x_appmk tok rfl rfl rfl rfl rfl rfl rfl rfl rfl rfl rfl rfl rfl rfl (by first|exact hnx|exact hn3) h1 (by omega) rfl rfl rfl ?_)|(refine is_slc ?_;refine x_slcR0 tok rfl rfl rfl rfl rfl rfl rfl rfl ?_))|(first|refine sim_trunc 0 22 1001 rfl rfl rfl ?_|first|refine SR ?_|refine SK (I2 (fun hc=>?_) (fun hc=>?_))|refine SK (fun hc=>?_))|fail))
 exact fin_own [1001] rfl rfl rfl rfl
theorem grow0_c:CallSim Tryz.prog 220 [.s (.slice none 0 0),iA 0] [] (.s (.slice none 0 0)) []:=by
 (refine eN Tryz.func220 Tryz.call220 fun F hF=>?_)
 (repeat' (first|refine WZ ?_|refine SG (I2 (fun hc=>?_) (fun hc=>?_))|refine SG (fun hc=>?_)|(refine is_ops ?_;refine is_call ?_;fail)|(refine is_ops ?_;first|(refine x_q (stp_capNil tok rfl rfl rfl) rfl ?_))|first|refine SR ?_|refine SK (I2 (fun hc=>?_) (fun hc=>?_))|refine SK (fun hc=>?_)|fail))
 exact fin_own [] rfl rfl rfl rfl
theorem concat_c (a b:List Vh) (ha:a.length≤1000) (hb:b.length≤1000):CallSim Tryz.prog 193 [.sl false [slA vhA a,slA vhA b]] [] (slA vhA (a++b)) []:=by
 have hla:=map_len vhA a
 have hlb:=map_len vhA b
 rw[show slA vhA (a++b)= .sl false (a.map vhA++b.map vhA) by unfold slA;rw[List.map_append]]
 have hsa:slA vhA a= .sl false (a.map vhA):=rfl
 have hsb:slA vhA b= .sl false (b.map vhA):=rfl
 rw[hsa,hsb]
 have hhA:∀y,(a.map vhA)[0]? =some y→y.cells.length=2:=map_hd _ _ (fun _=>rfl)
 have hhB:∀y,(b.map vhA)[0]? =some y→y.cells.length=2:=map_hd _ _ (fun _=>rfl)
 generalize a.map vhA=A at*
 generalize b.map vhA=B at*
 clear hsa hsb
 have hyA:([AV.sl false A,.sl false B]:List AV)[(0:Int).toNat]? =some (.sl false A):=rfl
 have hyB:([AV.sl false A,.sl false B]:List AV)[(0+1:Int).toNat]? =some (.sl false B):=rfl
 have hl2:([AV.sl false A,.sl false B]:List AV).length=2:=rfl
 generalize [AV.sl false A,.sl false B]=X at*
 (refine eN Tryz.func193 Tryz.call193 fun F hF=>?_)
 (refine WW ?_)
 refine sim_two [] [3,11,0,9,10] ⟨[(3,iA 0),(11,iA 0),(0,.sl false X),(9,.sl false X),(10,iA X.length)],[]⟩ ⟨[(3,iA (0+(A.length:Int))),(11,iA (0+1)),(0,.sl false X),(9,.sl false X),(10,iA X.length)],[]⟩ ⟨[(3,iA (0+(A.length:Int)+(B.length:Int))),(11,iA (0+1+1)),(0,.sl false X),(9,.sl false X),(10,iA X.length)],[]⟩ rfl rfl ?_ ?_ ?_
 ·(refine WW ?_)
  rfl
 ·(refine WW ?_)
  rfl
 by_cases hN:A.length+B.length=0
 ·have c0:=grow0_c
  rw[show iA 0=iA (0+(A.length:Int)+(B.length:Int)) by rw[show(0:Int)+(A.length:Int)+(B.length:Int)=0 by omega]]at c0
  (repeat' (first|refine WZ ?_|refine SG (I2 (fun hc=>?_) (fun hc=>?_))|refine SG (fun hc=>?_)|(refine is_ops ?_;refine is_call ?_;(refine is_fn 220 ?_;first|refine x_q (stp_callS c0 rfl rfl rfl rfl rfl) rfl ?_|refine x_w (stp_callS c0 rfl rfl rfl rfl rfl) rfl rfl rfl ?_|refine x_d (stp_callS c0 rfl rfl rfl rfl rfl) rfl rfl rfl ?_))|(refine is_ops ?_;first|refine SM ?_)|first|refine SR ?_|refine SK (I2 (fun hc=>?_) (fun hc=>?_))|refine SK (fun hc=>?_)|fail))
  refine sim_virt 6 1001 2 rfl rfl rfl ?_
  refine sim_two [1001] [6,27,25,26] ⟨[(6,.ref 1001 0 0),(27,iA 0),(25,.sl false X),(26,iA X.length)],[(1001,.arr 2 [] true)]⟩ ⟨[(6,.ref 1001 0 A.length),(27,iA (0+1)),(25,.sl false X),(26,iA X.length)],[(1001,.arr 2 A false)]⟩ ⟨[(6,.ref 1001 0 (A++B).length),(27,iA (0+1+1)),(25,.sl false X),(26,iA X.length)],[(1001,.arr 2 (A++B) true)]⟩ rfl rfl ?_ ?_ ?_
  ·(repeat' (first|refine WZ ?_|refine SG (I2 (fun hc=>?_) (fun hc=>?_))|refine SG (fun hc=>?_)|(refine is_ops ?_;refine is_call ?_;fail)|(refine is_ops ?_;first|(refine is_app ?_;first|refine x_appref0 tok rfl rfl rfl rfl rfl rfl rfl hhA rfl rfl rfl (by omega) rfl ?_|refine x_appref tok rfl rfl rfl rfl rfl rfl rfl rfl rfl rfl rfl hhB (by omega) rfl ?_))|first|refine SR ?_|refine SK (I2 (fun hc=>?_) (fun hc=>?_))|refine SK (fun hc=>?_)|fail))
   rfl
  ·(repeat' (first|refine WZ ?_|refine SG (I2 (fun hc=>?_) (fun hc=>?_))|refine SG (fun hc=>?_)|(refine is_ops ?_;refine is_call ?_;fail)|(refine is_ops ?_;first|(refine is_app ?_;first|refine x_appref0 tok rfl rfl rfl rfl rfl rfl rfl hhA rfl rfl rfl (by omega) rfl ?_|refine x_appref tok rfl rfl rfl rfl rfl rfl rfl rfl rfl rfl rfl hhB (by omega) rfl ?_))|first|refine SR ?_|refine SK (I2 (fun hc=>?_) (fun hc=>?_))|refine SK (fun hc=>?_)|fail))
   rfl
  ·(refine WW ?_)
   exact fin_ret [] rfl rfl (congrArg (AV.sl false) (by rw[List.drop_zero,List.take_length])) rfl
 ·have c0:=grow_c (A.length+B.length) (by omega) (by omega)
  rw[show((A.length+B.length:Nat):Int)=0+(A.length:Int)+(B.length:Int) by omega]at c0
  (repeat' (first|refine WZ ?_|refine SG (I2 (fun hc=>?_) (fun hc=>?_))|refine SG (fun hc=>?_)|(refine is_ops ?_;refine is_call ?_;(refine is_fn 220 ?_;first|refine x_q (stp_callS c0 rfl rfl rfl rfl rfl) rfl ?_|refine x_w (stp_callS c0 rfl rfl rfl rfl rfl) rfl rfl rfl ?_|refine x_d (stp_callS c0 rfl rfl rfl rfl rfl) rfl rfl rfl ?_))|(refine is_ops ?_;first|refine SM ?_)|first|refine SR ?_|refine SK (I2 (fun hc=>?_) (fun hc=>?_))|refine SK (fun hc=>?_)|fail))
  refine sim_two [1001] [6,27,25,26] ⟨[(6,.ref 1001 0 0),(27,iA 0),(25,.sl false X),(26,iA X.length)],[(1001,.arr 2 [] true)]⟩ ⟨[(6,.ref 1001 0 A.length),(27,iA (0+1)),(25,.sl false X),(26,iA X.length)],[(1001,.arr 2 A false)]⟩ ⟨[(6,.ref 1001 0 (A++B).length),(27,iA (0+1+1)),(25,.sl false X),(26,iA X.length)],[(1001,.arr 2 (A++B) true)]⟩ rfl rfl ?_ ?_ ?_
  ·(repeat' (first|refine WZ ?_|refine SG (I2 (fun hc=>?_) (fun hc=>?_))|refine SG (fun hc=>?_)|(refine is_ops ?_;refine is_call ?_;fail)|(refine is_ops ?_;first|(refine is_app ?_;first|refine x_appref0 tok rfl rfl rfl rfl rfl rfl rfl hhA rfl rfl rfl (by omega) rfl ?_|refine x_appref tok rfl rfl rfl rfl rfl rfl rfl rfl rfl rfl rfl hhB (by omega) rfl ?_))|first|refine SR ?_|refine SK (I2 (fun hc=>?_) (fun hc=>?_))|refine SK (fun hc=>?_)|fail))
   rfl
  ·(repeat' (first|refine WZ ?_|refine SG (I2 (fun hc=>?_) (fun hc=>?_))|refine SG (fun hc=>?_)|(refine is_ops ?_;refine is_call ?_;fail)|(refine is_ops ?_;first|(refine is_app ?_;first|refine x_appref0 tok rfl rfl rfl rfl rfl rfl rfl hhA rfl rfl rfl (by omega) rfl ?_|refine x_appref tok rfl rfl rfl rfl rfl rfl rfl rfl rfl rfl rfl hhB (by omega) rfl ?_))|first|refine SR ?_|refine SK (I2 (fun hc=>?_) (fun hc=>?_))|refine SK (fun hc=>?_)|fail))
   rfl
  ·(refine WW ?_)
   exact fin_ret [] rfl rfl (congrArg (AV.sl false) (by rw[List.drop_zero,List.take_length])) rfl
def rmV (l:List Vh) (id:Int):List Vh:=l.filter fun v=>decide (v.id≠id)
theorem rmV_snoc (l:List Vh) (x:Vh) (id:Int):rmV (l++[x]) id=rmV l id++(if x.id=id then []else [x]):=by
 unfold rmV
 rw[List.filter_append]
 congr 1
 by_cases h:x.id=id
 ·simp[h]
 ·simp[h]
theorem rmV_le (l:List Vh) (id:Int):(rmV l id).length≤l.length:=List.length_filter_le _ _
theorem rmV_none {l:List Vh} {id:Int} (h:hasV l id=false):rmV l id=l:=by
 unfold rmV
 refine List.filter_eq_self.2 fun x hx=>decide_eq_true fun e=>?_
 have:=List.any_eq_false.1 h x hx
 exact this (by rw[beq_iff_eq];exact e)
theorem rmV_some {l:List Vh} {id:Int} (hv:vvF l=true) {k:Nat} (hk:k<l.length) (he:(l.getD k default).id=id):rmV l id=l.take k++l.drop (k+1):=by
 have e0:l.getD k default=l[k]:=by simp[List.getD,hk]
 have e1:l=l.take k++l[k]::l.drop (k+1):=by rw[List.getElem_cons_drop,List.take_append_drop]
 have hlt:=vv_lt hv
 have h1:rmV (l.take k) id=l.take k:=by
  refine List.filter_eq_self.2 fun x hx=>decide_eq_true fun e=>?_
  obtain⟨i,hi,rfl⟩:=List.getElem_of_mem hx
  simp only[List.length_take]at hi
  have q1:=hlt k hk i (by omega)
  have q2:l.getD i default=l[i]:=by simp[List.getD,show i<l.length by omega]
  rw[List.getElem_take]at e
  rw[q2,e,he]at q1
  omega
 have h2:rmV (l.drop (k+1)) id=l.drop (k+1):=by
  refine List.filter_eq_self.2 fun x hx=>decide_eq_true fun e=>?_
  obtain⟨i,hi,rfl⟩:=List.getElem_of_mem hx
  simp only[List.length_drop]at hi
  have q1:=hlt (k+1+i) (by omega) k (by omega)
  have q2:l.getD (k+1+i) default=l[k+1+i]:=by simp[List.getD,show k+1+i<l.length by omega]
  rw[List.getElem_drop]at e
  rw[q2,e,he]at q1
  omega
 conv=>lhs;rw[e1]
 unfold rmV at h1 h2⊢
 rw[List.filter_append,List.filter_cons,if_neg (by rw[←e0,he];simp),h1,h2]
theorem remove2_c (l:List Vh) (hn:l.length≤1000000) (id:Int):CallSim Tryz.prog 174 [slA vhA l,iA id] [] (if vvF l=true then(if(rmV l id).length=l.length then .tup [.sl false [],iA 12]else .tup [slA vhA (rmV l id),iA 0])else .tup [.sl false [],iA 1]) []:=by
 have hll:=map_len vhA l
 have c2:=vvalid2_c l hn
 cases hv:vvF l with
 |false=>
  rw[hv]at c2
  rw[if_neg Bool.false_ne_true]
  (refine eN Tryz.func174 Tryz.call174 fun F hF=>?_)
  (have zc1:=c2;refine WL ?_;clear zc1)
  exact fr0
 |true=>
 rw[hv]at c2
 rw[if_pos rfl]
 have hle:=rmV_le l id
 have hlm:=map_len vhA (rmV l id)
 (refine eN Tryz.func174 Tryz.call174 fun F hF=>?_)
 (have zc1:=c2;refine WL ?_;clear zc1)
 refine sim_virt 6 1001 2 rfl rfl rfl ?_
 (refine sim_rng (l) [1001] [] [0,1,12,13] [6,14,0,1,12,13] rfl (fun i pre T U=>⟨(6,.ref 1001 0 ((rmV pre id).map vhA).length)::(14,iA i)::T,(1001,.arr 2 ((rmV pre id).map vhA) true)::U⟩) ?_;(conv=>whnf);refine⟨by rfl,?_,?_⟩)
 ·intro i pre x post hx hi
  have hy:=rng_at vhA hx hi
  have hlt:=rng_lt hx hi
  have hle:=rmV_le pre id
  have hlm:=map_len vhA (rmV pre id)
  have e:(rmV (pre++[x]) id).map vhA=(rmV pre id).map vhA++(if x.id=id then []else [x]).map vhA:=by rw[rmV_snoc,List.map_append]
  rw[e]
  clear hx e
  generalize (rmV pre id).map vhA=R at*
  by_cases h:x.id=id
  ·rw[if_pos h]
   (refine WW ?_)
   rw[List.map_nil,List.append_nil]
   rfl
  ·rw[if_neg h]
   (refine WW ?_)
   rfl
 ·by_cases h:(rmV l id).length=l.length
  ·rw[if_pos h]
   (refine WW ?_)
   exact fr0
  ·rw[if_neg h]
   (refine WW ?_)
   exact fin_ret [] rfl rfl (congrArg (fun z=>AV.tup [AV.sl false z,iA 0]) (by rw[List.drop_zero,List.take_length])) rfl
theorem remove_both (l:List Vh) (hn:l.length≤1000) (id:Int):∃(l':List Vh) (e:Int),(e≠0→l'=[])∧l'.length≤l.length∧CallSim Tryz.prog 158 [slA vhA l,iA id] [] (.tup [slA vhA l',iA e]) []∧CallSim Tryz.prog 174 [slA vhA l,iA id] [] (.tup [slA vhA l',iA e]) []:=by
 have hll:=map_len vhA l
 have p2:=vvalid_x l (by omega)
 have c:=remove2_c l (by omega) id
 obtain⟨k,k1,k2,k3⟩:=place_ex l id
 have p3:=vplace_c l id (by omega) k k1 k2 k3
 cases hv:vvF l with
 |false=>
  rw[hv]at p2 c
  rw[if_neg Bool.false_ne_true]at c
  refine⟨[],1,fun _=>rfl,by simp,?_,c⟩
  (refine eN Tryz.func158 Tryz.call158 fun F hF=>?_)
  (have zc1:=p2;refine WL ?_;clear zc1)
  exact fr0
 |true=>
 have hpl:=has_place (id:=id) hv k1 k2 k3
 rw[hv]at p2 c
 rw[if_pos rfl]at c
 cases hh:hasV l id with
 | false=>
  rw[if_pos (by rw[rmV_none hh])]at c
  refine⟨[],12,fun _=>rfl,by simp,?_,c⟩
  have hne:∀hk:k<l.length,(l.getD k default).id≠id:=fun hk e=>by
   rw[hpl.2 ⟨hk,e⟩]at hh
   cases hh
  clear hpl k2 k3 c
  by_cases hk:k<l.length
  ·have hy:=map_at vhA l k hk
   have hne:=hne hk
   generalize l.getD k default=x at*
   (refine eN Tryz.func158 Tryz.call158 fun F hF=>?_)
   (have zc1:=p2;have zc2:=p3;refine WL ?_;clear zc1 zc2)
   exact fr0
  ·clear hne
   (refine eN Tryz.func158 Tryz.call158 fun F hF=>?_)
   (have zc1:=p2;have zc2:=p3;refine WL ?_;clear zc1 zc2)
   exact fr0
 |true=>
  obtain⟨hk,he⟩:=hpl.1 hh
  have er:=rmV_some hv hk he
  have hlen:(rmV l id).length=l.length-1:=by rw[er];simp;omega
  rw[if_neg (by omega)]at c
  refine⟨rmV l id,0,fun h=>absurd rfl h,by omega,?_,c⟩
  have c4:=concat_c (l.take (k:Int).toNat) (l.drop ((k:Int)+1).toNat) (by simp;omega) (by simp;omega)
  rw[show l.take (k:Int).toNat++l.drop ((k:Int)+1).toNat=rmV l id by rw[er];congr 1]at c4
  have hy:=map_at vhA l k hk
  clear hpl k2 k3 c er hlen
  generalize rmV l id=l' at*
  generalize l.getD k default=x at*
  (refine eN Tryz.func158 Tryz.call158 fun F hF=>?_)
  (have zc1:=p2;have zc2:=p3;have zc3:=c4;refine WL ?_;clear zc1 zc2 zc3)
  exact fr0
end
section
set_option maxRecDepth 4000
set_option maxHeartbeats 1000000
theorem nus_c (t:Tk):CallSim Tryz.prog 217 [tkA t] [] (bA (!t.used)) []:=by
 obtain⟨u,a,b,c,d,e⟩:=t
 cases u with
 |true=>
  rw[show tkA ⟨true,a,b,c,d,e⟩= .agg [bA true,slA yA a,iA b,iA c,iA d,iA e]from rfl]
  (refine eN Tryz.func217 Tryz.call217 fun F hF=>?_)
  (refine WW ?_)
  exact fr0
 |false=>
  rw[show tkA ⟨false,a,b,c,d,e⟩= .agg [bA false,slA yA a,iA b,iA c,iA d,iA e]from rfl]
  (refine eN Tryz.func217 Tryz.call217 fun F hF=>?_)
  (refine WW ?_)
  exact fr0
theorem ixT_c (l:List Tk) (hn:l.length≤1000000) (k:Nat) (hk:k<l.length) (h1:∀i,i<k→(l.getD i default).used=true) (h2:(l.getD k default).used=false):CallSim Tryz.prog 216 [slA tkA l,.fn 217 []] [] (iA k) []:=by
 have hl:=map_len tkA l
 (refine eN Tryz.func216 Tryz.call216 fun F hF=>?_)
 (refine WW ?_)
 (refine sim_cntP (l.length) [] [] [0,1,7] [8,0,1,7] rfl (fun i T U zs=>(i≤k)∧zs=⟨(8,iA i)::T,U⟩) ?_;(conv=>whnf);refine⟨?_,?_,?_⟩)
 ·exact⟨Nat.zero_le _,rfl⟩
 ·rintro i st hi ⟨hik,rfl⟩
  have hy:=map_at tkA l i hi
  have c:=nus_c (l.getD i default)
  by_cases hie:i=k
  ·subst hie
   rw[h2]at c
   generalize l.getD i default=t at*
   (have zc1:=c;refine WW ?_;clear zc1)
   exact fr0
  ·rw[h1 i (by omega)]at c
   generalize l.getD i default=t at*
   (have zc1:=c;refine WW ?_;clear zc1)
   exact⟨by omega,rfl⟩
 ·rintro st ⟨hik,rfl⟩
  exfalso;omega
def unF (life now:Int):Int:=if 0<life then now+life else 0
theorem tset_eq (l:List Tk) (k:Nat) (t:Tk) (n:Nat) (hn:n=l.length):slA tkA (l.set k t)= .sl false (((l.map tkA).set k (tkA t)).take n):=by
 rw[←List.map_set,List.take_of_length_le (by simp;omega)];rfl
def T0K (l o:List Tk):Prop:=(l.getD 0 default).used=true→(l.getD 0 default).par= -1→o.getD 0 default=l.getD 0 default
def rvAt (l:List Tk) (s:Int) (j:Nat):Tk:=if deF l j s=true then frT else l.getD j default
def rvS (l:List Tk) (s:Int) (n:Nat):List Tk:=(List.range l.length).map fun j=>if j<n then rvAt l s j else l.getD j default
theorem rvS_len (l:List Tk) (s:Int) (n:Nat):(rvS l s n).length=l.length:=by simp[rvS]
theorem rvS_zero (l:List Tk) (s:Int):rvS l s 0=l:=by
 apply List.ext_getElem?
 intro i
 unfold rvS
 rw[List.getElem?_map]
 by_cases h:i<l.length
 ·rw[List.getElem?_range h];simp[h,List.getD]
 ·rw[List.getElem?_eq_none (l:=List.range l.length) (by simp;omega),List.getElem?_eq_none (by omega)];rfl
theorem rvS_at (l:List Tk) (s:Int) (n:Nat) (h:n<l.length):(rvS l s n)[n]? =some (l.getD n default):=by
 unfold rvS
 rw[List.getElem?_map,List.getElem?_range h]
 simp
theorem rvS_succ (l:List Tk) (s:Int) (n:Nat) (h:n<l.length):rvS l s (n+1)=(rvS l s n).set n (rvAt l s n):=by
 apply List.ext_getElem?
 intro i
 rw[List.getElem?_set]
 unfold rvS
 rw[List.getElem?_map,List.getElem?_map,List.length_map,List.length_range]
 by_cases hi:i<l.length
 ·rw[List.getElem?_range hi]
  by_cases e:n=i
  ·subst e
   rw[if_pos rfl,if_pos hi]
   simp
  ·rw[if_neg e]
   simp only[Option.map_some]
   by_cases h1:i<n
   ·rw[if_pos h1,if_pos (by omega)]
   ·rw[if_neg h1,if_neg (by omega)]
 ·rw[List.getElem?_eq_none (l:=List.range l.length) (by simp;omega),if_neg (by omega)]
  rfl
theorem trevoke_c (l:List Tk) (hb:TkB l) (hv:tvF l=true) (s:Int) (hs:1≤s∧s<8) (h8:l.length=8) (hu:(l.getD s.toNat default).used=true):CallSim Tryz.prog 155 [slA tkA l,iA s] [] (.tup [slA tkA (rvS l s l.length),iA 0]) []:=by
 have c1:=tvalid_c l
 rw[hv]at c1
 have c2:=tclone_own l hb
 have hll:=map_len tkA l
 have hy:=map_atI tkA l s (by omega) (by omega)
 have hd:=fun j=>desc_c l j s
 have fc:=free_c
 generalize l.getD s.toNat default=t at*
 obtain⟨u,a1,a2,a3,a4,a5⟩:=t
 dsimp only at hu
 subst hu
 rw[show tkA ⟨true,a1,a2,a3,a4,a5⟩= .agg [bA true,slA yA a1,iA a2,iA a3,iA a4,iA a5]from rfl]at hy
 (refine eN Tryz.func155 Tryz.call155 fun F hF=>?_)
 (have zc1:=c1;have zc2:=c2;refine WW ?_;clear zc1 zc2)
 (refine sim_cnt (l.length) [1001] [] [0,1,6,26] [27,0,1,6,26] rfl (fun i T U=>⟨(27,iA i)::T,(1001,.arr 6 ((rvS l s i).map tkA) false)::U⟩) ?_;(conv=>whnf);refine⟨by(rw[rvS_zero];rfl),?_,?_⟩)
 ·intro i hi
  have hyi:((rvS l s i).map tkA)[i]? =some (tkA (l.getD i default)):=by rw[List.getElem?_map,rvS_at l s i hi];rfl
  have c3:=hd i
  have hrl:i<((rvS l s i).map tkA).length:=by rw[List.length_map,rvS_len];exact hi
  rw[rvS_succ l s i hi,List.map_set]
  have hset:(l.getD i default)=(l.getD i default):=rfl
  have hsame:((rvS l s i).map tkA).set i (tkA (l.getD i default))=(rvS l s i).map tkA:=by
   rw[List.getElem?_eq_some_iff]at hyi
   obtain⟨h,e⟩:=hyi
   rw[←e,List.set_getElem_self]
  unfold rvAt
  cases hde:deF l i s with
  |true=>
   rw[hde]at c3
   rw[if_pos rfl]
   generalize (rvS l s i).map tkA=xs at*
   generalize l.getD i default=ti at*
   clear hsame hset hd c1 c2
   (have zc1:=c3;have zc2:=fc;refine WW ?_;clear zc1 zc2)
   rfl
  |false=>
   rw[hde]at c3
   rw[if_neg Bool.false_ne_true,hsame]
   generalize (rvS l s i).map tkA=xs at*
   clear hsame hset hd c1 c2 fc
   (have zc1:=c3;refine WW ?_;clear zc1)
   rfl
 ·have hle:=rvS_len l s l.length
  rw[show slA tkA (rvS l s l.length)= .sl false (((rvS l s l.length).map tkA).take (l.map tkA).length) by rw[List.take_of_length_le (by simp[hle])];rfl]
  generalize (rvS l s l.length).map tkA=xs at*
  (refine WW ?_)
  exact fr0
end
end Av
end Go.Proofs.YtaikgchmpieooaaGreat
