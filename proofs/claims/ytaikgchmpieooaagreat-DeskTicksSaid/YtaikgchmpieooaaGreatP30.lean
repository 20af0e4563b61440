/- Part 30: contracts of the functions, and what they rest upon. -/
import Derived.Test.YtaikgchmpieooaaGreatP29
import Derived.Test.YtaikgchmpieooaaGreatP13
import Derived.WalkKit
import Derived.ProofKit
import Derived.Test.YtaikgchmpieooaaGreatP22
namespace Go.Proofs.YtaikgchmpieooaaGreat
namespace Av
set_option linter.unusedSimpArgs false
set_option linter.unusedVariables false
section
set_option maxRecDepth 4000
set_option maxHeartbeats 1000000
def ldF (l:List Tk):Nat→Int→Int→Bool
 |0,_,_=>false
 |n+1,f,t=>usF l f&&(f==t||ldF l n (l.getD f.toNat default).par t)
theorem ldF_succ (l:List Tk) (n:Nat) (f t:Int):ldF l (n+1) f t=(usF l f&&(f==t||ldF l n (l.getD f.toNat default).par t)):=rfl
theorem ldF_ch (l:List Tk) (t:Int):∀(n:Nat) (f:Int),ldF l n f t=(chF l n f).any fun a=>a==t
 |0,_=>rfl
 |n+1,f=>by
  rw[ldF_succ,chF_succ]
  cases usF l f
  ·rfl
  ·rw[cond_true,List.any_cons,ldF_ch l t n,Bool.true_and]
theorem leads_c (l:List Tk) (f t:Int) (hn:l.length≤1000000):CallSim Tryz.prog 180 [slA tkA l,iA f,iA t] [] (bA (ldF l (l.length+1) f t)) []:=by
 have hl:=map_len tkA l
 generalize hR:ldF l (l.length+1) f t=R
 (refine eN Tryz.func180 Tryz.call180 fun F hF=>?_)
 (refine WW ?_)
 (refine sim_cntP (l.length+1) [] [] [0,2] [1,7,0,2] rfl (fun i T U zs=>∃(a:Int),(R=ldF l (l.length+1-i) a t)∧zs=⟨(1,iA a)::(7,iA i)::T,U⟩) ?_;(conv=>whnf);refine⟨?_,?_,?_⟩)
 ·exact⟨f,hR.symm,rfl⟩
 ·rintro i st hi ⟨a,hp,rfl⟩
  obtain⟨k,hk⟩:∃k,l.length+1-i=k+1:=⟨l.length-i,by omega⟩
  rw[hk,ldF_succ l k a t]at hp
  have hk':l.length+1-(i+1)=k:=by omega
  unfold usF at hp
  by_cases h0:0≤a
  ·by_cases h1:a<l.length
   ·have hy:=map_atI tkA l a h0 h1
    rw[decide_eq_true ⟨h0,h1⟩,Bool.true_and]at hp
    generalize l.getD a.toNat default=x at*
    cases hu:x.used
    ·rw[hu,Bool.false_and]at hp
     rw[show tkA x=tkU false x by unfold tkA tkU;rw[hu]]at hy
     unfold tkU at hy
     rw[hp]
     (refine WW ?_)
     exact fr0
    ·rw[hu,Bool.true_and]at hp
     rw[show tkA x=tkU true x by unfold tkA tkU;rw[hu]]at hy
     unfold tkU at hy
     by_cases ht:a=t
     ·rw[show(a==t)=true by simpa using ht,Bool.true_or]at hp
      rw[hp]
      (refine WW ?_)
      exact fr0
     ·rw[show(a==t)=false by simpa using ht,Bool.false_or]at hp
      (refine WW ?_)
      exact⟨x.par,by rw[hk'];exact hp,by rw[Int.natCast_succ];rfl⟩
   ·rw[decide_eq_false (by omega)]at hp
    simp only[Bool.false_and]at hp
    rw[hp]
    (refine WW ?_)
    exact fr0
  ·rw[decide_eq_false (by omega)]at hp
   simp only[Bool.false_and]at hp
   rw[hp]
   (refine WW ?_)
   exact fr0
 ·rintro st ⟨a,hp,rfl⟩
  rw[Nat.sub_self]at hp
  rw[hp]
  (refine WW ?_)
  exact fr0
def tok2F (l:List Tk) (s:Nat):Bool:=if(l.getD s default).used=true then soF (l.getD s default)&&ldF l (l.length+1) s 0&&(decide (s=0)||(wiF (l.getD s default).rights (l.getD (l.getD s default).par.toNat default).rights&&decide ((l.getD s default).cls≤(l.getD (l.getD s default).par.toNat default).cls)&& !laF (l.getD s default).til (l.getD (l.getD s default).par.toNat default).til))
 else if2F (l.getD s default)
def root2F (t:Tk):Bool:=t.used&&decide (t.par= -1∧t.til=0)
def tv2F (l:List Tk):Bool:=decide ((l.length:Int)=8)&&(root2F (l.getD 0 default)&&(List.range l.length).all fun i=>tok2F l i)
theorem tv2F_no {l:List Tk} {i:Nat} (hi:i<l.length) (h:tok2F l i=false):tv2F l=false:=by
 unfold tv2F
 have:((List.range l.length).all fun i=>tok2F l i)=false:=List.all_eq_false.2 ⟨i,List.mem_range.2 hi,by simp[h]⟩
 rw[this];simp
theorem ldF_par {l:List Tk} {n:Nat} {s:Int} (h:ldF l (n+1) s 0=true) (h0:s≠0):usF l (l.getD s.toNat default).par=true:=by
 rw[ldF_succ l n s 0]at h
 have:(s==0)=false:=by simpa using h0
 rw[this,Bool.false_or,Bool.and_eq_true]at h
 cases n with
 |zero=>exact absurd h.2 (by simp[ldF])
 |succ n=>
  have:=h.2
  rw[ldF_succ,Bool.and_eq_true]at this
  exact this.1
theorem tvalid2_c (l:List Tk):CallSim Tryz.prog 202 [slA tkA l] [] (bA (tv2F l)) []:=by
 have hll:=map_len tkA l
 by_cases h8:(l.length:Int)=8
 case neg=>
  rw[show tv2F l=false by unfold tv2F;rw[decide_eq_false h8];rfl]
  (refine eN Tryz.func202 Tryz.call202 fun F hF=>?_)
  (refine WW ?_)
  exact fr0
 have hy0:=map_atI tkA l 0 (by omega) (by omega)
 change (l.map tkA)[0]? =some (tkA (l.getD 0 default))at hy0
 cases hr:root2F (l.getD 0 default)
 ·rw [show tv2F l=false by unfold tv2F;rw[hr];simp]
  unfold root2F at hr
  generalize l.getD 0 default=t at*
  cases hu:t.used
  ·rw[show tkA t=tkU false t by unfold tkA tkU;rw[hu]]at*
   unfold tkU at*
   (refine eN Tryz.func202 Tryz.call202 fun F hF=>?_)
   (refine WW ?_)
   exact fr0
  ·rw[show tkA t=tkU true t by unfold tkA tkU;rw[hu]]at*
   unfold tkU at*
   rw[hu,Bool.true_and]at hr
   by_cases h1:t.par= -1
   ·by_cases h2:t.til=0
    ·rw[decide_eq_true ⟨h1,h2⟩]at hr;cases hr
    ·(refine eN Tryz.func202 Tryz.call202 fun F hF=>?_)
     (refine WW ?_)
     exact fr0
   ·(refine eN Tryz.func202 Tryz.call202 fun F hF=>?_)
    (refine WW ?_)
    exact fr0
 have hr':=hr
 unfold root2F at hr'
 simp only[Bool.and_eq_true,decide_eq_true_eq]at hr'
 obtain⟨hu,h1,h2⟩:=hr'
 have hy0':=hy0
 rw[show tkA (l.getD 0 default)=tkU true (l.getD 0 default) by unfold tkA tkU;rw[hu]]at hy0'
 unfold tkU at hy0'
 clear hy0
 generalize ht0:l.getD 0 default=t0 at hy0' h1 h2
 (refine eN Tryz.func202 Tryz.call202 fun F hF=>?_)
 (refine WW ?_)
 clear hy0'
 (refine sim_cntP (l.length) [] [] [0,30,31] [32,0,30,31] rfl (fun i T U zs=>(∀s:Nat,s<i→tok2F l s=true)∧zs=⟨(32,iA i)::T,U⟩) ?_;(conv=>whnf);refine⟨?_,?_,?_⟩)
 ·exact⟨fun s hs=>absurd hs (Nat.not_lt_zero _),rfl⟩
 ·rintro i st hi ⟨hp,rfl⟩
  have next:tok2F l i=true→∀s:Nat,s<i+1→tok2F l s=true:=fun h s hs=>by
   by_cases hsi:s=i
   ·subst hsi;exact h
   ·exact hp s (by omega)
  have stop:=fun h=>tv2F_no (l:=l) hi h
  have hy:=map_at tkA l i hi
  have c1:=rvalid2_c (l.getD i default).rights
  have c3:=leads_c l i 0 (by omega)
  have hpar:=ldF_par (l:=l) (n:=l.length) (s:=i)
  rw[Int.toNat_natCast]at hpar
  have htok:tok2F l i=_:=rfl
  conv at htok=>rhs;unfold tok2F
  generalize l.getD i default=t at*
  generalize tok2F l i=tk at*
  have hsl:=map_len yA t.sec
  cases hu:t.used
  ·rw[show tkA t=tkU false t by unfold tkA tkU;rw[hu]]at hy
   rw[hu,if_neg (by simp)]at htok
   unfold tkU at hy
   cases tk
   ·rw[stop rfl]
    (refine WW (I6 (fun hc=>?_) (fun hc hc=>?_) (fun hc hc hc=>?_) (fun hc hc hc hc=>?_) (fun hc hc hc hc hc=>?_) (fun hc hc hc hc hc=>?_)))
    all_goals (first|exact fr0|(exfalso;simp only[if2F]at htok;have:=of_decide_eq_false htok.symm;omega))
   ·have hq:=htok.symm
    simp only[if2F,decide_eq_true_eq]at hq
    (refine WW ?_)
    all_goals (first|exact⟨next rfl,rfl⟩|(exfalso;omega))
  ·rw[show tkA t=tkU true t by unfold tkA tkU;rw[hu]]at hy
   rw[hu,if_pos rfl]at htok
   unfold tkU at hy
   unfold soF at htok
   generalize rvF t.rights=q0 at*
   generalize hq2:ldF l (l.length+1) i 0=q2 at*
   cases q0
   ·simp only[Bool.false_and]at htok
    rw[stop htok]
    (have zc1:=c1;refine WW (I2 (fun hc=>?_) (fun hc=>?_))<;>clear zc1)
    all_goals exact fr0
   cases hs2:so2F t
   ·rw[hs2]at htok
    simp only[Bool.and_false,Bool.false_and]at htok
    rw[stop htok]
    (have zc1:=c1;have zc2:=c3;(repeat' (first|refine WZ ?_|refine SG (I2 (fun hc=>?_) (fun hc=>?_))|refine SG (fun hc=>?_)|(refine is_ops ?_;refine is_call ?_;refine SC ?_)|(refine is_ops ?_;first|refine SM ?_)|first|refine SR ?_|refine SK (I2 (fun hc=>?_) (fun hc=>?_))|refine SK (fun hc=>?_)|fail))<;>clear zc1 zc2)
    all_goals (first|exact fr0|(exfalso;simp only[so2F,decide_eq_false_iff_not]at hs2;omega))
   have hs3:=hs2
   simp only[so2F,decide_eq_true_eq]at hs3
   rw[hs2]at htok
   cases q2
   ·simp only[Bool.true_and,Bool.false_and]at htok
    rw[stop htok]
    (have zc1:=c1;have zc2:=c3;refine WW ?_;clear zc1 zc2)
    exact fr0
   by_cases hi0:i=0
   ·rw[decide_eq_true hi0]at htok
    simp only[Bool.true_and,Bool.true_or]at htok
    (have zc1:=c1;have zc2:=c3;refine WW ?_;clear zc1 zc2)
    exact⟨next htok,rfl⟩
   rw[decide_eq_false hi0]at htok
   simp only[Bool.true_and,Bool.false_or]at htok
   obtain⟨p0,p1⟩:=usF_bd (hpar rfl (by omega))
   have hyp:=map_atI tkA l t.par p0 p1
   generalize l.getD t.par.toNat default=p at*
   have c4:=within2_c t.rights p.rights
   have c5:=later2_c t.til p.til
   generalize wiF t.rights p.rights=q3 at*
   generalize laF t.til p.til=q4 at*
   clear hpar hs2
   cases q3
   ·rw[Bool.false_and,Bool.false_and]at htok
    rw[stop htok]
    (have zc1:=c1;have zc2:=c3;have zc3:=c4;refine WW ?_;clear zc1 zc2 zc3)
    exact fr0
   by_cases hcl:t.cls≤p.cls
   ·rw[decide_eq_true hcl,Bool.true_and,Bool.true_and]at htok
    cases q4
    ·(have zc1:=c1;have zc2:=c3;have zc3:=c4;have zc4:=c5;refine WW ?_;clear zc1 zc2 zc3 zc4)
     exact⟨next htok,rfl⟩
    ·rw[stop htok]
     (have zc1:=c1;have zc2:=c3;have zc3:=c4;have zc4:=c5;refine WW ?_;clear zc1 zc2 zc3 zc4)
     exact fr0
   ·rw[decide_eq_false hcl,Bool.true_and,Bool.false_and]at htok
    rw[stop htok]
    (have zc1:=c1;have zc2:=c3;have zc3:=c4;have zc4:=c5;refine WW ?_;clear zc1 zc2 zc3 zc4)
    exact fr0
 ·rintro st ⟨hp,rfl⟩
  rw[show tv2F l=true by
   unfold tv2F
   rw[decide_eq_true h8,hr,Bool.true_and,Bool.true_and]
   exact List.all_eq_true.2 fun i hi=>hp i (List.mem_range.1 hi)]
  (refine WW ?_)
  exact fr0
end
section
set_option maxRecDepth 4000
set_option maxHeartbeats 1000000
def bsF (p:Nat→Bool):Nat→Int
 |0=>0
 |n+1=>if p n=true then bsF p n+p2 n else bsF p n
theorem bsF_bd (p:Nat→Bool):∀n:Nat,n≤30→0≤bsF p n∧bsF p n<p2 n
 |0,_=>⟨Int.le_refl 0,by show(0:Int)<1;decide⟩
 | n+1,h=>by
  have ih:=bsF_bd p n (by omega)
  have h2:p2 ((n+1:Nat):Int)=2*p2 (n:Int):=by
   unfold p2
   rw[Int.toNat_natCast,Int.toNat_natCast,Int.pow_succ]
   omega
  have:=p2_bd n (by omega)
  unfold bsF
  split<;>omega
theorem bsF_congr {p q:Nat→Bool}:∀n:Nat,(∀i,i<n→p i=q i)→bsF p n=bsF q n
 |0,_=>rfl
 |n+1,h=>by unfold bsF;rw[h n (by omega),bsF_congr n fun i hi=>h i (by omega)]
def bq (b0 b1 b2 b3 b4 b5 b6 b7:Bool):Nat→Bool
 |0=>b0|1=>b1|2=>b2|3=>b3|4=>b4|5=>b5|6=>b6|7=>b7|_=>false
theorem bits8:∀b0 b1 b2 b3 b4 b5 b6 b7:Bool,∀i:_root_.Fin 8,(andI (shrI (bsF (bq b0 b1 b2 b3 b4 b5 b6 b7) 8) i.val) 1==1)=bq b0 b1 b2 b3 b4 b5 b6 b7 i.val:=by decide +kernel
theorem bits_at (p:Nat→Bool) (i:Nat) (hi:i<8):(andI (shrI (bsF p 8) i) 1==1)=p i:=by
 have e:∀j,j<8→p j=bq (p 0) (p 1) (p 2) (p 3) (p 4) (p 5) (p 6) (p 7) j:=fun j hj=>by
  match j,hj with
  |0,_=>rfl|1,_=>rfl|2,_=>rfl|3,_=>rfl|4,_=>rfl|5,_=>rfl|6,_=>rfl|7,_=>rfl
  |j+8,h=>omega
 rw[bsF_congr 8 e,e i hi]
 exact bits8 _ _ _ _ _ _ _ _ ⟨i,hi⟩
theorem below_c (l:List Tk) (s:Int) (hn:l.length=8):CallSim Tryz.prog 142 [slA tkA l,iA s] [] (iA (bsF (fun i=>ldF l (l.length+1) i s) 8)) []:=by
 have hl:=map_len tkA l
 generalize hp:(fun i:Nat=>ldF l (l.length+1) i s)=p
 (refine eN Tryz.func142 Tryz.call142 fun F hF=>?_)
 (refine WW ?_)
 (refine sim_cnt ((l.map tkA).length) [] [] [0,1,8] [5,9,0,1,8] rfl (fun i T U=>⟨(5,iA (bsF p i))::(9,iA i)::T,U⟩) ?_;(conv=>whnf);refine⟨by rfl,?_,?_⟩)
 ·intro i hi
  have hi':i<8:=by omega
  have c:=leads_c l i s (by omega)
  have hb:=bsF_bd p i (by omega)
  have hb2:=p2_bd i (by omega)
  rw[show ldF l (l.length+1) i s=p i by rw[←hp]]at c
  have e:bsF p (i+1)=if p i=true then bsF p i+p2 i else bsF p i:=rfl
  rw[e]
  generalize bsF p i=b at*
  cases hpi:p i
  ·rw[hpi]at c
   simp only[Bool.false_eq_true,if_false]
   (have zc1:=c;refine WW ?_;clear zc1)
   rfl
  ·rw[hpi]at c
   simp only[if_true]
   (have zc1:=c;refine WW ?_;clear zc1)
   rfl
 ·have e8:(l.map tkA).length=8:=by omega
  rw[e8]
  (refine WW ?_)
  exact fr0
def frB (p:Nat→Bool) (l:List Tk) (n:Nat):List Tk:=(List.range l.length).map fun j=>if j<n∧p j=true then frT else l.getD j default
theorem frB_len (p:Nat→Bool) (l:List Tk) (n:Nat):(frB p l n).length=l.length:=by simp[frB]
theorem frB_zero (p:Nat→Bool) (l:List Tk):frB p l 0=l:=by
 unfold frB
 apply List.ext_getElem?
 intro j
 rw[List.getElem?_map]
 by_cases h:j<l.length
 ·rw[List.getElem?_range h];simp[List.getD,h]
 ·rw[List.getElem?_eq_none (by simp;omega),List.getElem?_eq_none (by omega)];rfl
theorem frB_at (p:Nat→Bool) (l:List Tk) (n:Nat) (h:n<l.length):(frB p l n)[n]? =some (l.getD n default):=by
 unfold frB
 rw[List.getElem?_map,List.getElem?_range h]
 simp
theorem frB_succ (p:Nat→Bool) (l:List Tk) (n:Nat):frB p l (n+1)=if p n=true then(frB p l n).set n frT else frB p l n:=by
 apply List.ext_getElem?
 intro j
 have hat:∀n,(frB p l n)[j]? =if j<l.length then some (if j<n∧p j=true then frT else l.getD j default)else none:=fun n=>by
  unfold frB
  rw[List.getElem?_map]
  by_cases h:j<l.length
  ·rw[List.getElem?_range h,if_pos h];rfl
  ·rw[List.getElem?_eq_none (by simp;omega),if_neg h];rfl
 cases hp:p n
 ·simp only[Bool.false_eq_true,if_false]
  rw[hat,hat]
  by_cases hj:j=n
  ·subst hj;simp[hp]
  ·have hlt:(j<n+1)↔(j<n):=by omega
   simp only[hlt]
 ·simp only[if_true]
  rw[List.getElem?_set,hat,hat,frB_len]
  by_cases hj:n=j
  ·subst hj
   by_cases hl:n<l.length
   ·simp[hl,hp]
   ·simp[hl]
  ·have hlt:(j<n+1)↔(j<n):=by omega
   simp only[if_neg hj,hlt]
theorem free2_c (l:List Tk) (hb:TkB l) (p:Nat→Bool) (hn:l.length=8):CallSim Tryz.prog 143 [slA tkA l,iA (bsF p 8)] [] (slA tkA (frB p l 8)) []:=by
 have c:=copyT2_own l hb
 have hll:=map_len tkA l
 have hbd:=bsF_bd p 8 (by omega)
 have hbit:=bits_at p
 generalize bsF p 8=b at*
 (refine eN Tryz.func143 Tryz.call143 fun F hF=>?_)
 (have zc1:=c;refine WW ?_;clear zc1)
 (refine sim_cnt ((l.map tkA).length) [1001] [] [1,5,10] [11,1,5,10] rfl (fun i T U=>⟨(11,iA i)::T,(1001,.arr 6 ((frB p l i).map tkA) false)::U⟩) ?_;(conv=>whnf);refine⟨by(rw[frB_zero];rfl),?_,?_⟩)
 ·intro i hi
  have hi':i<l.length:=by omega
  have hy:((frB p l i).map tkA)[i]? =some (tkA (l.getD i default)):=by rw[List.getElem?_map,frB_at p l i hi'];rfl
  have es:=frB_succ p l i
  have hbi:=hbit i (by omega)
  have hrl:i<((frB p l i).map tkA).length:=by rw[List.length_map,frB_len];exact hi'
  cases hpi:p i
  ·rw[hpi]at hbi es
   simp only[Bool.false_eq_true,if_false]at es
   rw[es]
   have hbi':andI (shrI b i) 1≠1:=by simpa using hbi
   generalize (frB p l i).map tkA=xs at*
   (refine WW ?_)
   rfl
  ·rw[hpi]at hbi es
   simp only[if_true]at es
   have hbi':andI (shrI b i) 1=1:=by simpa using hbi
   have e2:(frB p l (i+1)).map tkA=((frB p l i).map tkA).set i (tkA frT):=by rw[es,List.map_set]
   generalize (frB p l i).map tkA=xs at*
   generalize (frB p l (i+1)).map tkA=ys at*
   subst e2
   (repeat' (first|refine WT ?_|refine SG (I2 (fun hc=>?_) (fun hc=>?_))|refine SG (fun hc=>?_)|(refine is_ops ?_;refine is_call ?_;fail)|(refine is_ops ?_;first|(refine is_sto ?_;refine x_wk 22 rfl rfl rfl ?_;refine x_stoa tok rfl rfl rfl (by first|rfl|assumption) rfl rfl rfl rfl rfl rfl ?_))|refine SB ?_|first|refine SR ?_|refine SK (I2 (fun hc=>?_) (fun hc=>?_))|refine SK (fun hc=>?_)|fail))
   rfl
 ·have e8:(l.map tkA).length=8:=by omega
  rw[e8]
  (refine WW ?_)
  exact fin_ret [] rfl rfl (congrArg (AV.sl false) (List.take_of_length_le (by simp[frB_len];omega))) rfl
end
section
set_option maxRecDepth 4000
set_option maxHeartbeats 1000000
end
section
set_option maxRecDepth 4000
set_option maxHeartbeats 1000000
theorem pigeon:∀(n:Nat) (f:Nat→Nat),(∀i,i≤n→f i<n)→∃i j,i<j∧j≤n∧f i=f j
 |0,f,h=>absurd (h 0 (Nat.le_refl _)) (Nat.not_lt_zero _)
 | n+1,f,h=>by
  by_cases hx:∃i,i≤n∧f i=f (n+1)
  ·obtain⟨i,h1,h2⟩:=hx
   exact⟨i,n+1,by omega,Nat.le_refl _,h2⟩
  ·obtain⟨i,j,h1,h2,h3⟩:=pigeon n (fun i=>if f i<f (n+1)then f i else f i-1) fun i hi=>by
    have h4:=h i (by omega)
    have h5:=h (n+1) (Nat.le_refl _)
    have h6:f i≠f (n+1):=fun e=>hx ⟨i,hi,e⟩
    split<;>omega
   refine⟨i,j,h1,by omega,?_⟩
   have h4:f i≠f (n+1):=fun e=>hx ⟨i,by omega,e⟩
   have h5:f j≠f (n+1):=fun e=>hx ⟨j,h2,e⟩
   split at h3<;>split at h3<;>omega
def par (l:List Tk) (s:Int):Int:=(l.getD s.toNat default).par
def ndP (l:List Tk) (s:Int):Nat→Int
 |0=>s
 |k+1=>par l (ndP l s k)
theorem ndP_succ (l:List Tk) (s:Int):∀k,ndP l s (k+1)=ndP l (par l s) k
 |0=>rfl
 |k+1=>by rw[ndP,ndP_succ l s k];rfl
theorem ndP_add (l:List Tk) (s:Int) (i:Nat):∀k,ndP l s (i+k)=ndP l (ndP l s i) k
 |0=>rfl
 |k+1=>by rw[←Nat.add_assoc,ndP,ndP_add l s i k];rfl
theorem chF_mem (l:List Tk) (t:Int):∀(n:Nat) (s:Int),t∈chF l n s↔∃k,k<n∧(∀j,j≤k→usF l (ndP l s j)=true)∧ndP l s k=t
 |0,s=>by simp[chF]
 | n +1,s=>by
  rw[chF_succ]
  constructor
  ·intro h
   cases hu:usF l s
   ·rw[hu]at h;simp at h
   ·rw[hu,cond_true,List.mem_cons]at h
    rcases h with rfl|h
    ·exact⟨0,by omega,fun j hj=>by rw[Nat.le_zero.1 hj];exact hu,rfl⟩
    ·obtain⟨k,h1,h2,h3⟩:=(chF_mem l t n _).1 h
     refine⟨k+1,by omega,fun j hj=>?_,by rw[ndP_succ];exact h3⟩
     cases j with
     |zero=>exact hu
     |succ j=>rw[ndP_succ];exact h2 j (by omega)
  ·rintro⟨k,h1,h2,h3⟩
   have hu:=h2 0 (Nat.zero_le _)
   change usF l s=true at hu
   rw[hu,cond_true,List.mem_cons]
   cases k with
   |zero=>exact .inl h3.symm
   |succ k=>
    rw[ndP_succ]at h3
    refine .inr ((chF_mem l t n _).2 ⟨k,by omega,fun j hj=>?_,h3⟩)
    have:=h2 (j+1) (by omega)
    rw[ndP_succ]at this
    exact this
theorem chF_8 {l:List Tk} (h8:l.length=8) (s t:Int) (n:Nat) (h:t∈chF l n s):t∈chF l 8 s:=by
 obtain⟨k,_,h2,h3⟩:=(chF_mem l t n s).1 h
 clear h
 suffices ∀m k,k≤m→(∀j,j≤k→usF l (ndP l s j)=true)→ndP l s k=t→t∈chF l 8 s from this k k (Nat.le_refl _) h2 h3
 intro m
 induction m with
 |zero=>intro k hk h2 h3;exact(chF_mem l t 8 s).2 ⟨k,by omega,h2,h3⟩
 | succ m ih=>
  intro k hk h2 h3
  by_cases h:k<8
  ·exact(chF_mem l t 8 s).2 ⟨k,h,h2,h3⟩
  obtain⟨i,j,h4,h5,h6⟩:=pigeon 8 (fun i=>(ndP l s i).toNat) fun i hi=>by
   have:=usF_bd (h2 i (by omega))
   omega
  have e1:=usF_bd (h2 i (by omega))
  have e2:=usF_bd (h2 j (by omega))
  have e3:ndP l s i=ndP l s j:=by omega
  have e4:∀r,ndP l s (i+r)=ndP l s (j+r):=fun r=>by rw[ndP_add,ndP_add,e3]
  refine ih (i+(k-j)) (by omega) (fun r hr=>h2 r (by omega)) ?_
  rw[e4,show j+(k-j)=k by omega]
  exact h3
theorem chF_mono (l:List Tk) {t s:Int} {n m:Nat} (hnm:n≤m) (h:t∈chF l n s):t∈chF l m s:=by
 obtain⟨k,h1,h2,h3⟩:=(chF_mem l t n s).1 h
 exact(chF_mem l t m s).2 ⟨k,by omega,h2,h3⟩
inductive Rch (l:List Tk):Int→Int→Prop
 |base (s:Int):usF l s=true→Rch l s s
 |step (s t:Int):usF l s=true→Rch l (par l s) t→Rch l s t
theorem rch_of (l:List Tk) (t:Int):∀(n:Nat) (s:Int),t∈chF l n s→Rch l s t
 |0,s,h=>by simp[chF]at h
 | n+1,s,h=>by
  rw[chF_succ]at h
  cases hu:usF l s
  ·rw[hu]at h;simp at h
  ·rw[hu,cond_true,List.mem_cons]at h
   rcases h with rfl|h
   ·exact .base _ hu
   ·exact .step _ _ hu (rch_of l t n _ h)
theorem rch_mem {l:List Tk} {s t:Int} (h:Rch l s t):∃n,t∈chF l n s:=by
 induction h with
 |base s hu=>exact⟨1,by rw[chF_succ,hu,cond_true];exact List.mem_cons_self⟩
 |step s t hu _ ih=>
  obtain⟨n,hn⟩:=ih
  exact⟨n+1,by rw[chF_succ,hu,cond_true];exact List.mem_cons_of_mem _ hn⟩
theorem ld_rch {l:List Tk} (h8:l.length=8) (s t:Int):ldF l 9 s t=true↔Rch l s t:=by
 rw[ldF_ch,List.any_eq_true]
 constructor
 ·rintro⟨x,h1,h2⟩
  rw[beq_iff_eq]at h2
  subst h2
  exact rch_of l _ _ _ h1
 ·intro h
  obtain⟨n,hn⟩:=rch_mem h
  exact⟨t,chF_mono l (by omega) (chF_8 h8 s t n hn),by simp⟩
theorem de_rch {l:List Tk} (h8:l.length=8) (s t:Int):deF l s t=true↔Rch l s t:=by
 unfold deF
 rw[List.any_eq_true]
 constructor
 ·rintro⟨x,h1,h2⟩
  rw[beq_iff_eq]at h2
  subst h2
  exact rch_of l _ _ _ h1
 ·intro h
  obtain⟨n,hn⟩:=rch_mem h
  exact⟨t,chF_8 h8 s t n hn,by simp⟩
theorem de_ld {l:List Tk} (h8:l.length=8) (s t:Int):deF l s t=ldF l 9 s t:=by
 rw[Bool.eq_iff_iff,de_rch h8,ld_rch h8]
theorem tv_eq (l:List Tk):tvF l=tv2F l:=by
 unfold tvF tv2F
 by_cases h8:l.length=8
 case neg=>rw[decide_eq_false (by omega)];rfl
 rw[decide_eq_true (by omega),Bool.true_and,Bool.true_and,h8,Bool.eq_iff_iff]
 simp only[Bool.and_eq_true,List.all_eq_true,List.mem_range]
 have hs:∀i:Nat,i<7→(tokF l ((i:Int)+1)=tok2F l (i+1)):=fun i hi=>by
  unfold tokF tok2F
  rw[de_ld h8,h8,show(((i+1:Nat):Int)=(i:Int)+1) by omega,show((i:Int)+1).toNat=i+1 by omega,decide_eq_false (by omega:¬i+1=0),Bool.false_or]
 constructor
 ·rintro⟨h1,h2⟩
  unfold rootF at h1
  simp only[Bool.and_eq_true,decide_eq_true_eq]at h1
  obtain⟨⟨u,p,q⟩,r⟩:=h1
  refine⟨by unfold root2F;rw[u,p,q];rfl,fun i hi=>?_⟩
  cases i with
  |zero=>
   unfold tok2F
   rw[if_pos u,r,h8]
   have:ldF l 9 ((0:Nat):Int) 0=true:=(ld_rch h8 _ _).2 (.base _ (by unfold usF;rw[decide_eq_true (by omega)];exact u))
   rw[show(8+1)=9 from rfl,this]
   rfl
  |succ i=>rw[←hs i (by omega)];exact h2 i (by omega)
 ·rintro⟨h1,h2⟩
  have h3:=h2 0 (by omega)
  unfold root2F at h1
  simp only[Bool.and_eq_true,decide_eq_true_eq]at h1
  obtain⟨u,p,q⟩:=h1
  unfold tok2F at h3
  rw[if_pos u]at h3
  simp only[Bool.and_eq_true]at h3
  refine⟨by unfold rootF;rw[u,p,q,h3.1.1];rfl,fun i hi=>by rw[hs i hi];exact h2 (i+1) (by omega)⟩
structure TV (l:List Tk):Prop where
 n:l.length=8
 u:(l.getD 0 default).used=true
 p:(l.getD 0 default).par= -1
 e:(l.getD 0 default).til=0
 f:∀i,i<8→(l.getD i default).used=false→if2F (l.getD i default)=true
 s:∀i,i<8→(l.getD i default).used=true→soF (l.getD i default)=true∧Rch l i 0∧(i≠0→wiF (l.getD i default).rights (l.getD (l.getD i default).par.toNat default).rights=true∧(l.getD i default).cls≤(l.getD (l.getD i default).par.toNat default).cls∧laF (l.getD i default).til (l.getD (l.getD i default).par.toNat default).til=false)
theorem tv_iff (l:List Tk):tv2F l=true↔TV l:=by
 unfold tv2F
 simp only[Bool.and_eq_true,decide_eq_true_eq,List.all_eq_true,List.mem_range]
 constructor
 ·rintro⟨h8,h1,h2⟩
  have h8:l.length=8:=by omega
  unfold root2F at h1
  simp only[Bool.and_eq_true,decide_eq_true_eq]at h1
  refine⟨h8,h1.1,h1.2.1,h1.2.2,fun i hi hu=>?_,fun i hi hu=>?_⟩
  ·have:=h2 i (by omega)
   unfold tok2F at this
   rw[if_neg (by rw[hu];simp)]at this
   exact this
  ·have:=h2 i (by omega)
   unfold tok2F at this
   rw[if_pos hu,h8]at this
   simp only[Bool.and_eq_true,Bool.or_eq_true,decide_eq_true_eq,Bool.not_eq_true']at this
   obtain⟨⟨a,b⟩,c⟩:=this
   refine⟨a,(ld_rch h8 _ _).1 b,fun h0=>?_⟩
   rcases c with c|c
   ·exact absurd c h0
   ·exact⟨c.1.1,c.1.2,c.2⟩
 ·rintro⟨h8,u,p,e,f,s⟩
  refine⟨by omega,by unfold root2F;rw[u,p,e];rfl,fun i hi=>?_⟩
  unfold tok2F
  cases hu:(l.getD i default).used
  ·rw[if_neg (by simp)]
   exact f i (by omega) hu
  ·rw[if_pos rfl,h8]
   obtain⟨a,b,c⟩:=s i (by omega) hu
   simp only[Bool.and_eq_true,Bool.or_eq_true,decide_eq_true_eq,Bool.not_eq_true']
   refine⟨⟨a,(ld_rch h8 _ _).2 b⟩,?_⟩
   by_cases h0:i=0
   ·exact .inl h0
   ·have c:=c h0
    exact .inr ⟨⟨c.1,c.2.1⟩,c.2.2⟩
theorem usF_iff (l:List Tk) (s:Int):usF l s=true↔∃i:Nat,s=i∧i<l.length∧(l.getD i default).used=true:=by
 unfold usF
 rw[Bool.and_eq_true,decide_eq_true_eq]
 constructor
 ·rintro⟨h1,h2⟩
  exact⟨s.toNat,by omega,by omega,h2⟩
 ·rintro⟨i,rfl,h1,h2⟩
  exact⟨by omega,h2⟩
theorem Rch.us {l:List Tk} {s t:Int} (h:Rch l s t):usF l s=true:=by
 cases h<;>assumption
theorem Rch.trans {l:List Tk} {s t u:Int} (h:Rch l s t) (g:Rch l t u):Rch l s u:=by
 induction h with
 |base _ _=>exact g
 |step s t hu _ ih=>exact .step _ _ hu (ih g)
theorem exp_fr {l:List Tk} (h8:l.length=8) (now:Int):expF l now=frB (fun j=>(List.range 8).any fun i=>usF l i&&exF (l.getD i default) now&&ldF l 9 j i) l 8:=by
 unfold expF frB
 rw[h8]
 apply List.map_congr_left
 intro j hj
 rw[List.mem_range]at hj
 unfold exAt
 have:((chF l 8 j).any fun a=>exF (l.getD a.toNat default) now)=((List.range 8).any fun i=>usF l i&&exF (l.getD i default) now&&ldF l 9 j i):=by
  rw[Bool.eq_iff_iff,List.any_eq_true,List.any_eq_true]
  constructor
  ·rintro⟨a,h1,h2⟩
   have hu:=chF_us _ _ _ h1
   obtain⟨i,rfl,h3,h4⟩:=(usF_iff l a).1 hu
   rw[Int.toNat_natCast]at h2
   exact⟨i,List.mem_range.2 (by omega),by rw[hu,h2,(ld_rch h8 _ _).2 (rch_of _ _ _ _ h1)];rfl⟩
  ·rintro⟨i,_,h2⟩
   simp only[Bool.and_eq_true]at h2
   obtain⟨n,hn⟩:=rch_mem ((ld_rch h8 _ _).1 h2.2)
   exact⟨i,chF_8 h8 _ _ n hn,by rw[Int.toNat_natCast];exact h2.1.2⟩
 rw[this]
 simp[hj]
end
section
set_option maxRecDepth 4000
set_option maxHeartbeats 1000000
def inF (n a b:Int):Bool:=decide (a≤n∧n≤b)
theorem pwithin_c (n a b:Int):CallSim Tryz.prog 209 [iA n,iA a,iA b] [] (bA (inF n a b)) []:=by
 (cases hb:inF n a b with|false=>((refine eN Tryz.func209 Tryz.call209 fun F hF=>?_);((refine WW (I2 (fun hc=>?_) (fun hc=>?_))));all_goals (first|exact fr0|(simp only[inF,decide_eq_false_iff_not]at hb;first|(exfalso;omega)|(apply fin_bool;(exact fr0);simp only[cmpB,decide_eq_false_iff_not,decide_eq_true_eq,beq_eq_false_iff_ne,bne_eq_false_iff_eq,beq_iff_eq,bne_iff_ne,ne_eq];omega))))|true=>(simp only[inF,decide_eq_true_eq]at hb;(refine eN Tryz.func209 Tryz.call209 fun F hF=>?_);((refine WW ?_));all_goals (first|exact fr0|(exfalso;omega)|(apply fin_bool;(exact fr0);simp only[cmpB,decide_eq_false_iff_not,decide_eq_true_eq,beq_eq_false_iff_ne,bne_eq_false_iff_eq,beq_iff_eq,bne_iff_ne,ne_eq];omega))))
structure AgV (a:Ag):Prop where
 s:(a.sec.length:Int)=8
 l:(a.lim.length:Int)=4
 li:∀n∈a.lim,0≤n∧n≤8
 r:0≤a.rights∧a.rights≤63
 c:0≤a.cls∧a.cls≤3
 q:0≤a.req∧a.req≤4
 e:1≤a.ses∧a.ses≤2
 b:0≤a.burst∧a.burst≤1000
 t:0≤a.rate∧a.rate≤a.burst
def a0:Ag:=⟨secF 1,1,0,[1,1,1,1],0,1,0,2⟩
theorem secF_len (n:Int):(secF n).length=8:=by simp[secF]
theorem wrap_by (n:Int):0≤IntKind.u8.wrap n∧IntKind.u8.wrap n<256:=by
 have:IntKind.u8.wrap n=n % 256:=rfl
 omega
theorem secF_by (n:Int):BY (secF n):=fun x hx=>by
 unfold secF at hx
 rw[List.mem_map]at hx
 obtain⟨i,_,rfl⟩:=hx
 exact wrap_by _
theorem by_tok {g s:Int} {l:List Int} (hg:0≤g∧g<256) (hs:0≤s∧s<256) (hl:BY l):BY (g::s::l):=fun x hx=>by
 simp only[List.mem_cons]at hx
 rcases hx with rfl|rfl|hx
 ·exact hg
 ·exact hs
 ·exact hl x hx
theorem rgN_b (n:Int) (a:Ag) (h:AgV a):RgB (rgN n a):=by
 have h1:=h.s
 have h2:=h.l
 refine⟨⟨by simp[rgN,tkN],fun t ht=>?_⟩,by unfold rgN;dsimp only;omega,by unfold rgN;dsimp only;omega,by simp[rgN]⟩
 simp only[rgN,tkN,List.mem_cons]at ht
 rcases ht with rfl|ht
 ·dsimp only;omega
 ·rw[List.eq_of_mem_replicate ht];simp[frT]
end
section
open Go.RowKit
def LIn (k:IntKind) (w:World) (A:Option Addr) (n c:Nat) (xs:List Int):Prop:=
 xs.length=n∧n≤c∧c≤9223372036854775807∧(0<n→∃b o,A=some ⟨b,o,none⟩∧b<w.heap.size∧∀j,j<n→w.cell? ⟨b,o+j,none⟩=some (.int k (xs.getD j 0)))
theorem LIn.of_row {k:IntKind} {w:World} {a:Option Addr} {len cap:Nat} {zs:List Int}
  (h:(a=none∧len=0∧cap=0∧zs=[])∨∃x,a=some x∧len≤cap∧cap≤maxLen∧zs.length=cap∧(∀i,i<zs.length→w.cell? (x.add i)=some (.int k (zs.getD i 0)))∧∀n∈zs,(Lit.int k n).wf=true):
  LIn k w a len cap (zs.take len):=by
 rcases h with⟨rfl,rfl,rfl,rfl⟩|⟨x,rfl,h1,h2,h3,h4,_⟩
 ·exact⟨rfl,Nat.le_refl _,by omega,fun h=>absurd h (by omega)⟩
 ·refine⟨by simp;omega,h1,by unfold maxLen at h2;omega,fun hn=>?_⟩
  obtain⟨b,off,spot⟩:=x
  have hc:=h4 0 (by omega)
  have hspot:spot=none:=by simpa [Addr.add]using World.cell?_spot hc
  subst hspot
  have hc0:w.cell? ⟨b,off,none⟩=some (.int k (zs.getD 0 0)):=by simpa [Addr.add]using hc
  refine⟨b,off,rfl,World.block_lt_of_cell? w _ hc0,fun j hj=>?_⟩
  have hcj:=h4 j (by omega)
  have e:(⟨b,off,none⟩:Addr).add j=⟨b,off+j,none⟩:=by unfold Addr.add;split<;>simp_all
  rw[e]at hcj
  rw[hcj]
  have hjz:j<zs.length:=by omega
  simp[List.getD,hj,hjz]
theorem LIn.repf {k:IntKind} {w:World} {A:Option Addr} {n c:Nat} {xs:List Int} (h:LIn k w A n c xs) {D:Nat→Prop} (hD:∀b,¬D b):RepF w D (.sl false (xs.map fun n=> .s (.int k n))) (.slice A n c):=by
 obtain⟨rfl,h2,h3,h4⟩:=h
 cases hx:xs with
 |nil=>exact .nil A c
 | cons x r=>
  rw[←hx]
  obtain⟨b,o,rfl,hb,hc⟩:=h4 (by rw[hx];simp)
  have:=RepF.sl (w:=w) (D:=D) false (xs.map fun n=>AV.s (.int k n)) b o 1 c (fun i _=> .int k (xs.getD i 0)) (by rw[hx];simp)
   ⟨hb,hD b,Nat.le_refl _,by simp[maxN];omega,fun i y hy=>by
    rw[List.getElem?_map,Option.map_eq_some_iff]at hy
    obtain⟨z,_,rfl⟩:=hy
    rfl,fun i j hi hj=>by
    obtain rfl:j=0:=by omega
    rw[Nat.mul_one,Nat.add_zero]
    exact hc i (by simpa using hi),fun _ _ _ _=>rfl⟩ (by simpa using h2) (fun i y j v hy hv=>by
    rw[List.getElem?_map,Option.map_eq_some_iff]at hy
    obtain⟨z,hz,rfl⟩:=hy
    cases j with
    |zero=>
     simp[AV.cells]at hv
     subst hv
     have:xs.getD i 0=z:=by simp[List.getD,hz]
     rw[this]
     exact .s _
    |succ j=>simp[AV.cells]at hv)
  simpa using this
theorem CallSim.law {P:Program} {f:Nat} {args:List AV} (h:CallSim P f args [] (.s (.bool true)) []) {cargs:Array Value} {w:World} (hl:cargs.size=args.length)
  (hr:∀(i:Nat) v,args[i]? =some v→RepF w (Dom (fun _=>False) fun _=>[]) v (cargs.getD i undef)):Calls P f cargs w fun e w'=>e= .returned (.bool true)∧Below w.heap.size w w':=by
 have H:HOK (fun _=>False) (lookE []) (fun _=>[]) w:=⟨fun k e he=>by simp[lookE]at he,fun _ _=>rfl,fun k k' b n n' h1 _=>by simp at h1,fun k b n h1=>by simp at h1,fun b hd=>by
  rcases hd with hd|⟨_,_,hd⟩
  ·exact hd.elim
  ·simp at hd⟩
 refine Calls.mono (h.sim (fun _=>False) w (fun _=>[]) cargs hl H fun i v hv=> .fz _ _ (hr i v hv)) ?_
 rintro e w' ⟨c,β',rfl,G,hc⟩
 have:c= .bool true:=hc.s_inv
 subst this
 exact⟨rfl,G.os,G.tape,G.output,G.size,fun k hk=>G.keep k hk fun _ _ hm=>by simp at hm⟩
theorem dom0:∀b,¬Dom (fun _=>False) (fun _=>[]) b:=fun b hd=>by
 rcases hd with hd|⟨_,_,hd⟩
 ·exact hd
 ·simp at hd
def RepAll (w:World):List AV→List Value→Prop
 | [],[]=>True
 |a::r,c::s=>RepF w (Dom (fun _=>False) fun _=>[]) a c∧RepAll w r s
 |_,_=>False
theorem RepAll.len {w:World}:∀{l:List AV} {s:List Value},RepAll w l s→s.length=l.length
 | [],[],_=>rfl
 |_::_,_::_,h=>by simp[RepAll.len h.2]
 | [],_::_,h=>h.elim
 |_::_,[],h=>h.elim
theorem RepAll.at {w:World}:∀{l:List AV} {s:List Value},RepAll w l s→∀(i:Nat) v,l[i]? =some v→RepF w (Dom (fun _=>False) fun _=>[]) v (s.getD i undef)
 | [],[],_,i,v,hv=>by simp at hv
 |a::_,c::_,h,0,v,hv=>by simp at hv;subst hv;exact h.1
 |_::_,_::_,h,i+1,v,hv=>by simpa using RepAll.at h.2 i v (by simpa using hv)
 | [],_::_,h,_,_,_=>h.elim
 |_::_,[],h,_,_,_=>h.elim
theorem CallSim.lawL {P:Program} {f:Nat} {args:List AV} (h:CallSim P f args [] (.s (.bool true)) []) {cs:List Value} {w:World} (hr:RepAll w args cs):Calls P f cs.toArray w fun e w'=>e= .returned (.bool true)∧Below w.heap.size w w':=
 h.law (by simpa using hr.len) fun i v hv=>by simpa [Array.getD_eq_getD_getElem?,List.getD]using hr.at i v hv
theorem LIn.le {k:IntKind} {w:World} {A:Option Addr} {n c:Nat} {xs:List Int} (h:LIn k w A n c xs):xs.length≤9223372036854775807:=by
 obtain⟨h1,h2,h3,_⟩:=h
 omega
end
section
set_option maxRecDepth 4000
set_option maxHeartbeats 1000000
def rem (d:Dk):Nat:=d.l.length-d.a
theorem rem_ad (d:Dk):rem (ad d)≤rem d:=by unfold ad;split;(unfold rem;dsimp only;omega);exact Nat.le_refl _
end
section
set_option maxRecDepth 4000
set_option maxHeartbeats 1000000
structure TkP (l:List Tk):Prop where
 n:l.length=8
 y:∀t∈l,BY t.sec∧t.sec.length≤8∧(t.used=true→t.sec.length=8∧rvF t.rights=true∧0≤t.til∧t.til≤2147483648)
 v:TV l
theorem TkP.b {l:List Tk} (h:TkP l):TkB l:=⟨by have:=h.n;omega,fun t ht=>by have:=(h.y t ht).2.1;omega⟩
end
end Av
end Go.Proofs.YtaikgchmpieooaaGreat
