/- Part 22: contracts of the functions, and what they rest upon. -/
import Derived.Test.YtaikgchmpieooaaGreatP21
namespace Go.Proofs.YtaikgchmpieooaaGreat
namespace Av
set_option linter.unusedSimpArgs false
set_option linter.unusedVariables false
section
def iA (n:Int):AV:= .s (.int .i64 n)
def yA (n:Int):AV:= .s (.int .u8 n)
def bA (b:Bool):AV:= .s (.bool b)
def slA {α:Type} (f:α→AV) (l:List α):AV:= .sl false (l.map f)
structure Cl where
 ag:Int
 id:Int
 ph:Int
 k:Int
 si:Int
structure Ph where
 ring:Int
 group:Int
 ming:Int
 maxg:Int
 yel:Int
 red:Int
 walk:Int
 clear:Int
structure Jn where
 ph:List Ph
 cf:List Int
 st:Int
structure Ag where
 sec:List Int
 rights:Int
 cls:Int
 lim:List Int
 req:Int
 ses:Int
 rate:Int
 burst:Int
structure Cf where
 js:List Jn
 ags:List Ag
 per:Int
 cap:Int
 hold:Int
 lock:Int
structure Tk where
 used:Bool
 sec:List Int
 par:Int
 rights:Int
 cls:Int
 til:Int
structure Vh where
 id:Int
 cls:Int
structure Bk where
 level:Int
 rate:Int
 burst:Int
structure Rg where
 num:Int
 ag:Ag
 tk:List Tk
 vh:List Vh
 bk:Bk
structure Ms where
 kind:Int
 tok:List Int
 args:List Int
 data:List Int
def phA (p:Ph):AV:= .agg [iA p.ring,iA p.group,iA p.ming,iA p.maxg,iA p.yel,iA p.red,iA p.walk,iA p.clear]
def jnA (j:Jn):AV:= .agg [slA phA j.ph,slA iA j.cf,iA j.st]
def agA (a:Ag):AV:= .agg [slA yA a.sec,iA a.rights,iA a.cls,slA iA a.lim,iA a.req,iA a.ses,iA a.rate,iA a.burst]
def cfA (c:Cf):AV:= .agg [slA jnA c.js,slA agA c.ags,iA c.per,iA c.cap,iA c.hold,iA c.lock]
def tkA (t:Tk):AV:= .agg [bA t.used,slA yA t.sec,iA t.par,iA t.rights,iA t.cls,iA t.til]
def vhA (v:Vh):AV:= .agg [iA v.id,iA v.cls]
def bkA (b:Bk):AV:= .agg [iA b.level,iA b.rate,iA b.burst]
def rgA (r:Rg):AV:= .agg [iA r.num,slA yA r.ag.sec,iA r.ag.rights,iA r.ag.cls,slA iA r.ag.lim,iA r.ag.req,iA r.ag.ses,iA r.ag.rate,iA r.ag.burst,slA tkA r.tk,slA vhA r.vh,iA r.bk.level,iA r.bk.rate,iA r.bk.burst]
def msA (m:Ms):AV:= .agg [iA m.kind,slA yA m.tok,slA iA m.args,slA yA m.data]
instance:Inhabited Tk:=⟨⟨false,[],-1,0,0,0⟩⟩
instance:Inhabited Vh:=⟨⟨0,0⟩⟩
instance:Inhabited Cl:=⟨⟨0,0,0,0,0⟩⟩
instance:Inhabited Ph:=⟨⟨0,0,0,0,0,0,0,0⟩⟩
instance:Inhabited Jn:=⟨⟨[],[],0⟩⟩
instance:Inhabited Ag:=⟨⟨[],0,0,[],0,0,0,0⟩⟩
theorem fin_bool {TT:List TI} {rs:List ResultVar} {h0 h1:List (Nat×Ent)} {e:Exit} {st:St} {b b':Bool} (h:Fin TT rs h0 (bA b') h1 e st) (hb:b'=b):Fin TT rs h0 (bA b) h1 e st:=hb▸h
theorem map_at {α:Type} [Inhabited α] (f:α→AV) (l:List α) (i:Nat) (h:i<l.length):(l.map f)[i]? =some (f (l.getD i default)):=by simp[List.getD,h]
theorem map_atI {α:Type} [Inhabited α] (f:α→AV) (l:List α) (i:Int) (h0:0≤i) (h:i<l.length):(l.map f)[i.toNat]? =some (f (l.getD i.toNat default)):=map_at f l _ (by omega)
end
section
set_option maxRecDepth 4000
set_option maxHeartbeats 1000000
theorem mod_alt (v n : Int) (h1 : 1 ≤ n) : -n < v.tmod n ∧ v.tmod n < n ∧v % n=if v.tmod n<0 then v.tmod n+n else v.tmod n:=by
  have e0:=Int.emod_nonneg v (show n≠0 by omega)
  have e1:=Int.emod_lt_of_pos v (show 0<n by omega)
  have e2 : v.tmod n = if 0 ≤ v ∨ n ∣ v then v % n else v % n - n := by rw[Int.tmod_eq_emod];have:(n.natAbs:Int)=n:=by omega
                                                                        split<;>omega
  rw[e2]
  split
  · refine⟨by omega,by omega,?_⟩
    rw[if_neg (by omega)]
  · rename_i hd
    have:v % n≠0:=fun h=>hd (.inr (Int.dvd_of_emod_eq_zero h))
    refine⟨by omega,by omega,?_⟩
    rw[if_pos (by omega)]
    omega
theorem mod_c (v n:Int) (h1:1≤n) (h2:n≤1099511627776):CallSim Tryz.prog 14 [iA v,iA n] [] (iA (v % n)) []:=by
 obtain⟨b1,b2,e⟩:=mod_alt v n h1
 by_cases h:v.tmod n<0
 ·rw[e,if_pos h]
  (refine eN Tryz.func14 Tryz.call14 fun F hF=>?_)
  (repeat' (first|refine WZ ?_|refine SG0 (I2 (fun hc=>?_) (fun hc=>?_))|refine SR ?_|refine SK0 (I2 (fun hc=>?_) (fun hc=>?_))|fail))
  exact fr0
 ·rw[e,if_neg h]
  (refine eN Tryz.func14 Tryz.call14 fun F hF=>?_)
  (repeat' (first|refine WZ ?_|refine SG0 (I2 (fun hc=>?_) (fun hc=>?_))|refine SR ?_|refine SK0 (I2 (fun hc=>?_) (fun hc=>?_))|fail))
  exact fr0
structure Dk where
 l:List Int
 a:Nat
 h:a≤l.length
 hl:l.length≤9223372036854775807
def dkE (d:Dk):Ent:= .box [slA iA d.l,iA d.a]
def nx (d:Dk) (n:Int):Int:=if d.a<d.l.length then d.l.getD d.a 0 % n else 0
def ad (d:Dk):Dk:=if h:d.a<d.l.length then⟨d.l,d.a+1,h,d.hl⟩else d
theorem nx_bd (d:Dk) (n:Int) (h1:1≤n):0≤nx d n∧nx d n<n:=by
 unfold nx
 split
 ·exact⟨Int.emod_nonneg _ (by omega),Int.emod_lt_of_pos _ (by omega)⟩
 ·omega
theorem new_c (l:List Int) (hl:l.length≤9223372036854775807):CallSim Tryz.prog 11 [slA iA l] [] (.ptr 1000 0 0) [(1000,dkE ⟨l,0,Nat.zero_le _,hl⟩)]:=by
 (refine eN Tryz.func11 Tryz.call11 fun F hF=>?_)
 repeat' (first|refine x_auto tok rfl rfl ?_|(first|refine sim_seq ?_|refine x_region ?_|refine x_draw rfl ?_|refine sim_cond_true rfl ?_|refine sim_cond_false rfl ?_|refine sim_cond rfl (fun hc=>?_) (fun hc=>?_)|refine sim_skip ?_|refine sim_ret ?_|refine sim_exit ?_|refine sim_block ?_)|refine x_nil ?_|refine x_w (stp_box (v:= .agg _) 1000 rfl rfl) rfl rfl rfl ?_)
 exact fin_own [1000] rfl rfl rfl rfl
theorem next_c (d:Dk) (n:Int) (h1:1≤n) (h2:n≤1099511627776):CallSim Tryz.prog 13 [.ptr 1000 0 0,iA n] [(1000,dkE d)] (iA (nx d n)) [(1000,dkE (ad d))]:=by
 have hl:(d.l.map iA).length=d.l.length:=by simp
 have hb:=d.hl
 by_cases h:d.a<d.l.length
 ·have hy:=map_atI iA d.l ((d.a:Int)+1-1) (by omega) (by omega)
  rw[show nx d n=d.l.getD ((d.a:Int)+1-1).toNat 0 % n by unfold nx;rw[if_pos h,show((d.a:Int)+1-1).toNat=d.a by omega]]
  rw[show ad d=⟨d.l,d.a+1,h,d.hl⟩ by unfold ad;rw[dif_pos h]]
  (refine eN Tryz.func13 Tryz.call13 fun F hF=>?_)
  (repeat' (first|refine WZ ?_|refine SG0 (I2 (fun hc=>?_) (fun hc=>?_))|(refine is_ops ?_;refine is_call ?_;refine x_q (stp_call (mod_c _ _ h1 h2) rfl rfl rfl rfl rfl) rfl ?_)|refine SR ?_|refine SK0 (I2 (fun hc=>?_) (fun hc=>?_))|fail))
  exact fin_own [1000] rfl rfl rfl rfl
 ·rw[show nx d n=0 by unfold nx;rw[if_neg h],show ad d=d by unfold ad;rw[dif_neg h]]
  (refine eN Tryz.func13 Tryz.call13 fun F hF=>?_)
  (repeat' (first|refine WZ ?_|refine SG0 (I2 (fun hc=>?_) (fun hc=>?_))|(refine is_ops ?_;refine is_call ?_;refine x_q (stp_call (mod_c _ _ h1 h2) rfl rfl rfl rfl rfl) rfl ?_)|refine SR ?_|refine SK0 (I2 (fun hc=>?_) (fun hc=>?_))|fail))
  exact fin_own [1000] rfl rfl rfl rfl
theorem range_c (d:Dk) (lo hi:Int) (h1:0≤lo) (h2:lo≤hi) (h3:hi≤1000000000):CallSim Tryz.prog 32 [.ptr 1000 0 0,iA lo,iA hi] [(1000,dkE d)] (iA (lo+nx d (hi-lo+1))) [(1000,dkE (ad d))]:=by
 have hb:=nx_bd d (hi-lo+1) (by omega)
 (refine eN Tryz.func32 Tryz.call32 fun F hF=>?_)
 (repeat' (first|refine WZ ?_|refine SG0 (I2 (fun hc=>?_) (fun hc=>?_))|(refine is_ops ?_;refine is_call ?_;refine x_w (stp_call (next_c d _ (by omega) (by omega)) rfl rfl rfl rfl rfl) rfl rfl rfl ?_)|refine SR ?_|refine SK0 (I2 (fun hc=>?_) (fun hc=>?_))|fail))
 exact fin_own [1000] rfl rfl rfl rfl
end
section
set_option maxRecDepth 4000
set_option maxHeartbeats 2000000
structure Lg where
 jn:Int
 ph:Int
 fr:Int
 to:Int
 sc:Int
structure Rq where
 id:Int
 vh:Int
 cls:Int
 til:Int
 legs:List Lg
instance:Inhabited Lg:=⟨⟨0,0,0,0,0⟩⟩
instance:Inhabited Rq:=⟨⟨0,0,0,0,[]⟩⟩
def lgA (l:Lg):AV:= .agg [iA l.jn,iA l.ph,iA l.fr,iA l.to,iA l.sc]
def rqA (r:Rq):AV:= .agg [iA r.id,iA r.vh,iA r.cls,iA r.til,slA lgA r.legs]
def plB (j p:Int):Bool:=decide (0≤j∧j<4∧0≤p∧p<8)
def mwB (j p f t now:Int):Bool:=decide (0≤j∧j<4∧0≤p∧p<8∧0≤now∧now≤1073741824∧0≤f∧f≤t∧t≤600)
def mwF (j p f t now:Int):Lg:=if mwB j p f t now=true then⟨j,p,now+f,now+t,-1⟩else⟨0,0,0,0,0⟩
def lvB (l:Lg):Bool:=decide (0≤l.jn∧l.jn<4∧0≤l.ph∧l.ph<8∧0≤l.fr∧l.fr≤l.to∧l.to≤2147483648∧ -1≤l.sc∧l.sc≤1073741824)
def liB (l:Lg) (now:Int):Bool:=decide (l.fr≤now∧now≤l.to)
def mkL (l:Lg) (now:Int):Lg:=if liB l now=true then(if l.sc= -1 then⟨l.jn,l.ph,l.fr,l.to,now⟩else l)else⟨l.jn,l.ph,l.fr,l.to,-1⟩
theorem place_c (j p:Int):CallSim Tryz.prog 194 [iA j,iA p] [] (bA (plB j p)) []:=by
 (cases hb:plB j p with|false=>((refine eN Tryz.func194 Tryz.call194 fun F hF=>?_);((refine WW (I4 (fun hc hc hc=>?_) (fun hc hc hc=>?_) (fun hc hc=>?_) (fun hc=>?_))));all_goals (first|exact fr0|(simp only[plB,decide_eq_false_iff_not]at hb;first|(exfalso;omega)|(apply fin_bool;(exact fr0);simp only[cmpB,decide_eq_false_iff_not,decide_eq_true_eq,beq_eq_false_iff_ne,bne_eq_false_iff_eq,beq_iff_eq,bne_iff_ne,ne_eq];omega))))|true=>(simp only[plB,decide_eq_true_eq]at hb;(refine eN Tryz.func194 Tryz.call194 fun F hF=>?_);((refine WW ?_));all_goals (first|exact fr0|(exfalso;omega)|(apply fin_bool;(exact fr0);simp only[cmpB,decide_eq_false_iff_not,decide_eq_true_eq,beq_eq_false_iff_ne,bne_eq_false_iff_eq,beq_iff_eq,bne_iff_ne,ne_eq];omega))))
theorem within18_c (n a b:Int):CallSim Tryz.prog 175 [iA n,iA a,iA b] [] (bA (decide (a≤n∧n≤b))) []:=by
 cases hb:decide (a≤n∧n≤b)with
 |false=>
  rw[decide_eq_false_iff_not]at hb
  (refine eN Tryz.func175 Tryz.call175 fun F hF=>?_)
  (refine WW (I2 (fun hc=>?_) (fun hc=>?_)))
  all_goals (first|exact fr0|(exfalso;omega)|(apply fin_bool;(exact fr0);simp only[cmpB,decide_eq_false_iff_not,decide_eq_true_eq,beq_eq_false_iff_ne,bne_eq_false_iff_eq,beq_iff_eq,bne_iff_ne,ne_eq];omega))
 |true=>
  rw[decide_eq_true_eq]at hb
  (refine eN Tryz.func175 Tryz.call175 fun F hF=>?_)
  (refine WW ?_)
  all_goals (first|exact fr0|(exfalso;omega)|(apply fin_bool;(exact fr0);simp only[cmpB,decide_eq_false_iff_not,decide_eq_true_eq,beq_eq_false_iff_ne,bne_eq_false_iff_eq,beq_iff_eq,bne_iff_ne,ne_eq];omega))
theorem wmake_c (j p f t now:Int):CallSim Tryz.prog 161 [iA j,iA p,iA f,iA t,iA now] [] (.tup [lgA (mwF j p f t now),iA (if mwB j p f t now=true then 0 else 8)]) []:=by
 have c1:=place_c j p
 unfold mwF
 cases hb:mwB j p f t now with
 | false=>
  rw[if_neg Bool.false_ne_true,if_neg Bool.false_ne_true]
  unfold mwB at hb
  rw[decide_eq_false_iff_not]at hb
  unfold plB at c1
  unfold lgA
  by_cases hp:0≤j∧j<4∧0≤p∧p<8
  ·rw[decide_eq_true hp]at c1
   (refine eN Tryz.func161 Tryz.call161 fun F hF=>?_)
   (have zc1:=c1;refine WW (I5 (fun hc=>?_) (fun hc hc=>?_) (fun hc hc hc=>?_) (fun hc hc hc hc=>?_) (fun hc hc hc hc=>?_))<;>clear zc1)
   all_goals (first|exact fr0|(exfalso;omega))
  ·rw[decide_eq_false hp]at c1
   (refine eN Tryz.func161 Tryz.call161 fun F hF=>?_)
   (have zc1:=c1;refine WW ?_;clear zc1)
   all_goals (first|exact fr0|(exfalso;omega))
 |true=>
  rw[if_pos rfl,if_pos rfl]
  unfold mwB at hb
  rw[decide_eq_true_eq]at hb
  unfold plB at c1
  rw[decide_eq_true (by omega)]at c1
  unfold lgA
  (refine eN Tryz.func161 Tryz.call161 fun F hF=>?_)
  (have zc1:=c1;refine WW ?_;clear zc1)
  exact fr0
theorem wmake2_c (j p f t now:Int):CallSim Tryz.prog 132 [iA j,iA p,iA f,iA t,iA now] [] (.tup [lgA (mwF j p f t now),iA (if mwB j p f t now=true then 0 else 8)]) []:=by
 have c1:=within18_c j 0 3
 have c2:=within18_c p 0 7
 have c3:=within18_c now 0 1073741824
 have c4:=within18_c f 0 t
 unfold mwF
 cases hb:mwB j p f t now with
 | false=>
  rw[if_neg Bool.false_ne_true,if_neg Bool.false_ne_true]
  unfold mwB at hb
  rw[decide_eq_false_iff_not]at hb
  unfold lgA
  by_cases h1:0≤j∧j≤3
  case neg=>
   rw[decide_eq_false h1]at c1
   (refine eN Tryz.func132 Tryz.call132 fun F hF=>?_)
   (have zc1:=c1;refine WW ?_;clear zc1)
   exact fr0
  rw[decide_eq_true h1]at c1
  by_cases h2:0≤p∧p≤7
  case neg=>
   rw[decide_eq_false h2]at c2
   (refine eN Tryz.func132 Tryz.call132 fun F hF=>?_)
   (have zc1:=c1;have zc2:=c2;refine WW ?_;clear zc1 zc2)
   exact fr0
  rw[decide_eq_true h2]at c2
  by_cases h3:0≤now∧now≤1073741824
  case neg=>
   rw[decide_eq_false h3]at c3
   (refine eN Tryz.func132 Tryz.call132 fun F hF=>?_)
   (have zc1:=c1;have zc2:=c2;have zc3:=c3;refine WW ?_;clear zc1 zc2 zc3)
   exact fr0
  rw[decide_eq_true h3]at c3
  by_cases h4:0≤f∧f≤t
  case neg=>
   rw[decide_eq_false h4]at c4
   (refine eN Tryz.func132 Tryz.call132 fun F hF=>?_)
   (have zc1:=c1;have zc2:=c2;have zc3:=c3;have zc4:=c4;refine WW ?_;clear zc1 zc2 zc3 zc4)
   exact fr0
  rw[decide_eq_true h4]at c4
  (refine eN Tryz.func132 Tryz.call132 fun F hF=>?_)
  (have zc1:=c1;have zc2:=c2;have zc3:=c3;have zc4:=c4;refine WW ?_;clear zc1 zc2 zc3 zc4)
  all_goals (first|exact fr0|(exfalso;omega))
 |true=>
  rw[if_pos rfl,if_pos rfl]
  unfold mwB at hb
  rw[decide_eq_true_eq]at hb
  rw[decide_eq_true (by omega)]at c1 c2 c3 c4
  unfold lgA
  (refine eN Tryz.func132 Tryz.call132 fun F hF=>?_)
  (have zc1:=c1;have zc2:=c2;have zc3:=c3;have zc4:=c4;refine WW ?_;clear zc1 zc2 zc3 zc4)
  exact fr0
theorem live_c (l:Lg) (now:Int):CallSim Tryz.prog 145 [lgA l,iA now] [] (bA (liB l now)) []:=by
 (cases hb:liB l now with|false=>((refine eN Tryz.func145 Tryz.call145 fun F hF=>?_);((refine WW (I2 (fun hc=>?_) (fun hc=>?_))));all_goals (first|exact fr0|(simp only[liB,decide_eq_false_iff_not]at hb;first|(exfalso;omega)|(apply fin_bool;(exact fr0);simp only[cmpB,decide_eq_false_iff_not,decide_eq_true_eq,beq_eq_false_iff_ne,bne_eq_false_iff_eq,beq_iff_eq,bne_iff_ne,ne_eq];omega))))|true=>(simp only[liB,decide_eq_true_eq]at hb;(refine eN Tryz.func145 Tryz.call145 fun F hF=>?_);((refine WW ?_));all_goals (first|exact fr0|(exfalso;omega)|(apply fin_bool;(exact fr0);simp only[cmpB,decide_eq_false_iff_not,decide_eq_true_eq,beq_eq_false_iff_ne,bne_eq_false_iff_eq,beq_iff_eq,bne_iff_ne,ne_eq];omega))))
theorem live2_c (l:Lg) (now:Int):CallSim Tryz.prog 146 [lgA l,iA now] [] (bA (liB l now)) []:=by
 have c:=within18_c now l.fr l.to
 unfold liB
 generalize decide (l.fr≤now∧now≤l.to)=b at*
 (refine eN Tryz.func146 Tryz.call146 fun F hF=>?_)
 (have zc1:=c;refine WW ?_;clear zc1)
 exact fr0
theorem wmark_c (l:Lg) (now:Int):CallSim Tryz.prog 110 [lgA l,iA now] [] (lgA (mkL l now)) []:=by
 have c:=live_c l now
 unfold mkL
 generalize liB l now=b at*
 cases b with
 |false=>
  rw[if_neg Bool.false_ne_true]
  unfold lgA at*
  (refine eN Tryz.func110 Tryz.call110 fun F hF=>?_)
  (have zc1:=c;refine WW ?_;clear zc1)
  exact fr0
 | true=>
  rw[if_pos rfl]
  by_cases h:l.sc= -1
  ·rw[if_pos h]
   unfold lgA at*
   (refine eN Tryz.func110 Tryz.call110 fun F hF=>?_)
   (have zc1:=c;refine WW ?_;clear zc1)
   exact fr0
  ·rw[if_neg h]
   unfold lgA at*
   (refine eN Tryz.func110 Tryz.call110 fun F hF=>?_)
   (have zc1:=c;refine WW ?_;clear zc1)
   exact fr0
theorem wmark2_c (l:Lg) (now:Int):CallSim Tryz.prog 111 [lgA l,iA now] [] (lgA (mkL l now)) []:=by
 have c:=live2_c l now
 unfold mkL
 generalize liB l now=b at*
 cases b with
 |false=>
  rw[if_neg Bool.false_ne_true]
  unfold lgA at*
  (refine eN Tryz.func111 Tryz.call111 fun F hF=>?_)
  (have zc1:=c;refine WW ?_;clear zc1)
  exact fr0
 | true=>
  rw[if_pos rfl]
  by_cases h:l.sc= -1
  ·rw[if_pos h]
   unfold lgA at*
   (refine eN Tryz.func111 Tryz.call111 fun F hF=>?_)
   (have zc1:=c;refine WW ?_;clear zc1)
   exact fr0
  ·rw[if_neg h]
   unfold lgA at*
   (refine eN Tryz.func111 Tryz.call111 fun F hF=>?_)
   (have zc1:=c;refine WW ?_;clear zc1)
   exact fr0
theorem wvalid_c (l:Lg):CallSim Tryz.prog 221 [lgA l] [] (bA (lvB l)) []:=by
 have c1:=place_c l.jn l.ph
 cases hb:lvB l with
 | false=>
  unfold lvB at hb
  rw[decide_eq_false_iff_not]at hb
  unfold plB at c1
  by_cases hp:0≤l.jn∧l.jn<4∧0≤l.ph∧l.ph<8
  ·rw[decide_eq_true hp]at c1
   (refine eN Tryz.func221 Tryz.call221 fun F hF=>?_)
   (have zc1:=c1;refine WW (I5 (fun hc hc hc hc=>?_) (fun hc hc hc hc=>?_) (fun hc hc hc=>?_) (fun hc hc=>?_) (fun hc=>?_))<;>clear zc1)
   all_goals (first|exact fr0|(exfalso;omega)|(apply fin_bool;(exact fr0);simp only[cmpB,decide_eq_false_iff_not,decide_eq_true_eq,beq_eq_false_iff_ne,bne_eq_false_iff_eq,beq_iff_eq,bne_iff_ne,ne_eq];omega))
  ·rw[decide_eq_false hp]at c1
   (refine eN Tryz.func221 Tryz.call221 fun F hF=>?_)
   (have zc1:=c1;refine WW ?_;clear zc1)
   all_goals (first|exact fr0|(exfalso;omega)|(apply fin_bool;(exact fr0);simp only[cmpB,decide_eq_false_iff_not,decide_eq_true_eq,beq_eq_false_iff_ne,bne_eq_false_iff_eq,beq_iff_eq,bne_iff_ne,ne_eq];omega))
 |true=>
  unfold lvB at hb
  rw[decide_eq_true_eq]at hb
  unfold plB at c1
  rw[decide_eq_true (by omega)]at c1
  (refine eN Tryz.func221 Tryz.call221 fun F hF=>?_)
  (have zc1:=c1;refine WW ?_;clear zc1)
  all_goals (first|exact fr0|(exfalso;omega)|(apply fin_bool;(exact fr0);simp only[cmpB,decide_eq_false_iff_not,decide_eq_true_eq,beq_eq_false_iff_ne,bne_eq_false_iff_eq,beq_iff_eq,bne_iff_ne,ne_eq];omega))
theorem wvalid2_c (l:Lg):CallSim Tryz.prog 208 [lgA l] [] (bA (lvB l)) []:=by
 have c1:=within18_c l.jn 0 3
 have c2:=within18_c l.ph 0 7
 have c3:=within18_c l.fr 0 l.to
 have c4:=within18_c l.sc (-1) 1073741824
 cases hb:lvB l with
 | false=>
  unfold lvB at hb
  rw[decide_eq_false_iff_not]at hb
  by_cases h1:0≤l.jn∧l.jn≤3
  case neg=>
   rw[decide_eq_false h1]at c1
   (refine eN Tryz.func208 Tryz.call208 fun F hF=>?_)
   (have zc1:=c1;refine WW ?_;clear zc1)
   exact fr0
  rw[decide_eq_true h1]at c1
  by_cases h2:0≤l.ph∧l.ph≤7
  case neg=>
   rw[decide_eq_false h2]at c2
   (refine eN Tryz.func208 Tryz.call208 fun F hF=>?_)
   (have zc1:=c1;have zc2:=c2;refine WW ?_;clear zc1 zc2)
   exact fr0
  rw[decide_eq_true h2]at c2
  by_cases h3:0≤l.fr∧l.fr≤l.to
  case neg=>
   rw[decide_eq_false h3]at c3
   (refine eN Tryz.func208 Tryz.call208 fun F hF=>?_)
   (have zc1:=c1;have zc2:=c2;have zc3:=c3;refine WW ?_;clear zc1 zc2 zc3)
   exact fr0
  rw[decide_eq_true h3]at c3
  by_cases h4: -1≤l.sc∧l.sc≤1073741824
  case neg=>
   rw[decide_eq_false h4]at c4
   (refine eN Tryz.func208 Tryz.call208 fun F hF=>?_)
   (have zc1:=c1;have zc2:=c2;have zc3:=c3;have zc4:=c4;refine WW (I2 (fun hc=>?_) (fun hc=>?_))<;>clear zc1 zc2 zc3 zc4)
   all_goals (first|exact fr0|(exfalso;omega))
  rw[decide_eq_true h4]at c4
  (refine eN Tryz.func208 Tryz.call208 fun F hF=>?_)
  (have zc1:=c1;have zc2:=c2;have zc3:=c3;have zc4:=c4;refine WW ?_;clear zc1 zc2 zc3 zc4)
  all_goals (first|exact fr0|(exfalso;omega))
 |true=>
  unfold lvB at hb
  rw[decide_eq_true_eq]at hb
  rw[decide_eq_true (by omega)]at c1 c2 c3 c4
  (refine eN Tryz.func208 Tryz.call208 fun F hF=>?_)
  (have zc1:=c1;have zc2:=c2;have zc3:=c3;have zc4:=c4;refine WW ?_;clear zc1 zc2 zc3 zc4)
  all_goals (first|exact fr0|(exfalso;omega))
end
section
set_option maxRecDepth 4000
set_option maxHeartbeats 2000000
def lgsF:List Lg→List Lg→Bool
 |_,[]=>true
 |pre,x::post=>lvB x&&(!(pre.any fun y=>y.jn==x.jn)&&lgsF (pre++[x]) post)
def vgF (l:List Lg):Bool:=decide (1≤(l.length:Int)∧(l.length:Int)≤3)&&lgsF [] l
theorem lgsF_no {pre post:List Lg} {x:Lg} (h:lvB x=false):lgsF pre (x::post)=false:=by simp[lgsF,h]
theorem lgsF_tw {pre post:List Lg} {x y:Lg} (hy:y∈pre) (h:y.jn=x.jn):lgsF pre (x::post)=false:=by
 have:(pre.any fun y=>y.jn==x.jn)=true:=List.any_eq_true.2 ⟨y,hy,by simpa using h⟩
 simp[lgsF,this]
theorem lgsF_next {pre post:List Lg} {x:Lg} (h:lvB x=true) (hn:∀y∈pre,y.jn≠x.jn):lgsF pre (x::post)=lgsF (pre++[x]) post:=by
 have:(pre.any fun y=>y.jn==x.jn)=false:=by simpa using hn
 simp[lgsF,h,this]
theorem vlegs_c (l:List Lg):CallSim Tryz.prog 197 [slA lgA l] [] (bA (vgF l)) []:=by
 have hl:=map_len lgA l
 unfold vgF
 by_cases h3:1≤(l.length:Int)∧(l.length:Int)≤3
 case neg=>
  rw[decide_eq_false h3,Bool.false_and]
  by_cases h1:1≤(l.length:Int)
  ·(refine eN Tryz.func197 Tryz.call197 fun F hF=>?_)
   (refine WW ?_)
   exact fr0
  ·(refine eN Tryz.func197 Tryz.call197 fun F hF=>?_)
   (refine WW ?_)
   exact fr0
 rw[decide_eq_true h3,Bool.true_and]
 obtain⟨h1,h3⟩:=h3
 (refine eN Tryz.func197 Tryz.call197 fun F hF=>?_)
 (refine WW ?_)
 (refine sim_rngP (l) [] [] [0,15,16] [17,0,15,16] rfl (fun i pre T U zs=>(∀post,l=pre++post→lgsF [] l=lgsF pre post)∧zs=⟨(17,iA i)::T,U⟩) ?_;(conv=>whnf);refine⟨?_,?_,?_⟩)
 ·exact⟨fun post h=>by rw[h];rfl,rfl⟩
 ·rintro i pre x post st hx hi ⟨hp,rfl⟩
  have hy:=rng_at lgA hx hi
  have hlt:=rng_lt hx hi
  rw[hp _ hx]
  have cv:=wvalid_c x
  have hnext:lvB x=true→(∀y∈pre,y.jn≠x.jn)→∀p,l=(pre++[x])++p→lgsF pre (x::post)=lgsF (pre++[x]) p:=fun a b p h=>by
   have e:p=post:=by rw[hx,List.append_assoc]at h;simpa using h.symm
   rw[e]
   exact lgsF_next a b
  cases hv:lvB x with
  |false=>
   rw[lgsF_no hv]
   rw[hv]at cv
   clear hx hp hnext
   (have zc1:=cv;refine WW ?_;clear zc1)
   exact fr0
  | true=>
   rw[hv]at cv
   have ht:l.take i=pre:=by rw[hx,←hi];simp
   have hl2:(List.map lgA (List.take (i:Int).toNat l)).length=(l.take i).length:=map_len lgA (l.take i)
   have hl3:(l.take i).length=i:=by rw[ht];exact hi
   (have zc1:=cv;refine WW ?_;clear zc1)
   (refine sim_rngP (l.take i) [4] [4] [0,4,15,16,17,27,28] [29,0,4,15,16,17,27,28] rfl (fun i pre T U zs=>(∀y∈pre,y.jn≠x.jn)∧zs=⟨(29,iA i)::T,U⟩) ?_;(conv=>whnf);refine⟨?_,?_,?_⟩)
   ·exact⟨by simp,rfl⟩
   ·rintro k pr y po st2 hq hk ⟨hp2,rfl⟩
    have hy2:=rng_at lgA hq hk
    have hlt2:=rng_lt hq hk
    by_cases he:y.jn=x.jn
    ·rw[lgsF_tw (by rw[←ht,hq];simp) he]
     clear hq hx hp hnext
     (refine WW ?_)
     exact fr0
    ·have hp3:∀z∈pr++[y],z.jn≠x.jn:=fun z hz=>by
      simp only[List.mem_append,List.mem_singleton]at hz
      rcases hz with hz|rfl
      ·exact hp2 z hz
      ·exact he
     clear hq hx hp hnext
     (refine WW ?_)
     exact⟨hp3,rfl⟩
   ·rintro st2 ⟨hp2,rfl⟩
    have hnx:=hnext hv (by rw[←ht];exact hp2)
    clear hx hp hnext
    (refine WW ?_)
    exact⟨hnx,rfl⟩
 ·rintro st ⟨hp,rfl⟩
  rw[hp [] (by simp)]
  (refine WW ?_)
  exact fr0
theorem within19_c (n a b:Int):CallSim Tryz.prog 176 [iA n,iA a,iA b] [] (bA (decide (a≤n∧n≤b))) []:=by
 cases hb:decide (a≤n∧n≤b)with
 |false=>
  rw[decide_eq_false_iff_not]at hb
  (refine eN Tryz.func176 Tryz.call176 fun F hF=>?_)
  (refine WW (I2 (fun hc=>?_) (fun hc=>?_)))
  all_goals (first|exact fr0|(exfalso;omega)|(apply fin_bool;(exact fr0);simp only[cmpB,decide_eq_false_iff_not,decide_eq_true_eq,beq_eq_false_iff_ne,bne_eq_false_iff_eq,beq_iff_eq,bne_iff_ne,ne_eq];omega))
 |true=>
  rw[decide_eq_true_eq]at hb
  (refine eN Tryz.func176 Tryz.call176 fun F hF=>?_)
  (refine WW ?_)
  all_goals (first|exact fr0|(exfalso;omega)|(apply fin_bool;(exact fr0);simp only[cmpB,decide_eq_false_iff_not,decide_eq_true_eq,beq_eq_false_iff_ne,bne_eq_false_iff_eq,beq_iff_eq,bne_iff_ne,ne_eq];omega))
theorem legs2_c (l:List Lg) (hn:l.length≤1000000):CallSim Tryz.prog 177 [slA lgA l] [] (bA (vgF l)) []:=by
 have hl:=map_len lgA l
 have cw:=within19_c ((l.map lgA).length:Int) 1 3
 have e:decide (1≤((l.map lgA).length:Int)∧((l.map lgA).length:Int)≤3)=decide (1≤(l.length:Int)∧(l.length:Int)≤3):=by rw[hl]
 rw[e]at cw
 clear e
 unfold vgF
 (refine eN Tryz.func177 Tryz.call177 fun F hF=>?_)
 (refine WW ?_)
 (refine sim_rngP (l) [] [] [0,7,8] [9,0,7,8] rfl (fun i pre T U zs=>(∀post,l=pre++post→lgsF [] l=lgsF pre post)∧zs=⟨(9,iA i)::T,U⟩) ?_;(conv=>whnf);refine⟨?_,?_,?_⟩)
 ·exact⟨fun post h=>by rw[h];rfl,rfl⟩
 ·rintro i pre x post st hx hi ⟨hp,rfl⟩
  have hy:=rng_at lgA hx hi
  have hlt:=rng_lt hx hi
  rw[hp _ hx]
  have cv:=wvalid2_c x
  have hnext:lvB x=true→(∀y∈pre,y.jn≠x.jn)→∀p,l=(pre++[x])++p→lgsF pre (x::post)=lgsF (pre++[x]) p:=fun a b p h=>by
   have e:p=post:=by rw[hx,List.append_assoc]at h;simpa using h.symm
   rw[e]
   exact lgsF_next a b
  cases hv:lvB x with
  |false=>
   rw[lgsF_no hv,Bool.and_false]
   rw[hv]at cv
   clear hx hp hnext
   (have zc1:=cv;refine WW ?_;clear zc1)
   exact fr0
  | true=>
   rw[hv]at cv
   have ht:l.take i=pre:=by rw[hx,←hi];simp
   have hl2:(List.map lgA (List.take (i:Int).toNat l)).length=(l.take i).length:=map_len lgA (l.take i)
   have hl3:(l.take i).length=i:=by rw[ht];exact hi
   (have zc1:=cv;refine WW ?_;clear zc1)
   (refine sim_rngP (l.take i) [4] [4] [0,4,7,8,9,19,20] [21,0,4,7,8,9,19,20] rfl (fun i pre T U zs=>(∀y∈pre,y.jn≠x.jn)∧zs=⟨(21,iA i)::T,U⟩) ?_;(conv=>whnf);refine⟨?_,?_,?_⟩)
   ·exact⟨by simp,rfl⟩
   ·rintro k pr y po st2 hq hk ⟨hp2,rfl⟩
    have hy2:=rng_at lgA hq hk
    have hlt2:=rng_lt hq hk
    by_cases he:y.jn=x.jn
    ·rw[lgsF_tw (by rw[←ht,hq];simp) he,Bool.and_false]
     clear hq hx hp hnext
     (refine WW ?_)
     exact fr0
    ·have hp3:∀z∈pr++[y],z.jn≠x.jn:=fun z hz=>by
      simp only[List.mem_append,List.mem_singleton]at hz
      rcases hz with hz|rfl
      ·exact hp2 z hz
      ·exact he
     clear hq hx hp hnext
     (refine WW ?_)
     exact⟨hp3,rfl⟩
   ·rintro st2 ⟨hp2,rfl⟩
    have hnx:=hnext hv (by rw[←ht];exact hp2)
    clear hx hp hnext
    (refine WW ?_)
    exact⟨hnx,rfl⟩
 ·rintro st ⟨hp,rfl⟩
  rw[hp [] (by simp),show lgsF l []=true from rfl,Bool.and_true]
  generalize decide (1≤(l.length:Int)∧(l.length:Int)≤3)=b at*
  (have zc1:=cw;refine WW ?_;clear zc1)
  exact fr0
end
section
set_option maxRecDepth 4000
set_option maxHeartbeats 2000000
structure RqO (r:Rq):Prop where
 i0:0≤r.id
 i1:r.id≤4294967295
 v0:0≤r.vh
 v1:r.vh≤4294967295
 c0:0≤r.cls
 c1:r.cls≤3
 t0:0≤r.til
 t1:r.til≤2147483648
 lg:vgF r.legs=true
structure RqV (l:List Rq):Prop where
 ok:∀r∈l,RqO r
 so:l.Pairwise fun a b=>a.id<b.id
 n4:l.length≤4
theorem RqV.lt {l:List Rq} (h:RqV l) {i:Nat} (h0:0<i) (hi:i<l.length):(l.getD (i-1) default).id<(l.getD i default).id:=by
 have:=List.pairwise_iff_getElem.1 h.so (i-1) i (by omega) hi (by omega)
 simpa [List.getD,hi,show i-1<l.length by omega]using this
theorem vgF_len {l:List Lg} (h:vgF l=true):1≤(l.length:Int)∧(l.length:Int)≤3:=by
 unfold vgF at h
 rw[Bool.and_eq_true]at h
 exact of_decide_eq_true h.1
theorem rnum_c (n:Int):CallSim Tryz.prog 195 [iA n] [] (bA (decide (0≤n∧n≤4294967295))) []:=by
 cases hb:decide (0≤n∧n≤4294967295)with
 |false=>(rw[decide_eq_false_iff_not]at hb;(refine eN Tryz.func195 Tryz.call195 fun F hF=>?_);((refine WW (I2 (fun hc=>?_) (fun hc=>?_))));all_goals (first|exact fr0|(exfalso;omega)|(apply fin_bool;(exact fr0);simp only[cmpB,decide_eq_false_iff_not,decide_eq_true_eq,beq_eq_false_iff_ne,bne_eq_false_iff_eq,beq_iff_eq,bne_iff_ne,ne_eq];omega)))
 |true=>(rw[decide_eq_true_eq]at hb;(refine eN Tryz.func195 Tryz.call195 fun F hF=>?_);((refine WW ?_));all_goals (first|exact fr0|(exfalso;omega)|(apply fin_bool;(exact fr0);simp only[cmpB,decide_eq_false_iff_not,decide_eq_true_eq,beq_eq_false_iff_ne,bne_eq_false_iff_eq,beq_iff_eq,bne_iff_ne,ne_eq];omega)))
theorem rcls_c (n:Int):CallSim Tryz.prog 196 [iA n] [] (bA (decide (0≤n∧n≤3))) []:=by
 cases hb:decide (0≤n∧n≤3)with
 |false=>(rw[decide_eq_false_iff_not]at hb;(refine eN Tryz.func196 Tryz.call196 fun F hF=>?_);((refine WW (I2 (fun hc=>?_) (fun hc=>?_))));all_goals (first|exact fr0|(exfalso;omega)|(apply fin_bool;(exact fr0);simp only[cmpB,decide_eq_false_iff_not,decide_eq_true_eq,beq_eq_false_iff_ne,bne_eq_false_iff_eq,beq_iff_eq,bne_iff_ne,ne_eq];omega)))
 |true=>(rw[decide_eq_true_eq]at hb;(refine eN Tryz.func196 Tryz.call196 fun F hF=>?_);((refine WW ?_));all_goals (first|exact fr0|(exfalso;omega)|(apply fin_bool;(exact fr0);simp only[cmpB,decide_eq_false_iff_not,decide_eq_true_eq,beq_eq_false_iff_ne,bne_eq_false_iff_eq,beq_iff_eq,bne_iff_ne,ne_eq];omega)))
theorem rtick_c (n:Int):CallSim Tryz.prog 164 [iA n] [] (bA (decide (0≤n∧n≤1073741824))) []:=by
 cases hb:decide (0≤n∧n≤1073741824)with
 |false=>(rw[decide_eq_false_iff_not]at hb;(refine eN Tryz.func164 Tryz.call164 fun F hF=>?_);((refine WW (I2 (fun hc=>?_) (fun hc=>?_))));all_goals (first|exact fr0|(exfalso;omega)|(apply fin_bool;(exact fr0);simp only[cmpB,decide_eq_false_iff_not,decide_eq_true_eq,beq_eq_false_iff_ne,bne_eq_false_iff_eq,beq_iff_eq,bne_iff_ne,ne_eq];omega)))
 |true=>(rw[decide_eq_true_eq]at hb;(refine eN Tryz.func164 Tryz.call164 fun F hF=>?_);((refine WW ?_));all_goals (first|exact fr0|(exfalso;omega)|(apply fin_bool;(exact fr0);simp only[cmpB,decide_eq_false_iff_not,decide_eq_true_eq,beq_eq_false_iff_ne,bne_eq_false_iff_eq,beq_iff_eq,bne_iff_ne,ne_eq];omega)))
theorem qvalid_c (l:List Rq) (q:Int) (hv:RqV l) (hq:(l.length:Int)≤q):CallSim Tryz.prog 163 [slA rqA l,iA q] [] (bA true) []:=by
 have hl:=map_len rqA l
 have h4:=hv.n4
 (refine eN Tryz.func163 Tryz.call163 fun F hF=>?_)
 (refine WW ?_)
 (refine sim_cnt (l.length) [] [] [0,16,17] [18,0,16,17] rfl (fun i T U=>⟨(18,iA i)::T,U⟩) ?_;(conv=>whnf);refine⟨by rfl,?_,?_⟩)
 ·intro i hi
  have hy:=map_at rqA l i hi
  have hm:l.getD i default∈l:=by simp[List.getD,hi]
  obtain⟨i0,i1,v0,v1,c0,c1,t0,t1,lg⟩:=hv.ok _ hm
  have k1:=rnum_c (l.getD i default).id
  have k2:=rnum_c (l.getD i default).vh
  have k3:=rcls_c (l.getD i default).cls
  have k4:=vlegs_c (l.getD i default).legs
  rw[decide_eq_true (by omega)]at k1 k2 k3
  rw[lg]at k4
  by_cases hi0:0<i
  ·have hyp:=map_atI rqA l ((i:Int)-1) (by omega) (by omega)
   rw[show((i:Int)-1).toNat=i-1 by omega]at hyp
   have hyq:(l.map rqA)[((i:Int)-1).toNat]? =some (rqA (l.getD (i-1) default)):=by rw[show((i:Int)-1).toNat=i-1 by omega];exact hyp
   have hlt:=hv.lt hi0 hi
   clear hyp hm lg
   generalize l.getD i default=t at*
   generalize l.getD (i-1) default=p at*
   (have zc1:=k1;have zc2:=k2;have zc3:=k3;have zc4:=k4;refine WW ?_;clear zc1 zc2 zc3 zc4)
   rfl
  ·obtain rfl:i=0:=by omega
   clear hm lg
   generalize l.getD 0 default=t at*
   (have zc1:=k1;have zc2:=k2;have zc3:=k3;have zc4:=k4;refine WW ?_;clear zc1 zc2 zc3 zc4)
   rfl
 ·(refine WW ?_)
  exact fr0
theorem qvalid2_c (l:List Rq) (q:Int) (hv:RqV l) (hq:(l.length:Int)≤q):CallSim Tryz.prog 135 [slA rqA l,iA q] [] (bA true) []:=by
 have hl:=map_len rqA l
 have h4:=hv.n4
 (refine eN Tryz.func135 Tryz.call135 fun F hF=>?_)
 (refine WW ?_)
 (refine sim_cnt (l.length) [] [] [0,1,7,8] [9,0,1,7,8] rfl (fun i T U=>⟨(9,iA i)::T,U⟩) ?_;(conv=>whnf);refine⟨by rfl,?_,?_⟩)
 ·intro i hi
  have hy:=map_at rqA l i hi
  have hm:l.getD i default∈l:=by simp[List.getD,hi]
  obtain⟨i0,i1,v0,v1,c0,c1,t0,t1,lg⟩:=hv.ok _ hm
  have k1:=within19_c (l.getD i default).id 0 4294967295
  have k2:=within19_c (l.getD i default).vh 0 4294967295
  have k3:=within19_c (l.getD i default).cls 0 3
  have k5:=within19_c (l.getD i default).til 0 2147483648
  have k4:=legs2_c (l.getD i default).legs (by have:=vgF_len lg;omega)
  rw[decide_eq_true (by omega)]at k1 k2 k3 k5
  rw[lg]at k4
  by_cases hi0:0<i
  ·have hyp:=map_atI rqA l ((i:Int)-1) (by omega) (by omega)
   rw[show((i:Int)-1).toNat=i-1 by omega]at hyp
   have hyq:(l.map rqA)[((i:Int)-1).toNat]? =some (rqA (l.getD (i-1) default)):=by rw[show((i:Int)-1).toNat=i-1 by omega];exact hyp
   have hlt:=hv.lt hi0 hi
   clear hyp hm lg
   generalize l.getD i default=t at*
   generalize l.getD (i-1) default=p at*
   (have zc1:=k1;have zc2:=k2;have zc3:=k3;have zc4:=k5;have zc5:=k4;refine WW ?_;clear zc1 zc2 zc3 zc4 zc5)
   rfl
  ·obtain rfl:i=0:=by omega
   clear hm lg
   generalize l.getD 0 default=t at*
   (have zc1:=k1;have zc2:=k2;have zc3:=k3;have zc4:=k5;have zc5:=k4;refine WW ?_;clear zc1 zc2 zc3 zc4 zc5)
   rfl
 ·(refine WW ?_)
  exact fr0
end
section
set_option maxRecDepth 4000
set_option maxHeartbeats 1000000
def secB (n:Int) (i:Nat):Int:=IntKind.u8.wrap (BitVec.ofInt IntKind.u8.bits (IntKind.u8.wrap ((IntKind.u64.wrap n).fdiv (2 ^ (min (8*(i:Int)).toNat IntKind.u64.bits)))) ^^^ BitVec.ofInt IntKind.u8.bits (29*(i:Int)+7)).toNat
def secF (n:Int):List Int:=(List.range 8).map (secB n)
theorem secret_c (n:Int):CallSim Tryz.prog 40 [iA n] [] (slA yA (secF n)) []:=by
 have hu:∀i:Nat,((List.range i).map (secB n)).map yA=((List.range i).map (secB n)).map yA:=fun _=>rfl
 (refine eN Tryz.func40 Tryz.call40 fun F hF=>?_)
 (repeat' (first|refine WZ ?_|refine SG0 (I2 (fun hc=>?_) (fun hc=>?_))|refine SR ?_|refine SK0 (I2 (fun hc=>?_) (fun hc=>?_))|fail))
 refine sim_virt 3 1001 1 rfl rfl rfl ?_
 refine sim_loop_r (fun k st=>∃i:Nat,k+i=8∧st=⟨[(0,iA n),(3,.ref 1001 0 (((List.range i).map (secB n)).map yA).length),(5,iA i)],[(1001,.arr 1 (((List.range i).map (secB n)).map yA) true)]⟩)
  8 [1001] [0,3,5] rfl ⟨0,rfl,rfl⟩ ?_
 rintro k st ⟨i,hi,rfl⟩
 by_cases hlt:i<8
 ·have ht:((List.range (i+1)).map (secB n)).map yA=((List.range i).map (secB n)).map yA++[yA (secB n i)]:=by rw[List.range_succ];simp
  have hs:((List.range i).map (secB n)).length=i:=by simp
  (repeat' (first|refine WZ ?_|refine SG0 (I2 (fun hc=>?_) (fun hc=>?_))|refine SR ?_|refine SK0 (I2 (fun hc=>?_) (fun hc=>?_))|fail))
  exact⟨k-1,by omega,i+1,by omega,by rw[ht];rfl⟩
 ·obtain rfl:i=8:=by omega
  (repeat' (first|refine WZ ?_|refine SG0 (I2 (fun hc=>?_) (fun hc=>?_))|refine SR ?_|refine SK0 (I2 (fun hc=>?_) (fun hc=>?_))|fail))
  exact fin_ret [] rfl rfl (congrArg (AV.sl false) List.take_length) rfl
def ad7 (d:Dk):Dk:=ad (ad (ad (ad (ad (ad (ad d))))))
def agF (d:Dk) (num rights:Int):Ag:=⟨secF (1000+num),rights,3,[1+nx d (3-1+1),1+nx (ad d) (3-1+1),nx (ad (ad d)) 3,nx (ad (ad (ad d))) 3],1+nx (ad (ad (ad (ad d)))) (3-1+1),1+nx (ad (ad (ad (ad (ad d))))) (2-1+1),
 1+nx (ad (ad (ad (ad (ad (ad d)))))) (3-1+1),1+nx (ad (ad (ad (ad (ad (ad d)))))) (3-1+1)+nx (ad7 d) 5⟩
theorem agency_c (d:Dk) (num rights:Int) (h0:0≤num) (h1:num≤1000):CallSim Tryz.prog 61 [.ptr 1000 0 0,iA num,iA rights] [(1000,dkE d)] (agA (agF d num rights)) [(1000,dkE (ad (ad7 d)))]:=by
 have hb:=nx_bd (ad (ad (ad (ad (ad (ad d)))))) (3-1+1) (by omega)
 have hb2:=nx_bd (ad7 d) 5 (by omega)
 have sc:=secret_c (1000+num)
 unfold agF ad7 at*
 generalize secF (1000+num)=sec at*
 (refine eN Tryz.func61 Tryz.call61 fun F hF=>?_)
 (repeat' (first|refine WZ ?_|refine SG0 (I2 (fun hc=>?_) (fun hc=>?_))|(refine is_ops ?_;refine is_call ?_;(first|(refine is_fn 40 ?_;first|refine x_q (stp_call (sc) rfl rfl rfl rfl rfl) rfl ?_|refine x_w (stp_call (sc) rfl rfl rfl rfl rfl) rfl rfl rfl ?_|refine x_d (stp_call (sc) rfl rfl rfl rfl rfl) rfl rfl rfl ?_)|(refine is_fn 32 ?_;first|refine x_q (stp_call (range_c _ _ _ (by omega) (by omega) (by omega)) rfl rfl rfl rfl rfl) rfl ?_|refine x_w (stp_call (range_c _ _ _ (by omega) (by omega) (by omega)) rfl rfl rfl rfl rfl) rfl rfl rfl ?_|refine x_d (stp_call (range_c _ _ _ (by omega) (by omega) (by omega)) rfl rfl rfl rfl rfl) rfl rfl rfl ?_)|(refine is_fn 13 ?_;first|refine x_q (stp_call (next_c _ _ (by omega) (by omega)) rfl rfl rfl rfl rfl) rfl ?_|refine x_w (stp_call (next_c _ _ (by omega) (by omega)) rfl rfl rfl rfl rfl) rfl rfl rfl ?_|refine x_d (stp_call (next_c _ _ (by omega) (by omega)) rfl rfl rfl rfl rfl) rfl rfl rfl ?_)))|refine SR ?_|refine SK0 (I2 (fun hc=>?_) (fun hc=>?_))|fail))
 exact fin_own [1000] rfl rfl rfl rfl
end
end Av
end Go.Proofs.YtaikgchmpieooaaGreat
