/- Part 23: contracts of the functions, and what they rest upon. -/
import Derived.Test.YtaikgchmpieooaaGreatP22
import Derived.Test.YtaikgchmpieooaaGreatP20
namespace Go.Proofs.YtaikgchmpieooaaGreat
namespace Av
set_option linter.unusedSimpArgs false
set_option linter.unusedVariables false
section
set_option maxRecDepth 4000
set_option maxHeartbeats 1000000
def rvF (r:Int):Bool:=decide (0≤r∧r≤63)
theorem rvalid_c (r:Int):CallSim Tryz.prog 182 [iA r] [] (bA (rvF r)) []:=by
 unfold rvF
 by_cases h1:0≤r<;>by_cases h2:r≤63<;>simp only[h1,h2,and_true,and_false,decide_true,decide_false]<;>first|(exfalso;omega;done)|((refine eN Tryz.func182 Tryz.call182 fun F hF=>?_);(refine WW ?_);exact fr0)
theorem rvalid2_c (r:Int):CallSim Tryz.prog 167 [iA r] [] (bA (rvF r)) []:=by
 unfold rvF
 by_cases h1:0≤r<;>by_cases h2:r≤63<;>simp only[h1,h2,and_true,and_false,decide_true,decide_false]<;>first|(exfalso;omega;done)|((refine eN Tryz.func167 Tryz.call167 fun F hF=>?_);(refine WW ?_);exact fr0)
theorem bits_fin:∀a b:_root_.Fin 64,(bicI a.val b.val==0)=(andI a.val b.val==(a.val:Int)):=by decide +kernel
def wiF (a b:Int):Bool:=rvF a&&rvF b&&(andI a b==a)
theorem wiF_bic (a b:Int):(rvF a&&rvF b&&(bicI a b==0))=wiF a b:=by
 unfold wiF
 cases ha:rvF a<;>cases hb:rvF b<;>simp only[Bool.true_and,Bool.false_and,Bool.and_false,Bool.and_true]
 simp only[rvF,decide_eq_true_eq]at ha hb
 have:=bits_fin ⟨a.toNat,by omega⟩ ⟨b.toNat,by omega⟩
 dsimp only at this
 rw[show((a.toNat:Nat):Int)=a by omega,show((b.toNat:Nat):Int)=b by omega]at this
 exact this
theorem within_c (a b:Int):CallSim Tryz.prog 212 [iA a,iA b] [] (bA (wiF a b)) []:=by
 have c1:=rvalid_c a
 have c2:=rvalid_c b
 rw[←wiF_bic]
 cases h1:rvF a<;>cases h2:rvF b<;>rw[h1]at c1<;>rw[h2]at c2<;>simp only[Bool.true_and,Bool.false_and,Bool.and_false]<;>((refine eN Tryz.func212 Tryz.call212 fun F hF=>?_);(have zc1:=c1;have zc2:=c2;refine WW ?_;clear zc1 zc2);exact fr0)
theorem within2_c (a b:Int):CallSim Tryz.prog 205 [iA a,iA b] [] (bA (wiF a b)) []:=by
 have c1:=rvalid2_c a
 have c2:=rvalid2_c b
 unfold wiF
 cases h1:rvF a<;>cases h2:rvF b<;>rw[h1]at c1<;>rw[h2]at c2<;>simp only[Bool.true_and,Bool.false_and,Bool.and_false]<;>((refine eN Tryz.func205 Tryz.call205 fun F hF=>?_);(have zc1:=c1;have zc2:=c2;refine WW ?_;clear zc1 zc2);exact fr0)
def ndF (k:Int):Int:=if k=6∨k=7∨k=8 then 1 else if k=4∨k=5 then 2 else if k=2 then 4 else if k=3 then 8 else if k=10 then 16 else if k=11 then 32 else 0
theorem ndF_cases (k:Int):(k=6∧ndF k=1)∨(k=7∧ndF k=1)∨(k=8∧ndF k=1)∨(k=4∧ndF k=2)∨(k=5∧ndF k=2)∨(k=2∧ndF k=4)∨(k=3∧ndF k=8)∨(k=10∧ndF k=16)∨(k=11∧ndF k=32)∨
  (k≠6∧k≠7∧k≠8∧k≠4∧k≠5∧k≠2∧k≠3∧k≠10∧k≠11∧ndF k=0):=by
 by_cases h6:k=6
 ·exact(.inl ⟨h6,by subst h6;rfl⟩)
 by_cases h7:k=7
 ·exact .inr ((.inl ⟨h7,by subst h7;rfl⟩))
 by_cases h8:k=8
 ·exact .inr (.inr ((.inl ⟨h8,by subst h8;rfl⟩)))
 by_cases h4:k=4
 ·exact .inr (.inr (.inr ((.inl ⟨h4,by subst h4;rfl⟩))))
 by_cases h5:k=5
 ·exact .inr (.inr (.inr (.inr ((.inl ⟨h5,by subst h5;rfl⟩)))))
 by_cases h2:k=2
 ·exact .inr (.inr (.inr (.inr (.inr ((.inl ⟨h2,by subst h2;rfl⟩))))))
 by_cases h3:k=3
 ·exact .inr (.inr (.inr (.inr (.inr (.inr ((.inl ⟨h3,by subst h3;rfl⟩)))))))
 by_cases h10:k=10
 ·exact .inr (.inr (.inr (.inr (.inr (.inr (.inr ((.inl ⟨h10,by subst h10;rfl⟩))))))))
 by_cases h11:k=11
 ·exact .inr (.inr (.inr (.inr (.inr (.inr (.inr (.inr ((.inl ⟨h11,by subst h11;rfl⟩)))))))))
 exact .inr (.inr (.inr (.inr (.inr (.inr (.inr (.inr (.inr (⟨h6,h7,h8,h4,h5,h2,h3,h10,h11,by simp[ndF,h6,h7,h8,h4,h5,h2,h3,h10,h11]⟩)))))))))
theorem needed_c (k:Int):CallSim Tryz.prog 181 [iA k] [] (iA (ndF k)) []:=by
 rcases ndF_cases k with⟨h,e⟩|⟨h,e⟩|⟨h,e⟩|⟨h,e⟩|⟨h,e⟩|⟨h,e⟩|⟨h,e⟩|⟨h,e⟩|⟨h,e⟩|⟨h1,h2,h3,h4,h5,h6,h7,h8,h9,e⟩<;>rw[e]<;>((refine eN Tryz.func181 Tryz.call181 fun F hF=>?_);(refine WW ?_);exact fr0)
theorem needed2_c (k:Int):CallSim Tryz.prog 168 [iA k] [] (iA (ndF k)) []:=by
 rcases ndF_cases k with⟨h,e⟩|⟨h,e⟩|⟨h,e⟩|⟨h,e⟩|⟨h,e⟩|⟨h,e⟩|⟨h,e⟩|⟨h,e⟩|⟨h,e⟩|⟨h1,h2,h3,h4,h5,h6,h7,h8,h9,e⟩<;>rw[e]<;>((refine eN Tryz.func168 Tryz.call168 fun F hF=>?_);(refine WW ?_);exact fr0)
def peF (r k:Int):Bool:=rvF r&&(andI r (ndF k)==ndF k)
theorem permits_c (r k:Int):CallSim Tryz.prog 150 [iA r,iA k] [] (bA (peF r k)) []:=by
 have c1:=rvalid_c r
 have c2:=needed_c k
 unfold peF
 generalize ndF k=n at*
 cases h1:rvF r<;>rw[h1]at c1<;>simp only[Bool.true_and,Bool.false_and]<;>((refine eN Tryz.func150 Tryz.call150 fun F hF=>?_);(have zc1:=c1;have zc2:=c2;refine WW ?_;clear zc1 zc2);exact fr0)
theorem permits2_c (r k:Int):CallSim Tryz.prog 128 [iA r,iA k] [] (bA (peF r k)) []:=by
 have c1:=rvalid2_c r
 have c2:=needed2_c k
 unfold peF
 generalize ndF k=n at*
 cases h1:rvF r<;>rw[h1]at c1<;>simp only[Bool.true_and,Bool.false_and]<;>((refine eN Tryz.func128 Tryz.call128 fun F hF=>?_);(have zc1:=c1;have zc2:=c2;refine WW ?_;clear zc1 zc2);exact fr0)
theorem rnew_c (r b:Int):CallSim Tryz.prog 95 [iA r,iA b] [] (bkA ⟨b,r,b⟩) []:=by
 (refine eN Tryz.func95 Tryz.call95 fun F hF=>?_)
 (refine WW ?_)
 exact fr0
theorem rnew2_c (r b:Int):CallSim Tryz.prog 97 [iA r,iA b] [] (bkA ⟨b,r,b⟩) []:=by
 (refine eN Tryz.func97 Tryz.call97 fun F hF=>?_)
 (refine WW ?_)
 exact fr0
def bvF (b:Bk):Bool:=decide (0≤b.burst∧b.burst≤1000∧0≤b.rate∧b.rate≤b.burst∧0≤b.level∧b.level≤b.burst)
theorem bvalid_c (b:Bk):CallSim Tryz.prog 186 [bkA b] [] (bA (bvF b)) []:=by
 (cases hb:bvF b with|false=>((refine eN Tryz.func186 Tryz.call186 fun F hF=>?_);((refine WW (I6 (fun hc hc hc hc hc=>?_) (fun hc hc hc hc hc=>?_) (fun hc hc hc hc=>?_) (fun hc hc hc=>?_) (fun hc hc=>?_) (fun hc=>?_))));all_goals (first|exact fr0|(simp only[bvF,decide_eq_false_iff_not]at hb;first|(exfalso;omega)|(apply fin_bool;(exact fr0);simp only[cmpB,decide_eq_false_iff_not,decide_eq_true_eq,beq_eq_false_iff_ne,bne_eq_false_iff_eq,beq_iff_eq,bne_iff_ne,ne_eq];omega))))|true=>(simp only[bvF,decide_eq_true_eq]at hb;(refine eN Tryz.func186 Tryz.call186 fun F hF=>?_);((refine WW ?_));all_goals (first|exact fr0|(exfalso;omega)|(apply fin_bool;(exact fr0);simp only[cmpB,decide_eq_false_iff_not,decide_eq_true_eq,beq_eq_false_iff_ne,bne_eq_false_iff_eq,beq_iff_eq,bne_iff_ne,ne_eq];omega))))
theorem bvalid2_c (b:Bk):CallSim Tryz.prog 204 [bkA b] [] (bA (bvF b)) []:=by
 (cases hb:bvF b with|false=>((refine eN Tryz.func204 Tryz.call204 fun F hF=>?_);((refine WW (I6 (fun hc hc hc hc hc=>?_) (fun hc hc hc hc hc=>?_) (fun hc hc hc hc=>?_) (fun hc hc hc=>?_) (fun hc hc=>?_) (fun hc=>?_))));all_goals (first|exact fr0|(simp only[bvF,decide_eq_false_iff_not]at hb;first|(exfalso;omega)|(apply fin_bool;(exact fr0);simp only[cmpB,decide_eq_false_iff_not,decide_eq_true_eq,beq_eq_false_iff_ne,bne_eq_false_iff_eq,beq_iff_eq,bne_iff_ne,ne_eq];omega))))|true=>(simp only[bvF,decide_eq_true_eq]at hb;(refine eN Tryz.func204 Tryz.call204 fun F hF=>?_);((refine WW ?_));all_goals (first|exact fr0|(exfalso;omega)|(apply fin_bool;(exact fr0);simp only[cmpB,decide_eq_false_iff_not,decide_eq_true_eq,beq_eq_false_iff_ne,bne_eq_false_iff_eq,beq_iff_eq,bne_iff_ne,ne_eq];omega))))
def btF (b:Bk):Bk:=⟨min (b.level+b.rate) b.burst,b.rate,b.burst⟩
theorem btick_c (b:Bk) (h: -1000000000≤b.level+b.rate∧b.level+b.rate≤1000000000):CallSim Tryz.prog 104 [bkA b] [] (bkA (btF b)) []:=by
 (refine eN Tryz.func104 Tryz.call104 fun F hF=>?_)
 (refine WW ?_)
 exact fr0
theorem btick2_c (b:Bk) (h: -1000000000≤b.level+b.rate∧b.level+b.rate≤1000000000):CallSim Tryz.prog 108 [bkA b] [] (bkA (btF b)) []:=by
 (refine eN Tryz.func108 Tryz.call108 fun F hF=>?_)
 (refine WW ?_)
 exact fr0
def tak1 (b:Bk):Bk:=if b.level≤0 then b else⟨b.level-1,b.rate,b.burst⟩
theorem btake_c (b:Bk) (h:b.level≤9223372036854775807):CallSim Tryz.prog 119 [bkA b] [] (.tup [bkA (tak1 b),bA (decide (0<b.level))]) []:=by
 unfold tak1
 by_cases h1:b.level≤0
 ·rw[if_pos h1,decide_eq_false (by omega)]
  (refine eN Tryz.func119 Tryz.call119 fun F hF=>?_)
  (refine WW ?_)
  exact fr0
 ·rw[if_neg h1,decide_eq_true (by omega)]
  (refine eN Tryz.func119 Tryz.call119 fun F hF=>?_)
  (refine WW ?_)
  exact fr0
theorem btake2_c (b:Bk) (h:b.level≤9223372036854775807):CallSim Tryz.prog 87 [bkA b] [] (.tup [bkA (tak1 b),bA (decide (0<b.level))]) []:=by
 unfold tak1
 by_cases h1:b.level≤0
 ·rw[if_pos h1,decide_eq_false (by omega)]
  (refine eN Tryz.func87 Tryz.call87 fun F hF=>?_)
  (refine WW ?_)
  exact fr0
 ·rw[if_neg h1,decide_eq_true (by omega)]
  (refine eN Tryz.func87 Tryz.call87 fun F hF=>?_)
  (refine WW ?_)
  exact fr0
def usF (l:List Tk) (s:Int):Bool:=decide (0≤s∧s<l.length)&&(l.getD s.toNat default).used
theorem used_c (l:List Tk) (s:Int):CallSim Tryz.prog 148 [slA tkA l,iA s] [] (bA (usF l s)) []:=by
 have hl:=map_len tkA l
 unfold usF
 by_cases h1:0≤s
 ·by_cases h2:s<l.length
  ·have hy:=map_atI tkA l s h1 h2
   rw[decide_eq_true ⟨h1,h2⟩,Bool.true_and]
   (refine eN Tryz.func148 Tryz.call148 fun F hF=>?_)
   (refine WW ?_)
   exact fr0
  ·rw[decide_eq_false (by omega),Bool.false_and]
   (refine eN Tryz.func148 Tryz.call148 fun F hF=>?_)
   (refine WW ?_)
   exact fr0
 ·rw[decide_eq_false (by omega),Bool.false_and]
  (refine eN Tryz.func148 Tryz.call148 fun F hF=>?_)
  (refine WW ?_)
  exact fr0
def laF (a b:Int):Bool:=decide (b≠0∧(a=0∨b<a))
theorem later_c (a b:Int):CallSim Tryz.prog 213 [iA a,iA b] [] (bA (laF a b)) []:=by
 unfold laF
 by_cases h1:b=0<;>by_cases h2:a=0<;>by_cases h3:b<a<;>simp only[ne_eq,h1,h2,h3,not_true_eq_false,not_false_eq_true,and_true,and_false,true_and,false_and,or_true,true_or,or_false,decide_true,decide_false]<;>first|(exfalso;omega;done)|((refine eN Tryz.func213 Tryz.call213 fun F hF=>?_);(refine WW ?_);exact fr0)
theorem later2_c (a b:Int):CallSim Tryz.prog 206 [iA a,iA b] [] (bA (laF a b)) []:=by
 unfold laF
 by_cases h1:b=0<;>by_cases h2:a=0<;>by_cases h3:b<a<;>simp only[ne_eq,h1,h2,h3,not_true_eq_false,not_false_eq_true,and_true,and_false,true_and,false_and,or_true,true_or,or_false,decide_true,decide_false]<;>first|(exfalso;omega;done)|((refine eN Tryz.func206 Tryz.call206 fun F hF=>?_);(refine WW ?_);exact fr0)
def exF (t:Tk) (now:Int):Bool:=decide (t.til≠0∧t.til<now)
theorem expired_c (t:Tk) (now:Int):CallSim Tryz.prog 140 [tkA t,iA now] [] (bA (exF t now)) []:=by
 unfold exF
 by_cases h1:t.til=0<;>by_cases h2:t.til<now<;>simp only[ne_eq,h1,h2,not_true_eq_false,not_false_eq_true,and_true,and_false,decide_true,decide_false]<;>first|(exfalso;omega;done)|((refine eN Tryz.func140 Tryz.call140 fun F hF=>?_);(refine WW ?_);exact fr0)
def frT:Tk:=⟨false,[],-1,0,0,0⟩
theorem free_c:CallSim Tryz.prog 136 [] [] (tkA frT) []:=by
 (refine eN Tryz.func136 Tryz.call136 fun F hF=>?_)
 (refine WW ?_)
 exact fr0
end
section
set_option maxRecDepth 4000
set_option maxHeartbeats 1000000
theorem wk_take {α:Type} (f:α→AV) (l:List α):AV.sl false ((l.map f).take (l.map f).length)=slA f l:=by rw[List.take_length];rfl
def kpL {α:Type} (_:Nat) (l:List α):List α:=l
theorem cloneI_c (l:List Int) (hl:l.length≤1073741824):CallSim Tryz.prog 125 [slA iA l] [] (slA iA l) []:=by
 have hll:=map_len iA l
 (refine eN Tryz.func125 Tryz.call125 fun F hF=>?_)
 refine sim_nsplit 0 rfl (fun cap hx=>?_) ?_
 ·have:l=[]:=by simpa using hx
  subst this
  (refine WW ?_)
  exact fr0
 ·(refine WW ?_)
  refine fin_ret [] rfl rfl (wk_take _ _) rfl
theorem cloneY_c (l:List Int) (hl:l.length≤1073741824):CallSim Tryz.prog 84 [slA yA l] [] (slA yA l) []:=by
 have hll:=map_len yA l
 (refine eN Tryz.func84 Tryz.call84 fun F hF=>?_)
 refine sim_nsplit 0 rfl (fun cap hx=>?_) ?_
 ·have:l=[]:=by simpa using hx
  subst this
  (refine WW ?_)
  exact fr0
 ·(refine WW ?_)
  refine fin_ret [] rfl rfl (wk_take _ _) rfl
theorem cloneV_c (l:List Vh) (hl:l.length≤1073741824):CallSim Tryz.prog 127 [slA vhA l] [] (slA vhA l) []:=by
 have hll:=map_len vhA l
 (refine eN Tryz.func127 Tryz.call127 fun F hF=>?_)
 refine sim_nsplit 0 rfl (fun cap hx=>?_) ?_
 ·have:l=[]:=by simpa using hx
  subst this
  (refine WW ?_)
  exact fr0
 ·(refine WW ?_)
  refine fin_ret [] rfl rfl (wk_take _ _) rfl
theorem cloneT_own (l:List Tk) (hl:l.length≤1073741824):CallSim Tryz.prog 126 [slA tkA l] [] (.ref 1001 0 (l.map tkA).length) [(1001,.arr 6 (l.map tkA) false)]:=by
 have hll:=map_len tkA l
 (refine eN Tryz.func126 Tryz.call126 fun F hF=>?_)
 refine sim_nsplit 0 rfl (fun cap hx=>?_) ?_
 ·have:l=[]:=by simpa using hx
  subst this
  (repeat' (first|refine WZ ?_|refine SG (I2 (fun hc=>?_) (fun hc=>?_))|refine SG (fun hc=>?_)|(refine is_ops ?_;refine is_call ?_;fail)|(refine is_ops ?_;first|fail)|first|refine SN ?_|refine SK (I2 (fun hc=>?_) (fun hc=>?_))|refine SK (fun hc=>?_)|fail))
  refine sim_virtF 2 1001 6 rfl rfl rfl (sim_ret ?_)
  exact fin_own [1001] rfl rfl rfl rfl
 ·repeat' (first|(refine is_ops ?_;first|refine x_auto tok rfl rfl ?_|(refine is_bin ?_;refine x_q (stp_eqlNil_not tok (.inl ⟨rfl,rfl⟩) rfl rfl rfl rfl) rfl ?_)|(refine is_bsl ?_;refine x_w (nw:=[1001]) (stp_buildSlice tok 1001 (xs:=[]) rfl rfl rfl rfl rfl rfl rfl rfl rfl) rfl rfl rfl ?_)|(refine is_app ?_;refine x_appref0 tok rfl rfl rfl rfl rfl rfl rfl (map_hd _ _ (fun _=>rfl)) rfl rfl rfl (by omega) rfl ?_)|refine x_nil ?_)|(first|refine sim_seq ?_|refine x_region ?_|refine x_draw rfl ?_|refine sim_cond_true rfl ?_|refine sim_cond_false rfl ?_|refine sim_cond rfl (fun hc=>?_) (fun hc=>?_)|refine sim_skip ?_|refine sim_ret ?_|refine sim_exit ?_|refine sim_block ?_))
  exact fin_own [1001] rfl rfl rfl rfl
structure TkB (l:List Tk):Prop where
 n:l.length≤1000000
 s:∀t∈l,t.sec.length≤1000000
theorem set_at {α:Type} [Inhabited α] (f:α→AV) (l:List α) (i:Nat) (hi:i<l.length):(kpL i (l.map f)).set i (f (l.getD i default))=kpL (i+1) (l.map f):=by
 unfold kpL
 have:=map_at f l i hi
 rw[List.getElem?_eq_some_iff]at this
 obtain⟨h,e⟩:=this
 rw[←e,List.set_getElem_self]
theorem tclone_own (l:List Tk) (hb:TkB l):CallSim Tryz.prog 138 [slA tkA l] [] (.ref 1001 0 (l.map tkA).length) [(1001,.arr 6 (l.map tkA) false)]:=by
 have c:=cloneT_own l (by have:=hb.n;omega)
 have hn:=hb.n
 have hll:=map_len tkA l
 (refine eN Tryz.func138 Tryz.call138 fun F hF=>?_)
 (have zc1:=c;refine WW ?_;clear zc1)
 (refine sim_cnt ((l.map tkA).length) [1001] [] [3,8] [9,3,8] rfl (fun i T U=>⟨(9,iA i)::T,(1001,.arr 6 (kpL i (l.map tkA)) false)::U⟩) ?_;(conv=>whnf);refine⟨by rfl,?_,?_⟩)
 ·intro i hi
  have hi':i<l.length:=by omega
  have hy:(kpL i (l.map tkA))[i]? =some (tkA (l.getD i default)):=map_at tkA l i hi'
  have e:=set_at tkA l i hi'
  have c2:=cloneY_c (l.getD i default).sec (by have:=hb.s (l.getD i default) (by simp[List.getD,hi']);omega)
  generalize (l.getD i default)=t at*
  generalize kpL i (l.map tkA)=xs at*
  generalize kpL (i+1) (l.map tkA)=ys at*
  subst e
  (have zc1:=c2;refine WW ?_;clear zc1)
  rfl
 ·(refine WW ?_)
  exact fin_own [1001] rfl rfl rfl rfl
theorem cloneA_c (a:Ag) (h1:a.sec.length≤1000000) (h2:a.lim.length≤1000000):CallSim Tryz.prog 93 [agA a] [] (agA a) []:=by
 have c1:=cloneY_c a.sec (by omega)
 have c2:=cloneI_c a.lim (by omega)
 (refine eN Tryz.func93 Tryz.call93 fun F hF=>?_)
 (have zc1:=c1;have zc2:=c2;refine WW ?_;clear zc1 zc2)
 exact fr0
structure RgB (r:Rg):Prop where
 tk:TkB r.tk
 s:r.ag.sec.length≤1000000
 l:r.ag.lim.length≤1000000
 v:r.vh.length≤1000000
def rgX (r:Rg) (xs:List AV):AV:= .agg [iA r.num,slA yA r.ag.sec,iA r.ag.rights,iA r.ag.cls,slA iA r.ag.lim,iA r.ag.req,iA r.ag.ses,iA r.ag.rate,iA r.ag.burst,.sl false xs,slA vhA r.vh,iA r.bk.level,iA r.bk.rate,iA r.bk.burst]
theorem rclone_c (r:Rg) (hb:RgB r):CallSim Tryz.prog 102 [rgA r] [] (rgA r) []:=by
 have c1:=cloneA_c r.ag hb.s hb.l
 have hn:=hb.tk.n
 have hv:=hb.v
 have c2:=cloneT_own r.tk (by omega)
 have c3:=cloneV_c r.vh (by omega)
 have hll:=map_len tkA r.tk
 (refine eN Tryz.func102 Tryz.call102 fun F hF=>?_)
 (have zc1:=c1;have zc2:=c2;refine WW ?_;clear zc1 zc2)
 (refine sim_cnt ((r.tk.map tkA).length) [1001,1,2] [1,2] [1,2,14] [15,1,2,14] rfl (fun i T U=>⟨(15,iA i)::T,(1001,.arr 6 (kpL i (r.tk.map tkA)) false)::U⟩) ?_;(conv=>whnf);refine⟨by rfl,?_,?_⟩)
 ·intro i hi
  have hi':i<r.tk.length:=by omega
  have hy:(kpL i (r.tk.map tkA))[i]? =some (tkA (r.tk.getD i default)):=map_at tkA r.tk i hi'
  have e:=set_at tkA r.tk i hi'
  have c2:=cloneY_c (r.tk.getD i default).sec (by have:=hb.tk.s (r.tk.getD i default) (by simp[List.getD,hi']);omega)
  generalize (r.tk.getD i default)=t at*
  generalize kpL i (r.tk.map tkA)=xs at*
  generalize kpL (i+1) (r.tk.map tkA)=ys at*
  subst e
  (have zc1:=c2;refine WW ?_;clear zc1)
  rfl
 ·(have zc1:=c3;refine WW ?_;clear zc1)
  exact fin_ret [] rfl rfl (congrArg (rgX r) List.take_length) rfl
end
section
set_option maxRecDepth 4000
set_option maxHeartbeats 2000000
theorem RqV.lg3 {l:List Rq} (h:RqV l) {r:Rq} (hr:r∈l):1≤r.legs.length∧r.legs.length≤3:=by
 have:=vgF_len (h.ok r hr).lg
 omega
theorem RqV.filter {l:List Rq} (h:RqV l) (p:Rq→Bool):RqV (l.filter p):=
 ⟨fun r hr=>h.ok r (List.mem_filter.1 hr).1,h.so.filter p,Nat.le_trans (List.length_filter_le _ _) h.n4⟩
theorem cloneLg_c (l:List Lg) (hl:l.length≤1000):CallSim Tryz.prog 82 [slA lgA l] [] (slA lgA l) []:=by
 have hll:=map_len lgA l
 (refine eN Tryz.func82 Tryz.call82 fun F hF=>?_)
 refine sim_nsplit 0 rfl (fun cap hx=>?_) ?_
 ·have:l=[]:=by simpa using hx
  subst this
  (refine WW ?_)
  exact fr0
 ·(refine WW ?_)
  refine fin_ret [] rfl rfl (wk_take _ _) rfl
theorem qclone_c (r:Rq) (hl:r.legs.length≤1000):CallSim Tryz.prog 141 [rqA r] [] (rqA r) []:=by
 have c:=cloneLg_c r.legs hl
 have hll:=map_len lgA r.legs
 (refine eN Tryz.func141 Tryz.call141 fun F hF=>?_)
 (have zc1:=c;refine WW ?_;clear zc1)
 exact fr0
theorem filter_snoc (p:Rq→Bool) (pre:List Rq) (x:Rq):((pre++[x]).filter p).map rqA=(pre.filter p).map rqA++(if p x=true then [x]else []).map rqA:=by
 rw[List.filter_append,List.map_append]
 congr 2
 cases h:p x<;>simp[h]
theorem kept_c (fn:Nat) (v:Int) (p:Rq→Bool) (l:List Rq) (hn:l.length≤1000) (hb:∀r∈l,r.legs.length≤1000) (c:∀x,CallSim Tryz.prog fn [rqA x,.ptr 3 0 0] [(3,.box [iA v])] (bA (p x)) [(3,.box [iA v])]):
  CallSim Tryz.prog 105 [slA rqA l,.fn fn [.ptr 3 0 0]] [(3,.box [iA v])] (slA rqA (l.filter p)) [(3,.box [iA v])]:=by
 have hl:=map_len rqA l
 (refine eN Tryz.func105 Tryz.call105 fun F hF=>?_)
 (refine WW ?_)
 refine sim_virt 5 1001 5 rfl rfl rfl ?_
 (refine sim_rng (l) [1001,3] [3] [1,8,9] [5,10,1,8,9] rfl (fun i pre T U=>⟨(5,.ref 1001 0 ((pre.filter p).map rqA).length)::(10,iA i)::T,(1001,.arr 5 ((pre.filter p).map rqA) true)::U⟩) ?_;(conv=>whnf);refine⟨by rfl,?_,?_⟩)
 ·intro i pre x post hx hi
  have hy:=rng_at rqA hx hi
  have hlt:=rng_lt hx hi
  have hle:(pre.filter p).length≤i:=by rw[←hi];exact List.length_filter_le _ _
  have hlm:=map_len rqA (pre.filter p)
  have c1:=c x
  have c2:=qclone_c x (hb x (rng_mem hx))
  have e:=filter_snoc p pre x
  rw[e]
  clear hx e
  generalize (pre.filter p).map rqA=R at*
  cases h:p x with
  |false=>
   rw[h]at c1
   rw[if_neg Bool.false_ne_true]
   (have zc1:=c1;refine WW ?_;clear zc1)
   rw[List.map_nil,List.append_nil]
   rfl
  |true=>
   rw[h]at c1
   rw[if_pos rfl]
   (have zc1:=c1;have zc2:=c2;refine WW ?_;clear zc1 zc2)
   rfl
 ·(refine WW ?_)
  exact fin_own [3] rfl rfl (wk_take _ _) rfl
end
section
set_option maxRecDepth 4000
set_option maxHeartbeats 2000000
def ixF {α:Type} (p:α→Bool) (l:List α):Int:=if l.any p=true then(l.findIdx p:Int)else -1
theorem ixF_hit {α:Type} {p:α→Bool} {l pre post:List α} {x:α} (h:l=pre++x::post) (hn:∀y∈pre,p y=false) (hx:p x=true):ixF p l=(pre.length:Int):=by
 subst h
 have h1:(pre++x::post).any p=true:=by simp[hx]
 have h2:pre.findIdx p=pre.length:=List.findIdx_eq_length.2 (fun y hy=>by simpa using hn y hy)
 unfold ixF
 rw[if_pos h1,List.findIdx_append,h2,if_neg (by omega),List.findIdx_cons,hx]
 simp
theorem ixF_none {α:Type} {p:α→Bool} {l:List α} (hn:∀y∈l,p y=false):ixF p l= -1:=by
 unfold ixF
 rw[if_neg (by simpa using hn)]
theorem ixF_lt {α:Type} {p:α→Bool} {l:List α} (h:l.any p=true):0≤ixF p l∧ixF p l<l.length:=by
 unfold ixF
 rw[if_pos h]
 have:=List.findIdx_lt_length.2 (List.any_eq_true.1 h)
 omega
theorem qidx_c (id:Int) (x:Rq):CallSim Tryz.prog 200 [rqA x,.ptr 3 0 0] [(3,.box [iA id])] (bA (x.id==id)) [(3,.box [iA id])]:=by
 (refine eN Tryz.func200 Tryz.call200 fun F hF=>?_)
 (refine WW ?_)
 exact fin_own [3] rfl rfl rfl rfl
theorem qixf_c (id:Int) (l:List Rq) (hb:l.length≤1000):CallSim Tryz.prog 199 [slA rqA l,.fn 200 [.ptr 3 0 0]] [(3,.box [iA id])] (iA (ixF (fun r:Rq=>r.id==id) l)) [(3,.box [iA id])]:=by
 have hl:=map_len rqA l
 (refine eN Tryz.func199 Tryz.call199 fun F hF=>?_)
 (refine WW ?_)
 (refine sim_rngP (l) [3] [3] [0,1,7] [8,0,1,7] rfl (fun i pre T U zs=>(∀y∈pre,(y.id==id)=false)∧zs=⟨(8,iA i)::T,U⟩) ?_;(conv=>whnf);refine⟨?_,?_,?_⟩)
 ·exact⟨by simp,rfl⟩
 ·rintro i pre x post st hx hi ⟨hp,rfl⟩
  have hy:=rng_at rqA hx hi
  have hlt:=rng_lt hx hi
  have c:=qidx_c id x
  have hit:=ixF_hit (p:=fun r:Rq=>r.id==id) hx hp
  cases he:(x.id==id)<;>rw[he]at c
  ·clear hx hit
   (have zc1:=c;refine WW ?_;clear zc1)
   exact⟨fun y hy=>by simp only[List.mem_append,List.mem_singleton]at hy;rcases hy with hy|rfl;exact hp y hy;exact he,rfl⟩
  ·rw[hit he,hi]
   clear hx hit
   (have zc1:=c;refine WW ?_;clear zc1)
   exact fin_own [3] rfl rfl rfl rfl
 ·rintro st ⟨hp,rfl⟩
  rw[ixF_none hp]
  (refine WW ?_)
  exact fin_own [3] rfl rfl rfl rfl
theorem qindex_c (l:List Rq) (id:Int) (hb:l.length≤1000):CallSim Tryz.prog 165 [slA rqA l,iA id] [] (iA (ixF (fun r:Rq=>r.id==id) l)) []:=by
 have c:=qixf_c id l hb
 generalize ixF (fun r:Rq=>r.id==id) l=n at*
 (refine eN Tryz.func165 Tryz.call165 fun F hF=>?_)
 (have zc1:=c;refine WW ?_;clear zc1)
 exact fr0
theorem qexp_c (now:Int) (x:Rq):CallSim Tryz.prog 106 [rqA x,.ptr 3 0 0] [(3,.box [iA now])] (bA (decide (now≤x.til))) [(3,.box [iA now])]:=by
 cases hb:decide (now≤x.til)with
 |false=>
  rw[decide_eq_false_iff_not]at hb
  (refine eN Tryz.func106 Tryz.call106 fun F hF=>?_)
  (refine WW ?_)
  exact fin_own [3] rfl rfl rfl rfl
 |true=>
  rw[decide_eq_true_eq]at hb
  (refine eN Tryz.func106 Tryz.call106 fun F hF=>?_)
  (refine WW ?_)
  exact fin_own [3] rfl rfl rfl rfl
theorem qwit_c (v:Int) (x:Rq):CallSim Tryz.prog 159 [rqA x,.ptr 3 0 0] [(3,.box [iA v])] (bA (x.vh != v)) [(3,.box [iA v])]:=by
 (refine eN Tryz.func159 Tryz.call159 fun F hF=>?_)
 (refine WW ?_)
 exact fin_own [3] rfl rfl rfl rfl
theorem qcan_c (v:Int) (x:Rq):CallSim Tryz.prog 166 [rqA x,.ptr 3 0 0] [(3,.box [iA v])] (bA (x.id != v)) [(3,.box [iA v])]:=by
 (refine eN Tryz.func166 Tryz.call166 fun F hF=>?_)
 (refine WW ?_)
 exact fin_own [3] rfl rfl rfl rfl
def expQ (l:List Rq) (now:Int):List Rq:=l.filter fun x=>decide (now≤x.til)
def witQ (l:List Rq) (v:Int):List Rq:=l.filter fun x=>x.vh != v
def canQ (l:List Rq) (id:Int):List Rq:=l.filter fun x=>x.id != id
def hasQ (l:List Rq) (id:Int):Bool:=l.any fun x=>x.id==id
theorem expire_q (l:List Rq) (now:Int) (hv:RqV l):CallSim Tryz.prog 63 [slA rqA l,iA now] [] (slA rqA (expQ l now)) []:=by
 have h4:=hv.n4
 have c:=kept_c 106 now _ l (by omega) (fun r hr=>by have:=hv.lg3 hr;omega) (qexp_c now)
 unfold expQ
 generalize l.filter _=l2 at*
 (refine eN Tryz.func63 Tryz.call63 fun F hF=>?_)
 (have zc1:=c;refine WW ?_;clear zc1)
 exact fr0
theorem without_q (l:List Rq) (v:Int) (hv:RqV l):CallSim Tryz.prog 121 [slA rqA l,iA v] [] (slA rqA (witQ l v)) []:=by
 have h4:=hv.n4
 have c:=kept_c 159 v _ l (by omega) (fun r hr=>by have:=hv.lg3 hr;omega) (qwit_c v)
 unfold witQ
 generalize l.filter _=l2 at*
 (refine eN Tryz.func121 Tryz.call121 fun F hF=>?_)
 (have zc1:=c;refine WW ?_;clear zc1)
 exact fr0
theorem cancel_q (l:List Rq) (id:Int) (hv:RqV l):CallSim Tryz.prog 124 [slA rqA l,iA id] [] (.tup [slA rqA (if hasQ l id=true then canQ l id else []),iA (if hasQ l id=true then 0 else 12)]) []:=by
 have h4:=hv.n4
 have c1:=qvalid_c l 4 hv (by omega)
 have c2:=qindex_c l id (by omega)
 have c3:=kept_c 166 id _ l (by omega) (fun r hr=>by have:=hv.lg3 hr;omega) (qcan_c id)
 unfold canQ
 generalize l.filter _=l2 at*
 cases hh:hasQ l id with
 |true=>
  have hx:=ixF_lt (p:=fun x:Rq=>x.id==id) (l:=l) hh
  generalize ixF (fun x:Rq=>x.id==id) l=n at*
  rw[if_pos rfl,if_pos rfl]
  (refine eN Tryz.func124 Tryz.call124 fun F hF=>?_)
  (have zc1:=c1;have zc2:=c2;have zc3:=c3;refine WW ?_;clear zc1 zc2 zc3)
  exact fr0
 |false=>
  have hx:=ixF_none (p:=fun x:Rq=>x.id==id) (l:=l) (by simpa [hasQ]using hh)
  rw[hx]at c2
  rw[if_neg Bool.false_ne_true,if_neg Bool.false_ne_true]
  (refine eN Tryz.func124 Tryz.call124 fun F hF=>?_)
  (have zc1:=c1;have zc2:=c2;refine WW ?_;clear zc1 zc2)
  exact fr0
end
section
set_option maxRecDepth 4000
set_option maxHeartbeats 2000000
theorem copy2_q (l:List Rq) (hn:l.length≤1000) (hb:∀r∈l,r.legs.length≤1000):CallSim Tryz.prog 52 [slA rqA l] [] (slA rqA l) []:=by
 have hl:=map_len rqA l
 (refine eN Tryz.func52 Tryz.call52 fun F hF=>?_)
 (refine WW ?_)
 refine sim_virt 3 1001 5 rfl rfl rfl ?_
 (refine sim_rng (l) [1001] [] [6,7] [3,8,6,7] rfl (fun i pre T U=>⟨(3,.ref 1001 0 (pre.map rqA).length)::(8,iA i)::T,(1001,.arr 5 (pre.map rqA) true)::U⟩) ?_;(conv=>whnf);refine⟨by rfl,?_,?_⟩)
 ·intro i pre x post hx hi
  have hy:=rng_at rqA hx hi
  have hlt:=rng_lt hx hi
  have hpl:(pre.map rqA).length=i:=by rw[List.length_map,hi]
  have hs:=hb x (rng_mem hx)
  have hsl:=map_len lgA x.legs
  have e:(pre++[x]).map rqA=pre.map rqA++[rqA x]:=by simp
  clear hx
  rw[e]
  generalize pre.map rqA=xs at*
  generalize l.map rqA=ls at*
  (refine WL ?_)
  rfl
 ·(refine WL ?_)
  exact fin_ret [] rfl rfl (wk_take _ _) rfl
theorem rngf (p:Rq→Bool) {l pre post:List Rq} {x:Rq} {i:Nat} (_hx:l=pre++x::post) (hi:pre.length=i):(pre.filter p).length≤i:=by rw[←hi];exact List.length_filter_le _ _
theorem expire2_q (l:List Rq) (now:Int) (hv:RqV l):CallSim Tryz.prog 65 [slA rqA l,iA now] [] (slA rqA (expQ l now)) []:=by
 have h4:=hv.n4
 have hl:=map_len rqA l
 have c:=copy2_q (expQ l now) (by have:=(hv.filter fun x=>decide (now≤x.til)).n4;unfold expQ;omega) (fun r hr=>by have:=(hv.filter _).lg3 hr;omega)
 unfold expQ at*
 (refine eN Tryz.func65 Tryz.call65 fun F hF=>?_)
 (refine WW ?_)
 refine sim_virt 5 1001 5 rfl rfl rfl ?_
 (refine sim_rng (l) [1001] [] [1,8,9] [5,10,1,8,9] rfl (fun i pre T U=>⟨(5,.ref 1001 0 ((pre.filter fun x=>decide (now≤x.til)).map rqA).length)::(10,iA i)::T,(1001,.arr 5 ((pre.filter fun x=>decide (now≤x.til)).map rqA) true)::U⟩) ?_;(conv=>whnf);refine⟨by rfl,?_,?_⟩)
 ·intro i pre x post hx hi
  have hy:=rng_at rqA hx hi
  have hlt:=rng_lt hx hi
  have hle:=rngf (fun x=>decide (now≤x.til)) hx hi
  have hlm:=map_len rqA (pre.filter fun x=>decide (now≤x.til))
  have e:=filter_snoc (fun x=>decide (now≤x.til)) pre x
  rw[e]
  clear hx e
  generalize (pre.filter fun x=>decide (now≤x.til)).map rqA=R at*
  by_cases h:now≤x.til
  ·rw[if_pos (by simpa using h)]
   (refine WW ?_)
   rfl
  ·rw[if_neg (by simpa using h)]
   (refine WW ?_)
   rw[List.map_nil,List.append_nil]
   rfl
 ·(have zc1:=c;have zf1:=(⟨⟩:FzD 52 [] [23]);refine WW ?_;clear zc1 zf1)
  exact fr0
theorem without2_q (l:List Rq) (v:Int) (hv:RqV l):CallSim Tryz.prog 130 [slA rqA l,iA v] [] (slA rqA (witQ l v)) []:=by
 have h4:=hv.n4
 have hl:=map_len rqA l
 have c:=copy2_q (witQ l v) (by have:=(hv.filter fun x=>x.vh != v).n4;unfold witQ;omega) (fun r hr=>by have:=(hv.filter _).lg3 hr;omega)
 unfold witQ at*
 (refine eN Tryz.func130 Tryz.call130 fun F hF=>?_)
 (refine WW ?_)
 refine sim_virt 5 1001 5 rfl rfl rfl ?_
 (refine sim_rng (l) [1001] [] [1,8,9] [5,10,1,8,9] rfl (fun i pre T U=>⟨(5,.ref 1001 0 ((pre.filter fun x=>x.vh != v).map rqA).length)::(10,iA i)::T,(1001,.arr 5 ((pre.filter fun x=>x.vh != v).map rqA) true)::U⟩) ?_;(conv=>whnf);refine⟨by rfl,?_,?_⟩)
 ·intro i pre x post hx hi
  have hy:=rng_at rqA hx hi
  have hlt:=rng_lt hx hi
  have hle:=rngf (fun x=>x.vh != v) hx hi
  have hlm:=map_len rqA (pre.filter fun x=>x.vh != v)
  have e:=filter_snoc (fun x=>x.vh != v) pre x
  rw[e]
  clear hx e
  generalize (pre.filter fun x=>x.vh != v).map rqA=R at*
  by_cases h:x.vh≠v
  ·rw[if_pos (by simpa using h)]
   (refine WW ?_)
   rfl
  ·rw[if_neg (by simpa using h)]
   (refine WW ?_)
   rw[List.map_nil,List.append_nil]
   rfl
 ·(have zc1:=c;have zf1:=(⟨⟩:FzD 52 [] [23]);refine WW ?_;clear zc1 zf1)
  exact fr0
theorem can_none {l:List Rq} {id:Int} (h:hasQ l id=false):canQ l id=l:=by
 unfold canQ
 refine List.filter_eq_self.2 fun x hx=>?_
 have:¬x.id=id:=by
  intro e
  rw[show hasQ l id=true from List.any_eq_true.2 ⟨x,hx,by simpa using e⟩]at h
  cases h
 simpa using this
theorem can_some {l:List Rq} {id:Int} (h:hasQ l id=true):(canQ l id).length<l.length:=by
 unfold canQ
 obtain⟨x,hx,e⟩:=List.any_eq_true.1 h
 refine List.length_filter_lt_length_iff_exists.2 ⟨x,hx,?_⟩
 simpa using e
theorem cancel2_q (l:List Rq) (id:Int) (hv:RqV l):CallSim Tryz.prog 91 [slA rqA l,iA id] [] (.tup [slA rqA (if hasQ l id=true then canQ l id else []),iA (if hasQ l id=true then 0 else 12)]) []:=by
 have h4:=hv.n4
 have hl:=map_len rqA l
 have c1:=qvalid2_c l 4 hv (by omega)
 have c2:=copy2_q (canQ l id) (by have:=(hv.filter fun x=>x.id != id).n4;unfold canQ;omega) (fun r hr=>by have:=(hv.filter _).lg3 hr;omega)
 have hno:hasQ l id=false→(canQ l id).length=l.length:=fun h=>by rw[can_none h]
 have hso:=fun h=>can_some (l:=l) (id:=id) h
 have hlf:=map_len rqA (canQ l id)
 generalize hasQ l id=b at*
 unfold canQ at*
 (refine eN Tryz.func91 Tryz.call91 fun F hF=>?_)
 (have zc1:=c1;refine WW ?_;clear zc1)
 refine sim_virt 6 1001 5 rfl rfl rfl ?_
 (refine sim_rng (l) [1001] [] [0,1,12,13] [6,14,0,1,12,13] rfl (fun i pre T U=>⟨(6,.ref 1001 0 ((pre.filter fun x=>x.id != id).map rqA).length)::(14,iA i)::T,(1001,.arr 5 ((pre.filter fun x=>x.id != id).map rqA) true)::U⟩) ?_;(conv=>whnf);refine⟨by rfl,?_,?_⟩)
 ·intro i pre x post hx hi
  have hy:=rng_at rqA hx hi
  have hlt:=rng_lt hx hi
  have hle:=rngf (fun x=>x.id != id) hx hi
  have hlm:=map_len rqA (pre.filter fun x=>x.id != id)
  have e:=filter_snoc (fun x=>x.id != id) pre x
  rw[e]
  clear hx e
  generalize (pre.filter fun x=>x.id != id).map rqA=R at*
  by_cases h:x.id≠id
  ·rw[if_pos (show(x.id != id)=true by simpa using h)]
   (refine WW ?_)
   rfl
  ·rw[if_neg (show¬(x.id != id)=true by simpa using h)]
   (refine WW ?_)
   rw[List.map_nil,List.append_nil]
   rfl
 ·cases b with
  |false=>
   have hno:=hno rfl
   rw[if_neg Bool.false_ne_true,if_neg Bool.false_ne_true]
   (refine WW ?_)
   exact fr0
  |true=>
   have hso:=hso rfl
   rw[if_pos rfl,if_pos rfl]
   (have zc1:=c2;have zf1:=(⟨⟩:FzD 52 [] [32]);refine WW ?_;clear zc1 zf1)
   exact fr0
end
end Av
end Go.Proofs.YtaikgchmpieooaaGreat
