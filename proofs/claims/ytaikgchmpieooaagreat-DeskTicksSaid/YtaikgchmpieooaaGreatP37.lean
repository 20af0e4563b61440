/- Part 37: contracts of the functions, and what they rest upon. -/
import Derived.Test.YtaikgchmpieooaaGreatP36
import Derived.Test.YtaikgchmpieooaaGreatP34
import Derived.Test.YtaikgchmpieooaaGreatP30
namespace Go.Proofs.YtaikgchmpieooaaGreat
namespace Av
set_option linter.unusedSimpArgs false
set_option linter.unusedVariables false
section
set_option maxRecDepth 4000
set_option maxHeartbeats 2000000
def kdP (k:Int) (f:Nat):Prop:=(k=2∧f=3)∨(k=3∧f=1)∨(k=4∧f=2)∨(k=5∧f=1)
def mvP (m:Ms) (f:Nat):Prop:=m.tok.length=10∧m.data=[]∧m.args.length=f∧∀i,i<f→nmB (m.args.getD i default)=true
theorem mvalid_x (m:Ms) (hm:MsB m):∃b:Bool,CallSim Tryz.prog 152 [msA m] [] (bA b) []∧∀f,kdP m.kind f→(b=true↔mvP m f):=by
 obtain⟨xs,e,he,c,h⟩:=encode_x m hm
 rcases he with rfl|rfl
 ·refine⟨true,?_,fun f hf=>⟨fun _=>(h f hf).1 rfl,fun _=>rfl⟩⟩
  clear h
  (refine eN Tryz.func152 Tryz.call152 fun F hF=>?_)
  (have zc1:=c;refine WW ?_;clear zc1)
  exact fr0
 ·refine⟨false,?_,fun f hf=>⟨fun h1=>absurd h1 Bool.false_ne_true,fun h1=>absurd ((h f hf).2 h1) (by decide)⟩⟩
  clear h
  (refine eN Tryz.func152 Tryz.call152 fun F hF=>?_)
  (have zc1:=c;refine WW ?_;clear zc1)
  exact fr0
def rbN:Nat→Int→List Int
 |0,n=>[n]
 |z+1,n=>if 128≤n then(n % 128+128)::rbN z (n/128)else [n]
theorem rbN_len:∀z n,(rbN z n).length≤z+1
 |0,n=>Nat.le_refl _
 | z+1,n=>by
  unfold rbN
  split
  ·have:=rbN_len z (n/128)
   simp only[List.length_cons];omega
  ·simp
theorem rbN_end (z:Nat) (n:Int) (h:n<128):rbN z n=[n]:=by
 cases z with
 |zero=>rfl
 |succ z=>unfold rbN;rw[if_neg (by omega)]
def szN:Nat→Int→Int
 |0,_=>0
 |z+1,n=>if 128≤n then 1+szN z (n/128)else 0
theorem szN_le:∀z n,0≤szN z n∧szN z n≤z
 |0,n=>⟨Int.le_refl _,Int.le_refl _⟩
 | z+1,n=>by
  unfold szN
  split
  ·have:=szN_le z (n/128)
   omega
  ·omega
theorem szN_end (z:Nat) (n:Int) (h:n<128):szN z n=0:=by
 cases z with
 |zero=>rfl
 |succ z=>unfold szN;rw[if_neg (by omega)]
theorem quo128 (x:Int) (h0:0≤x) (h1:x≤4294967295):x.tdiv 128=x/128∧InR .i64 (x.tdiv 128):=by
 have e:=Int.tdiv_eq_ediv_of_nonneg (a:=x) (b:=128) h0
 refine⟨e,?_⟩
 rw[e]
 exact⟨by show(-9223372036854775808:Int)≤_;omega,by show _≤(9223372036854775807:Int);omega⟩
theorem size2_c (n:Int) (h1:0≤n) (h2:n≤4294967295):∃k:Int,1≤k∧CallSim Tryz.prog 137 [iA n] [] (iA k) []:=by
 refine⟨1+szN 5 n,by have:=szN_le 5 n;omega,?_⟩
 have hs5:=szN_le 5 n
 (refine eN Tryz.func137 Tryz.call137 fun F hF=>?_)
 (refine WW ?_)
 (refine sim_whl (5) [] [] [] [0,3] rfl (fun zn T U zs=>∃(x:Int) (k:Int),(0≤x∧x≤4294967295∧x<P7 zn*128∧k+szN zn x=1+szN 5 n∧1≤k)∧zs=⟨(0,iA x)::(3,iA k)::T,U⟩) ?_;(conv=>whnf);refine⟨?_,?_⟩)
 ·exact⟨n,1,⟨h1,h2,by show n<34359738368*128;omega,rfl,Int.le_refl _⟩,rfl⟩
 ·rintro zn st ⟨x,k,⟨b1,b1',b2,b3,b4⟩,rfl⟩
  by_cases hx:128≤x
  ·have hz:zn≠0:=fun e=>by
    subst e
    have:P7 0=1:=rfl
    omega
   obtain⟨z,rfl⟩:∃z,zn=z+1:=⟨zn-1,by omega⟩
   obtain⟨e,hq⟩:=quo128 x b1 b1'
   have hP:P7 (z+1)=128*P7 z:=rfl
   have e2:szN (z+1) x=1+szN z (x/128):=by
    show(if 128≤x then _ else _)=_
    rw[if_pos hx]
   rw[e2,←e]at b3
   have hx2:0≤x.tdiv 128∧x.tdiv 128≤4294967295∧x.tdiv 128<P7 z*128:=by rw[e];rw[hP]at b2;omega
   have hk6:=szN_le z (x.tdiv 128)
   clear e2 hP e b2
   (refine WW ?_)
   exact⟨z,by omega,x.tdiv 128,k+1,⟨hx2.1,hx2.2.1,hx2.2.2,by omega,by omega⟩,rfl⟩
  ·rw[szN_end zn x (by omega),Int.add_zero]at b3
   rw[←b3]
   (refine WW ?_)
   exact fr0
theorem enc2_c (n:Int) (h1:0≤n) (h2:n≤4294967295):CallSim Tryz.prog 100 [iA n] [] (.tup [slA yA (rbN 5 n),iA 0]) []:=by
 obtain⟨k,hk,c⟩:=size2_c n h1 h2
 (refine eN Tryz.func100 Tryz.call100 fun F hF=>?_)
 (have zc1:=c;refine WW ?_;clear zc1)
 refine sim_virt 4 1001 1 rfl rfl rfl ?_
 (refine sim_whl (5) [1001] [] [] [0,4] rfl (fun zn T U zs=>∃(acc:List Int) (x:Int),(0≤x∧x≤4294967295∧x<P7 zn*128∧acc++rbN zn x=rbN 5 n∧acc.length≤100)∧zs=⟨(0,iA x)::(4,.ref 1001 0 (acc.map yA).length)::T,(1001,.arr 1 (acc.map yA) true)::U⟩) ?_;(conv=>whnf);refine⟨?_,?_⟩)
 ·exact⟨[],n,⟨h1,h2,by show n<34359738368*128;omega,rfl,by simp⟩,rfl⟩
 ·rintro zn st ⟨acc,x,⟨b1,b1',b2,b3,b4⟩,rfl⟩
  have hla:=map_len yA acc
  by_cases hx:128≤x
  ·have hz:zn≠0:=fun e=>by
    subst e
    have:P7 0=1:=rfl
    omega
   obtain⟨z,rfl⟩:∃z,zn=z+1:=⟨zn-1,by omega⟩
   obtain⟨e,hq⟩:=quo128 x b1 b1'
   have e9:=Int.tmod_eq_emod_of_nonneg (a:=x) (b:=128) b1
   have hP:P7 (z+1)=128*P7 z:=rfl
   have e2:rbN (z+1) x=(x % 128+128)::rbN z (x/128):=by
    show(if 128≤x then _ else _)=_
    rw[if_pos hx]
   rw[e2]at b3
   have hm:(acc++[x.tmod 128+128]).map yA=acc.map yA++[yA (x.tmod 128+128)]:=by simp
   have hb5:acc++[x.tmod 128+128]++rbN z (x.tdiv 128)=rbN 5 n:=by rw[e,e9,List.append_assoc];exact b3
   have hr9:0≤x.tmod 128∧x.tmod 128≤127:=by rw[e9];omega
   have hx2:0≤x.tdiv 128∧x.tdiv 128≤4294967295∧x.tdiv 128<P7 z*128:=by rw[e];rw[hP]at b2;omega
   have hlc:acc.length+1≤100:=by
    have h6:=congrArg List.length b3
    have h7:=rbN_len 5 n
    simp only[List.length_append,List.length_cons]at h6
    omega
   clear e2 b3 hP e e9
   (refine WW ?_)
   exact⟨z,by omega,acc++[x.tmod 128+128],x.tdiv 128,⟨hx2.1,hx2.2.1,hx2.2.2,hb5,by simpa using hlc⟩,by rw[hm];rfl⟩
  ·rw[rbN_end zn x (by omega)]at b3
   rw[←b3]
   have hm:slA yA (acc++[x])= .sl false ((acc.map yA++[yA (x)]).take (acc.map yA++[yA (x)]).length):=by rw[List.take_length];unfold slA;rw[List.map_append];rfl
   rw[hm]
   (refine WW ?_)
   exact fr0
def qyN (tok args:List Int):Nat→List Int
 |0=>tok
 |i+1=>qyN tok args i++rbN 5 (args.getD i default)
theorem qyN_len (tok args:List Int):∀i,(qyN tok args i).length≤tok.length+6*i
 |0=>by show tok.length≤_;omega
 |i+1=>by
  have:=qyN_len tok args i
  have h2:=rbN_len 5 (args.getD i default)
  unfold qyN
  simp only[List.length_append];omega
def r5A (f:Int):AV:= .agg [iA f,iA 0,iA 0,iA 0,iA 0]
theorem r5of_c (k:Int) (f:Nat) (hf:kdP k f):CallSim Tryz.prog 56 [iA k] [] (r5A f) []:=by
 rcases hf with⟨rfl,rfl⟩|⟨rfl,rfl⟩|⟨rfl,rfl⟩|⟨rfl,rfl⟩
 all_goals
  (refine eN Tryz.func56 Tryz.call56 fun F hF=>?_)
  (refine WW ?_)
  exact fr0
theorem r5for_c (k:Int) (h1:1≤k) (h2:k≤12):CallSim Tryz.prog 46 [iA k] [] (bA true) []:=by
 (refine eN Tryz.func46 Tryz.call46 fun F hF=>?_)
 (refine WW ?_)
 exact fr0
theorem r5pay_c (m:Ms) (f:Nat) (hf:kdP m.kind f) (h:mvP m f):∃xs:List AV,xs.length≤200∧CallSim Tryz.prog 59 [msA m] [] (.sl false xs) []:=by
 obtain⟨h1,h2,h3,h4⟩:=h
 have c1:=r5of_c m.kind f hf
 have hf3:f≤3∧1≤f:=by unfold kdP at hf;omega
 obtain⟨mk,tk,ar,da⟩:=m
 dsimp only at*
 subst h2
 have hQ:=qyN_len tk ar
 refine⟨((qyN tk ar f).map yA++[]).take ((qyN tk ar f).map yA++[]).length,by have:=hQ f;simp;omega,?_⟩
 have hlt:=map_len yA tk
 have hla:=map_len iA ar
 have hq0:qyN tk ar 0=tk:=rfl
 have hqS:∀i:Nat,qyN tk ar (i+1)=qyN tk ar i++rbN 5 (ar.getD i default):=fun _=>rfl
 generalize qyN tk ar=qy at*
 rw[show msA ⟨mk,tk,ar,[]⟩= .agg [iA mk,slA yA tk,slA iA ar,slA yA []]from rfl]
 rw[show r5A f= .agg [iA f,iA 0,iA 0,iA 0,iA 0]from rfl]at c1
 clear hf
 (refine eN Tryz.func59 Tryz.call59 fun F hF=>?_)
 (have zc1:=c1;(repeat' (first|refine WZ ?_|refine SG (I2 (fun hc=>?_) (fun hc=>?_))|refine SG (fun hc=>?_)|(refine is_ops ?_;refine is_call ?_;refine SC ?_)|(refine is_ops ?_;first|(refine is_app ?_;refine x_appnilK 1001 tok rfl rfl rfl rfl rfl rfl (map_hd _ _ (fun _=>rfl)) rfl rfl rfl (by omega) rfl rfl rfl ?_))|first|refine SR ?_|refine SK (I2 (fun hc=>?_) (fun hc=>?_))|refine SK (fun hc=>?_)|fail))<;>clear zc1)
 refine sim_stale 1001 rfl ?_
 (refine sim_cntP (ar.length) [1001,1,3] [1,3] [1,3,16,17] [4,18,1,3,16,17] rfl (fun i T U zs=>(i≤ar.length)∧zs=⟨(4,.ref 1001 0 ((qy i).map yA).length)::(18,iA i)::T,(1001,.arr 1 ((qy i).map yA) true)::U⟩) ?_;(conv=>whnf);refine⟨?_,?_,?_⟩)
 ·refine⟨Nat.zero_le _,?_⟩
  rw[hq0];rfl
 ·rintro i st' hi ⟨hik,rfl⟩
  have hn:=h4 i (by omega)
  unfold nmB at hn
  rw[decide_eq_true_eq]at hn
  have cv:=enc2_c (ar.getD i default) hn.1 hn.2
  have hy:=map_at iA ar i hi
  have hbl:=hQ i
  have hlp:=map_len yA (qy i)
  have hlv:=map_len yA (rbN 5 (ar.getD i default))
  have hvv:=rbN_len 5 (ar.getD i default)
  have hmS:(qy (i+1)).map yA=(qy i).map yA++(rbN 5 (ar.getD i default)).map yA:=by rw[hqS,List.map_append]
  rw[hmS]
  clear hqS hQ hq0 hmS c1 hn h4
  generalize (qy i).map yA=A at*
  generalize rbN 5 (ar.getD i default)=V at*
  generalize ar.getD i default=a at*
  (have zc1:=cv;refine WW ?_;clear zc1)
  exact⟨by omega,rfl⟩
 ·rintro st' ⟨hik,rfl⟩
  subst h3
  have hbl:=hQ ar.length
  have hlp:=map_len yA (qy ar.length)
  clear hqS hQ hq0 h4 c1
  generalize (qy ar.length).map yA=A at*
  have hl0:(([]:List Int).map yA).length=0:=rfl
  (refine WW ?_)
  exact fr0
theorem r5valid_x (m:Ms) (hm:MsB m) (f:Nat) (hf:kdP m.kind f):∃b:Bool,CallSim Tryz.prog 58 [msA m] [] (bA b) []∧(b=true↔mvP m f):=by
 have c1:=r5of_c m.kind f hf
 have hk:2≤m.kind∧m.kind≤5:=by unfold kdP at hf;omega
 have c2:=r5for_c m.kind (by omega) (by omega)
 have cp:=r5pay_c m f hf
 have b1:=hm.t
 have b2:=hm.a
 have b3:=hm.d
 have hlt:=map_len yA m.tok
 have hla:=map_len iA m.args
 have hld:=map_len yA m.data
 have hf3:f≤3∧1≤f:=by unfold kdP at hf;omega
 rw[show r5A f= .agg [iA f,iA 0,iA 0,iA 0,iA 0]from rfl]at c1
 by_cases h1:m.tok.length=10
 case neg=>
  refine⟨false,?_,fun h=>absurd h Bool.false_ne_true,fun h=>absurd h.1 h1⟩
  clear cp
  (refine eN Tryz.func58 Tryz.call58 fun F hF=>?_)
  (have zc1:=c1;have zc2:=c2;refine WW ?_;clear zc1 zc2)
  exact fr0
 by_cases h2:m.args.length=f
 case neg=>
  refine⟨false,?_,fun h=>absurd h Bool.false_ne_true,fun h=>absurd h.2.2.1 h2⟩
  clear cp
  (refine eN Tryz.func58 Tryz.call58 fun F hF=>?_)
  (have zc1:=c1;have zc2:=c2;refine WW ?_;clear zc1 zc2)
  exact fr0
 by_cases h3:m.data.length=0
 case neg=>
  refine⟨false,?_,fun h=>absurd h Bool.false_ne_true,fun h=>absurd (by rw[h.2.1];rfl) h3⟩
  clear cp
  (refine eN Tryz.func58 Tryz.call58 fun F hF=>?_)
  (have zc1:=c1;have zc2:=c2;refine WW ?_;clear zc1 zc2)
  exact fr0
 have h3:=List.eq_nil_of_length_eq_zero h3
 rcases loopN m.args m.args.length (Nat.le_refl _)with⟨k,hk1,hk2,hk3⟩|hall
 ·refine⟨false,?_,fun h=>absurd h Bool.false_ne_true,fun h=>?_⟩
  case refine_2=>
   have:=h.2.2.2 k (by omega)
   rw[hk2]at this
   cases this
  clear cp
  (refine eN Tryz.func58 Tryz.call58 fun F hF=>?_)
  (have zc1:=c1;have zc2:=c2;refine WW ?_;clear zc1 zc2)
  (refine sim_cntP (m.args.length) [1] [1] [1,97,98] [99,1,97,98] rfl (fun i T U zs=>(i≤k)∧zs=⟨(99,iA i)::T,U⟩) ?_;(conv=>whnf);refine⟨?_,?_,?_⟩)
  ·exact⟨Nat.zero_le _,rfl⟩
  ·rintro i st' hi ⟨hik,rfl⟩
   have hy:=map_at iA m.args i hi
   by_cases e:i=k
   ·subst e
    unfold nmB at hk2
    rw[decide_eq_false_iff_not]at hk2
    generalize m.args.getD i default=a at*
    by_cases g1:0≤a
    ·have g2:¬a≤4294967295:=fun h=>hk2 ⟨g1,h⟩
     clear hk2
     (refine WW ?_)
     exact fr0
    ·clear hk2
     (refine WW ?_)
     exact fr0
   ·have hn:=hk3 i (by omega)
    unfold nmB at hn
    rw[decide_eq_true_eq]at hn
    obtain⟨hn1,hn2⟩:=hn
    clear hk2 hk3
    generalize m.args.getD i default=a at*
    (refine WW ?_)
    exact⟨by omega,rfl⟩
  ·rintro st' ⟨hik,rfl⟩
   exfalso;omega
 ·have hok:mvP m f:=⟨h1,h3,h2,fun i hi=>hall i (by omega)⟩
  obtain⟨xs,hx,c3⟩:=cp hok
  refine⟨true,?_,fun _=>hok,fun _=>rfl⟩
  clear hok cp
  rw[show msA m= .agg [iA m.kind,slA yA m.tok,slA iA m.args,slA yA m.data]from rfl]at*
  (refine eN Tryz.func58 Tryz.call58 fun F hF=>?_)
  (have zc1:=c1;have zc2:=c2;refine WW ?_;clear zc1 zc2)
  (refine sim_cnt (m.args.length) [1] [1] [1,97,98] [99,1,97,98] rfl (fun i T U=>⟨(99,iA i)::T,U⟩) ?_;(conv=>whnf);refine⟨by rfl,?_,?_⟩)
  ·intro i hi
   have hy:=map_at iA m.args i hi
   have hn:=hall i hi
   unfold nmB at hn
   rw[decide_eq_true_eq]at hn
   obtain⟨hn1,hn2⟩:=hn
   clear hall
   generalize m.args.getD i default=a at*
   (refine WW ?_)
   rfl
  ·(have zc1:=c3;refine WW ?_;clear zc1)
   exact fr0
end
section
set_option maxRecDepth 4000
set_option maxHeartbeats 1000000
theorem place_ex (l:List Vh) (id:Int):∃k,k≤l.length∧(∀i,i<k→(l.getD i default).id<id)∧(k<l.length→¬(l.getD k default).id<id):=by
 induction l with
 |nil=>exact⟨0,Nat.le_refl _,fun i h=>absurd h (Nat.not_lt_zero _),fun h=>absurd h (by simp)⟩
 | cons x l ih=>
  obtain⟨k,h1,h2,h3⟩:=ih
  by_cases hx:x.id<id
  ·refine⟨k+1,by simpa using h1,fun i hi=>?_,fun hk=>?_⟩
   ·cases i with
    |zero=>exact hx
    |succ i=>exact h2 i (by omega)
   ·exact h3 (by simpa using hk)
  ·exact⟨0,Nat.zero_le _,fun i h=>absurd h (Nat.not_lt_zero _),fun _=>hx⟩
theorem vv_at {l:List Vh}:vvF l=true↔l.length≤8∧∀i,i<l.length→(0≤(l.getD i default).id∧(l.getD i default).id≤4294967295∧0≤(l.getD i default).cls∧(l.getD i default).cls≤3)∧(0<i→(l.getD (i-1) default).id<(l.getD i default).id):=by
 unfold vvF
 simp only[Bool.and_eq_true,decide_eq_true_eq,List.all_eq_true,List.mem_range]
 constructor
 ·rintro⟨h1,h2⟩
  refine⟨by omega,fun i hi=>?_⟩
  have:=h1 i hi
  unfold vokF at this
  rw[decide_eq_true_eq]at this
  exact⟨⟨this.1,this.2.1,this.2.2.1,this.2.2.2.1⟩,this.2.2.2.2⟩
 ·rintro⟨h1,h2⟩
  refine⟨fun i hi=>?_,by omega⟩
  unfold vokF
  rw[decide_eq_true_eq]
  have:=h2 i hi
  exact⟨this.1.1,this.1.2.1,this.1.2.2.1,this.1.2.2.2,this.2⟩
end
section
set_option maxRecDepth 4000
set_option maxHeartbeats 1000000
theorem rwithin_c (n a b:Int):CallSim Tryz.prog 224 [iA n,iA a,iA b] [] (bA (inF n a b)) []:=by
 (cases hb:inF n a b with|false=>((refine eN Tryz.func224 Tryz.call224 fun F hF=>?_);((refine WW (I2 (fun hc=>?_) (fun hc=>?_))));all_goals (first|exact fr0|(simp only[inF,decide_eq_false_iff_not]at hb;first|(exfalso;omega)|(apply fin_bool;(exact fr0);simp only[cmpB,decide_eq_false_iff_not,decide_eq_true_eq,beq_eq_false_iff_ne,bne_eq_false_iff_eq,beq_iff_eq,bne_iff_ne,ne_eq];omega))))|true=>(simp only[inF,decide_eq_true_eq]at hb;(refine eN Tryz.func224 Tryz.call224 fun F hF=>?_);((refine WW ?_));all_goals (first|exact fr0|(exfalso;omega)|(apply fin_bool;(exact fr0);simp only[cmpB,decide_eq_false_iff_not,decide_eq_true_eq,beq_eq_false_iff_ne,bne_eq_false_iff_eq,beq_iff_eq,bne_iff_ne,ne_eq];omega))))
def avL (a:Ag):Bool:=a.lim.all fun n=>inF n 0 8
def avF (a:Ag):Bool:=decide ((a.sec.length:Int)=8∧(a.lim.length:Int)=4)&&(avL a&&(inF a.rights 0 63&&(inF a.cls 0 3&&(inF a.req 0 4&&(inF a.ses 1 2&&(inF a.burst 0 1000&&inF a.rate 0 a.burst))))))
theorem avL_t {a:Ag} (h:∀s:Nat,s<a.lim.length→inF (a.lim.getD s default) 0 8=true):avL a=true:=by
 unfold avL
 rw[List.all_eq_true]
 intro x hx
 obtain⟨i,hi,rfl⟩:=List.getElem_of_mem hx
 have:=h i hi
 simpa [List.getD,hi]using this
theorem avL_f {a:Ag} {i:Nat} (hi:i<a.lim.length) (h:inF (a.lim.getD i default) 0 8=false):avL a=false:=by
 unfold avL
 rw[List.all_eq_false]
 exact⟨a.lim.getD i default,by simp[List.getD,hi],by rw[h];decide⟩
theorem pagency_x (a:Ag):CallSim Tryz.prog 183 [agA a] [] (bA (avF a)) []:=by
 have hs:=map_len yA a.sec
 have hl:=map_len iA a.lim
 have c1:=pwithin_c a.rights 0 63
 have c2:=pwithin_c a.cls 0 3
 have c3:=pwithin_c a.req 0 4
 have c4:=pwithin_c a.ses 1 2
 have c5:=pwithin_c a.burst 0 1000
 have c6:=pwithin_c a.rate 0 a.burst
 by_cases h1:(a.sec.length:Int)=8∧(a.lim.length:Int)=4
 case neg=>
  have e:avF a=false:=by unfold avF;rw[decide_eq_false h1];rfl
  rw[e]
  by_cases g1:(a.sec.length:Int)=8
  ·(refine eN Tryz.func183 Tryz.call183 fun F hF=>?_)
   (refine WW ?_)
   exact fr0
  ·(refine eN Tryz.func183 Tryz.call183 fun F hF=>?_)
   (refine WW ?_)
   exact fr0
 obtain⟨h1,h2⟩:=h1
 have e:avF a=(avL a&&(inF a.rights 0 63&&(inF a.cls 0 3&&(inF a.req 0 4&&(inF a.ses 1 2&&(inF a.burst 0 1000&&inF a.rate 0 a.burst)))))):=by
  unfold avF
  rw[decide_eq_true ⟨h1,h2⟩,Bool.true_and]
 rw[e]
 (refine eN Tryz.func183 Tryz.call183 fun F hF=>?_)
 (refine WW ?_)
 (refine sim_cntP (a.lim.length) [1] [1] [1,16,17] [18,1,16,17] rfl (fun i T U zs=>(∀s:Nat,s<i→inF (a.lim.getD s default) 0 8=true)∧zs=⟨(18,iA i)::T,U⟩) ?_;(conv=>whnf);refine⟨?_,?_,?_⟩)
 ·exact⟨fun s hs=>absurd hs (Nat.not_lt_zero _),rfl⟩
 ·rintro i st hi ⟨hp,rfl⟩
  have hy:=map_at iA a.lim i hi
  have c:=pwithin_c (a.lim.getD i default) 0 8
  cases hq:inF (a.lim.getD i default) 0 8 with
  | true=>
   rw[hq]at c
   have hp2:∀s:Nat,s<i+1→inF (a.lim.getD s default) 0 8=true:=fun s hs=>by
    by_cases hsi:s=i
    ·subst hsi;assumption
    ·exact hp s (by omega)
   clear hq hp
   generalize hx:a.lim.getD i default=x at*
   clear hx
   (have zc1:=c;refine WW ?_;clear zc1)
   exact⟨hp2,rfl⟩
  |false=>
   rw[hq]at c
   rw[avL_f hi hq,Bool.false_and]
   generalize a.lim.getD i default=x at*
   (have zc1:=c;refine WW ?_;clear zc1)
   exact fr0
 ·rintro st ⟨hp,rfl⟩
  rw[avL_t hp,Bool.true_and]
  clear hp
  generalize inF a.rights 0 63=q1 at*
  generalize inF a.cls 0 3=q2 at*
  generalize inF a.req 0 4=q3 at*
  generalize inF a.ses 1 2=q4 at*
  generalize inF a.burst 0 1000=q5 at*
  generalize inF a.rate 0 a.burst=q6 at*
  cases q1
  ·(have zc1:=c1;refine WW ?_;clear zc1)
   exact fr0
  cases q2
  ·(have zc1:=c1;have zc2:=c2;refine WW ?_;clear zc1 zc2)
   exact fr0
  cases q3
  ·(have zc1:=c1;have zc2:=c2;have zc3:=c3;refine WW ?_;clear zc1 zc2 zc3)
   exact fr0
  cases q4
  ·(have zc1:=c1;have zc2:=c2;have zc3:=c3;have zc4:=c4;refine WW ?_;clear zc1 zc2 zc3 zc4)
   exact fr0
  cases q5
  ·(have zc1:=c1;have zc2:=c2;have zc3:=c3;have zc4:=c4;have zc5:=c5;refine WW ?_;clear zc1 zc2 zc3 zc4 zc5)
   exact fr0
  ·(have zc1:=c1;have zc2:=c2;have zc3:=c3;have zc4:=c4;have zc5:=c5;have zc6:=c6;refine WW ?_;clear zc1 zc2 zc3 zc4 zc5 zc6)
   exact fr0
theorem vvalid_x (l:List Vh) (hn:l.length≤1000000):CallSim Tryz.prog 185 [slA vhA l] [] (bA (vvF l)) []:=by
 have hl:=map_len vhA l
 by_cases h8:(l.length:Int)≤8
 case neg=>
  have e:vvF l=false:=by unfold vvF;rw[decide_eq_false h8,Bool.and_false]
  rw[e]
  (refine eN Tryz.func185 Tryz.call185 fun F hF=>?_)
  (refine WW ?_)
  exact fr0
 (refine eN Tryz.func185 Tryz.call185 fun F hF=>?_)
 (refine WW ?_)
 (refine sim_cntP (l.length) [] [] [0,8,9] [10,0,8,9] rfl (fun i T U zs=>(∀s:Nat,s<i→vokF l s=true)∧zs=⟨(10,iA i)::T,U⟩) ?_;(conv=>whnf);refine⟨?_,?_,?_⟩)
 ·exact⟨fun s hs=>absurd hs (Nat.not_lt_zero _),rfl⟩
 ·rintro i st hi ⟨hp,rfl⟩
  have next:vokF l i=true→∀s:Nat,s<i+1→vokF l s=true:=fun h s hs=>by
   by_cases hsi:s=i
   ·subst hsi;exact h
   ·exact hp s (by omega)
  have stop:=fun h=>vvF_no (l:=l) hi h
  have hy:=map_at vhA l i hi
  have htok:vokF l i=_:=rfl
  conv at htok=>rhs;unfold vokF
  by_cases hi0:0<i
  ·have hyp:=map_atI vhA l ((i:Int)-1) (by omega) (by omega)
   rw[show((i:Int)-1).toNat=i-1 by omega]at hyp
   have hyq:(l.map vhA)[((i:Int)-1).toNat]? =some (vhA (l.getD (i-1) default)):=by rw[show((i:Int)-1).toNat=i-1 by omega];exact hyp
   clear hyp
   generalize l.getD i default=t at*
   generalize l.getD (i-1) default=p at*
   generalize vokF l i=tk at*
   by_cases h1:0≤t.id∧t.id≤4294967295∧0≤t.cls∧t.cls≤3∧p.id<t.id
   ·obtain⟨h1,h2,h3,h4,h5⟩:=h1
    rw[decide_eq_true ⟨h1,h2,h3,h4,fun _=>h5⟩]at htok
    (refine WW ?_)
    exact⟨next htok,rfl⟩
   ·rw[decide_eq_false (fun h=>h1 ⟨h.1,h.2.1,h.2.2.1,h.2.2.2.1,h.2.2.2.2 hi0⟩)]at htok
    rw[stop htok]
    by_cases g1:0≤t.id<;>by_cases g2:t.id≤4294967295<;>by_cases g3:0≤t.cls<;>by_cases g4:t.cls≤3<;>by_cases g5:p.id<t.id<;>first|(exfalso;exact h1 ⟨g1,g2,g3,g4,g5⟩)|(exfalso;omega;done)|(clear h1;((refine WW ?_));exact fr0)
  ·obtain rfl:i=0:=by omega
   generalize l.getD 0 default=t at*
   generalize vokF l 0=tk at*
   by_cases h1:0≤t.id∧t.id≤4294967295∧0≤t.cls∧t.cls≤3
   ·obtain⟨h1,h2,h3,h4⟩:=h1
    rw[decide_eq_true ⟨h1,h2,h3,h4,fun h=>absurd h hi0⟩]at htok
    (refine WW ?_)
    exact⟨next htok,rfl⟩
   ·rw[decide_eq_false (fun h=>h1 ⟨h.1,h.2.1,h.2.2.1,h.2.2.2.1⟩)]at htok
    rw[stop htok]
    by_cases g1:0≤t.id<;>by_cases g2:t.id≤4294967295<;>by_cases g3:0≤t.cls<;>by_cases g4:t.cls≤3<;>first|(exfalso;exact h1 ⟨g1,g2,g3,g4⟩)|(exfalso;omega;done)|(clear h1;((refine WW ?_));exact fr0)
 ·rintro st ⟨hp,rfl⟩
  have e:((List.range l.length).all fun i=>vokF l i)=true:=List.all_eq_true.2 fun i hi=>hp i (List.mem_range.1 hi)
  unfold vvF
  rw[e,Bool.true_and]
  rw[decide_eq_true h8]
  (refine WW ?_)
  exact fr0
theorem ragency_x (a:Ag):CallSim Tryz.prog 201 [agA a] [] (bA (avF a)) []:=by
 have hs:=map_len yA a.sec
 have hl:=map_len iA a.lim
 have c1:=rwithin_c a.rights 0 63
 have c2:=rwithin_c a.cls 0 3
 have c3:=rwithin_c a.req 0 4
 have c4:=rwithin_c a.ses 1 2
 have c5:=rwithin_c a.burst 0 1000
 have c6:=rwithin_c a.rate 0 a.burst
 have e:avF a=(decide ((a.sec.length:Int)=8∧(a.lim.length:Int)=4)&&(avL a&&(inF a.rights 0 63&&(inF a.cls 0 3&&(inF a.req 0 4&&(inF a.ses 1 2&&(inF a.burst 0 1000&&inF a.rate 0 a.burst))))))):=rfl
 rw[e]
 generalize inF a.rights 0 63=q1 at*
 generalize inF a.cls 0 3=q2 at*
 generalize inF a.req 0 4=q3 at*
 generalize inF a.ses 1 2=q4 at*
 generalize inF a.burst 0 1000=q5 at*
 generalize inF a.rate 0 a.burst=q6 at*
 clear e
 by_cases h1:(a.sec.length:Int)=8
 case neg=>
  rw[decide_eq_false (fun h=>h1 h.1),Bool.false_and]
  (refine eN Tryz.func201 Tryz.call201 fun F hF=>?_)
  (refine WW ?_)
  exact fr0
 cases q1 with
 |false=>
  rw[Bool.false_and,Bool.and_false,Bool.and_false]
  (refine eN Tryz.func201 Tryz.call201 fun F hF=>?_)
  (have zc1:=c1;refine WW ?_;clear zc1)
  exact fr0
 |true=>
 cases q2 with
 |false=>
  rw[Bool.false_and,Bool.and_false,Bool.and_false,Bool.and_false]
  (refine eN Tryz.func201 Tryz.call201 fun F hF=>?_)
  (have zc1:=c1;have zc2:=c2;refine WW ?_;clear zc1 zc2)
  exact fr0
 |true=>
 by_cases h2:(a.lim.length:Int)=4
 case neg=>
  rw[decide_eq_false (fun h=>h2 h.2),Bool.false_and]
  (refine eN Tryz.func201 Tryz.call201 fun F hF=>?_)
  (have zc1:=c1;have zc2:=c2;refine WW ?_;clear zc1 zc2)
  exact fr0
 rw[decide_eq_true ⟨h1,h2⟩,Bool.true_and,Bool.true_and,Bool.true_and]
 (refine eN Tryz.func201 Tryz.call201 fun F hF=>?_)
 (have zc1:=c1;have zc2:=c2;refine WW ?_;clear zc1 zc2)
 (refine sim_cntP (a.lim.length) [1] [1] [1,28,29] [30,1,28,29] rfl (fun i T U zs=>(∀s:Nat,s<i→inF (a.lim.getD s default) 0 8=true)∧zs=⟨(30,iA i)::T,U⟩) ?_;(conv=>whnf);refine⟨?_,?_,?_⟩)
 ·exact⟨fun s hs=>absurd hs (Nat.not_lt_zero _),rfl⟩
 ·rintro i st hi ⟨hp,rfl⟩
  have hy:=map_at iA a.lim i hi
  have c:=rwithin_c (a.lim.getD i default) 0 8
  clear c1 c2 c3 c4 c5 c6
  cases hq:inF (a.lim.getD i default) 0 8 with
  | true=>
   rw[hq]at c
   have hp2:∀s:Nat,s<i+1→inF (a.lim.getD s default) 0 8=true:=fun s hs=>by
    by_cases hsi:s=i
    ·subst hsi;assumption
    ·exact hp s (by omega)
   clear hq hp
   generalize hx:a.lim.getD i default=x at*
   clear hx
   (have zc1:=c;refine WW ?_;clear zc1)
   exact⟨hp2,rfl⟩
  |false=>
   rw[hq]at c
   rw[avL_f hi hq,Bool.false_and]
   generalize a.lim.getD i default=x at*
   (have zc1:=c;refine WW ?_;clear zc1)
   exact fr0
 ·rintro st ⟨hp,rfl⟩
  rw[avL_t hp,Bool.true_and]
  clear hp c1 c2
  cases q3
  ·(have zc1:=c3;refine WW ?_;clear zc1)
   exact fr0
  cases q4
  ·(have zc1:=c3;have zc2:=c4;refine WW ?_;clear zc1 zc2)
   exact fr0
  cases q5
  ·(have zc1:=c3;have zc2:=c4;have zc3:=c5;refine WW ?_;clear zc1 zc2 zc3)
   exact fr0
  ·(have zc1:=c3;have zc2:=c4;have zc3:=c5;have zc4:=c6;refine WW ?_;clear zc1 zc2 zc3 zc4)
   exact fr0
def gvF (r:Rg):Bool:=decide (0≤r.num∧r.num<4)&&(avF r.ag&&(tvF r.tk&&(vvF r.vh&&(bvF r.bk&&decide (r.bk.rate=r.ag.rate∧r.bk.burst=r.ag.burst)))))
theorem gvalid_x (r:Rg) (hv:r.vh.length≤1000000):CallSim Tryz.prog 151 [rgA r] [] (bA (gvF r)) []:=by
 have c1:=pagency_x r.ag
 have c2:=tvalid_c r.tk
 have c3:=vvalid_x r.vh hv
 have c4:=bvalid_c r.bk
 unfold gvF
 generalize avF r.ag=q1 at*
 generalize tvF r.tk=q2 at*
 generalize vvF r.vh=q3 at*
 generalize bvF r.bk=q4 at*
 by_cases h1:0≤r.num
 case neg=>
  rw[decide_eq_false (fun h=>h1 h.1)]
  (refine eN Tryz.func151 Tryz.call151 fun F hF=>?_)
  (refine WW ?_)
  exact fr0
 by_cases h2:r.num<4
 case neg=>
  rw[decide_eq_false (fun h=>h2 h.2)]
  (refine eN Tryz.func151 Tryz.call151 fun F hF=>?_)
  (refine WW ?_)
  exact fr0
 rw[decide_eq_true ⟨h1,h2⟩]
 cases q1 with
 |false=>
  (refine eN Tryz.func151 Tryz.call151 fun F hF=>?_)
  (have zc1:=c1;refine WW ?_;clear zc1)
  exact fr0
 |true=>
 cases q2 with
 |false=>
  (refine eN Tryz.func151 Tryz.call151 fun F hF=>?_)
  (have zc1:=c1;have zc2:=c2;refine WW ?_;clear zc1 zc2)
  exact fr0
 |true=>
 cases q3 with
 |false=>
  (refine eN Tryz.func151 Tryz.call151 fun F hF=>?_)
  (have zc1:=c1;have zc2:=c2;have zc3:=c3;refine WW ?_;clear zc1 zc2 zc3)
  exact fr0
 |true=>
 cases q4 with
 |false=>
  (refine eN Tryz.func151 Tryz.call151 fun F hF=>?_)
  (have zc1:=c1;have zc2:=c2;have zc3:=c3;have zc4:=c4;refine WW ?_;clear zc1 zc2 zc3 zc4)
  exact fr0
 |true=>
 by_cases h3:r.bk.rate=r.ag.rate
 case neg=>
  rw[decide_eq_false (fun h=>h3 h.1)]
  (refine eN Tryz.func151 Tryz.call151 fun F hF=>?_)
  (have zc1:=c1;have zc2:=c2;have zc3:=c3;have zc4:=c4;refine WW ?_;clear zc1 zc2 zc3 zc4)
  exact fr0
 by_cases h4:r.bk.burst=r.ag.burst
 ·rw[decide_eq_true ⟨h3,h4⟩]
  (refine eN Tryz.func151 Tryz.call151 fun F hF=>?_)
  (have zc1:=c1;have zc2:=c2;have zc3:=c3;have zc4:=c4;refine WW ?_;clear zc1 zc2 zc3 zc4)
  all_goals (first|exact fr0|(apply fin_bool;(exact fr0);simp only[cmpB,decide_eq_false_iff_not,decide_eq_true_eq,beq_eq_false_iff_ne,bne_eq_false_iff_eq,beq_iff_eq,bne_iff_ne,ne_eq];omega))
 ·rw[decide_eq_false (fun h=>h4 h.2)]
  (refine eN Tryz.func151 Tryz.call151 fun F hF=>?_)
  (have zc1:=c1;have zc2:=c2;have zc3:=c3;have zc4:=c4;refine WW ?_;clear zc1 zc2 zc3 zc4)
  all_goals (first|exact fr0|(apply fin_bool;(exact fr0);simp only[cmpB,decide_eq_false_iff_not,decide_eq_true_eq,beq_eq_false_iff_ne,bne_eq_false_iff_eq,beq_iff_eq,bne_iff_ne,ne_eq];omega))
theorem gvalid2_c (r:Rg) (hv:r.vh.length≤1000000):CallSim Tryz.prog 169 [rgA r] [] (bA (gvF r)) []:=by
 have c1:=ragency_x r.ag
 have c2:=tvalid2_c r.tk
 have c3:=vvalid2_c r.vh hv
 have c4:=bvalid2_c r.bk
 unfold gvF
 rw[tv_eq]
 generalize avF r.ag=q1 at*
 generalize tv2F r.tk=q2 at*
 generalize vvF r.vh=q3 at*
 generalize bvF r.bk=q4 at*
 by_cases h1:0≤r.num
 case neg=>
  rw[decide_eq_false (fun h=>h1 h.1)]
  (refine eN Tryz.func169 Tryz.call169 fun F hF=>?_)
  (refine WW ?_)
  exact fr0
 by_cases h2:r.num<4
 case neg=>
  rw[decide_eq_false (fun h=>h2 h.2)]
  (refine eN Tryz.func169 Tryz.call169 fun F hF=>?_)
  (refine WW ?_)
  exact fr0
 rw[decide_eq_true ⟨h1,h2⟩]
 cases q1 with
 |false=>
  (refine eN Tryz.func169 Tryz.call169 fun F hF=>?_)
  (have zc1:=c1;refine WW ?_;clear zc1)
  exact fr0
 |true=>
 cases q2 with
 |false=>
  (refine eN Tryz.func169 Tryz.call169 fun F hF=>?_)
  (have zc1:=c1;have zc2:=c2;refine WW ?_;clear zc1 zc2)
  exact fr0
 |true=>
 cases q3 with
 |false=>
  (refine eN Tryz.func169 Tryz.call169 fun F hF=>?_)
  (have zc1:=c1;have zc2:=c2;have zc3:=c3;refine WW ?_;clear zc1 zc2 zc3)
  exact fr0
 |true=>
 cases q4 with
 |false=>
  (refine eN Tryz.func169 Tryz.call169 fun F hF=>?_)
  (have zc1:=c1;have zc2:=c2;have zc3:=c3;have zc4:=c4;refine WW ?_;clear zc1 zc2 zc3 zc4)
  exact fr0
 |true=>
 by_cases h3:r.bk.rate=r.ag.rate
 case neg=>
  rw[decide_eq_false (fun h=>h3 h.1)]
  (refine eN Tryz.func169 Tryz.call169 fun F hF=>?_)
  (have zc1:=c1;have zc2:=c2;have zc3:=c3;have zc4:=c4;refine WW ?_;clear zc1 zc2 zc3 zc4)
  exact fr0
 by_cases h4:r.bk.burst=r.ag.burst
 ·rw[decide_eq_true ⟨h3,h4⟩]
  (refine eN Tryz.func169 Tryz.call169 fun F hF=>?_)
  (have zc1:=c1;have zc2:=c2;have zc3:=c3;have zc4:=c4;refine WW ?_;clear zc1 zc2 zc3 zc4)
  all_goals (first|exact fr0|(apply fin_bool;(exact fr0);simp only[cmpB,decide_eq_false_iff_not,decide_eq_true_eq,beq_eq_false_iff_ne,bne_eq_false_iff_eq,beq_iff_eq,bne_iff_ne,ne_eq];omega))
 ·rw[decide_eq_false (fun h=>h4 h.2)]
  (refine eN Tryz.func169 Tryz.call169 fun F hF=>?_)
  (have zc1:=c1;have zc2:=c2;have zc3:=c3;have zc4:=c4;refine WW ?_;clear zc1 zc2 zc3 zc4)
  all_goals (first|exact fr0|(apply fin_bool;(exact fr0);simp only[cmpB,decide_eq_false_iff_not,decide_eq_true_eq,beq_eq_false_iff_ne,bne_eq_false_iff_eq,beq_iff_eq,bne_iff_ne,ne_eq];omega))
end
end Av
end Go.Proofs.YtaikgchmpieooaaGreat
