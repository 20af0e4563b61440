/- Part 39: contracts of the functions, and what they rest upon. -/
import Derived.Test.YtaikgchmpieooaaGreatP38
import Derived.Test.YtaikgchmpieooaaGreatP29
import Derived.Test.YtaikgchmpieooaaGreatP30
import Derived.Test.YtaikgchmpieooaaGreatP37
namespace Go.Proofs.YtaikgchmpieooaaGreat
namespace Av
set_option linter.unusedSimpArgs false
set_option linter.unusedVariables false
section
set_option maxRecDepth 4000
set_option maxHeartbeats 4000000
def dvO (l:List Tk) (k:Nat) (e:Int) (t:Tk):List Tk:=if e=0 then l.set k t else []
theorem leastT {P:Nat→Prop}:∀n,P n→∃m,m≤n∧P m∧∀k,k<m→¬P k:=by
 intro n
 induction n using Nat.strongRecOn with
 | _ n ih=>
  intro h
  by_cases hx:∃k,k<n∧P k
  ·obtain⟨k,h1,h2⟩:=hx
   obtain⟨m,h3,h4,h5⟩:=ih k h1 h2
   exact⟨m,by omega,h4,h5⟩
  ·exact⟨n,Nat.le_refl _,h,fun k h1 h2=>hx ⟨k,h1,h2⟩⟩
theorem ixT_no (l:List Tk) (hn:l.length≤1000000) (h1:∀i,i<l.length→(l.getD i default).used=true):CallSim Tryz.prog 216 [slA tkA l,.fn 217 []] [] (iA (-1)) []:=by
 have hl:=map_len tkA l
 (refine eN Tryz.func216 Tryz.call216 fun F hF=>?_)
 (refine WW ?_)
 (refine sim_cnt (l.length) [] [] [0,1,7] [8,0,1,7] rfl (fun i T U=>⟨(8,iA i)::T,U⟩) ?_;(conv=>whnf);refine⟨by rfl,?_,?_⟩)
 ·intro i hi
  have hy:=map_at tkA l i hi
  have c:=nus_c (l.getD i default)
  rw[h1 i hi]at c
  generalize l.getD i default=t at*
  (have zc1:=c;refine WW ?_;clear zc1)
  rfl
 ·(refine WW ?_)
  exact fr0
def DvBoth (l:List Tk) (p R c life now:Int):Prop:=∃(k:Nat) (e:Int),(0≤e∧e≤20)∧(k=0∨k<l.length)∧(e=0→tvF l=true∧0≤p∧p<l.length∧(l.getD k default).used=false)∧∀sec:List Int,(sec.length:Int)=8→
 CallSim Tryz.prog 188 [slA tkA l,iA p,iA R,iA c,iA life,slA yA sec,iA now] [] (.tup [slA tkA (dvO l k e ⟨true,sec,p,R,c,unF life now⟩),iA k,iA e]) []∧
 CallSim Tryz.prog 171 [slA tkA l,iA p,iA R,iA c,iA life,slA yA sec,iA now] [] (.tup [slA tkA (dvO l k e ⟨true,sec,p,R,c,unF life now⟩),iA k,iA e]) []
theorem dvBad {l:List Tk} {p R c life now:Int} (e:Int) (h1:1≤e) (h2:e≤20) (h:∀sec:List Int,(sec.length:Int)=8→CallSim Tryz.prog 188 [slA tkA l,iA p,iA R,iA c,iA life,slA yA sec,iA now] [] (.tup [slA tkA [],iA 0,iA e]) []∧CallSim Tryz.prog 171 [slA tkA l,iA p,iA R,iA c,iA life,slA yA sec,iA now] [] (.tup [slA tkA [],iA 0,iA e]) []):DvBoth l p R c life now:=
 ⟨0,e,⟨by omega,h2⟩,.inl rfl,fun h0=>by omega,fun sec hs=>by
  have hd:dvO l 0 e ⟨true,sec,p,R,c,unF life now⟩=[]:=by unfold dvO;rw[if_neg (by omega)]
  rw[hd]
  exact h sec hs⟩
theorem derive_both (l:List Tk) (hb:TkB l) (p R c life now:Int):DvBoth l p R c life now:=by
 have hn:=hb.n
 have hll:=map_len tkA l
 have c1:=tvalid_c l
 have r1:=tvalid2_c l
 rw[←tv_eq]at r1
 cases hv:tvF l with
 | false=>
  rw[hv]at c1 r1
  exact dvBad 1 (by omega) (by omega) fun sec hs=>⟨by
   have hls:=map_len yA sec
   (refine eN Tryz.func188 Tryz.call188 fun F hF=>?_)
   (have zc1:=c1;refine WW ?_;clear zc1)
   exact fr0,by
   have hls:=map_len yA sec
   (refine eN Tryz.func171 Tryz.call171 fun F hF=>?_)
   (have zc1:=r1;refine WW ?_;clear zc1)
   exact fr0⟩
 |true=>
 rw[hv]at c1 r1
 have h8:(l.length:Int)=8:=by unfold tvF at hv;rw[Bool.and_eq_true,decide_eq_true_eq]at hv;exact hv.1
 by_cases hn0:0≤now
 case neg=>
  exact dvBad 1 (by omega) (by omega) fun sec hs=>⟨by
   have hls:=map_len yA sec
   (refine eN Tryz.func188 Tryz.call188 fun F hF=>?_)
   (have zc1:=c1;refine WW ?_;clear zc1)
   exact fr0,by
   have hls:=map_len yA sec
   (refine eN Tryz.func171 Tryz.call171 fun F hF=>?_)
   (have zc1:=r1;refine WW ?_;clear zc1)
   exact fr0⟩
 by_cases hn1:now≤1073741824
 case neg=>
  exact dvBad 1 (by omega) (by omega) fun sec hs=>⟨by
   have hls:=map_len yA sec
   (refine eN Tryz.func188 Tryz.call188 fun F hF=>?_)
   (have zc1:=c1;refine WW ?_;clear zc1)
   exact fr0,by
   have hls:=map_len yA sec
   (refine eN Tryz.func171 Tryz.call171 fun F hF=>?_)
   (have zc1:=r1;refine WW ?_;clear zc1)
   exact fr0⟩
 have c2:=used_c l p
 by_cases hp0:0≤p
 case neg=>
  rw[show usF l p=false by unfold usF;rw[decide_eq_false (fun h=>hp0 h.1)];rfl]at c2
  exact dvBad 12 (by omega) (by omega) fun sec hs=>⟨by
   have hls:=map_len yA sec
   (refine eN Tryz.func188 Tryz.call188 fun F hF=>?_)
   (have zc1:=c1;have zc2:=c2;refine WW ?_;clear zc1 zc2)
   exact fr0,by
   have hls:=map_len yA sec
   (refine eN Tryz.func171 Tryz.call171 fun F hF=>?_)
   (have zc1:=r1;refine WW ?_;clear zc1)
   exact fr0⟩
 by_cases hp1:p<l.length
 case neg=>
  rw[show usF l p=false by unfold usF;rw[decide_eq_false (fun h=>hp1 h.2)];rfl]at c2
  exact dvBad 12 (by omega) (by omega) fun sec hs=>⟨by
   have hls:=map_len yA sec
   (refine eN Tryz.func188 Tryz.call188 fun F hF=>?_)
   (have zc1:=c1;have zc2:=c2;refine WW ?_;clear zc1 zc2)
   exact fr0,by
   have hls:=map_len yA sec
   (refine eN Tryz.func171 Tryz.call171 fun F hF=>?_)
   (have zc1:=r1;refine WW ?_;clear zc1)
   exact fr0⟩
 have hy:=map_atI tkA l p hp0 hp1
 have hus:usF l p=(l.getD p.toNat default).used:=by unfold usF;rw[decide_eq_true ⟨hp0,hp1⟩,Bool.true_and]
 rw[hus]at c2
 have c3:=within_c R (l.getD p.toNat default).rights
 have r3:=within2_c R (l.getD p.toNat default).rights
 have c4:=later_c (unF life now) (l.getD p.toNat default).til
 have r4:=later2_c (unF life now) (l.getD p.toNat default).til
 have hun:unF life now=if 0<life then now+life else 0:=rfl
 generalize unF life now=un at*
 clear hus
 generalize l.getD p.toNat default=t at*
 obtain⟨u,t1,t2,t3,t4,t5⟩:=t
 rw[show∀u,tkA ⟨u,t1,t2,t3,t4,t5⟩= .agg [bA u,slA yA t1,iA t2,iA t3,iA t4,iA t5]from fun _=>rfl]at hy
 dsimp only at*
 cases u with
 | false=>
  exact dvBad 12 (by omega) (by omega) fun sec hs=>⟨by
   have hls:=map_len yA sec
   (refine eN Tryz.func188 Tryz.call188 fun F hF=>?_)
   (have zc1:=c1;have zc2:=c2;refine WW ?_;clear zc1 zc2)
   exact fr0,by
   have hls:=map_len yA sec
   (refine eN Tryz.func171 Tryz.call171 fun F hF=>?_)
   (have zc1:=r1;refine WW ?_;clear zc1)
   exact fr0⟩
 |true=>
 cases hw:wiF R t3 with
 | false=>
  rw[hw]at c3 r3
  exact dvBad 8 (by omega) (by omega) fun sec hs=>⟨by
   have hls:=map_len yA sec
   (refine eN Tryz.func188 Tryz.call188 fun F hF=>?_)
   (have zc1:=c1;have zc2:=c2;have zc3:=c3;refine WW ?_;clear zc1 zc2 zc3)
   exact fr0,by
   have hls:=map_len yA sec
   (refine eN Tryz.func171 Tryz.call171 fun F hF=>?_)
   (have zc1:=r1;have zc2:=r3;refine WW ?_;clear zc1 zc2)
   exact fr0⟩
 |true=>
 rw[hw]at c3 r3
 by_cases hc0:0≤c
 case neg=>
  exact dvBad 8 (by omega) (by omega) fun sec hs=>⟨by
   have hls:=map_len yA sec
   (refine eN Tryz.func188 Tryz.call188 fun F hF=>?_)
   (have zc1:=c1;have zc2:=c2;have zc3:=c3;refine WW ?_;clear zc1 zc2 zc3)
   exact fr0,by
   have hls:=map_len yA sec
   (refine eN Tryz.func171 Tryz.call171 fun F hF=>?_)
   (have zc1:=r1;have zc2:=r3;refine WW ?_;clear zc1 zc2)
   exact fr0⟩
 by_cases hc1:c≤t4
 case neg=>
  exact dvBad 8 (by omega) (by omega) fun sec hs=>⟨by
   have hls:=map_len yA sec
   (refine eN Tryz.func188 Tryz.call188 fun F hF=>?_)
   (have zc1:=c1;have zc2:=c2;have zc3:=c3;refine WW ?_;clear zc1 zc2 zc3)
   exact fr0,by
   have hls:=map_len yA sec
   (refine eN Tryz.func171 Tryz.call171 fun F hF=>?_)
   (have zc1:=r1;have zc2:=r3;refine WW ?_;clear zc1 zc2)
   exact fr0⟩
 by_cases hl0:0≤life
 case neg=>
  exact dvBad 8 (by omega) (by omega) fun sec hs=>⟨by
   have hls:=map_len yA sec
   (refine eN Tryz.func188 Tryz.call188 fun F hF=>?_)
   (have zc1:=c1;have zc2:=c2;have zc3:=c3;refine WW ?_;clear zc1 zc2 zc3)
   exact fr0,by
   have hls:=map_len yA sec
   (refine eN Tryz.func171 Tryz.call171 fun F hF=>?_)
   (have zc1:=r1;have zc2:=r3;refine WW ?_;clear zc1 zc2)
   exact fr0⟩
 by_cases hl1:life≤600
 case neg=>
  exact dvBad 8 (by omega) (by omega) fun sec hs=>⟨by
   have hls:=map_len yA sec
   (refine eN Tryz.func188 Tryz.call188 fun F hF=>?_)
   (have zc1:=c1;have zc2:=c2;have zc3:=c3;refine WW ?_;clear zc1 zc2 zc3)
   exact fr0,by
   have hls:=map_len yA sec
   (refine eN Tryz.func171 Tryz.call171 fun F hF=>?_)
   (have zc1:=r1;have zc2:=r3;refine WW ?_;clear zc1 zc2)
   exact fr0⟩
 cases hla:laF un t5 with
 | true=>
  rw[hla]at c4 r4
  by_cases h0:0<life
  ·rw[if_pos h0]at hun
   subst hun
   exact dvBad 8 (by omega) (by omega) fun sec hs=>⟨by
    have hls:=map_len yA sec
    (refine eN Tryz.func188 Tryz.call188 fun F hF=>?_)
    (have zc1:=c1;have zc2:=c2;have zc3:=c3;have zc4:=c4;refine WW ?_;clear zc1 zc2 zc3 zc4)
    exact fr0,by
    have hls:=map_len yA sec
    (refine eN Tryz.func171 Tryz.call171 fun F hF=>?_)
    (have zc1:=r1;have zc2:=r3;have zc3:=r4;refine WW ?_;clear zc1 zc2 zc3)
    exact fr0⟩
  ·rw[if_neg h0]at hun
   subst hun
   exact dvBad 8 (by omega) (by omega) fun sec hs=>⟨by
    have hls:=map_len yA sec
    (refine eN Tryz.func188 Tryz.call188 fun F hF=>?_)
    (have zc1:=c1;have zc2:=c2;have zc3:=c3;have zc4:=c4;refine WW ?_;clear zc1 zc2 zc3 zc4)
    exact fr0,by
    have hls:=map_len yA sec
    (refine eN Tryz.func171 Tryz.call171 fun F hF=>?_)
    (have zc1:=r1;have zc2:=r3;have zc3:=r4;refine WW ?_;clear zc1 zc2 zc3)
    exact fr0⟩
 |false=>
 rw[hla]at c4 r4
 clear hla hw
 by_cases hex:∃k,k<l.length∧(l.getD k default).used=false
 case neg=>
  have hall:∀i,i<l.length→(l.getD i default).used=true:=fun i hi=>by
   cases h:(l.getD i default).used with
   |true=>rfl
   |false=>exact absurd ⟨i,hi,h⟩ hex
  have c5:=ixT_no l hn hall
  rcases(show(0<life∧unF life now=now+life)∨(¬0<life∧unF life now=0) by unfold unF;by_cases h:0<life;exact .inl ⟨h,if_pos h⟩;exact .inr ⟨h,if_neg h⟩)with⟨h0,hu0⟩|⟨h0,hu0⟩
  ·rw[if_pos h0]at hun
   subst hun
   exact dvBad 10 (by omega) (by omega) fun sec hs=>⟨by
    have hls:=map_len yA sec
    (refine eN Tryz.func188 Tryz.call188 fun F hF=>?_)
    (have zc1:=c1;have zc2:=c2;have zc3:=c3;have zc4:=c4;have zc5:=c5;refine WW ?_;clear zc1 zc2 zc3 zc4 zc5)
    exact fr0,by
    have hls:=map_len yA sec
    (refine eN Tryz.func171 Tryz.call171 fun F hF=>?_)
    (have zc1:=r1;have zc2:=r3;have zc3:=r4;refine WW ?_;clear zc1 zc2 zc3)
    (refine sim_cnt (l.length) [] [] [0,1,2,3,5,18,90,91] [92,0,1,2,3,5,18,90,91] rfl (fun i T U=>⟨(92,iA i)::T,U⟩) ?_;(conv=>whnf);refine⟨by rfl,?_,?_⟩)
    ·intro i hi
     have hyi:=map_at tkA l i hi
     have hui:=hall i hi
     generalize l.getD i default=x at*
     obtain⟨xu,x1,x2,x3,x4,x5⟩:=x
     dsimp only at hui
     subst hui
     rw[show tkA ⟨true,x1,x2,x3,x4,x5⟩= .agg [bA true,slA yA x1,iA x2,iA x3,iA x4,iA x5]from rfl]at hyi
     (refine WW ?_)
     rfl
    ·(refine WW ?_)
     exact fr0⟩
  ·rw[if_neg h0]at hun
   subst hun
   exact dvBad 10 (by omega) (by omega) fun sec hs=>⟨by
    have hls:=map_len yA sec
    (refine eN Tryz.func188 Tryz.call188 fun F hF=>?_)
    (have zc1:=c1;have zc2:=c2;have zc3:=c3;have zc4:=c4;have zc5:=c5;refine WW ?_;clear zc1 zc2 zc3 zc4 zc5)
    exact fr0,by
    have hls:=map_len yA sec
    (refine eN Tryz.func171 Tryz.call171 fun F hF=>?_)
    (have zc1:=r1;have zc2:=r3;have zc3:=r4;refine WW ?_;clear zc1 zc2 zc3)
    (refine sim_cnt (l.length) [] [] [0,1,2,3,5,18,90,91] [92,0,1,2,3,5,18,90,91] rfl (fun i T U=>⟨(92,iA i)::T,U⟩) ?_;(conv=>whnf);refine⟨by rfl,?_,?_⟩)
    ·intro i hi
     have hyi:=map_at tkA l i hi
     have hui:=hall i hi
     generalize l.getD i default=x at*
     obtain⟨xu,x1,x2,x3,x4,x5⟩:=x
     dsimp only at hui
     subst hui
     rw[show tkA ⟨true,x1,x2,x3,x4,x5⟩= .agg [bA true,slA yA x1,iA x2,iA x3,iA x4,iA x5]from rfl]at hyi
     (refine WW ?_)
     rfl
    ·(refine WW ?_)
     exact fr0⟩
 obtain⟨k0,hk0,hu0⟩:=hex
 obtain⟨k,_,⟨hk,hkf⟩,hkm⟩:=leastT (P:=fun k=>k<l.length∧(l.getD k default).used=false) k0 ⟨hk0,hu0⟩
 have hbe:∀i,i<k→(l.getD i default).used=true:=fun i hi=>by
  cases h:(l.getD i default).used with
  |true=>rfl
  |false=>exact absurd ⟨by omega,h⟩ (hkm i hi)
 have c5:=ixT_c l hn k hk hbe hkf
 have c6:=tclone_own l hb
 have r6:=copyT2_own l hb
 refine⟨k,0,by omega,.inr hk,fun _=>⟨hv,hp0,hp1,hkf⟩,fun sec hs=>?_⟩
 have hd:∀x:Tk,dvO l k 0 x=l.set k x:=fun x=>by unfold dvO;rw[if_pos rfl]
 rw[hd]
 have c7:=cloneY_c sec (by omega)
 have hls:=map_len yA sec
 have hyk:=map_at tkA l k hk
 have eS:=tset_eq l k ⟨true,sec,p,R,c,unF life now⟩ (l.map tkA).length hll
 rw[eS]
 clear eS hd
 rw[show unF life now=if 0<life then now+life else 0 from rfl]
 by_cases h0:0<life
 ·rw [if_pos h0]at hun⊢
  subst hun
  refine⟨?_,?_⟩
  ·clear r1 r3 r4 r6 hbe hkm hkf
   generalize l.getD k default=tk at*
   (refine eN Tryz.func188 Tryz.call188 fun F hF=>?_)
   (have zc1:=c1;have zc2:=c2;have zc3:=c3;have zc4:=c4;have zc5:=c5;have zc6:=c6;have zc7:=c7;refine WW ?_;clear zc1 zc2 zc3 zc4 zc5 zc6 zc7)
   exact fr0
  ·clear c1 c2 c3 c4 c5 c6 c7
   (refine eN Tryz.func171 Tryz.call171 fun F hF=>?_)
   (have zc1:=r1;have zc2:=r3;have zc3:=r4;refine WW ?_;clear zc1 zc2 zc3)
   (refine sim_cntP (l.length) [] [] [0,1,2,3,5,18,90,91] [92,0,1,2,3,5,18,90,91] rfl (fun i T U zs=>(i≤k)∧zs=⟨(92,iA i)::T,U⟩) ?_;(conv=>whnf);refine⟨?_,?_,?_⟩)
   ·exact⟨Nat.zero_le _,rfl⟩
   ·rintro i st hi ⟨hik,rfl⟩
    have hyi:=map_at tkA l i hi
    by_cases hie:i=k
    ·subst hie
     clear hbe hkm hyk hy
     generalize l.getD i default=x at*
     obtain⟨xu,x1,x2,x3,x4,x5⟩:=x
     dsimp only at hkf
     subst hkf
     rw[show tkA ⟨false,x1,x2,x3,x4,x5⟩= .agg [bA false,slA yA x1,iA x2,iA x3,iA x4,iA x5]from rfl]at hyi
     (have zc1:=r6;refine WL ?_;clear zc1)
     exact fr0
    ·have hui:=hbe i (by omega)
     clear hbe hkm hyk hkf hy
     generalize l.getD i default=x at*
     obtain⟨xu,x1,x2,x3,x4,x5⟩:=x
     dsimp only at hui
     subst hui
     rw[show tkA ⟨true,x1,x2,x3,x4,x5⟩= .agg [bA true,slA yA x1,iA x2,iA x3,iA x4,iA x5]from rfl]at hyi
     (refine WW ?_)
     exact⟨by omega,rfl⟩
   ·rintro st ⟨hik,rfl⟩
    exfalso;omega
 ·rw [if_neg h0]at hun⊢
  subst hun
  refine⟨?_,?_⟩
  ·clear r1 r3 r4 r6 hbe hkm hkf
   generalize l.getD k default=tk at*
   (refine eN Tryz.func188 Tryz.call188 fun F hF=>?_)
   (have zc1:=c1;have zc2:=c2;have zc3:=c3;have zc4:=c4;have zc5:=c5;have zc6:=c6;have zc7:=c7;refine WW ?_;clear zc1 zc2 zc3 zc4 zc5 zc6 zc7)
   exact fr0
  ·clear c1 c2 c3 c4 c5 c6 c7
   (refine eN Tryz.func171 Tryz.call171 fun F hF=>?_)
   (have zc1:=r1;have zc2:=r3;have zc3:=r4;refine WW ?_;clear zc1 zc2 zc3)
   (refine sim_cntP (l.length) [] [] [0,1,2,3,5,18,90,91] [92,0,1,2,3,5,18,90,91] rfl (fun i T U zs=>(i≤k)∧zs=⟨(92,iA i)::T,U⟩) ?_;(conv=>whnf);refine⟨?_,?_,?_⟩)
   ·exact⟨Nat.zero_le _,rfl⟩
   ·rintro i st hi ⟨hik,rfl⟩
    have hyi:=map_at tkA l i hi
    by_cases hie:i=k
    ·subst hie
     clear hbe hkm hyk hy
     generalize l.getD i default=x at*
     obtain⟨xu,x1,x2,x3,x4,x5⟩:=x
     dsimp only at hkf
     subst hkf
     rw[show tkA ⟨false,x1,x2,x3,x4,x5⟩= .agg [bA false,slA yA x1,iA x2,iA x3,iA x4,iA x5]from rfl]at hyi
     (have zc1:=r6;refine WL ?_;clear zc1)
     exact fr0
    ·have hui:=hbe i (by omega)
     clear hbe hkm hyk hkf hy
     generalize l.getD i default=x at*
     obtain⟨xu,x1,x2,x3,x4,x5⟩:=x
     dsimp only at hui
     subst hui
     rw[show tkA ⟨true,x1,x2,x3,x4,x5⟩= .agg [bA true,slA yA x1,iA x2,iA x3,iA x4,iA x5]from rfl]at hyi
     (refine WW ?_)
     exact⟨by omega,rfl⟩
   ·rintro st ⟨hik,rfl⟩
    exfalso;omega
end
section
set_option maxRecDepth 4000
set_option maxHeartbeats 2000000
theorem rv_fr (l:List Tk) (s:Int) (h8:l.length=8):rvS l s l.length=frB (fun i=>ldF l 9 i s) l 8:=by
 unfold rvS frB
 apply List.map_congr_left
 intro j hj
 have hj:=List.mem_range.1 hj
 unfold rvAt
 rw[if_pos hj,de_ld h8]
 by_cases h:ldF l 9 j s=true
 ·rw[if_pos h,if_pos ⟨by omega,h⟩]
 ·rw[if_neg h,if_neg (fun k=>h k.2)]
theorem tkB_nil:TkB []:=⟨by simp,fun t h=>by simp at h⟩
theorem tkB_rv {l:List Tk} (hb:TkB l) (s:Int) (n:Nat):TkB (rvS l s n):=by
 refine⟨by rw[rvS_len];exact hb.n,fun t ht=>?_⟩
 have hg:∀j,(l.getD j default).sec.length≤1000000:=fun j=>by
  by_cases h:j<l.length
  ·exact hb.s _ (by simp[List.getD,h])
  ·rw[show l.getD j default=default by simp[List.getD,h]]
   exact Nat.zero_le _
 unfold rvS at ht
 rw[List.mem_map]at ht
 obtain⟨j,_,rfl⟩:=ht
 split
 ·unfold rvAt
  split
  ·exact Nat.zero_le _
  ·exact hg j
 ·exact hg j
theorem rvS_t0 {l:List Tk} {s:Int} (h1:1≤s) (h8:1≤l.length):T0K l (rvS l s l.length):=fun hu hp=>by
 have e:deF l 0 s=false:=by
  unfold deF
  rw[chF_succ,show usF l 0=true by unfold usF;rw[decide_eq_true ⟨Int.le_refl 0,by omega⟩,Bool.true_and];exact hu,cond_true]
  rw[show(0:Int).toNat=0 from rfl,hp]
  rw[chF_succ,show usF l (-1)=false by unfold usF;rw[decide_eq_false (by omega),Bool.false_and],cond_false]
  simp
  omega
 unfold rvS
 rw[List.getD_eq_getElem?_getD,List.getElem?_map,List.getElem?_range (by omega),Option.map_some,Option.getD_some,if_pos (by omega)]
 unfold rvAt
 rw[show((0:Nat):Int)=0 from rfl,e,if_neg Bool.false_ne_true]
theorem revoke_both (l:List Tk) (hb:TkB l) (s:Int):∃(o:List Tk) (e:Int),(0≤e∧e≤20)∧TkB o∧(e=0→o.length=l.length∧T0K l o)∧CallSim Tryz.prog 155 [slA tkA l,iA s] [] (.tup [slA tkA o,iA e]) []∧CallSim Tryz.prog 172 [slA tkA l,iA s] [] (.tup [slA tkA o,iA e]) []:=by
 have hn:=hb.n
 have hll:=map_len tkA l
 have c1:=tvalid_c l
 have r1:=tvalid2_c l
 rw[←tv_eq]at r1
 cases hv:tvF l with
 | false=>
  rw[hv]at c1 r1
  refine⟨[],1,by omega,tkB_nil,fun h=>absurd h (by decide),?_,?_⟩
  ·(refine eN Tryz.func155 Tryz.call155 fun F hF=>?_)
   (have zc1:=c1;refine WW ?_;clear zc1)
   exact fr0
  ·(refine eN Tryz.func172 Tryz.call172 fun F hF=>?_)
   (have zc1:=r1;refine WW ?_;clear zc1)
   exact fr0
 |true=>
 rw[hv]at c1 r1
 have h8:l.length=8:=by unfold tvF at hv;rw[Bool.and_eq_true,decide_eq_true_eq]at hv;omega
 by_cases h1:1≤s
 case neg=>
  refine⟨[],8,by omega,tkB_nil,fun h=>absurd h (by decide),?_,?_⟩
  ·(refine eN Tryz.func155 Tryz.call155 fun F hF=>?_)
   (have zc1:=c1;refine WW ?_;clear zc1)
   exact fr0
  ·(refine eN Tryz.func172 Tryz.call172 fun F hF=>?_)
   (have zc1:=r1;refine WW ?_;clear zc1)
   exact fr0
 by_cases h2:s<8
 case neg=>
  refine⟨[],8,by omega,tkB_nil,fun h=>absurd h (by decide),?_,?_⟩
  ·(refine eN Tryz.func155 Tryz.call155 fun F hF=>?_)
   (have zc1:=c1;refine WW ?_;clear zc1)
   exact fr0
  ·(refine eN Tryz.func172 Tryz.call172 fun F hF=>?_)
   (have zc1:=r1;refine WW ?_;clear zc1)
   exact fr0
 have hy:=map_atI tkA l s (by omega) (by omega)
 cases hu:(l.getD s.toNat default).used with
 | false=>
  rw[show tkA (l.getD s.toNat default)=tkU false (l.getD s.toNat default) by unfold tkA tkU;rw[hu]]at hy
  unfold tkU at hy
  generalize l.getD s.toNat default=t at*
  refine⟨[],12,by omega,tkB_nil,fun h=>absurd h (by decide),?_,?_⟩
  ·(refine eN Tryz.func155 Tryz.call155 fun F hF=>?_)
   (have zc1:=c1;refine WW ?_;clear zc1)
   exact fr0
  ·(refine eN Tryz.func172 Tryz.call172 fun F hF=>?_)
   (have zc1:=r1;refine WW ?_;clear zc1)
   exact fr0
 |true=>
  have cr:=trevoke_c l hb hv s ⟨h1,h2⟩ h8 hu
  have b1:=below_c l s h8
  rw[h8]at b1
  have b2:=free2_c l hb (fun i=>ldF l 9 i s) h8
  rw[←rv_fr l s h8]at b2
  rw[show tkA (l.getD s.toNat default)=tkU true (l.getD s.toNat default) by unfold tkA tkU;rw[hu]]at hy
  unfold tkU at hy
  refine⟨rvS l s l.length,0,by omega,tkB_rv hb s _,fun _=>⟨rvS_len l s _,rvS_t0 (by omega) (by omega)⟩,cr,?_⟩
  clear cr hu
  generalize rvS l s l.length=l2 at*
  generalize bsF (fun i=>ldF l 9 i s) 8=b at*
  generalize l.getD s.toNat default=t at*
  (refine eN Tryz.func172 Tryz.call172 fun F hF=>?_)
  (have zc1:=r1;have zc2:=b1;have zc3:=b2;refine WW ?_;clear zc1 zc2 zc3)
  exact fr0
end
section
set_option maxRecDepth 4000
set_option maxHeartbeats 2000000
def rgBx (r:Rg):Ent:= .box [iA r.num,slA yA r.ag.sec,iA r.ag.rights,iA r.ag.cls,slA iA r.ag.lim,iA r.ag.req,iA r.ag.ses,iA r.ag.rate,iA r.ag.burst,slA tkA r.tk,slA vhA r.vh,iA r.bk.level,iA r.bk.rate,iA r.bk.burst]
def rgT (r:Rg) (l:List Tk):Rg:=⟨r.num,r.ag,l,r.vh,r.bk⟩
theorem ack_c (m:Ms) (a:Int) (ha:m.args=[a]):CallSim Tryz.prog 156 [msA m] [] (msA ⟨14,[],[m.kind,a],[]⟩) []:=by
 obtain⟨k,t,ar,d⟩:=m
 dsimp only at ha⊢
 subst ha
 have hl1:([a].map iA).length=1:=rfl
 (refine eN Tryz.func156 Tryz.call156 fun F hF=>?_)
 (refine WL ?_)
 exact fr0
end
section
set_option maxRecDepth 4000
set_option maxHeartbeats 4000000
theorem tv_tkB {l:List Tk} (h:tvF l=true):TkB l∧l.length=8:=by
 rw[tv_eq]at h
 have T:=(tv_iff l).1 h
 refine⟨⟨by have:=T.n;omega,fun t ht=>?_⟩,T.n⟩
 obtain⟨i,hi,rfl⟩:=List.getElem_of_mem ht
 have hi8:i<8:=by have:=T.n;omega
 have e:l.getD i default=l[i]:=by simp[List.getD,hi]
 cases hu:(l.getD i default).used with
 |false=>
  have:=T.f i hi8 hu
  unfold if2F at this
  rw[decide_eq_true_eq]at this
  rw[←e];omega
 |true=>
  have:=(T.s i hi8 hu).1
  unfold soF so2F at this
  simp only[Bool.and_eq_true,decide_eq_true_eq]at this
  rw[←e];omega
theorem tkB_dv {l:List Tk} (hb:TkB l) (k:Nat) (e:Int) (t:Tk) (ht:t.sec.length≤1000000):TkB (dvO l k e t):=by
 unfold dvO
 split
 ·refine⟨by rw[List.length_set];exact hb.n,fun x hx=>?_⟩
  rcases List.mem_or_eq_of_mem_set hx with h|rfl
  ·exact hb.s x h
  ·exact ht
 ·exact tkB_nil
structure GvB (r:Rg):Prop where
 num:0≤r.num∧r.num<4
 b:RgB r
 tv:tvF r.tk=true
 n8:r.tk.length=8
 lim:(r.ag.lim.length:Int)=4
 cls:0≤r.ag.cls∧r.ag.cls≤3
 vl:r.vh.length≤8
theorem gv_b {r:Rg} (h:gvF r=true):GvB r:=by
 unfold gvF at h
 simp only[Bool.and_eq_true,decide_eq_true_eq]at h
 obtain⟨h1,h2,h3,h4,h5,h6⟩:=h
 obtain⟨t1,t2⟩:=tv_tkB h3
 have hv:=(vv_at.1 h4).1
 unfold avF at h2
 simp only[Bool.and_eq_true,decide_eq_true_eq]at h2
 obtain⟨⟨a1,a2⟩,a3,a4,a5,a6⟩:=h2
 unfold inF at a5
 rw[decide_eq_true_eq]at a5
 exact⟨h1,⟨t1,by omega,by omega,by omega⟩,h3,t2,a2,a5,hv⟩
def rg0:Rg:=⟨0,⟨[],0,0,[],0,0,0,0⟩,[],[],⟨0,0,0⟩⟩
def ms0:Ms:=⟨0,[],[],[]⟩
def doR (e:Int):AV:= .tup [rgA rg0,msA ms0,bA false,iA e]
theorem rg0_b:RgB rg0:=⟨tkB_nil,Nat.zero_le _,Nat.zero_le _,Nat.zero_le _⟩
theorem doR_eq (e:Int):doR e= .tup [.agg [iA 0,.sl false [],iA 0,iA 0,.sl false [],iA 0,iA 0,iA 0,iA 0,.sl false [],.sl false [],iA 0,iA 0,iA 0],.agg [iA 0,.sl false [],.sl false [],.sl false []],bA false,iA e]:=rfl
theorem do_bad (r:Rg) (m:Ms) (s now:Int) (sec:List Int) (gv b us:Bool) (c1:CallSim Tryz.prog 151 [rgA r] [] (bA gv) []) (c2:CallSim Tryz.prog 152 [msA m] [] (bA b) []) (c3:CallSim Tryz.prog 153 [slA tkA r.tk,iA s] [] (bA us) []) (h:gv=false∨b=false∨us=false∨(¬(sec.length:Int)=0∧¬(sec.length:Int)=8)) (hsl:sec.length≤1000):
  CallSim Tryz.prog 120 [rgA r,msA m,iA s,iA now,slA yA sec] [] (doR 1) []:=by
 rw[doR_eq]
 have hls:=map_len yA sec
 cases gv
 ·(refine eN Tryz.func120 Tryz.call120 fun F hF=>?_)
  (have zc1:=c1;refine WW ?_;clear zc1)
  exact fr0
 cases b
 ·(refine eN Tryz.func120 Tryz.call120 fun F hF=>?_)
  (have zc1:=c1;have zc2:=c2;refine WW ?_;clear zc1 zc2)
  exact fr0
 cases us
 ·(refine eN Tryz.func120 Tryz.call120 fun F hF=>?_)
  (have zc1:=c1;have zc2:=c2;have zc3:=c3;refine WW ?_;clear zc1 zc2 zc3)
  exact fr0
 ·rcases h with h|h|h|⟨h1,h2⟩
  ·cases h
  ·cases h
  ·cases h
  ·(refine eN Tryz.func120 Tryz.call120 fun F hF=>?_)
   (have zc1:=c1;have zc2:=c2;have zc3:=c3;refine WW ?_;clear zc1 zc2 zc3)
   exact fr0
theorem rdo_bad1 (r:Rg) (m:Ms) (s now:Int) (sec:List Int) (c1:CallSim Tryz.prog 169 [rgA r] [] (bA false) []):
  CallSim Tryz.prog 129 [rgA r,msA m,iA s,iA now,slA yA sec] [] (doR 1) []:=by
 rw[doR_eq]
 by_cases h2:m.kind=2
 ·(refine eN Tryz.func129 Tryz.call129 fun F hF=>?_)
  (have zc1:=c1;refine WW ?_;clear zc1)
  exact fr0
 by_cases h3:m.kind=3
 ·(refine eN Tryz.func129 Tryz.call129 fun F hF=>?_)
  (have zc1:=c1;refine WW ?_;clear zc1)
  exact fr0
 by_cases h4:m.kind=4
 ·(refine eN Tryz.func129 Tryz.call129 fun F hF=>?_)
  (have zc1:=c1;refine WW ?_;clear zc1)
  exact fr0
 by_cases h5:m.kind=5
 ·(refine eN Tryz.func129 Tryz.call129 fun F hF=>?_)
  (have zc1:=c1;refine WW ?_;clear zc1)
  exact fr0
 ·(refine eN Tryz.func129 Tryz.call129 fun F hF=>?_)
  (have zc1:=c1;refine WW ?_;clear zc1)
  exact fr0
theorem rdo_bad2 (r:Rg) (m:Ms) (s now:Int) (sec:List Int) (c1:CallSim Tryz.prog 169 [rgA r] [] (bA true) []) (h2:¬m.kind=2) (h3:¬m.kind=3) (h4:¬m.kind=4) (h5:¬m.kind=5):
  CallSim Tryz.prog 129 [rgA r,msA m,iA s,iA now,slA yA sec] [] (doR 1) []:=by
 rw[doR_eq]
 (refine eN Tryz.func129 Tryz.call129 fun F hF=>?_)
 (have zc1:=c1;refine WW ?_;clear zc1)
 exact fr0
theorem rdo_bad3 (r:Rg) (m:Ms) (s now:Int) (sec:List Int) (n8:r.tk.length=8) (b:Bool) (c1:CallSim Tryz.prog 169 [rgA r] [] (bA true) []) (c2:CallSim Tryz.prog 58 [msA m] [] (bA b) []) (hk:m.kind=2∨m.kind=3∨m.kind=4∨m.kind=5)
  (h:b=false∨usF r.tk s=false∨(¬(sec.length:Int)=0∧¬(sec.length:Int)=8)) (hsl:sec.length≤1000):CallSim Tryz.prog 129 [rgA r,msA m,iA s,iA now,slA yA sec] [] (doR 1) []:=by
 rw[doR_eq]
 have hls:=map_len yA sec
 have hlt:=map_len tkA r.tk
 cases b
 ·clear h
  rcases hk with hk|hk|hk|hk
  all_goals
   (refine eN Tryz.func129 Tryz.call129 fun F hF=>?_)
   (have zc1:=c1;have zc2:=c2;refine WW ?_;clear zc1 zc2)
   exact fr0
 by_cases h0:0≤s
 case neg=>
  clear h
  rcases hk with hk|hk|hk|hk
  all_goals
   (refine eN Tryz.func129 Tryz.call129 fun F hF=>?_)
   (have zc1:=c1;have zc2:=c2;refine WW ?_;clear zc1 zc2)
   exact fr0
 by_cases h8:s<8
 case neg=>
  clear h
  rcases hk with hk|hk|hk|hk
  all_goals
   (refine eN Tryz.func129 Tryz.call129 fun F hF=>?_)
   (have zc1:=c1;have zc2:=c2;refine WW ?_;clear zc1 zc2)
   exact fr0
 have hy:=map_atI tkA r.tk s h0 (by omega)
 have hU:usF r.tk s=(r.tk.getD s.toNat default).used:=by unfold usF;rw[decide_eq_true ⟨h0,by omega⟩,Bool.true_and]
 rw[hU]at h
 clear hU
 generalize r.tk.getD s.toNat default=x at*
 obtain⟨xu,x1,x2,x3,x4,x5⟩:=x
 dsimp only at h
 rw[show tkA ⟨xu,x1,x2,x3,x4,x5⟩= .agg [bA xu,slA yA x1,iA x2,iA x3,iA x4,iA x5]from rfl]at hy
 cases xu
 ·clear h
  rcases hk with hk|hk|hk|hk
  all_goals
   (refine eN Tryz.func129 Tryz.call129 fun F hF=>?_)
   (have zc1:=c1;have zc2:=c2;refine WW ?_;clear zc1 zc2)
   exact fr0
 ·rcases h with h|h|⟨g1,g2⟩
  ·cases h
  ·cases h
  ·rcases hk with hk|hk|hk|hk
   all_goals
    (refine eN Tryz.func129 Tryz.call129 fun F hF=>?_)
    (have zc1:=c1;have zc2:=c2;refine WW ?_;clear zc1 zc2)
    exact fr0
theorem rack_c (k a:Int):CallSim Tryz.prog 170 [iA k,iA a] [] (msA ⟨14,[],[k,a],[]⟩) []:=by
 (refine eN Tryz.func170 Tryz.call170 fun F hF=>?_)
 (refine WL ?_)
 exact fr0
def rgV (r:Rg) (l:List Vh):Rg:=⟨r.num,r.ag,r.tk,l,r.bk⟩
def DoP (r:Rg) (m:Ms) (sec:List Int) (r':Rg) (p:Ms) (u:Bool) (e:Int):Prop:=
 (e≠0→u=false)∧(e=0→(∃o,o.length=8∧T0K r.tk o∧r'=rgT r o∧((u=false∧p=⟨14,[],[3,m.args.getD 0 0],[]⟩∧m.kind=3)∨(u=true∧sec.length=8∧m.kind=2∧∃k:Nat,k<8∧p=⟨16,[],[(k:Int)],r.num::(k:Int)::sec⟩)))∨
  (∃o,o.length≤9∧r'=rgV r o∧u=false∧(m.kind=4∨m.kind=5)∧p=⟨14,[],[m.kind,m.args.getD 0 0],[]⟩))
def DoBoth (r:Rg) (m:Ms) (s now:Int) (sec:List Int):Prop:=∃(r':Rg) (p:Ms) (u:Bool) (e:Int),RgB r'∧MsB p∧DoP r m sec r' p u e∧
 CallSim Tryz.prog 120 [rgA r,msA m,iA s,iA now,slA yA sec] [] (.tup [rgA r',msA p,bA u,iA e]) []∧
 CallSim Tryz.prog 129 [rgA r,msA m,iA s,iA now,slA yA sec] [] (.tup [rgA r',msA p,bA u,iA e]) []
theorem ms0_b:MsB ms0:=⟨Nat.zero_le _,Nat.zero_le _,Nat.zero_le _⟩
theorem DoBoth.bad {r:Rg} {m:Ms} {s now:Int} {sec:List Int} (e:Int) (he:e≠0) (h1:CallSim Tryz.prog 120 [rgA r,msA m,iA s,iA now,slA yA sec] [] (doR e) []) (h2:CallSim Tryz.prog 129 [rgA r,msA m,iA s,iA now,slA yA sec] [] (doR e) []):DoBoth r m s now sec:=
 ⟨rg0,ms0,false,e,rg0_b,ms0_b,⟨fun _=>rfl,fun h=>absurd h he⟩,h1,h2⟩
theorem do3 (r:Rg) (hgv:gvF r=true) (tkn:List Int) (a s now:Int) (sec:List Int) (hu:usF r.tk s=true) (hs:(sec.length:Int)=0∨(sec.length:Int)=8)
  (m1:CallSim Tryz.prog 152 [msA ⟨3,tkn,[a],[]⟩] [] (bA true) []) (m2:CallSim Tryz.prog 58 [msA ⟨3,tkn,[a],[]⟩] [] (bA true) []):DoBoth r ⟨3,tkn,[a],[]⟩ s now sec:=by
 have H:=gv_b hgv
 have c1:=gvalid_x r (by have:=H.vl;omega)
 have k1:=gvalid2_c r (by have:=H.vl;omega)
 rw[hgv]at c1 k1
 have c3:=gused_c r.tk s
 rw[hu]at c3
 have c4:=rclone_c r H.b
 have k4:=copyG_c r H.b
 have c6:=ack_c ⟨3,tkn,[a],[]⟩ a rfl
 have k6:=rack_c 3 a
 rw[show msA ⟨14,[],[(⟨3,tkn,[a],[]⟩:Ms).kind,a],[]⟩= .agg [iA 14,.sl false [],.sl false [iA 3,iA a],.sl false []]from rfl]at c6
 rw[show msA ⟨14,[],[3,a],[]⟩= .agg [iA 14,.sl false [],.sl false [iA 3,iA a],.sl false []]from rfl]at k6
 obtain⟨o,e,_,ho,ho8,c5,k5⟩:=revoke_both r.tk H.b.tk a
 have hls:=map_len yA sec
 have hlt:=map_len tkA r.tk
 have hl1:([a].map iA).length=1:=rfl
 have hU:(r.tk.getD s.toNat default).used=true∧0≤s∧s<8:=by
  unfold usF at hu
  rw[Bool.and_eq_true,decide_eq_true_eq]at hu
  exact⟨hu.2,hu.1.1,by have:=H.n8;omega⟩
 have hn8:=H.n8
 have hy:=map_atI tkA r.tk s hU.2.1 (by omega)
 have hbR:RgB (rgT r o):=⟨ho,H.b.s,H.b.l,H.b.v⟩
 obtain⟨hU,hs0,hs8⟩:=hU
 clear hu H hgv
 generalize r.tk.getD s.toNat default=x at*
 obtain⟨xu,x1,x2,x3,x4,x5⟩:=x
 dsimp only at hU
 subst hU
 rw[show tkA ⟨true,x1,x2,x3,x4,x5⟩= .agg [bA true,slA yA x1,iA x2,iA x3,iA x4,iA x5]from rfl]at hy
 by_cases he:e=0
 ·subst he
  refine⟨rgT r o,⟨14,[],[3,a],[]⟩,false,0,hbR,⟨Nat.zero_le _,by simp,Nat.zero_le _⟩,⟨fun h=>absurd rfl h,fun _=> .inl ⟨o,by rw[(ho8 rfl).1,hn8],(ho8 rfl).2,rfl,.inl ⟨rfl,rfl,rfl⟩⟩⟩,?_,?_⟩
  ·rw[show msA ⟨14,[],[3,a],[]⟩= .agg [iA 14,.sl false [],.sl false [iA 3,iA a],.sl false []]from rfl]
   rcases hs with hs|hs
   all_goals
    (refine eN Tryz.func120 Tryz.call120 fun F hF=>?_)
    (have zc1:=c1;have zc2:=m1;have zc3:=c3;have zc4:=c4;have zc5:=c5;have zc6:=c6;refine WW ?_;clear zc1 zc2 zc3 zc4 zc5 zc6)
    exact fr0
  ·rw[show msA ⟨14,[],[3,a],[]⟩= .agg [iA 14,.sl false [],.sl false [iA 3,iA a],.sl false []]from rfl]
   rcases hs with hs|hs
   all_goals
    (refine eN Tryz.func129 Tryz.call129 fun F hF=>?_)
    (have zc1:=k1;have zc2:=m2;have zc3:=k4;have zc4:=k6;have zc5:=k5;refine WW ?_;clear zc1 zc2 zc3 zc4 zc5)
    exact fr0
 ·refine .bad e he ?_ ?_
  ·rw[doR_eq]
   rcases hs with hs|hs
   all_goals
    (refine eN Tryz.func120 Tryz.call120 fun F hF=>?_)
    (have zc1:=c1;have zc2:=m1;have zc3:=c3;have zc4:=c4;have zc5:=c5;have zc6:=c6;refine WW ?_;clear zc1 zc2 zc3 zc4 zc5 zc6)
    exact fr0
  ·rw[doR_eq]
   rcases hs with hs|hs
   all_goals
    (refine eN Tryz.func129 Tryz.call129 fun F hF=>?_)
    (have zc1:=k1;have zc2:=m2;have zc3:=k4;have zc4:=k6;have zc5:=k5;refine WW ?_;clear zc1 zc2 zc3 zc4 zc5)
    exact fr0
end
section
set_option maxRecDepth 4000
set_option maxHeartbeats 4000000
theorem do5 (r:Rg) (hgv:gvF r=true) (tkn:List Int) (a s now:Int) (sec:List Int) (hu:usF r.tk s=true) (hs:(sec.length:Int)=0∨(sec.length:Int)=8)
  (m1:CallSim Tryz.prog 152 [msA ⟨5,tkn,[a],[]⟩] [] (bA true) []) (m2:CallSim Tryz.prog 58 [msA ⟨5,tkn,[a],[]⟩] [] (bA true) []):DoBoth r ⟨5,tkn,[a],[]⟩ s now sec:=by
 have H:=gv_b hgv
 have c1:=gvalid_x r (by have:=H.vl;omega)
 have k1:=gvalid2_c r (by have:=H.vl;omega)
 rw[hgv]at c1 k1
 have c3:=gused_c r.tk s
 rw[hu]at c3
 have c4:=rclone_c r H.b
 have k4:=copyG_c r H.b
 have c6:=ack_c ⟨5,tkn,[a],[]⟩ a rfl
 have k6:=rack_c 5 a
 rw[show msA ⟨14,[],[(⟨5,tkn,[a],[]⟩:Ms).kind,a],[]⟩= .agg [iA 14,.sl false [],.sl false [iA 5,iA a],.sl false []]from rfl]at c6
 rw[show msA ⟨14,[],[5,a],[]⟩= .agg [iA 14,.sl false [],.sl false [iA 5,iA a],.sl false []]from rfl]at k6
 obtain⟨o,e,_,ho,c5,k5⟩:=remove_both r.vh (by have:=H.vl;omega) a
 have hls:=map_len yA sec
 have hlt:=map_len tkA r.tk
 have hl1:([a].map iA).length=1:=rfl
 have hU:(r.tk.getD s.toNat default).used=true∧0≤s∧s<8:=by
  unfold usF at hu
  rw[Bool.and_eq_true,decide_eq_true_eq]at hu
  exact⟨hu.2,hu.1.1,by have:=H.n8;omega⟩
 have hn8:=H.n8
 have hy:=map_atI tkA r.tk s hU.2.1 (by omega)
 have ho9:o.length≤9:=by have:=H.vl;omega
 have hbR:RgB (rgV r o):=⟨H.b.tk,H.b.s,H.b.l,by have:=H.vl;show o.length≤_;omega⟩
 obtain⟨hU,hs0,hs8⟩:=hU
 clear hu H hgv
 generalize r.tk.getD s.toNat default=x at*
 obtain⟨xu,x1,x2,x3,x4,x5⟩:=x
 dsimp only at hU
 subst hU
 rw[show tkA ⟨true,x1,x2,x3,x4,x5⟩= .agg [bA true,slA yA x1,iA x2,iA x3,iA x4,iA x5]from rfl]at hy
 by_cases he:e=0
 ·subst he
  refine⟨rgV r o,⟨14,[],[5,a],[]⟩,false,0,hbR,⟨Nat.zero_le _,by simp,Nat.zero_le _⟩,⟨fun h=>absurd rfl h,fun _=> .inr ⟨o,ho9,rfl,rfl,.inr rfl,rfl⟩⟩,?_,?_⟩
  ·rw[show msA ⟨14,[],[5,a],[]⟩= .agg [iA 14,.sl false [],.sl false [iA 5,iA a],.sl false []]from rfl]
   rcases hs with hs|hs
   all_goals
    (refine eN Tryz.func120 Tryz.call120 fun F hF=>?_)
    (have zc1:=c1;have zc2:=m1;have zc3:=c3;have zc4:=c4;have zc5:=c5;have zc6:=c6;refine WW ?_;clear zc1 zc2 zc3 zc4 zc5 zc6)
    exact fr0
  ·rw[show msA ⟨14,[],[5,a],[]⟩= .agg [iA 14,.sl false [],.sl false [iA 5,iA a],.sl false []]from rfl]
   rcases hs with hs|hs
   all_goals
    (refine eN Tryz.func129 Tryz.call129 fun F hF=>?_)
    (have zc1:=k1;have zc2:=m2;have zc3:=k4;have zc4:=k6;have zc5:=k5;refine WW ?_;clear zc1 zc2 zc3 zc4 zc5)
    exact fr0
 ·refine .bad e he ?_ ?_
  ·rw[doR_eq]
   rcases hs with hs|hs
   all_goals
    (refine eN Tryz.func120 Tryz.call120 fun F hF=>?_)
    (have zc1:=c1;have zc2:=m1;have zc3:=c3;have zc4:=c4;have zc5:=c5;have zc6:=c6;refine WW ?_;clear zc1 zc2 zc3 zc4 zc5 zc6)
    exact fr0
  ·rw[doR_eq]
   rcases hs with hs|hs
   all_goals
    (refine eN Tryz.func129 Tryz.call129 fun F hF=>?_)
    (have zc1:=k1;have zc2:=m2;have zc3:=k4;have zc4:=k6;have zc5:=k5;refine WW ?_;clear zc1 zc2 zc3 zc4 zc5)
    exact fr0
theorem gregister_c (r:Rg) (a b s:Int) (n8:r.tk.length=8) (h0:0≤s) (h8:s<8) (o:List Vh) (e:Int) (c:CallSim Tryz.prog 191 [slA vhA r.vh,agA (agC r.ag (min r.ag.cls (r.tk.getD s.toNat default).cls)),vhA ⟨a,b⟩] [] (.tup [slA vhA o,iA e]) []):
  CallSim Tryz.prog 157 [rgA r,slA iA [a,b],iA s] [] (.tup [slA vhA o,iA e]) []:=by
 have hlt:=map_len tkA r.tk
 have hl1:([a,b].map iA).length=2:=rfl
 have hy:=map_atI tkA r.tk s h0 (by omega)
 generalize r.tk.getD s.toNat default=x at*
 obtain⟨xu,x1,x2,x3,x4,x5⟩:=x
 rw[show tkA ⟨xu,x1,x2,x3,x4,x5⟩= .agg [bA xu,slA yA x1,iA x2,iA x3,iA x4,iA x5]from rfl]at hy
 rw[show(⟨xu,x1,x2,x3,x4,x5⟩:Tk).cls=x4 from rfl]at c
 have hAG:agA (agC r.ag (min r.ag.cls x4))= .agg [slA yA r.ag.sec,iA r.ag.rights,iA (min r.ag.cls x4),slA iA r.ag.lim,iA r.ag.req,iA r.ag.ses,iA r.ag.rate,iA r.ag.burst]:=rfl
 rw[hAG]at c
 rw[show vhA ⟨a,b⟩= .agg [iA a,iA b]from rfl]at c
 (refine eN Tryz.func157 Tryz.call157 fun F hF=>?_)
 (have zc1:=c;refine WW ?_;clear zc1)
 exact fr0
theorem do4 (r:Rg) (hgv:gvF r=true) (tkn:List Int) (a b s now:Int) (sec:List Int) (hu:usF r.tk s=true) (hs:(sec.length:Int)=0∨(sec.length:Int)=8)
  (m1:CallSim Tryz.prog 152 [msA ⟨4,tkn,[a,b],[]⟩] [] (bA true) []) (m2:CallSim Tryz.prog 58 [msA ⟨4,tkn,[a,b],[]⟩] [] (bA true) []):DoBoth r ⟨4,tkn,[a,b],[]⟩ s now sec:=by
 have H:=gv_b hgv
 have c1:=gvalid_x r (by have:=H.vl;omega)
 have k1:=gvalid2_c r (by have:=H.vl;omega)
 rw[hgv]at c1 k1
 have c3:=gused_c r.tk s
 rw[hu]at c3
 have c4:=rclone_c r H.b
 have k4:=copyG_c r H.b
 have c6:CallSim Tryz.prog 156 [msA ⟨4,tkn,[a,b],[]⟩] [] (msA ⟨14,[],[4,a],[]⟩) []:=by
  have hl1:([a,b].map iA).length=2:=rfl
  (refine eN Tryz.func156 Tryz.call156 fun F hF=>?_)
  (refine WL ?_)
  exact fr0
 have k6:=rack_c 4 a
 rw[show msA ⟨14,[],[4,a],[]⟩= .agg [iA 14,.sl false [],.sl false [iA 4,iA a],.sl false []]from rfl]at c6 k6
 obtain⟨o,e,_,ho,cv,k5⟩:=register_both r.vh (by have:=H.vl;omega) r.ag (r.tk.getD s.toNat default).cls H.lim H.cls.2 ⟨a,b⟩
 have hls:=map_len yA sec
 have hlt:=map_len tkA r.tk
 have hl1:([a,b].map iA).length=2:=rfl
 have hU:(r.tk.getD s.toNat default).used=true∧0≤s∧s<8:=by
  unfold usF at hu
  rw[Bool.and_eq_true,decide_eq_true_eq]at hu
  exact⟨hu.2,hu.1.1,by have:=H.n8;omega⟩
 have hn8:=H.n8
 have hy:=map_atI tkA r.tk s hU.2.1 (by omega)
 have ho9:o.length≤9:=by have:=H.vl;omega
 have hbR:RgB (rgV r o):=⟨H.b.tk,H.b.s,H.b.l,by have:=H.vl;show o.length≤_;omega⟩
 obtain⟨hU,hs0,hs8⟩:=hU
 have c5:=gregister_c r a b s hn8 hs0 hs8 o e cv
 clear hu H hgv cv
 generalize r.tk.getD s.toNat default=x at*
 obtain⟨xu,x1,x2,x3,x4,x5⟩:=x
 dsimp only at hU
 subst hU
 rw[show tkA ⟨true,x1,x2,x3,x4,x5⟩= .agg [bA true,slA yA x1,iA x2,iA x3,iA x4,iA x5]from rfl]at hy
 rw[show(⟨true,x1,x2,x3,x4,x5⟩:Tk).cls=x4 from rfl,show vhA ⟨a,b⟩= .agg [iA a,iA b]from rfl,show agA r.ag= .agg [slA yA r.ag.sec,iA r.ag.rights,iA r.ag.cls,slA iA r.ag.lim,iA r.ag.req,iA r.ag.ses,iA r.ag.rate,iA r.ag.burst]from rfl]at k5
 by_cases he:e=0
 ·subst he
  refine⟨rgV r o,⟨14,[],[4,a],[]⟩,false,0,hbR,⟨Nat.zero_le _,by simp,Nat.zero_le _⟩,⟨fun h=>absurd rfl h,fun _=> .inr ⟨o,ho9,rfl,rfl,.inl rfl,rfl⟩⟩,?_,?_⟩
  ·rw[show msA ⟨14,[],[4,a],[]⟩= .agg [iA 14,.sl false [],.sl false [iA 4,iA a],.sl false []]from rfl]
   rcases hs with hs|hs
   all_goals
    (refine eN Tryz.func120 Tryz.call120 fun F hF=>?_)
    (have zc1:=c1;have zc2:=m1;have zc3:=c3;have zc4:=c4;have zc5:=c5;have zc6:=c6;refine WW ?_;clear zc1 zc2 zc3 zc4 zc5 zc6)
    exact fr0
  ·rw[show msA ⟨14,[],[4,a],[]⟩= .agg [iA 14,.sl false [],.sl false [iA 4,iA a],.sl false []]from rfl]
   rcases hs with hs|hs
   all_goals
    (refine eN Tryz.func129 Tryz.call129 fun F hF=>?_)
    (have zc1:=k1;have zc2:=m2;have zc3:=k4;have zc4:=k6;have zc5:=k5;refine WW ?_;clear zc1 zc2 zc3 zc4 zc5)
    exact fr0
 ·refine .bad e he ?_ ?_
  ·rw[doR_eq]
   rcases hs with hs|hs
   all_goals
    (refine eN Tryz.func120 Tryz.call120 fun F hF=>?_)
    (have zc1:=c1;have zc2:=m1;have zc3:=c3;have zc4:=c4;have zc5:=c5;have zc6:=c6;refine WW ?_;clear zc1 zc2 zc3 zc4 zc5 zc6)
    exact fr0
  ·rw[doR_eq]
   rcases hs with hs|hs
   all_goals
    (refine eN Tryz.func129 Tryz.call129 fun F hF=>?_)
    (have zc1:=k1;have zc2:=m2;have zc3:=k4;have zc4:=k6;have zc5:=k5;refine WW ?_;clear zc1 zc2 zc3 zc4 zc5)
    exact fr0
end
end Av
end Go.Proofs.YtaikgchmpieooaaGreat
