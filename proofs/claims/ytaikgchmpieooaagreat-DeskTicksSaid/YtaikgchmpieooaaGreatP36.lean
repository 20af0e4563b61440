/- Part 36: contracts of the functions, and what they rest upon. -/
import Derived.Test.YtaikgchmpieooaaGreatP35
namespace Go.Proofs.YtaikgchmpieooaaGreat
namespace Av
set_option linter.unusedSimpArgs false
set_option linter.unusedVariables false
section
set_option maxRecDepth 4000
set_option maxHeartbeats 4000000
structure Shp where
 t:Int
 f:Int
 g:Int
 lo:Int
 hi:Int
 da:Int
def spA (s:Shp):AV:= .agg [iA s.t,iA s.f,iA s.g,iA s.lo,iA s.hi,iA s.da]
structure ShB (k:Int) (s:Shp) (ok:Bool):Prop where
 t:0≤s.t∧s.t≤10
 f:0≤s.f∧s.f≤4
 g:s.g=0∨s.g=2∨s.g=3∨s.g=4
 da: -1≤s.da∧s.da≤10
 k2:k=2→s=⟨10,3,0,0,0,0⟩∧ok=true
 k3:k=3→s=⟨10,1,0,0,0,0⟩∧ok=true
 k4:k=4→s=⟨10,2,0,0,0,0⟩∧ok=true
 k5:k=5→s=⟨10,1,0,0,0,0⟩∧ok=true
theorem shape_x (k:Int):∃(s:Shp) (ok:Bool),ShB k s ok∧CallSim Tryz.prog 116 [iA k] [] (.tup [spA s,bA ok]) []:=by
 by_cases h1:k=1
 ·subst h1
  refine⟨⟨10,0,0,0,0,0⟩,true,⟨by decide,by decide,by decide,by decide,fun h=>absurd h (by omega),fun h=>absurd h (by omega),fun h=>absurd h (by omega),fun h=>absurd h (by omega)⟩,?_⟩
  unfold spA
  (refine eN Tryz.func116 Tryz.call116 fun F hF=>?_)
  (refine WW ?_)
  exact fr0
 by_cases h2:k=2
 ·subst h2
  refine⟨⟨10,3,0,0,0,0⟩,true,⟨by decide,by decide,by decide,by decide,fun _=>⟨rfl,rfl⟩,fun h=>absurd h (by omega),fun h=>absurd h (by omega),fun h=>absurd h (by omega)⟩,?_⟩
  unfold spA
  (refine eN Tryz.func116 Tryz.call116 fun F hF=>?_)
  (refine WW ?_)
  exact fr0
 by_cases h3:k=3
 ·subst h3
  refine⟨⟨10,1,0,0,0,0⟩,true,⟨by decide,by decide,by decide,by decide,fun h=>absurd h (by omega),fun _=>⟨rfl,rfl⟩,fun h=>absurd h (by omega),fun h=>absurd h (by omega)⟩,?_⟩
  unfold spA
  (refine eN Tryz.func116 Tryz.call116 fun F hF=>?_)
  (refine WW ?_)
  exact fr0
 by_cases h4:k=4
 ·subst h4
  refine⟨⟨10,2,0,0,0,0⟩,true,⟨by decide,by decide,by decide,by decide,fun h=>absurd h (by omega),fun h=>absurd h (by omega),fun _=>⟨rfl,rfl⟩,fun h=>absurd h (by omega)⟩,?_⟩
  unfold spA
  (refine eN Tryz.func116 Tryz.call116 fun F hF=>?_)
  (refine WW ?_)
  exact fr0
 by_cases h5:k=5
 ·subst h5
  refine⟨⟨10,1,0,0,0,0⟩,true,⟨by decide,by decide,by decide,by decide,fun h=>absurd h (by omega),fun h=>absurd h (by omega),fun h=>absurd h (by omega),fun _=>⟨rfl,rfl⟩⟩,?_⟩
  unfold spA
  (refine eN Tryz.func116 Tryz.call116 fun F hF=>?_)
  (refine WW ?_)
  exact fr0
 by_cases h6:k=6
 ·subst h6
  refine⟨⟨10,3,4,1,3,0⟩,true,⟨by decide,by decide,by decide,by decide,fun h=>absurd h (by omega),fun h=>absurd h (by omega),fun h=>absurd h (by omega),fun h=>absurd h (by omega)⟩,?_⟩
  unfold spA
  (refine eN Tryz.func116 Tryz.call116 fun F hF=>?_)
  (refine WW ?_)
  exact fr0
 by_cases h7:k=7
 ·subst h7
  refine⟨⟨10,1,2,1,3,0⟩,true,⟨by decide,by decide,by decide,by decide,fun h=>absurd h (by omega),fun h=>absurd h (by omega),fun h=>absurd h (by omega),fun h=>absurd h (by omega)⟩,?_⟩
  unfold spA
  (refine eN Tryz.func116 Tryz.call116 fun F hF=>?_)
  (refine WW ?_)
  exact fr0
 by_cases h8:k=8
 ·subst h8
  refine⟨⟨10,1,0,0,0,0⟩,true,⟨by decide,by decide,by decide,by decide,fun h=>absurd h (by omega),fun h=>absurd h (by omega),fun h=>absurd h (by omega),fun h=>absurd h (by omega)⟩,?_⟩
  unfold spA
  (refine eN Tryz.func116 Tryz.call116 fun F hF=>?_)
  (refine WW ?_)
  exact fr0
 by_cases h9:k=9
 ·subst h9
  refine⟨⟨10,0,0,0,0,0⟩,true,⟨by decide,by decide,by decide,by decide,fun h=>absurd h (by omega),fun h=>absurd h (by omega),fun h=>absurd h (by omega),fun h=>absurd h (by omega)⟩,?_⟩
  unfold spA
  (refine eN Tryz.func116 Tryz.call116 fun F hF=>?_)
  (refine WW ?_)
  exact fr0
 by_cases h10:k=10
 ·subst h10
  refine⟨⟨10,1,0,0,0,0⟩,true,⟨by decide,by decide,by decide,by decide,fun h=>absurd h (by omega),fun h=>absurd h (by omega),fun h=>absurd h (by omega),fun h=>absurd h (by omega)⟩,?_⟩
  unfold spA
  (refine eN Tryz.func116 Tryz.call116 fun F hF=>?_)
  (refine WW ?_)
  exact fr0
 by_cases h11:k=11
 ·subst h11
  refine⟨⟨10,1,0,0,0,0⟩,true,⟨by decide,by decide,by decide,by decide,fun h=>absurd h (by omega),fun h=>absurd h (by omega),fun h=>absurd h (by omega),fun h=>absurd h (by omega)⟩,?_⟩
  unfold spA
  (refine eN Tryz.func116 Tryz.call116 fun F hF=>?_)
  (refine WW ?_)
  exact fr0
 by_cases h12:k=12
 ·subst h12
  refine⟨⟨10,0,0,0,0,0⟩,true,⟨by decide,by decide,by decide,by decide,fun h=>absurd h (by omega),fun h=>absurd h (by omega),fun h=>absurd h (by omega),fun h=>absurd h (by omega)⟩,?_⟩
  unfold spA
  (refine eN Tryz.func116 Tryz.call116 fun F hF=>?_)
  (refine WW ?_)
  exact fr0
 by_cases h13:k=13
 ·subst h13
  refine⟨⟨0,2,0,0,0,0⟩,true,⟨by decide,by decide,by decide,by decide,fun h=>absurd h (by omega),fun h=>absurd h (by omega),fun h=>absurd h (by omega),fun h=>absurd h (by omega)⟩,?_⟩
  unfold spA
  (refine eN Tryz.func116 Tryz.call116 fun F hF=>?_)
  (refine WW ?_)
  exact fr0
 by_cases h14:k=14
 ·subst h14
  refine⟨⟨0,2,0,0,0,0⟩,true,⟨by decide,by decide,by decide,by decide,fun h=>absurd h (by omega),fun h=>absurd h (by omega),fun h=>absurd h (by omega),fun h=>absurd h (by omega)⟩,?_⟩
  unfold spA
  (refine eN Tryz.func116 Tryz.call116 fun F hF=>?_)
  (refine WW ?_)
  exact fr0
 by_cases h15:k=15
 ·subst h15
  refine⟨⟨0,2,0,0,0,0⟩,true,⟨by decide,by decide,by decide,by decide,fun h=>absurd h (by omega),fun h=>absurd h (by omega),fun h=>absurd h (by omega),fun h=>absurd h (by omega)⟩,?_⟩
  unfold spA
  (refine eN Tryz.func116 Tryz.call116 fun F hF=>?_)
  (refine WW ?_)
  exact fr0
 by_cases h16:k=16
 ·subst h16
  refine⟨⟨0,1,0,0,0,10⟩,true,⟨by decide,by decide,by decide,by decide,fun h=>absurd h (by omega),fun h=>absurd h (by omega),fun h=>absurd h (by omega),fun h=>absurd h (by omega)⟩,?_⟩
  unfold spA
  (refine eN Tryz.func116 Tryz.call116 fun F hF=>?_)
  (refine WW ?_)
  exact fr0
 by_cases h17:k=17
 ·subst h17
  refine⟨⟨0,1,0,0,0,-1⟩,true,⟨by decide,by decide,by decide,by decide,fun h=>absurd h (by omega),fun h=>absurd h (by omega),fun h=>absurd h (by omega),fun h=>absurd h (by omega)⟩,?_⟩
  unfold spA
  (refine eN Tryz.func116 Tryz.call116 fun F hF=>?_)
  (refine WW ?_)
  exact fr0
 by_cases h18:k=18
 ·subst h18
  refine⟨⟨0,1,3,0,16,0⟩,true,⟨by decide,by decide,by decide,by decide,fun h=>absurd h (by omega),fun h=>absurd h (by omega),fun h=>absurd h (by omega),fun h=>absurd h (by omega)⟩,?_⟩
  unfold spA
  (refine eN Tryz.func116 Tryz.call116 fun F hF=>?_)
  (refine WW ?_)
  exact fr0
 by_cases h19:k=19
 ·subst h19
  refine⟨⟨0,0,2,0,4,0⟩,true,⟨by decide,by decide,by decide,by decide,fun h=>absurd h (by omega),fun h=>absurd h (by omega),fun h=>absurd h (by omega),fun h=>absurd h (by omega)⟩,?_⟩
  unfold spA
  (refine eN Tryz.func116 Tryz.call116 fun F hF=>?_)
  (refine WW ?_)
  exact fr0
 by_cases h20:k=20
 ·subst h20
  refine⟨⟨0,4,0,0,0,0⟩,true,⟨by decide,by decide,by decide,by decide,fun h=>absurd h (by omega),fun h=>absurd h (by omega),fun h=>absurd h (by omega),fun h=>absurd h (by omega)⟩,?_⟩
  unfold spA
  (refine eN Tryz.func116 Tryz.call116 fun F hF=>?_)
  (refine WW ?_)
  exact fr0
 by_cases h21:k=21
 ·subst h21
  refine⟨⟨0,1,0,0,0,-1⟩,true,⟨by decide,by decide,by decide,by decide,fun h=>absurd h (by omega),fun h=>absurd h (by omega),fun h=>absurd h (by omega),fun h=>absurd h (by omega)⟩,?_⟩
  unfold spA
  (refine eN Tryz.func116 Tryz.call116 fun F hF=>?_)
  (refine WW ?_)
  exact fr0
 by_cases h22:k=22
 ·subst h22
  refine⟨⟨0,1,0,0,0,0⟩,true,⟨by decide,by decide,by decide,by decide,fun h=>absurd h (by omega),fun h=>absurd h (by omega),fun h=>absurd h (by omega),fun h=>absurd h (by omega)⟩,?_⟩
  unfold spA
  (refine eN Tryz.func116 Tryz.call116 fun F hF=>?_)
  (refine WW ?_)
  exact fr0
 refine⟨⟨0,0,0,0,0,0⟩,false,⟨by decide,by decide,by decide,by decide,fun h=>absurd h h2,fun h=>absurd h h3,fun h=>absurd h h4,fun h=>absurd h h5⟩,?_⟩
 unfold spA
 (refine eN Tryz.func116 Tryz.call116 fun F hF=>?_)
 (refine WW ?_)
 exact fr0
theorem groups_x (s:Shp) (hg:s.g=0∨s.g=2∨s.g=3∨s.g=4) (hf:0≤s.f∧s.f≤4) (n:Int) (hn:0≤n∧n≤1000000):∃(gr:Int) (ok:Bool),(-1000000≤gr∧gr≤1000000)∧(s.g=0→gr=0∧ok=decide (n=s.f))∧CallSim Tryz.prog 214 [spA s,iA n] [] (.tup [iA gr,bA ok]) []:=by
 obtain⟨t,f,g,lo,hi,da⟩:=s
 dsimp only at*
 rw[show spA ⟨t,f,g,lo,hi,da⟩= .agg [iA t,iA f,iA g,iA lo,iA hi,iA da]from rfl]
 rcases hg with rfl|rfl|rfl|rfl
 ·by_cases h:n=f
  ·refine⟨0,true,by omega,fun _=>⟨rfl,(decide_eq_true h).symm⟩,?_⟩
   (refine eN Tryz.func214 Tryz.call214 fun F hF=>?_)
   (refine WW ?_)
   exact fr0
  ·refine⟨0,false,by omega,fun _=>⟨rfl,(decide_eq_false h).symm⟩,?_⟩
   (refine eN Tryz.func214 Tryz.call214 fun F hF=>?_)
   (refine WW ?_)
   exact fr0
 ·by_cases h1:n-f<0
  ·refine⟨0,false,by omega,fun h=>absurd h (by decide),?_⟩
   (refine eN Tryz.func214 Tryz.call214 fun F hF=>?_)
   (refine WW ?_)
   exact fr0
  have hb:0≤(n-f).tdiv 2∧(n-f).tdiv 2≤1000000:=by
   rw[Int.tdiv_eq_ediv_of_nonneg (by omega)]
   omega
  have hq:InR .i64 ((n-f).tdiv 2):=by
   unfold InR
   have e1:IntKind.i64.min= -9223372036854775808:=by decide
   have e2:IntKind.i64.max=9223372036854775807:=by decide
   omega
  by_cases h2:(n-f).tmod 2=0
  case neg=>
   refine⟨0,false,by omega,fun h=>absurd h (by decide),?_⟩
   (refine eN Tryz.func214 Tryz.call214 fun F hF=>?_)
   (refine WW ?_)
   exact fr0
  generalize hm:(n-f).tmod 2=m at*
  by_cases h3:lo≤(n-f).tdiv 2
  case neg=>
   refine⟨(n-f).tdiv 2,false,by omega,fun h=>absurd h (by decide),?_⟩
   subst hm
   (refine eN Tryz.func214 Tryz.call214 fun F hF=>?_)
   (refine WW ?_)
   exact fr0
  by_cases h4:(n-f).tdiv 2≤hi
  ·refine⟨(n-f).tdiv 2,true,by omega,fun h=>absurd h (by decide),?_⟩
   subst hm
   (refine eN Tryz.func214 Tryz.call214 fun F hF=>?_)
   (refine WW ?_)
   exact fr0
  ·refine⟨(n-f).tdiv 2,false,by omega,fun h=>absurd h (by decide),?_⟩
   subst hm
   (refine eN Tryz.func214 Tryz.call214 fun F hF=>?_)
   (refine WW ?_)
   exact fr0
 ·by_cases h1:n-f<0
  ·refine⟨0,false,by omega,fun h=>absurd h (by decide),?_⟩
   (refine eN Tryz.func214 Tryz.call214 fun F hF=>?_)
   (refine WW ?_)
   exact fr0
  have hb:0≤(n-f).tdiv 3∧(n-f).tdiv 3≤1000000:=by
   rw[Int.tdiv_eq_ediv_of_nonneg (by omega)]
   omega
  have hq:InR .i64 ((n-f).tdiv 3):=by
   unfold InR
   have e1:IntKind.i64.min= -9223372036854775808:=by decide
   have e2:IntKind.i64.max=9223372036854775807:=by decide
   omega
  by_cases h2:(n-f).tmod 3=0
  case neg=>
   refine⟨0,false,by omega,fun h=>absurd h (by decide),?_⟩
   (refine eN Tryz.func214 Tryz.call214 fun F hF=>?_)
   (refine WW ?_)
   exact fr0
  generalize hm:(n-f).tmod 3=m at*
  by_cases h3:lo≤(n-f).tdiv 3
  case neg=>
   refine⟨(n-f).tdiv 3,false,by omega,fun h=>absurd h (by decide),?_⟩
   subst hm
   (refine eN Tryz.func214 Tryz.call214 fun F hF=>?_)
   (refine WW ?_)
   exact fr0
  by_cases h4:(n-f).tdiv 3≤hi
  ·refine⟨(n-f).tdiv 3,true,by omega,fun h=>absurd h (by decide),?_⟩
   subst hm
   (refine eN Tryz.func214 Tryz.call214 fun F hF=>?_)
   (refine WW ?_)
   exact fr0
  ·refine⟨(n-f).tdiv 3,false,by omega,fun h=>absurd h (by decide),?_⟩
   subst hm
   (refine eN Tryz.func214 Tryz.call214 fun F hF=>?_)
   (refine WW ?_)
   exact fr0
 ·by_cases h1:n-f<0
  ·refine⟨0,false,by omega,fun h=>absurd h (by decide),?_⟩
   (refine eN Tryz.func214 Tryz.call214 fun F hF=>?_)
   (refine WW ?_)
   exact fr0
  have hb:0≤(n-f).tdiv 4∧(n-f).tdiv 4≤1000000:=by
   rw[Int.tdiv_eq_ediv_of_nonneg (by omega)]
   omega
  have hq:InR .i64 ((n-f).tdiv 4):=by
   unfold InR
   have e1:IntKind.i64.min= -9223372036854775808:=by decide
   have e2:IntKind.i64.max=9223372036854775807:=by decide
   omega
  by_cases h2:(n-f).tmod 4=0
  case neg=>
   refine⟨0,false,by omega,fun h=>absurd h (by decide),?_⟩
   (refine eN Tryz.func214 Tryz.call214 fun F hF=>?_)
   (refine WW ?_)
   exact fr0
  generalize hm:(n-f).tmod 4=m at*
  by_cases h3:lo≤(n-f).tdiv 4
  case neg=>
   refine⟨(n-f).tdiv 4,false,by omega,fun h=>absurd h (by decide),?_⟩
   subst hm
   (refine eN Tryz.func214 Tryz.call214 fun F hF=>?_)
   (refine WW ?_)
   exact fr0
  by_cases h4:(n-f).tdiv 4≤hi
  ·refine⟨(n-f).tdiv 4,true,by omega,fun h=>absurd h (by decide),?_⟩
   subst hm
   (refine eN Tryz.func214 Tryz.call214 fun F hF=>?_)
   (refine WW ?_)
   exact fr0
  ·refine⟨(n-f).tdiv 4,false,by omega,fun h=>absurd h (by decide),?_⟩
   subst hm
   (refine eN Tryz.func214 Tryz.call214 fun F hF=>?_)
   (refine WW ?_)
   exact fr0
end
section
set_option maxRecDepth 4000
set_option maxHeartbeats 4000000
theorem cloneY_own0 (l:List Int) (hl:l.length≤1073741824):CallSim Tryz.prog 84 [slA yA l] [] (.ref 1001 0 (l.map yA).length) [(1001,.arr 1 (l.map yA) false)]:=by
 have hll:=map_len yA l
 (refine eN Tryz.func84 Tryz.call84 fun F hF=>?_)
 refine sim_nsplit 0 rfl (fun cap hx=>?_) ?_
 ·have:l=[]:=by simpa using hx
  subst this
  (repeat' (first|refine WZ ?_|refine SG (I2 (fun hc=>?_) (fun hc=>?_))|refine SG (fun hc=>?_)|(refine is_ops ?_;refine is_call ?_;fail)|(refine is_ops ?_;first|fail)|first|refine SN ?_|refine SK (I2 (fun hc=>?_) (fun hc=>?_))|refine SK (fun hc=>?_)|fail))
  refine sim_virtF 2 1001 1 rfl rfl rfl (sim_ret ?_)
  exact fin_own [1001] rfl rfl rfl rfl
 ·repeat' (first|(refine is_ops ?_;first|refine x_auto tok rfl rfl ?_|(refine is_bin ?_;refine x_q (stp_eqlNil_not tok (.inl ⟨rfl,rfl⟩) rfl rfl rfl rfl) rfl ?_)|(refine is_bsl ?_;refine x_w (nw:=[1001]) (stp_buildSlice tok 1001 (xs:=[]) rfl rfl rfl rfl rfl rfl rfl rfl rfl) rfl rfl rfl ?_)|(refine is_app ?_;refine x_appref0 tok rfl rfl rfl rfl rfl rfl rfl (map_hd _ _ (fun _=>rfl)) rfl rfl rfl (by omega) rfl ?_)|refine x_nil ?_)|(first|refine sim_seq ?_|refine x_region ?_|refine x_draw rfl ?_|refine sim_cond_true rfl ?_|refine sim_cond_false rfl ?_|refine sim_cond rfl (fun hc=>?_) (fun hc=>?_)|refine sim_skip ?_|refine sim_ret ?_|refine sim_exit ?_|refine sim_block ?_))
  exact fin_own [1001] rfl rfl rfl rfl
def nmB (n:Int):Bool:=decide (0≤n∧n≤4294967295)
theorem ve_nm (n:Int):veF n=if nmB n=true then 0 else 8:=by
 unfold veF nmB
 by_cases h:0≤n∧n≤4294967295
 ·rw[if_pos h,decide_eq_true h,if_pos rfl]
 ·rw[if_neg h,decide_eq_false h,if_neg Bool.false_ne_true]
def pyN (s:Shp) (gr:Int) (tok args:List Int):Nat→List Int
 |0=>tok
 |i+1=>(if(i:Int)=s.f∧0<s.g then pyN s gr tok args i++vbF gr else pyN s gr tok args i)++vbF (args.getD i default)
def pyG (s:Shp) (gr:Int) (tok args:List Int) (i:Nat):List Int:=if(i:Int)=s.f∧0<s.g then pyN s gr tok args i++vbF gr else pyN s gr tok args i
theorem pyN_len (s:Shp) (gr:Int) (tok args:List Int):∀i,(pyN s gr tok args i).length≤tok.length+12*i
 |0=>by show tok.length≤_;omega
 |i+1=>by
  have:=pyN_len s gr tok args i
  have h1:=vbF_len gr
  have h2:=vbF_len (args.getD i default)
  unfold pyN
  split<;>simp only[List.length_append]<;>omega
theorem pyG_len (s:Shp) (gr:Int) (tok args:List Int) (i:Nat):(pyG s gr tok args i).length≤tok.length+12*i+6:=by
 have:=pyN_len s gr tok args i
 have h1:=vbF_len gr
 unfold pyG
 split<;>(try simp only[List.length_append])<;>omega
theorem loopN (args:List Int):∀n,n≤args.length→(∃k,k<n∧nmB (args.getD k default)=false∧∀i,i<k→nmB (args.getD i default)=true)∨(∀i,i<n→nmB (args.getD i default)=true)
 |0,_=> .inr fun i hi=>absurd hi (Nat.not_lt_zero _)
 | n+1,hn=>by
  rcases loopN args n (by omega)with⟨k,h1,h2,h3⟩|h
  ·exact .inl ⟨k,by omega,h2,h3⟩
  ·cases hb:nmB (args.getD n default)with
   |true=>
    refine .inr fun i hi=>?_
    by_cases e:i=n
    ·subst e;exact hb
    ·exact h i (by omega)
   |false=>exact .inl ⟨n,by omega,hb,h⟩
structure MsB (m:Ms):Prop where
 t:m.tok.length≤1000
 a:m.args.length≤1000
 d:m.data.length≤1000
theorem encode_x (m:Ms) (hm:MsB m):∃(xs:List AV) (e:Int),(e=0∨e=6)∧CallSim Tryz.prog 187 [msA m] [] (.tup [.sl false xs,iA e]) []∧(∀f:Nat,(m.kind=2∧f=3)∨(m.kind=3∧f=1)∨(m.kind=4∧f=2)∨(m.kind=5∧f=1)→(e=0↔(m.tok.length=10∧m.data=[]∧m.args.length=f∧∀i,i<f→nmB (m.args.getD i default)=true))):=by
 obtain⟨s,ok,hs,c1⟩:=shape_x m.kind
 obtain⟨gr,ok2,hgr,hg0,c2⟩:=groups_x s hs.g hs.f ((m.args.map iA).length:Int) (by have:=hm.a;simp;omega)
 have c3:=cloneY_own0 m.tok (by have:=hm.t;omega)
 have b1:=hm.t
 have b2:=hm.a
 have b3:=hm.d
 have hlt:=map_len yA m.tok
 have hla:=map_len iA m.args
 have hld:=map_len yA m.data
 have hq:∀f:Nat,(m.kind=2∧f=3)∨(m.kind=3∧f=1)∨(m.kind=4∧f=2)∨(m.kind=5∧f=1)→s.t=10∧s.f=f∧s.g=0∧s.da=0∧ok=true:=fun f hf=>by
  rcases hf with⟨h,rfl⟩|⟨h,rfl⟩|⟨h,rfl⟩|⟨h,rfl⟩
  ·obtain⟨e1,e2⟩:=hs.k2 h;subst e1;exact⟨rfl,rfl,rfl,rfl,e2⟩
  ·obtain⟨e1,e2⟩:=hs.k3 h;subst e1;exact⟨rfl,rfl,rfl,rfl,e2⟩
  ·obtain⟨e1,e2⟩:=hs.k4 h;subst e1;exact⟨rfl,rfl,rfl,rfl,e2⟩
  ·obtain⟨e1,e2⟩:=hs.k5 h;subst e1;exact⟨rfl,rfl,rfl,rfl,e2⟩
 have hst:=hs.t
 have hsf:=hs.f
 have hsg:=hs.g
 have hsd:=hs.da
 clear hs
 obtain⟨mk,tk,ar,da⟩:=m
 dsimp only at*
 rw[show msA ⟨mk,tk,ar,da⟩= .agg [iA mk,slA yA tk,slA iA ar,slA yA da]from rfl]
 have hpl:=pyN_len s gr tk ar
 have hpg:=pyG_len s gr tk ar
 have hp0:pyN s gr tk ar 0=tk:=rfl
 have hpG:∀i:Nat,pyG s gr tk ar i=if(i:Int)=s.f∧0<s.g then pyN s gr tk ar i++vbF gr else pyN s gr tk ar i:=fun _=>rfl
 have hpS:∀i:Nat,pyN s gr tk ar (i+1)=pyG s gr tk ar i++vbF (ar.getD i default):=fun _=>rfl
 generalize pyG s gr tk ar=pg at*
 generalize pyN s gr tk ar=py at*
 obtain⟨st,sf,sg,slo,shi,sda⟩:=s
 dsimp only at*
 rw[show spA ⟨st,sf,sg,slo,shi,sda⟩= .agg [iA st,iA sf,iA sg,iA slo,iA shi,iA sda]from rfl]at*
 cases ok with
 |false=>
  refine⟨[],6,.inr rfl,?_,fun f hf=>⟨fun h=>absurd h (by decide),fun h=>absurd (hq f hf).2.2.2.2 (by decide)⟩⟩
  clear hpl hpg hpG hpS hq
  (refine eN Tryz.func187 Tryz.call187 fun F hF=>?_)
  (have zc1:=c1;refine WW ?_;clear zc1)
  exact fr0
 |true=>
 by_cases h1:(tk.length:Int)=st
 case neg=>
  refine⟨[],6,.inr rfl,?_,fun f hf=>⟨fun h=>absurd h (by decide),fun h=>absurd (show(tk.length:Int)=st by have:=(hq f hf).1;omega) h1⟩⟩
  clear hpl hpg hpG hpS hq
  (refine eN Tryz.func187 Tryz.call187 fun F hF=>?_)
  (have zc1:=c1;refine WW ?_;clear zc1)
  exact fr0
 by_cases h2:sda= -1∨(da.length:Int)=sda
 case neg=>
  have h2a:¬sda= -1:=fun h=>h2 (.inl h)
  have h2b:¬(da.length:Int)=sda:=fun h=>h2 (.inr h)
  refine⟨[],6,.inr rfl,?_,fun f hf=>⟨fun h=>absurd h (by decide),fun h=>absurd (show(da.length:Int)=sda by have:=(hq f hf).2.2.2.1;rw[h.2.1];simp;omega) h2b⟩⟩
  clear hpl hpg hpG hpS hq h2
  (refine eN Tryz.func187 Tryz.call187 fun F hF=>?_)
  (have zc1:=c1;refine WW ?_;clear zc1)
  exact fr0
 cases ok2 with
 | false=>
  refine⟨[],6,.inr rfl,?_,fun f hf=>⟨fun h=>absurd h (by decide),fun h=>?_⟩⟩
  case refine_2=>
   obtain⟨q1,q2,q3,q4,_⟩:=hq f hf
   have h5:=(hg0 q3).2
   rw[decide_eq_true (show((ar.map iA).length:Int)=sf by omega)]at h5
   cases h5
  clear hpl hpg hpG hpS hq
  rcases h2 with h2|h2
  ·(refine eN Tryz.func187 Tryz.call187 fun F hF=>?_)
   (have zc1:=c1;have zc2:=c2;refine WW ?_;clear zc1 zc2)
   exact fr0
  ·(refine eN Tryz.func187 Tryz.call187 fun F hF=>?_)
   (have zc1:=c1;have zc2:=c2;refine WW ?_;clear zc1 zc2)
   exact fr0
 |true=>
 by_cases h3:(da.length:Int)≤200
 case neg=>
  refine⟨[],6,.inr rfl,?_,fun f hf=>⟨fun h=>absurd h (by decide),fun h=>absurd (show(da.length:Int)≤200 by rw[h.2.1];simp) h3⟩⟩
  clear hpl hpg hpG hpS hq
  rcases h2 with h2|h2
  ·(refine eN Tryz.func187 Tryz.call187 fun F hF=>?_)
   (have zc1:=c1;have zc2:=c2;refine WW ?_;clear zc1 zc2)
   exact fr0
  ·(refine eN Tryz.func187 Tryz.call187 fun F hF=>?_)
   (have zc1:=c1;have zc2:=c2;refine WW ?_;clear zc1 zc2)
   exact fr0
 have cg:=vint_x gr
 have hlg:=map_len yA (vbF gr)
 have hvg:=vbF_len gr
 rcases loopN ar ar.length (Nat.le_refl _)with⟨k,hk1,hk2,hk3⟩|hall
 ·refine⟨[],6,.inr rfl,?_,fun f hf=>⟨fun h=>absurd h (by decide),fun h=>?_⟩⟩
  case refine_2=>
   have:=h.2.2.2 k (by omega)
   rw[hk2]at this
   cases this
  clear hq hg0
  have hinv:∀i,i<k→veF (ar.getD i default)=0:=fun i hi=>by rw[ve_nm,hk3 i hi,if_pos rfl]
  have hinv2:veF (ar.getD k default)=8:=by rw[ve_nm,hk2,if_neg Bool.false_ne_true]
  clear hk2 hk3
  rcases h2 with h2|h2
  all_goals
   (refine eN Tryz.func187 Tryz.call187 fun F hF=>?_)
   (have zc1:=c1;have zc2:=c2;have zc3:=c3;refine WW ?_;clear zc1 zc2 zc3)
  all_goals
   refine sim_stale 1001 rfl ?_
   (refine sim_cntP (ar.length+1) [1001,1,4] [1,4] [1,4,6,64] [7,65,1,4,6,64] rfl (fun i T U zs=>(i≤k)∧zs=⟨(7,.ref 1001 0 ((py i).map yA).length)::(65,iA i)::T,(1001,.arr 1 ((py i).map yA) true)::U⟩) ?_;(conv=>whnf);refine⟨?_,?_,?_⟩)
   ·refine⟨Nat.zero_le _,?_⟩
    rw[hp0];rfl
   ·rintro i st' hi ⟨hik,rfl⟩
    have cv:=vint_x (ar.getD i default)
    have hy:=map_at iA ar i (by omega)
    have hbl:=hpl i
    have hb2:=hpg i
    have hg:=hpG i
    have hS:=hpS i
    have hlp:=map_len yA (py i)
    have hlv:=map_len yA (vbF (ar.getD i default))
    have hvv:=vbF_len (ar.getD i default)
    have hve:(i<k∧veF (ar.getD i default)=0)∨(i=k∧veF (ar.getD i default)=8):=by
     by_cases e:i=k
     ·subst e;exact .inr ⟨rfl,hinv2⟩
     ·exact .inl ⟨by omega,hinv i (by omega)⟩
    have hmS:(py (i+1)).map yA=(pg i).map yA++(vbF (ar.getD i default)).map yA:=by rw[hS,List.map_append]
    have hmG:(pg i).map yA=if(i:Int)=sf∧0<sg then(py i).map yA++(vbF gr).map yA else(py i).map yA:=by
     rw[hg]
     split
     ·rw[List.map_append]
     ·rfl
    rw[hmS]
    clear hS hg hpl hpg hpG hpS hp0 hmS c1 c2 c3 hinv hinv2
    generalize (py i).map yA=A at*
    generalize (pg i).map yA=B at*
    generalize vbF (ar.getD i default)=V at*
    generalize veF (ar.getD i default)=ve at*
    generalize ar.getD i default=a at*
    generalize vbF gr=W at*
    by_cases hi1:(i:Int)=sf
    ·by_cases hi2:0<sg
     ·rw[if_pos ⟨hi1,hi2⟩]at hmG
      subst hmG
      rcases hve with⟨hv1,rfl⟩|⟨hv1,rfl⟩
      ·(have zc1:=cg;have zc2:=cv;refine WW ?_;clear zc1 zc2)
       exact⟨by omega,rfl⟩
      ·(have zc1:=cg;have zc2:=cv;refine WW ?_;clear zc1 zc2)
       exact fr0
     ·rw[if_neg (fun h=>hi2 h.2)]at hmG
      subst hmG
      rcases hve with⟨hv1,rfl⟩|⟨hv1,rfl⟩
      ·(have zc1:=cv;refine WW ?_;clear zc1)
       exact⟨by omega,rfl⟩
      ·(have zc1:=cv;refine WW ?_;clear zc1)
       exact fr0
    ·rw[if_neg (fun h=>hi1 h.1)]at hmG
     subst hmG
     rcases hve with⟨hv1,rfl⟩|⟨hv1,rfl⟩
     ·(have zc1:=cv;refine WW ?_;clear zc1)
      exact⟨by omega,rfl⟩
     ·(have zc1:=cv;refine WW ?_;clear zc1)
      exact fr0
   ·rintro st' ⟨hik,rfl⟩
    exfalso;omega
 ·have hgl:=hpg ar.length
  by_cases hz:((pg ar.length).map yA++da.map yA).length≤200
  case neg=>
   refine⟨[],6,.inr rfl,?_,fun f hf=>⟨fun h=>absurd h (by decide),fun h=>?_⟩⟩
   case refine_2=>
    exfalso
    apply hz
    have e1:=h.1
    have e2:=h.2.1
    have e3:=h.2.2.1
    have e4:f≤3:=by omega
    rw[List.length_append,List.length_map,List.length_map,e2]
    simp only[List.length_nil]
    omega
   clear hq hg0
   have hinv:∀i,i<ar.length→veF (ar.getD i default)=0:=fun i hi=>by rw[ve_nm,hall i hi,if_pos rfl]
   clear hall
   rcases h2 with h2|h2
   all_goals
    (refine eN Tryz.func187 Tryz.call187 fun F hF=>?_)
    (have zc1:=c1;have zc2:=c2;have zc3:=c3;refine WW ?_;clear zc1 zc2 zc3)
   all_goals
    refine sim_stale 1001 rfl ?_
    (refine sim_cntP (ar.length+1) [1001,1,4] [1,4] [1,4,6,64] [7,65,1,4,6,64] rfl (fun i T U zs=>(i≤ar.length)∧zs=⟨(7,.ref 1001 0 ((py i).map yA).length)::(65,iA i)::T,(1001,.arr 1 ((py i).map yA) true)::U⟩) ?_;(conv=>whnf);refine⟨?_,?_,?_⟩)
    ·refine⟨Nat.zero_le _,?_⟩
     rw[hp0];rfl
    ·rintro i st' hi ⟨hik,rfl⟩
     have hbl:=hpl i
     have hb2:=hpg i
     have hg:=hpG i
     have hlp:=map_len yA (py i)
     have hlP:=map_len yA (pg i)
     have hmG:(pg i).map yA=if(i:Int)=sf∧0<sg then(py i).map yA++(vbF gr).map yA else(py i).map yA:=by
      rw[hg]
      split
      ·rw[List.map_append]
      ·rfl
     by_cases hie:i=ar.length
     ·subst hie
      clear hpS hg hpl hpg hpG hp0 c1 c2 c3 hinv
      generalize (py ar.length).map yA=A at*
      generalize (pg ar.length).map yA=B at*
      generalize vbF gr=W at*
      by_cases hi1:(ar.length:Int)=sf
      ·by_cases hi2:0<sg
       ·rw[if_pos ⟨hi1,hi2⟩]at hmG
        subst hmG
        (have zc1:=cg;refine WW ?_;clear zc1)
        exact fr0
       ·rw[if_neg (fun h=>hi2 h.2)]at hmG
        subst hmG
        (refine WW ?_)
        exact fr0
      ·rw[if_neg (fun h=>hi1 h.1)]at hmG
       subst hmG
       (refine WW ?_)
       exact fr0
     have cv:=vint_x (ar.getD i default)
     rw[hinv i (by omega)]at cv
     have hy:=map_at iA ar i (by omega)
     have hS:=hpS i
     have hlv:=map_len yA (vbF (ar.getD i default))
     have hvv:=vbF_len (ar.getD i default)
     have hmS:(py (i+1)).map yA=(pg i).map yA++(vbF (ar.getD i default)).map yA:=by rw[hS,List.map_append]
     rw[hmS]
     clear hS hg hpl hpg hpG hpS hp0 hmS c1 c2 c3 hinv hz hgl
     generalize (pg ar.length).map yA=E at*
     generalize (py i).map yA=A at*
     generalize (pg i).map yA=B at*
     generalize vbF (ar.getD i default)=V at*
     generalize ar.getD i default=a at*
     generalize vbF gr=W at*
     by_cases hi1:(i:Int)=sf
     ·by_cases hi2:0<sg
      ·rw[if_pos ⟨hi1,hi2⟩]at hmG
       subst hmG
       (have zc1:=cg;have zc2:=cv;refine WW ?_;clear zc1 zc2)
       exact⟨by omega,rfl⟩
      ·rw[if_neg (fun h=>hi2 h.2)]at hmG
       subst hmG
       (have zc1:=cv;refine WW ?_;clear zc1)
       exact⟨by omega,rfl⟩
     ·rw[if_neg (fun h=>hi1 h.1)]at hmG
      subst hmG
      (have zc1:=cv;refine WW ?_;clear zc1)
      exact⟨by omega,rfl⟩
    ·rintro st' ⟨hik,rfl⟩
     exfalso;omega
  refine⟨((pg ar.length).map yA++da.map yA).take ((pg ar.length).map yA++da.map yA).length,0,.inl rfl,?_,fun f hf=>⟨fun _=>?_,fun _=>rfl⟩⟩
  case refine_2=>
   obtain⟨q1,q2,q3,q4,_⟩:=hq f hf
   have h5:=of_decide_eq_true (hg0 q3).2.symm
   refine⟨by omega,List.eq_nil_of_length_eq_zero (by omega),by omega,fun i hi=>hall i (by omega)⟩
  clear hq hg0
  have hinv:∀i,i<ar.length→veF (ar.getD i default)=0:=fun i hi=>by rw[ve_nm,hall i hi,if_pos rfl]
  clear hall
  rcases h2 with h2|h2
  all_goals
   (refine eN Tryz.func187 Tryz.call187 fun F hF=>?_)
   (have zc1:=c1;have zc2:=c2;have zc3:=c3;refine WW ?_;clear zc1 zc2 zc3)
  all_goals
   refine sim_stale 1001 rfl ?_
   (refine sim_cntP (ar.length+1) [1001,1,4] [1,4] [1,4,6,64] [7,65,1,4,6,64] rfl (fun i T U zs=>(i≤ar.length)∧zs=⟨(7,.ref 1001 0 ((py i).map yA).length)::(65,iA i)::T,(1001,.arr 1 ((py i).map yA) true)::U⟩) ?_;(conv=>whnf);refine⟨?_,?_,?_⟩)
   ·refine⟨Nat.zero_le _,?_⟩
    rw[hp0];rfl
   ·rintro i st' hi ⟨hik,rfl⟩
    have hbl:=hpl i
    have hb2:=hpg i
    have hg:=hpG i
    have hlp:=map_len yA (py i)
    have hlP:=map_len yA (pg i)
    have hmG:(pg i).map yA=if(i:Int)=sf∧0<sg then(py i).map yA++(vbF gr).map yA else(py i).map yA:=by
     rw[hg]
     split
     ·rw[List.map_append]
     ·rfl
    by_cases hie:i=ar.length
    ·subst hie
     clear hpS hg hpl hpg hpG hp0 c1 c2 c3 hinv
     generalize (py ar.length).map yA=A at*
     generalize (pg ar.length).map yA=B at*
     generalize vbF gr=W at*
     by_cases hi1:(ar.length:Int)=sf
     ·by_cases hi2:0<sg
      ·rw[if_pos ⟨hi1,hi2⟩]at hmG
       subst hmG
       (have zc1:=cg;refine WW ?_;clear zc1)
       exact fr0
      ·rw[if_neg (fun h=>hi2 h.2)]at hmG
       subst hmG
       (refine WW ?_)
       exact fr0
     ·rw[if_neg (fun h=>hi1 h.1)]at hmG
      subst hmG
      (refine WW ?_)
      exact fr0
    have cv:=vint_x (ar.getD i default)
    rw[hinv i (by omega)]at cv
    have hy:=map_at iA ar i (by omega)
    have hS:=hpS i
    have hlv:=map_len yA (vbF (ar.getD i default))
    have hvv:=vbF_len (ar.getD i default)
    have hmS:(py (i+1)).map yA=(pg i).map yA++(vbF (ar.getD i default)).map yA:=by rw[hS,List.map_append]
    rw[hmS]
    clear hS hg hpl hpg hpG hpS hp0 hmS c1 c2 c3 hinv hz hgl
    generalize (pg ar.length).map yA=E at*
    generalize (py i).map yA=A at*
    generalize (pg i).map yA=B at*
    generalize vbF (ar.getD i default)=V at*
    generalize ar.getD i default=a at*
    generalize vbF gr=W at*
    by_cases hi1:(i:Int)=sf
    ·by_cases hi2:0<sg
     ·rw[if_pos ⟨hi1,hi2⟩]at hmG
      subst hmG
      (have zc1:=cg;have zc2:=cv;refine WW ?_;clear zc1 zc2)
      exact⟨by omega,rfl⟩
     ·rw[if_neg (fun h=>hi2 h.2)]at hmG
      subst hmG
      (have zc1:=cv;refine WW ?_;clear zc1)
      exact⟨by omega,rfl⟩
    ·rw[if_neg (fun h=>hi1 h.1)]at hmG
     subst hmG
     (have zc1:=cv;refine WW ?_;clear zc1)
     exact⟨by omega,rfl⟩
   ·rintro st' ⟨hik,rfl⟩
    exfalso;omega
end
end Av
end Go.Proofs.YtaikgchmpieooaaGreat
