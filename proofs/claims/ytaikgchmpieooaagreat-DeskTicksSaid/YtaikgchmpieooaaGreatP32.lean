/- Part 32: contracts of the functions, and what they rest upon. -/
import Derived.Test.YtaikgchmpieooaaGreatP31
import Derived.Test.YtaikgchmpieooaaGreatP22
namespace Go.Proofs.YtaikgchmpieooaaGreat
namespace Av
set_option linter.unusedSimpArgs false
set_option linter.unusedVariables false
section
set_option maxRecDepth 4000
set_option maxHeartbeats 2000000
def sh2A (fx gr:Nat):AV:= .agg [iA fx,iA gr,iA (if gr=0 then 0 else 1),iA (if gr=0 then 0 else 3),iA 0]
theorem of12_c (k:Int) (h0:1≤k) (h1:k≤12):CallSim Tryz.prog 56 [iA k] [] (sh2A (fixF k) (grpF k)) []:=by
 obtain rfl|rfl|rfl|rfl|rfl|rfl|rfl|rfl|rfl|rfl|rfl|rfl:k=1∨k=2∨k=3∨k=4∨k=5∨k=6∨k=7∨k=8∨k=9∨k=10∨k=11∨k=12:=by omega
 all_goals (refine eN Tryz.func56 Tryz.call56 fun F hF=>?_)
 all_goals (refine WW ?_)
 all_goals exact fr0
def pcF (fx gr:Nat) (c:Int):Nat→List Int→List Int
 |_,[]=>[]
 |i,x::r=>(if i=fx∧gr≠0 then [c]else [])++(enF x++pcF fx gr c (i+1) r)
def plF2 (fx gr:Nat) (c:Int) (m:Ms):List Int:=(m.tok++pcF fx gr c 0 m.args)++((if gr≠0∧m.args.length=fx then [0]else [])++m.data)
theorem enR_len:∀(f:Nat) (n:Int),1≤(enR f n).length∧(enR f n).length≤f+1
 |0,n=>by simp[enR]
 |f+1,n=>by
  have:=enR_len f (n/128)
  rw[enR]
  split
  ·simp
  ·rw[List.length_cons];omega
theorem enF_len (n:Int):1≤(enF n).length∧(enF n).length≤5:=enR_len 4 n
theorem payload_c (k:Int) (h0:1≤k) (h1:k≤12) (m:Ms) (c:Nat) (hk:m.kind=k) (ht:m.tok.length=10) (hd:m.data.length≤100000) (ha:∀x∈m.args,0≤x∧x≤4294967295) (hn:m.args.length≤1000) (hc:grpF k≠0→m.args.length=fixF k+c*grpF k) (hc3:c≤3):
  CallSim Tryz.prog 59 [msA m] [] (slA yA (plF2 (fixF k) (grpF k) c m)) []:=by
 subst hk
 have c1:=of12_c m.kind h0 h1
 have hg:grpF m.kind≤4:=by
  unfold grpF
  repeat' split
  all_goals omega
 generalize fixF m.kind=fx at*
 generalize grpF m.kind=gr at*
 unfold sh2A at c1
 have hlt:=map_len yA m.tok
 have hla:=map_len iA m.args
 have hld:=map_len yA m.data
 unfold plF2
 generalize hT:m.tok++pcF fx gr c 0 m.args=tot
 (refine eN Tryz.func59 Tryz.call59 fun F hF=>?_)
 (have zc1:=c1;(repeat' (first|refine WZ ?_|refine SG (I2 (fun hc=>?_) (fun hc=>?_))|refine SG (fun hc=>?_)|(refine is_ops ?_;refine is_call ?_;refine SC ?_)|(refine is_ops ?_;first|(refine is_app ?_;refine x_appnilK 1001 tok rfl rfl rfl rfl rfl rfl (map_hd _ _ (fun _=>rfl)) rfl rfl rfl (by omega) rfl rfl rfl ?_))|first|refine SR ?_|refine SK (I2 (fun hc=>?_) (fun hc=>?_))|refine SK (fun hc=>?_)|fail))<;>clear zc1)
 refine sim_stale 1001 rfl ?_
 (refine sim_rngP (m.args) [1001,1,3] [1,3] [1,3,16,17] [4,18,1,3,16,17] rfl (fun i pre T U zs=>∃acc:List Int,(acc.length≤10+6*i∧∀post,m.args=pre++post→acc++pcF fx gr c i post=tot)∧zs=⟨(4,.ref 1001 0 (acc.map yA).length)::(18,iA i)::T,(1001,.arr 1 (acc.map yA) true)::U⟩) ?_;(conv=>whnf);refine⟨?_,?_,?_⟩)
 ·exact⟨m.tok,⟨by omega,fun post h=>by rw[←hT,h];rfl⟩,rfl⟩
 ·rintro i pre x post st hx hi ⟨acc,⟨q0,q1⟩,rfl⟩
  have hy:=rng_at iA hx hi
  have hlt2:=rng_lt hx hi
  have hxr:=ha x (rng_mem hx)
  have hla2:=map_len yA acc
  have he:=enF_len x
  have c2:=en2_c x hxr.1 hxr.2
  have hle:=map_len yA (enF x)
  have hpost:∀p,m.args=pre++[x]++p→p=post:=fun p h=>by
   rw[hx,List.append_assoc]at h
   simpa using h.symm
  have hT3:=q1 _ hx
  clear q1 hT hx
  by_cases hi2:i=fx∧gr≠0
  ·obtain⟨rfl,hg0⟩:=hi2
   have hcl:=hc hg0
   have hq:(((m.args.map iA).length:Int)-(i:Int)).tdiv (gr:Int)=(c:Int):=by
    rw[hla,hcl,show(((i+c*gr:Nat):Int)-(i:Int))=(c:Int)*(gr:Int) by rw[Int.natCast_add,Int.natCast_mul];omega]
    exact Int.mul_tdiv_cancel _ (by omega)
   have hir:InR .i64 ((((m.args.map iA).length:Int)-(i:Int)).tdiv (gr:Int)):=by rw[hq];exact⟨by omega,by omega⟩
   have e:pcF i gr c i (x::post)=[(c:Int)]++(enF x++pcF i gr c (i+1) post):=by rw[pcF,if_pos ⟨rfl,hg0⟩]
   rw[e]at hT3
   clear e hcl hc
   generalize enF x=ex at*
   (have zc1:=c1;have zc2:=c2;refine WW ?_;clear zc1 zc2)
   refine⟨acc++[(c:Int)]++ex,⟨by simp;omega,fun p h=>by rw[hpost p h,←hT3];simp⟩,?_⟩
   rw[List.map_append,List.map_append,←hq]
   rfl
  ·have e:pcF fx gr c i (x::post)=enF x++pcF fx gr c (i+1) post:=by rw[pcF,if_neg hi2];rfl
   rw[e]at hT3
   clear e hc
   generalize enF x=ex at*
   by_cases hif:i=fx
   ·have hg0:gr=0:=by
     by_cases h:gr=0
     ·exact h
     ·exact absurd ⟨hif,h⟩ hi2
    (have zc1:=c1;have zc2:=c2;refine WW ?_;clear zc1 zc2)
    refine⟨acc++ex,⟨by simp;omega,fun p h=>by rw[hpost p h,←hT3];simp⟩,?_⟩
    rw[List.map_append]
    rfl
   ·(have zc1:=c1;have zc2:=c2;refine WW ?_;clear zc1 zc2)
    refine⟨acc++ex,⟨by simp;omega,fun p h=>by rw[hpost p h,←hT3];simp⟩,?_⟩
    rw[List.map_append]
    rfl
 ·rintro st ⟨acc,⟨q0,q1⟩,rfl⟩
  have e:=q1 [] (by simp)
  rw[show pcF fx gr c m.args.length []=[]from rfl,List.append_nil]at e
  subst e
  have hla2:=map_len yA acc
  clear q1 hT hc
  by_cases hz:gr≠0∧m.args.length=fx
  ·rw[if_pos hz]
   obtain⟨hz1,hz2⟩:=hz
   (refine WW ?_)
   refine fin_ret [] rfl rfl ?_ rfl
   show AV.sl false ((acc.map yA++[yA 0]++m.data.map yA).take (acc.map yA++[yA 0]++m.data.map yA).length)=_
   rw[List.take_length]
   unfold slA
   rw[List.map_append,List.map_append,List.append_assoc]
   rfl
  ·rw[if_neg hz]
   by_cases hz1:gr=0
   ·(refine WW ?_)
    refine fin_ret [] rfl rfl ?_ rfl
    show AV.sl false ((acc.map yA++m.data.map yA).take (acc.map yA++m.data.map yA).length)=_
    rw[List.take_length]
    unfold slA
    rw[List.map_append]
    rfl
   ·have hz2:m.args.length≠fx:=fun h=>hz ⟨hz1,h⟩
    (refine WW ?_)
    refine fin_ret [] rfl rfl ?_ rfl
    show AV.sl false ((acc.map yA++m.data.map yA).take (acc.map yA++m.data.map yA).length)=_
    rw[List.take_length]
    unfold slA
    rw[List.map_append]
    rfl
end
section
set_option maxRecDepth 4000
set_option maxHeartbeats 1000000
def prA (p:Int×Int):AV:= .agg [iA p.1,iA p.2]
def shapesF (n:Int):List (Int×Int):=if n=0 then [(0,0),(0,0)]else if n=1 then [(0,0),(1,0),(0,1),(1,1)]else if n=2 then [(0,0),(1,0),(0,0)]
 else if n=3 then [(0,0),(0,0),(1,0),(1,0),(0,1),(0,1),(1,1),(1,1)]else if n=4 then [(1,0),(0,1),(0,2)]else [(0,0)]
theorem shapes_c (n:Int):CallSim Tryz.prog 101 [iA n] [] (slA prA (shapesF n)) []:=by
 by_cases h0:n=0
 ·subst h0
  (refine eN Tryz.func101 Tryz.call101 fun F hF=>?_)
  (repeat' (first|refine WZ ?_|refine SG0 (I2 (fun hc=>?_) (fun hc=>?_))|refine SR ?_|refine SK0 (I2 (fun hc=>?_) (fun hc=>?_))|fail))
  exact fr0
 by_cases h1:n=1
 ·subst h1
  (refine eN Tryz.func101 Tryz.call101 fun F hF=>?_)
  (repeat' (first|refine WZ ?_|refine SG0 (I2 (fun hc=>?_) (fun hc=>?_))|refine SR ?_|refine SK0 (I2 (fun hc=>?_) (fun hc=>?_))|fail))
  exact fr0
 by_cases h2:n=2
 ·subst h2
  (refine eN Tryz.func101 Tryz.call101 fun F hF=>?_)
  (repeat' (first|refine WZ ?_|refine SG0 (I2 (fun hc=>?_) (fun hc=>?_))|refine SR ?_|refine SK0 (I2 (fun hc=>?_) (fun hc=>?_))|fail))
  exact fr0
 by_cases h3:n=3
 ·subst h3
  (refine eN Tryz.func101 Tryz.call101 fun F hF=>?_)
  (repeat' (first|refine WZ ?_|refine SG0 (I2 (fun hc=>?_) (fun hc=>?_))|refine SR ?_|refine SK0 (I2 (fun hc=>?_) (fun hc=>?_))|fail))
  exact fr0
 by_cases h4:n=4
 ·subst h4
  (refine eN Tryz.func101 Tryz.call101 fun F hF=>?_)
  (repeat' (first|refine WZ ?_|refine SG0 (I2 (fun hc=>?_) (fun hc=>?_))|refine SR ?_|refine SK0 (I2 (fun hc=>?_) (fun hc=>?_))|fail))
  exact fr0
 rw[show shapesF n=[(0,0)] by simp[shapesF,h0,h1,h2,h3,h4]]
 (refine eN Tryz.func101 Tryz.call101 fun F hF=>?_)
 (repeat' (first|refine WZ ?_|refine SG0 (I2 (fun hc=>?_) (fun hc=>?_))|refine SR ?_|refine SK0 (I2 (fun hc=>?_) (fun hc=>?_))|fail))
 exact fr0
end
section
set_option maxRecDepth 4000
set_option maxHeartbeats 2000000
instance:Inhabited (Int×Int):=⟨(0,0)⟩
def phF (d:Dk) (s:Int×Int):Ph:=
 if nx (ad (ad (ad d))) 3=2 then⟨s.1,s.2,1+nx d (3-1+1),max (1+nx d (3-1+1)) (1+nx (ad (ad (ad (ad d)))) (2-1+1)+(1+nx (ad (ad (ad (ad (ad d))))) (2-1+1)))+nx (ad (ad (ad (ad (ad (ad d)))))) 4,1+nx (ad d) (2-1+1),nx (ad (ad d)) 3,1+nx (ad (ad (ad (ad d)))) (2-1+1),1+nx (ad (ad (ad (ad (ad d))))) (2-1+1)⟩
 else⟨s.1,s.2,1+nx d (3-1+1),max (1+nx d (3-1+1)) (0+0)+nx (ad (ad (ad (ad d)))) 4,1+nx (ad d) (2-1+1),nx (ad (ad d)) 3,0,0⟩
def phD (d:Dk):Dk:=if nx (ad (ad (ad d))) 3=2 then ad (ad (ad (ad (ad (ad (ad d))))))else ad (ad (ad (ad (ad d))))
def phL (d:Dk) (l:List (Int×Int)):Nat→List Ph×Dk
 |0=>([],d)
 |i+1=>((phL d l i).1++[phF (phL d l i).2 (l.getD i default)],phD (phL d l i).2)
theorem phL_len (d:Dk) (l:List (Int×Int)):∀i,(phL d l i).1.length=i
 |0=>rfl
 |i+1=>by simp[phL,phL_len d l i]
def cnd (ps:List Ph) (ex:Bool) (i k:Nat):Bool:=i != k&&((ps.getD i default).ring==(ps.getD k default).ring||(ps.getD i default).group != (ps.getD k default).group||ex&&((i:Int)+k).tmod 2==1)
def rowF (ps:List Ph) (ex:Bool) (i:Nat):Nat→Int
 |0=>0
 |k+1=>if cnd ps ex i k=true then rowF ps ex i k+2 ^ k else rowF ps ex i k
theorem rowF_bd (ps:List Ph) (ex:Bool) (i:Nat):∀k,0≤rowF ps ex i k∧rowF ps ex i k<2 ^ k
 |0=>by simp[rowF]
 |k+1=>by
  have:=rowF_bd ps ex i k
  have e:(2:Int) ^ (k+1)=2 ^ k*2:=Int.pow_succ 2 k
  unfold rowF
  split<;>omega
def rowsF (ps:List Ph) (ex:Bool) (n:Nat):List Int:=(List.range n).map fun i=>rowF ps ex i ps.length
def jnP (d:Dk):List Ph×Dk:=phL (ad (ad d)) (shapesF (nx d 6)) (shapesF (nx d 6)).length
def jnF (d:Dk):Jn:=⟨(jnP d).1,rowsF (jnP d).1 (nx (jnP d).2 4==3) (jnP d).1.length,nx (ad d) 3⟩
def jnD (d:Dk):Dk:=ad (jnP d).2
theorem shapes_len (n:Int):1≤(shapesF n).length∧(shapesF n).length≤8:=by
 unfold shapesF
 (repeat' split)<;>simp
theorem pow8 (k:Nat) (h:k<8):IntKind.i64.wrap (1*2 ^ (min ((k:Int)).toNat IntKind.i64.bits))=2 ^ k∧(2:Int) ^ k≤128:=by
 obtain rfl|rfl|rfl|rfl|rfl|rfl|rfl|rfl:k=0∨k=1∨k=2∨k=3∨k=4∨k=5∨k=6∨k=7:=by omega
 all_goals decide
theorem junction_c (d:Dk):CallSim Tryz.prog 60 [.ptr 1000 0 0] [(1000,dkE d)] (jnA (jnF d)) [(1000,dkE (jnD d))]:=by
 have hb:=nx_bd d 6 (by omega)
 have hsl:=shapes_len (nx d 6)
 have sc:=shapes_c (nx d 6)
 have ej:jnF d=⟨(jnP d).1,rowsF (jnP d).1 (nx (jnP d).2 4==3) (jnP d).1.length,nx (ad d) 3⟩:=rfl
 have ed:jnD d=ad (jnP d).2:=rfl
 have ep:jnP d=phL (ad (ad d)) (shapesF (nx d 6)) (shapesF (nx d 6)).length:=rfl
 rw[ej,ed]
 generalize jnP d=jp at*
 generalize shapesF (nx d 6)=l at*
 have hll:(l.map prA).length=l.length:=by simp
 (refine eN Tryz.func60 Tryz.call60 fun F hF=>?_)
 (repeat' (first|refine WZ ?_|refine SG0 (I2 (fun hc=>?_) (fun hc=>?_))|(refine is_ops ?_;refine is_call ?_;(first|(refine is_fn 101 ?_;first|refine x_q (stp_call (sc) rfl rfl rfl rfl rfl) rfl ?_|refine x_w (stp_call (sc) rfl rfl rfl rfl rfl) rfl rfl rfl ?_|refine x_d (stp_call (sc) rfl rfl rfl rfl rfl) rfl rfl rfl ?_)|(refine is_fn 13 ?_;first|refine x_q (stp_call (next_c _ _ (by omega) (by omega)) rfl rfl rfl rfl rfl) rfl ?_|refine x_w (stp_call (next_c _ _ (by omega) (by omega)) rfl rfl rfl rfl rfl) rfl rfl rfl ?_|refine x_d (stp_call (next_c _ _ (by omega) (by omega)) rfl rfl rfl rfl rfl) rfl rfl rfl ?_)))|refine SR ?_|refine SK0 (I2 (fun hc=>?_) (fun hc=>?_))|fail))
 refine sim_virtB 4 0 1001 8 rfl rfl rfl rfl rfl ?_
 refine sim_loop_r (fun n st=>∃i:Nat,n+i=l.length∧st=⟨[(0,.ptr 1000 0 0),(2,.ptr 2 0 0),(4,.ptr 4 0 0),(20,slA prA l),(21,iA l.length),(22,iA i)],
   [(1000,dkE (phL (ad (ad d)) l i).2),(2,.box [.s (.slice none 0 0),.s (.slice none 0 0),iA 0]),(4,.box [.ref 1001 0 ((phL (ad (ad d)) l i).1.map phA).length,.s (.slice none 0 0),iA (nx (ad d) 3)]),(1001,.arr 8 ((phL (ad (ad d)) l i).1.map phA) true)]⟩)
  l.length [1000,2,4,1001] [0,2,4,20,21,22] rfl ⟨0,rfl,by rw[←hll];rfl⟩ ?_
 rintro n st ⟨i,hi,rfl⟩
 by_cases hlt:i<l.length
 ·have hy:=map_atI prA l i (by omega) (by omega)
  rw[show((i:Int)).toNat=i from rfl]at hy
  have hm:(phL (ad (ad d)) l (i+1)).1.map phA=(phL (ad (ad d)) l i).1.map phA++[phA (phF (phL (ad (ad d)) l i).2 (l.getD i default))]:=List.map_append
  have hd:(phL (ad (ad d)) l (i+1)).2=phD (phL (ad (ad d)) l i).2:=rfl
  have hle:=phL_len (ad (ad d)) l i
  generalize l.getD i default=p at*
  obtain⟨p1,p2⟩:=p
  generalize hq':phL (ad (ad d)) l (i+1)=q' at hm hd
  generalize phL (ad (ad d)) l i=q at*
  obtain⟨ql,qd⟩:=q
  dsimp only at hm hd hle⊢
  have b0:=nx_bd qd (3-1+1) (by omega)
  have b1:=nx_bd (ad (ad (ad (ad qd)))) 4 (by omega)
  have b2:=nx_bd (ad (ad (ad (ad qd)))) (2-1+1) (by omega)
  have b3:=nx_bd (ad (ad (ad (ad (ad qd))))) (2-1+1) (by omega)
  have b4:=nx_bd (ad (ad (ad (ad (ad (ad qd)))))) 4 (by omega)
  by_cases hz:nx (ad (ad (ad qd))) 3=2
  ·rw[show phF qd (p1,p2)=⟨p1,p2,1+nx qd (3-1+1),max (1+nx qd (3-1+1)) (1+nx (ad (ad (ad (ad qd)))) (2-1+1)+(1+nx (ad (ad (ad (ad (ad qd))))) (2-1+1)))+nx (ad (ad (ad (ad (ad (ad qd)))))) 4,1+nx (ad qd) (2-1+1),nx (ad (ad qd)) 3,1+nx (ad (ad (ad (ad qd)))) (2-1+1),1+nx (ad (ad (ad (ad (ad qd))))) (2-1+1)⟩ by unfold phF;rw[if_pos hz]]at hm
   rw[show phD qd=ad (ad (ad (ad (ad (ad (ad qd)))))) by unfold phD;rw[if_pos hz]]at hd
   (repeat' (first|refine WZ ?_|refine SG0 (I2 (fun hc=>?_) (fun hc=>?_))|(refine is_ops ?_;refine is_call ?_;(first|(refine is_fn 32 ?_;first|refine x_q (stp_call (range_c _ _ _ (by omega) (by omega) (by omega)) rfl rfl rfl rfl rfl) rfl ?_|refine x_w (stp_call (range_c _ _ _ (by omega) (by omega) (by omega)) rfl rfl rfl rfl rfl) rfl rfl rfl ?_|refine x_d (stp_call (range_c _ _ _ (by omega) (by omega) (by omega)) rfl rfl rfl rfl rfl) rfl rfl rfl ?_)|(refine is_fn 13 ?_;first|refine x_q (stp_call (next_c _ _ (by omega) (by omega)) rfl rfl rfl rfl rfl) rfl ?_|refine x_w (stp_call (next_c _ _ (by omega) (by omega)) rfl rfl rfl rfl rfl) rfl rfl rfl ?_|refine x_d (stp_call (next_c _ _ (by omega) (by omega)) rfl rfl rfl rfl rfl) rfl rfl rfl ?_)))|refine SR ?_|refine SK0 (I2 (fun hc=>?_) (fun hc=>?_))|fail))
   exact⟨n-1,by omega,i+1,by omega,by rw[hq',hm,hd];rfl⟩
  ·rw[show phF qd (p1,p2)=⟨p1,p2,1+nx qd (3-1+1),max (1+nx qd (3-1+1)) (0+0)+nx (ad (ad (ad (ad qd)))) 4,1+nx (ad qd) (2-1+1),nx (ad (ad qd)) 3,0,0⟩ by unfold phF;rw[if_neg hz]]at hm
   rw[show phD qd=ad (ad (ad (ad (ad qd)))) by unfold phD;rw[if_neg hz]]at hd
   (repeat' (first|refine WZ ?_|refine SG0 (I2 (fun hc=>?_) (fun hc=>?_))|(refine is_ops ?_;refine is_call ?_;(first|(refine is_fn 32 ?_;first|refine x_q (stp_call (range_c _ _ _ (by omega) (by omega) (by omega)) rfl rfl rfl rfl rfl) rfl ?_|refine x_w (stp_call (range_c _ _ _ (by omega) (by omega) (by omega)) rfl rfl rfl rfl rfl) rfl rfl rfl ?_|refine x_d (stp_call (range_c _ _ _ (by omega) (by omega) (by omega)) rfl rfl rfl rfl rfl) rfl rfl rfl ?_)|(refine is_fn 13 ?_;first|refine x_q (stp_call (next_c _ _ (by omega) (by omega)) rfl rfl rfl rfl rfl) rfl ?_|refine x_w (stp_call (next_c _ _ (by omega) (by omega)) rfl rfl rfl rfl rfl) rfl rfl rfl ?_|refine x_d (stp_call (next_c _ _ (by omega) (by omega)) rfl rfl rfl rfl rfl) rfl rfl rfl ?_)))|refine SR ?_|refine SK0 (I2 (fun hc=>?_) (fun hc=>?_))|fail))
   exact⟨n-1,by omega,i+1,by omega,by rw[hq',hm,hd];rfl⟩
 obtain rfl:i=l.length:=by omega
 have hpl:jp.1.length=l.length:=by rw[ep];exact phL_len _ _ _
 rw[←ep]
 clear ep ej ed sc hll hi hlt
 obtain⟨ps,dj⟩:=jp
 dsimp only at hpl⊢
 have hlp:(ps.map phA).length=ps.length:=by simp
 generalize nx (ad d) 3=js
 (repeat' (first|refine WZ ?_|refine SG0 (I2 (fun hc=>?_) (fun hc=>?_))|(refine is_ops ?_;refine is_call ?_;(first|(refine is_fn 13 ?_;first|refine x_q (stp_call (next_c _ _ (by omega) (by omega)) rfl rfl rfl rfl rfl) rfl ?_|refine x_w (stp_call (next_c _ _ (by omega) (by omega)) rfl rfl rfl rfl rfl) rfl rfl rfl ?_|refine x_d (stp_call (next_c _ _ (by omega) (by omega)) rfl rfl rfl rfl rfl) rfl rfl rfl ?_)))|refine SR ?_|refine SK0 (I2 (fun hc=>?_) (fun hc=>?_))|fail))
 generalize nx dj 4=n4
 refine sim_restr (st':=⟨[(0,.ptr 1000 0 0),(2,.ptr 2 0 0),(4,.ptr 4 0 0),(8,bA (n4==3)),(69,slA phA ps),(70,iA ps.length),(71,iA 0)],
   [(1000,dkE (ad dj)),(2,.box [.s (.slice none 0 0),.s (.slice none 0 0),iA 0]),(4,.box [slA phA ps,.s (.slice none 0 0),iA js])]⟩) [1000,2,4] [0,2,4,8,69,70,71] rfl (by
  have e1:slA phA ps= .sl false (List.take (ps.map phA).length (List.drop 0 (ps.map phA))):=by
   rw[List.drop_zero,List.take_length]
   rfl
  rw[e1,←hlp]
  rfl) ?_
 generalize (n4==3)=ex
 generalize ad dj=dk
 refine sim_virtB 4 1 1002 1 rfl rfl rfl rfl rfl ?_
 refine sim_loop_r (fun n st=>∃i:Nat,n+i=ps.length∧st=⟨[(0,.ptr 1000 0 0),(2,.ptr 2 0 0),(4,.ptr 4 0 0),(8,bA ex),(69,slA phA ps),(70,iA ps.length),(71,iA i)],
   [(1000,dkE dk),(2,.box [.s (.slice none 0 0),.s (.slice none 0 0),iA 0]),(4,.box [slA phA ps,.ref 1002 0 ((rowsF ps ex i).map iA).length,iA js]),(1002,.arr 1 ((rowsF ps ex i).map iA) true)]⟩)
  ps.length [1000,2,4,1002] [0,2,4,8,69,70,71] rfl ⟨0,rfl,rfl⟩ ?_
 clear n
 rintro n st ⟨i,hi,rfl⟩
 by_cases hlt:i<ps.length
 ·have hy:=map_atI phA ps i (by omega) (by omega)
  rw[show((i:Int)).toNat=i from rfl]at hy
  have ht:(rowsF ps ex (i+1)).map iA=(rowsF ps ex i).map iA++[iA (rowF ps ex i ps.length)]:=by unfold rowsF;rw[List.range_succ];simp
  have hrl:(rowsF ps ex i).length=i:=by simp[rowsF]
  obtain⟨p,hp⟩:∃p,ps.getD i default=p:=⟨_,rfl⟩
  rw[hp]at hy
  obtain⟨rows,hrows⟩:∃r,rowsF ps ex i=r:=⟨_,rfl⟩
  rw[hrows]at ht hrl⊢
  (repeat' (first|refine WZ ?_|refine SG0 (I2 (fun hc=>?_) (fun hc=>?_))|refine SR ?_|refine SK0 (I2 (fun hc=>?_) (fun hc=>?_))|fail))
  refine sim_loop_r (fun n st=>∃k:Nat,n+k=ps.length∧st=⟨[(0,.ptr 1000 0 0),(2,.ptr 2 0 0),(4,.ptr 4 0 0),(8,bA ex),(9,iA i),(10,.ptr 10 0 0),(11,iA (rowF ps ex i k)),(69,slA phA ps),(70,iA ps.length),(71,iA i),(77,slA phA ps),(78,iA ps.length),(79,iA k)],
    [(1000,dkE dk),(2,.box [.s (.slice none 0 0),.s (.slice none 0 0),iA 0]),(4,.box [slA phA ps,.ref 1002 0 (rows.map iA).length,iA js]),(10,.box [iA p.ring,iA p.group,iA p.ming,iA p.maxg,iA p.yel,iA p.red,iA p.walk,iA p.clear]),(1002,.arr 1 (rows.map iA) true)]⟩)
   ps.length [1000,2,4,10,1002] [0,2,4,8,9,10,11,69,70,71,77,78,79] rfl ⟨0,rfl,by rw[←hlp];rfl⟩ ?_
  rintro n2 st ⟨k,hk,rfl⟩
  by_cases hlt2:k<ps.length
  ·have hy2:=map_atI phA ps k (by omega) (by omega)
   rw[show((k:Int)).toNat=k from rfl]at hy2
   have hn:rowF ps ex i (k+1)=if cnd ps ex i k=true then rowF ps ex i k+2 ^ k else rowF ps ex i k:=rfl
   have hc:cnd ps ex i k=(i != k&&(p.ring==(ps.getD k default).ring||p.group != (ps.getD k default).group||ex&&((i:Int)+k).tmod 2==1)):=by rw[←hp];rfl
   obtain⟨hw,hw2⟩:=pow8 k (by omega)
   obtain⟨hr0,hr1⟩:=rowF_bd ps ex i k
   have hr2:0≤(2:Int) ^ k:=by omega
   rw[show(2:Int) ^ k=p2 k from rfl]at hn hr1 hr2 hw2
   clear hw
   generalize ps.getD k default=q at*
   by_cases h0:i=k
   ·rw[if_neg (by rw[hc];simp[h0])]at hn
    clear hc
    subst h0
    (repeat' (first|refine WZ ?_|refine SG0 (I2 (fun hc=>?_) (fun hc=>?_))|refine SR ?_|refine SK0 (I2 (fun hc=>?_) (fun hc=>?_))|fail))
    exact⟨n2-1,by omega,i+1,by omega,by rw[hn];rfl⟩
   by_cases h1:p.ring=q.ring
   ·rw[if_pos (by rw[hc];simp[h0,h1])]at hn
    clear hc
    (repeat' (first|refine WZ ?_|refine SG0 (I2 (fun hc=>?_) (fun hc=>?_))|refine SR ?_|refine SK0 (I2 (fun hc=>?_) (fun hc=>?_))|fail))
    exact⟨n2-1,by omega,k+1,by omega,by rw[hn];rfl⟩
   by_cases h2:p.group=q.group
   ·cases ex with
    |false=>
     rw[if_neg (by rw[hc];simp[h0,h1,h2])]at hn
     clear hc
     (repeat' (first|refine WZ ?_|refine SG0 (I2 (fun hc=>?_) (fun hc=>?_))|refine SR ?_|refine SK0 (I2 (fun hc=>?_) (fun hc=>?_))|fail))
     exact⟨n2-1,by omega,k+1,by omega,by rw[hn];rfl⟩
    | true=>
     by_cases h3:((i:Int)+k).tmod 2=1
     ·rw[if_pos (by rw[hc];simp[h0,h1,h2,h3])]at hn
      clear hc
      (repeat' (first|refine WZ ?_|refine SG0 (I2 (fun hc=>?_) (fun hc=>?_))|refine SR ?_|refine SK0 (I2 (fun hc=>?_) (fun hc=>?_))|fail))
      exact⟨n2-1,by omega,k+1,by omega,by rw[hn];rfl⟩
     ·rw[if_neg (by rw[hc];simp[h0,h1,h2,h3])]at hn
      clear hc
      (repeat' (first|refine WZ ?_|refine SG0 (I2 (fun hc=>?_) (fun hc=>?_))|refine SR ?_|refine SK0 (I2 (fun hc=>?_) (fun hc=>?_))|fail))
      exact⟨n2-1,by omega,k+1,by omega,by rw[hn];rfl⟩
   ·rw[if_pos (by rw[hc];simp[h0,h1,h2])]at hn
    clear hc
    (repeat' (first|refine WZ ?_|refine SG0 (I2 (fun hc=>?_) (fun hc=>?_))|refine SR ?_|refine SK0 (I2 (fun hc=>?_) (fun hc=>?_))|fail))
    exact⟨n2-1,by omega,k+1,by omega,by rw[hn];rfl⟩
  ·obtain rfl:k=ps.length:=by omega
   have hr:=rowF_bd ps ex i ps.length
   (repeat' (first|refine WZ ?_|refine SG0 (I2 (fun hc=>?_) (fun hc=>?_))|refine SR ?_|refine SK0 (I2 (fun hc=>?_) (fun hc=>?_))|fail))
   exact⟨n-1,by omega,i+1,by omega,by rw[ht];rfl⟩
 obtain rfl:i=ps.length:=by omega
 (repeat' (first|refine WZ ?_|refine SG0 (I2 (fun hc=>?_) (fun hc=>?_))|refine SR ?_|refine SK0 (I2 (fun hc=>?_) (fun hc=>?_))|fail))
 exact fin_own [1000] rfl rfl (congrArg (fun x=>AV.agg [slA phA ps,AV.sl false x,iA js]) List.take_length) rfl
end
section
set_option maxRecDepth 4000
set_option maxHeartbeats 2000000
def ad4 (d:Dk):Dk:=ad (ad (ad (ad d)))
def cjL (d:Dk):Nat→List Jn×Dk
 |0=>([],d)
 |i+1=>((cjL d i).1++[jnF (cjL d i).2],jnD (cjL d i).2)
def caL (d:Dk) (rights:Int):Nat→List Ag×Dk
 |0=>([],d)
 |i+1=>((caL d rights i).1++[agF (caL d rights i).2 i rights],ad (ad7 (caL d rights i).2))
theorem cjL_len (d:Dk):∀i,(cjL d i).1.length=i
 |0=>rfl
 |i+1=>by simp[cjL,cjL_len d i]
theorem caL_len (d:Dk) (rights:Int):∀i,(caL d rights i).1.length=i
 |0=>rfl
 |i+1=>by simp[caL,caL_len d rights i]
theorem caL_s2 (d:Dk) (rights:Int) (i:Nat):(caL d rights (i+1)).2=ad (ad7 (caL d rights i).2):=by simp only[caL]
theorem caL_s1 (d:Dk) (rights:Int) (i:Nat):(caL d rights (i+1)).1=(caL d rights i).1++[agF (caL d rights i).2 i rights]:=by simp only[caL]
def cfN (d:Dk):Nat:=(1+nx (ad4 d) 2).toNat
def cfJ (d:Dk):List Jn×Dk:=cjL (ad (ad4 d)) (cfN d)
def cfM (d:Dk):Nat:=(1+nx (cfJ d).2 3).toNat
def cfG (d:Dk) (rights:Int):List Ag×Dk:=caL (ad (cfJ d).2) rights (cfM d)
def cfF (d:Dk) (rights:Int):Cf:=⟨(cfJ d).1,(cfG d rights).1,1+nx d (4-1+1),nx (ad d) 4,1+nx (ad (ad d)) (3-1+1),nx (ad (ad (ad d))) 5⟩
def cfD (d:Dk) (rights:Int):Dk:=(cfG d rights).2
theorem config_c (d:Dk) (rights:Int):CallSim Tryz.prog 29 [.ptr 1000 0 0,iA rights] [(1000,dkE d)] (cfA (cfF d rights)) [(1000,dkE (cfD d rights))]:=by
 have hn:=nx_bd (ad4 d) 2 (by omega)
 have hm:=nx_bd (cfJ d).2 3 (by omega)
 have en:1+nx (ad4 d) 2=(cfN d:Int):=(Int.toNat_of_nonneg (by omega)).symm
 have em:1+nx (cfJ d).2 3=(cfM d:Int):=(Int.toNat_of_nonneg (by omega)).symm
 have ej:cfJ d=cjL (ad (ad4 d)) (cfN d):=rfl
 have eg:cfG d rights=caL (ad (cfJ d).2) rights (cfM d):=rfl
 have ef:cfF d rights=⟨(cfJ d).1,(cfG d rights).1,1+nx d (4-1+1),nx (ad d) 4,1+nx (ad (ad d)) (3-1+1),nx (ad (ad (ad d))) 5⟩:=rfl
 have ed:cfD d rights=(cfG d rights).2:=rfl
 rw[ef,ed]
 unfold ad4 at*
 generalize cfJ d=jj at*
 generalize cfG d rights=gg at*
 generalize cfN d=N at*
 generalize cfM d=M at*
 have jc:=fun i=>junction_c (cjL (ad (ad (ad (ad (ad d))))) i).2
 (refine eN Tryz.func29 Tryz.call29 fun F hF=>?_)
 (repeat' (first|refine WZ ?_|refine SG0 (I2 (fun hc=>?_) (fun hc=>?_))|(refine is_ops ?_;refine is_call ?_;(first|(refine is_fn 32 ?_;first|refine x_q (stp_call (range_c _ _ _ (by omega) (by omega) (by omega)) rfl rfl rfl rfl rfl) rfl ?_|refine x_w (stp_call (range_c _ _ _ (by omega) (by omega) (by omega)) rfl rfl rfl rfl rfl) rfl rfl rfl ?_|refine x_d (stp_call (range_c _ _ _ (by omega) (by omega) (by omega)) rfl rfl rfl rfl rfl) rfl rfl rfl ?_)|(refine is_fn 13 ?_;first|refine x_q (stp_call (next_c _ _ (by omega) (by omega)) rfl rfl rfl rfl rfl) rfl ?_|refine x_w (stp_call (next_c _ _ (by omega) (by omega)) rfl rfl rfl rfl rfl) rfl rfl rfl ?_|refine x_d (stp_call (next_c _ _ (by omega) (by omega)) rfl rfl rfl rfl rfl) rfl rfl rfl ?_)))|refine SR ?_|refine SK0 (I2 (fun hc=>?_) (fun hc=>?_))|fail))
 generalize nx d (4-1+1)=c1 at*
 generalize nx (ad d) 4=c2 at*
 generalize nx (ad (ad d)) (3-1+1)=c3 at*
 generalize nx (ad (ad (ad d))) 5=c4 at*
 generalize nx (ad (ad (ad (ad d)))) 2=n0 at*
 generalize ad (ad (ad (ad (ad d))))=d5 at*
 refine sim_virtB 5 0 1001 3 rfl rfl rfl rfl rfl ?_
 refine sim_loop_r (fun n st=>∃i:Nat,n+i=N∧st=⟨[(0,.ptr 1000 0 0),(1,iA rights),(4,.ptr 4 0 0),(5,.ptr 5 0 0),(6,iA (1+n0-i))],
   [(1000,dkE (cjL d5 i).2),(4,.box [.s (.slice none 0 0),.s (.slice none 0 0),iA 0,iA 0,iA 0,iA 0]),(5,.box [.ref 1001 0 ((cjL d5 i).1.map jnA).length,.s (.slice none 0 0),iA (1+c1),iA c2,iA (1+c3),iA c4]),(1001,.arr 3 ((cjL d5 i).1.map jnA) true)]⟩)
  N [1000,4,5,1001] [0,1,4,5,6] rfl ⟨0,rfl,by rw[show 1+n0-(0:Nat)=1+n0 by omega];rfl⟩ ?_
 rintro n st ⟨i,hi,rfl⟩
 by_cases hlt:i<N
 ·have hm2:(cjL d5 (i+1)).1.map jnA=(cjL d5 i).1.map jnA++[jnA (jnF (cjL d5 i).2)]:=List.map_append
  have hd2:(cjL d5 (i+1)).2=jnD (cjL d5 i).2:=rfl
  have c:=jc i
  have hle:=cjL_len d5 i
  generalize hq':cjL d5 (i+1)=q' at hm2 hd2
  generalize cjL d5 i=q at*
  obtain⟨ql,qd⟩:=q
  dsimp only at hm2 hd2 hle c⊢
  generalize jnF qd=jf at*
  generalize jnD qd=jd at*
  (have zc1:=c;refine WW ?_;clear zc1)
  exact⟨n-1,by omega,i+1,by omega,by rw[hq',hm2,hd2,show 1+n0-((i+1:Nat):Int)=1+n0-i-1 by omega];rfl⟩
 obtain rfl:i=N:=by omega
 have hjl:jj.1.length=i:=by rw[ej];exact cjL_len _ _
 rw[←ej]
 clear ej jc ef ed
 obtain⟨js,dj⟩:=jj
 dsimp only at*
 have hlp:(js.map jnA).length=js.length:=by simp
 have hal:=caL_len (ad dj) rights M
 have ac:=fun k (hk:k<M)=>agency_c (caL (ad dj) rights k).2 k rights (by omega) (by omega)
 rw[←eg]at hal
 (repeat' (first|refine WZ ?_|refine SG0 (I2 (fun hc=>?_) (fun hc=>?_))|(refine is_ops ?_;refine is_call ?_;(first|(refine is_fn 13 ?_;first|refine x_q (stp_call (next_c _ _ (by omega) (by omega)) rfl rfl rfl rfl rfl) rfl ?_|refine x_w (stp_call (next_c _ _ (by omega) (by omega)) rfl rfl rfl rfl rfl) rfl rfl rfl ?_|refine x_d (stp_call (next_c _ _ (by omega) (by omega)) rfl rfl rfl rfl rfl) rfl rfl rfl ?_)))|refine SR ?_|refine SK0 (I2 (fun hc=>?_) (fun hc=>?_))|fail))
 generalize nx dj 3=n3 at*
 generalize ad dj=dk at*
 refine sim_restr (st':=⟨[(0,.ptr 1000 0 0),(1,iA rights),(4,.ptr 4 0 0),(5,.ptr 5 0 0),(33,iA (1+n3)),(34,iA 0)],
   [(1000,dkE dk),(4,.box [.s (.slice none 0 0),.s (.slice none 0 0),iA 0,iA 0,iA 0,iA 0]),(5,.box [slA jnA js,.s (.slice none 0 0),iA (1+c1),iA c2,iA (1+c3),iA c4])]⟩) [1000,4,5] [0,1,4,5,33,34] rfl (by
  have e1:slA jnA js= .sl false (List.take (js.map jnA).length (List.drop 0 (js.map jnA))):=by
   rw[List.drop_zero,List.take_length]
   rfl
  rw[e1]
  rfl) ?_
 refine sim_virtB 5 1 1002 8 rfl rfl rfl rfl rfl ?_
 refine sim_loop_r (fun n st=>∃k:Nat,n+k=M∧st=⟨[(0,.ptr 1000 0 0),(1,iA rights),(4,.ptr 4 0 0),(5,.ptr 5 0 0),(33,iA (1+n3)),(34,iA k)],
   [(1000,dkE (caL dk rights k).2),(4,.box [.s (.slice none 0 0),.s (.slice none 0 0),iA 0,iA 0,iA 0,iA 0]),(5,.box [slA jnA js,.ref 1002 0 ((caL dk rights k).1.map agA).length,iA (1+c1),iA c2,iA (1+c3),iA c4]),(1002,.arr 8 ((caL dk rights k).1.map agA) true)]⟩)
  M [1000,4,5,1002] [0,1,4,5,33,34] rfl ⟨0,rfl,rfl⟩ ?_
 clear n hi hlt
 rintro n st ⟨k,hk,rfl⟩
 by_cases hlt:k<M
 ·have hm2:(caL dk rights (k+1)).1.map agA=(caL dk rights k).1.map agA++[agA (agF (caL dk rights k).2 k rights)]:=by rw[caL_s1];exact List.map_append
  have hd2:(caL dk rights (k+1)).2=ad (ad7 (caL dk rights k).2):=caL_s2 dk rights k
  have c:=ac k hlt
  have hle:=caL_len dk rights k
  clear ac
  generalize hq':caL dk rights (k+1)=q' at hm2 hd2
  generalize caL dk rights k=q at*
  obtain⟨ql,qd⟩:=q
  dsimp only at hm2 hd2 hle c⊢
  generalize agF qd k rights=jf at*
  generalize ad (ad7 qd)=jd at*
  (have zc1:=c;refine WW ?_;clear zc1)
  exact⟨n-1,by omega,k+1,by omega,by rw[hq',hm2,hd2];rfl⟩
 obtain rfl:k=M:=by omega
 rw[←eg]
 clear eg ac
 (refine WW ?_)
 exact fin_own [1000] rfl rfl (congrArg (fun x=>AV.agg [slA jnA js,AV.sl false x,iA (1+c1),iA c2,iA (1+c3),iA c4]) List.take_length) rfl
end
end Av
end Go.Proofs.YtaikgchmpieooaaGreat
