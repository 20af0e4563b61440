/- Part 26: contracts of the functions, and what they rest upon. -/
import Derived.Test.YtaikgchmpieooaaGreatP25
namespace Go.Proofs.YtaikgchmpieooaaGreat
namespace Av
set_option linter.unusedSimpArgs false
set_option linter.unusedVariables false
section
set_option maxRecDepth 4000
set_option maxHeartbeats 2000000
theorem frzL_app (K:List Nat) (h:Heap):∀a b:List AV,frzL K h (a++b)=frzL K h a++frzL K h b
 | [],b=>rfl
 |v::a,b=>by rw[List.cons_append,frzL,frzL,frzL_app K h a b];rfl
theorem frzL_rq (K:List Nat) (h:Heap):∀l:List Rq,frzL K h (l.map rqA)=l.map rqA
 | []=>rfl
 |r::l=>by rw[List.map_cons,frzL,frzL_rq K h l];rfl
theorem frz0L_app (K:List Nat) (h:Heap):∀a b:List AV,frz0L K h (a++b)=frz0L K h a++frz0L K h b
 | [],b=>rfl
 |v::a,b=>by rw[List.cons_append,frz0L,frz0L,frz0L_app K h a b];rfl
theorem frz0L_rq (K:List Nat) (h:Heap):∀l:List Rq,frz0L K h (l.map rqA)=l.map rqA
 | []=>rfl
 |r::l=>by rw[List.map_cons,frz0L,frz0L_rq K h l];rfl
theorem nokeys_app:∀a b:List AV,nokeys (a++b)=(nokeys a&&nokeys b)
 | [],b=>rfl
 |v::a,b=>by rw[List.cons_append,nokeys,nokeys,nokeys_app a b,Bool.and_assoc]
theorem nokeys_rq:∀l:List Rq,nokeys (l.map rqA)=true
 | []=>rfl
 |r::l=>by rw[List.map_cons,nokeys,nokeys_rq l];rfl
def csX (pre:List Rq) (x:Rq) (post:List Rq) (k:Nat):List AV:=pre.map rqA++rqO x k::post.map rqA
theorem csX_len (pre:List Rq) (x:Rq) (post:List Rq) (k:Nat):(csX pre x post k).length=pre.length+1+post.length:=by simp[csX];omega
theorem csX_frz (h:Heap) (pre:List Rq) (x:Rq) (post:List Rq) (b:Bool):frzE [1001,1101] h (.arr 5 (csX pre x post 1101) ⟨b,true⟩)= .arr 5 (csX pre x post 1101) ⟨b,true⟩:=by
 have e:frzL [1001,1101] h (csX pre x post 1101)=csX pre x post 1101:=by
  unfold csX
  rw[frzL_app,frzL_rq,frzL,frzL_rq]
  rfl
 have e2:nokeys (csX pre x post 1101)=false:=by
  unfold csX
  rw[nokeys_app,nokeys_rq,nokeys]
  rfl
 show Ent.arr 5 (frzL [1001,1101] h (csX pre x post 1101)) ⟨b,!nokeys (frzL [1001,1101] h (csX pre x post 1101))⟩=_
 rw[e,e2]
 rfl
theorem csX_app (pre:List Rq) (x:Rq) (post:List Rq) (k:Nat) (y:Rq):csX pre x post k++[rqA y]=csX pre x (post++[y]) k:=by
 unfold csX
 rw[List.map_append,List.append_assoc]
 rfl
theorem kept_at (pre:List Rq) (x:Rq) (post:List Rq) (l:List Rq) (hL:l=pre++x::post) (hn:l.length≤1000) (hb:∀r∈l,1≤r.legs.length∧r.legs.length≤1000):
  CallSim Tryz.prog 105 [slA rqA l,.fn 144 []] [] (.ref 1001 0 (csX pre x post 1101).length) [(1001,.arr 5 (csX pre x post 1101) ⟨true,true⟩),(1101,lgE x)]:=by
 have hl:=map_len rqA l
 have hlen:l.length=pre.length+1+post.length:=by rw[hL];simp;omega
 (refine eN Tryz.func105 Tryz.call105 fun F hF=>?_)
 (refine WW ?_)
 refine sim_virt 5 1001 5 rfl rfl rfl ?_
 refine sim_loop_r (fun n st=>∃i,n+i=l.length∧st=if i≤pre.length then(⟨[(5,.ref 1001 0 ((l.take i).map rqA).length),(10,iA i),(1,.fn 144 []),(8,slA rqA l),(9,iA (l.map rqA).length)],[(1001,.arr 5 ((l.take i).map rqA) true)]⟩:St)else⟨[(5,.ref 1001 0 (csX pre x (post.take (i-pre.length-1)) 1101).length),(10,iA i),(1,.fn 144 []),(8,slA rqA l),(9,iA (l.map rqA).length)],[(1001,.arr 5 (csX pre x (post.take (i-pre.length-1)) 1101) ⟨true,true⟩),(1101,lgE x)]⟩) l.length [1001,1101] [5,10,1,8,9] rfl ⟨0,by omega,by rw[if_pos (Nat.zero_le _)];rfl⟩ ?_
 rintro n st ⟨i,hi,rfl⟩
 by_cases hip:i<pre.length
 ·rw[if_pos (by omega)]
  have hy:=map_at rqA l i (by omega)
  have hm:l.getD i default∈l:=by simp[List.getD,show i<l.length by omega]
  have hs:=hb _ hm
  have e:(l.take (i+1)).map rqA=(l.take i).map rqA++[rqA (l.getD i default)]:=by
   rw[List.take_add_one,List.map_append,List.getElem?_eq_getElem (by omega)]
   simp[List.getD,show i<l.length by omega]
  have hpl:((l.take i).map rqA).length=i:=by rw[List.length_map,List.length_take];omega
  have hil:i<l.length:=by omega
  clear hm
  generalize l.getD i default=r at*
  have c1:=calltrue_c r
  have c2:=qclone_c r (by omega)
  (have zc1:=c1;have zc2:=c2;(repeat' (first|refine WZ ?_|refine SG (I2 (fun hc=>?_) (fun hc=>?_))|refine SG (fun hc=>?_)|(refine is_ops ?_;refine is_call ?_;refine SC ?_)|(refine is_ops ?_;first|(refine is_app ?_;refine x_w (nw:=[]) (stp_append_refS true false tok rfl rfl rfl rfl rfl rfl (fun h=>by cases h) rfl (by intro y hy;cases hy;rfl) rfl rfl rfl rfl (by simp only[csX_len,List.length_map,List.length_take,List.length_cons,List.length_nil,List.length_drop];omega) (fun h=>by cases h)) rfl rfl rfl ?_)|refine SM ?_)|first|refine SR ?_|refine SK (I2 (fun hc=>?_) (fun hc=>?_))|refine SK (fun hc=>?_)|fail))<;>clear zc1 zc2)
  exact⟨n-1,by omega,i+1,by omega,by rw[if_pos (by omega),e];rfl⟩
 by_cases hie:i=pre.length
 ·rw[if_pos (by omega)]
  subst hie
  have hil:pre.length<l.length:=by omega
  have ht:(l.take pre.length).map rqA=pre.map rqA:=by rw[hL];simp
  have hy:(l.map rqA)[pre.length]? =some (rqA x):=by rw[hL];simp
  have hs:=hb x (by rw[hL];simp)
  rw[ht]
  clear hL
  have c1:=calltrue_c x
  have c2:=qclone_o1101 x (by omega) (by omega)
  have hpt:pre.length≤1000:=by omega
  (have zc1:=c1;have zc2:=c2;(repeat' (first|refine WY ?_|refine SG (I2 (fun hc=>?_) (fun hc=>?_))|refine SG (fun hc=>?_)|(refine is_ops ?_;refine is_call ?_;refine SC ?_)|(refine is_ops ?_;first|(refine is_bsl ?_;refine x_bslN (xs:=[_]) 1002 tok rfl rfl rfl rfl rfl rfl rfl rfl rfl rfl rfl rfl ?_)|(refine is_app ?_;refine x_w (nw:=[]) (stp_append_refS true true tok rfl rfl rfl rfl rfl rfl (fun h=>by cases h) rfl (by intro y hy;cases hy;rfl) rfl rfl rfl rfl (by simp only[csX_len,List.length_map,List.length_take,List.length_cons,List.length_nil,List.length_drop];omega) (fun h=>by cases h)) rfl rfl rfl ?_))|refine SB ?_|first|refine SR ?_|refine SK (I2 (fun hc=>?_) (fun hc=>?_))|refine SK (fun hc=>?_)|fail))<;>clear zc1 zc2)
  refine⟨n-1,by omega,pre.length+1,by omega,?_⟩
  rw[if_neg (by omega),show pre.length+1-pre.length-1=0 by omega]
  refine congrArg (St.mk _) ?_
  show [(1001,frzE [1001,1101] _ (.arr 5 (csX pre x [] 1101) ⟨true,true⟩)),(1101,lgE x)]=_
  rw[csX_frz]
  rfl
 rw[if_neg (by omega)]
 by_cases hil:i<l.length
 ·have hy:=map_at rqA l i hil
  have hm:l.getD i default∈l:=by simp[List.getD,hil]
  have hs:=hb _ hm
  have hg:post[i-pre.length-1]? =some (l.getD i default):=by
   have h1:l[i]? =some (l.getD i default):=by simp[List.getD,hil]
   rw[hL,List.getElem?_append_right (by omega)]at h1
   rw[show i-pre.length=(i-pre.length-1)+1 by omega,List.getElem?_cons_succ]at h1
   rw[←hL]at h1
   exact h1
  have e:csX pre x (post.take (i+1-pre.length-1)) 1101=csX pre x (post.take (i-pre.length-1)) 1101++[rqA (l.getD i default)]:=by
   rw[csX_app,show i+1-pre.length-1=(i-pre.length-1)+1 by omega,List.take_add_one,hg]
   rfl
  have hcl:=csX_len pre x (post.take (i-pre.length-1)) 1101
  have hpt:(post.take (i-pre.length-1)).length≤1000:=by rw[List.length_take];omega
  have hf:=fun h=>csX_frz h pre x (post.take (i+1-pre.length-1)) true
  rw[e]at hf
  clear hm hg hL
  generalize l.getD i default=r at*
  generalize csX pre x (post.take (i-pre.length-1)) 1101=cs at*
  have c1:=calltrue_c r
  have c2:=qclone_c r (by omega)
  (have zc1:=c1;have zc2:=c2;(repeat' (first|refine WZ ?_|refine SG (I2 (fun hc=>?_) (fun hc=>?_))|refine SG (fun hc=>?_)|(refine is_ops ?_;refine is_call ?_;refine SC ?_)|(refine is_ops ?_;first|(refine is_app ?_;refine x_w (nw:=[]) (stp_append_refS true true tok rfl rfl rfl rfl rfl rfl (fun h=>by cases h) rfl (by intro y hy;cases hy;rfl) rfl rfl rfl rfl (by simp only[csX_len,List.length_map,List.length_take,List.length_cons,List.length_nil,List.length_drop];omega) (fun h=>by cases h)) rfl rfl rfl ?_)|refine SM ?_)|first|refine SR ?_|refine SK (I2 (fun hc=>?_) (fun hc=>?_))|refine SK (fun hc=>?_)|fail))<;>clear zc1 zc2)
  refine⟨n-1,by omega,i+1,by omega,?_⟩
  rw[if_neg (by omega),e]
  refine congrArg (St.mk _) ?_
  show [(1001,frzE [1001,1101] _ (.arr 5 (cs++[rqA r]) ⟨true,true⟩)),(1101,lgE x)]=_
  rw[hf]
 ·have hf:=fun h=>csX_frz h pre x post true
  rw[show i-pre.length-1=post.length by omega,List.take_length]
  generalize csX pre x post 1101=cs at*
  (refine WW ?_)
  refine fin_own [1001,1101] rfl rfl rfl ?_
  show [(1001,frzE [1001,1101] _ (.arr 5 cs ⟨true,true⟩)),(1101,lgE x)]=_
  rw[hf]
theorem cloneAll_at (pre:List Rq) (x:Rq) (post:List Rq) (l:List Rq) (hL:l=pre++x::post) (hn:l.length≤1000) (hb:∀r∈l,1≤r.legs.length∧r.legs.length≤1000):
  CallSim Tryz.prog 109 [slA rqA l] [] (.ref 1001 0 (csX pre x post 1101).length) [(1001,.arr 5 (csX pre x post 1101) ⟨true,true⟩),(1101,lgE x)]:=by
 have c:=kept_at pre x post l hL hn hb
 have hf:=fun h=>csX_frz h pre x post true
 generalize csX pre x post 1101=cs at*
 (refine eN Tryz.func109 Tryz.call109 fun F hF=>?_)
 (have zc1:=c;refine WW ?_;clear zc1)
 refine fin_own [1001,1101] rfl rfl rfl ?_
 show [(1001,frzE [1001,1101] _ (.arr 5 cs ⟨true,true⟩)),(1101,lgE x)]=_
 rw[hf]
theorem copy_at (pre:List Rq) (x:Rq) (post:List Rq) (l:List Rq) (hL:l=pre++x::post) (hn:l.length≤1000) (hb:∀r∈l,1≤r.legs.length∧r.legs.length≤1000):
  CallSim Tryz.prog 52 [slA rqA l] [] (.ref 1001 0 (csX pre x post 1101).length) [(1001,.arr 5 (csX pre x post 1101) ⟨true,true⟩),(1101,lgE x)]:=by
 have hl:=map_len rqA l
 have hlen:l.length=pre.length+1+post.length:=by rw[hL];simp;omega
 (refine eN Tryz.func52 Tryz.call52 fun F hF=>?_)
 (refine WW ?_)
 refine sim_virt 3 1001 5 rfl rfl rfl ?_
 refine sim_loop_r (fun n st=>∃i,n+i=l.length∧st=if i≤pre.length then(⟨[(3,.ref 1001 0 ((l.take i).map rqA).length),(8,iA i),(6,slA rqA l),(7,iA (l.map rqA).length)],[(1001,.arr 5 ((l.take i).map rqA) true)]⟩:St)else⟨[(3,.ref 1001 0 (csX pre x (post.take (i-pre.length-1)) 1101).length),(8,iA i),(6,slA rqA l),(7,iA (l.map rqA).length)],[(1001,.arr 5 (csX pre x (post.take (i-pre.length-1)) 1101) ⟨true,true⟩),(1101,lgE x)]⟩) l.length [1001,1101] [3,8,6,7] rfl ⟨0,by omega,by rw[if_pos (Nat.zero_le _)];rfl⟩ ?_
 rintro n st ⟨i,hi,rfl⟩
 by_cases hip:i<pre.length
 ·rw[if_pos (by omega)]
  have hy:=map_at rqA l i (by omega)
  have hm:l.getD i default∈l:=by simp[List.getD,show i<l.length by omega]
  have hs:=hb _ hm
  have e:(l.take (i+1)).map rqA=(l.take i).map rqA++[rqA (l.getD i default)]:=by
   rw[List.take_add_one,List.map_append,List.getElem?_eq_getElem (by omega)]
   simp[List.getD,show i<l.length by omega]
  have hpl:((l.take i).map rqA).length=i:=by rw[List.length_map,List.length_take];omega
  have hil:i<l.length:=by omega
  clear hm
  generalize l.getD i default=r at*
  have hrl:=map_len lgA r.legs
  (repeat' (first|refine WY ?_|refine SG (I2 (fun hc=>?_) (fun hc=>?_))|refine SG (fun hc=>?_)|(refine is_ops ?_;refine is_call ?_;fail)|(refine is_ops ?_;first|(refine is_app ?_;refine x_w (nw:=[]) (stp_append_refS true false tok rfl rfl rfl rfl rfl rfl (fun h=>by cases h) rfl (by intro y hy;cases hy;rfl) rfl rfl rfl rfl (by simp only[csX_len,List.length_map,List.length_take,List.length_cons,List.length_nil,List.length_drop];omega) (fun h=>by cases h)) rfl rfl rfl ?_)|refine SL ?_|refine SM ?_)|refine SB ?_|first|refine SR ?_|refine SK (I2 (fun hc=>?_) (fun hc=>?_))|refine SK (fun hc=>?_)|fail))
  exact⟨n-1,by omega,i+1,by omega,by rw[if_pos (by omega),e];rfl⟩
 by_cases hie:i=pre.length
 ·rw[if_pos (by omega)]
  subst hie
  have hil:pre.length<l.length:=by omega
  have ht:(l.take pre.length).map rqA=pre.map rqA:=by rw[hL];simp
  have hy:(l.map rqA)[pre.length]? =some (rqA x):=by rw[hL];simp
  have hs:=hb x (by rw[hL];simp)
  rw[ht]
  clear hL
  have hrl:=map_len lgA x.legs
  have hpt:pre.length≤1000:=by omega
  (repeat' (first|refine WY ?_|refine SG (I2 (fun hc=>?_) (fun hc=>?_))|refine SG (fun hc=>?_)|(refine is_ops ?_;refine is_call ?_;fail)|(refine is_ops ?_;first|(refine is_app ?_;refine x_appnilK 1101 tok rfl rfl rfl rfl rfl rfl (map_hd _ _ (fun _=>rfl)) rfl rfl rfl (by omega) rfl rfl rfl ?_)|(refine is_bsl ?_;refine x_bslN (xs:=[_]) 1002 tok rfl rfl rfl rfl rfl rfl rfl rfl rfl rfl rfl rfl ?_)|(refine is_app ?_;refine x_w (nw:=[]) (stp_append_refS true true tok rfl rfl rfl rfl rfl rfl (fun h=>by cases h) rfl (by intro y hy;cases hy;rfl) rfl rfl rfl rfl (by simp only[csX_len,List.length_map,List.length_take,List.length_cons,List.length_nil,List.length_drop];omega) (fun h=>by cases h)) rfl rfl rfl ?_))|refine SB ?_|first|refine SR ?_|refine SK (I2 (fun hc=>?_) (fun hc=>?_))|refine SK (fun hc=>?_)|fail))
  refine⟨n-1,by omega,pre.length+1,by omega,?_⟩
  rw[if_neg (by omega),show pre.length+1-pre.length-1=0 by omega]
  refine congrArg (St.mk _) ?_
  show [(1001,frzE [1001,1101] _ (.arr 5 (csX pre x [] 1101) ⟨true,true⟩)),(1101,lgE x)]=_
  rw[csX_frz]
  rfl
 rw[if_neg (by omega)]
 by_cases hil:i<l.length
 ·have hy:=map_at rqA l i hil
  have hm:l.getD i default∈l:=by simp[List.getD,hil]
  have hs:=hb _ hm
  have hg:post[i-pre.length-1]? =some (l.getD i default):=by
   have h1:l[i]? =some (l.getD i default):=by simp[List.getD,hil]
   rw[hL,List.getElem?_append_right (by omega)]at h1
   rw[show i-pre.length=(i-pre.length-1)+1 by omega,List.getElem?_cons_succ]at h1
   rw[←hL]at h1
   exact h1
  have e:csX pre x (post.take (i+1-pre.length-1)) 1101=csX pre x (post.take (i-pre.length-1)) 1101++[rqA (l.getD i default)]:=by
   rw[csX_app,show i+1-pre.length-1=(i-pre.length-1)+1 by omega,List.take_add_one,hg]
   rfl
  have hcl:=csX_len pre x (post.take (i-pre.length-1)) 1101
  have hpt:(post.take (i-pre.length-1)).length≤1000:=by rw[List.length_take];omega
  have hf:=fun h=>csX_frz h pre x (post.take (i+1-pre.length-1)) true
  rw[e]at hf
  clear hm hg hL
  generalize l.getD i default=r at*
  generalize csX pre x (post.take (i-pre.length-1)) 1101=cs at*
  have hrl:=map_len lgA r.legs
  (repeat' (first|refine WY ?_|refine SG (I2 (fun hc=>?_) (fun hc=>?_))|refine SG (fun hc=>?_)|(refine is_ops ?_;refine is_call ?_;fail)|(refine is_ops ?_;first|(refine is_app ?_;refine x_w (nw:=[]) (stp_append_refS true true tok rfl rfl rfl rfl rfl rfl (fun h=>by cases h) rfl (by intro y hy;cases hy;rfl) rfl rfl rfl rfl (by simp only[csX_len,List.length_map,List.length_take,List.length_cons,List.length_nil,List.length_drop];omega) (fun h=>by cases h)) rfl rfl rfl ?_)|refine SL ?_|refine SM ?_)|refine SB ?_|first|refine SR ?_|refine SK (I2 (fun hc=>?_) (fun hc=>?_))|refine SK (fun hc=>?_)|fail))
  refine⟨n-1,by omega,i+1,by omega,?_⟩
  rw[if_neg (by omega),e]
  refine congrArg (St.mk _) ?_
  show [(1001,frzE [1001,1101] _ (.arr 5 (cs++[rqA r]) ⟨true,true⟩)),(1101,lgE x)]=_
  rw[hf]
 ·have hf:=fun h=>csX_frz h pre x post true
  rw[show i-pre.length-1=post.length by omega,List.take_length]
  generalize csX pre x post 1101=cs at*
  (refine WW ?_)
  refine fin_own [1001,1101] rfl rfl rfl ?_
  show [(1001,frzE [1001,1101] _ (.arr 5 cs ⟨true,true⟩)),(1101,lgE x)]=_
  rw[hf]
end
section
set_option maxRecDepth 4000
set_option maxHeartbeats 2000000
def wnA (p:Int×Int):AV:= .agg [iA p.1,iA p.2]
def nwL (now:Int) (g:Lg) (p:Int×Int):Lg:=⟨g.jn,g.ph,now+p.1,now+p.2,g.sc⟩
def okW (now:Int) (g:Lg) (p:Int×Int):Bool:=mwB g.jn g.ph p.1 p.2 now
def wokF (gs:List Lg) (w:List (Int×Int)) (now:Int):Bool:=(gs.zipWith (okW now) w).all id
def updE (l:List Rq) (id:Int) (w:List (Int×Int)) (now:Int):Int:=
 if hasQ l id=true then(if w.length=(fdQ l id).legs.length∧wokF (fdQ l id).legs w now=true then 0 else 8)else 12
def updF (l:List Rq) (id:Int) (w:List (Int×Int)) (now:Int):List Rq:=l.map fun r=>if r.id=id then⟨r.id,r.vh,r.cls,r.til,r.legs.zipWith (nwL now) w⟩else r
def upN (gs:List Lg) (w:List (Int×Int)) (now:Int) (i:Nat):List Lg:=(gs.take i).zipWith (nwL now) (w.take i)++gs.drop i
theorem upN_len {gs:List Lg} {w:List (Int×Int)} {now:Int} {i:Nat} (h:w.length=gs.length) (hi:i≤gs.length):(upN gs w now i).length=gs.length:=by
 unfold upN
 rw[List.length_append,List.length_zipWith,List.length_take,List.length_take,List.length_drop]
 omega
theorem upN_at {gs:List Lg} {w:List (Int×Int)} {now:Int} {i:Nat} (h:w.length=gs.length) (hi:i<gs.length):((upN gs w now i).map lgA)[i]? =some (lgA (gs.getD i default)):=by
 unfold upN
 have e:((gs.take i).zipWith (nwL now) (w.take i)).length=i:=by rw[List.length_zipWith,List.length_take,List.length_take];omega
 rw[List.getElem?_map,List.getElem?_append_right (by omega),e,Nat.sub_self,List.getElem?_drop]
 simp[List.getD,hi]
theorem upN_set {gs:List Lg} {w:List (Int×Int)} {now:Int} {i:Nat} (h:w.length=gs.length) (hi:i<gs.length):((upN gs w now i).map lgA).set i (lgA (nwL now (gs.getD i default) (w.getD i default)))=(upN gs w now (i+1)).map lgA:=by
 unfold upN
 have e:((gs.take i).zipWith (nwL now) (w.take i)).length=i:=by rw[List.length_zipWith,List.length_take,List.length_take];omega
 rw[←List.map_set,List.set_append_right _ _ (by omega),e,Nat.sub_self,List.drop_eq_getElem_cons hi,List.set_cons_zero]
 rw[List.take_add_one,List.take_add_one,List.zipWith_append (by rw[List.length_take,List.length_take];omega)]
 rw[List.getElem?_eq_getElem hi,List.getElem?_eq_getElem (by omega)]
 simp[List.getD,hi,show i<w.length by omega]
theorem upN_0 (gs:List Lg) (w:List (Int×Int)) (now:Int):upN gs w now 0=gs:=by simp[upN]
theorem upN_all {gs:List Lg} {w:List (Int×Int)} {now:Int} (h:w.length=gs.length):upN gs w now gs.length=gs.zipWith (nwL now) w:=by
 unfold upN
 rw[List.take_length,←h,List.take_length,h,List.drop_length,List.append_nil]
theorem wok_all {gs:List Lg} {w:List (Int×Int)} {now:Int} (h:w.length=gs.length) (ha:∀i,i<gs.length→okW now (gs.getD i default) (w.getD i default)=true):wokF gs w now=true:=by
 unfold wokF
 rw[List.all_eq_true]
 intro b hb
 obtain⟨i,hi,rfl⟩:=List.mem_iff_getElem.1 hb
 rw[List.length_zipWith]at hi
 have:=ha i (by omega)
 rw[List.getElem_zipWith]
 simpa [List.getD,show i<gs.length by omega,show i<w.length by omega]using this
theorem wok_no {gs:List Lg} {w:List (Int×Int)} {now:Int} {i:Nat} (h:w.length=gs.length) (hi:i<gs.length) (ha:okW now (gs.getD i default) (w.getD i default)=false):wokF gs w now=false:=by
 unfold wokF
 rw[List.all_eq_false]
 refine⟨okW now (gs.getD i default) (w.getD i default),?_,by rw[ha];decide⟩
 have:(gs.zipWith (okW now) w)[i]? =some (okW now (gs.getD i default) (w.getD i default)):=by
  rw[List.getElem?_zipWith,List.getElem?_eq_getElem hi,List.getElem?_eq_getElem (by omega)]
  simp[List.getD,hi,show i<w.length by omega]
 exact List.mem_of_getElem? this
theorem updF_at {l pre post:List Rq} {x:Rq} {id:Int} {w:List (Int×Int)} {now:Int} (hL:l=pre++x::post) (hv:RqV l) (hx:x.id=id):updF l id w now=pre++⟨x.id,x.vh,x.cls,x.til,x.legs.zipWith (nwL now) w⟩::post:=by
 have hs:=hv.so
 rw[hL,List.pairwise_append,List.pairwise_cons]at hs
 obtain⟨_,⟨h2,_⟩,h3⟩:=hs
 unfold updF
 rw[hL,List.map_append,List.map_cons,if_pos hx]
 congr 1
 ·conv=>rhs;rw[←List.map_id pre]
  refine List.map_congr_left fun y hy=>?_
  have:=h3 y hy x (by simp)
  rw[if_neg (by omega)]
  rfl
 ·congr 1
  conv=>rhs;rw[←List.map_id post]
  refine List.map_congr_left fun y hy=>?_
  have:=h2 y hy
  rw[if_neg (by omega)]
  rfl
theorem csX_fin {h:Heap} {pre post:List Rq} {x:Rq} {b:Bool} {gs:List Lg} (h1:h 1001=some (.arr 5 (csX pre x post 1101) ⟨b,true⟩)) (h2:h 1101=some (.arr 5 (gs.map lgA) false)) (hl:gs.length=x.legs.length):
  frzV [] h (.ref 1001 0 (csX pre x post 1101).length)=slA rqA (pre++⟨x.id,x.vh,x.cls,x.til,gs⟩::post):=by
 have e:frz0L [] h (csX pre x post 1101)=(pre++⟨x.id,x.vh,x.cls,x.til,gs⟩::post).map rqA:=by
  unfold csX
  rw[frz0L_app,frz0L_rq,frz0L,frz0L_rq,List.map_append,List.map_cons]
  congr 1
  congr 1
  show AV.agg [iA x.id,iA x.vh,iA x.cls,iA x.til,frz0 [] h (.ref 1101 0 (x.legs.map lgA).length)]=_
  have e2:frz0 [] h (.ref 1101 0 (x.legs.map lgA).length)=slA lgA gs:=by
   simp only[frz0,h2]
   show AV.sl false (((gs.map lgA).drop 0).take (x.legs.map lgA).length)=_
   rw[List.drop_zero,List.length_map,List.take_of_length_le (by rw[List.length_map,hl];exact Nat.le_refl _)]
   rfl
  rw[e2]
  rfl
 have hl2:(csX pre x post 1101).length=((pre++⟨x.id,x.vh,x.cls,x.til,gs⟩::post).map rqA).length:=by rw[csX_len];simp;omega
 rw[hl2]
 simp only[frzV,h1]
 show(bif nokeys (frz0L [] h (csX pre x post 1101))then AV.sl false (((frz0L [] h (csX pre x post 1101)).drop 0).take _)else .bot)=_
 rw[e,nokeys_rq,List.drop_zero,List.take_length]
 rfl
theorem fdQ_split {l:List Rq} {id:Int} (h:hasQ l id=true):∃pre x post,l=pre++x::post∧x.id=id∧(∀y∈pre,y.id≠id)∧fdQ l id=x∧ixF (fun r:Rq=>r.id==id) l=(pre.length:Int):=by
 induction l with
 |nil=>cases h
 | cons a l ih=>
  by_cases ha:a.id=id
  ·refine⟨[],a,l,rfl,ha,by simp,(fdQ_hit (pre:=[]) rfl (by simp) ha).1,ixF_hit (pre:=[]) rfl (by simp) (by simpa using ha)⟩
  ·have h2:hasQ l id=true:=by simpa [hasQ,ha]using h
   obtain⟨pre,x,post,e1,e2,e3,_,_⟩:=ih h2
   have hp:∀y∈a::pre,y.id≠id:=fun y hy=>by
    rcases List.mem_cons.1 hy with rfl|hy
    ·exact ha
    ·exact e3 y hy
   have e:a::l=(a::pre)++x::post:=by rw[e1];rfl
   exact⟨a::pre,x,post,e,e2,hp,(fdQ_hit e hp e2).1,ixF_hit e (fun y hy=>by simpa using hp y hy) (by simpa using e2)⟩
theorem update_q (l:List Rq) (id:Int) (w:List (Int×Int)) (now:Int) (hv:RqV l) (hw:w.length≤1000) (n0:0≤now) (n1:now≤1073741824):
  CallSim Tryz.prog 123 [slA rqA l,iA id,slA wnA w,iA now] [] (.tup [slA rqA (if updE l id w now=0 then updF l id w now else []),iA (updE l id w now)]) []:=by
 have h4:=hv.n4
 have hlw:=map_len wnA w
 have c1:=qvalid_c l 4 hv (by omega)
 have c2:=rtick_c now
 have c3:=qindex_c l id (by omega)
 rw[decide_eq_true ⟨n0,n1⟩]at c2
 cases hh:hasQ l id with
 |false=>
  have hx:=ixF_none (p:=fun x:Rq=>x.id==id) (l:=l) (by simpa [hasQ]using hh)
  rw[hx]at c3
  have e:updE l id w now=12:=if_neg (by rw[hh];decide)
  rw[e,if_neg (by decide)]
  (refine eN Tryz.func123 Tryz.call123 fun F hF=>?_)
  (have zc1:=c1;have zc2:=c2;have zc3:=c3;refine WW ?_;clear zc1 zc2 zc3)
  exact fr0
 |true=>
 obtain⟨pre,x,post,hL,hx,_,hf,hix⟩:=fdQ_split hh
 rw[hix]at c3
 have hup:=updF_at (w:=w) (now:=now) hL hv hx
 have e0:updE l id w now=if w.length=x.legs.length∧wokF x.legs w now=true then 0 else 8:=by unfold updE;rw[if_pos hh,hf]
 have hlen:l.length=pre.length+1+post.length:=by rw[hL];simp;omega
 have hxl:=hv.lg3 (r:=x) (by rw[hL];simp)
 have c4:=cloneAll_at pre x post l hL (by omega) (fun r hr=>by have:=hv.lg3 hr;omega)
 have hcl:=csX_len pre x post 1101
 have hfr:=fun h=>csX_frz h pre x post true
 have hat:(csX pre x post 1101)[((pre.length:Int)).toNat]? =some (rqO x 1101):=by unfold csX;simp
 have hfin:=fun h gs=>csX_fin (h:=h) (pre:=pre) (post:=post) (x:=x) (b:=true) (gs:=gs)
 have hlx:=map_len lgA x.legs
 generalize csX pre x post 1101=cs at*
 clear hL hv hix hf hh hx
 by_cases hwl:w.length=x.legs.length
 case neg=>
  rw[if_neg (fun h=>hwl h.1)]at e0
  rw[e0,if_neg (by decide)]
  (refine eN Tryz.func123 Tryz.call123 fun F hF=>?_)
  (have zc1:=c1;have zc2:=c2;have zc3:=c3;have zc4:=c4;refine WW ?_;clear zc1 zc2 zc3 zc4)
  exact fr0
 (refine eN Tryz.func123 Tryz.call123 fun F hF=>?_)
 (have zc1:=c1;have zc2:=c2;have zc3:=c3;have zc4:=c4;refine WW ?_;clear zc1 zc2 zc3 zc4)
 refine sim_loop_r (fun n st=>∃i,n+i=x.legs.length∧(∀j,j<i→okW now (x.legs.getD j default) (w.getD j default)=true)∧st=(⟨[(44,iA i),(3,iA now),(11,.ref 1001 0 cs.length),(12,.ref 1101 0 (x.legs.map lgA).length),(42,slA wnA w),(43,iA (w.map wnA).length)],[(1001,.arr 5 cs ⟨true,true⟩),(1101,.arr 5 ((upN x.legs w now i).map lgA) false)]⟩:St)) x.legs.length [1001,1101] [44,3,11,12,42,43] rfl ⟨0,by omega,fun j hj=>absurd hj (Nat.not_lt_zero _),?_⟩ ?_
 ·rw[upN_0]
  refine congrArg (St.mk _) ?_
  show [(1001,frzE [1001,1101] _ (.arr 5 cs ⟨true,true⟩)),(1101,lgE x)]=_
  rw[hfr]
  rfl
 rintro n st ⟨i,hi,hok,rfl⟩
 by_cases hil:i<x.legs.length
 ·have hul:=upN_len (i:=i) (now:=now) hwl (by omega)
  have hlu:=map_len lgA (upN x.legs w now i)
  have hy2:=map_at wnA w i (by omega)
  have hy:=upN_at (now:=now) hwl hil
  have hst:=upN_set (now:=now) hwl hil
  have c5:=wmake_c (x.legs.getD i default).jn (x.legs.getD i default).ph (w.getD i default).1 (w.getD i default).2 now
  cases hb:okW now (x.legs.getD i default) (w.getD i default)with
  |false=>
   have hno:=wok_no hwl hil hb
   rw[if_neg (fun h=>by rw[hno]at h;cases h.2)]at e0
   rw[e0,if_neg (by decide)]
   unfold okW at hb
   unfold mwF at c5
   rw[hb,if_neg Bool.false_ne_true,if_neg Bool.false_ne_true]at c5
   clear hok hfin hup hno hst
   generalize x.legs.getD i default=g at*
   generalize w.getD i default=q at*
   generalize (upN x.legs w now i).map lgA=ys at*
   (have zc1:=c5;refine WW ?_;clear zc1)
   exact fr0
  | true=>
   have hok2:∀j,j<i+1→okW now (x.legs.getD j default) (w.getD j default)=true:=fun j hj=>by
    by_cases hji:j=i
    ·rw[hji];exact hb
    ·exact hok j (by omega)
   unfold okW at hb
   unfold mwF at c5
   rw[hb,if_pos rfl,if_pos rfl]at c5
   have hset:∀y:AV,(((upN x.legs w now i).map lgA).set i y)[i]? =some y:=fun y=>List.getElem?_set_self (by omega)
   clear hok hfin hup e0 hb
   generalize x.legs.getD i default=g at*
   generalize w.getD i default=q at*
   generalize (upN x.legs w now i).map lgA=ys at*
   (have zc1:=c5;(repeat' (first|refine WT ?_|refine SG (I2 (fun hc=>?_) (fun hc=>?_))|refine SG (fun hc=>?_)|(refine is_ops ?_;refine is_call ?_;refine SC ?_)|(refine is_ops ?_;first|(refine is_sto ?_;refine x_sto1 tok rfl rfl rfl (hset _) rfl rfl rfl rfl rfl rfl rfl rfl ?_)|refine SM ?_)|refine SB ?_|first|refine SR ?_|refine SK (I2 (fun hc=>?_) (fun hc=>?_))|refine SK (fun hc=>?_)|fail))<;>clear zc1)
   refine⟨n-1,by omega,i+1,by omega,hok2,?_⟩
   refine congrArg (St.mk _) ?_
   show [(1001,frzE [1001,1101] _ (.arr 5 cs ⟨true,true⟩)),(1101,.arr 5 ((ys.set i _).set i (lgA (nwL now g q))) false)]=_
   rw[hfr,List.set_set,hst]
 ·obtain rfl:i=x.legs.length:=by omega
  have hul:=upN_len (i:=x.legs.length) (now:=now) hwl (Nat.le_refl _)
  have hyes:=wok_all hwl hok
  rw[if_pos ⟨hwl,hyes⟩]at e0
  rw[e0,if_pos rfl,hup]
  rw[upN_all hwl]at hul⊢
  generalize x.legs.zipWith (nwL now) w=gs at*
  (refine WW ?_)
  refine fin_ret [] rfl rfl ?_ rfl
  show AV.tup [wkV (frzV [] _ (.ref 1001 0 cs.length)),iA 0]=_
  rw[hfin _ gs rfl rfl hul]
  rfl
end
section
set_option maxRecDepth 4000
set_option maxHeartbeats 2000000
theorem csX_frzK (K:List Nat) (hK:K.contains 1101=true) (h:Heap) (pre:List Rq) (x:Rq) (post:List Rq) (b:Bool):frzE K h (.arr 5 (csX pre x post 1101) ⟨b,true⟩)= .arr 5 (csX pre x post 1101) ⟨b,true⟩:=by
 have e0:frzV K h (rqO x 1101)=rqO x 1101:=by
  show AV.agg [_,_,_,_,bif K.contains 1101 then .ref 1101 0 (x.legs.map lgA).length else _]=_
  rw[hK]
  rfl
 have e:frzL K h (csX pre x post 1101)=csX pre x post 1101:=by
  unfold csX
  rw[frzL_app,frzL_rq,frzL,frzL_rq,e0]
 have e2:nokeys (csX pre x post 1101)=false:=by
  unfold csX
  rw[nokeys_app,nokeys_rq,nokeys]
  rfl
 show Ent.arr 5 (frzL K h (csX pre x post 1101)) ⟨b,!nokeys (frzL K h (csX pre x post 1101))⟩=_
 rw[e,e2]
 rfl
theorem update2_q (l:List Rq) (id:Int) (w:List (Int×Int)) (now:Int) (hv:RqV l) (hw:w.length≤1000) (n0:0≤now) (n1:now≤1073741824):
  CallSim Tryz.prog 134 [slA rqA l,iA id,slA wnA w,iA now] [] (.tup [slA rqA (if updE l id w now=0 then updF l id w now else []),iA (updE l id w now)]) []:=by
 have h4:=hv.n4
 have hlw:=map_len wnA w
 have c1:=qvalid2_c l 4 hv (by omega)
 have c2:=within19_c now 0 1073741824
 rw[decide_eq_true ⟨n0,n1⟩]at c2
 cases hh:hasQ l id with
 | false=>
  have c3:=copy2_q l (by omega) (fun r hr=>by have:=hv.lg3 hr;omega)
  have e:updE l id w now=12:=if_neg (by rw[hh];decide)
  have hno:∀r∈l,r.id≠id:=by simpa [hasQ]using hh
  have hl:=map_len rqA l
  rw[e,if_neg (by decide)]
  clear hh e
  (refine eN Tryz.func134 Tryz.call134 fun F hF=>?_)
  (have zc1:=c1;have zc2:=c2;have zc3:=c3;refine WW ?_;clear zc1 zc2 zc3)
  (refine sim_cnt (l.length) [] [] [1,2,3,10,27,28] [29,1,2,3,10,27,28] rfl (fun i T U=>⟨(29,iA i)::T,U⟩) ?_;(conv=>whnf);refine⟨by rfl,?_,?_⟩)
  ·intro i hi
   have hy:=map_at rqA l i hi
   have hm:=hno (l.getD i default) (by simp[List.getD,hi])
   generalize l.getD i default=r at*
   (refine WW ?_)
   rfl
  ·(refine WW ?_)
   exact fr0
 |true=>
 obtain⟨pre,x,post,hL,hx,hpn,hf,_⟩:=fdQ_split hh
 have hup:=updF_at (w:=w) (now:=now) hL hv hx
 have e0:updE l id w now=if w.length=x.legs.length∧wokF x.legs w now=true then 0 else 8:=by unfold updE;rw[if_pos hh,hf]
 have hlen:l.length=pre.length+1+post.length:=by rw[hL];simp;omega
 have hxl:=hv.lg3 (r:=x) (by rw[hL];simp)
 have c4:=copy_at pre x post l hL (by omega) (fun r hr=>by have:=hv.lg3 hr;omega)
 have hcl:=csX_len pre x post 1101
 have hfr:=fun h=>csX_frz h pre x post true
 have hfr2:=fun h=>csX_frzK [12,1001,1101] rfl h pre x post true
 have hat:(csX pre x post 1101)[pre.length]? =some (rqO x 1101):=by unfold csX;simp
 have hbef:∀i,i<pre.length→∃r:Rq,r.id≠id∧(csX pre x post 1101)[i]? =some (rqA r):=fun i hi=>by
  refine⟨pre[i],hpn _ (List.getElem_mem hi),?_⟩
  unfold csX
  rw[List.getElem?_append_left (by simpa using hi)]
  simp[hi]
 have hfin:=fun h gs=>csX_fin (h:=h) (pre:=pre) (post:=post) (x:=x) (b:=true) (gs:=gs)
 have hlx:=map_len lgA x.legs
 generalize csX pre x post 1101=cs at*
 clear hL hv hf hh hpn
 (refine eN Tryz.func134 Tryz.call134 fun F hF=>?_)
 (have zc1:=c1;have zc2:=c2;have zc3:=c4;refine WW ?_;clear zc1 zc2 zc3)
 refine sim_loop_r (fun n st=>∃i,n+i=pre.length∧st=(⟨[(29,iA i),(1,iA id),(2,slA wnA w),(3,iA now),(10,.ref 1001 0 cs.length),(27,.ref 1001 0 cs.length),(28,iA cs.length)],[(1001,.arr 5 cs ⟨true,true⟩),(1101,lgE x)]⟩:St)) pre.length [1001,1101] [29,1,2,3,10,27,28] rfl ⟨0,by omega,?_⟩ ?_
 ·refine congrArg (St.mk _) ?_
  show [(1001,frzE [1001,1101] _ (.arr 5 cs ⟨true,true⟩)),(1101,lgE x)]=_
  rw[hfr]
 rintro n st ⟨i,hi,rfl⟩
 by_cases hil:i<pre.length
 ·obtain⟨r,hr,hy⟩:=hbef i hil
  clear hfin hbef hat
  (refine WW ?_)
  refine⟨n-1,by omega,i+1,by omega,?_⟩
  refine congrArg (St.mk _) ?_
  show [(1001,frzE [1001,1101] _ (.arr 5 cs ⟨true,true⟩)),(1101,lgE x)]=_
  rw[hfr]
 obtain rfl:i=pre.length:=by omega
 clear hbef hfr hi
 have hat2:cs[((pre.length:Int)).toNat]? =some (rqO x 1101):=hat
 by_cases hwl:w.length=x.legs.length
 case neg=>
  rw[if_neg (fun h=>hwl h.1)]at e0
  rw[e0,if_neg (by decide)]
  clear hfin
  (refine WW ?_)
  exact fr0
 (refine WW ?_)
 refine sim_loop_r (fun n st=>∃i,n+i=x.legs.length∧(∀j,j<i→okW now (x.legs.getD j default) (w.getD j default)=true)∧st=(⟨[(46,iA i),(3,iA now),(10,.ref 1001 0 cs.length),(11,iA pre.length),(12,.ptr 12 0 0),(44,slA wnA w),(45,iA (w.map wnA).length)],[(12,.box [iA x.id,iA x.vh,iA x.cls,iA x.til,.ref 1101 0 (x.legs.map lgA).length]),(1001,.arr 5 cs ⟨true,true⟩),(1101,.arr 5 ((upN x.legs w now i).map lgA) false)]⟩:St)) x.legs.length [12,1001,1101] [46,3,10,11,12,44,45] rfl ⟨0,by omega,fun j hj=>absurd hj (Nat.not_lt_zero _),?_⟩ ?_
 ·rw[upN_0]
  refine congrArg (St.mk _) ?_
  show [(12,.box [iA x.id,iA x.vh,iA x.cls,iA x.til,.ref 1101 0 (x.legs.map lgA).length]),(1001,frzE [12,1001,1101] _ (.arr 5 cs ⟨true,true⟩)),(1101,lgE x)]=_
  rw[hfr2]
  rfl
 rintro n st ⟨i,hi,hok,rfl⟩
 by_cases hil:i<x.legs.length
 ·have hul:=upN_len (i:=i) (now:=now) hwl (by omega)
  have hlu:=map_len lgA (upN x.legs w now i)
  have hy2:=map_at wnA w i (by omega)
  have hy:=upN_at (now:=now) hwl hil
  have hst:=upN_set (now:=now) hwl hil
  have c5:=wmake2_c (x.legs.getD i default).jn (x.legs.getD i default).ph (w.getD i default).1 (w.getD i default).2 now
  cases hb:okW now (x.legs.getD i default) (w.getD i default)with
  |false=>
   have hno:=wok_no hwl hil hb
   rw[if_neg (fun h=>by rw[hno]at h;cases h.2)]at e0
   rw[e0,if_neg (by decide)]
   unfold okW at hb
   unfold mwF at c5
   rw[hb,if_neg Bool.false_ne_true,if_neg Bool.false_ne_true]at c5
   clear hok hfin hup hno hst
   generalize x.legs.getD i default=g at*
   generalize w.getD i default=q at*
   generalize (upN x.legs w now i).map lgA=ys at*
   (have zc1:=c5;refine WW ?_;clear zc1)
   exact fr0
  | true=>
   have hok2:∀j,j<i+1→okW now (x.legs.getD j default) (w.getD j default)=true:=fun j hj=>by
    by_cases hji:j=i
    ·rw[hji];exact hb
    ·exact hok j (by omega)
   unfold okW at hb
   unfold mwF at c5
   rw[hb,if_pos rfl,if_pos rfl]at c5
   clear hok hfin hup e0 hb
   generalize x.legs.getD i default=g at*
   generalize w.getD i default=q at*
   generalize (upN x.legs w now i).map lgA=ys at*
   (have zc1:=c5;refine WW ?_;clear zc1)
   refine⟨n-1,by omega,i+1,by omega,hok2,?_⟩
   refine congrArg (St.mk _) ?_
   show [(12,.box [iA x.id,iA x.vh,iA x.cls,iA x.til,.ref 1101 0 (x.legs.map lgA).length]),(1001,frzE [12,1001,1101] _ (.arr 5 cs ⟨true,true⟩)),(1101,.arr 5 (ys.set i (lgA (nwL now g q))) false)]=_
   rw[hfr2,hst]
 ·obtain rfl:i=x.legs.length:=by omega
  have hul:=upN_len (i:=x.legs.length) (now:=now) hwl (Nat.le_refl _)
  have hyes:=wok_all hwl hok
  rw[if_pos ⟨hwl,hyes⟩]at e0
  rw[e0,if_pos rfl,hup]
  rw[upN_all hwl]at hul⊢
  generalize x.legs.zipWith (nwL now) w=gs at*
  (refine WW ?_)
  refine fin_ret [] rfl rfl ?_ rfl
  show AV.tup [wkV (frzV [] _ (.ref 1001 0 cs.length)),iA 0]=_
  rw[hfin _ gs rfl rfl hul]
  rfl
end
end Av
end Go.Proofs.YtaikgchmpieooaaGreat
