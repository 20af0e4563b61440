/- Part 45: contracts of the functions, and what they rest upon. -/
import Derived.Test.YtaikgchmpieooaaGreatP44
import Derived.Test.YtaikgchmpieooaaGreatP16
import Derived.Test.YtaikgchmpieooaaGreatP14
namespace Go.Proofs.YtaikgchmpieooaaGreat
namespace Av
set_option linter.unusedSimpArgs false
set_option linter.unusedVariables false
section
set_option maxRecDepth 4000
set_option maxHeartbeats 8000000
def dskL (x:Dsk):List AV:=[iA x.rg.num,slA yA x.rg.ag.sec,iA x.rg.ag.rights,iA x.rg.ag.cls,slA iA x.rg.ag.lim,iA x.rg.ag.req,iA x.rg.ag.ses,iA x.rg.ag.rate,iA x.rg.ag.burst,slA tkA x.rg.tk,slA vhA x.rg.vh,iA x.rg.bk.level,iA x.rg.bk.rate,iA x.rg.bk.burst,slA rqA x.rq,slA sYA x.dr,slA bA x.au]
def tkT (d:Dsk) (R:List (List Ms)) (E:List En) (K:List Int):AV:= .tup [dskA d,slA rlA R,slA enB E,slA iA K]
theorem set_same {xs:List AV} {i:Nat} {y:AV} (h:xs[i]? =some y):xs.set i y=xs:=by
 apply List.ext_getElem?
 intro j
 rw[List.getElem?_set]
 by_cases he:i=j
 ·subst he
  have hi:=(List.getElem?_eq_some_iff.1 h).1
  rw[if_pos rfl,if_pos hi,h]
 ·rw[if_neg he]
theorem tk_up (g:Nat→Bool→Bool) (l:List Bool) (k:Nat):List.take (l.map bA).length (List.drop 0 ((upL g l k).map bA))=(upL g l k).map bA:=by
 rw[List.drop_zero]
 exact List.take_of_length_le (by rw[List.length_map,List.length_map,upL_len];exact Nat.le_refl _)
theorem tk_upn {g:Nat→Bool→Bool} {l:List Bool} {k n:Nat} (h:l.length=n):List.take n (List.drop 0 ((upL g l k).map bA))=(upL g l k).map bA:=by
 rw[List.drop_zero]
 exact List.take_of_length_le (by rw[List.length_map,upL_len,h];exact Nat.le_refl _)
theorem tick2_c {c:Cf} {d:Dsk} (hI:DskI c d) (ins:List In) (hil:ins.length≤1000) (hin:∀i∈ins,InB i) (now:Int) (n0:0≤now) (n1:now≤1073741824) (zF:Nat→SS) (hz0:zF 0=⟨dkU d ins,[],[],[]⟩)
  (hz:∀s,TI' c (dkU d ins) (zF s).d∧((zF s).R.length=s∧(zF s).en.length≤1000*s∧(zF s).ks.length≤1000*s∧∀x∈(zF s).ks,0≤x∧x<(c.js.length:Int))∧SeR c now ins s (zF s) (zF (s+1))):
  CallSim Tryz.prog 35 [cfA c,dskA d,slA inA ins,iA now] [] (tkT (dkM (zF d.au.length).d now) (zF d.au.length).R (zF d.au.length).en (zF d.au.length).ks) []:=by
 have hau:1≤d.au.length∧d.au.length≤2:=by have:=hI.au;have:=hI.a.e;omega
 have kc:=copyDesk_o d hI.bd
 have hal:=map_len bA d.au
 have hinl:=map_len inA ins
 have km:=mark2_c (zF d.au.length).d.rq now (hz d.au.length).1.i.v
 have cfe:cfA c= .agg [.sl false (c.js.map jnA),.sl false (c.ags.map agA),iA c.per,iA c.cap,iA c.hold,iA c.lock]:=rfl
 have dse:∀d:Dsk,dskA d= .agg (dskL d):=fun _=>rfl
 rw[cfe]
 unfold dskO dskA dskX at kc
 have e0:=upL_zero (auG ins) d.au
 (refine eN Tryz.func35 Tryz.call35 fun F hF=>?_)
 (have zc1:=kc;refine WW ?_;clear zc1)
 (refine sim_cnt (d.au.length) [1004,4,5,8,12] [4,5,8,12] [2,3,4,5,8,12,13,14,15,29] [30,2,3,4,5,8,12,13,14,15,29] rfl (fun i T U=>⟨(30,iA i)::T,(1004,.arr 1 ((upL (auG ins) d.au i).map bA) false)::U⟩) ?_;(conv=>whnf);refine⟨by(rw[e0];rfl),?_,?_⟩)
 ·intro i hi
  have hya:((upL (auG ins) d.au i).map bA)[i]? =some (bA (d.au.getD i default)):=by rw[List.getElem?_map,upL_get,if_pos hi,if_neg (Nat.lt_irrefl i)];rfl
  have hxl:((upL (auG ins) d.au i).map bA).length=d.au.length:=by rw[List.length_map,upL_len]
  rw[upL_mapset bA (auG ins) d.au i hi]
  have hsame:=set_same hya
  generalize (upL (auG ins) d.au i).map bA=xs at*
  generalize d.au.getD i default=b9 at*
  unfold auG
  by_cases h1:i<ins.length
  ·have hy:=map_at inA ins i h1
   generalize ins.getD i default=x at*
   obtain⟨op,its⟩:=x
   rw[show inA ⟨op,its⟩= .agg [bA op,slA itA its]from rfl]at hy
   cases op
   ·rw[if_neg (fun h=>by cases h.2)]
    (refine WW ?_)
    rfl
   ·rw[if_pos ⟨h1,rfl⟩,hsame]
    (refine WW ?_)
    rfl
  ·rw[if_neg (fun h=>h1 h.1)]
   (refine WW ?_)
   rfl
 ·(refine WW ?_)
  refine sim_restrC [4,8,12] [2,3,4,8,12,13,14,15,52,53] rfl ?_
  (conv=>whnf)
  rw[tk_up]
  refine sim_virt 13 1001 1 rfl rfl rfl ?_
  refine sim_virt 14 1002 3 rfl rfl rfl ?_
  refine sim_virt 15 1003 1 rfl rfl rfl ?_
  (refine sim_cnt (d.au.length) [12,1001,1002,1003,4,8] [4,8] [2,3,4,8,12,52] [13,14,15,53,2,3,4,8,12,52] rfl (fun i T U=>⟨(13,.ref 1001 0 ((zF i).R.map rlA).length)::(14,.ref 1002 0 ((zF i).en.map enB).length)::(15,.ref 1003 0 ((zF i).ks.map iA).length)::(53,iA i)::T,(12,.box (dskL (zF i).d))::(1001,.arr 1 ((zF i).R.map rlA) true)::(1002,.arr 3 ((zF i).en.map enB) true)::(1003,.arr 1 ((zF i).ks.map iA) true)::U⟩) ?_;(conv=>whnf);refine⟨by(rw[hz0];rfl),?_,?_⟩)
  ·intro s hs
   obtain⟨hT,⟨hb1,hb2,hb3,_⟩,zf,hf0,hfs,hfl,hnx⟩:=hz s
   have hle:(zF s).R.length≤2:=by omega
   have hle2:(zF s).en.length≤2000:=by omega
   have hle3:(zF s).ks.length≤2000:=by omega
   rw[hnx]
   dsimp only
   clear hz0 hz km kc hb1 hb2 hb3
   have hl1:=map_len rlA (zF s).R
   have hl2:=map_len enB (zF s).en
   have hl3:=map_len iA (zF s).ks
   by_cases ho:s<ins.length∧(ins.getD s default).opn=true
   ·have hse:seI ins s=(ins.getD s default).its:=by unfold seI;rw[if_pos ho]
    have hib:=(seI_b hin s).1
    rw[hse]at hfs hib⊢
    have hy:=map_at inA ins s ho.1
    obtain⟨ho1,ho2⟩:=ho
    generalize ins.getD s default=x at*
    obtain⟨op,its⟩:=x
    dsimp only at*
    subst ho2
    rw[show inA ⟨true,its⟩= .agg [bA true,slA itA its]from rfl]at hy
    have hil2:=map_len itA its
    have hapR:∀y:List Ms,((zF s).R++[y]).map rlA=(zF s).R.map rlA++[rlA y]:=fun y=>by simp
    rw[hapR]
    clear hapR hnx hse
    (repeat' (first|refine WZ ?_|refine SG (I2 (fun hc=>?_) (fun hc=>?_))|refine SG (fun hc=>?_)|(refine is_ops ?_;refine is_call ?_;fail)|(refine is_ops ?_;first|refine SM ?_)|first|refine SV ?_|refine SK (I2 (fun hc=>?_) (fun hc=>?_))|refine SK (fun hc=>?_)|fail))
    refine sim_block ?_
    (repeat' (first|refine WZ ?_|refine SG (I2 (fun hc=>?_) (fun hc=>?_))|refine SG (fun hc=>?_)|(refine is_ops ?_;refine is_call ?_;fail)|(refine is_ops ?_;first|refine SM ?_)|refine SQ ?_|fail))
    refine sim_virt 18 1006 4 rfl rfl rfl ?_
    (refine WW ?_)
    (refine sim_rng (its) [12,1002,1003,1006,4,8,1001] [4,8,1001] [2,3,4,8,12,13,17,52,53,71,72] [14,15,18,73,2,3,4,8,12,13,17,52,53,71,72] rfl (fun i pre T U=>⟨(14,.ref 1002 0 ((zf i).en.map enB).length)::(15,.ref 1003 0 ((zf i).ks.map iA).length)::(18,.ref 1006 0 ((zf i).rs.map msA).length)::(73,iA i)::T,(12,.box (dskL (zf i).d))::(1002,.arr 3 ((zf i).en.map enB) true)::(1003,.arr 1 ((zf i).ks.map iA) true)::(1006,.arr 4 ((zf i).rs.map msA) true)::U⟩) ?_;(conv=>whnf);refine⟨by(rw[hf0];rfl),?_,?_⟩)
    ·intro k pre it post hx hk
     have hy3:=rng_at itA hx hk
     have hlt3:=rng_lt hx hk
     have hgt:its.getD k default=it:=by rw[hx,←hk];simp[List.getD]
     obtain⟨h,hB,hP,hnx⟩:=hfs k hlt3
     rw[hgt]at hB
     obtain⟨hk1,hk2,hk3,hk4⟩:=hfl k
     have hm1:=map_len enB (zf k).en
     have hm2:=map_len iA (zf k).ks
     have hm3:=map_len msA (zf k).rs
     have kh:=hB.2.1
     rw[hnx]
     dsimp only
     rw[show((zf k).rs++[h.p]).map msA=(zf k).rs.map msA++[msA h.p] by simp,show∀e:En,((zf k).en++[e]).map enB=(zf k).en.map enB++[enB e]from fun e=>by simp,hgt]
     rw[cfe]at kh
     unfold hdT dskA dskX itA at kh
     unfold itA at hy3
     clear hx hgt hnx hfs hfl hB hP hT
     generalize (zf k).rs.map msA=rs9 at*
     generalize (zf k).en.map enB=en9 at*
     generalize h.p=p9 at*
     generalize h.e=e9 at*
     generalize h.d=d9 at*
     generalize hkk:h.k=k9 at*
     generalize (zf k).d=dk9 at*
     obtain⟨pk,pt,pa,pd⟩:=p9
     unfold msA enA at kh
     dsimp only at kh
     unfold dskL enB enA msA
     by_cases h0:0≤k9
     ·rw[if_pos h0,show((zf k).ks++[k9]).map iA=(zf k).ks.map iA++[iA k9] by simp]
      generalize (zf k).ks.map iA=ks9 at*
      (have zc1:=kh;refine WW ?_;clear zc1)
      rfl
     ·rw[if_neg h0]
      generalize (zf k).ks.map iA=ks9 at*
      (have zc1:=kh;refine WW ?_;clear zc1)
      rfl
    ·(repeat' (first|refine WZ ?_|refine SG (I2 (fun hc=>?_) (fun hc=>?_))|refine SG (fun hc=>?_)|(refine is_ops ?_;refine is_call ?_;fail)|(refine is_ops ?_;first|refine SM ?_)|refine SQ ?_|fail))
     refine sim_restrC [4,8,12,1001,1002,1003] [2,3,4,8,12,13,14,15,18,52,53,74] rfl ?_
     (conv=>whnf)
     simp only[List.drop_zero,List.take_length]
     have hl4:((zf its.length).rs.map msA).length≤2000:=by rw[List.length_map];have:=(hfl its.length).2.1;omega
     rw[show rlA (zf its.length).rs= .sl false ((zf its.length).rs.map msA)from rfl]
     clear hfs hfl hT hf0
     generalize zf its.length=zl at*
     (refine WW ?_)
     rfl
   ·have hse:seI ins s=[]:=by unfold seI;rw[if_neg ho]
    rw[hse,List.length_nil,hf0]
    dsimp only
    have hap:((zF s).R++[([]:List Ms)]).map rlA=(zF s).R.map rlA++[rlA []]:=by rw[List.map_append];rfl
    rw[hap]
    clear hse hfs hfl hf0 hnx hT hap
    generalize (zF s).R.map rlA=r9 at*
    generalize (zF s).en.map enB=en9 at*
    generalize (zF s).ks.map iA=ks9 at*
    generalize (zF s).d=dk9 at*
    unfold dskL
    by_cases h1:s<ins.length
    ·have hy:=map_at inA ins s h1
     have ho:(ins.getD s default).opn=false:=by
      cases h:(ins.getD s default).opn with
      |false=>rfl
      |true=>exact absurd ⟨h1,h⟩ ho
     generalize ins.getD s default=x at*
     obtain⟨op,its⟩:=x
     dsimp only at ho
     subst ho
     rw[show inA ⟨false,its⟩= .agg [bA false,slA itA its]from rfl]at hy
     (repeat' (first|refine WZ ?_|refine SG (I2 (fun hc=>?_) (fun hc=>?_))|refine SG (fun hc=>?_)|(refine is_ops ?_;refine is_call ?_;fail)|(refine is_ops ?_;first|refine SM ?_)|first|refine SV ?_|refine SK (I2 (fun hc=>?_) (fun hc=>?_))|refine SK (fun hc=>?_)|fail))
     refine sim_block ?_
     (repeat' (first|refine WZ ?_|refine SG (I2 (fun hc=>?_) (fun hc=>?_))|refine SG (fun hc=>?_)|(refine is_ops ?_;refine is_call ?_;fail)|(refine is_ops ?_;first|refine SM ?_)|refine SQ ?_|fail))
     refine sim_wk 18 rfl rfl rfl ?_
     (refine WW ?_)
     rfl
    ·(repeat' (first|refine WZ ?_|refine SG (I2 (fun hc=>?_) (fun hc=>?_))|refine SG (fun hc=>?_)|(refine is_ops ?_;refine is_call ?_;fail)|(refine is_ops ?_;first|refine SM ?_)|first|refine SV ?_|refine SK (I2 (fun hc=>?_) (fun hc=>?_))|refine SK (fun hc=>?_)|fail))
     refine sim_block ?_
     (repeat' (first|refine WZ ?_|refine SG (I2 (fun hc=>?_) (fun hc=>?_))|refine SG (fun hc=>?_)|(refine is_ops ?_;refine is_call ?_;fail)|(refine is_ops ?_;first|refine SM ?_)|refine SQ ?_|fail))
     refine sim_wk 18 rfl rfl rfl ?_
     (refine WW ?_)
     rfl
  ·generalize hFn:zF d.au.length=Fn at*
   unfold dskL
   (have zc1:=km;refine WW ?_;clear zc1)
   refine fin_ret [] rfl rfl ?_ rfl
   show AV.tup [dskA (dkM Fn.d now),.sl false (List.take _ (List.drop 0 (Fn.R.map rlA))),.sl false (List.take _ (List.drop 0 (Fn.en.map enB))),.sl false (List.take _ (List.drop 0 (Fn.ks.map iA)))]=_
   simp only[List.drop_zero,List.take_length]
   rfl
end
section
section
variable {P:Program} {K0:List Nat} {F:Fr K0} {m:Nat} {tm:List (Nat×AV)} {h:List (Nat×Ent)}
theorem RelS.recell {a:Act} {w:World} (R:RelS F m ⟨tm,h⟩ a w) (k i K:Nat) {xs ys:List AV} {sb:Bool} {sz2:Nat} {fl2:Fl} (hk:lookE h k=some (.arr 1 xs ⟨sb,true⟩)) (hv:xs[i]? =some (.s (.slice none 0 0))) (hK:lookE h K=some (.arr sz2 ys fl2)) (hne:K≠k):
  RelS F m ⟨tm,(k,.arr 1 (xs.set i (.ref K 0 0)) ⟨sb,true⟩)::h⟩ a w:=by
 obtain⟨⟨X,β,hX,H,Ht,KK,hJ,hD⟩,nd,gs,hl⟩:=R
 have hh':∀j,j≠k→lookE ((k,.arr 1 (xs.set i (.ref K 0 0)) ⟨sb,true⟩)::h) j=lookE h j:=fun j hj=>by rw[lookE_cons,if_neg hj]
 have hhk:lookE ((k,.arr 1 (xs.set i (.ref K 0 0)) ⟨sb,true⟩)::h) k=some (.arr 1 (xs.set i (.ref K 0 0)) ⟨sb,true⟩):=by rw[lookE_cons,if_pos rfl]
 have hlen:(xs.set i (.ref K 0 0)).length=xs.length:=List.length_set
 have E:Evo w (Dom X β) (lookE h) β w (Dom X β) (lookE ((k,.arr 1 (xs.set i (.ref K 0 0)) ⟨sb,true⟩)::h)) β:=⟨Nat.le_refl _,fun b _ hd=>⟨rfl,hd⟩,fun _ _ _ _=>rfl,fun j e he=>by
  by_cases hj:j=k
  ·subst hj
   rw[hk]at he
   cases he
   exact .inr ⟨⟨xs.set i (.ref K 0 0),⟨sb,true⟩,hhk,by rw[hlen];exact Nat.le_refl _⟩,fun b n hm=>⟨n,Nat.le_refl _,hm⟩⟩
  ·have:=keyRefl (lookE h) β j e he
   rcases this with h1|h1
   ·exact .inl (by rw[hh' j hj];exact h1)
   ·refine .inr ?_
    cases e with
    |dead=>exact h1
    |box cs=>obtain⟨⟨cs',h2⟩,h3⟩:=h1;exact⟨⟨cs',by rw[hh' j hj];exact h2⟩,h3⟩
    |arr sz' xs' st'=>obtain⟨⟨x2,s2,h2,h3⟩,h4⟩:=h1;exact⟨⟨x2,s2,by rw[hh' j hj];exact h2,h3⟩,h4⟩⟩
 have H':HOK X (lookE ((k,.arr 1 (xs.set i (.ref K 0 0)) ⟨sb,true⟩)::h)) β w:=by
  refine⟨fun j e he=>?_,fun j hj=>?_,H.disj,H.free,H.lt⟩
  ·by_cases hj:j=k
   ·subst hj
    rw[hhk]at he
    cases he
    obtain⟨e1,e2,e3,e4,e5,f,e6,e7,e8⟩:=H.ent j _ hk
    refine⟨e1,by rw[hlen];exact e2,fun hx=>e3 fun h0=>hx (by rw[h0];rfl),fun i' x hx=>?_,fun b n r hr=>by rw[hlen];exact e5 b n r hr,f,fun i' x l v hx hv'=>⟨?_,fun h=>by cases h⟩,fun i' j' h1 h2=>e7 i' j' (by rw[←hlen];exact h1) h2,e8⟩
    ·rw[List.getElem?_set]at hx
     split at hx
     ·split at hx
      ·cases hx;rfl
      ·cases hx
     ·exact e4 i' x hx
    ·rw [List.getElem?_set]at hx
     split at hx
     ·rename_i hij
      subst hij
      split at hx
      ·cases hx
       cases l with
       |zero=>
        have hv2:v= .ref K 0 0:=by simpa [AV.cells]using hv'.symm
        subst hv2
        have h6:=e6.toV i _ 0 _ hv rfl
        rw[h6.s_inv]
        exact .ref0 K 0 sz2 ys fl2 none (by rw[hh' K hne];exact hK) (Nat.zero_le _)
       |succ l=>simp[AV.cells]at hv'
      ·cases hx
     ·exact(e6.toV i' x l v hx hv').evo E
   ·rw[hh' j hj]at he
    exact(H.ent j e he).evo E rfl fun _ _ _=>rfl
  ·rw[lookE_cons]at hj
   split at hj
   ·cases hj
   ·exact H.off j hj
 refine⟨⟨X,β,hX,H',fun t=>(Ht t).evo E,⟨fun j e he=>?_,KK.size,KK.keep,KK.own,KK.pas,KK.bs,KK.os,KK.tape,KK.output⟩,hJ,hD⟩,fun j=>?_,gs,hl⟩
 ·have:=KK.knd j e he
  by_cases hj:j=k
  ·subst hj
   cases e with
   |dead=>exact this
   |box cs=>obtain⟨cs',h2⟩:=this;(try dsimp only at h2);rw[hk]at h2;cases h2
   |arr sz' xs' sl'=>obtain⟨xs2,sl2,h2,h3⟩:=this;(try dsimp only at h2);rw[hk]at h2;cases h2;exact⟨_,_,hhk,by rw[hlen];exact h3⟩
  ·cases e with
   |dead=>exact this
   |box cs=>obtain⟨cs',h2⟩:=this;exact⟨cs',by dsimp only;rw[hh' j hj];exact h2⟩
   |arr sz' xs' sl'=>obtain⟨xs2,sl2,h2,h3⟩:=this;exact⟨xs2,sl2,by dsimp only;rw[hh' j hj];exact h2,h3⟩
 ·dsimp only
  by_cases hj:j=k
  ·subst hj;rw[hhk];intro hd;cases hd
  ·rw[hh' j hj];exact nd j
theorem sim_recell {c:Code} {Q:Exit→St→Prop} (k i K:Nat) {xs xs' ys:List AV} {sb:Bool} {sz2:Nat} {fl2:Fl} (hk:lookE h k=some (.arr 1 xs ⟨sb,true⟩)) (hv:xs[i]? =some (.s (.slice none 0 0))) (hK:lookE h K=some (.arr sz2 ys fl2)) (hne:Nat.beq K k=false) (he:xs.set i (.ref K 0 0)=xs')
  (hs:Sim P F m c ⟨tm,(k,.arr 1 xs' ⟨sb,true⟩)::h⟩ Q):Sim P F m c ⟨tm,h⟩ Q:=
 ⟨fun a w R=>hs.run a w (he▸R.recell k i K hk hv hK (fun e=>by rw[e,Nat.beq_refl]at hne;cases hne))⟩
end
end
end Av
end Go.Proofs.YtaikgchmpieooaaGreat
