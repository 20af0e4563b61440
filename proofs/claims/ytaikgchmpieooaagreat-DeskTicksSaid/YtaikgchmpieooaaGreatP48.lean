/- Part 48: contracts of the functions, and what they rest upon. -/
import Derived.Test.YtaikgchmpieooaaGreatP46
import Derived.Test.YtaikgchmpieooaaGreatP47
import Derived.Test.YtaikgchmpieooaaGreatP30
import Derived.ChangeArms
import Derived.DataReads
namespace Go.Proofs.YtaikgchmpieooaaGreat
namespace Av
set_option linter.unusedSimpArgs false
set_option linter.unusedVariables false
section
set_option maxRecDepth 4000
set_option maxHeartbeats 4000000
theorem sameall_c (l:List Ms) (hn:l.length≤1000000) (hb:∀m∈l,MsB m):CallSim Tryz.prog 36 [slA msA l,slA msA l] [] (bA true) []:=by
 have hl:=map_len msA l
 (refine eN Tryz.func36 Tryz.call36 fun F hF=>?_)
 (refine WW ?_)
 (refine sim_rng (l) [] [] [1,12,13] [14,1,12,13] rfl (fun i pre T U=>⟨(14,iA i)::T,U⟩) ?_;(conv=>whnf);refine⟨by rfl,?_,?_⟩)
 ·intro i pre x post hx hi
  have hy:=rng_at msA hx hi
  have hlt:=rng_lt hx hi
  have ks:=msame_c x (hb x (rng_mem hx))
  clear hx
  unfold msA at hy ks
  (have zc1:=ks;refine WW ?_;clear zc1)
  rfl
 ·(refine WW ?_)
  exact fr0
def vwZ (n:Nat):Vw:=⟨true,false,List.replicate n 0,List.replicate n 0⟩
theorem vwZ_b {n:Nat} (h:n≤8):VwB (vwZ n):=⟨by simp[vwZ];exact h,by simp[vwZ];exact h,fun c hc=>by
 have:=(List.mem_replicate.1 hc).2
 omega⟩
theorem flash_c (j:Jn) (h:j.ph.length≤8):CallSim Tryz.prog 37 [jnA j] [] (viA (vwZ j.ph.length)) []:=by
 have hl:=map_len phA j.ph
 have hz:∀n,(List.replicate n (0:Int)).map iA=List.replicate n (iA 0):=fun n=>by simp
 rw[show viA (vwZ j.ph.length)= .agg [bA true,bA false,.sl false (List.replicate j.ph.length (iA 0)),.sl false (List.replicate j.ph.length (iA 0))] by unfold vwZ viA slA;rw[hz]]
 rw[←hl]
 unfold jnA slA
 generalize j.ph.map phA=P at*
 (refine eN Tryz.func37 Tryz.call37 fun F hF=>?_)
 (refine WW ?_)
 refine fin_ret [] rfl rfl ?_ rfl
 show AV.agg [bA true,bA false,.sl false (List.take P.length (List.drop 0 (List.replicate P.length (iA 0)))),.sl false (List.take P.length (List.drop 0 (List.replicate P.length (iA 0))))]=_
 rw[List.drop_zero,List.take_of_length_le (by simp)]
theorem run_ms {c:Cf} {s now:Int} {its:List It} {f:Nat→TS} {d:Dsk} (h0:(f 0).rs=[]) (hs:∀k,k<its.length→StR c s now (its.getD k default) (f k) (f (k+1))) (hd:∀k,TI' c d (f k).d):∀k,k≤its.length→∀m∈(f k).rs,MsB m
 |0,_,m,hm=>by rw[h0]at hm;cases hm
 | k+1,hk,m,hm=>by
  obtain⟨h,_,hP,hb⟩:=hs k (by omega)
  rw[hb]at hm
  rcases List.mem_append.1 hm with hm|hm
  ·exact run_ms h0 hs hd k (by omega) m hm
  ·rw[List.mem_singleton]at hm
   subst hm
   exact rp_b (hd k).i hP
theorem se_ms {c:Cf} {now:Int} {ins:List In} (hin:∀i∈ins,InB i) {s:Nat} {a b:SS} (h:SeR c now ins s a b) (ha:∀l∈a.R,l.length≤1000∧∀m∈l,MsB m):∀l∈b.R,l.length≤1000∧∀m∈l,MsB m:=by
 obtain⟨f,h0,h1,h2,h3⟩:=h
 intro l hl
 rw[h3]at hl
 rcases List.mem_append.1 hl with hl|hl
 ·exact ha l hl
 ·rw[List.mem_singleton]at hl
  subst hl
  refine⟨by rw[(h2 _).2.1];exact(seI_b hin s).1,run_ms (by rw[h0]) h1 (fun k=>(h2 k).1) _ (Nat.le_refl _)⟩
theorem ses_ms {c:Cf} {now:Int} {ins:List In} (hin:∀i∈ins,InB i) {zF:Nat→SS} (h0:(zF 0).R=[]) (hz:∀s,SeR c now ins s (zF s) (zF (s+1))):∀s,∀l∈(zF s).R,l.length≤1000∧∀m∈l,MsB m
 |0,l,hl=>by rw[h0]at hl;cases hl
 |s+1,l,hl=>se_ms hin (hz s) (ses_ms hin h0 hz s) l hl
theorem items_ex (c:Cf) (hc:CfW c) (g:Int) (hg:0≤g∧g<256) (d:Dk):∃(it:Nat→It) (e:Nat→Dk),e 0=d∧∀k,ItB (it k)∧CallSim Tryz.prog 15 [.ptr 1000 0 0,cfA c,iA g] [(1000,dkE (e k))] (itA (it k)) [(1000,dkE (e (k+1)))]:=by
 obtain⟨f,h0,hf⟩:=chain (fun _ (_:It×Dk)=>True) (fun _ (a b:It×Dk)=>ItB b.1∧CallSim Tryz.prog 15 [.ptr 1000 0 0,cfA c,iA g] [(1000,dkE a.2)] (itA b.1) [(1000,dkE b.2)])
  (fun _ a _=>by
   obtain⟨i,e,h1,_,h2⟩:=item_ex c hc g hg a.2
   exact⟨(i,e),⟨h1,h2⟩,trivial⟩) (default,d) trivial
 exact⟨fun k=>(f (k+1)).1,fun k=>(f k).2,by dsimp only;rw[h0],fun k=>(hf k).2⟩
end
section
def RepCells (w:World) (D:Nat→Prop) (vs:List AV) (cs:List Value):Prop:=
 vs.length=cs.length∧∀(i:Nat) v c,vs[i]? =some v→cs[i]? =some c→RepF w D v c∧c.oneCell'=true
def Reads {H:Type} (eh:TypeId×Value→H) (P:Program) (w:World) (t:TypeId) {α:Type} (enc:α→List AV) (B:α→Prop):Prop:=
 ∀fuel cs y,DataW.trod eh P w 0 (fun _=>true) true fuel t cs=some y→∃x,RepCells w (Dom (fun _=>False) fun _=>[]) (enc x) cs∧B x
section
variable {H:Type} {eh:TypeId×Value→H} {P:Program} {w:World} {t:TypeId}
theorem Reads.map {α β:Type} {enc:α→List AV} {B:α→Prop} (h:Reads eh P w t enc B) {enc':β→List AV} {B':β→Prop} (g:α→β) (h1:∀a,enc' (g a)=enc a) (h2:∀a,B a→B' (g a)):Reads eh P w t enc' B':=fun fuel cs y hy=>by
 obtain⟨x,hx,hb⟩:=h fuel cs y hy
 exact⟨g x,by rw[h1];exact hx,h2 x hb⟩
inductive FR (eh:TypeId×Value→H) (P:Program) (w:World):Nat→Nat→List Field→(β:Type)→(β→List AV)→(β→Prop)→Prop
 |nil (off:Nat):FR eh P w off off [] Unit (fun _=>[]) (fun _=>True)
 |cons {off tot:Nat} {f:Field} {fs:List Field} {α β:Type} {enc:α→List AV} {B:α→Prop} {encs:β→List AV} {Bs:β→Prop} (k:Nat) (hr:Reads eh P w f.type enc B) (ho:f.offset=off) (hk:P.cellsOf f.type=k) (hl:∀x,(enc x).length=k) (hf:FR eh P w (off+k) tot fs β encs Bs):
  FR eh P w off tot (f::fs) (α×β) (fun p=>enc p.1++encs p.2) (fun p=>B p.1∧Bs p.2)
theorem FR.le {off tot:Nat} {fs:List Field} {β:Type} {encs:β→List AV} {Bs:β→Prop} (h:FR eh P w off tot fs β encs Bs):off≤tot∧∀x,off+(encs x).length=tot:=by
 induction h with
 |nil off=>exact⟨Nat.le_refl _,fun _=>rfl⟩
 |cons k hr ho hk hl hf ih=>exact⟨by omega,fun x=>by have:=ih.2 x.2;have:=hl x.1;simp;omega⟩
theorem FR.reads {off tot:Nat} {fs:List Field} {β:Type} {encs:β→List AV} {Bs:β→Prop} (h:FR eh P w off tot fs β encs Bs) {n:Nat} {cs:List Value}
  (hx:∀(i:Nat) (f:Field),fs[i]? =some f→∃y,DataW.trod eh P w 0 (fun _=>true) true n f.type ((cs.drop f.offset).take (P.cellsOf f.type))=some y) (hlen:tot=cs.length):
  ∃x,RepCells w (Dom (fun _=>False) fun _=>[]) (encs x) (cs.drop off)∧Bs x:=by
 induction h with
 |nil off=>exact⟨(),⟨by simp;omega,fun i v c hv=>by simp at hv⟩,trivial⟩
 | @cons off tot f fs α β enc B encs Bs k hr ho hk hl hf ih=>
  obtain⟨y,hy⟩:=hx 0 f rfl
  obtain⟨x,⟨hxl,hxr⟩,hxB⟩:=hr _ _ _ hy
  have hb:=hf.le.1
  rw[ho,hk]at hxl hxr
  have hel:=hl x
  obtain⟨z,⟨hzl,hzr⟩,hzB⟩:=ih (fun i g hg=>hx (i+1) g (by simpa using hg)) hlen
  refine⟨(x,z),⟨by simp at hzl⊢;omega,fun i v c hv hc=>?_⟩,hxB,hzB⟩
  dsimp only at hv
  by_cases hi:i<k
  ·rw[List.getElem?_append_left (by omega)]at hv
   refine hxr i v c hv ?_
   rw[List.getElem?_take,if_pos hi]
   exact hc
  ·rw[List.getElem?_append_right (by omega),hel]at hv
   refine hzr (i-k) v c hv ?_
   rw[List.getElem?_drop]at hc⊢
   rw[←hc]
   congr 1
   omega
def one (agg:Bool) (vs:List AV):AV:=bif agg then .agg vs else vs.headD .bot
theorem Reads.agg {α:Type} {enc:α→List AV} {B:α→Prop} (h:Reads eh P w t enc B) {cs:Array Value} {d:DataW H} {ps:List MemPlace} (ht:DataW.Trod eh P w 0 (fun _=>true) true t (.agg cs) d ps):∃x,RepF w (Dom (fun _=>False) fun _=>[]) (.agg (enc x)) (.agg cs)∧B x:=by
 obtain⟨fuel,hf⟩:=ht
 obtain⟨x,⟨hl,hr⟩,hb⟩:=h _ _ _ hf
 have hl:(enc x).length=cs.size:=by simpa [Value.cells]using hl
 refine⟨x,.agg _ _ hl.symm (fun i hi=>?_) (fun i v hv=>?_),hb⟩
 ·have h1:i<(enc x).length:=by omega
  exact(hr i _ _ (List.getElem?_eq_getElem h1) (by simpa [Value.cells]using getD_eq cs i hi)).2
 ·have h1:=(List.getElem?_eq_some_iff.1 hv).1
  exact(hr i _ _ hv (by simpa [Value.cells]using getD_eq cs i (by omega))).1
theorem Reads.cell {α:Type} {enc:α→List AV} {B:α→Prop} (h:Reads eh P w t enc B) {v:Value} (hv:v.cells= #[v]) {d:DataW H} {ps:List MemPlace} (ht:DataW.Trod eh P w 0 (fun _=>true) true t v d ps):∃x,∀a,enc x=[a]→RepF w (Dom (fun _=>False) fun _=>[]) a v∧B x:=by
 obtain⟨fuel,hf⟩:=ht
 obtain⟨x,⟨hl,hr⟩,hb⟩:=h _ _ _ hf
 refine⟨x,fun a ha=>⟨(hr 0 a v (by rw[ha];rfl) (by rw[hv];rfl)).1,hb⟩⟩
end
end
end Av
end Go.Proofs.YtaikgchmpieooaaGreat
