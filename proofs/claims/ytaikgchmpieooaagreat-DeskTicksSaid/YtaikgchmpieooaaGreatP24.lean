/- Part 24: contracts of the functions, and what they rest upon. -/
import Derived.Test.YtaikgchmpieooaaGreatP20
import Derived.Test.YtaikgchmpieooaaGreatP23
namespace Go.Proofs.YtaikgchmpieooaaGreat
namespace Av
set_option linter.unusedSimpArgs false
set_option linter.unusedVariables false
section
section
variable {P:Program} {K0:List Nat} {F:Fr K0} {m:Nat}
def regOKC (l:List Oper) (n:Nat) (T:List Nat) (fs:List FP):Bool:=
 acyc l.toArray&&okT l.toArray T&&((List.range n).all fun j=>(List.range j).all fun i=>match l[i]?,l[j]?,fs[i]?,fs[j]? with
  |some oi,some oj,some fi,some fj=>bit T j i|| !clash l.toArray oi oj fi fj
  |_,_,_,_=>false)&&Nat.ble n l.length&&((List.range l.length).all fun j=>Nat.blt j n||(List.range j).all fun i=>bit T j i)
theorem sim_drawC {id:Nat} {l:List Oper} (n:Nat) {st st':St} {es:List Evt} {Q:Exit→St→Prop} (hm:P.follows .mixedOrders=true) (hT:Tr P m l.toArray (l.take n) st es st') (hC:regOKC l n (clos l) (es.map Evt.fp)=true) (hB:Ops P F m l.toArray (l.drop n) st' (Q .normal)):
  Sim P F m (.region id l.toArray true) st Q:=by
 refine⟨?_⟩
 intro a w H
 unfold regOKC at hC
 rw[Bool.and_eq_true,Bool.and_eq_true,Bool.and_eq_true,Bool.and_eq_true,List.all_eq_true,List.all_eq_true]at hC
 obtain⟨⟨⟨⟨hA,hTc⟩,hX⟩,hnl⟩,hY⟩:=hC
 have hnl:=Nat.le_of_ble_eq_true hnl
 generalize clos l=T at*
 have hlen:=hT.len
 rw[List.length_take,Nat.min_eq_left hnl]at hlen
 have hAl:∀(i:Nat) o,(l.take n)[i]? =some o→l[i]? =some o∧i<n:=fun i o h=>by
  have h1:i<n:=by
   have:=(List.getElem?_eq_some_iff.1 h).1
   rw[List.length_take]at this
   omega
  rw[List.getElem?_take_of_lt h1]at h
  exact⟨h,h1⟩
 have hbt:∀i j,n≤j→j<l.length→i<j→bit T j i=true:=fun i j h1 h2 h3=>by
  have:=hY j (List.mem_range.2 h2)
  rw[show Nat.blt j n=false by cases hb:Nat.blt j n with|false=>rfl|true=>exact absurd (Nat.le_of_ble_eq_true hb) (by omega),Bool.false_or,List.all_eq_true]at this
  exact this i (List.mem_range.2 h3)
 let R:=(l.take n).zipWith (fun o e=>(o.dst,e)) es
 have hR:∀(j:Nat) p,R[j]? =some p→∃o e,(l.take n)[j]? =some o∧es[j]? =some e∧p=(o.dst,e):=fun j p hp=>by
  simp only[R,List.getElem?_zipWith]at hp
  cases ho:(l.take n)[j]? with
  |none=>simp[ho]at hp
  |some o=>cases he:es[j]? with
   |none=>simp[ho,he]at hp
   |some e=>simp[ho,he]at hp;exact⟨o,e,rfl,rfl,hp.symm⟩
 have hcl:∀i j oi oj ei ej,i<j→(l.take n)[i]? =some oi→(l.take n)[j]? =some oj→es[i]? =some ei→es[j]? =some ej→clash l.toArray oi oj ei.fp ej.fp=true→bit T j i=true:=fun i j oi oj ei ej hij h1 h2 h3 h4 h5=>by
  have:=List.all_eq_true.1 (hX j (List.mem_range.2 (hAl j oj h2).2)) i (List.mem_range.2 hij)
  simp only[(hAl i oi h1).1,(hAl j oj h2).1,List.getElem?_map,h3,h4,Option.map_some,h5,Bool.not_true,Bool.or_false]at this
  simpa using this
 let QQ:Exit→Act→World→Prop:=fun e a' w'=>e= .normal∧∃s,Q .normal s∧RelS F m s a' w'
 let J0:Array Bool→Prop:=fun L=>L.size=l.toArray.size∧(∀i o,l.toArray[i]? =some o→lst L i=true→∀e∈o.after,binds e=true→lst L e.on=true)
 let JA:Array Bool→Act→World→Prop:=fun L a w=>J0 L∧(∀i,n≤i→lst L i=false)∧Rel F m (look (runL (lst L) 0 R st).tm) (lookE (runL (lst L) 0 R st).h) a w
 let JB:Array Bool→Act→World→Prop:=fun L a w=>J0 L∧∃k,(∀i,lst L i=decide (i<n+k))∧n+k≤l.length∧wpListIn (fen F.ro) 0 P l.toArray QQ (l.drop (n+k)) a w
 let J:Array Bool→Act→World→Prop:=fun L a w=>JA L a w∨JB L a w
 have hJ0:∀L a w,J L a w→J0 L:=fun L a w h=>h.elim (fun h=>h.1) (fun h=>h.1)
 have hAB:∀L a w,JA L a w→(∀i,i<n→lst L i=true)→JB L a w:=fun L a w hJ hall=>by
  refine⟨hJ.1,0,fun i=>?_,hnl,?_⟩
  ·by_cases h:i<n
   ·rw[hall i h];simp[h]
   ·rw[hJ.2.1 i (by omega)];simp[h]
  ·have:runL (lst L) 0 R st=st':=run_all (l.take n) es 0 st st' hT fun j hj=>by rw[Nat.zero_add];exact hall j (by rw[List.length_take]at hj;omega)
   have h2:=hJ.2.2
   rw[this]at h2
   exact hB a w h2
 have hend:∀L a w,(∀i,i<l.toArray.size→lst L i=true)→J L a w→QQ .normal a w:=fun L a w hall hJ=>by
  have hJB:JB L a w:=hJ.elim (fun h=>hAB L a w h fun i hi=>hall i (by simp;omega)) (fun h=>h)
  obtain⟨_,k,h1,h2,h3⟩:=hJB
  have hk:n+k=l.length:=by
   by_cases h:n+k<l.length
   ·have h4:=hall (n+k) (by simpa using h)
    rw[h1]at h4
    simp at h4
   ·omega
  rw[hk,List.drop_length]at h3
  exact h3
 have hcls:∀(L:Array Bool) i o,J0 L→l.toArray[i]? =some o→(∀e∈o.after,binds e=true→lst L e.on=true)→J0 (L.setIfInBounds i true):=fun L i o h0 ho hpre=>by
  obtain⟨hs,hdn⟩:=h0
  have hin:i<l.toArray.size:=(Array.getElem?_eq_some_iff.1 ho).1
  have hL':∀j,lst (L.setIfInBounds i true) j=if j=i then true else lst L j:=fun j=>lst_set L i j (by rw[hs];exact hin)
  refine⟨by simpa using hs,fun j oj hoj hlj ed hed hb=>?_⟩
  rw[hL']at hlj⊢
  by_cases hji:j=i
  ·subst hji
   rw[ho]at hoj
   cases hoj
   split
   ·rfl
   ·exact hpre ed hed hb
  ·rw[if_neg hji]at hlj
   split
   ·rfl
   ·exact hdn j oj hoj hlj ed hed hb
 have hstepB:∀L a w i,JB L a w→i∈Region.ready .any l.toArray L→∀K:Act→World→Prop,(∀a' w',J (L.setIfInBounds i true) a' w'→K a' w')→wpOpIn (fen F.ro) 0 P l.toArray QQ i K a w:=by
  intro L a w i hJ hi K hK
  obtain⟨h0,k,h1,h2,h3⟩:=hJ
  obtain⟨o,ho,hl,hpre⟩:=ready_mem h0.1 hi
  have hin:i<l.toArray.size:=(Array.getElem?_eq_some_iff.1 ho).1
  have hin':i<l.length:=by simpa using hin
  have hge:n+k≤i:=by
   rw[h1]at hl
   simpa using hl
  have hie:i=n+k:=by
   by_cases h:n+k<i
   ·have h5:=closed hA hTc h0.2 (i+1) i o (by omega) ho hpre (n+k) (hbt _ _ (by omega) hin' h)
    rw[h1]at h5
    simp at h5
   ·omega
  subst hie
  rw[List.drop_eq_getElem_cons hin']at h3
  have ho':l[n+k]'hin'=o:=by
   have:=(Array.getElem?_eq_some_iff.1 ho).2
   simpa using this
  rw[ho']at h3
  have hL':∀j,lst (L.setIfInBounds (n+k) true) j=if j=n+k then true else lst L j:=fun j=>lst_set L _ j (by rw[h0.1];exact hin)
  have hnx:∀a' w',wpListIn (fen F.ro) 0 P l.toArray QQ (l.drop (n+k+1)) a' w'→K a' w':=fun a' w' h=>by
   refine hK a' w' (.inr ⟨hcls L _ o h0 ho hpre,k+1,fun j=>?_,by omega,h⟩)
   rw[hL',h1]
   by_cases hj:j=n+k
   ·rw[if_pos hj];simp;omega
   ·rw[if_neg hj]
    by_cases hj2:j<n+k
    ·simp[hj2];omega
    ·simp[hj2];omega
  unfold wpOpIn
  rw[ho]
  dsimp only
  unfold wpListIn at h3
  split
  ·rename_i hw
   rw[if_pos hw]at h3
   exact Oper.wpIn_mono hnx h3
  ·rename_i hw
   rw[if_neg hw]at h3
   exact⟨h3.1,hnx _ _ h3.2⟩
 have hstep:∀L a w i,J L a w→i∈Region.ready .any l.toArray L→∀K:Act→World→Prop,(∀a' w',J (L.setIfInBounds i true) a' w'→K a' w')→wpOpIn (fen F.ro) 0 P l.toArray QQ i K a w:=by
  intro L a w i hJ hi K hK
  rcases hJ with hJ|hJ
  case inr=>exact hstepB L a w i hJ hi K hK
  by_cases hin0:i<n
  case neg=>
   refine hstepB L a w i (hAB L a w hJ fun j hj=>?_) hi K hK
   obtain⟨o,ho,hl,hpre⟩:=ready_mem hJ.1.1 hi
   have hin:i<l.toArray.size:=(Array.getElem?_eq_some_iff.1 ho).1
   exact closed hA hTc hJ.1.2 (i+1) i o (by omega) ho hpre j (hbt _ _ (by omega) (by simpa using hin) (by omega))
  obtain⟨h00,hge0,hRel⟩:=hJ
  obtain⟨hs,hdn⟩:=h00
  obtain⟨o,ho,hl,hpre⟩:=ready_mem hs hi
  have hin:i<l.toArray.size:=(Array.getElem?_eq_some_iff.1 ho).1
  have ho':(l.take n)[i]? =some o:=by rw[List.getElem?_take_of_lt hin0];simpa using ho
  obtain⟨e,he⟩:∃e,es[i]? =some e:=⟨es[i]'(by rw[hlen];exact hin0),by simp⟩
  have hahead:=closed hA hTc hdn (i+1) i o (by omega) ho hpre
  have hlate:∀j,j<l.toArray.size→bit T j i=true→lst L j=false:=fun j hj hij=>by
   cases hlj:lst L j with
   |false=>rfl
   |true=>
    have hoj:l.toArray[j]? =some l.toArray[j]:=by simp[hj]
    have:=closed hA hTc hdn (j+1) j _ (by omega) hoj (hdn j _ hoj hlj) i hij
    rw[hl]at this;cases this
  have hord:∀j oj ej,(l.take n)[j]? =some oj→es[j]? =some ej→j≠i→(j<i→clash l.toArray oj o ej.fp e.fp=true)→(i<j→clash l.toArray o oj e.fp ej.fp=true)→lst L j=decide (j<i):=fun j oj ej h1 h2 hne h3 h4=>by
   rcases Nat.lt_or_gt_of_ne hne with h|h
   ·rw[hahead j (hcl j i oj o ej e h h1 ho' h2 he (h3 h))];simp[h]
   ·rw[hlate j (by have:=hAl j oj h1;simp;omega) (hcl i j o oj e ej h ho' h1 he h2 (h4 h))]
    simp;omega
  obtain⟨⟨s1,s2,s3,s4,s5,s6⟩,hnext⟩:=hT.at i 0 o e ho' he
  simp only[Nat.zero_add]at s3 s4 s6 hnext
  let Li:Nat→Bool:=fun j=>decide (j<i)
  have rdS:∀t,t∈rdOf l.toArray o→look (runL (lst L) 0 R st).tm t=look (runL Li 0 R st).tm t:=fun t ht=>run_look R 0 st st rfl fun j p hp hd=>by
   obtain⟨oj,ej,h1,h2,rfl⟩:=hR j p hp
   rw[Nat.zero_add]
   by_cases hji:j=i
   ·subst hji;simp only[Li];rw[hl];simp
   ·refine hord j oj ej h1 h2 hji (fun _=>?_) fun _=>?_
    ·unfold clash;simp only[show oj.dst=some t from hd,List.contains_iff_mem.2 ht,Bool.true_or]
    ·unfold clash;simp only[show oj.dst=some t from hd,List.contains_iff_mem.2 ht,Bool.true_or,Bool.or_true]
  have rdK:∀k,k∈e.r∨k∈e.nw∨k∈keys e.d→lookE (runL (lst L) 0 R st).h k=lookE (runL Li 0 R st).h k:=fun k hk=>run_lookE R 0 st st rfl fun j p hp hd=>by
   obtain⟨oj,ej,h1,h2,rfl⟩:=hR j p hp
   rw[Nat.zero_add]
   by_cases hji:j=i
   ·subst hji;simp only[Li];rw[hl];simp
   ·have hwj:k∈ej.fp.w:=by simp only[Evt.fp,List.mem_append];exact .inl hd
    have hki:k∈e.fp.w∨k∈e.fp.r:=by
     simp only[Evt.fp,List.mem_append]
     rcases hk with h|h|h
     ·exact .inr h
     ·exact .inl (.inr h)
     ·exact .inl (.inl h)
    refine hord j oj ej h1 h2 hji (fun _=>?_) fun _=>?_
    ·have:ej.fp.w.any (fun k=>e.fp.w.contains k||e.fp.r.contains k)=true:=List.any_eq_true.2 ⟨k,hwj,by simp only[Bool.or_eq_true,List.contains_iff_mem];exact hki⟩
     unfold clash;simp only[this,Bool.or_true,Bool.true_or]
    ·rcases hki with h|h
     ·have:e.fp.w.any (fun k=>ej.fp.w.contains k||ej.fp.r.contains k)=true:=List.any_eq_true.2 ⟨k,h,by simp only[Bool.or_eq_true,List.contains_iff_mem];exact .inl hwj⟩
      unfold clash;simp only[this,Bool.or_true,Bool.true_or]
     ·have:ej.fp.w.any (fun k=>e.fp.r.contains k)=true:=List.any_eq_true.2 ⟨k,hwj,List.contains_iff_mem.2 h⟩
      unfold clash;simp only[this,Bool.or_true]
  have hL':∀j,lst (L.setIfInBounds i true) j=if j=i then true else lst L j:=fun j=>lst_set L i j (by rw[hs];exact hin)
  have lookN:∀t,look (runL (lst (L.setIfInBounds i true)) 0 R st).tm t=if o.dst=some t then e.v else look (runL (lst L) 0 R st).tm t:=fun t=>by
   by_cases hd:o.dst=some t
   ·rw[if_pos hd]
    have h1:look (runL (lst (L.setIfInBounds i true)) 0 R st).tm t=look (runL (fun j=>decide (j<i+1)) 0 R st).tm t:=run_look R 0 st st rfl fun j p hp hdj=>by
     obtain⟨oj,ej,h1,h2,rfl⟩:=hR j p hp
     rw[Nat.zero_add,hL']
     by_cases hji:j=i
     ·subst hji;simp
     ·have hdj':oj.dst=some t:=hdj
      rw[if_neg hji,hord j oj ej h1 h2 hji (fun _=>by unfold clash;simp[hdj',hd]) (fun _=>by unfold clash;simp[hdj',hd])]
      by_cases h:j<i
      ·simp[h];omega
      ·simp[h];omega
    rw[h1,show(runL (fun j=>decide (j<i+1)) 0 R st)=_ from hnext,look_app,if_pos hd]
   ·rw[if_neg hd]
    exact run_look R 0 st st rfl fun j p hp hdj=>by
     obtain⟨oj,ej,h1,h2,rfl⟩:=hR j p hp
     rw[Nat.zero_add,hL']
     by_cases hji:j=i
     ·subst hji
      rw[ho']at h1
      cases h1
      exact absurd hdj hd
     ·rw[if_neg hji]
  have lookEN:∀k,lookE (runL (lst (L.setIfInBounds i true)) 0 R st).h k=over e.d (lookE (runL (lst L) 0 R st).h) k:=fun k=>by
   by_cases hd:k∈keys e.d
   ·have h1:lookE (runL (lst (L.setIfInBounds i true)) 0 R st).h k=lookE (runL (fun j=>decide (j<i+1)) 0 R st).h k:=run_lookE R 0 st st rfl fun j p hp hdj=>by
     obtain⟨oj,ej,h1,h2,rfl⟩:=hR j p hp
     rw[Nat.zero_add,hL']
     by_cases hji:j=i
     ·subst hji;simp
     ·have hwj:k∈ej.fp.w:=by simp only[Evt.fp,List.mem_append];exact .inl hdj
      have hwi:k∈e.fp.w:=by simp only[Evt.fp,List.mem_append];exact .inl hd
      have q1:ej.fp.w.any (fun k=>e.fp.w.contains k||e.fp.r.contains k)=true:=List.any_eq_true.2 ⟨k,hwj,by simp only[Bool.or_eq_true,List.contains_iff_mem];exact .inl hwi⟩
      have q2:e.fp.w.any (fun k=>ej.fp.w.contains k||ej.fp.r.contains k)=true:=List.any_eq_true.2 ⟨k,hwi,by simp only[Bool.or_eq_true,List.contains_iff_mem];exact .inl hwj⟩
      rw[if_neg hji,hord j oj ej h1 h2 hji (fun _=>by unfold clash;simp only[q1,Bool.or_true,Bool.true_or]) (fun _=>by unfold clash;simp only[q2,Bool.or_true,Bool.true_or])]
      by_cases h:j<i
      ·simp[h];omega
      ·simp[h];omega
    rw[h1,show(runL (fun j=>decide (j<i+1)) 0 R st)=_ from hnext,lookE_app]
    exact over_in hd
   ·rw[over_not hd]
    exact run_lookE R 0 st st rfl fun j p hp hdj=>by
     obtain⟨oj,ej,h1,h2,rfl⟩:=hR j p hp
     rw[Nat.zero_add,hL']
     by_cases hji:j=i
     ·subst hji
      rw[he]at h2
      cases h2
      exact absurd hdj hd
     ·rw[if_neg hji]
  have hfin:∀a' w',Rel F m (fun t=>if o.dst=some t then e.v else look (runL (lst L) 0 R st).tm t) (over e.d (lookE (runL (lst L) 0 R st).h)) a' w'→K a' w':=fun a' w' h=>by
   refine hK a' w' (.inl ⟨hcls L i o ⟨hs,hdn⟩ ho hpre,fun j hj=>?_,h.congr lookN lookEN⟩)
   rw[hL',if_neg (by omega)]
   exact hge0 j hj
  have hexec:e.on=true→o.wpIn (fen F.ro) 0 P a w K QQ:=fun hon=>
   (s4 hon).rel hRel (fun t ht=>rdS t (by unfold rdOf;simp[ht])) (fun k hk=>rdK k (.inl hk)) (fun k hk=>by rw[rdK k (.inr (.inl hk))];exact s3 k hk) s1 s2 hfin
  unfold wpOpIn
  rw[ho]
  dsimp only
  cases hg:o.guard with
  |none=>
   rw[hg]at s6
   rw[if_pos (by simp[Region.wanted,hg])]
   exact hexec s6
  | some jb=>
   obtain⟨j,b⟩:=jb
   rw[hg]at s6
   obtain⟨t,c,g1,g2,g3⟩:=s6
   have htr:t∈rdOf l.toArray o:=by unfold rdOf gOf;simp[hg,g1]
   have hv:a.eval (.tmp t)=c:=by
    obtain⟨⟨_,β,_,_,Ht,_⟩,_⟩:=hRel
    have:=Ht t
    rw[rdS t htr,g2]at this
    exact this.s_inv
   have hw:=guard_wanted hg g1 hv
   cases hon:e.on with
   |true=>
    rw[if_pos (by rw[hw,←g3,hon])]
    exact hexec hon
   |false=>
    rw[if_neg (by rw[hw,←g3,hon];simp)]
    obtain⟨v1,v2⟩:=s5 hon
    refine⟨fun _ _=>trivial,hfin _ _ ?_⟩
    rw[v1,v2]
    exact Rel.bot hRel o.dst s2
 have main:∀(fuel:Nat) (L:Array Bool) (a:Act) (w:World),cnt (fun i=>!lst L i) l.toArray.size≤fuel→J L a w→wpAnyIn (fen F.ro) 0 P .any l.toArray QQ fuel L a w:=by
  intro fuel
  induction fuel with
  | zero=>
   intro L a w hf hJ
   have all:∀i,i<l.toArray.size→lst L i=true:=by
    intro i hi
    cases hl:lst L i with
    |true=>rfl
    |false=>
     exfalso
     have h:=cnt_set (p:=fun j=>!lst L j&&j != i) (q:=fun j=>!lst L j) l.toArray.size i hi (by simp) (fun j hj=>by simp[hj])
     simp[hl]at h
     simp at hf
     omega
   refine⟨?_,hend L a w all hJ⟩
   cases hr:Region.ready .any l.toArray L with
   |nil=>rfl
   |cons i rest=>
    obtain⟨o,ho,hl,_⟩:=ready_mem (hJ0 _ _ _ hJ).1 (i:=i) (by rw[hr];simp)
    rw[all i (Array.getElem?_eq_some_iff.1 ho).1]at hl
    cases hl
  |succ fuel ih=>
   intro L a w hf hJ
   refine⟨fun hr=>hend L a w (fun i hi=>ready_nil hA (hJ0 _ _ _ hJ).1 hr (i+1) i (by omega) hi) hJ,fun i hi=>?_⟩
   refine hstep L a w i hJ hi _ (fun a' w' hJ'=>ih _ _ _ ?_ hJ')
   obtain⟨o,ho,hl,_⟩:=ready_mem (hJ0 _ _ _ hJ).1 hi
   have hin:i<l.toArray.size:=(Array.getElem?_eq_some_iff.1 ho).1
   have h:=cnt_set (p:=fun j=>!lst (L.setIfInBounds i true) j) (q:=fun j=>!lst L j) l.toArray.size i hin (by simp[lst_set L i i (by rw[(hJ0 _ _ _ hJ).1];exact hin)]) (fun j hj=>by simp[lst_set L i j (by rw[(hJ0 _ _ _ hJ).1];exact hin),hj])
   simp[hl]at h
   simp at hf⊢
   omega
 refine Code.wpIn_mono (fun e a' w' ⟨he,s,h1,h2⟩=>⟨s,by rw[he];exact h1,h2⟩) (wpIn_region_any hm (main _ _ _ _ (cnt_le _ _) ?_))
 have hf:∀i,lst (Array.replicate l.toArray.size false) i=false:=by
  intro i
  unfold lst
  simp only[Array.getD_eq_getD_getElem?,Array.getElem?_replicate]
  split<;>rfl
 refine .inl ⟨⟨by simp,fun i o _ hl=>?_⟩,fun i _=>hf i,?_⟩
 ·rw[hf]at hl;cases hl
 ·rw[run_none R 0 st fun j _=>hf _]
  obtain⟨⟨X,β,hX,HH,Ht,KK,hJ,hD⟩,nd,gs,hl⟩:=H
  have G:=Goes.drew HH (w.drawn+1)
  exact⟨⟨X,β,hX,G.hok,fun t=>(Ht t).evo G.evo,KK.goes G nd (G.lives HH nd),fun i hi=>F.go G (hJ i hi),hD.goes HH G⟩,nd,gs,hl⟩
theorem x_drawC (n:Nat) {Q:Exit→St→Prop} {id:Nat} {l:List Oper} {st:St} (hm:P.follows .mixedOrders=true)
  (hk:OpsX P F m l.toArray true (l.take n) st [] (fun fs s=>regOKC l n (clos l) fs.reverse=true∧OpsX P F m l.toArray false (l.drop n) s [] (fun _ s=>Q .normal s))):Sim P F m (.region id l.toArray true) st Q:=by
 obtain⟨es,st2,h1,h2,h3⟩:=hk.run
 exact sim_drawC n hm h1 (by simpa using h2) h3.run
theorem x_cutC {l:List Oper} {n:Nat} {ops:Array Oper} {st:St} {fs:List FP} {Q':St→Prop} (hc:regOKC l n (clos l) fs.reverse=true) (hq:Q' st):OpsX P F m ops true [] st fs (fun fs s=>regOKC l n (clos l) fs.reverse=true∧Q' s):=⟨⟨[],st,rfl,hc,hq⟩⟩
end
end
section
set_option maxRecDepth 4000
set_option maxHeartbeats 2000000
section
variable {P:Program} {TT:List TI} {st:St}
theorem stp_slcNilL (hP:TOK P TT) {T e:Nat} {x l:Operand} {ti te:TI} {k:IntKind} (hx:opv (look st.tm) x= .s (.slice none 0 0)) (hl:opv (look st.tm) l= .s (.int k 0)) (hT:TT[T]? =some ti) (hd:ti.d= .slice e) (he:TT[e]? =some te):
  Stp P st (.slice T x (some l) none none) (.s (.slice none 0 0)) [] [] []:=
 stp_val fun oo X tm h w β a ho hg hr HH Ht=>by
  obtain⟨dst,op',type,pos,after,guard⟩:=oo
  dsimp only at ho;subst ho
  have hc:=arg_s Ht hg (x:=x) (by simp[Op.operands]) hx
  obtain⟨u,hu,hd'⟩:=run_under (hP _ _ hT) w
  obtain rfl:=td_slice (hd'.trans hd)
  have hs:=run_size (hP _ _ he) w
  have hb:=run_bounds (P:=P) Ht hg (lo:=some l) (hi:=none) (len:=0) (cap:=0) (l:=0) (r:=0) (fun y hy=>by cases hy;simp[Op.operands]) (fun y hy=>by cases hy) ⟨k,0,hl,by omega⟩ rfl (Nat.le_refl _) (Nat.le_refl _) true
  rw[Option.map_none]at hb
  exact⟨_,by simp only[execOp,Instr.sliceAt,Instr.slice,Sem.run_bind,hu,Result.andThen_ok,hc,Option.map_none,hb,hs,Sem.run_pure];rfl,.fz _ _ (.s _)⟩
end
section
variable {P:Program} {TT:List TI} {K0:List Nat} {F:Fr K0} {m:Nat} {ops:Array Oper} {rest:List Oper} {Q:List FP→St→Prop} {tm:List (Nat×AV)} {h:List (Nat×Ent)} {dr:Bool} {fs:List FP}
variable {ty:Nat} {pos:String} {after:Array Edge} {t:Nat}
theorem x_cpyM (hP:TOK P TT) {T e key off len sz:Nat} {d x:Operand} {ti te:TI} {xs yl ys zs:List AV} {xv:AV} (hdv:opv (look tm) d= .ref key off len) (hk:lookE h key=some (.arr sz xs false)) (hx:opv (look tm) x=xv) (hT:TT[T]? =some ti) (hd:ti.d= .slice e) (he:TT[e]? =some te)
  (hyl:els (lookE h) xv=some yl) (hyt:yl.take len=ys) (hsz:∀y,ys[0]? =some y→y.cells.length=sz) (hp1:1≤ys.length) (hss:Nat.beq sz te.size=true) (hz:xs.take off++ys++xs.drop (off+ys.length)=zs) (hm:Nat.blt t m=true)
  (hr:OpsX P F m ops dr rest ⟨(t,.s (.int .i64 ys.length))::tm,(key,.arr sz zs false)::h⟩ (⟨true,[key],key::elk xv⟩::fs) Q):OpsX P F m ops dr (⟨some t,.call ⟨.builtin .copy, #[d,x], #[T,T]⟩,ty,pos,after,none⟩::rest) ⟨tm,h⟩ fs Q:=by
 subst hz;exact x_w (nw:=[]) (stp_copyM hP hdv hk hx hT hd he hyl hyt hsz hp1 hss) hm rfl rfl hr
theorem x_capG (hP:TOK P TT) {T e:Nat} {x:Operand} {ti:TI} {k len sz:Nat} {xs:List AV} (hx:opv (look tm) x= .ref k 0 len) (hk:lookE h k=some (.arr sz xs ⟨false,false⟩)) (hT:TT[T]? =some ti) (hd:ti.d= .slice e) (hl:1≤len) (hm:Nat.blt t m=true)
  (hr:∀c:Int,(xs.length:Int)≤c→OpsX P F m ops false rest ⟨(t,.s (.int .i64 c))::tm,h⟩ fs Q):OpsX P F m ops false (⟨some t,.call ⟨.builtin .cap, #[x], #[T]⟩,ty,pos,after,none⟩::rest) ⟨tm,h⟩ fs Q:=
 x_m (stpm_capGe hP hx hk hT hd hl) hm rfl (fun v d ⟨c,_,_,e⟩=>by subst e;rfl) (fun v d ⟨c,e1,e2,e3⟩=>by subst e1 e3;exact hr c e2)
theorem x_appIn (hP:TOK P TT) {T e k len sz:Nat} {s x:Operand} {ti te:TI} {xs vs zs:List AV} {xv:AV} (hs:opv (look tm) s= .ref k 0 len) (hk:lookE h k=some (.arr sz xs ⟨false,false⟩)) (hx:opv (look tm) x=xv) (hT:TT[T]? =some ti) (hd:ti.d= .slice e) (he:TT[e]? =some te) (hvs:els (lookE h) xv=some vs)
  (hss:Nat.beq sz te.size=true) (hsz:∀y,vs[0]? =some y→y.cells.length=sz) (hpos:1≤vs.length) (hl:1≤len) (hroom:len+vs.length≤xs.length) (hmax:xs.length≤1073741824) (hz:xs.take len++vs++xs.drop (len+vs.length)=zs) (hm:Nat.blt t m=true)
  (hr:OpsX P F m ops dr rest ⟨(t,.ref k 0 (len+vs.length))::tm,(k,.arr sz zs ⟨false,false⟩)::h⟩ (⟨true,[k],k::elk xv⟩::fs) Q):OpsX P F m ops dr (⟨some t,.call ⟨.builtin .append, #[s,x], #[T,T]⟩,ty,pos,after,none⟩::rest) ⟨tm,h⟩ fs Q:=by
 subst hz;exact x_w (nw:=[]) (stp_appIn hP hs hk hx hT hd he hvs hss hsz hpos hl hroom hmax) hm rfl rfl hr
theorem x_appS (hP:TOK P TT) {T I e c n N:Nat} {s x:Operand} {ti te tn:TI} {k0:IntKind} {nx:Int} {ys zs:List AV} {z:AV} (hs:opv (look tm) s= .slc c ys) (hx:opv (look tm) x= .s (.int .i64 nx)) (hT:TT[T]? =some ti) (hd:ti.d= .slice e) (he:TT[e]? =some te) (hI:TT[I]? =some tn) (hdn:tn.d= .int k0)
  (hb:Nat.ble te.bytes 65536=true) (hp:Nat.ble 1 te.size=true) (hzl:Nat.beq te.zero.length te.size=true) (hz1:te.zero.all (·.oneCell')=true) (hzc:Nat.beq (zeroA te).cells.length te.size=true) (hzc2:(zeroA te).cells=te.zero.map .s) (hz:zeroA te=z)
  (hnx:nx=(n:Int)) (hpos:1≤n) (hmax:ys.length+n≤1073741824) (hc:c<ys.length+n) (hw0:∀(i:Nat) (y:AV),ys[i]? =some y→y.cells.length=te.size) (hA:ys++List.replicate n z=zs) (hN:zs.length=N) (hm:Nat.blt t m=true) (hnn:(lookE h t).isNone=true)
  {sz:Nat} (hse:te.size=sz) (hk:OpsX P F m ops dr rest ⟨(t,.ref t 0 N)::tm,(t,.arr sz zs false)::h⟩ (⟨true,[t,t],[]⟩::fs) Q):OpsX P F m ops dr (⟨some t,.call ⟨.builtin .append, #[s,x], #[T,I]⟩,ty,pos,after,none⟩::rest) ⟨tm,h⟩ fs Q:=by
 subst hse hz hN hA;exact x_w (nw:=[t]) (stp_appS hP t hs hx hT hd he hI hdn hb hp hzl hz1 hzc hzc2 hnx hpos hmax hc hw0) hm (all1 hnn) rfl hk
end
theorem ins_room (xs:List AV) (v:AV) (i:Nat) (hv:v.cells.length=5) (hx:∀y∈xs,y.cells.length=5) (h1:1≤xs.length) (hn:xs.length≤1000) (hi:i≤xs.length):
  CallSim Tryz.prog 198 [.ref 1001 0 xs.length,iA i,.ref 98 0 1] [(1001,.arr 5 (xs++[hole 5]) false),(98,.arr 5 [v] false)] (.ref 1001 0 (xs.length+1)) [(1001,.arr 5 (xs.take i++v::xs.drop i) false),(98,.arr 5 [v] false)]:=by
 have hll:(xs++[hole 5]).length=xs.length+1:=by simp
 by_cases he:i=xs.length
 ·subst he
  have hz:(xs++[hole 5]).take xs.length++[v]++(xs++[hole 5]).drop (xs.length+[v].length)=xs.take xs.length++v::xs.drop xs.length:=by
   rw[List.take_append_of_le_length (Nat.le_refl _),List.take_length,List.drop_length,List.drop_eq_nil_of_le (by simp)]
   simp
  (refine eN Tryz.func198 Tryz.call198 fun F hF=>?_)
  (repeat' (first|refine WZ ?_|refine SG (I2 (fun hc=>?_) (fun hc=>?_))|refine SG (fun hc=>?_)|(refine is_ops ?_;refine is_call ?_;fail)|(refine is_ops ?_;first|(refine is_slc ?_;refine x_slcRL tok rfl rfl rfl rfl rfl rfl rfl (by omega) (by omega) rfl ?_)|(refine is_app ?_;refine x_appIn tok rfl rfl rfl rfl rfl rfl rfl rfl (fun y hy=>by cases hy;exact hv) (by simp) (by omega) (by simp) (by omega) hz rfl ?_))|first|refine SR ?_|refine SK (I2 (fun hc=>?_) (fun hc=>?_))|refine SK (fun hc=>?_)|fail))
  exact fin_own [1001,98] rfl rfl rfl rfl
 ·have hlt:i<xs.length:=by omega
  have e1:(xs++[hole 5]).drop i=xs.drop i++[hole 5]:=List.drop_append_of_le_length (by omega)
  have hdl:(xs.drop i).length=xs.length-i:=List.length_drop
  have hc1:(((xs++[hole 5]).drop i).take (xs.length+1-i)).take (xs.length+1-(i+1))=xs.drop i:=by
   have e3:((xs++[hole 5]).drop i).take (xs.length+1-i)=xs.drop i++[hole 5]:=by rw[e1];exact List.take_of_length_le (by simp;omega)
   rw[e3,List.take_append_of_le_length (by omega),List.take_of_length_le (by omega)]
  have hz1:(xs++[hole 5]).take (i+1)++xs.drop i++(xs++[hole 5]).drop (i+1+(xs.drop i).length)=xs.take (i+1)++xs.drop i:=by
   have e3:(xs++[hole 5]).drop (i+1+(xs.drop i).length)=[]:=List.drop_eq_nil_of_le (by rw[hll,hdl];omega)
   rw[e3,List.append_nil,List.take_append_of_le_length (by omega)]
  have hxd:∀y,(xs.drop i)[0]? =some y→y.cells.length=5:=fun y hy=>hx y (List.mem_of_mem_drop (List.mem_of_getElem? hy))
  have hc2:(([v].drop 0).take 1).take (xs.length+1-i)=[v]:=List.take_of_length_le (by simp;omega)
  have hz2:(xs.take (i+1)++xs.drop i).take i++[v]++(xs.take (i+1)++xs.drop i).drop (i+[v].length)=xs.take i++v::xs.drop i:=by
   have e2:(xs.take (i+1)).length=i+1:=by rw[List.length_take];omega
   rw[List.take_append_of_le_length (by omega),List.take_take,Nat.min_eq_left (by omega),show i+[v].length=(xs.take (i+1)).length by rw[e2];rfl,List.drop_left,List.append_assoc]
   rfl
  (refine eN Tryz.func198 Tryz.call198 fun F hF=>?_)
  (repeat' (first|refine WZ ?_|refine SG (I2 (fun hc=>?_) (fun hc=>?_))|refine SG (fun hc=>?_)|(refine is_ops ?_;refine is_call ?_;(refine is_fn 222 ?_;refine x_q (stp_overlaps tok rfl rfl rfl rfl rfl rfl (by omega) (by omega) rfl rfl rfl (by omega) rfl rfl rfl rfl rfl) rfl ?_))|(refine is_ops ?_;first|(refine is_slc ?_;first|refine x_slcRL tok rfl rfl rfl rfl rfl rfl rfl (by omega) (by omega) rfl ?_|refine x_q (stp_slcUp (N:=xs.length+1) tok rfl rfl rfl rfl rfl rfl (by omega) (by omega) (by omega) (by omega)) rfl ?_)|(refine x_cpyM tok rfl rfl rfl rfl rfl rfl rfl (by first|exact hc1|exact hc2) (by first|exact hxd|(intro y hy;cases hy;exact hv)) (by first|(rw[hdl];omega)|simp) rfl (by first|exact hz1|exact hz2) rfl ?_)|(refine x_capG tok rfl rfl rfl rfl (by omega) rfl ?_;intro cp hcp))|first|refine SR ?_|refine SK (I2 (fun hc=>?_) (fun hc=>?_))|refine SK (fun hc=>?_)|fail))
  exact fin_own [1001,98] rfl rfl rfl rfl
theorem ins_full (xs:List AV) (v:AV) (i c:Nat) (hv:v.cells.length=5) (hx:∀y∈xs,y.cells.length=5) (h1:1≤xs.length) (hn:xs.length≤1000) (hi:i≤xs.length) (hc:c<xs.length+1):
  CallSim Tryz.prog 198 [.slc c xs,iA i,.ref 98 0 1] [(98,.arr 5 [v] false)] (.sl false (xs.take i++v::xs.drop i)) [(98,.arr 5 [v] false)]:=by
 have hxi:∀(j:Nat) (y:AV),xs[j]? =some y→y.cells.length=5:=fun j y hy=>hx y (List.mem_of_getElem? hy)
 by_cases he:i=xs.length
 ·subst he
  (refine eN Tryz.func198 Tryz.call198 fun F hF=>?_)
  (repeat' (first|refine WZ ?_|refine SG (I2 (fun hc=>?_) (fun hc=>?_))|refine SG (fun hc=>?_)|(refine is_ops ?_;refine is_call ?_;fail)|(refine is_ops ?_;first|(refine x_q (stp_lenS tok rfl rfl rfl) rfl ?_)|(refine is_slc ?_;refine x_slcW 10 rfl h1 ?_;refine x_slcL tok rfl rfl rfl rfl rfl (hxi 0) (by omega) (by omega) rfl rfl ?_)|(refine is_app ?_;refine x_w (nw:=[25]) (stp_appSE tok 25 rfl rfl rfl rfl rfl rfl rfl rfl rfl rfl (fun y hy=>by cases hy;exact hv) (by simp) (by simp;omega) (by simp;omega) hxi) rfl rfl rfl ?_))|first|refine SR ?_|refine SK (I2 (fun hc=>?_) (fun hc=>?_))|refine SK (fun hc=>?_)|fail))
  refine fin_own [98] rfl rfl ?_ rfl
  show AV.sl false ((xs++[v]).take (xs++[v]).length)=_
  rw[List.take_length,List.take_length,List.drop_length]
 ·have hlt:i<xs.length:=by omega
  have hdl:(xs.drop i).length=xs.length-i:=List.length_drop
  have htl:(xs.take i).length=i:=by rw[List.length_take];omega
  have hxt:∀(j:Nat) (y:AV),(xs.take i)[j]? =some y→y.cells.length=5:=fun j y hy=>hx y (List.mem_of_mem_take (List.mem_of_getElem? hy))
  have hxd:∀y,(xs.drop i)[0]? =some y→y.cells.length=5:=fun y hy=>hx y (List.mem_of_mem_drop (List.mem_of_getElem? hy))
  have hx0:∀y,xs[0]? =some y→y.cells.length=5:=hxi 0
  have hnx:((xs.length:Int)+1-(i:Int))=((xs.length+1-i:Nat):Int):=by omega
  have hzs:∃zs,xs.take i++List.replicate (xs.length+1-i) (AV.agg [.s (.int .i64 0),.s (.int .i64 0),.s (.int .i64 0),.s (.int .i64 0),.s (.slice none 0 0)])=zs:=⟨_,rfl⟩
  obtain⟨zs,hA⟩:=hzs
  have hN:zs.length=xs.length+1:=by rw[←hA,List.length_append,htl,List.length_replicate];omega
  have hzt:zs.take i=xs.take i:=by rw[←hA,List.take_append_of_le_length (by omega),List.take_of_length_le (by omega)]
  have hc1:(([v].drop 0).take 1).take (xs.length+1-i)=[v]:=List.take_of_length_le (by simp;omega)
  have hc2:(xs.drop i).take (xs.length+1-(i+1))=xs.drop i:=List.take_of_length_le (by omega)
  have hz1:zs.take i++[v]++zs.drop (i+[v].length)=xs.take i++[v]++zs.drop (i+1):=by rw[hzt];rfl
  have e2:(xs.take i++[v]).length=i+1:=by rw[List.length_append,htl];rfl
  have hz2:(xs.take i++[v]++zs.drop (i+1)).take (i+1)++xs.drop i++(xs.take i++[v]++zs.drop (i+1)).drop (i+1+(xs.drop i).length)=xs.take i++v::xs.drop i:=by
   have e3:(xs.take i++[v]++zs.drop (i+1)).drop (i+1+(xs.drop i).length)=[]:=List.drop_eq_nil_of_le (by rw[List.length_append,e2,List.length_drop,hN,hdl];omega)
   rw[e3,List.append_nil,List.take_append_of_le_length (by omega),List.take_of_length_le (by omega),List.append_assoc]
   rfl
  (refine eN Tryz.func198 Tryz.call198 fun F hF=>?_)
  (repeat' (first|refine WZ ?_|refine SG (I2 (fun hc=>?_) (fun hc=>?_))|refine SG (fun hc=>?_)|(refine is_ops ?_;refine is_call ?_;fail)|(refine is_ops ?_;first|(refine x_q (stp_lenS tok rfl rfl rfl) rfl ?_)|(refine x_q (stp_capS tok rfl rfl rfl) rfl ?_)|(refine is_slc ?_;first|(refine x_slcW 10 rfl h1 ?_;refine x_slcL tok rfl rfl rfl rfl rfl (hxi 0) (by omega) (by omega) rfl rfl ?_)|refine x_q (stp_slcS tok rfl rfl rfl rfl rfl hi) rfl ?_|refine x_slcRL tok rfl rfl rfl rfl rfl rfl rfl (by omega) (by omega) rfl ?_|refine x_slcL tok rfl rfl rfl rfl rfl (hxi 0) (by omega) (by omega) rfl rfl ?_)|(refine is_app ?_;refine x_appS tok (n:=xs.length+1-i) rfl rfl rfl rfl rfl rfl rfl rfl rfl rfl rfl rfl rfl rfl hnx (by omega) (by rw[htl];omega) (by rw[htl];omega) hxt hA hN rfl rfl rfl ?_)|(first|(refine x_slcW 0 rfl h1 ?_;refine x_cpyM tok rfl rfl rfl rfl rfl rfl rfl hc1 (fun y hy=>by cases hy;exact hv) (by simp) rfl hz1 rfl ?_)|refine x_cpyM tok rfl rfl rfl rfl rfl rfl rfl hc2 hxd (by rw[hdl];omega) rfl hz2 rfl ?_))|first|refine SR ?_|refine SK (I2 (fun hc=>?_) (fun hc=>?_))|refine SK (fun hc=>?_)|fail))
  refine fin_own [98] rfl rfl ?_ rfl
  show AV.sl false ((xs.take i++v::xs.drop i).take (xs.length+1))=_
  rw[List.take_of_length_le (by rw[List.length_append,htl,List.length_cons,hdl];omega)]
theorem ins_nil (v:AV) (hv:v.cells.length=5):
  CallSim Tryz.prog 198 [.s (.slice none 0 0),iA 0,.ref 98 0 1] [(98,.arr 5 [v] false)] (.sl false [v]) [(98,.arr 5 [v] false)]:=by
 (refine eN Tryz.func198 Tryz.call198 fun F hF=>?_)
 (repeat' (first|refine WZ ?_|refine SG (I2 (fun hc=>?_) (fun hc=>?_))|refine SG (fun hc=>?_)|(refine is_ops ?_;refine is_call ?_;fail)|(refine is_ops ?_;first|(refine is_slc ?_;refine x_q (stp_slcNilL tok rfl rfl rfl rfl rfl) rfl ?_)|(refine is_app ?_;refine x_appnilF tok rfl rfl rfl rfl rfl rfl (fun y hy=>by cases hy;exact hv) rfl rfl rfl (by simp) rfl ?_))|first|refine SR ?_|refine SK (I2 (fun hc=>?_) (fun hc=>?_))|refine SK (fun hc=>?_)|fail))
 exact fin_own [98] rfl rfl rfl rfl
theorem calltrue_c (x:Rq):CallSim Tryz.prog 144 [rqA x] [] (bA true) []:=by
 (refine eN Tryz.func144 Tryz.call144 fun F hF=>?_)
 (refine WW ?_)
 exact fr0
theorem kept_own (l:List Rq) (hn:l.length≤1000) (hb:∀r∈l,r.legs.length≤1000):
  CallSim Tryz.prog 105 [slA rqA l,.fn 144 []] [] (.ref 1001 0 (l.map rqA).length) [(1001,.arr 5 (l.map rqA) false)]:=by
 have hl:=map_len rqA l
 (refine eN Tryz.func105 Tryz.call105 fun F hF=>?_)
 (refine WW ?_)
 refine sim_virt 5 1001 5 rfl rfl rfl ?_
 (refine sim_rng (l) [1001] [] [1,8,9] [5,10,1,8,9] rfl (fun i pre T U=>⟨(5,.ref 1001 0 (pre.map rqA).length)::(10,iA i)::T,(1001,.arr 5 (pre.map rqA) true)::U⟩) ?_;(conv=>whnf);refine⟨by rfl,?_,?_⟩)
 ·intro i pre x post hx hi
  have hy:=rng_at rqA hx hi
  have hlt:=rng_lt hx hi
  have hlm:=map_len rqA pre
  have c1:=calltrue_c x
  have c2:=qclone_c x (hb x (rng_mem hx))
  have e:(pre++[x]).map rqA=pre.map rqA++[rqA x]:=by simp
  rw[e]
  clear hx e
  generalize pre.map rqA=R at*
  (have zc1:=c1;have zc2:=c2;refine WW ?_;clear zc1 zc2)
  rfl
 ·(repeat' (first|refine WZ ?_|refine SG (I2 (fun hc=>?_) (fun hc=>?_))|refine SG (fun hc=>?_)|(refine is_ops ?_;refine is_call ?_;fail)|(refine is_ops ?_;first|fail)|first|refine SN ?_|refine SK (I2 (fun hc=>?_) (fun hc=>?_))|refine SK (fun hc=>?_)|fail))
  refine sim_restr [1001] [4] rfl rfl ?_
  refine sim_compact 1001 [4] rfl rfl rfl rfl rfl (sim_ret ?_)
  exact fin_own [1001] rfl rfl rfl rfl
theorem kept_nil:CallSim Tryz.prog 105 [slA rqA [],.fn 144 []] [] (.s (.slice none 0 0)) []:=by
 (refine eN Tryz.func105 Tryz.call105 fun F hF=>?_)
 (refine WW ?_)
 (refine sim_rng (([]:List Rq)) [] [] [1,8,9] [5,10,1,8,9] rfl (fun i pre T U=>⟨(5,.s (.slice none 0 0))::(10,iA i)::T,U⟩) ?_;(conv=>whnf);refine⟨by rfl,?_,?_⟩)
 ·intro i pre x post hx hi
  cases pre<;>cases hx
 ·(refine WW ?_)
  exact fin_own [] rfl rfl rfl rfl
theorem cloneAll_own (l:List Rq) (hn:l.length≤1000) (hb:∀r∈l,r.legs.length≤1000):
  CallSim Tryz.prog 109 [slA rqA l] [] (.ref 1001 0 (l.map rqA).length) [(1001,.arr 5 (l.map rqA) false)]:=by
 have c:=kept_own l hn hb
 (refine eN Tryz.func109 Tryz.call109 fun F hF=>?_)
 (have zc1:=c;refine WW ?_;clear zc1)
 exact fin_own [1001] rfl rfl rfl rfl
theorem cloneAll_nil:CallSim Tryz.prog 109 [slA rqA []] [] (.s (.slice none 0 0)) []:=by
 have c:=kept_nil
 (refine eN Tryz.func109 Tryz.call109 fun F hF=>?_)
 (have zc1:=c;refine WW ?_;clear zc1)
 exact fin_own [] rfl rfl rfl rfl
end
end Av
end Go.Proofs.YtaikgchmpieooaaGreat
