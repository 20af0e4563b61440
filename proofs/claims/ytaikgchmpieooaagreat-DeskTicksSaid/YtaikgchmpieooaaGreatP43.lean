/- Part 43: contracts of the functions, and what they rest upon. -/
import Derived.Test.YtaikgchmpieooaaGreatP24
import Derived.Test.YtaikgchmpieooaaGreatP42
namespace Go.Proofs.YtaikgchmpieooaaGreat
namespace Av
set_option linter.unusedSimpArgs false
set_option linter.unusedVariables false
section
section
variable {P:Program} {K0:List Nat} {F:Fr K0} {m:Nat}
theorem Rel.consume {st:St} {a:Act} {w:World} {X:Nat→Prop} {β:Map} (hX:XOK F X) (H:HOK X (lookE st.h) β w) (Ht:∀t,RepV w (Dom X β) (lookE st.h) β (look st.tm t) (a.eval (.tmp t))) (KK:Keep F (lookE st.h) β w) (hJ:∀i,look st.tm GS= .gh i→F.J i (Own β) X w) (hD:DOK X F a.defers w)
  (nd:∀k,lookE st.h k≠some .dead) (gs:m≤GS) (hl:a.tmps.size=m) (k:Nat) (K ts:List Nat) (hK:K0.all (K.contains ·)=true) (hkK:K.contains k=false) {w':World} {β':Map} (G:Goes X w (lookE st.h) β w' (over [(k,.dead)] (lookE st.h)) β') {v:AV} {c:Value} (hc:RepF w' (Dom X β') v c)
  (hg:∀i,v≠ .gh i) (t:Nat) (ht:t<m) {st':St} (he:restr K ts ⟨st.tm,(k,.dead)::st.h⟩=st'):RelS F m ⟨(t,v)::st'.tm,st'.h⟩ (a.put (some t) c) w':=by
 subst he
 have eh:lookE ((k,Ent.dead)::st.h)=over [(k,.dead)] (lookE st.h):=lookE_append [(k,Ent.dead)] st.h
 rw[←eh]at G
 obtain⟨H',hvv⟩:=G.hok.restr K
 have hkk:∀j,j∈K→j≠k:=fun j hj e=>by
  subst e
  have:K.contains j=true:=by simpa using hj
  rw[this]at hkK
  cases hkK
 have hov:∀j,j≠k→lookE ((k,Ent.dead)::st.h) j=lookE st.h j:=fun j hj=>by rw[eh];exact over_other _ _ hj
 have hnd:∀j,j∈K→lookE ((k,Ent.dead)::st.h) j≠some .dead:=fun j hj=>by rw[hov j (hkk j hj)];exact nd j
 have hK0:∀j,j∈K0→j∈K:=fun j hj=>by
  have:=List.all_eq_true.1 hK j hj
  simpa using this
 have hsub:∀b,Dom X (fun j=>if j∈K then β' j else []) b→Dom X β' b:=fun b hd=>by
  rcases hd with hx|⟨j,n,hm⟩
  ·exact .inl hx
  ·(try dsimp only at hm)
   split at hm
   ·exact .inr ⟨j,n,hm⟩
   ·simp at hm
 have hgs:GS≠t:=by omega
 refine⟨⟨X,_,hX,H',fun j=>?_,⟨fun j e hje=>?_,Nat.le_trans KK.size G.size,fun b hb hi hn=>?_,fun j b n hm=>?_,fun j b n hm=>?_,fun j b n hm=>?_,G.os.trans KK.os,G.tape.trans KK.tape,G.output.trans KK.output⟩,fun i hi=>?_,hD.goes H G⟩,fun j=>?_,gs,by simp[Act.put,hl]⟩
 ·show RepV _ _ _ _ (look ((t,v)::(restr K ts ⟨st.tm,(k,.dead)::st.h⟩).tm) j) _
  rw[look_cons]
  split
  ·rename_i hj
   subst hj
   have e:(a.put (some j) c).eval (.tmp j)=c:=by simp[Act.put,Act.eval,hl,ht]
   rw[e]
   exact .fz _ _ (hc.evo (Nat.le_refl _) fun b _ hd=>⟨rfl,fun h=>hd (hsub b h)⟩)
  ·rename_i hj
   rw[Act.eval_put (fun d hd e=>hj (by injection hd with hd;injection e with e;rw[hd,e])),look_restr]
   split
   ·exact hvv _ _ ((Ht j).evo G.evo)
   ·exact .fz _ _ (.bot _)
 ·have hj:=hK0 j (F.hh j e hje)
  have h1:=KK.knd j e hje
  have hr:∀e',lookE ((k,Ent.dead)::st.h) j=some e'→lookE (restrH K (lookE ((k,Ent.dead)::st.h))) j=some (frzE K (lookE ((k,Ent.dead)::st.h)) e'):=fun e' h2=>by rw[lookE_restrH,if_pos hj,h2];rfl
  cases e with
  |dead=>exact h1
  |box cs=>obtain⟨cs',h2⟩:=h1;exact⟨_,hr _ ((hov j (hkk j hj)).trans h2)⟩
  |arr sz xs sl=>obtain⟨xs',sl',h2,h3⟩:=h1;obtain⟨xs2,fl2,h4,h5⟩:=frzE_arr K (lookE ((k,Ent.dead)::st.h)) sz xs' sl';exact⟨xs2,fl2,(hr _ ((hov j (hkk j hj)).trans h2)).trans (by rw[h4]),by rw[h5];exact h3⟩
 ·rw[G.keep b (Nat.lt_of_lt_of_le hb KK.size),KK.keep b hb hi hn]
  intro j n hm
  rcases KK.own j b n hm with⟨k',n',h1⟩|h1
  ·exact hn _ _ h1
  ·omega
 ·(try dsimp only at hm)
  split at hm
  ·rcases G.own j b n hm with⟨k',n',h1⟩|h1
   ·exact KK.own k' b n' h1
   ·exact .inr (Nat.le_trans KK.size h1)
  ·simp at hm
 ·have hj:=hK0 j (F.hK j b n hm)
  obtain⟨n',h1,h2⟩:=KK.pas j b n hm
  (try dsimp only)
  rw[if_pos hj]
  cases hje:lookE st.h j with
  |none=>rw[H.off j hje]at h2;simp at h2
  | some e=>
   have h3:=(G.key j e hje).resolve_left (hnd j hj)
   cases e with
   |dead=>exact h3.elim
   |box cs=>exact⟨n',h1,h3.2 b n' h2⟩
   |arr sz xs fl=>
    obtain⟨n'',h4,h5⟩:=h3.2 b n' h2
    exact⟨n'',Nat.le_trans h1 h4,h5⟩
 ·obtain⟨n',_,h2⟩:=KK.pas j b n hm
  rw[G.bs j b n' h2,KK.bs j b n hm]
 ·change look ((t,v)::(restr K ts ⟨st.tm,(k,.dead)::st.h⟩).tm) GS= .gh i at hi
  rw[look_cons,if_neg hgs,look_restr]at hi
  split at hi
  ·have h1:look st.tm GS= .gh i:=frzV_gh hi
   refine F.Jst i _ X w' w' _ (F.go G (hJ i h1)) (Nat.le_refl _) (fun _ _ _=>rfl) (fun b hb=>?_) (fun b hb=>?_) rfl rfl rfl
   ·obtain⟨j,n,hm⟩:=hb
    (try dsimp only at hm)
    split at hm
    ·exact .inl ⟨j,n,hm⟩
    ·simp at hm
   ·obtain⟨j,n,hm⟩:=hb
    exact H'.lt b (.inr ⟨j,n,hm⟩)
  ·cases hi
 ·show lookE (restrH K (lookE ((k,Ent.dead)::st.h))) j≠some .dead
  rw[lookE_restrH]
  split
  ·rename_i hj
   intro h
   rw[Option.map_eq_some_iff]at h
   obtain⟨e,he,h2⟩:=h
   cases e with
   |dead=>exact hnd j hj he
   |box cs=>cases h2
   |arr a b c=>obtain⟨xs2,fl2,h4,_⟩:=frzE_arr K (lookE ((k,Ent.dead)::st.h)) a b c;rw[h4]at h2;cases h2
  ·intro h;cases h
variable {ops:Array Oper} {rest:List Oper} {Q:List FP→St→Prop} {tm:List (Nat×AV)} {h:List (Nat×Ent)} {fs fs':List FP} {TT:List TI} {ty:Nat} {pos:String} {after:Array Edge} {t:Nat}
theorem x_appC (K ts:List Nat) (hP:TOK P TT) {T e k sz:Nat} {s x:Operand} {ti te:TI} {xs vs:List AV} {fl:Fl} {xv:AV} (hs:opv (look tm) s= .ref k 0 0) (hk:lookE h k=some (.arr sz xs fl)) (hx:opv (look tm) x=xv) (hT:TT[T]? =some ti) (hd:ti.d= .slice e) (he:TT[e]? =some te) (hvs:els (lookE h) xv=some vs)
  (hss:Nat.beq sz te.size=true) (hsz:∀y,vs[0]? =some y→y.cells.length=sz) (hb:Nat.ble te.bytes 65536=true) (hz:Nat.beq te.zero.length te.size=true) (hpos:1≤vs.length) (hmax:vs.length≤1073741824) (hm:Nat.blt t m=true) (hK:K0.all (K.contains ·)=true) (hkK:K.contains k=false)
  {st':St} (hst:restr K ts ⟨tm,(k,.dead)::h⟩=st') (hr:OpsX P F m ops false rest ⟨(t,.sl false vs)::st'.tm,st'.h⟩ fs Q):OpsX P F m ops false (⟨some t,.call ⟨.builtin .append, #[s,x], #[T,T]⟩,ty,pos,after,none⟩::rest) ⟨tm,h⟩ fs Q:=⟨fun a w R=>wpListIn_plain rfl fun KC hKC=>by
 obtain⟨⟨X,β,hX,HH,Ht,KK,hJ,hD⟩,nd,gs,hl⟩:=R
 dsimp only at HH Ht KK hJ nd
 have h1:=arg (op:= .call ⟨.builtin .append, #[s,x], #[T,T]⟩) (st:=⟨tm,h⟩) Ht (fun _ _=>rfl) (x:=s) (by simp[Op.operands,Call.operands]) hs
 have h2:=arg (op:= .call ⟨.builtin .append, #[s,x], #[T,T]⟩) (st:=⟨tm,h⟩) Ht (fun _ _=>rfl) (x:=x) (by simp[Op.operands,Call.operands]) hx
 have hss:=Nat.eq_of_beq_eq_true hss
 have hb:=Nat.le_of_ble_eq_true hb
 have hz:=Nat.eq_of_beq_eq_true hz
 have hm:=Nat.le_of_ble_eq_true hm
 obtain⟨i,z,hu,hi,hzz,e1,e2,e3⟩:=slice_facts hP hT hd he
 obtain⟨g1,g2,g3,g4,g5,f,g6,g7,g8⟩:=HH.ent k _ hk
 obtain⟨ad,cap,hcv,_,hmx,hsrc⟩:=els_rep HH h2 hvs hsz
 obtain⟨b2,q,fy,rfl,hS⟩:=hsrc (fun h0=>by rw[h0]at hpos;simp at hpos)
 obtain⟨hf1,hf2⟩:=hS.flat g1
 have FIN:∀{c w'} (_:(Builtin.append_ #[T,T] ty #[a.eval s,a.eval x]).run P w= .ok c w') {β':Map} (_:Goes X w (lookE h) β w' (over [(k,.dead)] (lookE h)) β') (_:RepF w' (Dom X β') (.sl false vs) c),Oper.wpIn (fen F.ro) 0 P ⟨some t,.call ⟨.builtin .append, #[s,x], #[T,T]⟩,ty,pos,after,none⟩ a w KC (fun e a' w'=>e= .normal∧∃st',Q [] st'∧RelS F m st' a' w'):=by
  intro c w' hrun β' G hc
  refine OpDone.wp (N:=fun c1 w1=>c1=c∧w1=w') ?_ ?_
  ·have:(execOp a.eval ⟨some t,.call ⟨.builtin .append, #[s,x], #[T,T]⟩,ty,pos,after,none⟩).run P w= .ok (.value c) w':=by simp[execOp,resolve,invoke,builtin,hrun]
   rw[this]
   exact⟨rfl,rfl⟩
  ·rintro _ _ ⟨rfl,rfl⟩
   exact hKC _ _ (hr.run _ _ (Rel.consume (st:=⟨tm,h⟩) hX HH Ht KK hJ hD nd gs hl k K ts hK hkK G hc (fun i hh=>by cases hh) t hm hst))
 have kill:∀{w'},HOK X (lookE h) β w'→Goes X w' (lookE h) β w' (over [(k,.dead)] (lookE h)) (upd β k []):=fun H=>Goes.step H k .dead [] (Nat.le_refl _) (fun _ _ _=>rfl) rfl rfl rfl (fun b n hm=>by simp at hm) (fun _ _ _=>rfl) (fun e _=> .inl rfl) fun _=>upd_same _ _ _
 have GROW:∀bd cp,a.eval s= .slice bd 0 cp→cp<vs.length→(bd=none→cp=0)→Oper.wpIn (fen F.ro) 0 P ⟨some t,.call ⟨.builtin .append, #[s,x], #[T,T]⟩,ty,pos,after,none⟩ a w KC (fun e a' w'=>e= .normal∧∃st',Q [] st'∧RelS F m st' a' w'):=by
  intro bd cp hcx hlt hbn
  have hbytes:vs.length*i.bytes≤140737488355328:=by
   have:=Nat.mul_le_mul (show vs.length≤1073741824 by omega) (show i.bytes≤65536 by omega)
   omega
  have hrun:(Builtin.append_ #[T,T] ty #[.slice bd 0 cp,.slice (some ⟨b2,q,none⟩) vs.length cap]).run P w= .ok (.slice (some ⟨w.heap.size,0,none⟩) vs.length (grownCap w vs.length cp e)) (w.drew.alloc (.cells ((flat fy vs.length sz).toArray++Builtin.zeroCells z.cells (grownCap w vs.length cp e-vs.length)) e)):=by
   cases bd with
   |none=>
    obtain rfl:=hbn rfl
    exact run_append_nil (P:=P) w T ty e i z hu hi hzz ⟨b2,q,none⟩ vs.length cap (flat fy vs.length sz) (by rw[flat_length,hss,e1]) hf1 (by omega) (by omega) (by omega)
   |some b0=>
    have:=run_append_grow (P:=P) w T ty e i z hu hi hzz b0 0 cp [] (by simp) (fun j v h=>by simp at h) ⟨b2,q,none⟩ vs.length cap (flat fy vs.length sz) (by rw[flat_length,hss,e1]) hf1 (by omega) (by omega) (growslice_fits (by omega) (by simpa using hbytes))
    simpa using this
  have HD:=HH.drew (w.drawn+1)
  have hzs:z.cells.size=te.zero.length:=by rw[←e3];simp
  have hge:=grownCap_ge w vs.length cp e
  have G:=Goes.newFz HD ((flat fy vs.length sz).toArray++Builtin.zeroCells z.cells (grownCap w vs.length cp e-vs.length)) e
  have hv:=RepF.newArr HD ((flat fy vs.length sz).toArray++Builtin.zeroCells z.cells (grownCap w vs.length cp e-vs.length)) e sz vs (grownCap w vs.length cp e) fy g1 (by unfold maxN;omega) hge hS.wide
   (fun i j hi hj=>by
    rw[Array.getElem?_append_left (by simp[flat_length];have:=Nat.mul_le_mul_right sz (show i+1≤vs.length by omega);rw[Nat.add_mul,Nat.one_mul]at this;omega)]
    simpa using flat_at2 fy hi hj) hS.one (fun i y j v hy hv=>RepF.evo (w:=w) (w':={w with drawn:=w.drawn+1}) (Nat.le_refl _) (fun _ _ hd=>⟨rfl,hd⟩) (hS.rep.toF rfl i y j v hy hv))
  have G2:=Goes.trans HH (Goes.drew HH (w.drawn+1)) G
  have G3:=kill G2.hok
  exact FIN (by rw[hcx,hcv];exact hrun) (Goes.trans HH G2 G3) (hv.wkF.evo G3.evo.size G3.evo.fz)
 generalize hcx:a.eval s=cx at h1
 cases h1 with
 |fz _ _ hf=>cases hf
 |dref _ _ _ _ hdd _=>exact absurd hdd (nd k)
 |ref0 _ _ sz' xs' st' bd hk'' hn=>exact GROW bd 0 hcx (by omega) (fun _=>rfl)
 | ref _ _ _ sz' xs' st' b n cp hk'' hbm hn hc hs'=>
  rw[hk]at hk''
  cases hk''
  by_cases hroom:vs.length≤cp
  case neg=>exact GROW _ cp hcx (by omega) (fun h=>by cases h)
  obtain⟨cur,el,c1,c2,c3,c4⟩:=g8 b n hbm
  have hcs:cur.size=cp*sz:=by
   have:bsize w b=cur.size:=by unfold bsize World.shape?;rw[c1];rfl
   rw[←this,←hs',Nat.zero_add]
  have hfit:vs.length*sz≤cur.size:=by rw[hcs];exact Nat.mul_le_mul_right _ hroom
  have hrun:=run_append_in hP hT hd he w ty b 0 0 cp cur el c1 ⟨b2,q,none⟩ vs.length cap (flat fy vs.length sz) (by rw[flat_length,hss]) hf1 hf2 (by omega) (by
   rw[flat_length,Nat.zero_mul];simpa using hfit)
  generalize hcur':(cur.toList.take (0+0*te.size)++flat fy vs.length sz++cur.toList.drop (0+0*te.size+(flat fy vs.length sz).length)).toArray=cur' at hrun
  rw[Nat.zero_mul,Nat.zero_add,List.take_zero,List.nil_append,Nat.zero_add]at hcur'
  have hsz':cur'.size=cur.size:=by
   rw[←hcur']
   simp only[List.size_toArray,List.length_append,List.length_drop,Array.length_toList,flat_length]
   omega
  have G:=Goes.step (w':=w.setRow b cur') HH k .dead [] (by simp) (fun j hj hn=>setRow_other w b j cur' (fun e=>hn n (by rw[e];exact hbm))) rfl rfl rfl (fun b n hm=>by simp at hm) (fun b n _=>bsize_setRow c1 hsz' b) (fun e _=> .inl rfl) fun _=>upd_same _ _ _
  have hnb:¬Dom X (upd β k []) b:=fun hd=>by
   rcases hd with hx|⟨j,n',hm⟩
   ·exact HH.free k b n hbm hx
   ·by_cases hjk:j=k
    ·subst hjk;rw[upd_same]at hm;simp at hm
    ·rw[upd_other _ _ hjk]at hm
     exact hjk (HH.disj _ _ _ _ _ hm hbm)
  refine FIN (by rw[hcx,hcv,Nat.zero_mul];exact hrun) G ?_
  rw[Nat.zero_add]
  have hne:vs≠[]:=fun h0=>by rw[h0]at hpos;simp at hpos
  refine .sl false vs b 0 sz cp fy hne ⟨Nat.lt_of_lt_of_le (HH.lt b (.inr ⟨k,n,hbm⟩)) G.size,hnb,g1,by unfold maxN;omega,hS.wide,fun i j hi hj=>?_,hS.one⟩ hroom fun i y j v hy hv=>(hS.rep.toF rfl i y j v hy hv).evo G.evo.size G.evo.fz
  rw[cell_of_heap (setRow_heap w _ _ _ _ _ c1),←hcur',Nat.zero_add,List.getElem?_toArray,List.getElem?_append_left (by
   rw[flat_length]
   have:=Nat.mul_le_mul_right sz (show i+1≤vs.length by omega)
   rw[Nat.add_mul,Nat.one_mul]at this
   omega)]
  exact flat_at2 fy hi hj⟩
end
end
section
set_option maxRecDepth 4000
set_option maxHeartbeats 2000000
def bysL (d:Dk):Nat→List Int×Dk
 |0=>([],d)
 |i+1=>((bysL d i).1++[nx (bysL d i).2 256],ad (bysL d i).2)
theorem bysL_p (d:Dk):∀i,(bysL d i).1.length=i∧rem (bysL d i).2≤rem d∧BY (bysL d i).1
 |0=>⟨rfl,Nat.le_refl _,fun x hx=>by cases hx⟩
 |i+1=>by
  obtain⟨h1,h2,h3⟩:=bysL_p d i
  have r1:=rem_ad (bysL d i).2
  have w1:=nx_bd (bysL d i).2 256 (by omega)
  refine⟨by simp only[bysL,List.length_append,List.length_cons,List.length_nil];omega,by simp only[bysL];omega,?_⟩
  simp only[bysL]
  intro x hx
  rcases List.mem_append.1 hx with hx|hx
  ·exact h3 x hx
  ·rw[List.mem_singleton]at hx;subst hx;exact w1
theorem kbytes_c (d:Dk) (n:Int) (h0:0≤n) (h1:n≤1000):CallSim Tryz.prog 43 [.ptr 1000 0 0,iA n] [(1000,dkE d)] (slA yA (bysL (ad d) (nx d (n+1)).toNat).1) [(1000,dkE (bysL (ad d) (nx d (n+1)).toNat).2)]:=by
 have c1:=next_c d (n+1) (by omega) (by omega)
 have b1:=nx_bd d (n+1) (by omega)
 generalize nx d (n+1)=k at*
 generalize ad d=d1 at*
 obtain⟨N,hN⟩:∃N:Nat,k.toNat=N:=⟨_,rfl⟩
 have hN2:k=(N:Int):=by omega
 rw[hN]
 subst hN2
 (refine eN Tryz.func43 Tryz.call43 fun F hF=>?_)
 (have zc1:=c1;refine WW ?_;clear zc1)
 refine sim_virt 5 1001 1 rfl rfl rfl ?_
 (refine sim_cnt (N) [1000,1001] [] [0] [5,6,0] rfl (fun i T U=>⟨(5,.ref 1001 0 ((bysL d1 i).1.map yA).length)::(6,iA ((N:Int)-i))::T,(1000,dkE (bysL d1 i).2)::(1001,.arr 1 ((bysL d1 i).1.map yA) true)::U⟩) ?_;(conv=>whnf);refine⟨by(rw[show(N:Int)-(0:Nat)=N by omega];rfl),?_,?_⟩)
 ·intro i hi
  have hl:=(bysL_p d1 i).1
  have eS:bysL d1 (i+1)=((bysL d1 i).1++[nx (bysL d1 i).2 256],ad (bysL d1 i).2):=rfl
  rw[show((N:Int)-((i+1:Nat):Int))=(N:Int)-i-1 by omega]
  generalize (bysL d1 i).1=p at*
  generalize (bysL d1 i).2=e at*
  have hk1:1≤(N:Int)-i:=by omega
  have hk2:(N:Int)-i≤1001:=by omega
  have hp:p.length≤1001:=by omega
  generalize (N:Int)-i=q at*
  have n1:=next_c e 256 (by omega) (by omega)
  have w1:=nx_bd e 256 (by omega)
  rw[eS]
  generalize nx e 256=y at*
  generalize ad e=e1 at*
  (have zc1:=n1;refine WW ?_;clear zc1)
  show restr _ _ _=_
  rw[List.map_append]
  rfl
 ·rw[show(N:Int)-(N:Int)=0 by omega]
  (refine WW ?_)
  exact fin_ret [1000] rfl rfl (congrArg (AV.sl false) List.take_length) rfl
theorem enR_by:∀(f:Nat) (n:Int),0≤n→n<128 ^ (f+1)→BY (enR f n)
 |0,n,h0,h1=>fun x hx=>by
  rw[enR,List.mem_singleton]at hx
  subst hx
  simp at h1
  omega
 | f+1,n,h0,h1=>fun x hx=>by
  rw[enR]at hx
  split at hx
  ·rw[List.mem_singleton]at hx
   subst hx
   omega
  ·rcases List.mem_cons.1 hx with rfl|hx
   ·omega
   ·exact enR_by f (n/128) (by omega) (div_lt h1) x hx
theorem enF_by {n:Int} (h0:0≤n) (h1:n≤4294967295):BY (enF n):=enR_by 4 n h0 (by omega)
theorem pcF_by (fx gr:Nat) (c:Int) (hc:0≤c∧c<256):∀(l:List Int) (i:Nat),NmB l→BY (pcF fx gr c i l)
 | [],_,_=>fun x hx=>by cases hx
 | y::l,i,h=>fun x hx=>by
  rw[pcF]at hx
  rcases List.mem_append.1 hx with hx|hx
  ·split at hx
   ·rw[List.mem_singleton]at hx;subst hx;exact hc
   ·cases hx
  ·rcases List.mem_append.1 hx with hx|hx
   ·have:=h y (by simp);exact enF_by this.1 this.2 x hx
   ·exact pcF_by fx gr c hc l (i+1) (fun z hz=>h z (by simp[hz])) x hx
theorem enc_pl (m:Ms) (h:MgP m) (n:Nat) (n2:n≤2) (ng:grpF m.kind≠0→1≤n) (nl:m.args.length=fixF m.kind+n*grpF m.kind):∃p,BY p∧p.length≤200∧p=plF2 (fixF m.kind) (grpF m.kind) n m∧CallSim Tryz.prog 28 [msA m] [] (.tup [slA yA p,iA 0]) []:=by
 have k1:=valid5_c m.kind h.k.1 h.k.2 m n rfl h.l (by rw[h.d];simp) h.n nl (by omega)
 have hf:=fixF_3 m.kind
 have hg:=grpF_3 m.kind
 have hgn:n*grpF m.kind≤8:=by rcases hg with e|e|e<;>rw[e]<;>omega
 have k2:=payload_c m.kind h.k.1 h.k.2 m n rfl h.l (by rw[h.d];simp) h.n (by omega) (fun _=>nl) (by omega)
 have hv:vmF (grpF m.kind) n m.data=true:=by
  unfold vmF
  rw[decide_eq_true_eq,h.d]
  exact⟨rfl,by by_cases h0:grpF m.kind=0;exact .inl h0;exact .inr (ng h0)⟩
 rw[hv]at k1
 have hpl:=pcF_len (fixF m.kind) (grpF m.kind) n m.args 0
 have hll:=h.l
 refine⟨plF2 (fixF m.kind) (grpF m.kind) n m,fun x hx=>?_,?_,rfl,?_⟩
 ·unfold plF2 at hx
  rw[h.d]at hx
  rcases List.mem_append.1 hx with hx|hx
  ·rcases List.mem_append.1 hx with hx|hx
   ·exact h.t x hx
   ·exact pcF_by _ _ _ (by omega) _ _ h.n x hx
  ·rw[List.append_nil]at hx
   split at hx
   ·rw[List.mem_singleton]at hx;omega
   ·cases hx
 ·unfold plF2
  rw[h.d,List.append_nil,List.length_append,List.length_append]
  have:(if grpF m.kind≠0∧m.args.length=fixF m.kind then [(0:Int)]else []).length≤1:=by split<;>simp
  omega
 ·generalize plF2 (fixF m.kind) (grpF m.kind) n m=p at*
  (refine eN Tryz.func28 Tryz.call28 fun F hF=>?_)
  (have zc1:=k1;have zc2:=k2;refine WW ?_;clear zc1 zc2)
  exact fr0
theorem enc_ex (m:Ms) (h:MgP m):∃p,BY p∧p.length≤200∧CallSim Tryz.prog 28 [msA m] [] (.tup [slA yA p,iA 0]) []:=by
 obtain⟨n,n2,ng,nl⟩:=h.c
 obtain⟨p,h1,h2,_,h4⟩:=enc_pl m h n n2 ng nl
 exact⟨p,h1,h2,h4⟩
theorem u8_by (y:Int):0≤IntKind.u8.wrap y∧IntKind.u8.wrap y<256:=by
 unfold IntKind.wrap
 simp[IntKind.signed,IntKind.bits]
 omega
section
variable {P:Program} {TT:List TI} {st:St}
theorem stp_appZ (hP:TOK P TT) {T e k off len sz:Nat} {s x:Operand} {ti te:TI} {xs:List AV} {fl:Fl} {xv:AV} (hs:opv (look st.tm) s= .ref k off len) (hk:lookE st.h k=some (.arr sz xs fl)) (hx:opv (look st.tm) x=xv) (hT:TT[T]? =some ti) (hd:ti.d= .slice e) (he:TT[e]? =some te) (hvs:els (lookE st.h) xv=some []):
  Stp P st (.call ⟨.builtin .append, #[s,x], #[T,T]⟩) (.ref k off len) [] (k::elk xv) []:=by
 refine⟨?_⟩
 intro X tm h hg hr _ o a w β ho HH Ht
 obtain⟨dst,op',type,pos,after,guard⟩:=o
 dsimp only at ho;subst ho
 have hk':=(hr k (by simp)).trans hk
 have h1:=arg Ht hg (x:=s) (by simp[Op.operands,Call.operands]) hs
 have h2:=arg Ht hg (x:=x) (by simp[Op.operands,Call.operands]) hx
 obtain⟨ad,cap,hcv,_⟩:=els_rep HH h2 ((els_agree fun k' hk=>hr k' (by simp[hk])).trans hvs) (sz:=0) (fun y hy=>by cases hy)
 have hsl:∃bd cp,a.eval s= .slice bd len cp∧len≤cp:=by
  generalize a.eval s=cx at h1
  cases h1 with
  |fz _ _ hf=>cases hf
  |dref _ _ _ _ hd _=>rw[hk']at hd;cases hd
  |ref0 _ _ sz' xs' st' b hk'' hn=>exact⟨_,0,rfl,Nat.le_refl _⟩
  |ref _ _ _ sz' xs' st' b n cp hk'' hbm hn hc hs'=>exact⟨_,cp,rfl,hc⟩
 obtain⟨bd,cp,hcx,hcp⟩:=hsl
 have hrun:=run_append_zero hP hT hd he w type bd ad len cp cap hcp
 have hex:(execOp a.eval ⟨dst,.call ⟨.builtin .append, #[s,x], #[T,T]⟩,type,pos,after,guard⟩).run P w= .ok (.value (.slice bd len cp)) w:=by
  rw[List.length_nil]at hcv
  simp[execOp,resolve,invoke,builtin,hcx,hcv,hrun]
 rw[hex,over_nil]
 exact⟨β,Goes.refl HH,by rw[hcx]at h1;exact h1⟩
end
section
variable {P:Program} {TT:List TI} {K0:List Nat} {F:Fr K0} {m:Nat} {ops:Array Oper} {rest:List Oper} {Q:List FP→St→Prop} {tm:List (Nat×AV)} {h:List (Nat×Ent)} {dr:Bool} {fs:List FP}
variable {ty:Nat} {pos:String} {after:Array Edge} {t:Nat}
theorem x_slcRH (hP:TOK P TT) {T e key len sz:Nat} {x l:Operand} {ti te:TI} {xs:List AV} {sl:Fl} {k:IntKind} {i:Int} (hx:opv (look tm) x= .ref key 0 len) (hk:lookE h key=some (.arr sz xs sl)) (hl:opv (look tm) l= .s (.int k i)) (hT:TT[T]? =some ti) (hd:ti.d= .slice e) (he:TT[e]? =some te)
  (hsz:Nat.beq sz te.size=true) (h0:0≤i) (h1:i≤len) (hm:Nat.blt t m=true) (hr:OpsX P F m ops dr rest ⟨(t,.ref key 0 i.toNat)::tm,h⟩ (⟨true,[],[key]⟩::fs) Q):
  OpsX P F m ops dr (⟨some t,.slice T x none (some l) none,ty,pos,after,none⟩::rest) ⟨tm,h⟩ fs Q:=by
 have:=stp_slice_ref (P:=P) (st:=⟨tm,h⟩) (lo:=none) (hi:=some l) (l:=0) (r:=i.toNat) hP hx hk hT hd he rfl ⟨k,i,hl,by omega⟩ (Nat.zero_le _) (by omega) hsz
 rw[Nat.sub_zero]at this
 exact x_q this hm hr
end
theorem spo0 (a y:Int) (h0:0≤y∧y≤1023):CallSim Tryz.prog 42 [slA yA [],iA a,iA y] [] (slA yA [IntKind.u8.wrap y]) []:=by
 (refine eN Tryz.func42 Tryz.call42 fun F hF=>?_)
 (refine WL ?_)
 exact fr0
section
variable (b:List Int) (a y k:Int) (hl:1≤b.length) (hn:b.length≤1000) (h0:0≤y∧y≤1023) (hk:a % (b.length:Int)=k)
include hl hn h0 hk
theorem spo_f (j:Int) (hj:y.tdiv 256 % 4=j):(b.map yA).length=b.length∧CallSim Tryz.prog 14 [iA a,iA (((b.map yA).length:Nat):Int)] [] (iA k) []∧CallSim Tryz.prog 14 [iA (y.tdiv 256),iA 4] [] (iA j) []∧InR .i64 (y.tdiv 256)∧0≤k∧k<(b.length:Int):=by
 have hbl:=map_len yA b
 have c1:=mod_c a (b.length:Int) (by omega) (by omega)
 have c2:=mod_c (y.tdiv 256) 4 (by omega) (by omega)
 have hk0:=Int.emod_nonneg a (show(b.length:Int)≠0 by omega)
 have hk1:=Int.emod_lt_of_pos a (show 0<(b.length:Int) by omega)
 rw[hk]at c1 hk0 hk1
 rw[hj]at c2
 exact⟨hbl,by rw[hbl];exact c1,c2,by rw[Int.tdiv_eq_ediv_of_nonneg h0.1];unfold InR;omega,hk0,hk1⟩
theorem spo3 (hj:y.tdiv 256 % 4=3):CallSim Tryz.prog 42 [slA yA b,iA a,iA y] [] (slA yA (b.take k.toNat)) []:=by
 obtain⟨hbl,c1,c2,hq,k0,k1⟩:=spo_f b a y k hl hn h0 hk 3 hj
 clear hk hj
 unfold slA
 (refine eN Tryz.func42 Tryz.call42 fun F hF=>?_)
 (have zc1:=c1;have zc2:=c2;refine WL ?_;clear zc1 zc2)
 exact fr0
theorem spo2 (hj:y.tdiv 256 % 4=2):CallSim Tryz.prog 42 [slA yA b,iA a,iA y] [] (slA yA (b.take k.toNat++[IntKind.u8.wrap y]++b.drop k.toNat)) []:=by
 obtain⟨hbl,c1,c2,hq,k0,k1⟩:=spo_f b a y k hl hn h0 hk 2 hj
 clear hk hj
 have e:slA yA (b.take k.toNat++[IntKind.u8.wrap y]++b.drop k.toNat)= .sl false ((b.take k.toNat).map yA++[yA (IntKind.u8.wrap y)]++(b.drop k.toNat).map yA):=by rw[slA,List.map_append,List.map_append];rfl
 rw[e]
 unfold slA
 have hm:(b.take k.toNat).length=k.toNat:=by rw[List.length_take];omega
 (refine eN Tryz.func42 Tryz.call42 fun F hF=>?_)
 (have zc1:=c1;have zc2:=c2;(repeat' (first|refine WY ?_|refine SG (I2 (fun hc=>?_) (fun hc=>?_))|refine SG (fun hc=>?_)|(refine is_ops ?_;refine is_call ?_;refine SC ?_)|(refine is_ops ?_;first|refine SL ?_)|refine SB ?_|refine SX ?_|fail))<;>clear zc1 zc2)
 (repeat' (first|refine WY ?_|refine SG (I2 (fun hc=>?_) (fun hc=>?_))|refine SG (fun hc=>?_)|(refine is_ops ?_;refine is_call ?_;fail)|(refine is_ops ?_;first|(refine is_bsl ?_;refine x_lit tok rfl rfl ?_)|(refine is_app ?_;refine x_appnilK 1001 tok rfl rfl rfl rfl rfl rfl (map_hd _ _ (fun _=>rfl)) rfl rfl rfl (by first|omega|(simp;omega)) rfl rfl rfl ?_))|refine SB ?_|first|refine SR ?_|refine SK (I2 (fun hc=>?_) (fun hc=>?_))|refine SK (fun hc=>?_)|fail))
 exact fin_ret [] rfl rfl (congrArg (AV.sl false) List.take_length) rfl
theorem spo00 (hj:y.tdiv 256 % 4=0):CallSim Tryz.prog 42 [slA yA b,iA a,iA y] [] (slA yA (b.set k.toNat (IntKind.u8.wrap y))) []:=by
 obtain⟨hbl,c1,c2,hq,k0,k1⟩:=spo_f b a y k hl hn h0 hk 0 hj
 clear hk hj
 have e:slA yA (b.set k.toNat (IntKind.u8.wrap y))= .sl false ((b.map yA).set k.toNat (yA (IntKind.u8.wrap y))):=by rw[slA,List.map_set]
 rw[e]
 have hy:=map_atI yA b k k0 k1
 unfold slA
 (refine eN Tryz.func42 Tryz.call42 fun F hF=>?_)
 (have zc1:=c1;have zc2:=c2;(repeat' (first|refine WZ ?_|refine SG (I2 (fun hc=>?_) (fun hc=>?_))|refine SG (fun hc=>?_)|(refine is_ops ?_;refine is_call ?_;refine SC ?_)|(refine is_ops ?_;first|(refine is_app ?_;refine x_appnilK 1001 tok rfl rfl rfl rfl rfl rfl (map_hd _ _ (fun _=>rfl)) rfl rfl rfl (by omega) rfl rfl rfl ?_))|first|refine SR ?_|refine SK (I2 (fun hc=>?_) (fun hc=>?_))|refine SK (fun hc=>?_)|fail))<;>clear zc1 zc2)
 exact fin_ret [] rfl rfl (congrArg (AV.sl false) (by rw[List.drop_zero];exact List.take_of_length_le (by simp))) rfl
theorem spo1a (hj:y.tdiv 256 % 4=1) (h1:1≤k) (h2:k+1<b.length):CallSim Tryz.prog 42 [slA yA b,iA a,iA y] [] (slA yA (b.take k.toNat++b.drop (k.toNat+1))) []:=by
 obtain⟨hbl,c1,c2,hq,k0,k1⟩:=spo_f b a y k hl hn h0 hk 1 hj
 clear hk hj
 have hB:∀y∈b.map yA,y.cells.length=1:=fun y hy=>by
  rw[List.mem_map]at hy
  obtain⟨z,_,rfl⟩:=hy
  rfl
 have e:slA yA (b.take k.toNat++b.drop (k.toNat+1))= .sl false ((b.map yA).take k.toNat++(b.map yA).drop (k.toNat+1)):=by rw[slA,List.map_append,List.map_take,List.map_drop]
 rw[e]
 unfold slA
 (refine eN Tryz.func42 Tryz.call42 fun F hF=>?_)
 (have zc1:=c1;have zc2:=c2;(repeat' (first|refine WZ ?_|refine SG (I2 (fun hc=>?_) (fun hc=>?_))|refine SG (fun hc=>?_)|(refine is_ops ?_;refine is_call ?_;refine SC ?_)|(refine is_ops ?_;first|(refine is_app ?_;refine x_appnilK 1001 tok rfl rfl rfl rfl rfl rfl (map_hd _ _ (fun _=>rfl)) rfl rfl rfl (by omega) rfl rfl rfl ?_))|refine SX ?_|fail))<;>clear zc1 zc2)
 refine sim_block ?_
 (repeat' (first|refine WZ ?_|refine SG (I2 (fun hc=>?_) (fun hc=>?_))|refine SG (fun hc=>?_)|(refine is_ops ?_;refine is_call ?_;fail)|(refine is_ops ?_;first|(refine is_slc ?_;first|refine x_slcRL tok rfl rfl rfl rfl rfl rfl rfl (by omega) (by omega) rfl ?_|refine x_slcRH tok rfl rfl rfl rfl rfl rfl rfl (by omega) (by omega) rfl ?_)|(refine is_app ?_;refine x_appIn tok rfl rfl rfl rfl rfl rfl rfl rfl (fun y hy=>hB y (List.mem_of_mem_drop (List.mem_of_mem_take (List.mem_of_getElem? hy)))) (by simp;omega) (by omega) (by simp;omega) (by omega) rfl rfl ?_))|first|refine SR ?_|refine SK (I2 (fun hc=>?_) (fun hc=>?_))|refine SK (fun hc=>?_)|fail))
 refine fin_ret [] rfl rfl (congrArg (AV.sl false) ?_) rfl
 have hv:List.take ((b.map yA).length-(k+1).toNat) (List.drop (k+1).toNat (b.map yA))=List.drop (k.toNat+1) (b.map yA):=by
  rw[show(k+1).toNat=k.toNat+1 by omega]
  exact List.take_of_length_le (by rw[List.length_drop];omega)
 rw[hv,List.drop_zero]
 exact List.take_left' (by rw[List.length_append,List.length_take];omega)
theorem spo1b (hj:y.tdiv 256 % 4=1) (h2:k+1=b.length):CallSim Tryz.prog 42 [slA yA b,iA a,iA y] [] (slA yA (b.take k.toNat)) []:=by
 obtain⟨hbl,c1,c2,hq,k0,k1⟩:=spo_f b a y k hl hn h0 hk 1 hj
 clear hk hj
 have e:slA yA (b.take k.toNat)= .sl false ((b.map yA).take k.toNat):=by rw[slA,List.map_take]
 rw[e]
 have hv:((b.map yA).drop (k+1).toNat).take ((b.map yA).length-(k+1).toNat)=[]:=by
  rw[show(b.map yA).length-(k+1).toNat=0 by omega,List.take_zero]
 unfold slA
 (refine eN Tryz.func42 Tryz.call42 fun F hF=>?_)
 (have zc1:=c1;have zc2:=c2;(repeat' (first|refine WZ ?_|refine SG (I2 (fun hc=>?_) (fun hc=>?_))|refine SG (fun hc=>?_)|(refine is_ops ?_;refine is_call ?_;refine SC ?_)|(refine is_ops ?_;first|(refine is_app ?_;refine x_appnilK 1001 tok rfl rfl rfl rfl rfl rfl (map_hd _ _ (fun _=>rfl)) rfl rfl rfl (by omega) rfl rfl rfl ?_))|refine SX ?_|fail))<;>clear zc1 zc2)
 refine sim_block ?_
 (repeat' (first|refine WZ ?_|refine SG (I2 (fun hc=>?_) (fun hc=>?_))|refine SG (fun hc=>?_)|(refine is_ops ?_;refine is_call ?_;fail)|(refine is_ops ?_;first|(refine is_slc ?_;first|refine x_slcRL tok rfl rfl rfl rfl rfl rfl rfl (by omega) (by omega) rfl ?_|refine x_slcRH tok rfl rfl rfl rfl rfl rfl rfl (by omega) (by omega) rfl ?_)|(refine is_app ?_;refine x_q (stp_appZ tok rfl rfl rfl rfl rfl rfl ((congrArg some hv:some _=_))) rfl ?_))|first|refine SR ?_|refine SK (I2 (fun hc=>?_) (fun hc=>?_))|refine SK (fun hc=>?_)|fail))
 exact fr0
theorem spo1c (hj:y.tdiv 256 % 4=1) (h2:k=0) (h3:1<b.length):CallSim Tryz.prog 42 [slA yA b,iA a,iA y] [] (slA yA (b.drop 1)) []:=by
 obtain⟨hbl,c1,c2,hq,k0,k1⟩:=spo_f b a y k hl hn h0 hk 1 hj
 subst h2
 clear hk hj
 have hB:∀y∈b.map yA,y.cells.length=1:=fun y hy=>by
  rw[List.mem_map]at hy
  obtain⟨z,_,rfl⟩:=hy
  rfl
 have e:slA yA (b.drop 1)= .sl false ((b.map yA).drop 1):=by rw[slA,List.map_drop]
 rw[e]
 unfold slA
 (refine eN Tryz.func42 Tryz.call42 fun F hF=>?_)
 (have zc1:=c1;have zc2:=c2;(repeat' (first|refine WZ ?_|refine SG (I2 (fun hc=>?_) (fun hc=>?_))|refine SG (fun hc=>?_)|(refine is_ops ?_;refine is_call ?_;refine SC ?_)|(refine is_ops ?_;first|(refine is_app ?_;refine x_appnilK 1001 tok rfl rfl rfl rfl rfl rfl (map_hd _ _ (fun _=>rfl)) rfl rfl rfl (by omega) rfl rfl rfl ?_))|refine SX ?_|fail))<;>clear zc1 zc2)
 refine sim_block ?_
 (repeat' (first|refine WS ?_|refine SG (I2 (fun hc=>?_) (fun hc=>?_))|refine SG (fun hc=>?_)|(refine is_ops ?_;refine is_call ?_;fail)|(refine is_ops ?_;first|(refine is_slc ?_;first|refine x_slcRL tok rfl rfl rfl rfl rfl rfl rfl (by omega) (by omega) rfl ?_|refine x_slcR0 tok rfl rfl rfl rfl rfl rfl rfl rfl ?_))|(first|refine x_drawL 7 9 rfl rfl ?_|first|refine SR ?_|refine SK (I2 (fun hc=>?_) (fun hc=>?_))|refine SK (fun hc=>?_))|fail))
 refine x_cutC (by kernel_rfl) ?_
 refine x_appC [] [] tok rfl rfl rfl rfl rfl rfl rfl rfl (fun y hy=>hB y (List.mem_of_mem_drop (List.mem_of_mem_take (List.mem_of_getElem? hy)))) rfl rfl (by simp;omega) (by simp;omega) rfl rfl rfl rfl ?_
 (refine WW ?_)
 refine fin_ret [] rfl rfl ?_ rfl
 show AV.sl false (List.take ((b.map yA).length-1) (List.drop 1 (b.map yA)))=_
 rw[List.take_of_length_le (by rw[List.length_drop];omega)]
end
theorem spoilt_ex (b:List Int) (hb:BY b) (hn:b.length≤1000) (a y:Int) (h0:0≤y∧y≤1023):∃q,BY q∧q.length≤b.length+1∧CallSim Tryz.prog 42 [slA yA b,iA a,iA y] [] (slA yA q) []:=by
 have hw:=u8_by y
 by_cases hl:1≤b.length
 case neg=>
  have e:b=[]:=List.eq_nil_of_length_eq_zero (by omega)
  subst e
  exact⟨_,fun x hx=>by rw[List.mem_singleton]at hx;subst hx;exact hw,by simp,spo0 a y h0⟩
 have k0:=Int.emod_nonneg a (show(b.length:Int)≠0 by omega)
 have k1:=Int.emod_lt_of_pos a (show 0<(b.length:Int) by omega)
 have j0:=Int.emod_nonneg (y.tdiv 256) (show(4:Int)≠0 by omega)
 have j1:=Int.emod_lt_of_pos (y.tdiv 256) (show(0:Int)<4 by omega)
 have hT:BY (b.take (a % (b.length:Int)).toNat):=fun x hx=>hb x (List.mem_of_mem_take hx)
 have hD:∀n,BY (b.drop n):=fun n x hx=>hb x (List.mem_of_mem_drop hx)
 have hlt:(b.take (a % (b.length:Int)).toNat).length≤b.length:=by rw[List.length_take];omega
 obtain hj|hj|hj|hj:y.tdiv 256 % 4=0∨y.tdiv 256 % 4=1∨y.tdiv 256 % 4=2∨y.tdiv 256 % 4=3:=by omega
 ·refine⟨_,fun x hx=>?_,by rw[List.length_set];omega,spo00 b a y _ hl hn h0 rfl hj⟩
  rcases List.mem_or_eq_of_mem_set hx with h|rfl
  ·exact hb x h
  ·exact hw
 ·by_cases h2:a % (b.length:Int)+1=b.length
  ·exact⟨_,hT,by omega,spo1b b a y _ hl hn h0 rfl hj h2⟩
  ·by_cases h1:1≤a % (b.length:Int)
   ·refine⟨_,fun x hx=>?_,?_,spo1a b a y _ hl hn h0 rfl hj h1 (by omega)⟩
    ·rcases List.mem_append.1 hx with h|h
     ·exact hT x h
     ·exact hD _ x h
    ·rw[List.length_append,List.length_drop,List.length_take];omega
   ·exact⟨_,hD 1,by rw[List.length_drop];omega,spo1c b a y _ hl hn h0 rfl hj (by omega) (by omega)⟩
 ·refine⟨_,fun x hx=>?_,?_,spo2 b a y _ hl hn h0 rfl hj⟩
  ·rcases List.mem_append.1 hx with h|h
   ·rcases List.mem_append.1 h with h|h
    ·exact hT x h
    ·rw[List.mem_singleton]at h;subst h;exact hw
   ·exact hD _ x h
  ·rw[List.length_append,List.length_append,List.length_drop,List.length_take,List.length_singleton];omega
 ·exact⟨_,hT,by omega,spo3 b a y _ hl hn h0 rfl hj⟩
def ItB (i:It):Prop:=BY i.pay∧i.pay.length≤1000
theorem item_ex (c:Cf) (hc:CfW c) (g:Int) (hg:0≤g∧g<256) (d:Dk):∃(i:It) (d':Dk),ItB i∧rem d'≤rem d∧CallSim Tryz.prog 15 [.ptr 1000 0 0,cfA c,iA g] [(1000,dkE d)] (itA i) [(1000,dkE d')]:=by
 obtain⟨m,d1,hm,r1,c1⟩:=qmessage_ex c hc g hg false d
 obtain⟨p,hp,hl,c2⟩:=enc_ex m hm
 have c3:=next_c d1 12 (by omega) (by omega)
 have w3:=nx_bd d1 12 (by omega)
 have r2:=rem_ad d1
 unfold cfA at*
 unfold msA itA at*
 by_cases h9:nx d1 12=9
 ·have c4:=next_c (ad d1) 40 (by omega) (by omega)
  have c5:=next_c (ad (ad d1)) 1024 (by omega) (by omega)
  have w5:=nx_bd (ad (ad d1)) 1024 (by omega)
  have r3:=rem_ad (ad d1)
  have r4:=rem_ad (ad (ad d1))
  obtain⟨q,hq,hql,c6⟩:=spoilt_ex p hp (by omega) (nx (ad d1) 40) (nx (ad (ad d1)) 1024) (by omega)
  refine⟨⟨0,m.kind,q⟩,ad (ad (ad d1)),⟨hq,by dsimp only;omega⟩,by omega,?_⟩
  rw[h9]at c3
  (refine eN Tryz.func15 Tryz.call15 fun F hF=>?_)
  (have zc1:=c1;have zc2:=c2;have zc3:=c3;have zc4:=c4;have zc5:=c5;have zc6:=c6;refine WW ?_;clear zc1 zc2 zc3 zc4 zc5 zc6)
  exact fin_own [1000] rfl rfl rfl rfl
 by_cases h10:nx d1 12=10
 ·have c4:=next_c (ad d1) 6 (by omega) (by omega)
  have w4:=nx_bd (ad d1) 6 (by omega)
  have r3:=rem_ad (ad d1)
  refine⟨⟨2+nx (ad d1) 6,0,[]⟩,ad (ad d1),⟨fun x hx=>(by cases hx),Nat.zero_le _⟩,by omega,?_⟩
  rw[h10]at c3
  (refine eN Tryz.func15 Tryz.call15 fun F hF=>?_)
  (have zc1:=c1;have zc2:=c2;have zc3:=c3;have zc4:=c4;refine WW ?_;clear zc1 zc2 zc3 zc4)
  exact fin_ret [1000] rfl rfl rfl rfl
 by_cases h11:nx d1 12=11
 ·have c4:=next_c (ad d1) 10 (by omega) (by omega)
  have w4:=nx_bd (ad d1) 10 (by omega)
  have r3:=rem_ad (ad d1)
  have c5:=kbytes_c (ad (ad d1)) 9 (by omega) (by omega)
  have w5:=nx_bd (ad (ad d1)) (9+1) (by omega)
  have r4:=rem_ad (ad (ad d1))
  obtain⟨q1,q2,q3⟩:=bysL_p (ad (ad (ad d1))) (nx (ad (ad d1)) (9+1)).toNat
  generalize bysL (ad (ad (ad d1))) (nx (ad (ad d1)) (9+1)).toNat=v at*
  refine⟨⟨0,13+nx (ad d1) 10,v.1⟩,v.2,⟨q3,by dsimp only;omega⟩,by omega,?_⟩
  rw[h11]at c3
  (refine eN Tryz.func15 Tryz.call15 fun F hF=>?_)
  (have zc1:=c1;have zc2:=c2;have zc3:=c3;have zc4:=c4;have zc5:=c5;refine WW ?_;clear zc1 zc2 zc3 zc4 zc5)
  exact fin_ret [1000] rfl rfl rfl rfl
 ·refine⟨⟨0,m.kind,p⟩,ad d1,⟨hp,by dsimp only;omega⟩,by omega,?_⟩
  generalize nx d1 12=x at*
  (refine eN Tryz.func15 Tryz.call15 fun F hF=>?_)
  (have zc1:=c1;have zc2:=c2;have zc3:=c3;refine WW ?_;clear zc1 zc2 zc3)
  exact fin_own [1000] rfl rfl rfl rfl
end
end Av
end Go.Proofs.YtaikgchmpieooaaGreat
