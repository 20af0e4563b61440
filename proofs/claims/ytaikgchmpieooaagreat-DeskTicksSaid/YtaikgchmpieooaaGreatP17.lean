/- Part 17: contracts of the functions, and what they rest upon. -/
import Derived.Test.YtaikgchmpieooaaGreatP16
namespace Go.Proofs.YtaikgchmpieooaaGreat
namespace Av
set_option linter.unusedSimpArgs false
set_option linter.unusedVariables false
set_option maxRecDepth 4000
section
variable {P:Program} {TT:List TI} {st:St}
theorem stp_appmk (hP:TOK P TT) {T I e n:Nat} {s x:Operand} {ti te tn:TI} {k0:IntKind} {nx:Int} (kn:Nat) (hs:opv (look st.tm) s= .s (.slice none 0 0)) (hx:opv (look st.tm) x= .s (.int .i64 nx)) (hT:TT[T]? =some ti) (hd:ti.d= .slice e) (he:TT[e]? =some te) (hI:TT[I]? =some tn) (hdn:tn.d= .int k0)
  (hnx:nx=(n:Int)) (hpos:1≤n) (hmax:n≤1073741824) (hb:Nat.ble te.bytes 65536=true) (hp:Nat.ble 1 te.size=true) (hzl:Nat.beq te.zero.length te.size=true) (hz1:te.zero.all (·.oneCell')=true) (hzc:Nat.beq (zeroA te).cells.length te.size=true) (hzc2:(zeroA te).cells=te.zero.map .s):
  Stp P st (.call ⟨.builtin .append, #[s,x], #[T,I]⟩) (.ref kn 0 n) [(kn,.arr te.size (List.replicate n (zeroA te)) false)] [] [kn]:=by
 refine⟨?_⟩
 intro X tm h hg _ hn o a w β ho HH Ht
 obtain⟨dst,op',type,pos,after,guard⟩:=o
 dsimp only at ho;subst ho
 have h1:=arg_s Ht hg (x:=s) (by simp[Op.operands,Call.operands]) hs
 have h2:=arg_s Ht hg (x:=x) (by simp[Op.operands,Call.operands]) hx
 have hp:=Nat.le_of_ble_eq_true hp
 have hb:=Nat.le_of_ble_eq_true hb
 have hzl:=Nat.eq_of_beq_eq_true hzl
 have hzc:=Nat.eq_of_beq_eq_true hzc
 subst hnx
 obtain⟨i,z,hu,hi,hz,e1,e2,e3⟩:=slice_facts hP hT hd he
 obtain⟨_,u2,_,_,hu2,_,hd2,_⟩:=tiOf_some (hP _ _ hI)
 obtain rfl:=td_int (hd2.symm.trans hdn)
 have hbytes:n*i.bytes≤281474976710656:=by
  have:=Nat.mul_le_mul hmax (show i.bytes≤65536 by omega)
  omega
 have hw:IntKind.i64.wrap (n:Int)=(n:Int):=wrap_in ⟨by show(-9223372036854775808:Int)≤_;omega,by show _≤(9223372036854775807:Int);omega⟩
 have hs0:n*i.size≠0:=by
  have:1*1≤n*i.size:=Nat.mul_le_mul hpos (by omega)
  omega
 have h48:¬(281474976710656<(n:Int)*(i.bytes:Int)):=by
  have h3:(n:Int)*(i.bytes:Int)=((n*i.bytes:Nat):Int):=by simp
  rw[h3];omega
 have h48':¬(281474976710656<Builtin.nextslicecap n 0*i.bytes):=by rw[nextslicecap_zero hpos];omega
 have h63:¬(9223372036854775807<(n:Int)):=by omega
 have hn0:n≠0:=by omega
 have hneg:¬((n:Int)<0):=by omega
 have hrun:(Builtin.append_ #[T,I] type #[.slice none 0 0,.int .i64 (n:Int)]).run P w= .ok (.slice (some ⟨w.heap.size,0,none⟩) n (grownCap w n 0 e)) (w.drew.alloc (.cells (Builtin.zeroCells z.cells n++Builtin.zeroCells z.cells (grownCap w n 0 e-n)) e)):=by
  have ha:(asIntOf (.int .i64 (n:Int))).run P w= .ok (.i64,(n:Int)) w:=rfl
  have hn1:¬((n:Int)≤0):=by omega
  simp[Builtin.append_,run_underlying hu,run_underlying hu2,sizeOf,typeInfo,zeroValue,hi,hz,asInt,ha,hw,hneg,hn1,h48,hs0,hn0,h63,h48',Question.forced,run_firstCells_none,newRow,grownCap]
 have hex:(execOp a.eval ⟨dst,.call ⟨.builtin .append, #[s,x], #[T,I]⟩,type,pos,after,guard⟩).run P w= .ok (.value (.slice (some ⟨w.heap.size,0,none⟩) n (grownCap w n 0 e))) (w.drew.alloc (.cells (Builtin.zeroCells z.cells n++Builtin.zeroCells z.cells (grownCap w n 0 e-n)) e)):=by
  simp[execOp,resolve,invoke,builtin,h1,h2,hrun]
 rw[hex]
 have HD:=HH.drew (w.drawn+1)
 have hzs:z.cells.size=te.size:=by rw[←hzl,←e3];simp
 have hge:=grownCap_ge w n 0 e
 have hrl:(List.replicate n (zeroA te)).length=n:=by simp
 have hat:∀(j:Nat) v,(List.replicate n (zeroA te))[j]? =some v→v=zeroA te:=fun j v hv=>by
  rw[List.getElem?_replicate]at hv
  split at hv
  ·exact(Option.some.inj hv).symm
  ·cases hv
 have hzat:∀j,j<te.size→∃v,te.zero[j]? =some v∧z.cells.getD j undef=v:=fun j hj=>by
  have:=getD_eq z.cells j (by omega)
  refine⟨_,?_,rfl⟩
  rw[←e3]
  simpa using this
 obtain⟨β',G,hv⟩:=Goes.newArr HD (hn kn (by simp)) (Builtin.zeroCells z.cells n++Builtin.zeroCells z.cells (grownCap w n 0 e-n)) e te.size (List.replicate n (zeroA te)) (grownCap w n 0 e) (fun _ j=>z.cells.getD j undef) hp (by rw[hrl];unfold maxN;omega) (by rw[hrl];omega) (by
   simp only[Array.size_append,size_zeroCells,hzs,←Nat.add_mul]
   congr 1;omega) (OneA.get ((OneA.zero (fun v hv=>List.all_eq_true.1 hz1 v (by rw[←e3];exact hv)) _).app (OneA.zero (fun v hv=>List.all_eq_true.1 hz1 v (by rw[←e3];exact hv)) _)))
  (fun j v hv=>by rw[hat j v hv];exact hzc) (fun i' j hi' hj=>by
   rw[hrl]at hi'
   have hlt:i'*te.size+j<n*te.size:=by
    have:=Nat.mul_le_mul_right te.size (show i'+1≤n by omega)
    rw[Nat.add_mul,Nat.one_mul]at this
    omega
   have hm':(i'*te.size+j) % te.size=j:=by rw[Nat.mul_comm,Nat.mul_add_mod];exact Nat.mod_eq_of_lt hj
   rw[Array.getElem?_append_left (by rw[size_zeroCells,hzs];exact hlt)]
   have hj':j<z.cells.size:=by omega
   simp only[Builtin.zeroCells,Array.getElem?_map,Array.getElem?_range,hzs,hlt,if_true,Option.map_some,hm']
   congr 1
   simp[Array.getD_eq_getD_getElem?,hj']) (fun i' j _ hj=>by
   obtain⟨v,hv,hv'⟩:=hzat j hj
   rw[hv']
   exact List.all_eq_true.1 hz1 v (List.mem_of_getElem? hv)) (fun i' v j u hv hu=>by
   rw[hat i' v hv,hzc2]at hu
   rw[List.getElem?_map]at hu
   have hj:j<te.size:=by
    cases hz9:te.zero[j]? with
    |none=>rw[hz9]at hu;cases hu
    |some v9=>have:=(List.getElem?_eq_some_iff.1 hz9).1;omega
   obtain⟨v2,hv2,hv3⟩:=hzat j hj
   rw[hv2]at hu
   cases hu
   rw[hv3]
   exact .s _)
 rw[hrl]at hv
 exact⟨β',Goes.trans HH (Goes.drew HH (w.drawn+1)) G,hv⟩
theorem stp_capNil (hP:TOK P TT) {T e:Nat} {x:Operand} {ti:TI} (hx:opv (look st.tm) x= .s (.slice none 0 0)) (hT:TT[T]? =some ti) (hd:ti.d= .slice e):
  Stp P st (.call ⟨.builtin .cap, #[x], #[T]⟩) (.s (.int .i64 0)) [] [] []:=
 stp_val fun oo X tm h w β a ho hg hr HH Ht=>by
  obtain⟨dst,op',type,pos,after,guard⟩:=oo
  dsimp only at ho;subst ho
  have hc:=arg_s Ht hg (x:=x) (by simp[Op.operands,Call.operands]) hx
  obtain⟨u,hu,hd'⟩:=run_under (hP _ _ hT) w
  obtain rfl:=td_slice (hd'.trans hd)
  exact⟨_,by simp[execOp,resolve,invoke,builtin,Builtin.cap_,hc,hu,goInt],.fz _ _ (.s _)⟩
theorem stp_slcNil (hP:TOK P TT) {T e:Nat} {x l:Operand} {ti te:TI} {k:IntKind} (hx:opv (look st.tm) x= .s (.slice none 0 0)) (hl:opv (look st.tm) l= .s (.int k 0)) (hT:TT[T]? =some ti) (hd:ti.d= .slice e) (he:TT[e]? =some te):
  Stp P st (.slice T x none (some l) none) (.s (.slice none 0 0)) [] [] []:=
 stp_val fun oo X tm h w β a ho hg hr HH Ht=>by
  obtain⟨dst,op',type,pos,after,guard⟩:=oo
  dsimp only at ho;subst ho
  have hc:=arg_s Ht hg (x:=x) (by simp[Op.operands]) hx
  obtain⟨u,hu,hd'⟩:=run_under (hP _ _ hT) w
  obtain rfl:=td_slice (hd'.trans hd)
  have hs:=run_size (hP _ _ he) w
  have hb:=run_bounds (P:=P) Ht hg (lo:=none) (hi:=some l) (len:=0) (cap:=0) (l:=0) (r:=0) (fun y hy=>by cases hy) (fun y hy=>by cases hy;simp[Op.operands]) rfl ⟨k,0,hl,by omega⟩ (Nat.le_refl _) (Nat.le_refl _) true
  rw[Option.map_none]at hb
  exact⟨_,by simp only[execOp,Instr.sliceAt,Instr.slice,Sem.run_bind,hu,Result.andThen_ok,hc,Option.map_none,hb,hs,Sem.run_pure];rfl,.fz _ _ (.s _)⟩
theorem stp_copy (hP:TOK P TT) {T e key off len sz:Nat} {d x:Operand} {ti te:TI} {xs ys:List AV} {xv:AV} (hdv:opv (look st.tm) d= .ref key off len) (hk:lookE st.h key=some (.arr sz xs false)) (hx:opv (look st.tm) x=xv) (hT:TT[T]? =some ti) (hd:ti.d= .slice e) (he:TT[e]? =some te)
  (hys:els (lookE st.h) xv=some ys) (hsz:∀y,ys[0]? =some y→y.cells.length=sz) (hss:Nat.beq sz te.size=true) (hn:ys.length≤len):
  Stp P st (.call ⟨.builtin .copy, #[d,x], #[T,T]⟩) (.s (.int .i64 ys.length)) [(key,.arr sz (xs.take off++ys++xs.drop (off+ys.length)) false)] (key::elk xv) []:=by
 refine⟨?_⟩
 intro X tm h hg hr _ o a w β ho HH Ht
 obtain⟨dst,op',type,pos,after,guard⟩:=o
 dsimp only at ho;subst ho
 have hk':=(hr key (by simp)).trans hk
 have h1:=arg Ht hg (x:=d) (by simp[Op.operands,Call.operands]) hdv
 have h2:=arg Ht hg (x:=x) (by simp[Op.operands,Call.operands]) hx
 have hss:=Nat.eq_of_beq_eq_true hss
 obtain⟨g1,g2,g3,g4,g5,f,g6,g7,g8⟩:=HH.ent key _ hk'
 obtain⟨ad,cap,hc,_,hmax,hsrc⟩:=els_rep HH h2 ((els_agree fun k' hk=>hr k' (by simp[hk])).trans hys) hsz
 obtain⟨i,z,hu,hi,hzz,e1,e2,e3⟩:=slice_facts hP hT hd he
 have hnx:∀b n,(b,n)∈β key→n=xs.length∨n=0:=fun b n hb=>by
  cases hbk:β key with
  |nil=>rw[hbk]at hb;simp at hb
  |cons q rr=>
   obtain⟨b0,n0⟩:=q
   obtain⟨q1,q2,_⟩:=g5 b0 n0 rr hbk
   rw[hbk]at hb
   simp at hb
   rcases hb with⟨_,rfl⟩|hb
   ·exact .inl q1
   ·exact .inr (q2 rfl b n hb)
 have hop:∀{w'},(Builtin.copy_ #[T,T] type #[a.eval d,a.eval x]).run P w= .ok (goInt ys.length) w'→(execOp a.eval ⟨dst,.call ⟨.builtin .copy, #[d,x], #[T,T]⟩,type,pos,after,guard⟩).run P w= .ok (.value (.int .i64 ys.length)) w':=fun hv=>by
  simp[execOp,resolve,invoke,builtin,hv,goInt]
 by_cases hnil:ys=[]
 ·subst hnil
  have hxs:xs.take off++[]++xs.drop (off+([]:List AV).length)=xs:=by simp
  rw[hxs]
  obtain⟨bd,cp,hcs⟩:∃bd cp,a.eval d= .slice bd len cp:=by
   generalize a.eval d=cx at h1
   cases h1 with
   |fz _ _ hf=>cases hf
   |dref _ _ _ _ hd _=>rw[hk']at hd;cases hd
   |ref _ _ _ _ _ _ _ _ _ _ _ _ _ _=>exact⟨_,_,rfl⟩
   |ref0 _ _ _ _ _ _ _ _=>exact⟨_,_,rfl⟩
  have hf1:(Builtin.firstCells i.size 0 (.slice ad 0 cap)).run P w= .ok #[] w:=by
   cases ad with
   |none=>rfl
   |some a=>simp only[Builtin.firstCells,loadCells,Nat.zero_mul,loadCellsFrom];rfl
  rw[hop (w':=w) (by
   rw[hcs,hc]
   cases bd with
   |none=>simp[Builtin.copy_,run_underlying hu,sizeOf,typeInfo,hi,Builtin.lenOf,hf1]
   |some b=>simp[Builtin.copy_,run_underlying hu,sizeOf,typeInfo,hi,Builtin.lenOf,hf1,storeCells])]
  have G:=Goes.step (w':=w) HH key (.arr sz xs false) (β key) (Nat.le_refl _) (fun _ _ _=>rfl) rfl rfl rfl (fun b n hm=> .inl ⟨n,hm⟩) (fun _ _ _=>rfl) (fun e he=>by rw[hk']at he;cases he;exact .inr ⟨⟨_,_,rfl,Nat.le_refl _⟩,fun _ n hm=>⟨n,Nat.le_refl _,hm⟩⟩)
   (fun E=>⟨g1,g2,fun h=>by rw[upd_same];exact g3 h,g4,fun b n r hr=>by rw[upd_same]at hr;exact g5 b n r hr,f,ContOK.evo E g6,g7,fun b n hm=>by rw[upd_same]at hm;exact g8 b n hm⟩)
  exact⟨_,G,.fz _ _ (.s _)⟩
 obtain⟨b2,q,fy,rfl,hS⟩:=hsrc hnil
 have hpos:0<ys.length:=by cases ys with|nil=>exact absurd rfl hnil|cons _ _=>simp
 obtain⟨hf1,hf2⟩:=hS.flat g1
 obtain⟨b,n,cp,hcs,hbm,hnl,hcp⟩:∃b n cp,a.eval d= .slice (some ⟨b,off*sz,none⟩) len cp∧(b,n)∈β key∧off+len≤n∧len≤cp:=by
  generalize a.eval d=cx at h1
  cases h1 with
  |fz _ _ hf=>cases hf
  |dref _ _ _ _ hd _=>rw[hk']at hd;cases hd
  |ref _ _ _ sz' xs' st' b n cp hk2 hb hn hc2 hs2=>
   rw[hk']at hk2
   cases hk2
   exact⟨b,n,cp,rfl,hb,hn,hc2⟩
  |ref0 _ _ _ _ _ _ _ _=>omega
 have hnn:n=xs.length:=by rcases hnx b n hbm with h|h<;>omega
 subst hnn
 obtain⟨cur,el,c1,c2,c3,c4⟩:=g8 b _ hbm
 have hfit:(off+ys.length)*sz≤cur.size:=Nat.le_trans (Nat.mul_le_mul_right _ (by omega)) c2
 have hmin:Nat.min ys.length len=ys.length:=Nat.min_eq_left hn
 have hfc:=run_firstCells_some (P:=P) w sz ys.length ⟨b2,q,none⟩ ys.length cap (flat fy ys.length sz) (flat_length _ _ _) hf1
 have hst:=run_storeCells_at P b (off*sz) el (flat fy ys.length sz) 0 cur w c1 (by rw[flat_length,Nat.add_zero,←Nat.add_mul];exact hfit) hf2
 simp only[Nat.add_zero]at hst
 generalize hcur':(cur.toList.take (off*sz)++flat fy ys.length sz++cur.toList.drop (off*sz+(flat fy ys.length sz).length)).toArray=cur' at hst
 rw[hop (w':=w.setRow b cur') (by
  rw[hcs,hc]
  have e1':i.size=sz:=e1.trans hss.symm
  rw[←e1']at hfc
  have hst2:(storeCells ⟨b,off*sz,none⟩ (flat fy ys.length i.size)).run P w= .ok () (w.setRow b cur'):=by rw[e1'];exact hst
  simp[Builtin.copy_,run_underlying hu,Builtin.lenOf,sizeOf,typeInfo,hi,Nat.min_eq_left hn,hfc,hst2])]
 rw[Nat.add_mul]at hfit
 have hsz':cur'.size=cur.size:=by
  rw[←hcur']
  simp only[List.size_toArray,List.length_append,List.length_take,List.length_drop,Array.length_toList,flat_length]
  omega
 have hone2:∀q,q<cur'.size→(cur'.getD q undef).oneCell'=true:=by
  rw[←hcur']
  refine OneA.get (OneA.arr fun v hv=>?_)
  have hc4:=OneA.of c4
  rcases List.mem_append.1 hv with hv|hv
  ·rcases List.mem_append.1 hv with hv|hv
   ·exact hc4 v (List.mem_of_mem_take hv)
   ·exact hf2 v hv
  ·exact hc4 v (List.mem_of_mem_drop hv)
 let f':Nat→Nat→Value:=fun i j=>if off≤i∧i<off+ys.length then fy (i-off) j else f i j
 have hoff:off+ys.length≤xs.length:=by omega
 have hlen:(xs.take off++ys++xs.drop (off+ys.length)).length=xs.length:=by
  simp only[List.length_append,List.length_take,List.length_drop];omega
 have hat:∀(i:Nat) y,(xs.take off++ys++xs.drop (off+ys.length))[i]? =some y→(off≤i∧i<off+ys.length∧ys[i-off]? =some y)∨(¬(off≤i∧i<off+ys.length)∧xs[i]? =some y):=fun i y hy=>by
  have ht:(xs.take off).length=off:=by simp;omega
  by_cases h5:i<off
  ·rw[List.append_assoc,List.getElem?_append_left (by omega),List.getElem?_take,if_pos h5]at hy
   exact .inr ⟨by omega,hy⟩
  ·by_cases h6:i<off+ys.length
   ·rw[List.append_assoc,List.getElem?_append_right (by omega),ht,List.getElem?_append_left (by omega)]at hy
    exact .inl ⟨by omega,h6,hy⟩
   ·rw[List.getElem?_append_right (by simp;omega)]at hy
    simp only[List.length_append,ht]at hy
    rw[List.getElem?_drop,show off+ys.length+(i-(off+ys.length))=i by omega]at hy
    exact .inr ⟨by omega,hy⟩
 have hcell:∀i j,i<xs.length→j<sz→cur'[i*sz+j]? =some (f' i j):=fun i j hi hj=>by
  rw[←hcur']
  simp only[f',List.getElem?_toArray]
  by_cases h5:i<off
  ·have hlt:i*sz+j<off*sz:=by
    have:=Nat.mul_le_mul_right sz (show i+1≤off by omega)
    rw[Nat.add_mul,Nat.one_mul]at this
    omega
   rw[if_neg (by omega),List.append_assoc,List.getElem?_append_left (by simp;omega),List.getElem?_take,if_pos hlt]
   simpa using c3 i j hi hj
  ·have ht:(List.take (off*sz) cur.toList).length=off*sz:=by simp;omega
   have hge:off*sz≤i*sz:=Nat.mul_le_mul_right _ (by omega)
   by_cases h6:i<off+ys.length
   ·have e4:i*sz+j-off*sz=(i-off)*sz+j:=by rw[Nat.sub_mul];omega
    have hlt:(i-off)*sz+j<ys.length*sz:=by
     have:=Nat.mul_le_mul_right sz (show(i-off)+1≤ys.length by omega)
     rw[Nat.add_mul,Nat.one_mul]at this
     omega
    rw[if_pos (by omega),List.append_assoc,List.getElem?_append_right (by rw[ht];omega),ht,List.getElem?_append_left (by rw[flat_length];omega),e4]
    exact flat_at2 fy (by omega) hj
   ·have hge2:(off+ys.length)*sz≤i*sz:=Nat.mul_le_mul_right _ (by omega)
    rw[Nat.add_mul]at hge2
    rw[if_neg (by omega),List.getElem?_append_right (by simp only[List.length_append,ht,flat_length];omega),List.getElem?_drop]
    simp only[List.length_append,ht,flat_length]
    rw[show off*sz+ys.length*sz+(i*sz+j-(off*sz+ys.length*sz))=i*sz+j by omega]
    simpa using c3 i j hi hj
 obtain⟨rr,hbk,hr0⟩:∃rr,β key=(b,xs.length)::rr∧∀b' n',(b',n')∈rr→n'=0:=by
  cases hbk:β key with
  |nil=>rw[hbk]at hbm;simp at hbm
  |cons q r=>
   obtain⟨b0,n0⟩:=q
   obtain⟨q1,q2,_⟩:=g5 b0 n0 r hbk
   have q2:=q2 rfl
   rw[hbk]at hbm
   simp at hbm
   rcases hbm with⟨rfl,rfl⟩|hm
   ·exact⟨r,rfl,q2⟩
   ·have:=q2 b _ hm;omega
 refine⟨upd β key (β key),Goes.step HH key _ _ (by simp) (fun j hj hn=>setRow_other w b j cur' (fun e=>hn xs.length (by rw[hbk,e];simp))) rfl rfl rfl (fun b n hm=> .inl ⟨n,hm⟩) (fun b n _=>bsize_setRow c1 hsz' b)
  (fun e he=>by rw[hk']at he;cases he;exact .inr ⟨⟨_,_,rfl,by rw[hlen];exact Nat.le_refl _⟩,fun _ n hm=>⟨n,Nat.le_refl _,hm⟩⟩) fun E=>⟨g1,by rw[hlen];exact g2,fun _=>by rw[upd_same,hbk];simp,fun i' x' hx'=>?_,fun b' n' r hb'=>?_,f',fun i' x' j u hx' hu=>?_,fun i' j hi' hj=>?_,fun b' n' hb'=>?_⟩,.fz _ _ (.s _)⟩
 ·rcases hat i' x' hx' with⟨_,_,h⟩|⟨_,h⟩
  ·exact hS.wide _ x' h
  ·exact g4 i' x' h
 ·rw[upd_same]at hb'
  rw[hlen]
  exact g5 b' n' r hb'
 ·simp only[f']
  rcases hat i' x' hx' with⟨q1,q2,h⟩|⟨q1,h⟩
  ·rw[if_pos ⟨q1,q2⟩];exact⟨(hS.rep.toV _ x' j u h hu).evo E,fun _=>(hS.rep.toF rfl _ x' j u h hu).evo E.size E.fz⟩
  ·rw[if_neg q1];exact⟨(g6.toV i' x' j u h hu).evo E,fun _=>(g6.toF rfl i' x' j u h hu).evo E.size E.fz⟩
 ·rw[hlen]at hi'
  simp only[f']
  split
  ·exact hS.one _ _ (by omega) hj
  ·exact g7 i' j hi' hj
 ·rw[upd_same]at hb'
  rcases hnx b' n' hb' with rfl|rfl
  ·have hbb:b'=b:=by
    rw[hbk]at hb'
    simp at hb'
    rcases hb' with rfl|h
    ·rfl
    ·have:=hr0 b' _ h;omega
   subst hbb
   exact⟨cur',el,setRow_heap w _ _ _ _ _ c1,by rw[hsz'];exact c2,fun i' j hi' hj=>hcell i' j hi' hj,hone2⟩
  ·by_cases hbb:b'=b
   ·subst hbb
    exact⟨cur',el,setRow_heap w _ _ _ _ _ c1,by omega,fun i' j hi' _=>by omega,hone2⟩
   ·obtain⟨c',el',q1,q2,_,q4⟩:=g8 b' 0 hb'
    exact⟨c',el',(setRow_other w b b' cur' hbb).trans q1,q2,fun i' j hi' _=>by omega,q4⟩
end
section
variable {P:Program} {K0:List Nat} {F:Fr K0} {m:Nat} {tm:List (Nat×AV)} {h:List (Nat×Ent)}
theorem RelS.trunc {a:Act} {w:World} (R:RelS F m ⟨tm,h⟩ a w) (t kn K:Nat) {sz:Nat} {xs:List AV} {st:Fl} (hK0:K0=[]) (hv:look tm t= .ref kn 0 0) (hk:lookE h kn=some (.arr sz xs st)):RelS F m ⟨[(t,.ref K 0 0)],[(K,.arr sz [] true)]⟩ a w:=by
 obtain⟨⟨X,β,hX,H,Ht,KK,hJ,hD⟩,nd,gs,hl⟩:=R
 have g:=H.ent kn _ hk
 obtain⟨g1,g2,g3,g4,g5,f,g6,g7,g8⟩:=g
 have h1:=Ht t
 rw[hv]at h1
 have hKE:∀k e,lookE [(K,Ent.arr sz [] true)] k=some e→k=K∧e= .arr sz [] true:=fun k e he=>by
  rw[lookE_cons]at he
  split at he
  ·rename_i hh;cases he;exact⟨hh,rfl⟩
  ·cases he
 have key:∀l:List (Nat×Nat),(∀b n,(b,n)∈l→n=0∧∃n',(b,n')∈β kn)→(l=[]∨∃b,l=[(b,0)])→RepV w (Dom X fun k=>if k=K then l else []) (lookE [(K,Ent.arr sz [] true)]) (fun k=>if k=K then l else []) (.ref K 0 0) (a.eval (.tmp t))→RelS F m ⟨[(t,.ref K 0 0)],[(K,.arr sz [] true)]⟩ a w:=by
  intro l hl1 hl2 hrep
  have hm0:∀k b n,(b,n)∈(if k=K then l else [])→k=K∧n=0∧∃n',(b,n')∈β kn:=fun k b n hm=>by
   split at hm
   ·rename_i hh;exact⟨hh,hl1 b n hm⟩
   ·simp at hm
  have hsub:∀b,Dom X (fun k=>if k=K then l else []) b→Dom X β b:=fun b hd=>by
   rcases hd with hx|⟨k,n,hm⟩
   ·exact .inl hx
   ·obtain⟨_,_,n',h5⟩:=hm0 k b n hm
    exact .inr ⟨kn,n',h5⟩
  have HH:HOK X (lookE [(K,Ent.arr sz [] true)]) (fun k=>if k=K then l else []) w:=by
   refine⟨fun k e he=>?_,fun k he=>?_,fun k k' b n n' q1 q2=>?_,fun k b n hm=>?_,fun b hd=>H.lt b (hsub b hd)⟩
   ·obtain⟨rfl,rfl⟩:=hKE k e he
    refine⟨g1,by simp,fun h=>absurd rfl h,fun i y hy=>by simp at hy,fun b n r hr=>?_,fun _ _=>undef,fun i y j v hy _=>by simp at hy,fun i j hi _=>by simp at hi,fun b n hm=>?_⟩
    ·(try dsimp only at hr)
     rw[if_pos rfl]at hr
     rcases hl2 with h5|⟨b5,h5⟩
     ·rw[h5]at hr;cases hr
     ·rw[h5]at hr
      cases hr
      exact⟨rfl,fun h=>(by cases h),fun b' n' hm=>by simp at hm⟩
    ·obtain⟨_,rfl,n',h5⟩:=hm0 _ b n hm
     obtain⟨c,el,q1,_,_,q4⟩:=g8 b n' h5
     exact⟨c,el,q1,by omega,fun i j hi _=>by omega,q4⟩
   ·(try dsimp only)
    split
    ·rename_i hh
     rw[hh,lookE_cons,if_pos rfl]at he
     cases he
    ·rfl
   ·obtain⟨r1,_⟩:=hm0 k b n q1
    obtain⟨r2,_⟩:=hm0 k' b n' q2
    exact r1.trans r2.symm
   ·obtain⟨_,_,n',h5⟩:=hm0 k b n hm
    exact H.free kn b n' h5
  refine⟨⟨X,_,hX,HH,fun j=>?_,⟨fun k e he=>?_,KK.size,KK.keep,fun k b n hm=>?_,fun k b n hm=>?_,KK.bs,KK.os,KK.tape,KK.output⟩,fun i hi=>?_,hD⟩,fun k hk2=>?_,gs,hl⟩
  ·rw[look_cons]
   split
   ·rename_i hj;subst hj;exact hrep
   ·exact .fz _ _ (.bot _)
  ·have:=F.hh k e he;rw[hK0]at this;simp at this
  ·obtain⟨_,_,n',h5⟩:=hm0 k b n hm
   exact KK.own kn b n' h5
  ·have:=F.hK k b n hm;rw[hK0]at this;simp at this
  ·rw[look_cons]at hi
   split at hi<;>cases hi
  ·obtain⟨_,h5⟩:=hKE k _ hk2
   cases h5
 generalize hce:a.eval (.tmp t)=c at h1 key
 cases h1 with
 |fz _ _ hf=>cases hf
 |dref _ _ _ _ hd _=>exact absurd hd (nd kn)
 |ref0 _ _ sz' xs' st' ad hk2 hn=>
  refine key [] (fun b n hm=>by simp at hm) (.inl rfl) ?_
  exact .ref0 K 0 sz [] true ad (by rw[lookE_cons,if_pos rfl]) (Nat.le_refl _)
 |ref _ _ _ sz' xs' st' b n cap hk2 hb hn hc hs=>
  rw[hk]at hk2
  cases hk2
  refine key [(b,0)] (fun b' n' hm=>by simp at hm;obtain⟨rfl,rfl⟩:=hm;exact⟨rfl,n,hb⟩) (.inr ⟨b,rfl⟩) ?_
  exact .ref K 0 0 sz [] true b 0 cap (by rw[lookE_cons,if_pos rfl]) (by simp) (Nat.le_refl _) hc hs
theorem sim_trunc {c:Code} {Q:Exit→St→Prop} (t kn K:Nat) {sz:Nat} {xs:List AV} {st:Fl} (hK0:K0=[]) (hv:look tm t= .ref kn 0 0) (hk:lookE h kn=some (.arr sz xs st)) (hS:Sim P F m c ⟨[(t,.ref K 0 0)],[(K,.arr sz [] true)]⟩ Q):Sim P F m c ⟨tm,h⟩ Q:=
 ⟨fun a w H=>hS.run a w (H.trunc t kn K hK0 hv hk)⟩
end
section
variable {P:Program} {TT:List TI} {st:St}
theorem stp_callS {f:Nat} {x:Operand} {args:Array Operand} {ats:Array Nat} {caps as':List AV} {h0 h1:List (Nat×Ent)} {r:AV} (hc:CallSim P f as' h0 r h1) (hx:opv (look st.tm) x= .fn f caps)
  (has:(args.toList.map (opv (look st.tm))++caps).map (frz0 (keys h0) (lookE st.h))=as') (hh0:(keys h0).map (lookE st.h)=(keys h0).map (lookE h0)) (hcl:h0.all (fun p=>clE (keys h0) p.2)=true)
  (hnb:((refsL (args.toList.map (opv (look st.tm))++caps)).all ((keys h0).contains ·)||(r.nosl&&noslH h1))=true):
  Stp P st (.call ⟨.value x,args,ats⟩) r h1 (keys h0++refsL (args.toList.map (opv (look st.tm))++caps)) ((keys h1).filter fun k=>!(keys h0).contains k):=by
 refine⟨?_⟩
 intro X tm h hg hr hn o a w β ho HH Ht
 obtain⟨dst,op',type,pos,after,guard⟩:=o
 dsimp only at ho;subst ho
 have hfv:=arg Ht hg (x:=x) (by simp[Op.operands,Call.operands]) hx
 obtain⟨cv,hfx,hcvl,hcv⟩:∃cv:Array Value,a.eval x= .func (.func f) #[] cv∧cv.size=caps.length∧∀(i:Nat) v,caps[i]? =some v→RepV w (Dom X β) h β v (cv.getD i undef):=by
  generalize a.eval x=cx at hfv
  cases hfv with
  |fz _ _ hf=>cases hf
  |fn _ _ c hl hh=>exact⟨c,rfl,hl,hh⟩
 have hrun:(execOp a.eval ⟨dst,.call ⟨.value x,args,ats⟩,type,pos,after,guard⟩).run P w= .ok (.enter f (args.map a.eval++cv)) w:=by
  have hab:=hc.able (args.map a.eval++cv) w
  simp[execOp,resolve,hfx,Deferred.ofValue,invoke,hab]
 rw[hrun]
 have hK:∀k,k∈keys h0→h k=lookE h0 k:=fun k hk=>by
  rw[hr k (by simp[hk])]
  obtain⟨i,hi⟩:=List.getElem?_of_mem hk
  have:=congrArg (·[i]?) hh0
  simpa [hi]using this
 have hoff0:∀k,lookE h0 k=none→¬k∈keys h0:=fun k hk hm=>by
  obtain⟨e,he⟩:=mem_lookE hm
  rw[hk]at he;cases he
 let βc:Map:=fun k=>if k∈keys h0 then β k else []
 have hβc:∀k,k∈keys h0→βc k=β k:=fun k hk=>by simp[βc,hk]
 have hβn:∀k,¬k∈keys h0→βc k=[]:=fun k hk=>by simp[βc,hk]
 have hβm:∀k b n,(b,n)∈βc k→k∈keys h0∧(b,n)∈β k:=fun k b n hm=>by
  by_cases hk:k∈keys h0
  ·rw[hβc k hk]at hm;exact⟨hk,hm⟩
  ·rw[hβn k hk]at hm;simp at hm
 let lent:Bool:=!(refsL (args.toList.map (opv (look st.tm))++caps)).all ((keys h0).contains ·)
 let Xc:Nat→Prop:=fun b=>X b∨(lent=false∧∃k n,¬k∈keys h0∧(b,n)∈β k)
 have hDc:∀b,Dom Xc βc b→Dom X β b:=fun b hd=>by
  rcases hd with(hx|⟨_,k,n,_,hm⟩)|⟨k,n,hm⟩
  ·exact .inl hx
  ·exact .inr ⟨k,n,hm⟩
  ·exact .inr ⟨k,n,(hβm k b n hm).2⟩
 have hclosed:∀k e,lookE h0 k=some e→clE (keys h0) e=true:=fun k e hk=>by
  obtain⟨p,hp,he⟩:=lookE_pair hk
  have:=List.all_eq_true.1 hcl p hp
  rw[he]at this
  exact this
 have hfrz:∀{v c},RepV w (Dom X β) h β v c→(∀k,k∈v.refs→k∈keys h0∨∀b n,(b,n)∈β k→¬Dom Xc βc b)→RepV w (Dom Xc βc) (lookE h0) βc (frz0 (keys h0) h v) c:=fun hv hrf=>
  RepV.fz0 HH (fun k hk e he=>by
   rw[hK k hk]at he
   cases e with
   |box cs=>exact⟨cs,he⟩
   |arr sz xs fl=>exact⟨xs,fl,he,rfl⟩
   |dead=>exact he) hβc (fun b _ hd h'=>hd (hDc b h')) hv hrf
 have hclv:∀{v c},RepV w (Dom X β) h β v c→(∀k,k∈v.refs→k∈keys h0)→RepV w (Dom Xc βc) (lookE h0) βc v c:=by
  intro v c hv
  have ef:∀{v c},RepF w (Dom X β) v c→RepF w (Dom Xc βc) v c:=fun hf=>hf.evo (Nat.le_refl _) fun b _ hd=>⟨rfl,fun h'=>hd (hDc b h')⟩
  induction hv with
  |fz v c hf=>exact fun _=> .fz _ _ (ef hf)
  |agg cs c hl h1 _ ih=>exact fun hr=> .agg cs c hl h1 fun i v hv=>ih i v hv fun k hk=>hr k (by simpa [AV.refs]using refsL_at hv hk)
  |fn f caps c hl _ ih=>exact fun hr=> .fn f caps c hl fun i v hv=>ih i v hv fun k hk=>hr k (by simpa [AV.refs]using refsL_at hv hk)
  |tup vs c hl _ ih=>exact fun hr=> .tup vs c hl fun i v hv=>ih i v hv fun k hk=>hr k (by simpa [AV.refs]using refsL_at hv hk)
  |dref k off len c hk h1=>exact fun hr=> .dref _ _ _ _ ((hK k (hr k (by simp[AV.refs])))▸hk) h1
  |dptr k i off c hk h1=>exact fun hr=> .dptr _ _ _ _ ((hK k (hr k (by simp[AV.refs])))▸hk) h1
  |ref k off len sz xs st b n cap hk hb hn hc hs=>exact fun hr=> .ref k off len sz xs st b n cap ((hK k (hr k (by simp[AV.refs])))▸hk) (by rw[hβc k (hr k (by simp[AV.refs]))];exact hb) hn hc hs
  |ref0 k off sz xs st a hk hn=>exact fun hr=> .ref0 k off sz xs st a ((hK k (hr k (by simp[AV.refs])))▸hk) hn
  |pbox k off cs b n hk hb=>exact fun hr=> .pbox k off cs b n ((hK k (hr k (by simp[AV.refs])))▸hk) (by rw[hβc k (hr k (by simp[AV.refs]))];exact hb)
  |parr k i off sz xs st b n hk hb hi ho=>exact fun hr=> .parr k i off sz xs st b n ((hK k (hr k (by simp[AV.refs])))▸hk) (by rw[hβc k (hr k (by simp[AV.refs]))];exact hb) hi ho
 have Hc:HOK Xc (lookE h0) βc w:=by
  refine⟨fun k e he=>?_,fun k he=>hβn k (hoff0 k he),fun k k' b n n' q1 q2=>HH.disj _ _ _ _ _ (hβm _ _ _ q1).2 (hβm _ _ _ q2).2,fun k b n hm hx=>?_,fun b hd=>HH.lt b (hDc b hd)⟩
  ·have hk:=lookE_mem he
   refine(HH.ent k e ((hK k hk).trans he)).lift (hβc k hk) (fun cs hcs i v c hi hv=>hclv hv fun j hj=>by
    have:=hclosed k e he
    rw[hcs]at this
    simpa using List.all_eq_true.1 this j (refsL_at hi hj)) fun sz xs fl hxs i x j v c hi hj=>⟨fun hf=>hf.evo (Nat.le_refl _) fun b _ hd=>⟨rfl,fun h'=>hd (hDc b h')⟩,fun hn hv=>hclv hv fun q hq=>by
    have:=hclosed k e he
    rw[hxs]at this
    simp only[clE,hn,cond_true]at this
    simpa using List.all_eq_true.1 this q (refsL_at hi (refs_cells hj hq))⟩
  ·obtain⟨hk,hm⟩:=hβm k b n hm
   rcases hx with hx|⟨_,k',n',hk',hm'⟩
   ·exact HH.free k b n hm hx
   ·exact hk' (HH.disj k k' b n n' hm hm'▸hk)
 have hargs:∀(i:Nat) v,(args.toList.map (opv (look st.tm))++caps)[i]? =some v→RepV w (Dom X β) h β v ((args.map a.eval++cv).getD i undef):=fun i v hi=>by
  rcases zip_get (ρ:=a.eval) (opv (look st.tm)) hcvl hi with⟨y,hy,rfl,he⟩|⟨j,hj,he⟩
  ·rw[he]
   exact arg Ht hg (by
    simp only[Op.operands,Call.operands,Array.mem_append]
    exact .inr hy) rfl
  ·rw[he];exact hcv j v hj
 have hrefs:∀(i:Nat) v,(args.toList.map (opv (look st.tm))++caps)[i]? =some v→∀k,k∈v.refs→k∈keys h0∨∀b n,(b,n)∈β k→¬Dom Xc βc b:=fun i v hi k hk=>by
  by_cases hk0:k∈keys h0
  ·exact .inl hk0
  ·refine .inr fun b n hm hd=>?_
   have hlent:lent=true:=by
    cases hl:lent with
    |true=>rfl
    |false=>
     simp only[lent,Bool.not_eq_false']at hl
     have:=List.all_eq_true.1 hl k (refsL_at hi hk)
     exact absurd (by simpa using this) hk0
   rcases hd with(hx|⟨hf,_⟩)|⟨k',n',hm'⟩
   ·exact HH.free k b n hm hx
   ·rw[hlent]at hf;cases hf
   ·obtain⟨q1,q2⟩:=hβm k' b n' hm'
    exact hk0 (HH.disj k k' b n n' hm q2▸q1)
 have hfreq:∀(i:Nat) v,(args.toList.map (opv (look st.tm))++caps)[i]? =some v→frz0 (keys h0) (lookE st.h) v=frz0 (keys h0) h v:=by
  have main:∀v:AV,(∀k,k∈v.refs→h k=lookE st.h k)→frz0 (keys h0) (lookE st.h) v=frz0 (keys h0) h v:=by
   intro v
   refine AV.rec (motive_1:=fun v=>(∀k,k∈v.refs→h k=lookE st.h k)→frz0 (keys h0) (lookE st.h) v=frz0 (keys h0) h v)
    (motive_2:=fun cs=>(∀k,k∈refsL cs→h k=lookE st.h k)→frz0L (keys h0) (lookE st.h) cs=frz0L (keys h0) h cs) ?_ ?_ ?_ ?_ ?_ ?_ ?_ ?_ ?_ ?_ ?_ ?_ ?_ v
   ·exact fun _=>rfl
   ·exact fun _ _=>rfl
   ·exact fun _ _=>rfl
   ·exact fun cs ih hk=>by simp only[frz0];rw[ih (by simpa [AV.refs]using hk)]
   ·exact fun _ _ _ _=>rfl
   ·exact fun _ _ _ _=>rfl
   ·exact fun k off len hk=>by simp only[frz0];rw[hk k (by simp[AV.refs])]
   ·exact fun _ _ _ _=>rfl
   ·exact fun _ _ _ _ _=>rfl
   ·exact fun f cs ih hk=>by simp only[frz0];rw[ih (by simpa [AV.refs]using hk)]
   ·exact fun cs ih hk=>by simp only[frz0];rw[ih (by simpa [AV.refs]using hk)]
   ·exact fun _=>rfl
   ·exact fun v r ihv ihr hk=>by
     simp only[frz0L]
     rw[ihv fun k h=>hk k (by simp[refsL,h]),ihr fun k h=>hk k (by simp[refsL,h])]
  exact fun i v hi=>main v fun k hk=>hr k (by simp[refsL_at hi hk])
 have hsim:=hc.sim Xc w βc (args.map a.eval++cv) (by rw[←has];simp[hcvl]) Hc (fun i v hi=>by
  rw[←has,List.getElem?_map,Option.map_eq_some_iff]at hi
  obtain⟨u,hu,rfl⟩:=hi
  rw[hfreq i u hu]
  exact hfrz (hargs i u hu) (hrefs i u hu))
 refine Calls.mono hsim ?_
 rintro e w' ⟨c,β1,he,G,hv⟩
 refine⟨c,he,?_⟩
 have hlive:=G.lives Hc hc.nd
 let β':Map:=fun k=>if(lookE h1 k).isSome then β1 k else β k
 have hb1:∀k e,lookE h1 k=some e→β' k=β1 k:=fun k e hk=>by simp[β',hk]
 have hb2:∀k,lookE h1 k=none→β' k=β k:=fun k hk=>by simp[β',hk]
 have hin:∀k,k∈keys h0→∃e,lookE h1 k=some e:=fun k hk=>by
  obtain⟨e,he⟩:=mem_lookE hk
  rcases G.key k e he with h2|h2
  ·exact⟨_,h2⟩
  ·cases e with
   |dead=>exact h2.elim
   |box cs=>exact⟨_,h2.1.choose_spec⟩
   |arr sz xs st=>obtain⟨xs',st',h3,_⟩:=h2.1;exact⟨_,h3⟩
 have hnew:∀k e,lookE h1 k=some e→¬k∈keys h0→h k=none:=fun k e hk hk0=>hn k (by
  simp only[List.mem_filter,Bool.not_eq_true',List.contains_eq_mem,decide_eq_false_iff_not]
  exact⟨lookE_mem hk,hk0⟩)
 have ov1:∀k e,lookE h1 k=some e→over h1 h k=some e:=fun k e hk=>by simp[over,hk]
 have ov2:∀k,lookE h1 k=none→over h1 h k=h k:=fun k hk=>by simp[over,hk]
 have hβ':∀k b n,(b,n)∈β' k→((∃e,lookE h1 k=some e)∧(b,n)∈β1 k)∨(lookE h1 k=none∧¬k∈keys h0∧(b,n)∈β k):=fun k b n hm=>by
  cases hk:lookE h1 k with
  |none=>rw[hb2 k hk]at hm;exact .inr ⟨rfl,(fun h2=>by obtain⟨e,he⟩:=hin k h2;rw[hk]at he;cases he),hm⟩
  |some e=>rw[hb1 k e hk]at hm;exact .inl ⟨⟨e,rfl⟩,hm⟩
 have own1:∀k b n,(b,n)∈β1 k→(∃k' n',k'∈keys h0∧(b,n')∈β k')∨w.heap.size≤b:=fun k b n hm=>by
  rcases G.own k b n hm with⟨k',n',h2⟩|h2
  ·obtain⟨q1,q2⟩:=hβm k' b n' h2;exact .inl ⟨k',n',q1,q2⟩
  ·exact .inr h2
 have keepK:∀b,b<w.heap.size→(∀k n,k∈keys h0→(b,n)∉β k)→w'.heap[b]? =w.heap[b]? :=fun b hb hk=>G.keep b hb fun k n hm=>by
  obtain⟨q1,q2⟩:=hβm k b n hm;exact hk k n q1 q2
 have keepO:∀k b n,¬k∈keys h0→(b,n)∈β k→w'.heap[b]? =w.heap[b]? :=fun k b n hk hm=>keepK b (HH.lt b (.inr ⟨k,n,hm⟩)) fun k' n' hk' hm'=>hk (HH.disj k k' b n n' hm hm'▸hk')
 have bs':∀k b n,(b,n)∈β k→bsize w' b=bsize w b:=fun k b n hm=>by
  by_cases hk:k∈keys h0
  ·exact G.bs k b n (by rw[hβc k hk];exact hm)
  ·unfold bsize World.shape?;rw[keepO k b n hk hm]
 have key':∀k e,h k=some e→over h1 h k=some .dead∨match e with
   | .dead=>False
   | .box _=>(∃cs',over h1 h k=some (.box cs'))∧∀b n,(b,n)∈β k→(b,n)∈β' k
   | .arr sz xs _=>(∃xs' st',over h1 h k=some (.arr sz xs' st')∧xs.length≤xs'.length)∧∀b n,(b,n)∈β k→∃n',n≤n'∧(b,n')∈β' k:=fun k e he=>by
  by_cases hk:k∈keys h0
  ·have he0:=(hK k hk)▸he
   have:=G.key k e he0
   obtain⟨e1,he1⟩:=hin k hk
   rw[he1]at this
   rw[ov1 k e1 he1,hb1 k e1 he1,←hβc k hk]
   exact this
  ·have hno:lookE h1 k=none:=by
    cases h2:lookE h1 k with
    |none=>rfl
    |some e1=>rw[hnew k e1 h2 hk]at he;cases he
   rw[ov2 k hno,hb2 k hno]
   exact keyRefl h β k e he
 have own':∀k b n,(b,n)∈β' k→(∃k' n',(b,n')∈β k')∨w.heap.size≤b:=fun k b n hm=>by
  rcases hβ' k b n hm with⟨_,h2⟩|⟨_,_,h2⟩
  ·rcases own1 k b n h2 with⟨k',n',_,h3⟩|h3
   ·exact .inl ⟨k',n',h3⟩
   ·exact .inr h3
  ·exact .inl ⟨k,n,h2⟩
 have keep':∀b,b<w.heap.size→(∀k n,(b,n)∉β k)→w'.heap[b]? =w.heap[b]? :=fun b hb hk=>keepK b hb fun k n _=>hk k n
 have E:Evo w (Dom X β) h β w' (Dom X β') (over h1 h) β':=by
  refine⟨G.size,fun b hb hd=>?_,bs',key'⟩
  have q1:∀k n,(b,n)∉β k:=fun k n hm=>hd (.inr ⟨k,n,hm⟩)
  refine⟨keep' b hb q1,?_⟩
  rintro(hx|⟨k,n,hm⟩)
  ·exact hd (.inl hx)
  ·rcases own' k b n hm with⟨k',n',h2⟩|h2
   ·exact q1 _ _ h2
   ·omega
 have hup:∀k e,lookE h1 k=some e→over h1 h k=some e∧β' k=β1 k:=fun k e hk=>⟨ov1 k e hk,hb1 k e hk⟩
 have hDl:lent=false→∀b,Dom X β' b→Dom Xc β1 b:=fun hl b hd=>by
  rcases hd with hx|⟨k,n,hm⟩
  ·exact .inl (.inl hx)
  ·rcases hβ' k b n hm with⟨_,h2⟩|⟨_,h2,h3⟩
   ·exact .inr ⟨k,n,h2⟩
   ·exact .inl (.inr ⟨hl,k,n,h2,h3⟩)
 have hcase:lent=false∨(r.nosl=true∧noslH h1=true):=by
  rw[Bool.or_eq_true]at hnb
  rcases hnb with h2|h2
  ·left;show(!(_:Bool))=false;rw[h2];rfl
  ·right;simpa using h2
 have hliftV:∀{v c},(lent=false∨v.nosl=true)→RepV w' (Dom Xc β1) (lookE h1) β1 v c→RepV w' (Dom X β') (over h1 h) β' v c:=fun hl hv=>by
  rcases hl with hl|hl
  ·exact lift_rep (h':=over h1 h) hup (fun b hd _=> .inl (hDl hl b hd)) hv
  ·exact lift_nosl hup hv hl
 have hliftF:∀{v c},(lent=false∨v.nosl=true)→RepF w' (Dom Xc β1) v c→RepF w' (Dom X β') v c:=fun hl hv=>by
  rcases hl with hl|hl
  ·exact hv.evo (Nat.le_refl _) fun b _ hd=>⟨rfl,fun h'=>hd (hDl hl b h')⟩
  ·exact hv.free hl
 have HK:HOK X (over h1 h) β' w':=by
  refine⟨fun k e he=>?_,fun k he=>?_,fun k k' b n n' q1 q2=>?_,fun k b n hm hx=>?_,fun b hd=>?_⟩
  ·cases hk:lookE h1 k with
   |none=>
    rw[ov2 k hk]at he
    have hk0:¬k∈keys h0:=fun h2=>by obtain⟨e1,he1⟩:=hin k h2;rw[hk]at he1;cases he1
    exact(HH.ent k e he).evo E (hb2 k hk) fun b n hm=>keepO k b n hk0 hm
   | some e1=>
    rw[ov1 k e1 hk]at he
    obtain rfl:=Option.some.inj he
    have hns:lent=false∨e1.nosl=true:=hcase.imp id fun h2=>noslH_at h2.2 hk
    refine(G.hok.ent k e1 hk).lift (hb1 k e1 hk) (fun cs hcs i v c hi hv=>hliftV (hns.imp id fun h2=>noslL_at (by rw[hcs]at h2;exact h2) hi) hv) fun sz xs st hxs i x j v c hi hj=>by
     have hns':lent=false∨v.nosl=true:=hns.imp id fun h2=>by
      have hxn:x.nosl=true:=noslL_at (by rw[hxs]at h2;exact h2) hi
      cases x<;>first
       |(simp[AV.cells]at hj;cases j<;>simp at hj;subst hj;exact hxn)
       |(exact noslL_at (by simpa [AV.nosl,AV.cells]using hxn) hj)
     exact⟨fun hf=>hliftF hns' hf,fun _ hv=>hliftV hns' hv⟩
  ·cases hk:lookE h1 k with
   |none=>rw[ov2 k hk]at he;rw[hb2 k hk];exact HH.off k he
   |some e1=>rw[ov1 k e1 hk]at he;cases he
  ·rcases hβ' k b n q1 with⟨_,h2⟩|⟨_,h2,h3⟩<;>rcases hβ' k' b n' q2 with⟨_,h4⟩|⟨_,h4,h5⟩
   ·exact G.hok.disj _ _ _ _ _ h2 h4
   ·rcases own1 k b n h2 with⟨j,m,hj,hm⟩|h6
    ·exact absurd (HH.disj j k' b m n' hm h5▸hj) h4
    ·have:=HH.lt b (.inr ⟨k',n',h5⟩);omega
   ·rcases own1 k' b n' h4 with⟨j,m,hj,hm⟩|h6
    ·exact absurd (HH.disj j k b m n hm h3▸hj) h2
    ·have:=HH.lt b (.inr ⟨k,n,h3⟩);omega
   ·exact HH.disj _ _ _ _ _ h3 h5
  ·rcases hβ' k b n hm with⟨_,h2⟩|⟨_,_,h3⟩
   ·exact G.hok.free k b n h2 (.inl hx)
   ·exact HH.free k b n h3 hx
  ·rcases hd with hx|⟨k,n,hm⟩
   ·exact Nat.lt_of_lt_of_le (HH.lt b (.inl hx)) G.size
   ·rcases hβ' k b n hm with⟨_,h2⟩|⟨_,_,h3⟩
    ·exact G.hok.lt b (.inr ⟨k,n,h2⟩)
    ·exact Nat.lt_of_lt_of_le (HH.lt b (.inr ⟨k,n,h3⟩)) G.size
 exact⟨β',⟨G.size,keep',own',bs',key',HK,G.os,G.tape,G.output⟩,hliftV (hcase.imp id (·.1)) hv⟩
end
section
variable {P:Program} {TT:List TI} {K0:List Nat} {F:Fr K0} {m:Nat} {ops:Array Oper} {rest:List Oper} {Q:List FP→St→Prop} {tm:List (Nat×AV)} {h:List (Nat×Ent)} {dr:Bool} {fs:List FP}
variable {ty:Nat} {pos:String} {after:Array Edge} {t:Nat}
theorem x_cpy (hP:TOK P TT) {T e key off len sz:Nat} {d x:Operand} {ti te:TI} {xs ys zs:List AV} {xv:AV} (hdv:opv (look tm) d= .ref key off len) (hk:lookE h key=some (.arr sz xs false)) (hx:opv (look tm) x=xv) (hT:TT[T]? =some ti) (hd:ti.d= .slice e) (he:TT[e]? =some te)
  (hys:els (lookE h) xv=some ys) (hsz:∀y,ys[0]? =some y→y.cells.length=sz) (hss:Nat.beq sz te.size=true) (hn:ys.length≤len) (hz:xs.take off++ys++xs.drop (off+ys.length)=zs) (hm:Nat.blt t m=true)
  (hr:OpsX P F m ops dr rest ⟨(t,.s (.int .i64 ys.length))::tm,(key,.arr sz zs false)::h⟩ (⟨true,[key],key::elk xv⟩::fs) Q):OpsX P F m ops dr (⟨some t,.call ⟨.builtin .copy, #[d,x], #[T,T]⟩,ty,pos,after,none⟩::rest) ⟨tm,h⟩ fs Q:=by
 subst hz;exact x_w (nw:=[]) (stp_copy hP hdv hk hx hT hd he hys hsz hss hn) hm rfl rfl hr
theorem x_slcRL (hP:TOK P TT) {T e key len sz:Nat} {x l:Operand} {ti te:TI} {xs:List AV} {sl:Fl} {k:IntKind} {i:Int} (hx:opv (look tm) x= .ref key 0 len) (hk:lookE h key=some (.arr sz xs sl)) (hl:opv (look tm) l= .s (.int k i)) (hT:TT[T]? =some ti) (hd:ti.d= .slice e) (he:TT[e]? =some te)
  (hsz:Nat.beq sz te.size=true) (h0:0≤i) (h1:i≤len) (hm:Nat.blt t m=true) (hr:OpsX P F m ops dr rest ⟨(t,.ref key i.toNat (len-i.toNat))::tm,h⟩ (⟨true,[],[key]⟩::fs) Q):
  OpsX P F m ops dr (⟨some t,.slice T x (some l) none none,ty,pos,after,none⟩::rest) ⟨tm,h⟩ fs Q:=by
 have:=stp_slice_ref (P:=P) (st:=⟨tm,h⟩) (lo:=some l) (hi:=none) (l:=i.toNat) (r:=len) hP hx hk hT hd he ⟨k,i,hl,by omega⟩ rfl (by omega) (Nat.le_refl _) hsz
 rw[Nat.zero_add]at this
 exact x_q this hm hr
theorem x_slcR0 (hP:TOK P TT) {T e key len sz:Nat} {x l:Operand} {ti te:TI} {xs:List AV} {sl:Fl} {k:IntKind} (hx:opv (look tm) x= .ref key 0 len) (hk:lookE h key=some (.arr sz xs sl)) (hl:opv (look tm) l= .s (.int k 0)) (hT:TT[T]? =some ti) (hd:ti.d= .slice e) (he:TT[e]? =some te)
  (hsz:Nat.beq sz te.size=true) (hm:Nat.blt t m=true) (hr:OpsX P F m ops dr rest ⟨(t,.ref key 0 0)::tm,h⟩ (⟨true,[],[key]⟩::fs) Q):
  OpsX P F m ops dr (⟨some t,.slice T x none (some l) none,ty,pos,after,none⟩::rest) ⟨tm,h⟩ fs Q:=by
 have:=stp_slice_ref (P:=P) (st:=⟨tm,h⟩) (lo:=none) (hi:=some l) (l:=0) (r:=0) hP hx hk hT hd he rfl ⟨k,0,hl,by omega⟩ (Nat.le_refl _) (Nat.zero_le _) hsz
 exact x_q this hm hr
theorem x_appmk (hP:TOK P TT) {T I e n:Nat} {s x:Operand} {ti te tn:TI} {k0:IntKind} {nx:Int} {z:AV} (hs:opv (look tm) s= .s (.slice none 0 0)) (hx:opv (look tm) x= .s (.int .i64 nx)) (hT:TT[T]? =some ti) (hd:ti.d= .slice e) (he:TT[e]? =some te) (hI:TT[I]? =some tn) (hdn:tn.d= .int k0)
  (hb:Nat.ble te.bytes 65536=true) (hp:Nat.ble 1 te.size=true) (hzl:Nat.beq te.zero.length te.size=true) (hz1:te.zero.all (·.oneCell')=true) (hzc:Nat.beq (zeroA te).cells.length te.size=true) (hzc2:(zeroA te).cells=te.zero.map .s) (hz:zeroA te=z)
  (hnx:nx=(n:Int)) (hpos:1≤n) (hmax:n≤1073741824) (hm:Nat.blt t m=true) (hnn:(lookE h t).isNone=true)
  {sz:Nat} (hse:te.size=sz) (hk:OpsX P F m ops dr rest ⟨(t,.ref t 0 n)::tm,(t,.arr sz (List.replicate n z) false)::h⟩ (⟨true,[t,t],[]⟩::fs) Q):OpsX P F m ops dr (⟨some t,.call ⟨.builtin .append, #[s,x], #[T,I]⟩,ty,pos,after,none⟩::rest) ⟨tm,h⟩ fs Q:=by
 subst hse hz;exact x_w (nw:=[t]) (stp_appmk hP t hs hx hT hd he hI hdn hnx hpos hmax hb hp hzl hz1 hzc hzc2) hm (all1 hnn) rfl hk
end
end Av
end Go.Proofs.YtaikgchmpieooaaGreat
