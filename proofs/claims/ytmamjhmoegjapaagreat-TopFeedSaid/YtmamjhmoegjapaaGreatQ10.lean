/- Part 10. -/
import Derived.Test.YtmamjhmoegjapaaGreatQ09
namespace Go.Proofs.YtmamjhmoegjapaaGreat
namespace Av
set_option linter.all false
set_option maxRecDepth 4000
section
variable {P:Program} {TT:List TI} {st:St}
theorem zD1 (hP:uL P TT) {T I e n:Nat} {s x:Operand} {ti te tn:TI} {k0:IntKind} {nx:Int} (kn:Nat) (hs:yL (zG st.tm) s= .s (.slice none 0 0)) (hx:yL (zG st.tm) x= .s (.int .i64 nx)) (hT:TT[T]? =some ti) (hd:ti.d= .slice e) (he:TT[e]? =some te) (hI:TT[I]? =some tn) (hdn:tn.d= .int k0)
  (hnx:nx=(n:Int)) (hpos:1<=n) (hmax:n<=1073741824) (hb:Nat.ble te.bytes 65536=true) (hp:Nat.ble 1 te.size=true) (hzl:Nat.beq te.zero.length te.size=true) (hz1:te.zero.all (·.oneCell')=true) (hzc:Nat.beq (vU te).cells.length te.size=true) (hzc2:(vU te).cells=te.zero.map .s):
  wR P st (.call ⟨.builtin .append, #[s,x], #[T,I]⟩) (.ref kn 0 n) [(kn,.arr te.size (List.replicate n (vU te)) false)] [] [kn]:=by
 refine⟨?_⟩;intro X tm h hg _ hn o a w β ho HH Ht;obtain⟨dst,op',type,pos,after,guard⟩:=o;dsimp only at ho;subst ho;have h1:=vI Ht hg (x:=s) qF hs;have h2:=vI Ht hg (x:=x) qF hx;have hp:=zXq hp;have hb:=zXq hb;have hzl:=zX4 hzl;have hzc:=zX4 hzc;subst hnx;obtain⟨i,z,hu,hi,hz,e1,e2,e3⟩:=wG hP hT hd he;obtain⟨_,u2,_,_,hu2,_,hd2,_⟩:=vV (hP _ _ hI);obtain rfl:=JQ (hd2.symm.trans hdn)
 have hbytes:n*i.bytes<=281474976710656:=by
  have:=yAe hmax (show i.bytes<=65536 by omega);omega
 have hw:IntKind.i64.wrap (n:Int)=(n:Int):=qT ⟨by show(-9223372036854775808:Int)<=_;omega,by show _<=(9223372036854775807:Int);omega⟩
 have hs0:n*i.size≠0:=by
  have:1*1<=n*i.size:=yAe hpos (by omega);omega
 have h48:¬(281474976710656<(n:Int)*(i.bytes:Int)):=by
  have h3:(n:Int)*(i.bytes:Int)=((n*i.bytes:Nat):Int):=by simp
  rw[h3];omega
 have h48':¬(281474976710656<Builtin.nextslicecap n 0*i.bytes):=by rw[nextslicecap_zero hpos];omega
 have h63:¬(9223372036854775807<(n:Int)):=by omega
 have hn0:n≠0:=by omega
 have hneg:¬((n:Int)<0):=by omega
 have hrun:(Builtin.append_ #[T,I] type #[.slice none 0 0,.int .i64 (n:Int)]).run P w= .ok (.slice (some ⟨w.heap.size,0,none⟩) n (grownCap w n 0 e)) (w.drew.alloc (.cells (Builtin.zeroCells z.cells n++Builtin.zeroCells z.cells (grownCap w n 0 e-n)) e)):=by
  have ha:(asIntOf (.int .i64 (n:Int))).run P w= .ok (.i64,(n:Int)) w:=rfl;have hn1:¬((n:Int)<=0):=by omega
  simp[Builtin.append_,run_underlying hu,run_underlying hu2,sizeOf,typeInfo,zeroValue,hi,hz,asInt,ha,hw,hneg,hn1,h48,hs0,hn0,h63,h48',Question.forced,run_firstCells_none,newRow,grownCap]
 have hex:(execOp a.eval ⟨dst,.call ⟨.builtin .append, #[s,x], #[T,I]⟩,type,pos,after,guard⟩).run P w= .ok (.value (.slice (some ⟨w.heap.size,0,none⟩) n (grownCap w n 0 e))) (w.drew.alloc (.cells (Builtin.zeroCells z.cells n++Builtin.zeroCells z.cells (grownCap w n 0 e-n)) e)):=by
  simp[execOp,resolve,invoke,builtin,h1,h2,hrun]
 rw[hex];have HD:=HH.drew (w.drawn+1);have hzs:z.cells.size=te.size:=by rw[<-hzl,<-e3];simp
 have hge:=grownCap_ge w n 0 e;have hrl:(List.replicate n (vU te)).length=n:=by simp
 have hat:∀(j:Nat) v,(List.replicate n (vU te))[j]? =some v->v=vU te:=λj v hv=>by
  rw[zY4]at hv;split at hv
  ·exact(zZr hv).symm
  ·cases hv
 have hzat:∀j,j<te.size->∃v,te.zero[j]? =some v/\z.cells.getD j undef=v:=λj hj=>by
  have:=kP z.cells j (by omega);refine⟨_,?_,rfl⟩;rw[<-e3];simpa using this
 obtain⟨β',G,hv⟩:=xM.newArr HD (hn kn zS) (Builtin.zeroCells z.cells n++Builtin.zeroCells z.cells (grownCap w n 0 e-n)) e te.size (List.replicate n (vU te)) (grownCap w n 0 e) (λ_ j=>z.cells.getD j undef) hp (by rw[hrl];unfold cC;omega) (by rw[hrl];omega) (by
   simp only[yB6,size_zeroCells,hzs,<-zYb]
   congr 1;omega) (uR.get ((uR.zero (λv hv=>zXm.1 hz1 v PR) _).app (uR.zero (λv hv=>zXm.1 hz1 v PR) _)))
  (λj v hv=>by rw[hat j v hv];exact hzc) (λi' j hi' hj=>by
   rw[hrl]at hi'
   have hlt:i'*te.size+j<n*te.size:=by
    have:=zXt te.size (show i'+1<=n by omega);rw[zYb,zY9]at this;omega
   have hm':(i'*te.size+j) % te.size=j:=by rw[yBr,yBz];exact zZt hj
   rw[zZc (by rw[size_zeroCells,hzs];exact hlt)];have hj':j<z.cells.size:=by omega
   simp only[Builtin.zeroCells,yCq,yCd,hzs,hlt,yCy,Option.map_some,hm']
   congr 1
   simp[zX5,hj']) (λi' j _ hj=>by
   obtain⟨v,hv,hv'⟩:=hzat j hj;rw[hv']
   exact zXm.1 hz1 v (zYt hv)) (λi' v j u hv hu=>by
   rw[hat i' v hv,hzc2]at hu;rw[zXd]at hu
   have hj:j<te.size:=by
    cases hz9:te.zero[j]? with
    |none=>rw[hz9]at hu;cases hu
    |some v9=>have:=(zXv.1 hz9).1;omega
   obtain⟨v2,hv2,hv3⟩:=hzat j hj;rw[hv2]at hu;cases hu;rw[hv3]
   exact .s _)
 rw[hrl]at hv;exact⟨β',xM.trans HH (xM.drew HH (w.drawn+1)) G,hv⟩
theorem PZ (hP:uL P TT) {T e:Nat} {x:Operand} {ti:TI} (hx:yL (zG st.tm) x= .s (.slice none 0 0)) (hT:TT[T]? =some ti) (hd:ti.d= .slice e):
  wR P st (.call ⟨.builtin .cap, #[x], #[T]⟩) (.s (.int .i64 0)) [] [] []:=
 yQ λoo X tm h w β a ho hg hr HH Ht=>by
  obtain⟨dst,op',type,pos,after,guard⟩:=oo;dsimp only at ho;subst ho;have hc:=vI Ht hg (x:=x) qF hx;obtain⟨u,hu,hd'⟩:=xY (hP _ _ hT) w;obtain rfl:=vQ (hd'.trans hd);exact⟨_,by simp[execOp,resolve,invoke,builtin,Builtin.cap_,hc,hu,goInt],.fz _ _ (.s _)⟩
theorem zAg (hP:uL P TT) {T e:Nat} {x l:Operand} {ti te:TI} {k:IntKind} (hx:yL (zG st.tm) x= .s (.slice none 0 0)) (hl:yL (zG st.tm) l= .s (.int k 0)) (hT:TT[T]? =some ti) (hd:ti.d= .slice e) (he:TT[e]? =some te):
  wR P st (.slice T x none (some l) none) (.s (.slice none 0 0)) [] [] []:=
 yQ λoo X tm h w β a ho hg hr HH Ht=>by
  obtain⟨dst,op',type,pos,after,guard⟩:=oo;dsimp only at ho;subst ho;have hc:=vI Ht hg (x:=x) uE hx;obtain⟨u,hu,hd'⟩:=xY (hP _ _ hT) w;obtain rfl:=vQ (hd'.trans hd);have hs:=uQ (hP _ _ he) w;have hb:=gM (P:=P) Ht hg (lo:=none) (hi:=some l) (len:=0) (cap:=0) (l:=0) (r:=0) (λy hy=>by cases hy) (λy hy=>by cases hy;simp[Op.operands]) rfl ⟨k,0,hl,by omega⟩ (zXc _) (zXc _) true;rw[yAf]at hb;exact⟨_,by simp only[execOp,Instr.sliceAt,Instr.slice,Sem.run_bind,hu,Result.andThen_ok,hc,yAf,hb,hs,Sem.run_pure];rfl,.fz _ _ (.s _)⟩
theorem OA (hP:uL P TT) {T e key off len sz:Nat} {d x:Operand} {ti te:TI} {xs ys:List AV} {xv:AV} (hdv:yL (zG st.tm) d= .ref key off len) (hk:zC st.h key=some (.arr sz xs false)) (hx:yL (zG st.tm) x=xv) (hT:TT[T]? =some ti) (hd:ti.d= .slice e) (he:TT[e]? =some te)
  (hys:CF (zC st.h) xv=some ys) (hsz:∀y,ys[0]? =some y->y.cells.length=sz) (hss:Nat.beq sz te.size=true) (hn:ys.length<=len):
  wR P st (.call ⟨.builtin .copy, #[d,x], #[T,T]⟩) (.s (.int .i64 ys.length)) [(key,.arr sz (xs.take off++ys++xs.drop (off+ys.length)) false)] (key::PM xv) []:=by
 refine⟨?_⟩;intro X tm h hg hr _ o a w β ho HH Ht;obtain⟨dst,op',type,pos,after,guard⟩:=o;dsimp only at ho;subst ho;have hk':=(hr key zS).trans hk;have h1:=jL Ht hg (x:=d) qF hdv;have h2:=jL Ht hg (x:=x) qF hx;have hss:=zX4 hss;obtain⟨g1,g2,g3,g4,g5,f,g6,g7,g8⟩:=HH.ent key _ hk';obtain⟨ad,cap,hc,_,hmax,hsrc⟩:=fT HH h2 ((jG λk' hk=>hr k' PQ).trans hys) hsz;obtain⟨i,z,hu,hi,hzz,e1,e2,e3⟩:=wG hP hT hd he
 have hnx:∀b n,(b,n)∈β key->n=xs.length∨n=0:=λb n hb=>by
  cases hbk:β key with
  |nil=>rw[hbk]at hb;simp at hb
  |cons q rr=>
   obtain⟨b0,n0⟩:=q;obtain⟨q1,q2,_⟩:=g5 b0 n0 rr hbk;rw[hbk]at hb;simp at hb
   rcases hb with⟨_,rfl⟩|hb
   ·exact .inl q1
   ·exact .inr (q2 rfl b n hb)
 have hop:∀{w'},(Builtin.copy_ #[T,T] type #[a.eval d,a.eval x]).run P w= .ok (goInt ys.length) w'->(execOp a.eval ⟨dst,.call ⟨.builtin .copy, #[d,x], #[T,T]⟩,type,pos,after,guard⟩).run P w= .ok (.value (.int .i64 ys.length)) w':=λhv=>by
  simp[execOp,resolve,invoke,builtin,hv,goInt]
 by_cases hnil:ys=[]
 ·subst hnil;have hxs:xs.take off++[]++xs.drop (off+([]:List AV).length)=xs:=by simp
  rw[hxs]
  obtain⟨bd,cp,hcs⟩:∃bd cp,a.eval d= .slice bd len cp:=by
   generalize a.eval d=cx at h1
   cases h1 with
   |fz _ _ hf=>cases hf
   |dref _ _ _ _ hd _=>rw[hk']at hd;cases hd
   |ref _ _ _ _ _ _ _ _ _ _ _ _ _ _=>exact⟨_,_,rfl⟩
   |ref0 _ _ _ _ _ _ _ _=>exact⟨_,_,rfl⟩
  have hf1:(Builtin.firstCells i.size 0 (.slice ad 0 cap)).run P w= .ok #[] w:=by
   cases ad with
   |none=>rfl
   |some a=>simp only[Builtin.firstCells,loadCells,yA1,loadCellsFrom];rfl
  rw[hop (w':=w) (by
   rw[hcs,hc]
   cases bd with
   |none=>simp[Builtin.copy_,run_underlying hu,sizeOf,typeInfo,hi,Builtin.lenOf,hf1]
   |some b=>simp[Builtin.copy_,run_underlying hu,sizeOf,typeInfo,hi,Builtin.lenOf,hf1,storeCells])]
  have G:=xM.step (w':=w) HH key (.arr sz xs false) (β key) (zXc _) (λ_ _ _=>rfl) rfl rfl rfl (λb n hm=> .inl ⟨n,hm⟩) (λ_ _ _=>rfl) (λe he=>by rw[hk']at he;cases he;exact .inr ⟨⟨_,_,rfl,zXc _⟩,λ_ n hm=>⟨n,zXc _,hm⟩⟩)
   (λE=>⟨g1,g2,λh=>by rw[zW];exact g3 h,g4,λb n r hr=>by rw[zW]at hr;exact g5 b n r hr,f,jX.evo E g6,g7,λb n hm=>by rw[zW]at hm;exact g8 b n hm⟩)
  exact⟨_,G,.fz _ _ (.s _)⟩
 obtain⟨b2,q,fy,rfl,hS⟩:=hsrc hnil
 have hpos:0<ys.length:=by cases ys with|nil=>exact absurd rfl hnil|cons _ _=>simp
 obtain⟨hf1,hf2⟩:=hS.flat g1
 obtain⟨b,n,cp,hcs,hbm,hnl,hcp⟩:∃b n cp,a.eval d= .slice (some ⟨b,off*sz,none⟩) len cp/\(b,n)∈β key/\off+len<=n/\len<=cp:=by
  generalize a.eval d=cx at h1
  cases h1 with
  |fz _ _ hf=>cases hf
  |dref _ _ _ _ hd _=>rw[hk']at hd;cases hd
  |ref _ _ _ sz' xs' st' b n cp hk2 hb hn hc2 hs2=>
   rw[hk']at hk2;cases hk2;exact⟨b,n,cp,rfl,hb,hn,hc2⟩
  |ref0 _ _ _ _ _ _ _ _=>omega
 have hnn:n=xs.length:=by rcases hnx b n hbm with h|h<;>omega
 subst hnn;obtain⟨cur,el,c1,c2,c3,c4⟩:=g8 b _ hbm;have hfit:(off+ys.length)*sz<=cur.size:=zYg (zXt _ (by omega)) c2;have hmin:Nat.min ys.length len=ys.length:=yCj hn;have hfc:=run_firstCells_some (P:=P) w sz ys.length ⟨b2,q,none⟩ ys.length cap (flat fy ys.length sz) (zO _ _ _) hf1;have hst:=run_storeCells_at P b (off*sz) el (flat fy ys.length sz) 0 cur w c1 (by rw[zO,yAd,<-zYb];exact hfit) hf2;simp only[yAd]at hst;generalize hcur':(cur.toList.take (off*sz)++flat fy ys.length sz++cur.toList.drop (off*sz+(flat fy ys.length sz).length)).toArray=cur' at hst
 rw[hop (w':=w.setRow b cur') (by
  rw[hcs,hc];have e1':i.size=sz:=e1.trans hss.symm;rw[<-e1']at hfc;have hst2:(storeCells ⟨b,off*sz,none⟩ (flat fy ys.length i.size)).run P w= .ok () (w.setRow b cur'):=by rw[e1'];exact hst
  simp[Builtin.copy_,run_underlying hu,Builtin.lenOf,sizeOf,typeInfo,hi,yCj hn,hfc,hst2])]
 rw[zYb]at hfit
 have hsz':cur'.size=cur.size:=by
  rw[<-hcur'];simp only[yAa,zXb,zXw,zYd,zZ6,zO];omega
 have hone2:∀q,q<cur'.size->(cur'.getD q undef).oneCell'=true:=by
  rw[<-hcur'];refine uR.get (uR.arr λv hv=>?_);have hc4:=uR.of c4
  rcases zXs.1 hv with hv|hv
  ·rcases zXs.1 hv with hv|hv
   ·exact hc4 v (zY1 hv)
   ·exact hf2 v hv
  ·exact hc4 v (zYl hv)
 let f':Nat->Nat->Value:=λi j=>if off<=i/\i<off+ys.length then fy (i-off) j else f i j
 have hoff:off+ys.length<=xs.length:=by omega
 have hlen:(xs.take off++ys++xs.drop (off+ys.length)).length=xs.length:=by
  simp only[zXb,zXw,zYd];omega
 have hat:∀(i:Nat) y,(xs.take off++ys++xs.drop (off+ys.length))[i]? =some y->(off<=i/\i<off+ys.length/\ys[i-off]? =some y)∨(¬(off<=i/\i<off+ys.length)/\xs[i]? =some y):=λi y hy=>by
  have ht:(xs.take off).length=off:=by simp;omega
  by_cases h5:i<off
  ·rw[zXy,zX3 (by omega),zYx,zW9 h5]at hy;exact .inr ⟨by omega,hy⟩
  ·by_cases h6:i<off+ys.length
   ·rw[zXy,zX2 (by omega),ht,zX3 (by omega)]at hy;exact .inl ⟨by omega,h6,hy⟩
   ·rw[zX2 wQ]at hy;simp only[zXb,ht]at hy;rw[zZb,show off+ys.length+(i-(off+ys.length))=i by omega]at hy;exact .inr ⟨by omega,hy⟩
 have hcell:∀i j,i<xs.length->j<sz->cur'[i*sz+j]? =some (f' i j):=λi j hi hj=>by
  rw[<-hcur'];simp only[f',zZz];by_cases h5:i<off
  ·have hlt:i*sz+j<off*sz:=by
    have:=zXt sz (show i+1<=off by omega);rw[zYb,zY9]at this;omega
   rw[zW8 (by omega),zXy,zX3 wQ,zYx,zW9 hlt];simpa using c3 i j hi hj
  ·have ht:(List.take (off*sz) cur.toList).length=off*sz:=by simp;omega
   have hge:off*sz<=i*sz:=zXt _ (by omega);by_cases h6:i<off+ys.length
   ·have e4:i*sz+j-off*sz=(i-off)*sz+j:=by rw[yB7];omega
    have hlt:(i-off)*sz+j<ys.length*sz:=by
     have:=zXt sz (show(i-off)+1<=ys.length by omega);rw[zYb,zY9]at this;omega
    rw[zW9 (by omega),zXy,zX2 (by rw[ht];omega),ht,zX3 (by rw[zO];omega),e4];exact qE fy (by omega) hj
   ·have hge2:(off+ys.length)*sz<=i*sz:=zXt _ (by omega);rw[zYb]at hge2;rw[zW8 (by omega),zX2 (by simp only[zXb,ht,zO];omega),zZb];simp only[zXb,ht,zO];rw[show off*sz+ys.length*sz+(i*sz+j-(off*sz+ys.length*sz))=i*sz+j by omega];simpa using c3 i j hi hj
 obtain⟨rr,hbk,hr0⟩:∃rr,β key=(b,xs.length)::rr/\∀b' n',(b',n')∈rr->n'=0:=by
  cases hbk:β key with
  |nil=>rw[hbk]at hbm;simp at hbm
  |cons q r=>
   obtain⟨b0,n0⟩:=q;obtain⟨q1,q2,_⟩:=g5 b0 n0 r hbk;have q2:=q2 rfl;rw[hbk]at hbm;simp at hbm
   rcases hbm with⟨rfl,rfl⟩|hm
   ·exact⟨r,rfl,q2⟩
   ·have:=q2 b _ hm;omega
 refine⟨cD β key (β key),xM.step HH key _ _ zS (λj hj hn=>setRow_other w b j cur' (λe=>hn xs.length EV)) rfl rfl rfl (λb n hm=> .inl ⟨n,hm⟩) (λb n _=>uP c1 hsz' b)
  (λe he=>by rw[hk']at he;cases he;exact .inr ⟨⟨_,_,rfl,by rw[hlen];exact zXc _⟩,λ_ n hm=>⟨n,zXc _,hm⟩⟩) λE=>⟨g1,by rw[hlen];exact g2,λ_=>by rw[zW,hbk];simp,λi' x' hx'=>?_,λb' n' r hb'=>?_,f',λi' x' j u hx' hu=>?_,λi' j hi' hj=>?_,λb' n' hb'=>?_⟩,.fz _ _ (.s _)⟩
 ·rcases hat i' x' hx' with⟨_,_,h⟩|⟨_,h⟩
  ·exact hS.wide _ x' h
  ·exact g4 i' x' h
 ·rw[zW]at hb';rw[hlen];exact g5 b' n' r hb'
 ·simp only[f']
  rcases hat i' x' hx' with⟨q1,q2,h⟩|⟨q1,h⟩
  ·rw[zW9 ⟨q1,q2⟩];exact⟨(hS.rep.toV _ x' j u h hu).evo E,λ_=>(hS.rep.toF rfl _ x' j u h hu).evo E.size E.fz⟩
  ·rw[zW8 q1];exact⟨(g6.toV i' x' j u h hu).evo E,λ_=>(g6.toF rfl i' x' j u h hu).evo E.size E.fz⟩
 ·rw[hlen]at hi';simp only[f'];split
  ·exact hS.one _ _ (by omega) hj
  ·exact g7 i' j hi' hj
 ·rw[zW]at hb'
  rcases hnx b' n' hb' with rfl|rfl
  ·have hbb:b'=b:=by
    rw[hbk]at hb';simp at hb'
    rcases hb' with rfl|h
    ·rfl
    ·have:=hr0 b' _ h;omega
   subst hbb;exact⟨cur',el,setRow_heap w _ _ _ _ _ c1,by rw[hsz'];exact c2,λi' j hi' hj=>hcell i' j hi' hj,hone2⟩
  ·by_cases hbb:b'=b
   ·subst hbb;exact⟨cur',el,setRow_heap w _ _ _ _ _ c1,by omega,λi' j hi' _=>by omega,hone2⟩
   ·obtain⟨c',el',q1,q2,_,q4⟩:=g8 b' 0 hb';exact⟨c',el',(setRow_other w b b' cur' hbb).trans q1,q2,λi' j hi' _=>by omega,q4⟩
end
section
variable {P:Program} {K0:List Nat} {F:Fr K0} {m:Nat} {tm:List (Nat×AV)} {h:List (Nat×xN)}
theorem wH.trunc {a:Act} {w:World} (R:wH F m ⟨tm,h⟩ a w) (t kn K:Nat) {sz:Nat} {xs:List AV} {st:Fl} (hK0:K0=[]) (hv:zG tm t= .ref kn 0 0) (hk:zC h kn=some (.arr sz xs st)):wH F m ⟨[(t,.ref K 0 0)],[(K,.arr sz [] true)]⟩ a w:=by
 obtain⟨⟨X,β,hX,H,Ht,KK,hJ,hD⟩,nd,gs,hl⟩:=R;have g:=H.ent kn _ hk;obtain⟨g1,g2,g3,g4,g5,f,g6,g7,g8⟩:=g;have h1:=Ht t;rw[hv]at h1
 have hKE:∀k e,zC [(K,xN.arr sz [] true)] k=some e->k=K/\e= .arr sz [] true:=λk e he=>by
  rw[xI]at he;split at he
  ·rename_i hh;cases he;exact⟨hh,rfl⟩
  ·cases he
 have key:∀l:List (Nat×Nat),(∀b n,(b,n)∈l->n=0/\∃n',(b,n')∈β kn)->(l=[]∨∃b,l=[(b,0)])->zV w (xF X λk=>if k=K then l else []) (zC [(K,xN.arr sz [] true)]) (λk=>if k=K then l else []) (.ref K 0 0) (a.eval (.tmp t))->wH F m ⟨[(t,.ref K 0 0)],[(K,.arr sz [] true)]⟩ a w:=by
  intro l hl1 hl2 hrep
  have hm0:∀k b n,(b,n)∈(if k=K then l else [])->k=K/\n=0/\∃n',(b,n')∈β kn:=λk b n hm=>by
   split at hm
   ·rename_i hh;exact⟨hh,hl1 b n hm⟩
   ·simp at hm
  have hsub:∀b,xF X (λk=>if k=K then l else []) b->xF X β b:=λb hd=>by
   rcases hd with hx|⟨k,n,hm⟩
   ·exact .inl hx
   ·obtain⟨_,_,n',h5⟩:=hm0 k b n hm;exact .inr ⟨kn,n',h5⟩
  have HH:kI X (zC [(K,xN.arr sz [] true)]) (λk=>if k=K then l else []) w:=by
   refine⟨λk e he=>?_,λk he=>?_,λk k' b n n' q1 q2=>?_,λk b n hm=>?_,λb hd=>H.lt b (hsub b hd)⟩
   ·obtain⟨rfl,rfl⟩:=hKE k e he;refine⟨g1,by simp,λh=>absurd rfl h,λi y hy=>by simp at hy,λb n r hr=>?_,λ_ _=>undef,λi y j v hy _=>by simp at hy,λi j hi _=>by simp at hi,λb n hm=>?_⟩
    ·(try dsimp only at hr)
     rw[zW9 rfl]at hr
     rcases hl2 with h5|⟨b5,h5⟩
     ·rw[h5]at hr;cases hr
     ·rw[h5]at hr;cases hr;exact⟨rfl,λh=>(by cases h),λb' n' hm=>by simp at hm⟩
    ·obtain⟨_,rfl,n',h5⟩:=hm0 _ b n hm;obtain⟨c,el,q1,_,_,q4⟩:=g8 b n' h5;exact⟨c,el,q1,by omega,λi j hi _=>by omega,q4⟩
   ·(try dsimp only)
    split
    ·rename_i hh;rw[hh,xI,zW9 rfl]at he;cases he
    ·rfl
   ·obtain⟨r1,_⟩:=hm0 k b n q1;obtain⟨r2,_⟩:=hm0 k' b n' q2;exact r1.trans r2.symm
   ·obtain⟨_,_,n',h5⟩:=hm0 k b n hm;exact H.free kn b n' h5
  refine⟨⟨X,_,hX,HH,λj=>?_,⟨λk e he=>?_,KK.size,KK.keep,λk b n hm=>?_,λk b n hm=>?_,KK.bs,KK.os,KK.tape,KK.output⟩,λi hi=>?_,hD⟩,λk hk2=>?_,gs,hl⟩
  ·rw[yN];split
   ·rename_i hj;subst hj;exact hrep
   ·exact .fz _ _ (.bot _)
  ·have:=F.hh k e he;rw[hK0]at this;simp at this
  ·obtain⟨_,_,n',h5⟩:=hm0 k b n hm;exact KK.own kn b n' h5
  ·have:=F.hK k b n hm;rw[hK0]at this;simp at this
  ·rw[yN]at hi
   split at hi<;>cases hi
  ·obtain⟨_,h5⟩:=hKE k _ hk2;cases h5
 generalize hce:a.eval (.tmp t)=c at h1 key
 cases h1 with
 |fz _ _ hf=>cases hf
 |dref _ _ _ _ hd _=>exact absurd hd (nd kn)
 |ref0 _ _ sz' xs' st' ad hk2 hn=>
  refine key [] (λb n hm=>by simp at hm) (.inl rfl) ?_;exact .ref0 K 0 sz [] true ad (by rw[xI,zW9 rfl]) (zXc _)
 |ref _ _ _ sz' xs' st' b n cap hk2 hb hn hc hs=>
  rw[hk]at hk2;cases hk2;refine key [(b,0)] (λb' n' hm=>by simp at hm;obtain⟨rfl,rfl⟩:=hm;exact⟨rfl,n,hb⟩) (.inr ⟨b,rfl⟩) ?_;exact .ref K 0 0 sz [] true b 0 cap (by rw[xI,zW9 rfl]) zS (zXc _) hc hs
theorem zD2 {c:Code} {Q:Exit->St->Prop} (t kn K:Nat) {sz:Nat} {xs:List AV} {st:Fl} (hK0:K0=[]) (hv:zG tm t= .ref kn 0 0) (hk:zC h kn=some (.arr sz xs st)) (hS:uC P F m c ⟨[(t,.ref K 0 0)],[(K,.arr sz [] true)]⟩ Q):uC P F m c ⟨tm,h⟩ Q:=
 ⟨λa w H=>hS.run a w (H.trunc t kn K hK0 hv hk)⟩
end
section
variable {P:Program} {TT:List TI} {st:St}
theorem wF {f:Nat} {x:Operand} {args:Array Operand} {ats:Array Nat} {caps as':List AV} {h0 h1:List (Nat×xN)} {r:AV} (hc:xO P f as' h0 r h1) (hx:yL (zG st.tm) x= .fn f caps)
  (has:(args.toList.map (yL (zG st.tm))++caps).map (vN (yD h0) (zC st.h))=as') (hh0:(yD h0).map (zC st.h)=(yD h0).map (zC h0)) (hcl:h0.all (λp=>clE (yD h0) p.2)=true)
  (hnb:((qN (args.toList.map (yL (zG st.tm))++caps)).all ((yD h0).contains ·)||(r.nosl&&PH h1))=true):
  wR P st (.call ⟨.value x,args,ats⟩) r h1 (yD h0++qN (args.toList.map (yL (zG st.tm))++caps)) ((yD h1).filter λk=>!(yD h0).contains k):=by
 refine⟨?_⟩;intro X tm h hg hr hn o a w β ho HH Ht;obtain⟨dst,op',type,pos,after,guard⟩:=o;dsimp only at ho;subst ho;have hfv:=jL Ht hg (x:=x) qF hx
 obtain⟨cv,hfx,hcvl,hcv⟩:∃cv:Array Value,a.eval x= .func (.func f) #[] cv/\cv.size=caps.length/\∀(i:Nat) v,caps[i]? =some v->zV w (xF X β) h β v (cv.getD i undef):=by
  generalize a.eval x=cx at hfv
  cases hfv with
  |fz _ _ hf=>cases hf
  |fn _ _ c hl hh=>exact⟨c,rfl,hl,hh⟩
 have hrun:(execOp a.eval ⟨dst,.call ⟨.value x,args,ats⟩,type,pos,after,guard⟩).run P w= .ok (.enter f (args.map a.eval++cv)) w:=by
  have hab:=hc.able (args.map a.eval++cv) w;simp[execOp,resolve,hfx,Deferred.ofValue,invoke,hab]
 rw[hrun]
 have hK:∀k,k∈yD h0->h k=zC h0 k:=λk hk=>by
  rw[hr k PQ];obtain⟨i,hi⟩:=yAn hk;have:=zX7 (·[i]?) hh0;simpa [hi]using this
 have hoff0:∀k,zC h0 k=none->¬k∈yD h0:=λk hk hm=>by
  obtain⟨e,he⟩:=gH hm;rw[hk]at he;cases he
 let βc:uB:=λk=>if k∈yD h0 then β k else []
 have hβc:∀k,k∈yD h0->βc k=β k:=λk hk=>by simp[βc,hk]
 have hβn:∀k,¬k∈yD h0->βc k=[]:=λk hk=>by simp[βc,hk]
 have hβm:∀k b n,(b,n)∈βc k->k∈yD h0/\(b,n)∈β k:=λk b n hm=>by
  by_cases hk:k∈yD h0
  ·rw[hβc k hk]at hm;exact⟨hk,hm⟩
  ·rw[hβn k hk]at hm;simp at hm
 let lent:Bool:=!(qN (args.toList.map (yL (zG st.tm))++caps)).all ((yD h0).contains ·)
 let Xc:Nat->Prop:=λb=>X b∨(lent=false/\∃k n,¬k∈yD h0/\(b,n)∈β k)
 have hDc:∀b,xF Xc βc b->xF X β b:=λb hd=>by
  rcases hd with(hx|⟨_,k,n,_,hm⟩)|⟨k,n,hm⟩
  ·exact .inl hx
  ·exact .inr ⟨k,n,hm⟩
  ·exact .inr ⟨k,n,(hβm k b n hm).2⟩
 have hclosed:∀k e,zC h0 k=some e->clE (yD h0) e=true:=λk e hk=>by
  obtain⟨p,hp,he⟩:=gI hk;have:=zXm.1 hcl p hp;rw[he]at this;exact this
 have hfrz:∀{v c},zV w (xF X β) h β v c->(∀k,k∈v.refs->k∈yD h0∨∀b n,(b,n)∈β k->¬xF Xc βc b)->zV w (xF Xc βc) (zC h0) βc (vN (yD h0) h v) c:=λhv hrf=>
  zV.fz0 HH (λk hk e he=>by
   rw[hK k hk]at he
   cases e with
   |box cs=>exact⟨cs,he⟩
   |arr sz xs fl=>exact⟨xs,fl,he,rfl⟩
   |dead=>exact he) hβc (λb _ hd h'=>hd (hDc b h')) hv hrf
 have hclv:∀{v c},zV w (xF X β) h β v c->(∀k,k∈v.refs->k∈yD h0)->zV w (xF Xc βc) (zC h0) βc v c:=by
  intro v c hv;have ef:∀{v c},xE w (xF X β) v c->xE w (xF Xc βc) v c:=λhf=>hf.evo (zXc _) λb _ hd=>⟨rfl,λh'=>hd (hDc b h')⟩
  induction hv with
  |fz v c hf=>exact λ_=> .fz _ _ (ef hf)
  |agg cs c hl h1 _ ih=>exact λhr=> .agg cs c hl h1 λi v hv=>ih i v hv λk hk=>hr k (by simpa [AV.refs]using xR hv hk)
  |fn f caps c hl _ ih=>exact λhr=> .fn f caps c hl λi v hv=>ih i v hv λk hk=>hr k (by simpa [AV.refs]using xR hv hk)
  |tup vs c hl _ ih=>exact λhr=> .tup vs c hl λi v hv=>ih i v hv λk hk=>hr k (by simpa [AV.refs]using xR hv hk)
  |dref k off len c hk h1=>exact λhr=> .dref _ _ _ _ ((hK k (hr k (by simp[AV.refs])))▸hk) h1
  |dptr k i off c hk h1=>exact λhr=> .dptr _ _ _ _ ((hK k (hr k (by simp[AV.refs])))▸hk) h1
  |ref k off len sz xs st b n cap hk hb hn hc hs=>exact λhr=> .ref k off len sz xs st b n cap ((hK k (hr k (by simp[AV.refs])))▸hk) (by rw[hβc k (hr k (by simp[AV.refs]))];exact hb) hn hc hs
  |ref0 k off sz xs st a hk hn=>exact λhr=> .ref0 k off sz xs st a ((hK k (hr k (by simp[AV.refs])))▸hk) hn
  |pbox k off cs b n hk hb=>exact λhr=> .pbox k off cs b n ((hK k (hr k (by simp[AV.refs])))▸hk) (by rw[hβc k (hr k (by simp[AV.refs]))];exact hb)
  |parr k i off sz xs st b n hk hb hi ho=>exact λhr=> .parr k i off sz xs st b n ((hK k (hr k (by simp[AV.refs])))▸hk) (by rw[hβc k (hr k (by simp[AV.refs]))];exact hb) hi ho
 have Hc:kI Xc (zC h0) βc w:=by
  refine⟨λk e he=>?_,λk he=>hβn k (hoff0 k he),λk k' b n n' q1 q2=>HH.disj _ _ _ _ _ (hβm _ _ _ q1).2 (hβm _ _ _ q2).2,λk b n hm hx=>?_,λb hd=>HH.lt b (hDc b hd)⟩
  ·have hk:=vF he
   refine(HH.ent k e ((hK k hk).trans he)).lift (hβc k hk) (λcs hcs i v c hi hv=>hclv hv λj hj=>by
    have:=hclosed k e he;rw[hcs]at this
    simpa using zXm.1 this j (xR hi hj)) λsz xs fl hxs i x j v c hi hj=>⟨λhf=>hf.evo (zXc _) λb _ hd=>⟨rfl,λh'=>hd (hDc b h')⟩,λhn hv=>hclv hv λq hq=>by
    have:=hclosed k e he;rw[hxs]at this;simp only[clE,hn,zYk]at this
    simpa using zXm.1 this q (xR hi (bK hj hq))⟩
  ·obtain⟨hk,hm⟩:=hβm k b n hm
   rcases hx with hx|⟨_,k',n',hk',hm'⟩
   ·exact HH.free k b n hm hx
   ·exact hk' (HH.disj k k' b n n' hm hm'▸hk)
 have hargs:∀(i:Nat) v,(args.toList.map (yL (zG st.tm))++caps)[i]? =some v->zV w (xF X β) h β v ((args.map a.eval++cv).getD i undef):=λi v hi=>by
  rcases zBp (ρ:=a.eval) (yL (zG st.tm)) hcvl hi with⟨y,hy,rfl,he⟩|⟨j,hj,he⟩
  ·rw[he]
   exact jL Ht hg (by
    simp only[Op.operands,Call.operands,Array.mem_append]
    exact .inr hy) rfl
  ·rw[he];exact hcv j v hj
 have hrefs:∀(i:Nat) v,(args.toList.map (yL (zG st.tm))++caps)[i]? =some v->∀k,k∈v.refs->k∈yD h0∨∀b n,(b,n)∈β k->¬xF Xc βc b:=λi v hi k hk=>by
  by_cases hk0:k∈yD h0
  ·exact .inl hk0
  ·refine .inr λb n hm hd=>?_
   have hlent:lent=true:=by
    cases hl:lent with
    |true=>rfl
    |false=>
     simp only[lent,Bool.not_eq_false']at hl;have:=zXm.1 hl k (xR hi hk);exact absurd EU hk0
   rcases hd with(hx|⟨hf,_⟩)|⟨k',n',hm'⟩
   ·exact HH.free k b n hm hx
   ·rw[hlent]at hf;cases hf
   ·obtain⟨q1,q2⟩:=hβm k' b n' hm';exact hk0 (HH.disj k k' b n n' hm q2▸q1)
 have hfreq:∀(i:Nat) v,(args.toList.map (yL (zG st.tm))++caps)[i]? =some v->vN (yD h0) (zC st.h) v=vN (yD h0) h v:=by
  have main:∀v:AV,(∀k,k∈v.refs->h k=zC st.h k)->vN (yD h0) (zC st.h) v=vN (yD h0) h v:=by
   intro v
   refine AV.rec (motive_1:=λv=>(∀k,k∈v.refs->h k=zC st.h k)->vN (yD h0) (zC st.h) v=vN (yD h0) h v)
    (motive_2:=λcs=>(∀k,k∈qN cs->h k=zC st.h k)->wE (yD h0) (zC st.h) cs=wE (yD h0) h cs) ?_ ?_ ?_ ?_ ?_ ?_ ?_ ?_ ?_ ?_ ?_ ?_ ?_ v
   ·exact λ_=>rfl
   ·exact λ_ _=>rfl
   ·exact λ_ _=>rfl
   ·exact λcs ih hk=>by simp only[vN];rw[ih (by simpa [AV.refs]using hk)]
   ·exact λ_ _ _ _=>rfl
   ·exact λ_ _ _ _=>rfl
   ·exact λk off len hk=>by simp only[vN];rw[hk k (by simp[AV.refs])]
   ·exact λ_ _ _ _=>rfl
   ·exact λ_ _ _ _ _=>rfl
   ·exact λf cs ih hk=>by simp only[vN];rw[ih (by simpa [AV.refs]using hk)]
   ·exact λcs ih hk=>by simp only[vN];rw[ih (by simpa [AV.refs]using hk)]
   ·exact λ_=>rfl
   ·exact λv r ihv ihr hk=>by
     simp only[wE];rw[ihv λk h=>hk k (by simp[qN,h]),ihr λk h=>hk k (by simp[qN,h])]
  exact λi v hi=>main v λk hk=>hr k (by simp[xR hi hk])
 have hsim:=hc.sim Xc w βc (args.map a.eval++cv) (by rw[<-has];simp[hcvl]) Hc (λi v hi=>by
  rw[<-has,zXd,zXn]at hi;obtain⟨u,hu,rfl⟩:=hi;rw[hfreq i u hu]
  exact hfrz (hargs i u hu) (hrefs i u hu))
 refine Calls.mono hsim ?_;rintro e w' ⟨c,β1,he,G,hv⟩;refine⟨c,he,?_⟩;have hlive:=G.lives Hc hc.nd
 let β':uB:=λk=>if(zC h1 k).isSome then β1 k else β k
 have hb1:∀k e,zC h1 k=some e->β' k=β1 k:=λk e hk=>by simp[β',hk]
 have hb2:∀k,zC h1 k=none->β' k=β k:=λk hk=>by simp[β',hk]
 have hin:∀k,k∈yD h0->∃e,zC h1 k=some e:=λk hk=>by
  obtain⟨e,he⟩:=gH hk
  rcases G.key k e he with h2|h2
  ·exact⟨_,h2⟩
  ·cases e with
   |dead=>exact h2.elim
   |box cs=>exact⟨_,h2.1.choose_spec⟩
   |arr sz xs st=>obtain⟨xs',st',h3,_⟩:=h2.1;exact⟨_,h3⟩
 have hnew:∀k e,zC h1 k=some e->¬k∈yD h0->h k=none:=λk e hk hk0=>hn k (by
  simp only[yAj,zZl,List.contains_eq_mem,zXu]
  exact⟨vF hk,hk0⟩)
 have ov1:∀k e,zC h1 k=some e->over h1 h k=some e:=λk e hk=>by simp[over,hk]
 have ov2:∀k,zC h1 k=none->over h1 h k=h k:=λk hk=>by simp[over,hk]
 have hβ':∀k b n,(b,n)∈β' k->((∃e,zC h1 k=some e)/\(b,n)∈β1 k)∨(zC h1 k=none/\¬k∈yD h0/\(b,n)∈β k):=λk b n hm=>by
  cases hk:zC h1 k with
  |none=>rw[hb2 k hk]at hm;exact .inr ⟨rfl,(λh2=>by obtain⟨e,he⟩:=hin k h2;rw[hk]at he;cases he),hm⟩
  |some e=>rw[hb1 k e hk]at hm;exact .inl ⟨⟨e,rfl⟩,hm⟩
 have own1:∀k b n,(b,n)∈β1 k->(∃k' n',k'∈yD h0/\(b,n')∈β k')∨w.heap.size<=b:=λk b n hm=>by
  rcases G.own k b n hm with⟨k',n',h2⟩|h2
  ·obtain⟨q1,q2⟩:=hβm k' b n' h2;exact .inl ⟨k',n',q1,q2⟩
  ·exact .inr h2
 have keepK:∀b,b<w.heap.size->(∀k n,k∈yD h0->(b,n)∉β k)->w'.heap[b]? =w.heap[b]? :=λb hb hk=>G.keep b hb λk n hm=>by
  obtain⟨q1,q2⟩:=hβm k b n hm;exact hk k n q1 q2
 have keepO:∀k b n,¬k∈yD h0->(b,n)∈β k->w'.heap[b]? =w.heap[b]? :=λk b n hk hm=>keepK b (HH.lt b (.inr ⟨k,n,hm⟩)) λk' n' hk' hm'=>hk (HH.disj k k' b n n' hm hm'▸hk')
 have bs':∀k b n,(b,n)∈β k->xX w' b=xX w b:=λk b n hm=>by
  by_cases hk:k∈yD h0
  ·exact G.bs k b n (by rw[hβc k hk];exact hm)
  ·unfold xX World.shape?;rw[keepO k b n hk hm]
 have key':∀k e,h k=some e->over h1 h k=some .dead∨match e with
   | .dead=>False
   | .box _=>(∃cs',over h1 h k=some (.box cs'))/\∀b n,(b,n)∈β k->(b,n)∈β' k
   | .arr sz xs _=>(∃xs' st',over h1 h k=some (.arr sz xs' st')/\xs.length<=xs'.length)/\∀b n,(b,n)∈β k->∃n',n<=n'/\(b,n')∈β' k:=λk e he=>by
  by_cases hk:k∈yD h0
  ·have he0:=(hK k hk)▸he;have:=G.key k e he0;obtain⟨e1,he1⟩:=hin k hk;rw[he1]at this;rw[ov1 k e1 he1,hb1 k e1 he1,<-hβc k hk];exact this
  ·have hno:zC h1 k=none:=by
    cases h2:zC h1 k with
    |none=>rfl
    |some e1=>rw[hnew k e1 h2 hk]at he;cases he
   rw[ov2 k hno,hb2 k hno];exact qS h β k e he
 have own':∀k b n,(b,n)∈β' k->(∃k' n',(b,n')∈β k')∨w.heap.size<=b:=λk b n hm=>by
  rcases hβ' k b n hm with⟨_,h2⟩|⟨_,_,h2⟩
  ·rcases own1 k b n h2 with⟨k',n',_,h3⟩|h3
   ·exact .inl ⟨k',n',h3⟩
   ·exact .inr h3
  ·exact .inl ⟨k,n,h2⟩
 have keep':∀b,b<w.heap.size->(∀k n,(b,n)∉β k)->w'.heap[b]? =w.heap[b]? :=λb hb hk=>keepK b hb λk n _=>hk k n
 have E:JP w (xF X β) h β w' (xF X β') (over h1 h) β':=by
  refine⟨G.size,λb hb hd=>?_,bs',key'⟩;have q1:∀k n,(b,n)∉β k:=λk n hm=>hd (.inr ⟨k,n,hm⟩)
  refine⟨keep' b hb q1,?_⟩;rintro(hx|⟨k,n,hm⟩)
  ·exact hd (.inl hx)
  ·rcases own' k b n hm with⟨k',n',h2⟩|h2
   ·exact q1 _ _ h2
   ·omega
 have hup:∀k e,zC h1 k=some e->over h1 h k=some e/\β' k=β1 k:=λk e hk=>⟨ov1 k e hk,hb1 k e hk⟩
 have hDl:lent=false->∀b,xF X β' b->xF Xc β1 b:=λhl b hd=>by
  rcases hd with hx|⟨k,n,hm⟩
  ·exact .inl (.inl hx)
  ·rcases hβ' k b n hm with⟨_,h2⟩|⟨_,h2,h3⟩
   ·exact .inr ⟨k,n,h2⟩
   ·exact .inl (.inr ⟨hl,k,n,h2,h3⟩)
 have hcase:lent=false∨(r.nosl=true/\PH h1=true):=by
  rw[zZe]at hnb
  rcases hnb with h2|h2
  ·left;show(!(_:Bool))=false;rw[h2];rfl
  ·right;simpa using h2
 have hliftV:∀{v c},(lent=false∨v.nosl=true)->zV w' (xF Xc β1) (zC h1) β1 v c->zV w' (xF X β') (over h1 h) β' v c:=λhl hv=>by
  rcases hl with hl|hl
  ·exact EH (h':=over h1 h) hup (λb hd _=> .inl (hDl hl b hd)) hv
  ·exact MP hup hv hl
 have hliftF:∀{v c},(lent=false∨v.nosl=true)->xE w' (xF Xc β1) v c->xE w' (xF X β') v c:=λhl hv=>by
  rcases hl with hl|hl
  ·exact hv.evo (zXc _) λb _ hd=>⟨rfl,λh'=>hd (hDl hl b h')⟩
  ·exact hv.free hl
 have HK:kI X (over h1 h) β' w':=by
  refine⟨λk e he=>?_,λk he=>?_,λk k' b n n' q1 q2=>?_,λk b n hm hx=>?_,λb hd=>?_⟩
  ·cases hk:zC h1 k with
   |none=>
    rw[ov2 k hk]at he;have hk0:¬k∈yD h0:=λh2=>by obtain⟨e1,he1⟩:=hin k h2;rw[hk]at he1;cases he1
    exact(HH.ent k e he).evo E (hb2 k hk) λb n hm=>keepO k b n hk0 hm
   | some e1=>
    rw[ov1 k e1 hk]at he;obtain rfl:=zZr he;have hns:lent=false∨e1.nosl=true:=hcase.imp id λh2=>PI h2.2 hk
    refine(G.hok.ent k e1 hk).lift (hb1 k e1 hk) (λcs hcs i v c hi hv=>hliftV (hns.imp id λh2=>kH (by rw[hcs]at h2;exact h2) hi) hv) λsz xs st hxs i x j v c hi hj=>by
     have hns':lent=false∨v.nosl=true:=hns.imp id λh2=>by
      have hxn:x.nosl=true:=kH (by rw[hxs]at h2;exact h2) hi
      cases x<;>first
       |(simp[AV.cells]at hj;cases j<;>simp at hj;subst hj;exact hxn)
       |(exact kH (by simpa [AV.nosl,AV.cells]using hxn) hj)
     exact⟨λhf=>hliftF hns' hf,λ_ hv=>hliftV hns' hv⟩
  ·cases hk:zC h1 k with
   |none=>rw[ov2 k hk]at he;rw[hb2 k hk];exact HH.off k he
   |some e1=>rw[ov1 k e1 hk]at he;cases he
  ·rcases hβ' k b n q1 with⟨_,h2⟩|⟨_,h2,h3⟩<;>rcases hβ' k' b n' q2 with⟨_,h4⟩|⟨_,h4,h5⟩
   ·exact G.hok.disj _ _ _ _ _ h2 h4
   ·rcases own1 k b n h2 with⟨j,m,hj,hm⟩|h6
    ·exact absurd (HH.disj j k' b m n' hm h5▸hj) h4
    ·have:=HH.lt b (.inr ⟨k',n',h5⟩);omega
   ·rcases own1 k' b n' h4 with⟨j,m,hj,hm⟩|h6
    ·exact absurd (HH.disj j k b m n hm h3▸hj) h2
    ·have:=HH.lt b (.inr ⟨k,n,h3⟩);omega
   ·exact HH.disj _ _ _ _ _ h3 h5
  ·rcases hβ' k b n hm with⟨_,h2⟩|⟨_,_,h3⟩
   ·exact G.hok.free k b n h2 (.inl hx)
   ·exact HH.free k b n h3 hx
  ·rcases hd with hx|⟨k,n,hm⟩
   ·exact zYh (HH.lt b (.inl hx)) G.size
   ·rcases hβ' k b n hm with⟨_,h2⟩|⟨_,_,h3⟩
    ·exact G.hok.lt b (.inr ⟨k,n,h2⟩)
    ·exact zYh (HH.lt b (.inr ⟨k,n,h3⟩)) G.size
 exact⟨β',⟨G.size,keep',own',bs',key',HK,G.os,G.tape,G.output⟩,hliftV (hcase.imp id (·.1)) hv⟩
end
section
variable {P:Program} {TT:List TI} {K0:List Nat} {F:Fr K0} {m:Nat} {ops:Array Oper} {rest:List Oper} {Q:List FP->St->Prop} {tm:List (Nat×AV)} {h:List (Nat×xN)} {dr:Bool} {fs:List FP}
variable {ty:Nat} {pos:String} {after:Array Edge} {t:Nat}
theorem zP3 (hP:uL P TT) {T e key off len sz:Nat} {d x:Operand} {ti te:TI} {xs ys zs:List AV} {xv:AV} (hdv:yL (zG tm) d= .ref key off len) (hk:zC h key=some (.arr sz xs false)) (hx:yL (zG tm) x=xv) (hT:TT[T]? =some ti) (hd:ti.d= .slice e) (he:TT[e]? =some te)
  (hys:CF (zC h) xv=some ys) (hsz:∀y,ys[0]? =some y->y.cells.length=sz) (hss:Nat.beq sz te.size=true) (hn:ys.length<=len) (hz:xs.take off++ys++xs.drop (off+ys.length)=zs) (hm:Nat.blt t m=true)
  (hr:zZ P F m ops dr rest ⟨(t,.s (.int .i64 ys.length))::tm,(key,.arr sz zs false)::h⟩ (⟨true,[key],key::PM xv⟩::fs) Q):zZ P F m ops dr (⟨some t,.call ⟨.builtin .copy, #[d,x], #[T,T]⟩,ty,pos,after,none⟩::rest) ⟨tm,h⟩ fs Q:=by
 subst hz;exact uG (nw:=[]) (OA hP hdv hk hx hT hd he hys hsz hss hn) hm rfl rfl hr
theorem gY (hP:uL P TT) {T e key len sz:Nat} {x l:Operand} {ti te:TI} {xs:List AV} {sl:Fl} {k:IntKind} {i:Int} (hx:yL (zG tm) x= .ref key 0 len) (hk:zC h key=some (.arr sz xs sl)) (hl:yL (zG tm) l= .s (.int k i)) (hT:TT[T]? =some ti) (hd:ti.d= .slice e) (he:TT[e]? =some te)
  (hsz:Nat.beq sz te.size=true) (h0:0<=i) (h1:i<=len) (hm:Nat.blt t m=true) (hr:zZ P F m ops dr rest ⟨(t,.ref key i.toNat (len-i.toNat))::tm,h⟩ (⟨true,[],[key]⟩::fs) Q):
  zZ P F m ops dr (⟨some t,.slice T x (some l) none none,ty,pos,after,none⟩::rest) ⟨tm,h⟩ fs Q:=by
 have:=gX (P:=P) (st:=⟨tm,h⟩) (lo:=some l) (hi:=none) (l:=i.toNat) (r:=len) hP hx hk hT hd he ⟨k,i,hl,by omega⟩ rfl (by omega) (zXc _) hsz;rw[zYe]at this;exact xK this hm hr
theorem zBy (hP:uL P TT) {T e key len sz:Nat} {x l:Operand} {ti te:TI} {xs:List AV} {sl:Fl} {k:IntKind} (hx:yL (zG tm) x= .ref key 0 len) (hk:zC h key=some (.arr sz xs sl)) (hl:yL (zG tm) l= .s (.int k 0)) (hT:TT[T]? =some ti) (hd:ti.d= .slice e) (he:TT[e]? =some te)
  (hsz:Nat.beq sz te.size=true) (hm:Nat.blt t m=true) (hr:zZ P F m ops dr rest ⟨(t,.ref key 0 0)::tm,h⟩ (⟨true,[],[key]⟩::fs) Q):
  zZ P F m ops dr (⟨some t,.slice T x none (some l) none,ty,pos,after,none⟩::rest) ⟨tm,h⟩ fs Q:=by
 have:=gX (P:=P) (st:=⟨tm,h⟩) (lo:=none) (hi:=some l) (l:=0) (r:=0) hP hx hk hT hd he rfl ⟨k,0,hl,by omega⟩ (zXc _) (zXp _) hsz;exact xK this hm hr
theorem zOi (hP:uL P TT) {T I e n:Nat} {s x:Operand} {ti te tn:TI} {k0:IntKind} {nx:Int} {z:AV} (hs:yL (zG tm) s= .s (.slice none 0 0)) (hx:yL (zG tm) x= .s (.int .i64 nx)) (hT:TT[T]? =some ti) (hd:ti.d= .slice e) (he:TT[e]? =some te) (hI:TT[I]? =some tn) (hdn:tn.d= .int k0)
  (hb:Nat.ble te.bytes 65536=true) (hp:Nat.ble 1 te.size=true) (hzl:Nat.beq te.zero.length te.size=true) (hz1:te.zero.all (·.oneCell')=true) (hzc:Nat.beq (vU te).cells.length te.size=true) (hzc2:(vU te).cells=te.zero.map .s) (hz:vU te=z)
  (hnx:nx=(n:Int)) (hpos:1<=n) (hmax:n<=1073741824) (hm:Nat.blt t m=true) (hnn:(zC h t).isNone=true)
  {sz:Nat} (hse:te.size=sz) (hk:zZ P F m ops dr rest ⟨(t,.ref t 0 n)::tm,(t,.arr sz (List.replicate n z) false)::h⟩ (⟨true,[t,t],[]⟩::fs) Q):zZ P F m ops dr (⟨some t,.call ⟨.builtin .append, #[s,x], #[T,I]⟩,ty,pos,after,none⟩::rest) ⟨tm,h⟩ fs Q:=by
 subst hse hz;exact uG (nw:=[t]) (zD1 hP t hs hx hT hd he hI hdn hnx hpos hmax hb hp hzl hz1 hzc hzc2) hm (zDn hnn) rfl hk
end
mutual
def OB (k L:Nat):AV->Prop
 | .ref j off len=>j=k->off=0/\len=L
 | .ptr j _ _=>j≠k
 | .agg cs| .fn _ cs| .tup cs=>gP k L cs
 |_=>True
def gP (k L:Nat):List AV->Prop
 | []=>True
 |v::r=>OB k L v/\gP k L r
end
def IJ (k L:Nat):List (Nat×AV)->Prop
 | []=>True
 |(_,v)::r=>OB k L v/\IJ k L r
def IK (k L:Nat):List (Nat×xN)->Prop
 | []=>True
 |(_,e)::r=>(match e with
  | .box cs=>gP k L cs
  | .arr _ xs fl=>fl.nest=false∨gP k L xs
  | .dead=>True)/\IK k L r
theorem gP.at {k L:Nat}:∀{cs:List AV} {i:Nat} {v:AV},gP k L cs->cs[i]? =some v->OB k L v
 | [],_,_,_,h=>by simp at h
 |x::r,0,v,hk,h=>by simp at h;subst h;exact hk.1
 |x::r,i+1,v,hk,h=>gP.at hk.2 NS
theorem IJ.at {k L:Nat}:∀{tm:List (Nat×AV)},IJ k L tm->∀t,OB k L (zG tm t)
 | [],_,t=>trivial
 |(j,v)::r,h,t=>by
  rw[yN];split
  ·exact h.1
  ·exact IJ.at h.2 t
theorem IK.at {k L:Nat}:∀{h:List (Nat×xN)} {j:Nat} {e:xN},IK k L h->zC h j=some e->match e with
  | .box cs=>gP k L cs
  | .arr _ xs fl=>fl.nest=false∨gP k L xs
  | .dead=>True
 | [],_,_,_,he=>by simp[zC]at he
 |(i,e0)::r,j,e,h,he=>by
  rw[xI]at he;split at he
  ·cases he;exact h.1
  ·exact IK.at h.2 he
theorem OB.cells {k L:Nat} {x:AV} (h:OB k L x):gP k L x.cells:=by
 cases x<;>first
  |exact h
  |exact⟨h,trivial⟩
theorem zV.whole {w:World} {D D':Nat->Prop} {h h':yH} {β β':uB} (k L:Nat) (hD:∀b,D' b->D b) (hh:∀j,j≠k->h' j=h j) (hβ:∀j,j≠k->β' j=β j) (hw:∀c,zV w D h β (.ref k 0 L) c->zV w D' h' β' (.ref k 0 L) c) {v:AV} {c:Value} (hv:zV w D h β v c):OB k L v->zV w D' h' β' v c:=by
 have key:∀{off len j c},(j=k->off=0/\len=L)->zV w D h β (.ref j off len) c->(j≠k->zV w D' h' β' (.ref j off len) c)->zV w D' h' β' (.ref j off len) c:=λ{off len j c} h1 h2 h3=>by
  by_cases hj:j=k
  ·obtain⟨rfl,rfl⟩:=h1 hj;subst hj;exact hw _ h2
  ·exact h3 hj
 induction hv with
 |fz v c hf=>exact λ_=> .fz v c (hf.less hD)
 |agg cs c hl h1 hr ih=>exact λhk=> .agg cs c hl h1 λi v hv=>ih i v hv (gP.at hk hv)
 |fn f caps c hl hr ih=>exact λhk=> .fn f caps c hl λi v hv=>ih i v hv (gP.at hk hv)
 |tup vs c hl hr ih=>exact λhk=> .tup vs c hl λi v hv=>ih i v hv (gP.at hk hv)
 |dref j off len c hk' h1=>exact λhk=>key hk (.dref j off len c hk' h1) λhj=> .dref j off len c PS h1
 |dptr j i off c hk' h1=>exact λhk=> .dptr j i off c zI3 h1
 |ref j off len sz xs st b n cap hk' hb hn hc hs=>exact λhk=>key hk (.ref j off len sz xs st b n cap hk' hb hn hc hs) λhj=> .ref j off len sz xs st b n cap PS zBt hn hc hs
 |ref0 j off sz xs st a hk' hn=>exact λhk=>key hk (.ref0 j off sz xs st a hk' hn) λhj=> .ref0 j off sz xs st a PS hn
 |pbox j off cs b n hk' hb=>exact λhk=> .pbox j off cs b n zI3 (by rw[hβ j hk];exact hb)
 |parr j i off sz xs st b n hk' hb hi ho=>exact λhk=> .parr j i off sz xs st b n zI3 (by rw[hβ j hk];exact hb) hi ho
section
variable {P:Program} {K0:List Nat} {F:Fr K0} {m:Nat} {tm:List (Nat×AV)} {h:List (Nat×xN)}
end
section
variable {P:Program} {TT:List TI} {K0:List Nat} {F:Fr K0} {m:Nat} {ops:Array Oper} {dr:Bool} {rest:List Oper} {fs:List FP} {Q:List FP->St->Prop} {tm:List (Nat×AV)} {h:List (Nat×xN)} {ty:Nat} {pos:String} {after:Array Edge} {t:Nat}
theorem dF (k:Nat) (hP:uL P TT) {T e len:Nat} {ps:Array (Nat×Operand)} {ti te:TI} {xs:List AV} (hT:TT[T]? =some ti) (hd:ti.d= .slice e) (he:TT[e]? =some te) (hp:Nat.ble 1 te.size=true) (hps:bL ⟨tm,h⟩ ps=(xs.zipIdx 0).map λx=>(x.2,x.1)) (hl:Nat.beq xs.length len=true)
  (hw:xs.all (λx=>Nat.beq x.cells.length te.size&&x.ok)=true) (hb:Nat.ble (len*te.size) 65536=true) (hzl:Nat.beq te.zero.length te.size=true) (hm:Nat.blt t m=true) (hnn:(zC h k).isNone=true)
  {sz:Nat} (hse:te.size=sz) (hk:zZ P F m ops dr rest ⟨(t,.ref k 0 len)::tm,(k,.arr sz xs ⟨false,true⟩)::h⟩ (⟨true,[k,k],[]⟩::fs) Q):zZ P F m ops dr (⟨some t,.buildSlice T len ps,ty,pos,after,none⟩::rest) ⟨tm,h⟩ fs Q:=by
 subst hse;exact uG (nw:=[k]) (SA hP k hT hd he hp hps hl hw hb hzl) hm (zDn hnn) rfl hk
end
end Av
end Go.Proofs.YtmamjhmoegjapaaGreat
