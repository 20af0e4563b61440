/- Part 10. -/
import Derived.Test.YtmamjhmoegjapaaGreatP09
namespace Go.Proofs.YtmamjhmoegjapaaGreat
namespace Av
set_option linter.all false
set_option maxRecDepth 4000
section
variable {P:Program} {TT:List TI} {st:St}
theorem zEw (hP:uN P TT) {T I e n:Nat} {s x:Operand} {ti te tn:TI} {k0:IntKind} {nx:Int} (kn:Nat) (hs:yO (zG st.tm) s= .s (.slice none 0 0)) (hx:yO (zG st.tm) x= .s (.int .i64 nx)) (hT:TT[T]? =some ti) (hd:ti.d= .slice e) (he:TT[e]? =some te) (hI:TT[I]? =some tn) (hdn:tn.d= .int k0)
  (hnx:nx=(n:Int)) (hpos:1<=n) (hmax:n<=1073741824) (hb:Nat.ble te.bytes 65536=true) (hp:Nat.ble 1 te.size=true) (hzl:Nat.beq te.zero.length te.size=true) (hz1:te.zero.all (·.oneCell')=true) (hzc:Nat.beq (vX te).cells.length te.size=true) (hzc2:(vX te).cells=te.zero.map .s):
  wR P st (.call ⟨.builtin .append, #[s,x], #[T,I]⟩) (.ref kn 0 n) [(kn,.arr te.size (List.replicate n (vX te)) false)] [] [kn]:=by
 refine⟨?_⟩;intro X tm h hg _ hn o a w β ho HH Ht;obtain⟨dst,op',type,pos,after,guard⟩:=o;dsimp only at ho;subst ho;have h1:=vN Ht hg (x:=s) qH hs;have h2:=vN Ht hg (x:=x) qH hx;have hp:=zY7 hp;have hb:=zY7 hb;have hzl:=zZm hzl;have hzc:=zZm hzc;subst hnx;obtain⟨i,z,hu,hi,hz,e1,e2,e3⟩:=wL hP hT hd he;obtain⟨_,u2,_,_,hu2,_,hd2,_⟩:=vY (hP _ _ hI);obtain rfl:=IG (hd2.symm.trans hdn)
 have hbytes:n*i.bytes<=281474976710656:=by
  have:=yBw hmax (show i.bytes<=65536 by omega);omega
 have hw:IntKind.i64.wrap (n:Int)=(n:Int):=kL ⟨by show(-9223372036854775808:Int)<=_;omega,by show _<=(9223372036854775807:Int);omega⟩
 have hs0:n*i.size≠0:=by
  have:1*1<=n*i.size:=yBw hpos (by omega);omega
 have h48:¬(281474976710656<(n:Int)*(i.bytes:Int)):=by
  have h3:(n:Int)*(i.bytes:Int)=((n*i.bytes:Nat):Int):=by simp
  rw[h3];omega
 have h48':¬(281474976710656<Builtin.nextslicecap n 0*i.bytes):=by rw[nextslicecap_zero hpos];omega
 have h63:¬(9223372036854775807<(n:Int)):=by omega
 have hn0:n≠0:=by omega
 have hneg:¬((n:Int)<0):=by omega
 have hrun:(Builtin.append_ #[T,I] type #[.slice none 0 0,.int .i64 (n:Int)]).run P w= .ok (.slice (some ⟨w.heap.size,0,none⟩) n (grownCap w n 0 e)) (w.drew.alloc (.cells (Builtin.zeroCells z.cells n++Builtin.zeroCells z.cells (grownCap w n 0 e-n)) e)):=by
  have ha:(asIntOf (.int .i64 (n:Int))).run P w= .ok (.i64,(n:Int)) w:=rfl;have hn1:¬((n:Int)<=0):=by omega
  simp[Builtin.append_,run_underlying hu,run_underlying hu2,sizeOf,typeInfo,zeroValue,hi,hz,asInt,ha,hw,hneg,hn1,h48,hs0,hn0,h63,h48',Question.forced,run_firstCells_none,newRow,grownCap]
 have hex:(execOp a.eval ⟨dst,.call ⟨.builtin .append, #[s,x], #[T,I]⟩,type,pos,after,guard⟩).run P w= .ok (.value (.slice (some ⟨w.heap.size,0,none⟩) n (grownCap w n 0 e))) (w.drew.alloc (.cells (Builtin.zeroCells z.cells n++Builtin.zeroCells z.cells (grownCap w n 0 e-n)) e)):=by
  simp[execOp,resolve,invoke,builtin,h1,h2,hrun]
 rw[hex];have HD:=HH.drew (w.drawn+1);have hzs:z.cells.size=te.size:=by rw[<-hzl,<-e3];simp
 have hge:=grownCap_ge w n 0 e;have hrl:(List.replicate n (vX te)).length=n:=by simp
 have hat:∀(j:Nat) v,(List.replicate n (vX te))[j]? =some v->v=vX te:=λj v hv=>by
  rw[yAm]at hv;split at hv
  ·exact(yA2 hv).symm
  ·cases hv
 have hzat:∀j,j<te.size->∃v,te.zero[j]? =some v/\z.cells.getD j undef=v:=λj hj=>by
  have:=kK z.cells j (by omega);refine⟨_,?_,rfl⟩;rw[<-e3];simpa using this
 obtain⟨β',G,hv⟩:=xL.newArr HD (hn kn zU) (Builtin.zeroCells z.cells n++Builtin.zeroCells z.cells (grownCap w n 0 e-n)) e te.size (List.replicate n (vX te)) (grownCap w n 0 e) (λ_ j=>z.cells.getD j undef) hp (by rw[hrl];unfold dT;omega) (by rw[hrl];omega) (by
   simp only[yDr,size_zeroCells,hzs,<-zZs]
   congr 1;omega) (uS.get ((uS.zero (λv hv=>zY3.1 hz1 v OH) _).app (uS.zero (λv hv=>zY3.1 hz1 v OH) _)))
  (λj v hv=>by rw[hat j v hv];exact hzc) (λi' j hi' hj=>by
   rw[hrl]at hi'
   have hlt:i'*te.size+j<n*te.size:=by
    have:=zY8 te.size (show i'+1<=n by omega);rw[zZs,yAl]at this;omega
   have hm':(i'*te.size+j) % te.size=j:=by rw[yC6,yDi];exact yBn hj
   rw[yAr (by rw[size_zeroCells,hzs];exact hlt)];have hj':j<z.cells.size:=by omega
   simp only[Builtin.zeroCells,yD6,yDz,hzs,hlt,yEd,Option.map_some,hm']
   congr 1
   simp[zZq,hj']) (λi' j _ hj=>by
   obtain⟨v,hv,hv'⟩:=hzat j hj;rw[hv']
   exact zY3.1 hz1 v (zZ4 hv)) (λi' v j u hv hu=>by
   rw[hat i' v hv,hzc2]at hu;rw[zYt]at hu
   have hj:j<te.size:=by
    cases hz9:te.zero[j]? with
    |none=>rw[hz9]at hu;cases hu
    |some v9=>have:=(zZg.1 hz9).1;omega
   obtain⟨v2,hv2,hv3⟩:=hzat j hj;rw[hv2]at hu;cases hu;rw[hv3]
   exact .s _)
 rw[hrl]at hv;exact⟨β',xL.trans HH (xL.drew HH (w.drawn+1)) G,hv⟩
theorem OV (hP:uN P TT) {T e:Nat} {x:Operand} {ti:TI} (hx:yO (zG st.tm) x= .s (.slice none 0 0)) (hT:TT[T]? =some ti) (hd:ti.d= .slice e):
  wR P st (.call ⟨.builtin .cap, #[x], #[T]⟩) (.s (.int .i64 0)) [] [] []:=
 yR λoo X tm h w β a ho hg hr HH Ht=>by
  obtain⟨dst,op',type,pos,after,guard⟩:=oo;dsimp only at ho;subst ho;have hc:=vN Ht hg (x:=x) qH hx;obtain⟨u,hu,hd'⟩:=xU (hP _ _ hT) w;obtain rfl:=vP (hd'.trans hd);exact⟨_,by simp[execOp,resolve,invoke,builtin,Builtin.cap_,hc,hu,goInt],.fz _ _ (.s _)⟩
theorem zAt (hP:uN P TT) {T e:Nat} {x l:Operand} {ti te:TI} {k:IntKind} (hx:yO (zG st.tm) x= .s (.slice none 0 0)) (hl:yO (zG st.tm) l= .s (.int k 0)) (hT:TT[T]? =some ti) (hd:ti.d= .slice e) (he:TT[e]? =some te):
  wR P st (.slice T x none (some l) none) (.s (.slice none 0 0)) [] [] []:=
 yR λoo X tm h w β a ho hg hr HH Ht=>by
  obtain⟨dst,op',type,pos,after,guard⟩:=oo;dsimp only at ho;subst ho;have hc:=vN Ht hg (x:=x) uG hx;obtain⟨u,hu,hd'⟩:=xU (hP _ _ hT) w;obtain rfl:=vP (hd'.trans hd);have hs:=uO (hP _ _ he) w;have hb:=gR (P:=P) Ht hg (lo:=none) (hi:=some l) (len:=0) (cap:=0) (l:=0) (r:=0) (λy hy=>by cases hy) (λy hy=>by cases hy;simp[Op.operands]) rfl ⟨k,0,hl,by omega⟩ (zYs _) (zYs _) true;rw[yBt]at hb;exact⟨_,by simp only[execOp,Instr.sliceAt,Instr.slice,Sem.run_bind,hu,Result.andThen_ok,hc,yBt,hb,hs,Sem.run_pure];rfl,.fz _ _ (.s _)⟩
theorem OW (hP:uN P TT) {T e key off len sz:Nat} {d x:Operand} {ti te:TI} {xs ys:List AV} {xv:AV} (hdv:yO (zG st.tm) d= .ref key off len) (hk:zC st.h key=some (.arr sz xs false)) (hx:yO (zG st.tm) x=xv) (hT:TT[T]? =some ti) (hd:ti.d= .slice e) (he:TT[e]? =some te)
  (hys:BL (zC st.h) xv=some ys) (hsz:∀y,ys[0]? =some y->y.cells.length=sz) (hss:Nat.beq sz te.size=true) (hn:ys.length<=len):
  wR P st (.call ⟨.builtin .copy, #[d,x], #[T,T]⟩) (.s (.int .i64 ys.length)) [(key,.arr sz (xs.take off++ys++xs.drop (off+ys.length)) false)] (key::OB xv) []:=by
 refine⟨?_⟩;intro X tm h hg hr _ o a w β ho HH Ht;obtain⟨dst,op',type,pos,after,guard⟩:=o;dsimp only at ho;subst ho;have hk':=(hr key zU).trans hk;have h1:=jP Ht hg (x:=d) qH hdv;have h2:=jP Ht hg (x:=x) qH hx;have hss:=zZm hss;obtain⟨g1,g2,g3,g4,g5,f,g6,g7,g8⟩:=HH.ent key _ hk';obtain⟨ad,cap,hc,_,hmax,hsrc⟩:=eE HH h2 ((jU λk' hk=>hr k' OG).trans hys) hsz;obtain⟨i,z,hu,hi,hzz,e1,e2,e3⟩:=wL hP hT hd he
 have hnx:∀b n,(b,n)∈β key->n=xs.length∨n=0:=λb n hb=>by
  cases hbk:β key with
  |nil=>rw[hbk]at hb;simp at hb
  |cons q rr=>
   obtain⟨b0,n0⟩:=q;obtain⟨q1,q2,_⟩:=g5 b0 n0 rr hbk;rw[hbk]at hb;simp at hb
   rcases hb with⟨_,rfl⟩|hb
   ·exact .inl q1
   ·exact .inr (q2 rfl b n hb)
 have hop:∀{w'},(Builtin.copy_ #[T,T] type #[a.eval d,a.eval x]).run P w= .ok (goInt ys.length) w'->(execOp a.eval ⟨dst,.call ⟨.builtin .copy, #[d,x], #[T,T]⟩,type,pos,after,guard⟩).run P w= .ok (.value (.int .i64 ys.length)) w':=λhv=>by
  simp[execOp,resolve,invoke,builtin,hv,goInt]
 by_cases hnil:ys=[]
 ·subst hnil;have hxs:xs.take off++[]++xs.drop (off+([]:List AV).length)=xs:=by simp
  rw[hxs]
  obtain⟨bd,cp,hcs⟩:∃bd cp,a.eval d= .slice bd len cp:=by
   generalize a.eval d=cx at h1
   cases h1 with
   |fz _ _ hf=>cases hf
   |dref _ _ _ _ hd _=>rw[hk']at hd;cases hd
   |ref _ _ _ _ _ _ _ _ _ _ _ _ _ _=>exact⟨_,_,rfl⟩
   |ref0 _ _ _ _ _ _ _ _=>exact⟨_,_,rfl⟩
  have hf1:(Builtin.firstCells i.size 0 (.slice ad 0 cap)).run P w= .ok #[] w:=by
   cases ad with
   |none=>rfl
   |some a=>simp only[Builtin.firstCells,loadCells,yCm,loadCellsFrom];rfl
  rw[hop (w':=w) (by
   rw[hcs,hc]
   cases bd with
   |none=>simp[Builtin.copy_,run_underlying hu,sizeOf,typeInfo,hi,Builtin.lenOf,hf1]
   |some b=>simp[Builtin.copy_,run_underlying hu,sizeOf,typeInfo,hi,Builtin.lenOf,hf1,storeCells])]
  have G:=xL.step (w':=w) HH key (.arr sz xs false) (β key) (zYs _) (λ_ _ _=>rfl) rfl rfl rfl (λb n hm=> .inl ⟨n,hm⟩) (λ_ _ _=>rfl) (λe he=>by rw[hk']at he;cases he;exact .inr ⟨⟨_,_,rfl,zYs _⟩,λ_ n hm=>⟨n,zYs _,hm⟩⟩)
   (λE=>⟨g1,g2,λh=>by rw[zS];exact g3 h,g4,λb n r hr=>by rw[zS]at hr;exact g5 b n r hr,f,jO.evo E g6,g7,λb n hm=>by rw[zS]at hm;exact g8 b n hm⟩)
  exact⟨_,G,.fz _ _ (.s _)⟩
 obtain⟨b2,q,fy,rfl,hS⟩:=hsrc hnil
 have hpos:0<ys.length:=by cases ys with|nil=>exact absurd rfl hnil|cons _ _=>simp
 obtain⟨hf1,hf2⟩:=hS.flat g1
 obtain⟨b,n,cp,hcs,hbm,hnl,hcp⟩:∃b n cp,a.eval d= .slice (some ⟨b,off*sz,none⟩) len cp/\(b,n)∈β key/\off+len<=n/\len<=cp:=by
  generalize a.eval d=cx at h1
  cases h1 with
  |fz _ _ hf=>cases hf
  |dref _ _ _ _ hd _=>rw[hk']at hd;cases hd
  |ref _ _ _ sz' xs' st' b n cp hk2 hb hn hc2 hs2=>
   rw[hk']at hk2;cases hk2;exact⟨b,n,cp,rfl,hb,hn,hc2⟩
  |ref0 _ _ _ _ _ _ _ _=>omega
 have hnn:n=xs.length:=by rcases hnx b n hbm with h|h<;>omega
 subst hnn;obtain⟨cur,el,c1,c2,c3,c4⟩:=g8 b _ hbm;have hfit:(off+ys.length)*sz<=cur.size:=zZy (zY8 _ (by omega)) c2;have hmin:Nat.min ys.length len=ys.length:=yCn hn;have hfc:=run_firstCells_some (P:=P) w sz ys.length ⟨b2,q,none⟩ ys.length cap (flat fy ys.length sz) (zM _ _ _) hf1;have hst:=run_storeCells_at P b (off*sz) el (flat fy ys.length sz) 0 cur w c1 (by rw[zM,yBi,<-zZs];exact hfit) hf2;simp only[yBi]at hst;generalize hcur':(cur.toList.take (off*sz)++flat fy ys.length sz++cur.toList.drop (off*sz+(flat fy ys.length sz).length)).toArray=cur' at hst
 rw[hop (w':=w.setRow b cur') (by
  rw[hcs,hc];have e1':i.size=sz:=e1.trans hss.symm;rw[<-e1']at hfc;have hst2:(storeCells ⟨b,off*sz,none⟩ (flat fy ys.length i.size)).run P w= .ok () (w.setRow b cur'):=by rw[e1'];exact hst
  simp[Builtin.copy_,run_underlying hu,Builtin.lenOf,sizeOf,typeInfo,hi,yCn hn,hfc,hst2])]
 rw[zZs]at hfit
 have hsz':cur'.size=cur.size:=by
  rw[<-hcur'];simp only[yBk,zYr,zY5,zZk,yBj,zM];omega
 have hone2:∀q,q<cur'.size->(cur'.getD q undef).oneCell'=true:=by
  rw[<-hcur'];refine uS.get (uS.arr λv hv=>?_);have hc4:=uS.of c4
  rcases zZa.1 hv with hv|hv
  ·rcases zZa.1 hv with hv|hv
   ·exact hc4 v (zZ1 hv)
   ·exact hf2 v hv
  ·exact hc4 v (zZn hv)
 let f':Nat->Nat->Value:=λi j=>if off<=i/\i<off+ys.length then fy (i-off) j else f i j
 have hoff:off+ys.length<=xs.length:=by omega
 have hlen:(xs.take off++ys++xs.drop (off+ys.length)).length=xs.length:=by
  simp only[zYr,zY5,zZk];omega
 have hat:∀(i:Nat) y,(xs.take off++ys++xs.drop (off+ys.length))[i]? =some y->(off<=i/\i<off+ys.length/\ys[i-off]? =some y)∨(¬(off<=i/\i<off+ys.length)/\xs[i]? =some y):=λi y hy=>by
  have ht:(xs.take off).length=off:=by simp;omega
  by_cases h5:i<off
  ·rw[zZc,zZf (by omega),zZ2,zYp h5]at hy;exact .inr ⟨by omega,hy⟩
  ·by_cases h6:i<off+ys.length
   ·rw[zZc,zZe (by omega),ht,zZf (by omega)]at hy;exact .inl ⟨by omega,h6,hy⟩
   ·rw[zZe wI]at hy;simp only[zYr,ht]at hy;rw[yAj,show off+ys.length+(i-(off+ys.length))=i by omega]at hy;exact .inr ⟨by omega,hy⟩
 have hcell:∀i j,i<xs.length->j<sz->cur'[i*sz+j]? =some (f' i j):=λi j hi hj=>by
  rw[<-hcur'];simp only[f',yA7];by_cases h5:i<off
  ·have hlt:i*sz+j<off*sz:=by
    have:=zY8 sz (show i+1<=off by omega);rw[zZs,yAl]at this;omega
   rw[zYo (by omega),zZc,zZf wI,zZ2,zYp hlt];simpa using c3 i j hi hj
  ·have ht:(List.take (off*sz) cur.toList).length=off*sz:=by simp;omega
   have hge:off*sz<=i*sz:=zY8 _ (by omega);by_cases h6:i<off+ys.length
   ·have e4:i*sz+j-off*sz=(i-off)*sz+j:=by rw[yDc];omega
    have hlt:(i-off)*sz+j<ys.length*sz:=by
     have:=zY8 sz (show(i-off)+1<=ys.length by omega);rw[zZs,yAl]at this;omega
    rw[zYp (by omega),zZc,zZe (by rw[ht];omega),ht,zZf (by rw[zM];omega),e4];exact uY fy (by omega) hj
   ·have hge2:(off+ys.length)*sz<=i*sz:=zY8 _ (by omega);rw[zZs]at hge2;rw[zYo (by omega),zZe (by simp only[zYr,ht,zM];omega),yAj];simp only[zYr,ht,zM];rw[show off*sz+ys.length*sz+(i*sz+j-(off*sz+ys.length*sz))=i*sz+j by omega];simpa using c3 i j hi hj
 obtain⟨rr,hbk,hr0⟩:∃rr,β key=(b,xs.length)::rr/\∀b' n',(b',n')∈rr->n'=0:=by
  cases hbk:β key with
  |nil=>rw[hbk]at hbm;simp at hbm
  |cons q r=>
   obtain⟨b0,n0⟩:=q;obtain⟨q1,q2,_⟩:=g5 b0 n0 r hbk;have q2:=q2 rfl;rw[hbk]at hbm;simp at hbm
   rcases hbm with⟨rfl,rfl⟩|hm
   ·exact⟨r,rfl,q2⟩
   ·have:=q2 b _ hm;omega
 refine⟨cA β key (β key),xL.step HH key _ _ zU (λj hj hn=>setRow_other w b j cur' (λe=>hn xs.length LT)) rfl rfl rfl (λb n hm=> .inl ⟨n,hm⟩) (λb n _=>uK c1 hsz' b)
  (λe he=>by rw[hk']at he;cases he;exact .inr ⟨⟨_,_,rfl,by rw[hlen];exact zYs _⟩,λ_ n hm=>⟨n,zYs _,hm⟩⟩) λE=>⟨g1,by rw[hlen];exact g2,λ_=>by rw[zS,hbk];simp,λi' x' hx'=>?_,λb' n' r hb'=>?_,f',λi' x' j u hx' hu=>?_,λi' j hi' hj=>?_,λb' n' hb'=>?_⟩,.fz _ _ (.s _)⟩
 ·rcases hat i' x' hx' with⟨_,_,h⟩|⟨_,h⟩
  ·exact hS.wide _ x' h
  ·exact g4 i' x' h
 ·rw[zS]at hb';rw[hlen];exact g5 b' n' r hb'
 ·simp only[f']
  rcases hat i' x' hx' with⟨q1,q2,h⟩|⟨q1,h⟩
  ·rw[zYp ⟨q1,q2⟩];exact⟨(hS.rep.toV _ x' j u h hu).evo E,λ_=>(hS.rep.toF rfl _ x' j u h hu).evo E.size E.fz⟩
  ·rw[zYo q1];exact⟨(g6.toV i' x' j u h hu).evo E,λ_=>(g6.toF rfl i' x' j u h hu).evo E.size E.fz⟩
 ·rw[hlen]at hi';simp only[f'];split
  ·exact hS.one _ _ (by omega) hj
  ·exact g7 i' j hi' hj
 ·rw[zS]at hb'
  rcases hnx b' n' hb' with rfl|rfl
  ·have hbb:b'=b:=by
    rw[hbk]at hb';simp at hb'
    rcases hb' with rfl|h
    ·rfl
    ·have:=hr0 b' _ h;omega
   subst hbb;exact⟨cur',el,setRow_heap w _ _ _ _ _ c1,by rw[hsz'];exact c2,λi' j hi' hj=>hcell i' j hi' hj,hone2⟩
  ·by_cases hbb:b'=b
   ·subst hbb;exact⟨cur',el,setRow_heap w _ _ _ _ _ c1,by omega,λi' j hi' _=>by omega,hone2⟩
   ·obtain⟨c',el',q1,q2,_,q4⟩:=g8 b' 0 hb';exact⟨c',el',(setRow_other w b b' cur' hbb).trans q1,q2,λi' j hi' _=>by omega,q4⟩
end
section
variable {P:Program} {K0:List Nat} {F:Fr K0} {m:Nat} {tm:List (Nat×AV)} {h:List (Nat×xP)}
theorem wO.trunc {a:Act} {w:World} (R:wO F m ⟨tm,h⟩ a w) (t kn K:Nat) {sz:Nat} {xs:List AV} {st:Fl} (hK0:K0=[]) (hv:zG tm t= .ref kn 0 0) (hk:zC h kn=some (.arr sz xs st)):wO F m ⟨[(t,.ref K 0 0)],[(K,.arr sz [] true)]⟩ a w:=by
 obtain⟨⟨X,β,hX,H,Ht,KK,hJ,hD⟩,nd,gs,hl⟩:=R;have g:=H.ent kn _ hk;obtain⟨g1,g2,g3,g4,g5,f,g6,g7,g8⟩:=g;have h1:=Ht t;rw[hv]at h1
 have hKE:∀k e,zC [(K,xP.arr sz [] true)] k=some e->k=K/\e= .arr sz [] true:=λk e he=>by
  rw[xJ]at he;split at he
  ·rename_i hh;cases he;exact⟨hh,rfl⟩
  ·cases he
 have key:∀l:List (Nat×Nat),(∀b n,(b,n)∈l->n=0/\∃n',(b,n')∈β kn)->(l=[]∨∃b,l=[(b,0)])->zX w (xH X λk=>if k=K then l else []) (zC [(K,xP.arr sz [] true)]) (λk=>if k=K then l else []) (.ref K 0 0) (a.eval (.tmp t))->wO F m ⟨[(t,.ref K 0 0)],[(K,.arr sz [] true)]⟩ a w:=by
  intro l hl1 hl2 hrep
  have hm0:∀k b n,(b,n)∈(if k=K then l else [])->k=K/\n=0/\∃n',(b,n')∈β kn:=λk b n hm=>by
   split at hm
   ·rename_i hh;exact⟨hh,hl1 b n hm⟩
   ·simp at hm
  have hsub:∀b,xH X (λk=>if k=K then l else []) b->xH X β b:=λb hd=>by
   rcases hd with hx|⟨k,n,hm⟩
   ·exact .inl hx
   ·obtain⟨_,_,n',h5⟩:=hm0 k b n hm;exact .inr ⟨kn,n',h5⟩
  have HH:kQ X (zC [(K,xP.arr sz [] true)]) (λk=>if k=K then l else []) w:=by
   refine⟨λk e he=>?_,λk he=>?_,λk k' b n n' q1 q2=>?_,λk b n hm=>?_,λb hd=>H.lt b (hsub b hd)⟩
   ·obtain⟨rfl,rfl⟩:=hKE k e he;refine⟨g1,by simp,λh=>absurd rfl h,λi y hy=>by simp at hy,λb n r hr=>?_,λ_ _=>undef,λi y j v hy _=>by simp at hy,λi j hi _=>by simp at hi,λb n hm=>?_⟩
    ·(try dsimp only at hr)
     rw[zYp rfl]at hr
     rcases hl2 with h5|⟨b5,h5⟩
     ·rw[h5]at hr;cases hr
     ·rw[h5]at hr;cases hr;exact⟨rfl,λh=>(by cases h),λb' n' hm=>by simp at hm⟩
    ·obtain⟨_,rfl,n',h5⟩:=hm0 _ b n hm;obtain⟨c,el,q1,_,_,q4⟩:=g8 b n' h5;exact⟨c,el,q1,by omega,λi j hi _=>by omega,q4⟩
   ·(try dsimp only)
    split
    ·rename_i hh;rw[hh,xJ,zYp rfl]at he;cases he
    ·rfl
   ·obtain⟨r1,_⟩:=hm0 k b n q1;obtain⟨r2,_⟩:=hm0 k' b n' q2;exact r1.trans r2.symm
   ·obtain⟨_,_,n',h5⟩:=hm0 k b n hm;exact H.free kn b n' h5
  refine⟨⟨X,_,hX,HH,λj=>?_,⟨λk e he=>?_,KK.size,KK.keep,λk b n hm=>?_,λk b n hm=>?_,KK.bs,KK.os,KK.tape,KK.output⟩,λi hi=>?_,hD⟩,λk hk2=>?_,gs,hl⟩
  ·rw[yT];split
   ·rename_i hj;subst hj;exact hrep
   ·exact .fz _ _ (.bot _)
  ·have:=F.hh k e he;rw[hK0]at this;simp at this
  ·obtain⟨_,_,n',h5⟩:=hm0 k b n hm;exact KK.own kn b n' h5
  ·have:=F.hK k b n hm;rw[hK0]at this;simp at this
  ·rw[yT]at hi
   split at hi<;>cases hi
  ·obtain⟨_,h5⟩:=hKE k _ hk2;cases h5
 generalize hce:a.eval (.tmp t)=c at h1 key
 cases h1 with
 |fz _ _ hf=>cases hf
 |dref _ _ _ _ hd _=>exact absurd hd (nd kn)
 |ref0 _ _ sz' xs' st' ad hk2 hn=>
  refine key [] (λb n hm=>by simp at hm) (.inl rfl) ?_;exact .ref0 K 0 sz [] true ad (by rw[xJ,zYp rfl]) (zYs _)
 |ref _ _ _ sz' xs' st' b n cap hk2 hb hn hc hs=>
  rw[hk]at hk2;cases hk2;refine key [(b,0)] (λb' n' hm=>by simp at hm;obtain⟨rfl,rfl⟩:=hm;exact⟨rfl,n,hb⟩) (.inr ⟨b,rfl⟩) ?_;exact .ref K 0 0 sz [] true b 0 cap (by rw[xJ,zYp rfl]) zU (zYs _) hc hs
theorem zEx {c:Code} {Q:Exit->St->Prop} (t kn K:Nat) {sz:Nat} {xs:List AV} {st:Fl} (hK0:K0=[]) (hv:zG tm t= .ref kn 0 0) (hk:zC h kn=some (.arr sz xs st)) (hS:uI P F m c ⟨[(t,.ref K 0 0)],[(K,.arr sz [] true)]⟩ Q):uI P F m c ⟨tm,h⟩ Q:=
 ⟨λa w H=>hS.run a w (H.trunc t kn K hK0 hv hk)⟩
end
section
variable {P:Program} {TT:List TI} {st:St}
theorem wG {f:Nat} {x:Operand} {args:Array Operand} {ats:Array Nat} {caps as':List AV} {h0 h1:List (Nat×xP)} {r:AV} (hc:yH P f as' h0 r h1) (hx:yO (zG st.tm) x= .fn f caps)
  (has:(args.toList.map (yO (zG st.tm))++caps).map (vS (yC h0) (zC st.h))=as') (hh0:(yC h0).map (zC st.h)=(yC h0).map (zC h0)) (hcl:h0.all (λp=>clE (yC h0) p.2)=true)
  (hnb:((qX (args.toList.map (yO (zG st.tm))++caps)).all ((yC h0).contains ·)||(r.nosl&&PW h1))=true):
  wR P st (.call ⟨.value x,args,ats⟩) r h1 (yC h0++qX (args.toList.map (yO (zG st.tm))++caps)) ((yC h1).filter λk=>!(yC h0).contains k):=by
 refine⟨?_⟩;intro X tm h hg hr hn o a w β ho HH Ht;obtain⟨dst,op',type,pos,after,guard⟩:=o;dsimp only at ho;subst ho;have hfv:=jP Ht hg (x:=x) qH hx
 obtain⟨cv,hfx,hcvl,hcv⟩:∃cv:Array Value,a.eval x= .func (.func f) #[] cv/\cv.size=caps.length/\∀(i:Nat) v,caps[i]? =some v->zX w (xH X β) h β v (cv.getD i undef):=by
  generalize a.eval x=cx at hfv
  cases hfv with
  |fz _ _ hf=>cases hf
  |fn _ _ c hl hh=>exact⟨c,rfl,hl,hh⟩
 have hrun:(execOp a.eval ⟨dst,.call ⟨.value x,args,ats⟩,type,pos,after,guard⟩).run P w= .ok (.enter f (args.map a.eval++cv)) w:=by
  have hab:=hc.able (args.map a.eval++cv) w;simp[execOp,resolve,hfx,Deferred.ofValue,invoke,hab]
 rw[hrun]
 have hK:∀k,k∈yC h0->h k=zC h0 k:=λk hk=>by
  rw[hr k OG];obtain⟨i,hi⟩:=yB0 hk;have:=zZl (·[i]?) hh0;simpa [hi]using this
 have hoff0:∀k,zC h0 k=none->¬k∈yC h0:=λk hk hm=>by
  obtain⟨e,he⟩:=gP hm;rw[hk]at he;cases he
 let βc:uH:=λk=>if k∈yC h0 then β k else []
 have hβc:∀k,k∈yC h0->βc k=β k:=λk hk=>by simp[βc,hk]
 have hβn:∀k,¬k∈yC h0->βc k=[]:=λk hk=>by simp[βc,hk]
 have hβm:∀k b n,(b,n)∈βc k->k∈yC h0/\(b,n)∈β k:=λk b n hm=>by
  by_cases hk:k∈yC h0
  ·rw[hβc k hk]at hm;exact⟨hk,hm⟩
  ·rw[hβn k hk]at hm;simp at hm
 let lent:Bool:=!(qX (args.toList.map (yO (zG st.tm))++caps)).all ((yC h0).contains ·)
 let Xc:Nat->Prop:=λb=>X b∨(lent=false/\∃k n,¬k∈yC h0/\(b,n)∈β k)
 have hDc:∀b,xH Xc βc b->xH X β b:=λb hd=>by
  rcases hd with(hx|⟨_,k,n,_,hm⟩)|⟨k,n,hm⟩
  ·exact .inl hx
  ·exact .inr ⟨k,n,hm⟩
  ·exact .inr ⟨k,n,(hβm k b n hm).2⟩
 have hclosed:∀k e,zC h0 k=some e->clE (yC h0) e=true:=λk e hk=>by
  obtain⟨p,hp,he⟩:=gQ hk;have:=zY3.1 hcl p hp;rw[he]at this;exact this
 have hfrz:∀{v c},zX w (xH X β) h β v c->(∀k,k∈v.refs->k∈yC h0∨∀b n,(b,n)∈β k->¬xH Xc βc b)->zX w (xH Xc βc) (zC h0) βc (vS (yC h0) h v) c:=λhv hrf=>
  zX.fz0 HH (λk hk e he=>by
   rw[hK k hk]at he
   cases e with
   |box cs=>exact⟨cs,he⟩
   |arr sz xs fl=>exact⟨xs,fl,he,rfl⟩
   |dead=>exact he) hβc (λb _ hd h'=>hd (hDc b h')) hv hrf
 have hclv:∀{v c},zX w (xH X β) h β v c->(∀k,k∈v.refs->k∈yC h0)->zX w (xH Xc βc) (zC h0) βc v c:=by
  intro v c hv;have ef:∀{v c},xG w (xH X β) v c->xG w (xH Xc βc) v c:=λhf=>hf.evo (zYs _) λb _ hd=>⟨rfl,λh'=>hd (hDc b h')⟩
  induction hv with
  |fz v c hf=>exact λ_=> .fz _ _ (ef hf)
  |agg cs c hl h1 _ ih=>exact λhr=> .agg cs c hl h1 λi v hv=>ih i v hv λk hk=>hr k (by simpa [AV.refs]using xS hv hk)
  |fn f caps c hl _ ih=>exact λhr=> .fn f caps c hl λi v hv=>ih i v hv λk hk=>hr k (by simpa [AV.refs]using xS hv hk)
  |tup vs c hl _ ih=>exact λhr=> .tup vs c hl λi v hv=>ih i v hv λk hk=>hr k (by simpa [AV.refs]using xS hv hk)
  |dref k off len c hk h1=>exact λhr=> .dref _ _ _ _ ((hK k (hr k (by simp[AV.refs])))▸hk) h1
  |dptr k i off c hk h1=>exact λhr=> .dptr _ _ _ _ ((hK k (hr k (by simp[AV.refs])))▸hk) h1
  |ref k off len sz xs st b n cap hk hb hn hc hs=>exact λhr=> .ref k off len sz xs st b n cap ((hK k (hr k (by simp[AV.refs])))▸hk) (by rw[hβc k (hr k (by simp[AV.refs]))];exact hb) hn hc hs
  |ref0 k off sz xs st a hk hn=>exact λhr=> .ref0 k off sz xs st a ((hK k (hr k (by simp[AV.refs])))▸hk) hn
  |pbox k off cs b n hk hb=>exact λhr=> .pbox k off cs b n ((hK k (hr k (by simp[AV.refs])))▸hk) (by rw[hβc k (hr k (by simp[AV.refs]))];exact hb)
  |parr k i off sz xs st b n hk hb hi ho=>exact λhr=> .parr k i off sz xs st b n ((hK k (hr k (by simp[AV.refs])))▸hk) (by rw[hβc k (hr k (by simp[AV.refs]))];exact hb) hi ho
 have Hc:kQ Xc (zC h0) βc w:=by
  refine⟨λk e he=>?_,λk he=>hβn k (hoff0 k he),λk k' b n n' q1 q2=>HH.disj _ _ _ _ _ (hβm _ _ _ q1).2 (hβm _ _ _ q2).2,λk b n hm hx=>?_,λb hd=>HH.lt b (hDc b hd)⟩
  ·have hk:=vJ he
   refine(HH.ent k e ((hK k hk).trans he)).lift (hβc k hk) (λcs hcs i v c hi hv=>hclv hv λj hj=>by
    have:=hclosed k e he;rw[hcs]at this
    simpa using zY3.1 this j (xS hi hj)) λsz xs fl hxs i x j v c hi hj=>⟨λhf=>hf.evo (zYs _) λb _ hd=>⟨rfl,λh'=>hd (hDc b h')⟩,λhn hv=>hclv hv λq hq=>by
    have:=hclosed k e he;rw[hxs]at this;simp only[clE,hn,zZ8]at this
    simpa using zY3.1 this q (xS hi (bM hj hq))⟩
  ·obtain⟨hk,hm⟩:=hβm k b n hm
   rcases hx with hx|⟨_,k',n',hk',hm'⟩
   ·exact HH.free k b n hm hx
   ·exact hk' (HH.disj k k' b n n' hm hm'▸hk)
 have hargs:∀(i:Nat) v,(args.toList.map (yO (zG st.tm))++caps)[i]? =some v->zX w (xH X β) h β v ((args.map a.eval++cv).getD i undef):=λi v hi=>by
  rcases zB2 (ρ:=a.eval) (yO (zG st.tm)) hcvl hi with⟨y,hy,rfl,he⟩|⟨j,hj,he⟩
  ·rw[he]
   exact jP Ht hg (by
    simp only[Op.operands,Call.operands,Array.mem_append]
    exact .inr hy) rfl
  ·rw[he];exact hcv j v hj
 have hrefs:∀(i:Nat) v,(args.toList.map (yO (zG st.tm))++caps)[i]? =some v->∀k,k∈v.refs->k∈yC h0∨∀b n,(b,n)∈β k->¬xH Xc βc b:=λi v hi k hk=>by
  by_cases hk0:k∈yC h0
  ·exact .inl hk0
  ·refine .inr λb n hm hd=>?_
   have hlent:lent=true:=by
    cases hl:lent with
    |true=>rfl
    |false=>
     simp only[lent,Bool.not_eq_false']at hl;have:=zY3.1 hl k (xS hi hk);exact absurd EO hk0
   rcases hd with(hx|⟨hf,_⟩)|⟨k',n',hm'⟩
   ·exact HH.free k b n hm hx
   ·rw[hlent]at hf;cases hf
   ·obtain⟨q1,q2⟩:=hβm k' b n' hm';exact hk0 (HH.disj k k' b n n' hm q2▸q1)
 have hfreq:∀(i:Nat) v,(args.toList.map (yO (zG st.tm))++caps)[i]? =some v->vS (yC h0) (zC st.h) v=vS (yC h0) h v:=by
  have main:∀v:AV,(∀k,k∈v.refs->h k=zC st.h k)->vS (yC h0) (zC st.h) v=vS (yC h0) h v:=by
   intro v
   refine AV.rec (motive_1:=λv=>(∀k,k∈v.refs->h k=zC st.h k)->vS (yC h0) (zC st.h) v=vS (yC h0) h v)
    (motive_2:=λcs=>(∀k,k∈qX cs->h k=zC st.h k)->wF (yC h0) (zC st.h) cs=wF (yC h0) h cs) ?_ ?_ ?_ ?_ ?_ ?_ ?_ ?_ ?_ ?_ ?_ ?_ ?_ v
   ·exact λ_=>rfl
   ·exact λ_ _=>rfl
   ·exact λ_ _=>rfl
   ·exact λcs ih hk=>by simp only[vS];rw[ih (by simpa [AV.refs]using hk)]
   ·exact λ_ _ _ _=>rfl
   ·exact λ_ _ _ _=>rfl
   ·exact λk off len hk=>by simp only[vS];rw[hk k (by simp[AV.refs])]
   ·exact λ_ _ _ _=>rfl
   ·exact λ_ _ _ _ _=>rfl
   ·exact λf cs ih hk=>by simp only[vS];rw[ih (by simpa [AV.refs]using hk)]
   ·exact λcs ih hk=>by simp only[vS];rw[ih (by simpa [AV.refs]using hk)]
   ·exact λ_=>rfl
   ·exact λv r ihv ihr hk=>by
     simp only[wF];rw[ihv λk h=>hk k (by simp[qX,h]),ihr λk h=>hk k (by simp[qX,h])]
  exact λi v hi=>main v λk hk=>hr k (by simp[xS hi hk])
 have hsim:=hc.sim Xc w βc (args.map a.eval++cv) (by rw[<-has];simp[hcvl]) Hc (λi v hi=>by
  rw[<-has,zYt,zY1]at hi;obtain⟨u,hu,rfl⟩:=hi;rw[hfreq i u hu]
  exact hfrz (hargs i u hu) (hrefs i u hu))
 refine Calls.mono hsim ?_;rintro e w' ⟨c,β1,he,G,hv⟩;refine⟨c,he,?_⟩;have hlive:=G.lives Hc hc.nd
 let β':uH:=λk=>if(zC h1 k).isSome then β1 k else β k
 have hb1:∀k e,zC h1 k=some e->β' k=β1 k:=λk e hk=>by simp[β',hk]
 have hb2:∀k,zC h1 k=none->β' k=β k:=λk hk=>by simp[β',hk]
 have hin:∀k,k∈yC h0->∃e,zC h1 k=some e:=λk hk=>by
  obtain⟨e,he⟩:=gP hk
  rcases G.key k e he with h2|h2
  ·exact⟨_,h2⟩
  ·cases e with
   |dead=>exact h2.elim
   |box cs=>exact⟨_,h2.1.choose_spec⟩
   |arr sz xs st=>obtain⟨xs',st',h3,_⟩:=h2.1;exact⟨_,h3⟩
 have hnew:∀k e,zC h1 k=some e->¬k∈yC h0->h k=none:=λk e hk hk0=>hn k (by
  simp only[yBl,yA3,List.contains_eq_mem,zY9]
  exact⟨vJ hk,hk0⟩)
 have ov1:∀k e,zC h1 k=some e->over h1 h k=some e:=λk e hk=>by simp[over,hk]
 have ov2:∀k,zC h1 k=none->over h1 h k=h k:=λk hk=>by simp[over,hk]
 have hβ':∀k b n,(b,n)∈β' k->((∃e,zC h1 k=some e)/\(b,n)∈β1 k)∨(zC h1 k=none/\¬k∈yC h0/\(b,n)∈β k):=λk b n hm=>by
  cases hk:zC h1 k with
  |none=>rw[hb2 k hk]at hm;exact .inr ⟨rfl,(λh2=>by obtain⟨e,he⟩:=hin k h2;rw[hk]at he;cases he),hm⟩
  |some e=>rw[hb1 k e hk]at hm;exact .inl ⟨⟨e,rfl⟩,hm⟩
 have own1:∀k b n,(b,n)∈β1 k->(∃k' n',k'∈yC h0/\(b,n')∈β k')∨w.heap.size<=b:=λk b n hm=>by
  rcases G.own k b n hm with⟨k',n',h2⟩|h2
  ·obtain⟨q1,q2⟩:=hβm k' b n' h2;exact .inl ⟨k',n',q1,q2⟩
  ·exact .inr h2
 have keepK:∀b,b<w.heap.size->(∀k n,k∈yC h0->(b,n)∉β k)->w'.heap[b]? =w.heap[b]? :=λb hb hk=>G.keep b hb λk n hm=>by
  obtain⟨q1,q2⟩:=hβm k b n hm;exact hk k n q1 q2
 have keepO:∀k b n,¬k∈yC h0->(b,n)∈β k->w'.heap[b]? =w.heap[b]? :=λk b n hk hm=>keepK b (HH.lt b (.inr ⟨k,n,hm⟩)) λk' n' hk' hm'=>hk (HH.disj k k' b n n' hm hm'▸hk')
 have bs':∀k b n,(b,n)∈β k->xZ w' b=xZ w b:=λk b n hm=>by
  by_cases hk:k∈yC h0
  ·exact G.bs k b n (by rw[hβc k hk];exact hm)
  ·unfold xZ World.shape?;rw[keepO k b n hk hm]
 have key':∀k e,h k=some e->over h1 h k=some .dead∨match e with
   | .dead=>False
   | .box _=>(∃cs',over h1 h k=some (.box cs'))/\∀b n,(b,n)∈β k->(b,n)∈β' k
   | .arr sz xs _=>(∃xs' st',over h1 h k=some (.arr sz xs' st')/\xs.length<=xs'.length)/\∀b n,(b,n)∈β k->∃n',n<=n'/\(b,n')∈β' k:=λk e he=>by
  by_cases hk:k∈yC h0
  ·have he0:=(hK k hk)▸he;have:=G.key k e he0;obtain⟨e1,he1⟩:=hin k hk;rw[he1]at this;rw[ov1 k e1 he1,hb1 k e1 he1,<-hβc k hk];exact this
  ·have hno:zC h1 k=none:=by
    cases h2:zC h1 k with
    |none=>rfl
    |some e1=>rw[hnew k e1 h2 hk]at he;cases he
   rw[ov2 k hno,hb2 k hno];exact kD h β k e he
 have own':∀k b n,(b,n)∈β' k->(∃k' n',(b,n')∈β k')∨w.heap.size<=b:=λk b n hm=>by
  rcases hβ' k b n hm with⟨_,h2⟩|⟨_,_,h2⟩
  ·rcases own1 k b n h2 with⟨k',n',_,h3⟩|h3
   ·exact .inl ⟨k',n',h3⟩
   ·exact .inr h3
  ·exact .inl ⟨k,n,h2⟩
 have keep':∀b,b<w.heap.size->(∀k n,(b,n)∉β k)->w'.heap[b]? =w.heap[b]? :=λb hb hk=>keepK b hb λk n _=>hk k n
 have E:IF w (xH X β) h β w' (xH X β') (over h1 h) β':=by
  refine⟨G.size,λb hb hd=>?_,bs',key'⟩;have q1:∀k n,(b,n)∉β k:=λk n hm=>hd (.inr ⟨k,n,hm⟩)
  refine⟨keep' b hb q1,?_⟩;rintro(hx|⟨k,n,hm⟩)
  ·exact hd (.inl hx)
  ·rcases own' k b n hm with⟨k',n',h2⟩|h2
   ·exact q1 _ _ h2
   ·omega
 have hup:∀k e,zC h1 k=some e->over h1 h k=some e/\β' k=β1 k:=λk e hk=>⟨ov1 k e hk,hb1 k e hk⟩
 have hDl:lent=false->∀b,xH X β' b->xH Xc β1 b:=λhl b hd=>by
  rcases hd with hx|⟨k,n,hm⟩
  ·exact .inl (.inl hx)
  ·rcases hβ' k b n hm with⟨_,h2⟩|⟨_,h2,h3⟩
   ·exact .inr ⟨k,n,h2⟩
   ·exact .inl (.inr ⟨hl,k,n,h2,h3⟩)
 have hcase:lent=false∨(r.nosl=true/\PW h1=true):=by
  rw[yAt]at hnb
  rcases hnb with h2|h2
  ·left;show(!(_:Bool))=false;rw[h2];rfl
  ·right;simpa using h2
 have hliftV:∀{v c},(lent=false∨v.nosl=true)->zX w' (xH Xc β1) (zC h1) β1 v c->zX w' (xH X β') (over h1 h) β' v c:=λhl hv=>by
  rcases hl with hl|hl
  ·exact EC (h':=over h1 h) hup (λb hd _=> .inl (hDl hl b hd)) hv
  ·exact LN hup hv hl
 have hliftF:∀{v c},(lent=false∨v.nosl=true)->xG w' (xH Xc β1) v c->xG w' (xH X β') v c:=λhl hv=>by
  rcases hl with hl|hl
  ·exact hv.evo (zYs _) λb _ hd=>⟨rfl,λh'=>hd (hDl hl b h')⟩
  ·exact hv.free hl
 have HK:kQ X (over h1 h) β' w':=by
  refine⟨λk e he=>?_,λk he=>?_,λk k' b n n' q1 q2=>?_,λk b n hm hx=>?_,λb hd=>?_⟩
  ·cases hk:zC h1 k with
   |none=>
    rw[ov2 k hk]at he;have hk0:¬k∈yC h0:=λh2=>by obtain⟨e1,he1⟩:=hin k h2;rw[hk]at he1;cases he1
    exact(HH.ent k e he).evo E (hb2 k hk) λb n hm=>keepO k b n hk0 hm
   | some e1=>
    rw[ov1 k e1 hk]at he;obtain rfl:=yA2 he;have hns:lent=false∨e1.nosl=true:=hcase.imp id λh2=>PX h2.2 hk
    refine(G.hok.ent k e1 hk).lift (hb1 k e1 hk) (λcs hcs i v c hi hv=>hliftV (hns.imp id λh2=>kP (by rw[hcs]at h2;exact h2) hi) hv) λsz xs st hxs i x j v c hi hj=>by
     have hns':lent=false∨v.nosl=true:=hns.imp id λh2=>by
      have hxn:x.nosl=true:=kP (by rw[hxs]at h2;exact h2) hi
      cases x<;>first
       |(simp[AV.cells]at hj;cases j<;>simp at hj;subst hj;exact hxn)
       |(exact kP (by simpa [AV.nosl,AV.cells]using hxn) hj)
     exact⟨λhf=>hliftF hns' hf,λ_ hv=>hliftV hns' hv⟩
  ·cases hk:zC h1 k with
   |none=>rw[ov2 k hk]at he;rw[hb2 k hk];exact HH.off k he
   |some e1=>rw[ov1 k e1 hk]at he;cases he
  ·rcases hβ' k b n q1 with⟨_,h2⟩|⟨_,h2,h3⟩<;>rcases hβ' k' b n' q2 with⟨_,h4⟩|⟨_,h4,h5⟩
   ·exact G.hok.disj _ _ _ _ _ h2 h4
   ·rcases own1 k b n h2 with⟨j,m,hj,hm⟩|h6
    ·exact absurd (HH.disj j k' b m n' hm h5▸hj) h4
    ·have:=HH.lt b (.inr ⟨k',n',h5⟩);omega
   ·rcases own1 k' b n' h4 with⟨j,m,hj,hm⟩|h6
    ·exact absurd (HH.disj j k b m n hm h3▸hj) h2
    ·have:=HH.lt b (.inr ⟨k,n,h3⟩);omega
   ·exact HH.disj _ _ _ _ _ h3 h5
  ·rcases hβ' k b n hm with⟨_,h2⟩|⟨_,_,h3⟩
   ·exact G.hok.free k b n h2 (.inl hx)
   ·exact HH.free k b n h3 hx
  ·rcases hd with hx|⟨k,n,hm⟩
   ·exact zZx (HH.lt b (.inl hx)) G.size
   ·rcases hβ' k b n hm with⟨_,h2⟩|⟨_,_,h3⟩
    ·exact G.hok.lt b (.inr ⟨k,n,h2⟩)
    ·exact zZx (HH.lt b (.inr ⟨k,n,h3⟩)) G.size
 exact⟨β',⟨G.size,keep',own',bs',key',HK,G.os,G.tape,G.output⟩,hliftV (hcase.imp id (·.1)) hv⟩
end
section
variable {P:Program} {TT:List TI} {K0:List Nat} {F:Fr K0} {m:Nat} {ops:Array Oper} {rest:List Oper} {Q:List FP->St->Prop} {tm:List (Nat×AV)} {h:List (Nat×xP)} {dr:Bool} {fs:List FP}
variable {ty:Nat} {pos:String} {after:Array Edge} {t:Nat}
theorem zCd (hP:uN P TT) {T e key off len sz:Nat} {d x:Operand} {ti te:TI} {xs ys zs:List AV} {xv:AV} (hdv:yO (zG tm) d= .ref key off len) (hk:zC h key=some (.arr sz xs false)) (hx:yO (zG tm) x=xv) (hT:TT[T]? =some ti) (hd:ti.d= .slice e) (he:TT[e]? =some te)
  (hys:BL (zC h) xv=some ys) (hsz:∀y,ys[0]? =some y->y.cells.length=sz) (hss:Nat.beq sz te.size=true) (hn:ys.length<=len) (hz:xs.take off++ys++xs.drop (off+ys.length)=zs) (hm:Nat.blt t m=true)
  (hr:zY P F m ops dr rest ⟨(t,.s (.int .i64 ys.length))::tm,(key,.arr sz zs false)::h⟩ (⟨true,[key],key::OB xv⟩::fs) Q):zY P F m ops dr (⟨some t,.call ⟨.builtin .copy, #[d,x], #[T,T]⟩,ty,pos,after,none⟩::rest) ⟨tm,h⟩ fs Q:=by
 subst hz;exact uF (nw:=[]) (OW hP hdv hk hx hT hd he hys hsz hss hn) hm rfl rfl hr
theorem gZ (hP:uN P TT) {T e key len sz:Nat} {x l:Operand} {ti te:TI} {xs:List AV} {sl:Fl} {k:IntKind} {i:Int} (hx:yO (zG tm) x= .ref key 0 len) (hk:zC h key=some (.arr sz xs sl)) (hl:yO (zG tm) l= .s (.int k i)) (hT:TT[T]? =some ti) (hd:ti.d= .slice e) (he:TT[e]? =some te)
  (hsz:Nat.beq sz te.size=true) (h0:0<=i) (h1:i<=len) (hm:Nat.blt t m=true) (hr:zY P F m ops dr rest ⟨(t,.ref key i.toNat (len-i.toNat))::tm,h⟩ (⟨true,[],[key]⟩::fs) Q):
  zY P F m ops dr (⟨some t,.slice T x (some l) none none,ty,pos,after,none⟩::rest) ⟨tm,h⟩ fs Q:=by
 have:=gX (P:=P) (st:=⟨tm,h⟩) (lo:=some l) (hi:=none) (l:=i.toNat) (r:=len) hP hx hk hT hd he ⟨k,i,hl,by omega⟩ rfl (by omega) (zYs _) hsz;rw[zZt]at this;exact yF this hm hr
theorem zCe (hP:uN P TT) {T e key len sz:Nat} {x l:Operand} {ti te:TI} {xs:List AV} {sl:Fl} {k:IntKind} (hx:yO (zG tm) x= .ref key 0 len) (hk:zC h key=some (.arr sz xs sl)) (hl:yO (zG tm) l= .s (.int k 0)) (hT:TT[T]? =some ti) (hd:ti.d= .slice e) (he:TT[e]? =some te)
  (hsz:Nat.beq sz te.size=true) (hm:Nat.blt t m=true) (hr:zY P F m ops dr rest ⟨(t,.ref key 0 0)::tm,h⟩ (⟨true,[],[key]⟩::fs) Q):
  zY P F m ops dr (⟨some t,.slice T x none (some l) none,ty,pos,after,none⟩::rest) ⟨tm,h⟩ fs Q:=by
 have:=gX (P:=P) (st:=⟨tm,h⟩) (lo:=none) (hi:=some l) (l:=0) (r:=0) hP hx hk hT hd he rfl ⟨k,0,hl,by omega⟩ (zYs _) (zY4 _) hsz;exact yF this hm hr
theorem zOn (hP:uN P TT) {T I e n:Nat} {s x:Operand} {ti te tn:TI} {k0:IntKind} {nx:Int} {z:AV} (hs:yO (zG tm) s= .s (.slice none 0 0)) (hx:yO (zG tm) x= .s (.int .i64 nx)) (hT:TT[T]? =some ti) (hd:ti.d= .slice e) (he:TT[e]? =some te) (hI:TT[I]? =some tn) (hdn:tn.d= .int k0)
  (hb:Nat.ble te.bytes 65536=true) (hp:Nat.ble 1 te.size=true) (hzl:Nat.beq te.zero.length te.size=true) (hz1:te.zero.all (·.oneCell')=true) (hzc:Nat.beq (vX te).cells.length te.size=true) (hzc2:(vX te).cells=te.zero.map .s) (hz:vX te=z)
  (hnx:nx=(n:Int)) (hpos:1<=n) (hmax:n<=1073741824) (hm:Nat.blt t m=true) (hnn:(zC h t).isNone=true)
  {sz:Nat} (hse:te.size=sz) (hk:zY P F m ops dr rest ⟨(t,.ref t 0 n)::tm,(t,.arr sz (List.replicate n z) false)::h⟩ (⟨true,[t,t],[]⟩::fs) Q):zY P F m ops dr (⟨some t,.call ⟨.builtin .append, #[s,x], #[T,I]⟩,ty,pos,after,none⟩::rest) ⟨tm,h⟩ fs Q:=by
 subst hse hz;exact uF (nw:=[t]) (zEw hP t hs hx hT hd he hI hdn hnx hpos hmax hb hp hzl hz1 hzc hzc2) hm (zEi hnn) rfl hk
end
mutual
def OX (k L:Nat):AV->Prop
 | .ref j off len=>j=k->off=0/\len=L
 | .ptr j _ _=>j≠k
 | .agg cs| .fn _ cs| .tup cs=>gV k L cs
 |_=>True
def gV (k L:Nat):List AV->Prop
 | []=>True
 |v::r=>OX k L v/\gV k L r
end
def IS (k L:Nat):List (Nat×AV)->Prop
 | []=>True
 |(_,v)::r=>OX k L v/\IS k L r
def IT (k L:Nat):List (Nat×xP)->Prop
 | []=>True
 |(_,e)::r=>(match e with
  | .box cs=>gV k L cs
  | .arr _ xs fl=>fl.nest=false∨gV k L xs
  | .dead=>True)/\IT k L r
theorem gV.at {k L:Nat}:∀{cs:List AV} {i:Nat} {v:AV},gV k L cs->cs[i]? =some v->OX k L v
 | [],_,_,_,h=>by simp at h
 |x::r,0,v,hk,h=>by simp at h;subst h;exact hk.1
 |x::r,i+1,v,hk,h=>gV.at hk.2 VV
theorem IS.at {k L:Nat}:∀{tm:List (Nat×AV)},IS k L tm->∀t,OX k L (zG tm t)
 | [],_,t=>trivial
 |(j,v)::r,h,t=>by
  rw[yT];split
  ·exact h.1
  ·exact IS.at h.2 t
theorem IT.at {k L:Nat}:∀{h:List (Nat×xP)} {j:Nat} {e:xP},IT k L h->zC h j=some e->match e with
  | .box cs=>gV k L cs
  | .arr _ xs fl=>fl.nest=false∨gV k L xs
  | .dead=>True
 | [],_,_,_,he=>by simp[zC]at he
 |(i,e0)::r,j,e,h,he=>by
  rw[xJ]at he;split at he
  ·cases he;exact h.1
  ·exact IT.at h.2 he
theorem OX.cells {k L:Nat} {x:AV} (h:OX k L x):gV k L x.cells:=by
 cases x<;>first
  |exact h
  |exact⟨h,trivial⟩
theorem zX.whole {w:World} {D D':Nat->Prop} {h h':yI} {β β':uH} (k L:Nat) (hD:∀b,D' b->D b) (hh:∀j,j≠k->h' j=h j) (hβ:∀j,j≠k->β' j=β j) (hw:∀c,zX w D h β (.ref k 0 L) c->zX w D' h' β' (.ref k 0 L) c) {v:AV} {c:Value} (hv:zX w D h β v c):OX k L v->zX w D' h' β' v c:=by
 have key:∀{off len j c},(j=k->off=0/\len=L)->zX w D h β (.ref j off len) c->(j≠k->zX w D' h' β' (.ref j off len) c)->zX w D' h' β' (.ref j off len) c:=λ{off len j c} h1 h2 h3=>by
  by_cases hj:j=k
  ·obtain⟨rfl,rfl⟩:=h1 hj;subst hj;exact hw _ h2
  ·exact h3 hj
 induction hv with
 |fz v c hf=>exact λ_=> .fz v c (hf.less hD)
 |agg cs c hl h1 hr ih=>exact λhk=> .agg cs c hl h1 λi v hv=>ih i v hv (gV.at hk hv)
 |fn f caps c hl hr ih=>exact λhk=> .fn f caps c hl λi v hv=>ih i v hv (gV.at hk hv)
 |tup vs c hl hr ih=>exact λhk=> .tup vs c hl λi v hv=>ih i v hv (gV.at hk hv)
 |dref j off len c hk' h1=>exact λhk=>key hk (.dref j off len c hk' h1) λhj=> .dref j off len c OI h1
 |dptr j i off c hk' h1=>exact λhk=> .dptr j i off c zH2 h1
 |ref j off len sz xs st b n cap hk' hb hn hc hs=>exact λhk=>key hk (.ref j off len sz xs st b n cap hk' hb hn hc hs) λhj=> .ref j off len sz xs st b n cap OI zB5 hn hc hs
 |ref0 j off sz xs st a hk' hn=>exact λhk=>key hk (.ref0 j off sz xs st a hk' hn) λhj=> .ref0 j off sz xs st a OI hn
 |pbox j off cs b n hk' hb=>exact λhk=> .pbox j off cs b n zH2 (by rw[hβ j hk];exact hb)
 |parr j i off sz xs st b n hk' hb hi ho=>exact λhk=> .parr j i off sz xs st b n zH2 (by rw[hβ j hk];exact hb) hi ho
section
variable {P:Program} {K0:List Nat} {F:Fr K0} {m:Nat} {tm:List (Nat×AV)} {h:List (Nat×xP)}
end
section
variable {P:Program} {TT:List TI} {K0:List Nat} {F:Fr K0} {m:Nat} {ops:Array Oper} {dr:Bool} {rest:List Oper} {fs:List FP} {Q:List FP->St->Prop} {tm:List (Nat×AV)} {h:List (Nat×xP)} {ty:Nat} {pos:String} {after:Array Edge} {t:Nat}
theorem dK (k:Nat) (hP:uN P TT) {T e len:Nat} {ps:Array (Nat×Operand)} {ti te:TI} {xs:List AV} (hT:TT[T]? =some ti) (hd:ti.d= .slice e) (he:TT[e]? =some te) (hp:Nat.ble 1 te.size=true) (hps:bN ⟨tm,h⟩ ps=(xs.zipIdx 0).map λx=>(x.2,x.1)) (hl:Nat.beq xs.length len=true)
  (hw:xs.all (λx=>Nat.beq x.cells.length te.size&&x.ok)=true) (hb:Nat.ble (len*te.size) 65536=true) (hzl:Nat.beq te.zero.length te.size=true) (hm:Nat.blt t m=true) (hnn:(zC h k).isNone=true)
  {sz:Nat} (hse:te.size=sz) (hk:zY P F m ops dr rest ⟨(t,.ref k 0 len)::tm,(k,.arr sz xs ⟨false,true⟩)::h⟩ (⟨true,[k,k],[]⟩::fs) Q):zY P F m ops dr (⟨some t,.buildSlice T len ps,ty,pos,after,none⟩::rest) ⟨tm,h⟩ fs Q:=by
 subst hse;exact uF (nw:=[k]) (RK hP k hT hd he hp hps hl hw hb hzl) hm (zEi hnn) rfl hk
end
end Av
end Go.Proofs.YtmamjhmoegjapaaGreat
