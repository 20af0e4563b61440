/- Part 10. -/
import Derived.Test.YteajjdidebfcjaaGreatR09
namespace Go.Proofs.YteajjdidebfcjaaGreat
namespace Av
set_option linter.all false
set_option maxRecDepth 4000
section
variable {P:Program} {TT:List TI} {st:St}
theorem zFj (hP:uI P TT) {T I e n:Nat} {s x:Operand} {ti te tn:TI} {k0:IntKind} {nx:Int} (kn:Nat) (hs:yJ (zG st.tm) s= .s (.slice none 0 0)) (hx:yJ (zG st.tm) x= .s (.int .i64 nx)) (hT:TT[T]? =some ti) (hd:ti.d= .slice e) (he:TT[e]? =some te) (hI:TT[I]? =some tn) (hdn:tn.d= .int k0)
  (hnx:nx=(n:Int)) (hpos:1<=n) (hmax:n<=1073741824) (hb:Nat.ble te.bytes 65536=true) (hp:Nat.ble 1 te.size=true) (hzl:Nat.beq te.zero.length te.size=true) (hz1:te.zero.all (·.oneCell')=true) (hzc:Nat.beq (vU te).cells.length te.size=true) (hzc2:(vU te).cells=te.zero.map .s):
  wM P st (.call ⟨.builtin .append, #[s,x], #[T,I]⟩) (.ref kn 0 n) [(kn,.arr te.size (List.replicate n (vU te)) false)] [] [kn]:=by
 refine⟨?_⟩;intro X tm h hg _ hn o a w β ho HH Ht;obtain⟨dst,op',type,pos,after,guard⟩:=o;dsimp only at ho;subst ho;have h1:=vF Ht hg (x:=s) kH hs;have h2:=vF Ht hg (x:=x) kH hx;have hp:=yAq hp;have hb:=yAq hb;have hzl:=yA2 hzl;have hzc:=yA2 hzc;subst hnx;obtain⟨i,z,hu,hi,hz,e1,e2,e3⟩:=wW hP hT hd he;obtain⟨_,u2,_,_,hu2,_,hd2,_⟩:=wN (hP _ _ hI);obtain rfl:=UX (hd2.symm.trans hdn)
 have hbytes:n*i.bytes<=281474976710656:=by
  have:=yC9 hmax (show i.bytes<=65536 by omega);omega
 have hw:IntKind.i64.wrap (n:Int)=(n:Int):=qP ⟨by show(-9223372036854775808:Int)<=_;omega,by show _<=(9223372036854775807:Int);omega⟩
 have hs0:n*i.size≠0:=by
  have:1*1<=n*i.size:=yC9 hpos (by omega);omega
 have h48:¬(281474976710656<(n:Int)*(i.bytes:Int)):=by
  have h3:(n:Int)*(i.bytes:Int)=((n*i.bytes:Nat):Int):=by simp
  rw[h3];omega
 have h48':¬(281474976710656<Builtin.nextslicecap n 0*i.bytes):=by rw[nextslicecap_zero hpos];omega
 have h63:¬(9223372036854775807<(n:Int)):=by omega
 have hn0:n≠0:=by omega
 have hneg:¬((n:Int)<0):=by omega
 have hrun:(Builtin.append_ #[T,I] type #[.slice none 0 0,.int .i64 (n:Int)]).run P w= .ok (.slice (some ⟨w.heap.size,0,none⟩) n (grownCap w n 0 e)) (w.drew.alloc (.cells (Builtin.zeroCells z.cells n++Builtin.zeroCells z.cells (grownCap w n 0 e-n)) e)):=by
  have ha:(asIntOf (.int .i64 (n:Int))).run P w= .ok (.i64,(n:Int)) w:=rfl;have hn1:¬((n:Int)<=0):=by omega
  simp[Builtin.append_,run_underlying hu,run_underlying hu2,sizeOf,typeInfo,zeroValue,hi,hz,asInt,ha,hw,hneg,hn1,h48,hs0,hn0,h63,h48',Question.forced,run_firstCells_none,newRow,grownCap]
 have hex:(execOp a.eval ⟨dst,.call ⟨.builtin .append, #[s,x], #[T,I]⟩,type,pos,after,guard⟩).run P w= .ok (.value (.slice (some ⟨w.heap.size,0,none⟩) n (grownCap w n 0 e))) (w.drew.alloc (.cells (Builtin.zeroCells z.cells n++Builtin.zeroCells z.cells (grownCap w n 0 e-n)) e)):=by
  simp[execOp,resolve,invoke,builtin,h1,h2,hrun]
 rw[hex];have HD:=HH.drew (w.drawn+1);have hzs:z.cells.size=te.size:=by rw[<-hzl,<-e3];simp
 have hge:=grownCap_ge w n 0 e;have hrl:(List.replicate n (vU te)).length=n:=by simp
 have hat:∀(j:Nat) v,(List.replicate n (vU te))[j]? =some v->v=vU te:=λj v hv=>by
  rw[yB2]at hv;split at hv
  ·exact(yCs hv).symm
  ·cases hv
 have hzat:∀j,j<te.size->∃v,te.zero[j]? =some v/\z.cells.getD j undef=v:=λj hj=>by
  have:=kF z.cells j (by omega);refine⟨_,?_,rfl⟩;rw[<-e3];simpa using this
 obtain⟨β',G,hv⟩:=yX.newArr HD (hn kn zU) (Builtin.zeroCells z.cells n++Builtin.zeroCells z.cells (grownCap w n 0 e-n)) e te.size (List.replicate n (vU te)) (grownCap w n 0 e) (λ_ j=>z.cells.getD j undef) hp (by rw[hrl];unfold cQ;omega) (by rw[hrl];omega) (by
   simp only[yFe,size_zeroCells,hzs,<-yBk]
   congr 1;omega) (qD.get ((qD.zero (λv hv=>yAm.1 hz1 v OD) _).app (qD.zero (λv hv=>yAm.1 hz1 v OD) _)))
  (λj v hv=>by rw[hat j v hv];exact hzc) (λi' j hi' hj=>by
   rw[hrl]at hi'
   have hlt:i'*te.size+j<n*te.size:=by
    have:=yA0 te.size (show i'+1<=n by omega);rw[yBk,yCa]at this;omega
   have hm':(i'*te.size+j) % te.size=j:=by rw[yEv,yE5];exact yC0 hj
   rw[yCb (by rw[size_zeroCells,hzs];exact hlt)];have hj':j<z.cells.size:=by omega
   simp only[Builtin.zeroCells,yFt,yFl,hzs,hlt,yE2,Option.map_some,hm']
   congr 1
   simp[yAy,hj']) (λi' j _ hj=>by
   obtain⟨v,hv,hv'⟩:=hzat j hj;rw[hv']
   exact yAm.1 hz1 v (yBx hv)) (λi' v j u hv hu=>by
   rw[hat i' v hv,hzc2]at hu;rw[yAa]at hu
   have hj:j<te.size:=by
    cases hz9:te.zero[j]? with
    |none=>rw[hz9]at hu;cases hu
    |some v9=>have:=(yAu.1 hz9).1;omega
   obtain⟨v2,hv2,hv3⟩:=hzat j hj;rw[hv2]at hu;cases hu;rw[hv3]
   exact .s _)
 rw[hrl]at hv;exact⟨β',yX.trans HH (yX.drew HH (w.drawn+1)) G,hv⟩
def OI (hP:uI P TT) {T e:Nat} {x:Operand} {ti:TI} (hx:yJ (zG st.tm) x= .s (.slice none 0 0)) (hT:TT[T]? =some ti) (hd:ti.d= .slice e):
  wM P st (.call ⟨.builtin .cap, #[x], #[T]⟩) (.s (.int .i64 0)) [] [] []:=
 yK λoo X tm h w β a ho hg hr HH Ht=>by
  obtain⟨dst,op',type,pos,after,guard⟩:=oo;dsimp only at ho;subst ho;have hc:=vF Ht hg (x:=x) kH hx;obtain⟨u,hu,hd'⟩:=xW (hP _ _ hT) w;obtain rfl:=vN (hd'.trans hd);exact⟨_,by simp[execOp,resolve,invoke,builtin,Builtin.cap_,hc,hu,goInt],.fz _ _ (.s _)⟩
def zBe (hP:uI P TT) {T e:Nat} {x l:Operand} {ti te:TI} {k:IntKind} (hx:yJ (zG st.tm) x= .s (.slice none 0 0)) (hl:yJ (zG st.tm) l= .s (.int k 0)) (hT:TT[T]? =some ti) (hd:ti.d= .slice e) (he:TT[e]? =some te):
  wM P st (.slice T x none (some l) none) (.s (.slice none 0 0)) [] [] []:=
 yK λoo X tm h w β a ho hg hr HH Ht=>by
  obtain⟨dst,op',type,pos,after,guard⟩:=oo;dsimp only at ho;subst ho;have hc:=vF Ht hg (x:=x) vY hx;obtain⟨u,hu,hd'⟩:=xW (hP _ _ hT) w;obtain rfl:=vN (hd'.trans hd);have hs:=uQ (hP _ _ he) w;have hb:=hG (P:=P) Ht hg (lo:=none) (hi:=some l) (len:=0) (cap:=0) (l:=0) (r:=0) (λy hy=>by cases hy) (λy hy=>by cases hy;simp[Op.operands]) Z ⟨k,0,hl,by omega⟩ (yAb _) (yAb _) true;rw[yC6]at hb;exact⟨_,by simp only[execOp,Instr.sliceAt,Instr.slice,Sem.run_bind,hu,Result.andThen_ok,hc,yC6,hb,hs,Sem.run_pure];rfl,.fz _ _ (.s _)⟩
theorem LX (hP:uI P TT) {T e key off len sz:Nat} {d x:Operand} {ti te:TI} {xs yl ys:List AV} {xv:AV} (hdv:yJ (zG st.tm) d= .ref key off len) (hk:zC st.h key=some (.arr sz xs false)) (hx:yJ (zG st.tm) x=xv) (hT:TT[T]? =some ti) (hd:ti.d= .slice e) (he:TT[e]? =some te)
  (hyl:els (zC st.h) xv=some yl) (hyt:yl.take len=ys) (hsz:∀y,ys[0]? =some y->y.cells.length=sz) (hp1:1<=ys.length∨yl.length<=len) (hss:Nat.beq sz te.size=true):
  wM P st (.call ⟨.builtin .copy, #[d,x], #[T,T]⟩) (.s (.int .i64 ys.length)) [(key,.arr sz (xs.take off++ys++xs.drop (off+ys.length)) false)] (key::PY xv) []:=by
 refine⟨?_⟩;intro X tm h hg hr _ o a w β ho HH Ht;obtain⟨dst,op',type,pos,after,guard⟩:=o;dsimp only at ho;subst ho;have hk':=(hr key zU).trans hk;have h1:=hH Ht hg (x:=d) kH hdv;have h2:=hH Ht hg (x:=x) kH hx;have hss:=yA2 hss;obtain⟨g1,g2,g3,g4,g5,f,g6,g7,g8⟩:=HH.ent key _ hk'
 obtain⟨ad,cap,hc,_,hmax0,hsrc0⟩:=aZ (sz:=sz) HH h2 ((fN λk' hk=>hr k' (by simp[hk])).trans hyl) (λy hy=>hsz y (by
  rcases hp1 with h|h
  ·rw[<-hyt,yBz,zZ8 (by have:ys.length<=len:=(by rw[<-hyt];simp;omega);omega)];exact hy
  ·rw[<-hyt,yAj h];exact hy))
 have hn:ys.length<=len:=by rw[<-hyt];simp;omega
 have hylen:ys.length=min len yl.length:=by rw[<-hyt];simp
 have hmin0:min yl.length len=ys.length:=by rw[hylen,Nat.min_comm]
 have hly:ys.length<=yl.length:=by omega
 have hsrc:ys≠[]->∃b o f,ad=some ⟨b,o,none⟩/\Src w (xK X β) h β false ys sz b o f:=λhne=>by
  obtain⟨b,o,f,e,hS⟩:=hsrc0 (λh0=>hne (by rw[<-hyt,h0];simp))
  have hgt:∀(i:Nat) y,ys[i]? =some y->yl[i]? =some y:=λi y hy=>by
   rw[<-hyt,yBz]at hy;split at hy
   ·exact hy
   ·cases hy
  exact⟨b,o,f,e,λi y hy=>hS.wide i y (hgt i y hy),λi j hi hj=>hS.cell i j (by omega) hj,λi j hi hj=>hS.one i j (by omega) hj,λi y j v hy hv=>hS.rep i y j v (hgt i y hy) hv⟩
 obtain⟨i,z,hu,hi,hzz,e1,e2,e3⟩:=wW hP hT hd he
 have hnx:∀b n,(b,n)∈β key->n=xs.length∨n=0:=λb n hb=>by
  cases hbk:β key with
  |nil=>rw[hbk]at hb;simp at hb
  |cons q rr=>
   obtain⟨b0,n0⟩:=q;obtain⟨q1,q2,_⟩:=g5 b0 n0 rr hbk;rw[hbk]at hb;simp at hb
   rcases hb with⟨_,rfl⟩|hb
   ·exact .inl q1
   ·exact .inr (q2 Z b n hb)
 have hop:∀{w'},(Builtin.copy_ #[T,T] type #[a.eval d,a.eval x]).run P w= .ok (goInt ys.length) w'->(execOp a.eval ⟨dst,.call ⟨.builtin .copy, #[d,x], #[T,T]⟩,type,pos,after,guard⟩).run P w= .ok (.value (.int .i64 ys.length)) w':=λhv=>by
  simp[execOp,resolve,invoke,builtin,hv,goInt]
 by_cases hnil:ys=[]
 ·obtain rfl:yl=[]:=by
   rcases hp1 with h|h
   ·rw[hnil]at h;simp at h
   ·rw[yAj h]at hyt;rw[hyt,hnil]
  subst hnil;have hxs:xs.take off++[]++xs.drop (off+([]:List AV).length)=xs:=by simp
  rw[hxs]
  obtain⟨bd,cp,hcs⟩:∃bd cp,a.eval d= .slice bd len cp:=by
   generalize a.eval d=cx at h1
   cases h1 with
   |fz _ _ hf=>cases hf
   |dref _ _ _ _ hd _=>rw[hk']at hd;cases hd
   |ref _ _ _ _ _ _ _ _ _ _ _ _ _ _=>exact⟨_,_,rfl⟩
   |ref0 _ _ _ _ _ _ _ _=>exact⟨_,_,rfl⟩
  have hf1:(Builtin.firstCells i.size 0 (.slice ad 0 cap)).run P w= .ok #[] w:=by
   cases ad with
   |none=>rfl
   |some a=>simp only[Builtin.firstCells,loadCells,yFd,loadCellsFrom];rfl
  rw[hop (w':=w) (by
   rw[hcs,hc]
   cases bd with
   |none=>simp[Builtin.copy_,run_underlying hu,sizeOf,typeInfo,hi,Builtin.lenOf,hf1]
   |some b=>simp[Builtin.copy_,run_underlying hu,sizeOf,typeInfo,hi,Builtin.lenOf,hf1,storeCells])]
  have G:=yX.step (w':=w) HH key (.arr sz xs false) (β key) (yAb _) (λ_ _ _=>rfl) Z Z Z (λb n hm=> .inl ⟨n,hm⟩) (λ_ _ _=>rfl) (λe he=>by rw[hk']at he;cases he;exact .inr ⟨⟨_,_,rfl,yAb _⟩,λ_ n hm=>⟨n,yAb _,hm⟩⟩)
   (λE=>⟨g1,g2,λh=>by rw[zZ];exact g3 h,g4,λb n r hr=>by rw[zZ]at hr;exact g5 b n r hr,f,jN.evo E g6,g7,λb n hm=>by rw[zZ]at hm;exact g8 b n hm⟩)
  exact⟨_,G,.fz _ _ (.s _)⟩
 obtain⟨b2,q,fy,rfl,hS⟩:=hsrc hnil
 have hpos:0<ys.length:=by cases ys with|nil=>exact absurd Z hnil|cons _ _=>simp
 obtain⟨hf1,hf2⟩:=hS.flat g1
 obtain⟨b,n,cp,hcs,hbm,hnl,hcp⟩:∃b n cp,a.eval d= .slice (some ⟨b,off*sz,none⟩) len cp/\(b,n)∈β key/\off+len<=n/\len<=cp:=by
  generalize a.eval d=cx at h1
  cases h1 with
  |fz _ _ hf=>cases hf
  |dref _ _ _ _ hd _=>rw[hk']at hd;cases hd
  |ref _ _ _ sz' xs' st' b n cp hk2 hb hn hc2 hs2=>
   rw[hk']at hk2;cases hk2;exact⟨b,n,cp,rfl,hb,hn,hc2⟩
  |ref0 _ _ _ _ _ _ _ _=>omega
 have hnn:n=xs.length:=by rcases hnx b n hbm with h|h<;>omega
 subst hnn;obtain⟨cur,el,c1,c2,c3,c4⟩:=g8 b _ hbm;have hfit:(off+ys.length)*sz<=cur.size:=yBm (yA0 _ (by omega)) c2;have hfc:=run_firstCells_some (P:=P) w sz ys.length ⟨b2,q,none⟩ yl.length cap (flat fy ys.length sz) (zW _ _ _) hf1;have hst:=run_storeCells_at P b (off*sz) el (flat fy ys.length sz) 0 cur w c1 (by rw[zW,yDd,<-yBk];exact hfit) hf2;simp only[yDd]at hst;generalize hcur':(cur.toList.take (off*sz)++flat fy ys.length sz++cur.toList.drop (off*sz+(flat fy ys.length sz).length)).toArray=cur' at hst
 rw[hop (w':=w.setRow b cur') (by
  rw[hcs,hc];have e1':i.size=sz:=e1.trans hss.symm;rw[<-e1']at hfc;have hst2:(storeCells ⟨b,off*sz,none⟩ (flat fy ys.length i.size)).run P w= .ok () (w.setRow b cur'):=by rw[e1'];exact hst
  simp[Builtin.copy_,run_underlying hu,Builtin.lenOf,sizeOf,typeInfo,hi,hmin0,hfc,hst2])]
 rw[yBk]at hfit
 have hsz':cur'.size=cur.size:=by
  rw[<-hcur'];simp only[yDg,yAd,yA3,yBh,yDh,zW];omega
 have hone2:∀q,q<cur'.size->(cur'.getD q undef).oneCell'=true:=by
  rw[<-hcur'];refine qD.get (qD.arr λv hv=>?_);have hc4:=qD.of c4
  rcases yAw.1 hv with hv|hv
  ·rcases yAw.1 hv with hv|hv
   ·exact hc4 v (yCc hv)
   ·exact hf2 v hv
  ·exact hc4 v (yBs hv)
 let f':Nat->Nat->Value:=λi j=>if off<=i/\i<off+ys.length then fy (i-off) j else f i j
 have hoff:off+ys.length<=xs.length:=by omega
 have hlen:(xs.take off++ys++xs.drop (off+ys.length)).length=xs.length:=by
  simp only[yAd,yA3,yBh];omega
 have hat:∀(i:Nat) y,(xs.take off++ys++xs.drop (off+ys.length))[i]? =some y->(off<=i/\i<off+ys.length/\ys[i-off]? =some y)∨(¬(off<=i/\i<off+ys.length)/\xs[i]? =some y):=λi y hy=>by
  have ht:(xs.take off).length=off:=by simp;omega
  by_cases h5:i<off
  ·rw[yA7,yBe (by omega),yBz,zZ8 h5]at hy;exact .inr ⟨by omega,hy⟩
  ·by_cases h6:i<off+ys.length
   ·rw[yA7,yA1 (by omega),ht,yBe (by omega)]at hy;exact .inl ⟨by omega,h6,hy⟩
   ·rw[yA1 vA]at hy;simp only[yAd,ht]at hy;rw[yCf,show off+ys.length+(i-(off+ys.length))=i by omega]at hy;exact .inr ⟨by omega,hy⟩
 have hcell:∀i j,i<xs.length->j<sz->cur'[i*sz+j]? =some (f' i j):=λi j hi hj=>by
  rw[<-hcur'];simp only[f',yDa];by_cases h5:i<off
  ·have hlt:i*sz+j<off*sz:=by
    have:=yA0 sz (show i+1<=off by omega);rw[yBk,yCa]at this;omega
   rw[zZ7 (by omega),yA7,yBe vA,yBz,zZ8 hlt];simpa using c3 i j hi hj
  ·have ht:(List.take (off*sz) cur.toList).length=off*sz:=by simp;omega
   have hge:off*sz<=i*sz:=yA0 _ (by omega);by_cases h6:i<off+ys.length
   ·have e4:i*sz+j-off*sz=(i-off)*sz+j:=by rw[yFs];omega
    have hlt:(i-off)*sz+j<ys.length*sz:=by
     have:=yA0 sz (show(i-off)+1<=ys.length by omega);rw[yBk,yCa]at this;omega
    rw[zZ8 (by omega),yA7,yA1 (by rw[ht];omega),ht,yBe (by rw[zW];omega),e4];exact kT fy (by omega) hj
   ·have hge2:(off+ys.length)*sz<=i*sz:=yA0 _ (by omega);rw[yBk]at hge2;rw[zZ7 (by omega),yA1 (by simp only[yAd,ht,zW];omega),yCf];simp only[yAd,ht,zW];rw[show off*sz+ys.length*sz+(i*sz+j-(off*sz+ys.length*sz))=i*sz+j by omega];simpa using c3 i j hi hj
 obtain⟨rr,hbk,hr0⟩:∃rr,β key=(b,xs.length)::rr/\∀b' n',(b',n')∈rr->n'=0:=by
  cases hbk:β key with
  |nil=>rw[hbk]at hbm;simp at hbm
  |cons q r=>
   obtain⟨b0,n0⟩:=q;obtain⟨q1,q2,_⟩:=g5 b0 n0 r hbk;have q2:=q2 Z;rw[hbk]at hbm;simp at hbm
   rcases hbm with⟨rfl,rfl⟩|hm
   ·exact⟨r,rfl,q2⟩
   ·have:=q2 b _ hm;omega
 refine⟨dI β key (β key),yX.step HH key _ _ zU (λj hj hn=>setRow_other w b j cur' (λe=>hn xs.length zDo)) Z Z Z (λb n hm=> .inl ⟨n,hm⟩) (λb n _=>kG c1 hsz' b)
  (λe he=>by rw[hk']at he;cases he;exact .inr ⟨⟨_,_,rfl,by rw[hlen];exact yAb _⟩,λ_ n hm=>⟨n,yAb _,hm⟩⟩) λE=>⟨g1,by rw[hlen];exact g2,λ_=>by rw[zZ,hbk];simp,λi' x' hx'=>?_,λb' n' r hb'=>?_,f',λi' x' j u hx' hu=>?_,λi' j hi' hj=>?_,λb' n' hb'=>?_⟩,.fz _ _ (.s _)⟩
 ·rcases hat i' x' hx' with⟨_,_,h⟩|⟨_,h⟩
  ·exact hS.wide _ x' h
  ·exact g4 i' x' h
 ·rw[zZ]at hb';rw[hlen];exact g5 b' n' r hb'
 ·simp only[f']
  rcases hat i' x' hx' with⟨q1,q2,h⟩|⟨q1,h⟩
  ·rw[zZ8 ⟨q1,q2⟩];exact⟨(hS.rep.toV _ x' j u h hu).evo E,λ_=>(hS.rep.toF Z _ x' j u h hu).evo E.size E.fz⟩
  ·rw[zZ7 q1];exact⟨(g6.toV i' x' j u h hu).evo E,λ_=>(g6.toF Z i' x' j u h hu).evo E.size E.fz⟩
 ·rw[hlen]at hi';simp only[f'];split
  ·exact hS.one _ _ (by omega) hj
  ·exact g7 i' j hi' hj
 ·rw[zZ]at hb'
  rcases hnx b' n' hb' with rfl|rfl
  ·have hbb:b'=b:=by
    rw[hbk]at hb';simp at hb'
    rcases hb' with rfl|h
    ·rfl
    ·have:=hr0 b' _ h;omega
   subst hbb;exact⟨cur',el,setRow_heap w _ _ _ _ _ c1,by rw[hsz'];exact c2,λi' j hi' hj=>hcell i' j hi' hj,hone2⟩
  ·by_cases hbb:b'=b
   ·subst hbb;exact⟨cur',el,setRow_heap w _ _ _ _ _ c1,by omega,λi' j hi' _=>by omega,hone2⟩
   ·obtain⟨c',el',q1,q2,_,q4⟩:=g8 b' 0 hb';exact⟨c',el',(setRow_other w b b' cur' hbb).trans q1,q2,λi' j hi' _=>by omega,q4⟩
def OJ (hP:uI P TT) {T e key off len sz:Nat} {d x:Operand} {ti te:TI} {xs ys:List AV} {xv:AV} (hdv:yJ (zG st.tm) d= .ref key off len) (hk:zC st.h key=some (.arr sz xs false)) (hx:yJ (zG st.tm) x=xv) (hT:TT[T]? =some ti) (hd:ti.d= .slice e) (he:TT[e]? =some te)
  (hys:els (zC st.h) xv=some ys) (hsz:∀y,ys[0]? =some y->y.cells.length=sz) (hss:Nat.beq sz te.size=true) (hn:ys.length<=len):
  wM P st (.call ⟨.builtin .copy, #[d,x], #[T,T]⟩) (.s (.int .i64 ys.length)) [(key,.arr sz (xs.take off++ys++xs.drop (off+ys.length)) false)] (key::PY xv) []:=
 LX hP hdv hk hx hT hd he hys (yAj hn) hsz (.inr hn) hss
end
section
variable {P:Program} {K0:List Nat} {F:Fr K0} {m:Nat} {tm:List (Nat×AV)} {h:List (Nat×xN)}
theorem xV.trunc {a:Act} {w:World} (R:xV F m ⟨tm,h⟩ a w) (t kn K:Nat) {sz:Nat} {xs:List AV} {st:Fl} (hK0:K0=[]) (hv:zG tm t= .ref kn 0 0) (hk:zC h kn=some (.arr sz xs st)):xV F m ⟨[(t,.ref K 0 0)],[(K,.arr sz [] true)]⟩ a w:=by
 obtain⟨⟨X,β,hX,H,Ht,KK,hJ,hD⟩,nd,gs,hl⟩:=R;have g:=H.ent kn _ hk;obtain⟨g1,g2,g3,g4,g5,f,g6,g7,g8⟩:=g;have h1:=Ht t;rw[hv]at h1
 have hKE:∀k e,zC [(K,xN.arr sz [] true)] k=some e->k=K/\e= .arr sz [] true:=λk e he=>by
  rw[yQ]at he;split at he
  ·rename_i hh;cases he;exact⟨hh,rfl⟩
  ·cases he
 have key:∀l:List (Nat×Nat),(∀b n,(b,n)∈l->n=0/\∃n',(b,n')∈β kn)->(l=[]∨∃b,l=[(b,0)])->zQ w (xK X λk=>if k=K then l else []) (zC [(K,xN.arr sz [] true)]) (λk=>if k=K then l else []) (.ref K 0 0) (a.eval (.tmp t))->xV F m ⟨[(t,.ref K 0 0)],[(K,.arr sz [] true)]⟩ a w:=by
  intro l hl1 hl2 hrep
  have hm0:∀k b n,(b,n)∈(if k=K then l else [])->k=K/\n=0/\∃n',(b,n')∈β kn:=λk b n hm=>by
   split at hm
   ·rename_i hh;exact⟨hh,hl1 b n hm⟩
   ·simp at hm
  have hsub:∀b,xK X (λk=>if k=K then l else []) b->xK X β b:=λb hd=>by
   rcases hd with hx|⟨k,n,hm⟩
   ·exact .inl hx
   ·obtain⟨_,_,n',h5⟩:=hm0 k b n hm;exact .inr ⟨kn,n',h5⟩
  have HH:qV X (zC [(K,xN.arr sz [] true)]) (λk=>if k=K then l else []) w:=by
   refine⟨λk e he=>?_,λk he=>?_,λk k' b n n' q1 q2=>?_,λk b n hm=>?_,λb hd=>H.lt b (hsub b hd)⟩
   ·obtain⟨rfl,rfl⟩:=hKE k e he;refine⟨g1,by simp,λh=>absurd Z h,λi y hy=>by simp at hy,λb n r hr=>?_,λ_ _=>undef,λi y j v hy _=>by simp at hy,λi j hi _=>by simp at hi,λb n hm=>?_⟩
    ·(try dsimp only at hr)
     rw[zZ8 Z]at hr
     rcases hl2 with h5|⟨b5,h5⟩
     ·rw[h5]at hr;cases hr
     ·rw[h5]at hr;cases hr;exact⟨rfl,λh=>(by cases h),λb' n' hm=>by simp at hm⟩
    ·obtain⟨_,rfl,n',h5⟩:=hm0 _ b n hm;obtain⟨c,el,q1,_,_,q4⟩:=g8 b n' h5;exact⟨c,el,q1,by omega,λi j hi _=>by omega,q4⟩
   ·(try dsimp only)
    split
    ·rename_i hh;rw[hh,yQ,zZ8 Z]at he;cases he
    ·rfl
   ·obtain⟨r1,_⟩:=hm0 k b n q1;obtain⟨r2,_⟩:=hm0 k' b n' q2;exact r1.trans r2.symm
   ·obtain⟨_,_,n',h5⟩:=hm0 k b n hm;exact H.free kn b n' h5
  refine⟨⟨X,_,hX,HH,λj=>?_,⟨λk e he=>?_,KK.size,KK.keep,λk b n hm=>?_,λk b n hm=>?_,KK.bs,KK.os,KK.tape,KK.output⟩,λi hi=>?_,hD⟩,λk hk2=>?_,gs,hl⟩
  ·rw[yF];split
   ·rename_i hj;subst hj;exact hrep
   ·exact .fz _ _ (.bot _)
  ·have:=F.hh k e he;rw[hK0]at this;simp at this
  ·obtain⟨_,_,n',h5⟩:=hm0 k b n hm;exact KK.own kn b n' h5
  ·have:=F.hK k b n hm;rw[hK0]at this;simp at this
  ·rw[yF]at hi
   split at hi<;>cases hi
  ·obtain⟨_,h5⟩:=hKE k _ hk2;cases h5
 generalize hce:a.eval (.tmp t)=c at h1 key
 cases h1 with
 |fz _ _ hf=>cases hf
 |dref _ _ _ _ hd _=>exact absurd hd (nd kn)
 |ref0 _ _ sz' xs' st' ad hk2 hn=>
  refine key [] (λb n hm=>by simp at hm) (.inl Z) ?_;exact .ref0 K 0 sz [] true ad (by rw[yQ,zZ8 Z]) (yAb _)
 |ref _ _ _ sz' xs' st' b n cap hk2 hb hn hc hs=>
  rw[hk]at hk2;cases hk2;refine key [(b,0)] (λb' n' hm=>by simp at hm;obtain⟨rfl,rfl⟩:=hm;exact⟨rfl,n,hb⟩) (.inr ⟨b,rfl⟩) ?_;exact .ref K 0 0 sz [] true b 0 cap (by rw[yQ,zZ8 Z]) zU (yAb _) hc hs
def zFk {c:Code} {Q:Exit->St->Prop} (t kn K:Nat) {sz:Nat} {xs:List AV} {st:Fl} (hK0:K0=[]) (hv:zG tm t= .ref kn 0 0) (hk:zC h kn=some (.arr sz xs st)) (hS:vK P F m c ⟨[(t,.ref K 0 0)],[(K,.arr sz [] true)]⟩ Q):vK P F m c ⟨tm,h⟩ Q:=
 ⟨λa w H=>hS.run a w (H.trunc t kn K hK0 hv hk)⟩
end
section
variable {P:Program} {TT:List TI} {K0:List Nat} {F:Fr K0} {m:Nat} {ops:Array Oper} {rest:List Oper} {Q:List FP->St->Prop} {tm:List (Nat×AV)} {h:List (Nat×xN)} {dr:Bool} {fs:List FP}
variable {ty:Nat} {pos:String} {after:Array Edge} {t:Nat}
def zSy (hP:uI P TT) {T e key off len sz:Nat} {d x:Operand} {ti te:TI} {xs ys zs:List AV} {xv:AV} (hdv:yJ (zG tm) d= .ref key off len) (hk:zC h key=some (.arr sz xs false)) (hx:yJ (zG tm) x=xv) (hT:TT[T]? =some ti) (hd:ti.d= .slice e) (he:TT[e]? =some te)
  (hys:els (zC h) xv=some ys) (hsz:∀y,ys[0]? =some y->y.cells.length=sz) (hss:Nat.beq sz te.size=true) (hn:ys.length<=len) (hz:xs.take off++ys++xs.drop (off+ys.length)=zs) (hm:Nat.blt t m=true)
  (hr:zX P F m ops dr rest ⟨(t,.s (.int .i64 ys.length))::tm,(key,.arr sz zs false)::h⟩ (⟨true,[key],key::PY xv⟩::fs) Q):zX P F m ops dr (⟨some t,.call ⟨.builtin .copy, #[d,x], #[T,T]⟩,ty,pos,after,none⟩::rest) ⟨tm,h⟩ fs Q:=by
 subst hz;exact uS (nw:=[]) (OJ hP hdv hk hx hT hd he hys hsz hss hn) hm Z Z hr
def cU (hP:uI P TT) {T e key len sz:Nat} {x l:Operand} {ti te:TI} {xs:List AV} {sl:Fl} {k:IntKind} {i:Int} (hx:yJ (zG tm) x= .ref key 0 len) (hk:zC h key=some (.arr sz xs sl)) (hl:yJ (zG tm) l= .s (.int k i)) (hT:TT[T]? =some ti) (hd:ti.d= .slice e) (he:TT[e]? =some te)
  (hsz:Nat.beq sz te.size=true) (h0:0<=i) (h1:i<=len) (hm:Nat.blt t m=true) (hr:zX P F m ops dr rest ⟨(t,.ref key i.toNat (len-i.toNat))::tm,h⟩ (⟨true,[],[key]⟩::fs) Q):
  zX P F m ops dr (⟨some t,.slice T x (some l) none none,ty,pos,after,none⟩::rest) ⟨tm,h⟩ fs Q:=by
 have:=dG (P:=P) (st:=⟨tm,h⟩) (lo:=some l) (hi:=none) (l:=i.toNat) (r:=len) hP hx hk hT hd he ⟨k,i,hl,by omega⟩ rfl (by omega) (yAb _) hsz;rw[yBu]at this;exact wG this hm hr
def zQv (hP:uI P TT) {T e key len sz:Nat} {x l:Operand} {ti te:TI} {xs:List AV} {sl:Fl} {k:IntKind} (hx:yJ (zG tm) x= .ref key 0 len) (hk:zC h key=some (.arr sz xs sl)) (hl:yJ (zG tm) l= .s (.int k 0)) (hT:TT[T]? =some ti) (hd:ti.d= .slice e) (he:TT[e]? =some te)
  (hsz:Nat.beq sz te.size=true) (hm:Nat.blt t m=true) (hr:zX P F m ops dr rest ⟨(t,.ref key 0 0)::tm,h⟩ (⟨true,[],[key]⟩::fs) Q):
  zX P F m ops dr (⟨some t,.slice T x none (some l) none,ty,pos,after,none⟩::rest) ⟨tm,h⟩ fs Q:=by
 have:=dG (P:=P) (st:=⟨tm,h⟩) (lo:=none) (hi:=some l) (l:=0) (r:=0) hP hx hk hT hd he Z ⟨k,0,hl,by omega⟩ (yAb _) (yAp _) hsz;exact wG this hm hr
def zQw (hP:uI P TT) {T I e n:Nat} {s x:Operand} {ti te tn:TI} {k0:IntKind} {nx:Int} {z:AV} (hs:yJ (zG tm) s= .s (.slice none 0 0)) (hx:yJ (zG tm) x= .s (.int .i64 nx)) (hT:TT[T]? =some ti) (hd:ti.d= .slice e) (he:TT[e]? =some te) (hI:TT[I]? =some tn) (hdn:tn.d= .int k0)
  (hb:Nat.ble te.bytes 65536=true) (hp:Nat.ble 1 te.size=true) (hzl:Nat.beq te.zero.length te.size=true) (hz1:te.zero.all (·.oneCell')=true) (hzc:Nat.beq (vU te).cells.length te.size=true) (hzc2:(vU te).cells=te.zero.map .s) (hz:vU te=z)
  (hnx:nx=(n:Int)) (hpos:1<=n) (hmax:n<=1073741824) (hm:Nat.blt t m=true) (hnn:(zC h t).isNone=true)
  {sz:Nat} (hse:te.size=sz) (hk:zX P F m ops dr rest ⟨(t,.ref t 0 n)::tm,(t,.arr sz (List.replicate n z) false)::h⟩ (⟨true,[t,t],[]⟩::fs) Q):zX P F m ops dr (⟨some t,.call ⟨.builtin .append, #[s,x], #[T,I]⟩,ty,pos,after,none⟩::rest) ⟨tm,h⟩ fs Q:=by
 subst hse hz;exact uS (nw:=[t]) (zFj hP t hs hx hT hd he hI hdn hnx hpos hmax hb hp hzl hz1 hzc hzc2) hm (zAu hnn) Z hk
end
mutual
def YA (k L:Nat):AV->Prop
 | .ref j off len=>j=k->off=0/\len=L
 | .ptr j _ _=>j≠k
 | .agg cs| .fn _ cs| .tup cs=>qX k L cs
 |_=>True
def qX (k L:Nat):List AV->Prop
 | []=>True
 |v::r=>YA k L v/\qX k L r
end
def XH (k L:Nat):List (Nat×AV)->Prop
 | []=>True
 |(_,v)::r=>YA k L v/\XH k L r
def XI (k L:Nat):List (Nat×xN)->Prop
 | []=>True
 |(_,e)::r=>(match e with
  | .box cs=>qX k L cs
  | .obj cs=>True
  | .arr _ xs fl=>fl.nest=false∨qX k L xs
  | .dead=>True)/\XI k L r
theorem qX.at {k L:Nat}:∀{cs:List AV} {i:Nat} {v:AV},qX k L cs->cs[i]? =some v->YA k L v
 | [],_,_,_,h=>by simp at h
 |x::r,0,v,hk,h=>by simp at h;subst h;exact hk.1
 |x::r,i+1,v,hk,h=>qX.at hk.2 IY
theorem XH.at {k L:Nat}:∀{tm:List (Nat×AV)},XH k L tm->∀t,YA k L (zG tm t)
 | [],_,t=>trivial
 |(j,v)::r,h,t=>by
  rw[yF];split
  ·exact h.1
  ·exact XH.at h.2 t
theorem XI.at {k L:Nat}:∀{h:List (Nat×xN)} {j:Nat} {e:xN},XI k L h->zC h j=some e->match e with
  | .box cs=>qX k L cs
  | .obj cs=>True
  | .arr _ xs fl=>fl.nest=false∨qX k L xs
  | .dead=>True
 | [],_,_,_,he=>by simp[zC]at he
 |(i,e0)::r,j,e,h,he=>by
  rw[yQ]at he;split at he
  ·cases he;exact h.1
  ·exact XI.at h.2 he
theorem YA.cells {k L:Nat} {x:AV} (h:YA k L x):qX k L x.cells:=by
 cases x<;>first
  |exact h
  |exact⟨h,trivial⟩
theorem zQ.whole {w:World} {D D':Nat->Prop} {h h':yC} {β β':vP} (k L:Nat) (hD:∀b,D' b->D b) (hh:∀j,j≠k->h' j=h j) (hβ:∀j,j≠k->β' j=β j) (hw:∀c,zQ w D h β (.ref k 0 L) c->zQ w D' h' β' (.ref k 0 L) c) {v:AV} {c:Value} (hv:zQ w D h β v c):YA k L v->zQ w D' h' β' v c:=by
 have key:∀{off len j c},(j=k->off=0/\len=L)->zQ w D h β (.ref j off len) c->(j≠k->zQ w D' h' β' (.ref j off len) c)->zQ w D' h' β' (.ref j off len) c:=λ{off len j c} h1 h2 h3=>by
  by_cases hj:j=k
  ·obtain⟨rfl,rfl⟩:=h1 hj;subst hj;exact hw _ h2
  ·exact h3 hj
 induction hv with
 |fz v c hf=>exact λ_=> .fz v c (hf.less hD)
 |agg cs c hl h1 hr ih=>exact λhk=> .agg cs c hl h1 λi v hv=>ih i v hv (qX.at hk hv)
 |fn f caps c hl hr ih=>exact λhk=> .fn f caps c hl λi v hv=>ih i v hv (qX.at hk hv)
 |tup vs c hl hr ih=>exact λhk=> .tup vs c hl λi v hv=>ih i v hv (qX.at hk hv)
 |dref j off len c hk' h1=>exact λhk=>key hk (.dref j off len c hk' h1) λhj=> .dref j off len c OE h1
 |dptr j i off c hk' h1=>exact λhk=> .dptr j i off c zL4 h1
 |ref j off len sz xs st b n cap hk' hb hn hc hs=>exact λhk=>key hk (.ref j off len sz xs st b n cap hk' hb hn hc hs) λhj=> .ref j off len sz xs st b n cap OE zDp hn hc hs
 |ref0 j off sz xs st a hk' hn=>exact λhk=>key hk (.ref0 j off sz xs st a hk' hn) λhj=> .ref0 j off sz xs st a OE hn
 |pbox j off cs b n hk' hb=>exact λhk=> .pbox j off cs b n zL4 (by rw[hβ j hk];exact hb)
 |parr j i off sz xs st b n hk' hb hi ho=>exact λhk=> .parr j i off sz xs st b n zL4 (by rw[hβ j hk];exact hb) hi ho
section
variable {P:Program} {K0:List Nat} {F:Fr K0} {m:Nat} {tm:List (Nat×AV)} {h:List (Nat×xN)}
theorem xV.compactW {a:Act} {w:World} (R:xV F m ⟨tm,h⟩ a w) (k:Nat) {sz:Nat} {xs:List AV} {sb:Bool} (hk:zC h k=some (.arr sz xs ⟨sb,false⟩)) (hK0:K0.contains k=false) (hwt:XH k xs.length tm) (hwh:XI k xs.length h):xV F m ⟨tm,(k,.arr sz xs false)::h⟩ a w:=by
 obtain⟨⟨X,β,hX,H,Ht,KK,hJ,hD⟩,nd,gs,hl⟩:=R;have hE:=H.ent k _ hk;obtain⟨e1,e2,e3,e4,e5,f,e6,e7,e8⟩:=hE
 let β':vP:=λj=>if j=k then(β k).take 1 else β j
 have hsub:∀j b n,(b,n)∈β' j->(b,n)∈β j:=λj b n hm=>by
  dsimp only[β']at hm;split at hm
  ·rename_i e;subst e;exact yCc hm
  ·exact hm
 have hDs:∀b,xK X β' b->xK X β b:=λb hd=>hd.imp id λ⟨j,n,hm⟩=>⟨j,n,hsub j b n hm⟩
 have hh':∀j,j≠k->zC ((k,.arr sz xs false)::h) j=zC h j:=λj hj=>by rw[yQ,zZ7 hj]
 have hhk:zC ((k,.arr sz xs false)::h) k=some (.arr sz xs false):=by rw[yQ,zZ8 Z]
 have hβ':∀j,j≠k->β' j=β j:=λj hj=>by dsimp only[β'];rw[zZ7 hj]
 have hβk:β' k=(β k).take 1:=by dsimp only[β'];rw[zZ8 Z]
 have whole:∀c,zQ w (xK X β) (zC h) β (.ref k 0 xs.length) c->zQ w (xK X β') (zC ((k,.arr sz xs false)::h)) β' (.ref k 0 xs.length) c:=λc hc=>by
  generalize hn:xs.length=n at hc
  cases hc with
  |fz _ _ hf=>cases hf
  |dref _ _ _ _ hd _=>exact absurd hd (nd k)
  | ref _ _ _ sz' xs' st' b n' cap hk2 hb hn' hc' hs'=>
   rw[hk]at hk2;cases hk2;refine .ref k 0 n sz xs false b n' cap hhk ?_ hn' hc' hs';rw[hβk]
   cases hbk:β k with
   |nil=>rw[hbk]at hb;simp at hb
   |cons p r=>
    rw[hbk]at hb;obtain⟨b0,n0⟩:=p;obtain⟨_,_,g3⟩:=e5 b0 n0 r hbk
    rcases yBd.1 hb with h1|h1
    ·rw[h1];simp
    ·exfalso;have:=g3 b n' h1;omega
  |ref0 _ _ sz' xs' st' ad hk2 hn'=>exact .ref0 k 0 sz xs false ad hhk (yAp _)
 have lift:∀{v c},YA k xs.length v->zQ w (xK X β) (zC h) β v c->zQ w (xK X β') (zC ((k,.arr sz xs false)::h)) β' v c:=λhw hv=>hv.whole k xs.length hDs hh' hβ' whole hw
 have H':qV X (zC ((k,.arr sz xs false)::h)) β' w:=by
  refine⟨λj e he=>?_,λj hj=>?_,λj j' b n n' h1 h2=>H.disj j j' b n n' (hsub _ _ _ h1) (hsub _ _ _ h2),λj b n hm=>H.free j b n (hsub _ _ _ hm),λb hd=>H.lt b (hDs b hd)⟩
  ·by_cases hj:j=k
   ·subst hj;rw[hhk]at he;cases he;refine⟨e1,e2,λhx=>?_,e4,λb n r hr=>?_,f,.ofF λi x l v hx hv=>(e6.toF Z i x l v hx hv).less hDs,e7,λb n hm=>e8 b n (hsub _ _ _ hm)⟩
    ·rw[hβk];have:=e3 hx
     cases hbk:β j with
     |nil=>exact absurd hbk this
     |cons p r=>simp
    ·rw[hβk]at hr
     cases hbk:β j with
     |nil=>rw[hbk]at hr;simp at hr
     |cons p r'=>
      rw[hbk]at hr;simp only[yE3,yC8,yF6]at hr;obtain⟨hp,hr⟩:=hr;subst hr;rw[hp]at hbk;obtain⟨g1,_,_⟩:=e5 b n r' hbk;exact⟨g1,λ_ b' n' hm=>by simp at hm,λb' n' hm=>by simp at hm⟩
   ·rw[hh' j hj]at he;have hE:=H.ent j e he;have hW:=hwh.at he
    cases e with
    |dead=>exact absurd he (nd j)
    |box cs=>
     obtain⟨b,c,el,g1,g2,g3,g4,g5⟩:=hE;exact⟨b,c,el,by rw[hβ' j hj];exact g1,g2,g3,g4,λi v hv=>lift (qX.at hW hv) (g5 i v hv)⟩
    |obj cs=>
     exact⟨by rw[hβ' j hj];exact hE.1,hE.2⟩
    | arr sz' xs' st'=>
     obtain⟨g1,g2,g3,g4,g5,f',g6,g7,g8⟩:=hE;refine⟨g1,g2,by rw[hβ' j hj];exact g3,g4,by rw[hβ' j hj];exact g5,f',λi x l v hx hv=>?_,g7,by rw[hβ' j hj];exact g8⟩
     cases hn:st'.nest with
     |false=>exact⟨.fz _ _ ((g6.toF hn i x l v hx hv).less hDs),λ_=>(g6.toF hn i x l v hx hv).less hDs⟩
     |true=>
      have hW:=hW.resolve_left (by rw[hn];exact Bool.noConfusion);exact⟨lift (qX.at (qX.at hW hx).cells hv) (g6.toV i x l v hx hv),λh0=>by cases h0⟩
  ·rw[yQ]at hj;split at hj
   ·cases hj
   ·rename_i hne;rw[hβ' j hne];exact H.off j hj
 have hkF:∀b n,(b,n)∉F.β0 k:=λb n hm=>by
  have:=F.hK k b n hm;simp only[yCx]at hK0;exact hK0 LO
 refine⟨⟨X,β',hX,H',λt=>lift (hwt.at t) (Ht t),⟨λj e he=>?_,KK.size,KK.keep,λj b n hm=>KK.own j b n (hsub _ _ _ hm),λj b n hm=>?_,KK.bs,KK.os,KK.tape,KK.output⟩,λi hi=>?_,hD⟩,λj=>?_,gs,hl⟩
 ·have hj:j≠k:=λe'=>by
   subst e';have:=F.hh j e he;simp only[yCx]at hK0;exact hK0 LO
  have:=KK.knd j e he
  cases e with
  |dead=>exact this
  |box cs=>obtain⟨cs',h2⟩:=this;exact⟨cs',by dsimp only;rw[hh' j hj];exact h2⟩
  |obj cs=>obtain⟨cs',h2⟩:=this;exact⟨cs',by dsimp only;rw[hh' j hj];exact h2⟩
  |arr sz' xs' sl'=>obtain⟨xs2,sl2,h2,h3⟩:=this;exact⟨xs2,sl2,by dsimp only;rw[hh' j hj];exact h2,h3⟩
 ·have hj:j≠k:=λe'=>by subst e';exact hkF b n hm
  rw[hβ' j hj];exact KK.pas j b n hm
 ·refine F.Jst i _ X w w _ (hJ i hi) (yAb _) (λ_ _ _=>rfl) (λb hb=> .inl ?_) (λb hb=>?_) Z Z Z
  ·obtain⟨j,n,hm⟩:=hb;exact⟨j,n,hsub j b n hm⟩
  ·obtain⟨j,n,hm⟩:=hb;exact H.lt b (.inr ⟨j,n,hsub j b n hm⟩)
 ·dsimp only;by_cases hj:j=k
  ·subst hj;rw[hhk];intro hd;cases hd
  ·rw[hh' j hj];exact nd j
def zFl {c:Code} {Q:Exit->St->Prop} (k:Nat) {sz:Nat} {xs:List AV} {sb:Bool} (hk:zC h k=some (.arr sz xs ⟨sb,false⟩)) (hK0:K0.contains k=false) (hwt:XH k xs.length tm) (hwh:XI k xs.length h) (hs:vK P F m c ⟨tm,(k,.arr sz xs false)::h⟩ Q):vK P F m c ⟨tm,h⟩ Q:=
 ⟨λa w R=>hs.run a w (R.compactW k hk hK0 hwt hwh)⟩
end
section
variable {P:Program} {TT:List TI} {K0:List Nat} {F:Fr K0} {m:Nat} {ops:Array Oper} {dr:Bool} {rest:List Oper} {fs:List FP} {Q:List FP->St->Prop} {tm:List (Nat×AV)} {h:List (Nat×xN)} {ty:Nat} {pos:String} {after:Array Edge} {t:Nat}
def eE (k:Nat) (hP:uI P TT) {T e len:Nat} {ps:Array (Nat×Operand)} {ti te:TI} {xs:List AV} (hT:TT[T]? =some ti) (hd:ti.d= .slice e) (he:TT[e]? =some te) (hp:Nat.ble 1 te.size=true) (hps:cO ⟨tm,h⟩ ps=(xs.zipIdx 0).map λx=>(x.2,x.1)) (hl:Nat.beq xs.length len=true)
  (hw:xs.all (λx=>Nat.beq x.cells.length te.size&&x.ok)=true) (hb:Nat.ble (len*te.size) 65536=true) (hzl:Nat.beq te.zero.length te.size=true) (hm:Nat.blt t m=true) (hnn:(zC h k).isNone=true)
  {sz:Nat} (hse:te.size=sz) (hk:zX P F m ops dr rest ⟨(t,.ref k 0 len)::tm,(k,.arr sz xs ⟨false,true⟩)::h⟩ (⟨true,[k,k],[]⟩::fs) Q):zX P F m ops dr (⟨some t,.buildSlice T len ps,ty,pos,after,none⟩::rest) ⟨tm,h⟩ fs Q:=by
 subst hse;exact uS (nw:=[k]) (SI hP k hT hd he hp hps hl hw hb hzl) hm (zAu hnn) Z hk
end
end Av
end Go.Proofs.YteajjdidebfcjaaGreat
