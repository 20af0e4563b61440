/- Part 4. -/
import Derived.Test.YteajjdidebfcjaaGreatU03
import Derived.Lib.Overlaps
import Derived.LoopNIn
namespace Go.Proofs.YteajjdidebfcjaaGreat
namespace Av
set_option linter.all false
set_option maxRecDepth 4000
section
variable {P:Program} {K0:List Nat} {F:Fr K0} {m:Nat}
def TQ {x y:Code} {Q:Exit->St->Prop} {st:St} (K ts:List Nat) (st1:St) (hK:K0.all (K.contains ·)=true) (h1:vZ P F m x st (λe s=>e= .normal/\restr K ts s=st1)) (h2:vZ P F m y st1 Q):vZ P F m x st (XZ P F m y Q):=
 ⟨λa w H=>Code.wpIn_mono (λe a' w' ⟨s,⟨he,hs⟩,hr⟩=>by subst he;exact⟨st1,h2,hs▸wN.restr hr K ts hK⟩) (h1.run a w H)⟩
end
section
variable {P:Program} {tm:List (Nat×AV)} {h:List (Nat×xO)} {tx ty:Nat} {x y:Operand}
def aU {a b:List Int} {v:Bool} (hx:yO (zG tm) x= .s (.string (strOfNums a))) (hy:yO (zG tm) y= .s (.string (strOfNums b))) (hv:eqY a b=v):wS P ⟨tm,h⟩ (.binOp .eql tx x y ty) (.s (.bool v)) [] [] []:=hv▸bI hx hy
def aV {a b:List Int} {v:Bool} (hx:yO (zG tm) x= .s (.string (strOfNums a))) (hy:yO (zG tm) y= .s (.string (strOfNums b))) (hv:eqY a b=v):wS P ⟨tm,h⟩ (.binOp .neq tx x y ty) (.s (.bool (!v))) [] [] []:=hv▸bJ hx hy
end
section
variable {P:Program} {K0:List Nat} {F:Fr K0} {m:Nat} {TT:List TI} {ops:Array Oper} {dr:Bool} {rest:List Oper} {tm:List (Nat×AV)} {h:List (Nat×xO)} {fs:List FP} {Q:List FP->St->Prop} {t ty:Nat} {pos:String} {after:Array Edge}
def cW (kn:Nat) (hP:uJ P TT) {T e n:Nat} {x y:Operand} {ti te:TI} {kx ky:IntKind} {nx ny:Int} {z:AV} (hx:yO (zG tm) x= .s (.int kx nx)) (hy:yO (zG tm) y= .s (.int ky ny)) (hT:TT[T]? =some ti) (hd:ti.d= .slice e) (he:TT[e]? =some te)
  (hb:Nat.ble te.bytes 65536=true) (hp:Nat.ble 1 te.size=true) (hzl:Nat.beq te.zero.length te.size=true) (hz1:te.zero.all (·.oneCell')=true) (hzc:Nat.beq (uD te).cells.length te.size=true) (hzc2:(uD te).cells=te.zero.map .s) (hz:uD te=z)
  (hnx:nx=(n:Int)) (hny:nx<=ny) (hmax:ny<=1073741824) (hm:Nat.blt t m=true) (hnn:(zD h kn).isNone=true)
  {sz:Nat} (hse:te.size=sz) (hk:zZ P F m ops dr rest ⟨(t,.ref kn 0 n)::tm,(kn,.arr sz (List.replicate n z) false)::h⟩ (⟨true,[kn,kn],[]⟩::fs) Q):zZ P F m ops dr (⟨some t,.makeSlice T x y,ty,pos,after,none⟩::rest) ⟨tm,h⟩ fs Q:=by
 subst hse hz;exact uT (nw:=[kn]) (WE hP kn hx hy hT hd he hnx hny hmax hb hp hzl hz1 hzc hzc2) hm (zA5 hnn) Z hk
end
section
variable {P:Program} {TT:List TI} {st:St}
theorem zFx (hP:uJ P TT) {T I e n:Nat} {s x:Operand} {ti te tn:TI} {k0:IntKind} {nx:Int} (kn:Nat) (hs:yO (zG st.tm) s= .s (.slice none 0 0)) (hx:yO (zG st.tm) x= .s (.int .i64 nx)) (hT:TT[T]? =some ti) (hd:ti.d= .slice e) (he:TT[e]? =some te) (hI:TT[I]? =some tn) (hdn:tn.d= .int k0)
  (hnx:nx=(n:Int)) (hpos:1<=n) (hmax:n<=1073741824) (hb:Nat.ble te.bytes 65536=true) (hp:Nat.ble 1 te.size=true) (hzl:Nat.beq te.zero.length te.size=true) (hz1:te.zero.all (·.oneCell')=true) (hzc:Nat.beq (uD te).cells.length te.size=true) (hzc2:(uD te).cells=te.zero.map .s):
  wS P st (.call ⟨.builtin .append, #[s,x], #[T,I]⟩) (.ref kn 0 n) [(kn,.arr te.size (List.replicate n (uD te)) false)] [] [kn]:=by
 refine⟨?_⟩;intro X tm h hg _ hn o a w β ho HH Ht;obtain⟨d0,o0,y0,p0,f0,g0⟩:=o;dsimp only at ho;subst ho;have h1:=vO Ht hg (x:=s) qX hs;have h2:=vO Ht hg (x:=x) qX hx;have hp:=yAv hp;have hb:=yAv hb;have hzl:=yBd hzl;have hzc:=yBd hzc;subst hnx;obtain⟨i,z,hu,hi,hz,e1,e2,e3⟩:=wU hP hT hd he;obtain⟨_,u2,_,_,hu2,_,hd2,_⟩:=uC (hP _ _ hI);obtain rfl:=HM (hd2.symm.trans hdn)
 have hbytes:n*i.bytes<=281474976710656:=by
  have:=yDn hmax (show i.bytes<=65536 by omega);omega
 have hw:IntKind.i64.wrap (n:Int)=(n:Int):=kG ⟨by show(-9223372036854775808:Int)<=_;omega,by show _<=(9223372036854775807:Int);omega⟩
 have hs0:n*i.size≠0:=by
  have:1*1<=n*i.size:=yDn hpos (by omega);omega
 have h48:¬(281474976710656<(n:Int)*(i.bytes:Int)):=by
  have h3:(n:Int)*(i.bytes:Int)=((n*i.bytes:Nat):Int):=by simp
  rw[h3];omega
 have h48':¬(281474976710656<Builtin.nextslicecap n 0*i.bytes):=by rw[nextslicecap_zero hpos];omega
 have h63:¬(9223372036854775807<(n:Int)):=by omega
 have hn0:n≠0:=by omega
 have hneg:¬((n:Int)<0):=by omega
 have hrun:(Builtin.append_ #[T,I] y0 #[.slice none 0 0,.int .i64 (n:Int)]).run P w= .ok (.slice (some ⟨w.heap.size,0,none⟩) n (grownCap w n 0 e)) (w.drew.alloc (.cells (Builtin.zeroCells z.cells n++Builtin.zeroCells z.cells (grownCap w n 0 e-n)) e)):=by
  have ha:(asIntOf (.int .i64 (n:Int))).run P w= .ok (.i64,(n:Int)) w:=rfl;have hn1:¬((n:Int)<=0):=by omega
  simp[Builtin.append_,run_underlying hu,run_underlying hu2,sizeOf,typeInfo,zeroValue,hi,hz,asInt,ha,hw,hneg,hn1,h48,hs0,hn0,h63,h48',Question.forced,run_firstCells_none,newRow,grownCap]
 have hex:(execOp a.eval ⟨d0,.call ⟨.builtin .append, #[s,x], #[T,I]⟩,y0,p0,f0,g0⟩).run P w= .ok (.value (.slice (some ⟨w.heap.size,0,none⟩) n (grownCap w n 0 e))) (w.drew.alloc (.cells (Builtin.zeroCells z.cells n++Builtin.zeroCells z.cells (grownCap w n 0 e-n)) e)):=by
  simp[execOp,resolve,invoke,builtin,h1,h2,hrun]
 rw[hex];have HD:=HH.drew (w.drawn+1);have hzs:z.cells.size=te.size:=by rw[<-hzl,<-e3];simp
 have hge:=grownCap_ge w n 0 e;have hrl:(List.replicate n (uD te)).length=n:=by simp
 have hat:∀(j:Nat) v,(List.replicate n (uD te))[j]? =some v->v=uD te:=λj v hv=>by
  rw[yCb]at hv;split at hv
  ·exact(yCr hv).symm
  ·cases hv
 have hzat:∀j,j<te.size->∃v,te.zero[j]? =some v/\z.cells.getD j undef=v:=λj hj=>by
  have:=kH z.cells j (by omega);refine⟨_,?_,rfl⟩;rw[<-e3];simpa using this
 obtain⟨β',G,hv⟩:=xN.newArr HD (hn kn zS) (Builtin.zeroCells z.cells n++Builtin.zeroCells z.cells (grownCap w n 0 e-n)) e te.size (List.replicate n (uD te)) (grownCap w n 0 e) (λ_ j=>z.cells.getD j undef) hp (by rw[hrl];unfold cA;omega) (by rw[hrl];omega) (by
   simp only[yFh,size_zeroCells,hzs,<-yBi]
   congr 1;omega) (qD.get ((qD.zero (λv hv=>yAu.1 hz1 v NU) _).app (qD.zero (λv hv=>yAu.1 hz1 v NU) _)))
  (λj v hv=>by rw[hat j v hv];exact hzc) (λi' j hi' hj=>by
   rw[hrl]at hi'
   have hlt:i'*te.size+j<n*te.size:=by
    have:=yA0 te.size (show i'+1<=n by omega);rw[yBi,yCe]at this;omega
   have hm':(i'*te.size+j) % te.size=j:=by rw[yE0,yE8];exact yC6 hj
   rw[yCi (by rw[size_zeroCells,hzs];exact hlt)];have hj':j<z.cells.size:=by omega
   simp only[Builtin.zeroCells,yFw,yFp,hzs,hlt,yF4,Option.map_some,hm']
   congr 1
   simp[yBh,hj']) (λi' j _ hj=>by
   obtain⟨v,hv,hv'⟩:=hzat j hj;rw[hv']
   exact yAu.1 hz1 v (yBp hv)) (λi' v j u hv hu=>by
   rw[hat i' v hv,hzc2]at hu;rw[yAi]at hu
   have hj:j<te.size:=by
    cases hz9:te.zero[j]? with
    |none=>rw[hz9]at hu;cases hu
    |some v9=>have:=(yA5.1 hz9).1;omega
   obtain⟨v2,hv2,hv3⟩:=hzat j hj;rw[hv2]at hu;cases hu;rw[hv3]
   exact .s _)
 rw[hrl]at hv;exact⟨β',xN.trans HH (xN.drew HH (w.drawn+1)) G,hv⟩
def MA (hP:uJ P TT) {T e:Nat} {x:Operand} {ti:TI} (hx:yO (zG st.tm) x= .s (.slice none 0 0)) (hT:TT[T]? =some ti) (hd:ti.d= .slice e):
  wS P st (.call ⟨.builtin .cap, #[x], #[T]⟩) (.s (.int .i64 0)) [] [] []:=
 yR λoo X tm h w β a ho hg hr HH Ht=>by
  obtain⟨d0,o0,y0,p0,f0,g0⟩:=oo;dsimp only at ho;subst ho;have hc:=vO Ht hg (x:=x) qX hx;obtain⟨u,hu,hd'⟩:=xV (hP _ _ hT) w;obtain rfl:=vP (hd'.trans hd);exact⟨_,by simp[execOp,resolve,invoke,builtin,Builtin.cap_,hc,hu,goInt],.fz _ _ (.s _)⟩
def zBi (hP:uJ P TT) {T e:Nat} {x l:Operand} {ti te:TI} {k:IntKind} (hx:yO (zG st.tm) x= .s (.slice none 0 0)) (hl:yO (zG st.tm) l= .s (.int k 0)) (hT:TT[T]? =some ti) (hd:ti.d= .slice e) (he:TT[e]? =some te):
  wS P st (.slice T x none (some l) none) (.s (.slice none 0 0)) [] [] []:=
 yR λoo X tm h w β a ho hg hr HH Ht=>by
  obtain⟨d0,o0,y0,p0,f0,g0⟩:=oo;dsimp only at ho;subst ho;have hc:=vO Ht hg (x:=x) uF hx;obtain⟨u,hu,hd'⟩:=xV (hP _ _ hT) w;obtain rfl:=vP (hd'.trans hd);have hs:=uK (hP _ _ he) w;have hb:=gS (P:=P) Ht hg (lo:=none) (hi:=some l) (len:=0) (cap:=0) (l:=0) (r:=0) (λy hy=>by cases hy) (λy hy=>by cases hy;simp[Op.operands]) Z ⟨k,0,hl,by omega⟩ (yAg _) (yAg _) true;rw[yDo]at hb;exact⟨_,by simp only[execOp,Instr.sliceAt,Instr.slice,Sem.run_bind,hu,Result.andThen_ok,hc,yDo,hb,hs,Sem.run_pure];rfl,.fz _ _ (.s _)⟩
theorem KW (hP:uJ P TT) {T e key off len sz:Nat} {d x:Operand} {ti te:TI} {xs yl ys:List AV} {xv:AV} (hdv:yO (zG st.tm) d= .ref key off len) (hk:zD st.h key=some (.arr sz xs false)) (hx:yO (zG st.tm) x=xv) (hT:TT[T]? =some ti) (hd:ti.d= .slice e) (he:TT[e]? =some te)
  (hyl:CI (zD st.h) xv=some yl) (hyt:yl.take len=ys) (hsz:∀y,ys[0]? =some y->y.cells.length=sz) (hp1:1<=ys.length∨yl.length<=len) (hss:Nat.beq sz te.size=true):
  wS P st (.call ⟨.builtin .copy, #[d,x], #[T,T]⟩) (.s (.int .i64 ys.length)) [(key,.arr sz (xs.take off++ys++xs.drop (off+ys.length)) false)] (key::OD xv) []:=by
 refine⟨?_⟩;intro X tm h hg hr _ o a w β ho HH Ht;obtain⟨d0,o0,y0,p0,f0,g0⟩:=o;dsimp only at ho;subst ho;have hk':=(hr key zS).trans hk;have h1:=gA Ht hg (x:=d) qX hdv;have h2:=gA Ht hg (x:=x) qX hx;have hss:=yBd hss;obtain⟨g1,g2,g3,g4,g5,f,g6,g7,g8⟩:=HH.ent key _ hk'
 obtain⟨ad,cap,hc,_,hmax0,hsrc0⟩:=cP (sz:=sz) HH h2 ((gT λk' hk=>hr k' (by simp[hk])).trans hyl) (λy hy=>hsz y (by
  rcases hp1 with h|h
  ·rw[<-hyt,yBr,yAd (by have:ys.length<=len:=(by rw[<-hyt];simp;omega);omega)];exact hy
  ·rw[<-hyt,yAo h];exact hy))
 have hn:ys.length<=len:=by rw[<-hyt];simp;omega
 have hylen:ys.length=min len yl.length:=by rw[<-hyt];simp
 have hmin0:min yl.length len=ys.length:=by rw[hylen,Nat.min_comm]
 have hly:ys.length<=yl.length:=by omega
 have hsrc:ys≠[]->∃b o f,ad=some ⟨b,o,none⟩/\Src w (xP X β) h β false ys sz b o f:=λhne=>by
  obtain⟨b,o,f,e,hS⟩:=hsrc0 (λh0=>hne (by rw[<-hyt,h0];simp))
  have hgt:∀(i:Nat) y,ys[i]? =some y->yl[i]? =some y:=λi y hy=>by
   rw[<-hyt,yBr]at hy;split at hy
   ·exact hy
   ·cases hy
  exact⟨b,o,f,e,λi y hy=>hS.wide i y (hgt i y hy),λi j hi hj=>hS.cell i j (by omega) hj,λi j hi hj=>hS.one i j (by omega) hj,λi y j v hy hv=>hS.rep i y j v (hgt i y hy) hv⟩
 obtain⟨i,z,hu,hi,hzz,e1,e2,e3⟩:=wU hP hT hd he
 have hnx:∀b n,(b,n)∈β key->n=xs.length∨n=0:=λb n hb=>by
  cases hbk:β key with
  |nil=>rw[hbk]at hb;simp at hb
  |cons q rr=>
   obtain⟨b0,n0⟩:=q;obtain⟨q1,q2,_⟩:=g5 b0 n0 rr hbk;rw[hbk]at hb;simp at hb
   rcases hb with⟨_,rfl⟩|hb
   ·exact .inl q1
   ·exact .inr (q2 Z b n hb)
 have hop:∀{w'},(Builtin.copy_ #[T,T] y0 #[a.eval d,a.eval x]).run P w= .ok (goInt ys.length) w'->(execOp a.eval ⟨d0,.call ⟨.builtin .copy, #[d,x], #[T,T]⟩,y0,p0,f0,g0⟩).run P w= .ok (.value (.int .i64 ys.length)) w':=λhv=>by
  simp[execOp,resolve,invoke,builtin,hv,goInt]
 by_cases hnil:ys=[]
 ·obtain rfl:yl=[]:=by
   rcases hp1 with h|h
   ·rw[hnil]at h;simp at h
   ·rw[yAo h]at hyt;rw[hyt,hnil]
  subst hnil;have hxs:xs.take off++[]++xs.drop (off+([]:List AV).length)=xs:=by simp
  rw[hxs]
  obtain⟨bd,cp,hcs⟩:∃bd cp,a.eval d= .slice bd len cp:=by
   generalize a.eval d=cx at h1
   cases h1 with
   |fz _ _ hf=>cases hf
   |dref _ _ _ _ hd _=>rw[hk']at hd;cases hd
   |ref _ _ _ _ _ _ _ _ _ _ _ _ _ _=>exact⟨_,_,rfl⟩
   |ref0 _ _ _ _ _ _ _ _=>exact⟨_,_,rfl⟩
  have hf1:(Builtin.firstCells i.size 0 (.slice ad 0 cap)).run P w= .ok #[] w:=by
   cases ad with
   |none=>rfl
   |some a=>simp only[Builtin.firstCells,loadCells,yEe,loadCellsFrom];rfl
  rw[hop (w':=w) (by
   rw[hcs,hc]
   cases bd with
   |none=>simp[Builtin.copy_,run_underlying hu,sizeOf,typeInfo,hi,Builtin.lenOf,hf1]
   |some b=>simp[Builtin.copy_,run_underlying hu,sizeOf,typeInfo,hi,Builtin.lenOf,hf1,storeCells])]
  have G:=xN.step (w':=w) HH key (.arr sz xs false) (β key) (yAg _) (λ_ _ _=>rfl) Z Z Z (λb n hm=> .inl ⟨n,hm⟩) (λ_ _ _=>rfl) (λe he=>by rw[hk']at he;cases he;exact .inr ⟨⟨_,_,rfl,yAg _⟩,λ_ n hm=>⟨n,yAg _,hm⟩⟩)
   (λE=>⟨g1,g2,λh=>by rw[zW];exact g3 h,g4,λb n r hr=>by rw[zW]at hr;exact g5 b n r hr,f,jP.evo E g6,g7,λb n hm=>by rw[zW]at hm;exact g8 b n hm⟩)
  exact⟨_,G,.fz _ _ (.s _)⟩
 obtain⟨b2,q,fy,rfl,hS⟩:=hsrc hnil
 have hpos:0<ys.length:=by cases ys with|nil=>exact absurd Z hnil|cons _ _=>simp
 obtain⟨hf1,hf2⟩:=hS.flat g1
 obtain⟨b,n,cp,hcs,hbm,hnl,hcp⟩:∃b n cp,a.eval d= .slice (some ⟨b,off*sz,none⟩) len cp/\(b,n)∈β key/\off+len<=n/\len<=cp:=by
  generalize a.eval d=cx at h1
  cases h1 with
  |fz _ _ hf=>cases hf
  |dref _ _ _ _ hd _=>rw[hk']at hd;cases hd
  |ref _ _ _ sz' xs' st' b n cp hk2 hb hn hc2 hs2=>
   rw[hk']at hk2;cases hk2;exact⟨b,n,cp,rfl,hb,hn,hc2⟩
  |ref0 _ _ _ _ _ _ _ _=>omega
 have hnn:n=xs.length:=by rcases hnx b n hbm with h|h<;>omega
 subst hnn;obtain⟨cur,el,c1,c2,c3,c4⟩:=g8 b _ hbm;have hfit:(off+ys.length)*sz<=cur.size:=yBn (yA0 _ (by omega)) c2;have hfc:=run_firstCells_some (P:=P) w sz ys.length ⟨b2,q,none⟩ yl.length cap (flat fy ys.length sz) (zP _ _ _) hf1;have hst:=run_storeCells_at P b (off*sz) el (flat fy ys.length sz) 0 cur w c1 (by rw[zP,yDm,<-yBi];exact hfit) hf2;simp only[yDm]at hst;generalize hcur':(cur.toList.take (off*sz)++flat fy ys.length sz++cur.toList.drop (off*sz+(flat fy ys.length sz).length)).toArray=cur' at hst
 rw[hop (w':=w.setRow b cur') (by
  rw[hcs,hc];have e1':i.size=sz:=e1.trans hss.symm;rw[<-e1']at hfc;have hst2:(storeCells ⟨b,off*sz,none⟩ (flat fy ys.length i.size)).run P w= .ok () (w.setRow b cur'):=by rw[e1'];exact hst
  simp[Builtin.copy_,run_underlying hu,Builtin.lenOf,sizeOf,typeInfo,hi,hmin0,hfc,hst2])]
 rw[yBi]at hfit
 have hsz':cur'.size=cur.size:=by
  rw[<-hcur'];simp only[yDf,yAf,yAw,yA7,yDc,zP];omega
 have hone2:∀q,q<cur'.size->(cur'.getD q undef).oneCell'=true:=by
  rw[<-hcur'];refine qD.get (qD.arr λv hv=>?_);have hc4:=qD.of c4
  rcases yAz.1 hv with hv|hv
  ·rcases yAz.1 hv with hv|hv
   ·exact hc4 v (yBy hv)
   ·exact hf2 v hv
  ·exact hc4 v (yBc hv)
 let f':Nat->Nat->Value:=λi j=>if off<=i/\i<off+ys.length then fy (i-off) j else f i j
 have hoff:off+ys.length<=xs.length:=by omega
 have hlen:(xs.take off++ys++xs.drop (off+ys.length)).length=xs.length:=by
  simp only[yAf,yAw,yA7];omega
 have hat:∀(i:Nat) y,(xs.take off++ys++xs.drop (off+ys.length))[i]? =some y->(off<=i/\i<off+ys.length/\ys[i-off]? =some y)∨(¬(off<=i/\i<off+ys.length)/\xs[i]? =some y):=λi y hy=>by
  have ht:(xs.take off).length=off:=by simp;omega
  by_cases h5:i<off
  ·rw[yA6,yA9 (by omega),yBr,yAd h5]at hy;exact .inr ⟨by omega,hy⟩
  ·by_cases h6:i<off+ys.length
   ·rw[yA6,yA4 (by omega),ht,yA9 (by omega)]at hy;exact .inl ⟨by omega,h6,hy⟩
   ·rw[yA4 wF]at hy;simp only[yAf,ht]at hy;rw[yB3,show off+ys.length+(i-(off+ys.length))=i by omega]at hy;exact .inr ⟨by omega,hy⟩
 have hcell:∀i j,i<xs.length->j<sz->cur'[i*sz+j]? =some (f' i j):=λi j hi hj=>by
  rw[<-hcur'];simp only[f',yDb];by_cases h5:i<off
  ·have hlt:i*sz+j<off*sz:=by
    have:=yA0 sz (show i+1<=off by omega);rw[yBi,yCe]at this;omega
   rw[yAc (by omega),yA6,yA9 wF,yBr,yAd hlt];simpa using c3 i j hi hj
  ·have ht:(List.take (off*sz) cur.toList).length=off*sz:=by simp;omega
   have hge:off*sz<=i*sz:=yA0 _ (by omega);by_cases h6:i<off+ys.length
   ·have e4:i*sz+j-off*sz=(i-off)*sz+j:=by rw[yFj];omega
    have hlt:(i-off)*sz+j<ys.length*sz:=by
     have:=yA0 sz (show(i-off)+1<=ys.length by omega);rw[yBi,yCe]at this;omega
    rw[yAd (by omega),yA6,yA4 (by rw[ht];omega),ht,yA9 (by rw[zP];omega),e4];exact qM fy (by omega) hj
   ·have hge2:(off+ys.length)*sz<=i*sz:=yA0 _ (by omega);rw[yBi]at hge2;rw[yAc (by omega),yA4 (by simp only[yAf,ht,zP];omega),yB3];simp only[yAf,ht,zP];rw[show off*sz+ys.length*sz+(i*sz+j-(off*sz+ys.length*sz))=i*sz+j by omega];simpa using c3 i j hi hj
 obtain⟨rr,hbk,hr0⟩:∃rr,β key=(b,xs.length)::rr/\∀b' n',(b',n')∈rr->n'=0:=by
  cases hbk:β key with
  |nil=>rw[hbk]at hbm;simp at hbm
  |cons q r=>
   obtain⟨b0,n0⟩:=q;obtain⟨q1,q2,_⟩:=g5 b0 n0 r hbk;have q2:=q2 Z;rw[hbk]at hbm;simp at hbm
   rcases hbm with⟨rfl,rfl⟩|hm
   ·exact⟨r,rfl,q2⟩
   ·have:=q2 b _ hm;omega
 refine⟨cN β key (β key),xN.step HH key _ _ zS (λj hj hn=>setRow_other w b j cur' (λe=>hn xs.length DY)) Z Z Z (λb n hm=> .inl ⟨n,hm⟩) (λb n _=>uZ c1 hsz' b)
  (λe he=>by rw[hk']at he;cases he;exact .inr ⟨⟨_,_,rfl,by rw[hlen];exact yAg _⟩,λ_ n hm=>⟨n,yAg _,hm⟩⟩) λE=>⟨g1,by rw[hlen];exact g2,λ_=>by rw[zW,hbk];simp,λi' x' hx'=>?_,λb' n' r hb'=>?_,f',λi' x' j u hx' hu=>?_,λi' j hi' hj=>?_,λb' n' hb'=>?_⟩,.fz _ _ (.s _)⟩
 ·rcases hat i' x' hx' with⟨_,_,h⟩|⟨_,h⟩
  ·exact hS.wide _ x' h
  ·exact g4 i' x' h
 ·rw[zW]at hb';rw[hlen];exact g5 b' n' r hb'
 ·simp only[f']
  rcases hat i' x' hx' with⟨q1,q2,h⟩|⟨q1,h⟩
  ·rw[yAd ⟨q1,q2⟩];exact⟨(hS.rep.toV _ x' j u h hu).evo E,λ_=>(hS.rep.toF Z _ x' j u h hu).evo E.size E.fz⟩
  ·rw[yAc q1];exact⟨(g6.toV i' x' j u h hu).evo E,λ_=>(g6.toF Z i' x' j u h hu).evo E.size E.fz⟩
 ·rw[hlen]at hi';simp only[f'];split
  ·exact hS.one _ _ (by omega) hj
  ·exact g7 i' j hi' hj
 ·rw[zW]at hb'
  rcases hnx b' n' hb' with rfl|rfl
  ·have hbb:b'=b:=by
    rw[hbk]at hb';simp at hb'
    rcases hb' with rfl|h
    ·rfl
    ·have:=hr0 b' _ h;omega
   subst hbb;exact⟨cur',el,setRow_heap w _ _ _ _ _ c1,by rw[hsz'];exact c2,λi' j hi' hj=>hcell i' j hi' hj,hone2⟩
  ·by_cases hbb:b'=b
   ·subst hbb;exact⟨cur',el,setRow_heap w _ _ _ _ _ c1,by omega,λi' j hi' _=>by omega,hone2⟩
   ·obtain⟨c',el',q1,q2,_,q4⟩:=g8 b' 0 hb';exact⟨c',el',(setRow_other w b b' cur' hbb).trans q1,q2,λi' j hi' _=>by omega,q4⟩
def MB (hP:uJ P TT) {T e key off len sz:Nat} {d x:Operand} {ti te:TI} {xs ys:List AV} {xv:AV} (hdv:yO (zG st.tm) d= .ref key off len) (hk:zD st.h key=some (.arr sz xs false)) (hx:yO (zG st.tm) x=xv) (hT:TT[T]? =some ti) (hd:ti.d= .slice e) (he:TT[e]? =some te)
  (hys:CI (zD st.h) xv=some ys) (hsz:∀y,ys[0]? =some y->y.cells.length=sz) (hss:Nat.beq sz te.size=true) (hn:ys.length<=len):
  wS P st (.call ⟨.builtin .copy, #[d,x], #[T,T]⟩) (.s (.int .i64 ys.length)) [(key,.arr sz (xs.take off++ys++xs.drop (off+ys.length)) false)] (key::OD xv) []:=
 KW hP hdv hk hx hT hd he hys (yAo hn) hsz (.inr hn) hss
end
section
variable {P:Program} {K0:List Nat} {F:Fr K0} {m:Nat} {tm:List (Nat×AV)} {h:List (Nat×xO)}
theorem wN.trunc {a:Act} {w:World} (R:wN F m ⟨tm,h⟩ a w) (t kn K:Nat) {sz:Nat} {xs:List AV} {st:Fl} (hK0:K0=[]) (hv:zG tm t= .ref kn 0 0) (hk:zD h kn=some (.arr sz xs st)):wN F m ⟨[(t,.ref K 0 0)],[(K,.arr sz [] true)]⟩ a w:=by
 obtain⟨⟨X,β,hX,H,Ht,KK,hJ,hD⟩,nd,gs,hl⟩:=R;have g:=H.ent kn _ hk;obtain⟨g1,g2,g3,g4,g5,f,g6,g7,g8⟩:=g;have h1:=Ht t;rw[hv]at h1
 have hKE:∀k e,zD [(K,xO.arr sz [] true)] k=some e->k=K/\e= .arr sz [] true:=λk e he=>by
  rw[xI]at he;split at he
  ·rename_i hh;cases he;exact⟨hh,rfl⟩
  ·cases he
 have key:∀l:List (Nat×Nat),(∀b n,(b,n)∈l->n=0/\∃n',(b,n')∈β kn)->(l=[]∨∃b,l=[(b,0)])->zY w (xP X λk=>if k=K then l else []) (zD [(K,xO.arr sz [] true)]) (λk=>if k=K then l else []) (.ref K 0 0) (a.eval (.tmp t))->wN F m ⟨[(t,.ref K 0 0)],[(K,.arr sz [] true)]⟩ a w:=by
  intro l hl1 hl2 hrep
  have hm0:∀k b n,(b,n)∈(if k=K then l else [])->k=K/\n=0/\∃n',(b,n')∈β kn:=λk b n hm=>by
   split at hm
   ·rename_i hh;exact⟨hh,hl1 b n hm⟩
   ·simp at hm
  have hsub:∀b,xP X (λk=>if k=K then l else []) b->xP X β b:=λb hd=>by
   rcases hd with hx|⟨k,n,hm⟩
   ·exact .inl hx
   ·obtain⟨_,_,n',h5⟩:=hm0 k b n hm;exact .inr ⟨kn,n',h5⟩
  have HH:jA X (zD [(K,xO.arr sz [] true)]) (λk=>if k=K then l else []) w:=by
   refine⟨λk e he=>?_,λk he=>?_,λk k' b n n' q1 q2=>?_,λk b n hm=>?_,λb hd=>H.lt b (hsub b hd)⟩
   ·obtain⟨rfl,rfl⟩:=hKE k e he;refine⟨g1,by simp,λh=>absurd Z h,λi y hy=>by simp at hy,λb n r hr=>?_,λ_ _=>undef,λi y j v hy _=>by simp at hy,λi j hi _=>by simp at hi,λb n hm=>?_⟩
    ·(try dsimp only at hr)
     rw[yAd Z]at hr
     rcases hl2 with h5|⟨b5,h5⟩
     ·rw[h5]at hr;cases hr
     ·rw[h5]at hr;cases hr;exact⟨rfl,λh=>(by cases h),λb' n' hm=>by simp at hm⟩
    ·obtain⟨_,rfl,n',h5⟩:=hm0 _ b n hm;obtain⟨c,el,q1,_,_,q4⟩:=g8 b n' h5;exact⟨c,el,q1,by omega,λi j hi _=>by omega,q4⟩
   ·(try dsimp only)
    split
    ·rename_i hh;rw[hh,xI,yAd Z]at he;cases he
    ·rfl
   ·obtain⟨r1,_⟩:=hm0 k b n q1;obtain⟨r2,_⟩:=hm0 k' b n' q2;exact r1.trans r2.symm
   ·obtain⟨_,_,n',h5⟩:=hm0 k b n hm;exact H.free kn b n' h5
  refine⟨⟨X,_,hX,HH,λj=>?_,⟨λk e he=>?_,KK.size,KK.keep,λk b n hm=>?_,λk b n hm=>?_,KK.bs,KK.os,KK.tape,KK.output⟩,λi hi=>?_,hD⟩,λk hk2=>?_,gs,hl⟩
  ·rw[yT];split
   ·rename_i hj;subst hj;exact hrep
   ·exact .fz _ _ (.bot _)
  ·have:=F.hh k e he;rw[hK0]at this;simp at this
  ·obtain⟨_,_,n',h5⟩:=hm0 k b n hm;exact KK.own kn b n' h5
  ·have:=F.hK k b n hm;rw[hK0]at this;simp at this
  ·rw[yT]at hi
   split at hi<;>cases hi
  ·obtain⟨_,h5⟩:=hKE k _ hk2;cases h5
 generalize hce:a.eval (.tmp t)=c at h1 key
 cases h1 with
 |fz _ _ hf=>cases hf
 |dref _ _ _ _ hd _=>exact absurd hd (nd kn)
 |ref0 _ _ sz' xs' st' ad hk2 hn=>
  refine key [] (λb n hm=>by simp at hm) (.inl Z) ?_;exact .ref0 K 0 sz [] true ad (by rw[xI,yAd Z]) (yAg _)
 |ref _ _ _ sz' xs' st' b n cap hk2 hb hn hc hs=>
  rw[hk]at hk2;cases hk2;refine key [(b,0)] (λb' n' hm=>by simp at hm;obtain⟨rfl,rfl⟩:=hm;exact⟨rfl,n,hb⟩) (.inr ⟨b,rfl⟩) ?_;exact .ref K 0 0 sz [] true b 0 cap (by rw[xI,yAd Z]) zS (yAg _) hc hs
def zFy {c:Code} {Q:Exit->St->Prop} (t kn K:Nat) {sz:Nat} {xs:List AV} {st:Fl} (hK0:K0=[]) (hv:zG tm t= .ref kn 0 0) (hk:zD h kn=some (.arr sz xs st)) (hS:vZ P F m c ⟨[(t,.ref K 0 0)],[(K,.arr sz [] true)]⟩ Q):vZ P F m c ⟨tm,h⟩ Q:=
 ⟨λa w H=>hS.run a w (H.trunc t kn K hK0 hv hk)⟩
end
section
variable {P:Program} {TT:List TI} {K0:List Nat} {F:Fr K0} {m:Nat} {ops:Array Oper} {rest:List Oper} {Q:List FP->St->Prop} {tm:List (Nat×AV)} {h:List (Nat×xO)} {dr:Bool} {fs:List FP}
variable {ty:Nat} {pos:String} {after:Array Edge} {t:Nat}
def zDy (hP:uJ P TT) {T e key off len sz:Nat} {d x:Operand} {ti te:TI} {xs ys zs:List AV} {xv:AV} (hdv:yO (zG tm) d= .ref key off len) (hk:zD h key=some (.arr sz xs false)) (hx:yO (zG tm) x=xv) (hT:TT[T]? =some ti) (hd:ti.d= .slice e) (he:TT[e]? =some te)
  (hys:CI (zD h) xv=some ys) (hsz:∀y,ys[0]? =some y->y.cells.length=sz) (hss:Nat.beq sz te.size=true) (hn:ys.length<=len) (hz:xs.take off++ys++xs.drop (off+ys.length)=zs) (hm:Nat.blt t m=true)
  (hr:zZ P F m ops dr rest ⟨(t,.s (.int .i64 ys.length))::tm,(key,.arr sz zs false)::h⟩ (⟨true,[key],key::OD xv⟩::fs) Q):zZ P F m ops dr (⟨some t,.call ⟨.builtin .copy, #[d,x], #[T,T]⟩,ty,pos,after,none⟩::rest) ⟨tm,h⟩ fs Q:=by
 subst hz;exact uT (nw:=[]) (MB hP hdv hk hx hT hd he hys hsz hss hn) hm Z Z hr
def fB (hP:uJ P TT) {T e key len sz:Nat} {x l:Operand} {ti te:TI} {xs:List AV} {sl:Fl} {k:IntKind} {i:Int} (hx:yO (zG tm) x= .ref key 0 len) (hk:zD h key=some (.arr sz xs sl)) (hl:yO (zG tm) l= .s (.int k i)) (hT:TT[T]? =some ti) (hd:ti.d= .slice e) (he:TT[e]? =some te)
  (hsz:Nat.beq sz te.size=true) (h0:0<=i) (h1:i<=len) (hm:Nat.blt t m=true) (hr:zZ P F m ops dr rest ⟨(t,.ref key i.toNat (len-i.toNat))::tm,h⟩ (⟨true,[],[key]⟩::fs) Q):
  zZ P F m ops dr (⟨some t,.slice T x (some l) none none,ty,pos,after,none⟩::rest) ⟨tm,h⟩ fs Q:=by
 have:=fA (P:=P) (st:=⟨tm,h⟩) (lo:=some l) (hi:=none) (l:=i.toNat) (r:=len) hP hx hk hT hd he ⟨k,i,hl,by omega⟩ rfl (by omega) (yAg _) hsz;rw[yBv]at this;exact yJ this hm hr
def zDz (hP:uJ P TT) {T e key len sz:Nat} {x l:Operand} {ti te:TI} {xs:List AV} {sl:Fl} {k:IntKind} (hx:yO (zG tm) x= .ref key 0 len) (hk:zD h key=some (.arr sz xs sl)) (hl:yO (zG tm) l= .s (.int k 0)) (hT:TT[T]? =some ti) (hd:ti.d= .slice e) (he:TT[e]? =some te)
  (hsz:Nat.beq sz te.size=true) (hm:Nat.blt t m=true) (hr:zZ P F m ops dr rest ⟨(t,.ref key 0 0)::tm,h⟩ (⟨true,[],[key]⟩::fs) Q):
  zZ P F m ops dr (⟨some t,.slice T x none (some l) none,ty,pos,after,none⟩::rest) ⟨tm,h⟩ fs Q:=by
 have:=fA (P:=P) (st:=⟨tm,h⟩) (lo:=none) (hi:=some l) (l:=0) (r:=0) hP hx hk hT hd he Z ⟨k,0,hl,by omega⟩ (yAg _) (yAt _) hsz;exact yJ this hm hr
def zQa (hP:uJ P TT) {T I e n:Nat} {s x:Operand} {ti te tn:TI} {k0:IntKind} {nx:Int} {z:AV} (hs:yO (zG tm) s= .s (.slice none 0 0)) (hx:yO (zG tm) x= .s (.int .i64 nx)) (hT:TT[T]? =some ti) (hd:ti.d= .slice e) (he:TT[e]? =some te) (hI:TT[I]? =some tn) (hdn:tn.d= .int k0)
  (hb:Nat.ble te.bytes 65536=true) (hp:Nat.ble 1 te.size=true) (hzl:Nat.beq te.zero.length te.size=true) (hz1:te.zero.all (·.oneCell')=true) (hzc:Nat.beq (uD te).cells.length te.size=true) (hzc2:(uD te).cells=te.zero.map .s) (hz:uD te=z)
  (hnx:nx=(n:Int)) (hpos:1<=n) (hmax:n<=1073741824) (hm:Nat.blt t m=true) (hnn:(zD h t).isNone=true)
  {sz:Nat} (hse:te.size=sz) (hk:zZ P F m ops dr rest ⟨(t,.ref t 0 n)::tm,(t,.arr sz (List.replicate n z) false)::h⟩ (⟨true,[t,t],[]⟩::fs) Q):zZ P F m ops dr (⟨some t,.call ⟨.builtin .append, #[s,x], #[T,I]⟩,ty,pos,after,none⟩::rest) ⟨tm,h⟩ fs Q:=by
 subst hse hz;exact uT (nw:=[t]) (zFx hP t hs hx hT hd he hI hdn hnx hpos hmax hb hp hzl hz1 hzc hzc2) hm (zA5 hnn) Z hk
end
mutual
def MC (k L:Nat):AV->Prop
 | .ref j off len=>j=k->off=0/\len=L
 | .ptr j _ _=>j≠k
 | .agg cs| .fn _ cs| .tup cs=>gU k L cs
 |_=>True
def gU (k L:Nat):List AV->Prop
 | []=>True
 |v::r=>MC k L v/\gU k L r
end
def HZ (k L:Nat):List (Nat×AV)->Prop
 | []=>True
 |(_,v)::r=>MC k L v/\HZ k L r
def GA (k L:Nat):List (Nat×xO)->Prop
 | []=>True
 |(_,e)::r=>(match e with
  | .box cs=>gU k L cs
  | .obj cs=>True
  | .arr _ xs fl=>fl.nest=false∨gU k L xs
  | .dead=>True)/\GA k L r
theorem gU.at {k L:Nat}:∀{cs:List AV} {i:Nat} {v:AV},gU k L cs->cs[i]? =some v->MC k L v
 | [],_,_,_,h=>by simp at h
 |x::r,0,v,hk,h=>by simp at h;subst h;exact hk.1
 |x::r,i+1,v,hk,h=>gU.at hk.2 TJ
theorem HZ.at {k L:Nat}:∀{tm:List (Nat×AV)},HZ k L tm->∀t,MC k L (zG tm t)
 | [],_,t=>trivial
 |(j,v)::r,h,t=>by
  rw[yT];split
  ·exact h.1
  ·exact HZ.at h.2 t
theorem GA.at {k L:Nat}:∀{h:List (Nat×xO)} {j:Nat} {e:xO},GA k L h->zD h j=some e->match e with
  | .box cs=>gU k L cs
  | .obj cs=>True
  | .arr _ xs fl=>fl.nest=false∨gU k L xs
  | .dead=>True
 | [],_,_,_,he=>by simp[zD]at he
 |(i,e0)::r,j,e,h,he=>by
  rw[xI]at he;split at he
  ·cases he;exact h.1
  ·exact GA.at h.2 he
theorem MC.cells {k L:Nat} {x:AV} (h:MC k L x):gU k L x.cells:=by
 cases x<;>first
  |exact h
  |exact⟨h,trivial⟩
theorem zY.whole {w:World} {D D':Nat->Prop} {h h':yG} {β β':uG} (k L:Nat) (hD:∀b,D' b->D b) (hh:∀j,j≠k->h' j=h j) (hβ:∀j,j≠k->β' j=β j) (hw:∀c,zY w D h β (.ref k 0 L) c->zY w D' h' β' (.ref k 0 L) c) {v:AV} {c:Value} (hv:zY w D h β v c):MC k L v->zY w D' h' β' v c:=by
 have key:∀{off len j c},(j=k->off=0/\len=L)->zY w D h β (.ref j off len) c->(j≠k->zY w D' h' β' (.ref j off len) c)->zY w D' h' β' (.ref j off len) c:=λ{off len j c} h1 h2 h3=>by
  by_cases hj:j=k
  ·obtain⟨rfl,rfl⟩:=h1 hj;subst hj;exact hw _ h2
  ·exact h3 hj
 induction hv with
 |fz v c hf=>exact λ_=> .fz v c (hf.less hD)
 |agg cs c hl h1 hr ih=>exact λhk=> .agg cs c hl h1 λi v hv=>ih i v hv (gU.at hk hv)
 |fn f caps c hl hr ih=>exact λhk=> .fn f caps c hl λi v hv=>ih i v hv (gU.at hk hv)
 |tup vs c hl hr ih=>exact λhk=> .tup vs c hl λi v hv=>ih i v hv (gU.at hk hv)
 |dref j off len c hk' h1=>exact λhk=>key hk (.dref j off len c hk' h1) λhj=> .dref j off len c NT h1
 |dptr j i off c hk' h1=>exact λhk=> .dptr j i off c zJ0 h1
 |ref j off len sz xs st b n cap hk' hb hn hc hs=>exact λhk=>key hk (.ref j off len sz xs st b n cap hk' hb hn hc hs) λhj=> .ref j off len sz xs st b n cap NT zDs hn hc hs
 |ref0 j off sz xs st a hk' hn=>exact λhk=>key hk (.ref0 j off sz xs st a hk' hn) λhj=> .ref0 j off sz xs st a NT hn
 |pbox j off cs b n hk' hb=>exact λhk=> .pbox j off cs b n zJ0 (by rw[hβ j hk];exact hb)
 |parr j i off sz xs st b n hk' hb hi ho=>exact λhk=> .parr j i off sz xs st b n zJ0 (by rw[hβ j hk];exact hb) hi ho
section
variable {P:Program} {K0:List Nat} {F:Fr K0} {m:Nat} {tm:List (Nat×AV)} {h:List (Nat×xO)}
end
section
variable {P:Program} {TT:List TI} {K0:List Nat} {F:Fr K0} {m:Nat} {ops:Array Oper} {dr:Bool} {rest:List Oper} {fs:List FP} {Q:List FP->St->Prop} {tm:List (Nat×AV)} {h:List (Nat×xO)} {ty:Nat} {pos:String} {after:Array Edge} {t:Nat}
def dQ (k:Nat) (hP:uJ P TT) {T e len:Nat} {ps:Array (Nat×Operand)} {ti te:TI} {xs:List AV} (hT:TT[T]? =some ti) (hd:ti.d= .slice e) (he:TT[e]? =some te) (hp:Nat.ble 1 te.size=true) (hps:aS ⟨tm,h⟩ ps=(xs.zipIdx 0).map λx=>(x.2,x.1)) (hl:Nat.beq xs.length len=true)
  (hw:xs.all (λx=>Nat.beq x.cells.length te.size&&x.ok)=true) (hb:Nat.ble (len*te.size) 65536=true) (hzl:Nat.beq te.zero.length te.size=true) (hm:Nat.blt t m=true) (hnn:(zD h k).isNone=true)
  {sz:Nat} (hse:te.size=sz) (hk:zZ P F m ops dr rest ⟨(t,.ref k 0 len)::tm,(k,.arr sz xs ⟨false,true⟩)::h⟩ (⟨true,[k,k],[]⟩::fs) Q):zZ P F m ops dr (⟨some t,.buildSlice T len ps,ty,pos,after,none⟩::rest) ⟨tm,h⟩ fs Q:=by
 subst hse;exact uT (nw:=[k]) (PB hP k hT hd he hp hps hl hw hb hzl) hm (zA5 hnn) Z hk
end
structure zXo (P:Program) (st:St) (op:Op) (O:AV->List (Nat×xO)->Prop) (r nw:List Nat):Prop where
 run:∀(X:Nat->Prop) (tm:Nat->AV) (h:yG),(∀t,t∈fV op->tm t=zG st.tm t)->(∀k,k∈r->h k=zD st.h k)->(∀k,k∈nw->h k=none)->∀(o:Oper) (a:Act) (w:World) (β:uG),o.op=op->jA X h β w->(∀t,zY w (xP X β) h β (tm t) (a.eval (.tmp t)))->
  aN P (λc w'=>∃v d,O v d/\∃β',xN X w h β w' (over d h) β'/\zY w' (xP X β') (over d h) β' v c) ((execOp a.eval o).run P w)
section
variable {P:Program} {K0:List Nat} {F:Fr K0} {m:Nat} {ops:Array Oper} {rest:List Oper} {fs fs':List FP} {Q:List FP->St->Prop} {tm:List (Nat×AV)} {h:List (Nat×xO)} {op:Op} {ty:Nat} {pos:String} {after:Array Edge} {t:Nat} {r nw:List Nat} {O:AV->List (Nat×xO)->Prop}
def x_m (hs:zXo P ⟨tm,h⟩ op O r nw) (hm:Nat.blt t m=true) (hn:nw.all (λj=>(zD h j).isNone)=true) (hd:∀v d,O v d->vT d=true) (hk:∀v d,O v d->zZ P F m ops false rest ⟨(t,v)::tm,d++h⟩ fs' Q):
  zZ P F m ops false (⟨some t,op,ty,pos,after,none⟩::rest) ⟨tm,h⟩ fs Q:=⟨λa w R=>wpListIn_plain Z λK hK=>by
 obtain⟨⟨X,β,hX,HH,Ht,KK,hJ,hD⟩,nd,gs,hl⟩:=R;refine aN.wp (hs.run X (zG tm) (zD h) (λ_ _=>rfl) (λ_ _=>rfl) (λk hk=>by have:=yAu.1 hn k hk;simpa using this) ⟨some t,op,ty,pos,after,none⟩ a w β rfl HH Ht) ?_;rintro c w' ⟨v,d,hO,β',G,hc⟩;have hdd:=hd v d hO
 have nd':∀k,over d (zD h) k≠some .dead:=λk=>by
  unfold over;split
  ·rename_i e he;intro h4;cases h4;exact uV hdd he
  ·exact nd k
 refine hK _ _ ((hk v d hO).run _ _ ?_);have R':=VG.put hX HH Ht KK hJ hD gs hl G nd' hc (some t) (λj hj=>by cases hj;exact yAv hm)
 have e1:zG ((t,v)::tm)=λj=>if some t=some j then v else zG tm j:=funext λj=>by rw[yT];simp[eq_comm]
 show VG F m (zG ((t,v)::tm)) (zD (d++h)) _ _
 rw[e1,wY]
 exact R'⟩
end
section
variable {P:Program} {st:St}
end
def fW (sz:Nat):AV:= .agg (List.replicate sz .bot)
section
variable {P:Program} {TT:List TI} {st:St}
theorem zFz {X:Nat->Prop} {h:yG} {β:uG} {w:World} (HH:jA X h β w) {k len sz N:Nat} {xs:List AV} {cx:Value} (hk':h k=some (.arr sz xs ⟨false,false⟩)) (h1:zY w (xP X β) h β (.ref k 0 len) cx) (hl:1<=len) (hN:xs.length<=N) (hmx:N<=1073741824):
  ∃b cap,cx= .slice (some ⟨b,0*sz,none⟩) len cap/\(N<=cap->∃β',xN X w h β w (over [(k,.arr sz (xs++List.replicate (N-xs.length) (fW sz)) ⟨false,false⟩)] h) β'):=by
 cases h1 with
 |fz _ _ hf=>cases hf
 |dref _ _ _ _ hd _=>rw[hk']at hd;cases hd
 |ref0 _ _ sz' xs' st' b hk'' hn=>omega
 | ref _ _ _ sz' xs' st' b n cap hk'' hb hn hc hs'=>
  have h3:=hk'';rw[hk']at h3;cases h3;refine⟨b,cap,rfl,λhlt=>?_⟩;obtain⟨g1,g2,g3,g4,g5,f,g6,g7,g8⟩:=HH.ent k _ hk'
  obtain⟨rr,hbk,hnx,hr0⟩:∃rr,β k=(b,n)::rr/\n=xs.length/\∀b' n',(b',n')∈rr->n'=0:=by
   cases hbk:β k with
   |nil=>rw[hbk]at hb;simp at hb
   |cons q r=>
    obtain⟨b0,n0⟩:=q;obtain⟨e1,e2,_⟩:=g5 b0 n0 r hbk;have e2:=e2 Z;rw[hbk]at hb;simp at hb
    rcases hb with⟨rfl,rfl⟩|hm
    ·exact⟨r,rfl,e1,e2⟩
    ·have:=e2 b n hm;omega
  subst hnx;obtain⟨c,el,c1,c2,c3,c4⟩:=g8 b _ hb
  have hcs:c.size=cap*sz:=by
   have:wH w b=c.size:=by unfold wH World.shape?;rw[c1];rfl
   rw[<-this,<-hs',yBv]
  have hNs:N*sz<=c.size:=by rw[hcs];exact yA0 _ (by omega)
  have hlen:(xs++List.replicate (N-xs.length) (fW sz)).length=N:=by simp;omega
  have hat:∀(i:Nat) y,(xs++List.replicate (N-xs.length) (fW sz))[i]? =some y->(i<xs.length/\xs[i]? =some y)∨(¬i<xs.length/\i<N/\y=fW sz):=λi y hy=>by
   by_cases hi:i<xs.length
   ·rw[yA9 hi]at hy;exact .inl ⟨hi,hy⟩
   ·have hiN:i<N:=by rw[<-hlen];exact(yA5.1 hy).1
    rw[yA4 (by omega),yCb]at hy;split at hy
    ·exact .inr ⟨hi,hiN,(yCr hy).symm⟩
    ·cases hy
  have hidx:∀i j,i<N->j<sz->i*sz+j<c.size:=λi j hi hj=>by
   have:=yA0 sz (show i+1<=N by omega);rw[yBi,yCe]at this;omega
  let f':Nat->Nat->Value:=λi j=>if i<xs.length then f i j else c.getD (i*sz+j) undef
  have G:=xN.step (w':=w) HH k (.arr sz (xs++List.replicate (N-xs.length) (fW sz)) ⟨false,false⟩) ((b,N)::rr) (yAg _) (λ_ _ _=>rfl) Z Z Z
   (λb' n' hm=>by
    simp at hm
    rcases hm with⟨rfl,_⟩|hm
    ·exact .inl ⟨_,hb⟩
    ·exact .inl ⟨n',by rw[hbk];simp[hm]⟩) (λ_ _ _=>rfl)
   (λe he=>by
    rw[hk']at he;cases he;refine .inr ⟨⟨_,_,rfl,by rw[hlen];exact hN⟩,λb' n' hm=>?_⟩;rw[hbk]at hm;simp at hm
    rcases hm with⟨rfl,rfl⟩|hm
    ·exact⟨N,hN,by simp⟩
    ·exact⟨n',yAg _,by simp[hm]⟩)
   (λE=>⟨g1,by rw[hlen];unfold cA;omega,λ_=>by rw[zW];simp,λi y hy=>by
    rcases hat i y hy with⟨_,h⟩|⟨_,_,rfl⟩
    ·exact g4 i y h
    ·simp[fW,AV.cells],λb' n' r hr=>by
    rw[zW]at hr;simp at hr;obtain⟨⟨rfl,rfl⟩,rfl⟩:=hr
    exact⟨hlen.symm,λ_=>hr0,λb' n' hm=>by have:=hr0 b' n' hm;rw[hlen];omega⟩,f',λi y j v hy hv=>by
    simp only[f']
    rcases hat i y hy with⟨hi,h⟩|⟨hi,_,rfl⟩
    ·rw[yAd hi];exact⟨(g6.toV i y j v h hv).evo E,λ_=>(g6.toF Z i y j v h hv).evo E.size E.fz⟩
    ·have:v= .bot:=by
      simp only[fW,AV.cells,yCb]at hv;split at hv
      ·exact(yCr hv).symm
      ·cases hv
     subst this
     exact⟨.fz _ _ (.bot _),λ_=> .bot _⟩,λi j hi hj=>by
    rw[hlen]at hi;simp only[f'];split
    ·exact g7 i j ‹_› hj
    ·exact c4 _ (hidx i j hi hj),λb' n' hm=>by
    rw[zW]at hm;simp at hm
    rcases hm with⟨rfl,rfl⟩|hm
    ·refine⟨c,el,c1,hNs,λi j hi hj=>?_,c4⟩;simp only[f'];split
     ·exact c3 i j ‹_› hj
     ·exact kH c _ (hidx i j hi hj)
    ·obtain⟨c',el',d1,d2,_,d4⟩:=g8 b' n' (by rw[hbk];simp[hm]);have:=hr0 b' n' hm;subst this
     exact⟨c',el',d1,d2,λi j hi _=>by omega,d4⟩⟩)
  exact⟨_,G⟩
def zF0 (hP:uJ P TT) {T e:Nat} {x hi:Operand} {ti te:TI} {k len sz N:Nat} {xs:List AV} {ki:IntKind} (hx:yO (zG st.tm) x= .ref k 0 len) (hk:zD st.h k=some (.arr sz xs ⟨false,false⟩)) (hh:yO (zG st.tm) hi= .s (.int ki (N:Int))) (hT:TT[T]? =some ti) (hd:ti.d= .slice e) (he:TT[e]? =some te)
  (hl:1<=len) (hN:N<=xs.length) (hN1:1<=N) (hmx:N<=1073741824):wS P st (.slice T x none (some hi) none) (.ref k 0 N) [] [k] []:=
 yR λoo X tm h w β a ho hg hr' HH Ht=>by
  obtain⟨d0,o0,y0,p0,f0,g0⟩:=oo;dsimp only at ho;subst ho;have h1:=gA Ht hg (x:=x) uF hx;have hk':=(hr' k zS).trans hk;obtain⟨u,hu,hd'⟩:=xV (hP _ _ hT) w;obtain rfl:=vP (hd'.trans hd);have hs:=uK (hP _ _ he) w;generalize hcx:a.eval x=cx at h1
  cases h1 with
  |fz _ _ hf=>cases hf
  |dref _ _ _ _ hd _=>rw[hk']at hd;cases hd
  |ref0 _ _ sz' xs' st' b hk'' hn=>omega
  | ref _ _ _ sz' xs' st' b n cap hk'' hb hn hc hs'=>
   have h3:=hk'';rw[hk']at h3;cases h3;obtain⟨g1,g2,g3,g4,g5,f,g6,g7,g8⟩:=HH.ent k _ hk'
   have hnx:n=xs.length:=by
    cases hbk:β k with
    |nil=>rw[hbk]at hb;simp at hb
    |cons q r=>
     obtain⟨b0,n0⟩:=q;obtain⟨e1,e2,_⟩:=g5 b0 n0 r hbk;have e2:=e2 Z;rw[hbk]at hb;simp at hb
     rcases hb with⟨rfl,rfl⟩|hm
     ·exact e1
     ·have:=e2 b n hm;omega
   subst hnx;obtain⟨c,el,c1,c2,c3,c4⟩:=g8 b _ hb
   have hcs:c.size=cap*sz:=by
    have:wH w b=c.size:=by unfold wH World.shape?;rw[c1];rfl
    rw[<-this,<-hs',yBv]
   have hcN:N<=cap:=by
    have h5:N*sz<=cap*sz:=by rw[<-hcs];exact yBn (yA0 _ hN) c2
    exact yE2 h5 (by omega)
   have hbd:=gS (P:=P) Ht hg (lo:=none) (hi:=some hi) (len:=len) (cap:=cap) (l:=0) (r:=N) (λy hy=>by cases hy) (λy hy=>by cases hy;simp[Op.operands]) Z ⟨ki,N,hh,rfl⟩ (yAt _) hcN true;rw[yDo]at hbd;refine⟨_,by simp only[execOp,Instr.sliceAt,Instr.slice,Sem.run_bind,hu,Result.andThen_ok,hcx,yDo,hbd,hs,Sem.run_pure];rfl,?_⟩
   have e0:(if cap=0 then(some ⟨b,0*sz,none⟩:Option Addr)else(some ⟨b,0*sz,none⟩:Option Addr).map (·.add (0*te.size)))=some ⟨b,0*sz,none⟩:=by
    split
    ·rfl
    ·rw[Option.map_some,YA];simp
   have:=zY.ref (w:=w) (D:=xP X β) (h:=h) (β:=β) k 0 N sz xs ⟨false,false⟩ b xs.length cap hk' hb (by omega) hcN hs';rw[e0];exact this
theorem GB (hP:uJ P TT) {f:Nat} {fn:Func} {T e R:Nat} {fx x y:Operand} {ats:Array Nat} {ti te:TI} {kA kB lenA offB lenB szA szB:Nat} {xa xb:List AV} {fa fb:Fl} (hfx:yO (zG st.tm) fx= .fn f []) (hx:yO (zG st.tm) x= .ref kA 0 lenA) (hka:zD st.h kA=some (.arr szA xa fa)) (hy:yO (zG st.tm) y= .ref kB offB lenB) (hkb:zD st.h kB=some (.arr szB xb fb))
  (hne:Nat.beq kA kB=false) (hlb:1<=lenB) (hla:1<=lenA) (hT:TT[T]? =some ti) (hd:ti.d= .slice e) (he:TT[e]? =some te) (hsb:1<=szB)
  (hf:P.funcs[f]? =some fn) (hname:(fn.name== "runtime.NumGoroutine")=false) (hb:fn.body.isNone=true) (hn:Extern.findNext fn=none) (hE:Extern.find fn=some (Extern.SlicesOverlaps.overlaps #[T,T] #[R])):
  wS P st (.call ⟨.value fx, #[x,y],ats⟩) (.s (.bool false)) [] [kA,kB] []:=
 yR λoo X tm h w β a ho hg hr HH Ht=>by
  obtain⟨d0,o0,y0,p0,f0,g0⟩:=oo;dsimp only at ho;subst ho;have h1:=gA Ht hg (x:=x) qX hx;have h2:=gA Ht hg (x:=y) qX hy;have h3:=gA Ht hg (x:=fx) qX hfx;have hka':=(hr kA zS).trans hka;have hkb':=(hr kB zS).trans hkb;have hkk:kA≠kB:=λe=>by subst e;simp at hne
  obtain⟨u,hu,hd'⟩:=xV (hP _ _ hT) w;obtain⟨i,z,hu',hi,hz,e1,e2,e3⟩:=wU hP hT hd he
  have hfe:a.eval fx= .func (.func f) #[] #[]:=by
   generalize a.eval fx=cx at h3
   cases h3 with
   |fz _ _ hf=>cases hf
   |fn _ _ c hl hh=>
    have:c= #[]:=Array.eq_empty_of_size_eq_zero DV;rw[this]
  have shp:∀{k off len sz xs fl c},h k=some (.arr sz xs fl)->1<=len->zY w (xP X β) h β (.ref k off len) c->∃b n cap cc el,c= .slice (some ⟨b,off*sz,none⟩) len cap/\(b,n)∈β k/\off+len<=n/\w.heap[b]? =some (.cells cc el (0,0))/\n*sz<=cc.size/\1<=sz:=λ{k off len sz xs fl c} hk hl hv=>by
   cases hv with
   |fz _ _ hf=>cases hf
   |dref _ _ _ _ hd _=>rw[hk]at hd;cases hd
   |ref0 _ _ _ _ _ _ _ _=>omega
   |ref _ _ _ sz' xs' st' b n cap hk'' hb hn hc hs'=>
    rw[hk]at hk'';cases hk'';obtain⟨g1,_,_,_,_,f,_,_,g8⟩:=HH.ent k _ hk;obtain⟨cc,el,c1,c2,_⟩:=g8 b n hb;exact⟨b,n,cap,cc,el,rfl,hb,hn,c1,c2,g1⟩
  obtain⟨ba,na,ca,cca,ela,q1,q2,q3,q4,q5,q6⟩:=shp hka' hla h1;obtain⟨bb,nb,cb,ccb,elb,r1,r2,r3,r4,r5,r6⟩:=shp hkb' hlb h2;have hbb:ba≠bb:=λe=>hkk (HH.disj kA kB ba na nb q2 (by rw[e];exact r2))
  have hsa:w.shape? ba=some (ela,cca.size):=by unfold World.shape?;rw[q4]
  have hsb':w.shape? bb=some (elb,ccb.size):=by unfold World.shape?;rw[r4]
  have hkB:ccb.size≠0:=by
   have:=yA0 szB (show 1<=nb by omega);omega
  have hfr:∀o,w.frozen? ⟨ba,o,none⟩=false:=λo=>by simp[World.frozen?,q4]
  have hrun:=run_callFunc_extern hf hname hb hn hE #[a.eval x,a.eval y] w;rw[q1,r1,Lib.run_overlaps_apart w T R e hu' te.size (λw=>uK (hP _ _ he) w) ⟨ba,0*szA,none⟩ ⟨bb,offB*szB,none⟩ lenA ca lenB cb hbb ela elb cca.size ccb.size hsa hsb' hkB (hfr _) (hfr _)]at hrun;exact⟨_,by simp only[execOp,resolve,hfe,Deferred.ofValue,invoke];simpa [q1,r1]using hrun,.fz _ _ (.s _)⟩
theorem KX {X:Nat->Prop} {h:yG} {β:uG} {w:World} (HH:jA X h β w) {kn:Nat} (hkn:h kn=none) {ys vs:List AV} {sz e gc:Nat} {olds news:List Value} {zc:Array Value} (f g:Nat->Nat->Value) (hp:1<=sz) (hlo:olds.length=ys.length*sz) (ho:∀i j,i<ys.length->j<sz->olds[i*sz+j]? =some (f i j)) (ho1:∀u∈olds,u.oneCell'=true)
  (hln:news.length=vs.length*sz) (hn:∀i j,i<vs.length->j<sz->news[i*sz+j]? =some (g i j)) (hn1:∀u∈news,u.oneCell'=true) (hwy:∀(i:Nat) (y:AV),ys[i]? =some y->y.cells.length=sz) (hwv:∀(i:Nat) (y:AV),vs[i]? =some y->y.cells.length=sz)
  (h1f:∀i j,i<ys.length->j<sz->(f i j).oneCell'=true) (h1g:∀i j,i<vs.length->j<sz->(g i j).oneCell'=true) (hrf:∀(i:Nat) (y:AV) (j:Nat) v,ys[i]? =some y->y.cells[j]? =some v->xH w (xP X β) v (f i j)) (hrg:∀(i:Nat) (y:AV) (j:Nat) v,vs[i]? =some y->y.cells[j]? =some v->xH w (xP X β) v (g i j))
  (hz1:∀v∈zc.toList,v.oneCell'=true) (hzs:zc.size=sz) (hge:ys.length+vs.length<=gc) (hmx:ys.length+vs.length<=cA):
  ∃β',xN X w h β (w.drew.alloc (.cells (olds.toArray++news.toArray++Builtin.zeroCells zc (gc-(ys.length+vs.length))) e)) (over [(kn,.arr sz (ys++vs) false)] h) β'/\
   zY (w.drew.alloc (.cells (olds.toArray++news.toArray++Builtin.zeroCells zc (gc-(ys.length+vs.length))) e)) (xP X β') (over [(kn,.arr sz (ys++vs) false)] h) β' (.ref kn 0 (ys++vs).length) (.slice (some ⟨w.heap.size,0,none⟩) (ys.length+vs.length) gc):=by
 have HD:=HH.drew (w.drawn+1);have hlen:(ys++vs).length=ys.length+vs.length:=by simp
 have hat:∀(i:Nat) y,(ys++vs)[i]? =some y->(i<ys.length/\ys[i]? =some y)∨(¬i<ys.length/\vs[i-ys.length]? =some y):=λi y hy=>by
  by_cases hi:i<ys.length
  ·rw[yA9 hi]at hy;exact .inl ⟨hi,hy⟩
  ·rw[yA4 (by omega)]at hy;exact .inr ⟨hi,hy⟩
 have evo:∀{v c},xH w (xP X β) v c->xH w.drew (xP X β) v c:=λhf=>xH.evo (w:=w) (w':=w.drew) (yAg _) (λ_ _ hd=>⟨rfl,hd⟩) hf
 have:=xN.newArr (w:=w.drew) HD hkn (olds.toArray++news.toArray++Builtin.zeroCells zc (gc-(ys.length+vs.length))) e sz (ys++vs) gc (λi j=>if i<ys.length then f i j else g (i-ys.length) j) hp (by rw[hlen];exact hmx) (by rw[hlen];exact hge) (by
   simp only[yFh,yDf,size_zeroCells,hzs,hlo,hln,<-yBi]
   congr 1;omega) (qD.get (((qD.arr ho1).app (qD.arr hn1)).app (qD.zero hz1 _))) (λi y hy=>by
   rcases hat i y hy with⟨_,h⟩|⟨_,h⟩
   ·exact hwy i y h
   ·exact hwv _ y h) (λi j hi hj=>by
   rw[hlen]at hi
   have hlt:i*sz+j<(ys.length+vs.length)*sz:=by
    have:=yA0 sz (show i+1<=ys.length+vs.length by omega);rw[yBi,yCe]at this;omega
   rw[yBi]at hlt;rw[yCi (by simp[hlo,hln];omega)];split
   ·rename_i hi'
    have hlt':i*sz+j<ys.length*sz:=by
     have:=yA0 sz (show i+1<=ys.length by omega);rw[yBi,yCe]at this;omega
    rw[yCi (by simp[hlo];omega)];simpa using ho i j hi' hj
   ·rename_i hi';have hge':ys.length*sz<=i*sz:=yA0 _ (by omega);have e4:i*sz+j-ys.length*sz=(i-ys.length)*sz+j:=by rw[yFj];omega
    rw[yEd (by simp[hlo];omega)];simp only[yDf,hlo,e4,yDb]
    exact hn _ _ (by omega) hj) (λi j hi hj=>by
   rw[hlen]at hi;split
   ·exact h1f i j ‹_› hj
   ·exact h1g _ j (by omega) hj) (λi y j v hy hv=>by
   rcases hat i y hy with⟨hi,h⟩|⟨hi,h⟩
   ·rw[yAd hi];exact evo (hrf i y j v h hv)
   ·rw[yAc hi];exact evo (hrg _ y j v h hv))
 obtain⟨β',G,hv⟩:=this;refine⟨β',xN.trans HH (xN.drew HH (w.drawn+1)) G,?_⟩;rw[hlen]at hv⊢;exact hv
def zJ9 (hP:uJ P TT) {T e c:Nat} {x:Operand} {ti:TI} {xs:List AV} (hx:yO (zG st.tm) x= .slc c xs) (hT:TT[T]? =some ti) (hd:ti.d= .slice e):wS P st (.call ⟨.builtin .cap, #[x], #[T]⟩) (.s (.int .i64 (c:Int))) [] [] []:=
 yR λoo X tm h w β a ho hg hr HH Ht=>by
  obtain⟨d0,o0,y0,p0,f0,g0⟩:=oo;dsimp only at ho;subst ho;have h1:=gA Ht hg (x:=x) qX hx;obtain⟨u,hu,hd'⟩:=xV (hP _ _ hT) w;obtain rfl:=vP (hd'.trans hd);generalize hcx:a.eval x=cx at h1
  cases h1 with
  | fz _ _ hf=>
   cases hf with
   |slc _ _ b o sz f hL hc hh=>
    exact⟨_,by simp[execOp,resolve,invoke,builtin,Builtin.cap_,hcx,hu,goInt],.fz _ _ (.s _)⟩
def CN (hP:uJ P TT) {T e c:Nat} {x:Operand} {ti:TI} {xs:List AV} (hx:yO (zG st.tm) x= .slc c xs) (hT:TT[T]? =some ti) (hd:ti.d= .slice e):wS P st (.call ⟨.builtin .len, #[x], #[T]⟩) (.s (.int .i64 (xs.length:Int))) [] [] []:=
 yR λoo X tm h w β a ho hg hr HH Ht=>by
  obtain⟨d0,o0,y0,p0,f0,g0⟩:=oo;dsimp only at ho;subst ho;have h1:=gA Ht hg (x:=x) qX hx;obtain⟨u,hu,hd'⟩:=xV (hP _ _ hT) w;obtain rfl:=vP (hd'.trans hd);generalize hcx:a.eval x=cx at h1
  cases h1 with
  | fz _ _ hf=>
   cases hf with
   |slc _ _ b o sz f hL hc hh=>
    exact⟨_,by simp[execOp,resolve,invoke,builtin,Builtin.len_,hcx,hu,goInt],.fz _ _ (.s _)⟩
def zKa (hP:uJ P TT) {T e c r:Nat} {x hi:Operand} {ti te:TI} {ki:IntKind} {xs:List AV} (hx:yO (zG st.tm) x= .slc c xs) (hh:yO (zG st.tm) hi= .s (.int ki (r:Int))) (hT:TT[T]? =some ti) (hd:ti.d= .slice e) (he:TT[e]? =some te) (hr:r<=xs.length):
  wS P st (.slice T x none (some hi) none) (.slc c (xs.take r)) [] [] []:=
 yR λoo X tm h w β a ho hg hr' HH Ht=>by
  obtain⟨d0,o0,y0,p0,f0,g0⟩:=oo;dsimp only at ho;subst ho;have h1:=gA Ht hg (x:=x) uF hx;obtain⟨u,hu,hd'⟩:=xV (hP _ _ hT) w;obtain rfl:=vP (hd'.trans hd);have hs:=uK (hP _ _ he) w;generalize hcx:a.eval x=cx at h1
  cases h1 with
  | fz _ _ hf=>
   cases hf with
   | slc _ _ b o sz f hL hc hh2=>
    have hbd:=gS (P:=P) Ht hg (lo:=none) (hi:=some hi) (len:=xs.length) (cap:=c) (l:=0) (r:=r) (λy hy=>by cases hy) (λy hy=>by cases hy;simp[Op.operands]) Z ⟨ki,r,hh,rfl⟩ (yAt _) (yBn hr hc) true;rw[yDo]at hbd;have hlt:(xs.take r).length=r:=by simp;omega
    have hat:∀(i:Nat) y,(xs.take r)[i]? =some y->xs[i]? =some y:=λi y hy=>by
     rw[yBr]at hy;split at hy
     ·exact hy
     ·cases hy
    refine⟨_,by simp only[execOp,Instr.sliceAt,Instr.slice,Sem.run_bind,hu,Result.andThen_ok,hcx,yDo,hbd,hs,Sem.run_pure];rfl,.fz _ _ ?_⟩
    have e0:(if c=0 then(some ⟨b,o,none⟩:Option Addr)else(some ⟨b,o,none⟩:Option Addr).map (·.add (0*te.size)))=some ⟨b,o,none⟩:=by
     split
     ·rfl
     ·rw[Option.map_some,YA];simp
    have:=xH.slc (w:=w) (D:=xP X β) c (xs.take r) b o sz f ⟨hL.lt,hL.nd,hL.pos,by rw[hlt];exact yBn hr hL.max,λi y hy=>hL.wide i y (hat i y hy),λi j hi hj=>hL.cell i j (by omega) hj,λi j hi hj=>hL.one i j (by omega) hj⟩ (by rw[hlt];exact yBn hr hc) (λi y j v hy hv=>hh2 i y j v (hat i y hy) hv);rw[hlt]at this;rw[yFf,yFf,e0];exact this
theorem zKb (hP:uJ P TT) {T I e c n:Nat} {s x:Operand} {ti te tn:TI} {k0:IntKind} {nx:Int} {ys:List AV} (kn:Nat) (hs:yO (zG st.tm) s= .slc c ys) (hx:yO (zG st.tm) x= .s (.int .i64 nx)) (hT:TT[T]? =some ti) (hd:ti.d= .slice e) (he:TT[e]? =some te) (hI:TT[I]? =some tn) (hdn:tn.d= .int k0)
  (hb:Nat.ble te.bytes 65536=true) (hp:Nat.ble 1 te.size=true) (hzl:Nat.beq te.zero.length te.size=true) (hz1:te.zero.all (·.oneCell')=true) (hzc:Nat.beq (uD te).cells.length te.size=true) (hzc2:(uD te).cells=te.zero.map .s)
  (hnx:nx=(n:Int)) (hpos:1<=n) (hmax:ys.length+n<=1073741824) (hc:c<ys.length+n) (hw0:∀(i:Nat) (y:AV),ys[i]? =some y->y.cells.length=te.size):
  wS P st (.call ⟨.builtin .append, #[s,x], #[T,I]⟩) (.ref kn 0 (ys++List.replicate n (uD te)).length) [(kn,.arr te.size (ys++List.replicate n (uD te)) false)] [] [kn]:=by
 refine⟨?_⟩;intro X tm h hg _ hn o a w β ho HH Ht;obtain⟨d0,o0,y0,p0,f0,g0⟩:=o;dsimp only at ho;subst ho;have h1:=gA Ht hg (x:=s) qX hs;have h2:=vO Ht hg (x:=x) qX hx;have hp:=yAv hp;have hb:=yAv hb;have hzl:=yBd hzl;have hzc:=yBd hzc;subst hnx;obtain⟨i,z,hu,hi,hz,e1,e2,e3⟩:=wU hP hT hd he;obtain⟨_,u2,_,_,hu2,_,hd2,_⟩:=uC (hP _ _ hI);obtain rfl:=HM (hd2.symm.trans hdn);generalize hcx:a.eval s=cx at h1
 cases h1 with
 | fz _ _ hf=>
  cases hf with
  | slc _ _ b o sz f hL hcc hh=>
   have hzs:z.cells.size=te.size:=by rw[<-hzl,<-e3];simp
   have hS:Src w (xP X β) h β false ys te.size b o f:=⟨hw0,λi j hi hj=>by
    have:sz=te.size:=by
     have h4:=hL.wide i ys[i] TK;have h5:=hw0 i ys[i] TK;omega
    subst this;exact hL.cell i j hi hj,λi j hi hj=>by
    have:sz=te.size:=by
     have h4:=hL.wide i ys[i] TK;have h5:=hw0 i ys[i] TK;omega
    subst this;exact hL.one i j hi hj,.ofF hh⟩
   obtain⟨hf1,hf2⟩:=hS.flat hp
   have hbytes:(ys.length+n)*i.bytes<=140737488355328:=by
    have:=yDn hmax (show i.bytes<=65536 by omega);omega
   have hfit:=growslice_fits (need:=ys.length+n) (old:=c) (bytes:=i.bytes) hc hbytes;have hw:IntKind.i64.wrap (n:Int)=(n:Int):=kG ⟨by show(-9223372036854775808:Int)<=_;omega,by show _<=(9223372036854775807:Int);omega⟩
   have hs0:n*i.size≠0:=by
    have:1*1<=n*i.size:=yDn hpos (by omega);omega
   have h48:¬(281474976710656<(n:Int)*(i.bytes:Int)):=by
    have h3:(n:Int)*(i.bytes:Int)=((n*i.bytes:Nat):Int):=by simp
    have h4:n*i.bytes<=(ys.length+n)*i.bytes:=yA0 _ (by omega);rw[h3];omega
   have h48':¬(281474976710656<Builtin.nextslicecap (ys.length+n) c*i.bytes):=by omega
   have h63:¬(9223372036854775807<((ys.length:Int)+(n:Int))):=by omega
   have hroom:¬(ys.length+n<=c):=by omega
   have hneg:¬((n:Int)<0):=by omega
   have hfo:=run_firstCells_some (P:=P) w.drew i.size ys.length ⟨b,o,none⟩ ys.length c (flat f ys.length i.size) (zP _ _ _) (by rw[e1];simpa using hf1)
   have hrun:(Builtin.append_ #[T,I] y0 #[.slice (some ⟨b,o,none⟩) ys.length c,.int .i64 (n:Int)]).run P w= .ok (.slice (some ⟨w.heap.size,0,none⟩) (ys.length+n) (grownCap w (ys.length+n) c e)) (w.drew.alloc (.cells ((flat f ys.length i.size).toArray++(Builtin.zeroCells z.cells n).toList.toArray++Builtin.zeroCells z.cells (grownCap w (ys.length+n) c e-(ys.length+n))) e)):=by
    have ha:(asIntOf (.int .i64 (n:Int))).run P w= .ok (.i64,(n:Int)) w:=rfl;simp[Builtin.append_,run_underlying hu,run_underlying hu2,sizeOf,typeInfo,zeroValue,hi,hz,asInt,ha,hw,hneg,h48,hs0,h63,h48',hroom,Question.forced,hfo,newRow,grownCap]
   generalize hW:w.drew.alloc (.cells ((flat f ys.length i.size).toArray++(Builtin.zeroCells z.cells n).toList.toArray++Builtin.zeroCells z.cells (grownCap w (ys.length+n) c e-(ys.length+n))) e)=W at hrun
   have hex:(execOp a.eval ⟨d0,.call ⟨.builtin .append, #[s,x], #[T,I]⟩,y0,p0,f0,g0⟩).run P w= .ok (.value (.slice (some ⟨w.heap.size,0,none⟩) (ys.length+n) (grownCap w (ys.length+n) c e))) W:=by
    simp[execOp,resolve,invoke,builtin,hcx,h2,hrun]
   rw[hex];have hge:=grownCap_ge w (ys.length+n) c e;have hrl:(List.replicate n (uD te)).length=n:=by simp
   have hat:∀(j:Nat) v,(List.replicate n (uD te))[j]? =some v->v=uD te:=λj v hv=>by
    rw[yCb]at hv;split at hv
    ·exact(yCr hv).symm
    ·cases hv
   have hzat:∀j,j<te.size->∃v,te.zero[j]? =some v/\z.cells.getD j undef=v:=λj hj=>by
    have:=kH z.cells j (by omega);refine⟨_,?_,rfl⟩;rw[<-e3];simpa using this
   have hz1':∀v∈z.cells.toList,v.oneCell'=true:=λv hv=>yAu.1 hz1 v NU
   have:=KX (X:=X) (kn:=kn) (e:=e) (gc:=grownCap w (ys.length+n) c e) HH (hn kn zS) (ys:=ys) (vs:=List.replicate n (uD te)) (sz:=te.size) (olds:=flat f ys.length i.size) (news:=(Builtin.zeroCells z.cells n).toList) (zc:=z.cells) f (λ_ j=>z.cells.getD j undef) hp
    (by rw[zP,e1]) (λi' j hi' hj=>by rw[e1];exact qM f hi' hj) (by rw[e1];exact hf2) (by rw[hrl,yDc,size_zeroCells,hzs]) (λi' j hi' hj=>by
     rw[hrl]at hi'
     have hlt:i'*te.size+j<n*te.size:=by
      have:=yA0 te.size (show i'+1<=n by omega);rw[yBi,yCe]at this;omega
     have hm':(i'*te.size+j) % te.size=j:=by rw[yE0,yE8];exact yC6 hj
     rw[Array.getElem?_toList];simp only[Builtin.zeroCells,yFw,yFp,hzs,hlt,yF4,Option.map_some,hm']
     congr 1
     have hj':j<z.cells.size:=by omega
     simp[yBh,hj']) (λu hu=>qD.zero hz1' n u hu) hS.wide (λi' y hy=>by rw[hat i' y hy];exact hzc) hS.one (λi' j _ hj=>by
     obtain⟨v,hv,hv'⟩:=hzat j hj;rw[hv']
     exact yAu.1 hz1 v (yBp hv)) (λi' y j v hy hv=>hS.rep.toF Z i' y j v hy hv) (λi' v j u hv hu=>by
     rw[hat i' v hv,hzc2]at hu;rw[yAi,yAq]at hu;obtain⟨q,hq,rfl⟩:=hu;have hj:j<te.size:=by rw[<-hzl];exact(yA5.1 hq).1
     obtain⟨v',hv1,hv2⟩:=hzat j hj;rw[hq]at hv1;cases hv1;rw[hv2]
     exact .s _) hz1' hzs (by rw[hrl];exact hge) (by rw[hrl];unfold cA;omega)
   rw[hrl,hW]at this;exact this
theorem zF1 (hP:uJ P TT) {T e c:Nat} {s x:Operand} {ti te:TI} {ys vs:List AV} {xv:AV} (kn:Nat) (hs:yO (zG st.tm) s= .slc c ys) (hx:yO (zG st.tm) x=xv) (hT:TT[T]? =some ti) (hd:ti.d= .slice e) (he:TT[e]? =some te) (hvs:CI (zD st.h) xv=some vs)
  (hb:Nat.ble te.bytes 65536=true) (hp:Nat.ble 1 te.size=true) (hzl:Nat.beq te.zero.length te.size=true) (hz1:te.zero.all (·.oneCell')=true)
  (hsz:∀y,vs[0]? =some y->y.cells.length=te.size) (hpos:1<=vs.length) (hmax:ys.length+vs.length<=1073741824) (hc:c<ys.length+vs.length) (hw0:∀(i:Nat) (y:AV),ys[i]? =some y->y.cells.length=te.size):
  wS P st (.call ⟨.builtin .append, #[s,x], #[T,T]⟩) (.ref kn 0 (ys++vs).length) [(kn,.arr te.size (ys++vs) false)] (OD xv) [kn]:=by
 refine⟨?_⟩;intro X tm h hg hr hn o a w β ho HH Ht;obtain⟨d0,o0,y0,p0,f0,g0⟩:=o;dsimp only at ho;subst ho;have h1:=gA Ht hg (x:=s) qX hs;have h2:=gA Ht hg (x:=x) qX hx;have hp:=yAv hp;have hb:=yAv hb;have hzl:=yBd hzl;obtain⟨i,z,hu,hi,hz,e1,e2,e3⟩:=wU hP hT hd he;obtain⟨ad,cap,hcv,_,hmx,hsrc⟩:=cP HH h2 ((gT hr).trans hvs) hsz;obtain⟨b2,q,g,rfl,hS2⟩:=hsrc (λh0=>by rw[h0]at hpos;simp at hpos);obtain⟨hg1,hg2⟩:=hS2.flat hp;generalize hcx:a.eval s=cx at h1
 cases h1 with
 | fz _ _ hf=>
  cases hf with
  | slc _ _ b o sz f hL hcc hh=>
   have hzs:z.cells.size=te.size:=by rw[<-hzl,<-e3];simp
   have hS:Src w (xP X β) h β false ys te.size b o f:=⟨hw0,λi j hi hj=>by
    have:sz=te.size:=by
     have h4:=hL.wide i ys[i] TK;have h5:=hw0 i ys[i] TK;omega
    subst this;exact hL.cell i j hi hj,λi j hi hj=>by
    have:sz=te.size:=by
     have h4:=hL.wide i ys[i] TK;have h5:=hw0 i ys[i] TK;omega
    subst this;exact hL.one i j hi hj,.ofF hh⟩
   obtain⟨hf1,hf2⟩:=hS.flat hp
   have hbytes:(ys.length+vs.length)*i.bytes<=140737488355328:=by
    have:=yDn hmax (show i.bytes<=65536 by omega);omega
   have hrun:=run_append_grow (P:=P) w T y0 e i z hu hi hz ⟨b,o,none⟩ ys.length c (flat f ys.length te.size) (by rw[zP,e1]) hf1 ⟨b2,q,none⟩ vs.length cap (flat g vs.length te.size) (by rw[zP,e1]) hg1 hc (by omega) (growslice_fits hc hbytes);generalize hW:w.drew.alloc (.cells ((flat f ys.length te.size).toArray++(flat g vs.length te.size).toArray++Builtin.zeroCells z.cells (grownCap w (ys.length+vs.length) c e-(ys.length+vs.length))) e)=W at hrun
   have hex:(execOp a.eval ⟨d0,.call ⟨.builtin .append, #[s,x], #[T,T]⟩,y0,p0,f0,g0⟩).run P w= .ok (.value (.slice (some ⟨w.heap.size,0,none⟩) (ys.length+vs.length) (grownCap w (ys.length+vs.length) c e))) W:=by
    simp[execOp,resolve,invoke,builtin,hcx,hcv,hrun]
   rw[hex];have hge:=grownCap_ge w (ys.length+vs.length) c e
   have:=KX (X:=X) (kn:=kn) (e:=e) (gc:=grownCap w (ys.length+vs.length) c e) HH (hn kn zS) (ys:=ys) (vs:=vs) (sz:=te.size) (olds:=flat f ys.length te.size) (news:=flat g vs.length te.size) (zc:=z.cells) f g hp
    (zP _ _ _) (λi' j hi' hj=>qM f hi' hj) hf2 (zP _ _ _) (λi' j hi' hj=>qM g hi' hj) hg2 hS.wide hS2.wide hS.one hS2.one (hS.rep.toF Z) (hS2.rep.toF Z) (λv hv=>yAu.1 hz1 v NU) hzs hge (by unfold cA;omega)
   rw[hW]at this;exact this
theorem zF2 (hP : uJ P TT) {T e k len sz :Nat} {s x:Operand} {ti te:TI} {xs vs:List AV} {xv:AV} (hs:yO (zG st.tm) s= .ref k 0 len) (hk:zD st.h k=some (.arr sz xs ⟨false,false⟩)) (hx:yO (zG st.tm) x=xv) (hT:TT[T]? =some ti) (hd:ti.d= .slice e) (he:TT[e]? =some te) (hvs:CI (zD st.h) xv=some vs)
    (hss:Nat.beq sz te.size=true) (hsz:∀y,vs[0]? =some y->y.cells.length=sz) (hpos:1<=vs.length) (hl:1<=len) (hroom:len+vs.length<=xs.length) (hmax:xs.length<=1073741824):
    wS P st (.call ⟨.builtin .append, #[s,x], #[T,T]⟩) (.ref k 0 (len+vs.length)) [(k,.arr sz (xs.take len++vs++xs.drop (len+vs.length)) ⟨false,false⟩)] (k::OD xv) []:=by
  refine⟨?_⟩;intro X tm h hg hr _ o a w β ho HH Ht;obtain⟨d0,o0,y0,p0,f0,g0⟩:=o;dsimp only at ho;subst ho;have hk':=(hr k zS).trans hk;have h1:=gA Ht hg (x:=s) qX hs;have h2:=gA Ht hg (x:=x) qX hx;have hss:=yBd hss;obtain⟨i,z,hu,hi,hz,e1,e2,e3⟩:=wU hP hT hd he;obtain⟨g1,g2,g3,g4,g5,f,g6,g7,g8⟩:=HH.ent k _ hk';obtain⟨ad,cap,hcv,_,hmx,hsrc⟩:=cP HH h2 ((gT λk' hk=>hr k' (by simp[hk])).trans hvs) hsz;obtain⟨b2,q,fy,rfl,hS⟩:=hsrc (λh0=>by rw[h0]at hpos;simp at hpos);obtain⟨hf1,hf2⟩:=hS.flat g1;generalize hcx:a.eval s=cx at h1
  cases h1 with
  |fz _ _ hf=>cases hf
  |dref _ _ _ _ hd _=>rw[hk']at hd;cases hd
  |ref0 _ _ sz' xs' st' b hk'' hn=>omega
  | ref _ _ _ sz' xs' st' b n cp hk'' hbm hn hc hs'=>
    have h3:=hk'';rw[hk']at h3;cases h3
    obtain⟨rr,hbk,hnx,hr0⟩:∃rr,β k=(b,n)::rr/\n=xs.length/\∀b' n',(b',n')∈rr->n'=0:=by
      cases hbk:β k with
      |nil=>rw[hbk]at hbm;simp at hbm
      | cons q r=>
        obtain⟨b0,n0⟩:=q;obtain⟨e1,e2,_⟩:=g5 b0 n0 r hbk;have e2:=e2 Z;rw[hbk]at hbm;simp at hbm
        rcases hbm with⟨rfl,rfl⟩|hm
        · exact⟨r,rfl,e1,e2⟩
        · have:=e2 b n hm;omega
    subst hnx;obtain⟨cur,el,c1,c2,c3,c4⟩:=g8 b _ hbm
    have hcs:cur.size=cp*sz:=by
      have:wH w b=cur.size:=by unfold wH World.shape?;rw[c1];rfl
      rw[<-this,<-hs',yBv]
    have hcN:xs.length<=cp:=by
      have h5:xs.length*sz<=cp*sz:=by rw[<-hcs];exact c2
      exact yE2 h5 (by omega)
    have hfit:(len+vs.length)*sz<=cur.size:=yBn (yA0 _ hroom) c2
    have hrun:=cV hP hT hd he w y0 b 0 len cp cur el c1 ⟨b2,q,none⟩ vs.length cap (flat fy vs.length sz) (by rw[zP,hss]) hf1 hf2 (by omega) (by
      rw[zP,<-hss,yBv,<-yBi];exact hfit)
    have hb0:0*sz=0:=yEe _;generalize hcur':(cur.toList.take (0+len*te.size)++flat fy vs.length sz++cur.toList.drop (0+len*te.size+(flat fy vs.length sz).length)).toArray=cur' at hrun
    have hex:(execOp a.eval ⟨d0,.call ⟨.builtin .append, #[s,x], #[T,T]⟩,y0,p0,f0,g0⟩).run P w= .ok (.value (.slice (some ⟨b,0,none⟩) (len+vs.length) cp)) (w.setRow b cur'):=by
      simp[execOp,resolve,invoke,builtin,hcx,hcv,hrun]
    rw[hex];rw[yBi]at hfit;rw[yBv,<-hss]at hcur'
    have hsz':cur'.size=cur.size:=by
      rw[<-hcur'];simp only[yDf,yAf,yAw,yA7,yDc,zP];omega
    have hone2:∀q,q<cur'.size->(cur'.getD q undef).oneCell'=true:=by
      rw[<-hcur'];refine qD.get (qD.arr λv hv=>?_);have hc4:=qD.of c4
      rcases yAz.1 hv with hv|hv
      · rcases yAz.1 hv with hv|hv
        · exact hc4 v (yBy hv)
        · exact hf2 v hv
      · exact hc4 v (yBc hv)
    let f':Nat->Nat->Value:=λi j=>if len<=i/\i<len+vs.length then fy (i-len) j else f i j
    have hlen:(xs.take len++vs++xs.drop (len+vs.length)).length=xs.length:=by
      simp only[yAf,yAw,yA7];omega
    have hat:∀(i:Nat) y,(xs.take len++vs++xs.drop (len+vs.length))[i]? =some y->(len<=i/\i<len+vs.length/\vs[i-len]? =some y)∨(¬(len<=i/\i<len+vs.length)/\xs[i]? =some y):=λi y hy=>by
      have ht:(xs.take len).length=len:=by simp;omega
      by_cases h5:i<len
      · rw[yA6,yA9 (by omega),yBr,yAd h5]at hy;exact .inr ⟨by omega,hy⟩
      · by_cases h6:i<len+vs.length
        · rw[yA6,yA4 (by omega),ht,yA9 (by omega)]at hy;exact .inl ⟨by omega,h6,hy⟩
        · rw[yA4 wF]at hy;simp only[yAf,ht]at hy;rw[yB3,show len+vs.length+(i-(len+vs.length))=i by omega]at hy;exact .inr ⟨by omega,hy⟩
    have hcell:∀i j,i<xs.length->j<sz->cur'[i*sz+j]? =some (f' i j):=λi j hi hj=>by
      rw[<-hcur'];simp only[f',yDb];by_cases h5:i<len
      · have hlt:i*sz+j<len*sz:=by
          have:=yA0 sz (show i+1<=len by omega);rw[yBi,yCe]at this;omega
        rw[yAc (by omega),yA6,yA9 wF,yBr,yAd hlt];simpa using c3 i j hi hj
      · have ht:(List.take (len*sz) cur.toList).length=len*sz:=by simp;omega
        have hge:len*sz<=i*sz:=yA0 _ (by omega);by_cases h6:i<len+vs.length
        · have e4:i*sz+j-len*sz=(i-len)*sz+j:=by rw[yFj];omega
          have hlt:(i-len)*sz+j<vs.length*sz:=by
            have:=yA0 sz (show(i-len)+1<=vs.length by omega);rw[yBi,yCe]at this;omega
          rw[yAd (by omega),yA6,yA4 (by rw[ht];omega),ht,yA9 (by rw[zP];omega),e4];exact qM fy (by omega) hj
        · have hge2:(len+vs.length)*sz<=i*sz:=yA0 _ (by omega);rw[yBi]at hge2;rw[yAc (by omega),yA4 (by simp only[yAf,ht,zP];omega),yB3];simp only[yAf,ht,zP];rw[show len*sz+vs.length*sz+(i*sz+j-(len*sz+vs.length*sz))=i*sz+j by omega];simpa using c3 i j hi hj
    have G:=xN.step (w':=w.setRow b cur') HH k (.arr sz (xs.take len++vs++xs.drop (len+vs.length)) ⟨false,false⟩) (β k) zS (λj hj hn=>setRow_other w b j cur' (λe=>hn xs.length DY)) Z Z Z (λb n hm=> .inl ⟨n,hm⟩) (λb n _=>uZ c1 hsz' b)
      (λe he=>by rw[hk']at he;cases he;exact .inr ⟨⟨_,_,rfl,by rw[hlen];exact yAg _⟩,λ_ n hm=>⟨n,yAg _,hm⟩⟩) λE=>⟨g1,by rw[hlen];exact g2,λ_=>by rw[zW,hbk];simp,λi' x' hx'=>by
        rcases hat i' x' hx' with⟨_,_,h⟩|⟨_,h⟩
        · exact hS.wide _ x' h
        · exact g4 i' x' h,λb' n' r hb'=>by
        rw[zW]at hb';rw[hlen]
        exact g5 b' n' r hb',f',λi' x' j u hx' hu=>by
        simp only[f']
        rcases hat i' x' hx' with⟨q1,q2,h⟩|⟨q1,h⟩
        · rw[yAd ⟨q1,q2⟩];exact⟨(hS.rep.toV _ x' j u h hu).evo E,λ_=>(hS.rep.toF Z _ x' j u h hu).evo E.size E.fz⟩
        · rw[yAc q1];exact⟨(g6.toV i' x' j u h hu).evo E,λ_=>(g6.toF Z i' x' j u h hu).evo E.size E.fz⟩,λi' j hi' hj=>by
        rw[hlen]at hi';simp only[f'];split
        · exact hS.one _ _ (by omega) hj
        · exact g7 i' j hi' hj,λb' n' hb'=>by
        rw[zW,hbk]at hb';simp at hb';by_cases hbb:b'=b
        · subst hbb;refine⟨cur',el,setRow_heap w _ _ _ _ _ c1,?_,λi' j hi' hj=>?_,hone2⟩
          · rw[hsz']
            rcases hb' with⟨_,rfl⟩|hb'
            · exact c2
            · have:=hr0 b' n' hb';subst this;omega
          · rcases hb' with⟨_,rfl⟩|hb'
            · exact hcell i' j hi' hj
            · have:=hr0 b' n' hb';omega
        · have hb' : (b', n') ∈ rr := by rcases hb' with⟨h,_⟩|h;· exact absurd h hbb
                                         · exact h
          obtain⟨c',el',q1,q2,_,q4⟩:=g8 b' n' (by rw[hbk];simp[hb']);have:=hr0 b' n' hb';subst this
          exact⟨c',el',(setRow_other w b b' cur' hbb).trans q1,q2,λi' j hi' _=>by omega,q4⟩⟩
    refine⟨_,G,?_⟩;have hR:zY w (xP X β) h β (.ref k 0 (len+vs.length)) (.slice (some ⟨b,0*sz,none⟩) (len+vs.length) cp):= .ref k 0 (len+vs.length) sz xs ⟨false,false⟩ b xs.length cp hk' hbm (by omega) (by omega) hs';rw[hb0]at hR;exact hR.evo G.evo
def zBj (hP:uJ P TT) {T e:Nat} {x:Operand} {ti:TI} {k len sz:Nat} {xs:List AV} (hx:yO (zG st.tm) x= .ref k 0 len) (hk:zD st.h k=some (.arr sz xs ⟨false,false⟩)) (hT:TT[T]? =some ti) (hd:ti.d= .slice e) (hl:1<=len):
  zXo P st (.call ⟨.builtin .cap, #[x], #[T]⟩) (λv d=>∃c:Int,v= .s (.int .i64 c)/\(xs.length:Int)<=c/\d=[]) [k] []:=by
 refine⟨λX tm h hg hr _ o a w β ho HH Ht=>?_⟩;obtain⟨d0,o0,y0,p0,f0,g0⟩:=o;dsimp only at ho;subst ho;have h1:=gA Ht hg (x:=x) qX hx;have hk':=(hr k zS).trans hk;obtain⟨u,hu,hd'⟩:=xV (hP _ _ hT) w;obtain rfl:=vP (hd'.trans hd);generalize hcx:a.eval x=cx at h1
 cases h1 with
 |fz _ _ hf=>cases hf
 |dref _ _ _ _ hd _=>rw[hk']at hd;cases hd
 |ref0 _ _ sz' xs' st' b hk'' hn=>omega
 | ref _ _ _ sz' xs' st' b n cap hk'' hb hn hc hs'=>
  have h3:=hk'';rw[hk']at h3;cases h3
  have hrun:(execOp a.eval ⟨d0,.call ⟨.builtin .cap, #[x], #[T]⟩,y0,p0,f0,g0⟩).run P w= .ok (.value (.int .i64 cap)) w:=by
   simp[execOp,resolve,invoke,builtin,Builtin.cap_,hcx,hu,goInt]
  rw[hrun];obtain⟨g1,g2,g3,g4,g5,f,g6,g7,g8⟩:=HH.ent k _ hk'
  have hnx:n=xs.length:=by
   cases hbk:β k with
   |nil=>rw[hbk]at hb;simp at hb
   |cons q r=>
    obtain⟨b0,n0⟩:=q;obtain⟨e1,e2,_⟩:=g5 b0 n0 r hbk;have e2:=e2 Z;rw[hbk]at hb;simp at hb
    rcases hb with⟨rfl,rfl⟩|hm
    ·exact e1
    ·have:=e2 b n hm;omega
  subst hnx;obtain⟨c,el,c1,c2,c3,c4⟩:=g8 b _ hb
  have hcs:c.size=cap*sz:=by
   have:wH w b=c.size:=by unfold wH World.shape?;rw[c1];rfl
   rw[<-this,<-hs',yBv]
  have hcN:xs.length<=cap:=by
   have h5:xs.length*sz<=cap*sz:=by rw[<-hcs];exact c2
   exact yE2 h5 (by omega)
  exact⟨_,[],⟨cap,rfl,by omega,rfl⟩,β,by rw[dP];exact xN.refl HH,by rw[dP];exact .fz _ _ (.s _)⟩
end
section
variable {P:Program} {K0:List Nat} {F:Fr K0} {m:Nat} {ops:Array Oper} {rest:List Oper} {fs:List FP} {Q:List FP->St->Prop} {tm:List (Nat×AV)} {h:List (Nat×xO)}
theorem wN.restr2 {st:St} {a:Act} {w:World} (R:wN F m st a w) (K ts:List Nat) (hK:K0.all (K.contains ·)=true) (t:Nat) (v:AV) (hg:∀i,v≠ .gh i)
  (hv:∀X β,jA X (zD st.h) β w->zY w (xP X β) (zD st.h) β (zG st.tm t) (a.eval (.tmp t))->zY w (xP X λk=>if k∈K then β k else []) (zD (wX K (zD st.h))) (λk=>if k∈K then β k else []) v (a.eval (.tmp t))):
  wN F m ⟨(t,v)::(Av.restr K ts st).tm,(Av.restr K ts st).h⟩ a w:=by
 have R':=wN.restr R K ts hK;obtain⟨⟨X,β,hX,H,Ht,KK,hJ,hD⟩,nd,gs,hl⟩:=R;obtain⟨H',hvv⟩:=H.restr K;refine⟨⟨X,_,hX,H',λj=>?_,⟨λk e he=>?_,KK.size,KK.keep,λk b n hm=>?_,λk b n hm=>?_,KK.bs,KK.os,KK.tape,KK.output⟩,λi hi=>?_,hD⟩,R'.nd,gs,hl⟩
 ·show zY _ _ _ _ (zG ((t,v)::(Av.restr K ts st).tm) j) _
  rw[yT];split
  ·rename_i hj;subst hj;exact hv X β H (Ht j)
  ·rw[jO];split
   ·exact hvv _ _ (Ht j)
   ·exact .fz _ _ (.bot _)
 ·have hk:k∈K:=by
   have:=yAu.1 hK k (F.hh k e he);simpa using this
  have h1:=KK.knd k e he;have hr:∀e',zD st.h k=some e'->zD (wX K (zD st.h)) k=some (qW K (zD st.h) e'):=λe' h2=>by rw[xY,yAd hk,h2];rfl
  cases e with
  |dead=>exact h1
  |box cs=>obtain⟨cs',h2⟩:=h1;exact⟨_,hr _ h2⟩
  |obj cs=>obtain⟨cs',h2⟩:=h1;exact⟨_,hr _ h2⟩
  |arr sz xs sl=>obtain⟨xs',sl',h2,h3⟩:=h1;obtain⟨xs2,fl2,h4,h5⟩:=hH K (zD st.h) sz xs' sl';exact⟨xs2,fl2,(hr _ h2).trans (by rw[h4]),by rw[h5];exact h3⟩
 ·(try dsimp only at hm)
  split at hm
  ·exact KK.own k b n hm
  ·simp at hm
 ·have hk:k∈K:=by
   have:=yAu.1 hK k (F.hK k b n hm);simpa using this
  (try dsimp only)
  rw[yAd hk];exact KK.pas k b n hm
 ·have h1:zG st.tm GS= .gh i:=by
   change zG ((t,v)::(Av.restr K ts st).tm) GS= .gh i at hi
   rw[yT]at hi;split at hi
   ·exact absurd hi (hg i)
   ·rw[jO]at hi;split at hi
    ·exact HF hi
    ·cases hi
  refine F.Jst i _ X w w _ (hJ i h1) (yAg _) (λ_ _ _=>rfl) (λb hb=>?_) (λb hb=>?_) Z Z Z
  ·obtain⟨k,n,hm⟩:=hb
   (try dsimp only at hm)
   split at hm
   ·exact .inl ⟨k,n,hm⟩
   ·simp at hm
  ·obtain⟨k,n,hm⟩:=hb;exact H'.lt b (.inr ⟨k,n,hm⟩)
def zU9 (t k N:Nat) (K ts:List Nat) {sz:Nat} {xs:List AV} (hv:zG tm t= .ref k 0 xs.length) (hk:zD h k=some (.arr sz xs ⟨false,false⟩)) (hl:1<=xs.length) (hN:xs.length<=N) (hmx:N<=1073741824) (hK:K0.all (K.contains ·)=true) (hkK:K.contains k=false) {st':St} (he:restr K ts ⟨tm,h⟩=st')
  (h1:∀c,c<N->zZ P F m ops false rest ⟨(t,.slc c xs)::st'.tm,st'.h⟩ fs Q) (h2:zZ P F m ops false rest ⟨tm,(k,.arr sz (xs++List.replicate (N-xs.length) (fW sz)) ⟨false,false⟩)::h⟩ fs Q):zZ P F m ops false rest ⟨tm,h⟩ fs Q:=⟨λa w R=>by
 subst he;have R0:=R;obtain⟨⟨X,β,hX,HH,Ht,KK,hJ,hD⟩,nd,gs,hl'⟩:=R0;have hRt:=Ht t;dsimp only at hRt;rw[hv]at hRt;obtain⟨b,cap,hcx,hroom⟩:=zFz HH hk hRt hl hN hmx;by_cases hc:cap<N
 ·refine(h1 cap hc).run a w (wN.restr2 R K ts hK t (.slc cap xs) (λi h=>by cases h) λX β H hR=>?_);dsimp only at hR;rw[hv]at hR;obtain⟨H',hvv⟩:=H.restr K;have h5:=hvv _ _ hR
  have e5:wP K (zD h) (.ref k 0 xs.length)= .sl false xs:=by
   simp only[wP,hkK,yCg,hk];rw[yBf,yAh]
  dsimp only at h5⊢;rw[e5,hcx]at h5;rw[hcx];have hne:xs≠[]:=λh0=>by rw[h0]at hl;simp at hl
  generalize hcs:(Value.slice (some ⟨b,0*sz,none⟩) xs.length cap)=cs at h5
  cases h5 with
  | fz _ _ hf=>
   cases hf with
   |nil a cap=>exact absurd Z hne
   |sl nn xs b o sz cap f hx hL hc hh=>
    cases hcs;exact .fz _ _ (.slc _ _ _ _ _ f hL hc hh)
 ·obtain⟨β',G⟩:=hroom (by omega);refine h2.run a w ?_;have nd':∀j,over [(k,xO.arr sz (xs++List.replicate (N-xs.length) (fW sz)) ⟨false,false⟩)] (zD h) j≠some .dead:=fJ Z nd;have R':=VG.put hX HH Ht KK hJ hD gs hl' G nd' (v:= .bot) (c:=undef) (.fz _ _ (.bot _)) none (λd hd=>by cases hd);have e1:(λj=>if(none:Option Nat)=some j then AV.bot else zG tm j)=zG tm:=funext λj=>by simp
  show VG F m (zG tm) (zD ((k,xO.arr sz (xs++List.replicate (N-xs.length) (fW sz)) ⟨false,false⟩)::h)) a w
  rw[show zD ((k,xO.arr sz (xs++List.replicate (N-xs.length) (fW sz)) ⟨false,false⟩)::h)=over [(k,xO.arr sz (xs++List.replicate (N-xs.length) (fW sz)) ⟨false,false⟩)] (zD h)from wY [(k,xO.arr sz (xs++List.replicate (N-xs.length) (fW sz)) ⟨false,false⟩)] h,<-e1]
  exact R'⟩
def zBk (t:Nat) {c:Nat} {xs:List AV} (hv:zG tm t= .slc c xs) (hx:1<=xs.length) (hk:zZ P F m ops false rest ⟨(t,.sl true xs)::tm,h⟩ fs Q):zZ P F m ops false rest ⟨tm,h⟩ fs Q:=⟨λa w R=>hk.run a w (by
 obtain⟨⟨X,β,hX,HH,Ht,KK,hJ,hD⟩,nd,gs,hl⟩:=R;refine⟨⟨X,β,hX,HH,λj=>?_,KK,λi hi=>?_,hD⟩,nd,gs,hl⟩
 ·rw[yT];split
  ·rename_i hj;subst hj;have:=Ht j;dsimp only at this;rw[hv]at this;generalize a.eval (.tmp j)=cx at this
   cases this with
   |fz _ _ hf=>
    cases hf with
    |slc _ _ b o sz f hL hc hh=>exact .fz _ _ (.sl true xs b o sz c f (λh0=>by rw[h0]at hx;simp at hx) hL hc hh)
  ·exact Ht j
 ·rw[yT]at hi;split at hi
  ·cases hi
  ·exact hJ i hi)⟩
end
section
variable {P:Program} {K0:List Nat} {F:Fr K0} {m:Nat} {ops:Array Oper} {rest:List Oper} {fs:List FP} {tm:List (Nat×AV)} {h:List (Nat×xO)}
def zKc {st:St} {K ts:List Nat} {k:List (Nat×AV)->List (Nat×xO)->Prop} (hk:fT K (zD st.h) st.tm ts λT=>gL K (zD st.h) K λU=>k T U):k (restr K ts st).tm (restr K ts st).h:=by
 rw[gO,qI]at hk;exact hk
def uN {Q:List FP->St->Prop} (K ts:List Nat) (hK:K0.all (K.contains ·)=true) (h1:fT K (zD h) tm ts λT=>gL K (zD h) K λU=>zZ P F m ops false rest ⟨T,U⟩ fs Q):zZ P F m ops false rest ⟨tm,h⟩ fs Q:=
 ⟨λa w R=>(zKc (st:=⟨tm,h⟩) (k:=λT U=>zZ P F m ops false rest ⟨T,U⟩ fs Q) h1).run a w (wN.restr R K ts hK)⟩
def uM {st:St} {c:Code} {Q:Exit->St->Prop} (K ts:List Nat) (hK:K0.all (K.contains ·)=true) (h1:fT K (zD st.h) st.tm ts λT=>gL K (zD st.h) K λU=>vZ P F m c ⟨T,U⟩ Q):vZ P F m c st Q:=
 jS K ts hK Z (zKc (k:=λT U=>vZ P F m c ⟨T,U⟩ Q) h1)
structure zQb (p:Prop):Prop where
 h:p
def OE (P:Program) (F:Fr K0) (m:Nat) (c:Code) (Q:Exit->St->Prop) (K ts:List Nat):Nat->St->Prop
 |0,_=>False
 |n+1,st=>vZ P F m c (restr K ts st) (aI Q λs=>zQb (OE P F m c Q K ts n s))
def wM {st:St} {c:Code} {Q:Exit->St->Prop} (n:Nat) (K ts:List Nat) (hK:K0.all (K.contains ·)=true) (h1:zQb (OE P F m c Q K ts n st)):vZ P F m (.loop c) st Q:=⟨λa w R=>by
 refine wpIn_loop_rounds n ?_
 induction n generalizing st a w with
 |zero=>exact h1.h.elim
 |succ n ih=>
  refine Code.wpIn_mono (λe a' w' ⟨s,q1,q2⟩=>?_) (h1.h.run a w (wN.restr R K ts hK))
  cases e with
  |normal=>exact ih q1 a' w' q2
  |_=>exact⟨s,q1,q2⟩⟩
def yE {st st0:St} {c:Code} {Q:Exit->St->Prop} {n:Nat} {K ts:List Nat} (he:restr K ts st=st0) (h1:vZ P F m c st0 (aI Q λs=>zQb (OE P F m c Q K ts n s))):zQb (OE P F m c Q K ts (n+1) st):=by
 subst he;exact⟨h1⟩
def zBl {α:Type} {cs vs:List α} (hl:vs.length=cs.length):TM cs 0 vs=vs:=by
 apply yBj;intro j;rw[XH _ _ _ _ (by omega)];by_cases hj:j<vs.length
 ·rw[yAd ⟨yAt _,by omega⟩];rfl
 ·rw[yAc (λh=>hj (by omega)),yA1 (by omega),yA1 (by omega)]
def GC {TT:List TI} {dr:Bool} {Q:List FP->St->Prop} {ty:Nat} {pos:String} {after:Array Edge} (hP:uJ P TT) {T k:Nat} {p x:Operand} {ti:TI} {cs vs:List AV} (hp:yO (zG tm) p= .ptr k 0 0) (hk0:zD h k=some (.box cs)) (hx:yO (zG tm) x= .agg vs) (hT:TT[T]? =some ti) (hs:Nat.beq vs.length ti.size=true) (hl:Nat.beq vs.length cs.length=true)
  (hk:zZ P F m ops dr rest ⟨tm,(k,.box vs)::h⟩ (⟨true,[k],[k]⟩::fs) Q):zZ P F m ops dr (⟨none,.store T p x,ty,pos,after,none⟩::rest) ⟨tm,h⟩ fs Q:=by
 have e1:=yBd hs;have e2:=yBd hl;refine cI (v:= .bot) (k:=k) (e:= .box vs) (r:=[k]) (nw:=[]) hP ?_ Z Z hk;simp only[exec,hp,hT,hk0,hx,frc,AV.ok,AV.cells,jY,zBl e2]
 rw[show(true&&(Nat.beq vs.length ti.size&&Nat.ble (0+ti.size) cs.length))=true by
  rw[hs,yD7 (by omega)];rfl]
 rfl
end
end Av
end Go.Proofs.YteajjdidebfcjaaGreat
