/- Part 4. -/
import Derived.Test.YteajjdidebfcjaaGreatV03
import Derived.Lib.Overlaps
import Derived.LoopNIn
namespace Go.Proofs.YteajjdidebfcjaaGreat
namespace Av
set_option linter.all false
set_option maxRecDepth 4000
section
variable {P:Program} {K0:List Nat} {F:Fr K0} {m:Nat}
def zJ3 {x y:Code} {Q:Exit->St->Prop} {st:St} (K ts:List Nat) (st1:St) (hK:K0.all (K.contains ·)=true) (h1:uQ P F m x st (λe s=>e= .normal/\restr K ts s=st1)) (h2:uQ P F m y st1 Q):uQ P F m x st (XW P F m y Q):=
 ⟨λa w H=>Code.wpIn_mono (λe a' w' ⟨s,⟨he,hs⟩,hr⟩=>by subst he;exact⟨st1,h2,hs▸wN.restr hr K ts hK⟩) (h1.run a w H)⟩
end
section
variable {P:Program} {tm:List (Nat×AV)} {h:List (Nat×xN)} {tx ty:Nat} {x y:Operand}
def kL {a b:List Int} {v:Bool} (hx:yM (zG tm) x= .s (.string (strOfNums a))) (hy:yM (zG tm) y= .s (.string (strOfNums b))) (hv:eqY a b=v):wV P ⟨tm,h⟩ (.binOp .eql tx x y ty) (.s (.bool v)) [] [] []:=hv▸kS hx hy
def kM {a b:List Int} {v:Bool} (hx:yM (zG tm) x= .s (.string (strOfNums a))) (hy:yM (zG tm) y= .s (.string (strOfNums b))) (hv:eqY a b=v):wV P ⟨tm,h⟩ (.binOp .neq tx x y ty) (.s (.bool (!v))) [] [] []:=hv▸kT hx hy
end
section
variable {P:Program} {K0:List Nat} {F:Fr K0} {m:Nat} {TT:List TI} {ops:Array Oper} {dr:Bool} {rest:List Oper} {tm:List (Nat×AV)} {h:List (Nat×xN)} {fs:List FP} {Q:List FP->St->Prop} {t ty:Nat} {pos:String} {after:Array Edge}
def bM (kn:Nat) (hP:uZ P TT) {T e n:Nat} {x y:Operand} {ti te:TI} {kx ky:IntKind} {nx ny:Int} {z:AV} (hx:yM (zG tm) x= .s (.int kx nx)) (hy:yM (zG tm) y= .s (.int ky ny)) (hT:TT[T]? =some ti) (hd:ti.d= .slice e) (he:TT[e]? =some te)
  (hb:Nat.ble te.bytes 65536=true) (hp:Nat.ble 1 te.size=true) (hzl:Nat.beq te.zero.length te.size=true) (hz1:te.zero.all (·.oneCell')=true) (hzc:Nat.beq (uN te).cells.length te.size=true) (hzc2:(uN te).cells=te.zero.map .s) (hz:uN te=z)
  (hnx:nx=(n:Int)) (hny:nx<=ny) (hmax:ny<=1073741824) (hm:Nat.blt t m=true) (hnn:(zC h kn).isNone=true)
  {sz:Nat} (hse:te.size=sz) (hk:yE P F m ops dr rest ⟨(t,.ref kn 0 n)::tm,(kn,.arr sz (List.replicate n z) false)::h⟩ (⟨true,[kn,kn],[]⟩::fs) Q):yE P F m ops dr (⟨some t,.makeSlice T x y,ty,pos,after,none⟩::rest) ⟨tm,h⟩ fs Q:=by
 subst hse hz;exact qE (nw:=[kn]) (XZ hP kn hx hy hT hd he hnx hny hmax hb hp hzl hz1 hzc hzc2) hm (zAl hnn) Z hk
end
section
variable {P:Program} {TT:List TI} {st:St}
theorem zE0 (hP:uZ P TT) {T I e n:Nat} {s x:Operand} {ti te tn:TI} {k0:IntKind} {nx:Int} (kn:Nat) (hs:yM (zG st.tm) s= .s (.slice none 0 0)) (hx:yM (zG st.tm) x= .s (.int .i64 nx)) (hT:TT[T]? =some ti) (hd:ti.d= .slice e) (he:TT[e]? =some te) (hI:TT[I]? =some tn) (hdn:tn.d= .int k0)
  (hnx:nx=(n:Int)) (hpos:1<=n) (hmax:n<=1073741824) (hb:Nat.ble te.bytes 65536=true) (hp:Nat.ble 1 te.size=true) (hzl:Nat.beq te.zero.length te.size=true) (hz1:te.zero.all (·.oneCell')=true) (hzc:Nat.beq (uN te).cells.length te.size=true) (hzc2:(uN te).cells=te.zero.map .s):
  wV P st (.call ⟨.builtin .append, #[s,x], #[T,I]⟩) (.ref kn 0 n) [(kn,.arr te.size (List.replicate n (uN te)) false)] [] [kn]:=by
 refine⟨?_⟩;intro X tm h hg _ hn o a w β ho HH Ht;obtain⟨d0,o0,y0,p0,f0,g0⟩:=o;dsimp only at ho;subst ho;have h1:=vV Ht hg (x:=s) kJ hs;have h2:=vV Ht hg (x:=x) kJ hx;have hp:=zYm hp;have hb:=zYm hb;have hzl:=zY2 hzl;have hzc:=zY2 hzc;subst hnx;obtain⟨i,z,hu,hi,hz,e1,e2,e3⟩:=wX hP hT hd he;obtain⟨_,u2,_,_,hu2,_,hd2,_⟩:=uM (hP _ _ hI);obtain rfl:=IL (hd2.symm.trans hdn)
 have hbytes:n*i.bytes<=281474976710656:=by
  have:=yAz hmax (show i.bytes<=65536 by omega);omega
 have hw:IntKind.i64.wrap (n:Int)=(n:Int):=kV ⟨by show(-9223372036854775808:Int)<=_;omega,by show _<=(9223372036854775807:Int);omega⟩
 have hs0:n*i.size≠0:=by
  have:1*1<=n*i.size:=yAz hpos (by omega);omega
 have h48:¬(281474976710656<(n:Int)*(i.bytes:Int)):=by
  have h3:(n:Int)*(i.bytes:Int)=((n*i.bytes:Nat):Int):=by simp
  rw[h3];omega
 have h48':¬(281474976710656<Builtin.nextslicecap n 0*i.bytes):=by rw[nextslicecap_zero hpos];omega
 have h63:¬(9223372036854775807<(n:Int)):=by omega
 have hn0:n≠0:=by omega
 have hneg:¬((n:Int)<0):=by omega
 have hrun:(Builtin.append_ #[T,I] y0 #[.slice none 0 0,.int .i64 (n:Int)]).run P w= .ok (.slice (some ⟨w.heap.size,0,none⟩) n (grownCap w n 0 e)) (w.drew.alloc (.cells (Builtin.zeroCells z.cells n++Builtin.zeroCells z.cells (grownCap w n 0 e-n)) e)):=by
  have ha:(asIntOf (.int .i64 (n:Int))).run P w= .ok (.i64,(n:Int)) w:=rfl;have hn1:¬((n:Int)<=0):=by omega
  simp[Builtin.append_,run_underlying hu,run_underlying hu2,sizeOf,typeInfo,zeroValue,hi,hz,asInt,ha,hw,hneg,hn1,h48,hs0,hn0,h63,h48',Question.forced,run_firstCells_none,newRow,grownCap]
 have hex:(execOp a.eval ⟨d0,.call ⟨.builtin .append, #[s,x], #[T,I]⟩,y0,p0,f0,g0⟩).run P w= .ok (.value (.slice (some ⟨w.heap.size,0,none⟩) n (grownCap w n 0 e))) (w.drew.alloc (.cells (Builtin.zeroCells z.cells n++Builtin.zeroCells z.cells (grownCap w n 0 e-n)) e)):=by
  simp[execOp,resolve,invoke,builtin,h1,h2,hrun]
 rw[hex];have HD:=HH.drew (w.drawn+1);have hzs:z.cells.size=te.size:=by rw[<-hzl,<-e3];simp
 have hge:=grownCap_ge w n 0 e;have hrl:(List.replicate n (uN te)).length=n:=by simp
 have hat:∀(j:Nat) v,(List.replicate n (uN te))[j]? =some v->v=uN te:=λj v hv=>by
  rw[zZ0]at hv;split at hv
  ·exact(yAh hv).symm
  ·cases hv
 have hzat:∀j,j<te.size->∃v,te.zero[j]? =some v/\z.cells.getD j undef=v:=λj hj=>by
  have:=kW z.cells j (by omega);refine⟨_,?_,rfl⟩;rw[<-e3];simpa using this
 obtain⟨β',G,hv⟩:=xK.newArr HD (hn kn zW) (Builtin.zeroCells z.cells n++Builtin.zeroCells z.cells (grownCap w n 0 e-n)) e te.size (List.replicate n (uN te)) (grownCap w n 0 e) (λ_ j=>z.cells.getD j undef) hp (by rw[hrl];unfold cU;omega) (by rw[hrl];omega) (by
   simp only[yC2,size_zeroCells,hzs,<-zY8]
   congr 1;omega) (qT.get ((qT.zero (λv hv=>zYi.1 hz1 v OX) _).app (qT.zero (λv hv=>zYi.1 hz1 v OX) _)))
  (λj v hv=>by rw[hat j v hv];exact hzc) (λi' j hi' hj=>by
   rw[hrl]at hi'
   have hlt:i'*te.size+j<n*te.size:=by
    have:=zYo te.size (show i'+1<=n by omega);rw[zY8,zZ3]at this;omega
   have hm':(i'*te.size+j) % te.size=j:=by rw[yCm,yCv];exact yAs hj
   rw[zZ9 (by rw[size_zeroCells,hzs];exact hlt)];have hj':j<z.cells.size:=by omega
   simp only[Builtin.zeroCells,yDg,yC9,hzs,hlt,yDq,Option.map_some,hm']
   congr 1
   simp[zY7,hj']) (λi' j _ hj=>by
   obtain⟨v,hv,hv'⟩:=hzat j hj;rw[hv']
   exact zYi.1 hz1 v (zZk hv)) (λi' v j u hv hu=>by
   rw[hat i' v hv,hzc2]at hu;rw[zX8]at hu
   have hj:j<te.size:=by
    cases hz9:te.zero[j]? with
    |none=>rw[hz9]at hu;cases hu
    |some v9=>have:=(zYu.1 hz9).1;omega
   obtain⟨v2,hv2,hv3⟩:=hzat j hj;rw[hv2]at hu;cases hu;rw[hv3]
   exact .s _)
 rw[hrl]at hv;exact⟨β',xK.trans HH (xK.drew HH (w.drawn+1)) G,hv⟩
def ND (hP:uZ P TT) {T e:Nat} {x:Operand} {ti:TI} (hx:yM (zG st.tm) x= .s (.slice none 0 0)) (hT:TT[T]? =some ti) (hd:ti.d= .slice e):
  wV P st (.call ⟨.builtin .cap, #[x], #[T]⟩) (.s (.int .i64 0)) [] [] []:=
 yO λoo X tm h w β a ho hg hr HH Ht=>by
  obtain⟨d0,o0,y0,p0,f0,g0⟩:=oo;dsimp only at ho;subst ho;have hc:=vV Ht hg (x:=x) kJ hx;obtain⟨u,hu,hd'⟩:=xU (hP _ _ hT) w;obtain rfl:=vX (hd'.trans hd);exact⟨_,by simp[execOp,resolve,invoke,builtin,Builtin.cap_,hc,hu,goInt],.fz _ _ (.s _)⟩
def zAy (hP:uZ P TT) {T e:Nat} {x l:Operand} {ti te:TI} {k:IntKind} (hx:yM (zG st.tm) x= .s (.slice none 0 0)) (hl:yM (zG st.tm) l= .s (.int k 0)) (hT:TT[T]? =some ti) (hd:ti.d= .slice e) (he:TT[e]? =some te):
  wV P st (.slice T x none (some l) none) (.s (.slice none 0 0)) [] [] []:=
 yO λoo X tm h w β a ho hg hr HH Ht=>by
  obtain⟨d0,o0,y0,p0,f0,g0⟩:=oo;dsimp only at ho;subst ho;have hc:=vV Ht hg (x:=x) uT hx;obtain⟨u,hu,hd'⟩:=xU (hP _ _ hT) w;obtain rfl:=vX (hd'.trans hd);have hs:=qA (hP _ _ he) w;have hb:=fK (P:=P) Ht hg (lo:=none) (hi:=some l) (len:=0) (cap:=0) (l:=0) (r:=0) (λy hy=>by cases hy) (λy hy=>by cases hy;simp[Op.operands]) Z ⟨k,0,hl,by omega⟩ (zX7 _) (zX7 _) true;rw[yBb]at hb;exact⟨_,by simp only[execOp,Instr.sliceAt,Instr.slice,Sem.run_bind,hu,Result.andThen_ok,hc,yBb,hb,hs,Sem.run_pure];rfl,.fz _ _ (.s _)⟩
theorem KE (hP:uZ P TT) {T e key off len sz:Nat} {d x:Operand} {ti te:TI} {xs yl ys:List AV} {xv:AV} (hdv:yM (zG st.tm) d= .ref key off len) (hk:zC st.h key=some (.arr sz xs false)) (hx:yM (zG st.tm) x=xv) (hT:TT[T]? =some ti) (hd:ti.d= .slice e) (he:TT[e]? =some te)
  (hyl:DY (zC st.h) xv=some yl) (hyt:yl.take len=ys) (hsz:∀y,ys[0]? =some y->y.cells.length=sz) (hp1:1<=ys.length∨yl.length<=len) (hss:Nat.beq sz te.size=true):
  wV P st (.call ⟨.builtin .copy, #[d,x], #[T,T]⟩) (.s (.int .i64 ys.length)) [(key,.arr sz (xs.take off++ys++xs.drop (off+ys.length)) false)] (key::PH xv) []:=by
 refine⟨?_⟩;intro X tm h hg hr _ o a w β ho HH Ht;obtain⟨d0,o0,y0,p0,f0,g0⟩:=o;dsimp only at ho;subst ho;have hk':=(hr key zW).trans hk;have h1:=gU Ht hg (x:=d) kJ hdv;have h2:=gU Ht hg (x:=x) kJ hx;have hss:=zY2 hss;obtain⟨g1,g2,g3,g4,g5,f,g6,g7,g8⟩:=HH.ent key _ hk'
 obtain⟨ad,cap,hc,_,hmax0,hsrc0⟩:=bF (sz:=sz) HH h2 ((fL λk' hk=>hr k' (by simp[hk])).trans hyl) (λy hy=>hsz y (by
  rcases hp1 with h|h
  ·rw[<-hyt,zZi,zX3 (by have:ys.length<=len:=(by rw[<-hyt];simp;omega);omega)];exact hy
  ·rw[<-hyt,zYe h];exact hy))
 have hn:ys.length<=len:=by rw[<-hyt];simp;omega
 have hylen:ys.length=min len yl.length:=by rw[<-hyt];simp
 have hmin0:min yl.length len=ys.length:=by rw[hylen,Nat.min_comm]
 have hly:ys.length<=yl.length:=by omega
 have hsrc:ys≠[]->∃b o f,ad=some ⟨b,o,none⟩/\Src w (xO X β) h β false ys sz b o f:=λhne=>by
  obtain⟨b,o,f,e,hS⟩:=hsrc0 (λh0=>hne (by rw[<-hyt,h0];simp))
  have hgt:∀(i:Nat) y,ys[i]? =some y->yl[i]? =some y:=λi y hy=>by
   rw[<-hyt,zZi]at hy;split at hy
   ·exact hy
   ·cases hy
  exact⟨b,o,f,e,λi y hy=>hS.wide i y (hgt i y hy),λi j hi hj=>hS.cell i j (by omega) hj,λi j hi hj=>hS.one i j (by omega) hj,λi y j v hy hv=>hS.rep i y j v (hgt i y hy) hv⟩
 obtain⟨i,z,hu,hi,hzz,e1,e2,e3⟩:=wX hP hT hd he
 have hnx:∀b n,(b,n)∈β key->n=xs.length∨n=0:=λb n hb=>by
  cases hbk:β key with
  |nil=>rw[hbk]at hb;simp at hb
  |cons q rr=>
   obtain⟨b0,n0⟩:=q;obtain⟨q1,q2,_⟩:=g5 b0 n0 rr hbk;rw[hbk]at hb;simp at hb
   rcases hb with⟨_,rfl⟩|hb
   ·exact .inl q1
   ·exact .inr (q2 Z b n hb)
 have hop:∀{w'},(Builtin.copy_ #[T,T] y0 #[a.eval d,a.eval x]).run P w= .ok (goInt ys.length) w'->(execOp a.eval ⟨d0,.call ⟨.builtin .copy, #[d,x], #[T,T]⟩,y0,p0,f0,g0⟩).run P w= .ok (.value (.int .i64 ys.length)) w':=λhv=>by
  simp[execOp,resolve,invoke,builtin,hv,goInt]
 by_cases hnil:ys=[]
 ·obtain rfl:yl=[]:=by
   rcases hp1 with h|h
   ·rw[hnil]at h;simp at h
   ·rw[zYe h]at hyt;rw[hyt,hnil]
  subst hnil;have hxs:xs.take off++[]++xs.drop (off+([]:List AV).length)=xs:=by simp
  rw[hxs]
  obtain⟨bd,cp,hcs⟩:∃bd cp,a.eval d= .slice bd len cp:=by
   generalize a.eval d=cx at h1
   cases h1 with
   |fz _ _ hf=>cases hf
   |dref _ _ _ _ hd _=>rw[hk']at hd;cases hd
   |ref _ _ _ _ _ _ _ _ _ _ _ _ _ _=>exact⟨_,_,rfl⟩
   |ref0 _ _ _ _ _ _ _ _=>exact⟨_,_,rfl⟩
  have hf1:(Builtin.firstCells i.size 0 (.slice ad 0 cap)).run P w= .ok #[] w:=by
   cases ad with
   |none=>rfl
   |some a=>simp only[Builtin.firstCells,loadCells,yB5,loadCellsFrom];rfl
  rw[hop (w':=w) (by
   rw[hcs,hc]
   cases bd with
   |none=>simp[Builtin.copy_,run_underlying hu,sizeOf,typeInfo,hi,Builtin.lenOf,hf1]
   |some b=>simp[Builtin.copy_,run_underlying hu,sizeOf,typeInfo,hi,Builtin.lenOf,hf1,storeCells])]
  have G:=xK.step (w':=w) HH key (.arr sz xs false) (β key) (zX7 _) (λ_ _ _=>rfl) Z Z Z (λb n hm=> .inl ⟨n,hm⟩) (λ_ _ _=>rfl) (λe he=>by rw[hk']at he;cases he;exact .inr ⟨⟨_,_,rfl,zX7 _⟩,λ_ n hm=>⟨n,zX7 _,hm⟩⟩)
   (λE=>⟨g1,g2,λh=>by rw[zZ];exact g3 h,g4,λb n r hr=>by rw[zZ]at hr;exact g5 b n r hr,f,gD.evo E g6,g7,λb n hm=>by rw[zZ]at hm;exact g8 b n hm⟩)
  exact⟨_,G,.fz _ _ (.s _)⟩
 obtain⟨b2,q,fy,rfl,hS⟩:=hsrc hnil
 have hpos:0<ys.length:=by cases ys with|nil=>exact absurd Z hnil|cons _ _=>simp
 obtain⟨hf1,hf2⟩:=hS.flat g1
 obtain⟨b,n,cp,hcs,hbm,hnl,hcp⟩:∃b n cp,a.eval d= .slice (some ⟨b,off*sz,none⟩) len cp/\(b,n)∈β key/\off+len<=n/\len<=cp:=by
  generalize a.eval d=cx at h1
  cases h1 with
  |fz _ _ hf=>cases hf
  |dref _ _ _ _ hd _=>rw[hk']at hd;cases hd
  |ref _ _ _ sz' xs' st' b n cp hk2 hb hn hc2 hs2=>
   rw[hk']at hk2;cases hk2;exact⟨b,n,cp,rfl,hb,hn,hc2⟩
  |ref0 _ _ _ _ _ _ _ _=>omega
 have hnn:n=xs.length:=by rcases hnx b n hbm with h|h<;>omega
 subst hnn;obtain⟨cur,el,c1,c2,c3,c4⟩:=g8 b _ hbm;have hfit:(off+ys.length)*sz<=cur.size:=zY9 (zYo _ (by omega)) c2;have hfc:=run_firstCells_some (P:=P) w sz ys.length ⟨b2,q,none⟩ yl.length cap (flat fy ys.length sz) (zQ _ _ _) hf1;have hst:=run_storeCells_at P b (off*sz) el (flat fy ys.length sz) 0 cur w c1 (by rw[zQ,yBa,<-zY8];exact hfit) hf2;simp only[yBa]at hst;generalize hcur':(cur.toList.take (off*sz)++flat fy ys.length sz++cur.toList.drop (off*sz+(flat fy ys.length sz).length)).toArray=cur' at hst
 rw[hop (w':=w.setRow b cur') (by
  rw[hcs,hc];have e1':i.size=sz:=e1.trans hss.symm;rw[<-e1']at hfc;have hst2:(storeCells ⟨b,off*sz,none⟩ (flat fy ys.length i.size)).run P w= .ok () (w.setRow b cur'):=by rw[e1'];exact hst
  simp[Builtin.copy_,run_underlying hu,Builtin.lenOf,sizeOf,typeInfo,hi,hmin0,hfc,hst2])]
 rw[zY8]at hfit
 have hsz':cur'.size=cur.size:=by
  rw[<-hcur'];simp only[yA6,zX4,zYn,zYv,yA2,zQ];omega
 have hone2:∀q,q<cur'.size->(cur'.getD q undef).oneCell'=true:=by
  rw[<-hcur'];refine qT.get (qT.arr λv hv=>?_);have hc4:=qT.of c4
  rcases zYy.1 hv with hv|hv
  ·rcases zYy.1 hv with hv|hv
   ·exact hc4 v (zZl hv)
   ·exact hf2 v hv
  ·exact hc4 v (zY1 hv)
 let f':Nat->Nat->Value:=λi j=>if off<=i/\i<off+ys.length then fy (i-off) j else f i j
 have hoff:off+ys.length<=xs.length:=by omega
 have hlen:(xs.take off++ys++xs.drop (off+ys.length)).length=xs.length:=by
  simp only[zX4,zYn,zYv];omega
 have hat:∀(i:Nat) y,(xs.take off++ys++xs.drop (off+ys.length))[i]? =some y->(off<=i/\i<off+ys.length/\ys[i-off]? =some y)∨(¬(off<=i/\i<off+ys.length)/\xs[i]? =some y):=λi y hy=>by
  have ht:(xs.take off).length=off:=by simp;omega
  by_cases h5:i<off
  ·rw[zYw,zY0 (by omega),zZi,zX3 h5]at hy;exact .inr ⟨by omega,hy⟩
  ·by_cases h6:i<off+ys.length
   ·rw[zYw,zYt (by omega),ht,zY0 (by omega)]at hy;exact .inl ⟨by omega,h6,hy⟩
   ·rw[zYt xX]at hy;simp only[zX4,ht]at hy;rw[zZt,show off+ys.length+(i-(off+ys.length))=i by omega]at hy;exact .inr ⟨by omega,hy⟩
 have hcell:∀i j,i<xs.length->j<sz->cur'[i*sz+j]? =some (f' i j):=λi j hi hj=>by
  rw[<-hcur'];simp only[f',yAx];by_cases h5:i<off
  ·have hlt:i*sz+j<off*sz:=by
    have:=zYo sz (show i+1<=off by omega);rw[zY8,zZ3]at this;omega
   rw[zX2 (by omega),zYw,zY0 xX,zZi,zX3 hlt];simpa using c3 i j hi hj
  ·have ht:(List.take (off*sz) cur.toList).length=off*sz:=by simp;omega
   have hge:off*sz<=i*sz:=zYo _ (by omega);by_cases h6:i<off+ys.length
   ·have e4:i*sz+j-off*sz=(i-off)*sz+j:=by rw[yC4];omega
    have hlt:(i-off)*sz+j<ys.length*sz:=by
     have:=zYo sz (show(i-off)+1<=ys.length by omega);rw[zY8,zZ3]at this;omega
    rw[zX3 (by omega),zYw,zYt (by rw[ht];omega),ht,zY0 (by rw[zQ];omega),e4];exact kD fy (by omega) hj
   ·have hge2:(off+ys.length)*sz<=i*sz:=zYo _ (by omega);rw[zY8]at hge2;rw[zX2 (by omega),zYt (by simp only[zX4,ht,zQ];omega),zZt];simp only[zX4,ht,zQ];rw[show off*sz+ys.length*sz+(i*sz+j-(off*sz+ys.length*sz))=i*sz+j by omega];simpa using c3 i j hi hj
 obtain⟨rr,hbk,hr0⟩:∃rr,β key=(b,xs.length)::rr/\∀b' n',(b',n')∈rr->n'=0:=by
  cases hbk:β key with
  |nil=>rw[hbk]at hbm;simp at hbm
  |cons q r=>
   obtain⟨b0,n0⟩:=q;obtain⟨q1,q2,_⟩:=g5 b0 n0 r hbk;have q2:=q2 Z;rw[hbk]at hbm;simp at hbm
   rcases hbm with⟨rfl,rfl⟩|hm
   ·exact⟨r,rfl,q2⟩
   ·have:=q2 b _ hm;omega
 refine⟨bD β key (β key),xK.step HH key _ _ zW (λj hj hn=>setRow_other w b j cur' (λe=>hn xs.length DO)) Z Z Z (λb n hm=> .inl ⟨n,hm⟩) (λb n _=>qO c1 hsz' b)
  (λe he=>by rw[hk']at he;cases he;exact .inr ⟨⟨_,_,rfl,by rw[hlen];exact zX7 _⟩,λ_ n hm=>⟨n,zX7 _,hm⟩⟩) λE=>⟨g1,by rw[hlen];exact g2,λ_=>by rw[zZ,hbk];simp,λi' x' hx'=>?_,λb' n' r hb'=>?_,f',λi' x' j u hx' hu=>?_,λi' j hi' hj=>?_,λb' n' hb'=>?_⟩,.fz _ _ (.s _)⟩
 ·rcases hat i' x' hx' with⟨_,_,h⟩|⟨_,h⟩
  ·exact hS.wide _ x' h
  ·exact g4 i' x' h
 ·rw[zZ]at hb';rw[hlen];exact g5 b' n' r hb'
 ·simp only[f']
  rcases hat i' x' hx' with⟨q1,q2,h⟩|⟨q1,h⟩
  ·rw[zX3 ⟨q1,q2⟩];exact⟨(hS.rep.toV _ x' j u h hu).evo E,λ_=>(hS.rep.toF Z _ x' j u h hu).evo E.size E.fz⟩
  ·rw[zX2 q1];exact⟨(g6.toV i' x' j u h hu).evo E,λ_=>(g6.toF Z i' x' j u h hu).evo E.size E.fz⟩
 ·rw[hlen]at hi';simp only[f'];split
  ·exact hS.one _ _ (by omega) hj
  ·exact g7 i' j hi' hj
 ·rw[zZ]at hb'
  rcases hnx b' n' hb' with rfl|rfl
  ·have hbb:b'=b:=by
    rw[hbk]at hb';simp at hb'
    rcases hb' with rfl|h
    ·rfl
    ·have:=hr0 b' _ h;omega
   subst hbb;exact⟨cur',el,setRow_heap w _ _ _ _ _ c1,by rw[hsz'];exact c2,λi' j hi' hj=>hcell i' j hi' hj,hone2⟩
  ·by_cases hbb:b'=b
   ·subst hbb;exact⟨cur',el,setRow_heap w _ _ _ _ _ c1,by omega,λi' j hi' _=>by omega,hone2⟩
   ·obtain⟨c',el',q1,q2,_,q4⟩:=g8 b' 0 hb';exact⟨c',el',(setRow_other w b b' cur' hbb).trans q1,q2,λi' j hi' _=>by omega,q4⟩
def NE (hP:uZ P TT) {T e key off len sz:Nat} {d x:Operand} {ti te:TI} {xs ys:List AV} {xv:AV} (hdv:yM (zG st.tm) d= .ref key off len) (hk:zC st.h key=some (.arr sz xs false)) (hx:yM (zG st.tm) x=xv) (hT:TT[T]? =some ti) (hd:ti.d= .slice e) (he:TT[e]? =some te)
  (hys:DY (zC st.h) xv=some ys) (hsz:∀y,ys[0]? =some y->y.cells.length=sz) (hss:Nat.beq sz te.size=true) (hn:ys.length<=len):
  wV P st (.call ⟨.builtin .copy, #[d,x], #[T,T]⟩) (.s (.int .i64 ys.length)) [(key,.arr sz (xs.take off++ys++xs.drop (off+ys.length)) false)] (key::PH xv) []:=
 KE hP hdv hk hx hT hd he hys (zYe hn) hsz (.inr hn) hss
end
section
variable {P:Program} {K0:List Nat} {F:Fr K0} {m:Nat} {tm:List (Nat×AV)} {h:List (Nat×xN)}
theorem wN.trunc {a:Act} {w:World} (R:wN F m ⟨tm,h⟩ a w) (t kn K:Nat) {sz:Nat} {xs:List AV} {st:Fl} (hK0:K0=[]) (hv:zG tm t= .ref kn 0 0) (hk:zC h kn=some (.arr sz xs st)):wN F m ⟨[(t,.ref K 0 0)],[(K,.arr sz [] true)]⟩ a w:=by
 obtain⟨⟨X,β,hX,H,Ht,KK,hJ,hD⟩,nd,gs,hl⟩:=R;have g:=H.ent kn _ hk;obtain⟨g1,g2,g3,g4,g5,f,g6,g7,g8⟩:=g;have h1:=Ht t;rw[hv]at h1
 have hKE:∀k e,zC [(K,xN.arr sz [] true)] k=some e->k=K/\e= .arr sz [] true:=λk e he=>by
  rw[xG]at he;split at he
  ·rename_i hh;cases he;exact⟨hh,rfl⟩
  ·cases he
 have key:∀l:List (Nat×Nat),(∀b n,(b,n)∈l->n=0/\∃n',(b,n')∈β kn)->(l=[]∨∃b,l=[(b,0)])->yB w (xO X λk=>if k=K then l else []) (zC [(K,xN.arr sz [] true)]) (λk=>if k=K then l else []) (.ref K 0 0) (a.eval (.tmp t))->wN F m ⟨[(t,.ref K 0 0)],[(K,.arr sz [] true)]⟩ a w:=by
  intro l hl1 hl2 hrep
  have hm0:∀k b n,(b,n)∈(if k=K then l else [])->k=K/\n=0/\∃n',(b,n')∈β kn:=λk b n hm=>by
   split at hm
   ·rename_i hh;exact⟨hh,hl1 b n hm⟩
   ·simp at hm
  have hsub:∀b,xO X (λk=>if k=K then l else []) b->xO X β b:=λb hd=>by
   rcases hd with hx|⟨k,n,hm⟩
   ·exact .inl hx
   ·obtain⟨_,_,n',h5⟩:=hm0 k b n hm;exact .inr ⟨kn,n',h5⟩
  have HH:jK X (zC [(K,xN.arr sz [] true)]) (λk=>if k=K then l else []) w:=by
   refine⟨λk e he=>?_,λk he=>?_,λk k' b n n' q1 q2=>?_,λk b n hm=>?_,λb hd=>H.lt b (hsub b hd)⟩
   ·obtain⟨rfl,rfl⟩:=hKE k e he;refine⟨g1,by simp,λh=>absurd Z h,λi y hy=>by simp at hy,λb n r hr=>?_,λ_ _=>undef,λi y j v hy _=>by simp at hy,λi j hi _=>by simp at hi,λb n hm=>?_⟩
    ·(try dsimp only at hr)
     rw[zX3 Z]at hr
     rcases hl2 with h5|⟨b5,h5⟩
     ·rw[h5]at hr;cases hr
     ·rw[h5]at hr;cases hr;exact⟨rfl,λh=>(by cases h),λb' n' hm=>by simp at hm⟩
    ·obtain⟨_,rfl,n',h5⟩:=hm0 _ b n hm;obtain⟨c,el,q1,_,_,q4⟩:=g8 b n' h5;exact⟨c,el,q1,by omega,λi j hi _=>by omega,q4⟩
   ·(try dsimp only)
    split
    ·rename_i hh;rw[hh,xG,zX3 Z]at he;cases he
    ·rfl
   ·obtain⟨r1,_⟩:=hm0 k b n q1;obtain⟨r2,_⟩:=hm0 k' b n' q2;exact r1.trans r2.symm
   ·obtain⟨_,_,n',h5⟩:=hm0 k b n hm;exact H.free kn b n' h5
  refine⟨⟨X,_,hX,HH,λj=>?_,⟨λk e he=>?_,KK.size,KK.keep,λk b n hm=>?_,λk b n hm=>?_,KK.bs,KK.os,KK.tape,KK.output⟩,λi hi=>?_,hD⟩,λk hk2=>?_,gs,hl⟩
  ·rw[yP];split
   ·rename_i hj;subst hj;exact hrep
   ·exact .fz _ _ (.bot _)
  ·have:=F.hh k e he;rw[hK0]at this;simp at this
  ·obtain⟨_,_,n',h5⟩:=hm0 k b n hm;exact KK.own kn b n' h5
  ·have:=F.hK k b n hm;rw[hK0]at this;simp at this
  ·rw[yP]at hi
   split at hi<;>cases hi
  ·obtain⟨_,h5⟩:=hKE k _ hk2;cases h5
 generalize hce:a.eval (.tmp t)=c at h1 key
 cases h1 with
 |fz _ _ hf=>cases hf
 |dref _ _ _ _ hd _=>exact absurd hd (nd kn)
 |ref0 _ _ sz' xs' st' ad hk2 hn=>
  refine key [] (λb n hm=>by simp at hm) (.inl Z) ?_;exact .ref0 K 0 sz [] true ad (by rw[xG,zX3 Z]) (zX7 _)
 |ref _ _ _ sz' xs' st' b n cap hk2 hb hn hc hs=>
  rw[hk]at hk2;cases hk2;refine key [(b,0)] (λb' n' hm=>by simp at hm;obtain⟨rfl,rfl⟩:=hm;exact⟨rfl,n,hb⟩) (.inr ⟨b,rfl⟩) ?_;exact .ref K 0 0 sz [] true b 0 cap (by rw[xG,zX3 Z]) zW (zX7 _) hc hs
def zE1 {c:Code} {Q:Exit->St->Prop} (t kn K:Nat) {sz:Nat} {xs:List AV} {st:Fl} (hK0:K0=[]) (hv:zG tm t= .ref kn 0 0) (hk:zC h kn=some (.arr sz xs st)) (hS:uQ P F m c ⟨[(t,.ref K 0 0)],[(K,.arr sz [] true)]⟩ Q):uQ P F m c ⟨tm,h⟩ Q:=
 ⟨λa w H=>hS.run a w (H.trunc t kn K hK0 hv hk)⟩
end
section
variable {P:Program} {TT:List TI} {K0:List Nat} {F:Fr K0} {m:Nat} {ops:Array Oper} {rest:List Oper} {Q:List FP->St->Prop} {tm:List (Nat×AV)} {h:List (Nat×xN)} {dr:Bool} {fs:List FP}
variable {ty:Nat} {pos:String} {after:Array Edge} {t:Nat}
def zDd (hP:uZ P TT) {T e key off len sz:Nat} {d x:Operand} {ti te:TI} {xs ys zs:List AV} {xv:AV} (hdv:yM (zG tm) d= .ref key off len) (hk:zC h key=some (.arr sz xs false)) (hx:yM (zG tm) x=xv) (hT:TT[T]? =some ti) (hd:ti.d= .slice e) (he:TT[e]? =some te)
  (hys:DY (zC h) xv=some ys) (hsz:∀y,ys[0]? =some y->y.cells.length=sz) (hss:Nat.beq sz te.size=true) (hn:ys.length<=len) (hz:xs.take off++ys++xs.drop (off+ys.length)=zs) (hm:Nat.blt t m=true)
  (hr:yE P F m ops dr rest ⟨(t,.s (.int .i64 ys.length))::tm,(key,.arr sz zs false)::h⟩ (⟨true,[key],key::PH xv⟩::fs) Q):yE P F m ops dr (⟨some t,.call ⟨.builtin .copy, #[d,x], #[T,T]⟩,ty,pos,after,none⟩::rest) ⟨tm,h⟩ fs Q:=by
 subst hz;exact qE (nw:=[]) (NE hP hdv hk hx hT hd he hys hsz hss hn) hm Z Z hr
def fT (hP:uZ P TT) {T e key len sz:Nat} {x l:Operand} {ti te:TI} {xs:List AV} {sl:Fl} {k:IntKind} {i:Int} (hx:yM (zG tm) x= .ref key 0 len) (hk:zC h key=some (.arr sz xs sl)) (hl:yM (zG tm) l= .s (.int k i)) (hT:TT[T]? =some ti) (hd:ti.d= .slice e) (he:TT[e]? =some te)
  (hsz:Nat.beq sz te.size=true) (h0:0<=i) (h1:i<=len) (hm:Nat.blt t m=true) (hr:yE P F m ops dr rest ⟨(t,.ref key i.toNat (len-i.toNat))::tm,h⟩ (⟨true,[],[key]⟩::fs) Q):
  yE P F m ops dr (⟨some t,.slice T x (some l) none none,ty,pos,after,none⟩::rest) ⟨tm,h⟩ fs Q:=by
 have:=fS (P:=P) (st:=⟨tm,h⟩) (lo:=some l) (hi:=none) (l:=i.toNat) (r:=len) hP hx hk hT hd he ⟨k,i,hl,by omega⟩ rfl (by omega) (zX7 _) hsz;rw[zZm]at this;exact zP this hm hr
def zDe (hP:uZ P TT) {T e key len sz:Nat} {x l:Operand} {ti te:TI} {xs:List AV} {sl:Fl} {k:IntKind} (hx:yM (zG tm) x= .ref key 0 len) (hk:zC h key=some (.arr sz xs sl)) (hl:yM (zG tm) l= .s (.int k 0)) (hT:TT[T]? =some ti) (hd:ti.d= .slice e) (he:TT[e]? =some te)
  (hsz:Nat.beq sz te.size=true) (hm:Nat.blt t m=true) (hr:yE P F m ops dr rest ⟨(t,.ref key 0 0)::tm,h⟩ (⟨true,[],[key]⟩::fs) Q):
  yE P F m ops dr (⟨some t,.slice T x none (some l) none,ty,pos,after,none⟩::rest) ⟨tm,h⟩ fs Q:=by
 have:=fS (P:=P) (st:=⟨tm,h⟩) (lo:=none) (hi:=some l) (l:=0) (r:=0) hP hx hk hT hd he Z ⟨k,0,hl,by omega⟩ (zX7 _) (zYl _) hsz;exact zP this hm hr
def zOy (hP:uZ P TT) {T I e n:Nat} {s x:Operand} {ti te tn:TI} {k0:IntKind} {nx:Int} {z:AV} (hs:yM (zG tm) s= .s (.slice none 0 0)) (hx:yM (zG tm) x= .s (.int .i64 nx)) (hT:TT[T]? =some ti) (hd:ti.d= .slice e) (he:TT[e]? =some te) (hI:TT[I]? =some tn) (hdn:tn.d= .int k0)
  (hb:Nat.ble te.bytes 65536=true) (hp:Nat.ble 1 te.size=true) (hzl:Nat.beq te.zero.length te.size=true) (hz1:te.zero.all (·.oneCell')=true) (hzc:Nat.beq (uN te).cells.length te.size=true) (hzc2:(uN te).cells=te.zero.map .s) (hz:uN te=z)
  (hnx:nx=(n:Int)) (hpos:1<=n) (hmax:n<=1073741824) (hm:Nat.blt t m=true) (hnn:(zC h t).isNone=true)
  {sz:Nat} (hse:te.size=sz) (hk:yE P F m ops dr rest ⟨(t,.ref t 0 n)::tm,(t,.arr sz (List.replicate n z) false)::h⟩ (⟨true,[t,t],[]⟩::fs) Q):yE P F m ops dr (⟨some t,.call ⟨.builtin .append, #[s,x], #[T,I]⟩,ty,pos,after,none⟩::rest) ⟨tm,h⟩ fs Q:=by
 subst hse hz;exact qE (nw:=[t]) (zE0 hP t hs hx hT hd he hI hdn hnx hpos hmax hb hp hzl hz1 hzc hzc2) hm (zAl hnn) Z hk
end
mutual
def NF (k L:Nat):AV->Prop
 | .ref j off len=>j=k->off=0/\len=L
 | .ptr j _ _=>j≠k
 | .agg cs| .fn _ cs| .tup cs=>fM k L cs
 |_=>True
def fM (k L:Nat):List AV->Prop
 | []=>True
 |v::r=>NF k L v/\fM k L r
end
def IY (k L:Nat):List (Nat×AV)->Prop
 | []=>True
 |(_,v)::r=>NF k L v/\IY k L r
def IZ (k L:Nat):List (Nat×xN)->Prop
 | []=>True
 |(_,e)::r=>(match e with
  | .box cs=>fM k L cs
  | .obj cs=>True
  | .arr _ xs fl=>fl.nest=false∨fM k L xs
  | .dead=>True)/\IZ k L r
theorem fM.at {k L:Nat}:∀{cs:List AV} {i:Nat} {v:AV},fM k L cs->cs[i]? =some v->NF k L v
 | [],_,_,_,h=>by simp at h
 |x::r,0,v,hk,h=>by simp at h;subst h;exact hk.1
 |x::r,i+1,v,hk,h=>fM.at hk.2 TJ
theorem IY.at {k L:Nat}:∀{tm:List (Nat×AV)},IY k L tm->∀t,NF k L (zG tm t)
 | [],_,t=>trivial
 |(j,v)::r,h,t=>by
  rw[yP];split
  ·exact h.1
  ·exact IY.at h.2 t
theorem IZ.at {k L:Nat}:∀{h:List (Nat×xN)} {j:Nat} {e:xN},IZ k L h->zC h j=some e->match e with
  | .box cs=>fM k L cs
  | .obj cs=>True
  | .arr _ xs fl=>fl.nest=false∨fM k L xs
  | .dead=>True
 | [],_,_,_,he=>by simp[zC]at he
 |(i,e0)::r,j,e,h,he=>by
  rw[xG]at he;split at he
  ·cases he;exact h.1
  ·exact IZ.at h.2 he
theorem NF.cells {k L:Nat} {x:AV} (h:NF k L x):fM k L x.cells:=by
 cases x<;>first
  |exact h
  |exact⟨h,trivial⟩
theorem yB.whole {w:World} {D D':Nat->Prop} {h h':yJ} {β β':uW} (k L:Nat) (hD:∀b,D' b->D b) (hh:∀j,j≠k->h' j=h j) (hβ:∀j,j≠k->β' j=β j) (hw:∀c,yB w D h β (.ref k 0 L) c->yB w D' h' β' (.ref k 0 L) c) {v:AV} {c:Value} (hv:yB w D h β v c):NF k L v->yB w D' h' β' v c:=by
 have key:∀{off len j c},(j=k->off=0/\len=L)->yB w D h β (.ref j off len) c->(j≠k->yB w D' h' β' (.ref j off len) c)->yB w D' h' β' (.ref j off len) c:=λ{off len j c} h1 h2 h3=>by
  by_cases hj:j=k
  ·obtain⟨rfl,rfl⟩:=h1 hj;subst hj;exact hw _ h2
  ·exact h3 hj
 induction hv with
 |fz v c hf=>exact λ_=> .fz v c (hf.less hD)
 |agg cs c hl h1 hr ih=>exact λhk=> .agg cs c hl h1 λi v hv=>ih i v hv (fM.at hk hv)
 |fn f caps c hl hr ih=>exact λhk=> .fn f caps c hl λi v hv=>ih i v hv (fM.at hk hv)
 |tup vs c hl hr ih=>exact λhk=> .tup vs c hl λi v hv=>ih i v hv (fM.at hk hv)
 |dref j off len c hk' h1=>exact λhk=>key hk (.dref j off len c hk' h1) λhj=> .dref j off len c OW h1
 |dptr j i off c hk' h1=>exact λhk=> .dptr j i off c zJu h1
 |ref j off len sz xs st b n cap hk' hb hn hc hs=>exact λhk=>key hk (.ref j off len sz xs st b n cap hk' hb hn hc hs) λhj=> .ref j off len sz xs st b n cap OW zC8 hn hc hs
 |ref0 j off sz xs st a hk' hn=>exact λhk=>key hk (.ref0 j off sz xs st a hk' hn) λhj=> .ref0 j off sz xs st a OW hn
 |pbox j off cs b n hk' hb=>exact λhk=> .pbox j off cs b n zJu (by rw[hβ j hk];exact hb)
 |parr j i off sz xs st b n hk' hb hi ho=>exact λhk=> .parr j i off sz xs st b n zJu (by rw[hβ j hk];exact hb) hi ho
section
variable {P:Program} {K0:List Nat} {F:Fr K0} {m:Nat} {tm:List (Nat×AV)} {h:List (Nat×xN)}
end
section
variable {P:Program} {TT:List TI} {K0:List Nat} {F:Fr K0} {m:Nat} {ops:Array Oper} {dr:Bool} {rest:List Oper} {fs:List FP} {Q:List FP->St->Prop} {tm:List (Nat×AV)} {h:List (Nat×xN)} {ty:Nat} {pos:String} {after:Array Edge} {t:Nat}
def cN (k:Nat) (hP:uZ P TT) {T e len:Nat} {ps:Array (Nat×Operand)} {ti te:TI} {xs:List AV} (hT:TT[T]? =some ti) (hd:ti.d= .slice e) (he:TT[e]? =some te) (hp:Nat.ble 1 te.size=true) (hps:aX ⟨tm,h⟩ ps=(xs.zipIdx 0).map λx=>(x.2,x.1)) (hl:Nat.beq xs.length len=true)
  (hw:xs.all (λx=>Nat.beq x.cells.length te.size&&x.ok)=true) (hb:Nat.ble (len*te.size) 65536=true) (hzl:Nat.beq te.zero.length te.size=true) (hm:Nat.blt t m=true) (hnn:(zC h k).isNone=true)
  {sz:Nat} (hse:te.size=sz) (hk:yE P F m ops dr rest ⟨(t,.ref k 0 len)::tm,(k,.arr sz xs ⟨false,true⟩)::h⟩ (⟨true,[k,k],[]⟩::fs) Q):yE P F m ops dr (⟨some t,.buildSlice T len ps,ty,pos,after,none⟩::rest) ⟨tm,h⟩ fs Q:=by
 subst hse;exact qE (nw:=[k]) (QO hP k hT hd he hp hps hl hw hb hzl) hm (zAl hnn) Z hk
end
structure zWi (P:Program) (st:St) (op:Op) (O:AV->List (Nat×xN)->Prop) (r nw:List Nat):Prop where
 run:∀(X:Nat->Prop) (tm:Nat->AV) (h:yJ),(∀t,t∈eV op->tm t=zG st.tm t)->(∀k,k∈r->h k=zC st.h k)->(∀k,k∈nw->h k=none)->∀(o:Oper) (a:Act) (w:World) (β:uW),o.op=op->jK X h β w->(∀t,yB w (xO X β) h β (tm t) (a.eval (.tmp t)))->
  aU P (λc w'=>∃v d,O v d/\∃β',xK X w h β w' (over d h) β'/\yB w' (xO X β') (over d h) β' v c) ((execOp a.eval o).run P w)
section
variable {P:Program} {K0:List Nat} {F:Fr K0} {m:Nat} {ops:Array Oper} {rest:List Oper} {fs fs':List FP} {Q:List FP->St->Prop} {tm:List (Nat×AV)} {h:List (Nat×xN)} {op:Op} {ty:Nat} {pos:String} {after:Array Edge} {t:Nat} {r nw:List Nat} {O:AV->List (Nat×xN)->Prop}
def x_m (hs:zWi P ⟨tm,h⟩ op O r nw) (hm:Nat.blt t m=true) (hn:nw.all (λj=>(zC h j).isNone)=true) (hd:∀v d,O v d->uG d=true) (hk:∀v d,O v d->yE P F m ops false rest ⟨(t,v)::tm,d++h⟩ fs' Q):
  yE P F m ops false (⟨some t,op,ty,pos,after,none⟩::rest) ⟨tm,h⟩ fs Q:=⟨λa w R=>wpListIn_plain Z λK hK=>by
 obtain⟨⟨X,β,hX,HH,Ht,KK,hJ,hD⟩,nd,gs,hl⟩:=R;refine aU.wp (hs.run X (zG tm) (zC h) (λ_ _=>rfl) (λ_ _=>rfl) (λk hk=>by have:=zYi.1 hn k hk;simpa using this) ⟨some t,op,ty,pos,after,none⟩ a w β rfl HH Ht) ?_;rintro c w' ⟨v,d,hO,β',G,hc⟩;have hdd:=hd v d hO
 have nd':∀k,over d (zC h) k≠some .dead:=λk=>by
  unfold over;split
  ·rename_i e he;intro h4;cases h4;exact qI hdd he
  ·exact nd k
 refine hK _ _ ((hk v d hO).run _ _ ?_);have R':=VD.put hX HH Ht KK hJ hD gs hl G nd' hc (some t) (λj hj=>by cases hj;exact zYm hm)
 have e1:zG ((t,v)::tm)=λj=>if some t=some j then v else zG tm j:=funext λj=>by rw[yP];simp[eq_comm]
 show VD F m (zG ((t,v)::tm)) (zC (d++h)) _ _
 rw[e1,vG]
 exact R'⟩
end
section
variable {P:Program} {st:St}
end
def eX (sz:Nat):AV:= .agg (List.replicate sz .bot)
section
variable {P:Program} {TT:List TI} {st:St}
theorem zE2 {X:Nat->Prop} {h:yJ} {β:uW} {w:World} (HH:jK X h β w) {k len sz N:Nat} {xs:List AV} {cx:Value} (hk':h k=some (.arr sz xs ⟨false,false⟩)) (h1:yB w (xO X β) h β (.ref k 0 len) cx) (hl:1<=len) (hN:xs.length<=N) (hmx:N<=1073741824):
  ∃b cap,cx= .slice (some ⟨b,0*sz,none⟩) len cap/\(N<=cap->∃β',xK X w h β w (over [(k,.arr sz (xs++List.replicate (N-xs.length) (eX sz)) ⟨false,false⟩)] h) β'):=by
 cases h1 with
 |fz _ _ hf=>cases hf
 |dref _ _ _ _ hd _=>rw[hk']at hd;cases hd
 |ref0 _ _ sz' xs' st' b hk'' hn=>omega
 | ref _ _ _ sz' xs' st' b n cap hk'' hb hn hc hs'=>
  have h3:=hk'';rw[hk']at h3;cases h3;refine⟨b,cap,rfl,λhlt=>?_⟩;obtain⟨g1,g2,g3,g4,g5,f,g6,g7,g8⟩:=HH.ent k _ hk'
  obtain⟨rr,hbk,hnx,hr0⟩:∃rr,β k=(b,n)::rr/\n=xs.length/\∀b' n',(b',n')∈rr->n'=0:=by
   cases hbk:β k with
   |nil=>rw[hbk]at hb;simp at hb
   |cons q r=>
    obtain⟨b0,n0⟩:=q;obtain⟨e1,e2,_⟩:=g5 b0 n0 r hbk;have e2:=e2 Z;rw[hbk]at hb;simp at hb
    rcases hb with⟨rfl,rfl⟩|hm
    ·exact⟨r,rfl,e1,e2⟩
    ·have:=e2 b n hm;omega
  subst hnx;obtain⟨c,el,c1,c2,c3,c4⟩:=g8 b _ hb
  have hcs:c.size=cap*sz:=by
   have:wG w b=c.size:=by unfold wG World.shape?;rw[c1];rfl
   rw[<-this,<-hs',zZm]
  have hNs:N*sz<=c.size:=by rw[hcs];exact zYo _ (by omega)
  have hlen:(xs++List.replicate (N-xs.length) (eX sz)).length=N:=by simp;omega
  have hat:∀(i:Nat) y,(xs++List.replicate (N-xs.length) (eX sz))[i]? =some y->(i<xs.length/\xs[i]? =some y)∨(¬i<xs.length/\i<N/\y=eX sz):=λi y hy=>by
   by_cases hi:i<xs.length
   ·rw[zY0 hi]at hy;exact .inl ⟨hi,hy⟩
   ·have hiN:i<N:=by rw[<-hlen];exact(zYu.1 hy).1
    rw[zYt (by omega),zZ0]at hy;split at hy
    ·exact .inr ⟨hi,hiN,(yAh hy).symm⟩
    ·cases hy
  have hidx:∀i j,i<N->j<sz->i*sz+j<c.size:=λi j hi hj=>by
   have:=zYo sz (show i+1<=N by omega);rw[zY8,zZ3]at this;omega
  let f':Nat->Nat->Value:=λi j=>if i<xs.length then f i j else c.getD (i*sz+j) undef
  have G:=xK.step (w':=w) HH k (.arr sz (xs++List.replicate (N-xs.length) (eX sz)) ⟨false,false⟩) ((b,N)::rr) (zX7 _) (λ_ _ _=>rfl) Z Z Z
   (λb' n' hm=>by
    simp at hm
    rcases hm with⟨rfl,_⟩|hm
    ·exact .inl ⟨_,hb⟩
    ·exact .inl ⟨n',by rw[hbk];simp[hm]⟩) (λ_ _ _=>rfl)
   (λe he=>by
    rw[hk']at he;cases he;refine .inr ⟨⟨_,_,rfl,by rw[hlen];exact hN⟩,λb' n' hm=>?_⟩;rw[hbk]at hm;simp at hm
    rcases hm with⟨rfl,rfl⟩|hm
    ·exact⟨N,hN,by simp⟩
    ·exact⟨n',zX7 _,by simp[hm]⟩)
   (λE=>⟨g1,by rw[hlen];unfold cU;omega,λ_=>by rw[zZ];simp,λi y hy=>by
    rcases hat i y hy with⟨_,h⟩|⟨_,_,rfl⟩
    ·exact g4 i y h
    ·simp[eX,AV.cells],λb' n' r hr=>by
    rw[zZ]at hr;simp at hr;obtain⟨⟨rfl,rfl⟩,rfl⟩:=hr
    exact⟨hlen.symm,λ_=>hr0,λb' n' hm=>by have:=hr0 b' n' hm;rw[hlen];omega⟩,f',λi y j v hy hv=>by
    simp only[f']
    rcases hat i y hy with⟨hi,h⟩|⟨hi,_,rfl⟩
    ·rw[zX3 hi];exact⟨(g6.toV i y j v h hv).evo E,λ_=>(g6.toF Z i y j v h hv).evo E.size E.fz⟩
    ·have:v= .bot:=by
      simp only[eX,AV.cells,zZ0]at hv;split at hv
      ·exact(yAh hv).symm
      ·cases hv
     subst this
     exact⟨.fz _ _ (.bot _),λ_=> .bot _⟩,λi j hi hj=>by
    rw[hlen]at hi;simp only[f'];split
    ·exact g7 i j ‹_› hj
    ·exact c4 _ (hidx i j hi hj),λb' n' hm=>by
    rw[zZ]at hm;simp at hm
    rcases hm with⟨rfl,rfl⟩|hm
    ·refine⟨c,el,c1,hNs,λi j hi hj=>?_,c4⟩;simp only[f'];split
     ·exact c3 i j ‹_› hj
     ·exact kW c _ (hidx i j hi hj)
    ·obtain⟨c',el',d1,d2,_,d4⟩:=g8 b' n' (by rw[hbk];simp[hm]);have:=hr0 b' n' hm;subst this
     exact⟨c',el',d1,d2,λi j hi _=>by omega,d4⟩⟩)
  exact⟨_,G⟩
def zE3 (hP:uZ P TT) {T e:Nat} {x hi:Operand} {ti te:TI} {k len sz N:Nat} {xs:List AV} {ki:IntKind} (hx:yM (zG st.tm) x= .ref k 0 len) (hk:zC st.h k=some (.arr sz xs ⟨false,false⟩)) (hh:yM (zG st.tm) hi= .s (.int ki (N:Int))) (hT:TT[T]? =some ti) (hd:ti.d= .slice e) (he:TT[e]? =some te)
  (hl:1<=len) (hN:N<=xs.length) (hN1:1<=N) (hmx:N<=1073741824):wV P st (.slice T x none (some hi) none) (.ref k 0 N) [] [k] []:=
 yO λoo X tm h w β a ho hg hr' HH Ht=>by
  obtain⟨d0,o0,y0,p0,f0,g0⟩:=oo;dsimp only at ho;subst ho;have h1:=gU Ht hg (x:=x) uT hx;have hk':=(hr' k zW).trans hk;obtain⟨u,hu,hd'⟩:=xU (hP _ _ hT) w;obtain rfl:=vX (hd'.trans hd);have hs:=qA (hP _ _ he) w;generalize hcx:a.eval x=cx at h1
  cases h1 with
  |fz _ _ hf=>cases hf
  |dref _ _ _ _ hd _=>rw[hk']at hd;cases hd
  |ref0 _ _ sz' xs' st' b hk'' hn=>omega
  | ref _ _ _ sz' xs' st' b n cap hk'' hb hn hc hs'=>
   have h3:=hk'';rw[hk']at h3;cases h3;obtain⟨g1,g2,g3,g4,g5,f,g6,g7,g8⟩:=HH.ent k _ hk'
   have hnx:n=xs.length:=by
    cases hbk:β k with
    |nil=>rw[hbk]at hb;simp at hb
    |cons q r=>
     obtain⟨b0,n0⟩:=q;obtain⟨e1,e2,_⟩:=g5 b0 n0 r hbk;have e2:=e2 Z;rw[hbk]at hb;simp at hb
     rcases hb with⟨rfl,rfl⟩|hm
     ·exact e1
     ·have:=e2 b n hm;omega
   subst hnx;obtain⟨c,el,c1,c2,c3,c4⟩:=g8 b _ hb
   have hcs:c.size=cap*sz:=by
    have:wG w b=c.size:=by unfold wG World.shape?;rw[c1];rfl
    rw[<-this,<-hs',zZm]
   have hcN:N<=cap:=by
    have h5:N*sz<=cap*sz:=by rw[<-hcs];exact zY9 (zYo _ hN) c2
    exact yCq h5 (by omega)
   have hbd:=fK (P:=P) Ht hg (lo:=none) (hi:=some hi) (len:=len) (cap:=cap) (l:=0) (r:=N) (λy hy=>by cases hy) (λy hy=>by cases hy;simp[Op.operands]) Z ⟨ki,N,hh,rfl⟩ (zYl _) hcN true;rw[yBb]at hbd;refine⟨_,by simp only[execOp,Instr.sliceAt,Instr.slice,Sem.run_bind,hu,Result.andThen_ok,hcx,yBb,hbd,hs,Sem.run_pure];rfl,?_⟩
   have e0:(if cap=0 then(some ⟨b,0*sz,none⟩:Option Addr)else(some ⟨b,0*sz,none⟩:Option Addr).map (·.add (0*te.size)))=some ⟨b,0*sz,none⟩:=by
    split
    ·rfl
    ·rw[Option.map_some,YL];simp
   have:=yB.ref (w:=w) (D:=xO X β) (h:=h) (β:=β) k 0 N sz xs ⟨false,false⟩ b xs.length cap hk' hb (by omega) hcN hs';rw[e0];exact this
theorem HA (hP:uZ P TT) {f:Nat} {fn:Func} {T e R:Nat} {fx x y:Operand} {ats:Array Nat} {ti te:TI} {kA kB lenA offB lenB szA szB:Nat} {xa xb:List AV} {fa fb:Fl} (hfx:yM (zG st.tm) fx= .fn f []) (hx:yM (zG st.tm) x= .ref kA 0 lenA) (hka:zC st.h kA=some (.arr szA xa fa)) (hy:yM (zG st.tm) y= .ref kB offB lenB) (hkb:zC st.h kB=some (.arr szB xb fb))
  (hne:Nat.beq kA kB=false) (hlb:1<=lenB) (hla:1<=lenA) (hT:TT[T]? =some ti) (hd:ti.d= .slice e) (he:TT[e]? =some te) (hsb:1<=szB)
  (hf:P.funcs[f]? =some fn) (hname:(fn.name== "runtime.NumGoroutine")=false) (hb:fn.body.isNone=true) (hn:Extern.findNext fn=none) (hE:Extern.find fn=some (Extern.SlicesOverlaps.overlaps #[T,T] #[R])):
  wV P st (.call ⟨.value fx, #[x,y],ats⟩) (.s (.bool false)) [] [kA,kB] []:=
 yO λoo X tm h w β a ho hg hr HH Ht=>by
  obtain⟨d0,o0,y0,p0,f0,g0⟩:=oo;dsimp only at ho;subst ho;have h1:=gU Ht hg (x:=x) kJ hx;have h2:=gU Ht hg (x:=y) kJ hy;have h3:=gU Ht hg (x:=fx) kJ hfx;have hka':=(hr kA zW).trans hka;have hkb':=(hr kB zW).trans hkb;have hkk:kA≠kB:=λe=>by subst e;simp at hne
  obtain⟨u,hu,hd'⟩:=xU (hP _ _ hT) w;obtain⟨i,z,hu',hi,hz,e1,e2,e3⟩:=wX hP hT hd he
  have hfe:a.eval fx= .func (.func f) #[] #[]:=by
   generalize a.eval fx=cx at h3
   cases h3 with
   |fz _ _ hf=>cases hf
   |fn _ _ c hl hh=>
    have:c= #[]:=Array.eq_empty_of_size_eq_zero DL;rw[this]
  have shp:∀{k off len sz xs fl c},h k=some (.arr sz xs fl)->1<=len->yB w (xO X β) h β (.ref k off len) c->∃b n cap cc el,c= .slice (some ⟨b,off*sz,none⟩) len cap/\(b,n)∈β k/\off+len<=n/\w.heap[b]? =some (.cells cc el (0,0))/\n*sz<=cc.size/\1<=sz:=λ{k off len sz xs fl c} hk hl hv=>by
   cases hv with
   |fz _ _ hf=>cases hf
   |dref _ _ _ _ hd _=>rw[hk]at hd;cases hd
   |ref0 _ _ _ _ _ _ _ _=>omega
   |ref _ _ _ sz' xs' st' b n cap hk'' hb hn hc hs'=>
    rw[hk]at hk'';cases hk'';obtain⟨g1,_,_,_,_,f,_,_,g8⟩:=HH.ent k _ hk;obtain⟨cc,el,c1,c2,_⟩:=g8 b n hb;exact⟨b,n,cap,cc,el,rfl,hb,hn,c1,c2,g1⟩
  obtain⟨ba,na,ca,cca,ela,q1,q2,q3,q4,q5,q6⟩:=shp hka' hla h1;obtain⟨bb,nb,cb,ccb,elb,r1,r2,r3,r4,r5,r6⟩:=shp hkb' hlb h2;have hbb:ba≠bb:=λe=>hkk (HH.disj kA kB ba na nb q2 (by rw[e];exact r2))
  have hsa:w.shape? ba=some (ela,cca.size):=by unfold World.shape?;rw[q4]
  have hsb':w.shape? bb=some (elb,ccb.size):=by unfold World.shape?;rw[r4]
  have hkB:ccb.size≠0:=by
   have:=zYo szB (show 1<=nb by omega);omega
  have hfr:∀o,w.frozen? ⟨ba,o,none⟩=false:=λo=>by simp[World.frozen?,q4]
  have hrun:=run_callFunc_extern hf hname hb hn hE #[a.eval x,a.eval y] w;rw[q1,r1,Lib.run_overlaps_apart w T R e hu' te.size (λw=>qA (hP _ _ he) w) ⟨ba,0*szA,none⟩ ⟨bb,offB*szB,none⟩ lenA ca lenB cb hbb ela elb cca.size ccb.size hsa hsb' hkB (hfr _) (hfr _)]at hrun;exact⟨_,by simp only[execOp,resolve,hfe,Deferred.ofValue,invoke];simpa [q1,r1]using hrun,.fz _ _ (.s _)⟩
theorem KG {X:Nat->Prop} {h:yJ} {β:uW} {w:World} (HH:jK X h β w) {kn:Nat} (hkn:h kn=none) {ys vs:List AV} {sz e gc:Nat} {olds news:List Value} {zc:Array Value} (f g:Nat->Nat->Value) (hp:1<=sz) (hlo:olds.length=ys.length*sz) (ho:∀i j,i<ys.length->j<sz->olds[i*sz+j]? =some (f i j)) (ho1:∀u∈olds,u.oneCell'=true)
  (hln:news.length=vs.length*sz) (hn:∀i j,i<vs.length->j<sz->news[i*sz+j]? =some (g i j)) (hn1:∀u∈news,u.oneCell'=true) (hwy:∀(i:Nat) (y:AV),ys[i]? =some y->y.cells.length=sz) (hwv:∀(i:Nat) (y:AV),vs[i]? =some y->y.cells.length=sz)
  (h1f:∀i j,i<ys.length->j<sz->(f i j).oneCell'=true) (h1g:∀i j,i<vs.length->j<sz->(g i j).oneCell'=true) (hrf:∀(i:Nat) (y:AV) (j:Nat) v,ys[i]? =some y->y.cells[j]? =some v->xE w (xO X β) v (f i j)) (hrg:∀(i:Nat) (y:AV) (j:Nat) v,vs[i]? =some y->y.cells[j]? =some v->xE w (xO X β) v (g i j))
  (hz1:∀v∈zc.toList,v.oneCell'=true) (hzs:zc.size=sz) (hge:ys.length+vs.length<=gc) (hmx:ys.length+vs.length<=cU):
  ∃β',xK X w h β (w.drew.alloc (.cells (olds.toArray++news.toArray++Builtin.zeroCells zc (gc-(ys.length+vs.length))) e)) (over [(kn,.arr sz (ys++vs) false)] h) β'/\
   yB (w.drew.alloc (.cells (olds.toArray++news.toArray++Builtin.zeroCells zc (gc-(ys.length+vs.length))) e)) (xO X β') (over [(kn,.arr sz (ys++vs) false)] h) β' (.ref kn 0 (ys++vs).length) (.slice (some ⟨w.heap.size,0,none⟩) (ys.length+vs.length) gc):=by
 have HD:=HH.drew (w.drawn+1);have hlen:(ys++vs).length=ys.length+vs.length:=by simp
 have hat:∀(i:Nat) y,(ys++vs)[i]? =some y->(i<ys.length/\ys[i]? =some y)∨(¬i<ys.length/\vs[i-ys.length]? =some y):=λi y hy=>by
  by_cases hi:i<ys.length
  ·rw[zY0 hi]at hy;exact .inl ⟨hi,hy⟩
  ·rw[zYt (by omega)]at hy;exact .inr ⟨hi,hy⟩
 have evo:∀{v c},xE w (xO X β) v c->xE w.drew (xO X β) v c:=λhf=>xE.evo (w:=w) (w':=w.drew) (zX7 _) (λ_ _ hd=>⟨rfl,hd⟩) hf
 have:=xK.newArr (w:=w.drew) HD hkn (olds.toArray++news.toArray++Builtin.zeroCells zc (gc-(ys.length+vs.length))) e sz (ys++vs) gc (λi j=>if i<ys.length then f i j else g (i-ys.length) j) hp (by rw[hlen];exact hmx) (by rw[hlen];exact hge) (by
   simp only[yC2,yA6,size_zeroCells,hzs,hlo,hln,<-zY8]
   congr 1;omega) (qT.get (((qT.arr ho1).app (qT.arr hn1)).app (qT.zero hz1 _))) (λi y hy=>by
   rcases hat i y hy with⟨_,h⟩|⟨_,h⟩
   ·exact hwy i y h
   ·exact hwv _ y h) (λi j hi hj=>by
   rw[hlen]at hi
   have hlt:i*sz+j<(ys.length+vs.length)*sz:=by
    have:=zYo sz (show i+1<=ys.length+vs.length by omega);rw[zY8,zZ3]at this;omega
   rw[zY8]at hlt;rw[zZ9 (by simp[hlo,hln];omega)];split
   ·rename_i hi'
    have hlt':i*sz+j<ys.length*sz:=by
     have:=zYo sz (show i+1<=ys.length by omega);rw[zY8,zZ3]at this;omega
    rw[zZ9 (by simp[hlo];omega)];simpa using ho i j hi' hj
   ·rename_i hi';have hge':ys.length*sz<=i*sz:=zYo _ (by omega);have e4:i*sz+j-ys.length*sz=(i-ys.length)*sz+j:=by rw[yC4];omega
    rw[yB3 (by simp[hlo];omega)];simp only[yA6,hlo,e4,yAx]
    exact hn _ _ (by omega) hj) (λi j hi hj=>by
   rw[hlen]at hi;split
   ·exact h1f i j ‹_› hj
   ·exact h1g _ j (by omega) hj) (λi y j v hy hv=>by
   rcases hat i y hy with⟨hi,h⟩|⟨hi,h⟩
   ·rw[zX3 hi];exact evo (hrf i y j v h hv)
   ·rw[zX2 hi];exact evo (hrg _ y j v h hv))
 obtain⟨β',G,hv⟩:=this;refine⟨β',xK.trans HH (xK.drew HH (w.drawn+1)) G,?_⟩;rw[hlen]at hv⊢;exact hv
def zJ4 (hP:uZ P TT) {T e c:Nat} {x:Operand} {ti:TI} {xs:List AV} (hx:yM (zG st.tm) x= .slc c xs) (hT:TT[T]? =some ti) (hd:ti.d= .slice e):wV P st (.call ⟨.builtin .cap, #[x], #[T]⟩) (.s (.int .i64 (c:Int))) [] [] []:=
 yO λoo X tm h w β a ho hg hr HH Ht=>by
  obtain⟨d0,o0,y0,p0,f0,g0⟩:=oo;dsimp only at ho;subst ho;have h1:=gU Ht hg (x:=x) kJ hx;obtain⟨u,hu,hd'⟩:=xU (hP _ _ hT) w;obtain rfl:=vX (hd'.trans hd);generalize hcx:a.eval x=cx at h1
  cases h1 with
  | fz _ _ hf=>
   cases hf with
   |slc _ _ b o sz f hL hc hh=>
    exact⟨_,by simp[execOp,resolve,invoke,builtin,Builtin.cap_,hcx,hu,goInt],.fz _ _ (.s _)⟩
def CD (hP:uZ P TT) {T e c:Nat} {x:Operand} {ti:TI} {xs:List AV} (hx:yM (zG st.tm) x= .slc c xs) (hT:TT[T]? =some ti) (hd:ti.d= .slice e):wV P st (.call ⟨.builtin .len, #[x], #[T]⟩) (.s (.int .i64 (xs.length:Int))) [] [] []:=
 yO λoo X tm h w β a ho hg hr HH Ht=>by
  obtain⟨d0,o0,y0,p0,f0,g0⟩:=oo;dsimp only at ho;subst ho;have h1:=gU Ht hg (x:=x) kJ hx;obtain⟨u,hu,hd'⟩:=xU (hP _ _ hT) w;obtain rfl:=vX (hd'.trans hd);generalize hcx:a.eval x=cx at h1
  cases h1 with
  | fz _ _ hf=>
   cases hf with
   |slc _ _ b o sz f hL hc hh=>
    exact⟨_,by simp[execOp,resolve,invoke,builtin,Builtin.len_,hcx,hu,goInt],.fz _ _ (.s _)⟩
def zJ5 (hP:uZ P TT) {T e c r:Nat} {x hi:Operand} {ti te:TI} {ki:IntKind} {xs:List AV} (hx:yM (zG st.tm) x= .slc c xs) (hh:yM (zG st.tm) hi= .s (.int ki (r:Int))) (hT:TT[T]? =some ti) (hd:ti.d= .slice e) (he:TT[e]? =some te) (hr:r<=xs.length):
  wV P st (.slice T x none (some hi) none) (.slc c (xs.take r)) [] [] []:=
 yO λoo X tm h w β a ho hg hr' HH Ht=>by
  obtain⟨d0,o0,y0,p0,f0,g0⟩:=oo;dsimp only at ho;subst ho;have h1:=gU Ht hg (x:=x) uT hx;obtain⟨u,hu,hd'⟩:=xU (hP _ _ hT) w;obtain rfl:=vX (hd'.trans hd);have hs:=qA (hP _ _ he) w;generalize hcx:a.eval x=cx at h1
  cases h1 with
  | fz _ _ hf=>
   cases hf with
   | slc _ _ b o sz f hL hc hh2=>
    have hbd:=fK (P:=P) Ht hg (lo:=none) (hi:=some hi) (len:=xs.length) (cap:=c) (l:=0) (r:=r) (λy hy=>by cases hy) (λy hy=>by cases hy;simp[Op.operands]) Z ⟨ki,r,hh,rfl⟩ (zYl _) (zY9 hr hc) true;rw[yBb]at hbd;have hlt:(xs.take r).length=r:=by simp;omega
    have hat:∀(i:Nat) y,(xs.take r)[i]? =some y->xs[i]? =some y:=λi y hy=>by
     rw[zZi]at hy;split at hy
     ·exact hy
     ·cases hy
    refine⟨_,by simp only[execOp,Instr.sliceAt,Instr.slice,Sem.run_bind,hu,Result.andThen_ok,hcx,yBb,hbd,hs,Sem.run_pure];rfl,.fz _ _ ?_⟩
    have e0:(if c=0 then(some ⟨b,o,none⟩:Option Addr)else(some ⟨b,o,none⟩:Option Addr).map (·.add (0*te.size)))=some ⟨b,o,none⟩:=by
     split
     ·rfl
     ·rw[Option.map_some,YL];simp
    have:=xE.slc (w:=w) (D:=xO X β) c (xs.take r) b o sz f ⟨hL.lt,hL.nd,hL.pos,by rw[hlt];exact zY9 hr hL.max,λi y hy=>hL.wide i y (hat i y hy),λi j hi hj=>hL.cell i j (by omega) hj,λi j hi hj=>hL.one i j (by omega) hj⟩ (by rw[hlt];exact zY9 hr hc) (λi y j v hy hv=>hh2 i y j v (hat i y hy) hv);rw[hlt]at this;rw[yCe,yCe,e0];exact this
theorem zJ6 (hP:uZ P TT) {T I e c n:Nat} {s x:Operand} {ti te tn:TI} {k0:IntKind} {nx:Int} {ys:List AV} (kn:Nat) (hs:yM (zG st.tm) s= .slc c ys) (hx:yM (zG st.tm) x= .s (.int .i64 nx)) (hT:TT[T]? =some ti) (hd:ti.d= .slice e) (he:TT[e]? =some te) (hI:TT[I]? =some tn) (hdn:tn.d= .int k0)
  (hb:Nat.ble te.bytes 65536=true) (hp:Nat.ble 1 te.size=true) (hzl:Nat.beq te.zero.length te.size=true) (hz1:te.zero.all (·.oneCell')=true) (hzc:Nat.beq (uN te).cells.length te.size=true) (hzc2:(uN te).cells=te.zero.map .s)
  (hnx:nx=(n:Int)) (hpos:1<=n) (hmax:ys.length+n<=1073741824) (hc:c<ys.length+n) (hw0:∀(i:Nat) (y:AV),ys[i]? =some y->y.cells.length=te.size):
  wV P st (.call ⟨.builtin .append, #[s,x], #[T,I]⟩) (.ref kn 0 (ys++List.replicate n (uN te)).length) [(kn,.arr te.size (ys++List.replicate n (uN te)) false)] [] [kn]:=by
 refine⟨?_⟩;intro X tm h hg _ hn o a w β ho HH Ht;obtain⟨d0,o0,y0,p0,f0,g0⟩:=o;dsimp only at ho;subst ho;have h1:=gU Ht hg (x:=s) kJ hs;have h2:=vV Ht hg (x:=x) kJ hx;have hp:=zYm hp;have hb:=zYm hb;have hzl:=zY2 hzl;have hzc:=zY2 hzc;subst hnx;obtain⟨i,z,hu,hi,hz,e1,e2,e3⟩:=wX hP hT hd he;obtain⟨_,u2,_,_,hu2,_,hd2,_⟩:=uM (hP _ _ hI);obtain rfl:=IL (hd2.symm.trans hdn);generalize hcx:a.eval s=cx at h1
 cases h1 with
 | fz _ _ hf=>
  cases hf with
  | slc _ _ b o sz f hL hcc hh=>
   have hzs:z.cells.size=te.size:=by rw[<-hzl,<-e3];simp
   have hS:Src w (xO X β) h β false ys te.size b o f:=⟨hw0,λi j hi hj=>by
    have:sz=te.size:=by
     have h4:=hL.wide i ys[i] TK;have h5:=hw0 i ys[i] TK;omega
    subst this;exact hL.cell i j hi hj,λi j hi hj=>by
    have:sz=te.size:=by
     have h4:=hL.wide i ys[i] TK;have h5:=hw0 i ys[i] TK;omega
    subst this;exact hL.one i j hi hj,.ofF hh⟩
   obtain⟨hf1,hf2⟩:=hS.flat hp
   have hbytes:(ys.length+n)*i.bytes<=140737488355328:=by
    have:=yAz hmax (show i.bytes<=65536 by omega);omega
   have hfit:=growslice_fits (need:=ys.length+n) (old:=c) (bytes:=i.bytes) hc hbytes;have hw:IntKind.i64.wrap (n:Int)=(n:Int):=kV ⟨by show(-9223372036854775808:Int)<=_;omega,by show _<=(9223372036854775807:Int);omega⟩
   have hs0:n*i.size≠0:=by
    have:1*1<=n*i.size:=yAz hpos (by omega);omega
   have h48:¬(281474976710656<(n:Int)*(i.bytes:Int)):=by
    have h3:(n:Int)*(i.bytes:Int)=((n*i.bytes:Nat):Int):=by simp
    have h4:n*i.bytes<=(ys.length+n)*i.bytes:=zYo _ (by omega);rw[h3];omega
   have h48':¬(281474976710656<Builtin.nextslicecap (ys.length+n) c*i.bytes):=by omega
   have h63:¬(9223372036854775807<((ys.length:Int)+(n:Int))):=by omega
   have hroom:¬(ys.length+n<=c):=by omega
   have hneg:¬((n:Int)<0):=by omega
   have hfo:=run_firstCells_some (P:=P) w.drew i.size ys.length ⟨b,o,none⟩ ys.length c (flat f ys.length i.size) (zQ _ _ _) (by rw[e1];simpa using hf1)
   have hrun:(Builtin.append_ #[T,I] y0 #[.slice (some ⟨b,o,none⟩) ys.length c,.int .i64 (n:Int)]).run P w= .ok (.slice (some ⟨w.heap.size,0,none⟩) (ys.length+n) (grownCap w (ys.length+n) c e)) (w.drew.alloc (.cells ((flat f ys.length i.size).toArray++(Builtin.zeroCells z.cells n).toList.toArray++Builtin.zeroCells z.cells (grownCap w (ys.length+n) c e-(ys.length+n))) e)):=by
    have ha:(asIntOf (.int .i64 (n:Int))).run P w= .ok (.i64,(n:Int)) w:=rfl;simp[Builtin.append_,run_underlying hu,run_underlying hu2,sizeOf,typeInfo,zeroValue,hi,hz,asInt,ha,hw,hneg,h48,hs0,h63,h48',hroom,Question.forced,hfo,newRow,grownCap]
   generalize hW:w.drew.alloc (.cells ((flat f ys.length i.size).toArray++(Builtin.zeroCells z.cells n).toList.toArray++Builtin.zeroCells z.cells (grownCap w (ys.length+n) c e-(ys.length+n))) e)=W at hrun
   have hex:(execOp a.eval ⟨d0,.call ⟨.builtin .append, #[s,x], #[T,I]⟩,y0,p0,f0,g0⟩).run P w= .ok (.value (.slice (some ⟨w.heap.size,0,none⟩) (ys.length+n) (grownCap w (ys.length+n) c e))) W:=by
    simp[execOp,resolve,invoke,builtin,hcx,h2,hrun]
   rw[hex];have hge:=grownCap_ge w (ys.length+n) c e;have hrl:(List.replicate n (uN te)).length=n:=by simp
   have hat:∀(j:Nat) v,(List.replicate n (uN te))[j]? =some v->v=uN te:=λj v hv=>by
    rw[zZ0]at hv;split at hv
    ·exact(yAh hv).symm
    ·cases hv
   have hzat:∀j,j<te.size->∃v,te.zero[j]? =some v/\z.cells.getD j undef=v:=λj hj=>by
    have:=kW z.cells j (by omega);refine⟨_,?_,rfl⟩;rw[<-e3];simpa using this
   have hz1':∀v∈z.cells.toList,v.oneCell'=true:=λv hv=>zYi.1 hz1 v OX
   have:=KG (X:=X) (kn:=kn) (e:=e) (gc:=grownCap w (ys.length+n) c e) HH (hn kn zW) (ys:=ys) (vs:=List.replicate n (uN te)) (sz:=te.size) (olds:=flat f ys.length i.size) (news:=(Builtin.zeroCells z.cells n).toList) (zc:=z.cells) f (λ_ j=>z.cells.getD j undef) hp
    (by rw[zQ,e1]) (λi' j hi' hj=>by rw[e1];exact kD f hi' hj) (by rw[e1];exact hf2) (by rw[hrl,yA2,size_zeroCells,hzs]) (λi' j hi' hj=>by
     rw[hrl]at hi'
     have hlt:i'*te.size+j<n*te.size:=by
      have:=zYo te.size (show i'+1<=n by omega);rw[zY8,zZ3]at this;omega
     have hm':(i'*te.size+j) % te.size=j:=by rw[yCm,yCv];exact yAs hj
     rw[Array.getElem?_toList];simp only[Builtin.zeroCells,yDg,yC9,hzs,hlt,yDq,Option.map_some,hm']
     congr 1
     have hj':j<z.cells.size:=by omega
     simp[zY7,hj']) (λu hu=>qT.zero hz1' n u hu) hS.wide (λi' y hy=>by rw[hat i' y hy];exact hzc) hS.one (λi' j _ hj=>by
     obtain⟨v,hv,hv'⟩:=hzat j hj;rw[hv']
     exact zYi.1 hz1 v (zZk hv)) (λi' y j v hy hv=>hS.rep.toF Z i' y j v hy hv) (λi' v j u hv hu=>by
     rw[hat i' v hv,hzc2]at hu;rw[zX8,zYf]at hu;obtain⟨q,hq,rfl⟩:=hu;have hj:j<te.size:=by rw[<-hzl];exact(zYu.1 hq).1
     obtain⟨v',hv1,hv2⟩:=hzat j hj;rw[hq]at hv1;cases hv1;rw[hv2]
     exact .s _) hz1' hzs (by rw[hrl];exact hge) (by rw[hrl];unfold cU;omega)
   rw[hrl,hW]at this;exact this
theorem zE4 (hP:uZ P TT) {T e c:Nat} {s x:Operand} {ti te:TI} {ys vs:List AV} {xv:AV} (kn:Nat) (hs:yM (zG st.tm) s= .slc c ys) (hx:yM (zG st.tm) x=xv) (hT:TT[T]? =some ti) (hd:ti.d= .slice e) (he:TT[e]? =some te) (hvs:DY (zC st.h) xv=some vs)
  (hb:Nat.ble te.bytes 65536=true) (hp:Nat.ble 1 te.size=true) (hzl:Nat.beq te.zero.length te.size=true) (hz1:te.zero.all (·.oneCell')=true)
  (hsz:∀y,vs[0]? =some y->y.cells.length=te.size) (hpos:1<=vs.length) (hmax:ys.length+vs.length<=1073741824) (hc:c<ys.length+vs.length) (hw0:∀(i:Nat) (y:AV),ys[i]? =some y->y.cells.length=te.size):
  wV P st (.call ⟨.builtin .append, #[s,x], #[T,T]⟩) (.ref kn 0 (ys++vs).length) [(kn,.arr te.size (ys++vs) false)] (PH xv) [kn]:=by
 refine⟨?_⟩;intro X tm h hg hr hn o a w β ho HH Ht;obtain⟨d0,o0,y0,p0,f0,g0⟩:=o;dsimp only at ho;subst ho;have h1:=gU Ht hg (x:=s) kJ hs;have h2:=gU Ht hg (x:=x) kJ hx;have hp:=zYm hp;have hb:=zYm hb;have hzl:=zY2 hzl;obtain⟨i,z,hu,hi,hz,e1,e2,e3⟩:=wX hP hT hd he;obtain⟨ad,cap,hcv,_,hmx,hsrc⟩:=bF HH h2 ((fL hr).trans hvs) hsz;obtain⟨b2,q,g,rfl,hS2⟩:=hsrc (λh0=>by rw[h0]at hpos;simp at hpos);obtain⟨hg1,hg2⟩:=hS2.flat hp;generalize hcx:a.eval s=cx at h1
 cases h1 with
 | fz _ _ hf=>
  cases hf with
  | slc _ _ b o sz f hL hcc hh=>
   have hzs:z.cells.size=te.size:=by rw[<-hzl,<-e3];simp
   have hS:Src w (xO X β) h β false ys te.size b o f:=⟨hw0,λi j hi hj=>by
    have:sz=te.size:=by
     have h4:=hL.wide i ys[i] TK;have h5:=hw0 i ys[i] TK;omega
    subst this;exact hL.cell i j hi hj,λi j hi hj=>by
    have:sz=te.size:=by
     have h4:=hL.wide i ys[i] TK;have h5:=hw0 i ys[i] TK;omega
    subst this;exact hL.one i j hi hj,.ofF hh⟩
   obtain⟨hf1,hf2⟩:=hS.flat hp
   have hbytes:(ys.length+vs.length)*i.bytes<=140737488355328:=by
    have:=yAz hmax (show i.bytes<=65536 by omega);omega
   have hrun:=run_append_grow (P:=P) w T y0 e i z hu hi hz ⟨b,o,none⟩ ys.length c (flat f ys.length te.size) (by rw[zQ,e1]) hf1 ⟨b2,q,none⟩ vs.length cap (flat g vs.length te.size) (by rw[zQ,e1]) hg1 hc (by omega) (growslice_fits hc hbytes);generalize hW:w.drew.alloc (.cells ((flat f ys.length te.size).toArray++(flat g vs.length te.size).toArray++Builtin.zeroCells z.cells (grownCap w (ys.length+vs.length) c e-(ys.length+vs.length))) e)=W at hrun
   have hex:(execOp a.eval ⟨d0,.call ⟨.builtin .append, #[s,x], #[T,T]⟩,y0,p0,f0,g0⟩).run P w= .ok (.value (.slice (some ⟨w.heap.size,0,none⟩) (ys.length+vs.length) (grownCap w (ys.length+vs.length) c e))) W:=by
    simp[execOp,resolve,invoke,builtin,hcx,hcv,hrun]
   rw[hex];have hge:=grownCap_ge w (ys.length+vs.length) c e
   have:=KG (X:=X) (kn:=kn) (e:=e) (gc:=grownCap w (ys.length+vs.length) c e) HH (hn kn zW) (ys:=ys) (vs:=vs) (sz:=te.size) (olds:=flat f ys.length te.size) (news:=flat g vs.length te.size) (zc:=z.cells) f g hp
    (zQ _ _ _) (λi' j hi' hj=>kD f hi' hj) hf2 (zQ _ _ _) (λi' j hi' hj=>kD g hi' hj) hg2 hS.wide hS2.wide hS.one hS2.one (hS.rep.toF Z) (hS2.rep.toF Z) (λv hv=>zYi.1 hz1 v OX) hzs hge (by unfold cU;omega)
   rw[hW]at this;exact this
theorem zE5 (hP : uZ P TT) {T e k len sz :Nat} {s x:Operand} {ti te:TI} {xs vs:List AV} {xv:AV} (hs:yM (zG st.tm) s= .ref k 0 len) (hk:zC st.h k=some (.arr sz xs ⟨false,false⟩)) (hx:yM (zG st.tm) x=xv) (hT:TT[T]? =some ti) (hd:ti.d= .slice e) (he:TT[e]? =some te) (hvs:DY (zC st.h) xv=some vs)
    (hss:Nat.beq sz te.size=true) (hsz:∀y,vs[0]? =some y->y.cells.length=sz) (hpos:1<=vs.length) (hl:1<=len) (hroom:len+vs.length<=xs.length) (hmax:xs.length<=1073741824):
    wV P st (.call ⟨.builtin .append, #[s,x], #[T,T]⟩) (.ref k 0 (len+vs.length)) [(k,.arr sz (xs.take len++vs++xs.drop (len+vs.length)) ⟨false,false⟩)] (k::PH xv) []:=by
  refine⟨?_⟩;intro X tm h hg hr _ o a w β ho HH Ht;obtain⟨d0,o0,y0,p0,f0,g0⟩:=o;dsimp only at ho;subst ho;have hk':=(hr k zW).trans hk;have h1:=gU Ht hg (x:=s) kJ hs;have h2:=gU Ht hg (x:=x) kJ hx;have hss:=zY2 hss;obtain⟨i,z,hu,hi,hz,e1,e2,e3⟩:=wX hP hT hd he;obtain⟨g1,g2,g3,g4,g5,f,g6,g7,g8⟩:=HH.ent k _ hk';obtain⟨ad,cap,hcv,_,hmx,hsrc⟩:=bF HH h2 ((fL λk' hk=>hr k' (by simp[hk])).trans hvs) hsz;obtain⟨b2,q,fy,rfl,hS⟩:=hsrc (λh0=>by rw[h0]at hpos;simp at hpos);obtain⟨hf1,hf2⟩:=hS.flat g1;generalize hcx:a.eval s=cx at h1
  cases h1 with
  |fz _ _ hf=>cases hf
  |dref _ _ _ _ hd _=>rw[hk']at hd;cases hd
  |ref0 _ _ sz' xs' st' b hk'' hn=>omega
  | ref _ _ _ sz' xs' st' b n cp hk'' hbm hn hc hs'=>
    have h3:=hk'';rw[hk']at h3;cases h3
    obtain⟨rr,hbk,hnx,hr0⟩:∃rr,β k=(b,n)::rr/\n=xs.length/\∀b' n',(b',n')∈rr->n'=0:=by
      cases hbk:β k with
      |nil=>rw[hbk]at hbm;simp at hbm
      | cons q r=>
        obtain⟨b0,n0⟩:=q;obtain⟨e1,e2,_⟩:=g5 b0 n0 r hbk;have e2:=e2 Z;rw[hbk]at hbm;simp at hbm
        rcases hbm with⟨rfl,rfl⟩|hm
        · exact⟨r,rfl,e1,e2⟩
        · have:=e2 b n hm;omega
    subst hnx;obtain⟨cur,el,c1,c2,c3,c4⟩:=g8 b _ hbm
    have hcs:cur.size=cp*sz:=by
      have:wG w b=cur.size:=by unfold wG World.shape?;rw[c1];rfl
      rw[<-this,<-hs',zZm]
    have hcN:xs.length<=cp:=by
      have h5:xs.length*sz<=cp*sz:=by rw[<-hcs];exact c2
      exact yCq h5 (by omega)
    have hfit:(len+vs.length)*sz<=cur.size:=zY9 (zYo _ hroom) c2
    have hrun:=bL hP hT hd he w y0 b 0 len cp cur el c1 ⟨b2,q,none⟩ vs.length cap (flat fy vs.length sz) (by rw[zQ,hss]) hf1 hf2 (by omega) (by
      rw[zQ,<-hss,zZm,<-zY8];exact hfit)
    have hb0:0*sz=0:=yB5 _;generalize hcur':(cur.toList.take (0+len*te.size)++flat fy vs.length sz++cur.toList.drop (0+len*te.size+(flat fy vs.length sz).length)).toArray=cur' at hrun
    have hex:(execOp a.eval ⟨d0,.call ⟨.builtin .append, #[s,x], #[T,T]⟩,y0,p0,f0,g0⟩).run P w= .ok (.value (.slice (some ⟨b,0,none⟩) (len+vs.length) cp)) (w.setRow b cur'):=by
      simp[execOp,resolve,invoke,builtin,hcx,hcv,hrun]
    rw[hex];rw[zY8]at hfit;rw[zZm,<-hss]at hcur'
    have hsz':cur'.size=cur.size:=by
      rw[<-hcur'];simp only[yA6,zX4,zYn,zYv,yA2,zQ];omega
    have hone2:∀q,q<cur'.size->(cur'.getD q undef).oneCell'=true:=by
      rw[<-hcur'];refine qT.get (qT.arr λv hv=>?_);have hc4:=qT.of c4
      rcases zYy.1 hv with hv|hv
      · rcases zYy.1 hv with hv|hv
        · exact hc4 v (zZl hv)
        · exact hf2 v hv
      · exact hc4 v (zY1 hv)
    let f':Nat->Nat->Value:=λi j=>if len<=i/\i<len+vs.length then fy (i-len) j else f i j
    have hlen:(xs.take len++vs++xs.drop (len+vs.length)).length=xs.length:=by
      simp only[zX4,zYn,zYv];omega
    have hat:∀(i:Nat) y,(xs.take len++vs++xs.drop (len+vs.length))[i]? =some y->(len<=i/\i<len+vs.length/\vs[i-len]? =some y)∨(¬(len<=i/\i<len+vs.length)/\xs[i]? =some y):=λi y hy=>by
      have ht:(xs.take len).length=len:=by simp;omega
      by_cases h5:i<len
      · rw[zYw,zY0 (by omega),zZi,zX3 h5]at hy;exact .inr ⟨by omega,hy⟩
      · by_cases h6:i<len+vs.length
        · rw[zYw,zYt (by omega),ht,zY0 (by omega)]at hy;exact .inl ⟨by omega,h6,hy⟩
        · rw[zYt xX]at hy;simp only[zX4,ht]at hy;rw[zZt,show len+vs.length+(i-(len+vs.length))=i by omega]at hy;exact .inr ⟨by omega,hy⟩
    have hcell:∀i j,i<xs.length->j<sz->cur'[i*sz+j]? =some (f' i j):=λi j hi hj=>by
      rw[<-hcur'];simp only[f',yAx];by_cases h5:i<len
      · have hlt:i*sz+j<len*sz:=by
          have:=zYo sz (show i+1<=len by omega);rw[zY8,zZ3]at this;omega
        rw[zX2 (by omega),zYw,zY0 xX,zZi,zX3 hlt];simpa using c3 i j hi hj
      · have ht:(List.take (len*sz) cur.toList).length=len*sz:=by simp;omega
        have hge:len*sz<=i*sz:=zYo _ (by omega);by_cases h6:i<len+vs.length
        · have e4:i*sz+j-len*sz=(i-len)*sz+j:=by rw[yC4];omega
          have hlt:(i-len)*sz+j<vs.length*sz:=by
            have:=zYo sz (show(i-len)+1<=vs.length by omega);rw[zY8,zZ3]at this;omega
          rw[zX3 (by omega),zYw,zYt (by rw[ht];omega),ht,zY0 (by rw[zQ];omega),e4];exact kD fy (by omega) hj
        · have hge2:(len+vs.length)*sz<=i*sz:=zYo _ (by omega);rw[zY8]at hge2;rw[zX2 (by omega),zYt (by simp only[zX4,ht,zQ];omega),zZt];simp only[zX4,ht,zQ];rw[show len*sz+vs.length*sz+(i*sz+j-(len*sz+vs.length*sz))=i*sz+j by omega];simpa using c3 i j hi hj
    have G:=xK.step (w':=w.setRow b cur') HH k (.arr sz (xs.take len++vs++xs.drop (len+vs.length)) ⟨false,false⟩) (β k) zW (λj hj hn=>setRow_other w b j cur' (λe=>hn xs.length DO)) Z Z Z (λb n hm=> .inl ⟨n,hm⟩) (λb n _=>qO c1 hsz' b)
      (λe he=>by rw[hk']at he;cases he;exact .inr ⟨⟨_,_,rfl,by rw[hlen];exact zX7 _⟩,λ_ n hm=>⟨n,zX7 _,hm⟩⟩) λE=>⟨g1,by rw[hlen];exact g2,λ_=>by rw[zZ,hbk];simp,λi' x' hx'=>by
        rcases hat i' x' hx' with⟨_,_,h⟩|⟨_,h⟩
        · exact hS.wide _ x' h
        · exact g4 i' x' h,λb' n' r hb'=>by
        rw[zZ]at hb';rw[hlen]
        exact g5 b' n' r hb',f',λi' x' j u hx' hu=>by
        simp only[f']
        rcases hat i' x' hx' with⟨q1,q2,h⟩|⟨q1,h⟩
        · rw[zX3 ⟨q1,q2⟩];exact⟨(hS.rep.toV _ x' j u h hu).evo E,λ_=>(hS.rep.toF Z _ x' j u h hu).evo E.size E.fz⟩
        · rw[zX2 q1];exact⟨(g6.toV i' x' j u h hu).evo E,λ_=>(g6.toF Z i' x' j u h hu).evo E.size E.fz⟩,λi' j hi' hj=>by
        rw[hlen]at hi';simp only[f'];split
        · exact hS.one _ _ (by omega) hj
        · exact g7 i' j hi' hj,λb' n' hb'=>by
        rw[zZ,hbk]at hb';simp at hb';by_cases hbb:b'=b
        · subst hbb;refine⟨cur',el,setRow_heap w _ _ _ _ _ c1,?_,λi' j hi' hj=>?_,hone2⟩
          · rw[hsz']
            rcases hb' with⟨_,rfl⟩|hb'
            · exact c2
            · have:=hr0 b' n' hb';subst this;omega
          · rcases hb' with⟨_,rfl⟩|hb'
            · exact hcell i' j hi' hj
            · have:=hr0 b' n' hb';omega
        · have hb' : (b', n') ∈ rr := by rcases hb' with⟨h,_⟩|h;· exact absurd h hbb
                                         · exact h
          obtain⟨c',el',q1,q2,_,q4⟩:=g8 b' n' (by rw[hbk];simp[hb']);have:=hr0 b' n' hb';subst this
          exact⟨c',el',(setRow_other w b b' cur' hbb).trans q1,q2,λi' j hi' _=>by omega,q4⟩⟩
    refine⟨_,G,?_⟩;have hR:yB w (xO X β) h β (.ref k 0 (len+vs.length)) (.slice (some ⟨b,0*sz,none⟩) (len+vs.length) cp):= .ref k 0 (len+vs.length) sz xs ⟨false,false⟩ b xs.length cp hk' hbm (by omega) (by omega) hs';rw[hb0]at hR;exact hR.evo G.evo
def zAz (hP:uZ P TT) {T e:Nat} {x:Operand} {ti:TI} {k len sz:Nat} {xs:List AV} (hx:yM (zG st.tm) x= .ref k 0 len) (hk:zC st.h k=some (.arr sz xs ⟨false,false⟩)) (hT:TT[T]? =some ti) (hd:ti.d= .slice e) (hl:1<=len):
  zWi P st (.call ⟨.builtin .cap, #[x], #[T]⟩) (λv d=>∃c:Int,v= .s (.int .i64 c)/\(xs.length:Int)<=c/\d=[]) [k] []:=by
 refine⟨λX tm h hg hr _ o a w β ho HH Ht=>?_⟩;obtain⟨d0,o0,y0,p0,f0,g0⟩:=o;dsimp only at ho;subst ho;have h1:=gU Ht hg (x:=x) kJ hx;have hk':=(hr k zW).trans hk;obtain⟨u,hu,hd'⟩:=xU (hP _ _ hT) w;obtain rfl:=vX (hd'.trans hd);generalize hcx:a.eval x=cx at h1
 cases h1 with
 |fz _ _ hf=>cases hf
 |dref _ _ _ _ hd _=>rw[hk']at hd;cases hd
 |ref0 _ _ sz' xs' st' b hk'' hn=>omega
 | ref _ _ _ sz' xs' st' b n cap hk'' hb hn hc hs'=>
  have h3:=hk'';rw[hk']at h3;cases h3
  have hrun:(execOp a.eval ⟨d0,.call ⟨.builtin .cap, #[x], #[T]⟩,y0,p0,f0,g0⟩).run P w= .ok (.value (.int .i64 cap)) w:=by
   simp[execOp,resolve,invoke,builtin,Builtin.cap_,hcx,hu,goInt]
  rw[hrun];obtain⟨g1,g2,g3,g4,g5,f,g6,g7,g8⟩:=HH.ent k _ hk'
  have hnx:n=xs.length:=by
   cases hbk:β k with
   |nil=>rw[hbk]at hb;simp at hb
   |cons q r=>
    obtain⟨b0,n0⟩:=q;obtain⟨e1,e2,_⟩:=g5 b0 n0 r hbk;have e2:=e2 Z;rw[hbk]at hb;simp at hb
    rcases hb with⟨rfl,rfl⟩|hm
    ·exact e1
    ·have:=e2 b n hm;omega
  subst hnx;obtain⟨c,el,c1,c2,c3,c4⟩:=g8 b _ hb
  have hcs:c.size=cap*sz:=by
   have:wG w b=c.size:=by unfold wG World.shape?;rw[c1];rfl
   rw[<-this,<-hs',zZm]
  have hcN:xs.length<=cap:=by
   have h5:xs.length*sz<=cap*sz:=by rw[<-hcs];exact c2
   exact yCq h5 (by omega)
  exact⟨_,[],⟨cap,rfl,by omega,rfl⟩,β,by rw[cM];exact xK.refl HH,by rw[cM];exact .fz _ _ (.s _)⟩
end
section
variable {P:Program} {K0:List Nat} {F:Fr K0} {m:Nat} {ops:Array Oper} {rest:List Oper} {fs:List FP} {Q:List FP->St->Prop} {tm:List (Nat×AV)} {h:List (Nat×xN)}
theorem wN.restr2 {st:St} {a:Act} {w:World} (R:wN F m st a w) (K ts:List Nat) (hK:K0.all (K.contains ·)=true) (t:Nat) (v:AV) (hg:∀i,v≠ .gh i)
  (hv:∀X β,jK X (zC st.h) β w->yB w (xO X β) (zC st.h) β (zG st.tm t) (a.eval (.tmp t))->yB w (xO X λk=>if k∈K then β k else []) (zC (vD K (zC st.h))) (λk=>if k∈K then β k else []) v (a.eval (.tmp t))):
  wN F m ⟨(t,v)::(Av.restr K ts st).tm,(Av.restr K ts st).h⟩ a w:=by
 have R':=wN.restr R K ts hK;obtain⟨⟨X,β,hX,H,Ht,KK,hJ,hD⟩,nd,gs,hl⟩:=R;obtain⟨H',hvv⟩:=H.restr K;refine⟨⟨X,_,hX,H',λj=>?_,⟨λk e he=>?_,KK.size,KK.keep,λk b n hm=>?_,λk b n hm=>?_,KK.bs,KK.os,KK.tape,KK.output⟩,λi hi=>?_,hD⟩,R'.nd,gs,hl⟩
 ·show yB _ _ _ _ (zG ((t,v)::(Av.restr K ts st).tm) j) _
  rw[yP];split
  ·rename_i hj;subst hj;exact hv X β H (Ht j)
  ·rw[gB];split
   ·exact hvv _ _ (Ht j)
   ·exact .fz _ _ (.bot _)
 ·have hk:k∈K:=by
   have:=zYi.1 hK k (F.hh k e he);simpa using this
  have h1:=KK.knd k e he;have hr:∀e',zC st.h k=some e'->zC (vD K (zC st.h)) k=some (kI K (zC st.h) e'):=λe' h2=>by rw[xZ,zX3 hk,h2];rfl
  cases e with
  |dead=>exact h1
  |box cs=>obtain⟨cs',h2⟩:=h1;exact⟨_,hr _ h2⟩
  |obj cs=>obtain⟨cs',h2⟩:=h1;exact⟨_,hr _ h2⟩
  |arr sz xs sl=>obtain⟨xs',sl',h2,h3⟩:=h1;obtain⟨xs2,fl2,h4,h5⟩:=gT K (zC st.h) sz xs' sl';exact⟨xs2,fl2,(hr _ h2).trans (by rw[h4]),by rw[h5];exact h3⟩
 ·(try dsimp only at hm)
  split at hm
  ·exact KK.own k b n hm
  ·simp at hm
 ·have hk:k∈K:=by
   have:=zYi.1 hK k (F.hK k b n hm);simpa using this
  (try dsimp only)
  rw[zX3 hk];exact KK.pas k b n hm
 ·have h1:zG st.tm GS= .gh i:=by
   change zG ((t,v)::(Av.restr K ts st).tm) GS= .gh i at hi
   rw[yP]at hi;split at hi
   ·exact absurd hi (hg i)
   ·rw[gB]at hi;split at hi
    ·exact IH hi
    ·cases hi
  refine F.Jst i _ X w w _ (hJ i h1) (zX7 _) (λ_ _ _=>rfl) (λb hb=>?_) (λb hb=>?_) Z Z Z
  ·obtain⟨k,n,hm⟩:=hb
   (try dsimp only at hm)
   split at hm
   ·exact .inl ⟨k,n,hm⟩
   ·simp at hm
  ·obtain⟨k,n,hm⟩:=hb;exact H'.lt b (.inr ⟨k,n,hm⟩)
def zTq (t k N:Nat) (K ts:List Nat) {sz:Nat} {xs:List AV} (hv:zG tm t= .ref k 0 xs.length) (hk:zC h k=some (.arr sz xs ⟨false,false⟩)) (hl:1<=xs.length) (hN:xs.length<=N) (hmx:N<=1073741824) (hK:K0.all (K.contains ·)=true) (hkK:K.contains k=false) {st':St} (he:restr K ts ⟨tm,h⟩=st')
  (h1:∀c,c<N->yE P F m ops false rest ⟨(t,.slc c xs)::st'.tm,st'.h⟩ fs Q) (h2:yE P F m ops false rest ⟨tm,(k,.arr sz (xs++List.replicate (N-xs.length) (eX sz)) ⟨false,false⟩)::h⟩ fs Q):yE P F m ops false rest ⟨tm,h⟩ fs Q:=⟨λa w R=>by
 subst he;have R0:=R;obtain⟨⟨X,β,hX,HH,Ht,KK,hJ,hD⟩,nd,gs,hl'⟩:=R0;have hRt:=Ht t;dsimp only at hRt;rw[hv]at hRt;obtain⟨b,cap,hcx,hroom⟩:=zE2 HH hk hRt hl hN hmx;by_cases hc:cap<N
 ·refine(h1 cap hc).run a w (wN.restr2 R K ts hK t (.slc cap xs) (λi h=>by cases h) λX β H hR=>?_);dsimp only at hR;rw[hv]at hR;obtain⟨H',hvv⟩:=H.restr K;have h5:=hvv _ _ hR
  have e5:wQ K (zC h) (.ref k 0 xs.length)= .sl false xs:=by
   simp only[wQ,hkK,zZ6,hk];rw[zYq,zX6]
  dsimp only at h5⊢;rw[e5,hcx]at h5;rw[hcx];have hne:xs≠[]:=λh0=>by rw[h0]at hl;simp at hl
  generalize hcs:(Value.slice (some ⟨b,0*sz,none⟩) xs.length cap)=cs at h5
  cases h5 with
  | fz _ _ hf=>
   cases hf with
   |nil a cap=>exact absurd Z hne
   |sl nn xs b o sz cap f hx hL hc hh=>
    cases hcs;exact .fz _ _ (.slc _ _ _ _ _ f hL hc hh)
 ·obtain⟨β',G⟩:=hroom (by omega);refine h2.run a w ?_;have nd':∀j,over [(k,xN.arr sz (xs++List.replicate (N-xs.length) (eX sz)) ⟨false,false⟩)] (zC h) j≠some .dead:=fW Z nd;have R':=VD.put hX HH Ht KK hJ hD gs hl' G nd' (v:= .bot) (c:=undef) (.fz _ _ (.bot _)) none (λd hd=>by cases hd);have e1:(λj=>if(none:Option Nat)=some j then AV.bot else zG tm j)=zG tm:=funext λj=>by simp
  show VD F m (zG tm) (zC ((k,xN.arr sz (xs++List.replicate (N-xs.length) (eX sz)) ⟨false,false⟩)::h)) a w
  rw[show zC ((k,xN.arr sz (xs++List.replicate (N-xs.length) (eX sz)) ⟨false,false⟩)::h)=over [(k,xN.arr sz (xs++List.replicate (N-xs.length) (eX sz)) ⟨false,false⟩)] (zC h)from vG [(k,xN.arr sz (xs++List.replicate (N-xs.length) (eX sz)) ⟨false,false⟩)] h,<-e1]
  exact R'⟩
def zA0 (t:Nat) {c:Nat} {xs:List AV} (hv:zG tm t= .slc c xs) (hx:1<=xs.length) (hk:yE P F m ops false rest ⟨(t,.sl true xs)::tm,h⟩ fs Q):yE P F m ops false rest ⟨tm,h⟩ fs Q:=⟨λa w R=>hk.run a w (by
 obtain⟨⟨X,β,hX,HH,Ht,KK,hJ,hD⟩,nd,gs,hl⟩:=R;refine⟨⟨X,β,hX,HH,λj=>?_,KK,λi hi=>?_,hD⟩,nd,gs,hl⟩
 ·rw[yP];split
  ·rename_i hj;subst hj;have:=Ht j;dsimp only at this;rw[hv]at this;generalize a.eval (.tmp j)=cx at this
   cases this with
   |fz _ _ hf=>
    cases hf with
    |slc _ _ b o sz f hL hc hh=>exact .fz _ _ (.sl true xs b o sz c f (λh0=>by rw[h0]at hx;simp at hx) hL hc hh)
  ·exact Ht j
 ·rw[yP]at hi;split at hi
  ·cases hi
  ·exact hJ i hi)⟩
end
section
variable {P:Program} {K0:List Nat} {F:Fr K0} {m:Nat} {ops:Array Oper} {rest:List Oper} {fs:List FP} {tm:List (Nat×AV)} {h:List (Nat×xN)}
def zJ7 {st:St} {K ts:List Nat} {k:List (Nat×AV)->List (Nat×xN)->Prop} (hk:eO K (zC st.h) st.tm ts λT=>fD K (zC st.h) K λU=>k T U):k (restr K ts st).tm (restr K ts st).h:=by
 rw[fG,qY]at hk;exact hk
def wJ {Q:List FP->St->Prop} (K ts:List Nat) (hK:K0.all (K.contains ·)=true) (h1:eO K (zC h) tm ts λT=>fD K (zC h) K λU=>yE P F m ops false rest ⟨T,U⟩ fs Q):yE P F m ops false rest ⟨tm,h⟩ fs Q:=
 ⟨λa w R=>(zJ7 (st:=⟨tm,h⟩) (k:=λT U=>yE P F m ops false rest ⟨T,U⟩ fs Q) h1).run a w (wN.restr R K ts hK)⟩
def uS {st:St} {c:Code} {Q:Exit->St->Prop} (K ts:List Nat) (hK:K0.all (K.contains ·)=true) (h1:eO K (zC st.h) st.tm ts λT=>fD K (zC st.h) K λU=>uQ P F m c ⟨T,U⟩ Q):uQ P F m c st Q:=
 jJ K ts hK Z (zJ7 (k:=λT U=>uQ P F m c ⟨T,U⟩ Q) h1)
structure zOz (p:Prop):Prop where
 h:p
def PI (P:Program) (F:Fr K0) (m:Nat) (c:Code) (Q:Exit->St->Prop) (K ts:List Nat):Nat->St->Prop
 |0,_=>False
 |n+1,st=>uQ P F m c (restr K ts st) (aN Q λs=>zOz (PI P F m c Q K ts n s))
def wM {st:St} {c:Code} {Q:Exit->St->Prop} (n:Nat) (K ts:List Nat) (hK:K0.all (K.contains ·)=true) (h1:zOz (PI P F m c Q K ts n st)):uQ P F m (.loop c) st Q:=⟨λa w R=>by
 refine wpIn_loop_rounds n ?_
 induction n generalizing st a w with
 |zero=>exact h1.h.elim
 |succ n ih=>
  refine Code.wpIn_mono (λe a' w' ⟨s,q1,q2⟩=>?_) (h1.h.run a w (wN.restr R K ts hK))
  cases e with
  |normal=>exact ih q1 a' w' q2
  |_=>exact⟨s,q1,q2⟩⟩
def yH {st st0:St} {c:Code} {Q:Exit->St->Prop} {n:Nat} {K ts:List Nat} (he:restr K ts st=st0) (h1:uQ P F m c st0 (aN Q λs=>zOz (PI P F m c Q K ts n s))):zOz (PI P F m c Q K ts (n+1) st):=by
 subst he;exact⟨h1⟩
def zA1 {α:Type} {cs vs:List α} (hl:vs.length=cs.length):TM cs 0 vs=vs:=by
 apply zZf;intro j;rw[XF _ _ _ _ (by omega)];by_cases hj:j<vs.length
 ·rw[zX3 ⟨zYl _,by omega⟩];rfl
 ·rw[zX2 (λh=>hj (by omega)),zYx (by omega),zYx (by omega)]
def aY {TT:List TI} {dr:Bool} {Q:List FP->St->Prop} {ty:Nat} {pos:String} {after:Array Edge} (hP:uZ P TT) {T k:Nat} {p x:Operand} {ti:TI} {cs vs:List AV} (hp:yM (zG tm) p= .ptr k 0 0) (hk0:zC h k=some (.box cs)) (hx:yM (zG tm) x= .agg vs) (hT:TT[T]? =some ti) (hs:Nat.beq vs.length ti.size=true) (hl:Nat.beq vs.length cs.length=true)
  (hk:yE P F m ops dr rest ⟨tm,(k,.box vs)::h⟩ (⟨true,[k],[k]⟩::fs) Q):yE P F m ops dr (⟨none,.store T p x,ty,pos,after,none⟩::rest) ⟨tm,h⟩ fs Q:=by
 have e1:=zY2 hs;have e2:=zY2 hl;refine jF (v:= .bot) (k:=k) (e:= .box vs) (r:=[k]) (nw:=[]) hP ?_ Z Z hk;simp only[exec,hp,hT,hk0,hx,frc,AV.ok,AV.cells,gL,zA1 e2]
 rw[show(true&&(Nat.beq vs.length ti.size&&Nat.ble (0+ti.size) cs.length))=true by
  rw[hs,yBw (by omega)];rfl]
 rfl
end
end Av
end Go.Proofs.YteajjdidebfcjaaGreat
