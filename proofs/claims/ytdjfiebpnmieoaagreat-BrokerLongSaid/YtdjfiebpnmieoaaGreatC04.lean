/- Part 4. -/
import Derived.Test.YtdjfiebpnmieoaaGreatC03
import Derived.Lib.Overlaps
import Derived.LoopNIn
namespace Go.Proofs.YtdjfiebpnmieoaaGreat.Av
set_option linter.all false
set_option maxRecDepth 4000
open List renaming length->ln,replicate->nm,take->ny
open Inhabited renaming default->dd
variable {xv:AV}{Q:Exit->St->Prop}{nx:Int}{k0:IntKind}{vs xs ys:List AV}{I L T c e k key len n off sz:Nat}{d l s x:Operand}{st:St}{te ti tn:TI}{w:World}{β:qG}{h:yS}
section
variable {P:Program} {TT:List TI} {st:St}
theorem Ni (hP:qS P TT) {n:Nat} (kn:Nat) (hs:yY (zM st.tm) s= .s (.slice none 0 0)) (hx:yY (zM st.tm) x= .s (.int .i64 nx)) (hT:TT[T]? =some ti) (hd:ti.d= .slice e) (he:TT[e]? =some te) (hI:TT[I]? =some tn) (a2:tn.d= .int k0)
 (a8:nx=(n:Int)) (B:1<=n) (ac:n<=1073741824) (hb:Nat.ble te.bytes 65536=true) (hp:Nat.ble 1 te.size=true) (R:Nat.beq (ln te.zero) te.size=true) (M:te.zero.all (·.oneCell')=true) (O:Nat.beq (uW te).cells.length te.size=true) (au:(uW te).cells=te.zero.map .s):
  vC P st (.call ⟨.builtin .append, #[s,x], #[T,I]⟩) (.ref kn 0 n) [(kn,.arr te.size (nm n (uW te)) false)] [] [kn]:=by
 refine⟨?_⟩;intro X tm h hg _ hn o a w β ho HH Ht;obtain⟨d0,o0,y0,p0,f0,g0⟩:=o;dsimp only at ho;subst ho;have h1:=vY Ht hg (x:=s) gH hs;have h2:=vY Ht hg (x:=x) gH hx;have hp:=zAt hp;have hb:=zAt hb;have R:=zA9 R;have O:=zA9 O;subst a8;obtain⟨i,z,C,hi,hz,e1,e2,e3⟩:=vK hP hT hd he;obtain⟨_,u2,_,_,ba,_,a1,_⟩:=uU (hP _ _ hI);obtain rfl:=EU (a1.symm.trans a2)
 have av:n*i.bytes<=281474976710656:=by
  have:=zDa ac (show i.bytes<=65536 by omega);omega
 have hw:IntKind.i64.wrap (n:Int)=(n:Int):=jD ⟨by show(-9223372036854775808:Int)<=_;omega,by show _<=(9223372036854775807:Int);omega⟩
 have a9:n*i.size≠0:=by
  have:1*1<=n*i.size:=zDa B (by omega);omega
 have ax:¬(281474976710656<(n:Int)*(i.bytes:Int)):=by
  grind
 have V:¬(281474976710656<Builtin.nextslicecap n 0*i.bytes):=by rw[nextslicecap_zero B];omega
 have az:¬(9223372036854775807<(n:Int)):=by omega
 have a6:n≠0:=by omega
 have ag:¬((n:Int)<0):=by omega
 have ap:(Builtin.append_ #[T,I] y0 #[.slice none 0 0,.int .i64 (n:Int)]).run P w= .ok (.slice (some ⟨w.heap.size,0,none⟩) n (grownCap w n 0 e)) (w.drew.alloc (.cells (Builtin.zeroCells z.cells n++Builtin.zeroCells z.cells (grownCap w n 0 e-n)) e)):=by
  have ha:(asIntOf (.int .i64 (n:Int))).run P w= .ok (.i64,(n:Int)) w:=rfl;have a7:¬((n:Int)<=0):=by omega
  simp[Builtin.append_,run_underlying C,run_underlying ba,sizeOf,typeInfo,zeroValue,hi,hz,asInt,ha,hw,ag,a7,ax,a9,a6,az,V,Question.forced,run_firstCells_none,newRow,grownCap]
 have a3:(execOp a.eval ⟨d0,.call ⟨.builtin .append, #[s,x], #[T,I]⟩,y0,p0,f0,g0⟩).run P w= .ok (.value (.slice (some ⟨w.heap.size,0,none⟩) n (grownCap w n 0 e))) (w.drew.alloc (.cells (Builtin.zeroCells z.cells n++Builtin.zeroCells z.cells (grownCap w n 0 e-n)) e)):=by
  simp[execOp,resolve,invoke,builtin,h1,h2,ap]
 rw[a3];have HD:=HH.drew (w.drawn+1);have S:z.cells.size=te.size:=by rw[<-R,<-e3];simp
 have bk:=grownCap_ge w n 0 e;have A:(nm n (uW te)).length=n:=by simp
 have W:∀(j:Nat) v,(nm n (uW te))[j]? =some v->v=uW te:=λj v hv=>by
  grind
 have E:∀j,j<te.size->∃v,te.zero[j]? =some v/\z.cells.getD j undef=v:=λj hj=>by
  have:=gJ z.cells j (by omega)
  grind
 obtain⟨β',G,hv⟩:=wG.newArr HD (hn kn zW) (Builtin.zeroCells z.cells n++Builtin.zeroCells z.cells (grownCap w n 0 e-n)) e te.size (nm n (uW te)) (grownCap w n 0 e) (λ_ j=>z.cells.getD j undef) hp (by rw[A];unfold aP;omega) (by rw[A];omega) (by
   simp only[zEs,size_zeroCells,S,<-zBq]
   congr 1;omega) (kT.get ((kT.zero (λv hv=>zAq.1 M v JJ) _).app (kT.zero (λv hv=>zAq.1 M v JJ) _)))
  (λj v hv=>by rw[W j v hv];exact O) (λU j hi' hj=>by
   rw[A]at hi'
   have Y:U*te.size+j<n*te.size:=by
    have:=zA1 te.size (show U+1<=n by omega)
    grind
   have a5:(U*te.size+j) % te.size=j:=by rw[zEh,zE3];exact zC9 hj
   rw[zCg (by rw[size_zeroCells,S];exact Y)];have a4:j<z.cells.size:=by omega
   simp only[Builtin.zeroCells,zFd,zEy,S,Y,zEp,zB8,a5]
   congr 1
   simp[zBe,a4]) (λU j _ hj=>by
   obtain⟨v,hv,bb⟩:=E j hj;rw[bb]
   exact zAq.1 M v (zB1 hv)) (λU v j u hv C=>by
   rw[W U v hv,au]at C;rw[zAi]at C
   have hj:j<te.size:=by
    cases ar:te.zero[j]? with
    |none=>rw[ar]at C;cases C
    |some v9=>have:=(zAz.1 ar).1;omega
   obtain⟨v2,bd,bf⟩:=E j hj;rw[bd]at C;cases C;rw[bf]
   exact .s _)
 rw[A]at hv;exact⟨β',wG.trans HH (wG.drew HH (w.drawn+1)) G,hv⟩
def JP (C:qS P TT) (hx:yY (zM st.tm) x= .s (.slice none 0 0)) (hT:TT[T]? =some ti) (hd:ti.d= .slice e):
  vC P st (.call ⟨.builtin .cap, #[x], #[T]⟩) (.s (.int .i64 0)) [] [] []:=
 xA λM X W h w β a A E U O B=>by
  obtain⟨d0,o0,Y,V,R,S⟩:=M;dsimp only at A;subst A;have hc:=vY B E (x:=x) gH hx;obtain⟨u,G,z⟩:=wL (C _ _ hT) w;obtain rfl:=uP (z.trans hd);exact⟨_,by simp[execOp,resolve,invoke,builtin,Builtin.cap_,hc,G,goInt],.fz _ _ (.s _)⟩
def ee (C:qS P TT) {k:IntKind} (hx:yY (zM st.tm) x= .s (.slice none 0 0)) (hl:yY (zM st.tm) l= .s (.int k 0)) (hT:TT[T]? =some ti) (hd:ti.d= .slice e) (M:TT[e]? =some te):
  vC P st (.slice T x none (some l) none) (.s (.slice none 0 0)) [] [] []:=
 xA λR X tm h w β a G E W S B=>by
  obtain⟨d0,o0,y0,Y,U,V⟩:=R;dsimp only at G;subst G;have hc:=vY B E (x:=x) qF hx;obtain⟨u,O,z⟩:=wL (C _ _ hT) w;obtain rfl:=uP (z.trans hd);have hs:=kE (C _ _ M) w;have hb:=dK (P:=P) B E (lo:=none) (hi:=some l) (len:=0) (cap:=0) (l:=0) (r:=0) (λy A=>by cases A) (λy A=>by cases A;simp[Op.operands]) Z ⟨k,0,hl,by omega⟩ (zAg _) (zAg _) true;rw[zDc]at hb;exact⟨_,by simp only[execOp,Instr.sliceAt,Instr.slice,Sem.run_bind,O,Result.andThen_ok,hc,zDc,hb,hs,Sem.run_pure];rfl,.fz _ _ (.s _)⟩
theorem GU (hP:qS P TT) {key:Nat} {yl:List AV} (b5:yY (zM st.tm) d= .ref key off len) (hk:zE st.h key=some (.arr sz xs false)) (hx:yY (zM st.tm) x=xv) (hT:TT[T]? =some ti) (hd:ti.d= .slice e) (he:TT[e]? =some te)
 (cd:je (zE st.h) xv=some yl) (M:yl.take len=ys) (cb:∀y,ys[0]? =some y->ln y.cells=sz) (bu:1<=ln ys\/yl.length<=len) (a2:Nat.beq sz te.size=true):
  vC P st (.call ⟨.builtin .copy, #[d,x], #[T,T]⟩) (.s (.int .i64 (ln ys))) [(key,.arr sz (xs.take off++ys++xs.drop (off+ln ys)) false)] (key::JK xv) []:=by
 refine⟨?_⟩;intro X tm h hg hr _ o a w β ho HH Ht;obtain⟨d0,o0,y0,p0,f0,g0⟩:=o;dsimp only at ho;subst ho;have hk':=(hr key zW).trans hk;have h1:=cC Ht hg (x:=d) gH b5;have h2:=cC Ht hg (x:=x) gH hx;have a2:=zA9 a2;obtain⟨g1,g2,g3,g4,g5,f,g6,g7,g8⟩:=HH.ent key _ hk'
 obtain⟨ad,cap,hc,_,b6,a1⟩:=VX (sz:=sz) HH h2 ((cY λk' hk=>hr k' (by simp[hk])).trans cd) (λy B=>cb y (by
  rcases bu with h|h
  .rw[<-M,zB3,Os (by have:ln ys<=len:=(by rw[<-M];simp;omega);omega)];exact B
  .rw[<-M,zAj h];exact B))
 have hn:ln ys<=len:=by rw[<-M];simp;omega
 have a5:ln ys=min len (ln yl):=by rw[<-M];simp
 have az:min (ln yl) len=ln ys:=by rw[a5,Nat.min_comm]
 have ci:ln ys<=ln yl:=by omega
 have bx:ys≠[]->∃b o f,ad=some ⟨b,o,none⟩/\A1 w (xX X β) h β false ys sz b o f:=λb7=>by
  obtain⟨b,o,f,e,hS⟩:=a1 (λh0=>b7 (by rw[<-M,h0];simp))
  have bf:∀(i:Nat) y,ys[i]? =some y->yl[i]? =some y:=λi y B=>by
   rw[<-M,zB3]at B;split at B
   .exact B
   .cases B
  exact⟨b,o,f,e,λi y B=>hS.wide i y (bf i y B),λi j hi hj=>hS.cell i j (by omega) hj,λi j hi hj=>hS.one i j (by omega) hj,λi y j v B hv=>hS.rep i y j v (bf i y B) hv⟩
 obtain⟨i,z,hu,hi,cl,e1,e2,e3⟩:=vK hP hT hd he
 have br:∀b n,(b,n)∈β key->n=ln xs\/n=0:=λb n hb=>by
  cases hbk:β key with
  |nil=>rw[hbk]at hb;simp at hb
  |cons q rr=>
   obtain⟨b0,n0⟩:=q;obtain⟨q1,q2,_⟩:=g5 b0 n0 rr hbk;rw[hbk]at hb;simp at hb
   rcases hb with⟨_,rfl⟩|hb
   .exact .inl q1
   .exact .inr (q2 Z b n hb)
 have bs:∀{w'},(Builtin.copy_ #[T,T] y0 #[a.eval d,a.eval x]).run P w= .ok (goInt (ln ys)) w'->(execOp a.eval ⟨d0,.call ⟨.builtin .copy, #[d,x], #[T,T]⟩,y0,p0,f0,g0⟩).run P w= .ok (.value (.int .i64 (ln ys))) w':=λhv=>by
  simp[execOp,resolve,invoke,builtin,hv,goInt]
 by_cases O:ys=[]
 .obtain rfl:yl=[]:=by
   rcases bu with h|h
   .rw[O]at h;simp at h
   .rw[zAj h]at M;rw[M,O]
  subst O;have cc:xs.take off++[]++xs.drop (off+([]:List AV).length)=xs:=by simp
  rw[cc]
  obtain⟨bd,cp,ax⟩:∃bd cp,a.eval d= .slice bd len cp:=by
   generalize a.eval d=cx at h1
   cases h1 with
   |fz _ _ hf=>cases hf
   |dref _ _ _ _ hd _=>rw[hk']at hd;cases hd
   |ref _ _ _ _ _ _ _ _ _ _ _ _ _ _=>exact⟨_,_,rfl⟩
   |ref0 _ _ _ _ _ _ _ _=>exact⟨_,_,rfl⟩
  have ap:(Builtin.firstCells i.size 0 (.slice ad 0 cap)).run P w= .ok #[] w:=by
   cases ad with
   |none=>rfl
   |some a=>simp only[Builtin.firstCells,loadCells,zEi,loadCellsFrom];rfl
  rw[bs (w':=w) (by
   rw[ax,hc]
   cases bd with
   |none=>simp[Builtin.copy_,run_underlying hu,sizeOf,typeInfo,hi,Builtin.lenOf,ap]
   |some b=>simp[Builtin.copy_,run_underlying hu,sizeOf,typeInfo,hi,Builtin.lenOf,ap,storeCells])]
  have G:=wG.step (w':=w) HH key (.arr sz xs false) (β key) (zAg _) (λ_ _ _=>rfl) Z Z Z (λb n W=> .inl ⟨n,W⟩) (λ_ _ _=>rfl) (λe he=>by rw[hk']at he;cases he;exact .inr ⟨⟨_,_,rfl,zAg _⟩,λ_ n W=>⟨n,zAg _,W⟩⟩)
   (λE=>⟨g1,g2,λh=>by rw[yO];exact g3 h,g4,λb n r hr=>by rw[yO]at hr;exact g5 b n r hr,f,fI.evo E g6,g7,λb n W=>by rw[yO]at W;exact g8 b n W⟩)
  exact⟨_,G,.fz _ _ (.s _)⟩
 obtain⟨b2,q,fy,rfl,hS⟩:=bx O
 have cf:0<ln ys:=by cases ys with|nil=>exact absurd Z O|cons _ _=>simp
 obtain⟨ap,a9⟩:=hS.flat g1
 obtain⟨b,n,cp,ax,R,cj,cg⟩:∃b n cp,a.eval d= .slice (some ⟨b,off*sz,none⟩) len cp/\(b,n)∈β key/\off+len<=n/\len<=cp:=by
  generalize a.eval d=cx at h1
  cases h1 with
  |fz _ _ hf=>cases hf
  |dref _ _ _ _ hd _=>rw[hk']at hd;cases hd
  |ref _ _ _ cm cn st' b n cp bk hb hn b4 ck=>
   rw[hk']at bk;cases bk;exact⟨b,n,cp,rfl,hb,hn,b4⟩
  |ref0 _ _ _ _ _ _ _ _=>omega
 have b9:n=ln xs:=by rcases br b n R with h|h<;>omega
 subst b9;obtain⟨V,el,c1,c2,c3,c4⟩:=g8 b _ R;have ar:(off+ln ys)*sz<=V.size:=zBi (zA1 _ (by omega)) c2;have ba:=run_firstCells_some (P:=P) w sz (ln ys) ⟨b2,q,none⟩ (ln yl) cap (flat fy (ln ys) sz) (yL _ _ _) ap;have a3:=run_storeCells_at P b (off*sz) el (flat fy (ln ys) sz) 0 V w c1 (by rw[yL,zC8,<-zBq];exact ar) a9;simp only[zC8]at a3;generalize S:(V.toList.take (off*sz)++flat fy (ln ys) sz++V.toList.drop (off*sz+(flat fy (ln ys) sz).length)).toArray=A at a3
 rw[bs (w':=w.setRow b A) (by
  rw[ax,hc];have a6:i.size=sz:=e1.trans a2.symm;rw[<-a6]at ba;have b1:(storeCells ⟨b,off*sz,none⟩ (flat fy (ln ys) i.size)).run P w= .ok () (w.setRow b A):=by rw[a6];exact a3
  simp[Builtin.copy_,run_underlying hu,Builtin.lenOf,sizeOf,typeInfo,hi,az,ba,b1])]
 rw[zBq]at ar
 have au:A.size=V.size:=by
  rw[<-S];simp only[zDl,zAh,zAw,zA8,zDn,yL];omega
 have ac:∀q,q<A.size->(A.getD q undef).oneCell'=true:=by
  rw[<-S];refine kT.get (kT.arr λv hv=>?_);have a8:=kT.of c4
  rcases zA5.1 hv with hv|hv
  .rcases zA5.1 hv with hv|hv
   .exact a8 v (zB5 hv)
   .exact a9 v hv
  .exact a8 v (zBj hv)
 let f':Nat->Nat->Value:=λi j=>if off<=i/\i<off+ln ys then fy (i-off) j else f i j
 have ce:off+ln ys<=ln xs:=by omega
 have U:(xs.take off++ys++xs.drop (off+ln ys)).length=ln xs:=by
  simp only[zAh,zAw,zA8];omega
 have a7:∀(i:Nat) y,(xs.take off++ys++xs.drop (off+ln ys))[i]? =some y->(off<=i/\i<off+ln ys/\ys[i-off]? =some y)\/(¬(off<=i/\i<off+ln ys)/\xs[i]? =some y):=λi y B=>by
  have ht:(xs.take off).length=off:=by simp;omega
  by_cases h5:i<off
  .rw[zA0,zBg (by omega),zB3,Os h5]at B;exact .inr ⟨by omega,B⟩
  .by_cases h6:i<off+ln ys
   .rw[zA0,zBc (by omega),ht,zBg (by omega)]at B;exact .inl ⟨by omega,h6,B⟩
   .rw[zBc uH]at B;simp only[zAh,ht]at B;rw[zCt,show off+ln ys+(i-(off+ln ys))=i by omega]at B;exact .inr ⟨by omega,B⟩
 have av:∀i j,i<ln xs->j<sz->A[i*sz+j]? =some (f' i j):=λi j hi hj=>by
  rw[<-S];simp only[f',zDd];by_cases h5:i<off
  .have bl:i*sz+j<off*sz:=by
    have:=zA1 sz (show i+1<=off by omega);rw[zBq,zCu]at this;omega
   rw[Of (by omega),zA0,zBg uH,zB3,Os bl];simpa using c3 i j hi hj
  .have ht:(ny (off*sz) V.toList).length=off*sz:=by simp;omega
   have ch:off*sz<=i*sz:=zA1 _ (by omega);by_cases h6:i<off+ln ys
   .have e4:i*sz+j-off*sz=(i-off)*sz+j:=by rw[zFb];omega
    have bl:(i-off)*sz+j<ln ys*sz:=by
     have:=zA1 sz (show(i-off)+1<=ln ys by omega);rw[zBq,zCu]at this;omega
    rw[Os (by omega),zA0,zBc (by rw[ht];omega),ht,zBg (by rw[yL];omega),e4];exact gZ fy (by omega) hj
   .have bb:(off+ln ys)*sz<=i*sz:=zA1 _ (by omega);rw[zBq]at bb;rw[Of (by omega),zBc (by simp only[zAh,ht,yL];omega),zCt];simp only[zAh,ht,yL];rw[show off*sz+ln ys*sz+(i*sz+j-(off*sz+ln ys*sz))=i*sz+j by omega];simpa using c3 i j hi hj
 obtain⟨rr,hbk,ca⟩:∃rr,β key=(b,ln xs)::rr/\∀b' n',(b',n')∈rr->n'=0:=by
  cases hbk:β key with
  |nil=>rw[hbk]at R;simp at R
  |cons q r=>
   obtain⟨b0,n0⟩:=q;obtain⟨q1,q2,_⟩:=g5 b0 n0 r hbk;have q2:=q2 Z;rw[hbk]at R;simp at R
   rcases R with⟨rfl,rfl⟩|W
   .exact⟨r,rfl,q2⟩
   .have:=q2 b _ W;omega
 refine⟨ZJ β key (β key),wG.step HH key _ _ zW (λj hj hn=>setRow_other w b j A (λe=>hn (ln xs) Qg)) Z Z Z (λb n W=> .inl ⟨n,W⟩) (λb n _=>gK c1 au b)
  (λe he=>by rw[hk']at he;cases he;exact .inr ⟨⟨_,_,rfl,by rw[U];exact zAg _⟩,λ_ n W=>⟨n,zAg _,W⟩⟩) λE=>⟨g1,by rw[U];exact g2,λ_=>by rw[yO,hbk];simp,λY x' a4=>?_,λb' n' r C=>?_,f',λY x' j u a4 hu=>?_,λY j hi' hj=>?_,λb' n' C=>?_⟩,.fz _ _ (.s _)⟩
 .rcases a7 Y x' a4 with⟨_,_,h⟩|⟨_,h⟩
  .exact hS.wide _ x' h
  .exact g4 Y x' h
 .rw[yO]at C;rw[U];exact g5 b' n' r C
 .simp only[f']
  rcases a7 Y x' a4 with⟨q1,q2,h⟩|⟨q1,h⟩
  .rw[Os ⟨q1,q2⟩];exact⟨(hS.rep.toV _ x' j u h hu).evo E,λ_=>(hS.rep.toF Z _ x' j u h hu).evo E.size E.fz⟩
  .rw[Of q1];exact⟨(g6.toV Y x' j u h hu).evo E,λ_=>(g6.toF Z Y x' j u h hu).evo E.size E.fz⟩
 .rw[U]at hi';simp only[f'];split
  .exact hS.one _ _ (by omega) hj
  .exact g7 Y j hi' hj
 .rw[yO]at C
  rcases br b' n' C with rfl|rfl
  .have ag:b'=b:=by
    rw[hbk]at C;simp at C
    rcases C with rfl|h
    .rfl
    .have:=ca b' _ h;omega
   subst ag;exact⟨A,el,setRow_heap w _ _ _ _ _ c1,by rw[au];exact c2,λY j hi' hj=>av Y j hi' hj,ac⟩
  .by_cases ag:b'=b
   .subst ag;exact⟨A,el,setRow_heap w _ _ _ _ _ c1,by omega,λY j hi' _=>by omega,ac⟩
   .obtain⟨c',b3,q1,q2,_,q4⟩:=g8 b' 0 C;exact⟨c',b3,(setRow_other w b b' A ag).trans q1,q2,λY j hi' _=>by omega,q4⟩
def JQ (E:qS P TT) {key:Nat} (u:yY (zM st.tm) d= .ref key off len) (hk:zE st.h key=some (.arr sz xs false)) (hx:yY (zM st.tm) x=xv) (hT:TT[T]? =some ti) (hd:ti.d= .slice e) (G:TT[e]? =some te)
 (B:je (zE st.h) xv=some ys) (A:∀y,ys[0]? =some y->ln y.cells=sz) (z:Nat.beq sz te.size=true) (C:ln ys<=len):
  vC P st (.call ⟨.builtin .copy, #[d,x], #[T,T]⟩) (.s (.int .i64 (ln ys))) [(key,.arr sz (xs.take off++ys++xs.drop (off+ln ys)) false)] (key::JK xv) []:=
 GU E u hk hx hT hd G B (zAj C) A (.inr C) z
end
section
variable {P:Program} {K0:List Nat} {F:Fr K0} {m:Nat} {tm:List (Nat×AV)} {h:List (Nat×wB)}
theorem wT.trunc {a:Act} (R:wT F m ⟨tm,h⟩ a w) (t kn K:Nat) {st:Fl} (O:K0=[]) (hv:zM tm t= .ref kn 0 0) (hk:zE h kn=some (.arr sz xs st)):wT F m ⟨[(t,.ref K 0 0)],[(K,.arr sz [] true)]⟩ a w:=by
 obtain⟨⟨X,β,hX,H,Ht,G,hJ,hD⟩,nd,gs,hl⟩:=R;have g:=H.ent kn _ hk;obtain⟨g1,g2,g3,g4,g5,f,g6,g7,g8⟩:=g;have h1:=Ht t;rw[hv]at h1
 have S:∀k e,zE [(K,wB.arr sz [] true)] k=some e->k=K/\e= .arr sz [] true:=λk e C=>by
  rw[xN]at C;split at C
  .rename_i hh;cases C;exact⟨hh,rfl⟩
  .cases C
 have key:∀l:List (Nat×Nat),(∀b n,(b,n)∈l->n=0/\∃z,(b,z)∈β kn)->(l=[]\/∃b,l=[(b,0)])->yK w (xX X λk=>if k=K then l else []) (zE [(K,wB.arr sz [] true)]) (λk=>if k=K then l else []) (.ref K 0 0) (a.eval (.tmp t))->wT F m ⟨[(t,.ref K 0 0)],[(K,.arr sz [] true)]⟩ a w:=by
  intro l W Y U
  have B:∀k b n,(b,n)∈(if k=K then l else [])->k=K/\n=0/\∃z,(b,z)∈β kn:=λk b n u=>by
   split at u
   .rename_i hh;exact⟨hh,W b n u⟩
   .simp at u
  have V:∀b,xX X (λk=>if k=K then l else []) b->xX X β b:=λb hd=>by
   rcases hd with hx|⟨k,n,u⟩
   .exact .inl hx
   .obtain⟨_,_,z,A⟩:=B k b n u;exact .inr ⟨kn,z,A⟩
  have HH:gW X (zE [(K,wB.arr sz [] true)]) (λk=>if k=K then l else []) w:=by
   refine⟨λk e C=>?_,λk C=>?_,λk k' b n z q1 q2=>?_,λk b n u=>?_,λb hd=>H.lt b (V b hd)⟩
   .obtain⟨rfl,rfl⟩:=S k e C;refine⟨g1,by simp,λh=>absurd Z h,λi y hy=>by simp at hy,λb n r M=>?_,λ_ _=>undef,λi y j v hy _=>by simp at hy,λi j hi _=>by simp at hi,λb n u=>?_⟩
    ·(try dsimp only at M)
     rw[Os Z]at M
     rcases Y with A|⟨b5,A⟩
     .rw[A]at M;cases M
     .rw[A]at M;cases M;exact⟨rfl,λh=>(by cases h),λb' z u=>by simp at u⟩
    .obtain⟨_,rfl,z,A⟩:=B _ b n u;obtain⟨c,el,q1,_,_,q4⟩:=g8 b z A;exact⟨c,el,q1,by omega,λi j hi _=>by omega,q4⟩
   ·(try dsimp only)
    split
    .rename_i hh;rw[hh,xN,Os Z]at C;cases C
    .rfl
   .obtain⟨r1,_⟩:=B k b n q1;obtain⟨r2,_⟩:=B k' b z q2;exact r1.trans r2.symm
   .obtain⟨_,_,z,A⟩:=B k b n u;exact H.free kn b z A
  refine⟨⟨X,_,hX,HH,λj=>?_,⟨λk e C=>?_,G.size,G.keep,λk b n u=>?_,λk b n u=>?_,G.bs,G.os,G.tape,G.output⟩,λi hi=>?_,hD⟩,λk E=>?_,gs,hl⟩
  .rw[xL];split
   .rename_i hj;subst hj;exact U
   .exact .fz _ _ (.bot _)
  .have:=F.hh k e C;rw[O]at this;simp at this
  .obtain⟨_,_,z,A⟩:=B k b n u;exact G.own kn b z A
  .have:=F.hK k b n u;rw[O]at this;simp at this
  .rw[xL]at hi
   split at hi<;>cases hi
  .obtain⟨_,A⟩:=S k _ E;cases A
 generalize ap:a.eval (.tmp t)=c at h1 key
 cases h1 with
 |fz _ _ hf=>cases hf
 |dref _ _ _ _ hd _=>exact absurd hd (nd kn)
 |ref0 _ _ ac ag st' ad E hn=>
  refine key [] (λb n u=>by simp at u) (.inl Z) ?_;exact .ref0 K 0 sz [] true ad (by rw[xN,Os Z]) (zAg _)
 |ref _ _ _ ac ag st' b n cap E hb hn hc hs=>
  rw[hk]at E;cases E;refine key [(b,0)] (λb' z u=>by simp at u;obtain⟨rfl,rfl⟩:=u;exact⟨rfl,n,hb⟩) (.inr ⟨b,rfl⟩) ?_;exact .ref K 0 0 sz [] true b 0 cap (by rw[xN,Os Z]) zW (zAg _) hc hs
def Mi {c:Code} (t kn K:Nat) {st:Fl} (u:K0=[]) (hv:zM tm t= .ref kn 0 0) (hk:zE h kn=some (.arr sz xs st)) (z:uR P F m c ⟨[(t,.ref K 0 0)],[(K,.arr sz [] true)]⟩ Q):uR P F m c ⟨tm,h⟩ Q:=
 ⟨λa w H=>z.run a w (H.trunc t kn K u hv hk)⟩
end
section
variable {P:Program} {TT:List TI} {K0:List Nat} {F:Fr K0} {m:Nat} {ops:Array Oper} {rest:List Oper} {Q:List FP->St->Prop} {tm:List (Nat×AV)} {h:List (Nat×wB)} {dr:Bool} {fs:List FP}
variable {ty:Nat} {pos:String} {after:Array Edge} {t:Nat}
def Bx (E:qS P TT) {key:Nat} {C:List AV} (u:yY (zM tm) d= .ref key off len) (hk:zE h key=some (.arr sz xs false)) (hx:yY (zM tm) x=xv) (hT:TT[T]? =some ti) (hd:ti.d= .slice e) (G:TT[e]? =some te)
 (B:je (zE h) xv=some ys) (A:∀y,ys[0]? =some y->ln y.cells=sz) (z:Nat.beq sz te.size=true) (O:ln ys<=len) (S:xs.take off++ys++xs.drop (off+ln ys)=C) (M:Nat.blt t m=true)
 (R:yQ P F m ops dr rest ⟨(t,.s (.int .i64 (ln ys)))::tm,(key,.arr sz C false)::h⟩ (⟨true,[key],key::JK xv⟩::fs) Q):yQ P F m ops dr (⟨some t,.call ⟨.builtin .copy, #[d,x], #[T,T]⟩,ty,pos,after,none⟩::rest) ⟨tm,h⟩ fs Q:=by
 subst S;exact qB (nw:=[]) (JQ E u hk hx hT hd G B A z O) M Z Z R
def YP (z:qS P TT) {E:Fl} {k:IntKind} {i:Int} (hx:yY (zM tm) x= .ref key 0 len) (hk:zE h key=some (.arr sz xs E)) (hl:yY (zM tm) l= .s (.int k i)) (hT:TT[T]? =some ti) (hd:ti.d= .slice e) (A:TT[e]? =some te)
 (u:Nat.beq sz te.size=true) (G:0<=i) (h1:i<=len) (B:Nat.blt t m=true) (C:yQ P F m ops dr rest ⟨(t,.ref key i.toNat (len-i.toNat))::tm,h⟩ (⟨true,[],[key]⟩::fs) Q):
  yQ P F m ops dr (⟨some t,.slice T x (some l) none none,ty,pos,after,none⟩::rest) ⟨tm,h⟩ fs Q:=by
 have:=aQ (P:=P) (st:=⟨tm,h⟩) (lo:=some l) (hi:=none) (l:=i.toNat) (r:=len) z hx hk hT hd A ⟨k,i,hl,by omega⟩ rfl (by omega) (zAg _) u;rw[zBx]at this;exact yE this B C
def Gu (z:qS P TT) {E:Fl} {k:IntKind} (hx:yY (zM tm) x= .ref key 0 len) (hk:zE h key=some (.arr sz xs E)) (hl:yY (zM tm) l= .s (.int k 0)) (hT:TT[T]? =some ti) (hd:ti.d= .slice e) (A:TT[e]? =some te)
 (u:Nat.beq sz te.size=true) (B:Nat.blt t m=true) (C:yQ P F m ops dr rest ⟨(t,.ref key 0 0)::tm,h⟩ (⟨true,[],[key]⟩::fs) Q):
  yQ P F m ops dr (⟨some t,.slice T x none (some l) none,ty,pos,after,none⟩::rest) ⟨tm,h⟩ fs Q:=by
 have:=aQ (P:=P) (st:=⟨tm,h⟩) (lo:=none) (hi:=some l) (l:=0) (r:=0) z hx hk hT hd A Z ⟨k,0,hl,by omega⟩ (zAg _) (zAr _) u;exact yE this B C
def Fu (V:qS P TT) {n:Nat} {z:AV} (hs:yY (zM tm) s= .s (.slice none 0 0)) (hx:yY (zM tm) x= .s (.int .i64 nx)) (hT:TT[T]? =some ti) (hd:ti.d= .slice e) (W:TT[e]? =some te) (U:TT[I]? =some tn) (C:tn.d= .int k0)
 (hb:Nat.ble te.bytes 65536=true) (hp:Nat.ble 1 te.size=true) (S:Nat.beq (ln te.zero) te.size=true) (O:te.zero.all (·.oneCell')=true) (R:Nat.beq (uW te).cells.length te.size=true) (B:(uW te).cells=te.zero.map .s) (hz:uW te=z)
 (G:nx=(n:Int)) (A:1<=n) (u:n<=1073741824) (Y:Nat.blt t m=true) (E:(zE h t).isNone=true)
 (M:te.size=sz) (hk:yQ P F m ops dr rest ⟨(t,.ref t 0 n)::tm,(t,.arr sz (nm n z) false)::h⟩ (⟨true,[t,t],[]⟩::fs) Q):yQ P F m ops dr (⟨some t,.call ⟨.builtin .append, #[s,x], #[T,I]⟩,ty,pos,after,none⟩::rest) ⟨tm,h⟩ fs Q:=by
 subst M hz;exact qB (nw:=[t]) (Ni V t hs hx hT hd W U C G A u hb hp S O R B) Y (Gd E) Z hk
end
mutual
def JR (k L:Nat):AV->Prop
 | .ref j off len=>j=k->off=0/\len=L
 | .ptr j _ _=>j≠k
 | .agg cs| .fn _ cs| .tup cs=>dL k L cs
 |_=>True
def dL (k L:Nat):List AV->Prop
 | []=>True
 |v::r=>JR k L v/\dL k L r
end
def DH (k L:Nat):List (Nat×AV)->Prop
 | []=>True
 |(_,v)::r=>JR k L v/\DH k L r
def DI (k L:Nat):List (Nat×wB)->Prop
 | []=>True
 |(_,e)::r=>(match e with
  | .box cs=>dL k L cs
  | .obj cs=>True
  | .arr _ xs fl=>fl.nest=false\/dL k L xs
  | .dead=>True)/\DI k L r
theorem dL.at :∀{cs:List AV} {i:Nat} {v:AV},dL k L cs->cs[i]? =some v->JR k L v
 | [],_,_,_,h=>by simp at h
 |x::r,0,v,hk,h=>by simp at h;subst h;exact hk.1
 |x::r,i+1,v,hk,h=>dL.at hk.2 WC
theorem DH.at :∀{u:List (Nat×AV)},DH k L u->∀t,JR k L (zM u t)
 | [],_,t=>trivial
 |(j,v)::r,h,t=>by
  rw[xL];split
  .exact h.1
  .exact DH.at h.2 t
theorem DI.at :∀{h:List (Nat×wB)} {j:Nat} {e:wB},DI k L h->zE h j=some e->match e with
  | .box cs=>dL k L cs
  | .obj cs=>True
  | .arr _ xs fl=>fl.nest=false\/dL k L xs
  | .dead=>True
 | [],_,_,_,u=>by simp[zE]at u
 |(i,e0)::r,j,e,h,u=>by
  rw[xN]at u;split at u
  .cases u;exact h.1
  .exact DI.at h.2 u
theorem JR.cells {x:AV} (h:JR k L x):dL k L x.cells:=by
 cases x<;>first
  |exact h
  |exact⟨h,trivial⟩
theorem yK.whole {D D':Nat->Prop} {h':yS} {β':qG} (k L:Nat) (C:∀b,D' b->D b) (hh:∀j,j≠k->h' j=h j) (hβ:∀j,j≠k->β' j=β j) (M:∀c,yK w D h β (.ref k 0 L) c->yK w D' h' β' (.ref k 0 L) c) {v:AV} {c:Value} (hv:yK w D h β v c):JR k L v->yK w D' h' β' v c:=by
 have key:∀{off len j c},(j=k->off=0/\len=L)->yK w D h β (.ref j off len) c->(j≠k->yK w D' h' β' (.ref j off len) c)->yK w D' h' β' (.ref j off len) c:=λ{off len j c} h1 h2 h3=>by
  grind
 induction hv with
 |fz v c E=>exact λ_=> .fz v c (E.less C)
 |agg cs c hl h1 B A=>exact λhk=> .agg cs c hl h1 λi v hv=>A i v hv (dL.at hk hv)
 |fn f u c hl B A=>exact λhk=> .fn f u c hl λi v hv=>A i v hv (dL.at hk hv)
 |tup vs c hl B A=>exact λhk=> .tup vs c hl λi v hv=>A i v hv (dL.at hk hv)
 |dref j off len c hk' h1=>exact λhk=>key hk (.dref j off len c hk' h1) λhj=> .dref j off len c JH h1
 |dptr j i off c hk' h1=>exact λhk=> .dptr j i off c Vo h1
 |ref j off len sz xs st b n cap hk' hb z hc hs=>exact λhk=>key hk (.ref j off len sz xs st b n cap hk' hb z hc hs) λhj=> .ref j off len sz xs st b n cap JH Vg z hc hs
 |ref0 j off sz xs st a hk' z=>exact λhk=>key hk (.ref0 j off sz xs st a hk' z) λhj=> .ref0 j off sz xs st a JH z
 |pbox j off cs b n hk' hb=>exact λhk=> .pbox j off cs b n Vo (by rw[hβ j hk];exact hb)
 |parr j i off sz xs st b n hk' hb hi G=>exact λhk=> .parr j i off sz xs st b n Vo (by rw[hβ j hk];exact hb) hi G
section
variable {P:Program} {K0:List Nat} {F:Fr K0} {m:Nat} {tm:List (Nat×AV)} {h:List (Nat×wB)}
end
section
variable {P:Program} {TT:List TI} {K0:List Nat} {F:Fr K0} {m:Nat} {ops:Array Oper} {dr:Bool} {rest:List Oper} {fs:List FP} {Q:List FP->St->Prop} {tm:List (Nat×AV)} {h:List (Nat×wB)} {ty:Nat} {pos:String} {after:Array Edge} {t:Nat}
def qV (k:Nat) (E:qS P TT) {C:Array (Nat×Operand)} (hT:TT[T]? =some ti) (hd:ti.d= .slice e) (G:TT[e]? =some te) (O:Nat.ble 1 te.size=true) (z:ZK ⟨tm,h⟩ C=(xs.zipIdx 0).map λx=>(x.2,x.1)) (hl:Nat.beq (ln xs) len=true)
 (R:xs.all (λx=>Nat.beq (ln x.cells) te.size&&x.ok)=true) (hb:Nat.ble (len*te.size) 65536=true) (B:Nat.beq (ln te.zero) te.size=true) (M:Nat.blt t m=true) (u:(zE h k).isNone=true)
 (A:te.size=sz) (hk:yQ P F m ops dr rest ⟨(t,.ref k 0 len)::tm,(k,.arr sz xs ⟨false,true⟩)::h⟩ (⟨true,[k,k],[]⟩::fs) Q):yQ P F m ops dr (⟨some t,.buildSlice T len C,ty,pos,after,none⟩::rest) ⟨tm,h⟩ fs Q:=by
 subst A;exact qB (nw:=[k]) (NQ E k hT hd G O z hl R hb B) M (Gd u) Z hk
end
structure H6 (P:Program) (st:St) (op:Op) (O:AV->List (Nat×wB)->Prop) (r nw:List Nat):Prop where
 run:∀(X:Nat->Prop) (tm:Nat->AV) (h:yS),(∀t,t∈dI op->tm t=zM st.tm t)->(∀k,k∈r->h k=zE st.h k)->(∀k,k∈nw->h k=none)->∀(o:Oper) (a:Act) (w:World) (β:qG),o.op=op->gW X h β w->(∀t,yK w (xX X β) h β (tm t) (a.eval (.tmp t)))->
  WE P (λc w'=>∃v d,O v d/\∃β',wG X w h β w' (over d h) β'/\yK w' (xX X β') (over d h) β' v c) ((execOp a.eval o).run P w)
section
variable {P:Program} {K0:List Nat} {F:Fr K0} {m:Nat} {ops:Array Oper} {rest:List Oper} {fs fs':List FP} {Q:List FP->St->Prop} {tm:List (Nat×AV)} {h:List (Nat×wB)} {op:Op} {ty:Nat} {pos:String} {after:Array Edge} {t:Nat} {r nw:List Nat} {O:AV->List (Nat×wB)->Prop}
def x_m (hs:H6 P ⟨tm,h⟩ op O r nw) (hm:Nat.blt t m=true) (hn:nw.all (λj=>(zE h j).isNone)=true) (hd:∀v d,O v d->uN d=true) (hk:∀v d,O v d->yQ P F m ops false rest ⟨(t,v)::tm,d++h⟩ fs' Q):
  yQ P F m ops false (⟨some t,op,ty,pos,after,none⟩::rest) ⟨tm,h⟩ fs Q:=⟨λa w R=>wpListIn_plain Z λK V=>by
 obtain⟨⟨X,β,W,A,B,C,U,S⟩,nd,gs,hl⟩:=R;refine WE.wp (hs.run X (zM tm) (zE h) (λ_ _=>rfl) (λ_ _=>rfl) (λk hk=>by have:=zAq.1 hn k hk;simpa using this) ⟨some t,op,ty,pos,after,none⟩ a w β rfl A B) ?_;rintro c w' ⟨v,d,hO,β',G,hc⟩;have u:=hd v d hO
 have z:∀k,over d (zE h) k≠some .dead:=λk=>by
  unfold over;split
  .rename_i e Y;intro M;cases M;exact qW u Y
  .exact nd k
 refine V _ _ ((hk v d hO).run _ _ ?_);have E:=QG.put W A B C U S gs hl G z hc (some t) (λj hj=>by cases hj;exact zAt hm)
 have e1:zM ((t,v)::tm)=λj=>if some t=some j then v else zM tm j:=funext λj=>by rw[xL];simp[eq_comm]
 show QG F m (zM ((t,v)::tm)) (zE (d++h)) _ _
 rw[e1,vP]
 exact E⟩
end
section
variable {P:Program} {st:St}
end
def cL (sz:Nat):AV:= .agg (nm sz .bot)
section
variable {P:Program} {TT:List TI} {st:St}
theorem Ki {X:Nat->Prop} (HH:gW X h β w) {k N:Nat} {cx:Value} (hk':h k=some (.arr sz xs ⟨false,false⟩)) (h1:yK w (xX X β) h β (.ref k 0 len) cx) (hl:1<=len) (hN:ln xs<=N) (a1:N<=1073741824):
  ∃b cap,cx= .slice (some ⟨b,0*sz,none⟩) len cap/\(N<=cap->∃β',wG X w h β w (over [(k,.arr sz (xs++nm (N-xs.length) (cL sz)) ⟨false,false⟩)] h) β'):=by
 cases h1 with
 |fz _ _ hf=>cases hf
 |dref _ _ _ _ hd _=>rw[hk']at hd;cases hd
 |ref0 _ _ av ax st' b O hn=>omega
 | ref _ _ _ av ax st' b n cap O hb hn hc au=>
  have h3:=O;rw[hk']at h3;cases h3;refine⟨b,cap,rfl,λaz=>?_⟩;obtain⟨g1,g2,g3,g4,g5,f,g6,g7,g8⟩:=HH.ent k _ hk'
  obtain⟨W,hbk,ar,R⟩:∃W,β k=(b,n)::W/\n=ln xs/\∀C A,(C,A)∈W->A=0:=by
   cases hbk:β k with
   |nil=>rw[hbk]at hb;simp at hb
   |cons q r=>
    obtain⟨b0,n0⟩:=q;obtain⟨e1,U,_⟩:=g5 b0 n0 r hbk;have U:=U Z;rw[hbk]at hb;simp at hb
    rcases hb with⟨rfl,rfl⟩|u
    .exact⟨r,rfl,e1,U⟩
    .have:=U b n u;omega
  subst ar;obtain⟨c,el,c1,c2,c3,c4⟩:=g8 b _ hb
  have ag:c.size=cap*sz:=by
   have:wW w b=c.size:=by unfold wW World.shape?;rw[c1];rfl
   rw[<-this,<-au,zBx]
  have ac:N*sz<=c.size:=by rw[ag];exact zA1 _ (by omega)
  have z:(xs++nm (N-xs.length) (cL sz)).length=N:=by simp;omega
  have S:∀(i:Nat) y,(xs++nm (N-xs.length) (cL sz))[i]? =some y->(i<ln xs/\xs[i]? =some y)\/(¬i<ln xs/\i<N/\y=cL sz):=λi y B=>by
   by_cases hi:i<ln xs
   .rw[zBg hi]at B;exact .inl ⟨hi,B⟩
   .have ap:i<N:=by rw[<-z];exact(zAz.1 B).1
    rw[zBc (by omega),zCj]at B;split at B
    .exact .inr ⟨hi,ap,(zDm B).symm⟩
    .cases B
  have M:∀i j,i<N->j<sz->i*sz+j<c.size:=λi j hi hj=>by
   have:=zA1 sz (show i+1<=N by omega);rw[zBq,zCu]at this;omega
  let V:Nat->Nat->Value:=λi j=>if i<ln xs then f i j else c.getD (i*sz+j) undef
  have G:=wG.step (w':=w) HH k (.arr sz (xs++nm (N-xs.length) (cL sz)) ⟨false,false⟩) ((b,N)::W) (zAg _) (λ_ _ _=>rfl) Z Z Z
   (λC A u=>by
    simp at u
    rcases u with⟨rfl,_⟩|u
    .exact .inl ⟨_,hb⟩
    .exact .inl ⟨A,by rw[hbk];simp[u]⟩) (λ_ _ _=>rfl)
   (λe he=>by
    rw[hk']at he;cases he;refine .inr ⟨⟨_,_,rfl,by rw[z];exact hN⟩,λC A u=>?_⟩;rw[hbk]at u;simp at u
    rcases u with⟨rfl,rfl⟩|u
    .exact⟨N,hN,by simp⟩
    .exact⟨A,zAg _,by simp[u]⟩)
   (λE=>⟨g1,by rw[z];unfold aP;omega,λ_=>by rw[yO];simp,λi y B=>by
    rcases S i y B with⟨_,h⟩|⟨_,_,rfl⟩
    .exact g4 i y h
    .simp[cL,AV.cells],λC A r hr=>by
    rw[yO]at hr;simp at hr;obtain⟨⟨rfl,rfl⟩,rfl⟩:=hr
    exact⟨z.symm,λ_=>R,λC A u=>by have:=R C A u;rw[z];omega⟩,V,λi y j v B hv=>by
    simp only[V]
    rcases S i y B with⟨hi,h⟩|⟨hi,_,rfl⟩
    .rw[Os hi];exact⟨(g6.toV i y j v h hv).evo E,λ_=>(g6.toF Z i y j v h hv).evo E.size E.fz⟩
    .have:v= .bot:=by
      simp only[cL,AV.cells,zCj]at hv;split at hv
      .exact(zDm hv).symm
      .cases hv
     subst this
     exact⟨.fz _ _ (.bot _),λ_=> .bot _⟩,λi j hi hj=>by
    rw[z]at hi;simp only[V];split
    .exact g7 i j ‹_› hj
    .exact c4 _ (M i j hi hj),λC A u=>by
    rw[yO]at u;simp at u
    rcases u with⟨rfl,rfl⟩|u
    .refine⟨c,el,c1,ac,λi j hi hj=>?_,c4⟩;simp only[V];split
     .exact c3 i j ‹_› hj
     .exact gJ c _ (M i j hi hj)
    .obtain⟨c',Y,d1,d2,_,d4⟩:=g8 C A (by rw[hbk];simp[u]);have:=R C A u;subst this
     exact⟨c',Y,d1,d2,λi j hi _=>by omega,d4⟩⟩)
  exact⟨_,G⟩
def Ji (hP:qS P TT) {hi:Operand} {N:Nat} {ki:IntKind} (hx:yY (zM st.tm) x= .ref k 0 len) (hk:zE st.h k=some (.arr sz xs ⟨false,false⟩)) (hh:yY (zM st.tm) hi= .s (.int ki (N:Int))) (hT:TT[T]? =some ti) (hd:ti.d= .slice e) (he:TT[e]? =some te)
 (hl:1<=len) (hN:N<=ln xs) (ac:1<=N) (ag:N<=1073741824):vC P st (.slice T x none (some hi) none) (.ref k 0 N) [] [k] []:=
 xA λoo X tm h w β a ho hg S HH Y=>by
  obtain⟨d0,o0,y0,p0,f0,g0⟩:=oo;dsimp only at ho;subst ho;have h1:=cC Y hg (x:=x) qF hx;have hk':=(S k zW).trans hk;obtain⟨u,hu,O⟩:=wL (hP _ _ hT) w;obtain rfl:=uP (O.trans hd);have hs:=kE (hP _ _ he) w;generalize M:a.eval x=cx at h1
  cases h1 with
  |fz _ _ hf=>cases hf
  |dref _ _ _ _ hd _=>rw[hk']at hd;cases hd
  |ref0 _ _ V W st' b z hn=>omega
  | ref _ _ _ V W st' b n cap z hb hn hc C=>
   have h3:=z;rw[hk']at h3;cases h3;obtain⟨g1,g2,g3,g4,g5,f,g6,g7,g8⟩:=HH.ent k _ hk'
   have R:n=ln xs:=by
    cases hbk:β k with
    |nil=>rw[hbk]at hb;simp at hb
    |cons q r=>
     obtain⟨b0,n0⟩:=q;obtain⟨e1,E,_⟩:=g5 b0 n0 r hbk;have E:=E Z;rw[hbk]at hb;simp at hb
     rcases hb with⟨rfl,rfl⟩|hm
     .exact e1
     .have:=E b n hm;omega
   subst R;obtain⟨c,el,c1,c2,c3,c4⟩:=g8 b _ hb
   have G:c.size=cap*sz:=by
    have:wW w b=c.size:=by unfold wW World.shape?;rw[c1];rfl
    rw[<-this,<-C,zBx]
   have B:N<=cap:=by
    have h5:N*sz<=cap*sz:=by rw[<-G];exact zBi (zA1 _ hN) c2
    exact zEo h5 (by omega)
   have A:=dK (P:=P) Y hg (lo:=none) (hi:=some hi) (len:=len) (cap:=cap) (l:=0) (r:=N) (λy U=>by cases U) (λy U=>by cases U;simp[Op.operands]) Z ⟨ki,N,hh,rfl⟩ (zAr _) B true;rw[zDc]at A;refine⟨_,by simp only[execOp,Instr.sliceAt,Instr.slice,Sem.run_bind,hu,Result.andThen_ok,M,zDc,A,hs,Sem.run_pure];rfl,?_⟩
   have e0:(if cap=0 then(some ⟨b,0*sz,none⟩:Option Addr)else(some ⟨b,0*sz,none⟩:Option Addr).map (·.add (0*te.size)))=some ⟨b,0*sz,none⟩:=by
    split
    .rfl
    .rw[zB8,WI];simp
   have:=yK.ref (w:=w) (D:=xX X β) (h:=h) (β:=β) k 0 N sz xs ⟨false,false⟩ b (ln xs) cap hk' hb (by omega) B C;rw[e0];exact this
theorem DJ (hP:qS P TT) {f:Nat} {fn:Func} {R:Nat} {fx y:Operand} {a1:Array Nat} {U V A M B az C:Nat} {xa xb:List AV} {fa fb:Fl} (a4:yY (zM st.tm) fx= .fn f []) (hx:yY (zM st.tm) x= .ref U 0 A) (a6:zE st.h U=some (.arr az xa fa)) (hy:yY (zM st.tm) y= .ref V M B) (a7:zE st.h V=some (.arr C xb fb))
 (bf:Nat.beq U V=false) (bd:1<=B) (a9:1<=A) (hT:TT[T]? =some ti) (hd:ti.d= .slice e) (he:TT[e]? =some te) (bu:1<=C)
 (hf:P.funcs[f]? =some fn) (S:(fn.name== "runtime.NumGoroutine")=false) (hb:fn.body.isNone=true) (hn:Extern.findNext fn=none) (hE:Extern.find fn=some (Extern.SlicesOverlaps.overlaps #[T,T] #[R])):
  vC P st (.call ⟨.value fx, #[x,y],a1⟩) (.s (.bool false)) [] [U,V] []:=
 xA λoo X tm h w β a ho hg hr HH Ht=>by
  obtain⟨d0,o0,y0,p0,f0,g0⟩:=oo;dsimp only at ho;subst ho;have h1:=cC Ht hg (x:=x) gH hx;have h2:=cC Ht hg (x:=y) gH hy;have h3:=cC Ht hg (x:=fx) gH a4;have ar:=(hr U zW).trans a6;have au:=(hr V zW).trans a7;have a8:U≠V:=λe=>by subst e;simp at bf
  obtain⟨u,hu,br⟩:=wL (hP _ _ hT) w;obtain⟨i,z,bl,hi,hz,e1,e2,e3⟩:=vK hP hT hd he
  have a3:a.eval fx= .func (.func f) #[] #[]:=by
   generalize a.eval fx=cx at h3
   cases h3 with
   |fz _ _ hf=>cases hf
   |fn _ _ c hl hh=>
    have:c= #[]:=Array.eq_empty_of_size_eq_zero Na;rw[this]
  have ax:∀{k off len sz xs fl c},h k=some (.arr sz xs fl)->1<=len->yK w (xX X β) h β (.ref k off len) c->∃b n cap cc el,c= .slice (some ⟨b,off*sz,none⟩) len cap/\(b,n)∈β k/\off+len<=n/\w.heap[b]? =some (.cells cc el (0,0))/\n*sz<=cc.size/\1<=sz:=λ{k off len sz xs fl c} hk hl hv=>by
   cases hv with
   |fz _ _ hf=>cases hf
   |dref _ _ _ _ hd _=>rw[hk]at hd;cases hd
   |ref0 _ _ _ _ _ _ _ _=>omega
   |ref _ _ _ bx b0 st' b n cap E hb hn hc bs=>
    rw[hk]at E;cases E;obtain⟨g1,_,_,_,_,f,_,_,g8⟩:=HH.ent k _ hk;obtain⟨cc,el,c1,c2,_⟩:=g8 b n hb;exact⟨b,n,cap,cc,el,rfl,hb,hn,c1,c2,g1⟩
  obtain⟨W,na,ca,Y,ac,q1,q2,q3,q4,q5,q6⟩:=ax ar a9 h1;obtain⟨bb,nb,cb,O,ag,r1,r2,r3,r4,r5,r6⟩:=ax au bd h2;have a2:W≠bb:=λe=>a8 (HH.disj U V W na nb q2 (by rw[e];exact r2))
  have bk:w.shape? W=some (ac,Y.size):=by unfold World.shape?;rw[q4]
  have av:w.shape? bb=some (ag,O.size):=by unfold World.shape?;rw[r4]
  have a5:O.size≠0:=by
   have:=zA1 C (show 1<=nb by omega);omega
  have ap:∀o,w.frozen? ⟨W,o,none⟩=false:=λo=>by simp[World.frozen?,q4]
  have G:=run_callFunc_extern hf S hb hn hE #[a.eval x,a.eval y] w;rw[q1,r1,Lib.run_overlaps_apart w T R e bl te.size (λw=>kE (hP _ _ he) w) ⟨W,0*az,none⟩ ⟨bb,M*C,none⟩ A ca B cb a2 ac ag Y.size O.size bk av a5 (ap _) (ap _)]at G;exact⟨_,by simp only[execOp,resolve,a3,Deferred.ofValue,invoke];simpa [q1,r1]using G,.fz _ _ (.s _)⟩
theorem GV {X:Nat->Prop} (O:gW X h β w) {kn:Nat} (V:h kn=none) {gc:Nat} {olds news:List Value} {zc:Array Value} (f g:Nat->Nat->Value) (hp:1<=sz) (A:ln olds=ln ys*sz) (ho:∀i j,i<ln ys->j<sz->olds[i*sz+j]? =some (f i j)) (ag:∀u∈olds,u.oneCell'=true)
 (E:ln news=ln vs*sz) (hn:∀i j,i<ln vs->j<sz->news[i*sz+j]? =some (g i j)) (ac:∀u∈news,u.oneCell'=true) (av:∀(i:Nat) (y:AV),ys[i]? =some y->ln y.cells=sz) (au:∀(i:Nat) (y:AV),vs[i]? =some y->ln y.cells=sz)
 (R:∀i j,i<ln ys->j<sz->(f i j).oneCell'=true) (S:∀i j,i<ln vs->j<sz->(g i j).oneCell'=true) (ap:∀(i:Nat) (y:AV) (j:Nat) v,ys[i]? =some y->y.cells[j]? =some v->xS w (xX X β) v (f i j)) (ar:∀(i:Nat) (y:AV) (j:Nat) v,vs[i]? =some y->y.cells[j]? =some v->xS w (xX X β) v (g i j))
 (ax:∀v∈zc.toList,v.oneCell'=true) (az:zc.size=sz) (U:ln ys+ln vs<=gc) (Y:ln ys+ln vs<=aP):
  ∃β',wG X w h β (w.drew.alloc (.cells (olds.toArray++news.toArray++Builtin.zeroCells zc (gc-(ln ys+ln vs))) e)) (over [(kn,.arr sz (ys++vs) false)] h) β'/\
   yK (w.drew.alloc (.cells (olds.toArray++news.toArray++Builtin.zeroCells zc (gc-(ln ys+ln vs))) e)) (xX X β') (over [(kn,.arr sz (ys++vs) false)] h) β' (.ref kn 0 (ys++vs).length) (.slice (some ⟨w.heap.size,0,none⟩) (ln ys+ln vs) gc):=by
 have HD:=O.drew (w.drawn+1);have z:(ys++vs).length=ln ys+ln vs:=by simp
 have C:∀(i:Nat) y,(ys++vs)[i]? =some y->(i<ln ys/\ys[i]? =some y)\/(¬i<ln ys/\vs[i-ys.length]? =some y):=λi y M=>by
  grind
 have B:∀{v c},xS w (xX X β) v c->xS w.drew (xX X β) v c:=λhf=>xS.evo (w:=w) (w':=w.drew) (zAg _) (λ_ _ hd=>⟨rfl,hd⟩) hf
 have:=wG.newArr (w:=w.drew) HD V (olds.toArray++news.toArray++Builtin.zeroCells zc (gc-(ln ys+ln vs))) e sz (ys++vs) gc (λi j=>if i<ln ys then f i j else g (i-ys.length) j) hp (by rw[z];exact Y) (by rw[z];exact U) (by
   simp only[zEs,zDl,size_zeroCells,az,A,E,<-zBq]
   congr 1;omega) (kT.get (((kT.arr ag).app (kT.arr ac)).app (kT.zero ax _))) (λi y M=>by
   rcases C i y M with⟨_,h⟩|⟨_,h⟩
   .exact av i y h
   .exact au _ y h) (λi j hi hj=>by
   rw[z]at hi
   have W:i*sz+j<(ln ys+ln vs)*sz:=by
    have:=zA1 sz (show i+1<=ln ys+ln vs by omega)
    grind
   rw[zBq]at W;rw[zCg (by simp[A,E];omega)];split
   .rename_i hi'
    have a2:i*sz+j<ln ys*sz:=by
     grind
    rw[zCg (by simp[A];omega)];simpa using ho i j hi' hj
   .rename_i hi';have a1:ln ys*sz<=i*sz:=zA1 _ (by omega);have e4:i*sz+j-ys.length*sz=(i-ys.length)*sz+j:=by rw[zFb];omega
    rw[zEj (by simp[A];omega)];simp only[zDl,A,e4,zDd]
    exact hn _ _ (by omega) hj) (λi j hi hj=>by
   rw[z]at hi;split
   .exact R i j ‹_› hj
   .exact S _ j (by omega) hj) (λi y j v M hv=>by
   rcases C i y M with⟨hi,h⟩|⟨hi,h⟩
   .rw[Os hi];exact B (ap i y j v h hv)
   .rw[Of hi];exact B (ar _ y j v h hv))
 obtain⟨β',G,hv⟩:=this;refine⟨β',wG.trans O (wG.drew O (w.drawn+1)) G,?_⟩;rw[z]at hv⊢;exact hv
def Ko (E:qS P TT) {c:Nat} (hx:yY (zM st.tm) x= .slc c xs) (hT:TT[T]? =some ti) (hd:ti.d= .slice e):vC P st (.call ⟨.builtin .cap, #[x], #[T]⟩) (.s (.int .i64 (c:Int))) [] [] []:=
 xA λR X tm h w β a B M Y S C=>by
  obtain⟨d0,o0,y0,p0,V,W⟩:=R;dsimp only at B;subst B;have h1:=cC C M (x:=x) gH hx;obtain⟨u,O,A⟩:=wL (E _ _ hT) w;obtain rfl:=uP (A.trans hd);generalize z:a.eval x=U at h1
  cases h1 with
  | fz _ _ G=>
   cases G with
   |slc _ _ b o sz f hL hc hh=>
    exact⟨_,by simp[execOp,resolve,invoke,builtin,Builtin.cap_,z,O,goInt],.fz _ _ (.s _)⟩
def zb (E:qS P TT) {xs:List AV} (hx:yY (zM st.tm) x= .slc c xs) (hT:TT[T]? =some ti) (hd:ti.d= .slice e):vC P st (.call ⟨.builtin .len, #[x], #[T]⟩) (.s (.int .i64 (ln xs:Int))) [] [] []:=
 xA λR X tm h w β a B M Y S C=>by
  obtain⟨d0,o0,y0,p0,V,W⟩:=R;dsimp only at B;subst B;have h1:=cC C M (x:=x) gH hx;obtain⟨u,O,A⟩:=wL (E _ _ hT) w;obtain rfl:=uP (A.trans hd);generalize z:a.eval x=U at h1
  cases h1 with
  | fz _ _ G=>
   cases G with
   |slc _ _ b o sz f hL hc hh=>
    exact⟨_,by simp[execOp,resolve,invoke,builtin,Builtin.len_,z,O,goInt],.fz _ _ (.s _)⟩
def Jo (S:qS P TT) {r:Nat} {hi:Operand} {W:IntKind} (hx:yY (zM st.tm) x= .slc c xs) (hh:yY (zM st.tm) hi= .s (.int W (r:Int))) (hT:TT[T]? =some ti) (hd:ti.d= .slice e) (he:TT[e]? =some te) (O:r<=ln xs):
  vC P st (.slice T x none (some hi) none) (.slc c (xs.take r)) [] [] []:=
 xA λoo X tm h w β a V U ac HH R=>by
  obtain⟨d0,o0,y0,p0,f0,g0⟩:=oo;dsimp only at V;subst V;have h1:=cC R U (x:=x) qF hx;obtain⟨u,hu,G⟩:=wL (S _ _ hT) w;obtain rfl:=uP (G.trans hd);have hs:=kE (S _ _ he) w;generalize E:a.eval x=cx at h1
  cases h1 with
  | fz _ _ hf=>
   cases hf with
   | slc _ _ b o sz f hL hc M=>
    have C:=dK (P:=P) R U (lo:=none) (hi:=some hi) (len:=ln xs) (cap:=c) (l:=0) (r:=r) (λy z=>by cases z) (λy z=>by cases z;simp[Op.operands]) Z ⟨W,r,hh,rfl⟩ (zAr _) (zBi O hc) true;rw[zDc]at C;have A:(xs.take r).length=r:=by simp;omega
    have B:∀(i:Nat) y,(xs.take r)[i]? =some y->xs[i]? =some y:=λi y z=>by
     rw[zB3]at z;split at z
     .exact z
     .cases z
    refine⟨_,by simp only[execOp,Instr.sliceAt,Instr.slice,Sem.run_bind,hu,Result.andThen_ok,E,zDc,C,hs,Sem.run_pure];rfl,.fz _ _ ?_⟩
    have Y:(if c=0 then(some ⟨b,o,none⟩:Option Addr)else(some ⟨b,o,none⟩:Option Addr).map (·.add (0*te.size)))=some ⟨b,o,none⟩:=by
     split
     .rfl
     .rw[zB8,WI];simp
    have:=xS.slc (w:=w) (D:=xX X β) c (xs.take r) b o sz f ⟨hL.lt,hL.nd,hL.pos,by rw[A];exact zBi O hL.max,λi y z=>hL.wide i y (B i y z),λi j hi hj=>hL.cell i j (by omega) hj,λi j hi hj=>hL.one i j (by omega) hj⟩ (by rw[A];exact zBi O hc) (λi y j v z hv=>M i y j v (B i y z) hv);rw[A]at this;rw[zE4,zE4,Y];exact this
theorem Io (hP:qS P TT) {n:Nat} (kn:Nat) (hs:yY (zM st.tm) s= .slc c ys) (hx:yY (zM st.tm) x= .s (.int .i64 nx)) (hT:TT[T]? =some ti) (hd:ti.d= .slice e) (he:TT[e]? =some te) (hI:TT[I]? =some tn) (a5:tn.d= .int k0)
 (hb:Nat.ble te.bytes 65536=true) (hp:Nat.ble 1 te.size=true) (E:Nat.beq (ln te.zero) te.size=true) (ax:te.zero.all (·.oneCell')=true) (V:Nat.beq (uW te).cells.length te.size=true) (az:(uW te).cells=te.zero.map .s)
 (bk:nx=(n:Int)) (au:1<=n) (ap:ln ys+n<=1073741824) (hc:c<ln ys+n) (U:∀(i:Nat) (y:AV),ys[i]? =some y->ln y.cells=te.size):
  vC P st (.call ⟨.builtin .append, #[s,x], #[T,I]⟩) (.ref kn 0 (ys++nm n (uW te)).length) [(kn,.arr te.size (ys++nm n (uW te)) false)] [] [kn]:=by
 refine⟨?_⟩;intro X tm h hg _ hn o a w β ho HH Ht;obtain⟨d0,o0,y0,p0,f0,g0⟩:=o;dsimp only at ho;subst ho;have h1:=cC Ht hg (x:=s) gH hs;have h2:=vY Ht hg (x:=x) gH hx;have hp:=zAt hp;have hb:=zAt hb;have E:=zA9 E;have V:=zA9 V;subst bk;obtain⟨i,z,S,hi,hz,e1,e2,e3⟩:=vK hP hT hd he;obtain⟨_,u2,_,_,br,_,a4,_⟩:=uU (hP _ _ hI);obtain rfl:=EU (a4.symm.trans a5);generalize a3:a.eval s=cx at h1
 cases h1 with
 | fz _ _ hf=>
  cases hf with
  | slc _ _ b o sz f hL b0 hh=>
   have Y:z.cells.size=te.size:=by rw[<-E,<-e3];simp
   have hS:A1 w (xX X β) h β false ys te.size b o f:=⟨U,λi j hi hj=>by
    have:sz=te.size:=by
     have h4:=hL.wide i ys[i] QO;have h5:=U i ys[i] QO;omega
    subst this;exact hL.cell i j hi hj,λi j hi hj=>by
    have:sz=te.size:=by
     have h4:=hL.wide i ys[i] QO;have h5:=U i ys[i] QO;omega
    subst this;exact hL.one i j hi hj,.ofF hh⟩
   obtain⟨a7,a8⟩:=hS.flat hp
   have C:(ln ys+n)*i.bytes<=140737488355328:=by
    have:=zDa ap (show i.bytes<=65536 by omega);omega
   have bx:=growslice_fits (need:=ln ys+n) (old:=c) (bytes:=i.bytes) hc C;have hw:IntKind.i64.wrap (n:Int)=(n:Int):=jD ⟨by show(-9223372036854775808:Int)<=_;omega,by show _<=(9223372036854775807:Int);omega⟩
   have bl:n*i.size≠0:=by
    have:1*1<=n*i.size:=zDa au (by omega);omega
   have a1:¬(281474976710656<(n:Int)*(i.bytes:Int)):=by
    grind
   have ac:¬(281474976710656<Builtin.nextslicecap (ln ys+n) c*i.bytes):=by omega
   have a2:¬(9223372036854775807<((ln ys:Int)+(n:Int))):=by omega
   have R:¬(ln ys+n<=c):=by omega
   have ar:¬((n:Int)<0):=by omega
   have a9:=run_firstCells_some (P:=P) w.drew i.size (ln ys) ⟨b,o,none⟩ (ln ys) c (flat f (ln ys) i.size) (yL _ _ _) (by rw[e1];simpa using a7)
   have G:(Builtin.append_ #[T,I] y0 #[.slice (some ⟨b,o,none⟩) (ln ys) c,.int .i64 (n:Int)]).run P w= .ok (.slice (some ⟨w.heap.size,0,none⟩) (ln ys+n) (grownCap w (ln ys+n) c e)) (w.drew.alloc (.cells ((flat f (ln ys) i.size).toArray++(Builtin.zeroCells z.cells n).toList.toArray++Builtin.zeroCells z.cells (grownCap w (ln ys+n) c e-(ln ys+n))) e)):=by
    have ha:(asIntOf (.int .i64 (n:Int))).run P w= .ok (.i64,(n:Int)) w:=rfl;simp[Builtin.append_,run_underlying S,run_underlying br,sizeOf,typeInfo,zeroValue,hi,hz,asInt,ha,hw,ar,a1,bl,a2,ac,R,Question.forced,a9,newRow,grownCap]
   generalize hW:w.drew.alloc (.cells ((flat f (ln ys) i.size).toArray++(Builtin.zeroCells z.cells n).toList.toArray++Builtin.zeroCells z.cells (grownCap w (ln ys+n) c e-(ln ys+n))) e)=W at G
   have a6:(execOp a.eval ⟨d0,.call ⟨.builtin .append, #[s,x], #[T,I]⟩,y0,p0,f0,g0⟩).run P w= .ok (.value (.slice (some ⟨w.heap.size,0,none⟩) (ln ys+n) (grownCap w (ln ys+n) c e))) W:=by
    simp[execOp,resolve,invoke,builtin,a3,h2,G]
   rw[a6];have ba:=grownCap_ge w (ln ys+n) c e;have A:(nm n (uW te)).length=n:=by simp
   have ag:∀(j:Nat) v,(nm n (uW te))[j]? =some v->v=uW te:=λj v hv=>by
    grind
   have O:∀j,j<te.size->∃v,te.zero[j]? =some v/\z.cells.getD j undef=v:=λj hj=>by
    have:=gJ z.cells j (by omega)
    grind
   have M:∀v∈z.cells.toList,v.oneCell'=true:=λv hv=>zAq.1 ax v JJ
   have:=GV (X:=X) (kn:=kn) (e:=e) (gc:=grownCap w (ln ys+n) c e) HH (hn kn zW) (ys:=ys) (vs:=nm n (uW te)) (sz:=te.size) (olds:=flat f (ln ys) i.size) (news:=(Builtin.zeroCells z.cells n).toList) (zc:=z.cells) f (λ_ j=>z.cells.getD j undef) hp
    (by rw[yL,e1]) (λB j hi' hj=>by rw[e1];exact gZ f hi' hj) (by rw[e1];exact a8) (by rw[A,zDn,size_zeroCells,Y]) (λB j hi' hj=>by
     rw[A]at hi'
     have bd:B*te.size+j<n*te.size:=by
      have:=zA1 te.size (show B+1<=n by omega)
      grind
     have bf:(B*te.size+j) % te.size=j:=by rw[zEh,zE3];exact zC9 hj
     rw[Array.getElem?_toList];simp only[Builtin.zeroCells,zFd,zEy,Y,bd,zEp,zB8,bf]
     congr 1
     have bb:j<z.cells.size:=by omega
     simp[zBe,bb]) (λu S=>kT.zero M n u S) hS.wide (λB y hy=>by rw[ag B y hy];exact V) hS.one (λB j _ hj=>by
     obtain⟨v,hv,bs⟩:=O j hj;rw[bs]
     exact zAq.1 ax v (zB1 hv)) (λB y j v hy hv=>hS.rep.toF Z B y j v hy hv) (λB v j u hv S=>by
     rw[ag B v hv,az]at S;rw[zAi,zAs]at S;obtain⟨q,hq,rfl⟩:=S;have hj:j<te.size:=by rw[<-E];exact(zAz.1 hq).1
     obtain⟨v',av,bu⟩:=O j hj;rw[hq]at av;cases av;rw[bu]
     exact .s _) M Y (by rw[A];exact ba) (by rw[A];unfold aP;omega)
   rw[A,hW]at this;exact this
theorem Ii (hP:qS P TT) (kn:Nat) (hs:yY (zM st.tm) s= .slc c ys) (hx:yY (zM st.tm) x=xv) (hT:TT[T]? =some ti) (hd:ti.d= .slice e) (he:TT[e]? =some te) (ax:je (zE st.h) xv=some vs)
 (hb:Nat.ble te.bytes 65536=true) (O:Nat.ble 1 te.size=true) (G:Nat.beq (ln te.zero) te.size=true) (az:te.zero.all (·.oneCell')=true)
 (av:∀y,vs[0]? =some y->ln y.cells=te.size) (B:1<=ln vs) (M:ln ys+ln vs<=1073741824) (hc:c<ln ys+ln vs) (E:∀(i:Nat) (y:AV),ys[i]? =some y->ln y.cells=te.size):
  vC P st (.call ⟨.builtin .append, #[s,x], #[T,T]⟩) (.ref kn 0 (ys++vs).length) [(kn,.arr te.size (ys++vs) false)] (JK xv) [kn]:=by
 refine⟨?_⟩;intro X tm h hg hr hn o a w β ho HH Ht;obtain⟨d0,o0,y0,p0,f0,g0⟩:=o;dsimp only at ho;subst ho;have h1:=cC Ht hg (x:=s) gH hs;have h2:=cC Ht hg (x:=x) gH hx;have O:=zAt O;have hb:=zAt hb;have G:=zA9 G;obtain⟨i,z,hu,hi,hz,e1,e2,e3⟩:=vK hP hT hd he;obtain⟨ad,cap,U,_,a3,R⟩:=VX HH h2 ((cY hr).trans ax) av;obtain⟨b2,q,g,rfl,u⟩:=R (λh0=>by rw[h0]at B;simp at B);obtain⟨ap,ar⟩:=u.flat O;generalize V:a.eval s=cx at h1
 cases h1 with
 | fz _ _ hf=>
  cases hf with
  | slc _ _ b o sz f hL a2 hh=>
   have a1:z.cells.size=te.size:=by rw[<-G,<-e3];simp
   have S:A1 w (xX X β) h β false ys te.size b o f:=⟨E,λi j hi hj=>by
    have:sz=te.size:=by
     have h4:=hL.wide i ys[i] QO;have h5:=E i ys[i] QO;omega
    subst this;exact hL.cell i j hi hj,λi j hi hj=>by
    have:sz=te.size:=by
     have h4:=hL.wide i ys[i] QO;have h5:=E i ys[i] QO;omega
    subst this;exact hL.one i j hi hj,.ofF hh⟩
   obtain⟨ac,ag⟩:=S.flat O
   have A:(ln ys+ln vs)*i.bytes<=140737488355328:=by
    have:=zDa M (show i.bytes<=65536 by omega);omega
   have C:=run_append_grow (P:=P) w T y0 e i z hu hi hz ⟨b,o,none⟩ (ln ys) c (flat f (ln ys) te.size) (by rw[yL,e1]) ac ⟨b2,q,none⟩ (ln vs) cap (flat g (ln vs) te.size) (by rw[yL,e1]) ap hc (by omega) (growslice_fits hc A);generalize hW:w.drew.alloc (.cells ((flat f (ln ys) te.size).toArray++(flat g (ln vs) te.size).toArray++Builtin.zeroCells z.cells (grownCap w (ln ys+ln vs) c e-(ln ys+ln vs))) e)=W at C
   have Y:(execOp a.eval ⟨d0,.call ⟨.builtin .append, #[s,x], #[T,T]⟩,y0,p0,f0,g0⟩).run P w= .ok (.value (.slice (some ⟨w.heap.size,0,none⟩) (ln ys+ln vs) (grownCap w (ln ys+ln vs) c e))) W:=by
    simp[execOp,resolve,invoke,builtin,V,U,C]
   rw[Y];have au:=grownCap_ge w (ln ys+ln vs) c e
   have:=GV (X:=X) (kn:=kn) (e:=e) (gc:=grownCap w (ln ys+ln vs) c e) HH (hn kn zW) (ys:=ys) (vs:=vs) (sz:=te.size) (olds:=flat f (ln ys) te.size) (news:=flat g (ln vs) te.size) (zc:=z.cells) f g O
    (yL _ _ _) (λi' j hi' hj=>gZ f hi' hj) ag (yL _ _ _) (λi' j hi' hj=>gZ g hi' hj) ar S.wide u.wide S.one u.one (S.rep.toF Z) (u.rep.toF Z) (λv hv=>zAq.1 az v JJ) a1 au (by unfold aP;omega)
   rw[hW]at this;exact this
theorem Hi (hP:qS P TT) {k:Nat} (hs:yY (zM st.tm) s= .ref k 0 len) (hk:zE st.h k=some (.arr sz xs ⟨false,false⟩)) (hx:yY (zM st.tm) x=xv) (hT:TT[T]? =some ti) (hd:ti.d= .slice e) (he:TT[e]? =some te) (b1:je (zE st.h) xv=some vs)
 (U:Nat.beq sz te.size=true) (bx:∀y,vs[0]? =some y->ln y.cells=sz) (ap:1<=ln vs) (hl:1<=len) (a2:len+ln vs<=ln xs) (b5:ln xs<=1073741824):
    vC P st (.call ⟨.builtin .append, #[s,x], #[T,T]⟩) (.ref k 0 (len+ln vs)) [(k,.arr sz (xs.take len++vs++xs.drop (len+ln vs)) ⟨false,false⟩)] (k::JK xv) []:=by
  refine⟨?_⟩;intro X tm h hg hr _ o a w β ho HH Ht;obtain⟨d0,o0,y0,p0,f0,g0⟩:=o;dsimp only at ho;subst ho;have hk':=(hr k zW).trans hk;have h1:=cC Ht hg (x:=s) gH hs;have h2:=cC Ht hg (x:=x) gH hx;have U:=zA9 U;obtain⟨i,z,hu,hi,hz,e1,e2,e3⟩:=vK hP hT hd he;obtain⟨g1,g2,g3,g4,g5,f,g6,g7,g8⟩:=HH.ent k _ hk';obtain⟨ad,cap,bk,_,b9,ba⟩:=VX HH h2 ((cY λk' hk=>hr k' (by simp[hk])).trans b1) bx;obtain⟨b2,q,fy,rfl,hS⟩:=ba (λh0=>by rw[h0]at ap;simp at ap);obtain⟨bs,a6⟩:=hS.flat g1;generalize bl:a.eval s=cx at h1
  cases h1 with
  |fz _ _ hf=>cases hf
  |dref _ _ _ _ hd _=>rw[hk']at hd;cases hd
  |ref0 _ _ b3 b4 st' b ag hn=>omega
  | ref _ _ _ b3 b4 st' b n cp ag O hn hc a9=>
    have h3:=ag;rw[hk']at h3;cases h3
    obtain⟨rr,hbk,bu,a1⟩:∃rr,β k=(b,n)::rr/\n=ln xs/\∀S W,(S,W)∈rr->W=0:=by
      cases hbk:β k with
      |nil=>rw[hbk]at O;simp at O
      | cons q r=>
        obtain⟨b0,n0⟩:=q;obtain⟨e1,e2,_⟩:=g5 b0 n0 r hbk;have e2:=e2 Z;rw[hbk]at O;simp at O
        rcases O with⟨rfl,rfl⟩|hm
        · exact⟨r,rfl,e1,e2⟩
        · have:=e2 b n hm;omega
    subst bu;obtain⟨M,el,c1,c2,c3,c4⟩:=g8 b _ O
    have bf:M.size=cp*sz:=by
      have:wW w b=M.size:=by unfold wW World.shape?;rw[c1];rfl
      rw[<-this,<-a9,zBx]
    have b6:ln xs<=cp:=by
      have h5:ln xs*sz<=cp*sz:=by rw[<-bf];exact c2
      exact zEo h5 (by omega)
    have ac:(len+ln vs)*sz<=M.size:=zBi (zA1 _ a2) c2
    have ar:=UY hP hT hd he w y0 b 0 len cp M el c1 ⟨b2,q,none⟩ (ln vs) cap (flat fy (ln vs) sz) (by rw[yL,U]) bs a6 (by omega) (by
      rw[yL,<-U,zBx,<-zBq];exact ac)
    have bd:0*sz=0:=zEi _;generalize C:(M.toList.take (0+len*te.size)++flat fy (ln vs) sz++M.toList.drop (0+len*te.size+(flat fy (ln vs) sz).length)).toArray=B at ar
    have br:(execOp a.eval ⟨d0,.call ⟨.builtin .append, #[s,x], #[T,T]⟩,y0,p0,f0,g0⟩).run P w= .ok (.value (.slice (some ⟨b,0,none⟩) (len+ln vs) cp)) (w.setRow b B):=by
      simp[execOp,resolve,invoke,builtin,bl,bk,ar]
    rw[br];rw[zBq]at ac;rw[zBx,<-U]at C
    have au:B.size=M.size:=by
      rw[<-C];simp only[zDl,zAh,zAw,zA8,zDn,yL];omega
    have az:∀q,q<B.size->(B.getD q undef).oneCell'=true:=by
      rw[<-C];refine kT.get (kT.arr λv hv=>?_);have a5:=kT.of c4
      rcases zA5.1 hv with hv|hv
      · rcases zA5.1 hv with hv|hv
        · exact a5 v (zB5 hv)
        · exact a6 v hv
      · exact a5 v (zBj hv)
    let f':Nat->Nat->Value:=λi j=>if len<=i/\i<len+ln vs then fy (i-len) j else f i j
    have R:(xs.take len++vs++xs.drop (len+ln vs)).length=ln xs:=by
      simp only[zAh,zAw,zA8];omega
    have a4:∀(i:Nat) y,(xs.take len++vs++xs.drop (len+ln vs))[i]? =some y->(len<=i/\i<len+ln vs/\vs[i-len]? =some y)\/(¬(len<=i/\i<len+ln vs)/\xs[i]? =some y):=λi y hy=>by
      have ht:(xs.take len).length=len:=by simp;omega
      by_cases h5:i<len
      · rw[zA0,zBg (by omega),zB3,Os h5]at hy;exact .inr ⟨by omega,hy⟩
      · by_cases h6:i<len+ln vs
        · rw[zA0,zBc (by omega),ht,zBg (by omega)]at hy;exact .inl ⟨by omega,h6,hy⟩
        · rw[zBc uH]at hy;simp only[zAh,ht]at hy;rw[zCt,show len+ln vs+(i-(len+ln vs))=i by omega]at hy;exact .inr ⟨by omega,hy⟩
    have ax:∀i j,i<ln xs->j<sz->B[i*sz+j]? =some (f' i j):=λi j hi hj=>by
      rw[<-C];simp only[f',zDd];by_cases h5:i<len
      · have a8:i*sz+j<len*sz:=by
          have:=zA1 sz (show i+1<=len by omega);rw[zBq,zCu]at this;omega
        rw[Of (by omega),zA0,zBg uH,zB3,Os a8];simpa using c3 i j hi hj
      · have ht:(ny (len*sz) M.toList).length=len*sz:=by simp;omega
        have b7:len*sz<=i*sz:=zA1 _ (by omega);by_cases h6:i<len+ln vs
        · have e4:i*sz+j-len*sz=(i-len)*sz+j:=by rw[zFb];omega
          have a8:(i-len)*sz+j<ln vs*sz:=by
            have:=zA1 sz (show(i-len)+1<=ln vs by omega);rw[zBq,zCu]at this;omega
          rw[Os (by omega),zA0,zBc (by rw[ht];omega),ht,zBg (by rw[yL];omega),e4];exact gZ fy (by omega) hj
        · have a7:(len+ln vs)*sz<=i*sz:=zA1 _ (by omega);rw[zBq]at a7;rw[Of (by omega),zBc (by simp only[zAh,ht,yL];omega),zCt];simp only[zAh,ht,yL];rw[show len*sz+ln vs*sz+(i*sz+j-(len*sz+ln vs*sz))=i*sz+j by omega];simpa using c3 i j hi hj
    have G:=wG.step (w':=w.setRow b B) HH k (.arr sz (xs.take len++vs++xs.drop (len+ln vs)) ⟨false,false⟩) (β k) zW (λj hj hn=>setRow_other w b j B (λe=>hn (ln xs) Qg)) Z Z Z (λb n hm=> .inl ⟨n,hm⟩) (λb n _=>gK c1 au b)
      (λe he=>by rw[hk']at he;cases he;exact .inr ⟨⟨_,_,rfl,by rw[R];exact zAg _⟩,λ_ n hm=>⟨n,zAg _,hm⟩⟩) λE=>⟨g1,by rw[R];exact g2,λ_=>by rw[yO,hbk];simp,λV Y a3=>by
        rcases a4 V Y a3 with⟨_,_,h⟩|⟨_,h⟩
        · exact hS.wide _ Y h
        · exact g4 V Y h,λS W r A=>by
        rw[yO]at A;rw[R]
        exact g5 S W r A,f',λV Y j u a3 hu=>by
        simp only[f']
        rcases a4 V Y a3 with⟨q1,q2,h⟩|⟨q1,h⟩
        · rw[Os ⟨q1,q2⟩];exact⟨(hS.rep.toV _ Y j u h hu).evo E,λ_=>(hS.rep.toF Z _ Y j u h hu).evo E.size E.fz⟩
        · rw[Of q1];exact⟨(g6.toV V Y j u h hu).evo E,λ_=>(g6.toF Z V Y j u h hu).evo E.size E.fz⟩,λV j hi' hj=>by
        rw[R]at hi';simp only[f'];split
        · exact hS.one _ _ (by omega) hj
        · exact g7 V j hi' hj,λS W A=>by
        rw[yO,hbk]at A;simp at A;by_cases av:S=b
        · subst av;refine⟨B,el,setRow_heap w _ _ _ _ _ c1,?_,λV j hi' hj=>?_,az⟩
          · rw[au]
            rcases A with⟨_,rfl⟩|A
            · exact c2
            · have:=a1 S W A;subst this;omega
          · rcases A with⟨_,rfl⟩|A
            · exact ax V j hi' hj
            · have:=a1 S W A;omega
        · have A : (S, W) ∈ rr := by     rcases A with⟨h,_⟩|h;· exact absurd h av
                                         · exact h
          obtain⟨c',bb,q1,q2,_,q4⟩:=g8 S W (by rw[hbk];simp[A]);have:=a1 S W A;subst this
          exact⟨c',bb,(setRow_other w b S B av).trans q1,q2,λV j hi' _=>by omega,q4⟩⟩
    refine⟨_,G,?_⟩;have hR:yK w (xX X β) h β (.ref k 0 (len+ln vs)) (.slice (some ⟨b,0*sz,none⟩) (len+ln vs) cp):= .ref k 0 (len+ln vs) sz xs ⟨false,false⟩ b (ln xs) cp hk' O (by omega) (by omega) a9;rw[bd]at hR;exact hR.evo G.evo
def de (hP:qS P TT) {xs:List AV} (hx:yY (zM st.tm) x= .ref k 0 len) (hk:zE st.h k=some (.arr sz xs ⟨false,false⟩)) (hT:TT[T]? =some ti) (hd:ti.d= .slice e) (hl:1<=len):
  H6 P st (.call ⟨.builtin .cap, #[x], #[T]⟩) (λv d=>∃c:Int,v= .s (.int .i64 c)/\(ln xs:Int)<=c/\d=[]) [k] []:=by
 refine⟨λX tm h hg hr _ o a w β V S W=>?_⟩;obtain⟨d0,o0,y0,p0,f0,g0⟩:=o;dsimp only at V;subst V;have h1:=cC W hg (x:=x) gH hx;have hk':=(hr k zW).trans hk;obtain⟨u,hu,E⟩:=wL (hP _ _ hT) w;obtain rfl:=uP (E.trans hd);generalize C:a.eval x=cx at h1
 cases h1 with
 |fz _ _ hf=>cases hf
 |dref _ _ _ _ hd _=>rw[hk']at hd;cases hd
 |ref0 _ _ O R st' b z hn=>omega
 | ref _ _ _ O R st' b n cap z hb hn hc M=>
  have U:=z;rw[hk']at U;cases U
  have A:(execOp a.eval ⟨d0,.call ⟨.builtin .cap, #[x], #[T]⟩,y0,p0,f0,g0⟩).run P w= .ok (.value (.int .i64 cap)) w:=by
   simp[execOp,resolve,invoke,builtin,Builtin.cap_,C,hu,goInt]
  rw[A];obtain⟨g1,g2,g3,g4,g5,f,g6,g7,g8⟩:=S.ent k _ hk'
  have G:n=ln xs:=by
   cases hbk:β k with
   |nil=>rw[hbk]at hb;simp at hb
   |cons q r=>
    grind
  subst G;obtain⟨c,el,Y,c2,c3,c4⟩:=g8 b _ hb
  have B:c.size=cap*sz:=by
   have:wW w b=c.size:=by unfold wW World.shape?;rw[Y];rfl
   rw[<-this,<-M,zBx]
  have ac:ln xs<=cap:=by
   have h5:ln xs*sz<=cap*sz:=by rw[<-B];exact c2
   exact zEo h5 (by omega)
  exact⟨_,[],⟨cap,rfl,by omega,rfl⟩,β,by rw[ZI];exact wG.refl S,by rw[ZI];exact .fz _ _ (.s _)⟩
end
section
variable {P:Program} {K0:List Nat} {F:Fr K0} {m:Nat} {ops:Array Oper} {rest:List Oper} {fs:List FP} {Q:List FP->St->Prop} {tm:List (Nat×AV)} {h:List (Nat×wB)}
theorem wT.restr2 {a:Act} (R:wT F m st a w) (K A:List Nat) (G:K0.all (K.contains ·)=true) (t:Nat) (v:AV) (hg:∀i,v≠ .gh i)
 (hv:∀X β,gW X (zE st.h) β w->yK w (xX X β) (zE st.h) β (zM st.tm t) (a.eval (.tmp t))->yK w (xX X λk=>if k∈K then β k else []) (zE (vH K (zE st.h))) (λk=>if k∈K then β k else []) v (a.eval (.tmp t))):
  wT F m ⟨(t,v)::(Av.restr K A st).tm,(Av.restr K A st).h⟩ a w:=by
 have R':=wT.restr R K A G;obtain⟨⟨X,β,hX,H,Y,z,hJ,hD⟩,nd,gs,hl⟩:=R;obtain⟨W,O⟩:=H.restr K;refine⟨⟨X,_,hX,W,λj=>?_,⟨λk e he=>?_,z.size,z.keep,λk b n u=>?_,λk b n u=>?_,z.bs,z.os,z.tape,z.output⟩,λi hi=>?_,hD⟩,R'.nd,gs,hl⟩
 .show yK _ _ _ _ (zM ((t,v)::(Av.restr K A st).tm) j) _
  rw[xL];split
  .rename_i hj;subst hj;exact hv X β H (Y j)
  .rw[bR];split
   .exact O _ _ (Y j)
   .exact .fz _ _ (.bot _)
 .have hk:k∈K:=by
   have:=zAq.1 G k (F.hh k e he);simpa using this
  have h1:=z.knd k e he;have M:∀C,zE st.h k=some C->zE (vH K (zE st.h)) k=some (qE K (zE st.h) C):=λC h2=>by rw[wY,Os hk,h2];rfl
  cases e with
  |dead=>exact h1
  |box cs=>obtain⟨B,h2⟩:=h1;exact⟨_,M _ h2⟩
  |obj cs=>obtain⟨B,h2⟩:=h1;exact⟨_,M _ h2⟩
  |arr sz xs sl=>obtain⟨U,S,h2,h3⟩:=h1;obtain⟨V,E,h4,h5⟩:=bQ K (zE st.h) sz U S;exact⟨V,E,(M _ h2).trans (by rw[h4]),by rw[h5];exact h3⟩
 ·(try dsimp only at u)
  split at u
  .exact z.own k b n u
  .simp at u
 .have hk:k∈K:=by
   have:=zAq.1 G k (F.hK k b n u);simpa using this
  (try dsimp only)
  rw[Os hk];exact z.pas k b n u
 .have h1:zM st.tm GS= .gh i:=by
   change zM ((t,v)::(Av.restr K A st).tm) GS= .gh i at hi
   grind [wT,zE,xX,zM,vH,xL,bR,ig]
  refine F.Jst i _ X w w _ (hJ i h1) (zAg _) (λ_ _ _=>rfl) (λb hb=>?_) (λb hb=>?_) Z Z Z
  .obtain⟨k,n,u⟩:=hb
   (try dsimp only at u)
   split at u
   .exact .inl ⟨k,n,u⟩
   .simp at u
  .obtain⟨k,n,u⟩:=hb;exact W.lt b (.inr ⟨k,n,u⟩)
def j2 (t k N:Nat) (K ts:List Nat) (hv:zM tm t= .ref k 0 (ln xs)) (hk:zE h k=some (.arr sz xs ⟨false,false⟩)) (hl:1<=ln xs) (hN:ln xs<=N) (S:N<=1073741824) (hK:K0.all (K.contains ·)=true) (M:K.contains k=false) {st':St} (he:restr K ts ⟨tm,h⟩=st')
 (h1:∀c,c<N->yQ P F m ops false rest ⟨(t,.slc c xs)::st'.tm,st'.h⟩ fs Q) (h2:yQ P F m ops false rest ⟨tm,(k,.arr sz (xs++nm (N-xs.length) (cL sz)) ⟨false,false⟩)::h⟩ fs Q):yQ P F m ops false rest ⟨tm,h⟩ fs Q:=⟨λa w R=>by
 subst he;have R0:=R;obtain⟨⟨X,β,hX,Y,Ht,KK,hJ,hD⟩,nd,gs,O⟩:=R0;have u:=Ht t;dsimp only at u;rw[hv]at u;obtain⟨b,cap,A,z⟩:=Ki Y hk u hl hN S;by_cases hc:cap<N
 .refine(h1 cap hc).run a w (wT.restr2 R K ts hK t (.slc cap xs) (λi h=>by cases h) λX β H C=>?_);dsimp only at C;rw[hv]at C;obtain⟨H',V⟩:=H.restr K;have B:=V _ _ C
  have e5:wQ K (zE h) (.ref k 0 (ln xs))= .sl false xs:=by
   simp only[wQ,M,zCc,hk];rw[zAu,zAb]
  dsimp only at B⊢;rw[e5,A]at B;rw[A];have U:xs≠[]:=λh0=>by rw[h0]at hl;simp at hl
  generalize E:(Value.slice (some ⟨b,0*sz,none⟩) (ln xs) cap)=cs at B
  cases B with
  | fz _ _ hf=>
   cases hf with
   |nil a cap=>exact absurd Z U
   |sl nn xs b o sz cap f hx hL hc hh=>
    cases E;exact .fz _ _ (.slc _ _ _ _ _ f hL hc hh)
 .obtain⟨β',G⟩:=z (by omega);refine h2.run a w ?_;have W:∀j,over [(k,wB.arr sz (xs++nm (N-xs.length) (cL sz)) ⟨false,false⟩)] (zE h) j≠some .dead:=cA Z nd;have R':=QG.put hX Y Ht KK hJ hD gs O G W (v:= .bot) (c:=undef) (.fz _ _ (.bot _)) none (λd hd=>by cases hd);have e1:(λj=>if(none:Option Nat)=some j then AV.bot else zM tm j)=zM tm:=funext λj=>by simp
  show QG F m (zM tm) (zE ((k,wB.arr sz (xs++nm (N-xs.length) (cL sz)) ⟨false,false⟩)::h)) a w
  rw[show zE ((k,wB.arr sz (xs++nm (N-xs.length) (cL sz)) ⟨false,false⟩)::h)=over [(k,wB.arr sz (xs++nm (N-xs.length) (cL sz)) ⟨false,false⟩)] (zE h)from vP [(k,wB.arr sz (xs++nm (N-xs.length) (cL sz)) ⟨false,false⟩)] h,<-e1]
  exact R'⟩
def be (t:Nat) (hv:zM tm t= .slc c xs) (hx:1<=ln xs) (hk:yQ P F m ops false rest ⟨(t,.sl true xs)::tm,h⟩ fs Q):yQ P F m ops false rest ⟨tm,h⟩ fs Q:=⟨λa w R=>hk.run a w (by
 obtain⟨⟨X,β,G,z,u,A,E,C⟩,O,gs,hl⟩:=R;refine⟨⟨X,β,G,z,λj=>?_,A,λi hi=>?_,C⟩,O,gs,hl⟩
 .rw[xL];split
  .rename_i hj;subst hj;have:=u j;dsimp only at this;rw[hv]at this;generalize a.eval (.tmp j)=S at this
   cases this with
   |fz _ _ M=>
    cases M with
    |slc _ _ b o sz f hL hc hh=>exact .fz _ _ (.sl true xs b o sz c f (λB=>by rw[B]at hx;simp at hx) hL hc hh)
  .exact u j
 .rw[xL]at hi;split at hi
  .cases hi
  .exact E i hi)⟩
end
section
variable {P:Program} {K0:List Nat} {F:Fr K0} {m:Nat} {ops:Array Oper} {rest:List Oper} {fs:List FP} {tm:List (Nat×AV)} {h:List (Nat×wB)}
def Ho {K u:List Nat} {k:List (Nat×AV)->List (Nat×wB)->Prop} (hk:gV K (zE st.h) st.tm u λT=>gP K (zE st.h) K λU=>k T U):k (restr K u st).tm (restr K u st).h:=by
 rw[cX,jH]at hk;exact hk
def kL {Q:List FP->St->Prop} (K u:List Nat) (z:K0.all (K.contains ·)=true) (h1:gV K (zE h) tm u λT=>gP K (zE h) K λU=>yQ P F m ops false rest ⟨T,U⟩ fs Q):yQ P F m ops false rest ⟨tm,h⟩ fs Q:=
 ⟨λa w R=>(Ho (st:=⟨tm,h⟩) (k:=λT U=>yQ P F m ops false rest ⟨T,U⟩ fs Q) h1).run a w (wT.restr R K u z)⟩
def wJ {c:Code} (K u:List Nat) (z:K0.all (K.contains ·)=true) (h1:gV K (zE st.h) st.tm u λT=>gP K (zE st.h) K λU=>uR P F m c ⟨T,U⟩ Q):uR P F m c st Q:=
 jK K u z Z (Ho (k:=λT U=>uR P F m c ⟨T,U⟩ Q) h1)
structure Eu (p:Prop):Prop where
 h:p
def MT (P:Program) (F:Fr K0) (m:Nat) (c:Code) (Q:Exit->St->Prop) (K u:List Nat):Nat->St->Prop
 |0,_=>False
 |n+1,st=>uR P F m c (restr K u st) (bK Q λs=>Eu (MT P F m c Q K u n s))
def wH {c:Code} (n:Nat) (K u:List Nat) (z:K0.all (K.contains ·)=true) (h1:Eu (MT P F m c Q K u n st)):uR P F m (.loop c) st Q:=⟨λa w R=>by
 refine wpIn_loop_rounds n ?_
 induction n generalizing st a w with
 |zero=>exact h1.h.elim
 |succ n A=>
  refine Code.wpIn_mono (λe a' w' ⟨s,q1,q2⟩=>?_) (h1.h.run a w (wT.restr R K u z))
  cases e with
  |normal=>exact A q1 a' w' q2
  |_=>exact⟨s,q1,q2⟩⟩
def yD {st0:St} {c:Code} {K u:List Nat} (z:restr K u st=st0) (h1:uR P F m c st0 (bK Q λs=>Eu (MT P F m c Q K u n s))):Eu (MT P F m c Q K u (n+1) st):=by
 subst z;exact⟨h1⟩
def ae {α:Type} {cs vs:List α} (hl:ln vs=ln cs):QP cs 0 vs=vs:=by
 apply zBb;intro j;rw[VW _ _ _ _ (by omega)]
 grind
def SI {TT:List TI} {A:Bool} {Q:List FP->St->Prop} {ty:Nat} {pos:String} {u:Array Edge} (C:qS P TT) {k:Nat} {p:Operand} {cs:List AV} (E:yY (zM tm) p= .ptr k 0 0) (z:zE h k=some (.box cs)) (hx:yY (zM tm) x= .agg vs) (hT:TT[T]? =some ti) (hs:Nat.beq (ln vs) ti.size=true) (hl:Nat.beq (ln vs) (ln cs)=true)
 (hk:yQ P F m ops A rest ⟨tm,(k,.box vs)::h⟩ (⟨true,[k],[k]⟩::fs) Q):yQ P F m ops A (⟨none,.store T p x,ty,pos,u,none⟩::rest) ⟨tm,h⟩ fs Q:=by
 have e1:=zA9 hs;have B:=zA9 hl;refine jR (v:= .bot) (k:=k) (e:= .box vs) (r:=[k]) (nw:=[]) C ?_ Z Z hk;simp only[exec,E,hT,z,hx,Tj,AV.ok,AV.cells,eI,ae B]
 rw[show(true&&(Nat.beq (ln vs) ti.size&&Nat.ble (0+ti.size) (ln cs)))=true by
  rw[hs,zDt (by omega)];rfl]
 rfl
end
