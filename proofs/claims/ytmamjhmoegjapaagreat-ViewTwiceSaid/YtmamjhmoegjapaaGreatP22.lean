/- Part 22. -/
import Derived.Test.YtmamjhmoegjapaaGreatP21
namespace Go.Proofs.YtmamjhmoegjapaaGreat
namespace Av
open Tryz
set_option linter.all false
set_option maxRecDepth 4000
set_option maxHeartbeats 8000000
def fE (d:Dk):Nat->List Int×Dk
 |0=>([],d)
 |i+1=>((fE d i).1++[nx (fE d i).2 256],ad (fE d i).2)
theorem BW (d:Dk):∀i,(fE d i).1.length=i/\rem (fE d i).2<=rem d/\BY (fE d i).1
 |0=>⟨rfl,zYs _,λx hx=>by cases hx⟩
 |i+1=>by
  obtain⟨h1,h2,h3⟩:=BW d i;have r1:=wP (fE d i).2;have w1:=yD (fE d i).2 256 zB;refine⟨by simp only[fE,zYr,zY2,zZz];omega,by simp only[fE];omega,?_⟩;simp only[fE];intro x hx
  rcases zZa.1 hx with hx|hx
  ·exact h3 x hx
  ·rw[zZu]at hx;subst hx;exact w1
theorem zFs (d:Dk) (n:Int) (h0:0<=n) (h1:n<=1000):zO 95 [.ptr 1000 0 0,iA n] [(1000,cG d)] (zD yA (fE (ad d) (nx d (n+1)).toNat).1) [(1000,cG (fE (ad d) (nx d (n+1)).toNat).2)]:=by
 have c1:=yJ d (n+1) zB zB;have b1:=yD d (n+1) zB;generalize nx d (n+1)=k at *;generalize ad d=d1 at *;obtain⟨N,hN⟩:∃N:Nat,k.toNat=N:=⟨_,rfl⟩;have hN2:k=(N:Int):=by omega
 rw[hN];subst hN2;refine eM call95 λF hF=>?_
 refine zW c1 ?_;refine xK 5 1001 1 rfl rfl rfl ?_;refine zP (N) [1000,1001] [] [0] [5,6,0] rfl (λi T U=>⟨(5,.ref 1001 0 ((fE d1 i).1.map yA).length)::(6,iA ((N:Int)-i))::T,(1000,cG (fE d1 i).2)::(1001,.arr 1 ((fE d1 i).1.map yA) true)::U⟩) ?_;(conv=>whnf);refine⟨by(rw[show(N:Int)-(0:Nat)=N by omega];rfl),?_,?_⟩
 ·intro i hi;have hl:=(BW d1 i).1;have eS:fE d1 (i+1)=((fE d1 i).1++[nx (fE d1 i).2 256],ad (fE d1 i).2):=rfl;rw[show((N:Int)-((i+1:Nat):Int))=(N:Int)-i-1 by omega];generalize (fE d1 i).1=p at *;generalize (fE d1 i).2=e at *;have hk1:1<=(N:Int)-i:=by omega
  have hk2:(N:Int)-i<=1001:=by omega
  have hp:p.length<=1001:=by omega
  generalize (N:Int)-i=q at *;have n1:=yJ e 256 zB zB;have w1:=yD e 256 zB;rw[eS];generalize nx e 256=y at *;generalize ad e=e1 at *;refine zW n1 ?_
  show restr _ _ _=_
  rw[zYz];rfl
 ·rw[show(N:Int)-(N:Int)=0 by omega];refine WW ?_;exact zI [1000] rfl rfl (zZl (AV.sl false) zYv) rfl
theorem zFt:∀(f:Nat) (n:Int),0<=n->n<128 ^ (f+1)->BY (enR f n)
 |0,n,h0,h1=>λx hx=>by
  rw[enR,zZu]at hx;subst hx;simp at h1;omega
 | f+1,n,h0,h1=>λx hx=>by
  rw[enR]at hx;split at hx
  ·rw[zZu]at hx;subst hx;omega
  ·rcases zZ5.1 hx with rfl|hx
   ·omega
   ·exact zFt f (n/128) zB (zAy h1) x hx
theorem KU {n:Int} (h0:0<=n) (h1:n<=4294967295):BY (cO n):=zFt 4 n h0 zB
theorem zFu (fx gr:Nat) (c:Int) (hc:0<=c/\c<256):∀(l:List Int) (i:Nat),RH l->BY (BN fx gr c i l)
 | [],_,_=>λx hx=>by cases hx
 | y::l,i,h=>λx hx=>by
  rw[BN]at hx
  rcases zZa.1 hx with hx|hx
  ·split at hx
   ·rw[zZu]at hx;subst hx;exact hc
   ·cases hx
  ·rcases zZa.1 hx with hx|hx
   ·have:=h y zU;exact KU this.1 this.2 x hx
   ·exact zFu fx gr c hc l (i+1) (λz hz=>h z (by simp[hz])) x hx
theorem zRv (m:Ms) (h:MgP m) (n:Nat) (n2:n<=2) (ng:uR m.kind≠0->1<=n) (nl:m.args.length=jQ m.kind+n*uR m.kind):∃p,BY p/\p.length<=200/\p=NC (jQ m.kind) (uR m.kind) n m/\zO 147 [yB m] [] (.tup [zD yA p,iA 0]) []:=by
 have k1:=zGl m.kind h.k.1 h.k.2 m n rfl h.l (by rw[h.d];simp) h.n nl zB;have hf:=AL m.kind;have hg:=AK m.kind
 have hgn:n*uR m.kind<=8:=by rcases hg with e|e|e<;>rw[e]<;>omega
 have k2:=LZ m.kind h.k.1 h.k.2 m n rfl h.l (by rw[h.d];simp) h.n zB (λ_=>nl) zB
 have hv:vmF (uR m.kind) n m.data=true:=by
  unfold vmF;rw[zYx,h.d];exact⟨rfl,by by_cases h0:uR m.kind=0;exact .inl h0;exact .inr (ng h0)⟩
 rw[hv]at k1;have hpl:=JG (jQ m.kind) (uR m.kind) n m.args 0;have hll:=h.l;refine⟨NC (jQ m.kind) (uR m.kind) n m,λx hx=>?_,?_,rfl,?_⟩
 ·unfold NC at hx;rw[h.d]at hx
  rcases zZa.1 hx with hx|hx
  ·rcases zZa.1 hx with hx|hx
   ·exact h.t x hx
   ·exact zFu _ _ _ zB _ _ h.n x hx
  ·rw[zZo]at hx;split at hx
   ·rw[zZu]at hx;omega
   ·cases hx
 ·unfold NC;rw[h.d,zZo,zYr,zYr]
  have:(if uR m.kind≠0/\m.args.length=jQ m.kind then [(0:Int)]else []).length<=1:=by split<;>simp
  omega
 ·generalize NC (jQ m.kind) (uR m.kind) n m=p at *;refine eM call147 λF hF=>?_
  refine xA (vD k1 k2) ?_;exact zL
theorem zRw (m:Ms) (h:MgP m):∃p,BY p/\p.length<=200/\zO 147 [yB m] [] (.tup [zD yA p,iA 0]) []:=by
 obtain⟨n,n2,ng,nl⟩:=h.c;obtain⟨p,h1,h2,_,h4⟩:=zRv m h n n2 ng nl;exact⟨p,h1,h2,h4⟩
theorem zVm (y:Int):0<=IntKind.u8.wrap y/\IntKind.u8.wrap y<256:=by
 unfold IntKind.wrap;simp[IntKind.signed,IntKind.bits];omega
section
variable {P:Program} {TT:List TI} {st:St}
theorem zFv (hP:uN P TT) {T e k off len sz:Nat} {s x:Operand} {ti te:TI} {xs:List AV} {fl:Fl} {xv:AV} (hs:yO (zG st.tm) s= .ref k off len) (hk:zC st.h k=some (.arr sz xs fl)) (hx:yO (zG st.tm) x=xv) (hT:TT[T]? =some ti) (hd:ti.d= .slice e) (he:TT[e]? =some te) (hvs:BL (zC st.h) xv=some []):
  wR P st (.call ⟨.builtin .append, #[s,x], #[T,T]⟩) (.ref k off len) [] (k::OB xv) []:=by
 refine⟨?_⟩;intro X tm h hg hr _ o a w β ho HH Ht;obtain⟨dst,op',type,pos,after,guard⟩:=o;dsimp only at ho;subst ho;have hk':=(hr k zU).trans hk;have h1:=jP Ht hg (x:=s) qH hs;have h2:=jP Ht hg (x:=x) qH hx;obtain⟨ad,cap,hcv,_⟩:=eE HH h2 ((jU λk' hk=>hr k' OG).trans hvs) (sz:=0) (λy hy=>by cases hy)
 have hsl:∃bd cp,a.eval s= .slice bd len cp/\len<=cp:=by
  generalize a.eval s=cx at h1
  cases h1 with
  |fz _ _ hf=>cases hf
  |dref _ _ _ _ hd _=>rw[hk']at hd;cases hd
  |ref0 _ _ sz' xs' st' b hk'' hn=>exact⟨_,0,rfl,zYs _⟩
  |ref _ _ _ sz' xs' st' b n cp hk'' hbm hn hc hs'=>exact⟨_,cp,rfl,hc⟩
 obtain⟨bd,cp,hcx,hcp⟩:=hsl;have hrun:=jK hP hT hd he w type bd ad len cp cap hcp
 have hex:(execOp a.eval ⟨dst,.call ⟨.builtin .append, #[s,x], #[T,T]⟩,type,pos,after,guard⟩).run P w= .ok (.value (.slice bd len cp)) w:=by
  rw[zZz]at hcv;simp[execOp,resolve,invoke,builtin,hcx,hcv,hrun]
 rw[hex,dH];exact⟨β,xL.refl HH,by rw[hcx]at h1;exact h1⟩
end
section
variable {P:Program} {TT:List TI} {K0:List Nat} {F:Fr K0} {m:Nat} {ops:Array Oper} {rest:List Oper} {Q:List FP->St->Prop} {tm:List (Nat×AV)} {h:List (Nat×xP)} {dr:Bool} {fs:List FP}
variable {ty:Nat} {pos:String} {after:Array Edge} {t:Nat}
theorem zBm (hP:uN P TT) {T e key len sz:Nat} {x l:Operand} {ti te:TI} {xs:List AV} {sl:Fl} {k:IntKind} {i:Int} (hx:yO (zG tm) x= .ref key 0 len) (hk:zC h key=some (.arr sz xs sl)) (hl:yO (zG tm) l= .s (.int k i)) (hT:TT[T]? =some ti) (hd:ti.d= .slice e) (he:TT[e]? =some te)
  (hsz:Nat.beq sz te.size=true) (h0:0<=i) (h1:i<=len) (hm:Nat.blt t m=true) (hr:zY P F m ops dr rest ⟨(t,.ref key 0 i.toNat)::tm,h⟩ (⟨true,[],[key]⟩::fs) Q):
  zY P F m ops dr (⟨some t,.slice T x none (some l) none,ty,pos,after,none⟩::rest) ⟨tm,h⟩ fs Q:=by
 have:=gX (P:=P) (st:=⟨tm,h⟩) (lo:=none) (hi:=some l) (l:=0) (r:=i.toNat) hP hx hk hT hd he rfl ⟨k,i,hl,zB⟩ (zY4 _) zB hsz;rw[yDo]at this;exact yF this hm hr
end
theorem zXp (a y:Int) (h0:0<=y/\y<=1023):zO 50 [zD yA [],iA a,iA y] [] (zD yA [IntKind.u8.wrap y]) []:=by
 refine eM call50 λF hF=>?_
 refine WL ?_;exact zL
section
variable (b:List Int) (a y k:Int) (hl:1<=b.length) (hn:b.length<=1000) (h0:0<=y/\y<=1023) (hk:a % (b.length:Int)=k)
include hl hn h0 hk
theorem LF (j:Int) (hj:y.tdiv 256 % 4=j):(b.map yA).length=b.length/\zO 16 [iA a,iA (((b.map yA).length:Nat):Int)] [] (iA k) []/\zO 16 [iA (y.tdiv 256),iA 4] [] (iA j) []/\XB .i64 (y.tdiv 256)/\0<=k/\k<(b.length:Int):=by
 have hbl:=zA yA b;have c1:=LJ a (b.length:Int) zB zB;have c2:=LJ (y.tdiv 256) 4 zB zB;have hk0:=yB4 a (show(b.length:Int)≠0 by omega);have hk1:=yBu a (show 0<(b.length:Int) by omega);rw[hk]at c1 hk0 hk1;rw[hj]at c2;exact⟨hbl,by rw[hbl];exact c1,c2,by rw[yAh h0.1];unfold XB;omega,hk0,hk1⟩
theorem zXq (hj:y.tdiv 256 % 4=3):zO 50 [zD yA b,iA a,iA y] [] (zD yA (b.take k.toNat)) []:=by
 obtain⟨hbl,c1,c2,hq,k0,k1⟩:=LF b a y k hl hn h0 hk 3 hj;clear hk hj;unfold zD;refine eM call50 λF hF=>?_
 refine MM (vD c1 c2) ?_;exact zL
theorem zXr (hj:y.tdiv 256 % 4=2):zO 50 [zD yA b,iA a,iA y] [] (zD yA (b.take k.toNat++[IntKind.u8.wrap y]++b.drop k.toNat)) []:=by
 obtain⟨hbl,c1,c2,hq,k0,k1⟩:=LF b a y k hl hn h0 hk 2 hj;clear hk hj;have e:zD yA (b.take k.toNat++[IntKind.u8.wrap y]++b.drop k.toNat)= .sl false ((b.take k.toNat).map yA++[yA (IntKind.u8.wrap y)]++(b.drop k.toNat).map yA):=by rw[zD,zYz,zYz];rfl
 rw[e];unfold zD;have hm:(b.take k.toNat).length=k.toNat:=by rw[zY5];omega
 refine eM call50 λF hF=>?_
 (have zc1:=c1;have zc2:=c2;(repeat' (first|refine WYX ?_|refine xR (λhc=>?_) (λhc=>?_)|refine wE (λhc=>?_)|(refine zE ?_;first|refine SL ?_)|refine SB ?_|fail))<;>clear zc1 zc2)
 (repeat' (first|refine aT ?_|refine xR (λhc=>?_) (λhc=>?_)|refine wE (λhc=>?_)|(refine zE ?_;first|(refine yZ ?_;refine kH tok rfl rfl ?_)|(refine yW ?_;refine gU 1001 tok rfl rfl rfl rfl rfl rfl (yY _ _ (λ_=>rfl)) rfl rfl rfl (by first|omega|(simp;omega)) rfl rfl rfl ?_))|refine SB ?_|fail))
 exact zI [] rfl rfl (zZl (AV.sl false) zYv) rfl
theorem zVn (hj:y.tdiv 256 % 4=0):zO 50 [zD yA b,iA a,iA y] [] (zD yA (b.set k.toNat (IntKind.u8.wrap y))) []:=by
 obtain⟨hbl,c1,c2,hq,k0,k1⟩:=LF b a y k hl hn h0 hk 0 hj;clear hk hj;have e:zD yA (b.set k.toNat (IntKind.u8.wrap y))= .sl false ((b.map yA).set k.toNat (yA (IntKind.u8.wrap y))):=by rw[zD,yAw]
 rw[e];have hy:=yP yA b k k0 k1;unfold zD;refine eM call50 λF hF=>?_
 (have zc1:=c1;have zc2:=c2;(repeat' (first|refine qS ?_|refine xR (λhc=>?_) (λhc=>?_)|refine wE (λhc=>?_)|(refine zE ?_;first|(refine yW ?_;refine gU 1001 tok rfl rfl rfl rfl rfl rfl (yY _ _ (λ_=>rfl)) rfl rfl rfl zB rfl rfl rfl ?_))|fail))<;>clear zc1 zc2)
 exact zI [] rfl rfl (zZl (AV.sl false) (by rw[zZv];exact zYy zU)) rfl
theorem zVo (hj:y.tdiv 256 % 4=1) (h1:1<=k) (h2:k+1<b.length):zO 50 [zD yA b,iA a,iA y] [] (zD yA (b.take k.toNat++b.drop (k.toNat+1))) []:=by
 obtain⟨hbl,c1,c2,hq,k0,k1⟩:=LF b a y k hl hn h0 hk 1 hj;clear hk hj
 have hB:∀y∈b.map yA,y.cells.length=1:=λy hy=>by
  rw[zZ3]at hy;obtain⟨z,_,rfl⟩:=hy;rfl
 have e:zD yA (b.take k.toNat++b.drop (k.toNat+1))= .sl false ((b.map yA).take k.toNat++(b.map yA).drop (k.toNat+1)):=by rw[zD,zYz,yCb,yCa]
 rw[e];unfold zD;refine eM call50 λF hF=>?_
 (have zc1:=c1;have zc2:=c2;(repeat' (first|refine WZX ?_|refine xR (λhc=>?_) (λhc=>?_)|refine wE (λhc=>?_)|(refine zE ?_;first|(refine yW ?_;refine gU 1001 tok rfl rfl rfl rfl rfl rfl (yY _ _ (λ_=>rfl)) rfl rfl rfl zB rfl rfl rfl ?_))|fail))<;>clear zc1 zc2)
 refine yN ?_
 (repeat' (first|refine qS ?_|refine xR (λhc=>?_) (λhc=>?_)|refine wE (λhc=>?_)|(refine zE ?_;first|(refine qD ?_;first|refine gZ tok rfl rfl rfl rfl rfl rfl rfl zB zB rfl ?_|refine zBm tok rfl rfl rfl rfl rfl rfl rfl zB zB rfl ?_)|(refine yW ?_;refine zCi tok rfl rfl rfl rfl rfl rfl rfl rfl (λy hy=>hB y (zZn (zZ1 (zZ4 hy)))) wI zB wI zB rfl rfl ?_))|fail))
 refine zI [] rfl rfl (zZl (AV.sl false) ?_) rfl
 have hv:List.take ((b.map yA).length-(k+1).toNat) (List.drop (k+1).toNat (b.map yA))=List.drop (k.toNat+1) (b.map yA):=by
  rw[show(k+1).toNat=k.toNat+1 by omega];exact zYy RP
 rw[hv,zZv];exact yDh (by rw[zYr,zY5];omega)
theorem zVp (hj:y.tdiv 256 % 4=1) (h2:k+1=b.length):zO 50 [zD yA b,iA a,iA y] [] (zD yA (b.take k.toNat)) []:=by
 obtain⟨hbl,c1,c2,hq,k0,k1⟩:=LF b a y k hl hn h0 hk 1 hj;clear hk hj;have e:zD yA (b.take k.toNat)= .sl false ((b.map yA).take k.toNat):=by rw[zD,yCb]
 rw[e]
 have hv:((b.map yA).drop (k+1).toNat).take ((b.map yA).length-(k+1).toNat)=[]:=by
  rw[show(b.map yA).length-(k+1).toNat=0 by omega,yBs]
 unfold zD;refine eM call50 λF hF=>?_
 (have zc1:=c1;have zc2:=c2;(repeat' (first|refine WZX ?_|refine xR (λhc=>?_) (λhc=>?_)|refine wE (λhc=>?_)|(refine zE ?_;first|(refine yW ?_;refine gU 1001 tok rfl rfl rfl rfl rfl rfl (yY _ _ (λ_=>rfl)) rfl rfl rfl zB rfl rfl rfl ?_))|fail))<;>clear zc1 zc2)
 refine yN ?_
 (repeat' (first|refine qS ?_|refine xR (λhc=>?_) (λhc=>?_)|refine wE (λhc=>?_)|(refine zE ?_;first|(refine qD ?_;first|refine gZ tok rfl rfl rfl rfl rfl rfl rfl zB zB rfl ?_|refine zBm tok rfl rfl rfl rfl rfl rfl rfl zB zB rfl ?_)|(refine yW ?_;refine yF (zFv tok rfl rfl rfl rfl rfl rfl ((zZl some hv:some _=_))) rfl ?_))|fail))
 exact zL
theorem zVq (hj:y.tdiv 256 % 4=1) (h2:k=0) (h3:1<b.length):zO 50 [zD yA b,iA a,iA y] [] (zD yA (b.drop 1)) []:=by
 obtain⟨hbl,c1,c2,hq,k0,k1⟩:=LF b a y k hl hn h0 hk 1 hj;subst h2;clear hk hj
 have hB:∀y∈b.map yA,y.cells.length=1:=λy hy=>by
  rw[zZ3]at hy;obtain⟨z,_,rfl⟩:=hy;rfl
 have e:zD yA (b.drop 1)= .sl false ((b.map yA).drop 1):=by rw[zD,yCa]
 rw[e];unfold zD;refine eM call50 λF hF=>?_
 (have zc1:=c1;have zc2:=c2;(repeat' (first|refine WZX ?_|refine xR (λhc=>?_) (λhc=>?_)|refine wE (λhc=>?_)|(refine zE ?_;first|(refine yW ?_;refine gU 1001 tok rfl rfl rfl rfl rfl rfl (yY _ _ (λ_=>rfl)) rfl rfl rfl zB rfl rfl rfl ?_))|fail))<;>clear zc1 zc2)
 refine yN ?_
 (repeat' (first|refine WS ?_|refine SG (I2 (λhc=>?_) (λhc=>?_))|refine SG (λhc=>?_)|(refine zE ?_;first|(refine qD ?_;first|refine gZ tok rfl rfl rfl rfl rfl rfl rfl zB zB rfl ?_|refine zCe tok rfl rfl rfl rfl rfl rfl rfl rfl ?_))|(first|refine zCj 7 9 rfl rfl ?_|first|refine SR ?_|refine SK (I2 (λhc=>?_) (λhc=>?_))|refine SK (λhc=>?_)|fail)|fail))
 refine zIn OE ?_;refine zR2 [] [] tok rfl rfl rfl rfl rfl rfl rfl rfl (λy hy=>hB y (zZn (zZ1 (zZ4 hy)))) rfl rfl wI wI rfl rfl rfl rfl ?_;refine WW ?_;refine zI [] rfl rfl ?_ rfl
 show AV.sl false (List.take ((b.map yA).length-1) (List.drop 1 (b.map yA)))=_
 rw[zYy RP]
end
theorem zDt (b:List Int) (hb:BY b) (hn:b.length<=1000) (a y:Int) (h0:0<=y/\y<=1023):∃q,BY q/\q.length<=b.length+1/\zO 50 [zD yA b,iA a,iA y] [] (zD yA q) []:=by
 have hw:=zVm y;by_cases hl:1<=b.length
 case neg=>
  have e:b=[]:=zZp zB;subst e;exact⟨_,λx hx=>by rw[zZu]at hx;subst hx;exact hw,by simp,zXp a y h0⟩
 have k0:=yB4 a (show(b.length:Int)≠0 by omega);have k1:=yBu a (show 0<(b.length:Int) by omega);have j0:=yB4 (y.tdiv 256) (show(4:Int)≠0 by omega);have j1:=yBu (y.tdiv 256) (show(0:Int)<4 by omega);have hT:BY (b.take (a % (b.length:Int)).toNat):=λx hx=>hb x (zZ1 hx)
 have hD:∀n,BY (b.drop n):=λn x hx=>hb x (zZn hx)
 have hlt:(b.take (a % (b.length:Int)).toNat).length<=b.length:=by rw[zY5];omega
 obtain hj|hj|hj|hj:y.tdiv 256 % 4=0∨y.tdiv 256 % 4=1∨y.tdiv 256 % 4=2∨y.tdiv 256 % 4=3:=by omega
 ·refine⟨_,λx hx=>?_,by rw[yAk];omega,zVn b a y _ hl hn h0 rfl hj⟩
  rcases yBy hx with h|rfl
  ·exact hb x h
  ·exact hw
 ·by_cases h2:a % (b.length:Int)+1=b.length
  ·exact⟨_,hT,zB,zVp b a y _ hl hn h0 rfl hj h2⟩
  ·by_cases h1:1<=a % (b.length:Int)
   ·refine⟨_,λx hx=>?_,?_,zVo b a y _ hl hn h0 rfl hj h1 zB⟩
    ·rcases zZa.1 hx with h|h
     ·exact hT x h
     ·exact hD _ x h
    ·rw[zYr,zZk,zY5];omega
   ·exact⟨_,hD 1,by rw[zZk];omega,zVq b a y _ hl hn h0 rfl hj zB zB⟩
 ·refine⟨_,λx hx=>?_,?_,zXr b a y _ hl hn h0 rfl hj⟩
  ·rcases zZa.1 hx with h|h
   ·rcases zZa.1 h with h|h
    ·exact hT x h
    ·rw[zZu]at h;subst h;exact hw
   ·exact hD _ x h
  ·rw[zYr,zYr,zZk,zY5,yA8];omega
 ·exact⟨_,hT,zB,zXq b a y _ hl hn h0 rfl hj⟩
theorem zFw {α:Type} (I:Nat->α->Prop) (R:Nat->α->α->Prop) (h:∀i a,I i a->∃b,R i a b/\I (i+1) b) (a0:α) (h0:I 0 a0):∃f:Nat->α,f 0=a0/\∀i,I i (f i)/\R i (f i) (f (i+1)):=by
 have hg:∀i a,∃b,I i a->R i a b/\I (i+1) b:=λi a=>by
  by_cases hi:I i a
  ·obtain⟨b,hb⟩:=h i a hi;exact⟨b,λ_=>hb⟩
  ·exact⟨a,λh=>absurd h hi⟩
 let f:Nat->α:=λn=>Nat.rec a0 (λi a=>(hg i a).choose) n
 have hf:∀i,I i (f i):=λi=>by
  induction i with
  |zero=>exact h0
  |succ i ih=>exact((hg i (f i)).choose_spec ih).2
 exact⟨f,rfl,λi=>⟨hf i,((hg i (f i)).choose_spec (hf i)).1⟩⟩
def d00:Dk:=⟨[],0,zY4 _,zY4 _⟩
def ZU {α:Type} [Inhabited α] (g:Nat->α->α) (l:List α) (i:Nat):List α:=(List.range l.length).map λj=>if j<i then g j (l.getD j default)else l.getD j default
theorem vG {α:Type} [Inhabited α] (g:Nat->α->α) (l:List α) (i:Nat):(ZU g l i).length=l.length:=by simp[ZU]
theorem uV {α:Type} [Inhabited α] (g:Nat->α->α) (l:List α) (i j:Nat):(ZU g l i)[j]? =if j<l.length then some (if j<i then g j (l.getD j default)else l.getD j default)else none:=by
 unfold ZU;rw[zYt];by_cases hj:j<l.length
 ·rw[zZr hj,zYp hj];rfl
 ·rw[zZj wI,zYo hj];rfl
theorem jE {α:Type} [Inhabited α] (g:Nat->α->α) (l:List α):ZU g l 0=l:=by
 apply zZ9;intro j;rw[uV];by_cases hj:j<l.length
 ·rw[zYp hj,zYo zB];simp[List.getD,hj]
 ·rw[zYo hj,zZj zB]
theorem zMi {α:Type} [Inhabited α] (g:Nat->α->α) (l:List α) (i:Nat) (hi:i<l.length):ZU g l (i+1)=(ZU g l i).set i (g i (l.getD i default)):=by
 apply zZ9;intro j;rw[yAx,uV,uV,vG];by_cases he:i=j
 ·subst he;rw[zYp hi,zYp rfl,zYp hi,zYp (Nat.lt_succ_self i)]
 ·rw[zYo he];by_cases hj:j<l.length
  ·rw[zYp hj,zYp hj];by_cases h2:j<i
   ·rw[zYp zB,zYp h2]
   ·rw[zYo zB,zYo h2]
  ·rw[zYo hj,zYo hj]
theorem qC {α:Type} [Inhabited α] (f:α->AV) (g:Nat->α->α) (l:List α) (i:Nat) (hi:i<l.length):(ZU g l (i+1)).map f=((ZU g l i).map f).set i (f (g i (l.getD i default))):=by
 rw[zMi g l i hi,yAw]
structure In where
 opn:Bool
 its:List It
instance:Inhabited In:=⟨⟨false,[]⟩⟩
instance:Inhabited It:=⟨⟨0,0,[]⟩⟩
def kM (i:In):AV:= .agg [bA i.opn,zD vB i.its]
structure En where
 ag:Int
 ki:Int
 co:Int
def gF (e:En):AV:=MI e.ag e.ki e.co
structure TS where
 d:xQ
 rs:List Ms
 en:List En
 ks:List Int
structure SS where
 d:xQ
 R:List (List Ms)
 en:List En
 ks:List Int
def aO (l:List Ms):AV:=zD yB l
def InB (i:In):Prop:=i.its.length<=1000/\∀x∈i.its,BY x.pay/\x.pay.length<=100000
def StR (c:Cf) (s now:Int) (i:It) (a b:TS):Prop:=∃h:Hd,TG c a.d s i now h/\HdP c a.d s i now h/\b=⟨h.d,a.rs++[h.p],a.en++[⟨a.d.rg.num,i.kind,h.e⟩],if 0<=h.k then a.ks++[h.k]else a.ks⟩
structure GU (c:Cf) (d0 d:xQ):Prop where
 i:uW c d
 n:d.rg.num=d0.rg.num
 a:d.rg.ag=d0.rg.ag
 t:T0 d0->T0 d
theorem GU.refl {c:Cf} {d:xQ} (h:uW c d):GU c d d:=⟨h,rfl,rfl,id⟩
theorem GU.trans {c:Cf} {a b d:xQ} (h1:GU c a b) (h2:GU c b d):GU c a d:=⟨h2.i,h2.n.trans h1.n,h2.a.trans h1.a,λh=>h2.t (h1.t h)⟩
theorem zRx (c:Cf) (s now:Int) (n0:0<=now) (n1:now<=1073741824) (its:List It) (hib:∀x∈its,BY x.pay/\x.pay.length<=100000) (st:TS) (hI:uW c st.d):
  ∃f:Nat->TS,f 0=st/\∀k,GU c st.d (f k).d/\((f k).rs.length=st.rs.length+k/\(f k).en.length=st.en.length+k/\(f k).ks.length<=st.ks.length+k/\((∀x∈st.ks,0<=x/\x<(c.js.length:Int))->∀x∈(f k).ks,0<=x/\x<(c.js.length:Int)))/\(k<its.length->StR c s now (its.getD k default) (f k) (f (k+1))):=by
 have hx:∀k,BY (its.getD k default).pay/\(its.getD k default).pay.length<=100000:=λk=>by
  by_cases hk:k<its.length
  ·refine hib _ ?_;rw[zY0,zZd hk];exact yBm _
  ·rw[zY0,zZj zB]
   show BY ([]:List Int)/\([]:List Int).length<=100000
   exact⟨λy hy=>absurd hy zU,zY4 _⟩
 obtain⟨f,h0,hf⟩:=zFw (λk (a:TS)=>GU c st.d a.d/\(a.rs.length=st.rs.length+k/\a.en.length=st.en.length+k/\a.ks.length<=st.ks.length+k/\((∀x∈st.ks,0<=x/\x<(c.js.length:Int))->∀x∈a.ks,0<=x/\x<(c.js.length:Int)))) (λk a b=>StR c s now (its.getD k default) a b)
  (λk a ha=>by
   obtain⟨ha,h1,h2,h3,h4⟩:=ha;obtain⟨h,hB,hP⟩:=zDw c a.d ha.i s now n0 n1 _ (hx k).1 (hx k).2;refine⟨_,⟨h,hB,hP,rfl⟩,ha.trans ⟨hP.inv,hP.num,hP.ag,hP.t0⟩,?_,?_,?_,λhks x hx=>?_⟩
   ·dsimp only;rw[zYr,yA8];omega
   ·dsimp only;rw[zYr,yA8];omega
   ·dsimp only;split
    ·rw[zYr,yA8];omega
    ·omega
   ·dsimp only at hx;split at hx
    ·rename_i hk0
     rcases zZa.1 hx with hx|hx
     ·exact h4 hks x hx
     ·rw[zZu]at hx;subst hx
      rcases hP.rst with h9|⟨_,h8,h9⟩
      ·omega
      ·exact⟨h8,h9⟩
    ·exact h4 hks x hx)
  st ⟨GU.refl hI,zB,zB,zB,id⟩
 exact⟨f,h0,λk=>⟨(hf k).1.1,(hf k).1.2,λ_=>(hf k).2⟩⟩
def dQ (ins:List In) (s:Nat):List It:=if s<ins.length/\(ins.getD s default).opn=true then(ins.getD s default).its else []
def SeR (c:Cf) (now:Int) (ins:List In) (s:Nat) (a b:SS):Prop:=∃f:Nat->TS,f 0=⟨a.d,[],a.en,a.ks⟩/\(∀k,k<(dQ ins s).length->StR c (s:Int) now ((dQ ins s).getD k default) (f k) (f (k+1)))/\(∀k,GU c a.d (f k).d/\(f k).rs.length=k/\(f k).en.length=a.en.length+k/\(f k).ks.length<=a.ks.length+k)/\
 b=⟨(f (dQ ins s).length).d,a.R++[(f (dQ ins s).length).rs],(f (dQ ins s).length).en,(f (dQ ins s).length).ks⟩
theorem GV {ins:List In} (h:∀i∈ins,InB i) (s:Nat):(dQ ins s).length<=1000/\∀x∈dQ ins s,BY x.pay/\x.pay.length<=100000:=by
 unfold dQ;split
 ·rename_i hs;refine h _ ?_;rw[zY0,zZd hs.1];exact yBm _
 ·exact⟨zY4 _,λx hx=>by cases hx⟩
theorem zMj (c:Cf) (now:Int) (n0:0<=now) (n1:now<=1073741824) (ins:List In) (hin:∀i∈ins,InB i) (d:xQ) (hI:uW c d):
  ∃F:Nat->SS,F 0=⟨d,[],[],[]⟩/\∀s,GU c d (F s).d/\((F s).R.length=s/\(F s).en.length<=1000*s/\(F s).ks.length<=1000*s/\∀x∈(F s).ks,0<=x/\x<(c.js.length:Int))/\SeR c now ins s (F s) (F (s+1)):=by
 obtain⟨F,h0,hF⟩:=zFw (λs (a:SS)=>GU c d a.d/\(a.R.length=s/\a.en.length<=1000*s/\a.ks.length<=1000*s/\∀x∈a.ks,0<=x/\x<(c.js.length:Int))) (λs a b=>SeR c now ins s a b)
  (λs a ha=>by
   obtain⟨ha,h1,h2,h3,h4⟩:=ha;obtain⟨hl,hb⟩:=GV hin s;obtain⟨f,f0,hf⟩:=zRx c (s:Int) now n0 n1 (dQ ins s) hb ⟨a.d,[],a.en,a.ks⟩ ha.i;have hL:=hf (dQ ins s).length;refine⟨_,⟨f,f0,λk hk=>(hf k).2.2 hk,λk=>⟨(hf k).1,by have:=(hf k).2.1.1;simpa using this,(hf k).2.1.2.1,(hf k).2.1.2.2.1⟩,rfl⟩,ha.trans hL.1,?_,?_,?_,hL.2.1.2.2.2 h4⟩
   ·dsimp only;rw[zYr,yA8];omega
   ·have:=hL.2.1.2.1;dsimp only at *;omega
   ·have:=hL.2.1.2.2.1;dsimp only at *;omega)
  ⟨d,[],[],[]⟩ ⟨GU.refl hI,rfl,zY4 _,zY4 _,λx hx=>by cases hx⟩
 exact⟨F,h0,λs=>⟨(hF s).1.1,(hF s).1.2,(hF s).2⟩⟩
def SO (ins:List In) (s:Nat) (b:Bool):Bool:=if s<ins.length/\(ins.getD s default).opn=true then b else false
def auF (ins:List In) (l:List Bool):List Bool:=ZU (SO ins) l l.length
def dkU (d:xQ) (ins:List In):xQ:=⟨d.rg,d.rq,d.dr,auF ins d.au⟩
theorem zFx {c:Cf} {d:xQ} (h:uW c d) (ins:List In):uW c (dkU d ins):=
 ⟨h.b,h.v,h.q,h.lg,h.a,h.n,h.t8,h.br,h.bb,h.bl,by show((auF ins d.au).length:Int)=_;unfold auF;rw[vG];exact h.au,h.dn,h.dr,h.vh⟩
def dkM (d:xQ) (now:Int):xQ:=⟨d.rg,mkQ d.rq now,d.dr,d.au⟩
theorem zQr {c:Cf} {d:xQ} (h:uW c d) (now:Int) (n0:0<=now) (n1:now<=1073741824):uW c (dkM d now):=by
 refine⟨h.b,zWm h.v now n0 n1,?_,λr hr g hg=>?_,h.a,h.n,h.t8,h.br,h.bb,h.bl,h.au,h.dn,h.dr,h.vh⟩
 ·show((mkQ d.rq now).length:Int)<=_
  unfold mkQ;rw[zYq];exact h.q
 ·obtain⟨x,hx,rfl⟩:=zZ3.1 hr;obtain⟨y,hy,rfl⟩:=zZ3.1 hg;obtain⟨e1,e2,_⟩:=zIi y now n0 n1;have:=h.lg x hx y hy;rw[e1,e2];exact this
def VB (x:xQ):List AV:=[iA x.rg.num,zD yA x.rg.ag.sec,iA x.rg.ag.rights,iA x.rg.ag.cls,zD iA x.rg.ag.lim,iA x.rg.ag.req,iA x.rg.ag.ses,iA x.rg.ag.rate,iA x.rg.ag.burst,zD xE x.rg.tk,zD vQ x.rg.vh,iA x.rg.bk.level,iA x.rg.bk.rate,iA x.rg.bk.burst,zD yL x.rq,zD qV x.dr,zD bA x.au]
def tkT (d:xQ) (R:List (List Ms)) (E:List En) (K:List Int):AV:= .tup [zK d,zD aO R,zD gF E,zD iA K]
theorem fF {xs:List AV} {i:Nat} {y:AV} (h:xs[i]? =some y):xs.set i y=xs:=by
 apply zZ9;intro j;rw[yAx];by_cases he:i=j
 ·subst he;have hi:=(zZg.1 h).1;rw[zYp rfl,zYp hi,h]
 ·rw[zYo he]
theorem BX {g:Nat->Bool->Bool} {l:List Bool} {k n:Nat} (h:l.length=n):List.take n (List.drop 0 ((ZU g l k).map bA))=(ZU g l k).map bA:=by
 rw[zZv];exact zYy (by rw[zYq,vG,h];exact zYs _)
section
variable {P:Program} {K0:List Nat} {F:Fr K0} {m:Nat} {tm:List (Nat×AV)} {h:List (Nat×xP)}
theorem wO.recell {a:Act} {w:World} (R:wO F m ⟨tm,h⟩ a w) (k i K:Nat) {xs ys:List AV} {sb:Bool} {sz2:Nat} {fl2:Fl} (hk:zC h k=some (.arr 1 xs ⟨sb,true⟩)) (hv:xs[i]? =some (.s (.slice none 0 0))) (hK:zC h K=some (.arr sz2 ys fl2)) (hne:K≠k):
  wO F m ⟨tm,(k,.arr 1 (xs.set i (.ref K 0 0)) ⟨sb,true⟩)::h⟩ a w:=by
 obtain⟨⟨X,β,hX,H,Ht,KK,hJ,hD⟩,nd,gs,hl⟩:=R;have hh':∀j,j≠k->zC ((k,.arr 1 (xs.set i (.ref K 0 0)) ⟨sb,true⟩)::h) j=zC h j:=λj hj=>by rw[xJ,zYo hj]
 have hhk:zC ((k,.arr 1 (xs.set i (.ref K 0 0)) ⟨sb,true⟩)::h) k=some (.arr 1 (xs.set i (.ref K 0 0)) ⟨sb,true⟩):=by rw[xJ,zYp rfl]
 have hlen:(xs.set i (.ref K 0 0)).length=xs.length:=yAk
 have E:IF w (xH X β) (zC h) β w (xH X β) (zC ((k,.arr 1 (xs.set i (.ref K 0 0)) ⟨sb,true⟩)::h)) β:=⟨zYs _,λb _ hd=>⟨rfl,hd⟩,λ_ _ _ _=>rfl,λj e he=>by
  by_cases hj:j=k
  ·subst hj;rw[hk]at he;cases he;exact .inr ⟨⟨xs.set i (.ref K 0 0),⟨sb,true⟩,hhk,by rw[hlen];exact zYs _⟩,λb n hm=>⟨n,zYs _,hm⟩⟩
  ·have:=kD (zC h) β j e he
   rcases this with h1|h1
   ·exact .inl (by rw[hh' j hj];exact h1)
   ·refine .inr ?_
    cases e with
    |dead=>exact h1
    |box cs=>obtain⟨⟨cs',h2⟩,h3⟩:=h1;exact⟨⟨cs',by rw[hh' j hj];exact h2⟩,h3⟩
    |arr sz' xs' st'=>obtain⟨⟨x2,s2,h2,h3⟩,h4⟩:=h1;exact⟨⟨x2,s2,by rw[hh' j hj];exact h2,h3⟩,h4⟩⟩
 have H':kQ X (zC ((k,.arr 1 (xs.set i (.ref K 0 0)) ⟨sb,true⟩)::h)) β w:=by
  refine⟨λj e he=>?_,λj hj=>?_,H.disj,H.free,H.lt⟩
  ·by_cases hj:j=k
   ·subst hj;rw[hhk]at he;cases he;obtain⟨e1,e2,e3,e4,e5,f,e6,e7,e8⟩:=H.ent j _ hk;refine⟨e1,by rw[hlen];exact e2,λhx=>e3 λh0=>hx (by rw[h0];rfl),λi' x hx=>?_,λb n r hr=>by rw[hlen];exact e5 b n r hr,f,λi' x l v hx hv'=>⟨?_,λh=>by cases h⟩,λi' j' h1 h2=>e7 i' j' (by rw[<-hlen];exact h1) h2,e8⟩
    ·rw[yAx]at hx;split at hx
     ·split at hx
      ·cases hx;rfl
      ·cases hx
     ·exact e4 i' x hx
    ·rw [yAx]at hx;split at hx
     ·rename_i hij;subst hij;split at hx
      ·cases hx
       cases l with
       |zero=>
        have hv2:v= .ref K 0 0:=by simpa [AV.cells]using hv'.symm
        subst hv2;have h6:=e6.toV i _ 0 _ hv rfl;rw[h6.s_inv];exact .ref0 K 0 sz2 ys fl2 none (by rw[hh' K hne];exact hK) (zY4 _)
       |succ l=>simp[AV.cells]at hv'
      ·cases hx
     ·exact(e6.toV i' x l v hx hv').evo E
   ·rw[hh' j hj]at he;exact(H.ent j e he).evo E rfl λ_ _ _=>rfl
  ·rw[xJ]at hj;split at hj
   ·cases hj
   ·exact H.off j hj
 refine⟨⟨X,β,hX,H',λt=>(Ht t).evo E,⟨λj e he=>?_,KK.size,KK.keep,KK.own,KK.pas,KK.bs,KK.os,KK.tape,KK.output⟩,hJ,hD⟩,λj=>?_,gs,hl⟩
 ·have:=KK.knd j e he;by_cases hj:j=k
  ·subst hj
   cases e with
   |dead=>exact this
   |box cs=>obtain⟨cs',h2⟩:=this;(try dsimp only at h2);rw[hk]at h2;cases h2
   |arr sz' xs' sl'=>obtain⟨xs2,sl2,h2,h3⟩:=this;(try dsimp only at h2);rw[hk]at h2;cases h2;exact⟨_,_,hhk,by rw[hlen];exact h3⟩
  ·cases e with
   |dead=>exact this
   |box cs=>obtain⟨cs',h2⟩:=this;exact⟨cs',by dsimp only;rw[hh' j hj];exact h2⟩
   |arr sz' xs' sl'=>obtain⟨xs2,sl2,h2,h3⟩:=this;exact⟨xs2,sl2,by dsimp only;rw[hh' j hj];exact h2,h3⟩
 ·dsimp only;by_cases hj:j=k
  ·subst hj;rw[hhk];intro hd;cases hd
  ·rw[hh' j hj];exact nd j
theorem XG {c:Code} {Q:Exit->St->Prop} (k i K:Nat) {xs xs' ys:List AV} {sb:Bool} {sz2:Nat} {fl2:Fl} (hk:zC h k=some (.arr 1 xs ⟨sb,true⟩)) (hv:xs[i]? =some (.s (.slice none 0 0))) (hK:zC h K=some (.arr sz2 ys fl2)) (hne:Nat.beq K k=false) (he:xs.set i (.ref K 0 0)=xs')
  (hs:uI P F m c ⟨tm,(k,.arr 1 xs' ⟨sb,true⟩)::h⟩ Q):uI P F m c ⟨tm,h⟩ Q:=
 ⟨λa w R=>hs.run a w (he▸R.recell k i K hk hv hK (λe=>by rw[e,Nat.beq_refl]at hne;cases hne))⟩
end
def GW:List AV:=[iA 0,.s (.slice none 0 0),iA 0,iA 0,.s (.slice none 0 0),iA 0,iA 0,iA 0,iA 0,.s (.slice none 0 0),.s (.slice none 0 0),iA 0,iA 0,iA 0,.s (.slice none 0 0),.s (.slice none 0 0),.s (.slice none 0 0)]
theorem zDu {c:Cf} {d:xQ} (hI:uW c d) (ins:List In) (hil:ins.length<=1000) (hin:∀i∈ins,InB i) (now:Int) (n0:0<=now) (n1:now<=1073741824) (zF:Nat->SS) (hz0:zF 0=⟨dkU d ins,[],[],[]⟩) (hn:d.au.length=1) (hm:1<=ins.length)
  (hz:∀s,GU c (dkU d ins) (zF s).d/\((zF s).R.length=s/\(zF s).en.length<=1000*s/\(zF s).ks.length<=1000*s/\∀x∈(zF s).ks,0<=x/\x<(c.js.length:Int))/\SeR c now ins s (zF s) (zF (s+1))):
  zO 110 [wJ c,zK d,zD kM ins,iA now] [] (tkT (dkM (zF 1).d now) (zF 1).R (zF 1).en (zF 1).ks) []:=by
 have kc:=VD d hI.bd zB;have hal:(d.au.map bA).length=1:=by rw[zYq,hn]
 have hinl:=zA kM ins;have km:=zAu (zF 1).d.rq now (hz 1).1.i.v;have cfe:wJ c= .agg [.sl false (c.js.map wC),.sl false (c.ags.map wN),iA c.per,iA c.cap,iA c.hold,iA c.lock]:=rfl;rw[cfe];unfold VC zK wH at kc;have e0:=jE (SO ins) d.au;have hkM:(min ((ins.map kM).length:Int) ((d.au.map bA).length:Int)).toNat=1:=by omega
 have htl:((ins.take 1).map kM).length=1:=by rw[zYq,zY5];omega
 have hty:∀s,s<1->((ins.take 1).map kM)[s]? =some (kM (ins.getD s default)):=λs hs=>by
  rw[zYt,zZ2,zYp hs,zY0,zZd zB];rfl
 obtain⟨hT0,⟨ha0,hb0,hc0,_⟩,zf0,hf0,hs0,hl0,hx0⟩:=hz 0;have hy0:=hty 0 zB;refine eM call110 λF hF=>?_
 refine zW kc ?_;rw[hkM,hal];refine zP (1) [1004,4,5,8,28] [4,5,8,28] [2,3,4,5,8,12,13,14,39] [40,9,10,2,3,4,5,8,12,13,14,39] rfl (λi T U=>⟨(40,iA i)::(9,.s (.slice none 0 0))::(10,.s (.slice none 0 0))::T,(1004,.arr 1 ((ZU (SO ins) d.au i).map bA) false)::U⟩) ?_;(conv=>whnf);refine⟨by(rw[e0];rfl),?_,?_⟩
 ·intro i hi;have hya:((ZU (SO ins) d.au i).map bA)[i]? =some (bA (d.au.getD i default)):=by rw[zYt,uV,zYp zB,zYo (yCo i)];rfl
  have hxl:((ZU (SO ins) d.au i).map bA).length=1:=by rw[zYq,vG,hn]
  rw[qC bA (SO ins) d.au i zB];have hsame:=fF hya;clear kc km;generalize (ZU (SO ins) d.au i).map bA=xs at *;generalize d.au.getD i default=b9 at *;unfold SO;by_cases h1:i<1
  ·have hy:=hty i h1;have hlt:i<ins.length:=by omega
   generalize ins.getD i default=x at *;obtain⟨op,its⟩:=x;rw[show kM ⟨op,its⟩= .agg [bA op,zD vB its]from rfl]at hy;cases op
   ·rw[zYo (λh=>by cases h.2)];refine WW ?_;rfl
   ·rw[zYp ⟨hlt,rfl⟩,hsame];refine WW ?_;rfl
  ·rw[zYo (λh=>by omega)];refine WW ?_;rfl
 ·(refine WW ?_)
  refine uQ [4,5,8,28] [2,3,4,5,8,9,10,12,13,14,61,62] rfl ?_
  (conv=>whnf)
  rw[BX (by omega:d.au.length=1),show ZU (SO ins) d.au 1=auF ins d.au by unfold auF;rw[hn],htl];refine xK 13 1002 3 rfl rfl rfl ?_;refine xK 14 1003 1 rfl rfl rfl ?_;refine xK 9 1006 4 rfl rfl rfl ?_;refine OO 28 rfl ?_;refine XG 28 0 1006 rfl rfl rfl rfl rfl ?_;refine wM 2 [5,28,1002,1003,1006,4,8] [13,14,62,2,3,4,5,8,12,61] rfl ?_;refine yE (st0:=⟨[(13,.ref 1002 0 ((zF 0).en.map gF).length),(14,.ref 1003 0 ((zF 0).ks.map iA).length),(62,iA 0),(2,.sl false ((ins.take 1).map kM)),(3,iA now),(4,.ptr 4 0 0),(5,.ptr 5 0 0),(8,.ptr 8 0 0),(12,.ref 28 0 1),(61,iA 1)],[(5,.box (VB (zF 0).d)),(28,.arr 1 [.ref 1006 0 ([]:List AV).length] ⟨false,true⟩),(1002,.arr 3 ((zF 0).en.map gF) true),(1003,.arr 1 ((zF 0).ks.map iA) true),(1006,.arr 4 ([]:List AV) true),(4,.box [.sl false (c.js.map wC),.sl false (c.ags.map wN),iA c.per,iA c.cap,iA c.hold,iA c.lock]),(8,.box GW)]⟩) (by rw[hz0];rfl) ?_;obtain⟨r0,hr0⟩:∃r,r=(zf0 (dQ ins 0).length).rs:=⟨_,rfl⟩;have hR0:(zF 1).R=(zF 0).R++[r0]:=by rw[hr0,hx0]
  have q0:(zF 1).d=(zf0 (dQ ins 0).length).d/\(zF 1).en=(zf0 (dQ ins 0).length).en/\(zF 1).ks=(zf0 (dQ ins 0).length).ks:=by rw[hx0];exact⟨rfl,rfl,rfl⟩
  have ml1:=zA gF (zF 0).en;have ml2:=zA iA (zF 0).ks;by_cases ho:(ins.getD 0 default).opn=true
  case' pos=>
   have hse:dQ ins 0=(ins.getD 0 default).its:=by unfold dQ;rw[zYp ⟨zB,ho⟩]
   have hib:=(GV hin 0).1;rw[hse]at hib q0 hs0 hr0;clear hse;generalize ins.getD 0 default=x at *;obtain⟨op,its⟩:=x;dsimp only at *;subst ho;rw[show kM ⟨true,its⟩= .agg [bA true,zD vB its]from rfl]at hy0;have hil2:=zA vB its;refine WW ?_;refine yS (its) [5,1002,1003,28,1006,4,8] [4,8] [2,3,4,5,8,12,16,61,62,75,76] [13,14,77,2,3,4,5,8,12,16,61,62,75,76] rfl (λi pre T U=>⟨(13,.ref 1002 0 ((zf0 i).en.map gF).length)::(14,.ref 1003 0 ((zf0 i).ks.map iA).length)::(77,iA i)::T,(5,.box (VB (zf0 i).d))::(1002,.arr 3 ((zf0 i).en.map gF) true)::(1003,.arr 1 ((zf0 i).ks.map iA) true)::(28,.arr 1 [.ref 1006 0 ((zf0 i).rs.map yB).length] ⟨false,true⟩)::(1006,.arr 4 ((zf0 i).rs.map yB) true)::U⟩) ?_;(conv=>whnf);refine⟨by(rw[hf0];rfl),?_,?_⟩
   ·intro k pre it post hx hk;have hy3:=xO vB hx hk;have hlt3:=yX hx hk;have hgt:its.getD k default=it:=by rw[hx,<-hk];simp[List.getD]
    obtain⟨h,hB,hP,hnx⟩:=hs0 k hlt3;rw[hgt]at hB;obtain⟨hk1,hk2,hk3,hk4⟩:=hl0 k;have hm1:=zA gF (zf0 k).en;have hm2:=zA iA (zf0 k).ks;have hm3:=zA yB (zf0 k).rs;have kh:=hB.1;rw[hnx];dsimp only;rw[show((zf0 k).rs++[h.p]).map yB=(zf0 k).rs.map yB++[yB h.p] by simp,show∀e:En,((zf0 k).en++[e]).map gF=(zf0 k).en.map gF++[gF e]from λe=>by simp,hgt];rw[cfe]at kh;unfold FC zK wH vB at kh;unfold vB at hy3;have hen:(zF 0).en.length<=2000/\(zF 0).ks.length<=2000:=by omega
    clear hx hgt hnx hB hP hty kc km;generalize (zf0 k).rs.map yB=rs9 at *;generalize (zf0 k).en.map gF=en9 at *;generalize h.p=p9 at *;generalize h.e=e9 at *;generalize h.d=d9 at *;generalize hkk:h.k=k9 at *;generalize (zf0 k).d=dk9 at *;obtain⟨pk,pt,pa,pd⟩:=p9;unfold yB MI at kh;dsimp only at kh;unfold VB gF MI yB;by_cases h0:0<=k9
    ·rw[zYp h0,show((zf0 k).ks++[k9]).map iA=(zf0 k).ks.map iA++[iA k9] by simp];generalize (zf0 k).ks.map iA=ks9 at *;refine zW kh ?_;rfl
    ·rw[zYo h0];generalize (zf0 k).ks.map iA=ks9 at *;refine zW kh ?_;rfl
   obtain⟨w1,w2,w3⟩:=q0;refine WW ?_
  case' neg=>
   have hse:dQ ins 0=[]:=by unfold dQ;rw[zYo (λh=>ho h.2)]
   rw[hse,zZz,hf0]at q0 hr0;obtain⟨w1,w2,w3⟩:=q0;have hop:(ins.getD 0 default).opn=false:=by simpa using ho
   clear hse ho;generalize ins.getD 0 default=x at *;obtain⟨op,its⟩:=x;dsimp only at *;subst hop;rw[show kM ⟨false,its⟩= .agg [bA false,zD vB its]from rfl]at hy0;refine WW ?_
  all_goals clear hy0 ml1 ml2
  all_goals
   refine yE (st0:=⟨[(13,.ref 1002 0 ((zF 1).en.map gF).length),(14,.ref 1003 0 ((zF 1).ks.map iA).length),(62,iA 1),(2,.sl false ((ins.take 1).map kM)),(3,iA now),(4,.ptr 4 0 0),(5,.ptr 5 0 0),(8,.ptr 8 0 0),(12,.ref 28 0 1),(61,iA 1)],[(5,.box (VB (zF 1).d)),(28,.arr 1 [.ref 1006 0 (r0.map yB).length] ⟨false,true⟩),(1002,.arr 3 ((zF 1).en.map gF) true),(1003,.arr 1 ((zF 1).ks.map iA) true),(1006,.arr 4 (r0.map yB) true),(4,.box [.sl false (c.js.map wC),.sl false (c.ags.map wN),iA c.per,iA c.cap,iA c.hold,iA c.lock]),(8,.box GW)]⟩) (by rw[w1,w2,w3,hr0];rfl) ?_;refine zW km ?_;refine zI [] rfl rfl ?_ rfl
   show AV.tup [zK (dkM (zF 1).d now),.sl false [.sl false (List.take _ (List.drop 0 (r0.map yB)))],.sl false (List.take _ (List.drop 0 ((zF 1).en.map gF))),.sl false (List.take _ (List.drop 0 ((zF 1).ks.map iA)))]=_
   simp only[zZv,zYv];unfold tkT;rw[hR0,hz0];rfl
theorem zDv {c:Cf} {d:xQ} (hI:uW c d) (ins:List In) (hil:ins.length<=1000) (hin:∀i∈ins,InB i) (now:Int) (n0:0<=now) (n1:now<=1073741824) (zF:Nat->SS) (hz0:zF 0=⟨dkU d ins,[],[],[]⟩) (hn:d.au.length=2) (hm:2<=ins.length)
  (hz:∀s,GU c (dkU d ins) (zF s).d/\((zF s).R.length=s/\(zF s).en.length<=1000*s/\(zF s).ks.length<=1000*s/\∀x∈(zF s).ks,0<=x/\x<(c.js.length:Int))/\SeR c now ins s (zF s) (zF (s+1))):
  zO 110 [wJ c,zK d,zD kM ins,iA now] [] (tkT (dkM (zF 2).d now) (zF 2).R (zF 2).en (zF 2).ks) []:=by
 have kc:=VD d hI.bd zB;have hal:(d.au.map bA).length=2:=by rw[zYq,hn]
 have hinl:=zA kM ins;have km:=zAu (zF 2).d.rq now (hz 2).1.i.v;have cfe:wJ c= .agg [.sl false (c.js.map wC),.sl false (c.ags.map wN),iA c.per,iA c.cap,iA c.hold,iA c.lock]:=rfl;rw[cfe];unfold VC zK wH at kc;have e0:=jE (SO ins) d.au;have hkM:(min ((ins.map kM).length:Int) ((d.au.map bA).length:Int)).toNat=2:=by omega
 have htl:((ins.take 2).map kM).length=2:=by rw[zYq,zY5];omega
 have hty:∀s,s<2->((ins.take 2).map kM)[s]? =some (kM (ins.getD s default)):=λs hs=>by
  rw[zYt,zZ2,zYp hs,zY0,zZd zB];rfl
 obtain⟨hT0,⟨ha0,hb0,hc0,_⟩,zf0,hf0,hs0,hl0,hx0⟩:=hz 0;have hy0:=hty 0 zB;obtain⟨hT1,⟨ha1,hb1,hc1,_⟩,zf1,hf1,hs1,hl1,hx1⟩:=hz 1;have hy1:=hty 1 zB;refine eM call110 λF hF=>?_
 refine zW kc ?_;rw[hkM,hal];refine zP (2) [1004,4,5,8,28] [4,5,8,28] [2,3,4,5,8,12,13,14,39] [40,9,10,2,3,4,5,8,12,13,14,39] rfl (λi T U=>⟨(40,iA i)::(9,.s (.slice none 0 0))::(10,.s (.slice none 0 0))::T,(1004,.arr 1 ((ZU (SO ins) d.au i).map bA) false)::U⟩) ?_;(conv=>whnf);refine⟨by(rw[e0];rfl),?_,?_⟩
 ·intro i hi;have hya:((ZU (SO ins) d.au i).map bA)[i]? =some (bA (d.au.getD i default)):=by rw[zYt,uV,zYp zB,zYo (yCo i)];rfl
  have hxl:((ZU (SO ins) d.au i).map bA).length=2:=by rw[zYq,vG,hn]
  rw[qC bA (SO ins) d.au i zB];have hsame:=fF hya;clear kc km;generalize (ZU (SO ins) d.au i).map bA=xs at *;generalize d.au.getD i default=b9 at *;unfold SO;by_cases h1:i<2
  ·have hy:=hty i h1;have hlt:i<ins.length:=by omega
   generalize ins.getD i default=x at *;obtain⟨op,its⟩:=x;rw[show kM ⟨op,its⟩= .agg [bA op,zD vB its]from rfl]at hy;cases op
   ·rw[zYo (λh=>by cases h.2)];refine WW ?_;rfl
   ·rw[zYp ⟨hlt,rfl⟩,hsame];refine WW ?_;rfl
  ·rw[zYo (λh=>by omega)];refine WW ?_;rfl
 ·(refine WW ?_)
  refine uQ [4,5,8,28] [2,3,4,5,8,9,10,12,13,14,61,62] rfl ?_
  (conv=>whnf)
  rw[BX (by omega:d.au.length=2),show ZU (SO ins) d.au 2=auF ins d.au by unfold auF;rw[hn],htl];refine xK 13 1002 3 rfl rfl rfl ?_;refine xK 14 1003 1 rfl rfl rfl ?_;refine xK 9 1006 4 rfl rfl rfl ?_;refine xK 10 1007 4 rfl rfl rfl ?_;refine OO 28 rfl ?_;refine XG 28 0 1006 rfl rfl rfl rfl rfl ?_;refine XG 28 1 1007 rfl rfl rfl rfl rfl ?_;refine wM 3 [5,28,1002,1003,1006,1007,4,8] [13,14,62,2,3,4,5,8,12,61] rfl ?_;refine yE (st0:=⟨[(13,.ref 1002 0 ((zF 0).en.map gF).length),(14,.ref 1003 0 ((zF 0).ks.map iA).length),(62,iA 0),(2,.sl false ((ins.take 2).map kM)),(3,iA now),(4,.ptr 4 0 0),(5,.ptr 5 0 0),(8,.ptr 8 0 0),(12,.ref 28 0 2),(61,iA 2)],[(5,.box (VB (zF 0).d)),(28,.arr 1 [.ref 1006 0 ([]:List AV).length,.ref 1007 0 ([]:List AV).length] ⟨false,true⟩),(1002,.arr 3 ((zF 0).en.map gF) true),(1003,.arr 1 ((zF 0).ks.map iA) true),(1006,.arr 4 ([]:List AV) true),(1007,.arr 4 ([]:List AV) true),(4,.box [.sl false (c.js.map wC),.sl false (c.ags.map wN),iA c.per,iA c.cap,iA c.hold,iA c.lock]),(8,.box GW)]⟩) (by rw[hz0];rfl) ?_;obtain⟨r0,hr0⟩:∃r,r=(zf0 (dQ ins 0).length).rs:=⟨_,rfl⟩;have hR0:(zF 1).R=(zF 0).R++[r0]:=by rw[hr0,hx0]
  have q0:(zF 1).d=(zf0 (dQ ins 0).length).d/\(zF 1).en=(zf0 (dQ ins 0).length).en/\(zF 1).ks=(zf0 (dQ ins 0).length).ks:=by rw[hx0];exact⟨rfl,rfl,rfl⟩
  have ml1:=zA gF (zF 0).en;have ml2:=zA iA (zF 0).ks;by_cases ho:(ins.getD 0 default).opn=true
  case' pos=>
   have hse:dQ ins 0=(ins.getD 0 default).its:=by unfold dQ;rw[zYp ⟨zB,ho⟩]
   have hib:=(GV hin 0).1;rw[hse]at hib q0 hs0 hr0;clear hse;generalize ins.getD 0 default=x at *;obtain⟨op,its⟩:=x;dsimp only at *;subst ho;rw[show kM ⟨true,its⟩= .agg [bA true,zD vB its]from rfl]at hy0;have hil2:=zA vB its;refine WW ?_;refine yS (its) [5,1002,1003,28,1006,4,8,1007] [4,8,1007] [2,3,4,5,8,12,16,61,62,75,76] [13,14,77,2,3,4,5,8,12,16,61,62,75,76] rfl (λi pre T U=>⟨(13,.ref 1002 0 ((zf0 i).en.map gF).length)::(14,.ref 1003 0 ((zf0 i).ks.map iA).length)::(77,iA i)::T,(5,.box (VB (zf0 i).d))::(1002,.arr 3 ((zf0 i).en.map gF) true)::(1003,.arr 1 ((zf0 i).ks.map iA) true)::(28,.arr 1 [.ref 1006 0 ((zf0 i).rs.map yB).length,.ref 1007 0 ([]:List AV).length] ⟨false,true⟩)::(1006,.arr 4 ((zf0 i).rs.map yB) true)::U⟩) ?_;(conv=>whnf);refine⟨by(rw[hf0];rfl),?_,?_⟩
   ·intro k pre it post hx hk;have hy3:=xO vB hx hk;have hlt3:=yX hx hk;have hgt:its.getD k default=it:=by rw[hx,<-hk];simp[List.getD]
    obtain⟨h,hB,hP,hnx⟩:=hs0 k hlt3;rw[hgt]at hB;obtain⟨hk1,hk2,hk3,hk4⟩:=hl0 k;have hm1:=zA gF (zf0 k).en;have hm2:=zA iA (zf0 k).ks;have hm3:=zA yB (zf0 k).rs;have kh:=hB.1;rw[hnx];dsimp only;rw[show((zf0 k).rs++[h.p]).map yB=(zf0 k).rs.map yB++[yB h.p] by simp,show∀e:En,((zf0 k).en++[e]).map gF=(zf0 k).en.map gF++[gF e]from λe=>by simp,hgt];rw[cfe]at kh;unfold FC zK wH vB at kh;unfold vB at hy3;have hen:(zF 0).en.length<=2000/\(zF 0).ks.length<=2000:=by omega
    clear hx hgt hnx hB hP hty kc km;generalize (zf0 k).rs.map yB=rs9 at *;generalize (zf0 k).en.map gF=en9 at *;generalize h.p=p9 at *;generalize h.e=e9 at *;generalize h.d=d9 at *;generalize hkk:h.k=k9 at *;generalize (zf0 k).d=dk9 at *;obtain⟨pk,pt,pa,pd⟩:=p9;unfold yB MI at kh;dsimp only at kh;unfold VB gF MI yB;by_cases h0:0<=k9
    ·rw[zYp h0,show((zf0 k).ks++[k9]).map iA=(zf0 k).ks.map iA++[iA k9] by simp];generalize (zf0 k).ks.map iA=ks9 at *;refine zW kh ?_;rfl
    ·rw[zYo h0];generalize (zf0 k).ks.map iA=ks9 at *;refine zW kh ?_;rfl
   obtain⟨w1,w2,w3⟩:=q0;refine WW ?_
  case' neg=>
   have hse:dQ ins 0=[]:=by unfold dQ;rw[zYo (λh=>ho h.2)]
   rw[hse,zZz,hf0]at q0 hr0;obtain⟨w1,w2,w3⟩:=q0;have hop:(ins.getD 0 default).opn=false:=by simpa using ho
   clear hse ho;generalize ins.getD 0 default=x at *;obtain⟨op,its⟩:=x;dsimp only at *;subst hop;rw[show kM ⟨false,its⟩= .agg [bA false,zD vB its]from rfl]at hy0;refine WW ?_
  all_goals clear hy0 ml1 ml2
  all_goals
   refine yE (st0:=⟨[(13,.ref 1002 0 ((zF 1).en.map gF).length),(14,.ref 1003 0 ((zF 1).ks.map iA).length),(62,iA 1),(2,.sl false ((ins.take 2).map kM)),(3,iA now),(4,.ptr 4 0 0),(5,.ptr 5 0 0),(8,.ptr 8 0 0),(12,.ref 28 0 2),(61,iA 2)],[(5,.box (VB (zF 1).d)),(28,.arr 1 [.ref 1006 0 (r0.map yB).length,.ref 1007 0 ([]:List AV).length] ⟨false,true⟩),(1002,.arr 3 ((zF 1).en.map gF) true),(1003,.arr 1 ((zF 1).ks.map iA) true),(1006,.arr 4 (r0.map yB) true),(1007,.arr 4 ([]:List AV) true),(4,.box [.sl false (c.js.map wC),.sl false (c.ags.map wN),iA c.per,iA c.cap,iA c.hold,iA c.lock]),(8,.box GW)]⟩) (by rw[w1,w2,w3,hr0];rfl) ?_;obtain⟨r1,hr1⟩:∃r,r=(zf1 (dQ ins 1).length).rs:=⟨_,rfl⟩;have hR1:(zF 2).R=(zF 1).R++[r1]:=by rw[hr1,hx1]
   have q1:(zF 2).d=(zf1 (dQ ins 1).length).d/\(zF 2).en=(zf1 (dQ ins 1).length).en/\(zF 2).ks=(zf1 (dQ ins 1).length).ks:=by rw[hx1];exact⟨rfl,rfl,rfl⟩
   have ml1:=zA gF (zF 1).en;have ml2:=zA iA (zF 1).ks;by_cases ho:(ins.getD 1 default).opn=true
   case' pos=>
    have hse:dQ ins 1=(ins.getD 1 default).its:=by unfold dQ;rw[zYp ⟨zB,ho⟩]
    have hib:=(GV hin 1).1;rw[hse]at hib q1 hs1 hr1;clear hse;generalize ins.getD 1 default=x at *;obtain⟨op,its⟩:=x;dsimp only at *;subst ho;rw[show kM ⟨true,its⟩= .agg [bA true,zD vB its]from rfl]at hy1;have hil2:=zA vB its;refine WW ?_;refine yS (its) [5,1002,1003,28,1007,4,8,1006] [4,8,1006] [2,3,4,5,8,12,16,61,62,75,76] [13,14,77,2,3,4,5,8,12,16,61,62,75,76] rfl (λi pre T U=>⟨(13,.ref 1002 0 ((zf1 i).en.map gF).length)::(14,.ref 1003 0 ((zf1 i).ks.map iA).length)::(77,iA i)::T,(5,.box (VB (zf1 i).d))::(1002,.arr 3 ((zf1 i).en.map gF) true)::(1003,.arr 1 ((zf1 i).ks.map iA) true)::(28,.arr 1 [.ref 1006 0 (r0.map yB).length,.ref 1007 0 ((zf1 i).rs.map yB).length] ⟨false,true⟩)::(1007,.arr 4 ((zf1 i).rs.map yB) true)::U⟩) ?_;(conv=>whnf);refine⟨by(rw[hf1];rfl),?_,?_⟩
    ·intro k pre it post hx hk;have hy3:=xO vB hx hk;have hlt3:=yX hx hk;have hgt:its.getD k default=it:=by rw[hx,<-hk];simp[List.getD]
     obtain⟨h,hB,hP,hnx⟩:=hs1 k hlt3;rw[hgt]at hB;obtain⟨hk1,hk2,hk3,hk4⟩:=hl1 k;have hm1:=zA gF (zf1 k).en;have hm2:=zA iA (zf1 k).ks;have hm3:=zA yB (zf1 k).rs;have kh:=hB.1;rw[hnx];dsimp only;rw[show((zf1 k).rs++[h.p]).map yB=(zf1 k).rs.map yB++[yB h.p] by simp,show∀e:En,((zf1 k).en++[e]).map gF=(zf1 k).en.map gF++[gF e]from λe=>by simp,hgt];rw[cfe]at kh;unfold FC zK wH vB at kh;unfold vB at hy3;have hen:(zF 1).en.length<=2000/\(zF 1).ks.length<=2000:=by omega
     clear hx hgt hnx hB hP hty kc km;generalize (zf1 k).rs.map yB=rs9 at *;generalize (zf1 k).en.map gF=en9 at *;generalize h.p=p9 at *;generalize h.e=e9 at *;generalize h.d=d9 at *;generalize hkk:h.k=k9 at *;generalize (zf1 k).d=dk9 at *;obtain⟨pk,pt,pa,pd⟩:=p9;unfold yB MI at kh;dsimp only at kh;unfold VB gF MI yB;by_cases h0:0<=k9
     ·rw[zYp h0,show((zf1 k).ks++[k9]).map iA=(zf1 k).ks.map iA++[iA k9] by simp];generalize (zf1 k).ks.map iA=ks9 at *;refine zW kh ?_;rfl
     ·rw[zYo h0];generalize (zf1 k).ks.map iA=ks9 at *;refine zW kh ?_;rfl
    obtain⟨w1,w2,w3⟩:=q1;refine WW ?_
   case' neg=>
    have hse:dQ ins 1=[]:=by unfold dQ;rw[zYo (λh=>ho h.2)]
    rw[hse,zZz,hf1]at q1 hr1;obtain⟨w1,w2,w3⟩:=q1;have hop:(ins.getD 1 default).opn=false:=by simpa using ho
    clear hse ho;generalize ins.getD 1 default=x at *;obtain⟨op,its⟩:=x;dsimp only at *;subst hop;rw[show kM ⟨false,its⟩= .agg [bA false,zD vB its]from rfl]at hy1;refine WW ?_
   all_goals clear hy1 ml1 ml2
   all_goals
    refine yE (st0:=⟨[(13,.ref 1002 0 ((zF 2).en.map gF).length),(14,.ref 1003 0 ((zF 2).ks.map iA).length),(62,iA 2),(2,.sl false ((ins.take 2).map kM)),(3,iA now),(4,.ptr 4 0 0),(5,.ptr 5 0 0),(8,.ptr 8 0 0),(12,.ref 28 0 2),(61,iA 2)],[(5,.box (VB (zF 2).d)),(28,.arr 1 [.ref 1006 0 (r0.map yB).length,.ref 1007 0 (r1.map yB).length] ⟨false,true⟩),(1002,.arr 3 ((zF 2).en.map gF) true),(1003,.arr 1 ((zF 2).ks.map iA) true),(1006,.arr 4 (r0.map yB) true),(1007,.arr 4 (r1.map yB) true),(4,.box [.sl false (c.js.map wC),.sl false (c.ags.map wN),iA c.per,iA c.cap,iA c.hold,iA c.lock]),(8,.box GW)]⟩) (by rw[w1,w2,w3,hr1];rfl) ?_;refine zW km ?_;refine zI [] rfl rfl ?_ rfl
    show AV.tup [zK (dkM (zF 2).d now),.sl false [.sl false (List.take _ (List.drop 0 (r0.map yB))),.sl false (List.take _ (List.drop 0 (r1.map yB)))],.sl false (List.take _ (List.drop 0 ((zF 2).en.map gF))),.sl false (List.take _ (List.drop 0 ((zF 2).ks.map iA)))]=_
    simp only[zZv,zYv];unfold tkT;rw[hR1,hR0,hz0];rfl
theorem zMk {c:Cf} {d:xQ} (hI:uW c d) (now:Int) (n0:0<=now) (n1:now<=1073741824) (hn:d.au.length=1) (ins:List In) (hi:ins=[⟨true,[]⟩]):
  zO 110 [wJ c,zK d,zD kM ins,iA now] [] (.tup [zK (dkM (dkU d ins) now),.sl false [.s (.slice none 0 0)],.s (.slice none 0 0),.s (.slice none 0 0)]) []:=by
 have kc:=VD d hI.bd zB;have hal:(d.au.map bA).length=1:=by rw[zYq,hn]
 have hil:ins.length=1:=by rw[hi];rfl
 have hinl:=zA kM ins;have km:=zAu (dkU d ins).rq now (zFx hI ins).v;have cfe:wJ c= .agg [.sl false (c.js.map wC),.sl false (c.ags.map wN),iA c.per,iA c.cap,iA c.hold,iA c.lock]:=rfl;rw[cfe];unfold VC zK wH at kc;have e0:=jE (SO ins) d.au;have hkM:(min ((ins.map kM).length:Int) ((d.au.map bA).length:Int)).toNat=1:=by omega
 have htl:((ins.take 1).map kM).length=1:=by rw[zYq,zY5];omega
 have hy0:((ins.take 1).map kM)[0]? =some (.agg [bA true,.sl false []]):=by rw[hi];rfl
 have hg0:ins.getD 0 default=⟨true,[]⟩:=by rw[hi];rfl
 clear hi;refine eM call110 λF hF=>?_
 refine zW kc ?_;rw[hkM,hal];refine zP (1) [1004,4,5,8,28] [4,5,8,28] [2,3,4,5,8,12,13,14,39] [40,9,10,2,3,4,5,8,12,13,14,39] rfl (λi T U=>⟨(40,iA i)::(9,.s (.slice none 0 0))::(10,.s (.slice none 0 0))::T,(1004,.arr 1 ((ZU (SO ins) d.au i).map bA) false)::U⟩) ?_;(conv=>whnf);refine⟨by(rw[e0];rfl),?_,?_⟩
 ·intro i hi;have hi0:i=0:=by omega
  subst hi0;have hya:((ZU (SO ins) d.au 0).map bA)[0]? =some (bA (d.au.getD 0 default)):=by rw[zYt,uV,zYp zB,zYo (yCo 0)];rfl
  have hxl:((ZU (SO ins) d.au 0).map bA).length=1:=by rw[zYq,vG,hn]
  rw[qC bA (SO ins) d.au 0 zB];have hsame:=fF hya;clear kc km;generalize (ZU (SO ins) d.au 0).map bA=xs at *;generalize d.au.getD 0 default=b9 at *;unfold SO;rw[zYp ⟨zB,by rw[hg0]⟩,hsame];refine WW ?_;rfl
 ·(refine WW ?_)
  refine uQ [4,5,8,28] [2,3,4,5,8,9,10,12,13,14,61,62] rfl ?_
  (conv=>whnf)
  rw[BX (by omega:d.au.length=1),show ZU (SO ins) d.au 1=auF ins d.au by unfold auF;rw[hn],htl];refine wM 2 [5,28,4,8] [13,14,62,2,3,4,5,8,12,61] rfl ?_;refine yE (st0:=⟨[(13,.s (.slice none 0 0)),(14,.s (.slice none 0 0)),(62,iA 0),(2,.sl false ((ins.take 1).map kM)),(3,iA now),(4,.ptr 4 0 0),(5,.ptr 5 0 0),(8,.ptr 8 0 0),(12,.ref 28 0 1),(61,iA 1)],[(5,.box (VB (dkU d ins))),(28,.arr 1 [.s (.slice none 0 0)] false),(4,.box [.sl false (c.js.map wC),.sl false (c.ags.map wN),iA c.per,iA c.cap,iA c.hold,iA c.lock]),(8,.box GW)]⟩) (by rfl) ?_;refine WW ?_;refine wM 1 [5,28,4,8] [77,76,75,13,14,62,2,3,4,5,8,12,61] rfl ?_;refine yE (st0:=⟨[(77,iA 0),(76,iA 0),(75,.sl false []),(13,.s (.slice none 0 0)),(14,.s (.slice none 0 0)),(62,iA 0),(2,.sl false ((ins.take 1).map kM)),(3,iA now),(4,.ptr 4 0 0),(5,.ptr 5 0 0),(8,.ptr 8 0 0),(12,.ref 28 0 1),(61,iA 1)],[(5,.box (VB (dkU d ins))),(28,.arr 1 [.s (.slice none 0 0)] false),(4,.box [.sl false (c.js.map wC),.sl false (c.ags.map wN),iA c.per,iA c.cap,iA c.hold,iA c.lock]),(8,.box GW)]⟩) (by rfl) ?_;refine WW ?_;refine yE (st0:=⟨[(13,.s (.slice none 0 0)),(14,.s (.slice none 0 0)),(62,iA 1),(2,.sl false ((ins.take 1).map kM)),(3,iA now),(4,.ptr 4 0 0),(5,.ptr 5 0 0),(8,.ptr 8 0 0),(12,.ref 28 0 1),(61,iA 1)],[(5,.box (VB (dkU d ins))),(28,.arr 1 [.s (.slice none 0 0)] false),(4,.box [.sl false (c.js.map wC),.sl false (c.ags.map wN),iA c.per,iA c.cap,iA c.hold,iA c.lock]),(8,.box GW)]⟩) (by rfl) ?_;refine zW km ?_;exact zJ [] rfl rfl rfl rfl
def QW (k:IntKind) (n:Int):Int:=k.wrap (BitVec.ofInt k.bits (if k.signed=true then -1 else k.max) ^^^ BitVec.ofInt k.bits n).toNat
theorem RW {P:Program} {st:St} {tx:Nat} {x:Operand} {k:IntKind} {n:Int} (hx:yO (zG st.tm) x= .s (.int k n)):wR P st (.unOp .xor tx x) (.s (.int k (QW k n))) [] [] []:=
 yR λo X tm h w β a ho hg _ _ Ht=>by
  obtain⟨dst,op',type,pos,after,guard⟩:=o;dsimp only at ho;subst ho;have h1:=vN Ht hg (x:=x) uG hx;exact⟨.int k (QW k n),by simp[execOp,h1,Op.unary,Op.intBits,QW],.fz _ _ (.s _)⟩
end Av
end Go.Proofs.YtmamjhmoegjapaaGreat
