/- Part 22. -/
import Derived.Test.YtmamjhmoegjapaaGreatQ21
namespace Go.Proofs.YtmamjhmoegjapaaGreat
namespace Av
open Tryz
set_option linter.all false
set_option maxRecDepth 4000
set_option maxHeartbeats 8000000
def fA (d:Dk):Nat->List Int×Dk
 |0=>([],d)
 |i+1=>((fA d i).1++[nx (fA d i).2 256],ad (fA d i).2)
theorem CX (d:Dk):∀i,(fA d i).1.length=i/\rem (fA d i).2<=rem d/\BY (fA d i).1
 |0=>⟨rfl,zXc _,λx hx=>by cases hx⟩
 |i+1=>by
  obtain⟨h1,h2,h3⟩:=CX d i;have r1:=wM (fA d i).2;have w1:=yE (fA d i).2 256 zB;refine⟨by simp only[fA,zXb,zXl,zYa];omega,by simp only[fA];omega,?_⟩;simp only[fA];intro x hx
  rcases zXs.1 hx with hx|hx
  ·exact h3 x hx
  ·rw[zX9]at hx;subst hx;exact w1
theorem zFw (d:Dk) (n:Int) (h0:0<=n) (h1:n<=1000):zN 95 [.ptr 1000 0 0,iA n] [(1000,dX d)] (zD yA (fA (ad d) (nx d (n+1)).toNat).1) [(1000,dX (fA (ad d) (nx d (n+1)).toNat).2)]:=by
 have c1:=yI d (n+1) zB zB;have b1:=yE d (n+1) zB;generalize nx d (n+1)=k at *;generalize ad d=d1 at *;obtain⟨N,hN⟩:∃N:Nat,k.toNat=N:=⟨_,rfl⟩;have hN2:k=(N:Int):=by omega
 rw[hN];subst hN2;refine eM call95 λF hF=>?_
 refine zU c1 ?_;refine xG 5 1001 1 rfl rfl rfl ?_;refine zP (N) [1000,1001] [] [0] [5,6,0] rfl (λi T U=>⟨(5,.ref 1001 0 ((fA d1 i).1.map yA).length)::(6,iA ((N:Int)-i))::T,(1000,dX (fA d1 i).2)::(1001,.arr 1 ((fA d1 i).1.map yA) true)::U⟩) ?_;(conv=>whnf);refine⟨by(rw[show(N:Int)-(0:Nat)=N by omega];rfl),?_,?_⟩
 ·intro i hi;have hl:=(CX d1 i).1;have eS:fA d1 (i+1)=((fA d1 i).1++[nx (fA d1 i).2 256],ad (fA d1 i).2):=rfl;rw[show((N:Int)-((i+1:Nat):Int))=(N:Int)-i-1 by omega];generalize (fA d1 i).1=p at *;generalize (fA d1 i).2=e at *;have hk1:1<=(N:Int)-i:=by omega
  have hk2:(N:Int)-i<=1001:=by omega
  have hp:p.length<=1001:=by omega
  generalize (N:Int)-i=q at *;have n1:=yI e 256 zB zB;have w1:=yE e 256 zB;rw[eS];generalize nx e 256=y at *;generalize ad e=e1 at *;refine zU n1 ?_
  show restr _ _ _=_
  rw[zXf];rfl
 ·rw[show(N:Int)-(N:Int)=0 by omega];refine WW ?_;exact zH [1000] rfl rfl (zX7 (AV.sl false) zXe) rfl
theorem zFx:∀(f:Nat) (n:Int),0<=n->n<128 ^ (f+1)->BY (FG f n)
 |0,n,h0,h1=>λx hx=>by
  rw[FG,zX9]at hx;subst hx;simp at h1;omega
 | f+1,n,h0,h1=>λx hx=>by
  rw[FG]at hx;split at hx
  ·rw[zX9]at hx;subst hx;omega
  ·rcases zYq.1 hx with rfl|hx
   ·omega
   ·exact zFx f (n/128) zB (BT h1) x hx
theorem LV {n:Int} (h0:0<=n) (h1:n<=4294967295):BY (uZ n):=zFx 4 n h0 zB
theorem zFy (fx gr:Nat) (c:Int) (hc:0<=c/\c<256):∀(l:List Int) (i:Nat),VZ l->BY (UP fx gr c i l)
 | [],_,_=>λx hx=>by cases hx
 | y::l,i,h=>λx hx=>by
  rw[UP]at hx
  rcases zXs.1 hx with hx|hx
  ·split at hx
   ·rw[zX9]at hx;subst hx;exact hc
   ·cases hx
  ·rcases zXs.1 hx with hx|hx
   ·have:=h y zS;exact LV this.1 this.2 x hx
   ·exact zFy fx gr c hc l (i+1) (λz hz=>h z (by simp[hz])) x hx
theorem zQ6 (m:Ms) (h:MgP m) (n:Nat) (n2:n<=2) (ng:uH m.kind≠0->1<=n) (nl:m.args.length=jB m.kind+n*uH m.kind):∃p,BY p/\p.length<=200/\p=bW (jB m.kind) (uH m.kind) n m/\zN 147 [zY m] [] (.tup [zD yA p,iA 0]) []:=by
 have k1:=zHk m.kind h.k.1 h.k.2 m n rfl h.l (by rw[h.d];simp) h.n nl zB;have hf:=BV m.kind;have hg:=BU m.kind
 have hgn:n*uH m.kind<=8:=by rcases hg with e|e|e<;>rw[e]<;>omega
 have k2:=MI m.kind h.k.1 h.k.2 m n rfl h.l (by rw[h.d];simp) h.n zB (λ_=>nl) zB
 have hv:vmF (uH m.kind) n m.data=true:=by
  unfold vmF;rw[zXi,h.d];exact⟨rfl,by by_cases h0:uH m.kind=0;exact .inl h0;exact .inr (ng h0)⟩
 rw[hv]at k1;have hpl:=KQ (jB m.kind) (uH m.kind) n m.args 0;have hll:=h.l;refine⟨bW (jB m.kind) (uH m.kind) n m,λx hx=>?_,?_,rfl,?_⟩
 ·unfold bW at hx;rw[h.d]at hx
  rcases zXs.1 hx with hx|hx
  ·rcases zXs.1 hx with hx|hx
   ·exact h.t x hx
   ·exact zFy _ _ _ zB _ _ h.n x hx
  ·rw[zX8]at hx;split at hx
   ·rw[zX9]at hx;omega
   ·cases hx
 ·unfold bW;rw[h.d,zX8,zXb,zXb]
  have:(if uH m.kind≠0/\m.args.length=jB m.kind then [(0:Int)]else []).length<=1:=by split<;>simp
  omega
 ·generalize bW (jB m.kind) (uH m.kind) n m=p at *;refine eM call147 λF hF=>?_
  refine yO (wW k1 k2) ?_;exact zK
theorem zQ7 (m:Ms) (h:MgP m):∃p,BY p/\p.length<=200/\zN 147 [zY m] [] (.tup [zD yA p,iA 0]) []:=by
 obtain⟨n,n2,ng,nl⟩:=h.c;obtain⟨p,h1,h2,_,h4⟩:=zQ6 m h n n2 ng nl;exact⟨p,h1,h2,h4⟩
theorem zUn (y:Int):0<=IntKind.u8.wrap y/\IntKind.u8.wrap y<256:=by
 unfold IntKind.wrap;simp[IntKind.signed,IntKind.bits];omega
section
variable {P:Program} {TT:List TI} {st:St}
theorem zFz (hP:uL P TT) {T e k off len sz:Nat} {s x:Operand} {ti te:TI} {xs:List AV} {fl:Fl} {xv:AV} (hs:yL (zG st.tm) s= .ref k off len) (hk:zC st.h k=some (.arr sz xs fl)) (hx:yL (zG st.tm) x=xv) (hT:TT[T]? =some ti) (hd:ti.d= .slice e) (he:TT[e]? =some te) (hvs:CF (zC st.h) xv=some []):
  wR P st (.call ⟨.builtin .append, #[s,x], #[T,T]⟩) (.ref k off len) [] (k::PM xv) []:=by
 refine⟨?_⟩;intro X tm h hg hr _ o a w β ho HH Ht;obtain⟨dst,op',type,pos,after,guard⟩:=o;dsimp only at ho;subst ho;have hk':=(hr k zS).trans hk;have h1:=jL Ht hg (x:=s) qF hs;have h2:=jL Ht hg (x:=x) qF hx;obtain⟨ad,cap,hcv,_⟩:=fT HH h2 ((jG λk' hk=>hr k' PQ).trans hvs) (sz:=0) (λy hy=>by cases hy)
 have hsl:∃bd cp,a.eval s= .slice bd len cp/\len<=cp:=by
  generalize a.eval s=cx at h1
  cases h1 with
  |fz _ _ hf=>cases hf
  |dref _ _ _ _ hd _=>rw[hk']at hd;cases hd
  |ref0 _ _ sz' xs' st' b hk'' hn=>exact⟨_,0,rfl,zXc _⟩
  |ref _ _ _ sz' xs' st' b n cp hk'' hbm hn hc hs'=>exact⟨_,cp,rfl,hc⟩
 obtain⟨bd,cp,hcx,hcp⟩:=hsl;have hrun:=kW hP hT hd he w type bd ad len cp cap hcp
 have hex:(execOp a.eval ⟨dst,.call ⟨.builtin .append, #[s,x], #[T,T]⟩,type,pos,after,guard⟩).run P w= .ok (.value (.slice bd len cp)) w:=by
  rw[zYa]at hcv;simp[execOp,resolve,invoke,builtin,hcx,hcv,hrun]
 rw[hex,dE];exact⟨β,xM.refl HH,by rw[hcx]at h1;exact h1⟩
end
section
variable {P:Program} {TT:List TI} {K0:List Nat} {F:Fr K0} {m:Nat} {ops:Array Oper} {rest:List Oper} {Q:List FP->St->Prop} {tm:List (Nat×AV)} {h:List (Nat×xN)} {dr:Bool} {fs:List FP}
variable {ty:Nat} {pos:String} {after:Array Edge} {t:Nat}
theorem zAz (hP:uL P TT) {T e key len sz:Nat} {x l:Operand} {ti te:TI} {xs:List AV} {sl:Fl} {k:IntKind} {i:Int} (hx:yL (zG tm) x= .ref key 0 len) (hk:zC h key=some (.arr sz xs sl)) (hl:yL (zG tm) l= .s (.int k i)) (hT:TT[T]? =some ti) (hd:ti.d= .slice e) (he:TT[e]? =some te)
  (hsz:Nat.beq sz te.size=true) (h0:0<=i) (h1:i<=len) (hm:Nat.blt t m=true) (hr:zZ P F m ops dr rest ⟨(t,.ref key 0 i.toNat)::tm,h⟩ (⟨true,[],[key]⟩::fs) Q):
  zZ P F m ops dr (⟨some t,.slice T x none (some l) none,ty,pos,after,none⟩::rest) ⟨tm,h⟩ fs Q:=by
 have:=gX (P:=P) (st:=⟨tm,h⟩) (lo:=none) (hi:=some l) (l:=0) (r:=i.toNat) hP hx hk hT hd he rfl ⟨k,i,hl,zB⟩ (zXp _) zB hsz;rw[yB4]at this;exact xK this hm hr
end
theorem zWh (a y:Int) (h0:0<=y/\y<=1023):zN 50 [zD yA [],iA a,iA y] [] (zD yA [IntKind.u8.wrap y]) []:=by
 refine eM call50 λF hF=>?_
 refine WL ?_;exact zK
section
variable (b:List Int) (a y k:Int) (hl:1<=b.length) (hn:b.length<=1000) (h0:0<=y/\y<=1023) (hk:a % (b.length:Int)=k)
include hl hn h0 hk
theorem MD (j:Int) (hj:y.tdiv 256 % 4=j):(b.map yA).length=b.length/\zN 16 [iA a,iA (((b.map yA).length:Nat):Int)] [] (iA k) []/\zN 16 [iA (y.tdiv 256),iA 4] [] (iA j) []/\YI .i64 (y.tdiv 256)/\0<=k/\k<(b.length:Int):=by
 have hbl:=zA yA b;have c1:=zBh a (b.length:Int) zB zB;have c2:=zBh (y.tdiv 256) 4 zB zB;have hk0:=yA2 a (show(b.length:Int)≠0 by omega);have hk1:=yAs a (show 0<(b.length:Int) by omega);rw[hk]at c1 hk0 hk1;rw[hj]at c2;exact⟨hbl,by rw[hbl];exact c1,c2,by rw[zY0 h0.1];unfold YI;omega,hk0,hk1⟩
theorem zWi (hj:y.tdiv 256 % 4=3):zN 50 [zD yA b,iA a,iA y] [] (zD yA (b.take k.toNat)) []:=by
 obtain⟨hbl,c1,c2,hq,k0,k1⟩:=MD b a y k hl hn h0 hk 3 hj;clear hk hj;unfold zD;refine eM call50 λF hF=>?_
 refine WLc (wW c1 c2) ?_;exact zK
theorem zWj (hj:y.tdiv 256 % 4=2):zN 50 [zD yA b,iA a,iA y] [] (zD yA (b.take k.toNat++[IntKind.u8.wrap y]++b.drop k.toNat)) []:=by
 obtain⟨hbl,c1,c2,hq,k0,k1⟩:=MD b a y k hl hn h0 hk 2 hj;clear hk hj;have e:zD yA (b.take k.toNat++[IntKind.u8.wrap y]++b.drop k.toNat)= .sl false ((b.take k.toNat).map yA++[yA (IntKind.u8.wrap y)]++(b.drop k.toNat).map yA):=by rw[zD,zXf,zXf];rfl
 rw[e];unfold zD;have hm:(b.take k.toNat).length=k.toNat:=by rw[zXw];omega
 refine eM call50 λF hF=>?_
 (have zc1:=c1;have zc2:=c2;(repeat' (first|refine WYX ?_|refine xQ (λhc=>?_) (λhc=>?_)|refine wD (λhc=>?_)|(refine zE ?_;first|refine SL ?_)|refine SB ?_|fail))<;>clear zc1 zc2)
 (repeat' (first|refine aU ?_|refine xQ (λhc=>?_) (λhc=>?_)|refine wD (λhc=>?_)|(refine zE ?_;first|(refine yT ?_;refine qX tok rfl rfl ?_)|(refine yV ?_;refine jI 1001 tok rfl rfl rfl rfl rfl rfl (xH _ _ (λ_=>rfl)) rfl rfl rfl (by first|omega|(simp;omega)) rfl rfl rfl ?_))|refine SB ?_|fail))
 exact zH [] rfl rfl (zX7 (AV.sl false) zXe) rfl
theorem zUo (hj:y.tdiv 256 % 4=0):zN 50 [zD yA b,iA a,iA y] [] (zD yA (b.set k.toNat (IntKind.u8.wrap y))) []:=by
 obtain⟨hbl,c1,c2,hq,k0,k1⟩:=MD b a y k hl hn h0 hk 0 hj;clear hk hj;have e:zD yA (b.set k.toNat (IntKind.u8.wrap y))= .sl false ((b.map yA).set k.toNat (yA (IntKind.u8.wrap y))):=by rw[zD,zZh]
 rw[e];have hy:=yM yA b k k0 k1;unfold zD;refine eM call50 λF hF=>?_
 (have zc1:=c1;have zc2:=c2;(repeat' (first|refine qA ?_|refine xQ (λhc=>?_) (λhc=>?_)|refine wD (λhc=>?_)|(refine zE ?_;first|(refine yV ?_;refine jI 1001 tok rfl rfl rfl rfl rfl rfl (xH _ _ (λ_=>rfl)) rfl rfl rfl zB rfl rfl rfl ?_))|fail))<;>clear zc1 zc2)
 exact zH [] rfl rfl (zX7 (AV.sl false) (by rw[zYf];exact zXk zS)) rfl
theorem zUp (hj:y.tdiv 256 % 4=1) (h1:1<=k) (h2:k+1<b.length):zN 50 [zD yA b,iA a,iA y] [] (zD yA (b.take k.toNat++b.drop (k.toNat+1))) []:=by
 obtain⟨hbl,c1,c2,hq,k0,k1⟩:=MD b a y k hl hn h0 hk 1 hj;clear hk hj
 have hB:∀y∈b.map yA,y.cells.length=1:=λy hy=>by
  rw[zYo]at hy;obtain⟨z,_,rfl⟩:=hy;rfl
 have e:zD yA (b.take k.toNat++b.drop (k.toNat+1))= .sl false ((b.map yA).take k.toNat++(b.map yA).drop (k.toNat+1)):=by rw[zD,zXf,yA5,yA4]
 rw[e];unfold zD;refine eM call50 λF hF=>?_
 (have zc1:=c1;have zc2:=c2;(repeat' (first|refine WZX ?_|refine xQ (λhc=>?_) (λhc=>?_)|refine wD (λhc=>?_)|(refine zE ?_;first|(refine yV ?_;refine jI 1001 tok rfl rfl rfl rfl rfl rfl (xH _ _ (λ_=>rfl)) rfl rfl rfl zB rfl rfl rfl ?_))|fail))<;>clear zc1 zc2)
 refine yS ?_
 (repeat' (first|refine qA ?_|refine xQ (λhc=>?_) (λhc=>?_)|refine wD (λhc=>?_)|(refine zE ?_;first|(refine qU ?_;first|refine gY tok rfl rfl rfl rfl rfl rfl rfl zB zB rfl ?_|refine zAz tok rfl rfl rfl rfl rfl rfl rfl zB zB rfl ?_)|(refine yV ?_;refine zBf tok rfl rfl rfl rfl rfl rfl rfl rfl (λy hy=>hB y (zYl (zY1 (zYt hy)))) wQ zB wQ zB rfl rfl ?_))|fail))
 refine zH [] rfl rfl (zX7 (AV.sl false) ?_) rfl
 have hv:List.take ((b.map yA).length-(k+1).toNat) (List.drop (k+1).toNat (b.map yA))=List.drop (k.toNat+1) (b.map yA):=by
  rw[show(k+1).toNat=k.toNat+1 by omega];exact zXk PP
 rw[hv,zYf];exact yC5 (by rw[zXb,zXw];omega)
theorem zUq (hj:y.tdiv 256 % 4=1) (h2:k+1=b.length):zN 50 [zD yA b,iA a,iA y] [] (zD yA (b.take k.toNat)) []:=by
 obtain⟨hbl,c1,c2,hq,k0,k1⟩:=MD b a y k hl hn h0 hk 1 hj;clear hk hj;have e:zD yA (b.take k.toNat)= .sl false ((b.map yA).take k.toNat):=by rw[zD,yA5]
 rw[e]
 have hv:((b.map yA).drop (k+1).toNat).take ((b.map yA).length-(k+1).toNat)=[]:=by
  rw[show(b.map yA).length-(k+1).toNat=0 by omega,yAc]
 unfold zD;refine eM call50 λF hF=>?_
 (have zc1:=c1;have zc2:=c2;(repeat' (first|refine WZX ?_|refine xQ (λhc=>?_) (λhc=>?_)|refine wD (λhc=>?_)|(refine zE ?_;first|(refine yV ?_;refine jI 1001 tok rfl rfl rfl rfl rfl rfl (xH _ _ (λ_=>rfl)) rfl rfl rfl zB rfl rfl rfl ?_))|fail))<;>clear zc1 zc2)
 refine yS ?_
 (repeat' (first|refine qA ?_|refine xQ (λhc=>?_) (λhc=>?_)|refine wD (λhc=>?_)|(refine zE ?_;first|(refine qU ?_;first|refine gY tok rfl rfl rfl rfl rfl rfl rfl zB zB rfl ?_|refine zAz tok rfl rfl rfl rfl rfl rfl rfl zB zB rfl ?_)|(refine yV ?_;refine xK (zFz tok rfl rfl rfl rfl rfl rfl ((zX7 some hv:some _=_))) rfl ?_))|fail))
 exact zK
theorem zUr (hj:y.tdiv 256 % 4=1) (h2:k=0) (h3:1<b.length):zN 50 [zD yA b,iA a,iA y] [] (zD yA (b.drop 1)) []:=by
 obtain⟨hbl,c1,c2,hq,k0,k1⟩:=MD b a y k hl hn h0 hk 1 hj;subst h2;clear hk hj
 have hB:∀y∈b.map yA,y.cells.length=1:=λy hy=>by
  rw[zYo]at hy;obtain⟨z,_,rfl⟩:=hy;rfl
 have e:zD yA (b.drop 1)= .sl false ((b.map yA).drop 1):=by rw[zD,yA4]
 rw[e];unfold zD;refine eM call50 λF hF=>?_
 (have zc1:=c1;have zc2:=c2;(repeat' (first|refine WZX ?_|refine xQ (λhc=>?_) (λhc=>?_)|refine wD (λhc=>?_)|(refine zE ?_;first|(refine yV ?_;refine jI 1001 tok rfl rfl rfl rfl rfl rfl (xH _ _ (λ_=>rfl)) rfl rfl rfl zB rfl rfl rfl ?_))|fail))<;>clear zc1 zc2)
 refine yS ?_
 (repeat' (first|refine WS ?_|refine SG (I2 (λhc=>?_) (λhc=>?_))|refine SG (λhc=>?_)|(refine zE ?_;first|(refine qU ?_;first|refine gY tok rfl rfl rfl rfl rfl rfl rfl zB zB rfl ?_|refine zBy tok rfl rfl rfl rfl rfl rfl rfl rfl ?_))|(first|refine zBa 7 9 rfl rfl ?_|first|refine SR ?_|refine SK (I2 (λhc=>?_) (λhc=>?_))|refine SK (λhc=>?_)|fail)|fail))
 refine zH8 VL ?_;refine zRg [] [] tok rfl rfl rfl rfl rfl rfl rfl rfl (λy hy=>hB y (zYl (zY1 (zYt hy)))) rfl rfl wQ wQ rfl rfl rfl rfl ?_;refine WW ?_;refine zH [] rfl rfl ?_ rfl
 show AV.sl false (List.take ((b.map yA).length-1) (List.drop 1 (b.map yA)))=_
 rw[zXk PP]
end
theorem zCr (b:List Int) (hb:BY b) (hn:b.length<=1000) (a y:Int) (h0:0<=y/\y<=1023):∃q,BY q/\q.length<=b.length+1/\zN 50 [zD yA b,iA a,iA y] [] (zD yA q) []:=by
 have hw:=zUn y;by_cases hl:1<=b.length
 case neg=>
  have e:b=[]:=zYc zB;subst e;exact⟨_,λx hx=>by rw[zX9]at hx;subst hx;exact hw,by simp,zWh a y h0⟩
 have k0:=yA2 a (show(b.length:Int)≠0 by omega);have k1:=yAs a (show 0<(b.length:Int) by omega);have j0:=yA2 (y.tdiv 256) (show(4:Int)≠0 by omega);have j1:=yAs (y.tdiv 256) (show(0:Int)<4 by omega);have hT:BY (b.take (a % (b.length:Int)).toNat):=λx hx=>hb x (zY1 hx)
 have hD:∀n,BY (b.drop n):=λn x hx=>hb x (zYl hx)
 have hlt:(b.take (a % (b.length:Int)).toNat).length<=b.length:=by rw[zXw];omega
 obtain hj|hj|hj|hj:y.tdiv 256 % 4=0∨y.tdiv 256 % 4=1∨y.tdiv 256 % 4=2∨y.tdiv 256 % 4=3:=by omega
 ·refine⟨_,λx hx=>?_,by rw[zY3];omega,zUo b a y _ hl hn h0 rfl hj⟩
  rcases yAk hx with h|rfl
  ·exact hb x h
  ·exact hw
 ·by_cases h2:a % (b.length:Int)+1=b.length
  ·exact⟨_,hT,zB,zUq b a y _ hl hn h0 rfl hj h2⟩
  ·by_cases h1:1<=a % (b.length:Int)
   ·refine⟨_,λx hx=>?_,?_,zUp b a y _ hl hn h0 rfl hj h1 zB⟩
    ·rcases zXs.1 hx with h|h
     ·exact hT x h
     ·exact hD _ x h
    ·rw[zXb,zYd,zXw];omega
   ·exact⟨_,hD 1,by rw[zYd];omega,zUr b a y _ hl hn h0 rfl hj zB zB⟩
 ·refine⟨_,λx hx=>?_,?_,zWj b a y _ hl hn h0 rfl hj⟩
  ·rcases zXs.1 hx with h|h
   ·rcases zXs.1 h with h|h
    ·exact hT x h
    ·rw[zX9]at h;subst h;exact hw
   ·exact hD _ x h
  ·rw[zXb,zXb,zYd,zXw,zZ0];omega
 ·exact⟨_,hT,zB,zWi b a y _ hl hn h0 rfl hj⟩
theorem zF0 {α:Type} (I:Nat->α->Prop) (R:Nat->α->α->Prop) (h:∀i a,I i a->∃b,R i a b/\I (i+1) b) (a0:α) (h0:I 0 a0):∃f:Nat->α,f 0=a0/\∀i,I i (f i)/\R i (f i) (f (i+1)):=by
 have hg:∀i a,∃b,I i a->R i a b/\I (i+1) b:=λi a=>by
  by_cases hi:I i a
  ·obtain⟨b,hb⟩:=h i a hi;exact⟨b,λ_=>hb⟩
  ·exact⟨a,λh=>absurd h hi⟩
 let f:Nat->α:=λn=>Nat.rec a0 (λi a=>(hg i a).choose) n
 have hf:∀i,I i (f i):=λi=>by
  induction i with
  |zero=>exact h0
  |succ i ih=>exact((hg i (f i)).choose_spec ih).2
 exact⟨f,rfl,λi=>⟨hf i,((hg i (f i)).choose_spec (hf i)).1⟩⟩
def d00:Dk:=⟨[],0,zXp _,zXp _⟩
def WI {α:Type} [Inhabited α] (g:Nat->α->α) (l:List α) (i:Nat):List α:=(List.range l.length).map λj=>if j<i then g j (l.getD j default)else l.getD j default
theorem vJ {α:Type} [Inhabited α] (g:Nat->α->α) (l:List α) (i:Nat):(WI g l i).length=l.length:=by simp[WI]
theorem uX {α:Type} [Inhabited α] (g:Nat->α->α) (l:List α) (i j:Nat):(WI g l i)[j]? =if j<l.length then some (if j<i then g j (l.getD j default)else l.getD j default)else none:=by
 unfold WI;rw[zXd];by_cases hj:j<l.length
 ·rw[zX6 hj,zW9 hj];rfl
 ·rw[zX0 wQ,zW8 hj];rfl
theorem jP {α:Type} [Inhabited α] (g:Nat->α->α) (l:List α):WI g l 0=l:=by
 apply zYp;intro j;rw[uX];by_cases hj:j<l.length
 ·rw[zW9 hj,zW8 zB];simp[List.getD,hj]
 ·rw[zW8 hj,zX0 zB]
theorem zLn {α:Type} [Inhabited α] (g:Nat->α->α) (l:List α) (i:Nat) (hi:i<l.length):WI g l (i+1)=(WI g l i).set i (g i (l.getD i default)):=by
 apply zYp;intro j;rw[zZi,uX,uX,vJ];by_cases he:i=j
 ·subst he;rw[zW9 hi,zW9 rfl,zW9 hi,zW9 (Nat.lt_succ_self i)]
 ·rw[zW8 he];by_cases hj:j<l.length
  ·rw[zW9 hj,zW9 hj];by_cases h2:j<i
   ·rw[zW9 zB,zW9 h2]
   ·rw[zW8 zB,zW8 h2]
  ·rw[zW8 hj,zW8 hj]
theorem qO {α:Type} [Inhabited α] (f:α->AV) (g:Nat->α->α) (l:List α) (i:Nat) (hi:i<l.length):(WI g l (i+1)).map f=((WI g l i).map f).set i (f (g i (l.getD i default))):=by
 rw[zLn g l i hi,zZh]
structure In where
 opn:Bool
 its:List It
instance:Inhabited In:=⟨⟨false,[]⟩⟩
instance:Inhabited It:=⟨⟨0,0,[]⟩⟩
def jQ (i:In):AV:= .agg [bA i.opn,zD wI i.its]
structure En where
 ag:Int
 ki:Int
 co:Int
def jZ (e:En):AV:=OY e.ag e.ki e.co
structure TS where
 d:xP
 rs:List Ms
 en:List En
 ks:List Int
structure SS where
 d:xP
 R:List (List Ms)
 en:List En
 ks:List Int
def aN (l:List Ms):AV:=zD zY l
def InB (i:In):Prop:=i.its.length<=1000/\∀x∈i.its,BY x.pay/\x.pay.length<=100000
def StR (c:Cf) (s now:Int) (i:It) (a b:TS):Prop:=∃h:Hd,UH c a.d s i now h/\HdP c a.d s i now h/\b=⟨h.d,a.rs++[h.p],a.en++[⟨a.d.rg.num,i.kind,h.e⟩],if 0<=h.k then a.ks++[h.k]else a.ks⟩
structure GI (c:Cf) (d0 d:xP):Prop where
 i:uV c d
 n:d.rg.num=d0.rg.num
 a:d.rg.ag=d0.rg.ag
 t:T0 d0->T0 d
theorem GI.refl {c:Cf} {d:xP} (h:uV c d):GI c d d:=⟨h,rfl,rfl,id⟩
theorem GI.trans {c:Cf} {a b d:xP} (h1:GI c a b) (h2:GI c b d):GI c a d:=⟨h2.i,h2.n.trans h1.n,h2.a.trans h1.a,λh=>h2.t (h1.t h)⟩
theorem zQ8 (c:Cf) (s now:Int) (n0:0<=now) (n1:now<=1073741824) (its:List It) (hib:∀x∈its,BY x.pay/\x.pay.length<=100000) (st:TS) (hI:uV c st.d):
  ∃f:Nat->TS,f 0=st/\∀k,GI c st.d (f k).d/\((f k).rs.length=st.rs.length+k/\(f k).en.length=st.en.length+k/\(f k).ks.length<=st.ks.length+k/\((∀x∈st.ks,0<=x/\x<(c.js.length:Int))->∀x∈(f k).ks,0<=x/\x<(c.js.length:Int)))/\(k<its.length->StR c s now (its.getD k default) (f k) (f (k+1))):=by
 have hx:∀k,BY (its.getD k default).pay/\(its.getD k default).pay.length<=100000:=λk=>by
  by_cases hk:k<its.length
  ·refine hib _ ?_;rw[zXh,zXr hk];exact zZy _
  ·rw[zXh,zX0 zB]
   show BY ([]:List Int)/\([]:List Int).length<=100000
   exact⟨λy hy=>absurd hy zS,zXp _⟩
 obtain⟨f,h0,hf⟩:=zF0 (λk (a:TS)=>GI c st.d a.d/\(a.rs.length=st.rs.length+k/\a.en.length=st.en.length+k/\a.ks.length<=st.ks.length+k/\((∀x∈st.ks,0<=x/\x<(c.js.length:Int))->∀x∈a.ks,0<=x/\x<(c.js.length:Int)))) (λk a b=>StR c s now (its.getD k default) a b)
  (λk a ha=>by
   obtain⟨ha,h1,h2,h3,h4⟩:=ha;obtain⟨h,hB,hP⟩:=zCu c a.d ha.i s now n0 n1 _ (hx k).1 (hx k).2;refine⟨_,⟨h,hB,hP,rfl⟩,ha.trans ⟨hP.inv,hP.num,hP.ag,hP.t0⟩,?_,?_,?_,λhks x hx=>?_⟩
   ·dsimp only;rw[zXb,zZ0];omega
   ·dsimp only;rw[zXb,zZ0];omega
   ·dsimp only;split
    ·rw[zXb,zZ0];omega
    ·omega
   ·dsimp only at hx;split at hx
    ·rename_i hk0
     rcases zXs.1 hx with hx|hx
     ·exact h4 hks x hx
     ·rw[zX9]at hx;subst hx
      rcases hP.rst with h9|⟨_,h8,h9⟩
      ·omega
      ·exact⟨h8,h9⟩
    ·exact h4 hks x hx)
  st ⟨GI.refl hI,zB,zB,zB,id⟩
 exact⟨f,h0,λk=>⟨(hf k).1.1,(hf k).1.2,λ_=>(hf k).2⟩⟩
def dJ (ins:List In) (s:Nat):List It:=if s<ins.length/\(ins.getD s default).opn=true then(ins.getD s default).its else []
def SeR (c:Cf) (now:Int) (ins:List In) (s:Nat) (a b:SS):Prop:=∃f:Nat->TS,f 0=⟨a.d,[],a.en,a.ks⟩/\(∀k,k<(dJ ins s).length->StR c (s:Int) now ((dJ ins s).getD k default) (f k) (f (k+1)))/\(∀k,GI c a.d (f k).d/\(f k).rs.length=k/\(f k).en.length=a.en.length+k/\(f k).ks.length<=a.ks.length+k)/\
 b=⟨(f (dJ ins s).length).d,a.R++[(f (dJ ins s).length).rs],(f (dJ ins s).length).en,(f (dJ ins s).length).ks⟩
theorem GJ {ins:List In} (h:∀i∈ins,InB i) (s:Nat):(dJ ins s).length<=1000/\∀x∈dJ ins s,BY x.pay/\x.pay.length<=100000:=by
 unfold dJ;split
 ·rename_i hs;refine h _ ?_;rw[zXh,zXr hs.1];exact zZy _
 ·exact⟨zXp _,λx hx=>by cases hx⟩
theorem zLo (c:Cf) (now:Int) (n0:0<=now) (n1:now<=1073741824) (ins:List In) (hin:∀i∈ins,InB i) (d:xP) (hI:uV c d):
  ∃F:Nat->SS,F 0=⟨d,[],[],[]⟩/\∀s,GI c d (F s).d/\((F s).R.length=s/\(F s).en.length<=1000*s/\(F s).ks.length<=1000*s/\∀x∈(F s).ks,0<=x/\x<(c.js.length:Int))/\SeR c now ins s (F s) (F (s+1)):=by
 obtain⟨F,h0,hF⟩:=zF0 (λs (a:SS)=>GI c d a.d/\(a.R.length=s/\a.en.length<=1000*s/\a.ks.length<=1000*s/\∀x∈a.ks,0<=x/\x<(c.js.length:Int))) (λs a b=>SeR c now ins s a b)
  (λs a ha=>by
   obtain⟨ha,h1,h2,h3,h4⟩:=ha;obtain⟨hl,hb⟩:=GJ hin s;obtain⟨f,f0,hf⟩:=zQ8 c (s:Int) now n0 n1 (dJ ins s) hb ⟨a.d,[],a.en,a.ks⟩ ha.i;have hL:=hf (dJ ins s).length;refine⟨_,⟨f,f0,λk hk=>(hf k).2.2 hk,λk=>⟨(hf k).1,by have:=(hf k).2.1.1;simpa using this,(hf k).2.1.2.1,(hf k).2.1.2.2.1⟩,rfl⟩,ha.trans hL.1,?_,?_,?_,hL.2.1.2.2.2 h4⟩
   ·dsimp only;rw[zXb,zZ0];omega
   ·have:=hL.2.1.2.1;dsimp only at *;omega
   ·have:=hL.2.1.2.2.1;dsimp only at *;omega)
  ⟨d,[],[],[]⟩ ⟨GI.refl hI,rfl,zXp _,zXp _,λx hx=>by cases hx⟩
 exact⟨F,h0,λs=>⟨(hF s).1.1,(hF s).1.2,(hF s).2⟩⟩
def HA (ins:List In) (s:Nat) (b:Bool):Bool:=if s<ins.length/\(ins.getD s default).opn=true then b else false
def auF (ins:List In) (l:List Bool):List Bool:=WI (HA ins) l l.length
def dkU (d:xP) (ins:List In):xP:=⟨d.rg,d.rq,d.dr,auF ins d.au⟩
theorem zUs {c:Cf} {d:xP} (h:uV c d) (ins:List In):uV c (dkU d ins):=
 ⟨h.b,h.v,h.q,h.lg,h.a,h.n,h.t8,h.br,h.bb,h.bl,by show((auF ins d.au).length:Int)=_;unfold auF;rw[vJ];exact h.au,h.dn,h.dr,h.vh⟩
def dkM (d:xP) (now:Int):xP:=⟨d.rg,mkQ d.rq now,d.dr,d.au⟩
theorem zUt {c:Cf} {d:xP} (h:uV c d) (now:Int) (n0:0<=now) (n1:now<=1073741824):uV c (dkM d now):=by
 refine⟨h.b,zU8 h.v now n0 n1,?_,λr hr g hg=>?_,h.a,h.n,h.t8,h.br,h.bb,h.bl,h.au,h.dn,h.dr,h.vh⟩
 ·show((mkQ d.rq now).length:Int)<=_
  unfold mkQ;rw[zXa];exact h.q
 ·obtain⟨x,hx,rfl⟩:=zYo.1 hr;obtain⟨y,hy,rfl⟩:=zYo.1 hg;obtain⟨e1,e2,_⟩:=zGa y now n0 n1;have:=h.lg x hx y hy;rw[e1,e2];exact this
def QA (x:xP):List AV:=[iA x.rg.num,zD yA x.rg.ag.sec,iA x.rg.ag.rights,iA x.rg.ag.cls,zD iA x.rg.ag.lim,iA x.rg.ag.req,iA x.rg.ag.ses,iA x.rg.ag.rate,iA x.rg.ag.burst,zD xD x.rg.tk,zD vZ x.rg.vh,iA x.rg.bk.level,iA x.rg.bk.rate,iA x.rg.bk.burst,zD yK x.rq,zD kL x.dr,zD bA x.au]
def tkT (d:xP) (R:List (List Ms)) (E:List En) (K:List Int):AV:= .tup [zJ d,zD aN R,zD jZ E,zD iA K]
theorem eP {xs:List AV} {i:Nat} {y:AV} (h:xs[i]? =some y):xs.set i y=xs:=by
 apply zYp;intro j;rw[zZi];by_cases he:i=j
 ·subst he;have hi:=(zXv.1 h).1;rw[zW9 rfl,zW9 hi,h]
 ·rw[zW8 he]
theorem zF1 {g:Nat->Bool->Bool} {l:List Bool} {k n:Nat} (h:l.length=n):List.take n (List.drop 0 ((WI g l k).map bA))=(WI g l k).map bA:=by
 rw[zYf];exact zXk (by rw[zXa,vJ,h];exact zXc _)
section
variable {P:Program} {K0:List Nat} {F:Fr K0} {m:Nat} {tm:List (Nat×AV)} {h:List (Nat×xN)}
theorem wH.recell {a:Act} {w:World} (R:wH F m ⟨tm,h⟩ a w) (k i K:Nat) {xs ys:List AV} {sb:Bool} {sz2:Nat} {fl2:Fl} (hk:zC h k=some (.arr 1 xs ⟨sb,true⟩)) (hv:xs[i]? =some (.s (.slice none 0 0))) (hK:zC h K=some (.arr sz2 ys fl2)) (hne:K≠k):
  wH F m ⟨tm,(k,.arr 1 (xs.set i (.ref K 0 0)) ⟨sb,true⟩)::h⟩ a w:=by
 obtain⟨⟨X,β,hX,H,Ht,KK,hJ,hD⟩,nd,gs,hl⟩:=R;have hh':∀j,j≠k->zC ((k,.arr 1 (xs.set i (.ref K 0 0)) ⟨sb,true⟩)::h) j=zC h j:=λj hj=>by rw[xI,zW8 hj]
 have hhk:zC ((k,.arr 1 (xs.set i (.ref K 0 0)) ⟨sb,true⟩)::h) k=some (.arr 1 (xs.set i (.ref K 0 0)) ⟨sb,true⟩):=by rw[xI,zW9 rfl]
 have hlen:(xs.set i (.ref K 0 0)).length=xs.length:=zY3
 have E:JP w (xF X β) (zC h) β w (xF X β) (zC ((k,.arr 1 (xs.set i (.ref K 0 0)) ⟨sb,true⟩)::h)) β:=⟨zXc _,λb _ hd=>⟨rfl,hd⟩,λ_ _ _ _=>rfl,λj e he=>by
  by_cases hj:j=k
  ·subst hj;rw[hk]at he;cases he;exact .inr ⟨⟨xs.set i (.ref K 0 0),⟨sb,true⟩,hhk,by rw[hlen];exact zXc _⟩,λb n hm=>⟨n,zXc _,hm⟩⟩
  ·have:=qS (zC h) β j e he
   rcases this with h1|h1
   ·exact .inl (by rw[hh' j hj];exact h1)
   ·refine .inr ?_
    cases e with
    |dead=>exact h1
    |box cs=>obtain⟨⟨cs',h2⟩,h3⟩:=h1;exact⟨⟨cs',by rw[hh' j hj];exact h2⟩,h3⟩
    |arr sz' xs' st'=>obtain⟨⟨x2,s2,h2,h3⟩,h4⟩:=h1;exact⟨⟨x2,s2,by rw[hh' j hj];exact h2,h3⟩,h4⟩⟩
 have H':kI X (zC ((k,.arr 1 (xs.set i (.ref K 0 0)) ⟨sb,true⟩)::h)) β w:=by
  refine⟨λj e he=>?_,λj hj=>?_,H.disj,H.free,H.lt⟩
  ·by_cases hj:j=k
   ·subst hj;rw[hhk]at he;cases he;obtain⟨e1,e2,e3,e4,e5,f,e6,e7,e8⟩:=H.ent j _ hk;refine⟨e1,by rw[hlen];exact e2,λhx=>e3 λh0=>hx (by rw[h0];rfl),λi' x hx=>?_,λb n r hr=>by rw[hlen];exact e5 b n r hr,f,λi' x l v hx hv'=>⟨?_,λh=>by cases h⟩,λi' j' h1 h2=>e7 i' j' (by rw[<-hlen];exact h1) h2,e8⟩
    ·rw[zZi]at hx;split at hx
     ·split at hx
      ·cases hx;rfl
      ·cases hx
     ·exact e4 i' x hx
    ·rw [zZi]at hx;split at hx
     ·rename_i hij;subst hij;split at hx
      ·cases hx
       cases l with
       |zero=>
        have hv2:v= .ref K 0 0:=by simpa [AV.cells]using hv'.symm
        subst hv2;have h6:=e6.toV i _ 0 _ hv rfl;rw[h6.s_inv];exact .ref0 K 0 sz2 ys fl2 none (by rw[hh' K hne];exact hK) (zXp _)
       |succ l=>simp[AV.cells]at hv'
      ·cases hx
     ·exact(e6.toV i' x l v hx hv').evo E
   ·rw[hh' j hj]at he;exact(H.ent j e he).evo E rfl λ_ _ _=>rfl
  ·rw[xI]at hj;split at hj
   ·cases hj
   ·exact H.off j hj
 refine⟨⟨X,β,hX,H',λt=>(Ht t).evo E,⟨λj e he=>?_,KK.size,KK.keep,KK.own,KK.pas,KK.bs,KK.os,KK.tape,KK.output⟩,hJ,hD⟩,λj=>?_,gs,hl⟩
 ·have:=KK.knd j e he;by_cases hj:j=k
  ·subst hj
   cases e with
   |dead=>exact this
   |box cs=>obtain⟨cs',h2⟩:=this;(try dsimp only at h2);rw[hk]at h2;cases h2
   |arr sz' xs' sl'=>obtain⟨xs2,sl2,h2,h3⟩:=this;(try dsimp only at h2);rw[hk]at h2;cases h2;exact⟨_,_,hhk,by rw[hlen];exact h3⟩
  ·cases e with
   |dead=>exact this
   |box cs=>obtain⟨cs',h2⟩:=this;exact⟨cs',by dsimp only;rw[hh' j hj];exact h2⟩
   |arr sz' xs' sl'=>obtain⟨xs2,sl2,h2,h3⟩:=this;exact⟨xs2,sl2,by dsimp only;rw[hh' j hj];exact h2,h3⟩
 ·dsimp only;by_cases hj:j=k
  ·subst hj;rw[hhk];intro hd;cases hd
  ·rw[hh' j hj];exact nd j
theorem YX {c:Code} {Q:Exit->St->Prop} (k i K:Nat) {xs xs' ys:List AV} {sb:Bool} {sz2:Nat} {fl2:Fl} (hk:zC h k=some (.arr 1 xs ⟨sb,true⟩)) (hv:xs[i]? =some (.s (.slice none 0 0))) (hK:zC h K=some (.arr sz2 ys fl2)) (hne:Nat.beq K k=false) (he:xs.set i (.ref K 0 0)=xs')
  (hs:uC P F m c ⟨tm,(k,.arr 1 xs' ⟨sb,true⟩)::h⟩ Q):uC P F m c ⟨tm,h⟩ Q:=
 ⟨λa w R=>hs.run a w (he▸R.recell k i K hk hv hK (λe=>by rw[e,Nat.beq_refl]at hne;cases hne))⟩
end
def zF2:List AV:=[iA 0,.s (.slice none 0 0),iA 0,iA 0,.s (.slice none 0 0),iA 0,iA 0,iA 0,iA 0,.s (.slice none 0 0),.s (.slice none 0 0),iA 0,iA 0,iA 0,.s (.slice none 0 0),.s (.slice none 0 0),.s (.slice none 0 0)]
theorem zCs {c:Cf} {d:xP} (hI:uV c d) (ins:List In) (hil:ins.length<=1000) (hin:∀i∈ins,InB i) (now:Int) (n0:0<=now) (n1:now<=1073741824) (zF:Nat->SS) (hz0:zF 0=⟨dkU d ins,[],[],[]⟩) (hn:d.au.length=1) (hm:1<=ins.length)
  (hz:∀s,GI c (dkU d ins) (zF s).d/\((zF s).R.length=s/\(zF s).en.length<=1000*s/\(zF s).ks.length<=1000*s/\∀x∈(zF s).ks,0<=x/\x<(c.js.length:Int))/\SeR c now ins s (zF s) (zF (s+1))):
  zN 110 [wT c,zJ d,zD jQ ins,iA now] [] (tkT (dkM (zF 1).d now) (zF 1).R (zF 1).en (zF 1).ks) []:=by
 have kc:=QH d hI.bd zB;have hal:(d.au.map bA).length=1:=by rw[zXa,hn]
 have hinl:=zA jQ ins;have km:=zF9 (zF 1).d.rq now (hz 1).1.i.v;have cfe:wT c= .agg [.sl false (c.js.map wP),.sl false (c.ags.map vH),iA c.per,iA c.cap,iA c.hold,iA c.lock]:=rfl;rw[cfe];unfold UI zJ wL at kc;have e0:=jP (HA ins) d.au;have hkM:(min ((ins.map jQ).length:Int) ((d.au.map bA).length:Int)).toNat=1:=by omega
 have htl:((ins.take 1).map jQ).length=1:=by rw[zXa,zXw];omega
 have hty:∀s,s<1->((ins.take 1).map jQ)[s]? =some (jQ (ins.getD s default)):=λs hs=>by
  rw[zXd,zYx,zW9 hs,zXh,zXr zB];rfl
 obtain⟨hT0,⟨ha0,hb0,hc0,_⟩,zf0,hf0,hs0,hl0,hx0⟩:=hz 0;have hy0:=hty 0 zB;refine eM call110 λF hF=>?_
 refine zU kc ?_;rw[hkM,hal];refine zP (1) [1004,4,5,8,28] [4,5,8,28] [2,3,4,5,8,12,13,14,39] [40,9,10,2,3,4,5,8,12,13,14,39] rfl (λi T U=>⟨(40,iA i)::(9,.s (.slice none 0 0))::(10,.s (.slice none 0 0))::T,(1004,.arr 1 ((WI (HA ins) d.au i).map bA) false)::U⟩) ?_;(conv=>whnf);refine⟨by(rw[e0];rfl),?_,?_⟩
 ·intro i hi;have hya:((WI (HA ins) d.au i).map bA)[i]? =some (bA (d.au.getD i default)):=by rw[zXd,uX,zW9 zB,zW8 (yBg i)];rfl
  have hxl:((WI (HA ins) d.au i).map bA).length=1:=by rw[zXa,vJ,hn]
  rw[qO bA (HA ins) d.au i zB];have hsame:=eP hya;clear kc km;generalize (WI (HA ins) d.au i).map bA=xs at *;generalize d.au.getD i default=b9 at *;unfold HA;by_cases h1:i<1
  ·have hy:=hty i h1;have hlt:i<ins.length:=by omega
   generalize ins.getD i default=x at *;obtain⟨op,its⟩:=x;rw[show jQ ⟨op,its⟩= .agg [bA op,zD wI its]from rfl]at hy;cases op
   ·rw[zW8 (λh=>by cases h.2)];refine WW ?_;rfl
   ·rw[zW9 ⟨hlt,rfl⟩,hsame];refine WW ?_;rfl
  ·rw[zW8 (λh=>by omega)];refine WW ?_;rfl
 ·(refine WW ?_)
  refine kK [4,5,8,28] [2,3,4,5,8,9,10,12,13,14,61,62] rfl ?_
  (conv=>whnf)
  rw[zF1 (by omega:d.au.length=1),show WI (HA ins) d.au 1=auF ins d.au by unfold auF;rw[hn],htl];refine xG 13 1002 3 rfl rfl rfl ?_;refine xG 14 1003 1 rfl rfl rfl ?_;refine xG 9 1006 4 rfl rfl rfl ?_;refine PX 28 rfl ?_;refine YX 28 0 1006 rfl rfl rfl rfl rfl ?_;refine uK 2 [5,28,1002,1003,1006,4,8] [13,14,62,2,3,4,5,8,12,61] rfl ?_;refine xB (st0:=⟨[(13,.ref 1002 0 ((zF 0).en.map jZ).length),(14,.ref 1003 0 ((zF 0).ks.map iA).length),(62,iA 0),(2,.sl false ((ins.take 1).map jQ)),(3,iA now),(4,.ptr 4 0 0),(5,.ptr 5 0 0),(8,.ptr 8 0 0),(12,.ref 28 0 1),(61,iA 1)],[(5,.box (QA (zF 0).d)),(28,.arr 1 [.ref 1006 0 ([]:List AV).length] ⟨false,true⟩),(1002,.arr 3 ((zF 0).en.map jZ) true),(1003,.arr 1 ((zF 0).ks.map iA) true),(1006,.arr 4 ([]:List AV) true),(4,.box [.sl false (c.js.map wP),.sl false (c.ags.map vH),iA c.per,iA c.cap,iA c.hold,iA c.lock]),(8,.box zF2)]⟩) (by rw[hz0];rfl) ?_;obtain⟨r0,hr0⟩:∃r,r=(zf0 (dJ ins 0).length).rs:=⟨_,rfl⟩;have hR0:(zF 1).R=(zF 0).R++[r0]:=by rw[hr0,hx0]
  have q0:(zF 1).d=(zf0 (dJ ins 0).length).d/\(zF 1).en=(zf0 (dJ ins 0).length).en/\(zF 1).ks=(zf0 (dJ ins 0).length).ks:=by rw[hx0];exact⟨rfl,rfl,rfl⟩
  have ml1:=zA jZ (zF 0).en;have ml2:=zA iA (zF 0).ks;by_cases ho:(ins.getD 0 default).opn=true
  case' pos=>
   have hse:dJ ins 0=(ins.getD 0 default).its:=by unfold dJ;rw[zW9 ⟨zB,ho⟩]
   have hib:=(GJ hin 0).1;rw[hse]at hib q0 hs0 hr0;clear hse;generalize ins.getD 0 default=x at *;obtain⟨op,its⟩:=x;dsimp only at *;subst ho;rw[show jQ ⟨true,its⟩= .agg [bA true,zD wI its]from rfl]at hy0;have hil2:=zA wI its;refine WW ?_;refine yB (its) [5,1002,1003,28,1006,4,8] [4,8] [2,3,4,5,8,12,16,61,62,75,76] [13,14,77,2,3,4,5,8,12,16,61,62,75,76] rfl (λi pre T U=>⟨(13,.ref 1002 0 ((zf0 i).en.map jZ).length)::(14,.ref 1003 0 ((zf0 i).ks.map iA).length)::(77,iA i)::T,(5,.box (QA (zf0 i).d))::(1002,.arr 3 ((zf0 i).en.map jZ) true)::(1003,.arr 1 ((zf0 i).ks.map iA) true)::(28,.arr 1 [.ref 1006 0 ((zf0 i).rs.map zY).length] ⟨false,true⟩)::(1006,.arr 4 ((zf0 i).rs.map zY) true)::U⟩) ?_;(conv=>whnf);refine⟨by(rw[hf0];rfl),?_,?_⟩
   ·intro k pre it post hx hk;have hy3:=yP wI hx hk;have hlt3:=yF hx hk;have hgt:its.getD k default=it:=by rw[hx,<-hk];simp[List.getD]
    obtain⟨h,hB,hP,hnx⟩:=hs0 k hlt3;rw[hgt]at hB;obtain⟨hk1,hk2,hk3,hk4⟩:=hl0 k;have hm1:=zA jZ (zf0 k).en;have hm2:=zA iA (zf0 k).ks;have hm3:=zA zY (zf0 k).rs;have kh:=hB.1;rw[hnx];dsimp only;rw[show((zf0 k).rs++[h.p]).map zY=(zf0 k).rs.map zY++[zY h.p] by simp,show∀e:En,((zf0 k).en++[e]).map jZ=(zf0 k).en.map jZ++[jZ e]from λe=>by simp,hgt];rw[cfe]at kh;unfold GK zJ wL wI at kh;unfold wI at hy3;have hen:(zF 0).en.length<=2000/\(zF 0).ks.length<=2000:=by omega
    clear hx hgt hnx hB hP hty kc km;generalize (zf0 k).rs.map zY=rs9 at *;generalize (zf0 k).en.map jZ=en9 at *;generalize h.p=p9 at *;generalize h.e=e9 at *;generalize h.d=d9 at *;generalize hkk:h.k=k9 at *;generalize (zf0 k).d=dk9 at *;obtain⟨pk,pt,pa,pd⟩:=p9;unfold zY OY at kh;dsimp only at kh;unfold QA jZ OY zY;by_cases h0:0<=k9
    ·rw[zW9 h0,show((zf0 k).ks++[k9]).map iA=(zf0 k).ks.map iA++[iA k9] by simp];generalize (zf0 k).ks.map iA=ks9 at *;refine zU kh ?_;rfl
    ·rw[zW8 h0];generalize (zf0 k).ks.map iA=ks9 at *;refine zU kh ?_;rfl
   obtain⟨w1,w2,w3⟩:=q0;refine WW ?_
  case' neg=>
   have hse:dJ ins 0=[]:=by unfold dJ;rw[zW8 (λh=>ho h.2)]
   rw[hse,zYa,hf0]at q0 hr0;obtain⟨w1,w2,w3⟩:=q0;have hop:(ins.getD 0 default).opn=false:=by simpa using ho
   clear hse ho;generalize ins.getD 0 default=x at *;obtain⟨op,its⟩:=x;dsimp only at *;subst hop;rw[show jQ ⟨false,its⟩= .agg [bA false,zD wI its]from rfl]at hy0;refine WW ?_
  all_goals clear hy0 ml1 ml2
  all_goals
   refine xB (st0:=⟨[(13,.ref 1002 0 ((zF 1).en.map jZ).length),(14,.ref 1003 0 ((zF 1).ks.map iA).length),(62,iA 1),(2,.sl false ((ins.take 1).map jQ)),(3,iA now),(4,.ptr 4 0 0),(5,.ptr 5 0 0),(8,.ptr 8 0 0),(12,.ref 28 0 1),(61,iA 1)],[(5,.box (QA (zF 1).d)),(28,.arr 1 [.ref 1006 0 (r0.map zY).length] ⟨false,true⟩),(1002,.arr 3 ((zF 1).en.map jZ) true),(1003,.arr 1 ((zF 1).ks.map iA) true),(1006,.arr 4 (r0.map zY) true),(4,.box [.sl false (c.js.map wP),.sl false (c.ags.map vH),iA c.per,iA c.cap,iA c.hold,iA c.lock]),(8,.box zF2)]⟩) (by rw[w1,w2,w3,hr0];rfl) ?_;refine zU km ?_;refine zH [] rfl rfl ?_ rfl
   show AV.tup [zJ (dkM (zF 1).d now),.sl false [.sl false (List.take _ (List.drop 0 (r0.map zY)))],.sl false (List.take _ (List.drop 0 ((zF 1).en.map jZ))),.sl false (List.take _ (List.drop 0 ((zF 1).ks.map iA)))]=_
   simp only[zYf,zXe];unfold tkT;rw[hR0,hz0];rfl
theorem zCt {c:Cf} {d:xP} (hI:uV c d) (ins:List In) (hil:ins.length<=1000) (hin:∀i∈ins,InB i) (now:Int) (n0:0<=now) (n1:now<=1073741824) (zF:Nat->SS) (hz0:zF 0=⟨dkU d ins,[],[],[]⟩) (hn:d.au.length=2) (hm:2<=ins.length)
  (hz:∀s,GI c (dkU d ins) (zF s).d/\((zF s).R.length=s/\(zF s).en.length<=1000*s/\(zF s).ks.length<=1000*s/\∀x∈(zF s).ks,0<=x/\x<(c.js.length:Int))/\SeR c now ins s (zF s) (zF (s+1))):
  zN 110 [wT c,zJ d,zD jQ ins,iA now] [] (tkT (dkM (zF 2).d now) (zF 2).R (zF 2).en (zF 2).ks) []:=by
 have kc:=QH d hI.bd zB;have hal:(d.au.map bA).length=2:=by rw[zXa,hn]
 have hinl:=zA jQ ins;have km:=zF9 (zF 2).d.rq now (hz 2).1.i.v;have cfe:wT c= .agg [.sl false (c.js.map wP),.sl false (c.ags.map vH),iA c.per,iA c.cap,iA c.hold,iA c.lock]:=rfl;rw[cfe];unfold UI zJ wL at kc;have e0:=jP (HA ins) d.au;have hkM:(min ((ins.map jQ).length:Int) ((d.au.map bA).length:Int)).toNat=2:=by omega
 have htl:((ins.take 2).map jQ).length=2:=by rw[zXa,zXw];omega
 have hty:∀s,s<2->((ins.take 2).map jQ)[s]? =some (jQ (ins.getD s default)):=λs hs=>by
  rw[zXd,zYx,zW9 hs,zXh,zXr zB];rfl
 obtain⟨hT0,⟨ha0,hb0,hc0,_⟩,zf0,hf0,hs0,hl0,hx0⟩:=hz 0;have hy0:=hty 0 zB;obtain⟨hT1,⟨ha1,hb1,hc1,_⟩,zf1,hf1,hs1,hl1,hx1⟩:=hz 1;have hy1:=hty 1 zB;refine eM call110 λF hF=>?_
 refine zU kc ?_;rw[hkM,hal];refine zP (2) [1004,4,5,8,28] [4,5,8,28] [2,3,4,5,8,12,13,14,39] [40,9,10,2,3,4,5,8,12,13,14,39] rfl (λi T U=>⟨(40,iA i)::(9,.s (.slice none 0 0))::(10,.s (.slice none 0 0))::T,(1004,.arr 1 ((WI (HA ins) d.au i).map bA) false)::U⟩) ?_;(conv=>whnf);refine⟨by(rw[e0];rfl),?_,?_⟩
 ·intro i hi;have hya:((WI (HA ins) d.au i).map bA)[i]? =some (bA (d.au.getD i default)):=by rw[zXd,uX,zW9 zB,zW8 (yBg i)];rfl
  have hxl:((WI (HA ins) d.au i).map bA).length=2:=by rw[zXa,vJ,hn]
  rw[qO bA (HA ins) d.au i zB];have hsame:=eP hya;clear kc km;generalize (WI (HA ins) d.au i).map bA=xs at *;generalize d.au.getD i default=b9 at *;unfold HA;by_cases h1:i<2
  ·have hy:=hty i h1;have hlt:i<ins.length:=by omega
   generalize ins.getD i default=x at *;obtain⟨op,its⟩:=x;rw[show jQ ⟨op,its⟩= .agg [bA op,zD wI its]from rfl]at hy;cases op
   ·rw[zW8 (λh=>by cases h.2)];refine WW ?_;rfl
   ·rw[zW9 ⟨hlt,rfl⟩,hsame];refine WW ?_;rfl
  ·rw[zW8 (λh=>by omega)];refine WW ?_;rfl
 ·(refine WW ?_)
  refine kK [4,5,8,28] [2,3,4,5,8,9,10,12,13,14,61,62] rfl ?_
  (conv=>whnf)
  rw[zF1 (by omega:d.au.length=2),show WI (HA ins) d.au 2=auF ins d.au by unfold auF;rw[hn],htl];refine xG 13 1002 3 rfl rfl rfl ?_;refine xG 14 1003 1 rfl rfl rfl ?_;refine xG 9 1006 4 rfl rfl rfl ?_;refine xG 10 1007 4 rfl rfl rfl ?_;refine PX 28 rfl ?_;refine YX 28 0 1006 rfl rfl rfl rfl rfl ?_;refine YX 28 1 1007 rfl rfl rfl rfl rfl ?_;refine uK 3 [5,28,1002,1003,1006,1007,4,8] [13,14,62,2,3,4,5,8,12,61] rfl ?_;refine xB (st0:=⟨[(13,.ref 1002 0 ((zF 0).en.map jZ).length),(14,.ref 1003 0 ((zF 0).ks.map iA).length),(62,iA 0),(2,.sl false ((ins.take 2).map jQ)),(3,iA now),(4,.ptr 4 0 0),(5,.ptr 5 0 0),(8,.ptr 8 0 0),(12,.ref 28 0 2),(61,iA 2)],[(5,.box (QA (zF 0).d)),(28,.arr 1 [.ref 1006 0 ([]:List AV).length,.ref 1007 0 ([]:List AV).length] ⟨false,true⟩),(1002,.arr 3 ((zF 0).en.map jZ) true),(1003,.arr 1 ((zF 0).ks.map iA) true),(1006,.arr 4 ([]:List AV) true),(1007,.arr 4 ([]:List AV) true),(4,.box [.sl false (c.js.map wP),.sl false (c.ags.map vH),iA c.per,iA c.cap,iA c.hold,iA c.lock]),(8,.box zF2)]⟩) (by rw[hz0];rfl) ?_;obtain⟨r0,hr0⟩:∃r,r=(zf0 (dJ ins 0).length).rs:=⟨_,rfl⟩;have hR0:(zF 1).R=(zF 0).R++[r0]:=by rw[hr0,hx0]
  have q0:(zF 1).d=(zf0 (dJ ins 0).length).d/\(zF 1).en=(zf0 (dJ ins 0).length).en/\(zF 1).ks=(zf0 (dJ ins 0).length).ks:=by rw[hx0];exact⟨rfl,rfl,rfl⟩
  have ml1:=zA jZ (zF 0).en;have ml2:=zA iA (zF 0).ks;by_cases ho:(ins.getD 0 default).opn=true
  case' pos=>
   have hse:dJ ins 0=(ins.getD 0 default).its:=by unfold dJ;rw[zW9 ⟨zB,ho⟩]
   have hib:=(GJ hin 0).1;rw[hse]at hib q0 hs0 hr0;clear hse;generalize ins.getD 0 default=x at *;obtain⟨op,its⟩:=x;dsimp only at *;subst ho;rw[show jQ ⟨true,its⟩= .agg [bA true,zD wI its]from rfl]at hy0;have hil2:=zA wI its;refine WW ?_;refine yB (its) [5,1002,1003,28,1006,4,8,1007] [4,8,1007] [2,3,4,5,8,12,16,61,62,75,76] [13,14,77,2,3,4,5,8,12,16,61,62,75,76] rfl (λi pre T U=>⟨(13,.ref 1002 0 ((zf0 i).en.map jZ).length)::(14,.ref 1003 0 ((zf0 i).ks.map iA).length)::(77,iA i)::T,(5,.box (QA (zf0 i).d))::(1002,.arr 3 ((zf0 i).en.map jZ) true)::(1003,.arr 1 ((zf0 i).ks.map iA) true)::(28,.arr 1 [.ref 1006 0 ((zf0 i).rs.map zY).length,.ref 1007 0 ([]:List AV).length] ⟨false,true⟩)::(1006,.arr 4 ((zf0 i).rs.map zY) true)::U⟩) ?_;(conv=>whnf);refine⟨by(rw[hf0];rfl),?_,?_⟩
   ·intro k pre it post hx hk;have hy3:=yP wI hx hk;have hlt3:=yF hx hk;have hgt:its.getD k default=it:=by rw[hx,<-hk];simp[List.getD]
    obtain⟨h,hB,hP,hnx⟩:=hs0 k hlt3;rw[hgt]at hB;obtain⟨hk1,hk2,hk3,hk4⟩:=hl0 k;have hm1:=zA jZ (zf0 k).en;have hm2:=zA iA (zf0 k).ks;have hm3:=zA zY (zf0 k).rs;have kh:=hB.1;rw[hnx];dsimp only;rw[show((zf0 k).rs++[h.p]).map zY=(zf0 k).rs.map zY++[zY h.p] by simp,show∀e:En,((zf0 k).en++[e]).map jZ=(zf0 k).en.map jZ++[jZ e]from λe=>by simp,hgt];rw[cfe]at kh;unfold GK zJ wL wI at kh;unfold wI at hy3;have hen:(zF 0).en.length<=2000/\(zF 0).ks.length<=2000:=by omega
    clear hx hgt hnx hB hP hty kc km;generalize (zf0 k).rs.map zY=rs9 at *;generalize (zf0 k).en.map jZ=en9 at *;generalize h.p=p9 at *;generalize h.e=e9 at *;generalize h.d=d9 at *;generalize hkk:h.k=k9 at *;generalize (zf0 k).d=dk9 at *;obtain⟨pk,pt,pa,pd⟩:=p9;unfold zY OY at kh;dsimp only at kh;unfold QA jZ OY zY;by_cases h0:0<=k9
    ·rw[zW9 h0,show((zf0 k).ks++[k9]).map iA=(zf0 k).ks.map iA++[iA k9] by simp];generalize (zf0 k).ks.map iA=ks9 at *;refine zU kh ?_;rfl
    ·rw[zW8 h0];generalize (zf0 k).ks.map iA=ks9 at *;refine zU kh ?_;rfl
   obtain⟨w1,w2,w3⟩:=q0;refine WW ?_
  case' neg=>
   have hse:dJ ins 0=[]:=by unfold dJ;rw[zW8 (λh=>ho h.2)]
   rw[hse,zYa,hf0]at q0 hr0;obtain⟨w1,w2,w3⟩:=q0;have hop:(ins.getD 0 default).opn=false:=by simpa using ho
   clear hse ho;generalize ins.getD 0 default=x at *;obtain⟨op,its⟩:=x;dsimp only at *;subst hop;rw[show jQ ⟨false,its⟩= .agg [bA false,zD wI its]from rfl]at hy0;refine WW ?_
  all_goals clear hy0 ml1 ml2
  all_goals
   refine xB (st0:=⟨[(13,.ref 1002 0 ((zF 1).en.map jZ).length),(14,.ref 1003 0 ((zF 1).ks.map iA).length),(62,iA 1),(2,.sl false ((ins.take 2).map jQ)),(3,iA now),(4,.ptr 4 0 0),(5,.ptr 5 0 0),(8,.ptr 8 0 0),(12,.ref 28 0 2),(61,iA 2)],[(5,.box (QA (zF 1).d)),(28,.arr 1 [.ref 1006 0 (r0.map zY).length,.ref 1007 0 ([]:List AV).length] ⟨false,true⟩),(1002,.arr 3 ((zF 1).en.map jZ) true),(1003,.arr 1 ((zF 1).ks.map iA) true),(1006,.arr 4 (r0.map zY) true),(1007,.arr 4 ([]:List AV) true),(4,.box [.sl false (c.js.map wP),.sl false (c.ags.map vH),iA c.per,iA c.cap,iA c.hold,iA c.lock]),(8,.box zF2)]⟩) (by rw[w1,w2,w3,hr0];rfl) ?_;obtain⟨r1,hr1⟩:∃r,r=(zf1 (dJ ins 1).length).rs:=⟨_,rfl⟩;have hR1:(zF 2).R=(zF 1).R++[r1]:=by rw[hr1,hx1]
   have q1:(zF 2).d=(zf1 (dJ ins 1).length).d/\(zF 2).en=(zf1 (dJ ins 1).length).en/\(zF 2).ks=(zf1 (dJ ins 1).length).ks:=by rw[hx1];exact⟨rfl,rfl,rfl⟩
   have ml1:=zA jZ (zF 1).en;have ml2:=zA iA (zF 1).ks;by_cases ho:(ins.getD 1 default).opn=true
   case' pos=>
    have hse:dJ ins 1=(ins.getD 1 default).its:=by unfold dJ;rw[zW9 ⟨zB,ho⟩]
    have hib:=(GJ hin 1).1;rw[hse]at hib q1 hs1 hr1;clear hse;generalize ins.getD 1 default=x at *;obtain⟨op,its⟩:=x;dsimp only at *;subst ho;rw[show jQ ⟨true,its⟩= .agg [bA true,zD wI its]from rfl]at hy1;have hil2:=zA wI its;refine WW ?_;refine yB (its) [5,1002,1003,28,1007,4,8,1006] [4,8,1006] [2,3,4,5,8,12,16,61,62,75,76] [13,14,77,2,3,4,5,8,12,16,61,62,75,76] rfl (λi pre T U=>⟨(13,.ref 1002 0 ((zf1 i).en.map jZ).length)::(14,.ref 1003 0 ((zf1 i).ks.map iA).length)::(77,iA i)::T,(5,.box (QA (zf1 i).d))::(1002,.arr 3 ((zf1 i).en.map jZ) true)::(1003,.arr 1 ((zf1 i).ks.map iA) true)::(28,.arr 1 [.ref 1006 0 (r0.map zY).length,.ref 1007 0 ((zf1 i).rs.map zY).length] ⟨false,true⟩)::(1007,.arr 4 ((zf1 i).rs.map zY) true)::U⟩) ?_;(conv=>whnf);refine⟨by(rw[hf1];rfl),?_,?_⟩
    ·intro k pre it post hx hk;have hy3:=yP wI hx hk;have hlt3:=yF hx hk;have hgt:its.getD k default=it:=by rw[hx,<-hk];simp[List.getD]
     obtain⟨h,hB,hP,hnx⟩:=hs1 k hlt3;rw[hgt]at hB;obtain⟨hk1,hk2,hk3,hk4⟩:=hl1 k;have hm1:=zA jZ (zf1 k).en;have hm2:=zA iA (zf1 k).ks;have hm3:=zA zY (zf1 k).rs;have kh:=hB.1;rw[hnx];dsimp only;rw[show((zf1 k).rs++[h.p]).map zY=(zf1 k).rs.map zY++[zY h.p] by simp,show∀e:En,((zf1 k).en++[e]).map jZ=(zf1 k).en.map jZ++[jZ e]from λe=>by simp,hgt];rw[cfe]at kh;unfold GK zJ wL wI at kh;unfold wI at hy3;have hen:(zF 1).en.length<=2000/\(zF 1).ks.length<=2000:=by omega
     clear hx hgt hnx hB hP hty kc km;generalize (zf1 k).rs.map zY=rs9 at *;generalize (zf1 k).en.map jZ=en9 at *;generalize h.p=p9 at *;generalize h.e=e9 at *;generalize h.d=d9 at *;generalize hkk:h.k=k9 at *;generalize (zf1 k).d=dk9 at *;obtain⟨pk,pt,pa,pd⟩:=p9;unfold zY OY at kh;dsimp only at kh;unfold QA jZ OY zY;by_cases h0:0<=k9
     ·rw[zW9 h0,show((zf1 k).ks++[k9]).map iA=(zf1 k).ks.map iA++[iA k9] by simp];generalize (zf1 k).ks.map iA=ks9 at *;refine zU kh ?_;rfl
     ·rw[zW8 h0];generalize (zf1 k).ks.map iA=ks9 at *;refine zU kh ?_;rfl
    obtain⟨w1,w2,w3⟩:=q1;refine WW ?_
   case' neg=>
    have hse:dJ ins 1=[]:=by unfold dJ;rw[zW8 (λh=>ho h.2)]
    rw[hse,zYa,hf1]at q1 hr1;obtain⟨w1,w2,w3⟩:=q1;have hop:(ins.getD 1 default).opn=false:=by simpa using ho
    clear hse ho;generalize ins.getD 1 default=x at *;obtain⟨op,its⟩:=x;dsimp only at *;subst hop;rw[show jQ ⟨false,its⟩= .agg [bA false,zD wI its]from rfl]at hy1;refine WW ?_
   all_goals clear hy1 ml1 ml2
   all_goals
    refine xB (st0:=⟨[(13,.ref 1002 0 ((zF 2).en.map jZ).length),(14,.ref 1003 0 ((zF 2).ks.map iA).length),(62,iA 2),(2,.sl false ((ins.take 2).map jQ)),(3,iA now),(4,.ptr 4 0 0),(5,.ptr 5 0 0),(8,.ptr 8 0 0),(12,.ref 28 0 2),(61,iA 2)],[(5,.box (QA (zF 2).d)),(28,.arr 1 [.ref 1006 0 (r0.map zY).length,.ref 1007 0 (r1.map zY).length] ⟨false,true⟩),(1002,.arr 3 ((zF 2).en.map jZ) true),(1003,.arr 1 ((zF 2).ks.map iA) true),(1006,.arr 4 (r0.map zY) true),(1007,.arr 4 (r1.map zY) true),(4,.box [.sl false (c.js.map wP),.sl false (c.ags.map vH),iA c.per,iA c.cap,iA c.hold,iA c.lock]),(8,.box zF2)]⟩) (by rw[w1,w2,w3,hr1];rfl) ?_;refine zU km ?_;refine zH [] rfl rfl ?_ rfl
    show AV.tup [zJ (dkM (zF 2).d now),.sl false [.sl false (List.take _ (List.drop 0 (r0.map zY))),.sl false (List.take _ (List.drop 0 (r1.map zY)))],.sl false (List.take _ (List.drop 0 ((zF 2).en.map jZ))),.sl false (List.take _ (List.drop 0 ((zF 2).ks.map iA)))]=_
    simp only[zYf,zXe];unfold tkT;rw[hR1,hR0,hz0];rfl
end Av
end Go.Proofs.YtmamjhmoegjapaaGreat
