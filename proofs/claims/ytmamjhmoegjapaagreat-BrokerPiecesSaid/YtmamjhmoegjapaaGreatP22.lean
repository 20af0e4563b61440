/- Part 22. -/
import Derived.Test.YtmamjhmoegjapaaGreatP21
import Derived.Test.YtmamjhmoegjapaaGreatP20
import Derived.Test.YtmamjhmoegjapaaGreatP09
import Derived.Test.YtmamjhmoegjapaaGreatP08
namespace Go.Proofs.YtmamjhmoegjapaaGreat
namespace Av
open Tryz
set_option linter.unusedSimpArgs false
set_option linter.unusedVariables false
set_option linter.unusedSectionVars false
set_option maxRecDepth 4000
set_option maxHeartbeats 8000000
def fK (d:Dk):Nat->List Int×Dk
 |0=>([],d)
 |i+1=>((fK d i).1++[nx (fK d i).2 256],ad (fK d i).2)
theorem AF (d:Dk):∀i,(fK d i).1.length=i/\rem (fK d i).2<=rem d/\BY (fK d i).1
 |0=>⟨rfl,zX6 _,λx hx=>by cases hx⟩
 |i+1=>by
  obtain⟨h1,h2,h3⟩:=AF d i;have r1:=wM (fK d i).2;have w1:=yF (fK d i).2 256 zB;refine⟨by simp only[fK,zX3,zYd,zZa];omega,by simp only[fK];omega,?_⟩;simp only[fK];intro x hx
  rcases zYl.1 hx with hx|hx
  ·exact h3 x hx
  ·rw[zYz]at hx;subst hx;exact w1
theorem zHo (d:Dk) (n:Int) (h0:0<=n) (h1:n<=1000):zN 95 [.ptr 1000 0 0,iA n] [(1000,dU d)] (zD yA (fK (ad d) (nx d (n+1)).toNat).1) [(1000,dU (fK (ad d) (nx d (n+1)).toNat).2)]:=by
 have c1:=yH d (n+1) zB zB;have b1:=yF d (n+1) zB;generalize nx d (n+1)=k at *;generalize ad d=d1 at *;obtain⟨N,hN⟩:∃N:Nat,k.toNat=N:=⟨_,rfl⟩;have hN2:k=(N:Int):=by omega
 rw[hN];subst hN2;refine eM call95 λF hF=>?_
 refine zU c1 ?_;refine xC 5 1001 1 rfl rfl rfl ?_;refine zP (N) [1000,1001] [] [0] [5,6,0] rfl (λi T U=>⟨(5,.ref 1001 0 ((fK d1 i).1.map yA).length)::(6,iA ((N:Int)-i))::T,(1000,dU (fK d1 i).2)::(1001,.arr 1 ((fK d1 i).1.map yA) true)::U⟩) ?_;(conv=>whnf);refine⟨by(rw[show(N:Int)-(0:Nat)=N by omega];rfl),?_,?_⟩
 ·intro i hi;have hl:=(AF d1 i).1;have eS:fK d1 (i+1)=((fK d1 i).1++[nx (fK d1 i).2 256],ad (fK d1 i).2):=rfl;rw[show((N:Int)-((i+1:Nat):Int))=(N:Int)-i-1 by omega];generalize (fK d1 i).1=p at *;generalize (fK d1 i).2=e at *;have hk1:1<=(N:Int)-i:=by omega
  have hk2:(N:Int)-i<=1001:=by omega
  have hp:p.length<=1001:=by omega
  generalize (N:Int)-i=q at *;have n1:=yH e 256 zB zB;have w1:=yF e 256 zB;rw[eS];generalize nx e 256=y at *;generalize ad e=e1 at *;refine zU n1 ?_
  show restr _ _ _=_
  rw[zYc];rfl
 ·rw[show(N:Int)-(N:Int)=0 by omega];refine WW ?_;exact zI [1000] rfl rfl (zY0 (AV.sl false) zX7) rfl
theorem zHp:∀(f:Nat) (n:Int),0<=n->n<128 ^ (f+1)->BY (enR f n)
 |0,n,h0,h1=>λx hx=>by
  rw[enR,zYz]at hx;subst hx;simp at h1;omega
 | f+1,n,h0,h1=>λx hx=>by
  rw[enR]at hx;split at hx
  ·rw[zYz]at hx;subst hx;omega
  ·rcases zZi.1 hx with rfl|hx
   ·omega
   ·exact zHp f (n/128) zB (zAc h1) x hx
theorem JJ {n:Int} (h0:0<=n) (h1:n<=4294967295):BY (cM n):=zHp 4 n h0 zB
theorem zHq (fx gr:Nat) (c:Int) (hc:0<=c/\c<256):∀(l:List Int) (i:Nat),RA l->BY (BG fx gr c i l)
 | [],_,_=>λx hx=>by cases hx
 | y::l,i,h=>λx hx=>by
  rw[BG]at hx
  rcases zYl.1 hx with hx|hx
  ·split at hx
   ·rw[zYz]at hx;subst hx;exact hc
   ·cases hx
  ·rcases zYl.1 hx with hx|hx
   ·have:=h y zS;exact JJ this.1 this.2 x hx
   ·exact zHq fx gr c hc l (i+1) (λz hz=>h z (by simp[hz])) x hx
theorem zSg (m:Ms) (h:MgP m) (n:Nat) (n2:n<=2) (ng:uP m.kind≠0->1<=n) (nl:m.args.length=jK m.kind+n*uP m.kind):∃p,BY p/\p.length<=200/\p=PX (jK m.kind) (uP m.kind) n m/\zN 147 [yE m] [] (.tup [zD yA p,iA 0]) []:=by
 have k1:=zJc m.kind h.k.1 h.k.2 m n rfl h.l (by rw[h.d];simp) h.n nl zB;have hf:=zAe m.kind;have hg:=zAd m.kind
 have hgn:n*uP m.kind<=8:=by rcases hg with e|e|e<;>rw[e]<;>omega
 have k2:=LJ m.kind h.k.1 h.k.2 m n rfl h.l (by rw[h.d];simp) h.n zB (λ_=>nl) zB
 have hv:vmF (uP m.kind) n m.data=true:=by
  unfold vmF;rw[zX9,h.d];exact⟨rfl,by by_cases h0:uP m.kind=0;exact .inl h0;exact .inr (ng h0)⟩
 rw[hv]at k1;have hpl:=IE (jK m.kind) (uP m.kind) n m.args 0;have hll:=h.l;refine⟨PX (jK m.kind) (uP m.kind) n m,λx hx=>?_,?_,rfl,?_⟩
 ·unfold PX at hx;rw[h.d]at hx
  rcases zYl.1 hx with hx|hx
  ·rcases zYl.1 hx with hx|hx
   ·exact h.t x hx
   ·exact zHq _ _ _ zB _ _ h.n x hx
  ·rw[zY5]at hx;split at hx
   ·rw[zYz]at hx;omega
   ·cases hx
 ·unfold PX;rw[h.d,zY5,zX3,zX3]
  have:(if uP m.kind≠0/\m.args.length=jK m.kind then [(0:Int)]else []).length<=1:=by split<;>simp
  omega
 ·generalize PX (jK m.kind) (uP m.kind) n m=p at *;refine eM call147 λF hF=>?_
  refine yQ (wZ k1 k2) ?_;exact zJ
theorem zSh (m:Ms) (h:MgP m):∃p,BY p/\p.length<=200/\zN 147 [yE m] [] (.tup [zD yA p,iA 0]) []:=by
 obtain⟨n,n2,ng,nl⟩:=h.c;obtain⟨p,h1,h2,_,h4⟩:=zSg m h n n2 ng nl;exact⟨p,h1,h2,h4⟩
theorem zVn (y:Int):0<=IntKind.u8.wrap y/\IntKind.u8.wrap y<256:=by
 unfold IntKind.wrap;simp[IntKind.signed,IntKind.bits];omega
section
variable {P:Program} {TT:List TI} {st:St}
theorem zHr (hP:uR P TT) {T e k off len sz:Nat} {s x:Operand} {ti te:TI} {xs:List AV} {fl:Fl} {xv:AV} (hs:yN (zG st.tm) s= .ref k off len) (hk:zC st.h k=some (.arr sz xs fl)) (hx:yN (zG st.tm) x=xv) (hT:TT[T]? =some ti) (hd:ti.d= .slice e) (he:TT[e]? =some te) (hvs:BL (zC st.h) xv=some []):
  wR P st (.call ⟨.builtin .append, #[s,x], #[T,T]⟩) (.ref k off len) [] (k::OU xv) []:=by
 refine⟨?_⟩;intro X tm h hg hr _ o a w β ho HH Ht;obtain⟨dst,op',type,pos,after,guard⟩:=o;dsimp only at ho;subst ho;have hk':=(hr k zS).trans hk;have h1:=jM Ht hg (x:=s) qI hs;have h2:=jM Ht hg (x:=x) qI hx;obtain⟨ad,cap,hcv,_⟩:=eJ HH h2 ((jR λk' hk=>hr k' OY).trans hvs) (sz:=0) (λy hy=>by cases hy)
 have hsl:∃bd cp,a.eval s= .slice bd len cp/\len<=cp:=by
  generalize a.eval s=cx at h1
  cases h1 with
  |fz _ _ hf=>cases hf
  |dref _ _ _ _ hd _=>rw[hk']at hd;cases hd
  |ref0 _ _ sz' xs' st' b hk'' hn=>exact⟨_,0,rfl,zX6 _⟩
  |ref _ _ _ sz' xs' st' b n cp hk'' hbm hn hc hs'=>exact⟨_,cp,rfl,hc⟩
 obtain⟨bd,cp,hcx,hcp⟩:=hsl;have hrun:=jE hP hT hd he w type bd ad len cp cap hcp
 have hex:(execOp a.eval ⟨dst,.call ⟨.builtin .append, #[s,x], #[T,T]⟩,type,pos,after,guard⟩).run P w= .ok (.value (.slice bd len cp)) w:=by
  rw[zZa]at hcv;simp[execOp,resolve,invoke,builtin,hcx,hcv,hrun]
 rw[hex,dJ];exact⟨β,xM.refl HH,by rw[hcx]at h1;exact h1⟩
end
section
variable {P:Program} {TT:List TI} {K0:List Nat} {F:Fr K0} {m:Nat} {ops:Array Oper} {rest:List Oper} {Q:List FP->St->Prop} {tm:List (Nat×AV)} {h:List (Nat×xN)} {dr:Bool} {fs:List FP}
variable {ty:Nat} {pos:String} {after:Array Edge} {t:Nat}
theorem zB2 (hP:uR P TT) {T e key len sz:Nat} {x l:Operand} {ti te:TI} {xs:List AV} {sl:Fl} {k:IntKind} {i:Int} (hx:yN (zG tm) x= .ref key 0 len) (hk:zC h key=some (.arr sz xs sl)) (hl:yN (zG tm) l= .s (.int k i)) (hT:TT[T]? =some ti) (hd:ti.d= .slice e) (he:TT[e]? =some te)
  (hsz:Nat.beq sz te.size=true) (h0:0<=i) (h1:i<=len) (hm:Nat.blt t m=true) (hr:yC P F m ops dr rest ⟨(t,.ref key 0 i.toNat)::tm,h⟩ (⟨true,[],[key]⟩::fs) Q):
  yC P F m ops dr (⟨some t,.slice T x none (some l) none,ty,pos,after,none⟩::rest) ⟨tm,h⟩ fs Q:=by
 have:=fE (P:=P) (st:=⟨tm,h⟩) (lo:=none) (hi:=some l) (l:=0) (r:=i.toNat) hP hx hk hT hd he rfl ⟨k,i,hl,zB⟩ (zYe _) zB hsz;rw[yCr]at this;exact xI this hm hr
end
theorem zXh (a y:Int) (h0:0<=y/\y<=1023):zN 50 [zD yA [],iA a,iA y] [] (zD yA [IntKind.u8.wrap y]) []:=by
 refine eM call50 λF hF=>?_
 refine WL ?_;exact zJ
section
variable (b:List Int) (a y k:Int) (hl:1<=b.length) (hn:b.length<=1000) (h0:0<=y/\y<=1023) (hk:a % (b.length:Int)=k)
include hl hn h0 hk
theorem LE (j:Int) (hj:y.tdiv 256 % 4=j):(b.map yA).length=b.length/\zN 16 [iA a,iA (((b.map yA).length:Nat):Int)] [] (iA k) []/\zN 16 [iA (y.tdiv 256),iA 4] [] (iA j) []/\XC .i64 (y.tdiv 256)/\0<=k/\k<(b.length:Int):=by
 have hbl:=zA yA b;have c1:=DO a (b.length:Int) zB zB;have c2:=DO (y.tdiv 256) 4 zB zB;have hk0:=yBd a (show(b.length:Int)≠0 by omega);have hk1:=yA2 a (show 0<(b.length:Int) by omega);rw[hk]at c1 hk0 hk1;rw[hj]at c2;exact⟨hbl,by rw[hbl];exact c1,c2,by rw[zZt h0.1];unfold XC;omega,hk0,hk1⟩
theorem zXi (hj:y.tdiv 256 % 4=3):zN 50 [zD yA b,iA a,iA y] [] (zD yA (b.take k.toNat)) []:=by
 obtain⟨hbl,c1,c2,hq,k0,k1⟩:=LE b a y k hl hn h0 hk 3 hj;clear hk hj;unfold zD;refine eM call50 λF hF=>?_
 refine LO (wZ c1 c2) ?_;exact zJ
theorem zXj (hj:y.tdiv 256 % 4=2):zN 50 [zD yA b,iA a,iA y] [] (zD yA (b.take k.toNat++[IntKind.u8.wrap y]++b.drop k.toNat)) []:=by
 obtain⟨hbl,c1,c2,hq,k0,k1⟩:=LE b a y k hl hn h0 hk 2 hj;clear hk hj;have e:zD yA (b.take k.toNat++[IntKind.u8.wrap y]++b.drop k.toNat)= .sl false ((b.take k.toNat).map yA++[yA (IntKind.u8.wrap y)]++(b.drop k.toNat).map yA):=by rw[zD,zYc,zYc];rfl
 rw[e];unfold zD;have hm:(b.take k.toNat).length=k.toNat:=by rw[zYo];omega
 refine eM call50 λF hF=>?_
 (have zc1:=c1;have zc2:=c2;(repeat' (first|refine WYX ?_|refine xO (λhc=>?_) (λhc=>?_)|refine wB (λhc=>?_)|(refine zE ?_;first|refine SL ?_)|refine SB ?_|fail))<;>clear zc1 zc2)
 (repeat' (first|refine aL ?_|refine xO (λhc=>?_) (λhc=>?_)|refine wB (λhc=>?_)|(refine zE ?_;first|(refine yS ?_;refine qR tok rfl rfl ?_)|(refine yV ?_;refine gV 1001 tok rfl rfl rfl rfl rfl rfl (xT _ _ (λ_=>rfl)) rfl rfl rfl (by first|omega|(simp;omega)) rfl rfl rfl ?_))|refine SB ?_|fail))
 exact zI [] rfl rfl (zY0 (AV.sl false) zX7) rfl
theorem zVo (hj:y.tdiv 256 % 4=0):zN 50 [zD yA b,iA a,iA y] [] (zD yA (b.set k.toNat (IntKind.u8.wrap y))) []:=by
 obtain⟨hbl,c1,c2,hq,k0,k1⟩:=LE b a y k hl hn h0 hk 0 hj;clear hk hj;have e:zD yA (b.set k.toNat (IntKind.u8.wrap y))= .sl false ((b.map yA).set k.toNat (yA (IntKind.u8.wrap y))):=by rw[zD,zZ9]
 rw[e];have hy:=yM yA b k k0 k1;unfold zD;refine eM call50 λF hF=>?_
 (have zc1:=c1;have zc2:=c2;(repeat' (first|refine qB ?_|refine xO (λhc=>?_) (λhc=>?_)|refine wB (λhc=>?_)|(refine zE ?_;first|(refine yV ?_;refine gV 1001 tok rfl rfl rfl rfl rfl rfl (xT _ _ (λ_=>rfl)) rfl rfl rfl zB rfl rfl rfl ?_))|fail))<;>clear zc1 zc2)
 exact zI [] rfl rfl (zY0 (AV.sl false) (by rw[zY2];exact zYb zS)) rfl
theorem zVp (hj:y.tdiv 256 % 4=1) (h1:1<=k) (h2:k+1<b.length):zN 50 [zD yA b,iA a,iA y] [] (zD yA (b.take k.toNat++b.drop (k.toNat+1))) []:=by
 obtain⟨hbl,c1,c2,hq,k0,k1⟩:=LE b a y k hl hn h0 hk 1 hj;clear hk hj
 have hB:∀y∈b.map yA,y.cells.length=1:=λy hy=>by
  rw[zZj]at hy;obtain⟨z,_,rfl⟩:=hy;rfl
 have e:zD yA (b.take k.toNat++b.drop (k.toNat+1))= .sl false ((b.map yA).take k.toNat++(b.map yA).drop (k.toNat+1)):=by rw[zD,zYc,yBt,yBs]
 rw[e];unfold zD;refine eM call50 λF hF=>?_
 (have zc1:=c1;have zc2:=c2;(repeat' (first|refine WZX ?_|refine xO (λhc=>?_) (λhc=>?_)|refine wB (λhc=>?_)|(refine zE ?_;first|(refine yV ?_;refine gV 1001 tok rfl rfl rfl rfl rfl rfl (xT _ _ (λ_=>rfl)) rfl rfl rfl zB rfl rfl rfl ?_))|fail))<;>clear zc1 zc2)
 refine yT ?_
 (repeat' (first|refine qB ?_|refine xO (λhc=>?_) (λhc=>?_)|refine wB (λhc=>?_)|(refine zE ?_;first|(refine jN ?_;first|refine fG tok rfl rfl rfl rfl rfl rfl rfl zB zB rfl ?_|refine zB2 tok rfl rfl rfl rfl rfl rfl rfl zB zB rfl ?_)|(refine yV ?_;refine zCj tok rfl rfl rfl rfl rfl rfl rfl rfl (λy hy=>hB y (zZe (zZv (zZn hy)))) wQ zB wQ zB rfl rfl ?_))|fail))
 refine zI [] rfl rfl (zY0 (AV.sl false) ?_) rfl
 have hv:List.take ((b.map yA).length-(k+1).toNat) (List.drop (k+1).toNat (b.map yA))=List.drop (k.toNat+1) (b.map yA):=by
  rw[show(k+1).toNat=k.toNat+1 by omega];exact zYb HB
 rw[hv,zY2];exact List.take_left' (by rw[zX3,zYo];omega)
theorem zVq (hj:y.tdiv 256 % 4=1) (h2:k+1=b.length):zN 50 [zD yA b,iA a,iA y] [] (zD yA (b.take k.toNat)) []:=by
 obtain⟨hbl,c1,c2,hq,k0,k1⟩:=LE b a y k hl hn h0 hk 1 hj;clear hk hj;have e:zD yA (b.take k.toNat)= .sl false ((b.map yA).take k.toNat):=by rw[zD,yBt]
 rw[e]
 have hv:((b.map yA).drop (k+1).toNat).take ((b.map yA).length-(k+1).toNat)=[]:=by
  rw[show(b.map yA).length-(k+1).toNat=0 by omega,yAp]
 unfold zD;refine eM call50 λF hF=>?_
 (have zc1:=c1;have zc2:=c2;(repeat' (first|refine WZX ?_|refine xO (λhc=>?_) (λhc=>?_)|refine wB (λhc=>?_)|(refine zE ?_;first|(refine yV ?_;refine gV 1001 tok rfl rfl rfl rfl rfl rfl (xT _ _ (λ_=>rfl)) rfl rfl rfl zB rfl rfl rfl ?_))|fail))<;>clear zc1 zc2)
 refine yT ?_
 (repeat' (first|refine qB ?_|refine xO (λhc=>?_) (λhc=>?_)|refine wB (λhc=>?_)|(refine zE ?_;first|(refine jN ?_;first|refine fG tok rfl rfl rfl rfl rfl rfl rfl zB zB rfl ?_|refine zB2 tok rfl rfl rfl rfl rfl rfl rfl zB zB rfl ?_)|(refine yV ?_;refine xI (zHr tok rfl rfl rfl rfl rfl rfl ((zY0 some hv:some _=_))) rfl ?_))|fail))
 exact zJ
theorem zVr (hj:y.tdiv 256 % 4=1) (h2:k=0) (h3:1<b.length):zN 50 [zD yA b,iA a,iA y] [] (zD yA (b.drop 1)) []:=by
 obtain⟨hbl,c1,c2,hq,k0,k1⟩:=LE b a y k hl hn h0 hk 1 hj;subst h2;clear hk hj
 have hB:∀y∈b.map yA,y.cells.length=1:=λy hy=>by
  rw[zZj]at hy;obtain⟨z,_,rfl⟩:=hy;rfl
 have e:zD yA (b.drop 1)= .sl false ((b.map yA).drop 1):=by rw[zD,yBs]
 rw[e];unfold zD;refine eM call50 λF hF=>?_
 (have zc1:=c1;have zc2:=c2;(repeat' (first|refine WZX ?_|refine xO (λhc=>?_) (λhc=>?_)|refine wB (λhc=>?_)|(refine zE ?_;first|(refine yV ?_;refine gV 1001 tok rfl rfl rfl rfl rfl rfl (xT _ _ (λ_=>rfl)) rfl rfl rfl zB rfl rfl rfl ?_))|fail))<;>clear zc1 zc2)
 refine yT ?_
 (repeat' (first|refine WS ?_|refine SG (I2 (λhc=>?_) (λhc=>?_))|refine SG (λhc=>?_)|(refine zE ?_;first|(refine jN ?_;first|refine fG tok rfl rfl rfl rfl rfl rfl rfl zB zB rfl ?_|refine zC2 tok rfl rfl rfl rfl rfl rfl rfl rfl ?_))|(first|refine zCe 7 9 rfl rfl ?_|first|refine SR ?_|refine SK (I2 (λhc=>?_) (λhc=>?_))|refine SK (λhc=>?_)|fail)|fail))
 refine zJ0 gS ?_;refine zSq [] [] tok rfl rfl rfl rfl rfl rfl rfl rfl (λy hy=>hB y (zZe (zZv (zZn hy)))) rfl rfl wQ wQ rfl rfl rfl rfl ?_;refine WW ?_;refine zI [] rfl rfl ?_ rfl
 show AV.sl false (List.take ((b.map yA).length-1) (List.drop 1 (b.map yA)))=_
 rw[zYb HB]
end
theorem zDq (b:List Int) (hb:BY b) (hn:b.length<=1000) (a y:Int) (h0:0<=y/\y<=1023):∃q,BY q/\q.length<=b.length+1/\zN 50 [zD yA b,iA a,iA y] [] (zD yA q) []:=by
 have hw:=zVn y;by_cases hl:1<=b.length
 case neg=>
  have e:b=[]:=zY1 zB;subst e;exact⟨_,λx hx=>by rw[zYz]at hx;subst hx;exact hw,by simp,zXh a y h0⟩
 have k0:=yBd a (show(b.length:Int)≠0 by omega);have k1:=yA2 a (show 0<(b.length:Int) by omega);have j0:=yBd (y.tdiv 256) (show(4:Int)≠0 by omega);have j1:=yA2 (y.tdiv 256) (show(0:Int)<4 by omega);have hT:BY (b.take (a % (b.length:Int)).toNat):=λx hx=>hb x (zZv hx)
 have hD:∀n,BY (b.drop n):=λn x hx=>hb x (zZe hx)
 have hlt:(b.take (a % (b.length:Int)).toNat).length<=b.length:=by rw[zYo];omega
 obtain hj|hj|hj|hj:y.tdiv 256 % 4=0∨y.tdiv 256 % 4=1∨y.tdiv 256 % 4=2∨y.tdiv 256 % 4=3:=by omega
 ·refine⟨_,λx hx=>?_,by rw[zZm];omega,zVo b a y _ hl hn h0 rfl hj⟩
  rcases yA8 hx with h|rfl
  ·exact hb x h
  ·exact hw
 ·by_cases h2:a % (b.length:Int)+1=b.length
  ·exact⟨_,hT,zB,zVq b a y _ hl hn h0 rfl hj h2⟩
  ·by_cases h1:1<=a % (b.length:Int)
   ·refine⟨_,λx hx=>?_,?_,zVp b a y _ hl hn h0 rfl hj h1 zB⟩
    ·rcases zYl.1 hx with h|h
     ·exact hT x h
     ·exact hD _ x h
    ·rw[zX3,zY4,zYo];omega
   ·exact⟨_,hD 1,by rw[zY4];omega,zVr b a y _ hl hn h0 rfl hj zB zB⟩
 ·refine⟨_,λx hx=>?_,?_,zXj b a y _ hl hn h0 rfl hj⟩
  ·rcases zYl.1 hx with h|h
   ·rcases zYl.1 h with h|h
    ·exact hT x h
    ·rw[zYz]at h;subst h;exact hw
   ·exact hD _ x h
  ·rw[zX3,zX3,zY4,zYo,yAg];omega
 ·exact⟨_,hT,zB,zXi b a y _ hl hn h0 rfl hj⟩
theorem zHs {α:Type} (I:Nat->α->Prop) (R:Nat->α->α->Prop) (h:∀i a,I i a->∃b,R i a b/\I (i+1) b) (a0:α) (h0:I 0 a0):∃f:Nat->α,f 0=a0/\∀i,I i (f i)/\R i (f i) (f (i+1)):=by
 have hg:∀i a,∃b,I i a->R i a b/\I (i+1) b:=λi a=>by
  by_cases hi:I i a
  ·obtain⟨b,hb⟩:=h i a hi;exact⟨b,λ_=>hb⟩
  ·exact⟨a,λh=>absurd h hi⟩
 let f:Nat->α:=λn=>Nat.rec a0 (λi a=>(hg i a).choose) n
 have hf:∀i,I i (f i):=λi=>by
  induction i with
  |zero=>exact h0
  |succ i ih=>exact((hg i (f i)).choose_spec ih).2
 exact⟨f,rfl,λi=>⟨hf i,((hg i (f i)).choose_spec (hf i)).1⟩⟩
def BD:Dk:=⟨[],0,zYe _,zYe _⟩
def dR {α:Type} [Inhabited α] (g:Nat->α->α) (l:List α) (i:Nat):List α:=(List.range l.length).map λj=>if j<i then g j (l.getD j default)else l.getD j default
theorem wL {α:Type} [Inhabited α] (g:Nat->α->α) (l:List α) (i:Nat):(dR g l i).length=l.length:=by simp[dR]
theorem vO {α:Type} [Inhabited α] (g:Nat->α->α) (l:List α) (i j:Nat):(dR g l i)[j]? =if j<l.length then some (if j<i then g j (l.getD j default)else l.getD j default)else none:=by
 unfold dR;rw[zX4];by_cases hj:j<l.length
 ·rw[zYx hj,zX1 hj];rfl
 ·rw[zYt wQ,zX0 hj];rfl
theorem kN {α:Type} [Inhabited α] (g:Nat->α->α) (l:List α):dR g l 0=l:=by
 apply zZf;intro j;rw[vO];by_cases hj:j<l.length
 ·rw[zX1 hj,zX0 zB];simp[List.getD,hj]
 ·rw[zX0 hj,zYt zB]
theorem zMs {α:Type} [Inhabited α] (g:Nat->α->α) (l:List α) (i:Nat) (hi:i<l.length):dR g l (i+1)=(dR g l i).set i (g i (l.getD i default)):=by
 apply zZf;intro j;rw[zZ7,vO,vO,wL];by_cases he:i=j
 ·subst he;rw[zX1 hi,zX1 rfl,zX1 hi,zX1 (Nat.lt_succ_self i)]
 ·rw[zX0 he];by_cases hj:j<l.length
  ·rw[zX1 hj,zX1 hj];by_cases h2:j<i
   ·rw[zX1 zB,zX1 h2]
   ·rw[zX0 zB,zX0 h2]
  ·rw[zX0 hj,zX0 hj]
theorem uO {α:Type} [Inhabited α] (f:α->AV) (g:Nat->α->α) (l:List α) (i:Nat) (hi:i<l.length):(dR g l (i+1)).map f=((dR g l i).map f).set i (f (g i (l.getD i default))):=by
 rw[zMs g l i hi,zZ9]
structure In where
 opn:Bool
 its:List It
instance:Inhabited In:=⟨⟨false,[]⟩⟩
instance:Inhabited It:=⟨⟨0,0,[]⟩⟩
def kT (i:In):AV:= .agg [bA i.opn,zD vE i.its]
structure En where
 ag:Int
 ki:Int
 co:Int
def gC (e:En):AV:=NZ e.ag e.ki e.co
structure TS where
 d:xQ
 rs:List Ms
 en:List En
 ks:List Int
structure SS where
 d:xQ
 R:List (List Ms)
 en:List En
 ks:List Int
def bD (l:List Ms):AV:=zD yE l
def InB (i:In):Prop:=i.its.length<=1000/\∀x∈i.its,BY x.pay/\x.pay.length<=100000
def StR (c:Cf) (s now:Int) (i:It) (a b:TS):Prop:=∃h:Hd,UX c a.d s i now h/\HdP c a.d s i now h/\b=⟨h.d,a.rs++[h.p],a.en++[⟨a.d.rg.num,i.kind,h.e⟩],if 0<=h.k then a.ks++[h.k]else a.ks⟩
structure FX (c:Cf) (d0 d:xQ):Prop where
 i:qC c d
 n:d.rg.num=d0.rg.num
 a:d.rg.ag=d0.rg.ag
 t:T0 d0->T0 d
theorem FX.refl {c:Cf} {d:xQ} (h:qC c d):FX c d d:=⟨h,rfl,rfl,id⟩
theorem FX.trans {c:Cf} {a b d:xQ} (h1:FX c a b) (h2:FX c b d):FX c a d:=⟨h2.i,h2.n.trans h1.n,h2.a.trans h1.a,λh=>h2.t (h1.t h)⟩
theorem zSi (c:Cf) (s now:Int) (n0:0<=now) (n1:now<=1073741824) (its:List It) (hib:∀x∈its,BY x.pay/\x.pay.length<=100000) (st:TS) (hI:qC c st.d):
  ∃f:Nat->TS,f 0=st/\∀k,FX c st.d (f k).d/\((f k).rs.length=st.rs.length+k/\(f k).en.length=st.en.length+k/\(f k).ks.length<=st.ks.length+k/\((∀x∈st.ks,0<=x/\x<(c.js.length:Int))->∀x∈(f k).ks,0<=x/\x<(c.js.length:Int)))/\(k<its.length->StR c s now (its.getD k default) (f k) (f (k+1))):=by
 have hx:∀k,BY (its.getD k default).pay/\(its.getD k default).pay.length<=100000:=λk=>by
  by_cases hk:k<its.length
  ·refine hib _ ?_;rw[zX5,zYi hk];exact yAn _
  ·rw[zX5,zYt zB]
   show BY ([]:List Int)/\([]:List Int).length<=100000
   exact⟨λy hy=>absurd hy zS,zYe _⟩
 obtain⟨f,h0,hf⟩:=zHs (λk (a:TS)=>FX c st.d a.d/\(a.rs.length=st.rs.length+k/\a.en.length=st.en.length+k/\a.ks.length<=st.ks.length+k/\((∀x∈st.ks,0<=x/\x<(c.js.length:Int))->∀x∈a.ks,0<=x/\x<(c.js.length:Int)))) (λk a b=>StR c s now (its.getD k default) a b)
  (λk a ha=>by
   obtain⟨ha,h1,h2,h3,h4⟩:=ha;obtain⟨h,hB,hP⟩:=zDt c a.d ha.i s now n0 n1 _ (hx k).1 (hx k).2;refine⟨_,⟨h,hB,hP,rfl⟩,ha.trans ⟨hP.inv,hP.num,hP.ag,hP.t0⟩,?_,?_,?_,λhks x hx=>?_⟩
   ·dsimp only;rw[zX3,yAg];omega
   ·dsimp only;rw[zX3,yAg];omega
   ·dsimp only;split
    ·rw[zX3,yAg];omega
    ·omega
   ·dsimp only at hx;split at hx
    ·rename_i hk0
     rcases zYl.1 hx with hx|hx
     ·exact h4 hks x hx
     ·rw[zYz]at hx;subst hx
      rcases hP.rst with h9|⟨_,h8,h9⟩
      ·omega
      ·exact⟨h8,h9⟩
    ·exact h4 hks x hx)
  st ⟨FX.refl hI,zB,zB,zB,id⟩
 exact⟨f,h0,λk=>⟨(hf k).1.1,(hf k).1.2,λ_=>(hf k).2⟩⟩
def fZ (ins:List In) (s:Nat):List It:=if s<ins.length/\(ins.getD s default).opn=true then(ins.getD s default).its else []
def SeR (c:Cf) (now:Int) (ins:List In) (s:Nat) (a b:SS):Prop:=∃f:Nat->TS,f 0=⟨a.d,[],a.en,a.ks⟩/\(∀k,k<(fZ ins s).length->StR c (s:Int) now ((fZ ins s).getD k default) (f k) (f (k+1)))/\(∀k,FX c a.d (f k).d/\(f k).rs.length=k/\(f k).en.length=a.en.length+k/\(f k).ks.length<=a.ks.length+k)/\
 b=⟨(f (fZ ins s).length).d,a.R++[(f (fZ ins s).length).rs],(f (fZ ins s).length).en,(f (fZ ins s).length).ks⟩
theorem FY {ins:List In} (h:∀i∈ins,InB i) (s:Nat):(fZ ins s).length<=1000/\∀x∈fZ ins s,BY x.pay/\x.pay.length<=100000:=by
 unfold fZ;split
 ·rename_i hs;refine h _ ?_;rw[zX5,zYi hs.1];exact yAn _
 ·exact⟨zYe _,λx hx=>by cases hx⟩
theorem zMt (c:Cf) (now:Int) (n0:0<=now) (n1:now<=1073741824) (ins:List In) (hin:∀i∈ins,InB i) (d:xQ) (hI:qC c d):
  ∃F:Nat->SS,F 0=⟨d,[],[],[]⟩/\∀s,FX c d (F s).d/\((F s).R.length=s/\(F s).en.length<=1000*s/\(F s).ks.length<=1000*s/\∀x∈(F s).ks,0<=x/\x<(c.js.length:Int))/\SeR c now ins s (F s) (F (s+1)):=by
 obtain⟨F,h0,hF⟩:=zHs (λs (a:SS)=>FX c d a.d/\(a.R.length=s/\a.en.length<=1000*s/\a.ks.length<=1000*s/\∀x∈a.ks,0<=x/\x<(c.js.length:Int))) (λs a b=>SeR c now ins s a b)
  (λs a ha=>by
   obtain⟨ha,h1,h2,h3,h4⟩:=ha;obtain⟨hl,hb⟩:=FY hin s;obtain⟨f,f0,hf⟩:=zSi c (s:Int) now n0 n1 (fZ ins s) hb ⟨a.d,[],a.en,a.ks⟩ ha.i;have hL:=hf (fZ ins s).length;refine⟨_,⟨f,f0,λk hk=>(hf k).2.2 hk,λk=>⟨(hf k).1,by have:=(hf k).2.1.1;simpa using this,(hf k).2.1.2.1,(hf k).2.1.2.2.1⟩,rfl⟩,ha.trans hL.1,?_,?_,?_,hL.2.1.2.2.2 h4⟩
   ·dsimp only;rw[zX3,yAg];omega
   ·have:=hL.2.1.2.1;dsimp only at *;omega
   ·have:=hL.2.1.2.2.1;dsimp only at *;omega)
  ⟨d,[],[],[]⟩ ⟨FX.refl hI,rfl,zYe _,zYe _,λx hx=>by cases hx⟩
 exact⟨F,h0,λs=>⟨(hF s).1.1,(hF s).1.2,(hF s).2⟩⟩
def LF (ins:List In) (s:Nat) (b:Bool):Bool:=if s<ins.length/\(ins.getD s default).opn=true then b else false
def auF (ins:List In) (l:List Bool):List Bool:=dR (LF ins) l l.length
def dkU (d:xQ) (ins:List In):xQ:=⟨d.rg,d.rq,d.dr,auF ins d.au⟩
theorem zVs {c:Cf} {d:xQ} (h:qC c d) (ins:List In):qC c (dkU d ins):=
 ⟨h.b,h.v,h.q,h.lg,h.a,h.n,h.t8,h.br,h.bb,h.bl,by show((auF ins d.au).length:Int)=_;unfold auF;rw[wL];exact h.au,h.dn,h.dr,h.vh⟩
def dkM (d:xQ) (now:Int):xQ:=⟨d.rg,mkQ d.rq now,d.dr,d.au⟩
theorem zVt {c:Cf} {d:xQ} (h:qC c d) (now:Int) (n0:0<=now) (n1:now<=1073741824):qC c (dkM d now):=by
 refine⟨h.b,zV8 h.v now n0 n1,?_,λr hr g hg=>?_,h.a,h.n,h.t8,h.br,h.bb,h.bl,h.au,h.dn,h.dr,h.vh⟩
 ·show((mkQ d.rq now).length:Int)<=_
  unfold mkQ;rw[zX2];exact h.q
 ·obtain⟨x,hx,rfl⟩:=zZj.1 hr;obtain⟨y,hy,rfl⟩:=zZj.1 hg;obtain⟨e1,e2,_⟩:=zH2 y now n0 n1;have:=h.lg x hx y hy;rw[e1,e2];exact this
def PG (x:xQ):List AV:=[iA x.rg.num,zD yA x.rg.ag.sec,iA x.rg.ag.rights,iA x.rg.ag.cls,zD iA x.rg.ag.lim,iA x.rg.ag.req,iA x.rg.ag.ses,iA x.rg.ag.rate,iA x.rg.ag.burst,zD xB x.rg.tk,zD vT x.rg.vh,iA x.rg.bk.level,iA x.rg.bk.rate,iA x.rg.bk.burst,zD yK x.rq,zD kH x.dr,zD bA x.au]
def tkT (d:xQ) (R:List (List Ms)) (E:List En) (K:List Int):AV:= .tup [zK d,zD bD R,zD gC E,zD iA K]
theorem dD {xs:List AV} {i:Nat} {y:AV} (h:xs[i]? =some y):xs.set i y=xs:=by
 apply zZf;intro j;rw[zZ7];by_cases he:i=j
 ·subst he;have hi:=(zYq.1 h).1;rw[zX1 rfl,zX1 hi,h]
 ·rw[zX0 he]
theorem zHt {g:Nat->Bool->Bool} {l:List Bool} {k n:Nat} (h:l.length=n):List.take n (List.drop 0 ((dR g l k).map bA))=(dR g l k).map bA:=by
 rw[zY2];exact zYb (by rw[zX2,wL,h];exact zX6 _)
section
variable {P:Program} {K0:List Nat} {F:Fr K0} {m:Nat} {tm:List (Nat×AV)} {h:List (Nat×xN)}
theorem wK.recell {a:Act} {w:World} (R:wK F m ⟨tm,h⟩ a w) (k i K:Nat) {xs ys:List AV} {sb:Bool} {sz2:Nat} {fl2:Fl} (hk:zC h k=some (.arr 1 xs ⟨sb,true⟩)) (hv:xs[i]? =some (.s (.slice none 0 0))) (hK:zC h K=some (.arr sz2 ys fl2)) (hne:K≠k):
  wK F m ⟨tm,(k,.arr 1 (xs.set i (.ref K 0 0)) ⟨sb,true⟩)::h⟩ a w:=by
 obtain⟨⟨X,β,hX,H,Ht,KK,hJ,hD⟩,nd,gs,hl⟩:=R;have hh':∀j,j≠k->zC ((k,.arr 1 (xs.set i (.ref K 0 0)) ⟨sb,true⟩)::h) j=zC h j:=λj hj=>by rw[xJ,zX0 hj]
 have hhk:zC ((k,.arr 1 (xs.set i (.ref K 0 0)) ⟨sb,true⟩)::h) k=some (.arr 1 (xs.set i (.ref K 0 0)) ⟨sb,true⟩):=by rw[xJ,zX1 rfl]
 have hlen:(xs.set i (.ref K 0 0)).length=xs.length:=zZm
 have E:HC w (xH X β) (zC h) β w (xH X β) (zC ((k,.arr 1 (xs.set i (.ref K 0 0)) ⟨sb,true⟩)::h)) β:=⟨zX6 _,λb _ hd=>⟨rfl,hd⟩,λ_ _ _ _=>rfl,λj e he=>by
  by_cases hj:j=k
  ·subst hj;rw[hk]at he;cases he;exact .inr ⟨⟨xs.set i (.ref K 0 0),⟨sb,true⟩,hhk,by rw[hlen];exact zX6 _⟩,λb n hm=>⟨n,zX6 _,hm⟩⟩
  ·have:=qV (zC h) β j e he
   rcases this with h1|h1
   ·exact .inl (by rw[hh' j hj];exact h1)
   ·refine .inr ?_
    cases e with
    |dead=>exact h1
    |box cs=>obtain⟨⟨cs',h2⟩,h3⟩:=h1;exact⟨⟨cs',by rw[hh' j hj];exact h2⟩,h3⟩
    |arr sz' xs' st'=>obtain⟨⟨x2,s2,h2,h3⟩,h4⟩:=h1;exact⟨⟨x2,s2,by rw[hh' j hj];exact h2,h3⟩,h4⟩⟩
 have H':kQ X (zC ((k,.arr 1 (xs.set i (.ref K 0 0)) ⟨sb,true⟩)::h)) β w:=by
  refine⟨λj e he=>?_,λj hj=>?_,H.disj,H.free,H.lt⟩
  ·by_cases hj:j=k
   ·subst hj;rw[hhk]at he;cases he;obtain⟨e1,e2,e3,e4,e5,f,e6,e7,e8⟩:=H.ent j _ hk;refine⟨e1,by rw[hlen];exact e2,λhx=>e3 λh0=>hx (by rw[h0];rfl),λi' x hx=>?_,λb n r hr=>by rw[hlen];exact e5 b n r hr,f,λi' x l v hx hv'=>⟨?_,λh=>by cases h⟩,λi' j' h1 h2=>e7 i' j' (by rw[<-hlen];exact h1) h2,e8⟩
    ·rw[zZ7]at hx;split at hx
     ·split at hx
      ·cases hx;rfl
      ·cases hx
     ·exact e4 i' x hx
    ·rw [zZ7]at hx;split at hx
     ·rename_i hij;subst hij;split at hx
      ·cases hx
       cases l with
       |zero=>
        have hv2:v= .ref K 0 0:=by simpa [AV.cells]using hv'.symm
        subst hv2;have h6:=e6.toV i _ 0 _ hv rfl;rw[h6.s_inv];exact .ref0 K 0 sz2 ys fl2 none (by rw[hh' K hne];exact hK) (zYe _)
       |succ l=>simp[AV.cells]at hv'
      ·cases hx
     ·exact(e6.toV i' x l v hx hv').evo E
   ·rw[hh' j hj]at he;exact(H.ent j e he).evo E rfl λ_ _ _=>rfl
  ·rw[xJ]at hj;split at hj
   ·cases hj
   ·exact H.off j hj
 refine⟨⟨X,β,hX,H',λt=>(Ht t).evo E,⟨λj e he=>?_,KK.size,KK.keep,KK.own,KK.pas,KK.bs,KK.os,KK.tape,KK.output⟩,hJ,hD⟩,λj=>?_,gs,hl⟩
 ·have:=KK.knd j e he;by_cases hj:j=k
  ·subst hj
   cases e with
   |dead=>exact this
   |box cs=>obtain⟨cs',h2⟩:=this;(try dsimp only at h2);rw[hk]at h2;cases h2
   |arr sz' xs' sl'=>obtain⟨xs2,sl2,h2,h3⟩:=this;(try dsimp only at h2);rw[hk]at h2;cases h2;exact⟨_,_,hhk,by rw[hlen];exact h3⟩
  ·cases e with
   |dead=>exact this
   |box cs=>obtain⟨cs',h2⟩:=this;exact⟨cs',by dsimp only;rw[hh' j hj];exact h2⟩
   |arr sz' xs' sl'=>obtain⟨xs2,sl2,h2,h3⟩:=this;exact⟨xs2,sl2,by dsimp only;rw[hh' j hj];exact h2,h3⟩
 ·dsimp only;by_cases hj:j=k
  ·subst hj;rw[hhk];intro hd;cases hd
  ·rw[hh' j hj];exact nd j
theorem XS {c:Code} {Q:Exit->St->Prop} (k i K:Nat) {xs xs' ys:List AV} {sb:Bool} {sz2:Nat} {fl2:Fl} (hk:zC h k=some (.arr 1 xs ⟨sb,true⟩)) (hv:xs[i]? =some (.s (.slice none 0 0))) (hK:zC h K=some (.arr sz2 ys fl2)) (hne:Nat.beq K k=false) (he:xs.set i (.ref K 0 0)=xs')
  (hs:uG P F m c ⟨tm,(k,.arr 1 xs' ⟨sb,true⟩)::h⟩ Q):uG P F m c ⟨tm,h⟩ Q:=
 ⟨λa w R=>hs.run a w (he▸R.recell k i K hk hv hK (λe=>by rw[e,Nat.beq_refl]at hne;cases hne))⟩
end
def zHu:List AV:=[iA 0,.s (.slice none 0 0),iA 0,iA 0,.s (.slice none 0 0),iA 0,iA 0,iA 0,iA 0,.s (.slice none 0 0),.s (.slice none 0 0),iA 0,iA 0,iA 0,.s (.slice none 0 0),.s (.slice none 0 0),.s (.slice none 0 0)]
theorem zDr {c:Cf} {d:xQ} (hI:qC c d) (ins:List In) (hil:ins.length<=1000) (hin:∀i∈ins,InB i) (now:Int) (n0:0<=now) (n1:now<=1073741824) (zF:Nat->SS) (hz0:zF 0=⟨dkU d ins,[],[],[]⟩) (hn:d.au.length=1) (hm:1<=ins.length)
  (hz:∀s,FX c (dkU d ins) (zF s).d/\((zF s).R.length=s/\(zF s).en.length<=1000*s/\(zF s).ks.length<=1000*s/\∀x∈(zF s).ks,0<=x/\x<(c.js.length:Int))/\SeR c now ins s (zF s) (zF (s+1))):
  zN 110 [wP c,zK d,zD kT ins,iA now] [] (tkT (dkM (zF 1).d now) (zF 1).R (zF 1).en (zF 1).ks) []:=by
 have kc:=PM d hI.bd zB;have hal:(d.au.map bA).length=1:=by rw[zX2,hn]
 have hinl:=zA kT ins;have km:=zH1 (zF 1).d.rq now (hz 1).1.i.v;have cfe:wP c= .agg [.sl false (c.js.map wH),.sl false (c.ags.map vC),iA c.per,iA c.cap,iA c.hold,iA c.lock]:=rfl;rw[cfe];unfold UY zK wI at kc;have e0:=kN (LF ins) d.au;have hkM:(min ((ins.map kT).length:Int) ((d.au.map bA).length:Int)).toNat=1:=by omega
 have htl:((ins.take 1).map kT).length=1:=by rw[zX2,zYo];omega
 have hty:∀s,s<1->((ins.take 1).map kT)[s]? =some (kT (ins.getD s default)):=λs hs=>by
  rw[zX4,zZq,zX1 hs,zX5,zYi zB];rfl
 obtain⟨hT0,⟨ha0,hb0,hc0,_⟩,zf0,hf0,hs0,hl0,hx0⟩:=hz 0;have hy0:=hty 0 zB;refine eM call110 λF hF=>?_
 refine zU kc ?_;rw[hkM,hal];refine zP (1) [1004,4,5,8,28] [4,5,8,28] [2,3,4,5,8,12,13,14,39] [40,9,10,2,3,4,5,8,12,13,14,39] rfl (λi T U=>⟨(40,iA i)::(9,.s (.slice none 0 0))::(10,.s (.slice none 0 0))::T,(1004,.arr 1 ((dR (LF ins) d.au i).map bA) false)::U⟩) ?_;(conv=>whnf);refine⟨by(rw[e0];rfl),?_,?_⟩
 ·intro i hi;have hya:((dR (LF ins) d.au i).map bA)[i]? =some (bA (d.au.getD i default)):=by rw[zX4,vO,zX1 zB,zX0 (yBk i)];rfl
  have hxl:((dR (LF ins) d.au i).map bA).length=1:=by rw[zX2,wL,hn]
  rw[uO bA (LF ins) d.au i zB];have hsame:=dD hya;clear kc km;generalize (dR (LF ins) d.au i).map bA=xs at *;generalize d.au.getD i default=b9 at *;unfold LF;by_cases h1:i<1
  ·have hy:=hty i h1;have hlt:i<ins.length:=by omega
   generalize ins.getD i default=x at *;obtain⟨op,its⟩:=x;rw[show kT ⟨op,its⟩= .agg [bA op,zD vE its]from rfl]at hy;cases op
   ·rw[zX0 (λh=>by cases h.2)];refine WW ?_;rfl
   ·rw[zX1 ⟨hlt,rfl⟩,hsame];refine WW ?_;rfl
  ·rw[zX0 (λh=>by omega)];refine WW ?_;rfl
 ·(refine WW ?_)
  refine uC [4,5,8,28] [2,3,4,5,8,9,10,12,13,14,61,62] rfl ?_
  (conv=>whnf)
  rw[zHt (by omega:d.au.length=1),show dR (LF ins) d.au 1=auF ins d.au by unfold auF;rw[hn],htl];refine xC 13 1002 3 rfl rfl rfl ?_;refine xC 14 1003 1 rfl rfl rfl ?_;refine xC 9 1006 4 rfl rfl rfl ?_;refine NF 28 rfl ?_;refine XS 28 0 1006 rfl rfl rfl rfl rfl ?_;refine uT 2 [5,28,1002,1003,1006,4,8] [13,14,62,2,3,4,5,8,12,61] rfl ?_;refine xF (st0:=⟨[(13,.ref 1002 0 ((zF 0).en.map gC).length),(14,.ref 1003 0 ((zF 0).ks.map iA).length),(62,iA 0),(2,.sl false ((ins.take 1).map kT)),(3,iA now),(4,.ptr 4 0 0),(5,.ptr 5 0 0),(8,.ptr 8 0 0),(12,.ref 28 0 1),(61,iA 1)],[(5,.box (PG (zF 0).d)),(28,.arr 1 [.ref 1006 0 ([]:List AV).length] ⟨false,true⟩),(1002,.arr 3 ((zF 0).en.map gC) true),(1003,.arr 1 ((zF 0).ks.map iA) true),(1006,.arr 4 ([]:List AV) true),(4,.box [.sl false (c.js.map wH),.sl false (c.ags.map vC),iA c.per,iA c.cap,iA c.hold,iA c.lock]),(8,.box zHu)]⟩) (by rw[hz0];rfl) ?_;obtain⟨r0,hr0⟩:∃r,r=(zf0 (fZ ins 0).length).rs:=⟨_,rfl⟩;have hR0:(zF 1).R=(zF 0).R++[r0]:=by rw[hr0,hx0]
  have q0:(zF 1).d=(zf0 (fZ ins 0).length).d/\(zF 1).en=(zf0 (fZ ins 0).length).en/\(zF 1).ks=(zf0 (fZ ins 0).length).ks:=by rw[hx0];exact⟨rfl,rfl,rfl⟩
  have ml1:=zA gC (zF 0).en;have ml2:=zA iA (zF 0).ks;by_cases ho:(ins.getD 0 default).opn=true
  case' pos=>
   have hse:fZ ins 0=(ins.getD 0 default).its:=by unfold fZ;rw[zX1 ⟨zB,ho⟩]
   have hib:=(FY hin 0).1;rw[hse]at hib q0 hs0 hr0;clear hse;generalize ins.getD 0 default=x at *;obtain⟨op,its⟩:=x;dsimp only at *;subst ho;rw[show kT ⟨true,its⟩= .agg [bA true,zD vE its]from rfl]at hy0;have hil2:=zA vE its;refine WW ?_;refine zY (its) [5,1002,1003,28,1006,4,8] [4,8] [2,3,4,5,8,12,16,61,62,75,76] [13,14,77,2,3,4,5,8,12,16,61,62,75,76] rfl (λi pre T U=>⟨(13,.ref 1002 0 ((zf0 i).en.map gC).length)::(14,.ref 1003 0 ((zf0 i).ks.map iA).length)::(77,iA i)::T,(5,.box (PG (zf0 i).d))::(1002,.arr 3 ((zf0 i).en.map gC) true)::(1003,.arr 1 ((zf0 i).ks.map iA) true)::(28,.arr 1 [.ref 1006 0 ((zf0 i).rs.map yE).length] ⟨false,true⟩)::(1006,.arr 4 ((zf0 i).rs.map yE) true)::U⟩) ?_;(conv=>whnf);refine⟨by(rw[hf0];rfl),?_,?_⟩
   ·intro k pre it post hx hk;have hy3:=yI vE hx hk;have hlt3:=yB hx hk;have hgt:its.getD k default=it:=by rw[hx,<-hk];simp[List.getD]
    obtain⟨h,hB,hP,hnx⟩:=hs0 k hlt3;rw[hgt]at hB;obtain⟨hk1,hk2,hk3,hk4⟩:=hl0 k;have hm1:=zA gC (zf0 k).en;have hm2:=zA iA (zf0 k).ks;have hm3:=zA yE (zf0 k).rs;have kh:=hB.1;rw[hnx];dsimp only;rw[show((zf0 k).rs++[h.p]).map yE=(zf0 k).rs.map yE++[yE h.p] by simp,show∀e:En,((zf0 k).en++[e]).map gC=(zf0 k).en.map gC++[gC e]from λe=>by simp,hgt];rw[cfe]at kh;unfold FZ zK wI vE at kh;unfold vE at hy3;have hen:(zF 0).en.length<=2000/\(zF 0).ks.length<=2000:=by omega
    clear hx hgt hnx hB hP hty kc km;generalize (zf0 k).rs.map yE=rs9 at *;generalize (zf0 k).en.map gC=en9 at *;generalize h.p=p9 at *;generalize h.e=e9 at *;generalize h.d=d9 at *;generalize hkk:h.k=k9 at *;generalize (zf0 k).d=dk9 at *;obtain⟨pk,pt,pa,pd⟩:=p9;unfold yE NZ at kh;dsimp only at kh;unfold PG gC NZ yE;by_cases h0:0<=k9
    ·rw[zX1 h0,show((zf0 k).ks++[k9]).map iA=(zf0 k).ks.map iA++[iA k9] by simp];generalize (zf0 k).ks.map iA=ks9 at *;refine zU kh ?_;rfl
    ·rw[zX0 h0];generalize (zf0 k).ks.map iA=ks9 at *;refine zU kh ?_;rfl
   obtain⟨w1,w2,w3⟩:=q0;refine WW ?_
  case' neg=>
   have hse:fZ ins 0=[]:=by unfold fZ;rw[zX0 (λh=>ho h.2)]
   rw[hse,zZa,hf0]at q0 hr0;obtain⟨w1,w2,w3⟩:=q0;have hop:(ins.getD 0 default).opn=false:=by simpa using ho
   clear hse ho;generalize ins.getD 0 default=x at *;obtain⟨op,its⟩:=x;dsimp only at *;subst hop;rw[show kT ⟨false,its⟩= .agg [bA false,zD vE its]from rfl]at hy0;refine WW ?_
  all_goals clear hy0 ml1 ml2
  all_goals
   refine xF (st0:=⟨[(13,.ref 1002 0 ((zF 1).en.map gC).length),(14,.ref 1003 0 ((zF 1).ks.map iA).length),(62,iA 1),(2,.sl false ((ins.take 1).map kT)),(3,iA now),(4,.ptr 4 0 0),(5,.ptr 5 0 0),(8,.ptr 8 0 0),(12,.ref 28 0 1),(61,iA 1)],[(5,.box (PG (zF 1).d)),(28,.arr 1 [.ref 1006 0 (r0.map yE).length] ⟨false,true⟩),(1002,.arr 3 ((zF 1).en.map gC) true),(1003,.arr 1 ((zF 1).ks.map iA) true),(1006,.arr 4 (r0.map yE) true),(4,.box [.sl false (c.js.map wH),.sl false (c.ags.map vC),iA c.per,iA c.cap,iA c.hold,iA c.lock]),(8,.box zHu)]⟩) (by rw[w1,w2,w3,hr0];rfl) ?_;refine zU km ?_;refine zI [] rfl rfl ?_ rfl
   show AV.tup [zK (dkM (zF 1).d now),.sl false [.sl false (List.take _ (List.drop 0 (r0.map yE)))],.sl false (List.take _ (List.drop 0 ((zF 1).en.map gC))),.sl false (List.take _ (List.drop 0 ((zF 1).ks.map iA)))]=_
   simp only[zY2,zX7];unfold tkT;rw[hR0,hz0];rfl
theorem zDs {c:Cf} {d:xQ} (hI:qC c d) (ins:List In) (hil:ins.length<=1000) (hin:∀i∈ins,InB i) (now:Int) (n0:0<=now) (n1:now<=1073741824) (zF:Nat->SS) (hz0:zF 0=⟨dkU d ins,[],[],[]⟩) (hn:d.au.length=2) (hm:2<=ins.length)
  (hz:∀s,FX c (dkU d ins) (zF s).d/\((zF s).R.length=s/\(zF s).en.length<=1000*s/\(zF s).ks.length<=1000*s/\∀x∈(zF s).ks,0<=x/\x<(c.js.length:Int))/\SeR c now ins s (zF s) (zF (s+1))):
  zN 110 [wP c,zK d,zD kT ins,iA now] [] (tkT (dkM (zF 2).d now) (zF 2).R (zF 2).en (zF 2).ks) []:=by
 have kc:=PM d hI.bd zB;have hal:(d.au.map bA).length=2:=by rw[zX2,hn]
 have hinl:=zA kT ins;have km:=zH1 (zF 2).d.rq now (hz 2).1.i.v;have cfe:wP c= .agg [.sl false (c.js.map wH),.sl false (c.ags.map vC),iA c.per,iA c.cap,iA c.hold,iA c.lock]:=rfl;rw[cfe];unfold UY zK wI at kc;have e0:=kN (LF ins) d.au;have hkM:(min ((ins.map kT).length:Int) ((d.au.map bA).length:Int)).toNat=2:=by omega
 have htl:((ins.take 2).map kT).length=2:=by rw[zX2,zYo];omega
 have hty:∀s,s<2->((ins.take 2).map kT)[s]? =some (kT (ins.getD s default)):=λs hs=>by
  rw[zX4,zZq,zX1 hs,zX5,zYi zB];rfl
 obtain⟨hT0,⟨ha0,hb0,hc0,_⟩,zf0,hf0,hs0,hl0,hx0⟩:=hz 0;have hy0:=hty 0 zB;obtain⟨hT1,⟨ha1,hb1,hc1,_⟩,zf1,hf1,hs1,hl1,hx1⟩:=hz 1;have hy1:=hty 1 zB;refine eM call110 λF hF=>?_
 refine zU kc ?_;rw[hkM,hal];refine zP (2) [1004,4,5,8,28] [4,5,8,28] [2,3,4,5,8,12,13,14,39] [40,9,10,2,3,4,5,8,12,13,14,39] rfl (λi T U=>⟨(40,iA i)::(9,.s (.slice none 0 0))::(10,.s (.slice none 0 0))::T,(1004,.arr 1 ((dR (LF ins) d.au i).map bA) false)::U⟩) ?_;(conv=>whnf);refine⟨by(rw[e0];rfl),?_,?_⟩
 ·intro i hi;have hya:((dR (LF ins) d.au i).map bA)[i]? =some (bA (d.au.getD i default)):=by rw[zX4,vO,zX1 zB,zX0 (yBk i)];rfl
  have hxl:((dR (LF ins) d.au i).map bA).length=2:=by rw[zX2,wL,hn]
  rw[uO bA (LF ins) d.au i zB];have hsame:=dD hya;clear kc km;generalize (dR (LF ins) d.au i).map bA=xs at *;generalize d.au.getD i default=b9 at *;unfold LF;by_cases h1:i<2
  ·have hy:=hty i h1;have hlt:i<ins.length:=by omega
   generalize ins.getD i default=x at *;obtain⟨op,its⟩:=x;rw[show kT ⟨op,its⟩= .agg [bA op,zD vE its]from rfl]at hy;cases op
   ·rw[zX0 (λh=>by cases h.2)];refine WW ?_;rfl
   ·rw[zX1 ⟨hlt,rfl⟩,hsame];refine WW ?_;rfl
  ·rw[zX0 (λh=>by omega)];refine WW ?_;rfl
 ·(refine WW ?_)
  refine uC [4,5,8,28] [2,3,4,5,8,9,10,12,13,14,61,62] rfl ?_
  (conv=>whnf)
  rw[zHt (by omega:d.au.length=2),show dR (LF ins) d.au 2=auF ins d.au by unfold auF;rw[hn],htl];refine xC 13 1002 3 rfl rfl rfl ?_;refine xC 14 1003 1 rfl rfl rfl ?_;refine xC 9 1006 4 rfl rfl rfl ?_;refine xC 10 1007 4 rfl rfl rfl ?_;refine NF 28 rfl ?_;refine XS 28 0 1006 rfl rfl rfl rfl rfl ?_;refine XS 28 1 1007 rfl rfl rfl rfl rfl ?_;refine uT 3 [5,28,1002,1003,1006,1007,4,8] [13,14,62,2,3,4,5,8,12,61] rfl ?_;refine xF (st0:=⟨[(13,.ref 1002 0 ((zF 0).en.map gC).length),(14,.ref 1003 0 ((zF 0).ks.map iA).length),(62,iA 0),(2,.sl false ((ins.take 2).map kT)),(3,iA now),(4,.ptr 4 0 0),(5,.ptr 5 0 0),(8,.ptr 8 0 0),(12,.ref 28 0 2),(61,iA 2)],[(5,.box (PG (zF 0).d)),(28,.arr 1 [.ref 1006 0 ([]:List AV).length,.ref 1007 0 ([]:List AV).length] ⟨false,true⟩),(1002,.arr 3 ((zF 0).en.map gC) true),(1003,.arr 1 ((zF 0).ks.map iA) true),(1006,.arr 4 ([]:List AV) true),(1007,.arr 4 ([]:List AV) true),(4,.box [.sl false (c.js.map wH),.sl false (c.ags.map vC),iA c.per,iA c.cap,iA c.hold,iA c.lock]),(8,.box zHu)]⟩) (by rw[hz0];rfl) ?_;obtain⟨r0,hr0⟩:∃r,r=(zf0 (fZ ins 0).length).rs:=⟨_,rfl⟩;have hR0:(zF 1).R=(zF 0).R++[r0]:=by rw[hr0,hx0]
  have q0:(zF 1).d=(zf0 (fZ ins 0).length).d/\(zF 1).en=(zf0 (fZ ins 0).length).en/\(zF 1).ks=(zf0 (fZ ins 0).length).ks:=by rw[hx0];exact⟨rfl,rfl,rfl⟩
  have ml1:=zA gC (zF 0).en;have ml2:=zA iA (zF 0).ks;by_cases ho:(ins.getD 0 default).opn=true
  case' pos=>
   have hse:fZ ins 0=(ins.getD 0 default).its:=by unfold fZ;rw[zX1 ⟨zB,ho⟩]
   have hib:=(FY hin 0).1;rw[hse]at hib q0 hs0 hr0;clear hse;generalize ins.getD 0 default=x at *;obtain⟨op,its⟩:=x;dsimp only at *;subst ho;rw[show kT ⟨true,its⟩= .agg [bA true,zD vE its]from rfl]at hy0;have hil2:=zA vE its;refine WW ?_;refine zY (its) [5,1002,1003,28,1006,4,8,1007] [4,8,1007] [2,3,4,5,8,12,16,61,62,75,76] [13,14,77,2,3,4,5,8,12,16,61,62,75,76] rfl (λi pre T U=>⟨(13,.ref 1002 0 ((zf0 i).en.map gC).length)::(14,.ref 1003 0 ((zf0 i).ks.map iA).length)::(77,iA i)::T,(5,.box (PG (zf0 i).d))::(1002,.arr 3 ((zf0 i).en.map gC) true)::(1003,.arr 1 ((zf0 i).ks.map iA) true)::(28,.arr 1 [.ref 1006 0 ((zf0 i).rs.map yE).length,.ref 1007 0 ([]:List AV).length] ⟨false,true⟩)::(1006,.arr 4 ((zf0 i).rs.map yE) true)::U⟩) ?_;(conv=>whnf);refine⟨by(rw[hf0];rfl),?_,?_⟩
   ·intro k pre it post hx hk;have hy3:=yI vE hx hk;have hlt3:=yB hx hk;have hgt:its.getD k default=it:=by rw[hx,<-hk];simp[List.getD]
    obtain⟨h,hB,hP,hnx⟩:=hs0 k hlt3;rw[hgt]at hB;obtain⟨hk1,hk2,hk3,hk4⟩:=hl0 k;have hm1:=zA gC (zf0 k).en;have hm2:=zA iA (zf0 k).ks;have hm3:=zA yE (zf0 k).rs;have kh:=hB.1;rw[hnx];dsimp only;rw[show((zf0 k).rs++[h.p]).map yE=(zf0 k).rs.map yE++[yE h.p] by simp,show∀e:En,((zf0 k).en++[e]).map gC=(zf0 k).en.map gC++[gC e]from λe=>by simp,hgt];rw[cfe]at kh;unfold FZ zK wI vE at kh;unfold vE at hy3;have hen:(zF 0).en.length<=2000/\(zF 0).ks.length<=2000:=by omega
    clear hx hgt hnx hB hP hty kc km;generalize (zf0 k).rs.map yE=rs9 at *;generalize (zf0 k).en.map gC=en9 at *;generalize h.p=p9 at *;generalize h.e=e9 at *;generalize h.d=d9 at *;generalize hkk:h.k=k9 at *;generalize (zf0 k).d=dk9 at *;obtain⟨pk,pt,pa,pd⟩:=p9;unfold yE NZ at kh;dsimp only at kh;unfold PG gC NZ yE;by_cases h0:0<=k9
    ·rw[zX1 h0,show((zf0 k).ks++[k9]).map iA=(zf0 k).ks.map iA++[iA k9] by simp];generalize (zf0 k).ks.map iA=ks9 at *;refine zU kh ?_;rfl
    ·rw[zX0 h0];generalize (zf0 k).ks.map iA=ks9 at *;refine zU kh ?_;rfl
   obtain⟨w1,w2,w3⟩:=q0;refine WW ?_
  case' neg=>
   have hse:fZ ins 0=[]:=by unfold fZ;rw[zX0 (λh=>ho h.2)]
   rw[hse,zZa,hf0]at q0 hr0;obtain⟨w1,w2,w3⟩:=q0;have hop:(ins.getD 0 default).opn=false:=by simpa using ho
   clear hse ho;generalize ins.getD 0 default=x at *;obtain⟨op,its⟩:=x;dsimp only at *;subst hop;rw[show kT ⟨false,its⟩= .agg [bA false,zD vE its]from rfl]at hy0;refine WW ?_
  all_goals clear hy0 ml1 ml2
  all_goals
   refine xF (st0:=⟨[(13,.ref 1002 0 ((zF 1).en.map gC).length),(14,.ref 1003 0 ((zF 1).ks.map iA).length),(62,iA 1),(2,.sl false ((ins.take 2).map kT)),(3,iA now),(4,.ptr 4 0 0),(5,.ptr 5 0 0),(8,.ptr 8 0 0),(12,.ref 28 0 2),(61,iA 2)],[(5,.box (PG (zF 1).d)),(28,.arr 1 [.ref 1006 0 (r0.map yE).length,.ref 1007 0 ([]:List AV).length] ⟨false,true⟩),(1002,.arr 3 ((zF 1).en.map gC) true),(1003,.arr 1 ((zF 1).ks.map iA) true),(1006,.arr 4 (r0.map yE) true),(1007,.arr 4 ([]:List AV) true),(4,.box [.sl false (c.js.map wH),.sl false (c.ags.map vC),iA c.per,iA c.cap,iA c.hold,iA c.lock]),(8,.box zHu)]⟩) (by rw[w1,w2,w3,hr0];rfl) ?_;obtain⟨r1,hr1⟩:∃r,r=(zf1 (fZ ins 1).length).rs:=⟨_,rfl⟩;have hR1:(zF 2).R=(zF 1).R++[r1]:=by rw[hr1,hx1]
   have q1:(zF 2).d=(zf1 (fZ ins 1).length).d/\(zF 2).en=(zf1 (fZ ins 1).length).en/\(zF 2).ks=(zf1 (fZ ins 1).length).ks:=by rw[hx1];exact⟨rfl,rfl,rfl⟩
   have ml1:=zA gC (zF 1).en;have ml2:=zA iA (zF 1).ks;by_cases ho:(ins.getD 1 default).opn=true
   case' pos=>
    have hse:fZ ins 1=(ins.getD 1 default).its:=by unfold fZ;rw[zX1 ⟨zB,ho⟩]
    have hib:=(FY hin 1).1;rw[hse]at hib q1 hs1 hr1;clear hse;generalize ins.getD 1 default=x at *;obtain⟨op,its⟩:=x;dsimp only at *;subst ho;rw[show kT ⟨true,its⟩= .agg [bA true,zD vE its]from rfl]at hy1;have hil2:=zA vE its;refine WW ?_;refine zY (its) [5,1002,1003,28,1007,4,8,1006] [4,8,1006] [2,3,4,5,8,12,16,61,62,75,76] [13,14,77,2,3,4,5,8,12,16,61,62,75,76] rfl (λi pre T U=>⟨(13,.ref 1002 0 ((zf1 i).en.map gC).length)::(14,.ref 1003 0 ((zf1 i).ks.map iA).length)::(77,iA i)::T,(5,.box (PG (zf1 i).d))::(1002,.arr 3 ((zf1 i).en.map gC) true)::(1003,.arr 1 ((zf1 i).ks.map iA) true)::(28,.arr 1 [.ref 1006 0 (r0.map yE).length,.ref 1007 0 ((zf1 i).rs.map yE).length] ⟨false,true⟩)::(1007,.arr 4 ((zf1 i).rs.map yE) true)::U⟩) ?_;(conv=>whnf);refine⟨by(rw[hf1];rfl),?_,?_⟩
    ·intro k pre it post hx hk;have hy3:=yI vE hx hk;have hlt3:=yB hx hk;have hgt:its.getD k default=it:=by rw[hx,<-hk];simp[List.getD]
     obtain⟨h,hB,hP,hnx⟩:=hs1 k hlt3;rw[hgt]at hB;obtain⟨hk1,hk2,hk3,hk4⟩:=hl1 k;have hm1:=zA gC (zf1 k).en;have hm2:=zA iA (zf1 k).ks;have hm3:=zA yE (zf1 k).rs;have kh:=hB.1;rw[hnx];dsimp only;rw[show((zf1 k).rs++[h.p]).map yE=(zf1 k).rs.map yE++[yE h.p] by simp,show∀e:En,((zf1 k).en++[e]).map gC=(zf1 k).en.map gC++[gC e]from λe=>by simp,hgt];rw[cfe]at kh;unfold FZ zK wI vE at kh;unfold vE at hy3;have hen:(zF 1).en.length<=2000/\(zF 1).ks.length<=2000:=by omega
     clear hx hgt hnx hB hP hty kc km;generalize (zf1 k).rs.map yE=rs9 at *;generalize (zf1 k).en.map gC=en9 at *;generalize h.p=p9 at *;generalize h.e=e9 at *;generalize h.d=d9 at *;generalize hkk:h.k=k9 at *;generalize (zf1 k).d=dk9 at *;obtain⟨pk,pt,pa,pd⟩:=p9;unfold yE NZ at kh;dsimp only at kh;unfold PG gC NZ yE;by_cases h0:0<=k9
     ·rw[zX1 h0,show((zf1 k).ks++[k9]).map iA=(zf1 k).ks.map iA++[iA k9] by simp];generalize (zf1 k).ks.map iA=ks9 at *;refine zU kh ?_;rfl
     ·rw[zX0 h0];generalize (zf1 k).ks.map iA=ks9 at *;refine zU kh ?_;rfl
    obtain⟨w1,w2,w3⟩:=q1;refine WW ?_
   case' neg=>
    have hse:fZ ins 1=[]:=by unfold fZ;rw[zX0 (λh=>ho h.2)]
    rw[hse,zZa,hf1]at q1 hr1;obtain⟨w1,w2,w3⟩:=q1;have hop:(ins.getD 1 default).opn=false:=by simpa using ho
    clear hse ho;generalize ins.getD 1 default=x at *;obtain⟨op,its⟩:=x;dsimp only at *;subst hop;rw[show kT ⟨false,its⟩= .agg [bA false,zD vE its]from rfl]at hy1;refine WW ?_
   all_goals clear hy1 ml1 ml2
   all_goals
    refine xF (st0:=⟨[(13,.ref 1002 0 ((zF 2).en.map gC).length),(14,.ref 1003 0 ((zF 2).ks.map iA).length),(62,iA 2),(2,.sl false ((ins.take 2).map kT)),(3,iA now),(4,.ptr 4 0 0),(5,.ptr 5 0 0),(8,.ptr 8 0 0),(12,.ref 28 0 2),(61,iA 2)],[(5,.box (PG (zF 2).d)),(28,.arr 1 [.ref 1006 0 (r0.map yE).length,.ref 1007 0 (r1.map yE).length] ⟨false,true⟩),(1002,.arr 3 ((zF 2).en.map gC) true),(1003,.arr 1 ((zF 2).ks.map iA) true),(1006,.arr 4 (r0.map yE) true),(1007,.arr 4 (r1.map yE) true),(4,.box [.sl false (c.js.map wH),.sl false (c.ags.map vC),iA c.per,iA c.cap,iA c.hold,iA c.lock]),(8,.box zHu)]⟩) (by rw[w1,w2,w3,hr1];rfl) ?_;refine zU km ?_;refine zI [] rfl rfl ?_ rfl
    show AV.tup [zK (dkM (zF 2).d now),.sl false [.sl false (List.take _ (List.drop 0 (r0.map yE))),.sl false (List.take _ (List.drop 0 (r1.map yE)))],.sl false (List.take _ (List.drop 0 ((zF 2).en.map gC))),.sl false (List.take _ (List.drop 0 ((zF 2).ks.map iA)))]=_
    simp only[zY2,zX7];unfold tkT;rw[hR1,hR0,hz0];rfl
end Av
end Go.Proofs.YtmamjhmoegjapaaGreat
