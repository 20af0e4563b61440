/- Part 15. -/
import Derived.Test.YteajjdidebfcjaaGreatV14
namespace Go.Proofs.YteajjdidebfcjaaGreat
namespace Av
open Tryz
set_option linter.all false
set_option maxRecDepth 4000
set_option maxHeartbeats 8000000
def dE (d:Dk):Nat->List Int×Dk
 |0=>([],d)
 |i+1=>((dE d i).1++[nx (dE d i).2 256],ad (dE d i).2)
theorem AQ (d:Dk):∀i,(dE d i).1.length=i/\rem (dE d i).2<=rem d/\BY (dE d i).1
 |0=>⟨rfl,zX7 _,λx hx=>by cases hx⟩
 |i+1=>by
  obtain⟨h1,h2,h3⟩:=AQ d i;have r1:=zTz (dE d i).2;have w1:=wW (dE d i).2 256 zB;refine⟨by simp only[dE,zX4,zYh,zZc];omega,by simp only[dE];omega,?_⟩;simp only[dE];intro x hx
  rcases zYy.1 hx with hx|hx
  ·exact h3 x hx
  ·rw[zZd]at hx;subst hx;exact w1
def zH0 (d:Dk) (n:Int) (h0:0<=n) (h1:n<=1000):zO 27 [.ptr 1000 0 0,iA n] [(1000,PD d)] (zD yA (dE (ad d) (nx d (n+1)).toNat).1) [(1000,PD (dE (ad d) (nx d (n+1)).toNat).2)]:=by
 have c1:=vZ d (n+1) zB zB;have b1:=wW d (n+1) zB;generalize nx d (n+1)=k at *;generalize ad d=d1 at *;obtain⟨N,hN⟩:∃N:Nat,k.toNat=N:=⟨_,rfl⟩;have hN2:k=(N:Int):=by omega
 rw[hN];subst hN2;refine eM call27 λF hF=>?_
 refine zY c1 ?_;refine xA 5 1001 1 Z Z Z ?_;refine zS (N) [1000,1001] [] [0] [5,6,0] Z (λi T U=>⟨(5,.ref 1001 0 ((dE d1 i).1.map yA).length)::(6,iA ((N:Int)-i))::T,(1000,PD (dE d1 i).2)::(1001,.arr 1 ((dE d1 i).1.map yA) true)::U⟩) ?_;(conv=>whnf);refine⟨by(rw[show(N:Int)-(0:Nat)=N by omega];rfl),?_,?_⟩
 ·intro i hi;have hl:=(AQ d1 i).1;have eS:dE d1 (i+1)=((dE d1 i).1++[nx (dE d1 i).2 256],ad (dE d1 i).2):=rfl;rw[show((N:Int)-((i+1:Nat):Int))=(N:Int)-i-1 by omega];generalize (dE d1 i).1=p at *;generalize (dE d1 i).2=e at *;have hk1:1<=(N:Int)-i:=by omega
  have hk2:(N:Int)-i<=1001:=by omega
  have hp:p.length<=1001:=by omega
  generalize (N:Int)-i=q at *;have n1:=vZ e 256 zB zB;have w1:=wW e 256 zB;rw[eS];generalize nx e 256=y at *;generalize ad e=e1 at *;refine zY n1 ?_
  show restr _ _ _=_
  rw[zYd];rfl
 ·rw[show(N:Int)-(N:Int)=0 by omega];refine WW ?_;exact zI [1000] Z Z (zY3 (AV.sl false) zX6) Z
theorem zH1:∀(f:Nat) (n:Int),0<=n->n<128 ^ (f+1)->BY (enR f n)
 |0,n,h0,h1=>λx hx=>by
  rw[enR,zZd]at hx;subst hx;simp at h1;omega
 | f+1,n,h0,h1=>λx hx=>by
  rw[enR]at hx;split at hx
  ·rw[zZd]at hx;subst hx;omega
  ·rcases zZg.1 hx with rfl|hx
   ·omega
   ·exact zH1 f (n/128) zB (zA9 h1) x hx
def JT {n:Int} (h0:0<=n) (h1:n<=4294967295):BY (gW n):=zH1 4 n h0 zB
def zVp (y:Int):0<=IntKind.u8.wrap y/\IntKind.u8.wrap y<256:=by
 unfold IntKind.wrap;simp[IntKind.signed,IntKind.bits];omega
section
variable {P:Program} {TT:List TI} {st:St}
def zH2 (hP:uZ P TT) {T e k off len sz:Nat} {s x:Operand} {ti te:TI} {xs:List AV} {fl:Fl} {xv:AV} (hs:yM (zG st.tm) s= .ref k off len) (hk:zC st.h k=some (.arr sz xs fl)) (hx:yM (zG st.tm) x=xv) (hT:TT[T]? =some ti) (hd:ti.d= .slice e) (he:TT[e]? =some te) (hvs:DY (zC st.h) xv=some []):
  wV P st (.call ⟨.builtin .append, #[s,x], #[T,T]⟩) (.ref k off len) [] (k::PH xv) []:=by
 refine⟨?_⟩;intro X tm h hg hr _ o a w β ho HH Ht;obtain⟨d0,o0,y0,p0,f0,g0⟩:=o;dsimp only at ho;subst ho;have hk':=(hr k zW).trans hk;have h1:=gU Ht hg (x:=s) kJ hs;have h2:=gU Ht hg (x:=x) kJ hx;obtain⟨ad,cap,hcv,_⟩:=bF HH h2 ((fL λk' hk=>hr k' (by simp[hk])).trans hvs) (sz:=0) (λy hy=>by cases hy)
 have hsl:∃bd cp,a.eval s= .slice bd len cp/\len<=cp:=by
  generalize a.eval s=cx at h1
  cases h1 with
  |fz _ _ hf=>cases hf
  |dref _ _ _ _ hd _=>rw[hk']at hd;cases hd
  |ref0 _ _ sz' xs' st' b hk'' hn=>exact⟨_,0,rfl,zX7 _⟩
  |ref _ _ _ sz' xs' st' b n cp hk'' hbm hn hc hs'=>exact⟨_,cp,rfl,hc⟩
 obtain⟨bd,cp,hcx,hcp⟩:=hsl;have hrun:=hG hP hT hd he w y0 bd ad len cp cap hcp
 have hex:(execOp a.eval ⟨d0,.call ⟨.builtin .append, #[s,x], #[T,T]⟩,y0,p0,f0,g0⟩).run P w= .ok (.value (.slice bd len cp)) w:=by
  rw[zZc]at hcv;simp[execOp,resolve,invoke,builtin,hcx,hcv,hrun]
 rw[hex,cM];exact⟨β,xK.refl HH,by rw[hcx]at h1;exact h1⟩
end
section
variable {P:Program} {TT:List TI} {K0:List Nat} {F:Fr K0} {m:Nat} {ops:Array Oper} {rest:List Oper} {Q:List FP->St->Prop} {tm:List (Nat×AV)} {h:List (Nat×xN)} {dr:Bool} {fs:List FP}
variable {ty:Nat} {pos:String} {after:Array Edge} {t:Nat}
def zCf (hP:uZ P TT) {T e key len sz:Nat} {x l:Operand} {ti te:TI} {xs:List AV} {sl:Fl} {k:IntKind} {i:Int} (hx:yM (zG tm) x= .ref key 0 len) (hk:zC h key=some (.arr sz xs sl)) (hl:yM (zG tm) l= .s (.int k i)) (hT:TT[T]? =some ti) (hd:ti.d= .slice e) (he:TT[e]? =some te)
  (hsz:Nat.beq sz te.size=true) (h0:0<=i) (h1:i<=len) (hm:Nat.blt t m=true) (hr:yE P F m ops dr rest ⟨(t,.ref key 0 i.toNat)::tm,h⟩ (⟨true,[],[key]⟩::fs) Q):
  yE P F m ops dr (⟨some t,.slice T x none (some l) none,ty,pos,after,none⟩::rest) ⟨tm,h⟩ fs Q:=by
 have:=fS (P:=P) (st:=⟨tm,h⟩) (lo:=none) (hi:=some l) (l:=0) (r:=i.toNat) hP hx hk hT hd he Z ⟨k,i,hl,zB⟩ (zYl _) zB hsz;rw[yCe]at this;exact zP this hm hr
end
def zVq {y:Int} (h: -9223372036854775808<=y/\y<=9223372036854775807):YH .i64 (y.tdiv 256):=by
 by_cases h0:0<=y
 ·rw[zZw h0];unfold YH;omega
 ·have e:y.tdiv 256= -((-y).tdiv 256):=by rw[Int.neg_tdiv,Int.neg_neg]
  rw[e,zZw zB];unfold YH;omega
def zXe (a y:Int) (h0: -9223372036854775808<=y/\y<=9223372036854775807):zO 30 [zD yA [],iA a,iA y] [] (zD yA [IntKind.u8.wrap y]) []:=by
 refine eM call30 λF hF=>?_
 refine WL ?_;exact zJ
section
variable (b:List Int) (a y k:Int) (hl:1<=b.length) (hn:b.length<=1000) (h0: -9223372036854775808<=y/\y<=9223372036854775807) (hk:a % (b.length:Int)=k)
include hl hn h0 hk
theorem LO (j:Int) (hj:y.tdiv 256 % 4=j):(b.map yA).length=b.length/\zO 14 [iA a,iA (((b.map yA).length:Nat):Int)] [] (iA k) []/\zO 14 [iA (y.tdiv 256),iA 4] [] (iA j) []/\YH .i64 (y.tdiv 256)/\0<=k/\k<(b.length:Int):=by
 have hbl:=zA yA b;have c1:=zCs a (b.length:Int) zB zB;have c2:=zCs (y.tdiv 256) 4 zB zB;have hk0:=yB6 a (show(b.length:Int)≠0 by omega);have hk1:=yBu a (show 0<(b.length:Int) by omega);rw[hk]at c1 hk0 hk1;rw[hj]at c2;exact⟨hbl,by rw[hbl];exact c1,c2,zVq h0,hk0,hk1⟩
def zXf (hj:y.tdiv 256 % 4=3):zO 30 [zD yA b,iA a,iA y] [] (zD yA (b.take k.toNat)) []:=by
 obtain⟨hbl,c1,c2,hq,k0,k1⟩:=LO b a y k hl hn h0 hk 3 hj;clear hk hj;unfold zD;refine eM call30 λF hF=>?_
 refine EV (wZ c1 c2) ?_;exact zJ
def zXg (hj:y.tdiv 256 % 4=2):zO 30 [zD yA b,iA a,iA y] [] (zD yA (b.take k.toNat++[IntKind.u8.wrap y]++b.drop k.toNat)) []:=by
 obtain⟨hbl,c1,c2,hq,k0,k1⟩:=LO b a y k hl hn h0 hk 2 hj;clear hk hj;have e:zD yA (b.take k.toNat++[IntKind.u8.wrap y]++b.drop k.toNat)= .sl false ((b.take k.toNat).map yA++[yA (IntKind.u8.wrap y)]++(b.drop k.toNat).map yA):=by rw[zD,zYd,zYd];rfl
 rw[e];unfold zD;have hm:(b.take k.toNat).length=k.toNat:=by rw[zYn];omega
 refine eM call30 λF hF=>?_
 (have zc1:=c1;have zc2:=c2;(repeat' (first|refine WYX ?_|apply xL|apply wB|intro hc|(refine zE ?_;first|refine SL ?_)|refine SB ?_|fail))<;>clear zc1 zc2)
 (repeat' (first|refine MF ?_|apply xL|apply wB|intro hc|(refine zE ?_;first|(refine xR ?_;refine bV tok Z Z ?_)|(refine yD ?_;refine kR 1001 tok Z Z Z Z Z Z (zN _ _ (λ_=>rfl)) Z Z Z (by first|omega|(simp;omega)) Z Z Z ?_))|refine SB ?_|fail))
 exact zI [] Z Z (zY3 (AV.sl false) zX6) Z
def zVr (hj:y.tdiv 256 % 4=0):zO 30 [zD yA b,iA a,iA y] [] (zD yA (b.set k.toNat (IntKind.u8.wrap y))) []:=by
 obtain⟨hbl,c1,c2,hq,k0,k1⟩:=LO b a y k hl hn h0 hk 0 hj;clear hk hj;have e:zD yA (b.set k.toNat (IntKind.u8.wrap y))= .sl false ((b.map yA).set k.toNat (yA (IntKind.u8.wrap y))):=by rw[zD,zZ8]
 rw[e];have hy:=yN yA b k k0 k1;unfold zD;refine eM call30 λF hF=>?_
 (have zc1:=c1;have zc2:=c2;(repeat' (first|refine uJ ?_|apply xL|apply wB|intro hc|(refine zE ?_;first|(refine yD ?_;refine kR 1001 tok Z Z Z Z Z Z (zN _ _ (λ_=>rfl)) Z Z Z zB Z Z Z ?_))|fail))<;>clear zc1 zc2)
 exact zI [] Z Z (zY3 (AV.sl false) (by rw[zYq];exact zYe zW)) Z
def zVs (hj:y.tdiv 256 % 4=1) (h1:1<=k) (h2:k+1<b.length):zO 30 [zD yA b,iA a,iA y] [] (zD yA (b.take k.toNat++b.drop (k.toNat+1))) []:=by
 obtain⟨hbl,c1,c2,hq,k0,k1⟩:=LO b a y k hl hn h0 hk 1 hj;clear hk hj
 have hB:∀y∈b.map yA,y.cells.length=1:=λy hy=>by
  rw[zZn]at hy;obtain⟨z,_,rfl⟩:=hy;rfl
 have e:zD yA (b.take k.toNat++b.drop (k.toNat+1))= .sl false ((b.map yA).take k.toNat++(b.map yA).drop (k.toNat+1)):=by rw[zD,zYd,yBd,yBc]
 rw[e];unfold zD;refine eM call30 λF hF=>?_
 (have zc1:=c1;have zc2:=c2;(repeat' (first|refine WZX ?_|apply xL|apply wB|intro hc|(refine zE ?_;first|(refine yD ?_;refine kR 1001 tok Z Z Z Z Z Z (zN _ _ (λ_=>rfl)) Z Z Z zB Z Z Z ?_))|fail))<;>clear zc1 zc2)
 refine yQ ?_
 (repeat' (first|refine uJ ?_|apply xL|apply wB|intro hc|(refine zE ?_;first|(refine uB ?_;first|refine fT tok Z Z Z Z Z Z Z zB zB Z ?_|refine zCf tok Z Z Z Z Z Z Z zB zB Z ?_)|(refine yD ?_;refine zCo tok Z Z Z Z Z Z Z Z (λy hy=>hB y (zY1 (zZl (zZk hy)))) xX zB xX zB Z Z ?_))|fail))
 refine zI [] Z Z (zY3 (AV.sl false) ?_) Z
 have hv:List.take ((b.map yA).length-(k+1).toNat) (List.drop (k+1).toNat (b.map yA))=List.drop (k.toNat+1) (b.map yA):=by
  rw[show(k+1).toNat=k.toNat+1 by omega];exact zYe QL
 rw[hv,zYq];exact yDw (by rw[zX4,zYn];omega)
def zVt (hj:y.tdiv 256 % 4=1) (h2:k+1=b.length):zO 30 [zD yA b,iA a,iA y] [] (zD yA (b.take k.toNat)) []:=by
 obtain⟨hbl,c1,c2,hq,k0,k1⟩:=LO b a y k hl hn h0 hk 1 hj;clear hk hj;have e:zD yA (b.take k.toNat)= .sl false ((b.map yA).take k.toNat):=by rw[zD,yBd]
 rw[e]
 have hv:((b.map yA).drop (k+1).toNat).take ((b.map yA).length-(k+1).toNat)=[]:=by
  rw[show(b.map yA).length-(k+1).toNat=0 by omega,yA9]
 unfold zD;refine eM call30 λF hF=>?_
 (have zc1:=c1;have zc2:=c2;(repeat' (first|refine WZX ?_|apply xL|apply wB|intro hc|(refine zE ?_;first|(refine yD ?_;refine kR 1001 tok Z Z Z Z Z Z (zN _ _ (λ_=>rfl)) Z Z Z zB Z Z Z ?_))|fail))<;>clear zc1 zc2)
 refine yQ ?_
 (repeat' (first|refine uJ ?_|apply xL|apply wB|intro hc|(refine zE ?_;first|(refine uB ?_;first|refine fT tok Z Z Z Z Z Z Z zB zB Z ?_|refine zCf tok Z Z Z Z Z Z Z zB zB Z ?_)|(refine yD ?_;refine zP (zH2 tok Z Z Z Z Z Z ((zY3 some hv:some _=_))) Z ?_))|fail))
 exact zJ
def zVu (hj:y.tdiv 256 % 4=1) (h2:k=0) (h3:1<b.length):zO 30 [zD yA b,iA a,iA y] [] (zD yA (b.drop 1)) []:=by
 obtain⟨hbl,c1,c2,hq,k0,k1⟩:=LO b a y k hl hn h0 hk 1 hj;subst h2;clear hk hj
 have hB:∀y∈b.map yA,y.cells.length=1:=λy hy=>by
  rw[zZn]at hy;obtain⟨z,_,rfl⟩:=hy;rfl
 have e:zD yA (b.drop 1)= .sl false ((b.map yA).drop 1):=by rw[zD,yBc]
 rw[e];unfold zD;refine eM call30 λF hF=>?_
 (have zc1:=c1;have zc2:=c2;(repeat' (first|refine WZX ?_|apply xL|apply wB|intro hc|(refine zE ?_;first|(refine yD ?_;refine kR 1001 tok Z Z Z Z Z Z (zN _ _ (λ_=>rfl)) Z Z Z zB Z Z Z ?_))|fail))<;>clear zc1 zc2)
 refine yQ ?_
 (repeat' (first|refine WS ?_|refine SG (I2 (λhc=>?_) λhc=>?_)|refine SG λhc=>?_|(refine zE ?_;first|(refine uB ?_;first|refine fT tok Z Z Z Z Z Z Z zB zB Z ?_|refine zDe tok Z Z Z Z Z Z Z Z ?_))|(first|refine zCp 7 9 Z Z ?_|first|refine SR ?_|refine SK (I2 (λhc=>?_) λhc=>?_)|refine SK λhc=>?_|fail)|fail))
 refine zIx VJ ?_;refine zSt [] [] tok Z Z Z Z Z Z Z Z (λy hy=>hB y (zY1 (zZl (zZk hy)))) Z Z xX xX Z Z Z Z ?_;refine WW ?_;refine zI [] Z Z ?_ Z
 show AV.sl false (List.take ((b.map yA).length-1) (List.drop 1 (b.map yA)))=_
 rw[zYe QL]
end
def zEg (b:List Int) (hb:BY b) (hn:b.length<=1000) (a y:Int) (h0: -9223372036854775808<=y/\y<=9223372036854775807):∃q,BY q/\q.length<=b.length+1/\zO 30 [zD yA b,iA a,iA y] [] (zD yA q) []:=by
 have hw:=zVp y;by_cases hl:1<=b.length
 case neg=>
  have e:b=[]:=zYz zB;subst e;exact⟨_,λx hx=>by rw[zZd]at hx;subst hx;exact hw,by simp,zXe a y h0⟩
 have k0:=yB6 a (show(b.length:Int)≠0 by omega);have k1:=yBu a (show 0<(b.length:Int) by omega);have j0:=yB6 (y.tdiv 256) (show(4:Int)≠0 by omega);have j1:=yBu (y.tdiv 256) (show(0:Int)<4 by omega);have hT:BY (b.take (a % (b.length:Int)).toNat):=λx hx=>hb x (zZl hx)
 have hD:∀n,BY (b.drop n):=λn x hx=>hb x (zY1 hx)
 have hlt:(b.take (a % (b.length:Int)).toNat).length<=b.length:=by rw[zYn];omega
 obtain hj|hj|hj|hj:y.tdiv 256 % 4=0∨y.tdiv 256 % 4=1∨y.tdiv 256 % 4=2∨y.tdiv 256 % 4=3:=by omega
 ·refine⟨_,λx hx=>?_,by rw[zZx];omega,zVr b a y _ hl hn h0 Z hj⟩
  rcases yAv hx with h|rfl
  ·exact hb x h
  ·exact hw
 ·by_cases h2:a % (b.length:Int)+1=b.length
  ·exact⟨_,hT,zB,zVt b a y _ hl hn h0 Z hj h2⟩
  ·by_cases h1:1<=a % (b.length:Int)
   ·refine⟨_,λx hx=>?_,?_,zVs b a y _ hl hn h0 Z hj h1 zB⟩
    ·rcases zYy.1 hx with h|h
     ·exact hT x h
     ·exact hD _ x h
    ·rw[zX4,zYv,zYn];omega
   ·exact⟨_,hD 1,by rw[zYv];omega,zVu b a y _ hl hn h0 Z hj zB zB⟩
 ·refine⟨_,λx hx=>?_,?_,zXg b a y _ hl hn h0 Z hj⟩
  ·rcases zYy.1 hx with h|h
   ·rcases zYy.1 h with h|h
    ·exact hT x h
    ·rw[zZd]at h;subst h;exact hw
   ·exact hD _ x h
  ·rw[zX4,zX4,zYv,zYn,yAk];omega
 ·exact⟨_,hT,zB,zXf b a y _ hl hn h0 Z hj⟩
def zH3 {α:Type} (I:Nat->α->Prop) (R:Nat->α->α->Prop) (h:∀i a,I i a->∃b,R i a b/\I (i+1) b) (a0:α) (h0:I 0 a0):∃f:Nat->α,f 0=a0/\∀i,I i (f i)/\R i (f i) (f (i+1)):=by
 have hg:∀i a,∃b,I i a->R i a b/\I (i+1) b:=λi a=>by
  by_cases hi:I i a
  ·obtain⟨b,hb⟩:=h i a hi;exact⟨b,λ_=>hb⟩
  ·exact⟨a,λh=>absurd h hi⟩
 let f:Nat->α:=λn=>Nat.rec a0 (λi a=>(hg i a).choose) n
 have hf:∀i,I i (f i):=λi=>by
  induction i with
  |zero=>exact h0
  |succ i ih=>exact((hg i (f i)).choose_spec ih).2
 exact⟨f,rfl,λi=>⟨hf i,((hg i (f i)).choose_spec (hf i)).1⟩⟩
def zNc (l:List Int) (hl:l.length<=9223372036854775807):zO 26 [zD yA l] [] (bA (decide (l.length<=600))) []:=by
 have hll:=zA yA l;by_cases h:l.length<=600
 ·rw[zYa h];refine eM call26 λF hF=>?_
  refine WW ?_;exact zJ
 ·rw[zYb h];refine eM call26 λF hF=>?_
  refine WW ?_;exact zJ
def d00:Dk:=⟨[],0,zYl _,zYl _⟩
def YY {α:Type} [Inhabited α] (g:Nat->α->α) (l:List α) (i:Nat):List α:=(List.range l.length).map λj=>if j<i then g j (l.getD j default)else l.getD j default
def vE {α:Type} [Inhabited α] (g:Nat->α->α) (l:List α) (i:Nat):(YY g l i).length=l.length:=by simp[YY]
def qD {α:Type} [Inhabited α] (g:Nat->α->α) (l:List α) (i j:Nat):(YY g l i)[j]? =if j<l.length then some (if j<i then g j (l.getD j default)else l.getD j default)else none:=by
 unfold YY;rw[zX8];by_cases hj:j<l.length
 ·rw[zY5 hj,zX3 hj];rfl
 ·rw[zYx xX,zX2 hj];rfl
def jU {α:Type} [Inhabited α] (g:Nat->α->α) (l:List α):YY g l 0=l:=by
 apply zZf;intro j;rw[qD];by_cases hj:j<l.length
 ·rw[zX3 hj,zX2 zB];simp[List.getD,hj]
 ·rw[zX2 hj,zYx zB]
def zNd {α:Type} [Inhabited α] (g:Nat->α->α) (l:List α) (i:Nat) (hi:i<l.length):YY g l (i+1)=(YY g l i).set i (g i (l.getD i default)):=by
 apply zZf;intro j;rw[yAb,qD,qD,vE];by_cases he:i=j
 ·subst he;rw[zX3 hi,zX3 Z,zX3 hi,zX3 (Nat.lt_succ_self i)]
 ·rw[zX2 he];by_cases hj:j<l.length
  ·rw[zX3 hj,zX3 hj];by_cases h2:j<i
   ·rw[zX3 zB,zX3 h2]
   ·rw[zX2 zB,zX2 h2]
  ·rw[zX2 hj,zX2 hj]
def qP {α:Type} [Inhabited α] (f:α->AV) (g:Nat->α->α) (l:List α) (i:Nat) (hi:i<l.length):(YY g l (i+1)).map f=((YY g l i).map f).set i (f (g i (l.getD i default))):=by
 rw[zNd g l i hi,zZ8]
structure In where
 opn:Bool
 its:List It
instance:Inhabited In:=⟨⟨false,[]⟩⟩
instance:Inhabited It:=⟨⟨0,0,[]⟩⟩
def kX (i:In):AV:= .agg [bA i.opn,zD wO i.its]
structure En where
 ag:Int
 ki:Int
 co:Int
def gX (e:En):AV:=MN e.ag e.ki e.co
structure TS where
 d:xI
 rs:List Ms
 en:List En
 ks:List Int
structure SS where
 d:xI
 R:List (List Ms)
 en:List En
 ks:List Int
def ZX (l:List Ms):AV:=zD yF l
def InB (i:In):Prop:=i.its.length<=1000/\∀x∈i.its,BY x.pay/\x.pay.length<=100000
def StR (c:Cf) (s now:Int) (i:It) (a b:TS):Prop:=∃h:Hd,RB c a.d s i now h/\HdP c a.d s i now h/\b=⟨h.d,a.rs++[h.p],a.en++[⟨a.d.rg.num,i.kind,h.e⟩],if 0<=h.k then a.ks++[h.k]else a.ks⟩
structure FX (c:Cf) (d0 d:xI):Prop where
 i:qF c d
 n:d.rg.num=d0.rg.num
 a:d.rg.ag=d0.rg.ag
 t:EA d0 d
theorem FX.refl {c:Cf} {d:xI} (h:qF c d):FX c d d:=⟨h,rfl,rfl,EA.refl d⟩
theorem FX.trans {c:Cf} {a b d:xI} (h1:FX c a b) (h2:FX c b d):FX c a d:=⟨h2.i,h2.n.trans h1.n,h2.a.trans h1.a,h1.t.trans h2.t⟩
def zSo (c:Cf) (s now:Int) (n0:0<=now) (n1:now<=1073741824) (its:List It) (hib:∀x∈its,BY x.pay/\x.pay.length<=100000) (st:TS) (hI:qF c st.d):
  ∃f:Nat->TS,f 0=st/\∀k,FX c st.d (f k).d/\((f k).rs.length=st.rs.length+k/\(f k).en.length=st.en.length+k/\(f k).ks.length<=st.ks.length+k/\((∀x∈st.ks,0<=x/\x<(c.js.length:Int))->∀x∈(f k).ks,0<=x/\x<(c.js.length:Int)))/\(k<its.length->StR c s now (its.getD k default) (f k) (f (k+1))):=by
 have hx:∀k,BY (its.getD k default).pay/\(its.getD k default).pay.length<=100000:=λk=>by
  by_cases hk:k<its.length
  ·refine hib _ ?_;rw[zYc,zYk hk];exact yAr _
  ·rw[zYc,zYx zB]
   show BY ([]:List Int)/\([]:List Int).length<=100000
   exact⟨λy hy=>absurd hy zW,zYl _⟩
 obtain⟨f,h0,hf⟩:=zH3 (λk (a:TS)=>FX c st.d a.d/\(a.rs.length=st.rs.length+k/\a.en.length=st.en.length+k/\a.ks.length<=st.ks.length+k/\((∀x∈st.ks,0<=x/\x<(c.js.length:Int))->∀x∈a.ks,0<=x/\x<(c.js.length:Int)))) (λk a b=>StR c s now (its.getD k default) a b)
  (λk a ha=>by
   obtain⟨ha,h1,h2,h3,h4⟩:=ha;obtain⟨h,hB,hP⟩:=zEj c a.d ha.i s now n0 n1 _ (hx k).1 (hx k).2;refine⟨_,⟨h,hB,hP,rfl⟩,ha.trans ⟨hP.inv,hP.num,hP.ag,hP.t0⟩,?_,?_,?_,λhks x hx=>?_⟩
   ·dsimp only;rw[zX4,yAk];omega
   ·dsimp only;rw[zX4,yAk];omega
   ·dsimp only;split
    ·rw[zX4,yAk];omega
    ·omega
   ·dsimp only at hx;split at hx
    ·rename_i hk0
     rcases zYy.1 hx with hx|hx
     ·exact h4 hks x hx
     ·rw[zZd]at hx;subst hx
      rcases hP.rst with h9|⟨_,h8,h9⟩
      ·omega
      ·exact⟨h8,h9⟩
    ·exact h4 hks x hx)
  st ⟨FX.refl hI,zB,zB,zB,id⟩
 exact⟨f,h0,λk=>⟨(hf k).1.1,(hf k).1.2,λ_=>(hf k).2⟩⟩
def cS (ins:List In) (s:Nat):List It:=if s<ins.length/\(ins.getD s default).opn=true then(ins.getD s default).its else []
def SeR (c:Cf) (now:Int) (ins:List In) (s:Nat) (a b:SS):Prop:=∃f:Nat->TS,f 0=⟨a.d,[],a.en,a.ks⟩/\(∀k,k<(cS ins s).length->StR c (s:Int) now ((cS ins s).getD k default) (f k) (f (k+1)))/\(∀k,FX c a.d (f k).d/\(f k).rs.length=k/\(f k).en.length=a.en.length+k/\(f k).ks.length<=a.ks.length+k)/\
 b=⟨(f (cS ins s).length).d,a.R++[(f (cS ins s).length).rs],(f (cS ins s).length).en,(f (cS ins s).length).ks⟩
def FY {ins:List In} (h:∀i∈ins,InB i) (s:Nat):(cS ins s).length<=1000/\∀x∈cS ins s,BY x.pay/\x.pay.length<=100000:=by
 unfold cS;split
 ·rename_i hs;refine h _ ?_;rw[zYc,zYk hs.1];exact yAr _
 ·exact⟨zYl _,λx hx=>by cases hx⟩
def zNe (c:Cf) (now:Int) (n0:0<=now) (n1:now<=1073741824) (ins:List In) (hin:∀i∈ins,InB i) (d:xI) (hI:qF c d):
  ∃F:Nat->SS,F 0=⟨d,[],[],[]⟩/\∀s,FX c d (F s).d/\((F s).R.length=s/\(F s).en.length<=1000*s/\(F s).ks.length<=1000*s/\∀x∈(F s).ks,0<=x/\x<(c.js.length:Int))/\SeR c now ins s (F s) (F (s+1)):=by
 obtain⟨F,h0,hF⟩:=zH3 (λs (a:SS)=>FX c d a.d/\(a.R.length=s/\a.en.length<=1000*s/\a.ks.length<=1000*s/\∀x∈a.ks,0<=x/\x<(c.js.length:Int))) (λs a b=>SeR c now ins s a b)
  (λs a ha=>by
   obtain⟨ha,h1,h2,h3,h4⟩:=ha;obtain⟨hl,hb⟩:=FY hin s;obtain⟨f,f0,hf⟩:=zSo c (s:Int) now n0 n1 (cS ins s) hb ⟨a.d,[],a.en,a.ks⟩ ha.i;have hL:=hf (cS ins s).length;refine⟨_,⟨f,f0,λk hk=>(hf k).2.2 hk,λk=>⟨(hf k).1,by have:=(hf k).2.1.1;simpa using this,(hf k).2.1.2.1,(hf k).2.1.2.2.1⟩,rfl⟩,ha.trans hL.1,?_,?_,?_,hL.2.1.2.2.2 h4⟩
   ·dsimp only;rw[zX4,yAk];omega
   ·have:=hL.2.1.2.1;dsimp only at *;omega
   ·have:=hL.2.1.2.2.1;dsimp only at *;omega)
  ⟨d,[],[],[]⟩ ⟨FX.refl hI,rfl,zYl _,zYl _,λx hx=>by cases hx⟩
 exact⟨F,h0,λs=>⟨(hF s).1.1,(hF s).1.2,(hF s).2⟩⟩
def RA (ins:List In) (s:Nat) (b:Bool):Bool:=if s<ins.length/\(ins.getD s default).opn=true then b else false
def auF (ins:List In) (l:List Bool):List Bool:=YY (RA ins) l l.length
def dkU (d:xI) (ins:List In):xI:=⟨d.rg,d.rq,d.dr,auF ins d.au⟩
def zH4 {c:Cf} {d:xI} (h:qF c d) (ins:List In):qF c (dkU d ins):=
 ⟨h.b,h.v,h.q,h.lg,h.a,h.n,h.t8,h.br,h.bb,h.bl,by show((auF ins d.au).length:Int)=_;unfold auF;rw[vE];exact h.au,h.dn,h.dr,h.vh⟩
def dkM (d:xI) (now:Int):xI:=⟨d.rg,mkQ d.rq now,d.dr,d.au⟩
def zQk {c:Cf} {d:xI} (h:qF c d) (now:Int) (n0:0<=now) (n1:now<=1073741824):qF c (dkM d now):=by
 refine⟨h.b,zV9 h.v now n0 n1,?_,λr hr g hg=>?_,h.a,h.n,h.t8,h.br,h.bb,h.bl,h.au,h.dn,h.dr,h.vh⟩
 ·show((mkQ d.rq now).length:Int)<=_
  unfold mkQ;rw[zX5];exact h.q
 ·obtain⟨x,hx,rfl⟩:=zZn.1 hr;obtain⟨y,hy,rfl⟩:=zZn.1 hg;obtain⟨e1,e2,_⟩:=zIb y now n0 n1;have:=h.lg x hx y hy;rw[e1,e2];exact this
def UI (x:xI):List AV:=[iA x.rg.num,zD yA x.rg.ag.sec,iA x.rg.ag.rights,iA x.rg.ag.cls,zD iA x.rg.ag.lim,iA x.rg.ag.req,iA x.rg.ag.ses,iA x.rg.ag.rate,iA x.rg.ag.burst,zD yY x.rg.tk,zD vY x.rg.vh,iA x.rg.bk.level,iA x.rg.bk.rate,iA x.rg.bk.burst,zD yL x.rq,zD kE x.dr,zD bA x.au]
def tkT (d:xI) (R:List (List Ms)) (E:List En) (K:List Int):AV:= .tup [zK d,zD ZX R,zD gX E,zD iA K]
def fV {xs:List AV} {i:Nat} {y:AV} (h:xs[i]? =some y):xs.set i y=xs:=by
 apply zZf;intro j;rw[yAb];by_cases he:i=j
 ·subst he;have hi:=(zYu.1 h).1;rw[zX3 Z,zX3 hi,h]
 ·rw[zX2 he]
def AR {g:Nat->Bool->Bool} {l:List Bool} {k n:Nat} (h:l.length=n):List.take n (List.drop 0 ((YY g l k).map bA))=(YY g l k).map bA:=by
 rw[zYq];exact zYe (by rw[zX5,vE,h];exact zX7 _)
section
variable {P:Program} {K0:List Nat} {F:Fr K0} {m:Nat} {tm:List (Nat×AV)} {h:List (Nat×xN)}
theorem wN.recell {a:Act} {w:World} (R:wN F m ⟨tm,h⟩ a w) (k i K:Nat) {xs ys:List AV} {sb:Bool} {sz2:Nat} {fl2:Fl} (hk:zC h k=some (.arr 1 xs ⟨sb,true⟩)) (hv:xs[i]? =some (.s (.slice none 0 0))) (hK:zC h K=some (.arr sz2 ys fl2)) (hne:K≠k):
  wN F m ⟨tm,(k,.arr 1 (xs.set i (.ref K 0 0)) ⟨sb,true⟩)::h⟩ a w:=by
 obtain⟨⟨X,β,hX,H,Ht,KK,hJ,hD⟩,nd,gs,hl⟩:=R;have hh':∀j,j≠k->zC ((k,.arr 1 (xs.set i (.ref K 0 0)) ⟨sb,true⟩)::h) j=zC h j:=λj hj=>by rw[xG,zX2 hj]
 have hhk:zC ((k,.arr 1 (xs.set i (.ref K 0 0)) ⟨sb,true⟩)::h) k=some (.arr 1 (xs.set i (.ref K 0 0)) ⟨sb,true⟩):=by rw[xG,zX3 Z]
 have hlen:(xs.set i (.ref K 0 0)).length=xs.length:=zZx
 have E:GM w (xO X β) (zC h) β w (xO X β) (zC ((k,.arr 1 (xs.set i (.ref K 0 0)) ⟨sb,true⟩)::h)) β:=⟨zX7 _,λb _ hd=>⟨rfl,hd⟩,λ_ _ _ _=>rfl,λj e he=>by
  by_cases hj:j=k
  ·subst hj;rw[hk]at he;cases he;exact .inr ⟨⟨xs.set i (.ref K 0 0),⟨sb,true⟩,hhk,by rw[hlen];exact zX7 _⟩,λb n hm=>⟨n,zX7 _,hm⟩⟩
  ·have:=kU (zC h) β j e he
   rcases this with h1|h1
   ·exact .inl (by rw[hh' j hj];exact h1)
   ·refine .inr ?_
    cases e with
    |dead=>exact h1
    |box cs=>obtain⟨⟨cs',h2⟩,h3⟩:=h1;exact⟨⟨cs',by rw[hh' j hj];exact h2⟩,h3⟩
    |obj cs=>obtain⟨⟨cs',h2⟩,h3⟩:=h1;exact⟨⟨cs',by rw[hh' j hj];exact h2⟩,h3⟩
    |arr sz' xs' st'=>obtain⟨⟨x2,s2,h2,h3⟩,h4⟩:=h1;exact⟨⟨x2,s2,by rw[hh' j hj];exact h2,h3⟩,h4⟩⟩
 have H':jK X (zC ((k,.arr 1 (xs.set i (.ref K 0 0)) ⟨sb,true⟩)::h)) β w:=by
  refine⟨λj e he=>?_,λj hj=>?_,H.disj,H.free,H.lt⟩
  ·by_cases hj:j=k
   ·subst hj;rw[hhk]at he;cases he;obtain⟨e1,e2,e3,e4,e5,f,e6,e7,e8⟩:=H.ent j _ hk;refine⟨e1,by rw[hlen];exact e2,λhx=>e3 λh0=>hx (by rw[h0];rfl),λi' x hx=>?_,λb n r hr=>by rw[hlen];exact e5 b n r hr,f,λi' x l v hx hv'=>⟨?_,λh=>by cases h⟩,λi' j' h1 h2=>e7 i' j' (by rw[<-hlen];exact h1) h2,e8⟩
    ·rw[yAb]at hx;split at hx
     ·split at hx
      ·cases hx;rfl
      ·cases hx
     ·exact e4 i' x hx
    ·rw [yAb]at hx;split at hx
     ·rename_i hij;subst hij;split at hx
      ·cases hx
       cases l with
       |zero=>
        have hv2:v= .ref K 0 0:=by simpa [AV.cells]using hv'.symm
        subst hv2;have h6:=e6.toV i _ 0 _ hv Z;rw[h6.s_inv];exact .ref0 K 0 sz2 ys fl2 none (by rw[hh' K hne];exact hK) (zYl _)
       |succ l=>simp[AV.cells]at hv'
      ·cases hx
     ·exact(e6.toV i' x l v hx hv').evo E
   ·rw[hh' j hj]at he;exact(H.ent j e he).evo E Z λ_ _ _=>rfl
  ·rw[xG]at hj;split at hj
   ·cases hj
   ·exact H.off j hj
 refine⟨⟨X,β,hX,H',λt=>(Ht t).evo E,⟨λj e he=>?_,KK.size,KK.keep,KK.own,KK.pas,KK.bs,KK.os,KK.tape,KK.output⟩,hJ,hD⟩,λj=>?_,gs,hl⟩
 ·have:=KK.knd j e he;by_cases hj:j=k
  ·subst hj
   cases e with
   |dead=>exact this
   |box cs=>obtain⟨cs',h2⟩:=this;(try dsimp only at h2);rw[hk]at h2;cases h2
   |obj cs=>obtain⟨cs',h2⟩:=this;(try dsimp only at h2);rw[hk]at h2;cases h2
   |arr sz' xs' sl'=>obtain⟨xs2,sl2,h2,h3⟩:=this;(try dsimp only at h2);rw[hk]at h2;cases h2;exact⟨_,_,hhk,by rw[hlen];exact h3⟩
  ·cases e with
   |dead=>exact this
   |box cs=>obtain⟨cs',h2⟩:=this;exact⟨cs',by dsimp only;rw[hh' j hj];exact h2⟩
   |obj cs=>obtain⟨cs',h2⟩:=this;exact⟨cs',by dsimp only;rw[hh' j hj];exact h2⟩
   |arr sz' xs' sl'=>obtain⟨xs2,sl2,h2,h3⟩:=this;exact⟨xs2,sl2,by dsimp only;rw[hh' j hj];exact h2,h3⟩
 ·dsimp only;by_cases hj:j=k
  ·subst hj;rw[hhk];intro hd;cases hd
  ·rw[hh' j hj];exact nd j
def WP {c:Code} {Q:Exit->St->Prop} (k i K:Nat) {xs xs' ys:List AV} {sb:Bool} {sz2:Nat} {fl2:Fl} (hk:zC h k=some (.arr 1 xs ⟨sb,true⟩)) (hv:xs[i]? =some (.s (.slice none 0 0))) (hK:zC h K=some (.arr sz2 ys fl2)) (hne:Nat.beq K k=false) (he:xs.set i (.ref K 0 0)=xs')
  (hs:uQ P F m c ⟨tm,(k,.arr 1 xs' ⟨sb,true⟩)::h⟩ Q):uQ P F m c ⟨tm,h⟩ Q:=
 ⟨λa w R=>hs.run a w (he▸R.recell k i K hk hv hK (λe=>by rw[e,Nat.beq_refl]at hne;cases hne))⟩
end
def FZ:List AV:=[iA 0,.s (.slice none 0 0),iA 0,iA 0,.s (.slice none 0 0),iA 0,iA 0,iA 0,iA 0,.s (.slice none 0 0),.s (.slice none 0 0),iA 0,iA 0,iA 0,.s (.slice none 0 0),.s (.slice none 0 0),.s (.slice none 0 0)]
theorem zEh {c:Cf} {d:xI} (hI:qF c d) (ins:List In) (hil:ins.length<=1000) (hin:∀i∈ins,InB i) (now:Int) (n0:0<=now) (n1:now<=1073741824) (zF:Nat->SS) (hz0:zF 0=⟨dkU d ins,[],[],[]⟩) (hn:d.au.length=1) (hm:1<=ins.length)
  (hz:∀s,FX c (dkU d ins) (zF s).d/\((zF s).R.length=s/\(zF s).en.length<=1000*s/\(zF s).ks.length<=1000*s/\∀x∈(zF s).ks,0<=x/\x<(c.js.length:Int))/\SeR c now ins s (zF s) (zF (s+1))):
  zO 94 [vL c,zK d,zD kX ins,iA now] [] (tkT (dkM (zF 1).d now) (zF 1).R (zF 1).en (zF 1).ks) []:=by
 have kc:=UL d hI.bd zB;have hal:(d.au.map bA).length=1:=by rw[zX5,hn]
 have hinl:=zA kX ins;have km:=AU (zF 1).d.rq now (hz 1).1.i.v;have cfe:vL c= .agg [.sl false (c.js.map vC),.sl false (c.ags.map vU),iA c.per,iA c.cap,iA c.hold,iA c.lock]:=rfl;rw[cfe];unfold UK zK wI at kc;have e0:=jU (RA ins) d.au;have hkM:(min ((ins.map kX).length:Int) ((d.au.map bA).length:Int)).toNat=1:=by omega
 have htl:((ins.take 1).map kX).length=1:=by rw[zX5,zYn];omega
 have hty:∀s,s<1->((ins.take 1).map kX)[s]? =some (kX (ins.getD s default)):=λs hs=>by
  rw[zX8,zZi,zX3 hs,zYc,zYk zB];rfl
 obtain⟨hT0,⟨ha0,hb0,hc0,_⟩,zf0,hf0,hs0,hl0,hx0⟩:=hz 0;have hy0:=hty 0 zB;refine eM call94 λF hF=>?_
 refine zY kc ?_;rw[hkM,hal];refine zS (1) [1004,4,5,8,28] [4,5,8,28] [2,3,4,5,8,12,13,14,39] [40,9,10,2,3,4,5,8,12,13,14,39] Z (λi T U=>⟨(40,iA i)::(9,.s (.slice none 0 0))::(10,.s (.slice none 0 0))::T,(1004,.arr 1 ((YY (RA ins) d.au i).map bA) false)::U⟩) ?_;(conv=>whnf);refine⟨by(rw[e0];rfl),?_,?_⟩
 ·intro i hi;have hya:((YY (RA ins) d.au i).map bA)[i]? =some (bA (d.au.getD i default)):=by rw[zX8,qD,zX3 zB,zX2 (yB7 i)];rfl
  have hxl:((YY (RA ins) d.au i).map bA).length=1:=by rw[zX5,vE,hn]
  rw[qP bA (RA ins) d.au i zB];have hsame:=fV hya;clear kc km;generalize (YY (RA ins) d.au i).map bA=xs at *;generalize d.au.getD i default=b9 at *;unfold RA;by_cases h1:i<1
  ·have hy:=hty i h1;have hlt:i<ins.length:=by omega
   generalize ins.getD i default=x at *;obtain⟨op,its⟩:=x;rw[show kX ⟨op,its⟩= .agg [bA op,zD wO its]from Z]at hy;cases op
   ·rw[zX2 (λh=>by cases h.2)];refine WW ?_;rfl
   ·rw[zX3 ⟨hlt,rfl⟩,hsame];refine WW ?_;rfl
  ·rw[zX2 (λh=>by omega)];refine WW ?_;rfl
 ·(refine WW ?_)
  refine uS [4,5,8,28] [2,3,4,5,8,9,10,12,13,14,61,62] Z ?_
  (conv=>whnf)
  rw[AR (by omega:d.au.length=1),show YY (RA ins) d.au 1=auF ins d.au by unfold auF;rw[hn],htl];refine xA 13 1002 3 Z Z Z ?_;refine xA 14 1003 1 Z Z Z ?_;refine xA 9 1006 4 Z Z Z ?_;refine OO 28 Z ?_;refine WP 28 0 1006 Z Z Z Z Z ?_;refine wM 2 [5,28,1002,1003,1006,4,8] [13,14,62,2,3,4,5,8,12,61] Z ?_;refine yH (st0:=⟨[(13,.ref 1002 0 ((zF 0).en.map gX).length),(14,.ref 1003 0 ((zF 0).ks.map iA).length),(62,iA 0),(2,.sl false ((ins.take 1).map kX)),(3,iA now),(4,.ptr 4 0 0),(5,.ptr 5 0 0),(8,.ptr 8 0 0),(12,.ref 28 0 1),(61,iA 1)],[(5,.box (UI (zF 0).d)),(28,.arr 1 [.ref 1006 0 ([]:List AV).length] ⟨false,true⟩),(1002,.arr 3 ((zF 0).en.map gX) true),(1003,.arr 1 ((zF 0).ks.map iA) true),(1006,.arr 4 ([]:List AV) true),(4,.box [.sl false (c.js.map vC),.sl false (c.ags.map vU),iA c.per,iA c.cap,iA c.hold,iA c.lock]),(8,.box FZ)]⟩) (by rw[hz0];rfl) ?_;obtain⟨r0,hr0⟩:∃r,r=(zf0 (cS ins 0).length).rs:=⟨_,rfl⟩;have hR0:(zF 1).R=(zF 0).R++[r0]:=by rw[hr0,hx0]
  have q0:(zF 1).d=(zf0 (cS ins 0).length).d/\(zF 1).en=(zf0 (cS ins 0).length).en/\(zF 1).ks=(zf0 (cS ins 0).length).ks:=by rw[hx0];exact⟨rfl,rfl,rfl⟩
  have ml1:=zA gX (zF 0).en;have ml2:=zA iA (zF 0).ks;by_cases ho:(ins.getD 0 default).opn=true
  case' pos=>
   have hse:cS ins 0=(ins.getD 0 default).its:=by unfold cS;rw[zX3 ⟨zB,ho⟩]
   have hib:=(FY hin 0).1;rw[hse]at hib q0 hs0 hr0;clear hse;generalize ins.getD 0 default=x at *;obtain⟨op,its⟩:=x;dsimp only at *;subst ho;rw[show kX ⟨true,its⟩= .agg [bA true,zD wO its]from Z]at hy0;have hil2:=zA wO its;refine WW ?_;refine yT (its) [5,1002,1003,28,1006,4,8] [4,8] [2,3,4,5,8,12,16,61,62,75,76] [13,14,77,2,3,4,5,8,12,16,61,62,75,76] Z (λi pre T U=>⟨(13,.ref 1002 0 ((zf0 i).en.map gX).length)::(14,.ref 1003 0 ((zf0 i).ks.map iA).length)::(77,iA i)::T,(5,.box (UI (zf0 i).d))::(1002,.arr 3 ((zf0 i).en.map gX) true)::(1003,.arr 1 ((zf0 i).ks.map iA) true)::(28,.arr 1 [.ref 1006 0 ((zf0 i).rs.map yF).length] ⟨false,true⟩)::(1006,.arr 4 ((zf0 i).rs.map yF) true)::U⟩) ?_;(conv=>whnf);refine⟨by(rw[hf0];rfl),?_,?_⟩
   ·intro k pre it post hx hk;have hy3:=xQ wO hx hk;have hlt3:=yW hx hk;have hgt:its.getD k default=it:=by rw[hx,<-hk];simp[List.getD]
    obtain⟨h,hB,hP,hnx⟩:=hs0 k hlt3;rw[hgt]at hB;obtain⟨hk1,hk2,hk3,hk4⟩:=hl0 k;have hm1:=zA gX (zf0 k).en;have hm2:=zA iA (zf0 k).ks;have hm3:=zA yF (zf0 k).rs;have kh:=hB.1;rw[hnx];dsimp only;rw[show((zf0 k).rs++[h.p]).map yF=(zf0 k).rs.map yF++[yF h.p] by simp,show∀e:En,((zf0 k).en++[e]).map gX=(zf0 k).en.map gX++[gX e]from λe=>by simp,hgt];rw[cfe]at kh;unfold ED zK wI wO at kh;unfold wO at hy3;have hen:(zF 0).en.length<=2000/\(zF 0).ks.length<=2000:=by omega
    clear hx hgt hnx hB hP hty kc km;generalize (zf0 k).rs.map yF=rs9 at *;generalize (zf0 k).en.map gX=en9 at *;generalize h.p=p9 at *;generalize h.e=e9 at *;generalize h.d=d9 at *;generalize hkk:h.k=k9 at *;generalize (zf0 k).d=dk9 at *;obtain⟨pk,pt,pa,pd⟩:=p9;unfold yF MN at kh;dsimp only at kh;unfold UI gX MN yF;by_cases h0:0<=k9
    ·rw[zX3 h0,show((zf0 k).ks++[k9]).map iA=(zf0 k).ks.map iA++[iA k9] by simp];generalize (zf0 k).ks.map iA=ks9 at *;refine zY kh ?_;rfl
    ·rw[zX2 h0];generalize (zf0 k).ks.map iA=ks9 at *;refine zY kh ?_;rfl
   obtain⟨w1,w2,w3⟩:=q0;refine WW ?_
  case' neg=>
   have hse:cS ins 0=[]:=by unfold cS;rw[zX2 (λh=>ho h.2)]
   rw[hse,zZc,hf0]at q0 hr0;obtain⟨w1,w2,w3⟩:=q0;have hop:(ins.getD 0 default).opn=false:=by simpa using ho
   clear hse ho;generalize ins.getD 0 default=x at *;obtain⟨op,its⟩:=x;dsimp only at *;subst hop;rw[show kX ⟨false,its⟩= .agg [bA false,zD wO its]from Z]at hy0;refine WW ?_
  all_goals clear hy0 ml1 ml2
  all_goals
   refine yH (st0:=⟨[(13,.ref 1002 0 ((zF 1).en.map gX).length),(14,.ref 1003 0 ((zF 1).ks.map iA).length),(62,iA 1),(2,.sl false ((ins.take 1).map kX)),(3,iA now),(4,.ptr 4 0 0),(5,.ptr 5 0 0),(8,.ptr 8 0 0),(12,.ref 28 0 1),(61,iA 1)],[(5,.box (UI (zF 1).d)),(28,.arr 1 [.ref 1006 0 (r0.map yF).length] ⟨false,true⟩),(1002,.arr 3 ((zF 1).en.map gX) true),(1003,.arr 1 ((zF 1).ks.map iA) true),(1006,.arr 4 (r0.map yF) true),(4,.box [.sl false (c.js.map vC),.sl false (c.ags.map vU),iA c.per,iA c.cap,iA c.hold,iA c.lock]),(8,.box FZ)]⟩) (by rw[w1,w2,w3,hr0];rfl) ?_;refine zY km ?_;refine zI [] Z Z ?_ Z
   show AV.tup [zK (dkM (zF 1).d now),.sl false [.sl false (List.take _ (List.drop 0 (r0.map yF)))],.sl false (List.take _ (List.drop 0 ((zF 1).en.map gX))),.sl false (List.take _ (List.drop 0 ((zF 1).ks.map iA)))]=_
   simp only[zYq,zX6];unfold tkT;rw[hR0,hz0];rfl
theorem zEi {c:Cf} {d:xI} (hI:qF c d) (ins:List In) (hil:ins.length<=1000) (hin:∀i∈ins,InB i) (now:Int) (n0:0<=now) (n1:now<=1073741824) (zF:Nat->SS) (hz0:zF 0=⟨dkU d ins,[],[],[]⟩) (hn:d.au.length=2) (hm:2<=ins.length)
  (hz:∀s,FX c (dkU d ins) (zF s).d/\((zF s).R.length=s/\(zF s).en.length<=1000*s/\(zF s).ks.length<=1000*s/\∀x∈(zF s).ks,0<=x/\x<(c.js.length:Int))/\SeR c now ins s (zF s) (zF (s+1))):
  zO 94 [vL c,zK d,zD kX ins,iA now] [] (tkT (dkM (zF 2).d now) (zF 2).R (zF 2).en (zF 2).ks) []:=by
 have kc:=UL d hI.bd zB;have hal:(d.au.map bA).length=2:=by rw[zX5,hn]
 have hinl:=zA kX ins;have km:=AU (zF 2).d.rq now (hz 2).1.i.v;have cfe:vL c= .agg [.sl false (c.js.map vC),.sl false (c.ags.map vU),iA c.per,iA c.cap,iA c.hold,iA c.lock]:=rfl;rw[cfe];unfold UK zK wI at kc;have e0:=jU (RA ins) d.au;have hkM:(min ((ins.map kX).length:Int) ((d.au.map bA).length:Int)).toNat=2:=by omega
 have htl:((ins.take 2).map kX).length=2:=by rw[zX5,zYn];omega
 have hty:∀s,s<2->((ins.take 2).map kX)[s]? =some (kX (ins.getD s default)):=λs hs=>by
  rw[zX8,zZi,zX3 hs,zYc,zYk zB];rfl
 obtain⟨hT0,⟨ha0,hb0,hc0,_⟩,zf0,hf0,hs0,hl0,hx0⟩:=hz 0;have hy0:=hty 0 zB;obtain⟨hT1,⟨ha1,hb1,hc1,_⟩,zf1,hf1,hs1,hl1,hx1⟩:=hz 1;have hy1:=hty 1 zB;refine eM call94 λF hF=>?_
 refine zY kc ?_;rw[hkM,hal];refine zS (2) [1004,4,5,8,28] [4,5,8,28] [2,3,4,5,8,12,13,14,39] [40,9,10,2,3,4,5,8,12,13,14,39] Z (λi T U=>⟨(40,iA i)::(9,.s (.slice none 0 0))::(10,.s (.slice none 0 0))::T,(1004,.arr 1 ((YY (RA ins) d.au i).map bA) false)::U⟩) ?_;(conv=>whnf);refine⟨by(rw[e0];rfl),?_,?_⟩
 ·intro i hi;have hya:((YY (RA ins) d.au i).map bA)[i]? =some (bA (d.au.getD i default)):=by rw[zX8,qD,zX3 zB,zX2 (yB7 i)];rfl
  have hxl:((YY (RA ins) d.au i).map bA).length=2:=by rw[zX5,vE,hn]
  rw[qP bA (RA ins) d.au i zB];have hsame:=fV hya;clear kc km;generalize (YY (RA ins) d.au i).map bA=xs at *;generalize d.au.getD i default=b9 at *;unfold RA;by_cases h1:i<2
  ·have hy:=hty i h1;have hlt:i<ins.length:=by omega
   generalize ins.getD i default=x at *;obtain⟨op,its⟩:=x;rw[show kX ⟨op,its⟩= .agg [bA op,zD wO its]from Z]at hy;cases op
   ·rw[zX2 (λh=>by cases h.2)];refine WW ?_;rfl
   ·rw[zX3 ⟨hlt,rfl⟩,hsame];refine WW ?_;rfl
  ·rw[zX2 (λh=>by omega)];refine WW ?_;rfl
 ·(refine WW ?_)
  refine uS [4,5,8,28] [2,3,4,5,8,9,10,12,13,14,61,62] Z ?_
  (conv=>whnf)
  rw[AR (by omega:d.au.length=2),show YY (RA ins) d.au 2=auF ins d.au by unfold auF;rw[hn],htl];refine xA 13 1002 3 Z Z Z ?_;refine xA 14 1003 1 Z Z Z ?_;refine xA 9 1006 4 Z Z Z ?_;refine xA 10 1007 4 Z Z Z ?_;refine OO 28 Z ?_;refine WP 28 0 1006 Z Z Z Z Z ?_;refine WP 28 1 1007 Z Z Z Z Z ?_;refine wM 3 [5,28,1002,1003,1006,1007,4,8] [13,14,62,2,3,4,5,8,12,61] Z ?_;refine yH (st0:=⟨[(13,.ref 1002 0 ((zF 0).en.map gX).length),(14,.ref 1003 0 ((zF 0).ks.map iA).length),(62,iA 0),(2,.sl false ((ins.take 2).map kX)),(3,iA now),(4,.ptr 4 0 0),(5,.ptr 5 0 0),(8,.ptr 8 0 0),(12,.ref 28 0 2),(61,iA 2)],[(5,.box (UI (zF 0).d)),(28,.arr 1 [.ref 1006 0 ([]:List AV).length,.ref 1007 0 ([]:List AV).length] ⟨false,true⟩),(1002,.arr 3 ((zF 0).en.map gX) true),(1003,.arr 1 ((zF 0).ks.map iA) true),(1006,.arr 4 ([]:List AV) true),(1007,.arr 4 ([]:List AV) true),(4,.box [.sl false (c.js.map vC),.sl false (c.ags.map vU),iA c.per,iA c.cap,iA c.hold,iA c.lock]),(8,.box FZ)]⟩) (by rw[hz0];rfl) ?_;obtain⟨r0,hr0⟩:∃r,r=(zf0 (cS ins 0).length).rs:=⟨_,rfl⟩;have hR0:(zF 1).R=(zF 0).R++[r0]:=by rw[hr0,hx0]
  have q0:(zF 1).d=(zf0 (cS ins 0).length).d/\(zF 1).en=(zf0 (cS ins 0).length).en/\(zF 1).ks=(zf0 (cS ins 0).length).ks:=by rw[hx0];exact⟨rfl,rfl,rfl⟩
  have ml1:=zA gX (zF 0).en;have ml2:=zA iA (zF 0).ks;by_cases ho:(ins.getD 0 default).opn=true
  case' pos=>
   have hse:cS ins 0=(ins.getD 0 default).its:=by unfold cS;rw[zX3 ⟨zB,ho⟩]
   have hib:=(FY hin 0).1;rw[hse]at hib q0 hs0 hr0;clear hse;generalize ins.getD 0 default=x at *;obtain⟨op,its⟩:=x;dsimp only at *;subst ho;rw[show kX ⟨true,its⟩= .agg [bA true,zD wO its]from Z]at hy0;have hil2:=zA wO its;refine WW ?_;refine yT (its) [5,1002,1003,28,1006,4,8,1007] [4,8,1007] [2,3,4,5,8,12,16,61,62,75,76] [13,14,77,2,3,4,5,8,12,16,61,62,75,76] Z (λi pre T U=>⟨(13,.ref 1002 0 ((zf0 i).en.map gX).length)::(14,.ref 1003 0 ((zf0 i).ks.map iA).length)::(77,iA i)::T,(5,.box (UI (zf0 i).d))::(1002,.arr 3 ((zf0 i).en.map gX) true)::(1003,.arr 1 ((zf0 i).ks.map iA) true)::(28,.arr 1 [.ref 1006 0 ((zf0 i).rs.map yF).length,.ref 1007 0 ([]:List AV).length] ⟨false,true⟩)::(1006,.arr 4 ((zf0 i).rs.map yF) true)::U⟩) ?_;(conv=>whnf);refine⟨by(rw[hf0];rfl),?_,?_⟩
   ·intro k pre it post hx hk;have hy3:=xQ wO hx hk;have hlt3:=yW hx hk;have hgt:its.getD k default=it:=by rw[hx,<-hk];simp[List.getD]
    obtain⟨h,hB,hP,hnx⟩:=hs0 k hlt3;rw[hgt]at hB;obtain⟨hk1,hk2,hk3,hk4⟩:=hl0 k;have hm1:=zA gX (zf0 k).en;have hm2:=zA iA (zf0 k).ks;have hm3:=zA yF (zf0 k).rs;have kh:=hB.1;rw[hnx];dsimp only;rw[show((zf0 k).rs++[h.p]).map yF=(zf0 k).rs.map yF++[yF h.p] by simp,show∀e:En,((zf0 k).en++[e]).map gX=(zf0 k).en.map gX++[gX e]from λe=>by simp,hgt];rw[cfe]at kh;unfold ED zK wI wO at kh;unfold wO at hy3;have hen:(zF 0).en.length<=2000/\(zF 0).ks.length<=2000:=by omega
    clear hx hgt hnx hB hP hty kc km;generalize (zf0 k).rs.map yF=rs9 at *;generalize (zf0 k).en.map gX=en9 at *;generalize h.p=p9 at *;generalize h.e=e9 at *;generalize h.d=d9 at *;generalize hkk:h.k=k9 at *;generalize (zf0 k).d=dk9 at *;obtain⟨pk,pt,pa,pd⟩:=p9;unfold yF MN at kh;dsimp only at kh;unfold UI gX MN yF;by_cases h0:0<=k9
    ·rw[zX3 h0,show((zf0 k).ks++[k9]).map iA=(zf0 k).ks.map iA++[iA k9] by simp];generalize (zf0 k).ks.map iA=ks9 at *;refine zY kh ?_;rfl
    ·rw[zX2 h0];generalize (zf0 k).ks.map iA=ks9 at *;refine zY kh ?_;rfl
   obtain⟨w1,w2,w3⟩:=q0;refine WW ?_
  case' neg=>
   have hse:cS ins 0=[]:=by unfold cS;rw[zX2 (λh=>ho h.2)]
   rw[hse,zZc,hf0]at q0 hr0;obtain⟨w1,w2,w3⟩:=q0;have hop:(ins.getD 0 default).opn=false:=by simpa using ho
   clear hse ho;generalize ins.getD 0 default=x at *;obtain⟨op,its⟩:=x;dsimp only at *;subst hop;rw[show kX ⟨false,its⟩= .agg [bA false,zD wO its]from Z]at hy0;refine WW ?_
  all_goals clear hy0 ml1 ml2
  all_goals
   refine yH (st0:=⟨[(13,.ref 1002 0 ((zF 1).en.map gX).length),(14,.ref 1003 0 ((zF 1).ks.map iA).length),(62,iA 1),(2,.sl false ((ins.take 2).map kX)),(3,iA now),(4,.ptr 4 0 0),(5,.ptr 5 0 0),(8,.ptr 8 0 0),(12,.ref 28 0 2),(61,iA 2)],[(5,.box (UI (zF 1).d)),(28,.arr 1 [.ref 1006 0 (r0.map yF).length,.ref 1007 0 ([]:List AV).length] ⟨false,true⟩),(1002,.arr 3 ((zF 1).en.map gX) true),(1003,.arr 1 ((zF 1).ks.map iA) true),(1006,.arr 4 (r0.map yF) true),(1007,.arr 4 ([]:List AV) true),(4,.box [.sl false (c.js.map vC),.sl false (c.ags.map vU),iA c.per,iA c.cap,iA c.hold,iA c.lock]),(8,.box FZ)]⟩) (by rw[w1,w2,w3,hr0];rfl) ?_;obtain⟨r1,hr1⟩:∃r,r=(zf1 (cS ins 1).length).rs:=⟨_,rfl⟩;have hR1:(zF 2).R=(zF 1).R++[r1]:=by rw[hr1,hx1]
   have q1:(zF 2).d=(zf1 (cS ins 1).length).d/\(zF 2).en=(zf1 (cS ins 1).length).en/\(zF 2).ks=(zf1 (cS ins 1).length).ks:=by rw[hx1];exact⟨rfl,rfl,rfl⟩
   have ml1:=zA gX (zF 1).en;have ml2:=zA iA (zF 1).ks;by_cases ho:(ins.getD 1 default).opn=true
   case' pos=>
    have hse:cS ins 1=(ins.getD 1 default).its:=by unfold cS;rw[zX3 ⟨zB,ho⟩]
    have hib:=(FY hin 1).1;rw[hse]at hib q1 hs1 hr1;clear hse;generalize ins.getD 1 default=x at *;obtain⟨op,its⟩:=x;dsimp only at *;subst ho;rw[show kX ⟨true,its⟩= .agg [bA true,zD wO its]from Z]at hy1;have hil2:=zA wO its;refine WW ?_;refine yT (its) [5,1002,1003,28,1007,4,8,1006] [4,8,1006] [2,3,4,5,8,12,16,61,62,75,76] [13,14,77,2,3,4,5,8,12,16,61,62,75,76] Z (λi pre T U=>⟨(13,.ref 1002 0 ((zf1 i).en.map gX).length)::(14,.ref 1003 0 ((zf1 i).ks.map iA).length)::(77,iA i)::T,(5,.box (UI (zf1 i).d))::(1002,.arr 3 ((zf1 i).en.map gX) true)::(1003,.arr 1 ((zf1 i).ks.map iA) true)::(28,.arr 1 [.ref 1006 0 (r0.map yF).length,.ref 1007 0 ((zf1 i).rs.map yF).length] ⟨false,true⟩)::(1007,.arr 4 ((zf1 i).rs.map yF) true)::U⟩) ?_;(conv=>whnf);refine⟨by(rw[hf1];rfl),?_,?_⟩
    ·intro k pre it post hx hk;have hy3:=xQ wO hx hk;have hlt3:=yW hx hk;have hgt:its.getD k default=it:=by rw[hx,<-hk];simp[List.getD]
     obtain⟨h,hB,hP,hnx⟩:=hs1 k hlt3;rw[hgt]at hB;obtain⟨hk1,hk2,hk3,hk4⟩:=hl1 k;have hm1:=zA gX (zf1 k).en;have hm2:=zA iA (zf1 k).ks;have hm3:=zA yF (zf1 k).rs;have kh:=hB.1;rw[hnx];dsimp only;rw[show((zf1 k).rs++[h.p]).map yF=(zf1 k).rs.map yF++[yF h.p] by simp,show∀e:En,((zf1 k).en++[e]).map gX=(zf1 k).en.map gX++[gX e]from λe=>by simp,hgt];rw[cfe]at kh;unfold ED zK wI wO at kh;unfold wO at hy3;have hen:(zF 1).en.length<=2000/\(zF 1).ks.length<=2000:=by omega
     clear hx hgt hnx hB hP hty kc km;generalize (zf1 k).rs.map yF=rs9 at *;generalize (zf1 k).en.map gX=en9 at *;generalize h.p=p9 at *;generalize h.e=e9 at *;generalize h.d=d9 at *;generalize hkk:h.k=k9 at *;generalize (zf1 k).d=dk9 at *;obtain⟨pk,pt,pa,pd⟩:=p9;unfold yF MN at kh;dsimp only at kh;unfold UI gX MN yF;by_cases h0:0<=k9
     ·rw[zX3 h0,show((zf1 k).ks++[k9]).map iA=(zf1 k).ks.map iA++[iA k9] by simp];generalize (zf1 k).ks.map iA=ks9 at *;refine zY kh ?_;rfl
     ·rw[zX2 h0];generalize (zf1 k).ks.map iA=ks9 at *;refine zY kh ?_;rfl
    obtain⟨w1,w2,w3⟩:=q1;refine WW ?_
   case' neg=>
    have hse:cS ins 1=[]:=by unfold cS;rw[zX2 (λh=>ho h.2)]
    rw[hse,zZc,hf1]at q1 hr1;obtain⟨w1,w2,w3⟩:=q1;have hop:(ins.getD 1 default).opn=false:=by simpa using ho
    clear hse ho;generalize ins.getD 1 default=x at *;obtain⟨op,its⟩:=x;dsimp only at *;subst hop;rw[show kX ⟨false,its⟩= .agg [bA false,zD wO its]from Z]at hy1;refine WW ?_
   all_goals clear hy1 ml1 ml2
   all_goals
    refine yH (st0:=⟨[(13,.ref 1002 0 ((zF 2).en.map gX).length),(14,.ref 1003 0 ((zF 2).ks.map iA).length),(62,iA 2),(2,.sl false ((ins.take 2).map kX)),(3,iA now),(4,.ptr 4 0 0),(5,.ptr 5 0 0),(8,.ptr 8 0 0),(12,.ref 28 0 2),(61,iA 2)],[(5,.box (UI (zF 2).d)),(28,.arr 1 [.ref 1006 0 (r0.map yF).length,.ref 1007 0 (r1.map yF).length] ⟨false,true⟩),(1002,.arr 3 ((zF 2).en.map gX) true),(1003,.arr 1 ((zF 2).ks.map iA) true),(1006,.arr 4 (r0.map yF) true),(1007,.arr 4 (r1.map yF) true),(4,.box [.sl false (c.js.map vC),.sl false (c.ags.map vU),iA c.per,iA c.cap,iA c.hold,iA c.lock]),(8,.box FZ)]⟩) (by rw[w1,w2,w3,hr1];rfl) ?_;refine zY km ?_;refine zI [] Z Z ?_ Z
    show AV.tup [zK (dkM (zF 2).d now),.sl false [.sl false (List.take _ (List.drop 0 (r0.map yF))),.sl false (List.take _ (List.drop 0 (r1.map yF)))],.sl false (List.take _ (List.drop 0 ((zF 2).en.map gX))),.sl false (List.take _ (List.drop 0 ((zF 2).ks.map iA)))]=_
    simp only[zYq,zX6];unfold tkT;rw[hR1,hR0,hz0];rfl
end Av
end Go.Proofs.YteajjdidebfcjaaGreat
