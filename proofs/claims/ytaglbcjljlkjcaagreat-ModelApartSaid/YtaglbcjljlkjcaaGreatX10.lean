/- Part 10. -/
import Derived.Test.YtaglbcjljlkjcaaGreatX09
namespace Go.Proofs.YtaglbcjljlkjcaaGreat.Av
open Tryz
set_option linter.all false
set_option maxRecDepth 4000
set_option maxHeartbeats 2000000
open List renaming length->ln,getD->pb
open Inhabited renaming default->dd
variable {m n:Int}{i:Nat}
def rem (d:Dk):Nat:=ln d.l-d.a
theorem vH (d:Dk):rem (ad d)<=rem d:=by unfold ad;split;(unfold rem;dsimp only;omega);exact zBb _
def O1 (d:Dk) (h:d.a<ln d.l):rem (ad d)+1<=rem d:=by unfold ad;rw[zGk h];unfold rem;dsimp only;omega
def zm (d:Dk):zO 26 [.ptr 1000 0 0] [(1000,fI d)] (bA (decide (d.a<ln d.l))) [(1000,fI d)]:=by
 have hl:(d.l.map iA).length=ln d.l:=by simp
 refine eM call26 λF hF=>?_
 (repeat' (first|refine aK ?_|refine yW (λhc=>?_) λhc=>?_|fail))
 refine zP [1000] Z Z (zBq bA ?_) Z;simp[uS]
structure TkP (l:List Tk):Prop where
 n:l.length=8
 y:∀t∈l,BY t.sec/\t.sec.length<=8/\(t.used=true->t.sec.length=8/\OH t.rights=true/\0<=t.til/\t.til<=2147483648)
 v:TV l
theorem TkP.b {l:List Tk} (h:TkP l):IP l:=⟨by have:=h.n;omega,λt u=>by have:=(h.y t u).2.1;omega⟩
def VX:List Int->Nat->Int->Int×Int×Int
 | [],_,_=>(0,0,6)
 |x::r,i,n=>if i=5 then(0,0,6)else if 128<=x then VX r (i+1) (n+x.tmod 128*128 ^ i)else if 4294967295<n+x.tmod 128*128 ^ i\/(0<i/\x=0)then(0,0,6)else(n+x.tmod 128*128 ^ i,i+1,0)
def bQ (b:List Int):Int×Int×Int:=VX b 0 0
def Kr (n:Int):Int:=if n<0\/4294967295<n then 0 else if n<128 then 1 else if n<16384 then 2 else if n<2097152 then 3 else if n<268435456 then 4 else 5
def Jt (m:Int):Int:=if m<128 then 0 else if m<16384 then 1 else if m<2097152 then 2 else if m<268435456 then 3 else 4
theorem ym (u:0<=n) (h1:n<=4294967295):Kr n=1+Jt n:=by grind [Kr,Jt]
theorem Gt (u:128<=m) (h1:m<=4294967295):Jt m=1+Jt (m/128):=by grind [Jt]
def N1 (h:m<128):Jt m=0:=zA5 h
def BB (n:Int):zO 201 [iA n] [] (iA (Kr n)) []:=by
 by_cases h:n<0\/4294967295<n
 .have e:Kr n=0:=zA5 h;rw[e];by_cases h1:n<0
  ·(refine eM call201 λF hF=>?_)
   exact ly
  .have h2:=h.resolve_left h1;refine eM call201 λF hF=>?_
   exact ly
 have h1:0<=n:=by omega
 have h2:n<=4294967295:=by omega
 rw[ym h1 h2];generalize C:1+Jt n=s;refine eM call201 λF hF=>?_
 refine WW ?_;refine gE (5) [] [] [] [0,3] Z (λz T U E=>∃(m:Int) (k:Int),(0<=m/\m<=4294967295/\k=6-z/\1<=k/\k<=5/\(k=2->m<=33554431)/\(k=3->m<=262143)/\(k=4->m<=2047)/\(k=5->m<=15)/\s=k+Jt m)/\E=⟨(0,iA m)::(3,iA k)::T,U⟩) ?_;(conv=>whnf);refine⟨?_,?_⟩
 .exact⟨n,1,⟨h1,h2,zB,zB,zB,zB,zB,zB,zB,C.symm⟩,rfl⟩
 .rintro z st ⟨m,k,⟨q0,q1,q2,q3,q4,q5,q6,q7,q8,q9⟩,rfl⟩;by_cases B:128<=m
  .have hd:=Gt B q1;have u:m.tdiv 128=m/128:=zC9 q0;have A:aG .i64 (m.tdiv 128):=⟨zB,zB⟩;refine WW ?_;refine⟨z-1,zB,m.tdiv 128,k+1,⟨zB,zB,zB,zB,zB,zB,zB,zB,zB,by rw[u];omega⟩,rfl⟩
  .rw[N1 zB]at q9;obtain rfl:s=k:=by omega
   exact ly
def Ft (h:i<=4):((128:Int) ^ i=1/\i=0)\/((128:Int) ^ i=128/\i=1)\/((128:Int) ^ i=16384/\i=2)\/((128:Int) ^ i=2097152/\i=3)\/((128:Int) ^ i=268435456/\i=4):=by
 obtain rfl|rfl|rfl|rfl|rfl:i=0\/i=1\/i=2\/i=3\/i=4:=by omega
 all_goals simp
def Q7 {i:Nat} {x:Int} (h:i<=4) (u:0<=n) (h1:n<128 ^ i) (z:0<=x) (A:x<128):(Kr (n+x*128 ^ i)=(i:Int)+1)↔¬(4294967295<n+x*128 ^ i\/(0<i/\x=0)):=by
 rcases Ft h with⟨e,rfl⟩|⟨e,rfl⟩|⟨e,rfl⟩|⟨e,rfl⟩|⟨e,rfl⟩
 all_goals rw[e]at h1⊢
 all_goals unfold Kr
 all_goals repeat' split
 all_goals omega
def xm {x P:Int} (u:0<=x) (B:x<128) (z:1<=P) (A:P<=268435456):0<=x*P/\x*P<=127*P:=by
 refine⟨Int.mul_nonneg u zB,Int.mul_le_mul_of_nonneg_right zB zB⟩
theorem O7 (b:List Int) (hb:BY b) (hn:ln b<=100000):zO 287 [zE yA b] [] (.tup [iA (bQ b).1,iA (bQ b).2.1,iA (bQ b).2.2]) []:=by
 have hl:=zA yA b;refine eM call287 λF hF=>?_
 refine WW ?_;refine gE (6) [] [] [0] [5,6,7,0] Z (λzn T U zs=>∃(i:Nat) (n:Int),(zn+i=6/\i<=5/\i<=ln b/\0<=n/\n<128 ^ i/\bQ b=VX (b.drop i) i n)/\zs=⟨(5,iA n)::(6,iA (128 ^ i:Int))::(7,iA i)::T,U⟩) ?_;(conv=>whnf);refine⟨?_,?_⟩
 .exact⟨0,0,⟨rfl,zB,zB,zB,by decide,rfl⟩,rfl⟩
 .rintro zn st ⟨i,n,⟨q0,q1,q2,q3,q4,q5⟩,rfl⟩;rw[q5];clear q5;by_cases E:i<ln b
  case neg=>
   have e:b.drop i=[]:=zEh zB;rw[e]
   show uG _ _ _ _ _ (cB (Tm 0 (XY _ _ _ _ (Fin _ _ [] (.tup [iA 0,iA 0,iA 6]) []))) _)
   generalize (128 ^ i:Int)=z at *;exact ly
  have hx:=hb (b.getD i dd) (by simp[pb,E]);have hy:=zJ yA b i E;have e:b.drop i=b.getD i dd::b.drop (i+1):=by rw[zFh E];simp[pb,E]
  rw[e];clear e;generalize hr:b.drop (i+1)=r at *;generalize V:b.getD i dd=x at *;by_cases L:i=5
  .subst L
   show uG _ _ _ _ _ (cB (Tm 0 (XY _ _ _ _ (Fin _ _ [] (.tup [iA 0,iA 0,iA 6]) []))) _)
   generalize (128 ^ 5:Int)=z at *;exact ly
  have ht:x.tmod 128=x % 128:=zCg hx.1;have O:=Ft (i:=i) zB;have ac:1<=(128:Int) ^ i/\(128:Int) ^ i<=268435456:=by omega
  have Y:=xm (x:=x.tmod 128) (P:=128 ^ i) zB zB zB zB;have B:=Q7 (i:=i) (n:=n) (x:=x.tmod 128) zB q3 q4 zB zB;have M:(128:Int) ^ (i+1)=128 ^ i*128:=rfl;by_cases I:128<=x
  .have e:VX (x::r) i n=VX r (i+1) (n+x.tmod 128*128 ^ i):=by rw[VX,Os L,zA5 I]
   rw[e];clear B O V;generalize (128:Int) ^ i=z at *;have G:aG .i64 (x.tmod 128*z):=by generalize x.tmod 128*z=W at *;exact⟨zB,zB⟩
   have A:aG .i64 (n+x.tmod 128*z):=by generalize x.tmod 128*z=W at *;exact⟨zB,zB⟩
   have S:0<=n+x.tmod 128*z/\n+x.tmod 128*z<z*128:=by generalize x.tmod 128*z=W at *;omega
   (repeat' (first|refine uT ?_|apply yW|apply xH|intro hc|(apply zG;first|(apply wT;first|refine wJ (OB Z Z G) Z ?_|refine wJ (OA Z Z A) Z ?_)|refine SM ?_)|fail))
   refine⟨zn-1,zB,i+1,n+x.tmod 128*z,⟨zB,zB,zB,S.1,by rw[M];exact S.2,by rw[hr]⟩,?_⟩;rw[M];rfl
  .have C:x.tmod 128=x:=by omega
   have e:VX (x::r) i n=if 4294967295<n+x.tmod 128*128 ^ i\/(0<i/\x=0)then(0,0,6)else(n+x.tmod 128*128 ^ i,(i:Int)+1,0):=by rw[VX,Os L,Os I]
   have c:=BB (n+x.tmod 128*128 ^ i);rw[e];rw[C]at B;rw[C]at c Y⊢;clear O V e;generalize (128:Int) ^ i=z at *;have G:aG .i64 (x.tmod 128*z):=by rw[C];generalize x*z=W at *;exact⟨zB,zB⟩
   have A:aG .i64 (n+x.tmod 128*z):=by rw[C];generalize x*z=W at *;exact⟨zB,zB⟩
   by_cases u:4294967295<n+x*z\/(0<i/\x=0)
   .have ag:Kr (n+x*z)≠(i:Int)+1:=λh=>B.1 h u
    rw[zA5 u];clear B u;generalize Kr (n+x*z)=s at *;rw[<-C]at c Y
    (have ga:=c;(repeat' (first|refine uT ?_|apply yW|apply xH|intro hc|(apply zG;first|(apply wT;first|refine wJ (OB Z Z G) Z ?_|refine wJ (OA Z Z A) Z ?_)|refine SM ?_)|fail))<;>clear ga)
    exact zH
   .have R:=B.2 u;rw[R]at c;rw[Os u];clear B u R;rw[<-C]at c Y⊢
    (have ga:=c;(repeat' (first|refine uT ?_|apply yW|apply xH|intro hc|(apply zG;first|(apply wT;first|refine wJ (OB Z Z G) Z ?_|refine wJ (OA Z Z A) Z ?_)|refine SM ?_)|fail))<;>clear ga)
    exact zH
section
variable {P:Program} {tm:List (Nat×AV)} {h:List (Nat×xV)} {tx ty:Nat} {x y:Operand}
def M1:∀k:_root_.Fin 256,IntKind.u8.wrap (BitVec.ofInt IntKind.u8.bits (k.val:Int) &&& BitVec.ofInt IntKind.u8.bits 127).toNat=((k.val:Int)).tmod 128:=by decide +kernel
theorem ZP (z:yX (zK tm) x= .s (.int .u8 m)) (A:yX (zK tm) y= .s (.int .u8 127)) (u:0<=m/\m<256):vA P ⟨tm,h⟩ (.binOp .and tx x y ty) (.s (.int .u8 (m.tmod 128))) [] [] []:=by
 have e:=M1 ⟨m.toNat,zB⟩
 grind [yX,zK,OC]
end
theorem Et (a b:Nat) (u:a<2 ^ 60) (hb:b<2 ^ 60):Yj a b=((a ||| b:Nat):Int):=by
 have h:=zGi u hb;unfold Yj;rw[show BitVec.ofInt IntKind.i64.bits (a:Int)=BitVec.ofNat IntKind.i64.bits a from zEc ..];rw[show BitVec.ofInt IntKind.i64.bits (b:Int)=BitVec.ofNat IntKind.i64.bits b from zEc ..];rw[zGq,zEb,zEb,zD0 (zCb u (zEz xA xA)),zD0 (zCb hb (zEz xA xA))];refine kL ⟨?_,?_⟩
 all_goals grind
def L1 {i:Nat} {y:Int} (h:i<=4) (G:0<=n) (h1:n<128 ^ i) (C:0<=y) (I:y<128):Yj n (IntKind.i64.wrap (y*2 ^ (min ((7*(i:Int)).toNat) IntKind.i64.bits)))=n+y*128 ^ i:=by
 have hb:IntKind.i64.bits=64:=rfl;have e1:min ((7*(i:Int)).toNat) 64=7*i:=by omega
 have E:(2:Int) ^ (7*i)=128 ^ i:=by rw[Int.pow_mul];rfl
 rw[hb,e1,E];have u:1<=(128:Int) ^ i/\(128:Int) ^ i<=268435456:=by have:=Ft h;omega
 have B:=xm C I u.1 u.2;rw[show IntKind.i64.wrap (y*128 ^ i)=y*128 ^ i from kL (k:= .i64) (by unfold aG;generalize y*128 ^ i=M,(128:Int) ^ i=L at *;omega)];obtain⟨a,rfl⟩:=zCz G;obtain⟨c,rfl⟩:=zCz C;have z:(128:Int) ^ i=((128 ^ i:Nat):Int):=by simp
 rw[z]at h1 B u⊢;have A:a<128 ^ i:=by omega
 rw[show((c:Int)*((128 ^ i:Nat):Int))=((c*128 ^ i:Nat):Int) by simp]at B⊢;rw[Et a (c*128 ^ i) (by have:(2:Nat) ^ 60=1152921504606846976:=rfl;omega) (by have:(2:Nat) ^ 60=1152921504606846976:=rfl;omega)];have e3:(128:Nat) ^ i=2 ^ (7*i):=by rw[Nat.pow_mul]
 rw[e3]at A⊢;have:=zEq A c;rw[zGp]at this;rw[Nat.or_comm,<-this];omega
theorem N7 (b:List Int) (hb:BY b) (hn:ln b<=100000):zO 340 [zE yA b] [] (.tup [iA (bQ b).1,iA (bQ b).2.1,iA (bQ b).2.2]) []:=by
 have hl:=zA yA b;refine eM call340 λF hF=>?_
 refine WW ?_;refine uZ (b) [] [] [8,9] [5,10,8,9] Z (λi f4 T U zs=>∃n:Int,(0<=n/\n<128 ^ i/\i<=5/\∀post,b=f4++post->bQ b=VX post i n)/\zs=⟨(5,iA n)::(10,iA i)::T,U⟩) (Lp ?_ ?_ ?_)
 .exact⟨0,⟨zB,by decide,zB,λpost h=>by rw[h];rfl⟩,rfl⟩
 .rintro i f4 x r st G hi ⟨n,⟨q0,q1,q2,q3⟩,rfl⟩;have hy:=yG yA G hi;have Y:=zW G hi;have z:=hb x (yY G);rw[q3 _ G]
  have q4:∀post,b=f4++[x]++post->post=r:=λpost h=>by
   rw[G,zBy]at h;simpa using h.symm
  clear q3 G;by_cases C:i=5
  .subst C
   show uG _ _ _ _ _ (cB (Tm 0 (XY _ _ _ _ (Fin _ _ [] (.tup [iA 0,iA 0,iA 6]) []))) _)
   clear q4;exact ly
  have ht:x.tmod 128=x % 128:=zCg z.1;have I:=Ft (i:=i) zB;have W:1<=(128:Int) ^ i/\(128:Int) ^ i<=268435456:=by omega
  have R:=xm (x:=x.tmod 128) (P:=128 ^ i) zB zB zB zB;have L:=L1 (i:=i) (n:=n) (y:=x.tmod 128) zB q0 q1 zB zB;have B:(128:Int) ^ (i+1)=128 ^ i*128:=rfl;by_cases A:128<=x
  .have e:VX (x::r) i n=VX r (i+1) (n+x.tmod 128*128 ^ i):=by rw[VX,Os C,zA5 A]
   rw[e]
   have E:0<=n+x.tmod 128*128 ^ i/\n+x.tmod 128*128 ^ i<128 ^ (i+1):=by
    rw[B];generalize x.tmod 128*128 ^ i=S at *;omega
   clear I e R;generalize n+x.tmod 128*128 ^ i=M at*
   (repeat' (first|refine uT ?_|apply yW|apply xH|intro hc|(apply zG;first|(apply wT;refine wJ (ZP Z Z z) Z ?_)|refine SM ?_)|fail))
   refine⟨M,⟨E.1,E.2,zB,λpost h=>by rw[q4 post h]⟩,?_⟩;rw[<-L];rfl
  .have e:VX (x::r) i n=if 4294967295<n+x.tmod 128*128 ^ i\/(0<i/\x=0)then(0,0,6)else(n+x.tmod 128*128 ^ i,(i:Int)+1,0):=by rw[VX,Os C,Os A]
   rw[e]
   have E:0<=n+x.tmod 128*128 ^ i/\n+x.tmod 128*128 ^ i<128 ^ (i+1):=by
    rw[B];generalize x.tmod 128*128 ^ i=S at *;omega
   clear I e R q4 B;generalize n+x.tmod 128*128 ^ i=M at *;by_cases u:4294967295<M\/(0<i/\x=0)
   .rw[zA5 u];by_cases V:4294967295<M
    .clear u
     (repeat' (first|refine uT ?_|apply yW|apply xH|intro hc|(apply zG;first|(apply wT;refine wJ (ZP Z Z z) Z ?_)|refine SM ?_)|fail))
     exact zH
    .obtain⟨h1,h2⟩:=u.resolve_left V
     (repeat' (first|refine uT ?_|apply yW|apply xH|intro hc|(apply zG;first|(apply wT;refine wJ (ZP Z Z z) Z ?_)|refine SM ?_)|fail))
     exact zH
   .rw[Os u];by_cases O:0<i
    .have ac:x≠0:=λh=>u (.inr ⟨O,h⟩)
     (repeat' (first|refine uT ?_|apply yW|apply xH|intro hc|(apply zG;first|(apply wT;refine wJ (ZP Z Z z) Z ?_)|refine SM ?_)|fail))
     rw[<-L];exact zH
    ·(repeat' (first|refine uT ?_|apply yW|apply xH|intro hc|(apply zG;first|(apply wT;refine wJ (ZP Z Z z) Z ?_)|refine SM ?_)|fail))
     rw[<-L];exact zH
 .rintro st ⟨n,⟨q0,q1,q2,q3⟩,rfl⟩;rw[q3 [] zV]
  show uG _ _ _ _ _ (cB (Tm 0 (XY _ _ _ _ (Fin _ _ [] (.tup [iA 0,iA 0,iA 6]) []))) _)
  exact ly
theorem wm:∀(r:List Int) (i:Nat) (n:Int),BY r->0<=n->(VX r i n=(0,0,6))\/((VX r i n).2.2=0/\0<=(VX r i n).1/\(VX r i n).1<=4294967295/\(i:Int)+1<=(VX r i n).2.1/\(VX r i n).2.1<=i+ln r)
 | [],i,n,_,_=> .inl Z
 | x::r,i,n,hb,C=>by
  have A:=hb x zV
  have z:0<=n+x.tmod 128*128 ^ i:=by
   have h1:0<=x.tmod 128:=by rw[zCg A.1];omega
   have h2:(0:Int)<=128 ^ i:=Int.pow_nonneg zB;have:=Int.mul_nonneg h1 h2;omega
  rw[VX];by_cases u:i=5
  .exact .inl (zA5 u)
  rw[Os u];by_cases h1:128<=x
  .rw[zA5 h1]
   rcases wm r (i+1) (n+x.tmod 128*128 ^ i) (λy B=>hb y (by simp[B])) z with h|⟨a,b,c,d,e⟩
   .exact .inl h
   .refine .inr ⟨a,b,c,zB,?_⟩;rw[zBl];omega
  .rw[Os h1];by_cases h2:4294967295<n+x.tmod 128*128 ^ i\/(0<i/\x=0)
   .exact .inl (zA5 h2)
   .rw[Os h2];refine .inr ⟨rfl,z,zB,zDg _,?_⟩
    show(i:Int)+1<=_
    rw[zBl];omega
theorem GL (b:List Int) (hb:BY b):bQ b=(0,0,6)\/((bQ b).2.2=0/\0<=(bQ b).1/\(bQ b).1<=4294967295/\1<=(bQ b).2.1/\(bQ b).2.1<=ln b):=by
 have:=wm b 0 0 hb (zDg _)
 grind [BY,bQ]
def XM:Nat->List Int->Option (List Int×List Int)
 |0,b=>some ([],b)
 |n+1,b=>if(bQ b).2.2=0 then(match XM n (b.drop (bQ b).2.1.toNat)with|none=>none|some (l,r)=>some ((bQ b).1::l,r))else none
def zy (l:List Int):Option (List Int×List Int)->Option (List Int×List Int)
 |none=>none
 |some (k,r)=>some (l++k,r)
def GM (o:Option (List Int×List Int)):zy [] o=o:=by
 cases o with
 |none=>rfl
 |some p=>rfl
def nc {l b:List Int} {n:Nat} (h:(bQ b).2.2≠0):zy l (XM (n+1) b)=none:=by
 rw[XM,Os h];rfl
theorem mc {l b:List Int} {n:Nat} (h:(bQ b).2.2=0):zy l (XM (n+1) b)=zy (l++[(bQ b).1]) (XM n (b.drop (bQ b).2.1.toNat)):=by grind [bQ,zy,XM]
def Be:Option (List Int×List Int)->AV
 |none=> .tup [zE iA [],zE yA [],bA false]
 |some (l,r)=> .tup [zE iA l,zE yA r,bA true]
def RE (b:List Int) (n:Nat) (hb:BY b) (B:ln b<=100000) (L:n<=1000):zO 304 [zE yA b,iA n] [] (Be (XM n b)) []:=by
 refine eM call304 λF hF=>?_
 refine WW ?_;refine vQ 12 Z ?_;refine yU (n) [12] [] [13] [0,7,14,13] Z (λi T U I=>∃u c,(ln u=i/\BY c/\c.length<=100000/\XM n b=zy u (XM (n-i) c))/\I=⟨(0,zE yA c)::(7,.ref 12 0 (u.map iA).length)::(14,iA i)::T,(12,.arr 1 (u.map iA) true)::U⟩) (Lp ?_ ?_ ?_)
 .exact⟨[],b,⟨rfl,hb,B,by rw[GM];rfl⟩,rfl⟩
 .rintro i st hi ⟨u,c,⟨q0,q1,q2,q3⟩,rfl⟩;have hd:=N7 c q1 q2;have hl:=zA yA c;have E:=zA iA u;rw[show n-i=(n-(i+1))+1 by omega]at q3
  rcases GL c q1 with h|⟨h1,h2,h3,h4,h5⟩
  .rw[q3,nc (by rw[h];decide)];rw[h]at hd;clear q3 h
   show uG _ _ _ _ _ (cB (Tm 0 (XY _ _ _ _ (Fin _ _ [] (.tup [zE iA [],zE yA [],bA false]) []))) _)
   exact ng hd
  .rw[mc h1]at q3;rw[h1]at hd;have A:BY (c.drop (bQ c).2.1.toNat):=λy G=>q1 y (zCc G)
   have C:(c.drop (bQ c).2.1.toNat).length<=100000:=by rw[zB6];omega
   clear h1;rw[q3];generalize (bQ c).1=v,(bQ c).2.1=k at *;refine zS hd ?_;refine⟨u++[v],c.drop k.toNat,⟨by simp[q0],A,C,rfl⟩,?_⟩;rw[zBd];rfl
 .rintro st ⟨u,c,⟨q0,q1,q2,q3⟩,rfl⟩;rw[q3,zEj]
  show uG _ _ _ _ _ (cB (Tm 0 (XY _ _ _ _ (Fin _ _ [] (.tup [zE iA (u++[]),zE yA c,bA true]) []))) _)
  rw[zB0];refine WW ?_;exact zI [] Z Z (zBq (λz=>AV.tup [z,zE yA c,bA true]) (eJ _ _)) Z
def WX (b:List Int) (n:Nat) (hb:BY b) (B:ln b<=100000) (L:n<=1000):zO 239 [zE yA b,iA n] [] (Be (XM n b)) []:=by
 refine eM call239 λF hF=>?_
 refine WW ?_;refine zQ 7 1001 1 Z Z Z ?_;refine yU (n) [1001] [] [11] [0,7,12,11] Z (λi T U I=>∃u c,(ln u=i/\BY c/\c.length<=100000/\XM n b=zy u (XM (n-i) c))/\I=⟨(0,zE yA c)::(7,.ref 1001 0 (u.map iA).length)::(12,iA i)::T,(1001,.arr 1 (u.map iA) true)::U⟩) (Lp ?_ ?_ ?_)
 .exact⟨[],b,⟨rfl,hb,B,by rw[GM];rfl⟩,rfl⟩
 .rintro i st hi ⟨u,c,⟨q0,q1,q2,q3⟩,rfl⟩;have hd:=O7 c q1 q2;have hl:=zA yA c;have E:=zA iA u;rw[show n-i=(n-(i+1))+1 by omega]at q3
  rcases GL c q1 with h|⟨h1,h2,h3,h4,h5⟩
  .rw[q3,nc (by rw[h];decide)];rw[h]at hd;clear q3 h
   show uG _ _ _ _ _ (cB (Tm 0 (XY _ _ _ _ (Fin _ _ [] (.tup [zE iA [],zE yA [],bA false]) []))) _)
   exact ng hd
  .rw[mc h1]at q3;rw[h1]at hd;have A:BY (c.drop (bQ c).2.1.toNat):=λy G=>q1 y (zCc G)
   have C:(c.drop (bQ c).2.1.toNat).length<=100000:=by rw[zB6];omega
   clear h1;rw[q3];generalize (bQ c).1=v,(bQ c).2.1=k at *;refine zS hd ?_;refine⟨u++[v],c.drop k.toNat,⟨by simp[q0],A,C,rfl⟩,?_⟩;rw[zBd];rfl
 .rintro st ⟨u,c,⟨q0,q1,q2,q3⟩,rfl⟩;rw[q3,zEj]
  show uG _ _ _ _ _ (cB (Tm 0 (XY _ _ _ _ (Fin _ _ [] (.tup [zE iA (u++[]),zE yA c,bA true]) []))) _)
  rw[zB0];refine WW ?_;exact zI [] Z Z (zBq (λz=>AV.tup [z,zE yA c,bA true]) (eJ _ _)) Z
def tc:Nat->Int->List Int
 |0,n=>[n]
 |f+1,n=>if n<128 then [n]else(n % 128+128)::tc f (n/128)
def jQ (n:Int):List Int:=tc 4 n
def Zc {z:Nat} (h:n<128 ^ (z+1+1)):n/128<128 ^ (z+1):=Int.ediv_lt_of_lt_mul xA (by rw[zGm]at h;exact h)
theorem VA {f:Nat} (h:n<128):tc f n=[n]:=by
 cases f with
 |zero=>rfl
 |succ f=>exact zA5 h
theorem GN {f:Nat} (h:128<=n):tc (f+1) n=(n % 128+128)::tc f (n/128):=Os zB
def yy (n:Int) (C:0<=n) (h1:n<=4294967295):zO 143 [iA n] [] (.tup [zE yA (jQ n),iA 0]) []:=by
 have cs:=BB n
 have M:1<=Kr n:=by
  rw[ym C h1];unfold Jt
  repeat' split
  all_goals omega
 generalize Kr n=s at *;generalize E:jQ n=R;refine eM call143 λF hF=>?_
 refine zS cs ?_;refine zQ 4 1001 1 Z Z Z ?_;refine gE (4) [1001] [] [] [0,4] Z (λA T U S=>∃(m:Int) (u:List Int),(0<=m/\m<=4294967295/\m<128 ^ (A+1)/\u.length+A=4/\u++tc A m=R)/\S=⟨(0,iA m)::(4,.ref 1001 0 (u.map yA).length)::T,(1001,.arr 1 (u.map yA) true)::U⟩) ?_;(conv=>whnf);refine⟨?_,?_⟩
 .exact⟨n,[],⟨C,h1,by show n<34359738368;omega,rfl,E⟩,rfl⟩
 .rintro A st ⟨m,u,⟨q0,q1,q2,q3,q4⟩,rfl⟩;have I:=zA yA u;by_cases L:128<=m
  .obtain⟨z,rfl⟩:∃z,A=z+1:=by
    cases A with
    |zero=>exfalso;have:m<128:=q2;omega
    |succ z=>exact⟨z,rfl⟩
   rw[GN L]at q4;have hd:=Zc q2;have O:m.tmod 128=m % 128:=zCg q0;have B:m.tdiv 128=m/128:=zC9 q0;have G:aG .i64 (m.tdiv 128):=⟨zB,zB⟩;clear q2;refine WW ?_;refine⟨z,zB,m.tdiv 128,u++[m.tmod 128+128],⟨zB,zB,by rw[B];exact hd,by simp;omega,by rw[B,O,zBy];exact q4⟩,?_⟩;rw[zBd];rfl
  .rw[VA zB]at q4;clear q2;subst q4;refine WW ?_;refine zI [] Z Z ?_ Z
   show AV.tup [AV.sl false ((u.map yA++[yA m]).take (u.map yA++[yA m]).length),iA 0]=_
   rw[zA8];unfold zE;rw[zBd];rfl
theorem Bt (u:0<=n) (h1:n<=4294967295):jF n 127=n % 128:=by
 obtain⟨a,rfl⟩:=zCz u;unfold jF;rw[show BitVec.ofInt IntKind.i64.bits (a:Int)=BitVec.ofNat IntKind.i64.bits a from zEc ..];rw[show BitVec.ofInt IntKind.i64.bits (127:Int)=BitVec.ofNat IntKind.i64.bits 127 from Z];rw[BitVec.toNat_and,zEb,zEb,zD0 (show a<2 ^ IntKind.i64.bits by show a<18446744073709551616;omega),zD0 (show 127<2 ^ IntKind.i64.bits by decide)];have e:a &&& 127=a % 128:=Nat.and_two_pow_sub_one_eq_mod a 7
 grind [jF,kL,aG]
def M7:∀k:_root_.Fin 128,IntKind.u8.wrap (BitVec.ofInt IntKind.u8.bits (k.val:Int) ||| BitVec.ofInt IntKind.u8.bits 128).toNat=(k.val:Int)+128:=by decide +kernel
section
variable {P:Program} {tm:List (Nat×AV)} {h:List (Nat×xV)} {tx ty:Nat} {x y:Operand}
theorem zu (z:yX (zK tm) x= .s (.int .u8 m)) (A:yX (zK tm) y= .s (.int .u8 128)) (u:0<=m/\m<128):vA P ⟨tm,h⟩ (.binOp .or tx x y ty) (.s (.int .u8 (m+128))) [] [] []:=by
 have e:=M7 ⟨m.toNat,zB⟩
 grind [yX,zK,FC]
end
def L7 (n:Int) (E:0<=n) (h1:n<=4294967295):zO 235 [iA n] [] (.tup [zE yA (jQ n),iA 0]) []:=by
 generalize G:jQ n=R;refine eM call235 λF hF=>?_
 refine WW ?_;refine vQ 11 Z ?_;refine gE (4) [11] [] [] [0,4] Z (λA T U O=>∃(m:Int) (u:List Int),(0<=m/\m<=4294967295/\m<128 ^ (A+1)/\u.length+A=4/\u++tc A m=R)/\O=⟨(0,iA m)::(4,.ref 11 0 (u.map yA).length)::T,(11,.arr 1 (u.map yA) true)::U⟩) ?_;(conv=>whnf);refine⟨?_,?_⟩
 .exact⟨n,[],⟨E,h1,by show n<34359738368;omega,rfl,G⟩,rfl⟩
 .rintro A st ⟨m,u,⟨q0,q1,q2,q3,q4⟩,rfl⟩;have L:=zA yA u;by_cases M:128<=m
  .obtain⟨z,rfl⟩:∃z,A=z+1:=by
    cases A with
    |zero=>exfalso;have:m<128:=q2;omega
    |succ z=>exact⟨z,rfl⟩
   rw[GN M]at q4;have hd:=Zc q2;have I:=Bt q0 q1;have B:0<=jF m 127/\jF m 127<128:=by omega
   have C:vX m 7=m/128:=zDd m xA;clear q2
   (repeat' (first|refine uT ?_|apply yW|apply xH|intro hc|(apply zG;first|(apply wT;refine wJ (zu Z Z B) Z ?_)|refine SM ?_)|fail))
   refine⟨z,zB,vX m 7,u++[jF m 127+128],⟨zB,zB,by rw[C];exact hd,by simp;omega,by rw[C,I,zBy];exact q4⟩,?_⟩;rw[zBd];rfl
  .rw[VA zB]at q4;clear q2;subst q4;refine WW ?_;refine zI [] Z Z ?_ Z
   show AV.tup [AV.sl false ((u.map yA++[yA m]).take (u.map yA++[yA m]).length),iA 0]=_
   rw[zA8];unfold zE;rw[zBd];rfl
theorem BC:∀(r:List Int) (i:Nat) (n:Int),BY r->i<=5->(VX r i n).2.2=0->∃q:Int,0<=q/\(VX r i n).1=n+q*128 ^ i/\(0<i->0<q)/\i<=4/\∃j:Nat,(VX r i n).2.1=((i+j:Nat):Int)/\tc (4-i) q=r.take j
 | [],i,n,_,_,h=>by exact absurd (show(6:Int)=0 from h) xA
 | x ::r,i,n,hb,M,h=>by
  have A:=hb x zV;by_cases hi:i=5
  .exfalso;rw[VX,zA5 hi]at h;exact absurd (show(6:Int)=0 from h) xA
  by_cases z:128<=x
  .have e:VX (x::r) i n=VX r (i+1) (n+x.tmod 128*128 ^ i):=by rw[VX,Os hi,zA5 z]
   rw[e]at h⊢;obtain⟨q,S,q1,I,U,j,q4,L⟩:=BC r (i+1) _ (λy G=>hb y (by simp[G])) zB h;have R:x.tmod 128=x % 128:=zCg A.1;have O:=I zB;refine⟨x.tmod 128+q*128,zB,?_,λ_=>by omega,zB,j+1,by rw[q4];omega,?_⟩
   .rw[q1,zGm,Int.add_mul,Int.mul_assoc,Int.mul_comm 128,Int.add_assoc]
   .obtain⟨f,E⟩:∃f,4-i=f+1:=⟨3-i,zB⟩;rw[E,GN zB,List.take_succ_cons,<-L,show 4-(i+1)=f by omega]
    congr 1
    .omega
    .congr 1
     omega
  .have B:x.tmod 128=x:=by rw[zCg A.1];omega
   have e:VX (x::r) i n=if 4294967295<n+x.tmod 128*128 ^ i\/(0<i/\x=0)then(0,0,6)else(n+x.tmod 128*128 ^ i,(i:Int)+1,0):=by rw[VX,Os hi,Os z]
   rw[e]at h⊢;by_cases u:4294967295<n+x.tmod 128*128 ^ i\/(0<i/\x=0)
   .rw[zA5 u]at h;exact absurd (show(6:Int)=0 from h) xA
   .rw[Os u,B];refine⟨x,A.1,rfl,λC=>?_,zB,1,by show(i:Int)+1=_;omega,?_⟩
    .have:x≠0:=λh=>u (.inr ⟨C,h⟩)
     omega
    .rw[VA zB];rfl
theorem vm {b:List Int} (hb:BY b) (h:(bQ b).2.2=0):jQ (bQ b).1=b.take (bQ b).2.1.toNat:=by
 obtain⟨q,_,q1,_,_,j,q4,u⟩:=BC b 0 0 hb zB h
 grind [BY,bQ,jQ]
theorem bF:∀(n:Nat) (b l r:List Int),BY b->XM n b=some (l,r)->ln l=n/\BY r/\(∀x∈l,0<=x/\x<=4294967295)/\b=(l.map jQ).flatten++r
 |0,b,l,r,hb,h=>by
  cases h;exact⟨rfl,hb,by simp,rfl⟩
 | n +1,b,l,r,hb,h=>by
  rw[XM]at h;by_cases u:(bQ b).2.2=0
  .rw[zA5 u]at h
   rcases GL b hb with h0|⟨_,h2,h3,h4,h5⟩
   .rw[h0]at u;exact absurd (show(6:Int)=0 from u) xA
   cases z:XM n (b.drop (bQ b).2.1.toNat)with
   |none=>rw[z]at h;cases h
   | some p=>
    obtain⟨L,M⟩:=p;rw[z]at h;cases h;obtain⟨B,C,E,G⟩:=bF n _ L r (λy I=>hb y (zCc I)) z;refine⟨by simp[B],C,λx A=>?_,?_⟩
    .rcases zCt.1 A with rfl|A
     .exact⟨h2,h3⟩
     .exact E x A
    .rw[zCo,zD4,vm hb u,zBy,<-G,zEw]
  .rw[Os u]at h;cases h
def BD (b:List Int) (n:Nat) (l r:List Int) (hb:BY b) (B:ln b<=100000) (L:n<=1000) (z:XM n b=some (l,r)):zO 304 [zE yA b,iA n] [] (.tup [.ref 1001 0 (l.map iA).length,zE yA r,bA true]) [(1001,.arr 1 (l.map iA) true)]:=by
 refine eM call304 λF hF=>?_
 (repeat' (first|refine uT ?_|apply yW|apply xH|intro hc|(apply zG;first|(apply fN;refine bG 1001 tok Z Z Z Z Z Z Z Z Z Z Z Z Z zB zB Z Z Z ?_))|fail))
 refine vQ 1001 Z ?_;refine yU (n) [1001] [] [13] [0,7,14,13] Z (λi T U I=>∃u c,(ln u=i/\BY c/\c.length<=100000/\XM n b=zy u (XM (n-i) c))/\I=⟨(0,zE yA c)::(7,.ref 1001 0 (u.map iA).length)::(14,iA i)::T,(1001,.arr 1 (u.map iA) true)::U⟩) (Lp ?_ ?_ ?_)
 .exact⟨[],b,⟨rfl,hb,B,by rw[GM];rfl⟩,rfl⟩
 .rintro i st hi ⟨u,c,⟨q0,q1,q2,q3⟩,rfl⟩;have hd:=N7 c q1 q2;have hl:=zA yA c;have E:=zA iA u;rw[show n-i=(n-(i+1))+1 by omega]at q3
  rcases GL c q1 with h|⟨h1,h2,h3,h4,h5⟩
  .rw[nc (by rw[h];decide),z]at q3;cases q3
  .rw[mc h1]at q3;rw[h1]at hd;have A:BY (c.drop (bQ c).2.1.toNat):=λy G=>q1 y (zCc G)
   have C:(c.drop (bQ c).2.1.toNat).length<=100000:=by rw[zB6];omega
   clear h1;generalize (bQ c).1=v,(bQ c).2.1=k at *;refine zS hd ?_;refine⟨u++[v],c.drop k.toNat,⟨by simp[q0],A,C,q3⟩,?_⟩;rw[zBd];rfl
 .rintro st ⟨u,c,⟨q0,q1,q2,q3⟩,rfl⟩;rw[zEj,z]at q3;have e:(l,r)=(u++[],c):=zEg q3;rw[zB0]at e;cases e;refine WW ?_;exact zP [1001] rfl rfl rfl rfl
def vW (k:Int):Nat:=if k=2\/k=6 then 3 else if k=4 then 2 else if k=1\/k=9\/k=12 then 0 else 1
def wF (k:Int):Nat:=if k=6 then 4 else if k=7 then 2 else 0
def shA (z u:Nat):AV:= .agg [iA 10,iA z,iA u,iA (if u=0 then 0 else 1),iA (if u=0 then 0 else 3),iA 0]
def Th (k:Int) (u:1<=k) (h1:k<=12):zO 233 [iA k] [] (.tup [shA (vW k) (wF k),bA true]) []:=by
 obtain rfl|rfl|rfl|rfl|rfl|rfl|rfl|rfl|rfl|rfl|rfl|rfl:k=1\/k=2\/k=3\/k=4\/k=5\/k=6\/k=7\/k=8\/k=9\/k=10\/k=11\/k=12:=by omega
 all_goals (refine eM call233 λF hF=>?_)
 all_goals (refine WW ?_)
 all_goals exact zH
def NR (z u:Nat) (p:List Int):Option (List Int):=
 if 200<ln p\/p.length<10 then none else match XM z (p.drop 10)with
 |none=>none
 | some (a,r)=>if u=0 then(if r=[]then some a else none)else match XM 1 r with
  |none=>none
  |some (c,r2)=>if c.getD 0 0<1\/3<c.getD 0 0 then none else match XM ((c.getD 0 0).toNat*u) r2 with
   |none=>none
   |some (f,r3)=>if r3=[]then some (a++f)else none
def T6 (k:Int) (tok:List Int):Option (List Int)->AV
 |none=> .tup [zX ⟨0,[],[],[]⟩,iA 6]
 |some a=> .tup [zX ⟨k,tok,a,[]⟩,iA 0]
theorem um (k:Int) (h0:1<=k) (h1:k<=12) (p:List Int) (hb:BY p) (hn:ln p<=100000):zO 267 [iA k,zE yA p] [] (T6 k (p.take 10) (NR (vW k) (wF k) p)) []:=by
 have hl:=zA yA p;have z:=Th k h0 h1
 have hf:vW k<=3:=by
  unfold vW
  repeat' split
  all_goals omega
 have hg:wF k=0\/(2<=wF k/\wF k<=4):=by
  unfold wF
  repeat' split
  all_goals omega
 generalize vW k=V,wF k=C at *;unfold shA at z;by_cases A:200<ln p\/p.length<10
 .rw[show NR V C p=none from zA5 A]
  show zO 267 [iA k,zE yA p] [] (.tup [zX ⟨0,[],[],[]⟩,iA 6]) []
  by_cases h2:200<ln p
  ·(refine eM call267 λF hF=>?_)
   exact ng z
  .have h3:=A.resolve_left h2;refine eM call267 λF hF=>?_
   exact ng z
 have e0:NR V C p=_:=Os A;rw[e0];clear e0;have O:BY (p.drop 10):=λy hy=>hb y (zCc hy)
 have ac:(p.drop 10).length<=100000:=by rw[zB6];omega
 have G:=RE (p.drop 10) V O ac zB
 cases E:XM V (p.drop 10)with
 |none=>
  rw[E]at G
  show zO 267 [iA k,zE yA p] [] (.tup [zX ⟨0,[],[],[]⟩,iA 6]) []
  unfold Be at G;refine eM call267 λF hF=>?_
  exact mx (xW z G)
 |some q=>
 obtain⟨a,r⟩:=q;obtain⟨ha,W,a3,av⟩:=bF _ _ _ _ O E
 have au:ln r<=100000:=by
  have:=zBq List.length av;rw[zBa]at this;omega
 have a9:=zA yA r;have a7:=zA iA a;have k1:=kU (p.take 10) IC
 rcases hg with rfl|⟨g2,g4⟩
 .rw[E]at G;unfold Be at G;dsimp only;rw[zA5 Z];by_cases U:r=[]
  .subst U;have k2:=kU [] zV;rw[zA5 Z]
   show zO 267 [iA k,zE yA p] [] (.tup [zX ⟨k,p.take 10,a,[]⟩,iA 0]) []
   refine eM call267 λF hF=>?_
   exact mx (cM z G k1 k2)
  .have ar:ln r≠0:=λh=>U (zB5 h)
   rw[Os U]
   show zO 267 [iA k,zE yA p] [] (.tup [zX ⟨0,[],[],[]⟩,iA 6]) []
   refine eM call267 λF hF=>?_
   exact mx (xW z G)
 have u:=BD (p.drop 10) V a r O ac zB E;have B:=RE r 1 W au zB;clear G;dsimp only;rw[Os zB]
 cases R:XM 1 r with
 |none=>
  rw[R]at B;unfold Be at B
  show zO 267 [iA k,zE yA p] [] (.tup [zX ⟨0,[],[],[]⟩,iA 6]) []
  refine eM call267 λF hF=>?_
  exact mx (qM z u B)
 |some q2=>
 obtain⟨c,r2⟩:=q2;obtain⟨Y,L,a4,ap⟩:=bF _ _ _ _ W R
 obtain⟨v,rfl⟩:∃v,c=[v]:=by
  cases c with
  |nil=>cases Y
  |cons v c=>cases c with
   |nil=>exact⟨v,rfl⟩
   |cons w c=>simp at Y
 have ag:ln r2<=100000:=by
  have:=zBq List.length ap;rw[zBa]at this;omega
 rw[R]at B;unfold Be at B;dsimp only;rw[show [v].getD 0 0=v from Z];by_cases hv:v<1\/3<v
 .rw[zA5 hv]
  show zO 267 [iA k,zE yA p] [] (.tup [zX ⟨0,[],[],[]⟩,iA 6]) []
  by_cases ax:v<1
  ·(refine eM call267 λF hF=>?_)
   exact mx (qM z u B)
  .have ba:=hv.resolve_left ax;refine eM call267 λF hF=>?_
   exact mx (qM z u B)
 rw[Os hv];have bb:v.toNat*C<=12:=zCa (zDx (show v.toNat<=3 by omega) g4) xA;have M:((v.toNat*C:Nat):Int)=v*(C:Int):=by rw[zFv,zE1 zB]
 have I:=RE r2 (v.toNat*C) L ag zB;rw[M]at I;have hm:0<=v*(C:Int)/\v*(C:Int)<=12:=by rw[<-M];omega
 clear M
 cases S:XM (v.toNat*C) r2 with
 |none=>
  rw[S]at I;unfold Be at I
  show zO 267 [iA k,zE yA p] [] (.tup [zX ⟨0,[],[],[]⟩,iA 6]) []
  refine eM call267 λF hF=>?_
  exact mx (cM z u B I)
 |some q3=>
 obtain⟨f,r3⟩:=q3;obtain⟨a5,az,a6,a2⟩:=bF _ _ _ _ L S;have a8:=zA iA f;have a1:=zA yA r3;rw[S]at I;unfold Be at I;dsimp only;by_cases U:r3=[]
 .subst U;have k2:=kU [] zV;rw[zA5 Z]
  show zO 267 [iA k,zE yA p] [] (.tup [zX ⟨k,p.take 10,a++f,[]⟩,iA 0]) []
  refine eM call267 λF hF=>?_
  refine yJ (Zb z u B I k1 k2) ?_;refine zI [] Z Z ?_ Z
  show AV.tup [.agg [iA k,zE yA (p.take 10),.sl false ((a.map iA++f.map iA).take (a.map iA++f.map iA).length),zE yA []],iA 0]=_
  rw[zA8,<-zBd];rfl
 .have ar:ln r3≠0:=λh=>U (zB5 h)
  rw[Os U]
  show zO 267 [iA k,zE yA p] [] (.tup [zX ⟨0,[],[],[]⟩,iA 6]) []
  refine eM call267 λF hF=>?_
  exact mx (cM z u B I)
def Yc (z u:Nat):AV:= .agg [iA z,iA u,iA (if u=0 then 0 else 1),iA (if u=0 then 0 else 3),iA 0]
def Wc (k:Int) (u:1<=k) (h1:k<=12):zO 141 [iA k] [] (Yc (vW k) (wF k)) []:=by
 obtain rfl|rfl|rfl|rfl|rfl|rfl|rfl|rfl|rfl|rfl|rfl|rfl:k=1\/k=2\/k=3\/k=4\/k=5\/k=6\/k=7\/k=8\/k=9\/k=10\/k=11\/k=12:=by omega
 all_goals (refine eM call141 λF hF=>?_)
 all_goals (refine WW ?_)
 all_goals exact zH
def ZC (u z:Nat) (c:Int):Nat->List Int->List Int
 |_,[]=>[]
 |i,x::r=>(if i=u/\z≠0 then [c]else [])++(jQ x++ZC u z c (i+1) r)
def dL (u z:Nat) (c:Int) (m:Ms):List Int:=(m.tok++ZC u z c 0 m.args)++((if z≠0/\m.args.length=u then [0]else [])++m.data)
theorem Ae:∀(f:Nat) (n:Int),1<=(tc f n).length/\(tc f n).length<=f+1
 |0,n=>by simp[tc]
 |f+1,n=>by
  have:=Ae f (n/128);rw[tc];split
  .simp
  .rw[zBl];omega
theorem gD (n:Int):1<=(jQ n).length/\(jQ n).length<=5:=Ae 4 n
theorem YT (k:Int) (h0:1<=k) (h1:k<=12) (m:Ms) (c:Nat) (hk:m.kind=k) (ht:ln m.tok=10) (hd:ln m.data<=100000) (ha:∀x∈m.args,0<=x/\x<=4294967295) (hn:ln m.args<=1000) (hc:wF k≠0->ln m.args=vW k+c*wF k) (av:c<=3):
  zO 70 [zX m] [] (zE yA (dL (vW k) (wF k) c m)) []:=by
 subst hk;have L:=Wc m.kind h0 h1
 have hg:wF m.kind<=4:=by
  unfold wF
  repeat' split
  all_goals omega
 generalize vW m.kind=C,wF m.kind=z at *;unfold Yc at L;have a2:=zA yA m.tok;have ag:=zA iA m.args;have az:=zA yA m.data;unfold dL;generalize hT:m.tok++ZC C z c 0 m.args=ar;refine eM call70 λF hF=>?_
 (have ga:=L;(repeat' (first|refine uT ?_|apply yW|apply xH|intro hc|(apply zG;first|(apply yE;refine xE 1001 tok Z Z Z Z Z Z (yM _ _ (λ_=>rfl)) Z Z Z zB Z Z Z ?_))|fail))<;>clear ga)
 refine vQ 1001 Z ?_;refine uZ (m.args) [1001,1,3] [1,3] [1,3,16,17] [4,18,1,3,16,17] Z (λi f4 T U zs=>∃u:List Int,(ln u<=10+6*i/\∀post,m.args=f4++post->u++ZC C z c i post=ar)/\zs=⟨(4,.ref 1001 0 (u.map yA).length)::(18,iA i)::T,(1001,.arr 1 (u.map yA) true)::U⟩) (Lp ?_ ?_ ?_)
 .exact⟨m.tok,⟨zB,λpost h=>by rw[<-hT,h];rfl⟩,rfl⟩
 .rintro i f4 x post st I hi ⟨u,⟨q0,q1⟩,rfl⟩;have hy:=yG iA I hi;have au:=zW I hi;have R:=ha x (yY I);have O:=zA yA u;have he:=gD x;have Y:=yy x R.1 R.2;have a1:=zA yA (jQ x)
  have A:∀p,m.args=f4++[x]++p->p=post:=λp h=>by
   rw[I,zBy]at h;simpa using h.symm
  have B:=q1 _ I;clear q1 hT I;by_cases G:i=C/\z≠0
  .obtain⟨rfl,E⟩:=G;have M:=hc E
   have hq:(((m.args.map iA).length:Int)-(i:Int)).tdiv (z:Int)=(c:Int):=by
    rw[ag,M,show(((i+c*z:Nat):Int)-(i:Int))=(c:Int)*(z:Int) by rw[Int.natCast_add,zFv];omega];exact Int.mul_tdiv_cancel _ zB
   have ax:aG .i64 ((((m.args.map iA).length:Int)-(i:Int)).tdiv (z:Int)):=by rw[hq];exact⟨zB,zB⟩
   have e:ZC i z c i (x::post)=[(c:Int)]++(jQ x++ZC i z c (i+1) post):=by rw[ZC,zA5 ⟨rfl,E⟩]
   rw[e]at B;clear e M hc;generalize jQ x=V at *;refine yJ (xW L Y) ?_;refine⟨u++[(c:Int)]++V,⟨by simp;omega,λp h=>by rw[A p h,<-B];simp⟩,?_⟩;rw[zBd,zBd,<-hq];rfl
  .have e:ZC C z c i (x::post)=jQ x++ZC C z c (i+1) post:=by rw[ZC,Os G];rfl
   rw[e]at B;clear e hc;generalize jQ x=V at *;by_cases ac:i=C
   .have E:z=0:=by
     by_cases h:z=0
     .exact h
     .exact absurd ⟨ac,h⟩ G
    refine yJ (xW L Y) ?_;refine⟨u++V,⟨by simp;omega,λp h=>by rw[A p h,<-B];simp⟩,?_⟩;rw[zBd];rfl
   ·(refine yJ (xW L Y) ?_)
    refine⟨u++V,⟨by simp;omega,λp h=>by rw[A p h,<-B];simp⟩,?_⟩;rw[zBd];rfl
 .rintro st ⟨u,⟨q0,q1⟩,rfl⟩;have e:=q1 [] zV;rw[show ZC C z c (ln m.args) []=[]from rfl,zB0]at e;subst e;have O:=zA yA u;clear q1 hT hc;by_cases W:z≠0/\m.args.length=C
  .rw[zA5 W];obtain⟨S,ap⟩:=W;refine WW ?_;refine zI [] Z Z ?_ Z
   show AV.sl false ((u.map yA++[yA 0]++m.data.map yA).take (u.map yA++[yA 0]++m.data.map yA).length)=_
   rw[zA8];unfold zE;rw[zBd,zBd,zBy];rfl
  .rw[Os W];by_cases S:z=0
   ·(refine WW ?_)
    refine zI [] Z Z ?_ Z
    show AV.sl false ((u.map yA++m.data.map yA).take (u.map yA++m.data.map yA).length)=_
    rw[zA8];unfold zE;rw[zBd];rfl
   .have ap:ln m.args≠C:=λh=>W ⟨S,h⟩
    refine WW ?_;refine zI [] Z Z ?_ Z
    show AV.sl false ((u.map yA++m.data.map yA).take (u.map yA++m.data.map yA).length)=_
    rw[zA8];unfold zE;rw[zBd];rfl
def K9 (p:Int×Int):AV:= .agg [iA p.1,iA p.2]
def qS (n:Int):List (Int×Int):=if n=0 then [(0,0),(0,0)]else if n=1 then [(0,0),(1,0),(0,1),(1,1)]else if n=2 then [(0,0),(1,0),(0,0)]
 else if n=3 then [(0,0),(0,0),(1,0),(1,0),(0,1),(0,1),(1,1),(1,1)]else if n=4 then [(1,0),(0,1),(0,2)]else [(0,0)]
def qm (n:Int):zO 161 [iA n] [] (zE K9 (qS n)) []:=by
 by_cases u:n=0
 .subst u;refine eM call161 λF hF=>?_
  (repeat' (first|refine aK ?_|refine yW (λhc=>?_) λhc=>?_|fail))
  exact zH
 by_cases h1:n=1
 .subst h1;refine eM call161 λF hF=>?_
  (repeat' (first|refine aK ?_|refine yW (λhc=>?_) λhc=>?_|fail))
  exact zH
 by_cases h2:n=2
 .subst h2;refine eM call161 λF hF=>?_
  (repeat' (first|refine aK ?_|refine yW (λhc=>?_) λhc=>?_|fail))
  exact zH
 by_cases z:n=3
 .subst z;refine eM call161 λF hF=>?_
  (repeat' (first|refine aK ?_|refine yW (λhc=>?_) λhc=>?_|fail))
  exact zH
 by_cases A:n=4
 .subst A;refine eM call161 λF hF=>?_
  (repeat' (first|refine aK ?_|refine yW (λhc=>?_) λhc=>?_|fail))
  exact zH
 rw[show qS n=[(0,0)] by simp[qS,u,h1,h2,z,A]];refine eM call161 λF hF=>?_
 (repeat' (first|refine aK ?_|refine yW (λhc=>?_) λhc=>?_|fail))
 exact zH
instance:Inhabited (Int×Int):=⟨(0,0)⟩
def UN (d:Dk) (s:Int×Int):Ph:=
 if nx (ad (ad (ad d))) 3=2 then⟨s.1,s.2,1+nx d (3-1+1),max (1+nx d (3-1+1)) (1+nx (ad (ad (ad (ad d)))) (2-1+1)+(1+nx (ad (ad (ad (ad (ad d))))) (2-1+1)))+nx (ad (ad (ad (ad (ad (ad d)))))) 4,1+nx (ad d) (2-1+1),nx (ad (ad d)) 3,1+nx (ad (ad (ad (ad d)))) (2-1+1),1+nx (ad (ad (ad (ad (ad d))))) (2-1+1)⟩
 else⟨s.1,s.2,1+nx d (3-1+1),max (1+nx d (3-1+1)) (0+0)+nx (ad (ad (ad (ad d)))) 4,1+nx (ad d) (2-1+1),nx (ad (ad d)) 3,0,0⟩
def S6 (d:Dk):Dk:=if nx (ad (ad (ad d))) 3=2 then ad (ad (ad (ad (ad (ad (ad d))))))else ad (ad (ad (ad (ad d))))
def JL (d:Dk) (l:List (Int×Int)):Nat->List Ph×Dk
 |0=>([],d)
 |i+1=>((JL d l i).1++[UN (JL d l i).2 (l.getD i dd)],S6 (JL d l i).2)
theorem UO (d:Dk) (l:List (Int×Int)):∀i,(JL d l i).1.length=i
 |0=>rfl
 |i+1=>by simp[JL,UO d l i]
def Jr (u:List Ph) (z:Bool) (i k:Nat):Bool:=i != k&&((u.getD i dd).ring==(u.getD k dd).ring||(u.getD i dd).group != (u.getD k dd).group||z&&((i:Int)+k).tmod 2==1)
def XN (z:List Ph) (u:Bool) (i:Nat):Nat->Int
 |0=>0
 |k+1=>if Jr z u i k=true then XN z u i k+2 ^ k else XN z u i k
theorem PX (z:List Ph) (u:Bool) (i:Nat):∀k,0<=XN z u i k/\XN z u i k<2 ^ k
 |0=>by simp[XN]
 |k+1=>by
  have:=PX z u i k;have e:(2:Int) ^ (k+1)=2 ^ k*2:=zGm 2 k;unfold XN
  split<;>omega
def fH (u:List Ph) (z:Bool) (n:Nat):List Int:=(List.range n).map λi=>XN u z i (ln u)
def VY (d:Dk):List Ph×Dk:=JL (ad (ad d)) (qS (nx d 6)) (qS (nx d 6)).length
def NS (d:Dk):Jn:=⟨(VY d).1,fH (VY d).1 (nx (VY d).2 4==3) (VY d).1.length,nx (ad d) 3⟩
def K7 (d:Dk):Dk:=ad (VY d).2
def NT (n:Int):1<=(qS n).length/\(qS n).length<=8:=by
 unfold qS
 (repeat' split)<;>simp
def zAk (k:Nat) (h:k<8):IntKind.i64.wrap (1*2 ^ (min ((k:Int)).toNat IntKind.i64.bits))=2 ^ k/\(2:Int) ^ k<=128:=by
 obtain rfl|rfl|rfl|rfl|rfl|rfl|rfl|rfl:k=0\/k=1\/k=2\/k=3\/k=4\/k=5\/k=6\/k=7:=by omega
 all_goals decide
theorem Vc (d:Dk):zO 91 [.ptr 1000 0 0] [(1000,fI d)] (wK (NS d)) [(1000,fI (K7 d))]:=by
 have hb:=yQ d 6 zB;have a1:=NT (nx d 6);have sc:=qm (nx d 6);have ej:NS d=⟨(VY d).1,fH (VY d).1 (nx (VY d).2 4==3) (VY d).1.length,nx (ad d) 3⟩:=rfl;have ed:K7 d=ad (VY d).2:=rfl;have ep:VY d=JL (ad (ad d)) (qS (nx d 6)) (qS (nx d 6)).length:=rfl;rw[ej,ed];generalize VY d=jp,qS (nx d 6)=l at *;have M:(l.map K9).length=ln l:=by simp
 refine eM call91 λF hF=>?_
 (repeat' (first|refine aK ?_|refine yW (λhc=>?_) λhc=>?_|(apply zG;apply xQ;(first|(refine vJ 161 ?_;first|refine wJ (zL (sc) Z Z Z Z Z) Z ?_|refine qA (zL (sc) Z Z Z Z Z) Z Z Z ?_|refine aO (zL (sc) Z Z Z Z Z) Z Z Z ?_)|(refine vJ 16 ?_;first|refine wJ (zL (yS _ _ zB zB) Z Z Z Z Z) Z ?_|refine qA (zL (yS _ _ zB zB) Z Z Z Z Z) Z Z Z ?_|refine aO (zL (yS _ _ zB zB) Z Z Z Z Z) Z Z Z ?_)))|fail))
 refine gL 4 0 1001 8 Z Z Z Z Z ?_
 refine wS (λn st=>∃i:Nat,n+i=ln l/\st=⟨[(0,.ptr 1000 0 0),(2,.ptr 2 0 0),(4,.ptr 4 0 0),(20,zE K9 l),(21,iA (ln l)),(22,iA i)],
   [(1000,fI (JL (ad (ad d)) l i).2),(2,.box [.s (.slice none 0 0),.s (.slice none 0 0),iA 0]),(4,.box [.ref 1001 0 ((JL (ad (ad d)) l i).1.map xN).length,.s (.slice none 0 0),iA (nx (ad d) 3)]),(1001,.arr 8 ((JL (ad (ad d)) l i).1.map xN) true)]⟩)
  (ln l) [1000,2,4,1001] [0,2,4,20,21,22] Z ⟨0,rfl,by rw[<-M];rfl⟩ ?_
 rintro n st ⟨i,hi,rfl⟩;by_cases R:i<ln l
 .have U:=yF K9 l i zB zB;rw[show((i:Int)).toNat=i from Z]at U;have I:(JL (ad (ad d)) l (i+1)).1.map xN=(JL (ad (ad d)) l i).1.map xN++[xN (UN (JL (ad (ad d)) l i).2 (l.getD i dd))]:=zBd;have hd:(JL (ad (ad d)) l (i+1)).2=S6 (JL (ad (ad d)) l i).2:=rfl;have ac:=UO (ad (ad d)) l i;generalize l.getD i dd=p at *;obtain⟨Y,p2⟩:=p;generalize S:JL (ad (ad d)) l (i+1)=q' at I hd;generalize JL (ad (ad d)) l i=q at *;obtain⟨ql,z⟩:=q;dsimp only at I hd ac⊢;have b0:=yQ z (3-1+1) zB;have b1:=yQ (ad (ad (ad (ad z)))) 4 zB;have b2:=yQ (ad (ad (ad (ad z)))) (2-1+1) zB;have b3:=yQ (ad (ad (ad (ad (ad z))))) (2-1+1) zB;have b4:=yQ (ad (ad (ad (ad (ad (ad z)))))) 4 zB;by_cases V:nx (ad (ad (ad z))) 3=2
  .rw[show UN z (Y,p2)=⟨Y,p2,1+nx z (3-1+1),max (1+nx z (3-1+1)) (1+nx (ad (ad (ad (ad z)))) (2-1+1)+(1+nx (ad (ad (ad (ad (ad z))))) (2-1+1)))+nx (ad (ad (ad (ad (ad (ad z)))))) 4,1+nx (ad z) (2-1+1),nx (ad (ad z)) 3,1+nx (ad (ad (ad (ad z)))) (2-1+1),1+nx (ad (ad (ad (ad (ad z))))) (2-1+1)⟩ by unfold UN;rw[zA5 V]]at I;rw[show S6 z=ad (ad (ad (ad (ad (ad (ad z)))))) by unfold S6;rw[zA5 V]]at hd
   (repeat' (first|refine aK ?_|refine yW (λhc=>?_) λhc=>?_|(apply zG;apply xQ;(first|(refine vJ 68 ?_;first|refine wJ (zL (jK _ _ _ zB zB zB) Z Z Z Z Z) Z ?_|refine qA (zL (jK _ _ _ zB zB zB) Z Z Z Z Z) Z Z Z ?_|refine aO (zL (jK _ _ _ zB zB zB) Z Z Z Z Z) Z Z Z ?_)|(refine vJ 16 ?_;first|refine wJ (zL (yS _ _ zB zB) Z Z Z Z Z) Z ?_|refine qA (zL (yS _ _ zB zB) Z Z Z Z Z) Z Z Z ?_|refine aO (zL (yS _ _ zB zB) Z Z Z Z Z) Z Z Z ?_)))|fail))
   exact⟨n-1,zB,i+1,zB,by rw[S,I,hd];rfl⟩
  .rw[show UN z (Y,p2)=⟨Y,p2,1+nx z (3-1+1),max (1+nx z (3-1+1)) (0+0)+nx (ad (ad (ad (ad z)))) 4,1+nx (ad z) (2-1+1),nx (ad (ad z)) 3,0,0⟩ by unfold UN;rw[Os V]]at I;rw[show S6 z=ad (ad (ad (ad (ad z)))) by unfold S6;rw[Os V]]at hd
   (repeat' (first|refine aK ?_|refine yW (λhc=>?_) λhc=>?_|(apply zG;apply xQ;(first|(refine vJ 68 ?_;first|refine wJ (zL (jK _ _ _ zB zB zB) Z Z Z Z Z) Z ?_|refine qA (zL (jK _ _ _ zB zB zB) Z Z Z Z Z) Z Z Z ?_|refine aO (zL (jK _ _ _ zB zB zB) Z Z Z Z Z) Z Z Z ?_)|(refine vJ 16 ?_;first|refine wJ (zL (yS _ _ zB zB) Z Z Z Z Z) Z ?_|refine qA (zL (yS _ _ zB zB) Z Z Z Z Z) Z Z Z ?_|refine aO (zL (yS _ _ zB zB) Z Z Z Z Z) Z Z Z ?_)))|fail))
   exact⟨n-1,zB,i+1,zB,by rw[S,I,hd];rfl⟩
 obtain rfl:i=ln l:=by omega
 have ag:jp.1.length=ln l:=by rw[ep];exact UO _ _ _
 rw[<-ep];clear ep ej ed sc M hi R;obtain⟨u,dj⟩:=jp;dsimp only at ag⊢;have O:(u.map xN).length=ln u:=by simp
 generalize nx (ad d) 3=W
 (repeat' (first|refine aK ?_|refine yW (λhc=>?_) λhc=>?_|(apply zG;apply xQ;(first|(refine vJ 16 ?_;first|refine wJ (zL (yS _ _ zB zB) Z Z Z Z Z) Z ?_|refine qA (zL (yS _ _ zB zB) Z Z Z Z Z) Z Z Z ?_|refine aO (zL (yS _ _ zB zB) Z Z Z Z Z) Z Z Z ?_)))|fail))
 generalize nx dj 4=n4
 refine kY (st':=⟨[(0,.ptr 1000 0 0),(2,.ptr 2 0 0),(4,.ptr 4 0 0),(8,bA (n4==3)),(69,zE xN u),(70,iA (ln u)),(71,iA 0)],
   [(1000,fI (ad dj)),(2,.box [.s (.slice none 0 0),.s (.slice none 0 0),iA 0]),(4,.box [zE xN u,.s (.slice none 0 0),iA W])]⟩) [1000,2,4] [0,2,4,8,69,70,71] Z (by
  have e1:zE xN u= .sl false (List.take (u.map xN).length (List.drop 0 (u.map xN))):=by
   rw[zBr,zA8];rfl
  rw[e1,<-O]
  rfl) ?_
 generalize (n4==3)=A;generalize ad dj=dk;refine gL 4 1 1002 1 Z Z Z Z Z ?_
 refine wS (λn st=>∃i:Nat,n+i=ln u/\st=⟨[(0,.ptr 1000 0 0),(2,.ptr 2 0 0),(4,.ptr 4 0 0),(8,bA A),(69,zE xN u),(70,iA (ln u)),(71,iA i)],
   [(1000,fI dk),(2,.box [.s (.slice none 0 0),.s (.slice none 0 0),iA 0]),(4,.box [zE xN u,.ref 1002 0 ((fH u A i).map iA).length,iA W]),(1002,.arr 1 ((fH u A i).map iA) true)]⟩)
  (ln u) [1000,2,4,1002] [0,2,4,8,69,70,71] Z ⟨0,rfl,rfl⟩ ?_
 clear n;rintro n st ⟨i,hi,rfl⟩;by_cases R:i<ln u
 .have U:=yF xN u i zB zB;rw[show((i:Int)).toNat=i from Z]at U;have ht:(fH u A (i+1)).map iA=(fH u A i).map iA++[iA (XN u A i (ln u))]:=by unfold fH;rw[zC5];simp
  have ar:(fH u A i).length=i:=by simp[fH]
  obtain⟨p,hp⟩:∃p,u.getD i dd=p:=⟨_,rfl⟩;rw[hp]at U;obtain⟨C,G⟩:∃r,fH u A i=r:=⟨_,rfl⟩;rw[G]at ht ar⊢
  (repeat' (first|refine aK ?_|refine yW (λhc=>?_) λhc=>?_|fail))
  refine wS (λn st=>∃k:Nat,n+k=ln u/\st=⟨[(0,.ptr 1000 0 0),(2,.ptr 2 0 0),(4,.ptr 4 0 0),(8,bA A),(9,iA i),(10,.ptr 10 0 0),(11,iA (XN u A i k)),(69,zE xN u),(70,iA (ln u)),(71,iA i),(77,zE xN u),(78,iA (ln u)),(79,iA k)],
    [(1000,fI dk),(2,.box [.s (.slice none 0 0),.s (.slice none 0 0),iA 0]),(4,.box [zE xN u,.ref 1002 0 (C.map iA).length,iA W]),(10,.box [iA p.ring,iA p.group,iA p.ming,iA p.maxg,iA p.yel,iA p.red,iA p.walk,iA p.clear]),(1002,.arr 1 (C.map iA) true)]⟩)
   (ln u) [1000,2,4,10,1002] [0,2,4,8,9,10,11,69,70,71,77,78,79] Z ⟨0,rfl,by rw[<-O];rfl⟩ ?_
  rintro L st ⟨k,hk,rfl⟩;by_cases ax:k<ln u
  .have av:=yF xN u k zB zB;rw[show((k:Int)).toNat=k from Z]at av
   have B:XN u A i (k+1)=if Jr u A i k=true then XN u A i k+2 ^ k else XN u A i k:=rfl
   have hc:Jr u A i k=(i != k&&(p.ring==(u.getD k dd).ring||p.group != (u.getD k dd).group||A&&((i:Int)+k).tmod 2==1)):=by rw[<-hp];rfl
   obtain⟨hw,au⟩:=zAk k zB;obtain⟨az,hr1⟩:=PX u A i k;have ap:0<=(2:Int) ^ k:=by omega
   rw[show(2:Int) ^ k=p2 k from Z]at B hr1 ap au;clear hw;generalize u.getD k dd=q at *;by_cases E:i=k
   .rw[Os (by rw[hc];simp[E])]at B;clear hc;subst E
    (repeat' (first|refine aK ?_|refine yW (λhc=>?_) λhc=>?_|fail))
    exact⟨L-1,zB,i+1,zB,by rw[B];rfl⟩
   by_cases h1:p.ring=q.ring
   .rw[zA5 (by rw[hc];simp[E,h1])]at B;clear hc
    (repeat' (first|refine aK ?_|refine yW (λhc=>?_) λhc=>?_|fail))
    exact⟨L-1,zB,k+1,zB,by rw[B];rfl⟩
   by_cases h2:p.group=q.group
   .cases A with
    |false=>
     rw[Os (by rw[hc];simp[E,h1,h2])]at B;clear hc
     (repeat' (first|refine aK ?_|refine yW (λhc=>?_) λhc=>?_|fail))
     exact⟨L-1,zB,k+1,zB,by rw[B];rfl⟩
    | true=>
     by_cases h3:((i:Int)+k).tmod 2=1
     .rw[zA5 (by rw[hc];simp[E,h1,h2,h3])]at B;clear hc
      (repeat' (first|refine aK ?_|refine yW (λhc=>?_) λhc=>?_|fail))
      exact⟨L-1,zB,k+1,zB,by rw[B];rfl⟩
     .rw[Os (by rw[hc];simp[E,h1,h2,h3])]at B;clear hc
      (repeat' (first|refine aK ?_|refine yW (λhc=>?_) λhc=>?_|fail))
      exact⟨L-1,zB,k+1,zB,by rw[B];rfl⟩
   .rw[zA5 (by rw[hc];simp[E,h1,h2])]at B;clear hc
    (repeat' (first|refine aK ?_|refine yW (λhc=>?_) λhc=>?_|fail))
    exact⟨L-1,zB,k+1,zB,by rw[B];rfl⟩
  .obtain rfl:k=ln u:=by omega
   have hr:=PX u A i (ln u)
   (repeat' (first|refine aK ?_|refine yW (λhc=>?_) λhc=>?_|fail))
   exact⟨n-1,zB,i+1,zB,by rw[ht];rfl⟩
 obtain rfl:i=ln u:=by omega
 (repeat' (first|refine aK ?_|refine yW (λhc=>?_) λhc=>?_|fail))
 exact zP [1000] Z Z (zBq (λx=>AV.agg [zE xN u,AV.sl false x,iA W]) zA8) Z
