/- Part 10. -/
import Derived.Test.YtdjfiebpnmieoaaGreatC07
namespace Go.Proofs.YtdjfiebpnmieoaaGreat.Av
open Tryz
set_option linter.all false
set_option maxRecDepth 4000
set_option maxHeartbeats 2000000
open List renaming length->ln,getD->nm
open Inhabited renaming default->dd
variable {m n:Int}{b:List Int}{i:Nat}
def RB:List Int->Nat->Int->Int×Int×Int
 | [],_,_=>(0,0,6)
 |x::r,i,n=>if i=5 then(0,0,6)else if 128<=x then RB r (i+1) (n+x.tmod 128*128 ^ i)else if 4294967295<n+x.tmod 128*128 ^ i\/(0<i/\x=0)then(0,0,6)else(n+x.tmod 128*128 ^ i,i+1,0)
def ZA (b:List Int):Int×Int×Int:=RB b 0 0
def Lr (n:Int):Int:=if n<0\/4294967295<n then 0 else if n<128 then 1 else if n<16384 then 2 else if n<2097152 then 3 else if n<268435456 then 4 else 5
def wu (m:Int):Int:=if m<128 then 0 else if m<16384 then 1 else if m<2097152 then 2 else if m<268435456 then 3 else 4
def Nm (u:0<=n) (h1:n<=4294967295):Lr n=1+wu n:=by grind [Lr,wu]
def vu (u:128<=m) (h1:m<=4294967295):wu m=1+wu (m/128):=by grind [wu]
def S0 (h:m<128):wu m=0:=Os h
def AU (n:Int):zO 325 [iA n] [] (iA (Lr n)) []:=by
 by_cases h:n<0\/4294967295<n
 .have e:Lr n=0:=Os h;rw[e];by_cases h1:n<0
  ·(refine eM call325 λF hF=>?_)
   exact lc
  .have h2:=h.resolve_left h1;refine eM call325 λF hF=>?_
   exact lc
 have h1:0<=n:=by omega
 have h2:n<=4294967295:=by omega
 rw[Nm h1 h2];generalize hs:1+wu n=s;refine eM call325 λF hF=>?_
 refine WW ?_;refine gE (5) [] [] [] [0,3] Z (λz T U C=>∃(m:Int) (k:Int),(0<=m/\m<=4294967295/\k=6-z/\1<=k/\k<=5/\(k=2->m<=33554431)/\(k=3->m<=262143)/\(k=4->m<=2047)/\(k=5->m<=15)/\s=k+wu m)/\C=⟨(0,iA m)::(3,iA k)::T,U⟩) ?_;(conv=>whnf);refine⟨?_,?_⟩
 .exact⟨n,1,⟨h1,h2,zB,zB,zB,zB,zB,zB,zB,hs.symm⟩,rfl⟩
 .rintro z st ⟨m,k,⟨q0,q1,q2,q3,q4,q5,q6,q7,q8,q9⟩,rfl⟩;by_cases B:128<=m
  .have hd:=vu B q1;have u:m.tdiv 128=m/128:=zCe q0;have A:UJ .i64 (m.tdiv 128):=⟨zB,zB⟩;refine WW ?_;refine⟨z-1,zB,m.tdiv 128,k+1,⟨zB,zB,zB,zB,zB,zB,zB,zB,zB,by rw[u];omega⟩,rfl⟩
  .rw[S0 zB]at q9;obtain rfl:s=k:=by omega
   exact lc
def uu (h:i<=4):((128:Int) ^ i=1/\i=0)\/((128:Int) ^ i=128/\i=1)\/((128:Int) ^ i=16384/\i=2)\/((128:Int) ^ i=2097152/\i=3)\/((128:Int) ^ i=268435456/\i=4):=by
 obtain rfl|rfl|rfl|rfl|rfl:i=0\/i=1\/i=2\/i=3\/i=4:=by omega
 all_goals simp
def U6 {i:Nat} {x:Int} (h:i<=4) (u:0<=n) (h1:n<128 ^ i) (z:0<=x) (A:x<128):(Lr (n+x*128 ^ i)=(i:Int)+1)↔¬(4294967295<n+x*128 ^ i\/(0<i/\x=0)):=by
 rcases uu h with⟨e,rfl⟩|⟨e,rfl⟩|⟨e,rfl⟩|⟨e,rfl⟩|⟨e,rfl⟩
 all_goals rw[e]at h1⊢
 all_goals unfold Lr
 all_goals repeat' split
 all_goals omega
def Mm {x P:Int} (u:0<=x) (B:x<128) (z:1<=P) (A:P<=268435456):0<=x*P/\x*P<=127*P:=by
 refine⟨Int.mul_nonneg u zB,Int.mul_le_mul_of_nonneg_right zB zB⟩
theorem T6 (b:List Int) (hb:BY b) (hn:ln b<=100000):zO 327 [zD yA b] [] (.tup [iA (ZA b).1,iA (ZA b).2.1,iA (ZA b).2.2]) []:=by
 have hl:=zA yA b;refine eM call327 λF hF=>?_
 refine WW ?_;refine gE (6) [] [] [0] [5,6,7,0] Z (λzn T U zs=>∃(i:Nat) (n:Int),(zn+i=6/\i<=5/\i<=ln b/\0<=n/\n<128 ^ i/\ZA b=RB (b.drop i) i n)/\zs=⟨(5,iA n)::(6,iA (128 ^ i:Int))::(7,iA i)::T,U⟩) ?_;(conv=>whnf);refine⟨?_,?_⟩
 .exact⟨0,0,⟨rfl,zB,zB,zB,by decide,rfl⟩,rfl⟩
 .rintro zn st ⟨i,n,⟨q0,q1,q2,q3,q4,q5⟩,rfl⟩;rw[q5];clear q5;by_cases E:i<ln b
  case neg=>
   have e:b.drop i=[]:=zDo zB;rw[e]
   show uR _ _ _ _ _ (bK (eo 0 (UT _ _ _ _ (Fin _ _ [] (.tup [iA 0,iA 0,iA 6]) []))) _)
   generalize (128 ^ i:Int)=z at *;exact lc
  have hx:=hb (b.getD i dd) (by simp[nm,E]);have hy:=zJ yA b i E;have e:b.drop i=b.getD i dd::b.drop (i+1):=by rw[zDu E];simp[nm,E]
  rw[e];clear e;generalize hr:b.drop (i+1)=r at *;generalize V:b.getD i dd=x at *;by_cases L:i=5
  .subst L
   show uR _ _ _ _ _ (bK (eo 0 (UT _ _ _ _ (Fin _ _ [] (.tup [iA 0,iA 0,iA 6]) []))) _)
   generalize (128 ^ 5:Int)=z at *;exact lc
  have ht:x.tmod 128=x % 128:=zBm hx.1;have O:=uu (i:=i) zB;have ac:1<=(128:Int) ^ i/\(128:Int) ^ i<=268435456:=by omega
  have Y:=Mm (x:=x.tmod 128) (P:=128 ^ i) zB zB zB zB;have B:=U6 (i:=i) (n:=n) (x:=x.tmod 128) zB q3 q4 zB zB;have M:(128:Int) ^ (i+1)=128 ^ i*128:=rfl;by_cases I:128<=x
  .have e:RB (x::r) i n=RB r (i+1) (n+x.tmod 128*128 ^ i):=by rw[RB,Of L,Os I]
   rw[e];clear B O V;generalize (128:Int) ^ i=z at *;have G:UJ .i64 (x.tmod 128*z):=by generalize x.tmod 128*z=W at *;exact⟨zB,zB⟩
   have A:UJ .i64 (n+x.tmod 128*z):=by generalize x.tmod 128*z=W at *;exact⟨zB,zB⟩
   have S:0<=n+x.tmod 128*z/\n+x.tmod 128*z<z*128:=by generalize x.tmod 128*z=W at *;omega
   (repeat' (first|refine uD ?_|apply yZ|apply xM|intro hc|(apply zG;first|(apply xZ;first|refine yE (dT Z Z G) Z ?_|refine yE (dS Z Z A) Z ?_)|refine SM ?_)|fail))
   refine⟨zn-1,zB,i+1,n+x.tmod 128*z,⟨zB,zB,zB,S.1,by rw[M];exact S.2,by rw[hr]⟩,?_⟩;rw[M];rfl
  .have C:x.tmod 128=x:=by omega
   have e:RB (x::r) i n=if 4294967295<n+x.tmod 128*128 ^ i\/(0<i/\x=0)then(0,0,6)else(n+x.tmod 128*128 ^ i,(i:Int)+1,0):=by rw[RB,Of L,Of I]
   have c:=AU (n+x.tmod 128*128 ^ i);rw[e];rw[C]at B;rw[C]at c Y⊢;clear O V e;generalize (128:Int) ^ i=z at *;have G:UJ .i64 (x.tmod 128*z):=by rw[C];generalize x*z=W at *;exact⟨zB,zB⟩
   have A:UJ .i64 (n+x.tmod 128*z):=by rw[C];generalize x*z=W at *;exact⟨zB,zB⟩
   by_cases u:4294967295<n+x*z\/(0<i/\x=0)
   .have ag:Lr (n+x*z)≠(i:Int)+1:=λh=>B.1 h u
    rw[Os u];clear B u;generalize Lr (n+x*z)=s at *;rw[<-C]at c Y
    (have gd:=c;(repeat' (first|refine uD ?_|apply yZ|apply xM|intro hc|(apply zG;first|(apply xZ;first|refine yE (dT Z Z G) Z ?_|refine yE (dS Z Z A) Z ?_)|refine SM ?_)|fail))<;>clear gd)
    exact zI
   .have R:=B.2 u;rw[R]at c;rw[Of u];clear B u R;rw[<-C]at c Y⊢
    (have gd:=c;(repeat' (first|refine uD ?_|apply yZ|apply xM|intro hc|(apply zG;first|(apply xZ;first|refine yE (dT Z Z G) Z ?_|refine yE (dS Z Z A) Z ?_)|refine SM ?_)|fail))<;>clear gd)
    exact zI
section
variable {P:Program} {tm:List (Nat×AV)} {h:List (Nat×wB)} {tx ty:Nat} {x y:Operand}
def Q0:∀k:_root_.Fin 256,IntKind.u8.wrap (BitVec.ofInt IntKind.u8.bits (k.val:Int) &&& BitVec.ofInt IntKind.u8.bits 127).toNat=((k.val:Int)).tmod 128:=by decide +kernel
def XS (hx:yY (zM tm) x= .s (.int .u8 m)) (z:yY (zM tm) y= .s (.int .u8 127)) (u:0<=m/\m<256):vC P ⟨tm,h⟩ (.binOp .and tx x y ty) (.s (.int .u8 (m.tmod 128))) [] [] []:=by
 have e:=Q0 ⟨m.toNat,zB⟩
 grind [yY,zM,MR]
end
def qu (a b:Nat) (u:a<2 ^ 60) (hb:b<2 ^ 60):Sj a b=((a ||| b:Nat):Int):=by
 have h:=zFk u hb;unfold Sj;rw[show BitVec.ofInt IntKind.i64.bits (a:Int)=BitVec.ofNat IntKind.i64.bits a from zDh ..];rw[show BitVec.ofInt IntKind.i64.bits (b:Int)=BitVec.ofNat IntKind.i64.bits b from zDh ..];rw[zFu,zDf,zDf,zC9 (zBn u (zD8 yX yX)),zC9 (zBn hb (zD8 yX yX))];refine jD ⟨?_,?_⟩
 all_goals grind
def N0 {i:Nat} {y:Int} (h:i<=4) (G:0<=n) (h1:n<128 ^ i) (C:0<=y) (I:y<128):Sj n (IntKind.i64.wrap (y*2 ^ (min ((7*(i:Int)).toNat) IntKind.i64.bits)))=n+y*128 ^ i:=by
 have hb:IntKind.i64.bits=64:=rfl;have e1:min ((7*(i:Int)).toNat) 64=7*i:=by omega
 have E:(2:Int) ^ (7*i)=128 ^ i:=by rw[Int.pow_mul];rfl
 rw[hb,e1,E];have u:1<=(128:Int) ^ i/\(128:Int) ^ i<=268435456:=by have:=uu h;omega
 have B:=Mm C I u.1 u.2;rw[show IntKind.i64.wrap (y*128 ^ i)=y*128 ^ i from jD (k:= .i64) (by unfold UJ;generalize y*128 ^ i=M,(128:Int) ^ i=L at *;omega)];obtain⟨a,rfl⟩:=zB4 G;obtain⟨c,rfl⟩:=zB4 C;have z:(128:Int) ^ i=((128 ^ i:Nat):Int):=by simp
 rw[z]at h1 B u⊢;have A:a<128 ^ i:=by omega
 rw[show((c:Int)*((128 ^ i:Nat):Int))=((c*128 ^ i:Nat):Int) by simp]at B⊢;rw[qu a (c*128 ^ i) (by have:(2:Nat) ^ 60=1152921504606846976:=rfl;omega) (by have:(2:Nat) ^ 60=1152921504606846976:=rfl;omega)];have e3:(128:Nat) ^ i=2 ^ (7*i):=by rw[Nat.pow_mul]
 rw[e3]at A⊢;have:=zD1 A c;rw[zFs]at this;rw[Nat.or_comm,<-this];omega
theorem S6 (b:List Int) (hb:BY b) (hn:ln b<=100000):zO 342 [zD yA b] [] (.tup [iA (ZA b).1,iA (ZA b).2.1,iA (ZA b).2.2]) []:=by
 have hl:=zA yA b;refine eM call342 λF hF=>?_
 refine WW ?_;refine qC (b) [] [] [8,9] [5,10,8,9] Z (λi ga T U zs=>∃n:Int,(0<=n/\n<128 ^ i/\i<=5/\∀post,b=ga++post->ZA b=RB post i n)/\zs=⟨(5,iA n)::(10,iA i)::T,U⟩) (Lp ?_ ?_ ?_)
 .exact⟨0,⟨zB,by decide,zB,λpost h=>by rw[h];rfl⟩,rfl⟩
 .rintro i ga x r st hx hi ⟨n,⟨q0,q1,q2,q3⟩,rfl⟩;have hy:=yI yA hx hi;have W:=zV hx hi;have z:=hb x (yV hx);rw[q3 _ hx]
  have q4:∀post,b=ga++[x]++post->post=r:=λpost h=>by
   rw[hx,zA0]at h;simpa using h.symm
  clear q3 hx;by_cases C:i=5
  .subst C
   show uR _ _ _ _ _ (bK (eo 0 (UT _ _ _ _ (Fin _ _ [] (.tup [iA 0,iA 0,iA 6]) []))) _)
   clear q4;exact lc
  have ht:x.tmod 128=x % 128:=zBm z.1;have G:=uu (i:=i) zB;have V:1<=(128:Int) ^ i/\(128:Int) ^ i<=268435456:=by omega
  have O:=Mm (x:=x.tmod 128) (P:=128 ^ i) zB zB zB zB;have I:=N0 (i:=i) (n:=n) (y:=x.tmod 128) zB q0 q1 zB zB;have B:(128:Int) ^ (i+1)=128 ^ i*128:=rfl;by_cases A:128<=x
  .have e:RB (x::r) i n=RB r (i+1) (n+x.tmod 128*128 ^ i):=by rw[RB,Of C,Os A]
   rw[e]
   have E:0<=n+x.tmod 128*128 ^ i/\n+x.tmod 128*128 ^ i<128 ^ (i+1):=by
    rw[B];generalize x.tmod 128*128 ^ i=R at *;omega
   clear G e O;generalize n+x.tmod 128*128 ^ i=M at*
   (repeat' (first|refine uD ?_|apply yZ|apply xM|intro hc|(apply zG;first|(apply xZ;refine yE (XS Z Z z) Z ?_)|refine SM ?_)|fail))
   refine⟨M,⟨E.1,E.2,zB,λpost h=>by rw[q4 post h]⟩,?_⟩;rw[<-I];rfl
  .have e:RB (x::r) i n=if 4294967295<n+x.tmod 128*128 ^ i\/(0<i/\x=0)then(0,0,6)else(n+x.tmod 128*128 ^ i,(i:Int)+1,0):=by rw[RB,Of C,Of A]
   rw[e]
   have E:0<=n+x.tmod 128*128 ^ i/\n+x.tmod 128*128 ^ i<128 ^ (i+1):=by
    rw[B];generalize x.tmod 128*128 ^ i=R at *;omega
   clear G e O q4 B;generalize n+x.tmod 128*128 ^ i=M at *;by_cases u:4294967295<M\/(0<i/\x=0)
   .rw[Os u];by_cases S:4294967295<M
    .clear u
     (repeat' (first|refine uD ?_|apply yZ|apply xM|intro hc|(apply zG;first|(apply xZ;refine yE (XS Z Z z) Z ?_)|refine SM ?_)|fail))
     exact zI
    .obtain⟨h1,h2⟩:=u.resolve_left S
     (repeat' (first|refine uD ?_|apply yZ|apply xM|intro hc|(apply zG;first|(apply xZ;refine yE (XS Z Z z) Z ?_)|refine SM ?_)|fail))
     exact zI
   .rw[Of u];by_cases L:0<i
    .have Y:x≠0:=λh=>u (.inr ⟨L,h⟩)
     (repeat' (first|refine uD ?_|apply yZ|apply xM|intro hc|(apply zG;first|(apply xZ;refine yE (XS Z Z z) Z ?_)|refine SM ?_)|fail))
     rw[<-I];exact zI
    ·(repeat' (first|refine uD ?_|apply yZ|apply xM|intro hc|(apply zG;first|(apply xZ;refine yE (XS Z Z z) Z ?_)|refine SM ?_)|fail))
     rw[<-I];exact zI
 .rintro st ⟨n,⟨q0,q1,q2,q3⟩,rfl⟩;rw[q3 [] zW]
  show uR _ _ _ _ _ (bK (eo 0 (UT _ _ _ _ (Fin _ _ [] (.tup [iA 0,iA 0,iA 6]) []))) _)
  exact lc
theorem Lm:∀(r:List Int) (i:Nat) (n:Int),BY r->0<=n->(RB r i n=(0,0,6))\/((RB r i n).2.2=0/\0<=(RB r i n).1/\(RB r i n).1<=4294967295/\(i:Int)+1<=(RB r i n).2.1/\(RB r i n).2.1<=i+ln r)
 | [],i,n,_,_=> .inl Z
 | x::r,i,n,hb,B=>by
  have hx:=hb x zW
  have z:0<=n+x.tmod 128*128 ^ i:=by
   have h1:0<=x.tmod 128:=by rw[zBm hx.1];omega
   have h2:(0:Int)<=128 ^ i:=Int.pow_nonneg zB;have:=Int.mul_nonneg h1 h2;omega
  rw[RB];by_cases u:i=5
  .exact .inl (Os u)
  rw[Of u];by_cases h1:128<=x
  .rw[Os h1]
   rcases Lm r (i+1) (n+x.tmod 128*128 ^ i) (λy A=>hb y (by simp[A])) z with h|⟨a,b,c,d,e⟩
   .exact .inl h
   .refine .inr ⟨a,b,c,zB,?_⟩;rw[zAm];omega
  .rw[Of h1];by_cases h2:4294967295<n+x.tmod 128*128 ^ i\/(0<i/\x=0)
   .exact .inl (Os h2)
   .rw[Of h2];refine .inr ⟨rfl,z,zB,zCn _,?_⟩
    show(i:Int)+1<=_
    rw[zAm];omega
def EG (b:List Int) (hb:BY b):ZA b=(0,0,6)\/((ZA b).2.2=0/\0<=(ZA b).1/\(ZA b).1<=4294967295/\1<=(ZA b).2.1/\(ZA b).2.1<=ln b):=by
 have:=Lm b 0 0 hb (zCn _)
 grind [BY,ZA]
def UF:Nat->List Int->Option (List Int×List Int)
 |0,b=>some ([],b)
 |n+1,b=>if(ZA b).2.2=0 then(match UF n (b.drop (ZA b).2.1.toNat)with|none=>none|some (l,r)=>some ((ZA b).1::l,r))else none
def Sx (l:List Int):Option (List Int×List Int)->Option (List Int×List Int)
 |none=>none
 |some (k,r)=>some (l++k,r)
def EH (o:Option (List Int×List Int)):Sx [] o=o:=by
 cases o with
 |none=>rfl
 |some p=>rfl
def xd {l:List Int} {n:Nat} (h:(ZA b).2.2≠0):Sx l (UF (n+1) b)=none:=by
 rw[UF,Of h];rfl
def wd {l:List Int} {n:Nat} (h:(ZA b).2.2=0):Sx l (UF (n+1) b)=Sx (l++[(ZA b).1]) (UF n (b.drop (ZA b).2.1.toNat)):=by grind [ZA,Sx,UF]
def Hf:Option (List Int×List Int)->AV
 |none=> .tup [zD iA [],zD yA [],bA false]
 |some (l,r)=> .tup [zD iA l,zD yA r,bA true]
def PS (b:List Int) (n:Nat) (hb:BY b) (B:ln b<=100000) (L:n<=1000):zO 303 [zD yA b,iA n] [] (Hf (UF n b)) []:=by
 refine eM call303 λF hF=>?_
 refine WW ?_;refine uG 12 Z ?_;refine yW (n) [12] [] [13] [0,7,14,13] Z (λi T U I=>∃u c,(ln u=i/\BY c/\c.length<=100000/\UF n b=Sx u (UF (n-i) c))/\I=⟨(0,zD yA c)::(7,.ref 12 0 (u.map iA).length)::(14,iA i)::T,(12,.arr 1 (u.map iA) true)::U⟩) (Lp ?_ ?_ ?_)
 .exact⟨[],b,⟨rfl,hb,B,by rw[EH];rfl⟩,rfl⟩
 .rintro i st hi ⟨u,c,⟨q0,q1,q2,q3⟩,rfl⟩;have hd:=S6 c q1 q2;have hl:=zA yA c;have E:=zA iA u;rw[show n-i=(n-(i+1))+1 by omega]at q3
  rcases EG c q1 with h|⟨h1,h2,h3,h4,h5⟩
  .rw[q3,xd (by rw[h];decide)];rw[h]at hd;clear q3 h
   show uR _ _ _ _ _ (bK (eo 0 (UT _ _ _ _ (Fin _ _ [] (.tup [zD iA [],zD yA [],bA false]) []))) _)
   exact lk hd
  .rw[wd h1]at q3;rw[h1]at hd;have A:BY (c.drop (ZA c).2.1.toNat):=λy G=>q1 y (zBj G)
   have C:(c.drop (ZA c).2.1.toNat).length<=100000:=by rw[zA8];omega
   clear h1;rw[q3];generalize (ZA c).1=v,(ZA c).2.1=k at *;refine zQ hd ?_;refine⟨u++[v],c.drop k.toNat,⟨by simp[q0],A,C,rfl⟩,?_⟩;rw[zAf];rfl
 .rintro st ⟨u,c,⟨q0,q1,q2,q3⟩,rfl⟩;rw[q3,zCl]
  show uR _ _ _ _ _ (bK (eo 0 (UT _ _ _ _ (Fin _ _ [] (.tup [zD iA (u++[]),zD yA c,bA true]) []))) _)
  rw[zA2];refine WW ?_;exact zH [] Z Z (zAv (λz=>AV.tup [z,zD yA c,bA true]) (dP _ _)) Z
def TM (b:List Int) (n:Nat) (hb:BY b) (B:ln b<=100000) (L:n<=1000):zO 280 [zD yA b,iA n] [] (Hf (UF n b)) []:=by
 refine eM call280 λF hF=>?_
 refine WW ?_;refine zS 7 1001 1 Z Z Z ?_;refine yW (n) [1001] [] [11] [0,7,12,11] Z (λi T U I=>∃u c,(ln u=i/\BY c/\c.length<=100000/\UF n b=Sx u (UF (n-i) c))/\I=⟨(0,zD yA c)::(7,.ref 1001 0 (u.map iA).length)::(12,iA i)::T,(1001,.arr 1 (u.map iA) true)::U⟩) (Lp ?_ ?_ ?_)
 .exact⟨[],b,⟨rfl,hb,B,by rw[EH];rfl⟩,rfl⟩
 .rintro i st hi ⟨u,c,⟨q0,q1,q2,q3⟩,rfl⟩;have hd:=T6 c q1 q2;have hl:=zA yA c;have E:=zA iA u;rw[show n-i=(n-(i+1))+1 by omega]at q3
  rcases EG c q1 with h|⟨h1,h2,h3,h4,h5⟩
  .rw[q3,xd (by rw[h];decide)];rw[h]at hd;clear q3 h
   show uR _ _ _ _ _ (bK (eo 0 (UT _ _ _ _ (Fin _ _ [] (.tup [zD iA [],zD yA [],bA false]) []))) _)
   exact lk hd
  .rw[wd h1]at q3;rw[h1]at hd;have A:BY (c.drop (ZA c).2.1.toNat):=λy G=>q1 y (zBj G)
   have C:(c.drop (ZA c).2.1.toNat).length<=100000:=by rw[zA8];omega
   clear h1;rw[q3];generalize (ZA c).1=v,(ZA c).2.1=k at *;refine zQ hd ?_;refine⟨u++[v],c.drop k.toNat,⟨by simp[q0],A,C,rfl⟩,?_⟩;rw[zAf];rfl
 .rintro st ⟨u,c,⟨q0,q1,q2,q3⟩,rfl⟩;rw[q3,zCl]
  show uR _ _ _ _ _ (bK (eo 0 (UT _ _ _ _ (Fin _ _ [] (.tup [zD iA (u++[]),zD yA c,bA true]) []))) _)
  rw[zA2];refine WW ?_;exact zH [] Z Z (zAv (λz=>AV.tup [z,zD yA c,bA true]) (dP _ _)) Z
def vd:Nat->Int->List Int
 |0,n=>[n]
 |f+1,n=>if n<128 then [n]else(n % 128+128)::vd f (n/128)
def gN (n:Int):List Int:=vd 4 n
def ud {z:Nat} (h:n<128 ^ (z+1+1)):n/128<128 ^ (z+1):=Int.ediv_lt_of_lt_mul yX (by rw[zFp]at h;exact h)
theorem TN {f:Nat} (h:n<128):vd f n=[n]:=by
 cases f with
 |zero=>rfl
 |succ f=>exact Os h
theorem EJ {f:Nat} (h:128<=n):vd (f+1) n=(n % 128+128)::vd f (n/128):=Of zB
def Rx (n:Int) (C:0<=n) (h1:n<=4294967295):zO 276 [iA n] [] (.tup [zD yA (gN n),iA 0]) []:=by
 have cs:=AU n
 have M:1<=Lr n:=by
  rw[Nm C h1];unfold wu
  repeat' split
  all_goals omega
 generalize Lr n=s at *;generalize E:gN n=R;refine eM call276 λF hF=>?_
 refine zQ cs ?_;refine zS 4 1001 1 Z Z Z ?_;refine gE (4) [1001] [] [] [0,4] Z (λA T U S=>∃(m:Int) (u:List Int),(0<=m/\m<=4294967295/\m<128 ^ (A+1)/\u.length+A=4/\u++vd A m=R)/\S=⟨(0,iA m)::(4,.ref 1001 0 (u.map yA).length)::T,(1001,.arr 1 (u.map yA) true)::U⟩) ?_;(conv=>whnf);refine⟨?_,?_⟩
 .exact⟨n,[],⟨C,h1,by show n<34359738368;omega,rfl,E⟩,rfl⟩
 .rintro A st ⟨m,u,⟨q0,q1,q2,q3,q4⟩,rfl⟩;have I:=zA yA u;by_cases L:128<=m
  .obtain⟨z,rfl⟩:∃z,A=z+1:=by
    cases A with
    |zero=>exfalso;have:m<128:=q2;omega
    |succ z=>exact⟨z,rfl⟩
   rw[EJ L]at q4;have hd:=ud q2;have O:m.tmod 128=m % 128:=zBm q0;have B:m.tdiv 128=m/128:=zCe q0;have G:UJ .i64 (m.tdiv 128):=⟨zB,zB⟩;clear q2;refine WW ?_;refine⟨z,zB,m.tdiv 128,u++[m.tmod 128+128],⟨zB,zB,by rw[B];exact hd,by simp;omega,by rw[B,O,zA0];exact q4⟩,?_⟩;rw[zAf];rfl
  .rw[TN zB]at q4;clear q2;subst q4;refine WW ?_;refine zH [] Z Z ?_ Z
   show AV.tup [AV.sl false ((u.map yA++[yA m]).take (u.map yA++[yA m]).length),iA 0]=_
   rw[zAb];unfold zD;rw[zAf];rfl
def ku (u:0<=n) (h1:n<=4294967295):jZ n 127=n % 128:=by
 obtain⟨a,rfl⟩:=zB4 u;unfold jZ;rw[show BitVec.ofInt IntKind.i64.bits (a:Int)=BitVec.ofNat IntKind.i64.bits a from zDh ..];rw[show BitVec.ofInt IntKind.i64.bits (127:Int)=BitVec.ofNat IntKind.i64.bits 127 from Z];rw[BitVec.toNat_and,zDf,zDf,zC9 (show a<2 ^ IntKind.i64.bits by show a<18446744073709551616;omega),zC9 (show 127<2 ^ IntKind.i64.bits by decide)];have e:a &&& 127=a % 128:=Nat.and_two_pow_sub_one_eq_mod a 7
 grind [jZ,jD,UJ]
def R6:∀k:_root_.Fin 128,IntKind.u8.wrap (BitVec.ofInt IntKind.u8.bits (k.val:Int) ||| BitVec.ofInt IntKind.u8.bits 128).toNat=(k.val:Int)+128:=by decide +kernel
section
variable {P:Program} {tm:List (Nat×AV)} {h:List (Nat×wB)} {tx ty:Nat} {x y:Operand}
def ju (hx:yY (zM tm) x= .s (.int .u8 m)) (z:yY (zM tm) y= .s (.int .u8 128)) (u:0<=m/\m<128):vC P ⟨tm,h⟩ (.binOp .or tx x y ty) (.s (.int .u8 (m+128))) [] [] []:=by
 have e:=R6 ⟨m.toNat,zB⟩
 grind [yY,zM,EV]
end
def Q6 (n:Int) (C:0<=n) (h1:n<=4294967295):zO 229 [iA n] [] (.tup [zD yA (gN n),iA 0]) []:=by
 generalize E:gN n=R;refine eM call229 λF hF=>?_
 refine WW ?_;refine uG 11 Z ?_;refine gE (4) [11] [] [] [0,4] Z (λA T U M=>∃(m:Int) (u:List Int),(0<=m/\m<=4294967295/\m<128 ^ (A+1)/\u.length+A=4/\u++vd A m=R)/\M=⟨(0,iA m)::(4,.ref 11 0 (u.map yA).length)::T,(11,.arr 1 (u.map yA) true)::U⟩) ?_;(conv=>whnf);refine⟨?_,?_⟩
 .exact⟨n,[],⟨C,h1,by show n<34359738368;omega,rfl,E⟩,rfl⟩
 .rintro A st ⟨m,u,⟨q0,q1,q2,q3,q4⟩,rfl⟩;have I:=zA yA u;by_cases L:128<=m
  .obtain⟨z,rfl⟩:∃z,A=z+1:=by
    cases A with
    |zero=>exfalso;have:m<128:=q2;omega
    |succ z=>exact⟨z,rfl⟩
   rw[EJ L]at q4;have hd:=ud q2;have G:=ku q0 q1;have B:0<=jZ m 127/\jZ m 127<128:=by omega
   have hs:vO m 7=m/128:=zCh m yX;clear q2
   (repeat' (first|refine uD ?_|apply yZ|apply xM|intro hc|(apply zG;first|(apply xZ;refine yE (ju Z Z B) Z ?_)|refine SM ?_)|fail))
   refine⟨z,zB,vO m 7,u++[jZ m 127+128],⟨zB,zB,by rw[hs];exact hd,by simp;omega,by rw[hs,G,zA0];exact q4⟩,?_⟩;rw[zAf];rfl
  .rw[TN zB]at q4;clear q2;subst q4;refine WW ?_;refine zH [] Z Z ?_ Z
   show AV.tup [AV.sl false ((u.map yA++[yA m]).take (u.map yA++[yA m]).length),iA 0]=_
   rw[zAb];unfold zD;rw[zAf];rfl
theorem AW:∀(r:List Int) (i:Nat) (n:Int),BY r->i<=5->(RB r i n).2.2=0->∃q:Int,0<=q/\(RB r i n).1=n+q*128 ^ i/\(0<i->0<q)/\i<=4/\∃j:Nat,(RB r i n).2.1=((i+j:Nat):Int)/\vd (4-i) q=r.take j
 | [],i,n,_,_,h=>by exact absurd (show(6:Int)=0 from h) yX
 | x ::r,i,n,hb,L,h=>by
  have hx:=hb x zW;by_cases hi:i=5
  .exfalso;rw[RB,Os hi]at h;exact absurd (show(6:Int)=0 from h) yX
  by_cases z:128<=x
  .have e:RB (x::r) i n=RB r (i+1) (n+x.tmod 128*128 ^ i):=by rw[RB,Of hi,Os z]
   rw[e]at h⊢;obtain⟨q,R,q1,G,S,j,q4,I⟩:=AW r (i+1) _ (λy E=>hb y (by simp[E])) zB h;have O:x.tmod 128=x % 128:=zBm hx.1;have M:=G zB;refine⟨x.tmod 128+q*128,zB,?_,λ_=>by omega,zB,j+1,by rw[q4];omega,?_⟩
   .rw[q1,zFp,Int.add_mul,Int.mul_assoc,Int.mul_comm 128,Int.add_assoc]
   .obtain⟨f,C⟩:∃f,4-i=f+1:=⟨3-i,zB⟩;rw[C,EJ zB,zE7,<-I,show 4-(i+1)=f by omega]
    congr 1
    .omega
    .congr 1
     omega
  .have A:x.tmod 128=x:=by rw[zBm hx.1];omega
   have e:RB (x::r) i n=if 4294967295<n+x.tmod 128*128 ^ i\/(0<i/\x=0)then(0,0,6)else(n+x.tmod 128*128 ^ i,(i:Int)+1,0):=by rw[RB,Of hi,Of z]
   rw[e]at h⊢;by_cases u:4294967295<n+x.tmod 128*128 ^ i\/(0<i/\x=0)
   .rw[Os u]at h;exact absurd (show(6:Int)=0 from h) yX
   .rw[Of u,A];refine⟨x,hx.1,rfl,λB=>?_,zB,1,by show(i:Int)+1=_;omega,?_⟩
    .have:x≠0:=λh=>u (.inr ⟨B,h⟩)
     omega
    .rw[TN zB];rfl
def Km (hb:BY b) (h:(ZA b).2.2=0):gN (ZA b).1=b.take (ZA b).2.1.toNat:=by
 obtain⟨q,_,q1,_,_,j,q4,u⟩:=AW b 0 0 hb zB h
 grind [BY,ZA,gN]
theorem aL:∀(n:Nat) (b l r:List Int),BY b->UF n b=some (l,r)->ln l=n/\BY r/\(∀x∈l,0<=x/\x<=4294967295)/\b=(l.map gN).flatten++r
 |0,b,l,r,hb,h=>by
  cases h;exact⟨rfl,hb,by simp,rfl⟩
 | n +1,b,l,r,hb,h=>by
  rw[UF]at h;by_cases u:(ZA b).2.2=0
  .rw[Os u]at h
   rcases EG b hb with h0|⟨_,h2,h3,h4,h5⟩
   .rw[h0]at u;exact absurd (show(6:Int)=0 from u) yX
   cases z:UF n (b.drop (ZA b).2.1.toNat)with
   |none=>rw[z]at h;cases h
   | some p=>
    obtain⟨I,L⟩:=p;rw[z]at h;cases h;obtain⟨A,B,C,E⟩:=aL n _ I r (λy G=>hb y (zBj G)) z;refine⟨by simp[A],B,λx hx=>?_,?_⟩
    .rcases zBv.1 hx with rfl|hx
     .exact⟨h2,h3⟩
     .exact C x hx
    .rw[zBk,zDb,Km hb u,zA0,<-E,zDs]
  .rw[Of u]at h;cases h
def AX (b:List Int) (n:Nat) (l r:List Int) (hb:BY b) (B:ln b<=100000) (L:n<=1000) (z:UF n b=some (l,r)):zO 303 [zD yA b,iA n] [] (.tup [.ref 1001 0 (l.map iA).length,zD yA r,bA true]) [(1001,.arr 1 (l.map iA) true)]:=by
 refine eM call303 λF hF=>?_
 (repeat' (first|refine uD ?_|apply yZ|apply xM|intro hc|(apply zG;first|(apply eJ;refine cJ 1001 tok Z Z Z Z Z Z Z Z Z Z Z Z Z zB zB Z Z Z ?_))|fail))
 refine uG 1001 Z ?_;refine yW (n) [1001] [] [13] [0,7,14,13] Z (λi T U I=>∃u c,(ln u=i/\BY c/\c.length<=100000/\UF n b=Sx u (UF (n-i) c))/\I=⟨(0,zD yA c)::(7,.ref 1001 0 (u.map iA).length)::(14,iA i)::T,(1001,.arr 1 (u.map iA) true)::U⟩) (Lp ?_ ?_ ?_)
 .exact⟨[],b,⟨rfl,hb,B,by rw[EH];rfl⟩,rfl⟩
 .rintro i st hi ⟨u,c,⟨q0,q1,q2,q3⟩,rfl⟩;have hd:=S6 c q1 q2;have hl:=zA yA c;have E:=zA iA u;rw[show n-i=(n-(i+1))+1 by omega]at q3
  rcases EG c q1 with h|⟨h1,h2,h3,h4,h5⟩
  .rw[xd (by rw[h];decide),z]at q3;cases q3
  .rw[wd h1]at q3;rw[h1]at hd;have A:BY (c.drop (ZA c).2.1.toNat):=λy G=>q1 y (zBj G)
   have C:(c.drop (ZA c).2.1.toNat).length<=100000:=by rw[zA8];omega
   clear h1;generalize (ZA c).1=v,(ZA c).2.1=k at *;refine zQ hd ?_;refine⟨u++[v],c.drop k.toNat,⟨by simp[q0],A,C,q3⟩,?_⟩;rw[zAf];rfl
 .rintro st ⟨u,c,⟨q0,q1,q2,q3⟩,rfl⟩;rw[zCl,z]at q3;have e:(l,r)=(u++[],c):=zDm q3;rw[zA2]at e;cases e;refine WW ?_;exact zP [1001] rfl rfl rfl rfl
def qQ (k:Int):Nat:=if k=2\/k=6 then 3 else if k=4 then 2 else if k=1\/k=9\/k=12 then 0 else 1
def vD (k:Int):Nat:=if k=6 then 4 else if k=7 then 2 else 0
def R9 (z u:Nat):AV:= .agg [iA 10,iA z,iA u,iA (if u=0 then 0 else 1),iA (if u=0 then 0 else 3),iA 0]
def vi (k:Int) (u:1<=k) (h1:k<=12):zO 227 [iA k] [] (.tup [R9 (qQ k) (vD k),bA true]) []:=by
 obtain rfl|rfl|rfl|rfl|rfl|rfl|rfl|rfl|rfl|rfl|rfl|rfl:k=1\/k=2\/k=3\/k=4\/k=5\/k=6\/k=7\/k=8\/k=9\/k=10\/k=11\/k=12:=by omega
 all_goals (refine eM call227 λF hF=>?_)
 all_goals (refine WW ?_)
 all_goals exact zI
def KE (z u:Nat) (p:List Int):Option (List Int):=
 if 200<ln p\/p.length<10 then none else match UF z (p.drop 10)with
 |none=>none
 | some (a,r)=>if u=0 then(if r=[]then some a else none)else match UF 1 r with
  |none=>none
  |some (c,r2)=>if c.getD 0 0<1\/3<c.getD 0 0 then none else match UF ((c.getD 0 0).toNat*u) r2 with
   |none=>none
   |some (f,r3)=>if r3=[]then some (a++f)else none
def j5 (k:Int) (tok:List Int):Option (List Int)->AV
 |none=> .tup [yC ⟨0,[],[],[]⟩,iA 6]
 |some a=> .tup [yC ⟨k,tok,a,[]⟩,iA 0]
theorem Jm (k:Int) (h0:1<=k) (h1:k<=12) (p:List Int) (hb:BY p) (hn:ln p<=100000):zO 256 [iA k,zD yA p] [] (j5 k (p.take 10) (KE (qQ k) (vD k) p)) []:=by
 have hl:=zA yA p;have z:=vi k h0 h1
 have hf:qQ k<=3:=by
  unfold qQ
  repeat' split
  all_goals omega
 have hg:vD k=0\/(2<=vD k/\vD k<=4):=by
  unfold vD
  repeat' split
  all_goals omega
 generalize qQ k=V,vD k=C at *;unfold R9 at z;by_cases A:200<ln p\/p.length<10
 .rw[show KE V C p=none from Os A]
  show zO 256 [iA k,zD yA p] [] (.tup [yC ⟨0,[],[],[]⟩,iA 6]) []
  by_cases h2:200<ln p
  ·(refine eM call256 λF hF=>?_)
   exact lk z
  .have h3:=A.resolve_left h2;refine eM call256 λF hF=>?_
   exact lk z
 have e0:KE V C p=_:=Of A;rw[e0];clear e0;have O:BY (p.drop 10):=λy hy=>hb y (zBj hy)
 have ac:(p.drop 10).length<=100000:=by rw[zA8];omega
 have G:=PS (p.drop 10) V O ac zB
 cases E:UF V (p.drop 10)with
 |none=>
  rw[E]at G
  show zO 256 [iA k,zD yA p] [] (.tup [yC ⟨0,[],[],[]⟩,iA 6]) []
  unfold Hf at G;refine eM call256 λF hF=>?_
  exact ld (xV z G)
 |some q=>
 obtain⟨a,r⟩:=q;obtain⟨ha,W,a3,av⟩:=aL _ _ _ _ O E
 have au:ln r<=100000:=by
  have:=zAv List.length av;rw[zAh]at this;omega
 have a9:=zA yA r;have a7:=zA iA a;have k1:=vJ (p.take 10) GM
 rcases hg with rfl|⟨g2,g4⟩
 .rw[E]at G;unfold Hf at G;dsimp only;rw[Os Z];by_cases U:r=[]
  .subst U;have k2:=vJ [] zW;rw[Os Z]
   show zO 256 [iA k,zD yA p] [] (.tup [yC ⟨k,p.take 10,a,[]⟩,iA 0]) []
   refine eM call256 λF hF=>?_
   exact ld (aB z G k1 k2)
  .have ar:ln r≠0:=λh=>U (zBa h)
   rw[Of U]
   show zO 256 [iA k,zD yA p] [] (.tup [yC ⟨0,[],[],[]⟩,iA 6]) []
   refine eM call256 λF hF=>?_
   exact ld (xV z G)
 have u:=AX (p.drop 10) V a r O ac zB E;have B:=PS r 1 W au zB;clear G;dsimp only;rw[Of zB]
 cases R:UF 1 r with
 |none=>
  rw[R]at B;unfold Hf at B
  show zO 256 [iA k,zD yA p] [] (.tup [yC ⟨0,[],[],[]⟩,iA 6]) []
  refine eM call256 λF hF=>?_
  exact ld (kC z u B)
 |some q2=>
 obtain⟨c,r2⟩:=q2;obtain⟨Y,L,a4,ap⟩:=aL _ _ _ _ W R
 obtain⟨v,rfl⟩:∃v,c=[v]:=by
  cases c with
  |nil=>cases Y
  |cons v c=>cases c with
   |nil=>exact⟨v,rfl⟩
   |cons w c=>simp at Y
 have ag:ln r2<=100000:=by
  have:=zAv List.length ap;rw[zAh]at this;omega
 rw[R]at B;unfold Hf at B;dsimp only;rw[show [v].getD 0 0=v from Z];by_cases hv:v<1\/3<v
 .rw[Os hv]
  show zO 256 [iA k,zD yA p] [] (.tup [yC ⟨0,[],[],[]⟩,iA 6]) []
  by_cases ax:v<1
  ·(refine eM call256 λF hF=>?_)
   exact ld (kC z u B)
  .have ba:=hv.resolve_left ax;refine eM call256 λF hF=>?_
   exact ld (kC z u B)
 rw[Of hv];have bb:v.toNat*C<=12:=zBi (zDa (show v.toNat<=3 by omega) g4) yX;have M:((v.toNat*C:Nat):Int)=v*(C:Int):=by rw[zE0,zEa zB]
 have I:=PS r2 (v.toNat*C) L ag zB;rw[M]at I;have hm:0<=v*(C:Int)/\v*(C:Int)<=12:=by rw[<-M];omega
 clear M
 cases S:UF (v.toNat*C) r2 with
 |none=>
  rw[S]at I;unfold Hf at I
  show zO 256 [iA k,zD yA p] [] (.tup [yC ⟨0,[],[],[]⟩,iA 6]) []
  refine eM call256 λF hF=>?_
  exact ld (aB z u B I)
 |some q3=>
 obtain⟨f,r3⟩:=q3;obtain⟨a5,az,a6,a2⟩:=aL _ _ _ _ L S;have a8:=zA iA f;have a1:=zA yA r3;rw[S]at I;unfold Hf at I;dsimp only;by_cases U:r3=[]
 .subst U;have k2:=vJ [] zW;rw[Os Z]
  show zO 256 [iA k,zD yA p] [] (.tup [yC ⟨k,p.take 10,a++f,[]⟩,iA 0]) []
  refine eM call256 λF hF=>?_
  refine yJ (Ld z u B I k1 k2) ?_;refine zH [] Z Z ?_ Z
  show AV.tup [.agg [iA k,zD yA (p.take 10),.sl false ((a.map iA++f.map iA).take (a.map iA++f.map iA).length),zD yA []],iA 0]=_
  rw[zAb,<-zAf];rfl
 .have ar:ln r3≠0:=λh=>U (zBa h)
  rw[Of U]
  show zO 256 [iA k,zD yA p] [] (.tup [yC ⟨0,[],[],[]⟩,iA 6]) []
  refine eM call256 λF hF=>?_
  exact ld (aB z u B I)
def od (z u:Nat):AV:= .agg [iA z,iA u,iA (if u=0 then 0 else 1),iA (if u=0 then 0 else 3),iA 0]
def md (k:Int) (u:1<=k) (h1:k<=12):zO 246 [iA k] [] (od (qQ k) (vD k)) []:=by
 obtain rfl|rfl|rfl|rfl|rfl|rfl|rfl|rfl|rfl|rfl|rfl|rfl:k=1\/k=2\/k=3\/k=4\/k=5\/k=6\/k=7\/k=8\/k=9\/k=10\/k=11\/k=12:=by omega
 all_goals (refine eM call246 λF hF=>?_)
 all_goals (refine WW ?_)
 all_goals exact zI
def XT (u z:Nat) (c:Int):Nat->List Int->List Int
 |_,[]=>[]
 |i,x::r=>(if i=u/\z≠0 then [c]else [])++(gN x++XT u z c (i+1) r)
def ZW (u z:Nat) (c:Int) (m:Ms):List Int:=(m.tok++XT u z c 0 m.args)++((if z≠0/\m.args.length=u then [0]else [])++m.data)
theorem Gf:∀(f:Nat) (n:Int),1<=(vd f n).length/\(vd f n).length<=f+1
 |0,n=>by simp[vd]
 |f+1,n=>by
  have:=Gf f (n/128);rw[vd];split
  .simp
  .rw[zAm];omega
theorem fD (n:Int):1<=(gN n).length/\(gN n).length<=5:=Gf 4 n
theorem PU (k:Int) (h0:1<=k) (h1:k<=12) (m:Ms) (c:Nat) (hk:m.kind=k) (ht:ln m.tok=10) (hd:ln m.data<=100000) (ha:∀x∈m.args,0<=x/\x<=4294967295) (hn:ln m.args<=1000) (hc:vD k≠0->ln m.args=qQ k+c*vD k) (au:c<=3):
  zO 232 [yC m] [] (zD yA (ZW (qQ k) (vD k) c m)) []:=by
 subst hk;have I:=md m.kind h0 h1
 have hg:vD m.kind<=4:=by
  unfold vD
  repeat' split
  all_goals omega
 generalize qQ m.kind=C,vD m.kind=z at *;unfold od at I;have a1:=zA yA m.tok;have ac:=zA iA m.args;have ax:=zA yA m.data;unfold ZW;generalize hT:m.tok++XT C z c 0 m.args=ap;refine eM call232 λF hF=>?_
 (have gd:=I;(repeat' (first|refine uD ?_|apply yZ|apply xM|intro hc|(apply zG;first|(apply yG;refine wA 1001 tok Z Z Z Z Z Z (zZ _ _ (λ_=>rfl)) Z Z Z zB Z Z Z ?_))|fail))<;>clear gd)
 refine uG 1001 Z ?_;refine qC (m.args) [1001,1,3] [1,3] [1,3,16,17] [4,18,1,3,16,17] Z (λi ga T U zs=>∃u:List Int,(ln u<=10+6*i/\∀post,m.args=ga++post->u++XT C z c i post=ap)/\zs=⟨(4,.ref 1001 0 (u.map yA).length)::(18,iA i)::T,(1001,.arr 1 (u.map yA) true)::U⟩) (Lp ?_ ?_ ?_)
 .exact⟨m.tok,⟨zB,λpost h=>by rw[<-hT,h];rfl⟩,rfl⟩
 .rintro i ga x post st hx hi ⟨u,⟨q0,q1⟩,rfl⟩;have hy:=yI iA hx hi;have ar:=zV hx hi;have O:=ha x (yV hx);have M:=zA yA u;have he:=fD x;have W:=Rx x O.1 O.2;have az:=zA yA (gN x)
  have A:∀p,m.args=ga++[x]++p->p=post:=λp h=>by
   rw[hx,zA0]at h;simpa using h.symm
  have B:=q1 _ hx;clear q1 hT hx;by_cases G:i=C/\z≠0
  .obtain⟨rfl,E⟩:=G;have L:=hc E
   have hq:(((m.args.map iA).length:Int)-(i:Int)).tdiv (z:Int)=(c:Int):=by
    rw[ac,L,show(((i+c*z:Nat):Int)-(i:Int))=(c:Int)*(z:Int) by rw[Int.natCast_add,zE0];omega];exact Int.mul_tdiv_cancel _ zB
   have av:UJ .i64 ((((m.args.map iA).length:Int)-(i:Int)).tdiv (z:Int)):=by rw[hq];exact⟨zB,zB⟩
   have e:XT i z c i (x::post)=[(c:Int)]++(gN x++XT i z c (i+1) post):=by rw[XT,Os ⟨rfl,E⟩]
   rw[e]at B;clear e L hc;generalize gN x=S at *;refine yJ (xV I W) ?_;refine⟨u++[(c:Int)]++S,⟨by simp;omega,λp h=>by rw[A p h,<-B];simp⟩,?_⟩;rw[zAf,zAf,<-hq];rfl
  .have e:XT C z c i (x::post)=gN x++XT C z c (i+1) post:=by rw[XT,Of G];rfl
   rw[e]at B;clear e hc;generalize gN x=S at *;by_cases Y:i=C
   .have E:z=0:=by
     by_cases h:z=0
     .exact h
     .exact absurd ⟨Y,h⟩ G
    refine yJ (xV I W) ?_;refine⟨u++S,⟨by simp;omega,λp h=>by rw[A p h,<-B];simp⟩,?_⟩;rw[zAf];rfl
   ·(refine yJ (xV I W) ?_)
    refine⟨u++S,⟨by simp;omega,λp h=>by rw[A p h,<-B];simp⟩,?_⟩;rw[zAf];rfl
 .rintro st ⟨u,⟨q0,q1⟩,rfl⟩;have e:=q1 [] zW;rw[show XT C z c (ln m.args) []=[]from rfl,zA2]at e;subst e;have M:=zA yA u;clear q1 hT hc;by_cases V:z≠0/\m.args.length=C
  .rw[Os V];obtain⟨R,ag⟩:=V;refine WW ?_;refine zH [] Z Z ?_ Z
   show AV.sl false ((u.map yA++[yA 0]++m.data.map yA).take (u.map yA++[yA 0]++m.data.map yA).length)=_
   rw[zAb];unfold zD;rw[zAf,zAf,zA0];rfl
  .rw[Of V];by_cases R:z=0
   ·(refine WW ?_)
    refine zH [] Z Z ?_ Z
    show AV.sl false ((u.map yA++m.data.map yA).take (u.map yA++m.data.map yA).length)=_
    rw[zAb];unfold zD;rw[zAf];rfl
   .have ag:ln m.args≠C:=λh=>V ⟨R,h⟩
    refine WW ?_;refine zH [] Z Z ?_ Z
    show AV.sl false ((u.map yA++m.data.map yA).take (u.map yA++m.data.map yA).length)=_
    rw[zAb];unfold zD;rw[zAf];rfl
def G7 (p:Int×Int):AV:= .agg [iA p.1,iA p.2]
def kK (n:Int):List (Int×Int):=if n=0 then [(0,0),(0,0)]else if n=1 then [(0,0),(1,0),(0,1),(1,1)]else if n=2 then [(0,0),(1,0),(0,0)]
 else if n=3 then [(0,0),(0,0),(1,0),(1,0),(0,1),(0,1),(1,1),(1,1)]else if n=4 then [(1,0),(0,1),(0,2)]else [(0,0)]
def Im (n:Int):zO 110 [iA n] [] (zD G7 (kK n)) []:=by
 by_cases u:n=0
 .subst u;refine eM call110 λF hF=>?_
  (repeat' (first|refine XC ?_|refine yZ (λhc=>?_) λhc=>?_|fail))
  exact zI
 by_cases h1:n=1
 .subst h1;refine eM call110 λF hF=>?_
  (repeat' (first|refine XC ?_|refine yZ (λhc=>?_) λhc=>?_|fail))
  exact zI
 by_cases h2:n=2
 .subst h2;refine eM call110 λF hF=>?_
  (repeat' (first|refine XC ?_|refine yZ (λhc=>?_) λhc=>?_|fail))
  exact zI
 by_cases z:n=3
 .subst z;refine eM call110 λF hF=>?_
  (repeat' (first|refine XC ?_|refine yZ (λhc=>?_) λhc=>?_|fail))
  exact zI
 by_cases A:n=4
 .subst A;refine eM call110 λF hF=>?_
  (repeat' (first|refine XC ?_|refine yZ (λhc=>?_) λhc=>?_|fail))
  exact zI
 rw[show kK n=[(0,0)] by simp[kK,u,h1,h2,z,A]];refine eM call110 λF hF=>?_
 (repeat' (first|refine XC ?_|refine yZ (λhc=>?_) λhc=>?_|fail))
 exact zI
instance:Inhabited (Int×Int):=⟨(0,0)⟩
def RS (d:Dk) (s:Int×Int):Ph:=
 if nx (ad (ad (ad d))) 3=2 then⟨s.1,s.2,1+nx d (3-1+1),max (1+nx d (3-1+1)) (1+nx (ad (ad (ad (ad d)))) (2-1+1)+(1+nx (ad (ad (ad (ad (ad d))))) (2-1+1)))+nx (ad (ad (ad (ad (ad (ad d)))))) 4,1+nx (ad d) (2-1+1),nx (ad (ad d)) 3,1+nx (ad (ad (ad (ad d)))) (2-1+1),1+nx (ad (ad (ad (ad (ad d))))) (2-1+1)⟩
 else⟨s.1,s.2,1+nx d (3-1+1),max (1+nx d (3-1+1)) (0+0)+nx (ad (ad (ad (ad d)))) 4,1+nx (ad d) (2-1+1),nx (ad (ad d)) 3,0,0⟩
def f5 (d:Dk):Dk:=if nx (ad (ad (ad d))) 3=2 then ad (ad (ad (ad (ad (ad (ad d))))))else ad (ad (ad (ad (ad d))))
def HY (d:Dk) (l:List (Int×Int)):Nat->List Ph×Dk
 |0=>([],d)
 |i+1=>((HY d l i).1++[RS (HY d l i).2 (l.getD i dd)],f5 (HY d l i).2)
theorem RT (d:Dk) (l:List (Int×Int)):∀i,(HY d l i).1.length=i
 |0=>rfl
 |i+1=>by simp[HY,RT d l i]
def Kr (u:List Ph) (z:Bool) (i k:Nat):Bool:=i != k&&((u.getD i dd).ring==(u.getD k dd).ring||(u.getD i dd).group != (u.getD k dd).group||z&&((i:Int)+k).tmod 2==1)
def UG (z:List Ph) (u:Bool) (i:Nat):Nat->Int
 |0=>0
 |k+1=>if Kr z u i k=true then UG z u i k+2 ^ k else UG z u i k
theorem MJ (z:List Ph) (u:Bool) (i:Nat):∀k,0<=UG z u i k/\UG z u i k<2 ^ k
 |0=>by simp[UG]
 |k+1=>by
  have:=MJ z u i k;have e:(2:Int) ^ (k+1)=2 ^ k*2:=zFp 2 k;unfold UG
  split<;>omega
def eW (u:List Ph) (z:Bool) (n:Nat):List Int:=(List.range n).map λi=>UG u z i (ln u)
def RC (d:Dk):List Ph×Dk:=HY (ad (ad d)) (kK (nx d 6)) (kK (nx d 6)).length
def KG (d:Dk):Jn:=⟨(RC d).1,eW (RC d).1 (nx (RC d).2 4==3) (RC d).1.length,nx (ad d) 3⟩
def P6 (d:Dk):Dk:=ad (RC d).2
def KH (n:Int):1<=(kK n).length/\(kK n).length<=8:=by
 unfold kK
 (repeat' split)<;>simp
def R8 (k:Nat) (h:k<8):IntKind.i64.wrap (1*2 ^ (min ((k:Int)).toNat IntKind.i64.bits))=2 ^ k/\(2:Int) ^ k<=128:=by
 obtain rfl|rfl|rfl|rfl|rfl|rfl|rfl|rfl:k=0\/k=1\/k=2\/k=3\/k=4\/k=5\/k=6\/k=7:=by omega
 all_goals decide
theorem rd (d:Dk):zO 53 [.ptr 1000 0 0] [(1000,CO d)] (wD (KG d)) [(1000,CO (P6 d))]:=by
 have hb:=uK d 6 zB;have a1:=KH (nx d 6);have sc:=Im (nx d 6);have ej:KG d=⟨(RC d).1,eW (RC d).1 (nx (RC d).2 4==3) (RC d).1.length,nx (ad d) 3⟩:=rfl;have ed:P6 d=ad (RC d).2:=rfl;have ep:RC d=HY (ad (ad d)) (kK (nx d 6)) (kK (nx d 6)).length:=rfl;rw[ej,ed];generalize RC d=jp,kK (nx d 6)=l at *;have M:(l.map G7).length=ln l:=by simp
 refine eM call53 λF hF=>?_
 (repeat' (first|refine XC ?_|refine yZ (λhc=>?_) λhc=>?_|(apply zG;apply xO;(first|(refine vG 110 ?_;first|refine yE (zL (sc) Z Z Z Z Z) Z ?_|refine qB (zL (sc) Z Z Z Z Z) Z Z Z ?_|refine ZR (zL (sc) Z Z Z Z Z) Z Z Z ?_)|(refine vG 45 ?_;first|refine yE (zL (qU _ _ zB zB) Z Z Z Z Z) Z ?_|refine qB (zL (qU _ _ zB zB) Z Z Z Z Z) Z Z Z ?_|refine ZR (zL (qU _ _ zB zB) Z Z Z Z Z) Z Z Z ?_)))|fail))
 refine qJ 4 0 1001 8 Z Z Z Z Z ?_
 refine wF (λn st=>∃i:Nat,n+i=ln l/\st=⟨[(0,.ptr 1000 0 0),(2,.ptr 2 0 0),(4,.ptr 4 0 0),(20,zD G7 l),(21,iA (ln l)),(22,iA i)],
   [(1000,CO (HY (ad (ad d)) l i).2),(2,.box [.s (.slice none 0 0),.s (.slice none 0 0),iA 0]),(4,.box [.ref 1001 0 ((HY (ad (ad d)) l i).1.map xQ).length,.s (.slice none 0 0),iA (nx (ad d) 3)]),(1001,.arr 8 ((HY (ad (ad d)) l i).1.map xQ) true)]⟩)
  (ln l) [1000,2,4,1001] [0,2,4,20,21,22] Z ⟨0,rfl,by rw[<-M];rfl⟩ ?_
 rintro n st ⟨i,hi,rfl⟩;by_cases R:i<ln l
 .have U:=yF G7 l i zB zB;rw[show((i:Int)).toNat=i from Z]at U;have I:(HY (ad (ad d)) l (i+1)).1.map xQ=(HY (ad (ad d)) l i).1.map xQ++[xQ (RS (HY (ad (ad d)) l i).2 (l.getD i dd))]:=zAf;have hd:(HY (ad (ad d)) l (i+1)).2=f5 (HY (ad (ad d)) l i).2:=rfl;have ac:=RT (ad (ad d)) l i;generalize l.getD i dd=p at *;obtain⟨Y,p2⟩:=p;generalize S:HY (ad (ad d)) l (i+1)=q' at I hd;generalize HY (ad (ad d)) l i=q at *;obtain⟨ql,z⟩:=q;dsimp only at I hd ac⊢;have b0:=uK z (3-1+1) zB;have b1:=uK (ad (ad (ad (ad z)))) 4 zB;have b2:=uK (ad (ad (ad (ad z)))) (2-1+1) zB;have b3:=uK (ad (ad (ad (ad (ad z))))) (2-1+1) zB;have b4:=uK (ad (ad (ad (ad (ad (ad z)))))) 4 zB;by_cases V:nx (ad (ad (ad z))) 3=2
  .rw[show RS z (Y,p2)=⟨Y,p2,1+nx z (3-1+1),max (1+nx z (3-1+1)) (1+nx (ad (ad (ad (ad z)))) (2-1+1)+(1+nx (ad (ad (ad (ad (ad z))))) (2-1+1)))+nx (ad (ad (ad (ad (ad (ad z)))))) 4,1+nx (ad z) (2-1+1),nx (ad (ad z)) 3,1+nx (ad (ad (ad (ad z)))) (2-1+1),1+nx (ad (ad (ad (ad (ad z))))) (2-1+1)⟩ by unfold RS;rw[Os V]]at I;rw[show f5 z=ad (ad (ad (ad (ad (ad (ad z)))))) by unfold f5;rw[Os V]]at hd
   (repeat' (first|refine XC ?_|refine yZ (λhc=>?_) λhc=>?_|(apply zG;apply xO;(first|(refine vG 52 ?_;first|refine yE (zL (fE _ _ _ zB zB zB) Z Z Z Z Z) Z ?_|refine qB (zL (fE _ _ _ zB zB zB) Z Z Z Z Z) Z Z Z ?_|refine ZR (zL (fE _ _ _ zB zB zB) Z Z Z Z Z) Z Z Z ?_)|(refine vG 45 ?_;first|refine yE (zL (qU _ _ zB zB) Z Z Z Z Z) Z ?_|refine qB (zL (qU _ _ zB zB) Z Z Z Z Z) Z Z Z ?_|refine ZR (zL (qU _ _ zB zB) Z Z Z Z Z) Z Z Z ?_)))|fail))
   exact⟨n-1,zB,i+1,zB,by rw[S,I,hd];rfl⟩
  .rw[show RS z (Y,p2)=⟨Y,p2,1+nx z (3-1+1),max (1+nx z (3-1+1)) (0+0)+nx (ad (ad (ad (ad z)))) 4,1+nx (ad z) (2-1+1),nx (ad (ad z)) 3,0,0⟩ by unfold RS;rw[Of V]]at I;rw[show f5 z=ad (ad (ad (ad (ad z)))) by unfold f5;rw[Of V]]at hd
   (repeat' (first|refine XC ?_|refine yZ (λhc=>?_) λhc=>?_|(apply zG;apply xO;(first|(refine vG 52 ?_;first|refine yE (zL (fE _ _ _ zB zB zB) Z Z Z Z Z) Z ?_|refine qB (zL (fE _ _ _ zB zB zB) Z Z Z Z Z) Z Z Z ?_|refine ZR (zL (fE _ _ _ zB zB zB) Z Z Z Z Z) Z Z Z ?_)|(refine vG 45 ?_;first|refine yE (zL (qU _ _ zB zB) Z Z Z Z Z) Z ?_|refine qB (zL (qU _ _ zB zB) Z Z Z Z Z) Z Z Z ?_|refine ZR (zL (qU _ _ zB zB) Z Z Z Z Z) Z Z Z ?_)))|fail))
   exact⟨n-1,zB,i+1,zB,by rw[S,I,hd];rfl⟩
 obtain rfl:i=ln l:=by omega
 have ag:jp.1.length=ln l:=by rw[ep];exact RT _ _ _
 rw[<-ep];clear ep ej ed sc M hi R;obtain⟨u,dj⟩:=jp;dsimp only at ag⊢;have O:(u.map xQ).length=ln u:=by simp
 generalize nx (ad d) 3=W
 (repeat' (first|refine XC ?_|refine yZ (λhc=>?_) λhc=>?_|(apply zG;apply xO;(first|(refine vG 45 ?_;first|refine yE (zL (qU _ _ zB zB) Z Z Z Z Z) Z ?_|refine qB (zL (qU _ _ zB zB) Z Z Z Z Z) Z Z Z ?_|refine ZR (zL (qU _ _ zB zB) Z Z Z Z Z) Z Z Z ?_)))|fail))
 generalize nx dj 4=n4
 refine jK (st':=⟨[(0,.ptr 1000 0 0),(2,.ptr 2 0 0),(4,.ptr 4 0 0),(8,bA (n4==3)),(69,zD xQ u),(70,iA (ln u)),(71,iA 0)],
   [(1000,CO (ad dj)),(2,.box [.s (.slice none 0 0),.s (.slice none 0 0),iA 0]),(4,.box [zD xQ u,.s (.slice none 0 0),iA W])]⟩) [1000,2,4] [0,2,4,8,69,70,71] Z (by
  have e1:zD xQ u= .sl false (List.take (u.map xQ).length (List.drop 0 (u.map xQ))):=by
   rw[zAu,zAb];rfl
  rw[e1,<-O]
  rfl) ?_
 generalize (n4==3)=A;generalize ad dj=dk;refine qJ 4 1 1002 1 Z Z Z Z Z ?_
 refine wF (λn st=>∃i:Nat,n+i=ln u/\st=⟨[(0,.ptr 1000 0 0),(2,.ptr 2 0 0),(4,.ptr 4 0 0),(8,bA A),(69,zD xQ u),(70,iA (ln u)),(71,iA i)],
   [(1000,CO dk),(2,.box [.s (.slice none 0 0),.s (.slice none 0 0),iA 0]),(4,.box [zD xQ u,.ref 1002 0 ((eW u A i).map iA).length,iA W]),(1002,.arr 1 ((eW u A i).map iA) true)]⟩)
  (ln u) [1000,2,4,1002] [0,2,4,8,69,70,71] Z ⟨0,rfl,rfl⟩ ?_
 clear n;rintro n st ⟨i,hi,rfl⟩;by_cases R:i<ln u
 .have U:=yF xQ u i zB zB;rw[show((i:Int)).toNat=i from Z]at U;have ht:(eW u A (i+1)).map iA=(eW u A i).map iA++[iA (UG u A i (ln u))]:=by unfold eW;rw[zCf];simp
  have ar:(eW u A i).length=i:=by simp[eW]
  obtain⟨p,hp⟩:∃p,u.getD i dd=p:=⟨_,rfl⟩;rw[hp]at U;obtain⟨C,G⟩:∃r,eW u A i=r:=⟨_,rfl⟩;rw[G]at ht ar⊢
  (repeat' (first|refine XC ?_|refine yZ (λhc=>?_) λhc=>?_|fail))
  refine wF (λn st=>∃k:Nat,n+k=ln u/\st=⟨[(0,.ptr 1000 0 0),(2,.ptr 2 0 0),(4,.ptr 4 0 0),(8,bA A),(9,iA i),(10,.ptr 10 0 0),(11,iA (UG u A i k)),(69,zD xQ u),(70,iA (ln u)),(71,iA i),(77,zD xQ u),(78,iA (ln u)),(79,iA k)],
    [(1000,CO dk),(2,.box [.s (.slice none 0 0),.s (.slice none 0 0),iA 0]),(4,.box [zD xQ u,.ref 1002 0 (C.map iA).length,iA W]),(10,.box [iA p.ring,iA p.group,iA p.ming,iA p.maxg,iA p.yel,iA p.red,iA p.walk,iA p.clear]),(1002,.arr 1 (C.map iA) true)]⟩)
   (ln u) [1000,2,4,10,1002] [0,2,4,8,9,10,11,69,70,71,77,78,79] Z ⟨0,rfl,by rw[<-O];rfl⟩ ?_
  rintro L st ⟨k,hk,rfl⟩;by_cases ax:k<ln u
  .have av:=yF xQ u k zB zB;rw[show((k:Int)).toNat=k from Z]at av
   have B:UG u A i (k+1)=if Kr u A i k=true then UG u A i k+2 ^ k else UG u A i k:=rfl
   have hc:Kr u A i k=(i != k&&(p.ring==(u.getD k dd).ring||p.group != (u.getD k dd).group||A&&((i:Int)+k).tmod 2==1)):=by rw[<-hp];rfl
   obtain⟨hw,au⟩:=R8 k zB;obtain⟨az,hr1⟩:=MJ u A i k;have ap:0<=(2:Int) ^ k:=by omega
   rw[show(2:Int) ^ k=p2 k from Z]at B hr1 ap au;clear hw;generalize u.getD k dd=q at *;by_cases E:i=k
   .rw[Of (by rw[hc];simp[E])]at B;clear hc;subst E
    (repeat' (first|refine XC ?_|refine yZ (λhc=>?_) λhc=>?_|fail))
    exact⟨L-1,zB,i+1,zB,by rw[B];rfl⟩
   by_cases h1:p.ring=q.ring
   .rw[Os (by rw[hc];simp[E,h1])]at B;clear hc
    (repeat' (first|refine XC ?_|refine yZ (λhc=>?_) λhc=>?_|fail))
    exact⟨L-1,zB,k+1,zB,by rw[B];rfl⟩
   by_cases h2:p.group=q.group
   .cases A with
    |false=>
     rw[Of (by rw[hc];simp[E,h1,h2])]at B;clear hc
     (repeat' (first|refine XC ?_|refine yZ (λhc=>?_) λhc=>?_|fail))
     exact⟨L-1,zB,k+1,zB,by rw[B];rfl⟩
    | true=>
     by_cases h3:((i:Int)+k).tmod 2=1
     .rw[Os (by rw[hc];simp[E,h1,h2,h3])]at B;clear hc
      (repeat' (first|refine XC ?_|refine yZ (λhc=>?_) λhc=>?_|fail))
      exact⟨L-1,zB,k+1,zB,by rw[B];rfl⟩
     .rw[Of (by rw[hc];simp[E,h1,h2,h3])]at B;clear hc
      (repeat' (first|refine XC ?_|refine yZ (λhc=>?_) λhc=>?_|fail))
      exact⟨L-1,zB,k+1,zB,by rw[B];rfl⟩
   .rw[Os (by rw[hc];simp[E,h1,h2])]at B;clear hc
    (repeat' (first|refine XC ?_|refine yZ (λhc=>?_) λhc=>?_|fail))
    exact⟨L-1,zB,k+1,zB,by rw[B];rfl⟩
  .obtain rfl:k=ln u:=by omega
   have hr:=MJ u A i (ln u)
   (repeat' (first|refine XC ?_|refine yZ (λhc=>?_) λhc=>?_|fail))
   exact⟨n-1,zB,i+1,zB,by rw[ht];rfl⟩
 obtain rfl:i=ln u:=by omega
 (repeat' (first|refine XC ?_|refine yZ (λhc=>?_) λhc=>?_|fail))
 exact zP [1000] Z Z (zAv (λx=>AV.agg [zD xQ u,AV.sl false x,iA W]) zAb) Z
