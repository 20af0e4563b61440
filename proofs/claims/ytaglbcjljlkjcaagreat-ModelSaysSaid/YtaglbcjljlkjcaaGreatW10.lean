/- Part 10. -/
import Derived.Test.YtaglbcjljlkjcaaGreatW07
namespace Go.Proofs.YtaglbcjljlkjcaaGreat.Av
open Tryz
set_option linter.all false
set_option maxRecDepth 4000
set_option maxHeartbeats 2000000
open List renaming length->ln,getD->pb
open Inhabited renaming default->dd
variable {m n:Int}{b:List Int}{i:Nat}
def VW:List Int->Nat->Int->Int×Int×Int
 | [],_,_=>(0,0,6)
 |x::r,i,n=>if i=5 then(0,0,6)else if 128<=x then VW r (i+1) (n+x.tmod 128*128 ^ i)else if 4294967295<n+x.tmod 128*128 ^ i\/(0<i/\x=0)then(0,0,6)else(n+x.tmod 128*128 ^ i,i+1,0)
def bR (b:List Int):Int×Int×Int:=VW b 0 0
def Mr (n:Int):Int:=if n<0\/4294967295<n then 0 else if n<128 then 1 else if n<16384 then 2 else if n<2097152 then 3 else if n<268435456 then 4 else 5
def gu (m:Int):Int:=if m<128 then 0 else if m<16384 then 1 else if m<2097152 then 2 else if m<268435456 then 3 else 4
theorem Qm (u:0<=n) (h1:n<=4294967295):Mr n=1+gu n:=by grind [Mr,gu]
theorem fu (u:128<=m) (h1:m<=4294967295):gu m=1+gu (m/128):=by grind [gu]
def D0 (h:m<128):gu m=0:=f5 h
def BV (n:Int):zN 201 [iA n] [] (iA (Mr n)) []:=by
 by_cases h:n<0\/4294967295<n
 .have e:Mr n=0:=f5 h;rw[e];by_cases h1:n<0
  ·(refine eM call201 λF hF=>?_)
   exact ly
  .have h2:=h.resolve_left h1;refine eM call201 λF hF=>?_
   exact ly
 have h1:0<=n:=by omega
 have h2:n<=4294967295:=by omega
 rw[Qm h1 h2];generalize C:1+gu n=s;refine eM call201 λF hF=>?_
 refine WW ?_;refine gD (5) [] [] [] [0,3] Z (λz T U E=>∃(m:Int) (k:Int),(0<=m/\m<=4294967295/\k=6-z/\1<=k/\k<=5/\(k=2->m<=33554431)/\(k=3->m<=262143)/\(k=4->m<=2047)/\(k=5->m<=15)/\s=k+gu m)/\E=⟨(0,iA m)::(3,iA k)::T,U⟩) ?_;(conv=>whnf);refine⟨?_,?_⟩
 .exact⟨n,1,⟨h1,h2,zB,zB,zB,zB,zB,zB,zB,C.symm⟩,rfl⟩
 .rintro z st ⟨m,k,⟨q0,q1,q2,q3,q4,q5,q6,q7,q8,q9⟩,rfl⟩;by_cases B:128<=m
  .have hd:=fu B q1;have u:m.tdiv 128=m/128:=zCv q0;have A:aB .i64 (m.tdiv 128):=⟨zB,zB⟩;refine WW ?_;refine⟨z-1,zB,m.tdiv 128,k+1,⟨zB,zB,zB,zB,zB,zB,zB,zB,zB,by rw[u];omega⟩,rfl⟩
  .rw[D0 zB]at q9;obtain rfl:s=k:=by omega
   exact ly
def du (h:i<=4):((128:Int) ^ i=1/\i=0)\/((128:Int) ^ i=128/\i=1)\/((128:Int) ^ i=16384/\i=2)\/((128:Int) ^ i=2097152/\i=3)\/((128:Int) ^ i=268435456/\i=4):=by
 obtain rfl|rfl|rfl|rfl|rfl:i=0\/i=1\/i=2\/i=3\/i=4:=by omega
 all_goals simp
def f7 {i:Nat} {x:Int} (h:i<=4) (u:0<=n) (h1:n<128 ^ i) (z:0<=x) (A:x<128):(Mr (n+x*128 ^ i)=(i:Int)+1)↔¬(4294967295<n+x*128 ^ i\/(0<i/\x=0)):=by
 rcases du h with⟨e,rfl⟩|⟨e,rfl⟩|⟨e,rfl⟩|⟨e,rfl⟩|⟨e,rfl⟩
 all_goals rw[e]at h1⊢
 all_goals unfold Mr
 all_goals repeat' split
 all_goals omega
def Pm {x P:Int} (u:0<=x) (B:x<128) (z:1<=P) (A:P<=268435456):0<=x*P/\x*P<=127*P:=by
 refine⟨Int.mul_nonneg u zB,Int.mul_le_mul_of_nonneg_right zB zB⟩
theorem d7 (b:List Int) (hb:BY b) (hn:ln b<=100000):zN 287 [zE yA b] [] (.tup [iA (bR b).1,iA (bR b).2.1,iA (bR b).2.2]) []:=by
 have hl:=zA yA b;refine eM call287 λF hF=>?_
 refine WW ?_;refine gD (6) [] [] [0] [5,6,7,0] Z (λzn T U zs=>∃(i:Nat) (n:Int),(zn+i=6/\i<=5/\i<=ln b/\0<=n/\n<128 ^ i/\bR b=VW (b.drop i) i n)/\zs=⟨(5,iA n)::(6,iA (128 ^ i:Int))::(7,iA i)::T,U⟩) ?_;(conv=>whnf);refine⟨?_,?_⟩
 .exact⟨0,0,⟨rfl,zB,zB,zB,by decide,rfl⟩,rfl⟩
 .rintro zn st ⟨i,n,⟨q0,q1,q2,q3,q4,q5⟩,rfl⟩;rw[q5];clear q5;by_cases E:i<ln b
  case neg=>
   have e:b.drop i=[]:=zD3 zB;rw[e]
   show uD _ _ _ _ _ (cF (fk 0 (XV _ _ _ _ (Fin _ _ [] (.tup [iA 0,iA 0,iA 6]) []))) _)
   generalize (128 ^ i:Int)=z at *;exact ly
  have hx:=hb (b.getD i dd) (by simp[pb,E]);have hy:=zJ yA b i E;have e:b.drop i=b.getD i dd::b.drop (i+1):=by rw[zE1 E];simp[pb,E]
  rw[e];clear e;generalize hr:b.drop (i+1)=r at *;generalize V:b.getD i dd=x at *;by_cases L:i=5
  .subst L
   show uD _ _ _ _ _ (cF (fk 0 (XV _ _ _ _ (Fin _ _ [] (.tup [iA 0,iA 0,iA 6]) []))) _)
   generalize (128 ^ 5:Int)=z at *;exact ly
  have ht:x.tmod 128=x % 128:=zB1 hx.1;have O:=du (i:=i) zB;have ac:1<=(128:Int) ^ i/\(128:Int) ^ i<=268435456:=by omega
  have Y:=Pm (x:=x.tmod 128) (P:=128 ^ i) zB zB zB zB;have B:=f7 (i:=i) (n:=n) (x:=x.tmod 128) zB q3 q4 zB zB;have M:(128:Int) ^ (i+1)=128 ^ i*128:=rfl;by_cases I:128<=x
  .have e:VW (x::r) i n=VW r (i+1) (n+x.tmod 128*128 ^ i):=by rw[VW,Os L,f5 I]
   rw[e];clear B O V;generalize (128:Int) ^ i=z at *;have G:aB .i64 (x.tmod 128*z):=by generalize x.tmod 128*z=W at *;exact⟨zB,zB⟩
   have A:aB .i64 (n+x.tmod 128*z):=by generalize x.tmod 128*z=W at *;exact⟨zB,zB⟩
   have S:0<=n+x.tmod 128*z/\n+x.tmod 128*z<z*128:=by generalize x.tmod 128*z=W at *;omega
   (repeat' (first|refine uT ?_|apply yW|apply xI|intro hc|(apply zG;first|(apply wV;first|refine wM (PH Z Z G) Z ?_|refine wM (PG Z Z A) Z ?_)|refine SM ?_)|fail))
   refine⟨zn-1,zB,i+1,n+x.tmod 128*z,⟨zB,zB,zB,S.1,by rw[M];exact S.2,by rw[hr]⟩,?_⟩;rw[M];rfl
  .have C:x.tmod 128=x:=by omega
   have e:VW (x::r) i n=if 4294967295<n+x.tmod 128*128 ^ i\/(0<i/\x=0)then(0,0,6)else(n+x.tmod 128*128 ^ i,(i:Int)+1,0):=by rw[VW,Os L,Os I]
   have c:=BV (n+x.tmod 128*128 ^ i);rw[e];rw[C]at B;rw[C]at c Y⊢;clear O V e;generalize (128:Int) ^ i=z at *;have G:aB .i64 (x.tmod 128*z):=by rw[C];generalize x*z=W at *;exact⟨zB,zB⟩
   have A:aB .i64 (n+x.tmod 128*z):=by rw[C];generalize x*z=W at *;exact⟨zB,zB⟩
   by_cases u:4294967295<n+x*z\/(0<i/\x=0)
   .have ag:Mr (n+x*z)≠(i:Int)+1:=λh=>B.1 h u
    rw[f5 u];clear B u;generalize Mr (n+x*z)=s at *;rw[<-C]at c Y
    (have ga:=c;(repeat' (first|refine uT ?_|apply yW|apply xI|intro hc|(apply zG;first|(apply wV;first|refine wM (PH Z Z G) Z ?_|refine wM (PG Z Z A) Z ?_)|refine SM ?_)|fail))<;>clear ga)
    exact zI
   .have R:=B.2 u;rw[R]at c;rw[Os u];clear B u R;rw[<-C]at c Y⊢
    (have ga:=c;(repeat' (first|refine uT ?_|apply yW|apply xI|intro hc|(apply zG;first|(apply wV;first|refine wM (PH Z Z G) Z ?_|refine wM (PG Z Z A) Z ?_)|refine SM ?_)|fail))<;>clear ga)
    exact zI
section
variable {P:Program} {tm:List (Nat×AV)} {h:List (Nat×xW)} {tx ty:Nat} {x y:Operand}
def B0:∀k:_root_.Fin 256,IntKind.u8.wrap (BitVec.ofInt IntKind.u8.bits (k.val:Int) &&& BitVec.ofInt IntKind.u8.bits 127).toNat=((k.val:Int)).tmod 128:=by decide +kernel
theorem ZR (hx:yX (zK tm) x= .s (.int .u8 m)) (z:yX (zK tm) y= .s (.int .u8 127)) (u:0<=m/\m<256):wX P ⟨tm,h⟩ (.binOp .and tx x y ty) (.s (.int .u8 (m.tmod 128))) [] [] []:=by
 have e:=B0 ⟨m.toNat,zB⟩
 grind [yX,zK,PI]
end
theorem pu (a b:Nat) (u:a<2 ^ 60) (hb:b<2 ^ 60):pj a b=((a ||| b:Nat):Int):=by
 have h:=zFy u hb;unfold pj;rw[show BitVec.ofInt IntKind.i64.bits (a:Int)=BitVec.ofNat IntKind.i64.bits a from zDw ..];rw[show BitVec.ofInt IntKind.i64.bits (b:Int)=BitVec.ofNat IntKind.i64.bits b from zDw ..];rw[zF7,zDv,zDv,zDl (zBy u (zEk yY yY)),zDl (zBy hb (zEk yY yY))];refine kI ⟨?_,?_⟩
 all_goals grind
def A0 {i:Nat} {y:Int} (h:i<=4) (G:0<=n) (h1:n<128 ^ i) (C:0<=y) (I:y<128):pj n (IntKind.i64.wrap (y*2 ^ (min ((7*(i:Int)).toNat) IntKind.i64.bits)))=n+y*128 ^ i:=by
 have hb:IntKind.i64.bits=64:=rfl;have e1:min ((7*(i:Int)).toNat) 64=7*i:=by omega
 have E:(2:Int) ^ (7*i)=128 ^ i:=by rw[Int.pow_mul];rfl
 rw[hb,e1,E];have u:1<=(128:Int) ^ i/\(128:Int) ^ i<=268435456:=by have:=du h;omega
 have B:=Pm C I u.1 u.2;rw[show IntKind.i64.wrap (y*128 ^ i)=y*128 ^ i from kI (k:= .i64) (by unfold aB;generalize y*128 ^ i=M,(128:Int) ^ i=L at *;omega)];obtain⟨a,rfl⟩:=zCl G;obtain⟨c,rfl⟩:=zCl C;have z:(128:Int) ^ i=((128 ^ i:Nat):Int):=by simp
 rw[z]at h1 B u⊢;have A:a<128 ^ i:=by omega
 rw[show((c:Int)*((128 ^ i:Nat):Int))=((c*128 ^ i:Nat):Int) by simp]at B⊢;rw[pu a (c*128 ^ i) (by have:(2:Nat) ^ 60=1152921504606846976:=rfl;omega) (by have:(2:Nat) ^ 60=1152921504606846976:=rfl;omega)];have e3:(128:Nat) ^ i=2 ^ (7*i):=by rw[Nat.pow_mul]
 rw[e3]at A⊢;have:=zEb A c;rw[zF6]at this;rw[Nat.or_comm,<-this];omega
theorem p7 (b:List Int) (hb:BY b) (hn:ln b<=100000):zN 340 [zE yA b] [] (.tup [iA (bR b).1,iA (bR b).2.1,iA (bR b).2.2]) []:=by
 have hl:=zA yA b;refine eM call340 λF hF=>?_
 refine WW ?_;refine uX (b) [] [] [8,9] [5,10,8,9] Z (λi f4 T U zs=>∃n:Int,(0<=n/\n<128 ^ i/\i<=5/\∀post,b=f4++post->bR b=VW post i n)/\zs=⟨(5,iA n)::(10,iA i)::T,U⟩) (Lp ?_ ?_ ?_)
 .exact⟨0,⟨zB,by decide,zB,λpost h=>by rw[h];rfl⟩,rfl⟩
 .rintro i f4 x r st hx hi ⟨n,⟨q0,q1,q2,q3⟩,rfl⟩;have hy:=yJ yA hx hi;have W:=zX hx hi;have z:=hb x (xA hx);rw[q3 _ hx]
  have q4:∀post,b=f4++[x]++post->post=r:=λpost h=>by
   rw[hx,zBh]at h;simpa using h.symm
  clear q3 hx;by_cases C:i=5
  .subst C
   show uD _ _ _ _ _ (cF (fk 0 (XV _ _ _ _ (Fin _ _ [] (.tup [iA 0,iA 0,iA 6]) []))) _)
   clear q4;exact ly
  have ht:x.tmod 128=x % 128:=zB1 z.1;have G:=du (i:=i) zB;have V:1<=(128:Int) ^ i/\(128:Int) ^ i<=268435456:=by omega
  have O:=Pm (x:=x.tmod 128) (P:=128 ^ i) zB zB zB zB;have I:=A0 (i:=i) (n:=n) (y:=x.tmod 128) zB q0 q1 zB zB;have B:(128:Int) ^ (i+1)=128 ^ i*128:=rfl;by_cases A:128<=x
  .have e:VW (x::r) i n=VW r (i+1) (n+x.tmod 128*128 ^ i):=by rw[VW,Os C,f5 A]
   rw[e]
   have E:0<=n+x.tmod 128*128 ^ i/\n+x.tmod 128*128 ^ i<128 ^ (i+1):=by
    rw[B];generalize x.tmod 128*128 ^ i=R at *;omega
   clear G e O;generalize n+x.tmod 128*128 ^ i=M at*
   (repeat' (first|refine uT ?_|apply yW|apply xI|intro hc|(apply zG;first|(apply wV;refine wM (ZR Z Z z) Z ?_)|refine SM ?_)|fail))
   refine⟨M,⟨E.1,E.2,zB,λpost h=>by rw[q4 post h]⟩,?_⟩;rw[<-I];rfl
  .have e:VW (x::r) i n=if 4294967295<n+x.tmod 128*128 ^ i\/(0<i/\x=0)then(0,0,6)else(n+x.tmod 128*128 ^ i,(i:Int)+1,0):=by rw[VW,Os C,Os A]
   rw[e]
   have E:0<=n+x.tmod 128*128 ^ i/\n+x.tmod 128*128 ^ i<128 ^ (i+1):=by
    rw[B];generalize x.tmod 128*128 ^ i=R at *;omega
   clear G e O q4 B;generalize n+x.tmod 128*128 ^ i=M at *;by_cases u:4294967295<M\/(0<i/\x=0)
   .rw[f5 u];by_cases S:4294967295<M
    .clear u
     (repeat' (first|refine uT ?_|apply yW|apply xI|intro hc|(apply zG;first|(apply wV;refine wM (ZR Z Z z) Z ?_)|refine SM ?_)|fail))
     exact zI
    .obtain⟨h1,h2⟩:=u.resolve_left S
     (repeat' (first|refine uT ?_|apply yW|apply xI|intro hc|(apply zG;first|(apply wV;refine wM (ZR Z Z z) Z ?_)|refine SM ?_)|fail))
     exact zI
   .rw[Os u];by_cases L:0<i
    .have Y:x≠0:=λh=>u (.inr ⟨L,h⟩)
     (repeat' (first|refine uT ?_|apply yW|apply xI|intro hc|(apply zG;first|(apply wV;refine wM (ZR Z Z z) Z ?_)|refine SM ?_)|fail))
     rw[<-I];exact zI
    ·(repeat' (first|refine uT ?_|apply yW|apply xI|intro hc|(apply zG;first|(apply wV;refine wM (ZR Z Z z) Z ?_)|refine SM ?_)|fail))
     rw[<-I];exact zI
 .rintro st ⟨n,⟨q0,q1,q2,q3⟩,rfl⟩;rw[q3 [] zV]
  show uD _ _ _ _ _ (cF (fk 0 (XV _ _ _ _ (Fin _ _ [] (.tup [iA 0,iA 0,iA 6]) []))) _)
  exact ly
theorem Om:∀(r:List Int) (i:Nat) (n:Int),BY r->0<=n->(VW r i n=(0,0,6))\/((VW r i n).2.2=0/\0<=(VW r i n).1/\(VW r i n).1<=4294967295/\(i:Int)+1<=(VW r i n).2.1/\(VW r i n).2.1<=i+ln r)
 | [],i,n,_,_=> .inl Z
 | x::r,i,n,hb,B=>by
  have hx:=hb x zV
  have z:0<=n+x.tmod 128*128 ^ i:=by
   have h1:0<=x.tmod 128:=by rw[zB1 hx.1];omega
   have h2:(0:Int)<=128 ^ i:=Int.pow_nonneg zB;have:=Int.mul_nonneg h1 h2;omega
  rw[VW];by_cases u:i=5
  .exact .inl (f5 u)
  rw[Os u];by_cases h1:128<=x
  .rw[f5 h1]
   rcases Om r (i+1) (n+x.tmod 128*128 ^ i) (λy A=>hb y (by simp[A])) z with h|⟨a,b,c,d,e⟩
   .exact .inl h
   .refine .inr ⟨a,b,c,zB,?_⟩;rw[zA6];omega
  .rw[Os h1];by_cases h2:4294967295<n+x.tmod 128*128 ^ i\/(0<i/\x=0)
   .exact .inl (f5 h2)
   .rw[Os h2];refine .inr ⟨rfl,z,zB,zC1 _,?_⟩
    show(i:Int)+1<=_
    rw[zA6];omega
theorem GM (b:List Int) (hb:BY b):bR b=(0,0,6)\/((bR b).2.2=0/\0<=(bR b).1/\(bR b).1<=4294967295/\1<=(bR b).2.1/\(bR b).2.1<=ln b):=by
 have:=Om b 0 0 hb (zC1 _)
 grind [BY,bR]
def XO:Nat->List Int->Option (List Int×List Int)
 |0,b=>some ([],b)
 |n+1,b=>if(bR b).2.2=0 then(match XO n (b.drop (bR b).2.1.toNat)with|none=>none|some (l,r)=>some ((bR b).1::l,r))else none
def Ex (l:List Int):Option (List Int×List Int)->Option (List Int×List Int)
 |none=>none
 |some (k,r)=>some (l++k,r)
def GN (o:Option (List Int×List Int)):Ex [] o=o:=by
 cases o with
 |none=>rfl
 |some p=>rfl
def Zc {l:List Int} {n:Nat} (h:(bR b).2.2≠0):Ex l (XO (n+1) b)=none:=by
 rw[XO,Os h];rfl
theorem Yc {l:List Int} {n:Nat} (h:(bR b).2.2=0):Ex l (XO (n+1) b)=Ex (l++[(bR b).1]) (XO n (b.drop (bR b).2.1.toNat)):=by grind [bR,Ex,XO]
def xf:Option (List Int×List Int)->AV
 |none=> .tup [zE iA [],zE yA [],bA false]
 |some (l,r)=> .tup [zE iA l,zE yA r,bA true]
def RB (b:List Int) (n:Nat) (hb:BY b) (B:ln b<=100000) (L:n<=1000):zN 304 [zE yA b,iA n] [] (xf (XO n b)) []:=by
 refine eM call304 λF hF=>?_
 refine WW ?_;refine vO 12 Z ?_;refine yU (n) [12] [] [13] [0,7,14,13] Z (λi T U I=>∃u c,(ln u=i/\BY c/\c.length<=100000/\XO n b=Ex u (XO (n-i) c))/\I=⟨(0,zE yA c)::(7,.ref 12 0 (u.map iA).length)::(14,iA i)::T,(12,.arr 1 (u.map iA) true)::U⟩) (Lp ?_ ?_ ?_)
 .exact⟨[],b,⟨rfl,hb,B,by rw[GN];rfl⟩,rfl⟩
 .rintro i st hi ⟨u,c,⟨q0,q1,q2,q3⟩,rfl⟩;have hd:=p7 c q1 q2;have hl:=zA yA c;have E:=zA iA u;rw[show n-i=(n-(i+1))+1 by omega]at q3
  rcases GM c q1 with h|⟨h1,h2,h3,h4,h5⟩
  .rw[q3,Zc (by rw[h];decide)];rw[h]at hd;clear q3 h
   show uD _ _ _ _ _ (cF (fk 0 (XV _ _ _ _ (Fin _ _ [] (.tup [zE iA [],zE yA [],bA false]) []))) _)
   exact ng hd
  .rw[Yc h1]at q3;rw[h1]at hd;have A:BY (c.drop (bR c).2.1.toNat):=λy G=>q1 y (zBz G)
   have C:(c.drop (bR c).2.1.toNat).length<=100000:=by rw[zBr];omega
   clear h1;rw[q3];generalize (bR c).1=v,(bR c).2.1=k at *;refine zS hd ?_;refine⟨u++[v],c.drop k.toNat,⟨by simp[q0],A,C,rfl⟩,?_⟩;rw[zAy];rfl
 .rintro st ⟨u,c,⟨q0,q1,q2,q3⟩,rfl⟩;rw[q3,zC7]
  show uD _ _ _ _ _ (cF (fk 0 (XV _ _ _ _ (Fin _ _ [] (.tup [zE iA (u++[]),zE yA c,bA true]) []))) _)
  rw[zBn];refine WW ?_;exact zH [] Z Z (zBb (λz=>AV.tup [z,zE yA c,bA true]) (fY _ _)) Z
def VI (b:List Int) (n:Nat) (hb:BY b) (B:ln b<=100000) (L:n<=1000):zN 239 [zE yA b,iA n] [] (xf (XO n b)) []:=by
 refine eM call239 λF hF=>?_
 refine WW ?_;refine zQ 7 1001 1 Z Z Z ?_;refine yU (n) [1001] [] [11] [0,7,12,11] Z (λi T U I=>∃u c,(ln u=i/\BY c/\c.length<=100000/\XO n b=Ex u (XO (n-i) c))/\I=⟨(0,zE yA c)::(7,.ref 1001 0 (u.map iA).length)::(12,iA i)::T,(1001,.arr 1 (u.map iA) true)::U⟩) (Lp ?_ ?_ ?_)
 .exact⟨[],b,⟨rfl,hb,B,by rw[GN];rfl⟩,rfl⟩
 .rintro i st hi ⟨u,c,⟨q0,q1,q2,q3⟩,rfl⟩;have hd:=d7 c q1 q2;have hl:=zA yA c;have E:=zA iA u;rw[show n-i=(n-(i+1))+1 by omega]at q3
  rcases GM c q1 with h|⟨h1,h2,h3,h4,h5⟩
  .rw[q3,Zc (by rw[h];decide)];rw[h]at hd;clear q3 h
   show uD _ _ _ _ _ (cF (fk 0 (XV _ _ _ _ (Fin _ _ [] (.tup [zE iA [],zE yA [],bA false]) []))) _)
   exact ng hd
  .rw[Yc h1]at q3;rw[h1]at hd;have A:BY (c.drop (bR c).2.1.toNat):=λy G=>q1 y (zBz G)
   have C:(c.drop (bR c).2.1.toNat).length<=100000:=by rw[zBr];omega
   clear h1;rw[q3];generalize (bR c).1=v,(bR c).2.1=k at *;refine zS hd ?_;refine⟨u++[v],c.drop k.toNat,⟨by simp[q0],A,C,rfl⟩,?_⟩;rw[zAy];rfl
 .rintro st ⟨u,c,⟨q0,q1,q2,q3⟩,rfl⟩;rw[q3,zC7]
  show uD _ _ _ _ _ (cF (fk 0 (XV _ _ _ _ (Fin _ _ [] (.tup [zE iA (u++[]),zE yA c,bA true]) []))) _)
  rw[zBn];refine WW ?_;exact zH [] Z Z (zBb (λz=>AV.tup [z,zE yA c,bA true]) (fY _ _)) Z
def Wc:Nat->Int->List Int
 |0,n=>[n]
 |f+1,n=>if n<128 then [n]else(n % 128+128)::Wc f (n/128)
def jR (n:Int):List Int:=Wc 4 n
def Vc {z:Nat} (h:n<128 ^ (z+1+1)):n/128<128 ^ (z+1):=Int.ediv_lt_of_lt_mul yY (by rw[zF3]at h;exact h)
theorem VJ {f:Nat} (h:n<128):Wc f n=[n]:=by
 cases f with
 |zero=>rfl
 |succ f=>exact f5 h
theorem GO {f:Nat} (h:128<=n):Wc (f+1) n=(n % 128+128)::Wc f (n/128):=Os zB
def Dx (n:Int) (C:0<=n) (h1:n<=4294967295):zN 143 [iA n] [] (.tup [zE yA (jR n),iA 0]) []:=by
 have cs:=BV n
 have M:1<=Mr n:=by
  rw[Qm C h1];unfold gu
  repeat' split
  all_goals omega
 generalize Mr n=s at *;generalize E:jR n=R;refine eM call143 λF hF=>?_
 refine zS cs ?_;refine zQ 4 1001 1 Z Z Z ?_;refine gD (4) [1001] [] [] [0,4] Z (λA T U S=>∃(m:Int) (u:List Int),(0<=m/\m<=4294967295/\m<128 ^ (A+1)/\u.length+A=4/\u++Wc A m=R)/\S=⟨(0,iA m)::(4,.ref 1001 0 (u.map yA).length)::T,(1001,.arr 1 (u.map yA) true)::U⟩) ?_;(conv=>whnf);refine⟨?_,?_⟩
 .exact⟨n,[],⟨C,h1,by show n<34359738368;omega,rfl,E⟩,rfl⟩
 .rintro A st ⟨m,u,⟨q0,q1,q2,q3,q4⟩,rfl⟩;have I:=zA yA u;by_cases L:128<=m
  .obtain⟨z,rfl⟩:∃z,A=z+1:=by
    cases A with
    |zero=>exfalso;have:m<128:=q2;omega
    |succ z=>exact⟨z,rfl⟩
   rw[GO L]at q4;have hd:=Vc q2;have O:m.tmod 128=m % 128:=zB1 q0;have B:m.tdiv 128=m/128:=zCv q0;have G:aB .i64 (m.tdiv 128):=⟨zB,zB⟩;clear q2;refine WW ?_;refine⟨z,zB,m.tdiv 128,u++[m.tmod 128+128],⟨zB,zB,by rw[B];exact hd,by simp;omega,by rw[B,O,zBh];exact q4⟩,?_⟩;rw[zAy];rfl
  .rw[VJ zB]at q4;clear q2;subst q4;refine WW ?_;refine zH [] Z Z ?_ Z
   show AV.tup [AV.sl false ((u.map yA++[yA m]).take (u.map yA++[yA m]).length),iA 0]=_
   rw[zAt];unfold zE;rw[zAy];rfl
theorem ou (u:0<=n) (h1:n<=4294967295):jI n 127=n % 128:=by
 obtain⟨a,rfl⟩:=zCl u;unfold jI;rw[show BitVec.ofInt IntKind.i64.bits (a:Int)=BitVec.ofNat IntKind.i64.bits a from zDw ..];rw[show BitVec.ofInt IntKind.i64.bits (127:Int)=BitVec.ofNat IntKind.i64.bits 127 from Z];rw[BitVec.toNat_and,zDv,zDv,zDl (show a<2 ^ IntKind.i64.bits by show a<18446744073709551616;omega),zDl (show 127<2 ^ IntKind.i64.bits by decide)];have e:a &&& 127=a % 128:=Nat.and_two_pow_sub_one_eq_mod a 7
 grind [jI,kI,aB]
def o7:∀k:_root_.Fin 128,IntKind.u8.wrap (BitVec.ofInt IntKind.u8.bits (k.val:Int) ||| BitVec.ofInt IntKind.u8.bits 128).toNat=(k.val:Int)+128:=by decide +kernel
section
variable {P:Program} {tm:List (Nat×AV)} {h:List (Nat×xW)} {tx ty:Nat} {x y:Operand}
theorem nu (hx:yX (zK tm) x= .s (.int .u8 m)) (z:yX (zK tm) y= .s (.int .u8 128)) (u:0<=m/\m<128):wX P ⟨tm,h⟩ (.binOp .or tx x y ty) (.s (.int .u8 (m+128))) [] [] []:=by
 have e:=o7 ⟨m.toNat,zB⟩
 grind [yX,zK,HL]
end
def n7 (n:Int) (E:0<=n) (h1:n<=4294967295):zN 235 [iA n] [] (.tup [zE yA (jR n),iA 0]) []:=by
 generalize G:jR n=R;refine eM call235 λF hF=>?_
 refine WW ?_;refine vO 11 Z ?_;refine gD (4) [11] [] [] [0,4] Z (λA T U O=>∃(m:Int) (u:List Int),(0<=m/\m<=4294967295/\m<128 ^ (A+1)/\u.length+A=4/\u++Wc A m=R)/\O=⟨(0,iA m)::(4,.ref 11 0 (u.map yA).length)::T,(11,.arr 1 (u.map yA) true)::U⟩) ?_;(conv=>whnf);refine⟨?_,?_⟩
 .exact⟨n,[],⟨E,h1,by show n<34359738368;omega,rfl,G⟩,rfl⟩
 .rintro A st ⟨m,u,⟨q0,q1,q2,q3,q4⟩,rfl⟩;have L:=zA yA u;by_cases M:128<=m
  .obtain⟨z,rfl⟩:∃z,A=z+1:=by
    cases A with
    |zero=>exfalso;have:m<128:=q2;omega
    |succ z=>exact⟨z,rfl⟩
   rw[GO M]at q4;have hd:=Vc q2;have I:=ou q0 q1;have B:0<=jI m 127/\jI m 127<128:=by omega
   have C:vT m 7=m/128:=zCy m yY;clear q2
   (repeat' (first|refine uT ?_|apply yW|apply xI|intro hc|(apply zG;first|(apply wV;refine wM (nu Z Z B) Z ?_)|refine SM ?_)|fail))
   refine⟨z,zB,vT m 7,u++[jI m 127+128],⟨zB,zB,by rw[C];exact hd,by simp;omega,by rw[C,I,zBh];exact q4⟩,?_⟩;rw[zAy];rfl
  .rw[VJ zB]at q4;clear q2;subst q4;refine WW ?_;refine zH [] Z Z ?_ Z
   show AV.tup [AV.sl false ((u.map yA++[yA m]).take (u.map yA++[yA m]).length),iA 0]=_
   rw[zAt];unfold zE;rw[zAy];rfl
theorem BW:∀(r:List Int) (i:Nat) (n:Int),BY r->i<=5->(VW r i n).2.2=0->∃q:Int,0<=q/\(VW r i n).1=n+q*128 ^ i/\(0<i->0<q)/\i<=4/\∃j:Nat,(VW r i n).2.1=((i+j:Nat):Int)/\Wc (4-i) q=r.take j
 | [],i,n,_,_,h=>by exact absurd (show(6:Int)=0 from h) yY
 | x ::r,i,n,hb,L,h=>by
  have hx:=hb x zV;by_cases hi:i=5
  .exfalso;rw[VW,f5 hi]at h;exact absurd (show(6:Int)=0 from h) yY
  by_cases z:128<=x
  .have e:VW (x::r) i n=VW r (i+1) (n+x.tmod 128*128 ^ i):=by rw[VW,Os hi,f5 z]
   rw[e]at h⊢;obtain⟨q,R,q1,G,S,j,q4,I⟩:=BW r (i+1) _ (λy E=>hb y (by simp[E])) zB h;have O:x.tmod 128=x % 128:=zB1 hx.1;have M:=G zB;refine⟨x.tmod 128+q*128,zB,?_,λ_=>by omega,zB,j+1,by rw[q4];omega,?_⟩
   .rw[q1,zF3,Int.add_mul,Int.mul_assoc,Int.mul_comm 128,Int.add_assoc]
   .obtain⟨f,C⟩:∃f,4-i=f+1:=⟨3-i,zB⟩;rw[C,GO zB,List.take_succ_cons,<-I,show 4-(i+1)=f by omega]
    congr 1
    .omega
    .congr 1
     omega
  .have A:x.tmod 128=x:=by rw[zB1 hx.1];omega
   have e:VW (x::r) i n=if 4294967295<n+x.tmod 128*128 ^ i\/(0<i/\x=0)then(0,0,6)else(n+x.tmod 128*128 ^ i,(i:Int)+1,0):=by rw[VW,Os hi,Os z]
   rw[e]at h⊢;by_cases u:4294967295<n+x.tmod 128*128 ^ i\/(0<i/\x=0)
   .rw[f5 u]at h;exact absurd (show(6:Int)=0 from h) yY
   .rw[Os u,A];refine⟨x,hx.1,rfl,λB=>?_,zB,1,by show(i:Int)+1=_;omega,?_⟩
    .have:x≠0:=λh=>u (.inr ⟨B,h⟩)
     omega
    .rw[VJ zB];rfl
theorem Nm (hb:BY b) (h:(bR b).2.2=0):jR (bR b).1=b.take (bR b).2.1.toNat:=by
 obtain⟨q,_,q1,_,_,j,q4,u⟩:=BW b 0 0 hb zB h
 grind [BY,bR,jR]
theorem bC:∀(n:Nat) (b l r:List Int),BY b->XO n b=some (l,r)->ln l=n/\BY r/\(∀x∈l,0<=x/\x<=4294967295)/\b=(l.map jR).flatten++r
 |0,b,l,r,hb,h=>by
  cases h;exact⟨rfl,hb,by simp,rfl⟩
 | n +1,b,l,r,hb,h=>by
  rw[XO]at h;by_cases u:(bR b).2.2=0
  .rw[f5 u]at h
   rcases GM b hb with h0|⟨_,h2,h3,h4,h5⟩
   .rw[h0]at u;exact absurd (show(6:Int)=0 from u) yY
   cases z:XO n (b.drop (bR b).2.1.toNat)with
   |none=>rw[z]at h;cases h
   | some p=>
    obtain⟨I,L⟩:=p;rw[z]at h;cases h;obtain⟨A,B,C,E⟩:=bC n _ I r (λy G=>hb y (zBz G)) z;refine⟨by simp[A],B,λx hx=>?_,?_⟩
    .rcases zCf.1 hx with rfl|hx
     .exact⟨h2,h3⟩
     .exact C x hx
    .rw[zCb,zDp,Nm hb u,zBh,<-E,zEh]
  .rw[Os u]at h;cases h
def BX (b:List Int) (n:Nat) (l r:List Int) (hb:BY b) (B:ln b<=100000) (L:n<=1000) (z:XO n b=some (l,r)):zN 304 [zE yA b,iA n] [] (.tup [.ref 1001 0 (l.map iA).length,zE yA r,bA true]) [(1001,.arr 1 (l.map iA) true)]:=by
 refine eM call304 λF hF=>?_
 (repeat' (first|refine uT ?_|apply yW|apply xI|intro hc|(apply zG;first|(apply fP;refine bD 1001 tok Z Z Z Z Z Z Z Z Z Z Z Z Z zB zB Z Z Z ?_))|fail))
 refine vO 1001 Z ?_;refine yU (n) [1001] [] [13] [0,7,14,13] Z (λi T U I=>∃u c,(ln u=i/\BY c/\c.length<=100000/\XO n b=Ex u (XO (n-i) c))/\I=⟨(0,zE yA c)::(7,.ref 1001 0 (u.map iA).length)::(14,iA i)::T,(1001,.arr 1 (u.map iA) true)::U⟩) (Lp ?_ ?_ ?_)
 .exact⟨[],b,⟨rfl,hb,B,by rw[GN];rfl⟩,rfl⟩
 .rintro i st hi ⟨u,c,⟨q0,q1,q2,q3⟩,rfl⟩;have hd:=p7 c q1 q2;have hl:=zA yA c;have E:=zA iA u;rw[show n-i=(n-(i+1))+1 by omega]at q3
  rcases GM c q1 with h|⟨h1,h2,h3,h4,h5⟩
  .rw[Zc (by rw[h];decide),z]at q3;cases q3
  .rw[Yc h1]at q3;rw[h1]at hd;have A:BY (c.drop (bR c).2.1.toNat):=λy G=>q1 y (zBz G)
   have C:(c.drop (bR c).2.1.toNat).length<=100000:=by rw[zBr];omega
   clear h1;generalize (bR c).1=v,(bR c).2.1=k at *;refine zS hd ?_;refine⟨u++[v],c.drop k.toNat,⟨by simp[q0],A,C,q3⟩,?_⟩;rw[zAy];rfl
 .rintro st ⟨u,c,⟨q0,q1,q2,q3⟩,rfl⟩;rw[zC7,z]at q3;have e:(l,r)=(u++[],c):=zD2 q3;rw[zBn]at e;cases e;refine WW ?_;exact zP [1001] rfl rfl rfl rfl
def vS (k:Int):Nat:=if k=2\/k=6 then 3 else if k=4 then 2 else if k=1\/k=9\/k=12 then 0 else 1
def wD (k:Int):Nat:=if k=6 then 4 else if k=7 then 2 else 0
def shA (z u:Nat):AV:= .agg [iA 10,iA z,iA u,iA (if u=0 then 0 else 1),iA (if u=0 then 0 else 3),iA 0]
def Nh (k:Int) (u:1<=k) (h1:k<=12):zN 233 [iA k] [] (.tup [shA (vS k) (wD k),bA true]) []:=by
 obtain rfl|rfl|rfl|rfl|rfl|rfl|rfl|rfl|rfl|rfl|rfl|rfl:k=1\/k=2\/k=3\/k=4\/k=5\/k=6\/k=7\/k=8\/k=9\/k=10\/k=11\/k=12:=by omega
 all_goals (refine eM call233 λF hF=>?_)
 all_goals (refine WW ?_)
 all_goals exact zI
def NX (z u:Nat) (p:List Int):Option (List Int):=
 if 200<ln p\/p.length<10 then none else match XO z (p.drop 10)with
 |none=>none
 | some (a,r)=>if u=0 then(if r=[]then some a else none)else match XO 1 r with
  |none=>none
  |some (c,r2)=>if c.getD 0 0<1\/3<c.getD 0 0 then none else match XO ((c.getD 0 0).toNat*u) r2 with
   |none=>none
   |some (f,r3)=>if r3=[]then some (a++f)else none
def B5 (k:Int) (tok:List Int):Option (List Int)->AV
 |none=> .tup [zW ⟨0,[],[],[]⟩,iA 6]
 |some a=> .tup [zW ⟨k,tok,a,[]⟩,iA 0]
theorem Mm (k:Int) (h0:1<=k) (h1:k<=12) (p:List Int) (hb:BY p) (hn:ln p<=100000):zN 267 [iA k,zE yA p] [] (B5 k (p.take 10) (NX (vS k) (wD k) p)) []:=by
 have hl:=zA yA p;have z:=Nh k h0 h1
 have hf:vS k<=3:=by
  unfold vS
  repeat' split
  all_goals omega
 have hg:wD k=0\/(2<=wD k/\wD k<=4):=by
  unfold wD
  repeat' split
  all_goals omega
 generalize vS k=V,wD k=C at *;unfold shA at z;by_cases A:200<ln p\/p.length<10
 .rw[show NX V C p=none from f5 A]
  show zN 267 [iA k,zE yA p] [] (.tup [zW ⟨0,[],[],[]⟩,iA 6]) []
  by_cases h2:200<ln p
  ·(refine eM call267 λF hF=>?_)
   exact ng z
  .have h3:=A.resolve_left h2;refine eM call267 λF hF=>?_
   exact ng z
 have e0:NX V C p=_:=Os A;rw[e0];clear e0;have O:BY (p.drop 10):=λy hy=>hb y (zBz hy)
 have ac:(p.drop 10).length<=100000:=by rw[zBr];omega
 have G:=RB (p.drop 10) V O ac zB
 cases E:XO V (p.drop 10)with
 |none=>
  rw[E]at G
  show zN 267 [iA k,zE yA p] [] (.tup [zW ⟨0,[],[],[]⟩,iA 6]) []
  unfold xf at G;refine eM call267 λF hF=>?_
  exact mx (xV z G)
 |some q=>
 obtain⟨a,r⟩:=q;obtain⟨ha,W,a3,av⟩:=bC _ _ _ _ O E
 have au:ln r<=100000:=by
  have:=zBb List.length av;rw[zAv]at this;omega
 have a9:=zA yA r;have a7:=zA iA a;have k1:=kS (p.take 10) JD
 rcases hg with rfl|⟨g2,g4⟩
 .rw[E]at G;unfold xf at G;dsimp only;rw[f5 Z];by_cases U:r=[]
  .subst U;have k2:=kS [] zV;rw[f5 Z]
   show zN 267 [iA k,zE yA p] [] (.tup [zW ⟨k,p.take 10,a,[]⟩,iA 0]) []
   refine eM call267 λF hF=>?_
   exact mx (cD z G k1 k2)
  .have ar:ln r≠0:=λh=>U (zBv h)
   rw[Os U]
   show zN 267 [iA k,zE yA p] [] (.tup [zW ⟨0,[],[],[]⟩,iA 6]) []
   refine eM call267 λF hF=>?_
   exact mx (xV z G)
 have u:=BX (p.drop 10) V a r O ac zB E;have B:=RB r 1 W au zB;clear G;dsimp only;rw[Os zB]
 cases R:XO 1 r with
 |none=>
  rw[R]at B;unfold xf at B
  show zN 267 [iA k,zE yA p] [] (.tup [zW ⟨0,[],[],[]⟩,iA 6]) []
  refine eM call267 λF hF=>?_
  exact mx (qM z u B)
 |some q2=>
 obtain⟨c,r2⟩:=q2;obtain⟨Y,L,a4,ap⟩:=bC _ _ _ _ W R
 obtain⟨v,rfl⟩:∃v,c=[v]:=by
  cases c with
  |nil=>cases Y
  |cons v c=>cases c with
   |nil=>exact⟨v,rfl⟩
   |cons w c=>simp at Y
 have ag:ln r2<=100000:=by
  have:=zBb List.length ap;rw[zAv]at this;omega
 rw[R]at B;unfold xf at B;dsimp only;rw[show [v].getD 0 0=v from Z];by_cases hv:v<1\/3<v
 .rw[f5 hv]
  show zN 267 [iA k,zE yA p] [] (.tup [zW ⟨0,[],[],[]⟩,iA 6]) []
  by_cases ax:v<1
  ·(refine eM call267 λF hF=>?_)
   exact mx (qM z u B)
  .have ba:=hv.resolve_left ax;refine eM call267 λF hF=>?_
   exact mx (qM z u B)
 rw[Os hv];have bb:v.toNat*C<=12:=zBw (zDi (show v.toNat<=3 by omega) g4) yY;have M:((v.toNat*C:Nat):Int)=v*(C:Int):=by rw[zFb,zEm zB]
 have I:=RB r2 (v.toNat*C) L ag zB;rw[M]at I;have hm:0<=v*(C:Int)/\v*(C:Int)<=12:=by rw[<-M];omega
 clear M
 cases S:XO (v.toNat*C) r2 with
 |none=>
  rw[S]at I;unfold xf at I
  show zN 267 [iA k,zE yA p] [] (.tup [zW ⟨0,[],[],[]⟩,iA 6]) []
  refine eM call267 λF hF=>?_
  exact mx (cD z u B I)
 |some q3=>
 obtain⟨f,r3⟩:=q3;obtain⟨a5,az,a6,a2⟩:=bC _ _ _ _ L S;have a8:=zA iA f;have a1:=zA yA r3;rw[S]at I;unfold xf at I;dsimp only;by_cases U:r3=[]
 .subst U;have k2:=kS [] zV;rw[f5 Z]
  show zN 267 [iA k,zE yA p] [] (.tup [zW ⟨k,p.take 10,a++f,[]⟩,iA 0]) []
  refine eM call267 λF hF=>?_
  refine yG (mb z u B I k1 k2) ?_;refine zH [] Z Z ?_ Z
  show AV.tup [.agg [iA k,zE yA (p.take 10),.sl false ((a.map iA++f.map iA).take (a.map iA++f.map iA).length),zE yA []],iA 0]=_
  rw[zAt,<-zAy];rfl
 .have ar:ln r3≠0:=λh=>U (zBv h)
  rw[Os U]
  show zN 267 [iA k,zE yA p] [] (.tup [zW ⟨0,[],[],[]⟩,iA 6]) []
  refine eM call267 λF hF=>?_
  exact mx (cD z u B I)
def Uc (z u:Nat):AV:= .agg [iA z,iA u,iA (if u=0 then 0 else 1),iA (if u=0 then 0 else 3),iA 0]
def Tc (k:Int) (u:1<=k) (h1:k<=12):zN 141 [iA k] [] (Uc (vS k) (wD k)) []:=by
 obtain rfl|rfl|rfl|rfl|rfl|rfl|rfl|rfl|rfl|rfl|rfl|rfl:k=1\/k=2\/k=3\/k=4\/k=5\/k=6\/k=7\/k=8\/k=9\/k=10\/k=11\/k=12:=by omega
 all_goals (refine eM call141 λF hF=>?_)
 all_goals (refine WW ?_)
 all_goals exact zI
def aZ (u z:Nat) (c:Int):Nat->List Int->List Int
 |_,[]=>[]
 |i,x::r=>(if i=u/\z≠0 then [c]else [])++(jR x++aZ u z c (i+1) r)
def dK (u z:Nat) (c:Int) (m:Ms):List Int:=(m.tok++aZ u z c 0 m.args)++((if z≠0/\m.args.length=u then [0]else [])++m.data)
theorem vf:∀(f:Nat) (n:Int),1<=(Wc f n).length/\(Wc f n).length<=f+1
 |0,n=>by simp[Wc]
 |f+1,n=>by
  have:=vf f (n/128);rw[Wc];split
  .simp
  .rw[zA6];omega
theorem gC (n:Int):1<=(jR n).length/\(jR n).length<=5:=vf 4 n
theorem YZ (k:Int) (h0:1<=k) (h1:k<=12) (m:Ms) (c:Nat) (hk:m.kind=k) (ht:ln m.tok=10) (hd:ln m.data<=100000) (ha:∀x∈m.args,0<=x/\x<=4294967295) (hn:ln m.args<=1000) (hc:wD k≠0->ln m.args=vS k+c*wD k) (au:c<=3):
  zN 70 [zW m] [] (zE yA (dK (vS k) (wD k) c m)) []:=by
 subst hk;have I:=Tc m.kind h0 h1
 have hg:wD m.kind<=4:=by
  unfold wD
  repeat' split
  all_goals omega
 generalize vS m.kind=C,wD m.kind=z at *;unfold Uc at I;have a1:=zA yA m.tok;have ac:=zA iA m.args;have ax:=zA yA m.data;unfold dK;generalize hT:m.tok++aZ C z c 0 m.args=ap;refine eM call70 λF hF=>?_
 (have ga:=I;(repeat' (first|refine uT ?_|apply yW|apply xI|intro hc|(apply zG;first|(apply yC;refine xG 1001 tok Z Z Z Z Z Z (yM _ _ (λ_=>rfl)) Z Z Z zB Z Z Z ?_))|fail))<;>clear ga)
 refine vO 1001 Z ?_;refine uX (m.args) [1001,1,3] [1,3] [1,3,16,17] [4,18,1,3,16,17] Z (λi f4 T U zs=>∃u:List Int,(ln u<=10+6*i/\∀post,m.args=f4++post->u++aZ C z c i post=ap)/\zs=⟨(4,.ref 1001 0 (u.map yA).length)::(18,iA i)::T,(1001,.arr 1 (u.map yA) true)::U⟩) (Lp ?_ ?_ ?_)
 .exact⟨m.tok,⟨zB,λpost h=>by rw[<-hT,h];rfl⟩,rfl⟩
 .rintro i f4 x post st hx hi ⟨u,⟨q0,q1⟩,rfl⟩;have hy:=yJ iA hx hi;have ar:=zX hx hi;have O:=ha x (xA hx);have M:=zA yA u;have he:=gC x;have W:=Dx x O.1 O.2;have az:=zA yA (jR x)
  have A:∀p,m.args=f4++[x]++p->p=post:=λp h=>by
   rw[hx,zBh]at h;simpa using h.symm
  have B:=q1 _ hx;clear q1 hT hx;by_cases G:i=C/\z≠0
  .obtain⟨rfl,E⟩:=G;have L:=hc E
   have hq:(((m.args.map iA).length:Int)-(i:Int)).tdiv (z:Int)=(c:Int):=by
    rw[ac,L,show(((i+c*z:Nat):Int)-(i:Int))=(c:Int)*(z:Int) by rw[Int.natCast_add,zFb];omega];exact Int.mul_tdiv_cancel _ zB
   have av:aB .i64 ((((m.args.map iA).length:Int)-(i:Int)).tdiv (z:Int)):=by rw[hq];exact⟨zB,zB⟩
   have e:aZ i z c i (x::post)=[(c:Int)]++(jR x++aZ i z c (i+1) post):=by rw[aZ,f5 ⟨rfl,E⟩]
   rw[e]at B;clear e L hc;generalize jR x=S at *;refine yG (xV I W) ?_;refine⟨u++[(c:Int)]++S,⟨by simp;omega,λp h=>by rw[A p h,<-B];simp⟩,?_⟩;rw[zAy,zAy,<-hq];rfl
  .have e:aZ C z c i (x::post)=jR x++aZ C z c (i+1) post:=by rw[aZ,Os G];rfl
   rw[e]at B;clear e hc;generalize jR x=S at *;by_cases Y:i=C
   .have E:z=0:=by
     by_cases h:z=0
     .exact h
     .exact absurd ⟨Y,h⟩ G
    refine yG (xV I W) ?_;refine⟨u++S,⟨by simp;omega,λp h=>by rw[A p h,<-B];simp⟩,?_⟩;rw[zAy];rfl
   ·(refine yG (xV I W) ?_)
    refine⟨u++S,⟨by simp;omega,λp h=>by rw[A p h,<-B];simp⟩,?_⟩;rw[zAy];rfl
 .rintro st ⟨u,⟨q0,q1⟩,rfl⟩;have e:=q1 [] zV;rw[show aZ C z c (ln m.args) []=[]from rfl,zBn]at e;subst e;have M:=zA yA u;clear q1 hT hc;by_cases V:z≠0/\m.args.length=C
  .rw[f5 V];obtain⟨R,ag⟩:=V;refine WW ?_;refine zH [] Z Z ?_ Z
   show AV.sl false ((u.map yA++[yA 0]++m.data.map yA).take (u.map yA++[yA 0]++m.data.map yA).length)=_
   rw[zAt];unfold zE;rw[zAy,zAy,zBh];rfl
  .rw[Os V];by_cases R:z=0
   ·(refine WW ?_)
    refine zH [] Z Z ?_ Z
    show AV.sl false ((u.map yA++m.data.map yA).take (u.map yA++m.data.map yA).length)=_
    rw[zAt];unfold zE;rw[zAy];rfl
   .have ag:ln m.args≠C:=λh=>V ⟨R,h⟩
    refine WW ?_;refine zH [] Z Z ?_ Z
    show AV.sl false ((u.map yA++m.data.map yA).take (u.map yA++m.data.map yA).length)=_
    rw[zAt];unfold zE;rw[zAy];rfl
def g9 (p:Int×Int):AV:= .agg [iA p.1,iA p.2]
def qR (n:Int):List (Int×Int):=if n=0 then [(0,0),(0,0)]else if n=1 then [(0,0),(1,0),(0,1),(1,1)]else if n=2 then [(0,0),(1,0),(0,0)]
 else if n=3 then [(0,0),(0,0),(1,0),(1,0),(0,1),(0,1),(1,1),(1,1)]else if n=4 then [(1,0),(0,1),(0,2)]else [(0,0)]
def Lm (n:Int):zN 161 [iA n] [] (zE g9 (qR n)) []:=by
 by_cases u:n=0
 .subst u;refine eM call161 λF hF=>?_
  (repeat' (first|refine aM ?_|refine yW (λhc=>?_) λhc=>?_|fail))
  exact zI
 by_cases h1:n=1
 .subst h1;refine eM call161 λF hF=>?_
  (repeat' (first|refine aM ?_|refine yW (λhc=>?_) λhc=>?_|fail))
  exact zI
 by_cases h2:n=2
 .subst h2;refine eM call161 λF hF=>?_
  (repeat' (first|refine aM ?_|refine yW (λhc=>?_) λhc=>?_|fail))
  exact zI
 by_cases z:n=3
 .subst z;refine eM call161 λF hF=>?_
  (repeat' (first|refine aM ?_|refine yW (λhc=>?_) λhc=>?_|fail))
  exact zI
 by_cases A:n=4
 .subst A;refine eM call161 λF hF=>?_
  (repeat' (first|refine aM ?_|refine yW (λhc=>?_) λhc=>?_|fail))
  exact zI
 rw[show qR n=[(0,0)] by simp[qR,u,h1,h2,z,A]];refine eM call161 λF hF=>?_
 (repeat' (first|refine aM ?_|refine yW (λhc=>?_) λhc=>?_|fail))
 exact zI
instance:Inhabited (Int×Int):=⟨(0,0)⟩
def UY (d:Dk) (s:Int×Int):Ph:=
 if nx (ad (ad (ad d))) 3=2 then⟨s.1,s.2,1+nx d (3-1+1),max (1+nx d (3-1+1)) (1+nx (ad (ad (ad (ad d)))) (2-1+1)+(1+nx (ad (ad (ad (ad (ad d))))) (2-1+1)))+nx (ad (ad (ad (ad (ad (ad d)))))) 4,1+nx (ad d) (2-1+1),nx (ad (ad d)) 3,1+nx (ad (ad (ad (ad d)))) (2-1+1),1+nx (ad (ad (ad (ad (ad d))))) (2-1+1)⟩
 else⟨s.1,s.2,1+nx d (3-1+1),max (1+nx d (3-1+1)) (0+0)+nx (ad (ad (ad (ad d)))) 4,1+nx (ad d) (2-1+1),nx (ad (ad d)) 3,0,0⟩
def A5 (d:Dk):Dk:=if nx (ad (ad (ad d))) 3=2 then ad (ad (ad (ad (ad (ad (ad d))))))else ad (ad (ad (ad (ad d))))
def JN (d:Dk) (l:List (Int×Int)):Nat->List Ph×Dk
 |0=>([],d)
 |i+1=>((JN d l i).1++[UY (JN d l i).2 (l.getD i dd)],A5 (JN d l i).2)
theorem UZ (d:Dk) (l:List (Int×Int)):∀i,(JN d l i).1.length=i
 |0=>rfl
 |i+1=>by simp[JN,UZ d l i]
def Lr (u:List Ph) (z:Bool) (i k:Nat):Bool:=i != k&&((u.getD i dd).ring==(u.getD k dd).ring||(u.getD i dd).group != (u.getD k dd).group||z&&((i:Int)+k).tmod 2==1)
def XP (z:List Ph) (u:Bool) (i:Nat):Nat->Int
 |0=>0
 |k+1=>if Lr z u i k=true then XP z u i k+2 ^ k else XP z u i k
theorem PS (z:List Ph) (u:Bool) (i:Nat):∀k,0<=XP z u i k/\XP z u i k<2 ^ k
 |0=>by simp[XP]
 |k+1=>by
  have:=PS z u i k;have e:(2:Int) ^ (k+1)=2 ^ k*2:=zF3 2 k;unfold XP
  split<;>omega
def fF (u:List Ph) (z:Bool) (n:Nat):List Int:=(List.range n).map λi=>XP u z i (ln u)
def VX (d:Dk):List Ph×Dk:=JN (ad (ad d)) (qR (nx d 6)) (qR (nx d 6)).length
def NY (d:Dk):Jn:=⟨(VX d).1,fF (VX d).1 (nx (VX d).2 4==3) (VX d).1.length,nx (ad d) 3⟩
def m7 (d:Dk):Dk:=ad (VX d).2
def NZ (n:Int):1<=(qR n).length/\(qR n).length<=8:=by
 unfold qR
 (repeat' split)<;>simp
def A9 (k:Nat) (h:k<8):IntKind.i64.wrap (1*2 ^ (min ((k:Int)).toNat IntKind.i64.bits))=2 ^ k/\(2:Int) ^ k<=128:=by
 obtain rfl|rfl|rfl|rfl|rfl|rfl|rfl|rfl:k=0\/k=1\/k=2\/k=3\/k=4\/k=5\/k=6\/k=7:=by omega
 all_goals decide
theorem Sc (d:Dk):zN 91 [.ptr 1000 0 0] [(1000,eE d)] (wJ (NY d)) [(1000,eE (m7 d))]:=by
 have hb:=yQ d 6 zB;have a1:=NZ (nx d 6);have sc:=Lm (nx d 6);have ej:NY d=⟨(VX d).1,fF (VX d).1 (nx (VX d).2 4==3) (VX d).1.length,nx (ad d) 3⟩:=rfl;have ed:m7 d=ad (VX d).2:=rfl;have ep:VX d=JN (ad (ad d)) (qR (nx d 6)) (qR (nx d 6)).length:=rfl;rw[ej,ed];generalize VX d=jp,qR (nx d 6)=l at *;have M:(l.map g9).length=ln l:=by simp
 refine eM call91 λF hF=>?_
 (repeat' (first|refine aM ?_|refine yW (λhc=>?_) λhc=>?_|(apply zG;apply xP;(first|(refine vG 161 ?_;first|refine wM (zL (sc) Z Z Z Z Z) Z ?_|refine uU (zL (sc) Z Z Z Z Z) Z Z Z ?_|refine aF (zL (sc) Z Z Z Z Z) Z Z Z ?_)|(refine vG 16 ?_;first|refine wM (zL (yT _ _ zB zB) Z Z Z Z Z) Z ?_|refine uU (zL (yT _ _ zB zB) Z Z Z Z Z) Z Z Z ?_|refine aF (zL (yT _ _ zB zB) Z Z Z Z Z) Z Z Z ?_)))|fail))
 refine gI 4 0 1001 8 Z Z Z Z Z ?_
 refine wP (λn st=>∃i:Nat,n+i=ln l/\st=⟨[(0,.ptr 1000 0 0),(2,.ptr 2 0 0),(4,.ptr 4 0 0),(20,zE g9 l),(21,iA (ln l)),(22,iA i)],
   [(1000,eE (JN (ad (ad d)) l i).2),(2,.box [.s (.slice none 0 0),.s (.slice none 0 0),iA 0]),(4,.box [.ref 1001 0 ((JN (ad (ad d)) l i).1.map xN).length,.s (.slice none 0 0),iA (nx (ad d) 3)]),(1001,.arr 8 ((JN (ad (ad d)) l i).1.map xN) true)]⟩)
  (ln l) [1000,2,4,1001] [0,2,4,20,21,22] Z ⟨0,rfl,by rw[<-M];rfl⟩ ?_
 rintro n st ⟨i,hi,rfl⟩;by_cases R:i<ln l
 .have U:=yE g9 l i zB zB;rw[show((i:Int)).toNat=i from Z]at U;have I:(JN (ad (ad d)) l (i+1)).1.map xN=(JN (ad (ad d)) l i).1.map xN++[xN (UY (JN (ad (ad d)) l i).2 (l.getD i dd))]:=zAy;have hd:(JN (ad (ad d)) l (i+1)).2=A5 (JN (ad (ad d)) l i).2:=rfl;have ac:=UZ (ad (ad d)) l i;generalize l.getD i dd=p at *;obtain⟨Y,p2⟩:=p;generalize S:JN (ad (ad d)) l (i+1)=q' at I hd;generalize JN (ad (ad d)) l i=q at *;obtain⟨ql,z⟩:=q;dsimp only at I hd ac⊢;have b0:=yQ z (3-1+1) zB;have b1:=yQ (ad (ad (ad (ad z)))) 4 zB;have b2:=yQ (ad (ad (ad (ad z)))) (2-1+1) zB;have b3:=yQ (ad (ad (ad (ad (ad z))))) (2-1+1) zB;have b4:=yQ (ad (ad (ad (ad (ad (ad z)))))) 4 zB;by_cases V:nx (ad (ad (ad z))) 3=2
  .rw[show UY z (Y,p2)=⟨Y,p2,1+nx z (3-1+1),max (1+nx z (3-1+1)) (1+nx (ad (ad (ad (ad z)))) (2-1+1)+(1+nx (ad (ad (ad (ad (ad z))))) (2-1+1)))+nx (ad (ad (ad (ad (ad (ad z)))))) 4,1+nx (ad z) (2-1+1),nx (ad (ad z)) 3,1+nx (ad (ad (ad (ad z)))) (2-1+1),1+nx (ad (ad (ad (ad (ad z))))) (2-1+1)⟩ by unfold UY;rw[f5 V]]at I;rw[show A5 z=ad (ad (ad (ad (ad (ad (ad z)))))) by unfold A5;rw[f5 V]]at hd
   (repeat' (first|refine aM ?_|refine yW (λhc=>?_) λhc=>?_|(apply zG;apply xP;(first|(refine vG 68 ?_;first|refine wM (zL (jO _ _ _ zB zB zB) Z Z Z Z Z) Z ?_|refine uU (zL (jO _ _ _ zB zB zB) Z Z Z Z Z) Z Z Z ?_|refine aF (zL (jO _ _ _ zB zB zB) Z Z Z Z Z) Z Z Z ?_)|(refine vG 16 ?_;first|refine wM (zL (yT _ _ zB zB) Z Z Z Z Z) Z ?_|refine uU (zL (yT _ _ zB zB) Z Z Z Z Z) Z Z Z ?_|refine aF (zL (yT _ _ zB zB) Z Z Z Z Z) Z Z Z ?_)))|fail))
   exact⟨n-1,zB,i+1,zB,by rw[S,I,hd];rfl⟩
  .rw[show UY z (Y,p2)=⟨Y,p2,1+nx z (3-1+1),max (1+nx z (3-1+1)) (0+0)+nx (ad (ad (ad (ad z)))) 4,1+nx (ad z) (2-1+1),nx (ad (ad z)) 3,0,0⟩ by unfold UY;rw[Os V]]at I;rw[show A5 z=ad (ad (ad (ad (ad z)))) by unfold A5;rw[Os V]]at hd
   (repeat' (first|refine aM ?_|refine yW (λhc=>?_) λhc=>?_|(apply zG;apply xP;(first|(refine vG 68 ?_;first|refine wM (zL (jO _ _ _ zB zB zB) Z Z Z Z Z) Z ?_|refine uU (zL (jO _ _ _ zB zB zB) Z Z Z Z Z) Z Z Z ?_|refine aF (zL (jO _ _ _ zB zB zB) Z Z Z Z Z) Z Z Z ?_)|(refine vG 16 ?_;first|refine wM (zL (yT _ _ zB zB) Z Z Z Z Z) Z ?_|refine uU (zL (yT _ _ zB zB) Z Z Z Z Z) Z Z Z ?_|refine aF (zL (yT _ _ zB zB) Z Z Z Z Z) Z Z Z ?_)))|fail))
   exact⟨n-1,zB,i+1,zB,by rw[S,I,hd];rfl⟩
 obtain rfl:i=ln l:=by omega
 have ag:jp.1.length=ln l:=by rw[ep];exact UZ _ _ _
 rw[<-ep];clear ep ej ed sc M hi R;obtain⟨u,dj⟩:=jp;dsimp only at ag⊢;have O:(u.map xN).length=ln u:=by simp
 generalize nx (ad d) 3=W
 (repeat' (first|refine aM ?_|refine yW (λhc=>?_) λhc=>?_|(apply zG;apply xP;(first|(refine vG 16 ?_;first|refine wM (zL (yT _ _ zB zB) Z Z Z Z Z) Z ?_|refine uU (zL (yT _ _ zB zB) Z Z Z Z Z) Z Z Z ?_|refine aF (zL (yT _ _ zB zB) Z Z Z Z Z) Z Z Z ?_)))|fail))
 generalize nx dj 4=n4
 refine kW (st':=⟨[(0,.ptr 1000 0 0),(2,.ptr 2 0 0),(4,.ptr 4 0 0),(8,bA (n4==3)),(69,zE xN u),(70,iA (ln u)),(71,iA 0)],
   [(1000,eE (ad dj)),(2,.box [.s (.slice none 0 0),.s (.slice none 0 0),iA 0]),(4,.box [zE xN u,.s (.slice none 0 0),iA W])]⟩) [1000,2,4] [0,2,4,8,69,70,71] Z (by
  have e1:zE xN u= .sl false (List.take (u.map xN).length (List.drop 0 (u.map xN))):=by
   rw[zBd,zAt];rfl
  rw[e1,<-O]
  rfl) ?_
 generalize (n4==3)=A;generalize ad dj=dk;refine gI 4 1 1002 1 Z Z Z Z Z ?_
 refine wP (λn st=>∃i:Nat,n+i=ln u/\st=⟨[(0,.ptr 1000 0 0),(2,.ptr 2 0 0),(4,.ptr 4 0 0),(8,bA A),(69,zE xN u),(70,iA (ln u)),(71,iA i)],
   [(1000,eE dk),(2,.box [.s (.slice none 0 0),.s (.slice none 0 0),iA 0]),(4,.box [zE xN u,.ref 1002 0 ((fF u A i).map iA).length,iA W]),(1002,.arr 1 ((fF u A i).map iA) true)]⟩)
  (ln u) [1000,2,4,1002] [0,2,4,8,69,70,71] Z ⟨0,rfl,rfl⟩ ?_
 clear n;rintro n st ⟨i,hi,rfl⟩;by_cases R:i<ln u
 .have U:=yE xN u i zB zB;rw[show((i:Int)).toNat=i from Z]at U;have ht:(fF u A (i+1)).map iA=(fF u A i).map iA++[iA (XP u A i (ln u))]:=by unfold fF;rw[zCs];simp
  have ar:(fF u A i).length=i:=by simp[fF]
  obtain⟨p,hp⟩:∃p,u.getD i dd=p:=⟨_,rfl⟩;rw[hp]at U;obtain⟨C,G⟩:∃r,fF u A i=r:=⟨_,rfl⟩;rw[G]at ht ar⊢
  (repeat' (first|refine aM ?_|refine yW (λhc=>?_) λhc=>?_|fail))
  refine wP (λn st=>∃k:Nat,n+k=ln u/\st=⟨[(0,.ptr 1000 0 0),(2,.ptr 2 0 0),(4,.ptr 4 0 0),(8,bA A),(9,iA i),(10,.ptr 10 0 0),(11,iA (XP u A i k)),(69,zE xN u),(70,iA (ln u)),(71,iA i),(77,zE xN u),(78,iA (ln u)),(79,iA k)],
    [(1000,eE dk),(2,.box [.s (.slice none 0 0),.s (.slice none 0 0),iA 0]),(4,.box [zE xN u,.ref 1002 0 (C.map iA).length,iA W]),(10,.box [iA p.ring,iA p.group,iA p.ming,iA p.maxg,iA p.yel,iA p.red,iA p.walk,iA p.clear]),(1002,.arr 1 (C.map iA) true)]⟩)
   (ln u) [1000,2,4,10,1002] [0,2,4,8,9,10,11,69,70,71,77,78,79] Z ⟨0,rfl,by rw[<-O];rfl⟩ ?_
  rintro L st ⟨k,hk,rfl⟩;by_cases ax:k<ln u
  .have av:=yE xN u k zB zB;rw[show((k:Int)).toNat=k from Z]at av
   have B:XP u A i (k+1)=if Lr u A i k=true then XP u A i k+2 ^ k else XP u A i k:=rfl
   have hc:Lr u A i k=(i != k&&(p.ring==(u.getD k dd).ring||p.group != (u.getD k dd).group||A&&((i:Int)+k).tmod 2==1)):=by rw[<-hp];rfl
   obtain⟨hw,au⟩:=A9 k zB;obtain⟨az,hr1⟩:=PS u A i k;have ap:0<=(2:Int) ^ k:=by omega
   rw[show(2:Int) ^ k=p2 k from Z]at B hr1 ap au;clear hw;generalize u.getD k dd=q at *;by_cases E:i=k
   .rw[Os (by rw[hc];simp[E])]at B;clear hc;subst E
    (repeat' (first|refine aM ?_|refine yW (λhc=>?_) λhc=>?_|fail))
    exact⟨L-1,zB,i+1,zB,by rw[B];rfl⟩
   by_cases h1:p.ring=q.ring
   .rw[f5 (by rw[hc];simp[E,h1])]at B;clear hc
    (repeat' (first|refine aM ?_|refine yW (λhc=>?_) λhc=>?_|fail))
    exact⟨L-1,zB,k+1,zB,by rw[B];rfl⟩
   by_cases h2:p.group=q.group
   .cases A with
    |false=>
     rw[Os (by rw[hc];simp[E,h1,h2])]at B;clear hc
     (repeat' (first|refine aM ?_|refine yW (λhc=>?_) λhc=>?_|fail))
     exact⟨L-1,zB,k+1,zB,by rw[B];rfl⟩
    | true=>
     by_cases h3:((i:Int)+k).tmod 2=1
     .rw[f5 (by rw[hc];simp[E,h1,h2,h3])]at B;clear hc
      (repeat' (first|refine aM ?_|refine yW (λhc=>?_) λhc=>?_|fail))
      exact⟨L-1,zB,k+1,zB,by rw[B];rfl⟩
     .rw[Os (by rw[hc];simp[E,h1,h2,h3])]at B;clear hc
      (repeat' (first|refine aM ?_|refine yW (λhc=>?_) λhc=>?_|fail))
      exact⟨L-1,zB,k+1,zB,by rw[B];rfl⟩
   .rw[f5 (by rw[hc];simp[E,h1,h2])]at B;clear hc
    (repeat' (first|refine aM ?_|refine yW (λhc=>?_) λhc=>?_|fail))
    exact⟨L-1,zB,k+1,zB,by rw[B];rfl⟩
  .obtain rfl:k=ln u:=by omega
   have hr:=PS u A i (ln u)
   (repeat' (first|refine aM ?_|refine yW (λhc=>?_) λhc=>?_|fail))
   exact⟨n-1,zB,i+1,zB,by rw[ht];rfl⟩
 obtain rfl:i=ln u:=by omega
 (repeat' (first|refine aM ?_|refine yW (λhc=>?_) λhc=>?_|fail))
 exact zP [1000] Z Z (zBb (λx=>AV.agg [zE xN u,AV.sl false x,iA W]) zAt) Z
