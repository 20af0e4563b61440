/- Part 10. -/
import Derived.Test.YtaglbcjljlkjcaaGreatU07
namespace Go.Proofs.YtaglbcjljlkjcaaGreat.Av
open Tryz
set_option linter.all false
set_option maxRecDepth 4000
set_option maxHeartbeats 2000000
open List renaming length->ln,getD->pi
open Inhabited renaming default->dd
variable {m n:Int}{b:List Int}{i:Nat}
def VV:List Int->Nat->Int->Int×Int×Int
 | [],_,_=>(0,0,6)
 |x::r,i,n=>if i=5 then(0,0,6)else if 128<=x then VV r (i+1) (n+x.tmod 128*128 ^ i)else if 4294967295<n+x.tmod 128*128 ^ i\/(0<i/\x=0)then(0,0,6)else(n+x.tmod 128*128 ^ i,i+1,0)
def bT (b:List Int):Int×Int×Int:=VV b 0 0
def Ir (n:Int):Int:=if n<0\/4294967295<n then 0 else if n<128 then 1 else if n<16384 then 2 else if n<2097152 then 3 else if n<268435456 then 4 else 5
def gu (m:Int):Int:=if m<128 then 0 else if m<16384 then 1 else if m<2097152 then 2 else if m<268435456 then 3 else 4
theorem Lm (u:0<=n) (h1:n<=4294967295):Ir n=1+gu n:=by grind [Ir,gu]
theorem fu (u:128<=m) (h1:m<=4294967295):gu m=1+gu (m/128):=by grind [gu]
def D0 (h:m<128):gu m=0:=zAs h
def BU (n:Int):zN 201 [iA n] [] (iA (Ir n)) []:=by
 by_cases h:n<0\/4294967295<n
 .have e:Ir n=0:=zAs h;rw[e];by_cases h1:n<0
  ·(refine eM call201 λF hF=>?_)
   exact mx
  .have h2:=h.resolve_left h1;refine eM call201 λF hF=>?_
   exact mx
 have h1:0<=n:=by omega
 have h2:n<=4294967295:=by omega
 rw[Lm h1 h2];generalize C:1+gu n=s;refine eM call201 λF hF=>?_
 refine WW ?_;refine jQ (5) [] [] [] [0,3] Z (λz T U E=>∃(m:Int) (k:Int),(0<=m/\m<=4294967295/\k=6-z/\1<=k/\k<=5/\(k=2->m<=33554431)/\(k=3->m<=262143)/\(k=4->m<=2047)/\(k=5->m<=15)/\s=k+gu m)/\E=⟨(0,iA m)::(3,iA k)::T,U⟩) ?_;(conv=>whnf);refine⟨?_,?_⟩
 .exact⟨n,1,⟨h1,h2,zB,zB,zB,zB,zB,zB,zB,C.symm⟩,rfl⟩
 .rintro z st ⟨m,k,⟨q0,q1,q2,q3,q4,q5,q6,q7,q8,q9⟩,rfl⟩;by_cases B:128<=m
  .have hd:=fu B q1;have u:m.tdiv 128=m/128:=zCw q0;have A:aD .i64 (m.tdiv 128):=⟨zB,zB⟩;refine WW ?_;refine⟨z-1,zB,m.tdiv 128,k+1,⟨zB,zB,zB,zB,zB,zB,zB,zB,zB,by rw[u];omega⟩,rfl⟩
  .rw[D0 zB]at q9;obtain rfl:s=k:=by omega
   exact mx
def du (h:i<=4):((128:Int) ^ i=1/\i=0)\/((128:Int) ^ i=128/\i=1)\/((128:Int) ^ i=16384/\i=2)\/((128:Int) ^ i=2097152/\i=3)\/((128:Int) ^ i=268435456/\i=4):=by
 obtain rfl|rfl|rfl|rfl|rfl:i=0\/i=1\/i=2\/i=3\/i=4:=by omega
 all_goals simp
def v7 {i:Nat} {x:Int} (h:i<=4) (u:0<=n) (h1:n<128 ^ i) (z:0<=x) (A:x<128):(Ir (n+x*128 ^ i)=(i:Int)+1)↔¬(4294967295<n+x*128 ^ i\/(0<i/\x=0)):=by
 rcases du h with⟨e,rfl⟩|⟨e,rfl⟩|⟨e,rfl⟩|⟨e,rfl⟩|⟨e,rfl⟩
 all_goals rw[e]at h1⊢
 all_goals unfold Ir
 all_goals repeat' split
 all_goals omega
def Km {x P:Int} (u:0<=x) (B:x<128) (z:1<=P) (A:P<=268435456):0<=x*P/\x*P<=127*P:=by
 refine⟨Int.mul_nonneg u zB,Int.mul_le_mul_of_nonneg_right zB zB⟩
theorem u7 (b:List Int) (hb:BY b) (hn:ln b<=100000):zN 287 [zE yA b] [] (.tup [iA (bT b).1,iA (bT b).2.1,iA (bT b).2.2]) []:=by
 have hl:=zA yA b;refine eM call287 λF hF=>?_
 refine WW ?_;refine jQ (6) [] [] [0] [5,6,7,0] Z (λzn T U zs=>∃(i:Nat) (n:Int),(zn+i=6/\i<=5/\i<=ln b/\0<=n/\n<128 ^ i/\bT b=VV (b.drop i) i n)/\zs=⟨(5,iA n)::(6,iA (128 ^ i:Int))::(7,iA i)::T,U⟩) ?_;(conv=>whnf);refine⟨?_,?_⟩
 .exact⟨0,0,⟨rfl,zB,zB,zB,by decide,rfl⟩,rfl⟩
 .rintro zn st ⟨i,n,⟨q0,q1,q2,q3,q4,q5⟩,rfl⟩;rw[q5];clear q5;by_cases E:i<ln b
  case neg=>
   have e:b.drop i=[]:=zD5 zB;rw[e]
   show uE _ _ _ _ _ (cE (ik 0 (XX _ _ _ _ (Fin _ _ [] (.tup [iA 0,iA 0,iA 6]) []))) _)
   generalize (128 ^ i:Int)=z at *;exact mx
  have hx:=hb (b.getD i dd) (by simp[pi,E]);have hy:=zJ yA b i E;have e:b.drop i=b.getD i dd::b.drop (i+1):=by rw[zE3 E];simp[pi,E]
  rw[e];clear e;generalize hr:b.drop (i+1)=r at *;generalize W:b.getD i dd=x at *;by_cases L:i=5
  .subst L
   show uE _ _ _ _ _ (cE (ik 0 (XX _ _ _ _ (Fin _ _ [] (.tup [iA 0,iA 0,iA 6]) []))) _)
   generalize (128 ^ 5:Int)=z at *;exact mx
  have ht:x.tmod 128=x % 128:=zB3 hx.1;have O:=du (i:=i) zB;have ac:1<=(128:Int) ^ i/\(128:Int) ^ i<=268435456:=by omega
  have hz:=Km (x:=x.tmod 128) (P:=128 ^ i) zB zB zB zB;have B:=v7 (i:=i) (n:=n) (x:=x.tmod 128) zB q3 q4 zB zB;have M:(128:Int) ^ (i+1)=128 ^ i*128:=rfl;by_cases I:128<=x
  .have e:VV (x::r) i n=VV r (i+1) (n+x.tmod 128*128 ^ i):=by rw[VV,Os L,zAs I]
   rw[e];clear B O W;generalize (128:Int) ^ i=z at *;have G:aD .i64 (x.tmod 128*z):=by generalize x.tmod 128*z=Y at *;exact⟨zB,zB⟩
   have A:aD .i64 (n+x.tmod 128*z):=by generalize x.tmod 128*z=Y at *;exact⟨zB,zB⟩
   have V:0<=n+x.tmod 128*z/\n+x.tmod 128*z<z*128:=by generalize x.tmod 128*z=Y at *;omega
   (repeat' (first|refine uS ?_|apply yW|apply xH|intro hc|(apply zG;first|(apply wY;first|refine wM (PK Z Z G) Z ?_|refine wM (PJ Z Z A) Z ?_)|refine SM ?_)|fail))
   refine⟨zn-1,zB,i+1,n+x.tmod 128*z,⟨zB,zB,zB,V.1,by rw[M];exact V.2,by rw[hr]⟩,?_⟩;rw[M];rfl
  .have C:x.tmod 128=x:=by omega
   have e:VV (x::r) i n=if 4294967295<n+x.tmod 128*128 ^ i\/(0<i/\x=0)then(0,0,6)else(n+x.tmod 128*128 ^ i,(i:Int)+1,0):=by rw[VV,Os L,Os I]
   have c:=BU (n+x.tmod 128*128 ^ i);rw[e];rw[C]at B;rw[C]at c hz⊢;clear O W e;generalize (128:Int) ^ i=z at *;have G:aD .i64 (x.tmod 128*z):=by rw[C];generalize x*z=Y at *;exact⟨zB,zB⟩
   have A:aD .i64 (n+x.tmod 128*z):=by rw[C];generalize x*z=Y at *;exact⟨zB,zB⟩
   by_cases u:4294967295<n+x*z\/(0<i/\x=0)
   .have ag:Ir (n+x*z)≠(i:Int)+1:=λh=>B.1 h u
    rw[zAs u];clear B u;generalize Ir (n+x*z)=s at *;rw[<-C]at c hz
    (have gd:=c;(repeat' (first|refine uS ?_|apply yW|apply xH|intro hc|(apply zG;first|(apply wY;first|refine wM (PK Z Z G) Z ?_|refine wM (PJ Z Z A) Z ?_)|refine SM ?_)|fail))<;>clear gd)
    exact zH
   .have S:=B.2 u;rw[S]at c;rw[Os u];clear B u S;rw[<-C]at c hz⊢
    (have gd:=c;(repeat' (first|refine uS ?_|apply yW|apply xH|intro hc|(apply zG;first|(apply wY;first|refine wM (PK Z Z G) Z ?_|refine wM (PJ Z Z A) Z ?_)|refine SM ?_)|fail))<;>clear gd)
    exact zH
section
variable {P:Program} {tm:List (Nat×AV)} {h:List (Nat×xW)} {tx ty:Nat} {x y:Operand}
def B0:∀k:_root_.Fin 256,IntKind.u8.wrap (BitVec.ofInt IntKind.u8.bits (k.val:Int) &&& BitVec.ofInt IntKind.u8.bits 127).toNat=((k.val:Int)).tmod 128:=by decide +kernel
theorem ZU (z:yX (zK tm) x= .s (.int .u8 m)) (A:yX (zK tm) y= .s (.int .u8 127)) (u:0<=m/\m<256):wZ P ⟨tm,h⟩ (.binOp .and tx x y ty) (.s (.int .u8 (m.tmod 128))) [] [] []:=by
 have e:=B0 ⟨m.toNat,zB⟩
 grind [yX,zK,PL]
end
theorem pu (a b:Nat) (u:a<2 ^ 60) (hb:b<2 ^ 60):rj a b=((a ||| b:Nat):Int):=by
 have h:=zF0 u hb;unfold rj;rw[show BitVec.ofInt IntKind.i64.bits (a:Int)=BitVec.ofNat IntKind.i64.bits a from zDy ..];rw[show BitVec.ofInt IntKind.i64.bits (b:Int)=BitVec.ofNat IntKind.i64.bits b from zDy ..];rw[zF9,zDw,zDw,zDm (zB0 u (zEm yY yY)),zDm (zB0 hb (zEm yY yY))];refine kI ⟨?_,?_⟩
 all_goals grind
def A0 {i:Nat} {y:Int} (h:i<=4) (G:0<=n) (h1:n<128 ^ i) (C:0<=y) (I:y<128):rj n (IntKind.i64.wrap (y*2 ^ (min ((7*(i:Int)).toNat) IntKind.i64.bits)))=n+y*128 ^ i:=by
 have hb:IntKind.i64.bits=64:=rfl;have e1:min ((7*(i:Int)).toNat) 64=7*i:=by omega
 have E:(2:Int) ^ (7*i)=128 ^ i:=by rw[Int.pow_mul];rfl
 rw[hb,e1,E];have u:1<=(128:Int) ^ i/\(128:Int) ^ i<=268435456:=by have:=du h;omega
 have B:=Km C I u.1 u.2;rw[show IntKind.i64.wrap (y*128 ^ i)=y*128 ^ i from kI (k:= .i64) (by unfold aD;generalize y*128 ^ i=M,(128:Int) ^ i=L at *;omega)];obtain⟨a,rfl⟩:=zCo G;obtain⟨c,rfl⟩:=zCo C;have z:(128:Int) ^ i=((128 ^ i:Nat):Int):=by simp
 rw[z]at h1 B u⊢;have A:a<128 ^ i:=by omega
 rw[show((c:Int)*((128 ^ i:Nat):Int))=((c*128 ^ i:Nat):Int) by simp]at B⊢;rw[pu a (c*128 ^ i) (by have:(2:Nat) ^ 60=1152921504606846976:=rfl;omega) (by have:(2:Nat) ^ 60=1152921504606846976:=rfl;omega)];have e3:(128:Nat) ^ i=2 ^ (7*i):=by rw[Nat.pow_mul]
 rw[e3]at A⊢;have:=zEd A c;rw[zF8]at this;rw[Nat.or_comm,<-this];omega
theorem j7 (b:List Int) (hb:BY b) (hn:ln b<=100000):zN 340 [zE yA b] [] (.tup [iA (bT b).1,iA (bT b).2.1,iA (bT b).2.2]) []:=by
 have hl:=zA yA b;refine eM call340 λF hF=>?_
 refine WW ?_;refine uW (b) [] [] [8,9] [5,10,8,9] Z (λi ga T U zs=>∃n:Int,(0<=n/\n<128 ^ i/\i<=5/\∀post,b=ga++post->bT b=VV post i n)/\zs=⟨(5,iA n)::(10,iA i)::T,U⟩) (Lp ?_ ?_ ?_)
 .exact⟨0,⟨zB,by decide,zB,λpost h=>by rw[h];rfl⟩,rfl⟩
 .rintro i ga x r st G hi ⟨n,⟨q0,q1,q2,q3⟩,rfl⟩;have hy:=yJ yA G hi;have ac:=zW G hi;have z:=hb x (xA G);rw[q3 _ G]
  have q4:∀post,b=ga++[x]++post->post=r:=λpost h=>by
   rw[G,zBl]at h;simpa using h.symm
  clear q3 G;by_cases C:i=5
  .subst C
   show uE _ _ _ _ _ (cE (ik 0 (XX _ _ _ _ (Fin _ _ [] (.tup [iA 0,iA 0,iA 6]) []))) _)
   clear q4;exact mx
  have ht:x.tmod 128=x % 128:=zB3 z.1;have I:=du (i:=i) zB;have Y:1<=(128:Int) ^ i/\(128:Int) ^ i<=268435456:=by omega
  have S:=Km (x:=x.tmod 128) (P:=128 ^ i) zB zB zB zB;have L:=A0 (i:=i) (n:=n) (y:=x.tmod 128) zB q0 q1 zB zB;have B:(128:Int) ^ (i+1)=128 ^ i*128:=rfl;by_cases A:128<=x
  .have e:VV (x::r) i n=VV r (i+1) (n+x.tmod 128*128 ^ i):=by rw[VV,Os C,zAs A]
   rw[e]
   have E:0<=n+x.tmod 128*128 ^ i/\n+x.tmod 128*128 ^ i<128 ^ (i+1):=by
    rw[B];generalize x.tmod 128*128 ^ i=V at *;omega
   clear I e S;generalize n+x.tmod 128*128 ^ i=M at*
   (repeat' (first|refine uS ?_|apply yW|apply xH|intro hc|(apply zG;first|(apply wY;refine wM (ZU Z Z z) Z ?_)|refine SM ?_)|fail))
   refine⟨M,⟨E.1,E.2,zB,λpost h=>by rw[q4 post h]⟩,?_⟩;rw[<-L];rfl
  .have e:VV (x::r) i n=if 4294967295<n+x.tmod 128*128 ^ i\/(0<i/\x=0)then(0,0,6)else(n+x.tmod 128*128 ^ i,(i:Int)+1,0):=by rw[VV,Os C,Os A]
   rw[e]
   have E:0<=n+x.tmod 128*128 ^ i/\n+x.tmod 128*128 ^ i<128 ^ (i+1):=by
    rw[B];generalize x.tmod 128*128 ^ i=V at *;omega
   clear I e S q4 B;generalize n+x.tmod 128*128 ^ i=M at *;by_cases u:4294967295<M\/(0<i/\x=0)
   .rw[zAs u];by_cases W:4294967295<M
    .clear u
     (repeat' (first|refine uS ?_|apply yW|apply xH|intro hc|(apply zG;first|(apply wY;refine wM (ZU Z Z z) Z ?_)|refine SM ?_)|fail))
     exact zH
    .obtain⟨h1,h2⟩:=u.resolve_left W
     (repeat' (first|refine uS ?_|apply yW|apply xH|intro hc|(apply zG;first|(apply wY;refine wM (ZU Z Z z) Z ?_)|refine SM ?_)|fail))
     exact zH
   .rw[Os u];by_cases O:0<i
    .have ag:x≠0:=λh=>u (.inr ⟨O,h⟩)
     (repeat' (first|refine uS ?_|apply yW|apply xH|intro hc|(apply zG;first|(apply wY;refine wM (ZU Z Z z) Z ?_)|refine SM ?_)|fail))
     rw[<-L];exact zH
    ·(repeat' (first|refine uS ?_|apply yW|apply xH|intro hc|(apply zG;first|(apply wY;refine wM (ZU Z Z z) Z ?_)|refine SM ?_)|fail))
     rw[<-L];exact zH
 .rintro st ⟨n,⟨q0,q1,q2,q3⟩,rfl⟩;rw[q3 [] zV]
  show uE _ _ _ _ _ (cE (ik 0 (XX _ _ _ _ (Fin _ _ [] (.tup [iA 0,iA 0,iA 6]) []))) _)
  exact mx
theorem Jm:∀(r:List Int) (i:Nat) (n:Int),BY r->0<=n->(VV r i n=(0,0,6))\/((VV r i n).2.2=0/\0<=(VV r i n).1/\(VV r i n).1<=4294967295/\(i:Int)+1<=(VV r i n).2.1/\(VV r i n).2.1<=i+ln r)
 | [],i,n,_,_=> .inl Z
 | x::r,i,n,hb,C=>by
  have A:=hb x zV
  have z:0<=n+x.tmod 128*128 ^ i:=by
   have h1:0<=x.tmod 128:=by rw[zB3 A.1];omega
   have h2:(0:Int)<=128 ^ i:=Int.pow_nonneg zB;have:=Int.mul_nonneg h1 h2;omega
  rw[VV];by_cases u:i=5
  .exact .inl (zAs u)
  rw[Os u];by_cases h1:128<=x
  .rw[zAs h1]
   rcases Jm r (i+1) (n+x.tmod 128*128 ^ i) (λy B=>hb y (by simp[B])) z with h|⟨a,b,c,d,e⟩
   .exact .inl h
   .refine .inr ⟨a,b,c,zB,?_⟩;rw[zA8];omega
  .rw[Os h1];by_cases h2:4294967295<n+x.tmod 128*128 ^ i\/(0<i/\x=0)
   .exact .inl (zAs h2)
   .rw[Os h2];refine .inr ⟨rfl,z,zB,zC3 _,?_⟩
    show(i:Int)+1<=_
    rw[zA8];omega
theorem GQ (b:List Int) (hb:BY b):bT b=(0,0,6)\/((bT b).2.2=0/\0<=(bT b).1/\(bT b).1<=4294967295/\1<=(bT b).2.1/\(bT b).2.1<=ln b):=by
 have:=Jm b 0 0 hb (zC3 _)
 grind [BY,bT]
def XN:Nat->List Int->Option (List Int×List Int)
 |0,b=>some ([],b)
 |n+1,b=>if(bT b).2.2=0 then(match XN n (b.drop (bT b).2.1.toNat)with|none=>none|some (l,r)=>some ((bT b).1::l,r))else none
def Dx (l:List Int):Option (List Int×List Int)->Option (List Int×List Int)
 |none=>none
 |some (k,r)=>some (l++k,r)
def GR (o:Option (List Int×List Int)):Dx [] o=o:=by
 cases o with
 |none=>rfl
 |some p=>rfl
def tc {l:List Int} {n:Nat} (h:(bT b).2.2≠0):Dx l (XN (n+1) b)=none:=by
 rw[XN,Os h];rfl
theorem Zc {l:List Int} {n:Nat} (h:(bT b).2.2=0):Dx l (XN (n+1) b)=Dx (l++[(bT b).1]) (XN n (b.drop (bT b).2.1.toNat)):=by grind [bT,Dx,XN]
def uf:Option (List Int×List Int)->AV
 |none=> .tup [zE iA [],zE yA [],bA false]
 |some (l,r)=> .tup [zE iA l,zE yA r,bA true]
def RE (b:List Int) (n:Nat) (hb:BY b) (B:ln b<=100000) (L:n<=1000):zN 304 [zE yA b,iA n] [] (uf (XN n b)) []:=by
 refine eM call304 λF hF=>?_
 refine WW ?_;refine vP 12 Z ?_;refine yU (n) [12] [] [13] [0,7,14,13] Z (λi T U I=>∃u c,(ln u=i/\BY c/\c.length<=100000/\XN n b=Dx u (XN (n-i) c))/\I=⟨(0,zE yA c)::(7,.ref 12 0 (u.map iA).length)::(14,iA i)::T,(12,.arr 1 (u.map iA) true)::U⟩) (Lp ?_ ?_ ?_)
 .exact⟨[],b,⟨rfl,hb,B,by rw[GR];rfl⟩,rfl⟩
 .rintro i st hi ⟨u,c,⟨q0,q1,q2,q3⟩,rfl⟩;have hd:=j7 c q1 q2;have hl:=zA yA c;have E:=zA iA u;rw[show n-i=(n-(i+1))+1 by omega]at q3
  rcases GQ c q1 with h|⟨h1,h2,h3,h4,h5⟩
  .rw[q3,tc (by rw[h];decide)];rw[h]at hd;clear q3 h
   show uE _ _ _ _ _ (cE (ik 0 (XX _ _ _ _ (Fin _ _ [] (.tup [zE iA [],zE yA [],bA false]) []))) _)
   exact nl hd
  .rw[Zc h1]at q3;rw[h1]at hd;have A:BY (c.drop (bT c).2.1.toNat):=λy G=>q1 y (zB1 G)
   have C:(c.drop (bT c).2.1.toNat).length<=100000:=by rw[zBr];omega
   clear h1;rw[q3];generalize (bT c).1=v,(bT c).2.1=k at *;refine zS hd ?_;refine⟨u++[v],c.drop k.toNat,⟨by simp[q0],A,C,rfl⟩,?_⟩;rw[zA0];rfl
 .rintro st ⟨u,c,⟨q0,q1,q2,q3⟩,rfl⟩;rw[q3,zDx]
  show uE _ _ _ _ _ (cE (ik 0 (XX _ _ _ _ (Fin _ _ [] (.tup [zE iA (u++[]),zE yA c,bA true]) []))) _)
  rw[zBo];refine WW ?_;exact zI [] Z Z (zBd (λz=>AV.tup [z,zE yA c,bA true]) (fZ _ _)) Z
def VJ (b:List Int) (n:Nat) (hb:BY b) (B:ln b<=100000) (L:n<=1000):zN 239 [zE yA b,iA n] [] (uf (XN n b)) []:=by
 refine eM call239 λF hF=>?_
 refine WW ?_;refine zQ 7 1001 1 Z Z Z ?_;refine yU (n) [1001] [] [11] [0,7,12,11] Z (λi T U I=>∃u c,(ln u=i/\BY c/\c.length<=100000/\XN n b=Dx u (XN (n-i) c))/\I=⟨(0,zE yA c)::(7,.ref 1001 0 (u.map iA).length)::(12,iA i)::T,(1001,.arr 1 (u.map iA) true)::U⟩) (Lp ?_ ?_ ?_)
 .exact⟨[],b,⟨rfl,hb,B,by rw[GR];rfl⟩,rfl⟩
 .rintro i st hi ⟨u,c,⟨q0,q1,q2,q3⟩,rfl⟩;have hd:=u7 c q1 q2;have hl:=zA yA c;have E:=zA iA u;rw[show n-i=(n-(i+1))+1 by omega]at q3
  rcases GQ c q1 with h|⟨h1,h2,h3,h4,h5⟩
  .rw[q3,tc (by rw[h];decide)];rw[h]at hd;clear q3 h
   show uE _ _ _ _ _ (cE (ik 0 (XX _ _ _ _ (Fin _ _ [] (.tup [zE iA [],zE yA [],bA false]) []))) _)
   exact nl hd
  .rw[Zc h1]at q3;rw[h1]at hd;have A:BY (c.drop (bT c).2.1.toNat):=λy G=>q1 y (zB1 G)
   have C:(c.drop (bT c).2.1.toNat).length<=100000:=by rw[zBr];omega
   clear h1;rw[q3];generalize (bT c).1=v,(bT c).2.1=k at *;refine zS hd ?_;refine⟨u++[v],c.drop k.toNat,⟨by simp[q0],A,C,rfl⟩,?_⟩;rw[zA0];rfl
 .rintro st ⟨u,c,⟨q0,q1,q2,q3⟩,rfl⟩;rw[q3,zDx]
  show uE _ _ _ _ _ (cE (ik 0 (XX _ _ _ _ (Fin _ _ [] (.tup [zE iA (u++[]),zE yA c,bA true]) []))) _)
  rw[zBo];refine WW ?_;exact zI [] Z Z (zBd (λz=>AV.tup [z,zE yA c,bA true]) (fZ _ _)) Z
def Yc:Nat->Int->List Int
 |0,n=>[n]
 |f+1,n=>if n<128 then [n]else(n % 128+128)::Yc f (n/128)
def jT (n:Int):List Int:=Yc 4 n
def Wc {z:Nat} (h:n<128 ^ (z+1+1)):n/128<128 ^ (z+1):=Int.ediv_lt_of_lt_mul yY (by rw[zF5]at h;exact h)
theorem VK {f:Nat} (h:n<128):Yc f n=[n]:=by
 cases f with
 |zero=>rfl
 |succ f=>exact zAs h
theorem GT {f:Nat} (h:128<=n):Yc (f+1) n=(n % 128+128)::Yc f (n/128):=Os zB
def Cx (n:Int) (C:0<=n) (h1:n<=4294967295):zN 143 [iA n] [] (.tup [zE yA (jT n),iA 0]) []:=by
 have cs:=BU n
 have M:1<=Ir n:=by
  rw[Lm C h1];unfold gu
  repeat' split
  all_goals omega
 generalize Ir n=s at *;generalize E:jT n=R;refine eM call143 λF hF=>?_
 refine zS cs ?_;refine zQ 4 1001 1 Z Z Z ?_;refine jQ (4) [1001] [] [] [0,4] Z (λA T U S=>∃(m:Int) (u:List Int),(0<=m/\m<=4294967295/\m<128 ^ (A+1)/\u.length+A=4/\u++Yc A m=R)/\S=⟨(0,iA m)::(4,.ref 1001 0 (u.map yA).length)::T,(1001,.arr 1 (u.map yA) true)::U⟩) ?_;(conv=>whnf);refine⟨?_,?_⟩
 .exact⟨n,[],⟨C,h1,by show n<34359738368;omega,rfl,E⟩,rfl⟩
 .rintro A st ⟨m,u,⟨q0,q1,q2,q3,q4⟩,rfl⟩;have I:=zA yA u;by_cases L:128<=m
  .obtain⟨z,rfl⟩:∃z,A=z+1:=by
    cases A with
    |zero=>exfalso;have:m<128:=q2;omega
    |succ z=>exact⟨z,rfl⟩
   rw[GT L]at q4;have hd:=Wc q2;have O:m.tmod 128=m % 128:=zB3 q0;have B:m.tdiv 128=m/128:=zCw q0;have G:aD .i64 (m.tdiv 128):=⟨zB,zB⟩;clear q2;refine WW ?_;refine⟨z,zB,m.tdiv 128,u++[m.tmod 128+128],⟨zB,zB,by rw[B];exact hd,by simp;omega,by rw[B,O,zBl];exact q4⟩,?_⟩;rw[zA0];rfl
  .rw[VK zB]at q4;clear q2;subst q4;refine WW ?_;refine zI [] Z Z ?_ Z
   show AV.tup [AV.sl false ((u.map yA++[yA m]).take (u.map yA++[yA m]).length),iA 0]=_
   rw[zAv];unfold zE;rw[zA0];rfl
theorem ou (u:0<=n) (h1:n<=4294967295):kX n 127=n % 128:=by
 obtain⟨a,rfl⟩:=zCo u;unfold kX;rw[show BitVec.ofInt IntKind.i64.bits (a:Int)=BitVec.ofNat IntKind.i64.bits a from zDy ..];rw[show BitVec.ofInt IntKind.i64.bits (127:Int)=BitVec.ofNat IntKind.i64.bits 127 from Z];rw[BitVec.toNat_and,zDw,zDw,zDm (show a<2 ^ IntKind.i64.bits by show a<18446744073709551616;omega),zDm (show 127<2 ^ IntKind.i64.bits by decide)];have e:a &&& 127=a % 128:=Nat.and_two_pow_sub_one_eq_mod a 7
 grind [kX,kI,aD]
def f7:∀k:_root_.Fin 128,IntKind.u8.wrap (BitVec.ofInt IntKind.u8.bits (k.val:Int) ||| BitVec.ofInt IntKind.u8.bits 128).toNat=(k.val:Int)+128:=by decide +kernel
section
variable {P:Program} {tm:List (Nat×AV)} {h:List (Nat×xW)} {tx ty:Nat} {x y:Operand}
theorem nu (z:yX (zK tm) x= .s (.int .u8 m)) (A:yX (zK tm) y= .s (.int .u8 128)) (u:0<=m/\m<128):wZ P ⟨tm,h⟩ (.binOp .or tx x y ty) (.s (.int .u8 (m+128))) [] [] []:=by
 have e:=f7 ⟨m.toNat,zB⟩
 grind [yX,zK,HP]
end
def d7 (n:Int) (E:0<=n) (h1:n<=4294967295):zN 235 [iA n] [] (.tup [zE yA (jT n),iA 0]) []:=by
 generalize G:jT n=R;refine eM call235 λF hF=>?_
 refine WW ?_;refine vP 11 Z ?_;refine jQ (4) [11] [] [] [0,4] Z (λA T U O=>∃(m:Int) (u:List Int),(0<=m/\m<=4294967295/\m<128 ^ (A+1)/\u.length+A=4/\u++Yc A m=R)/\O=⟨(0,iA m)::(4,.ref 11 0 (u.map yA).length)::T,(11,.arr 1 (u.map yA) true)::U⟩) ?_;(conv=>whnf);refine⟨?_,?_⟩
 .exact⟨n,[],⟨E,h1,by show n<34359738368;omega,rfl,G⟩,rfl⟩
 .rintro A st ⟨m,u,⟨q0,q1,q2,q3,q4⟩,rfl⟩;have L:=zA yA u;by_cases M:128<=m
  .obtain⟨z,rfl⟩:∃z,A=z+1:=by
    cases A with
    |zero=>exfalso;have:m<128:=q2;omega
    |succ z=>exact⟨z,rfl⟩
   rw[GT M]at q4;have hd:=Wc q2;have I:=ou q0 q1;have B:0<=kX m 127/\kX m 127<128:=by omega
   have C:vQ m 7=m/128:=zC0 m yY;clear q2
   (repeat' (first|refine uS ?_|apply yW|apply xH|intro hc|(apply zG;first|(apply wY;refine wM (nu Z Z B) Z ?_)|refine SM ?_)|fail))
   refine⟨z,zB,vQ m 7,u++[kX m 127+128],⟨zB,zB,by rw[C];exact hd,by simp;omega,by rw[C,I,zBl];exact q4⟩,?_⟩;rw[zA0];rfl
  .rw[VK zB]at q4;clear q2;subst q4;refine WW ?_;refine zI [] Z Z ?_ Z
   show AV.tup [AV.sl false ((u.map yA++[yA m]).take (u.map yA++[yA m]).length),iA 0]=_
   rw[zAv];unfold zE;rw[zA0];rfl
theorem BV:∀(r:List Int) (i:Nat) (n:Int),BY r->i<=5->(VV r i n).2.2=0->∃q:Int,0<=q/\(VV r i n).1=n+q*128 ^ i/\(0<i->0<q)/\i<=4/\∃j:Nat,(VV r i n).2.1=((i+j:Nat):Int)/\Yc (4-i) q=r.take j
 | [],i,n,_,_,h=>by exact absurd (show(6:Int)=0 from h) yY
 | x ::r,i,n,hb,M,h=>by
  have A:=hb x zV;by_cases hi:i=5
  .exfalso;rw[VV,zAs hi]at h;exact absurd (show(6:Int)=0 from h) yY
  by_cases z:128<=x
  .have e:VV (x::r) i n=VV r (i+1) (n+x.tmod 128*128 ^ i):=by rw[VV,Os hi,zAs z]
   rw[e]at h⊢;obtain⟨q,U,q1,I,V,j,q4,L⟩:=BV r (i+1) _ (λy G=>hb y (by simp[G])) zB h;have S:x.tmod 128=x % 128:=zB3 A.1;have O:=I zB;refine⟨x.tmod 128+q*128,zB,?_,λ_=>by omega,zB,j+1,by rw[q4];omega,?_⟩
   .rw[q1,zF5,Int.add_mul,Int.mul_assoc,Int.mul_comm 128,Int.add_assoc]
   .obtain⟨f,E⟩:∃f,4-i=f+1:=⟨3-i,zB⟩;rw[E,GT zB,List.take_succ_cons,<-L,show 4-(i+1)=f by omega]
    congr 1
    .omega
    .congr 1
     omega
  .have B:x.tmod 128=x:=by rw[zB3 A.1];omega
   have e:VV (x::r) i n=if 4294967295<n+x.tmod 128*128 ^ i\/(0<i/\x=0)then(0,0,6)else(n+x.tmod 128*128 ^ i,(i:Int)+1,0):=by rw[VV,Os hi,Os z]
   rw[e]at h⊢;by_cases u:4294967295<n+x.tmod 128*128 ^ i\/(0<i/\x=0)
   .rw[zAs u]at h;exact absurd (show(6:Int)=0 from h) yY
   .rw[Os u,B];refine⟨x,A.1,rfl,λC=>?_,zB,1,by show(i:Int)+1=_;omega,?_⟩
    .have:x≠0:=λh=>u (.inr ⟨C,h⟩)
     omega
    .rw[VK zB];rfl
theorem Im (hb:BY b) (h:(bT b).2.2=0):jT (bT b).1=b.take (bT b).2.1.toNat:=by
 obtain⟨q,_,q1,_,_,j,q4,u⟩:=BV b 0 0 hb zB h
 grind [BY,bT,jT]
theorem bD:∀(n:Nat) (b l r:List Int),BY b->XN n b=some (l,r)->ln l=n/\BY r/\(∀x∈l,0<=x/\x<=4294967295)/\b=(l.map jT).flatten++r
 |0,b,l,r,hb,h=>by
  cases h;exact⟨rfl,hb,by simp,rfl⟩
 | n +1,b,l,r,hb,h=>by
  rw[XN]at h;by_cases u:(bT b).2.2=0
  .rw[zAs u]at h
   rcases GQ b hb with h0|⟨_,h2,h3,h4,h5⟩
   .rw[h0]at u;exact absurd (show(6:Int)=0 from u) yY
   cases z:XN n (b.drop (bT b).2.1.toNat)with
   |none=>rw[z]at h;cases h
   | some p=>
    obtain⟨L,M⟩:=p;rw[z]at h;cases h;obtain⟨B,C,E,G⟩:=bD n _ L r (λy I=>hb y (zB1 I)) z;refine⟨by simp[B],C,λx A=>?_,?_⟩
    .rcases zCh.1 A with rfl|A
     .exact⟨h2,h3⟩
     .exact E x A
    .rw[zCc,zDq,Im hb u,zBl,<-G,zEj]
  .rw[Os u]at h;cases h
def BW (b:List Int) (n:Nat) (l r:List Int) (hb:BY b) (B:ln b<=100000) (L:n<=1000) (z:XN n b=some (l,r)):zN 304 [zE yA b,iA n] [] (.tup [.ref 1001 0 (l.map iA).length,zE yA r,bA true]) [(1001,.arr 1 (l.map iA) true)]:=by
 refine eM call304 λF hF=>?_
 (repeat' (first|refine uS ?_|apply yW|apply xH|intro hc|(apply zG;first|(apply fQ;refine bE 1001 tok Z Z Z Z Z Z Z Z Z Z Z Z Z zB zB Z Z Z ?_))|fail))
 refine vP 1001 Z ?_;refine yU (n) [1001] [] [13] [0,7,14,13] Z (λi T U I=>∃u c,(ln u=i/\BY c/\c.length<=100000/\XN n b=Dx u (XN (n-i) c))/\I=⟨(0,zE yA c)::(7,.ref 1001 0 (u.map iA).length)::(14,iA i)::T,(1001,.arr 1 (u.map iA) true)::U⟩) (Lp ?_ ?_ ?_)
 .exact⟨[],b,⟨rfl,hb,B,by rw[GR];rfl⟩,rfl⟩
 .rintro i st hi ⟨u,c,⟨q0,q1,q2,q3⟩,rfl⟩;have hd:=j7 c q1 q2;have hl:=zA yA c;have E:=zA iA u;rw[show n-i=(n-(i+1))+1 by omega]at q3
  rcases GQ c q1 with h|⟨h1,h2,h3,h4,h5⟩
  .rw[tc (by rw[h];decide),z]at q3;cases q3
  .rw[Zc h1]at q3;rw[h1]at hd;have A:BY (c.drop (bT c).2.1.toNat):=λy G=>q1 y (zB1 G)
   have C:(c.drop (bT c).2.1.toNat).length<=100000:=by rw[zBr];omega
   clear h1;generalize (bT c).1=v,(bT c).2.1=k at *;refine zS hd ?_;refine⟨u++[v],c.drop k.toNat,⟨by simp[q0],A,C,q3⟩,?_⟩;rw[zA0];rfl
 .rintro st ⟨u,c,⟨q0,q1,q2,q3⟩,rfl⟩;rw[zDx,z]at q3;have e:(l,r)=(u++[],c):=zD4 q3;rw[zBo]at e;cases e;refine WW ?_;exact zP [1001] rfl rfl rfl rfl
def vU (k:Int):Nat:=if k=2\/k=6 then 3 else if k=4 then 2 else if k=1\/k=9\/k=12 then 0 else 1
def wE (k:Int):Nat:=if k=6 then 4 else if k=7 then 2 else 0
def shA (z u:Nat):AV:= .agg [iA 10,iA z,iA u,iA (if u=0 then 0 else 1),iA (if u=0 then 0 else 3),iA 0]
def Mh (k:Int) (u:1<=k) (h1:k<=12):zN 233 [iA k] [] (.tup [shA (vU k) (wE k),bA true]) []:=by
 obtain rfl|rfl|rfl|rfl|rfl|rfl|rfl|rfl|rfl|rfl|rfl|rfl:k=1\/k=2\/k=3\/k=4\/k=5\/k=6\/k=7\/k=8\/k=9\/k=10\/k=11\/k=12:=by omega
 all_goals (refine eM call233 λF hF=>?_)
 all_goals (refine WW ?_)
 all_goals exact zH
def MF (z u:Nat) (p:List Int):Option (List Int):=
 if 200<ln p\/p.length<10 then none else match XN z (p.drop 10)with
 |none=>none
 | some (a,r)=>if u=0 then(if r=[]then some a else none)else match XN 1 r with
  |none=>none
  |some (c,r2)=>if c.getD 0 0<1\/3<c.getD 0 0 then none else match XN ((c.getD 0 0).toNat*u) r2 with
   |none=>none
   |some (f,r3)=>if r3=[]then some (a++f)else none
def B5 (k:Int) (tok:List Int):Option (List Int)->AV
 |none=> .tup [zX ⟨0,[],[],[]⟩,iA 6]
 |some a=> .tup [zX ⟨k,tok,a,[]⟩,iA 0]
theorem Hm (k:Int) (h0:1<=k) (h1:k<=12) (p:List Int) (hb:BY p) (hn:ln p<=100000):zN 267 [iA k,zE yA p] [] (B5 k (p.take 10) (MF (vU k) (wE k) p)) []:=by
 have hl:=zA yA p;have z:=Mh k h0 h1
 have hf:vU k<=3:=by
  unfold vU
  repeat' split
  all_goals omega
 have hg:wE k=0\/(2<=wE k/\wE k<=4):=by
  unfold wE
  repeat' split
  all_goals omega
 generalize vU k=W,wE k=C at *;unfold shA at z;by_cases A:200<ln p\/p.length<10
 .rw[show MF W C p=none from zAs A]
  show zN 267 [iA k,zE yA p] [] (.tup [zX ⟨0,[],[],[]⟩,iA 6]) []
  by_cases h2:200<ln p
  ·(refine eM call267 λF hF=>?_)
   exact nl z
  .have h3:=A.resolve_left h2;refine eM call267 λF hF=>?_
   exact nl z
 have e0:MF W C p=_:=Os A;rw[e0];clear e0;have O:BY (p.drop 10):=λy hy=>hb y (zB1 hy)
 have ag:(p.drop 10).length<=100000:=by rw[zBr];omega
 have G:=RE (p.drop 10) W O ag zB
 cases E:XN W (p.drop 10)with
 |none=>
  rw[E]at G
  show zN 267 [iA k,zE yA p] [] (.tup [zX ⟨0,[],[],[]⟩,iA 6]) []
  unfold uf at G;refine eM call267 λF hF=>?_
  exact ng (xQ z G)
 |some q=>
 obtain⟨a,r⟩:=q;obtain⟨ha,Y,a4,ax⟩:=bD _ _ _ _ O E
 have av:ln r<=100000:=by
  have:=zBd List.length ax;rw[zAx]at this;omega
 have ba:=zA yA r;have a8:=zA iA a;have k1:=kT (p.take 10) JL
 rcases hg with rfl|⟨g2,g4⟩
 .rw[E]at G;unfold uf at G;dsimp only;rw[zAs Z];by_cases V:r=[]
  .subst V;have k2:=kT [] zV;rw[zAs Z]
   show zN 267 [iA k,zE yA p] [] (.tup [zX ⟨k,p.take 10,a,[]⟩,iA 0]) []
   refine eM call267 λF hF=>?_
   exact ng (cI z G k1 k2)
  .have au:ln r≠0:=λh=>V (zBv h)
   rw[Os V]
   show zN 267 [iA k,zE yA p] [] (.tup [zX ⟨0,[],[],[]⟩,iA 6]) []
   refine eM call267 λF hF=>?_
   exact ng (xQ z G)
 have u:=BW (p.drop 10) W a r O ag zB E;have B:=RE r 1 Y av zB;clear G;dsimp only;rw[Os zB]
 cases S:XN 1 r with
 |none=>
  rw[S]at B;unfold uf at B
  show zN 267 [iA k,zE yA p] [] (.tup [zX ⟨0,[],[],[]⟩,iA 6]) []
  refine eM call267 λF hF=>?_
  exact ng (qC z u B)
 |some q2=>
 obtain⟨c,r2⟩:=q2;obtain⟨ac,L,a5,ar⟩:=bD _ _ _ _ Y S
 obtain⟨v,rfl⟩:∃v,c=[v]:=by
  cases c with
  |nil=>cases ac
  |cons v c=>cases c with
   |nil=>exact⟨v,rfl⟩
   |cons w c=>simp at ac
 have ap:ln r2<=100000:=by
  have:=zBd List.length ar;rw[zAx]at this;omega
 rw[S]at B;unfold uf at B;dsimp only;rw[show [v].getD 0 0=v from Z];by_cases hv:v<1\/3<v
 .rw[zAs hv]
  show zN 267 [iA k,zE yA p] [] (.tup [zX ⟨0,[],[],[]⟩,iA 6]) []
  by_cases az:v<1
  ·(refine eM call267 λF hF=>?_)
   exact ng (qC z u B)
  .have bb:=hv.resolve_left az;refine eM call267 λF hF=>?_
   exact ng (qC z u B)
 rw[Os hv];have bd:v.toNat*C<=12:=zBx (zDj (show v.toNat<=3 by omega) g4) yY;have M:((v.toNat*C:Nat):Int)=v*(C:Int):=by rw[zFc,zEo zB]
 have I:=RE r2 (v.toNat*C) L ap zB;rw[M]at I;have hm:0<=v*(C:Int)/\v*(C:Int)<=12:=by rw[<-M];omega
 clear M
 cases U:XN (v.toNat*C) r2 with
 |none=>
  rw[U]at I;unfold uf at I
  show zN 267 [iA k,zE yA p] [] (.tup [zX ⟨0,[],[],[]⟩,iA 6]) []
  refine eM call267 λF hF=>?_
  exact ng (cI z u B I)
 |some q3=>
 obtain⟨f,r3⟩:=q3;obtain⟨a6,a1,a7,a3⟩:=bD _ _ _ _ L U;have a9:=zA iA f;have a2:=zA yA r3;rw[U]at I;unfold uf at I;dsimp only;by_cases V:r3=[]
 .subst V;have k2:=kT [] zV;rw[zAs Z]
  show zN 267 [iA k,zE yA p] [] (.tup [zX ⟨k,p.take 10,a++f,[]⟩,iA 0]) []
  refine eM call267 λF hF=>?_
  refine yF (qb z u B I k1 k2) ?_;refine zI [] Z Z ?_ Z
  show AV.tup [.agg [iA k,zE yA (p.take 10),.sl false ((a.map iA++f.map iA).take (a.map iA++f.map iA).length),zE yA []],iA 0]=_
  rw[zAv,<-zA0];rfl
 .have au:ln r3≠0:=λh=>V (zBv h)
  rw[Os V]
  show zN 267 [iA k,zE yA p] [] (.tup [zX ⟨0,[],[],[]⟩,iA 6]) []
  refine eM call267 λF hF=>?_
  exact ng (cI z u B I)
def Vc (z u:Nat):AV:= .agg [iA z,iA u,iA (if u=0 then 0 else 1),iA (if u=0 then 0 else 3),iA 0]
def Uc (k:Int) (u:1<=k) (h1:k<=12):zN 141 [iA k] [] (Vc (vU k) (wE k)) []:=by
 obtain rfl|rfl|rfl|rfl|rfl|rfl|rfl|rfl|rfl|rfl|rfl|rfl:k=1\/k=2\/k=3\/k=4\/k=5\/k=6\/k=7\/k=8\/k=9\/k=10\/k=11\/k=12:=by omega
 all_goals (refine eM call141 λF hF=>?_)
 all_goals (refine WW ?_)
 all_goals exact zH
def ZA (u z:Nat) (c:Int):Nat->List Int->List Int
 |_,[]=>[]
 |i,x::r=>(if i=u/\z≠0 then [c]else [])++(jT x++ZA u z c (i+1) r)
def dK (u z:Nat) (c:Int) (m:Ms):List Int:=(m.tok++ZA u z c 0 m.args)++((if z≠0/\m.args.length=u then [0]else [])++m.data)
theorem qf:∀(f:Nat) (n:Int),1<=(Yc f n).length/\(Yc f n).length<=f+1
 |0,n=>by simp[Yc]
 |f+1,n=>by
  have:=qf f (n/128);rw[Yc];split
  .simp
  .rw[zA8];omega
theorem gE (n:Int):1<=(jT n).length/\(jT n).length<=5:=qf 4 n
theorem YY (k:Int) (h0:1<=k) (h1:k<=12) (m:Ms) (c:Nat) (hk:m.kind=k) (ht:ln m.tok=10) (hd:ln m.data<=100000) (ha:∀x∈m.args,0<=x/\x<=4294967295) (hn:ln m.args<=1000) (hc:wE k≠0->ln m.args=vU k+c*wE k) (av:c<=3):
  zN 70 [zX m] [] (zE yA (dK (vU k) (wE k) c m)) []:=by
 subst hk;have L:=Uc m.kind h0 h1
 have hg:wE m.kind<=4:=by
  unfold wE
  repeat' split
  all_goals omega
 generalize vU m.kind=C,wE m.kind=z at *;unfold Vc at L;have a2:=zA yA m.tok;have ag:=zA iA m.args;have az:=zA yA m.data;unfold dK;generalize hT:m.tok++ZA C z c 0 m.args=ar;refine eM call70 λF hF=>?_
 (have gd:=L;(repeat' (first|refine uS ?_|apply yW|apply xH|intro hc|(apply zG;first|(apply yC;refine xG 1001 tok Z Z Z Z Z Z (yM _ _ (λ_=>rfl)) Z Z Z zB Z Z Z ?_))|fail))<;>clear gd)
 refine vP 1001 Z ?_;refine uW (m.args) [1001,1,3] [1,3] [1,3,16,17] [4,18,1,3,16,17] Z (λi ga T U zs=>∃u:List Int,(ln u<=10+6*i/\∀post,m.args=ga++post->u++ZA C z c i post=ar)/\zs=⟨(4,.ref 1001 0 (u.map yA).length)::(18,iA i)::T,(1001,.arr 1 (u.map yA) true)::U⟩) (Lp ?_ ?_ ?_)
 .exact⟨m.tok,⟨zB,λpost h=>by rw[<-hT,h];rfl⟩,rfl⟩
 .rintro i ga x post st I hi ⟨u,⟨q0,q1⟩,rfl⟩;have hy:=yJ iA I hi;have au:=zW I hi;have S:=ha x (xA I);have O:=zA yA u;have he:=gE x;have c2:=Cx x S.1 S.2;have a1:=zA yA (jT x)
  have A:∀p,m.args=ga++[x]++p->p=post:=λp h=>by
   rw[I,zBl]at h;simpa using h.symm
  have B:=q1 _ I;clear q1 hT I;by_cases G:i=C/\z≠0
  .obtain⟨rfl,E⟩:=G;have M:=hc E
   have hq:(((m.args.map iA).length:Int)-(i:Int)).tdiv (z:Int)=(c:Int):=by
    rw[ag,M,show(((i+c*z:Nat):Int)-(i:Int))=(c:Int)*(z:Int) by rw[Int.natCast_add,zFc];omega];exact Int.mul_tdiv_cancel _ zB
   have ax:aD .i64 ((((m.args.map iA).length:Int)-(i:Int)).tdiv (z:Int)):=by rw[hq];exact⟨zB,zB⟩
   have e:ZA i z c i (x::post)=[(c:Int)]++(jT x++ZA i z c (i+1) post):=by rw[ZA,zAs ⟨rfl,E⟩]
   rw[e]at B;clear e M hc;generalize jT x=W at *;refine yF (xQ L c2) ?_;refine⟨u++[(c:Int)]++W,⟨by simp;omega,λp h=>by rw[A p h,<-B];simp⟩,?_⟩;rw[zA0,zA0,<-hq];rfl
  .have e:ZA C z c i (x::post)=jT x++ZA C z c (i+1) post:=by rw[ZA,Os G];rfl
   rw[e]at B;clear e hc;generalize jT x=W at *;by_cases ac:i=C
   .have E:z=0:=by
     by_cases h:z=0
     .exact h
     .exact absurd ⟨ac,h⟩ G
    refine yF (xQ L c2) ?_;refine⟨u++W,⟨by simp;omega,λp h=>by rw[A p h,<-B];simp⟩,?_⟩;rw[zA0];rfl
   ·(refine yF (xQ L c2) ?_)
    refine⟨u++W,⟨by simp;omega,λp h=>by rw[A p h,<-B];simp⟩,?_⟩;rw[zA0];rfl
 .rintro st ⟨u,⟨q0,q1⟩,rfl⟩;have e:=q1 [] zV;rw[show ZA C z c (ln m.args) []=[]from rfl,zBo]at e;subst e;have O:=zA yA u;clear q1 hT hc;by_cases Y:z≠0/\m.args.length=C
  .rw[zAs Y];obtain⟨V,ap⟩:=Y;refine WW ?_;refine zI [] Z Z ?_ Z
   show AV.sl false ((u.map yA++[yA 0]++m.data.map yA).take (u.map yA++[yA 0]++m.data.map yA).length)=_
   rw[zAv];unfold zE;rw[zA0,zA0,zBl];rfl
  .rw[Os Y];by_cases V:z=0
   ·(refine WW ?_)
    refine zI [] Z Z ?_ Z
    show AV.sl false ((u.map yA++m.data.map yA).take (u.map yA++m.data.map yA).length)=_
    rw[zAv];unfold zE;rw[zA0];rfl
   .have ap:ln m.args≠C:=λh=>Y ⟨V,h⟩
    refine WW ?_;refine zI [] Z Z ?_ Z
    show AV.sl false ((u.map yA++m.data.map yA).take (u.map yA++m.data.map yA).length)=_
    rw[zAv];unfold zE;rw[zA0];rfl
def g9 (p:Int×Int):AV:= .agg [iA p.1,iA p.2]
def qQ (n:Int):List (Int×Int):=if n=0 then [(0,0),(0,0)]else if n=1 then [(0,0),(1,0),(0,1),(1,1)]else if n=2 then [(0,0),(1,0),(0,0)]
 else if n=3 then [(0,0),(0,0),(1,0),(1,0),(0,1),(0,1),(1,1),(1,1)]else if n=4 then [(1,0),(0,1),(0,2)]else [(0,0)]
def Gm (n:Int):zN 161 [iA n] [] (zE g9 (qQ n)) []:=by
 by_cases u:n=0
 .subst u;refine eM call161 λF hF=>?_
  (repeat' (first|refine aP ?_|refine yW (λhc=>?_) λhc=>?_|fail))
  exact zH
 by_cases h1:n=1
 .subst h1;refine eM call161 λF hF=>?_
  (repeat' (first|refine aP ?_|refine yW (λhc=>?_) λhc=>?_|fail))
  exact zH
 by_cases h2:n=2
 .subst h2;refine eM call161 λF hF=>?_
  (repeat' (first|refine aP ?_|refine yW (λhc=>?_) λhc=>?_|fail))
  exact zH
 by_cases z:n=3
 .subst z;refine eM call161 λF hF=>?_
  (repeat' (first|refine aP ?_|refine yW (λhc=>?_) λhc=>?_|fail))
  exact zH
 by_cases A:n=4
 .subst A;refine eM call161 λF hF=>?_
  (repeat' (first|refine aP ?_|refine yW (λhc=>?_) λhc=>?_|fail))
  exact zH
 rw[show qQ n=[(0,0)] by simp[qQ,u,h1,h2,z,A]];refine eM call161 λF hF=>?_
 (repeat' (first|refine aP ?_|refine yW (λhc=>?_) λhc=>?_|fail))
 exact zH
instance:Inhabited (Int×Int):=⟨(0,0)⟩
def UY (d:Dk) (s:Int×Int):Ph:=
 if nx (ad (ad (ad d))) 3=2 then⟨s.1,s.2,1+nx d (3-1+1),max (1+nx d (3-1+1)) (1+nx (ad (ad (ad (ad d)))) (2-1+1)+(1+nx (ad (ad (ad (ad (ad d))))) (2-1+1)))+nx (ad (ad (ad (ad (ad (ad d)))))) 4,1+nx (ad d) (2-1+1),nx (ad (ad d)) 3,1+nx (ad (ad (ad (ad d)))) (2-1+1),1+nx (ad (ad (ad (ad (ad d))))) (2-1+1)⟩
 else⟨s.1,s.2,1+nx d (3-1+1),max (1+nx d (3-1+1)) (0+0)+nx (ad (ad (ad (ad d)))) 4,1+nx (ad d) (2-1+1),nx (ad (ad d)) 3,0,0⟩
def A5 (d:Dk):Dk:=if nx (ad (ad (ad d))) 3=2 then ad (ad (ad (ad (ad (ad (ad d))))))else ad (ad (ad (ad (ad d))))
def JW (d:Dk) (l:List (Int×Int)):Nat->List Ph×Dk
 |0=>([],d)
 |i+1=>((JW d l i).1++[UY (JW d l i).2 (l.getD i dd)],A5 (JW d l i).2)
theorem UZ (d:Dk) (l:List (Int×Int)):∀i,(JW d l i).1.length=i
 |0=>rfl
 |i+1=>by simp[JW,UZ d l i]
def Hr (u:List Ph) (z:Bool) (i k:Nat):Bool:=i != k&&((u.getD i dd).ring==(u.getD k dd).ring||(u.getD i dd).group != (u.getD k dd).group||z&&((i:Int)+k).tmod 2==1)
def XO (z:List Ph) (u:Bool) (i:Nat):Nat->Int
 |0=>0
 |k+1=>if Hr z u i k=true then XO z u i k+2 ^ k else XO z u i k
theorem PX (z:List Ph) (u:Bool) (i:Nat):∀k,0<=XO z u i k/\XO z u i k<2 ^ k
 |0=>by simp[XO]
 |k+1=>by
  have:=PX z u i k;have e:(2:Int) ^ (k+1)=2 ^ k*2:=zF5 2 k;unfold XO
  split<;>omega
def fG (u:List Ph) (z:Bool) (n:Nat):List Int:=(List.range n).map λi=>XO u z i (ln u)
def VW (d:Dk):List Ph×Dk:=JW (ad (ad d)) (qQ (nx d 6)) (qQ (nx d 6)).length
def MG (d:Dk):Jn:=⟨(VW d).1,fG (VW d).1 (nx (VW d).2 4==3) (VW d).1.length,nx (ad d) 3⟩
def p7 (d:Dk):Dk:=ad (VW d).2
def MH (n:Int):1<=(qQ n).length/\(qQ n).length<=8:=by
 unfold qQ
 (repeat' split)<;>simp
def A9 (k:Nat) (h:k<8):IntKind.i64.wrap (1*2 ^ (min ((k:Int)).toNat IntKind.i64.bits))=2 ^ k/\(2:Int) ^ k<=128:=by
 obtain rfl|rfl|rfl|rfl|rfl|rfl|rfl|rfl:k=0\/k=1\/k=2\/k=3\/k=4\/k=5\/k=6\/k=7:=by omega
 all_goals decide
theorem Tc (d:Dk):zN 91 [.ptr 1000 0 0] [(1000,fF d)] (wD (MG d)) [(1000,fF (p7 d))]:=by
 have hb:=yQ d 6 zB;have a1:=MH (nx d 6);have sc:=Gm (nx d 6);have ej:MG d=⟨(VW d).1,fG (VW d).1 (nx (VW d).2 4==3) (VW d).1.length,nx (ad d) 3⟩:=rfl;have ed:p7 d=ad (VW d).2:=rfl;have ep:VW d=JW (ad (ad d)) (qQ (nx d 6)) (qQ (nx d 6)).length:=rfl;rw[ej,ed];generalize VW d=jp,qQ (nx d 6)=l at *;have M:(l.map g9).length=ln l:=by simp
 refine eM call91 λF hF=>?_
 (repeat' (first|refine aP ?_|refine yW (λhc=>?_) λhc=>?_|(apply zG;apply xP;(first|(refine vH 161 ?_;first|refine wM (zL (sc) Z Z Z Z Z) Z ?_|refine uT (zL (sc) Z Z Z Z Z) Z Z Z ?_|refine aI (zL (sc) Z Z Z Z Z) Z Z Z ?_)|(refine vH 16 ?_;first|refine wM (zL (yR _ _ zB zB) Z Z Z Z Z) Z ?_|refine uT (zL (yR _ _ zB zB) Z Z Z Z Z) Z Z Z ?_|refine aI (zL (yR _ _ zB zB) Z Z Z Z Z) Z Z Z ?_)))|fail))
 refine gJ 4 0 1001 8 Z Z Z Z Z ?_
 refine wQ (λn st=>∃i:Nat,n+i=ln l/\st=⟨[(0,.ptr 1000 0 0),(2,.ptr 2 0 0),(4,.ptr 4 0 0),(20,zE g9 l),(21,iA (ln l)),(22,iA i)],
   [(1000,fF (JW (ad (ad d)) l i).2),(2,.box [.s (.slice none 0 0),.s (.slice none 0 0),iA 0]),(4,.box [.ref 1001 0 ((JW (ad (ad d)) l i).1.map xN).length,.s (.slice none 0 0),iA (nx (ad d) 3)]),(1001,.arr 8 ((JW (ad (ad d)) l i).1.map xN) true)]⟩)
  (ln l) [1000,2,4,1001] [0,2,4,20,21,22] Z ⟨0,rfl,by rw[<-M];rfl⟩ ?_
 rintro n st ⟨i,hi,rfl⟩;by_cases S:i<ln l
 .have V:=yE g9 l i zB zB;rw[show((i:Int)).toNat=i from Z]at V;have I:(JW (ad (ad d)) l (i+1)).1.map xN=(JW (ad (ad d)) l i).1.map xN++[xN (UY (JW (ad (ad d)) l i).2 (l.getD i dd))]:=zA0;have hd:(JW (ad (ad d)) l (i+1)).2=A5 (JW (ad (ad d)) l i).2:=rfl;have ac:=UZ (ad (ad d)) l i;generalize l.getD i dd=p at *;obtain⟨p1,p2⟩:=p;generalize U:JW (ad (ad d)) l (i+1)=q' at I hd;generalize JW (ad (ad d)) l i=q at *;obtain⟨ql,z⟩:=q;dsimp only at I hd ac⊢;have b0:=yQ z (3-1+1) zB;have b1:=yQ (ad (ad (ad (ad z)))) 4 zB;have b2:=yQ (ad (ad (ad (ad z)))) (2-1+1) zB;have b3:=yQ (ad (ad (ad (ad (ad z))))) (2-1+1) zB;have b4:=yQ (ad (ad (ad (ad (ad (ad z)))))) 4 zB;by_cases W:nx (ad (ad (ad z))) 3=2
  .rw[show UY z (p1,p2)=⟨p1,p2,1+nx z (3-1+1),max (1+nx z (3-1+1)) (1+nx (ad (ad (ad (ad z)))) (2-1+1)+(1+nx (ad (ad (ad (ad (ad z))))) (2-1+1)))+nx (ad (ad (ad (ad (ad (ad z)))))) 4,1+nx (ad z) (2-1+1),nx (ad (ad z)) 3,1+nx (ad (ad (ad (ad z)))) (2-1+1),1+nx (ad (ad (ad (ad (ad z))))) (2-1+1)⟩ by unfold UY;rw[zAs W]]at I;rw[show A5 z=ad (ad (ad (ad (ad (ad (ad z)))))) by unfold A5;rw[zAs W]]at hd
   (repeat' (first|refine aP ?_|refine yW (λhc=>?_) λhc=>?_|(apply zG;apply xP;(first|(refine vH 68 ?_;first|refine wM (zL (jP _ _ _ zB zB zB) Z Z Z Z Z) Z ?_|refine uT (zL (jP _ _ _ zB zB zB) Z Z Z Z Z) Z Z Z ?_|refine aI (zL (jP _ _ _ zB zB zB) Z Z Z Z Z) Z Z Z ?_)|(refine vH 16 ?_;first|refine wM (zL (yR _ _ zB zB) Z Z Z Z Z) Z ?_|refine uT (zL (yR _ _ zB zB) Z Z Z Z Z) Z Z Z ?_|refine aI (zL (yR _ _ zB zB) Z Z Z Z Z) Z Z Z ?_)))|fail))
   exact⟨n-1,zB,i+1,zB,by rw[U,I,hd];rfl⟩
  .rw[show UY z (p1,p2)=⟨p1,p2,1+nx z (3-1+1),max (1+nx z (3-1+1)) (0+0)+nx (ad (ad (ad (ad z)))) 4,1+nx (ad z) (2-1+1),nx (ad (ad z)) 3,0,0⟩ by unfold UY;rw[Os W]]at I;rw[show A5 z=ad (ad (ad (ad (ad z)))) by unfold A5;rw[Os W]]at hd
   (repeat' (first|refine aP ?_|refine yW (λhc=>?_) λhc=>?_|(apply zG;apply xP;(first|(refine vH 68 ?_;first|refine wM (zL (jP _ _ _ zB zB zB) Z Z Z Z Z) Z ?_|refine uT (zL (jP _ _ _ zB zB zB) Z Z Z Z Z) Z Z Z ?_|refine aI (zL (jP _ _ _ zB zB zB) Z Z Z Z Z) Z Z Z ?_)|(refine vH 16 ?_;first|refine wM (zL (yR _ _ zB zB) Z Z Z Z Z) Z ?_|refine uT (zL (yR _ _ zB zB) Z Z Z Z Z) Z Z Z ?_|refine aI (zL (yR _ _ zB zB) Z Z Z Z Z) Z Z Z ?_)))|fail))
   exact⟨n-1,zB,i+1,zB,by rw[U,I,hd];rfl⟩
 obtain rfl:i=ln l:=by omega
 have ag:jp.1.length=ln l:=by rw[ep];exact UZ _ _ _
 rw[<-ep];clear ep ej ed sc M hi S;obtain⟨u,dj⟩:=jp;dsimp only at ag⊢;have O:(u.map xN).length=ln u:=by simp
 generalize nx (ad d) 3=Y
 (repeat' (first|refine aP ?_|refine yW (λhc=>?_) λhc=>?_|(apply zG;apply xP;(first|(refine vH 16 ?_;first|refine wM (zL (yR _ _ zB zB) Z Z Z Z Z) Z ?_|refine uT (zL (yR _ _ zB zB) Z Z Z Z Z) Z Z Z ?_|refine aI (zL (yR _ _ zB zB) Z Z Z Z Z) Z Z Z ?_)))|fail))
 generalize nx dj 4=n4
 refine kY (st':=⟨[(0,.ptr 1000 0 0),(2,.ptr 2 0 0),(4,.ptr 4 0 0),(8,bA (n4==3)),(69,zE xN u),(70,iA (ln u)),(71,iA 0)],
   [(1000,fF (ad dj)),(2,.box [.s (.slice none 0 0),.s (.slice none 0 0),iA 0]),(4,.box [zE xN u,.s (.slice none 0 0),iA Y])]⟩) [1000,2,4] [0,2,4,8,69,70,71] Z (by
  have e1:zE xN u= .sl false (List.take (u.map xN).length (List.drop 0 (u.map xN))):=by
   rw[zBf,zAv];rfl
  rw[e1,<-O]
  rfl) ?_
 generalize (n4==3)=A;generalize ad dj=dk;refine gJ 4 1 1002 1 Z Z Z Z Z ?_
 refine wQ (λn st=>∃i:Nat,n+i=ln u/\st=⟨[(0,.ptr 1000 0 0),(2,.ptr 2 0 0),(4,.ptr 4 0 0),(8,bA A),(69,zE xN u),(70,iA (ln u)),(71,iA i)],
   [(1000,fF dk),(2,.box [.s (.slice none 0 0),.s (.slice none 0 0),iA 0]),(4,.box [zE xN u,.ref 1002 0 ((fG u A i).map iA).length,iA Y]),(1002,.arr 1 ((fG u A i).map iA) true)]⟩)
  (ln u) [1000,2,4,1002] [0,2,4,8,69,70,71] Z ⟨0,rfl,rfl⟩ ?_
 clear n;rintro n st ⟨i,hi,rfl⟩;by_cases S:i<ln u
 .have V:=yE xN u i zB zB;rw[show((i:Int)).toNat=i from Z]at V;have ht:(fG u A (i+1)).map iA=(fG u A i).map iA++[iA (XO u A i (ln u))]:=by unfold fG;rw[zCt];simp
  have ar:(fG u A i).length=i:=by simp[fG]
  obtain⟨p,hp⟩:∃p,u.getD i dd=p:=⟨_,rfl⟩;rw[hp]at V;obtain⟨C,G⟩:∃r,fG u A i=r:=⟨_,rfl⟩;rw[G]at ht ar⊢
  (repeat' (first|refine aP ?_|refine yW (λhc=>?_) λhc=>?_|fail))
  refine wQ (λn st=>∃k:Nat,n+k=ln u/\st=⟨[(0,.ptr 1000 0 0),(2,.ptr 2 0 0),(4,.ptr 4 0 0),(8,bA A),(9,iA i),(10,.ptr 10 0 0),(11,iA (XO u A i k)),(69,zE xN u),(70,iA (ln u)),(71,iA i),(77,zE xN u),(78,iA (ln u)),(79,iA k)],
    [(1000,fF dk),(2,.box [.s (.slice none 0 0),.s (.slice none 0 0),iA 0]),(4,.box [zE xN u,.ref 1002 0 (C.map iA).length,iA Y]),(10,.box [iA p.ring,iA p.group,iA p.ming,iA p.maxg,iA p.yel,iA p.red,iA p.walk,iA p.clear]),(1002,.arr 1 (C.map iA) true)]⟩)
   (ln u) [1000,2,4,10,1002] [0,2,4,8,9,10,11,69,70,71,77,78,79] Z ⟨0,rfl,by rw[<-O];rfl⟩ ?_
  rintro L st ⟨k,hk,rfl⟩;by_cases ax:k<ln u
  .have av:=yE xN u k zB zB;rw[show((k:Int)).toNat=k from Z]at av
   have B:XO u A i (k+1)=if Hr u A i k=true then XO u A i k+2 ^ k else XO u A i k:=rfl
   have hc:Hr u A i k=(i != k&&(p.ring==(u.getD k dd).ring||p.group != (u.getD k dd).group||A&&((i:Int)+k).tmod 2==1)):=by rw[<-hp];rfl
   obtain⟨hw,au⟩:=A9 k zB;obtain⟨az,hr1⟩:=PX u A i k;have ap:0<=(2:Int) ^ k:=by omega
   rw[show(2:Int) ^ k=p2 k from Z]at B hr1 ap au;clear hw;generalize u.getD k dd=q at *;by_cases E:i=k
   .rw[Os (by rw[hc];simp[E])]at B;clear hc;subst E
    (repeat' (first|refine aP ?_|refine yW (λhc=>?_) λhc=>?_|fail))
    exact⟨L-1,zB,i+1,zB,by rw[B];rfl⟩
   by_cases h1:p.ring=q.ring
   .rw[zAs (by rw[hc];simp[E,h1])]at B;clear hc
    (repeat' (first|refine aP ?_|refine yW (λhc=>?_) λhc=>?_|fail))
    exact⟨L-1,zB,k+1,zB,by rw[B];rfl⟩
   by_cases h2:p.group=q.group
   .cases A with
    |false=>
     rw[Os (by rw[hc];simp[E,h1,h2])]at B;clear hc
     (repeat' (first|refine aP ?_|refine yW (λhc=>?_) λhc=>?_|fail))
     exact⟨L-1,zB,k+1,zB,by rw[B];rfl⟩
    | true=>
     by_cases h3:((i:Int)+k).tmod 2=1
     .rw[zAs (by rw[hc];simp[E,h1,h2,h3])]at B;clear hc
      (repeat' (first|refine aP ?_|refine yW (λhc=>?_) λhc=>?_|fail))
      exact⟨L-1,zB,k+1,zB,by rw[B];rfl⟩
     .rw[Os (by rw[hc];simp[E,h1,h2,h3])]at B;clear hc
      (repeat' (first|refine aP ?_|refine yW (λhc=>?_) λhc=>?_|fail))
      exact⟨L-1,zB,k+1,zB,by rw[B];rfl⟩
   .rw[zAs (by rw[hc];simp[E,h1,h2])]at B;clear hc
    (repeat' (first|refine aP ?_|refine yW (λhc=>?_) λhc=>?_|fail))
    exact⟨L-1,zB,k+1,zB,by rw[B];rfl⟩
  .obtain rfl:k=ln u:=by omega
   have hr:=PX u A i (ln u)
   (repeat' (first|refine aP ?_|refine yW (λhc=>?_) λhc=>?_|fail))
   exact⟨n-1,zB,i+1,zB,by rw[ht];rfl⟩
 obtain rfl:i=ln u:=by omega
 (repeat' (first|refine aP ?_|refine yW (λhc=>?_) λhc=>?_|fail))
 exact zP [1000] Z Z (zBd (λx=>AV.agg [zE xN u,AV.sl false x,iA Y]) zAv) Z
