/- Part 10. -/
import Derived.Test.YtaglbcjljlkjcaaGreatT09
namespace Go.Proofs.YtaglbcjljlkjcaaGreat.Av
open Tryz
set_option linter.all false
set_option maxRecDepth 4000
set_option maxHeartbeats 2000000
open List renaming length->ln,getD->oj
open Inhabited renaming default->dd
variable {m n:Int}{i:Nat}
def rem (d:Dk):Nat:=ln d.l-d.a
theorem vG (d:Dk):rem (ad d)<=rem d:=by unfold ad;split;(unfold rem;dsimp only;omega);exact zBa _
def W2 (d:Dk) (h:d.a<ln d.l):rem (ad d)+1<=rem d:=by unfold ad;rw[zGg h];unfold rem;dsimp only;omega
def Lm (d:Dk):zM 26 [.ptr 1000 0 0] [(1000,fI d)] (bA (decide (d.a<ln d.l))) [(1000,fI d)]:=by
 have hl:(d.l.map iA).length=ln d.l:=by simp
 refine eM call26 λF hF=>?_
 (repeat' (first|refine aQ ?_|refine yW (λhc=>?_) λhc=>?_|fail))
 refine zP [1000] Z Z (zBp bA ?_) Z;simp[vW]
structure TkP (l:List Tk):Prop where
 n:l.length=8
 y:∀t∈l,BY t.sec/\t.sec.length<=8/\(t.used=true->t.sec.length=8/\OD t.rights=true/\0<=t.til/\t.til<=2147483648)
 v:TV l
theorem TkP.b {l:List Tk} (h:TkP l):IL l:=⟨by have:=h.n;omega,λt u=>by have:=(h.y t u).2.1;omega⟩
def VY:List Int->Nat->Int->Int×Int×Int
 | [],_,_=>(0,0,6)
 |x::r,i,n=>if i=5 then(0,0,6)else if 128<=x then VY r (i+1) (n+x.tmod 128*128 ^ i)else if 4294967295<n+x.tmod 128*128 ^ i\/(0<i/\x=0)then(0,0,6)else(n+x.tmod 128*128 ^ i,i+1,0)
def bV (b:List Int):Int×Int×Int:=VY b 0 0
def Mr (n:Int):Int:=if n<0\/4294967295<n then 0 else if n<128 then 1 else if n<16384 then 2 else if n<2097152 then 3 else if n<268435456 then 4 else 5
def pu (m:Int):Int:=if m<128 then 0 else if m<16384 then 1 else if m<2097152 then 2 else if m<268435456 then 3 else 4
theorem Km (u:0<=n) (h1:n<=4294967295):Mr n=1+pu n:=by grind [Mr,pu]
theorem ou (u:128<=m) (h1:m<=4294967295):pu m=1+pu (m/128):=by grind [pu]
def V2 (h:m<128):pu m=0:=zA4 h
def AC (n:Int):zM 201 [iA n] [] (iA (Mr n)) []:=by
 by_cases h:n<0\/4294967295<n
 .have e:Mr n=0:=zA4 h;rw[e];by_cases h1:n<0
  ·(refine eM call201 λF hF=>?_)
   exact ly
  .have h2:=h.resolve_left h1;refine eM call201 λF hF=>?_
   exact ly
 have h1:0<=n:=by omega
 have h2:n<=4294967295:=by omega
 rw[Km h1 h2];generalize C:1+pu n=s;refine eM call201 λF hF=>?_
 refine WW ?_;refine gE (5) [] [] [] [0,3] Z (λz T U E=>∃(m:Int) (k:Int),(0<=m/\m<=4294967295/\k=6-z/\1<=k/\k<=5/\(k=2->m<=33554431)/\(k=3->m<=262143)/\(k=4->m<=2047)/\(k=5->m<=15)/\s=k+pu m)/\E=⟨(0,iA m)::(3,iA k)::T,U⟩) ?_;(conv=>whnf);refine⟨?_,?_⟩
 .exact⟨n,1,⟨h1,h2,zB,zB,zB,zB,zB,zB,zB,C.symm⟩,rfl⟩
 .rintro z st ⟨m,k,⟨q0,q1,q2,q3,q4,q5,q6,q7,q8,q9⟩,rfl⟩;by_cases B:128<=m
  .have hd:=ou B q1;have u:m.tdiv 128=m/128:=zC2 q0;have A:bI .i64 (m.tdiv 128):=⟨zB,zB⟩;refine WW ?_;refine⟨z-1,zB,m.tdiv 128,k+1,⟨zB,zB,zB,zB,zB,zB,zB,zB,zB,by rw[u];omega⟩,rfl⟩
  .rw[V2 zB]at q9;obtain rfl:s=k:=by omega
   exact ly
def nu (h:i<=4):((128:Int) ^ i=1/\i=0)\/((128:Int) ^ i=128/\i=1)\/((128:Int) ^ i=16384/\i=2)\/((128:Int) ^ i=2097152/\i=3)\/((128:Int) ^ i=268435456/\i=4):=by
 obtain rfl|rfl|rfl|rfl|rfl:i=0\/i=1\/i=2\/i=3\/i=4:=by omega
 all_goals simp
def Q7 {i:Nat} {x:Int} (h:i<=4) (u:0<=n) (h1:n<128 ^ i) (z:0<=x) (A:x<128):(Mr (n+x*128 ^ i)=(i:Int)+1)↔¬(4294967295<n+x*128 ^ i\/(0<i/\x=0)):=by
 rcases nu h with⟨e,rfl⟩|⟨e,rfl⟩|⟨e,rfl⟩|⟨e,rfl⟩|⟨e,rfl⟩
 all_goals rw[e]at h1⊢
 all_goals unfold Mr
 all_goals repeat' split
 all_goals omega
def Jm {x P:Int} (u:0<=x) (B:x<128) (z:1<=P) (A:P<=268435456):0<=x*P/\x*P<=127*P:=by
 refine⟨Int.mul_nonneg u zB,Int.mul_le_mul_of_nonneg_right zB zB⟩
theorem O7 (b:List Int) (hb:BY b) (hn:ln b<=100000):zM 287 [zE yA b] [] (.tup [iA (bV b).1,iA (bV b).2.1,iA (bV b).2.2]) []:=by
 have hl:=zA yA b;refine eM call287 λF hF=>?_
 refine WW ?_;refine gE (6) [] [] [0] [5,6,7,0] Z (λzn T U zs=>∃(i:Nat) (n:Int),(zn+i=6/\i<=5/\i<=ln b/\0<=n/\n<128 ^ i/\bV b=VY (b.drop i) i n)/\zs=⟨(5,iA n)::(6,iA (128 ^ i:Int))::(7,iA i)::T,U⟩) ?_;(conv=>whnf);refine⟨?_,?_⟩
 .exact⟨0,0,⟨rfl,zB,zB,zB,by decide,rfl⟩,rfl⟩
 .rintro zn st ⟨i,n,⟨q0,q1,q2,q3,q4,q5⟩,rfl⟩;rw[q5];clear q5;by_cases E:i<ln b
  case neg=>
   have e:b.drop i=[]:=zEh zB;rw[e]
   show uG _ _ _ _ _ (cF (Wk 0 (XZ _ _ _ _ (Fin _ _ [] (.tup [iA 0,iA 0,iA 6]) []))) _)
   generalize (128 ^ i:Int)=z at *;exact ly
  have hx:=hb (b.getD i dd) (by simp[oj,E]);have hy:=zJ yA b i E;have e:b.drop i=b.getD i dd::b.drop (i+1):=by rw[zFg E];simp[oj,E]
  rw[e];clear e;generalize hr:b.drop (i+1)=r at *;generalize V:b.getD i dd=x at *;by_cases L:i=5
  .subst L
   show uG _ _ _ _ _ (cF (Wk 0 (XZ _ _ _ _ (Fin _ _ [] (.tup [iA 0,iA 0,iA 6]) []))) _)
   generalize (128 ^ 5:Int)=z at *;exact ly
  have ht:x.tmod 128=x % 128:=zCf hx.1;have O:=nu (i:=i) zB;have ac:1<=(128:Int) ^ i/\(128:Int) ^ i<=268435456:=by omega
  have Y:=Jm (x:=x.tmod 128) (P:=128 ^ i) zB zB zB zB;have B:=Q7 (i:=i) (n:=n) (x:=x.tmod 128) zB q3 q4 zB zB;have M:(128:Int) ^ (i+1)=128 ^ i*128:=rfl;by_cases I:128<=x
  .have e:VY (x::r) i n=VY r (i+1) (n+x.tmod 128*128 ^ i):=by rw[VY,Os L,zA4 I]
   rw[e];clear B O V;generalize (128:Int) ^ i=z at *;have G:bI .i64 (x.tmod 128*z):=by generalize x.tmod 128*z=W at *;exact⟨zB,zB⟩
   have A:bI .i64 (n+x.tmod 128*z):=by generalize x.tmod 128*z=W at *;exact⟨zB,zB⟩
   have S:0<=n+x.tmod 128*z/\n+x.tmod 128*z<z*128:=by generalize x.tmod 128*z=W at *;omega
   (repeat' (first|refine uQ ?_|apply yW|apply xG|intro hc|(apply zG;first|(apply wR;first|refine wJ (PM Z Z G) Z ?_|refine wJ (PL Z Z A) Z ?_)|refine SM ?_)|fail))
   refine⟨zn-1,zB,i+1,n+x.tmod 128*z,⟨zB,zB,zB,S.1,by rw[M];exact S.2,by rw[hr]⟩,?_⟩;rw[M];rfl
  .have C:x.tmod 128=x:=by omega
   have e:VY (x::r) i n=if 4294967295<n+x.tmod 128*128 ^ i\/(0<i/\x=0)then(0,0,6)else(n+x.tmod 128*128 ^ i,(i:Int)+1,0):=by rw[VY,Os L,Os I]
   have c:=AC (n+x.tmod 128*128 ^ i);rw[e];rw[C]at B;rw[C]at c Y⊢;clear O V e;generalize (128:Int) ^ i=z at *;have G:bI .i64 (x.tmod 128*z):=by rw[C];generalize x*z=W at *;exact⟨zB,zB⟩
   have A:bI .i64 (n+x.tmod 128*z):=by rw[C];generalize x*z=W at *;exact⟨zB,zB⟩
   by_cases u:4294967295<n+x*z\/(0<i/\x=0)
   .have ag:Mr (n+x*z)≠(i:Int)+1:=λh=>B.1 h u
    rw[zA4 u];clear B u;generalize Mr (n+x*z)=s at *;rw[<-C]at c Y
    (have ga:=c;(repeat' (first|refine uQ ?_|apply yW|apply xG|intro hc|(apply zG;first|(apply wR;first|refine wJ (PM Z Z G) Z ?_|refine wJ (PL Z Z A) Z ?_)|refine SM ?_)|fail))<;>clear ga)
    exact zH
   .have R:=B.2 u;rw[R]at c;rw[Os u];clear B u R;rw[<-C]at c Y⊢
    (have ga:=c;(repeat' (first|refine uQ ?_|apply yW|apply xG|intro hc|(apply zG;first|(apply wR;first|refine wJ (PM Z Z G) Z ?_|refine wJ (PL Z Z A) Z ?_)|refine SM ?_)|fail))<;>clear ga)
    exact zH
section
variable {P:Program} {tm:List (Nat×AV)} {h:List (Nat×xW)} {tx ty:Nat} {x y:Operand}
def U2:∀k:_root_.Fin 256,IntKind.u8.wrap (BitVec.ofInt IntKind.u8.bits (k.val:Int) &&& BitVec.ofInt IntKind.u8.bits 127).toNat=((k.val:Int)).tmod 128:=by decide +kernel
theorem ZU (z:yY (zK tm) x= .s (.int .u8 m)) (A:yY (zK tm) y= .s (.int .u8 127)) (u:0<=m/\m<256):wY P ⟨tm,h⟩ (.binOp .and tx x y ty) (.s (.int .u8 (m.tmod 128))) [] [] []:=by
 have e:=U2 ⟨m.toNat,zB⟩
 grind [yY,zK,PN]
end
theorem mu (a b:Nat) (u:a<2 ^ 60) (hb:b<2 ^ 60):Yj a b=((a ||| b:Nat):Int):=by
 have h:=zGe u hb;unfold Yj;rw[show BitVec.ofInt IntKind.i64.bits (a:Int)=BitVec.ofNat IntKind.i64.bits a from zEc ..];rw[show BitVec.ofInt IntKind.i64.bits (b:Int)=BitVec.ofNat IntKind.i64.bits b from zEc ..];rw[zGm,zEa,zEa,zDy (zCc u (zEy xA xA)),zDy (zCc hb (zEy xA xA))];refine kI ⟨?_,?_⟩
 all_goals grind
def S2 {i:Nat} {y:Int} (h:i<=4) (G:0<=n) (h1:n<128 ^ i) (C:0<=y) (I:y<128):Yj n (IntKind.i64.wrap (y*2 ^ (min ((7*(i:Int)).toNat) IntKind.i64.bits)))=n+y*128 ^ i:=by
 have hb:IntKind.i64.bits=64:=rfl;have e1:min ((7*(i:Int)).toNat) 64=7*i:=by omega
 have E:(2:Int) ^ (7*i)=128 ^ i:=by rw[Int.pow_mul];rfl
 rw[hb,e1,E];have u:1<=(128:Int) ^ i/\(128:Int) ^ i<=268435456:=by have:=nu h;omega
 have B:=Jm C I u.1 u.2;rw[show IntKind.i64.wrap (y*128 ^ i)=y*128 ^ i from kI (k:= .i64) (by unfold bI;generalize y*128 ^ i=M,(128:Int) ^ i=L at *;omega)];obtain⟨a,rfl⟩:=zCy G;obtain⟨c,rfl⟩:=zCy C;have z:(128:Int) ^ i=((128 ^ i:Nat):Int):=by simp
 rw[z]at h1 B u⊢;have A:a<128 ^ i:=by omega
 rw[show((c:Int)*((128 ^ i:Nat):Int))=((c*128 ^ i:Nat):Int) by simp]at B⊢;rw[mu a (c*128 ^ i) (by have:(2:Nat) ^ 60=1152921504606846976:=rfl;omega) (by have:(2:Nat) ^ 60=1152921504606846976:=rfl;omega)];have e3:(128:Nat) ^ i=2 ^ (7*i):=by rw[Nat.pow_mul]
 rw[e3]at A⊢;have:=zEp A c;rw[zGl]at this;rw[Nat.or_comm,<-this];omega
theorem N7 (b:List Int) (hb:BY b) (hn:ln b<=100000):zM 340 [zE yA b] [] (.tup [iA (bV b).1,iA (bV b).2.1,iA (bV b).2.2]) []:=by
 have hl:=zA yA b;refine eM call340 λF hF=>?_
 refine WW ?_;refine uS (b) [] [] [8,9] [5,10,8,9] Z (λi f4 T U zs=>∃n:Int,(0<=n/\n<128 ^ i/\i<=5/\∀post,b=f4++post->bV b=VY post i n)/\zs=⟨(5,iA n)::(10,iA i)::T,U⟩) (Lp ?_ ?_ ?_)
 .exact⟨0,⟨zB,by decide,zB,λpost h=>by rw[h];rfl⟩,rfl⟩
 .rintro i f4 x r st G hi ⟨n,⟨q0,q1,q2,q3⟩,rfl⟩;have hy:=zZ yA G hi;have Y:=zV G hi;have z:=hb x (yU G);rw[q3 _ G]
  have q4:∀post,b=f4++[x]++post->post=r:=λpost h=>by
   rw[G,zBx]at h;simpa using h.symm
  clear q3 G;by_cases C:i=5
  .subst C
   show uG _ _ _ _ _ (cF (Wk 0 (XZ _ _ _ _ (Fin _ _ [] (.tup [iA 0,iA 0,iA 6]) []))) _)
   clear q4;exact ly
  have ht:x.tmod 128=x % 128:=zCf z.1;have I:=nu (i:=i) zB;have W:1<=(128:Int) ^ i/\(128:Int) ^ i<=268435456:=by omega
  have R:=Jm (x:=x.tmod 128) (P:=128 ^ i) zB zB zB zB;have L:=S2 (i:=i) (n:=n) (y:=x.tmod 128) zB q0 q1 zB zB;have B:(128:Int) ^ (i+1)=128 ^ i*128:=rfl;by_cases A:128<=x
  .have e:VY (x::r) i n=VY r (i+1) (n+x.tmod 128*128 ^ i):=by rw[VY,Os C,zA4 A]
   rw[e]
   have E:0<=n+x.tmod 128*128 ^ i/\n+x.tmod 128*128 ^ i<128 ^ (i+1):=by
    rw[B];generalize x.tmod 128*128 ^ i=S at *;omega
   clear I e R;generalize n+x.tmod 128*128 ^ i=M at*
   (repeat' (first|refine uQ ?_|apply yW|apply xG|intro hc|(apply zG;first|(apply wR;refine wJ (ZU Z Z z) Z ?_)|refine SM ?_)|fail))
   refine⟨M,⟨E.1,E.2,zB,λpost h=>by rw[q4 post h]⟩,?_⟩;rw[<-L];rfl
  .have e:VY (x::r) i n=if 4294967295<n+x.tmod 128*128 ^ i\/(0<i/\x=0)then(0,0,6)else(n+x.tmod 128*128 ^ i,(i:Int)+1,0):=by rw[VY,Os C,Os A]
   rw[e]
   have E:0<=n+x.tmod 128*128 ^ i/\n+x.tmod 128*128 ^ i<128 ^ (i+1):=by
    rw[B];generalize x.tmod 128*128 ^ i=S at *;omega
   clear I e R q4 B;generalize n+x.tmod 128*128 ^ i=M at *;by_cases u:4294967295<M\/(0<i/\x=0)
   .rw[zA4 u];by_cases V:4294967295<M
    .clear u
     (repeat' (first|refine uQ ?_|apply yW|apply xG|intro hc|(apply zG;first|(apply wR;refine wJ (ZU Z Z z) Z ?_)|refine SM ?_)|fail))
     exact zH
    .obtain⟨h1,h2⟩:=u.resolve_left V
     (repeat' (first|refine uQ ?_|apply yW|apply xG|intro hc|(apply zG;first|(apply wR;refine wJ (ZU Z Z z) Z ?_)|refine SM ?_)|fail))
     exact zH
   .rw[Os u];by_cases O:0<i
    .have ac:x≠0:=λh=>u (.inr ⟨O,h⟩)
     (repeat' (first|refine uQ ?_|apply yW|apply xG|intro hc|(apply zG;first|(apply wR;refine wJ (ZU Z Z z) Z ?_)|refine SM ?_)|fail))
     rw[<-L];exact zH
    ·(repeat' (first|refine uQ ?_|apply yW|apply xG|intro hc|(apply zG;first|(apply wR;refine wJ (ZU Z Z z) Z ?_)|refine SM ?_)|fail))
     rw[<-L];exact zH
 .rintro st ⟨n,⟨q0,q1,q2,q3⟩,rfl⟩;rw[q3 [] zW]
  show uG _ _ _ _ _ (cF (Wk 0 (XZ _ _ _ _ (Fin _ _ [] (.tup [iA 0,iA 0,iA 6]) []))) _)
  exact ly
theorem Im:∀(r:List Int) (i:Nat) (n:Int),BY r->0<=n->(VY r i n=(0,0,6))\/((VY r i n).2.2=0/\0<=(VY r i n).1/\(VY r i n).1<=4294967295/\(i:Int)+1<=(VY r i n).2.1/\(VY r i n).2.1<=i+ln r)
 | [],i,n,_,_=> .inl Z
 | x::r,i,n,hb,C=>by
  have A:=hb x zW
  have z:0<=n+x.tmod 128*128 ^ i:=by
   have h1:0<=x.tmod 128:=by rw[zCf A.1];omega
   have h2:(0:Int)<=128 ^ i:=Int.pow_nonneg zB;have:=Int.mul_nonneg h1 h2;omega
  rw[VY];by_cases u:i=5
  .exact .inl (zA4 u)
  rw[Os u];by_cases h1:128<=x
  .rw[zA4 h1]
   rcases Im r (i+1) (n+x.tmod 128*128 ^ i) (λy B=>hb y (by simp[B])) z with h|⟨a,b,c,d,e⟩
   .exact .inl h
   .refine .inr ⟨a,b,c,zB,?_⟩;rw[zBj];omega
  .rw[Os h1];by_cases h2:4294967295<n+x.tmod 128*128 ^ i\/(0<i/\x=0)
   .exact .inl (zA4 h2)
   .rw[Os h2];refine .inr ⟨rfl,z,zB,zDf _,?_⟩
    show(i:Int)+1<=_
    rw[zBj];omega
theorem GY (b:List Int) (hb:BY b):bV b=(0,0,6)\/((bV b).2.2=0/\0<=(bV b).1/\(bV b).1<=4294967295/\1<=(bV b).2.1/\(bV b).2.1<=ln b):=by
 have:=Im b 0 0 hb (zDf _)
 grind [BY,bV]
def XP:Nat->List Int->Option (List Int×List Int)
 |0,b=>some ([],b)
 |n+1,b=>if(bV b).2.2=0 then(match XP n (b.drop (bV b).2.1.toNat)with|none=>none|some (l,r)=>some ((bV b).1::l,r))else none
def ay (l:List Int):Option (List Int×List Int)->Option (List Int×List Int)
 |none=>none
 |some (k,r)=>some (l++k,r)
def GZ (o:Option (List Int×List Int)):ay [] o=o:=by
 cases o with
 |none=>rfl
 |some p=>rfl
def Oc {l b:List Int} {n:Nat} (h:(bV b).2.2≠0):ay l (XP (n+1) b)=none:=by
 rw[XP,Os h];rfl
theorem Nc {l b:List Int} {n:Nat} (h:(bV b).2.2=0):ay l (XP (n+1) b)=ay (l++[(bV b).1]) (XP n (b.drop (bV b).2.1.toNat)):=by grind [bV,ay,XP]
def mf:Option (List Int×List Int)->AV
 |none=> .tup [zE iA [],zE yA [],bA false]
 |some (l,r)=> .tup [zE iA l,zE yA r,bA true]
def RH (b:List Int) (n:Nat) (hb:BY b) (B:ln b<=100000) (L:n<=1000):zM 304 [zE yA b,iA n] [] (mf (XP n b)) []:=by
 refine eM call304 λF hF=>?_
 refine WW ?_;refine vS 12 Z ?_;refine yV (n) [12] [] [13] [0,7,14,13] Z (λi T U I=>∃u c,(ln u=i/\BY c/\c.length<=100000/\XP n b=ay u (XP (n-i) c))/\I=⟨(0,zE yA c)::(7,.ref 12 0 (u.map iA).length)::(14,iA i)::T,(12,.arr 1 (u.map iA) true)::U⟩) (Lp ?_ ?_ ?_)
 .exact⟨[],b,⟨rfl,hb,B,by rw[GZ];rfl⟩,rfl⟩
 .rintro i st hi ⟨u,c,⟨q0,q1,q2,q3⟩,rfl⟩;have hd:=N7 c q1 q2;have hl:=zA yA c;have E:=zA iA u;rw[show n-i=(n-(i+1))+1 by omega]at q3
  rcases GY c q1 with h|⟨h1,h2,h3,h4,h5⟩
  .rw[q3,Oc (by rw[h];decide)];rw[h]at hd;clear q3 h
   show uG _ _ _ _ _ (cF (Wk 0 (XZ _ _ _ _ (Fin _ _ [] (.tup [zE iA [],zE yA [],bA false]) []))) _)
   exact mx hd
  .rw[Nc h1]at q3;rw[h1]at hd;have A:BY (c.drop (bV c).2.1.toNat):=λy G=>q1 y (zCd G)
   have C:(c.drop (bV c).2.1.toNat).length<=100000:=by rw[zB5];omega
   clear h1;rw[q3];generalize (bV c).1=v,(bV c).2.1=k at *;refine zU hd ?_;refine⟨u++[v],c.drop k.toNat,⟨by simp[q0],A,C,rfl⟩,?_⟩;rw[zBc];rfl
 .rintro st ⟨u,c,⟨q0,q1,q2,q3⟩,rfl⟩;rw[q3,zEb]
  show uG _ _ _ _ _ (cF (Wk 0 (XZ _ _ _ _ (Fin _ _ [] (.tup [zE iA (u++[]),zE yA c,bA true]) []))) _)
  rw[zB1];refine WW ?_;exact zI [] Z Z (zBp (λz=>AV.tup [z,zE yA c,bA true]) (eJ _ _)) Z
def VL (b:List Int) (n:Nat) (hb:BY b) (B:ln b<=100000) (L:n<=1000):zM 239 [zE yA b,iA n] [] (mf (XP n b)) []:=by
 refine eM call239 λF hF=>?_
 refine WW ?_;refine zS 7 1001 1 Z Z Z ?_;refine yV (n) [1001] [] [11] [0,7,12,11] Z (λi T U I=>∃u c,(ln u=i/\BY c/\c.length<=100000/\XP n b=ay u (XP (n-i) c))/\I=⟨(0,zE yA c)::(7,.ref 1001 0 (u.map iA).length)::(12,iA i)::T,(1001,.arr 1 (u.map iA) true)::U⟩) (Lp ?_ ?_ ?_)
 .exact⟨[],b,⟨rfl,hb,B,by rw[GZ];rfl⟩,rfl⟩
 .rintro i st hi ⟨u,c,⟨q0,q1,q2,q3⟩,rfl⟩;have hd:=O7 c q1 q2;have hl:=zA yA c;have E:=zA iA u;rw[show n-i=(n-(i+1))+1 by omega]at q3
  rcases GY c q1 with h|⟨h1,h2,h3,h4,h5⟩
  .rw[q3,Oc (by rw[h];decide)];rw[h]at hd;clear q3 h
   show uG _ _ _ _ _ (cF (Wk 0 (XZ _ _ _ _ (Fin _ _ [] (.tup [zE iA [],zE yA [],bA false]) []))) _)
   exact mx hd
  .rw[Nc h1]at q3;rw[h1]at hd;have A:BY (c.drop (bV c).2.1.toNat):=λy G=>q1 y (zCd G)
   have C:(c.drop (bV c).2.1.toNat).length<=100000:=by rw[zB5];omega
   clear h1;rw[q3];generalize (bV c).1=v,(bV c).2.1=k at *;refine zU hd ?_;refine⟨u++[v],c.drop k.toNat,⟨by simp[q0],A,C,rfl⟩,?_⟩;rw[zBc];rfl
 .rintro st ⟨u,c,⟨q0,q1,q2,q3⟩,rfl⟩;rw[q3,zEb]
  show uG _ _ _ _ _ (cF (Wk 0 (XZ _ _ _ _ (Fin _ _ [] (.tup [zE iA (u++[]),zE yA c,bA true]) []))) _)
  rw[zB1];refine WW ?_;exact zI [] Z Z (zBp (λz=>AV.tup [z,zE yA c,bA true]) (eJ _ _)) Z
def Mc:Nat->Int->List Int
 |0,n=>[n]
 |f+1,n=>if n<128 then [n]else(n % 128+128)::Mc f (n/128)
def jS (n:Int):List Int:=Mc 4 n
def Lc {z:Nat} (h:n<128 ^ (z+1+1)):n/128<128 ^ (z+1):=Int.ediv_lt_of_lt_mul xA (by rw[zGi]at h;exact h)
theorem VM {f:Nat} (h:n<128):Mc f n=[n]:=by
 cases f with
 |zero=>rfl
 |succ f=>exact zA4 h
theorem FA {f:Nat} (h:128<=n):Mc (f+1) n=(n % 128+128)::Mc f (n/128):=Os zB
def oy (n:Int) (C:0<=n) (h1:n<=4294967295):zM 143 [iA n] [] (.tup [zE yA (jS n),iA 0]) []:=by
 have cs:=AC n
 have M:1<=Mr n:=by
  rw[Km C h1];unfold pu
  repeat' split
  all_goals omega
 generalize Mr n=s at *;generalize E:jS n=R;refine eM call143 λF hF=>?_
 refine zU cs ?_;refine zS 4 1001 1 Z Z Z ?_;refine gE (4) [1001] [] [] [0,4] Z (λA T U S=>∃(m:Int) (u:List Int),(0<=m/\m<=4294967295/\m<128 ^ (A+1)/\u.length+A=4/\u++Mc A m=R)/\S=⟨(0,iA m)::(4,.ref 1001 0 (u.map yA).length)::T,(1001,.arr 1 (u.map yA) true)::U⟩) ?_;(conv=>whnf);refine⟨?_,?_⟩
 .exact⟨n,[],⟨C,h1,by show n<34359738368;omega,rfl,E⟩,rfl⟩
 .rintro A st ⟨m,u,⟨q0,q1,q2,q3,q4⟩,rfl⟩;have I:=zA yA u;by_cases L:128<=m
  .obtain⟨z,rfl⟩:∃z,A=z+1:=by
    cases A with
    |zero=>exfalso;have:m<128:=q2;omega
    |succ z=>exact⟨z,rfl⟩
   rw[FA L]at q4;have hd:=Lc q2;have O:m.tmod 128=m % 128:=zCf q0;have B:m.tdiv 128=m/128:=zC2 q0;have G:bI .i64 (m.tdiv 128):=⟨zB,zB⟩;clear q2;refine WW ?_;refine⟨z,zB,m.tdiv 128,u++[m.tmod 128+128],⟨zB,zB,by rw[B];exact hd,by simp;omega,by rw[B,O,zBx];exact q4⟩,?_⟩;rw[zBc];rfl
  .rw[VM zB]at q4;clear q2;subst q4;refine WW ?_;refine zI [] Z Z ?_ Z
   show AV.tup [AV.sl false ((u.map yA++[yA m]).take (u.map yA++[yA m]).length),iA 0]=_
   rw[zA8];unfold zE;rw[zBc];rfl
theorem lu (u:0<=n) (h1:n<=4294967295):jJ n 127=n % 128:=by
 obtain⟨a,rfl⟩:=zCy u;unfold jJ;rw[show BitVec.ofInt IntKind.i64.bits (a:Int)=BitVec.ofNat IntKind.i64.bits a from zEc ..];rw[show BitVec.ofInt IntKind.i64.bits (127:Int)=BitVec.ofNat IntKind.i64.bits 127 from Z];rw[BitVec.toNat_and,zEa,zEa,zDy (show a<2 ^ IntKind.i64.bits by show a<18446744073709551616;omega),zDy (show 127<2 ^ IntKind.i64.bits by decide)];have e:a &&& 127=a % 128:=Nat.and_two_pow_sub_one_eq_mod a 7
 grind [jJ,kI,bI]
def M7:∀k:_root_.Fin 128,IntKind.u8.wrap (BitVec.ofInt IntKind.u8.bits (k.val:Int) ||| BitVec.ofInt IntKind.u8.bits 128).toNat=(k.val:Int)+128:=by decide +kernel
section
variable {P:Program} {tm:List (Nat×AV)} {h:List (Nat×xW)} {tx ty:Nat} {x y:Operand}
theorem ru (z:yY (zK tm) x= .s (.int .u8 m)) (A:yY (zK tm) y= .s (.int .u8 128)) (u:0<=m/\m<128):wY P ⟨tm,h⟩ (.binOp .or tx x y ty) (.s (.int .u8 (m+128))) [] [] []:=by
 have e:=M7 ⟨m.toNat,zB⟩
 grind [yY,zK,HW]
end
def L7 (n:Int) (E:0<=n) (h1:n<=4294967295):zM 235 [iA n] [] (.tup [zE yA (jS n),iA 0]) []:=by
 generalize G:jS n=R;refine eM call235 λF hF=>?_
 refine WW ?_;refine vS 11 Z ?_;refine gE (4) [11] [] [] [0,4] Z (λA T U O=>∃(m:Int) (u:List Int),(0<=m/\m<=4294967295/\m<128 ^ (A+1)/\u.length+A=4/\u++Mc A m=R)/\O=⟨(0,iA m)::(4,.ref 11 0 (u.map yA).length)::T,(11,.arr 1 (u.map yA) true)::U⟩) ?_;(conv=>whnf);refine⟨?_,?_⟩
 .exact⟨n,[],⟨E,h1,by show n<34359738368;omega,rfl,G⟩,rfl⟩
 .rintro A st ⟨m,u,⟨q0,q1,q2,q3,q4⟩,rfl⟩;have L:=zA yA u;by_cases M:128<=m
  .obtain⟨z,rfl⟩:∃z,A=z+1:=by
    cases A with
    |zero=>exfalso;have:m<128:=q2;omega
    |succ z=>exact⟨z,rfl⟩
   rw[FA M]at q4;have hd:=Lc q2;have I:=lu q0 q1;have B:0<=jJ m 127/\jJ m 127<128:=by omega
   have C:vV m 7=m/128:=zDc m xA;clear q2
   (repeat' (first|refine uQ ?_|apply yW|apply xG|intro hc|(apply zG;first|(apply wR;refine wJ (ru Z Z B) Z ?_)|refine SM ?_)|fail))
   refine⟨z,zB,vV m 7,u++[jJ m 127+128],⟨zB,zB,by rw[C];exact hd,by simp;omega,by rw[C,I,zBx];exact q4⟩,?_⟩;rw[zBc];rfl
  .rw[VM zB]at q4;clear q2;subst q4;refine WW ?_;refine zI [] Z Z ?_ Z
   show AV.tup [AV.sl false ((u.map yA++[yA m]).take (u.map yA++[yA m]).length),iA 0]=_
   rw[zA8];unfold zE;rw[zBc];rfl
theorem AD:∀(r:List Int) (i:Nat) (n:Int),BY r->i<=5->(VY r i n).2.2=0->∃q:Int,0<=q/\(VY r i n).1=n+q*128 ^ i/\(0<i->0<q)/\i<=4/\∃j:Nat,(VY r i n).2.1=((i+j:Nat):Int)/\Mc (4-i) q=r.take j
 | [],i,n,_,_,h=>by exact absurd (show(6:Int)=0 from h) xA
 | x ::r,i,n,hb,M,h=>by
  have A:=hb x zW;by_cases hi:i=5
  .exfalso;rw[VY,zA4 hi]at h;exact absurd (show(6:Int)=0 from h) xA
  by_cases z:128<=x
  .have e:VY (x::r) i n=VY r (i+1) (n+x.tmod 128*128 ^ i):=by rw[VY,Os hi,zA4 z]
   rw[e]at h⊢;obtain⟨q,S,q1,I,U,j,q4,L⟩:=AD r (i+1) _ (λy G=>hb y (by simp[G])) zB h;have R:x.tmod 128=x % 128:=zCf A.1;have O:=I zB;refine⟨x.tmod 128+q*128,zB,?_,λ_=>by omega,zB,j+1,by rw[q4];omega,?_⟩
   .rw[q1,zGi,Int.add_mul,Int.mul_assoc,Int.mul_comm 128,Int.add_assoc]
   .obtain⟨f,E⟩:∃f,4-i=f+1:=⟨3-i,zB⟩;rw[E,FA zB,List.take_succ_cons,<-L,show 4-(i+1)=f by omega]
    congr 1
    .omega
    .congr 1
     omega
  .have B:x.tmod 128=x:=by rw[zCf A.1];omega
   have e:VY (x::r) i n=if 4294967295<n+x.tmod 128*128 ^ i\/(0<i/\x=0)then(0,0,6)else(n+x.tmod 128*128 ^ i,(i:Int)+1,0):=by rw[VY,Os hi,Os z]
   rw[e]at h⊢;by_cases u:4294967295<n+x.tmod 128*128 ^ i\/(0<i/\x=0)
   .rw[zA4 u]at h;exact absurd (show(6:Int)=0 from h) xA
   .rw[Os u,B];refine⟨x,A.1,rfl,λC=>?_,zB,1,by show(i:Int)+1=_;omega,?_⟩
    .have:x≠0:=λh=>u (.inr ⟨C,h⟩)
     omega
    .rw[VM zB];rfl
theorem Hm {b:List Int} (hb:BY b) (h:(bV b).2.2=0):jS (bV b).1=b.take (bV b).2.1.toNat:=by
 obtain⟨q,_,q1,_,_,j,q4,u⟩:=AD b 0 0 hb zB h
 grind [BY,bV,jS]
theorem bF:∀(n:Nat) (b l r:List Int),BY b->XP n b=some (l,r)->ln l=n/\BY r/\(∀x∈l,0<=x/\x<=4294967295)/\b=(l.map jS).flatten++r
 |0,b,l,r,hb,h=>by
  cases h;exact⟨rfl,hb,by simp,rfl⟩
 | n +1,b,l,r,hb,h=>by
  rw[XP]at h;by_cases u:(bV b).2.2=0
  .rw[zA4 u]at h
   rcases GY b hb with h0|⟨_,h2,h3,h4,h5⟩
   .rw[h0]at u;exact absurd (show(6:Int)=0 from u) xA
   cases z:XP n (b.drop (bV b).2.1.toNat)with
   |none=>rw[z]at h;cases h
   | some p=>
    obtain⟨L,M⟩:=p;rw[z]at h;cases h;obtain⟨B,C,E,G⟩:=bF n _ L r (λy I=>hb y (zCd I)) z;refine⟨by simp[B],C,λx A=>?_,?_⟩
    .rcases zCt.1 A with rfl|A
     .exact⟨h2,h3⟩
     .exact E x A
    .rw[zCn,zD2,Hm hb u,zBx,<-G,zEv]
  .rw[Os u]at h;cases h
def AE (b:List Int) (n:Nat) (l r:List Int) (hb:BY b) (B:ln b<=100000) (L:n<=1000) (z:XP n b=some (l,r)):zM 304 [zE yA b,iA n] [] (.tup [.ref 1001 0 (l.map iA).length,zE yA r,bA true]) [(1001,.arr 1 (l.map iA) true)]:=by
 refine eM call304 λF hF=>?_
 (repeat' (first|refine uQ ?_|apply yW|apply xG|intro hc|(apply zG;first|(apply fS;refine bG 1001 tok Z Z Z Z Z Z Z Z Z Z Z Z Z zB zB Z Z Z ?_))|fail))
 refine vS 1001 Z ?_;refine yV (n) [1001] [] [13] [0,7,14,13] Z (λi T U I=>∃u c,(ln u=i/\BY c/\c.length<=100000/\XP n b=ay u (XP (n-i) c))/\I=⟨(0,zE yA c)::(7,.ref 1001 0 (u.map iA).length)::(14,iA i)::T,(1001,.arr 1 (u.map iA) true)::U⟩) (Lp ?_ ?_ ?_)
 .exact⟨[],b,⟨rfl,hb,B,by rw[GZ];rfl⟩,rfl⟩
 .rintro i st hi ⟨u,c,⟨q0,q1,q2,q3⟩,rfl⟩;have hd:=N7 c q1 q2;have hl:=zA yA c;have E:=zA iA u;rw[show n-i=(n-(i+1))+1 by omega]at q3
  rcases GY c q1 with h|⟨h1,h2,h3,h4,h5⟩
  .rw[Oc (by rw[h];decide),z]at q3;cases q3
  .rw[Nc h1]at q3;rw[h1]at hd;have A:BY (c.drop (bV c).2.1.toNat):=λy G=>q1 y (zCd G)
   have C:(c.drop (bV c).2.1.toNat).length<=100000:=by rw[zB5];omega
   clear h1;generalize (bV c).1=v,(bV c).2.1=k at *;refine zU hd ?_;refine⟨u++[v],c.drop k.toNat,⟨by simp[q0],A,C,q3⟩,?_⟩;rw[zBc];rfl
 .rintro st ⟨u,c,⟨q0,q1,q2,q3⟩,rfl⟩;rw[zEb,z]at q3;have e:(l,r)=(u++[],c):=zEg q3;rw[zB1]at e;cases e;refine WW ?_;exact zP [1001] rfl rfl rfl rfl
def vU (k:Int):Nat:=if k=2\/k=6 then 3 else if k=4 then 2 else if k=1\/k=9\/k=12 then 0 else 1
def wE (k:Int):Nat:=if k=6 then 4 else if k=7 then 2 else 0
def shA (z u:Nat):AV:= .agg [iA 10,iA z,iA u,iA (if u=0 then 0 else 1),iA (if u=0 then 0 else 3),iA 0]
def Fh (k:Int) (u:1<=k) (h1:k<=12):zM 233 [iA k] [] (.tup [shA (vU k) (wE k),bA true]) []:=by
 obtain rfl|rfl|rfl|rfl|rfl|rfl|rfl|rfl|rfl|rfl|rfl|rfl:k=1\/k=2\/k=3\/k=4\/k=5\/k=6\/k=7\/k=8\/k=9\/k=10\/k=11\/k=12:=by omega
 all_goals (refine eM call233 λF hF=>?_)
 all_goals (refine WW ?_)
 all_goals exact zH
def MF (z u:Nat) (p:List Int):Option (List Int):=
 if 200<ln p\/p.length<10 then none else match XP z (p.drop 10)with
 |none=>none
 | some (a,r)=>if u=0 then(if r=[]then some a else none)else match XP 1 r with
  |none=>none
  |some (c,r2)=>if c.getD 0 0<1\/3<c.getD 0 0 then none else match XP ((c.getD 0 0).toNat*u) r2 with
   |none=>none
   |some (f,r3)=>if r3=[]then some (a++f)else none
def O6 (k:Int) (tok:List Int):Option (List Int)->AV
 |none=> .tup [zX ⟨0,[],[],[]⟩,iA 6]
 |some a=> .tup [zX ⟨k,tok,a,[]⟩,iA 0]
theorem Gm (k:Int) (h0:1<=k) (h1:k<=12) (p:List Int) (hb:BY p) (hn:ln p<=100000):zM 267 [iA k,zE yA p] [] (O6 k (p.take 10) (MF (vU k) (wE k) p)) []:=by
 have hl:=zA yA p;have z:=Fh k h0 h1
 have hf:vU k<=3:=by
  unfold vU
  repeat' split
  all_goals omega
 have hg:wE k=0\/(2<=wE k/\wE k<=4):=by
  unfold wE
  repeat' split
  all_goals omega
 generalize vU k=V,wE k=C at *;unfold shA at z;by_cases A:200<ln p\/p.length<10
 .rw[show MF V C p=none from zA4 A]
  show zM 267 [iA k,zE yA p] [] (.tup [zX ⟨0,[],[],[]⟩,iA 6]) []
  by_cases h2:200<ln p
  ·(refine eM call267 λF hF=>?_)
   exact mx z
  .have h3:=A.resolve_left h2;refine eM call267 λF hF=>?_
   exact mx z
 have e0:MF V C p=_:=Os A;rw[e0];clear e0;have O:BY (p.drop 10):=λy hy=>hb y (zCd hy)
 have ac:(p.drop 10).length<=100000:=by rw[zB5];omega
 have G:=RH (p.drop 10) V O ac zB
 cases E:XP V (p.drop 10)with
 |none=>
  rw[E]at G
  show zM 267 [iA k,zE yA p] [] (.tup [zX ⟨0,[],[],[]⟩,iA 6]) []
  unfold mf at G;refine eM call267 λF hF=>?_
  exact mt (xU z G)
 |some q=>
 obtain⟨a,r⟩:=q;obtain⟨ha,W,a3,av⟩:=bF _ _ _ _ O E
 have au:ln r<=100000:=by
  have:=zBp List.length av;rw[zA9]at this;omega
 have a9:=zA yA r;have a7:=zA iA a;have k1:=kU (p.take 10) JN
 rcases hg with rfl|⟨g2,g4⟩
 .rw[E]at G;unfold mf at G;dsimp only;rw[zA4 Z];by_cases U:r=[]
  .subst U;have k2:=kU [] zW;rw[zA4 Z]
   show zM 267 [iA k,zE yA p] [] (.tup [zX ⟨k,p.take 10,a,[]⟩,iA 0]) []
   refine eM call267 λF hF=>?_
   exact mt (cL z G k1 k2)
  .have ar:ln r≠0:=λh=>U (zB4 h)
   rw[Os U]
   show zM 267 [iA k,zE yA p] [] (.tup [zX ⟨0,[],[],[]⟩,iA 6]) []
   refine eM call267 λF hF=>?_
   exact mt (xU z G)
 have u:=AE (p.drop 10) V a r O ac zB E;have B:=RH r 1 W au zB;clear G;dsimp only;rw[Os zB]
 cases R:XP 1 r with
 |none=>
  rw[R]at B;unfold mf at B
  show zM 267 [iA k,zE yA p] [] (.tup [zX ⟨0,[],[],[]⟩,iA 6]) []
  refine eM call267 λF hF=>?_
  exact mt (qL z u B)
 |some q2=>
 obtain⟨c,r2⟩:=q2;obtain⟨Y,L,a4,ap⟩:=bF _ _ _ _ W R
 obtain⟨v,rfl⟩:∃v,c=[v]:=by
  cases c with
  |nil=>cases Y
  |cons v c=>cases c with
   |nil=>exact⟨v,rfl⟩
   |cons w c=>simp at Y
 have ag:ln r2<=100000:=by
  have:=zBp List.length ap;rw[zA9]at this;omega
 rw[R]at B;unfold mf at B;dsimp only;rw[show [v].getD 0 0=v from Z];by_cases hv:v<1\/3<v
 .rw[zA4 hv]
  show zM 267 [iA k,zE yA p] [] (.tup [zX ⟨0,[],[],[]⟩,iA 6]) []
  by_cases ax:v<1
  ·(refine eM call267 λF hF=>?_)
   exact mt (qL z u B)
  .have ba:=hv.resolve_left ax;refine eM call267 λF hF=>?_
   exact mt (qL z u B)
 rw[Os hv];have bb:v.toNat*C<=12:=zB9 (zDw (show v.toNat<=3 by omega) g4) xA;have M:((v.toNat*C:Nat):Int)=v*(C:Int):=by rw[zFr,zE0 zB]
 have I:=RH r2 (v.toNat*C) L ag zB;rw[M]at I;have hm:0<=v*(C:Int)/\v*(C:Int)<=12:=by rw[<-M];omega
 clear M
 cases S:XP (v.toNat*C) r2 with
 |none=>
  rw[S]at I;unfold mf at I
  show zM 267 [iA k,zE yA p] [] (.tup [zX ⟨0,[],[],[]⟩,iA 6]) []
  refine eM call267 λF hF=>?_
  exact mt (cL z u B I)
 |some q3=>
 obtain⟨f,r3⟩:=q3;obtain⟨a5,az,a6,a2⟩:=bF _ _ _ _ L S;have a8:=zA iA f;have a1:=zA yA r3;rw[S]at I;unfold mf at I;dsimp only;by_cases U:r3=[]
 .subst U;have k2:=kU [] zW;rw[zA4 Z]
  show zM 267 [iA k,zE yA p] [] (.tup [zX ⟨k,p.take 10,a++f,[]⟩,iA 0]) []
  refine eM call267 λF hF=>?_
  refine yH (Wb z u B I k1 k2) ?_;refine zI [] Z Z ?_ Z
  show AV.tup [.agg [iA k,zE yA (p.take 10),.sl false ((a.map iA++f.map iA).take (a.map iA++f.map iA).length),zE yA []],iA 0]=_
  rw[zA8,<-zBc];rfl
 .have ar:ln r3≠0:=λh=>U (zB4 h)
  rw[Os U]
  show zM 267 [iA k,zE yA p] [] (.tup [zX ⟨0,[],[],[]⟩,iA 6]) []
  refine eM call267 λF hF=>?_
  exact mt (cL z u B I)
def Kc (z u:Nat):AV:= .agg [iA z,iA u,iA (if u=0 then 0 else 1),iA (if u=0 then 0 else 3),iA 0]
def Jc (k:Int) (u:1<=k) (h1:k<=12):zM 141 [iA k] [] (Kc (vU k) (wE k)) []:=by
 obtain rfl|rfl|rfl|rfl|rfl|rfl|rfl|rfl|rfl|rfl|rfl|rfl:k=1\/k=2\/k=3\/k=4\/k=5\/k=6\/k=7\/k=8\/k=9\/k=10\/k=11\/k=12:=by omega
 all_goals (refine eM call141 λF hF=>?_)
 all_goals (refine WW ?_)
 all_goals exact zH
def ZC (u z:Nat) (c:Int):Nat->List Int->List Int
 |_,[]=>[]
 |i,x::r=>(if i=u/\z≠0 then [c]else [])++(jS x++ZC u z c (i+1) r)
def dO (u z:Nat) (c:Int) (m:Ms):List Int:=(m.tok++ZC u z c 0 m.args)++((if z≠0/\m.args.length=u then [0]else [])++m.data)
theorem Zf:∀(f:Nat) (n:Int),1<=(Mc f n).length/\(Mc f n).length<=f+1
 |0,n=>by simp[Mc]
 |f+1,n=>by
  have:=Zf f (n/128);rw[Mc];split
  .simp
  .rw[zBj];omega
theorem gD (n:Int):1<=(jS n).length/\(jS n).length<=5:=Zf 4 n
theorem XA (k:Int) (h0:1<=k) (h1:k<=12) (m:Ms) (c:Nat) (hk:m.kind=k) (ht:ln m.tok=10) (hd:ln m.data<=100000) (ha:∀x∈m.args,0<=x/\x<=4294967295) (hn:ln m.args<=1000) (hc:wE k≠0->ln m.args=vU k+c*wE k) (av:c<=3):
  zM 70 [zX m] [] (zE yA (dO (vU k) (wE k) c m)) []:=by
 subst hk;have L:=Jc m.kind h0 h1
 have hg:wE m.kind<=4:=by
  unfold wE
  repeat' split
  all_goals omega
 generalize vU m.kind=C,wE m.kind=z at *;unfold Kc at L;have a2:=zA yA m.tok;have ag:=zA iA m.args;have az:=zA yA m.data;unfold dO;generalize hT:m.tok++ZC C z c 0 m.args=ar;refine eM call70 λF hF=>?_
 (have ga:=L;(repeat' (first|refine uQ ?_|apply yW|apply xG|intro hc|(apply zG;first|(apply yD;refine xH 1001 tok Z Z Z Z Z Z (yM _ _ (λ_=>rfl)) Z Z Z zB Z Z Z ?_))|fail))<;>clear ga)
 refine vS 1001 Z ?_;refine uS (m.args) [1001,1,3] [1,3] [1,3,16,17] [4,18,1,3,16,17] Z (λi f4 T U zs=>∃u:List Int,(ln u<=10+6*i/\∀post,m.args=f4++post->u++ZC C z c i post=ar)/\zs=⟨(4,.ref 1001 0 (u.map yA).length)::(18,iA i)::T,(1001,.arr 1 (u.map yA) true)::U⟩) (Lp ?_ ?_ ?_)
 .exact⟨m.tok,⟨zB,λpost h=>by rw[<-hT,h];rfl⟩,rfl⟩
 .rintro i f4 x post st I hi ⟨u,⟨q0,q1⟩,rfl⟩;have hy:=zZ iA I hi;have au:=zV I hi;have R:=ha x (yU I);have O:=zA yA u;have he:=gD x;have Y:=oy x R.1 R.2;have a1:=zA yA (jS x)
  have A:∀p,m.args=f4++[x]++p->p=post:=λp h=>by
   rw[I,zBx]at h;simpa using h.symm
  have B:=q1 _ I;clear q1 hT I;by_cases G:i=C/\z≠0
  .obtain⟨rfl,E⟩:=G;have M:=hc E
   have hq:(((m.args.map iA).length:Int)-(i:Int)).tdiv (z:Int)=(c:Int):=by
    rw[ag,M,show(((i+c*z:Nat):Int)-(i:Int))=(c:Int)*(z:Int) by rw[Int.natCast_add,zFr];omega];exact Int.mul_tdiv_cancel _ zB
   have ax:bI .i64 ((((m.args.map iA).length:Int)-(i:Int)).tdiv (z:Int)):=by rw[hq];exact⟨zB,zB⟩
   have e:ZC i z c i (x::post)=[(c:Int)]++(jS x++ZC i z c (i+1) post):=by rw[ZC,zA4 ⟨rfl,E⟩]
   rw[e]at B;clear e M hc;generalize jS x=V at *;refine yH (xU L Y) ?_;refine⟨u++[(c:Int)]++V,⟨by simp;omega,λp h=>by rw[A p h,<-B];simp⟩,?_⟩;rw[zBc,zBc,<-hq];rfl
  .have e:ZC C z c i (x::post)=jS x++ZC C z c (i+1) post:=by rw[ZC,Os G];rfl
   rw[e]at B;clear e hc;generalize jS x=V at *;by_cases ac:i=C
   .have E:z=0:=by
     by_cases h:z=0
     .exact h
     .exact absurd ⟨ac,h⟩ G
    refine yH (xU L Y) ?_;refine⟨u++V,⟨by simp;omega,λp h=>by rw[A p h,<-B];simp⟩,?_⟩;rw[zBc];rfl
   ·(refine yH (xU L Y) ?_)
    refine⟨u++V,⟨by simp;omega,λp h=>by rw[A p h,<-B];simp⟩,?_⟩;rw[zBc];rfl
 .rintro st ⟨u,⟨q0,q1⟩,rfl⟩;have e:=q1 [] zW;rw[show ZC C z c (ln m.args) []=[]from rfl,zB1]at e;subst e;have O:=zA yA u;clear q1 hT hc;by_cases W:z≠0/\m.args.length=C
  .rw[zA4 W];obtain⟨S,ap⟩:=W;refine WW ?_;refine zI [] Z Z ?_ Z
   show AV.sl false ((u.map yA++[yA 0]++m.data.map yA).take (u.map yA++[yA 0]++m.data.map yA).length)=_
   rw[zA8];unfold zE;rw[zBc,zBc,zBx];rfl
  .rw[Os W];by_cases S:z=0
   ·(refine WW ?_)
    refine zI [] Z Z ?_ Z
    show AV.sl false ((u.map yA++m.data.map yA).take (u.map yA++m.data.map yA).length)=_
    rw[zA8];unfold zE;rw[zBc];rfl
   .have ap:ln m.args≠C:=λh=>W ⟨S,h⟩
    refine WW ?_;refine zI [] Z Z ?_ Z
    show AV.sl false ((u.map yA++m.data.map yA).take (u.map yA++m.data.map yA).length)=_
    rw[zA8];unfold zE;rw[zBc];rfl
def P9 (p:Int×Int):AV:= .agg [iA p.1,iA p.2]
def qR (n:Int):List (Int×Int):=if n=0 then [(0,0),(0,0)]else if n=1 then [(0,0),(1,0),(0,1),(1,1)]else if n=2 then [(0,0),(1,0),(0,0)]
 else if n=3 then [(0,0),(0,0),(1,0),(1,0),(0,1),(0,1),(1,1),(1,1)]else if n=4 then [(1,0),(0,1),(0,2)]else [(0,0)]
def Fm (n:Int):zM 161 [iA n] [] (zE P9 (qR n)) []:=by
 by_cases u:n=0
 .subst u;refine eM call161 λF hF=>?_
  (repeat' (first|refine aQ ?_|refine yW (λhc=>?_) λhc=>?_|fail))
  exact zH
 by_cases h1:n=1
 .subst h1;refine eM call161 λF hF=>?_
  (repeat' (first|refine aQ ?_|refine yW (λhc=>?_) λhc=>?_|fail))
  exact zH
 by_cases h2:n=2
 .subst h2;refine eM call161 λF hF=>?_
  (repeat' (first|refine aQ ?_|refine yW (λhc=>?_) λhc=>?_|fail))
  exact zH
 by_cases z:n=3
 .subst z;refine eM call161 λF hF=>?_
  (repeat' (first|refine aQ ?_|refine yW (λhc=>?_) λhc=>?_|fail))
  exact zH
 by_cases A:n=4
 .subst A;refine eM call161 λF hF=>?_
  (repeat' (first|refine aQ ?_|refine yW (λhc=>?_) λhc=>?_|fail))
  exact zH
 rw[show qR n=[(0,0)] by simp[qR,u,h1,h2,z,A]];refine eM call161 λF hF=>?_
 (repeat' (first|refine aQ ?_|refine yW (λhc=>?_) λhc=>?_|fail))
 exact zH
instance:Inhabited (Int×Int):=⟨(0,0)⟩
def TA (d:Dk) (s:Int×Int):Ph:=
 if nx (ad (ad (ad d))) 3=2 then⟨s.1,s.2,1+nx d (3-1+1),max (1+nx d (3-1+1)) (1+nx (ad (ad (ad (ad d)))) (2-1+1)+(1+nx (ad (ad (ad (ad (ad d))))) (2-1+1)))+nx (ad (ad (ad (ad (ad (ad d)))))) 4,1+nx (ad d) (2-1+1),nx (ad (ad d)) 3,1+nx (ad (ad (ad (ad d)))) (2-1+1),1+nx (ad (ad (ad (ad (ad d))))) (2-1+1)⟩
 else⟨s.1,s.2,1+nx d (3-1+1),max (1+nx d (3-1+1)) (0+0)+nx (ad (ad (ad (ad d)))) 4,1+nx (ad d) (2-1+1),nx (ad (ad d)) 3,0,0⟩
def N6 (d:Dk):Dk:=if nx (ad (ad (ad d))) 3=2 then ad (ad (ad (ad (ad (ad (ad d))))))else ad (ad (ad (ad (ad d))))
def JX (d:Dk) (l:List (Int×Int)):Nat->List Ph×Dk
 |0=>([],d)
 |i+1=>((JX d l i).1++[TA (JX d l i).2 (l.getD i dd)],N6 (JX d l i).2)
theorem TB (d:Dk) (l:List (Int×Int)):∀i,(JX d l i).1.length=i
 |0=>rfl
 |i+1=>by simp[JX,TB d l i]
def Lr (u:List Ph) (z:Bool) (i k:Nat):Bool:=i != k&&((u.getD i dd).ring==(u.getD k dd).ring||(u.getD i dd).group != (u.getD k dd).group||z&&((i:Int)+k).tmod 2==1)
def XQ (z:List Ph) (u:Bool) (i:Nat):Nat->Int
 |0=>0
 |k+1=>if Lr z u i k=true then XQ z u i k+2 ^ k else XQ z u i k
theorem PY (z:List Ph) (u:Bool) (i:Nat):∀k,0<=XQ z u i k/\XQ z u i k<2 ^ k
 |0=>by simp[XQ]
 |k+1=>by
  have:=PY z u i k;have e:(2:Int) ^ (k+1)=2 ^ k*2:=zGi 2 k;unfold XQ
  split<;>omega
def fH (u:List Ph) (z:Bool) (n:Nat):List Int:=(List.range n).map λi=>XQ u z i (ln u)
def VZ (d:Dk):List Ph×Dk:=JX (ad (ad d)) (qR (nx d 6)) (qR (nx d 6)).length
def MG (d:Dk):Jn:=⟨(VZ d).1,fH (VZ d).1 (nx (VZ d).2 4==3) (VZ d).1.length,nx (ad d) 3⟩
def K7 (d:Dk):Dk:=ad (VZ d).2
def MH (n:Int):1<=(qR n).length/\(qR n).length<=8:=by
 unfold qR
 (repeat' split)<;>simp
def zAm (k:Nat) (h:k<8):IntKind.i64.wrap (1*2 ^ (min ((k:Int)).toNat IntKind.i64.bits))=2 ^ k/\(2:Int) ^ k<=128:=by
 obtain rfl|rfl|rfl|rfl|rfl|rfl|rfl|rfl:k=0\/k=1\/k=2\/k=3\/k=4\/k=5\/k=6\/k=7:=by omega
 all_goals decide
theorem Ic (d:Dk):zM 91 [.ptr 1000 0 0] [(1000,fI d)] (wK (MG d)) [(1000,fI (K7 d))]:=by
 have hb:=yQ d 6 zB;have a1:=MH (nx d 6);have sc:=Fm (nx d 6);have ej:MG d=⟨(VZ d).1,fH (VZ d).1 (nx (VZ d).2 4==3) (VZ d).1.length,nx (ad d) 3⟩:=rfl;have ed:K7 d=ad (VZ d).2:=rfl;have ep:VZ d=JX (ad (ad d)) (qR (nx d 6)) (qR (nx d 6)).length:=rfl;rw[ej,ed];generalize VZ d=jp,qR (nx d 6)=l at *;have M:(l.map P9).length=ln l:=by simp
 refine eM call91 λF hF=>?_
 (repeat' (first|refine aQ ?_|refine yW (λhc=>?_) λhc=>?_|(apply zG;apply xP;(first|(refine vH 161 ?_;first|refine wJ (zL (sc) Z Z Z Z Z) Z ?_|refine uX (zL (sc) Z Z Z Z Z) Z Z Z ?_|refine aK (zL (sc) Z Z Z Z Z) Z Z Z ?_)|(refine vH 16 ?_;first|refine wJ (zL (yS _ _ zB zB) Z Z Z Z Z) Z ?_|refine uX (zL (yS _ _ zB zB) Z Z Z Z Z) Z Z Z ?_|refine aK (zL (yS _ _ zB zB) Z Z Z Z Z) Z Z Z ?_)))|fail))
 refine gJ 4 0 1001 8 Z Z Z Z Z ?_
 refine wQ (λn st=>∃i:Nat,n+i=ln l/\st=⟨[(0,.ptr 1000 0 0),(2,.ptr 2 0 0),(4,.ptr 4 0 0),(20,zE P9 l),(21,iA (ln l)),(22,iA i)],
   [(1000,fI (JX (ad (ad d)) l i).2),(2,.box [.s (.slice none 0 0),.s (.slice none 0 0),iA 0]),(4,.box [.ref 1001 0 ((JX (ad (ad d)) l i).1.map xN).length,.s (.slice none 0 0),iA (nx (ad d) 3)]),(1001,.arr 8 ((JX (ad (ad d)) l i).1.map xN) true)]⟩)
  (ln l) [1000,2,4,1001] [0,2,4,20,21,22] Z ⟨0,rfl,by rw[<-M];rfl⟩ ?_
 rintro n st ⟨i,hi,rfl⟩;by_cases R:i<ln l
 .have U:=yF P9 l i zB zB;rw[show((i:Int)).toNat=i from Z]at U;have I:(JX (ad (ad d)) l (i+1)).1.map xN=(JX (ad (ad d)) l i).1.map xN++[xN (TA (JX (ad (ad d)) l i).2 (l.getD i dd))]:=zBc;have hd:(JX (ad (ad d)) l (i+1)).2=N6 (JX (ad (ad d)) l i).2:=rfl;have ac:=TB (ad (ad d)) l i;generalize l.getD i dd=p at *;obtain⟨Y,p2⟩:=p;generalize S:JX (ad (ad d)) l (i+1)=q' at I hd;generalize JX (ad (ad d)) l i=q at *;obtain⟨ql,z⟩:=q;dsimp only at I hd ac⊢;have b0:=yQ z (3-1+1) zB;have b1:=yQ (ad (ad (ad (ad z)))) 4 zB;have b2:=yQ (ad (ad (ad (ad z)))) (2-1+1) zB;have b3:=yQ (ad (ad (ad (ad (ad z))))) (2-1+1) zB;have b4:=yQ (ad (ad (ad (ad (ad (ad z)))))) 4 zB;by_cases V:nx (ad (ad (ad z))) 3=2
  .rw[show TA z (Y,p2)=⟨Y,p2,1+nx z (3-1+1),max (1+nx z (3-1+1)) (1+nx (ad (ad (ad (ad z)))) (2-1+1)+(1+nx (ad (ad (ad (ad (ad z))))) (2-1+1)))+nx (ad (ad (ad (ad (ad (ad z)))))) 4,1+nx (ad z) (2-1+1),nx (ad (ad z)) 3,1+nx (ad (ad (ad (ad z)))) (2-1+1),1+nx (ad (ad (ad (ad (ad z))))) (2-1+1)⟩ by unfold TA;rw[zA4 V]]at I;rw[show N6 z=ad (ad (ad (ad (ad (ad (ad z)))))) by unfold N6;rw[zA4 V]]at hd
   (repeat' (first|refine aQ ?_|refine yW (λhc=>?_) λhc=>?_|(apply zG;apply xP;(first|(refine vH 68 ?_;first|refine wJ (zL (jP _ _ _ zB zB zB) Z Z Z Z Z) Z ?_|refine uX (zL (jP _ _ _ zB zB zB) Z Z Z Z Z) Z Z Z ?_|refine aK (zL (jP _ _ _ zB zB zB) Z Z Z Z Z) Z Z Z ?_)|(refine vH 16 ?_;first|refine wJ (zL (yS _ _ zB zB) Z Z Z Z Z) Z ?_|refine uX (zL (yS _ _ zB zB) Z Z Z Z Z) Z Z Z ?_|refine aK (zL (yS _ _ zB zB) Z Z Z Z Z) Z Z Z ?_)))|fail))
   exact⟨n-1,zB,i+1,zB,by rw[S,I,hd];rfl⟩
  .rw[show TA z (Y,p2)=⟨Y,p2,1+nx z (3-1+1),max (1+nx z (3-1+1)) (0+0)+nx (ad (ad (ad (ad z)))) 4,1+nx (ad z) (2-1+1),nx (ad (ad z)) 3,0,0⟩ by unfold TA;rw[Os V]]at I;rw[show N6 z=ad (ad (ad (ad (ad z)))) by unfold N6;rw[Os V]]at hd
   (repeat' (first|refine aQ ?_|refine yW (λhc=>?_) λhc=>?_|(apply zG;apply xP;(first|(refine vH 68 ?_;first|refine wJ (zL (jP _ _ _ zB zB zB) Z Z Z Z Z) Z ?_|refine uX (zL (jP _ _ _ zB zB zB) Z Z Z Z Z) Z Z Z ?_|refine aK (zL (jP _ _ _ zB zB zB) Z Z Z Z Z) Z Z Z ?_)|(refine vH 16 ?_;first|refine wJ (zL (yS _ _ zB zB) Z Z Z Z Z) Z ?_|refine uX (zL (yS _ _ zB zB) Z Z Z Z Z) Z Z Z ?_|refine aK (zL (yS _ _ zB zB) Z Z Z Z Z) Z Z Z ?_)))|fail))
   exact⟨n-1,zB,i+1,zB,by rw[S,I,hd];rfl⟩
 obtain rfl:i=ln l:=by omega
 have ag:jp.1.length=ln l:=by rw[ep];exact TB _ _ _
 rw[<-ep];clear ep ej ed sc M hi R;obtain⟨u,dj⟩:=jp;dsimp only at ag⊢;have O:(u.map xN).length=ln u:=by simp
 generalize nx (ad d) 3=W
 (repeat' (first|refine aQ ?_|refine yW (λhc=>?_) λhc=>?_|(apply zG;apply xP;(first|(refine vH 16 ?_;first|refine wJ (zL (yS _ _ zB zB) Z Z Z Z Z) Z ?_|refine uX (zL (yS _ _ zB zB) Z Z Z Z Z) Z Z Z ?_|refine aK (zL (yS _ _ zB zB) Z Z Z Z Z) Z Z Z ?_)))|fail))
 generalize nx dj 4=n4
 refine kW (st':=⟨[(0,.ptr 1000 0 0),(2,.ptr 2 0 0),(4,.ptr 4 0 0),(8,bA (n4==3)),(69,zE xN u),(70,iA (ln u)),(71,iA 0)],
   [(1000,fI (ad dj)),(2,.box [.s (.slice none 0 0),.s (.slice none 0 0),iA 0]),(4,.box [zE xN u,.s (.slice none 0 0),iA W])]⟩) [1000,2,4] [0,2,4,8,69,70,71] Z (by
  have e1:zE xN u= .sl false (List.take (u.map xN).length (List.drop 0 (u.map xN))):=by
   rw[zBr,zA8];rfl
  rw[e1,<-O]
  rfl) ?_
 generalize (n4==3)=A;generalize ad dj=dk;refine gJ 4 1 1002 1 Z Z Z Z Z ?_
 refine wQ (λn st=>∃i:Nat,n+i=ln u/\st=⟨[(0,.ptr 1000 0 0),(2,.ptr 2 0 0),(4,.ptr 4 0 0),(8,bA A),(69,zE xN u),(70,iA (ln u)),(71,iA i)],
   [(1000,fI dk),(2,.box [.s (.slice none 0 0),.s (.slice none 0 0),iA 0]),(4,.box [zE xN u,.ref 1002 0 ((fH u A i).map iA).length,iA W]),(1002,.arr 1 ((fH u A i).map iA) true)]⟩)
  (ln u) [1000,2,4,1002] [0,2,4,8,69,70,71] Z ⟨0,rfl,rfl⟩ ?_
 clear n;rintro n st ⟨i,hi,rfl⟩;by_cases R:i<ln u
 .have U:=yF xN u i zB zB;rw[show((i:Int)).toNat=i from Z]at U;have ht:(fH u A (i+1)).map iA=(fH u A i).map iA++[iA (XQ u A i (ln u))]:=by unfold fH;rw[zC6];simp
  have ar:(fH u A i).length=i:=by simp[fH]
  obtain⟨p,hp⟩:∃p,u.getD i dd=p:=⟨_,rfl⟩;rw[hp]at U;obtain⟨C,G⟩:∃r,fH u A i=r:=⟨_,rfl⟩;rw[G]at ht ar⊢
  (repeat' (first|refine aQ ?_|refine yW (λhc=>?_) λhc=>?_|fail))
  refine wQ (λn st=>∃k:Nat,n+k=ln u/\st=⟨[(0,.ptr 1000 0 0),(2,.ptr 2 0 0),(4,.ptr 4 0 0),(8,bA A),(9,iA i),(10,.ptr 10 0 0),(11,iA (XQ u A i k)),(69,zE xN u),(70,iA (ln u)),(71,iA i),(77,zE xN u),(78,iA (ln u)),(79,iA k)],
    [(1000,fI dk),(2,.box [.s (.slice none 0 0),.s (.slice none 0 0),iA 0]),(4,.box [zE xN u,.ref 1002 0 (C.map iA).length,iA W]),(10,.box [iA p.ring,iA p.group,iA p.ming,iA p.maxg,iA p.yel,iA p.red,iA p.walk,iA p.clear]),(1002,.arr 1 (C.map iA) true)]⟩)
   (ln u) [1000,2,4,10,1002] [0,2,4,8,9,10,11,69,70,71,77,78,79] Z ⟨0,rfl,by rw[<-O];rfl⟩ ?_
  rintro L st ⟨k,hk,rfl⟩;by_cases ax:k<ln u
  .have av:=yF xN u k zB zB;rw[show((k:Int)).toNat=k from Z]at av
   have B:XQ u A i (k+1)=if Lr u A i k=true then XQ u A i k+2 ^ k else XQ u A i k:=rfl
   have hc:Lr u A i k=(i != k&&(p.ring==(u.getD k dd).ring||p.group != (u.getD k dd).group||A&&((i:Int)+k).tmod 2==1)):=by rw[<-hp];rfl
   obtain⟨hw,au⟩:=zAm k zB;obtain⟨az,hr1⟩:=PY u A i k;have ap:0<=(2:Int) ^ k:=by omega
   rw[show(2:Int) ^ k=p2 k from Z]at B hr1 ap au;clear hw;generalize u.getD k dd=q at *;by_cases E:i=k
   .rw[Os (by rw[hc];simp[E])]at B;clear hc;subst E
    (repeat' (first|refine aQ ?_|refine yW (λhc=>?_) λhc=>?_|fail))
    exact⟨L-1,zB,i+1,zB,by rw[B];rfl⟩
   by_cases h1:p.ring=q.ring
   .rw[zA4 (by rw[hc];simp[E,h1])]at B;clear hc
    (repeat' (first|refine aQ ?_|refine yW (λhc=>?_) λhc=>?_|fail))
    exact⟨L-1,zB,k+1,zB,by rw[B];rfl⟩
   by_cases h2:p.group=q.group
   .cases A with
    |false=>
     rw[Os (by rw[hc];simp[E,h1,h2])]at B;clear hc
     (repeat' (first|refine aQ ?_|refine yW (λhc=>?_) λhc=>?_|fail))
     exact⟨L-1,zB,k+1,zB,by rw[B];rfl⟩
    | true=>
     by_cases h3:((i:Int)+k).tmod 2=1
     .rw[zA4 (by rw[hc];simp[E,h1,h2,h3])]at B;clear hc
      (repeat' (first|refine aQ ?_|refine yW (λhc=>?_) λhc=>?_|fail))
      exact⟨L-1,zB,k+1,zB,by rw[B];rfl⟩
     .rw[Os (by rw[hc];simp[E,h1,h2,h3])]at B;clear hc
      (repeat' (first|refine aQ ?_|refine yW (λhc=>?_) λhc=>?_|fail))
      exact⟨L-1,zB,k+1,zB,by rw[B];rfl⟩
   .rw[zA4 (by rw[hc];simp[E,h1,h2])]at B;clear hc
    (repeat' (first|refine aQ ?_|refine yW (λhc=>?_) λhc=>?_|fail))
    exact⟨L-1,zB,k+1,zB,by rw[B];rfl⟩
  .obtain rfl:k=ln u:=by omega
   have hr:=PY u A i (ln u)
   (repeat' (first|refine aQ ?_|refine yW (λhc=>?_) λhc=>?_|fail))
   exact⟨n-1,zB,i+1,zB,by rw[ht];rfl⟩
 obtain rfl:i=ln u:=by omega
 (repeat' (first|refine aQ ?_|refine yW (λhc=>?_) λhc=>?_|fail))
 exact zP [1000] Z Z (zBp (λx=>AV.agg [zE xN u,AV.sl false x,iA W]) zA8) Z
