/- Part 18. -/
import Derived.Test.YteajjdidebfcjaaGreatN17
namespace Go.Proofs.YteajjdidebfcjaaGreat
namespace Av
open Tryz
set_option linter.all false
set_option maxRecDepth 4000
set_option maxHeartbeats 4000000
def yAz (n:Int) (h:0<=n):uQ n 7=n/128:=by
 unfold uQ;rw[yEw _ xO];rfl
def P7:Nat->Int
 |0=>1
 |z+1=>128*P7 z
def hiB (n:Int):Int:=IntKind.u8.wrap ((BitVec.ofInt IntKind.u8.bits (IntKind.u8.wrap (fX n 127)) ||| BitVec.ofInt IntKind.u8.bits 128).toNat)
def vbN:Nat->Int->List Int
 |0,n=>[n]
 |z+1,n=>if 128<=n then hiB n::vbN z (n/128)else [n]
theorem GD:∀z n,(vbN z n).length<=z+1
 |0,n=>yBg _
 |z+1,n=>by
  unfold vbN;split
  ·have:=GD z (n/128);simp only[yBp];omega
  ·simp
def zRt (z:Nat) (n:Int) (h:n<128):vbN z n=[n]:=by
 cases z with
 |zero=>rfl
 |succ z=>unfold vbN;rw[yBc zB]
def TW (n:Int):List Int:=if 0<=n/\n<=4294967295 then vbN 5 n else []
def veF (n:Int):Int:=if 0<=n/\n<=4294967295 then 0 else 8
def bJ (n:Int):(TW n).length<=6:=by
 unfold TW;split
 ·exact GD 5 n
 ·simp
def GE (n:Int):zO 180 [iA n] [] (.tup [zD yA (TW n),iA (veF n)]) []:=by
 unfold TW veF;by_cases h1:0<=n
 case neg=>
  rw[yBc (λh=>h1 h.1),yBc (λh=>h1 h.1)];refine eM call180 λF hF=>?_
  refine WW ?_;exact zJ
 by_cases h2:n<=4294967295
 case neg=>
  rw[yBc (λh=>h2 h.2),yBc (λh=>h2 h.2)];refine eM call180 λF hF=>?_
  refine WW ?_;exact zJ
 rw[yBd ⟨h1,h2⟩,yBd ⟨h1,h2⟩];refine eM call180 λF hF=>?_
 refine WW ?_;refine uK 11 Z ?_;refine jF (5) [11] [] [] [0,4] Z (λzn T U zs=>∃(acc:List Int) (x:Int),(0<=x/\x<P7 zn*128/\acc++vbN zn x=vbN 5 n/\acc.length<=100)/\zs=⟨(0,iA x)::(4,.ref 11 0 (acc.map yA).length)::T,(11,.arr 1 (acc.map yA) true)::U⟩) ?_;(conv=>whnf);refine⟨?_,?_⟩
 ·exact⟨[],n,⟨h1,by show n<34359738368*128;omega,rfl,by simp⟩,rfl⟩
 ·rintro zn st ⟨acc,x,⟨b1,b2,b3,b4⟩,rfl⟩;have hla:=zA yA acc;by_cases hx:128<=x
  ·have hz:zn≠0:=λe=>by
    subst e;have:P7 0=1:=rfl;omega
   obtain⟨z,rfl⟩:∃z,zn=z+1:=⟨zn-1,zB⟩;have e:=yAz x b1;have hP:P7 (z+1)=128*P7 z:=rfl
   have e2:vbN (z+1) x=hiB x::vbN z (x/128):=by
    show(if 128<=x then _ else _)=_
    rw[yBd hx]
   rw[e2]at b3;have hm:(acc++[hiB x]).map yA=acc.map yA++[yA (hiB x)]:=by simp
   have hb5:acc++[hiB x]++vbN z (uQ x 7)=vbN 5 n:=by rw[e,yCa];exact b3
   have hx2:0<=uQ x 7/\uQ x 7<P7 z*128:=by rw[e];rw[hP]at b2;omega
   have hlc:acc.length+1<=100:=by
    have h6:=yB8 List.length b3;have h7:=GD 5 n;simp only[yBf,yBp]at h6;omega
   clear e2 b3 hP
   (repeat' (first|refine uC ?_|((first|apply xE|apply xV)<;>intro hc)|(refine zE ?_;first|(refine wO ?_;refine wK (HR Z Z) Z ?_))|fail))
   exact⟨z,zB,acc++[hiB x],uQ x 7,⟨hx2.1,hx2.2,hb5,by simpa using hlc⟩,by rw[hm];rfl⟩
  ·rw[zRt zn x zB]at b3;rw[<-b3];have hm:zD yA (acc++[x])= .sl false ((acc.map yA++[yA (x)]).take (acc.map yA++[yA (x)]).length):=by rw[yBj];unfold zD;rw[yBn];rfl
   rw[hm];refine WW ?_;exact zJ
structure Shp where
 t:Int
 f:Int
 g:Int
 lo:Int
 hi:Int
 da:Int
def YE (s:Shp):AV:= .agg [iA s.t,iA s.f,iA s.g,iA s.lo,iA s.hi,iA s.da]
structure yA0 (k:Int) (s:Shp) (ok:Bool):Prop where
 t:0<=s.t/\s.t<=10
 f:0<=s.f/\s.f<=4
 g:s.g=0∨s.g=2∨s.g=3∨s.g=4
 da: -1<=s.da/\s.da<=10
 k2:k=2->s=⟨10,3,0,0,0,0⟩/\ok=true
 k3:k=3->s=⟨10,1,0,0,0,0⟩/\ok=true
 k4:k=4->s=⟨10,2,0,0,0,0⟩/\ok=true
 k5:k=5->s=⟨10,1,0,0,0,0⟩/\ok=true
theorem zRu (k:Int):∃(s:Shp) (ok:Bool),yA0 k s ok/\zO 103 [iA k] [] (.tup [YE s,bA ok]) []:=by
 by_cases h1:k=1
 ·subst h1;refine⟨⟨10,0,0,0,0,0⟩,true,⟨by decide,by decide,by decide,by decide,λh=>absurd h zB,λh=>absurd h zB,λh=>absurd h zB,λh=>absurd h zB⟩,?_⟩;unfold YE;refine eM call103 λF hF=>?_
  refine WW ?_;exact zJ
 by_cases h2:k=2
 ·subst h2;refine⟨⟨10,3,0,0,0,0⟩,true,⟨by decide,by decide,by decide,by decide,λ_=>⟨rfl,rfl⟩,λh=>absurd h zB,λh=>absurd h zB,λh=>absurd h zB⟩,?_⟩;unfold YE;refine eM call103 λF hF=>?_
  refine WW ?_;exact zJ
 by_cases h3:k=3
 ·subst h3;refine⟨⟨10,1,0,0,0,0⟩,true,⟨by decide,by decide,by decide,by decide,λh=>absurd h zB,λ_=>⟨rfl,rfl⟩,λh=>absurd h zB,λh=>absurd h zB⟩,?_⟩;unfold YE;refine eM call103 λF hF=>?_
  refine WW ?_;exact zJ
 by_cases h4:k=4
 ·subst h4;refine⟨⟨10,2,0,0,0,0⟩,true,⟨by decide,by decide,by decide,by decide,λh=>absurd h zB,λh=>absurd h zB,λ_=>⟨rfl,rfl⟩,λh=>absurd h zB⟩,?_⟩;unfold YE;refine eM call103 λF hF=>?_
  refine WW ?_;exact zJ
 by_cases h5:k=5
 ·subst h5;refine⟨⟨10,1,0,0,0,0⟩,true,⟨by decide,by decide,by decide,by decide,λh=>absurd h zB,λh=>absurd h zB,λh=>absurd h zB,λ_=>⟨rfl,rfl⟩⟩,?_⟩;unfold YE;refine eM call103 λF hF=>?_
  refine WW ?_;exact zJ
 by_cases h6:k=6
 ·subst h6;refine⟨⟨10,3,4,1,3,0⟩,true,⟨by decide,by decide,by decide,by decide,λh=>absurd h zB,λh=>absurd h zB,λh=>absurd h zB,λh=>absurd h zB⟩,?_⟩;unfold YE;refine eM call103 λF hF=>?_
  refine WW ?_;exact zJ
 by_cases h7:k=7
 ·subst h7;refine⟨⟨10,1,2,1,3,0⟩,true,⟨by decide,by decide,by decide,by decide,λh=>absurd h zB,λh=>absurd h zB,λh=>absurd h zB,λh=>absurd h zB⟩,?_⟩;unfold YE;refine eM call103 λF hF=>?_
  refine WW ?_;exact zJ
 by_cases h8:k=8
 ·subst h8;refine⟨⟨10,1,0,0,0,0⟩,true,⟨by decide,by decide,by decide,by decide,λh=>absurd h zB,λh=>absurd h zB,λh=>absurd h zB,λh=>absurd h zB⟩,?_⟩;unfold YE;refine eM call103 λF hF=>?_
  refine WW ?_;exact zJ
 by_cases h9:k=9
 ·subst h9;refine⟨⟨10,0,0,0,0,0⟩,true,⟨by decide,by decide,by decide,by decide,λh=>absurd h zB,λh=>absurd h zB,λh=>absurd h zB,λh=>absurd h zB⟩,?_⟩;unfold YE;refine eM call103 λF hF=>?_
  refine WW ?_;exact zJ
 by_cases h10:k=10
 ·subst h10;refine⟨⟨10,1,0,0,0,0⟩,true,⟨by decide,by decide,by decide,by decide,λh=>absurd h zB,λh=>absurd h zB,λh=>absurd h zB,λh=>absurd h zB⟩,?_⟩;unfold YE;refine eM call103 λF hF=>?_
  refine WW ?_;exact zJ
 by_cases h11:k=11
 ·subst h11;refine⟨⟨10,1,0,0,0,0⟩,true,⟨by decide,by decide,by decide,by decide,λh=>absurd h zB,λh=>absurd h zB,λh=>absurd h zB,λh=>absurd h zB⟩,?_⟩;unfold YE;refine eM call103 λF hF=>?_
  refine WW ?_;exact zJ
 by_cases h12:k=12
 ·subst h12;refine⟨⟨10,0,0,0,0,0⟩,true,⟨by decide,by decide,by decide,by decide,λh=>absurd h zB,λh=>absurd h zB,λh=>absurd h zB,λh=>absurd h zB⟩,?_⟩;unfold YE;refine eM call103 λF hF=>?_
  refine WW ?_;exact zJ
 by_cases h13:k=13
 ·subst h13;refine⟨⟨0,2,0,0,0,0⟩,true,⟨by decide,by decide,by decide,by decide,λh=>absurd h zB,λh=>absurd h zB,λh=>absurd h zB,λh=>absurd h zB⟩,?_⟩;unfold YE;refine eM call103 λF hF=>?_
  refine WW ?_;exact zJ
 by_cases h14:k=14
 ·subst h14;refine⟨⟨0,2,0,0,0,0⟩,true,⟨by decide,by decide,by decide,by decide,λh=>absurd h zB,λh=>absurd h zB,λh=>absurd h zB,λh=>absurd h zB⟩,?_⟩;unfold YE;refine eM call103 λF hF=>?_
  refine WW ?_;exact zJ
 by_cases h15:k=15
 ·subst h15;refine⟨⟨0,2,0,0,0,0⟩,true,⟨by decide,by decide,by decide,by decide,λh=>absurd h zB,λh=>absurd h zB,λh=>absurd h zB,λh=>absurd h zB⟩,?_⟩;unfold YE;refine eM call103 λF hF=>?_
  refine WW ?_;exact zJ
 by_cases h16:k=16
 ·subst h16;refine⟨⟨0,1,0,0,0,10⟩,true,⟨by decide,by decide,by decide,by decide,λh=>absurd h zB,λh=>absurd h zB,λh=>absurd h zB,λh=>absurd h zB⟩,?_⟩;unfold YE;refine eM call103 λF hF=>?_
  refine WW ?_;exact zJ
 by_cases h17:k=17
 ·subst h17;refine⟨⟨0,1,0,0,0,-1⟩,true,⟨by decide,by decide,by decide,by decide,λh=>absurd h zB,λh=>absurd h zB,λh=>absurd h zB,λh=>absurd h zB⟩,?_⟩;unfold YE;refine eM call103 λF hF=>?_
  refine WW ?_;exact zJ
 by_cases h18:k=18
 ·subst h18;refine⟨⟨0,1,3,0,16,0⟩,true,⟨by decide,by decide,by decide,by decide,λh=>absurd h zB,λh=>absurd h zB,λh=>absurd h zB,λh=>absurd h zB⟩,?_⟩;unfold YE;refine eM call103 λF hF=>?_
  refine WW ?_;exact zJ
 by_cases h19:k=19
 ·subst h19;refine⟨⟨0,0,2,0,4,0⟩,true,⟨by decide,by decide,by decide,by decide,λh=>absurd h zB,λh=>absurd h zB,λh=>absurd h zB,λh=>absurd h zB⟩,?_⟩;unfold YE;refine eM call103 λF hF=>?_
  refine WW ?_;exact zJ
 by_cases h20:k=20
 ·subst h20;refine⟨⟨0,4,0,0,0,0⟩,true,⟨by decide,by decide,by decide,by decide,λh=>absurd h zB,λh=>absurd h zB,λh=>absurd h zB,λh=>absurd h zB⟩,?_⟩;unfold YE;refine eM call103 λF hF=>?_
  refine WW ?_;exact zJ
 by_cases h21:k=21
 ·subst h21;refine⟨⟨0,1,0,0,0,-1⟩,true,⟨by decide,by decide,by decide,by decide,λh=>absurd h zB,λh=>absurd h zB,λh=>absurd h zB,λh=>absurd h zB⟩,?_⟩;unfold YE;refine eM call103 λF hF=>?_
  refine WW ?_;exact zJ
 by_cases h22:k=22
 ·subst h22;refine⟨⟨0,1,0,0,0,0⟩,true,⟨by decide,by decide,by decide,by decide,λh=>absurd h zB,λh=>absurd h zB,λh=>absurd h zB,λh=>absurd h zB⟩,?_⟩;unfold YE;refine eM call103 λF hF=>?_
  refine WW ?_;exact zJ
 refine⟨⟨0,0,0,0,0,0⟩,false,⟨by decide,by decide,by decide,by decide,λh=>absurd h h2,λh=>absurd h h3,λh=>absurd h h4,λh=>absurd h h5⟩,?_⟩;unfold YE;refine eM call103 λF hF=>?_
 refine WW ?_;exact zJ
theorem zM8 (s:Shp) (hg:s.g=0∨s.g=2∨s.g=3∨s.g=4) (hf:0<=s.f/\s.f<=4) (n:Int) (hn:0<=n/\n<=1000000):∃(gr:Int) (ok:Bool),(-1000000<=gr/\gr<=1000000)/\(s.g=0->gr=0/\ok=decide (n=s.f))/\zO 179 [YE s,iA n] [] (.tup [iA gr,bA ok]) []:=by
 obtain⟨t,f,g,lo,hi,da⟩:=s;dsimp only at *;rw[show YE ⟨t,f,g,lo,hi,da⟩= .agg [iA t,iA f,iA g,iA lo,iA hi,iA da]from Z]
 rcases hg with rfl|rfl|rfl|rfl
 ·by_cases h:n=f
  ·refine⟨0,true,zB,λ_=>⟨rfl,(yBk h).symm⟩,?_⟩;refine eM call179 λF hF=>?_
   refine WW ?_;exact zJ
  ·refine⟨0,false,zB,λ_=>⟨rfl,(yBm h).symm⟩,?_⟩;refine eM call179 λF hF=>?_
   refine WW ?_;exact zJ
 ·by_cases h1:n-f<0
  ·refine⟨0,false,zB,λh=>absurd h xO,?_⟩;refine eM call179 λF hF=>?_
   refine WW ?_;exact zJ
  have hb:0<=(n-f).tdiv 2/\(n-f).tdiv 2<=1000000:=by
   rw[yC5 zB];omega
  have hq:aA .i64 ((n-f).tdiv 2):=by
   unfold aA;have e1:IntKind.i64.min= -9223372036854775808:=by decide
   have e2:IntKind.i64.max=9223372036854775807:=by decide
   omega
  by_cases h2:(n-f).tmod 2=0
  case neg=>
   refine⟨0,false,zB,λh=>absurd h xO,?_⟩;refine eM call179 λF hF=>?_
   refine WW ?_;exact zJ
  generalize hm:(n-f).tmod 2=m at *;by_cases h3:lo<=(n-f).tdiv 2
  case neg=>
   refine⟨(n-f).tdiv 2,false,zB,λh=>absurd h xO,?_⟩;subst hm;refine eM call179 λF hF=>?_
   refine WW ?_;exact zJ
  by_cases h4:(n-f).tdiv 2<=hi
  ·refine⟨(n-f).tdiv 2,true,zB,λh=>absurd h xO,?_⟩;subst hm;refine eM call179 λF hF=>?_
   refine WW ?_;exact zJ
  ·refine⟨(n-f).tdiv 2,false,zB,λh=>absurd h xO,?_⟩;subst hm;refine eM call179 λF hF=>?_
   refine WW ?_;exact zJ
 ·by_cases h1:n-f<0
  ·refine⟨0,false,zB,λh=>absurd h xO,?_⟩;refine eM call179 λF hF=>?_
   refine WW ?_;exact zJ
  have hb:0<=(n-f).tdiv 3/\(n-f).tdiv 3<=1000000:=by
   rw[yC5 zB];omega
  have hq:aA .i64 ((n-f).tdiv 3):=by
   unfold aA;have e1:IntKind.i64.min= -9223372036854775808:=by decide
   have e2:IntKind.i64.max=9223372036854775807:=by decide
   omega
  by_cases h2:(n-f).tmod 3=0
  case neg=>
   refine⟨0,false,zB,λh=>absurd h xO,?_⟩;refine eM call179 λF hF=>?_
   refine WW ?_;exact zJ
  generalize hm:(n-f).tmod 3=m at *;by_cases h3:lo<=(n-f).tdiv 3
  case neg=>
   refine⟨(n-f).tdiv 3,false,zB,λh=>absurd h xO,?_⟩;subst hm;refine eM call179 λF hF=>?_
   refine WW ?_;exact zJ
  by_cases h4:(n-f).tdiv 3<=hi
  ·refine⟨(n-f).tdiv 3,true,zB,λh=>absurd h xO,?_⟩;subst hm;refine eM call179 λF hF=>?_
   refine WW ?_;exact zJ
  ·refine⟨(n-f).tdiv 3,false,zB,λh=>absurd h xO,?_⟩;subst hm;refine eM call179 λF hF=>?_
   refine WW ?_;exact zJ
 ·by_cases h1:n-f<0
  ·refine⟨0,false,zB,λh=>absurd h xO,?_⟩;refine eM call179 λF hF=>?_
   refine WW ?_;exact zJ
  have hb:0<=(n-f).tdiv 4/\(n-f).tdiv 4<=1000000:=by
   rw[yC5 zB];omega
  have hq:aA .i64 ((n-f).tdiv 4):=by
   unfold aA;have e1:IntKind.i64.min= -9223372036854775808:=by decide
   have e2:IntKind.i64.max=9223372036854775807:=by decide
   omega
  by_cases h2:(n-f).tmod 4=0
  case neg=>
   refine⟨0,false,zB,λh=>absurd h xO,?_⟩;refine eM call179 λF hF=>?_
   refine WW ?_;exact zJ
  generalize hm:(n-f).tmod 4=m at *;by_cases h3:lo<=(n-f).tdiv 4
  case neg=>
   refine⟨(n-f).tdiv 4,false,zB,λh=>absurd h xO,?_⟩;subst hm;refine eM call179 λF hF=>?_
   refine WW ?_;exact zJ
  by_cases h4:(n-f).tdiv 4<=hi
  ·refine⟨(n-f).tdiv 4,true,zB,λh=>absurd h xO,?_⟩;subst hm;refine eM call179 λF hF=>?_
   refine WW ?_;exact zJ
  ·refine⟨(n-f).tdiv 4,false,zB,λh=>absurd h xO,?_⟩;subst hm;refine eM call179 λF hF=>?_
   refine WW ?_;exact zJ
def RB (l:List Int) (hl:l.length<=1073741824):zO 66 [zD yA l] [] (.ref 1001 0 (l.map yA).length) [(1001,.arr 1 (l.map yA) false)]:=by
 have hll:=zA yA l;refine eM call66 λF hF=>?_
 refine yY 0 Z (λcap hx=>?_) ?_
 ·have:l=[]:=by simpa using hx
  subst this
  (repeat' (first|refine WZN ?_|((first|apply xE|apply xV)<;>intro hc)|fail))
  refine uL 2 1001 1 Z Z Z (yZ ?_);exact zK [1001] Z Z Z Z
 ·repeat' (first|(refine zE ?_;first|refine vV tok Z Z ?_|(refine wO ?_;refine wK (xK tok (.inl ⟨rfl,rfl⟩) Z Z Z Z) Z ?_)|(refine yR ?_;refine qA (nw:=[1001]) (yJ tok 1001 (xs:=[]) Z Z Z Z Z Z Z Z Z) Z Z Z ?_)|(refine yM ?_;refine wJ tok Z Z Z Z Z Z Z (yV _ _ (λ_=>rfl)) Z Z Z zB Z ?_)|refine qR ?_)|(first|refine xT ?_|refine xI ?_|refine vJ Z ?_|refine zZ Z ?_|refine zV Z ?_|refine xQ Z (λhc=>?_) λhc=>?_|refine xD ?_|refine yZ ?_|refine xJ ?_|refine yX ?_))
  exact zK [1001] Z Z Z Z
def nmB (n:Int):Bool:=decide (0<=n/\n<=4294967295)
def zEh (n:Int):veF n=if nmB n=true then 0 else 8:=by
 unfold veF nmB;by_cases h:0<=n/\n<=4294967295
 ·rw[yBd h,yBk h,yBd Z]
 ·rw[yBc h,yBm h,yBc yBw]
def pyN (s:Shp) (gr:Int) (tok args:List Int):Nat->List Int
 |0=>tok
 |i+1=>(if(i:Int)=s.f/\0<s.g then pyN s gr tok args i++TW gr else pyN s gr tok args i)++TW (args.getD i default)
def pyG (s:Shp) (gr:Int) (tok args:List Int) (i:Nat):List Int:=if(i:Int)=s.f/\0<s.g then pyN s gr tok args i++TW gr else pyN s gr tok args i
theorem GF (s:Shp) (gr:Int) (tok args:List Int):∀i,(pyN s gr tok args i).length<=tok.length+12*i
 |0=>by show tok.length<=_;omega
 |i+1=>by
  have:=GF s gr tok args i;have h1:=bJ gr;have h2:=bJ (args.getD i default);unfold pyN
  split<;>simp only[yBf]<;>omega
def zRv (s:Shp) (gr:Int) (tok args:List Int) (i:Nat):(pyG s gr tok args i).length<=tok.length+12*i+6:=by
 have:=GF s gr tok args i;have h1:=bJ gr;unfold pyG
 split<;>(try simp only[yBf])<;>omega
theorem zM9 (args:List Int):∀n,n<=args.length->(∃k,k<n/\nmB (args.getD k default)=false/\∀i,i<k->nmB (args.getD i default)=true)∨(∀i,i<n->nmB (args.getD i default)=true)
 |0,_=> .inr λi hi=>absurd hi (yDp _)
 | n+1,hn=>by
  rcases zM9 args n zB with⟨k,h1,h2,h3⟩|h
  ·exact .inl ⟨k,zB,h2,h3⟩
  ·cases hb:nmB (args.getD n default)with
   |true=>
    refine .inr λi hi=>?_
    by_cases e:i=n
    ·subst e;exact hb
    ·exact h i zB
   |false=>exact .inl ⟨n,zB,hb,h⟩
structure MsB (m:Ms):Prop where
 t:m.tok.length<=1000
 a:m.args.length<=1000
 d:m.data.length<=1000
theorem zNa (m:Ms) (hm:MsB m):∃(xs:List AV) (e:Int),(e=0∨e=6)/\zO 134 [yB m] [] (.tup [.sl false xs,iA e]) []/\(∀f:Nat,(m.kind=2/\f=3)∨(m.kind=3/\f=1)∨(m.kind=4/\f=2)∨(m.kind=5/\f=1)->(e=0↔(m.tok.length=10/\m.data=[]/\m.args.length=f/\∀i,i<f->nmB (m.args.getD i default)=true))):=by
 obtain⟨s,ok,hs,c1⟩:=zRu m.kind;obtain⟨gr,ok2,hgr,hg0,c2⟩:=zM8 s hs.g hs.f ((m.args.map iA).length:Int) (by have:=hm.a;simp;omega);have c3:=RB m.tok (by have:=hm.t;omega);have b1:=hm.t;have b2:=hm.a;have b3:=hm.d;have hlt:=zA yA m.tok;have hla:=zA iA m.args;have hld:=zA yA m.data
 have hq:∀f:Nat,(m.kind=2/\f=3)∨(m.kind=3/\f=1)∨(m.kind=4/\f=2)∨(m.kind=5/\f=1)->s.t=10/\s.f=f/\s.g=0/\s.da=0/\ok=true:=λf hf=>by
  rcases hf with⟨h,rfl⟩|⟨h,rfl⟩|⟨h,rfl⟩|⟨h,rfl⟩
  ·obtain⟨e1,e2⟩:=hs.k2 h;subst e1;exact⟨rfl,rfl,rfl,rfl,e2⟩
  ·obtain⟨e1,e2⟩:=hs.k3 h;subst e1;exact⟨rfl,rfl,rfl,rfl,e2⟩
  ·obtain⟨e1,e2⟩:=hs.k4 h;subst e1;exact⟨rfl,rfl,rfl,rfl,e2⟩
  ·obtain⟨e1,e2⟩:=hs.k5 h;subst e1;exact⟨rfl,rfl,rfl,rfl,e2⟩
 have hst:=hs.t;have hsf:=hs.f;have hsg:=hs.g;have hsd:=hs.da;clear hs;obtain⟨mk,tk,ar,da⟩:=m;dsimp only at *;rw[show yB ⟨mk,tk,ar,da⟩= .agg [iA mk,zD yA tk,zD iA ar,zD yA da]from Z];have hpl:=GF s gr tk ar;have hpg:=zRv s gr tk ar;have hp0:pyN s gr tk ar 0=tk:=rfl
 have hpG:∀i:Nat,pyG s gr tk ar i=if(i:Int)=s.f/\0<s.g then pyN s gr tk ar i++TW gr else pyN s gr tk ar i:=λ_=>rfl
 have hpS:∀i:Nat,pyN s gr tk ar (i+1)=pyG s gr tk ar i++TW (ar.getD i default):=λ_=>rfl
 generalize pyG s gr tk ar=pg at *;generalize pyN s gr tk ar=py at *;obtain⟨st,sf,sg,slo,shi,sda⟩:=s;dsimp only at *;rw[show YE ⟨st,sf,sg,slo,shi,sda⟩= .agg [iA st,iA sf,iA sg,iA slo,iA shi,iA sda]from Z]at*
 cases ok with
 |false=>
  refine⟨[],6,.inr Z,?_,λf hf=>⟨λh=>absurd h xO,λh=>absurd (hq f hf).2.2.2.2 xO⟩⟩;clear hpl hpg hpG hpS hq;refine eM call134 λF hF=>?_
  refine zW c1 ?_;exact zJ
 |true=>
 by_cases h1:(tk.length:Int)=st
 case neg=>
  refine⟨[],6,.inr Z,?_,λf hf=>⟨λh=>absurd h xO,λh=>absurd (show(tk.length:Int)=st by have:=(hq f hf).1;omega) h1⟩⟩;clear hpl hpg hpG hpS hq;refine eM call134 λF hF=>?_
  refine zW c1 ?_;exact zJ
 by_cases h2:sda= -1∨(da.length:Int)=sda
 case neg=>
  have h2a:¬sda= -1:=λh=>h2 (.inl h)
  have h2b:¬(da.length:Int)=sda:=λh=>h2 (.inr h)
  refine⟨[],6,.inr Z,?_,λf hf=>⟨λh=>absurd h xO,λh=>absurd (show(da.length:Int)=sda by have:=(hq f hf).2.2.2.1;rw[h.2.1];simp;omega) h2b⟩⟩;clear hpl hpg hpG hpS hq h2;refine eM call134 λF hF=>?_
  refine zW c1 ?_;exact zJ
 cases ok2 with
 | false=>
  refine⟨[],6,.inr Z,?_,λf hf=>⟨λh=>absurd h xO,λh=>?_⟩⟩
  case refine_2=>
   obtain⟨q1,q2,q3,q4,_⟩:=hq f hf;have h5:=(hg0 q3).2;rw[yBk (show((ar.map iA).length:Int)=sf by omega)]at h5;cases h5
  clear hpl hpg hpG hpS hq
  rcases h2 with h2|h2
  ·(refine eM call134 λF hF=>?_)
   refine yS (vH c1 c2) ?_;exact zJ
  ·(refine eM call134 λF hF=>?_)
   refine yS (vH c1 c2) ?_;exact zJ
 |true=>
 by_cases h3:(da.length:Int)<=200
 case neg=>
  refine⟨[],6,.inr Z,?_,λf hf=>⟨λh=>absurd h xO,λh=>absurd (show(da.length:Int)<=200 by rw[h.2.1];simp) h3⟩⟩;clear hpl hpg hpG hpS hq
  rcases h2 with h2|h2
  ·(refine eM call134 λF hF=>?_)
   refine yS (vH c1 c2) ?_;exact zJ
  ·(refine eM call134 λF hF=>?_)
   refine yS (vH c1 c2) ?_;exact zJ
 have cg:=GE gr;have hlg:=zA yA (TW gr);have hvg:=bJ gr
 rcases zM9 ar ar.length (yBg _)with⟨k,hk1,hk2,hk3⟩|hall
 ·refine⟨[],6,.inr Z,?_,λf hf=>⟨λh=>absurd h xO,λh=>?_⟩⟩
  case refine_2=>
   have:=h.2.2.2 k zB;rw[hk2]at this;cases this
  clear hq hg0;have hinv:∀i,i<k->veF (ar.getD i default)=0:=λi hi=>by rw[zEh,hk3 i hi,yBd Z]
  have hinv2:veF (ar.getD k default)=8:=by rw[zEh,hk2,yBc yBw]
  clear hk2 hk3
  rcases h2 with h2|h2
  all_goals
   refine eM call134 λF hF=>?_
   refine yS (gW c1 c2 c3) ?_
  all_goals
   refine uK 1001 Z ?_;refine xR (ar.length+1) [1001,1,4] [1,4] [1,4,6,64] [7,65,1,4,6,64] Z (λi T U zs=>(i<=k)/\zs=⟨(7,.ref 1001 0 ((py i).map yA).length)::(65,iA i)::T,(1001,.arr 1 ((py i).map yA) true)::U⟩) ?_;(conv=>whnf);refine⟨?_,?_,?_⟩
   ·refine⟨yBt _,?_⟩;rw[hp0];rfl
   ·rintro i st' hi ⟨hik,rfl⟩;have cv:=GE (ar.getD i default);have hy:=zM iA ar i zB;have hbl:=hpl i;have hb2:=hpg i;have hg:=hpG i;have hS:=hpS i;have hlp:=zA yA (py i);have hlv:=zA yA (TW (ar.getD i default));have hvv:=bJ (ar.getD i default)
    have hve:(i<k/\veF (ar.getD i default)=0)∨(i=k/\veF (ar.getD i default)=8):=by
     by_cases e:i=k
     ·subst e;exact .inr ⟨rfl,hinv2⟩
     ·exact .inl ⟨zB,hinv i zB⟩
    have hmS:(py (i+1)).map yA=(pg i).map yA++(TW (ar.getD i default)).map yA:=by rw[hS,yBn]
    have hmG:(pg i).map yA=if(i:Int)=sf/\0<sg then(py i).map yA++(TW gr).map yA else(py i).map yA:=by
     rw[hg];split
     ·rw[yBn]
     ·rfl
    rw[hmS];clear hS hg hpl hpg hpG hpS hp0 hmS c1 c2 c3 hinv hinv2;generalize (py i).map yA=A at *;generalize (pg i).map yA=B at *;generalize TW (ar.getD i default)=V at *;generalize veF (ar.getD i default)=ve at *;generalize ar.getD i default=a at *;generalize TW gr=W at *;by_cases hi1:(i:Int)=sf
    ·by_cases hi2:0<sg
     ·rw[yBd ⟨hi1,hi2⟩]at hmG;subst hmG
      rcases hve with⟨hv1,rfl⟩|⟨hv1,rfl⟩
      ·(refine yS (vH cg cv) ?_)
       exact⟨zB,rfl⟩
      ·(refine yS (vH cg cv) ?_)
       exact zJ
     ·rw[yBc (λh=>hi2 h.2)]at hmG;subst hmG
      rcases hve with⟨hv1,rfl⟩|⟨hv1,rfl⟩
      ·(refine zW cv ?_)
       exact⟨zB,rfl⟩
      ·(refine zW cv ?_)
       exact zJ
    ·rw[yBc (λh=>hi1 h.1)]at hmG;subst hmG
     rcases hve with⟨hv1,rfl⟩|⟨hv1,rfl⟩
     ·(refine zW cv ?_)
      exact⟨zB,rfl⟩
     ·(refine zW cv ?_)
      exact zJ
   ·rintro st' ⟨hik,rfl⟩;exfalso;omega
 ·have hgl:=hpg ar.length;by_cases hz:((pg ar.length).map yA++da.map yA).length<=200
  case neg=>
   refine⟨[],6,.inr Z,?_,λf hf=>⟨λh=>absurd h xO,λh=>?_⟩⟩
   case refine_2=>
    exfalso;apply hz;have e1:=h.1;have e2:=h.2.1;have e3:=h.2.2.1;have e4:f<=3:=by omega
    rw[yBf,yBe,yBe,e2];simp only[yCr];omega
   clear hq hg0;have hinv:∀i,i<ar.length->veF (ar.getD i default)=0:=λi hi=>by rw[zEh,hall i hi,yBd Z]
   clear hall
   rcases h2 with h2|h2
   all_goals
    refine eM call134 λF hF=>?_
    refine yS (gW c1 c2 c3) ?_
   all_goals
    refine uK 1001 Z ?_;refine xR (ar.length+1) [1001,1,4] [1,4] [1,4,6,64] [7,65,1,4,6,64] Z (λi T U zs=>(i<=ar.length)/\zs=⟨(7,.ref 1001 0 ((py i).map yA).length)::(65,iA i)::T,(1001,.arr 1 ((py i).map yA) true)::U⟩) ?_;(conv=>whnf);refine⟨?_,?_,?_⟩
    ·refine⟨yBt _,?_⟩;rw[hp0];rfl
    ·rintro i st' hi ⟨hik,rfl⟩;have hbl:=hpl i;have hb2:=hpg i;have hg:=hpG i;have hlp:=zA yA (py i);have hlP:=zA yA (pg i)
     have hmG:(pg i).map yA=if(i:Int)=sf/\0<sg then(py i).map yA++(TW gr).map yA else(py i).map yA:=by
      rw[hg];split
      ·rw[yBn]
      ·rfl
     by_cases hie:i=ar.length
     ·subst hie;clear hpS hg hpl hpg hpG hp0 c1 c2 c3 hinv;generalize (py ar.length).map yA=A at *;generalize (pg ar.length).map yA=B at *;generalize TW gr=W at *;by_cases hi1:(ar.length:Int)=sf
      ·by_cases hi2:0<sg
       ·rw[yBd ⟨hi1,hi2⟩]at hmG;subst hmG;refine zW cg ?_;exact zJ
       ·rw[yBc (λh=>hi2 h.2)]at hmG;subst hmG;refine WW ?_;exact zJ
      ·rw[yBc (λh=>hi1 h.1)]at hmG;subst hmG;refine WW ?_;exact zJ
     have cv:=GE (ar.getD i default);rw[hinv i zB]at cv;have hy:=zM iA ar i zB;have hS:=hpS i;have hlv:=zA yA (TW (ar.getD i default));have hvv:=bJ (ar.getD i default);have hmS:(py (i+1)).map yA=(pg i).map yA++(TW (ar.getD i default)).map yA:=by rw[hS,yBn]
     rw[hmS];clear hS hg hpl hpg hpG hpS hp0 hmS c1 c2 c3 hinv hz hgl;generalize (pg ar.length).map yA=E at *;generalize (py i).map yA=A at *;generalize (pg i).map yA=B at *;generalize TW (ar.getD i default)=V at *;generalize ar.getD i default=a at *;generalize TW gr=W at *;by_cases hi1:(i:Int)=sf
     ·by_cases hi2:0<sg
      ·rw[yBd ⟨hi1,hi2⟩]at hmG;subst hmG;refine yS (vH cg cv) ?_;exact⟨zB,rfl⟩
      ·rw[yBc (λh=>hi2 h.2)]at hmG;subst hmG;refine zW cv ?_;exact⟨zB,rfl⟩
     ·rw[yBc (λh=>hi1 h.1)]at hmG;subst hmG;refine zW cv ?_;exact⟨zB,rfl⟩
    ·rintro st' ⟨hik,rfl⟩;exfalso;omega
  refine⟨((pg ar.length).map yA++da.map yA).take ((pg ar.length).map yA++da.map yA).length,0,.inl Z,?_,λf hf=>⟨λ_=>?_,λ_=>rfl⟩⟩
  case refine_2=>
   obtain⟨q1,q2,q3,q4,_⟩:=hq f hf;have h5:=yFh (hg0 q3).2.symm;refine⟨zB,yCb zB,zB,λi hi=>hall i zB⟩
  clear hq hg0;have hinv:∀i,i<ar.length->veF (ar.getD i default)=0:=λi hi=>by rw[zEh,hall i hi,yBd Z]
  clear hall
  rcases h2 with h2|h2
  all_goals
   refine eM call134 λF hF=>?_
   refine yS (gW c1 c2 c3) ?_
  all_goals
   refine uK 1001 Z ?_;refine xR (ar.length+1) [1001,1,4] [1,4] [1,4,6,64] [7,65,1,4,6,64] Z (λi T U zs=>(i<=ar.length)/\zs=⟨(7,.ref 1001 0 ((py i).map yA).length)::(65,iA i)::T,(1001,.arr 1 ((py i).map yA) true)::U⟩) ?_;(conv=>whnf);refine⟨?_,?_,?_⟩
   ·refine⟨yBt _,?_⟩;rw[hp0];rfl
   ·rintro i st' hi ⟨hik,rfl⟩;have hbl:=hpl i;have hb2:=hpg i;have hg:=hpG i;have hlp:=zA yA (py i);have hlP:=zA yA (pg i)
    have hmG:(pg i).map yA=if(i:Int)=sf/\0<sg then(py i).map yA++(TW gr).map yA else(py i).map yA:=by
     rw[hg];split
     ·rw[yBn]
     ·rfl
    by_cases hie:i=ar.length
    ·subst hie;clear hpS hg hpl hpg hpG hp0 c1 c2 c3 hinv;generalize (py ar.length).map yA=A at *;generalize (pg ar.length).map yA=B at *;generalize TW gr=W at *;by_cases hi1:(ar.length:Int)=sf
     ·by_cases hi2:0<sg
      ·rw[yBd ⟨hi1,hi2⟩]at hmG;subst hmG;refine zW cg ?_;exact zJ
      ·rw[yBc (λh=>hi2 h.2)]at hmG;subst hmG;refine WW ?_;exact zJ
     ·rw[yBc (λh=>hi1 h.1)]at hmG;subst hmG;refine WW ?_;exact zJ
    have cv:=GE (ar.getD i default);rw[hinv i zB]at cv;have hy:=zM iA ar i zB;have hS:=hpS i;have hlv:=zA yA (TW (ar.getD i default));have hvv:=bJ (ar.getD i default);have hmS:(py (i+1)).map yA=(pg i).map yA++(TW (ar.getD i default)).map yA:=by rw[hS,yBn]
    rw[hmS];clear hS hg hpl hpg hpG hpS hp0 hmS c1 c2 c3 hinv hz hgl;generalize (pg ar.length).map yA=E at *;generalize (py i).map yA=A at *;generalize (pg i).map yA=B at *;generalize TW (ar.getD i default)=V at *;generalize ar.getD i default=a at *;generalize TW gr=W at *;by_cases hi1:(i:Int)=sf
    ·by_cases hi2:0<sg
     ·rw[yBd ⟨hi1,hi2⟩]at hmG;subst hmG;refine yS (vH cg cv) ?_;exact⟨zB,rfl⟩
     ·rw[yBc (λh=>hi2 h.2)]at hmG;subst hmG;refine zW cv ?_;exact⟨zB,rfl⟩
    ·rw[yBc (λh=>hi1 h.1)]at hmG;subst hmG;refine zW cv ?_;exact⟨zB,rfl⟩
   ·rintro st' ⟨hik,rfl⟩;exfalso;omega
def kdP (k:Int) (f:Nat):Prop:=(k=2/\f=3)∨(k=3/\f=1)∨(k=4/\f=2)∨(k=5/\f=1)
def mvP (m:Ms) (f:Nat):Prop:=m.tok.length=10/\m.data=[]/\m.args.length=f/\∀i,i<f->nmB (m.args.getD i default)=true
def zNb (m:Ms) (hm:MsB m):∃b:Bool,zO 195 [yB m] [] (bA b) []/\∀f,kdP m.kind f->(b=true↔mvP m f):=by
 obtain⟨xs,e,he,c,h⟩:=zNa m hm
 rcases he with rfl|rfl
 ·refine⟨true,?_,λf hf=>⟨λ_=>(h f hf).1 Z,λ_=>rfl⟩⟩;clear h;refine eM call195 λF hF=>?_
  refine zW c ?_;exact zJ
 ·refine⟨false,?_,λf hf=>⟨λh1=>absurd h1 yBw,λh1=>absurd ((h f hf).2 h1) xO⟩⟩;clear h;refine eM call195 λF hF=>?_
  refine zW c ?_;exact zJ
def AE:Nat->Int->List Int
 |0,n=>[n]
 |z+1,n=>if 128<=n then(n % 128+128)::AE z (n/128)else [n]
theorem QR:∀z n,(AE z n).length<=z+1
 |0,n=>yBg _
 |z+1,n=>by
  unfold AE;split
  ·have:=QR z (n/128);simp only[yBp];omega
  ·simp
def zRw (z:Nat) (n:Int) (h:n<128):AE z n=[n]:=by
 cases z with
 |zero=>rfl
 |succ z=>unfold AE;rw[yBc zB]
def szN:Nat->Int->Int
 |0,_=>0
 |z+1,n=>if 128<=n then 1+szN z (n/128)else 0
theorem GG:∀z n,0<=szN z n/\szN z n<=z
 |0,n=>⟨yC8 _,yC8 _⟩
 |z+1,n=>by
  unfold szN;split
  ·have:=GG z (n/128);omega
  ·omega
def zRx (z:Nat) (n:Int) (h:n<128):szN z n=0:=by
 cases z with
 |zero=>rfl
 |succ z=>unfold szN;rw[yBc zB]
def zNc (x:Int) (h0:0<=x) (h1:x<=4294967295):x.tdiv 128=x/128/\aA .i64 (x.tdiv 128):=by
 have e:=yC5 (a:=x) (b:=128) h0;refine⟨e,?_⟩;rw[e];exact⟨by show(-9223372036854775808:Int)<=_;omega,by show _<=(9223372036854775807:Int);omega⟩
def zRy (n:Int) (h1:0<=n) (h2:n<=4294967295):∃k:Int,1<=k/\zO 181 [iA n] [] (iA k) []:=by
 refine⟨1+szN 5 n,by have:=GG 5 n;omega,?_⟩;have hs5:=GG 5 n;refine eM call181 λF hF=>?_
 refine WW ?_;refine jF (5) [] [] [] [0,3] Z (λzn T U zs=>∃(x:Int) (k:Int),(0<=x/\x<=4294967295/\x<P7 zn*128/\k+szN zn x=1+szN 5 n/\1<=k)/\zs=⟨(0,iA x)::(3,iA k)::T,U⟩) ?_;(conv=>whnf);refine⟨?_,?_⟩
 ·exact⟨n,1,⟨h1,h2,by show n<34359738368*128;omega,rfl,yC8 _⟩,rfl⟩
 ·rintro zn st ⟨x,k,⟨b1,b1',b2,b3,b4⟩,rfl⟩;by_cases hx:128<=x
  ·have hz:zn≠0:=λe=>by
    subst e;have:P7 0=1:=rfl;omega
   obtain⟨z,rfl⟩:∃z,zn=z+1:=⟨zn-1,zB⟩;obtain⟨e,hq⟩:=zNc x b1 b1';have hP:P7 (z+1)=128*P7 z:=rfl
   have e2:szN (z+1) x=1+szN z (x/128):=by
    show(if 128<=x then _ else _)=_
    rw[yBd hx]
   rw[e2,<-e]at b3;have hx2:0<=x.tdiv 128/\x.tdiv 128<=4294967295/\x.tdiv 128<P7 z*128:=by rw[e];rw[hP]at b2;omega
   have hk6:=GG z (x.tdiv 128);clear e2 hP e b2;refine WW ?_;exact⟨z,zB,x.tdiv 128,k+1,⟨hx2.1,hx2.2.1,hx2.2.2,zB,zB⟩,rfl⟩
  ·rw[zRx zn x zB,Int.add_zero]at b3;rw[<-b3];refine WW ?_;exact zJ
def zW6 (n:Int) (h1:0<=n) (h2:n<=4294967295):zO 136 [iA n] [] (.tup [zD yA (AE 5 n),iA 0]) []:=by
 obtain⟨k,hk,c⟩:=zRy n h1 h2;refine eM call136 λF hF=>?_
 refine zW c ?_;refine xC 4 1001 1 Z Z Z ?_;refine jF (5) [1001] [] [] [0,4] Z (λzn T U zs=>∃(acc:List Int) (x:Int),(0<=x/\x<=4294967295/\x<P7 zn*128/\acc++AE zn x=AE 5 n/\acc.length<=100)/\zs=⟨(0,iA x)::(4,.ref 1001 0 (acc.map yA).length)::T,(1001,.arr 1 (acc.map yA) true)::U⟩) ?_;(conv=>whnf);refine⟨?_,?_⟩
 ·exact⟨[],n,⟨h1,h2,by show n<34359738368*128;omega,rfl,by simp⟩,rfl⟩
 ·rintro zn st ⟨acc,x,⟨b1,b1',b2,b3,b4⟩,rfl⟩;have hla:=zA yA acc;by_cases hx:128<=x
  ·have hz:zn≠0:=λe=>by
    subst e;have:P7 0=1:=rfl;omega
   obtain⟨z,rfl⟩:∃z,zn=z+1:=⟨zn-1,zB⟩;obtain⟨e,hq⟩:=zNc x b1 b1';have e9:=yC2 (a:=x) (b:=128) b1;have hP:P7 (z+1)=128*P7 z:=rfl
   have e2:AE (z+1) x=(x % 128+128)::AE z (x/128):=by
    show(if 128<=x then _ else _)=_
    rw[yBd hx]
   rw[e2]at b3;have hm:(acc++[x.tmod 128+128]).map yA=acc.map yA++[yA (x.tmod 128+128)]:=by simp
   have hb5:acc++[x.tmod 128+128]++AE z (x.tdiv 128)=AE 5 n:=by rw[e,e9,yCa];exact b3
   have hr9:0<=x.tmod 128/\x.tmod 128<=127:=by rw[e9];omega
   have hx2:0<=x.tdiv 128/\x.tdiv 128<=4294967295/\x.tdiv 128<P7 z*128:=by rw[e];rw[hP]at b2;omega
   have hlc:acc.length+1<=100:=by
    have h6:=yB8 List.length b3;have h7:=QR 5 n;simp only[yBf,yBp]at h6;omega
   clear e2 b3 hP e e9;refine WW ?_;exact⟨z,zB,acc++[x.tmod 128+128],x.tdiv 128,⟨hx2.1,hx2.2.1,hx2.2.2,hb5,by simpa using hlc⟩,by rw[hm];rfl⟩
  ·rw[zRw zn x zB]at b3;rw[<-b3];have hm:zD yA (acc++[x])= .sl false ((acc.map yA++[yA (x)]).take (acc.map yA++[yA (x)]).length):=by rw[yBj];unfold zD;rw[yBn];rfl
   rw[hm];refine WW ?_;exact zJ
def qyN (tok args:List Int):Nat->List Int
 |0=>tok
 |i+1=>qyN tok args i++AE 5 (args.getD i default)
theorem zEi (tok args:List Int):∀i,(qyN tok args i).length<=tok.length+6*i
 |0=>by show tok.length<=_;omega
 |i+1=>by
  have:=zEi tok args i;have h2:=QR 5 (args.getD i default);unfold qyN;simp only[yBf];omega
def r5A (f:Int):AV:= .agg [iA f,iA 0,iA 0,iA 0,iA 0]
def zNd (k:Int) (f:Nat) (hf:kdP k f):zO 106 [iA k] [] (r5A f) []:=by
 rcases hf with⟨rfl,rfl⟩|⟨rfl,rfl⟩|⟨rfl,rfl⟩|⟨rfl,rfl⟩
 all_goals
  refine eM call106 λF hF=>?_
  refine WW ?_;exact zJ
def zRz (k:Int) (h1:1<=k) (h2:k<=12):zO 107 [iA k] [] (bA true) []:=by
 refine eM call107 λF hF=>?_
 refine WW ?_;exact zJ
def zR0 (m:Ms) (f:Nat) (hf:kdP m.kind f) (h:mvP m f):∃xs:List AV,xs.length<=200/\zO 99 [yB m] [] (.sl false xs) []:=by
 obtain⟨h1,h2,h3,h4⟩:=h;have c1:=zNd m.kind f hf;have hf3:f<=3/\1<=f:=by unfold kdP at hf;omega
 obtain⟨mk,tk,ar,da⟩:=m;dsimp only at *;subst h2;have hQ:=zEi tk ar;refine⟨((qyN tk ar f).map yA++[]).take ((qyN tk ar f).map yA++[]).length,by have:=hQ f;simp;omega,?_⟩;have hlt:=zA yA tk;have hla:=zA iA ar;have hq0:qyN tk ar 0=tk:=rfl;have hqS:∀i:Nat,qyN tk ar (i+1)=qyN tk ar i++AE 5 (ar.getD i default):=λ_=>rfl
 generalize qyN tk ar=qy at *;rw[show yB ⟨mk,tk,ar,[]⟩= .agg [iA mk,zD yA tk,zD iA ar,zD yA []]from Z];rw[show r5A f= .agg [iA f,iA 0,iA 0,iA 0,iA 0]from Z]at c1;clear hf;refine eM call99 λF hF=>?_
 (have zc1:=c1;(repeat' (first|refine uC ?_|((first|apply xE|apply xV)<;>intro hc)|(refine zE ?_;first|(refine yM ?_;refine gQ 1001 tok Z Z Z Z Z Z (yV _ _ (λ_=>rfl)) Z Z Z zB Z Z Z ?_))|fail))<;>clear zc1)
 refine uK 1001 Z ?_;refine xR (ar.length) [1001,1,3] [1,3] [1,3,16,17] [4,18,1,3,16,17] Z (λi T U zs=>(i<=ar.length)/\zs=⟨(4,.ref 1001 0 ((qy i).map yA).length)::(18,iA i)::T,(1001,.arr 1 ((qy i).map yA) true)::U⟩) ?_;(conv=>whnf);refine⟨?_,?_,?_⟩
 ·refine⟨yBt _,?_⟩;rw[hq0];rfl
 ·rintro i st' hi ⟨hik,rfl⟩;have hn:=h4 i zB;unfold nmB at hn;rw[yBi]at hn;have cv:=zW6 (ar.getD i default) hn.1 hn.2;have hy:=zM iA ar i hi;have hbl:=hQ i;have hlp:=zA yA (qy i);have hlv:=zA yA (AE 5 (ar.getD i default));have hvv:=QR 5 (ar.getD i default);have hmS:(qy (i+1)).map yA=(qy i).map yA++(AE 5 (ar.getD i default)).map yA:=by rw[hqS,yBn]
  rw[hmS];clear hqS hQ hq0 hmS c1 hn h4;generalize (qy i).map yA=A at *;generalize AE 5 (ar.getD i default)=V at *;generalize ar.getD i default=a at *;refine zW cv ?_;exact⟨zB,rfl⟩
 ·rintro st' ⟨hik,rfl⟩;subst h3;have hbl:=hQ ar.length;have hlp:=zA yA (qy ar.length);clear hqS hQ hq0 h4 c1;generalize (qy ar.length).map yA=A at *;have hl0:(([]:List Int).map yA).length=0:=rfl;refine WW ?_;exact zJ
def zGi (m:Ms) (hm:MsB m) (f:Nat) (hf:kdP m.kind f):∃b:Bool,zO 98 [yB m] [] (bA b) []/\(b=true↔mvP m f):=by
 have c1:=zNd m.kind f hf;have hk:2<=m.kind/\m.kind<=5:=by unfold kdP at hf;omega
 have c2:=zRz m.kind zB zB;have cp:=zR0 m f hf;have b1:=hm.t;have b2:=hm.a;have b3:=hm.d;have hlt:=zA yA m.tok;have hla:=zA iA m.args;have hld:=zA yA m.data;have hf3:f<=3/\1<=f:=by unfold kdP at hf;omega
 rw[show r5A f= .agg [iA f,iA 0,iA 0,iA 0,iA 0]from Z]at c1;by_cases h1:m.tok.length=10
 case neg=>
  refine⟨false,?_,λh=>absurd h yBw,λh=>absurd h.1 h1⟩;clear cp;refine eM call98 λF hF=>?_
  refine yS (vH c1 c2) ?_;exact zJ
 by_cases h2:m.args.length=f
 case neg=>
  refine⟨false,?_,λh=>absurd h yBw,λh=>absurd h.2.2.1 h2⟩;clear cp;refine eM call98 λF hF=>?_
  refine yS (vH c1 c2) ?_;exact zJ
 by_cases h3:m.data.length=0
 case neg=>
  refine⟨false,?_,λh=>absurd h yBw,λh=>absurd (by rw[h.2.1];rfl) h3⟩;clear cp;refine eM call98 λF hF=>?_
  refine yS (vH c1 c2) ?_;exact zJ
 have h3:=yCb h3
 rcases zM9 m.args m.args.length (yBg _)with⟨k,hk1,hk2,hk3⟩|hall
 ·refine⟨false,?_,λh=>absurd h yBw,λh=>?_⟩
  case refine_2=>
   have:=h.2.2.2 k zB;rw[hk2]at this;cases this
  clear cp;refine eM call98 λF hF=>?_
  refine yS (vH c1 c2) ?_;refine xR (m.args.length) [1] [1] [1,97,98] [99,1,97,98] Z (λi T U zs=>(i<=k)/\zs=⟨(99,iA i)::T,U⟩) ?_;(conv=>whnf);refine⟨?_,?_,?_⟩
  ·exact⟨yBt _,rfl⟩
  ·rintro i st' hi ⟨hik,rfl⟩;have hy:=zM iA m.args i hi;by_cases e:i=k
   ·subst e;unfold nmB at hk2;rw[yBx]at hk2;generalize m.args.getD i default=a at *;by_cases g1:0<=a
    ·have g2:¬a<=4294967295:=λh=>hk2 ⟨g1,h⟩
     clear hk2;refine WW ?_;exact zJ
    ·clear hk2;refine WW ?_;exact zJ
   ·have hn:=hk3 i zB;unfold nmB at hn;rw[yBi]at hn;obtain⟨hn1,hn2⟩:=hn;clear hk2 hk3;generalize m.args.getD i default=a at *;refine WW ?_;exact⟨zB,rfl⟩
  ·rintro st' ⟨hik,rfl⟩;exfalso;omega
 ·have hok:mvP m f:=⟨h1,h3,h2,λi hi=>hall i zB⟩;obtain⟨xs,hx,c3⟩:=cp hok;refine⟨true,?_,λ_=>hok,λ_=>rfl⟩;clear hok cp;rw[show yB m= .agg [iA m.kind,zD yA m.tok,zD iA m.args,zD yA m.data]from Z]at *; refine eM call98 λF hF=>?_
  refine yS (vH c1 c2) ?_;refine zN (m.args.length) [1] [1] [1,97,98] [99,1,97,98] Z (λi T U=>⟨(99,iA i)::T,U⟩) ?_;(conv=>whnf);refine⟨by rfl,?_,?_⟩
  ·intro i hi;have hy:=zM iA m.args i hi;have hn:=hall i hi;unfold nmB at hn;rw[yBi]at hn;obtain⟨hn1,hn2⟩:=hn;clear hall;generalize m.args.getD i default=a at *;refine WW ?_;rfl
  ·(refine zW c3 ?_)
   exact zJ
def AF (l:List Vh) (id:Int):∃k,k<=l.length/\(∀i,i<k->(l.getD i default).id<id)/\(k<l.length->¬(l.getD k default).id<id):=by
 induction l with
 |nil=>exact⟨0,yBg _,λi h=>absurd h (yDp _),λh=>absurd h zQ⟩
 | cons x l ih=>
  obtain⟨k,h1,h2,h3⟩:=ih;by_cases hx:x.id<id
  ·refine⟨k+1,by simpa using h1,λi hi=>?_,λhk=>?_⟩
   ·cases i with
    |zero=>exact hx
    |succ i=>exact h2 i zB
   ·exact h3 (by simpa using hk)
  ·exact⟨0,yBt _,λi h=>absurd h (yDp _),λ_=>hx⟩
def zTu {l:List Vh}:FN l=true↔l.length<=8/\∀i,i<l.length->(0<=(l.getD i default).id/\(l.getD i default).id<=4294967295/\0<=(l.getD i default).cls/\(l.getD i default).cls<=3)/\(0<i->(l.getD (i-1) default).id<(l.getD i default).id):=by
 unfold FN;simp only[yBq,yBi,yBr,yBz];constructor
 ·rintro⟨h1,h2⟩;refine⟨zB,λi hi=>?_⟩;have:=h1 i hi;unfold TY at this;rw[yBi]at this;exact⟨⟨this.1,this.2.1,this.2.2.1,this.2.2.2.1⟩,this.2.2.2.2⟩
 ·rintro⟨h1,h2⟩;refine⟨λi hi=>?_,zB⟩;unfold TY;rw[yBi];have:=h2 i hi;exact⟨this.1.1,this.1.2.1,this.1.2.2.1,this.1.2.2.2,this.2⟩
def avL (a:Ag):Bool:=a.lim.all λn=>jO n 0 8
def avF (a:Ag):Bool:=decide ((a.sec.length:Int)=8/\(a.lim.length:Int)=4)&&(avL a&&(jO a.rights 0 63&&(jO a.cls 0 3&&(jO a.req 0 4&&(jO a.ses 1 2&&(jO a.burst 0 1000&&jO a.rate 0 a.burst))))))
def zZk {a:Ag} (h:∀s:Nat,s<a.lim.length->jO (a.lim.getD s default) 0 8=true):avL a=true:=by
 unfold avL;rw[yBr];intro x hx;obtain⟨i,hi,rfl⟩:=yDn hx;have:=h i hi;simpa [List.getD,hi]using this
def zZl {a:Ag} {i:Nat} (hi:i<a.lim.length) (h:jO (a.lim.getD i default) 0 8=false):avL a=false:=by
 unfold avL;rw[yD7];exact⟨a.lim.getD i default,by simp[List.getD,hi],by rw[h];decide⟩
def zGj (a:Ag):zO 144 [vB a] [] (bA (avF a)) []:=by
 have hs:=zA yA a.sec;have hl:=zA iA a.lim;have c1:=vR a.rights 0 63;have c2:=vR a.cls 0 3;have c3:=vR a.req 0 4;have c4:=vR a.ses 1 2;have c5:=vR a.burst 0 1000;have c6:=vR a.rate 0 a.burst;by_cases h1:(a.sec.length:Int)=8/\(a.lim.length:Int)=4
 case neg=>
  have e:avF a=false:=by unfold avF;rw[yBm h1];rfl
  rw[e];by_cases g1:(a.sec.length:Int)=8
  ·(refine eM call144 λF hF=>?_)
   refine WW ?_;exact zJ
  ·(refine eM call144 λF hF=>?_)
   refine WW ?_;exact zJ
 obtain⟨h1,h2⟩:=h1
 have e:avF a=(avL a&&(jO a.rights 0 63&&(jO a.cls 0 3&&(jO a.req 0 4&&(jO a.ses 1 2&&(jO a.burst 0 1000&&jO a.rate 0 a.burst)))))):=by
  unfold avF;rw[yBk ⟨h1,h2⟩,yB2]
 rw[e];refine eM call144 λF hF=>?_
 refine WW ?_;refine xR (a.lim.length) [1] [1] [1,16,17] [18,1,16,17] Z (λi T U zs=>(∀s:Nat,s<i->jO (a.lim.getD s default) 0 8=true)/\zs=⟨(18,iA i)::T,U⟩) ?_;(conv=>whnf);refine⟨?_,?_,?_⟩
 ·exact⟨λs hs=>absurd hs (yDp _),rfl⟩
 ·rintro i st hi ⟨hp,rfl⟩;have hy:=zM iA a.lim i hi;have c:=vR (a.lim.getD i default) 0 8
  cases hq:jO (a.lim.getD i default) 0 8 with
  | true=>
   rw[hq]at c
   have hp2:∀s:Nat,s<i+1->jO (a.lim.getD s default) 0 8=true:=λs hs=>by
    by_cases hsi:s=i
    ·subst hsi;assumption
    ·exact hp s zB
   clear hq hp;generalize hx:a.lim.getD i default=x at *;clear hx;refine zW c ?_;exact⟨hp2,rfl⟩
  |false=>
   rw[hq]at c;rw[zZl hi hq,yC4];generalize a.lim.getD i default=x at *;refine zW c ?_;exact zJ
 ·rintro st ⟨hp,rfl⟩;rw[zZk hp,yB2];clear hp;generalize jO a.rights 0 63=q1 at *;generalize jO a.cls 0 3=q2 at *;generalize jO a.req 0 4=q3 at *;generalize jO a.ses 1 2=q4 at *;generalize jO a.burst 0 1000=q5 at *;generalize jO a.rate 0 a.burst=q6 at *;cases q1
  ·(refine zW c1 ?_)
   exact zJ
  cases q2
  ·(refine yS (vH c1 c2) ?_)
   exact zJ
  cases q3
  ·(refine yS (gW c1 c2 c3) ?_)
   exact zJ
  cases q4
  ·(refine yS (bY c1 c2 c3 c4) ?_)
   exact zJ
  cases q5
  ·(refine yS (zt5 c1 c2 c3 c4 c5) ?_)
   exact zJ
  ·(refine yS (zt6 c1 c2 c3 c4 c5 c6) ?_)
   exact zJ
def UG (l:List Vh) (hn:l.length<=1000000):zO 263 [zD vY l] [] (bA (FN l)) []:=by
 have hl:=zA vY l;by_cases h8:(l.length:Int)<=8
 case neg=>
  have e:FN l=false:=by unfold FN;rw[yBm h8,yEx]
  rw[e];refine eM call263 λF hF=>?_
  refine WW ?_;exact zJ
 refine eM call263 λF hF=>?_
 refine WW ?_;refine xR (l.length) [] [] [0,8,9] [10,0,8,9] Z (λi T U zs=>(∀s:Nat,s<i->TY l s=true)/\zs=⟨(10,iA i)::T,U⟩) ?_;(conv=>whnf);refine⟨?_,?_,?_⟩
 ·exact⟨λs hs=>absurd hs (yDp _),rfl⟩
 ·rintro i st hi ⟨hp,rfl⟩
  have next:TY l i=true->∀s:Nat,s<i+1->TY l s=true:=λh s hs=>by
   by_cases hsi:s=i
   ·subst hsi;exact h
   ·exact hp s zB
  have stop:=λh=>zXa (l:=l) hi h
  have hy:=zM vY l i hi;have htok:TY l i=_:=rfl
  conv at htok=>rhs;unfold TY
  by_cases hi0:0<i
  ·have hyp:=yL vY l ((i:Int)-1) zB zB;rw[show((i:Int)-1).toNat=i-1 by omega]at hyp;have hyq:(l.map vY)[((i:Int)-1).toNat]? =some (vY (l.getD (i-1) default)):=by rw[show((i:Int)-1).toNat=i-1 by omega];exact hyp
   clear hyp;generalize l.getD i default=t at *;generalize l.getD (i-1) default=p at *;generalize TY l i=tk at *;by_cases h1:0<=t.id/\t.id<=4294967295/\0<=t.cls/\t.cls<=3/\p.id<t.id
   ·obtain⟨h1,h2,h3,h4,h5⟩:=h1;rw[yBk ⟨h1,h2,h3,h4,λ_=>h5⟩]at htok;refine WW ?_;exact⟨next htok,rfl⟩
   ·rw[yBm (λh=>h1 ⟨h.1,h.2.1,h.2.2.1,h.2.2.2.1,h.2.2.2.2 hi0⟩)]at htok;rw[stop htok]
    by_cases g1:0<=t.id<;>by_cases g2:t.id<=4294967295<;>by_cases g3:0<=t.cls<;>by_cases g4:t.cls<=3<;>by_cases g5:p.id<t.id<;>first|(exfalso;exact h1 ⟨g1,g2,g3,g4,g5⟩)|(exfalso;omega;done)|(clear h1;((refine WW ?_));exact zJ)
  ·obtain rfl:i=0:=by omega
   generalize l.getD 0 default=t at *;generalize TY l 0=tk at *;by_cases h1:0<=t.id/\t.id<=4294967295/\0<=t.cls/\t.cls<=3
   ·obtain⟨h1,h2,h3,h4⟩:=h1;rw[yBk ⟨h1,h2,h3,h4,λh=>absurd h hi0⟩]at htok;refine WW ?_;exact⟨next htok,rfl⟩
   ·rw[yBm (λh=>h1 ⟨h.1,h.2.1,h.2.2.1,h.2.2.2.1⟩)]at htok;rw[stop htok]
    by_cases g1:0<=t.id<;>by_cases g2:t.id<=4294967295<;>by_cases g3:0<=t.cls<;>by_cases g4:t.cls<=3<;>first|(exfalso;exact h1 ⟨g1,g2,g3,g4⟩)|(exfalso;omega;done)|(clear h1;((refine WW ?_));exact zJ)
 ·rintro st ⟨hp,rfl⟩;have e:((List.range l.length).all λi=>TY l i)=true:=yBr.2 λi hi=>hp i (yBz.1 hi)
  unfold FN;rw[e,yB2];rw[yBk h8];refine WW ?_;exact zJ
def gvF (r:Rg):Bool:=decide (0<=r.num/\r.num<4)&&(avF r.ag&&(MF r.tk&&(FN r.vh&&(bvF r.bk&&decide (r.bk.rate=r.ag.rate/\r.bk.burst=r.ag.burst)))))
def ZE (r:Rg) (hv:r.vh.length<=1000000):zO 235 [uZ r] [] (bA (gvF r)) []:=by
 have c1:=zGj r.ag;have c2:=VE r.tk;have c3:=UG r.vh hv;have c4:=zLs r.bk;unfold gvF;generalize avF r.ag=q1 at *;generalize MF r.tk=q2 at *;generalize FN r.vh=q3 at *;generalize bvF r.bk=q4 at *;by_cases h1:0<=r.num
 case neg=>
  rw[yBm (λh=>h1 h.1)];refine eM call235 λF hF=>?_
  refine WW ?_;exact zJ
 by_cases h2:r.num<4
 case neg=>
  rw[yBm (λh=>h2 h.2)];refine eM call235 λF hF=>?_
  refine WW ?_;exact zJ
 rw[yBk ⟨h1,h2⟩]
 cases q1 with
 |false=>
  refine eM call235 λF hF=>?_
  refine zW c1 ?_;exact zJ
 |true=>
 cases q2 with
 |false=>
  refine eM call235 λF hF=>?_
  refine yS (vH c1 c2) ?_;exact zJ
 |true=>
 cases q3 with
 |false=>
  refine eM call235 λF hF=>?_
  refine yS (gW c1 c2 c3) ?_;exact zJ
 |true=>
 cases q4 with
 |false=>
  refine eM call235 λF hF=>?_
  refine yS (bY c1 c2 c3 c4) ?_;exact zJ
 |true=>
 by_cases h3:r.bk.rate=r.ag.rate
 case neg=>
  rw[yBm (λh=>h3 h.1)];refine eM call235 λF hF=>?_
  refine yS (bY c1 c2 c3 c4) ?_;exact zJ
 by_cases h4:r.bk.burst=r.ag.burst
 ·rw[yBk ⟨h3,h4⟩];refine eM call235 λF hF=>?_
  refine yS (bY c1 c2 c3 c4) ?_
  all_goals (first|exact zJ|exact zFB)
 ·rw[yBm (λh=>h4 h.2)];refine eM call235 λF hF=>?_
  refine yS (bY c1 c2 c3 c4) ?_
  all_goals (first|exact zJ|exact zFB)
def cP (r:Rg) (hv:r.vh.length<=1000000):yU [uZ r] [] (bA (gvF r)) []:=yF
end Av
end Go.Proofs.YteajjdidebfcjaaGreat
