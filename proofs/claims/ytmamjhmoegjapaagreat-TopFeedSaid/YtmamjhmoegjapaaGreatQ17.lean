/- Part 17. -/
import Derived.Test.YtmamjhmoegjapaaGreatQ16
namespace Go.Proofs.YtmamjhmoegjapaaGreat
namespace Av
open Tryz
set_option linter.all false
set_option maxRecDepth 4000
set_option maxHeartbeats 4000000
theorem zWt (n:Int) (h:0<=n):vR n 7=n/128:=by
 unfold vR;rw[zZm _ xL];rfl
def P7:Nat->Int
 |0=>1
 |z+1=>128*P7 z
def hiB (n:Int):Int:=IntKind.u8.wrap ((BitVec.ofInt IntKind.u8.bits (IntKind.u8.wrap (fV n 127)) ||| BitVec.ofInt IntKind.u8.bits 128).toNat)
def vbN:Nat->Int->List Int
 |0,n=>[n]
 |z+1,n=>if 128<=n then hiB n::vbN z (n/128)else [n]
theorem KA:∀z n,(vbN z n).length<=z+1
 |0,n=>zXc _
 |z+1,n=>by
  unfold vbN;split
  ·have:=KA z (n/128);simp only[zXl];omega
  ·simp
theorem zMp (z:Nat) (n:Int) (h:n<128):vbN z n=[n]:=by
 cases z with
 |zero=>rfl
 |succ z=>unfold vbN;rw[zW8 zB]
def UK (n:Int):List Int:=if 0<=n/\n<=4294967295 then vbN 5 n else []
def veF (n:Int):Int:=if 0<=n/\n<=4294967295 then 0 else 8
theorem cW (n:Int):(UK n).length<=6:=by
 unfold UK;split
 ·exact KA 5 n
 ·simp
theorem KB (n:Int):zN 126 [iA n] [] (.tup [zD yA (UK n),iA (veF n)]) []:=by
 unfold UK veF;by_cases h1:0<=n
 case neg=>
  rw[zW8 (λh=>h1 h.1),zW8 (λh=>h1 h.1)];refine eM call126 λF hF=>?_
  refine WW ?_;exact zK
 by_cases h2:n<=4294967295
 case neg=>
  rw[zW8 (λh=>h2 h.2),zW8 (λh=>h2 h.2)];refine eM call126 λF hF=>?_
  refine WW ?_;exact zK
 rw[zW9 ⟨h1,h2⟩,zW9 ⟨h1,h2⟩];refine eM call126 λF hF=>?_
 refine WW ?_;refine vW 11 rfl ?_;refine fW (5) [11] [] [] [0,4] rfl (λzn T U zs=>∃(acc:List Int) (x:Int),(0<=x/\x<P7 zn*128/\acc++vbN zn x=vbN 5 n/\acc.length<=100)/\zs=⟨(0,iA x)::(4,.ref 11 0 (acc.map yA).length)::T,(11,.arr 1 (acc.map yA) true)::U⟩) ?_;(conv=>whnf);refine⟨?_,?_⟩
 ·exact⟨[],n,⟨h1,by show n<34359738368*128;omega,rfl,by simp⟩,rfl⟩
 ·rintro zn st ⟨acc,x,⟨b1,b2,b3,b4⟩,rfl⟩;have hla:=zA yA acc;by_cases hx:128<=x
  ·have hz:zn≠0:=λe=>by
    subst e;have:P7 0=1:=rfl;omega
   obtain⟨z,rfl⟩:∃z,zn=z+1:=⟨zn-1,zB⟩;have e:=zWt x b1;have hP:P7 (z+1)=128*P7 z:=rfl
   have e2:vbN (z+1) x=hiB x::vbN z (x/128):=by
    show(if 128<=x then _ else _)=_
    rw[zW9 hx]
   rw[e2]at b3;have hm:(acc++[hiB x]).map yA=acc.map yA++[yA (hiB x)]:=by simp
   have hb5:acc++[hiB x]++vbN z (vR x 7)=vbN 5 n:=by rw[e,zXy];exact b3
   have hx2:0<=vR x 7/\vR x 7<P7 z*128:=by rw[e];rw[hP]at b2;omega
   have hlc:acc.length+1<=100:=by
    have h6:=zX7 List.length b3;have h7:=KA 5 n;simp only[zXb,zXl]at h6;omega
   clear e2 b3 hP
   (repeat' (first|refine qA ?_|refine xQ (λhc=>?_) (λhc=>?_)|refine wD (λhc=>?_)|(refine zE ?_;first|(refine wZ ?_;refine xK (JY rfl rfl) rfl ?_))|fail))
   exact⟨z,zB,acc++[hiB x],vR x 7,⟨hx2.1,hx2.2,hb5,by simpa using hlc⟩,by rw[hm];rfl⟩
  ·rw[zMp zn x zB]at b3;rw[<-b3];have hm:zD yA (acc++[x])= .sl false ((acc.map yA++[yA (x)]).take (acc.map yA++[yA (x)]).length):=by rw[zXe];unfold zD;rw[zXf];rfl
   rw[hm];refine WW ?_;exact zK
structure Shp where
 t:Int
 f:Int
 g:Int
 lo:Int
 hi:Int
 da:Int
def ZQ (s:Shp):AV:= .agg [iA s.t,iA s.f,iA s.g,iA s.lo,iA s.hi,iA s.da]
structure zWu (k:Int) (s:Shp) (ok:Bool):Prop where
 t:0<=s.t/\s.t<=10
 f:0<=s.f/\s.f<=4
 g:s.g=0∨s.g=2∨s.g=3∨s.g=4
 da: -1<=s.da/\s.da<=10
 k2:k=2->s=⟨10,3,0,0,0,0⟩/\ok=true
 k3:k=3->s=⟨10,1,0,0,0,0⟩/\ok=true
 k4:k=4->s=⟨10,2,0,0,0,0⟩/\ok=true
 k5:k=5->s=⟨10,1,0,0,0,0⟩/\ok=true
theorem zMq (k:Int):∃(s:Shp) (ok:Bool),zWu k s ok/\zN 124 [iA k] [] (.tup [ZQ s,bA ok]) []:=by
 by_cases h1:k=1
 ·subst h1;refine⟨⟨10,0,0,0,0,0⟩,true,⟨by decide,by decide,by decide,by decide,λh=>absurd h zB,λh=>absurd h zB,λh=>absurd h zB,λh=>absurd h zB⟩,?_⟩;unfold ZQ;refine eM call124 λF hF=>?_
  refine WW ?_;exact zK
 by_cases h2:k=2
 ·subst h2;refine⟨⟨10,3,0,0,0,0⟩,true,⟨by decide,by decide,by decide,by decide,λ_=>⟨rfl,rfl⟩,λh=>absurd h zB,λh=>absurd h zB,λh=>absurd h zB⟩,?_⟩;unfold ZQ;refine eM call124 λF hF=>?_
  refine WW ?_;exact zK
 by_cases h3:k=3
 ·subst h3;refine⟨⟨10,1,0,0,0,0⟩,true,⟨by decide,by decide,by decide,by decide,λh=>absurd h zB,λ_=>⟨rfl,rfl⟩,λh=>absurd h zB,λh=>absurd h zB⟩,?_⟩;unfold ZQ;refine eM call124 λF hF=>?_
  refine WW ?_;exact zK
 by_cases h4:k=4
 ·subst h4;refine⟨⟨10,2,0,0,0,0⟩,true,⟨by decide,by decide,by decide,by decide,λh=>absurd h zB,λh=>absurd h zB,λ_=>⟨rfl,rfl⟩,λh=>absurd h zB⟩,?_⟩;unfold ZQ;refine eM call124 λF hF=>?_
  refine WW ?_;exact zK
 by_cases h5:k=5
 ·subst h5;refine⟨⟨10,1,0,0,0,0⟩,true,⟨by decide,by decide,by decide,by decide,λh=>absurd h zB,λh=>absurd h zB,λh=>absurd h zB,λ_=>⟨rfl,rfl⟩⟩,?_⟩;unfold ZQ;refine eM call124 λF hF=>?_
  refine WW ?_;exact zK
 by_cases h6:k=6
 ·subst h6;refine⟨⟨10,3,4,1,3,0⟩,true,⟨by decide,by decide,by decide,by decide,λh=>absurd h zB,λh=>absurd h zB,λh=>absurd h zB,λh=>absurd h zB⟩,?_⟩;unfold ZQ;refine eM call124 λF hF=>?_
  refine WW ?_;exact zK
 by_cases h7:k=7
 ·subst h7;refine⟨⟨10,1,2,1,3,0⟩,true,⟨by decide,by decide,by decide,by decide,λh=>absurd h zB,λh=>absurd h zB,λh=>absurd h zB,λh=>absurd h zB⟩,?_⟩;unfold ZQ;refine eM call124 λF hF=>?_
  refine WW ?_;exact zK
 by_cases h8:k=8
 ·subst h8;refine⟨⟨10,1,0,0,0,0⟩,true,⟨by decide,by decide,by decide,by decide,λh=>absurd h zB,λh=>absurd h zB,λh=>absurd h zB,λh=>absurd h zB⟩,?_⟩;unfold ZQ;refine eM call124 λF hF=>?_
  refine WW ?_;exact zK
 by_cases h9:k=9
 ·subst h9;refine⟨⟨10,0,0,0,0,0⟩,true,⟨by decide,by decide,by decide,by decide,λh=>absurd h zB,λh=>absurd h zB,λh=>absurd h zB,λh=>absurd h zB⟩,?_⟩;unfold ZQ;refine eM call124 λF hF=>?_
  refine WW ?_;exact zK
 by_cases h10:k=10
 ·subst h10;refine⟨⟨10,1,0,0,0,0⟩,true,⟨by decide,by decide,by decide,by decide,λh=>absurd h zB,λh=>absurd h zB,λh=>absurd h zB,λh=>absurd h zB⟩,?_⟩;unfold ZQ;refine eM call124 λF hF=>?_
  refine WW ?_;exact zK
 by_cases h11:k=11
 ·subst h11;refine⟨⟨10,1,0,0,0,0⟩,true,⟨by decide,by decide,by decide,by decide,λh=>absurd h zB,λh=>absurd h zB,λh=>absurd h zB,λh=>absurd h zB⟩,?_⟩;unfold ZQ;refine eM call124 λF hF=>?_
  refine WW ?_;exact zK
 by_cases h12:k=12
 ·subst h12;refine⟨⟨10,0,0,0,0,0⟩,true,⟨by decide,by decide,by decide,by decide,λh=>absurd h zB,λh=>absurd h zB,λh=>absurd h zB,λh=>absurd h zB⟩,?_⟩;unfold ZQ;refine eM call124 λF hF=>?_
  refine WW ?_;exact zK
 by_cases h13:k=13
 ·subst h13;refine⟨⟨0,2,0,0,0,0⟩,true,⟨by decide,by decide,by decide,by decide,λh=>absurd h zB,λh=>absurd h zB,λh=>absurd h zB,λh=>absurd h zB⟩,?_⟩;unfold ZQ;refine eM call124 λF hF=>?_
  refine WW ?_;exact zK
 by_cases h14:k=14
 ·subst h14;refine⟨⟨0,2,0,0,0,0⟩,true,⟨by decide,by decide,by decide,by decide,λh=>absurd h zB,λh=>absurd h zB,λh=>absurd h zB,λh=>absurd h zB⟩,?_⟩;unfold ZQ;refine eM call124 λF hF=>?_
  refine WW ?_;exact zK
 by_cases h15:k=15
 ·subst h15;refine⟨⟨0,2,0,0,0,0⟩,true,⟨by decide,by decide,by decide,by decide,λh=>absurd h zB,λh=>absurd h zB,λh=>absurd h zB,λh=>absurd h zB⟩,?_⟩;unfold ZQ;refine eM call124 λF hF=>?_
  refine WW ?_;exact zK
 by_cases h16:k=16
 ·subst h16;refine⟨⟨0,1,0,0,0,10⟩,true,⟨by decide,by decide,by decide,by decide,λh=>absurd h zB,λh=>absurd h zB,λh=>absurd h zB,λh=>absurd h zB⟩,?_⟩;unfold ZQ;refine eM call124 λF hF=>?_
  refine WW ?_;exact zK
 by_cases h17:k=17
 ·subst h17;refine⟨⟨0,1,0,0,0,-1⟩,true,⟨by decide,by decide,by decide,by decide,λh=>absurd h zB,λh=>absurd h zB,λh=>absurd h zB,λh=>absurd h zB⟩,?_⟩;unfold ZQ;refine eM call124 λF hF=>?_
  refine WW ?_;exact zK
 by_cases h18:k=18
 ·subst h18;refine⟨⟨0,1,3,0,16,0⟩,true,⟨by decide,by decide,by decide,by decide,λh=>absurd h zB,λh=>absurd h zB,λh=>absurd h zB,λh=>absurd h zB⟩,?_⟩;unfold ZQ;refine eM call124 λF hF=>?_
  refine WW ?_;exact zK
 by_cases h19:k=19
 ·subst h19;refine⟨⟨0,0,2,0,4,0⟩,true,⟨by decide,by decide,by decide,by decide,λh=>absurd h zB,λh=>absurd h zB,λh=>absurd h zB,λh=>absurd h zB⟩,?_⟩;unfold ZQ;refine eM call124 λF hF=>?_
  refine WW ?_;exact zK
 by_cases h20:k=20
 ·subst h20;refine⟨⟨0,4,0,0,0,0⟩,true,⟨by decide,by decide,by decide,by decide,λh=>absurd h zB,λh=>absurd h zB,λh=>absurd h zB,λh=>absurd h zB⟩,?_⟩;unfold ZQ;refine eM call124 λF hF=>?_
  refine WW ?_;exact zK
 by_cases h21:k=21
 ·subst h21;refine⟨⟨0,1,0,0,0,-1⟩,true,⟨by decide,by decide,by decide,by decide,λh=>absurd h zB,λh=>absurd h zB,λh=>absurd h zB,λh=>absurd h zB⟩,?_⟩;unfold ZQ;refine eM call124 λF hF=>?_
  refine WW ?_;exact zK
 by_cases h22:k=22
 ·subst h22;refine⟨⟨0,1,0,0,0,0⟩,true,⟨by decide,by decide,by decide,by decide,λh=>absurd h zB,λh=>absurd h zB,λh=>absurd h zB,λh=>absurd h zB⟩,?_⟩;unfold ZQ;refine eM call124 λF hF=>?_
  refine WW ?_;exact zK
 refine⟨⟨0,0,0,0,0,0⟩,false,⟨by decide,by decide,by decide,by decide,λh=>absurd h h2,λh=>absurd h h3,λh=>absurd h h4,λh=>absurd h h5⟩,?_⟩;unfold ZQ;refine eM call124 λF hF=>?_
 refine WW ?_;exact zK
theorem zGv (s:Shp) (hg:s.g=0∨s.g=2∨s.g=3∨s.g=4) (hf:0<=s.f/\s.f<=4) (n:Int) (hn:0<=n/\n<=1000000):∃(gr:Int) (ok:Bool),(-1000000<=gr/\gr<=1000000)/\(s.g=0->gr=0/\ok=decide (n=s.f))/\zN 125 [ZQ s,iA n] [] (.tup [iA gr,bA ok]) []:=by
 obtain⟨t,f,g,lo,hi,da⟩:=s;dsimp only at *;rw[show ZQ ⟨t,f,g,lo,hi,da⟩= .agg [iA t,iA f,iA g,iA lo,iA hi,iA da]from rfl]
 rcases hg with rfl|rfl|rfl|rfl
 ·by_cases h:n=f
  ·refine⟨0,true,zB,λ_=>⟨rfl,(zXg h).symm⟩,?_⟩;refine eM call125 λF hF=>?_
   refine WW ?_;exact zK
  ·refine⟨0,false,zB,λ_=>⟨rfl,(zXj h).symm⟩,?_⟩;refine eM call125 λF hF=>?_
   refine WW ?_;exact zK
 ·by_cases h1:n-f<0
  ·refine⟨0,false,zB,λh=>absurd h xL,?_⟩;refine eM call125 λF hF=>?_
   refine WW ?_;exact zK
  have hb:0<=(n-f).tdiv 2/\(n-f).tdiv 2<=1000000:=by
   rw[zY0 zB];omega
  have hq:YI .i64 ((n-f).tdiv 2):=by
   unfold YI;have e1:IntKind.i64.min= -9223372036854775808:=by decide
   have e2:IntKind.i64.max=9223372036854775807:=by decide
   omega
  by_cases h2:(n-f).tmod 2=0
  case neg=>
   refine⟨0,false,zB,λh=>absurd h xL,?_⟩;refine eM call125 λF hF=>?_
   refine WW ?_;exact zK
  generalize hm:(n-f).tmod 2=m at *;by_cases h3:lo<=(n-f).tdiv 2
  case neg=>
   refine⟨(n-f).tdiv 2,false,zB,λh=>absurd h xL,?_⟩;subst hm;refine eM call125 λF hF=>?_
   refine WW ?_;exact zK
  by_cases h4:(n-f).tdiv 2<=hi
  ·refine⟨(n-f).tdiv 2,true,zB,λh=>absurd h xL,?_⟩;subst hm;refine eM call125 λF hF=>?_
   refine WW ?_;exact zK
  ·refine⟨(n-f).tdiv 2,false,zB,λh=>absurd h xL,?_⟩;subst hm;refine eM call125 λF hF=>?_
   refine WW ?_;exact zK
 ·by_cases h1:n-f<0
  ·refine⟨0,false,zB,λh=>absurd h xL,?_⟩;refine eM call125 λF hF=>?_
   refine WW ?_;exact zK
  have hb:0<=(n-f).tdiv 3/\(n-f).tdiv 3<=1000000:=by
   rw[zY0 zB];omega
  have hq:YI .i64 ((n-f).tdiv 3):=by
   unfold YI;have e1:IntKind.i64.min= -9223372036854775808:=by decide
   have e2:IntKind.i64.max=9223372036854775807:=by decide
   omega
  by_cases h2:(n-f).tmod 3=0
  case neg=>
   refine⟨0,false,zB,λh=>absurd h xL,?_⟩;refine eM call125 λF hF=>?_
   refine WW ?_;exact zK
  generalize hm:(n-f).tmod 3=m at *;by_cases h3:lo<=(n-f).tdiv 3
  case neg=>
   refine⟨(n-f).tdiv 3,false,zB,λh=>absurd h xL,?_⟩;subst hm;refine eM call125 λF hF=>?_
   refine WW ?_;exact zK
  by_cases h4:(n-f).tdiv 3<=hi
  ·refine⟨(n-f).tdiv 3,true,zB,λh=>absurd h xL,?_⟩;subst hm;refine eM call125 λF hF=>?_
   refine WW ?_;exact zK
  ·refine⟨(n-f).tdiv 3,false,zB,λh=>absurd h xL,?_⟩;subst hm;refine eM call125 λF hF=>?_
   refine WW ?_;exact zK
 ·by_cases h1:n-f<0
  ·refine⟨0,false,zB,λh=>absurd h xL,?_⟩;refine eM call125 λF hF=>?_
   refine WW ?_;exact zK
  have hb:0<=(n-f).tdiv 4/\(n-f).tdiv 4<=1000000:=by
   rw[zY0 zB];omega
  have hq:YI .i64 ((n-f).tdiv 4):=by
   unfold YI;have e1:IntKind.i64.min= -9223372036854775808:=by decide
   have e2:IntKind.i64.max=9223372036854775807:=by decide
   omega
  by_cases h2:(n-f).tmod 4=0
  case neg=>
   refine⟨0,false,zB,λh=>absurd h xL,?_⟩;refine eM call125 λF hF=>?_
   refine WW ?_;exact zK
  generalize hm:(n-f).tmod 4=m at *;by_cases h3:lo<=(n-f).tdiv 4
  case neg=>
   refine⟨(n-f).tdiv 4,false,zB,λh=>absurd h xL,?_⟩;subst hm;refine eM call125 λF hF=>?_
   refine WW ?_;exact zK
  by_cases h4:(n-f).tdiv 4<=hi
  ·refine⟨(n-f).tdiv 4,true,zB,λh=>absurd h xL,?_⟩;subst hm;refine eM call125 λF hF=>?_
   refine WW ?_;exact zK
  ·refine⟨(n-f).tdiv 4,false,zB,λh=>absurd h xL,?_⟩;subst hm;refine eM call125 λF hF=>?_
   refine WW ?_;exact zK
theorem TJ (l:List Int) (hl:l.length<=1073741824):zN 79 [zD yA l] [] (.ref 1001 0 (l.map yA).length) [(1001,.arr 1 (l.map yA) false)]:=by
 have hll:=zA yA l;refine eM call79 λF hF=>?_
 refine yY 0 rfl (λcap hx=>?_) ?_
 ·have:l=[]:=by simpa using hx
  subst this
  (repeat' (first|refine WZN ?_|refine xQ (λhc=>?_) (λhc=>?_)|refine wD (λhc=>?_)|fail))
  refine uF 2 1001 1 rfl rfl rfl (yU ?_);exact zL [1001] rfl rfl rfl rfl
 ·repeat' (first|(refine zE ?_;first|refine vK tok rfl rfl ?_|(refine wZ ?_;refine xK (yW tok (.inl ⟨rfl,rfl⟩) rfl rfl rfl rfl) rfl ?_)|(refine yT ?_;refine uG (nw:=[1001]) (yJ tok 1001 (xs:=[]) rfl rfl rfl rfl rfl rfl rfl rfl rfl) rfl rfl rfl ?_)|(refine yV ?_;refine wO tok rfl rfl rfl rfl rfl rfl rfl (xH _ _ (λ_=>rfl)) rfl rfl rfl zB rfl ?_)|refine qC ?_)|(first|refine xS ?_|refine yZ ?_|refine vA rfl ?_|refine zX rfl ?_|refine zQ rfl ?_|refine xJ rfl (λhc=>?_) (λhc=>?_)|refine yX ?_|refine yU ?_|refine xA ?_|refine yS ?_))
  exact zL [1001] rfl rfl rfl rfl
def nmB (n:Int):Bool:=decide (0<=n/\n<=4294967295)
theorem zA4 (n:Int):veF n=if nmB n=true then 0 else 8:=by
 unfold veF nmB;by_cases h:0<=n/\n<=4294967295
 ·rw[zW9 h,zXg h,zW9 rfl]
 ·rw[zW8 h,zXj h,zW8 zXx]
def pyN (s:Shp) (gr:Int) (tok args:List Int):Nat->List Int
 |0=>tok
 |i+1=>(if(i:Int)=s.f/\0<s.g then pyN s gr tok args i++UK gr else pyN s gr tok args i)++UK (args.getD i default)
def pyG (s:Shp) (gr:Int) (tok args:List Int) (i:Nat):List Int:=if(i:Int)=s.f/\0<s.g then pyN s gr tok args i++UK gr else pyN s gr tok args i
theorem KD (s:Shp) (gr:Int) (tok args:List Int):∀i,(pyN s gr tok args i).length<=tok.length+12*i
 |0=>by show tok.length<=_;omega
 |i+1=>by
  have:=KD s gr tok args i;have h1:=cW gr;have h2:=cW (args.getD i default);unfold pyN
  split<;>simp only[zXb]<;>omega
theorem zMr (s:Shp) (gr:Int) (tok args:List Int) (i:Nat):(pyG s gr tok args i).length<=tok.length+12*i+6:=by
 have:=KD s gr tok args i;have h1:=cW gr;unfold pyG
 split<;>(try simp only[zXb])<;>omega
theorem zGw (args:List Int):∀n,n<=args.length->(∃k,k<n/\nmB (args.getD k default)=false/\∀i,i<k->nmB (args.getD i default)=true)∨(∀i,i<n->nmB (args.getD i default)=true)
 |0,_=> .inr λi hi=>absurd hi (zZq _)
 | n+1,hn=>by
  rcases zGw args n zB with⟨k,h1,h2,h3⟩|h
  ·exact .inl ⟨k,zB,h2,h3⟩
  ·cases hb:nmB (args.getD n default)with
   |true=>
    refine .inr λi hi=>?_
    by_cases e:i=n
    ·subst e;exact hb
    ·exact h i zB
   |false=>exact .inl ⟨n,zB,hb,h⟩
structure MsB (m:Ms):Prop where
 t:m.tok.length<=1000
 a:m.args.length<=1000
 d:m.data.length<=1000
theorem zGx (m:Ms) (hm:MsB m):∃(xs:List AV) (e:Int),(e=0∨e=6)/\zN 72 [zY m] [] (.tup [.sl false xs,iA e]) []/\(∀f:Nat,(m.kind=2/\f=3)∨(m.kind=3/\f=1)∨(m.kind=4/\f=2)∨(m.kind=5/\f=1)->(e=0↔(m.tok.length=10/\m.data=[]/\m.args.length=f/\∀i,i<f->nmB (m.args.getD i default)=true))):=by
 obtain⟨s,ok,hs,c1⟩:=zMq m.kind;obtain⟨gr,ok2,hgr,hg0,c2⟩:=zGv s hs.g hs.f ((m.args.map iA).length:Int) (by have:=hm.a;simp;omega);have c3:=TJ m.tok (by have:=hm.t;omega);have b1:=hm.t;have b2:=hm.a;have b3:=hm.d;have hlt:=zA yA m.tok;have hla:=zA iA m.args;have hld:=zA yA m.data
 have hq:∀f:Nat,(m.kind=2/\f=3)∨(m.kind=3/\f=1)∨(m.kind=4/\f=2)∨(m.kind=5/\f=1)->s.t=10/\s.f=f/\s.g=0/\s.da=0/\ok=true:=λf hf=>by
  rcases hf with⟨h,rfl⟩|⟨h,rfl⟩|⟨h,rfl⟩|⟨h,rfl⟩
  ·obtain⟨e1,e2⟩:=hs.k2 h;subst e1;exact⟨rfl,rfl,rfl,rfl,e2⟩
  ·obtain⟨e1,e2⟩:=hs.k3 h;subst e1;exact⟨rfl,rfl,rfl,rfl,e2⟩
  ·obtain⟨e1,e2⟩:=hs.k4 h;subst e1;exact⟨rfl,rfl,rfl,rfl,e2⟩
  ·obtain⟨e1,e2⟩:=hs.k5 h;subst e1;exact⟨rfl,rfl,rfl,rfl,e2⟩
 have hst:=hs.t;have hsf:=hs.f;have hsg:=hs.g;have hsd:=hs.da;clear hs;obtain⟨mk,tk,ar,da⟩:=m;dsimp only at *;rw[show zY ⟨mk,tk,ar,da⟩= .agg [iA mk,zD yA tk,zD iA ar,zD yA da]from rfl];have hpl:=KD s gr tk ar;have hpg:=zMr s gr tk ar;have hp0:pyN s gr tk ar 0=tk:=rfl
 have hpG:∀i:Nat,pyG s gr tk ar i=if(i:Int)=s.f/\0<s.g then pyN s gr tk ar i++UK gr else pyN s gr tk ar i:=λ_=>rfl
 have hpS:∀i:Nat,pyN s gr tk ar (i+1)=pyG s gr tk ar i++UK (ar.getD i default):=λ_=>rfl
 generalize pyG s gr tk ar=pg at *;generalize pyN s gr tk ar=py at *;obtain⟨st,sf,sg,slo,shi,sda⟩:=s;dsimp only at *;rw[show ZQ ⟨st,sf,sg,slo,shi,sda⟩= .agg [iA st,iA sf,iA sg,iA slo,iA shi,iA sda]from rfl]at*
 cases ok with
 |false=>
  refine⟨[],6,.inr rfl,?_,λf hf=>⟨λh=>absurd h xL,λh=>absurd (hq f hf).2.2.2.2 xL⟩⟩;clear hpl hpg hpG hpS hq;refine eM call72 λF hF=>?_
  refine zU c1 ?_;exact zK
 |true=>
 by_cases h1:(tk.length:Int)=st
 case neg=>
  refine⟨[],6,.inr rfl,?_,λf hf=>⟨λh=>absurd h xL,λh=>absurd (show(tk.length:Int)=st by have:=(hq f hf).1;omega) h1⟩⟩;clear hpl hpg hpG hpS hq;refine eM call72 λF hF=>?_
  refine zU c1 ?_;exact zK
 by_cases h2:sda= -1∨(da.length:Int)=sda
 case neg=>
  have h2a:¬sda= -1:=λh=>h2 (.inl h)
  have h2b:¬(da.length:Int)=sda:=λh=>h2 (.inr h)
  refine⟨[],6,.inr rfl,?_,λf hf=>⟨λh=>absurd h xL,λh=>absurd (show(da.length:Int)=sda by have:=(hq f hf).2.2.2.1;rw[h.2.1];simp;omega) h2b⟩⟩;clear hpl hpg hpG hpS hq h2;refine eM call72 λF hF=>?_
  refine zU c1 ?_;exact zK
 cases ok2 with
 | false=>
  refine⟨[],6,.inr rfl,?_,λf hf=>⟨λh=>absurd h xL,λh=>?_⟩⟩
  case refine_2=>
   obtain⟨q1,q2,q3,q4,_⟩:=hq f hf;have h5:=(hg0 q3).2;rw[zXg (show((ar.map iA).length:Int)=sf by omega)]at h5;cases h5
  clear hpl hpg hpG hpS hq
  rcases h2 with h2|h2
  ·(refine eM call72 λF hF=>?_)
   refine yO (wW c1 c2) ?_;exact zK
  ·(refine eM call72 λF hF=>?_)
   refine yO (wW c1 c2) ?_;exact zK
 |true=>
 by_cases h3:(da.length:Int)<=200
 case neg=>
  refine⟨[],6,.inr rfl,?_,λf hf=>⟨λh=>absurd h xL,λh=>absurd (show(da.length:Int)<=200 by rw[h.2.1];simp) h3⟩⟩;clear hpl hpg hpG hpS hq
  rcases h2 with h2|h2
  ·(refine eM call72 λF hF=>?_)
   refine yO (wW c1 c2) ?_;exact zK
  ·(refine eM call72 λF hF=>?_)
   refine yO (wW c1 c2) ?_;exact zK
 have cg:=KB gr;have hlg:=zA yA (UK gr);have hvg:=cW gr
 rcases zGw ar ar.length (zXc _)with⟨k,hk1,hk2,hk3⟩|hall
 ·refine⟨[],6,.inr rfl,?_,λf hf=>⟨λh=>absurd h xL,λh=>?_⟩⟩
  case refine_2=>
   have:=h.2.2.2 k zB;rw[hk2]at this;cases this
  clear hq hg0;have hinv:∀i,i<k->veF (ar.getD i default)=0:=λi hi=>by rw[zA4,hk3 i hi,zW9 rfl]
  have hinv2:veF (ar.getD k default)=8:=by rw[zA4,hk2,zW8 zXx]
  clear hk2 hk3
  rcases h2 with h2|h2
  all_goals
   refine eM call72 λF hF=>?_
   refine yO (gU c1 c2 c3) ?_
  all_goals
   refine vW 1001 rfl ?_;refine xT (ar.length+1) [1001,1,4] [1,4] [1,4,6,64] [7,65,1,4,6,64] rfl (λi T U zs=>(i<=k)/\zs=⟨(7,.ref 1001 0 ((py i).map yA).length)::(65,iA i)::T,(1001,.arr 1 ((py i).map yA) true)::U⟩) ?_;(conv=>whnf);refine⟨?_,?_,?_⟩
   ·refine⟨zXp _,?_⟩;rw[hp0];rfl
   ·rintro i st' hi ⟨hik,rfl⟩;have cv:=KB (ar.getD i default);have hy:=zM iA ar i zB;have hbl:=hpl i;have hb2:=hpg i;have hg:=hpG i;have hS:=hpS i;have hlp:=zA yA (py i);have hlv:=zA yA (UK (ar.getD i default));have hvv:=cW (ar.getD i default)
    have hve:(i<k/\veF (ar.getD i default)=0)∨(i=k/\veF (ar.getD i default)=8):=by
     by_cases e:i=k
     ·subst e;exact .inr ⟨rfl,hinv2⟩
     ·exact .inl ⟨zB,hinv i zB⟩
    have hmS:(py (i+1)).map yA=(pg i).map yA++(UK (ar.getD i default)).map yA:=by rw[hS,zXf]
    have hmG:(pg i).map yA=if(i:Int)=sf/\0<sg then(py i).map yA++(UK gr).map yA else(py i).map yA:=by
     rw[hg];split
     ·rw[zXf]
     ·rfl
    rw[hmS];clear hS hg hpl hpg hpG hpS hp0 hmS c1 c2 c3 hinv hinv2;generalize (py i).map yA=A at *;generalize (pg i).map yA=B at *;generalize UK (ar.getD i default)=V at *;generalize veF (ar.getD i default)=ve at *;generalize ar.getD i default=a at *;generalize UK gr=W at *;by_cases hi1:(i:Int)=sf
    ·by_cases hi2:0<sg
     ·rw[zW9 ⟨hi1,hi2⟩]at hmG;subst hmG
      rcases hve with⟨hv1,rfl⟩|⟨hv1,rfl⟩
      ·(refine yO (wW cg cv) ?_)
       exact⟨zB,rfl⟩
      ·(refine yO (wW cg cv) ?_)
       exact zK
     ·rw[zW8 (λh=>hi2 h.2)]at hmG;subst hmG
      rcases hve with⟨hv1,rfl⟩|⟨hv1,rfl⟩
      ·(refine zU cv ?_)
       exact⟨zB,rfl⟩
      ·(refine zU cv ?_)
       exact zK
    ·rw[zW8 (λh=>hi1 h.1)]at hmG;subst hmG
     rcases hve with⟨hv1,rfl⟩|⟨hv1,rfl⟩
     ·(refine zU cv ?_)
      exact⟨zB,rfl⟩
     ·(refine zU cv ?_)
      exact zK
   ·rintro st' ⟨hik,rfl⟩;exfalso;omega
 ·have hgl:=hpg ar.length;by_cases hz:((pg ar.length).map yA++da.map yA).length<=200
  case neg=>
   refine⟨[],6,.inr rfl,?_,λf hf=>⟨λh=>absurd h xL,λh=>?_⟩⟩
   case refine_2=>
    exfalso;apply hz;have e1:=h.1;have e2:=h.2.1;have e3:=h.2.2.1;have e4:f<=3:=by omega
    rw[zXb,zXa,zXa,e2];simp only[zYa];omega
   clear hq hg0;have hinv:∀i,i<ar.length->veF (ar.getD i default)=0:=λi hi=>by rw[zA4,hall i hi,zW9 rfl]
   clear hall
   rcases h2 with h2|h2
   all_goals
    refine eM call72 λF hF=>?_
    refine yO (gU c1 c2 c3) ?_
   all_goals
    refine vW 1001 rfl ?_;refine xT (ar.length+1) [1001,1,4] [1,4] [1,4,6,64] [7,65,1,4,6,64] rfl (λi T U zs=>(i<=ar.length)/\zs=⟨(7,.ref 1001 0 ((py i).map yA).length)::(65,iA i)::T,(1001,.arr 1 ((py i).map yA) true)::U⟩) ?_;(conv=>whnf);refine⟨?_,?_,?_⟩
    ·refine⟨zXp _,?_⟩;rw[hp0];rfl
    ·rintro i st' hi ⟨hik,rfl⟩;have hbl:=hpl i;have hb2:=hpg i;have hg:=hpG i;have hlp:=zA yA (py i);have hlP:=zA yA (pg i)
     have hmG:(pg i).map yA=if(i:Int)=sf/\0<sg then(py i).map yA++(UK gr).map yA else(py i).map yA:=by
      rw[hg];split
      ·rw[zXf]
      ·rfl
     by_cases hie:i=ar.length
     ·subst hie;clear hpS hg hpl hpg hpG hp0 c1 c2 c3 hinv;generalize (py ar.length).map yA=A at *;generalize (pg ar.length).map yA=B at *;generalize UK gr=W at *;by_cases hi1:(ar.length:Int)=sf
      ·by_cases hi2:0<sg
       ·rw[zW9 ⟨hi1,hi2⟩]at hmG;subst hmG;refine zU cg ?_;exact zK
       ·rw[zW8 (λh=>hi2 h.2)]at hmG;subst hmG;refine WW ?_;exact zK
      ·rw[zW8 (λh=>hi1 h.1)]at hmG;subst hmG;refine WW ?_;exact zK
     have cv:=KB (ar.getD i default);rw[hinv i zB]at cv;have hy:=zM iA ar i zB;have hS:=hpS i;have hlv:=zA yA (UK (ar.getD i default));have hvv:=cW (ar.getD i default);have hmS:(py (i+1)).map yA=(pg i).map yA++(UK (ar.getD i default)).map yA:=by rw[hS,zXf]
     rw[hmS];clear hS hg hpl hpg hpG hpS hp0 hmS c1 c2 c3 hinv hz hgl;generalize (pg ar.length).map yA=E at *;generalize (py i).map yA=A at *;generalize (pg i).map yA=B at *;generalize UK (ar.getD i default)=V at *;generalize ar.getD i default=a at *;generalize UK gr=W at *;by_cases hi1:(i:Int)=sf
     ·by_cases hi2:0<sg
      ·rw[zW9 ⟨hi1,hi2⟩]at hmG;subst hmG;refine yO (wW cg cv) ?_;exact⟨zB,rfl⟩
      ·rw[zW8 (λh=>hi2 h.2)]at hmG;subst hmG;refine zU cv ?_;exact⟨zB,rfl⟩
     ·rw[zW8 (λh=>hi1 h.1)]at hmG;subst hmG;refine zU cv ?_;exact⟨zB,rfl⟩
    ·rintro st' ⟨hik,rfl⟩;exfalso;omega
  refine⟨((pg ar.length).map yA++da.map yA).take ((pg ar.length).map yA++da.map yA).length,0,.inl rfl,?_,λf hf=>⟨λ_=>?_,λ_=>rfl⟩⟩
  case refine_2=>
   obtain⟨q1,q2,q3,q4,_⟩:=hq f hf;have h5:=yBp (hg0 q3).2.symm;refine⟨zB,zYc zB,zB,λi hi=>hall i zB⟩
  clear hq hg0;have hinv:∀i,i<ar.length->veF (ar.getD i default)=0:=λi hi=>by rw[zA4,hall i hi,zW9 rfl]
  clear hall
  rcases h2 with h2|h2
  all_goals
   refine eM call72 λF hF=>?_
   refine yO (gU c1 c2 c3) ?_
  all_goals
   refine vW 1001 rfl ?_;refine xT (ar.length+1) [1001,1,4] [1,4] [1,4,6,64] [7,65,1,4,6,64] rfl (λi T U zs=>(i<=ar.length)/\zs=⟨(7,.ref 1001 0 ((py i).map yA).length)::(65,iA i)::T,(1001,.arr 1 ((py i).map yA) true)::U⟩) ?_;(conv=>whnf);refine⟨?_,?_,?_⟩
   ·refine⟨zXp _,?_⟩;rw[hp0];rfl
   ·rintro i st' hi ⟨hik,rfl⟩;have hbl:=hpl i;have hb2:=hpg i;have hg:=hpG i;have hlp:=zA yA (py i);have hlP:=zA yA (pg i)
    have hmG:(pg i).map yA=if(i:Int)=sf/\0<sg then(py i).map yA++(UK gr).map yA else(py i).map yA:=by
     rw[hg];split
     ·rw[zXf]
     ·rfl
    by_cases hie:i=ar.length
    ·subst hie;clear hpS hg hpl hpg hpG hp0 c1 c2 c3 hinv;generalize (py ar.length).map yA=A at *;generalize (pg ar.length).map yA=B at *;generalize UK gr=W at *;by_cases hi1:(ar.length:Int)=sf
     ·by_cases hi2:0<sg
      ·rw[zW9 ⟨hi1,hi2⟩]at hmG;subst hmG;refine zU cg ?_;exact zK
      ·rw[zW8 (λh=>hi2 h.2)]at hmG;subst hmG;refine WW ?_;exact zK
     ·rw[zW8 (λh=>hi1 h.1)]at hmG;subst hmG;refine WW ?_;exact zK
    have cv:=KB (ar.getD i default);rw[hinv i zB]at cv;have hy:=zM iA ar i zB;have hS:=hpS i;have hlv:=zA yA (UK (ar.getD i default));have hvv:=cW (ar.getD i default);have hmS:(py (i+1)).map yA=(pg i).map yA++(UK (ar.getD i default)).map yA:=by rw[hS,zXf]
    rw[hmS];clear hS hg hpl hpg hpG hpS hp0 hmS c1 c2 c3 hinv hz hgl;generalize (pg ar.length).map yA=E at *;generalize (py i).map yA=A at *;generalize (pg i).map yA=B at *;generalize UK (ar.getD i default)=V at *;generalize ar.getD i default=a at *;generalize UK gr=W at *;by_cases hi1:(i:Int)=sf
    ·by_cases hi2:0<sg
     ·rw[zW9 ⟨hi1,hi2⟩]at hmG;subst hmG;refine yO (wW cg cv) ?_;exact⟨zB,rfl⟩
     ·rw[zW8 (λh=>hi2 h.2)]at hmG;subst hmG;refine zU cv ?_;exact⟨zB,rfl⟩
    ·rw[zW8 (λh=>hi1 h.1)]at hmG;subst hmG;refine zU cv ?_;exact⟨zB,rfl⟩
   ·rintro st' ⟨hik,rfl⟩;exfalso;omega
def kdP (k:Int) (f:Nat):Prop:=(k=2/\f=3)∨(k=3/\f=1)∨(k=4/\f=2)∨(k=5/\f=1)
def mvP (m:Ms) (f:Nat):Prop:=m.tok.length=10/\m.data=[]/\m.args.length=f/\∀i,i<f->nmB (m.args.getD i default)=true
theorem zGy (m:Ms) (hm:MsB m):∃b:Bool,zN 119 [zY m] [] (bA b) []/\∀f,kdP m.kind f->(b=true↔mvP m f):=by
 obtain⟨xs,e,he,c,h⟩:=zGx m hm
 rcases he with rfl|rfl
 ·refine⟨true,?_,λf hf=>⟨λ_=>(h f hf).1 rfl,λ_=>rfl⟩⟩;clear h;refine eM call119 λF hF=>?_
  refine zU c ?_;exact zK
 ·refine⟨false,?_,λf hf=>⟨λh1=>absurd h1 zXx,λh1=>absurd ((h f hf).2 h1) xL⟩⟩;clear h;refine eM call119 λF hF=>?_
  refine zU c ?_;exact zK
def FA:Nat->Int->List Int
 |0,n=>[n]
 |z+1,n=>if 128<=n then(n % 128+128)::FA z (n/128)else [n]
theorem RE:∀z n,(FA z n).length<=z+1
 |0,n=>zXc _
 |z+1,n=>by
  unfold FA;split
  ·have:=RE z (n/128);simp only[zXl];omega
  ·simp
theorem zMs (z:Nat) (n:Int) (h:n<128):FA z n=[n]:=by
 cases z with
 |zero=>rfl
 |succ z=>unfold FA;rw[zW8 zB]
def szN:Nat->Int->Int
 |0,_=>0
 |z+1,n=>if 128<=n then 1+szN z (n/128)else 0
theorem KE:∀z n,0<=szN z n/\szN z n<=z
 |0,n=>⟨zZf _,zZf _⟩
 |z+1,n=>by
  unfold szN;split
  ·have:=KE z (n/128);omega
  ·omega
theorem zMt (z:Nat) (n:Int) (h:n<128):szN z n=0:=by
 cases z with
 |zero=>rfl
 |succ z=>unfold szN;rw[zW8 zB]
theorem zGz (x:Int) (h0:0<=x) (h1:x<=4294967295):x.tdiv 128=x/128/\YI .i64 (x.tdiv 128):=by
 have e:=zY0 (a:=x) (b:=128) h0;refine⟨e,?_⟩;rw[e];exact⟨by show(-9223372036854775808:Int)<=_;omega,by show _<=(9223372036854775807:Int);omega⟩
theorem zMu (n:Int) (h1:0<=n) (h2:n<=4294967295):∃k:Int,1<=k/\zN 203 [iA n] [] (iA k) []:=by
 refine⟨1+szN 5 n,by have:=KE 5 n;omega,?_⟩;have hs5:=KE 5 n;refine eM call203 λF hF=>?_
 refine WW ?_;refine fW (5) [] [] [] [0,3] rfl (λzn T U zs=>∃(x:Int) (k:Int),(0<=x/\x<=4294967295/\x<P7 zn*128/\k+szN zn x=1+szN 5 n/\1<=k)/\zs=⟨(0,iA x)::(3,iA k)::T,U⟩) ?_;(conv=>whnf);refine⟨?_,?_⟩
 ·exact⟨n,1,⟨h1,h2,by show n<34359738368*128;omega,rfl,zZf _⟩,rfl⟩
 ·rintro zn st ⟨x,k,⟨b1,b1',b2,b3,b4⟩,rfl⟩;by_cases hx:128<=x
  ·have hz:zn≠0:=λe=>by
    subst e;have:P7 0=1:=rfl;omega
   obtain⟨z,rfl⟩:∃z,zn=z+1:=⟨zn-1,zB⟩;obtain⟨e,hq⟩:=zGz x b1 b1';have hP:P7 (z+1)=128*P7 z:=rfl
   have e2:szN (z+1) x=1+szN z (x/128):=by
    show(if 128<=x then _ else _)=_
    rw[zW9 hx]
   rw[e2,<-e]at b3;have hx2:0<=x.tdiv 128/\x.tdiv 128<=4294967295/\x.tdiv 128<P7 z*128:=by rw[e];rw[hP]at b2;omega
   have hk6:=KE z (x.tdiv 128);clear e2 hP e b2;refine WW ?_;exact⟨z,zB,x.tdiv 128,k+1,⟨hx2.1,hx2.2.1,hx2.2.2,zB,zB⟩,rfl⟩
  ·rw[zMt zn x zB,Int.add_zero]at b3;rw[<-b3];refine WW ?_;exact zK
theorem zRy (n:Int) (h1:0<=n) (h2:n<=4294967295):zN 174 [iA n] [] (.tup [zD yA (FA 5 n),iA 0]) []:=by
 obtain⟨k,hk,c⟩:=zMu n h1 h2;refine eM call174 λF hF=>?_
 refine zU c ?_;refine xG 4 1001 1 rfl rfl rfl ?_;refine fW (5) [1001] [] [] [0,4] rfl (λzn T U zs=>∃(acc:List Int) (x:Int),(0<=x/\x<=4294967295/\x<P7 zn*128/\acc++FA zn x=FA 5 n/\acc.length<=100)/\zs=⟨(0,iA x)::(4,.ref 1001 0 (acc.map yA).length)::T,(1001,.arr 1 (acc.map yA) true)::U⟩) ?_;(conv=>whnf);refine⟨?_,?_⟩
 ·exact⟨[],n,⟨h1,h2,by show n<34359738368*128;omega,rfl,by simp⟩,rfl⟩
 ·rintro zn st ⟨acc,x,⟨b1,b1',b2,b3,b4⟩,rfl⟩;have hla:=zA yA acc;by_cases hx:128<=x
  ·have hz:zn≠0:=λe=>by
    subst e;have:P7 0=1:=rfl;omega
   obtain⟨z,rfl⟩:∃z,zn=z+1:=⟨zn-1,zB⟩;obtain⟨e,hq⟩:=zGz x b1 b1';have e9:=zYn (a:=x) (b:=128) b1;have hP:P7 (z+1)=128*P7 z:=rfl
   have e2:FA (z+1) x=(x % 128+128)::FA z (x/128):=by
    show(if 128<=x then _ else _)=_
    rw[zW9 hx]
   rw[e2]at b3;have hm:(acc++[x.tmod 128+128]).map yA=acc.map yA++[yA (x.tmod 128+128)]:=by simp
   have hb5:acc++[x.tmod 128+128]++FA z (x.tdiv 128)=FA 5 n:=by rw[e,e9,zXy];exact b3
   have hr9:0<=x.tmod 128/\x.tmod 128<=127:=by rw[e9];omega
   have hx2:0<=x.tdiv 128/\x.tdiv 128<=4294967295/\x.tdiv 128<P7 z*128:=by rw[e];rw[hP]at b2;omega
   have hlc:acc.length+1<=100:=by
    have h6:=zX7 List.length b3;have h7:=RE 5 n;simp only[zXb,zXl]at h6;omega
   clear e2 b3 hP e e9;refine WW ?_;exact⟨z,zB,acc++[x.tmod 128+128],x.tdiv 128,⟨hx2.1,hx2.2.1,hx2.2.2,hb5,by simpa using hlc⟩,by rw[hm];rfl⟩
  ·rw[zMs zn x zB]at b3;rw[<-b3];have hm:zD yA (acc++[x])= .sl false ((acc.map yA++[yA (x)]).take (acc.map yA++[yA (x)]).length):=by rw[zXe];unfold zD;rw[zXf];rfl
   rw[hm];refine WW ?_;exact zK
def qyN (tok args:List Int):Nat->List Int
 |0=>tok
 |i+1=>qyN tok args i++FA 5 (args.getD i default)
theorem zA5 (tok args:List Int):∀i,(qyN tok args i).length<=tok.length+6*i
 |0=>by show tok.length<=_;omega
 |i+1=>by
  have:=zA5 tok args i;have h2:=RE 5 (args.getD i default);unfold qyN;simp only[zXb];omega
def r5A (f:Int):AV:= .agg [iA f,iA 0,iA 0,iA 0,iA 0]
theorem zG0 (k:Int) (f:Nat) (hf:kdP k f):zN 138 [iA k] [] (r5A f) []:=by
 rcases hf with⟨rfl,rfl⟩|⟨rfl,rfl⟩|⟨rfl,rfl⟩|⟨rfl,rfl⟩
 all_goals
  refine eM call138 λF hF=>?_
  refine WW ?_;exact zK
theorem zMv (k:Int) (h1:1<=k) (h2:k<=12):zN 139 [iA k] [] (bA true) []:=by
 refine eM call139 λF hF=>?_
 refine WW ?_;exact zK
theorem zMw (m:Ms) (f:Nat) (hf:kdP m.kind f) (h:mvP m f):∃xs:List AV,xs.length<=200/\zN 140 [zY m] [] (.sl false xs) []:=by
 obtain⟨h1,h2,h3,h4⟩:=h;have c1:=zG0 m.kind f hf;have hf3:f<=3/\1<=f:=by unfold kdP at hf;omega
 obtain⟨mk,tk,ar,da⟩:=m;dsimp only at *;subst h2;have hQ:=zA5 tk ar;refine⟨((qyN tk ar f).map yA++[]).take ((qyN tk ar f).map yA++[]).length,by have:=hQ f;simp;omega,?_⟩;have hlt:=zA yA tk;have hla:=zA iA ar;have hq0:qyN tk ar 0=tk:=rfl;have hqS:∀i:Nat,qyN tk ar (i+1)=qyN tk ar i++FA 5 (ar.getD i default):=λ_=>rfl
 generalize qyN tk ar=qy at *;rw[show zY ⟨mk,tk,ar,[]⟩= .agg [iA mk,zD yA tk,zD iA ar,zD yA []]from rfl];rw[show r5A f= .agg [iA f,iA 0,iA 0,iA 0,iA 0]from rfl]at c1;clear hf;refine eM call140 λF hF=>?_
 (have zc1:=c1;(repeat' (first|refine qA ?_|refine xQ (λhc=>?_) (λhc=>?_)|refine wD (λhc=>?_)|(refine zE ?_;first|(refine yV ?_;refine jI 1001 tok rfl rfl rfl rfl rfl rfl (xH _ _ (λ_=>rfl)) rfl rfl rfl zB rfl rfl rfl ?_))|fail))<;>clear zc1)
 refine vW 1001 rfl ?_;refine xT (ar.length) [1001,1,3] [1,3] [1,3,16,17] [4,18,1,3,16,17] rfl (λi T U zs=>(i<=ar.length)/\zs=⟨(4,.ref 1001 0 ((qy i).map yA).length)::(18,iA i)::T,(1001,.arr 1 ((qy i).map yA) true)::U⟩) ?_;(conv=>whnf);refine⟨?_,?_,?_⟩
 ·refine⟨zXp _,?_⟩;rw[hq0];rfl
 ·rintro i st' hi ⟨hik,rfl⟩;have hn:=h4 i zB;unfold nmB at hn;rw[zXi]at hn;have cv:=zRy (ar.getD i default) hn.1 hn.2;have hy:=zM iA ar i hi;have hbl:=hQ i;have hlp:=zA yA (qy i);have hlv:=zA yA (FA 5 (ar.getD i default));have hvv:=RE 5 (ar.getD i default);have hmS:(qy (i+1)).map yA=(qy i).map yA++(FA 5 (ar.getD i default)).map yA:=by rw[hqS,zXf]
  rw[hmS];clear hqS hQ hq0 hmS c1 hn h4;generalize (qy i).map yA=A at *;generalize FA 5 (ar.getD i default)=V at *;generalize ar.getD i default=a at *;refine zU cv ?_;exact⟨zB,rfl⟩
 ·rintro st' ⟨hik,rfl⟩;subst h3;have hbl:=hQ ar.length;have hlp:=zA yA (qy ar.length);clear hqS hQ hq0 h4 c1;generalize (qy ar.length).map yA=A at *;have hl0:(([]:List Int).map yA).length=0:=rfl;refine WW ?_;exact zK
theorem zC4 (m:Ms) (hm:MsB m) (f:Nat) (hf:kdP m.kind f):∃b:Bool,zN 84 [zY m] [] (bA b) []/\(b=true↔mvP m f):=by
 have c1:=zG0 m.kind f hf;have hk:2<=m.kind/\m.kind<=5:=by unfold kdP at hf;omega
 have c2:=zMv m.kind zB zB;have cp:=zMw m f hf;have b1:=hm.t;have b2:=hm.a;have b3:=hm.d;have hlt:=zA yA m.tok;have hla:=zA iA m.args;have hld:=zA yA m.data;have hf3:f<=3/\1<=f:=by unfold kdP at hf;omega
 rw[show r5A f= .agg [iA f,iA 0,iA 0,iA 0,iA 0]from rfl]at c1;by_cases h1:m.tok.length=10
 case neg=>
  refine⟨false,?_,λh=>absurd h zXx,λh=>absurd h.1 h1⟩;clear cp;refine eM call84 λF hF=>?_
  refine yO (wW c1 c2) ?_;exact zK
 by_cases h2:m.args.length=f
 case neg=>
  refine⟨false,?_,λh=>absurd h zXx,λh=>absurd h.2.2.1 h2⟩;clear cp;refine eM call84 λF hF=>?_
  refine yO (wW c1 c2) ?_;exact zK
 by_cases h3:m.data.length=0
 case neg=>
  refine⟨false,?_,λh=>absurd h zXx,λh=>absurd (by rw[h.2.1];rfl) h3⟩;clear cp;refine eM call84 λF hF=>?_
  refine yO (wW c1 c2) ?_;exact zK
 have h3:=zYc h3
 rcases zGw m.args m.args.length (zXc _)with⟨k,hk1,hk2,hk3⟩|hall
 ·refine⟨false,?_,λh=>absurd h zXx,λh=>?_⟩
  case refine_2=>
   have:=h.2.2.2 k zB;rw[hk2]at this;cases this
  clear cp;refine eM call84 λF hF=>?_
  refine yO (wW c1 c2) ?_;refine xT (m.args.length) [1] [1] [1,97,98] [99,1,97,98] rfl (λi T U zs=>(i<=k)/\zs=⟨(99,iA i)::T,U⟩) ?_;(conv=>whnf);refine⟨?_,?_,?_⟩
  ·exact⟨zXp _,rfl⟩
  ·rintro i st' hi ⟨hik,rfl⟩;have hy:=zM iA m.args i hi;by_cases e:i=k
   ·subst e;unfold nmB at hk2;rw[zXu]at hk2;generalize m.args.getD i default=a at *;by_cases g1:0<=a
    ·have g2:¬a<=4294967295:=λh=>hk2 ⟨g1,h⟩
     clear hk2;refine WW ?_;exact zK
    ·clear hk2;refine WW ?_;exact zK
   ·have hn:=hk3 i zB;unfold nmB at hn;rw[zXi]at hn;obtain⟨hn1,hn2⟩:=hn;clear hk2 hk3;generalize m.args.getD i default=a at *;refine WW ?_;exact⟨zB,rfl⟩
  ·rintro st' ⟨hik,rfl⟩;exfalso;omega
 ·have hok:mvP m f:=⟨h1,h3,h2,λi hi=>hall i zB⟩;obtain⟨xs,hx,c3⟩:=cp hok;refine⟨true,?_,λ_=>hok,λ_=>rfl⟩;clear hok cp;rw[show zY m= .agg [iA m.kind,zD yA m.tok,zD iA m.args,zD yA m.data]from rfl]at *; refine eM call84 λF hF=>?_
  refine yO (wW c1 c2) ?_;refine zP (m.args.length) [1] [1] [1,97,98] [99,1,97,98] rfl (λi T U=>⟨(99,iA i)::T,U⟩) ?_;(conv=>whnf);refine⟨by rfl,?_,?_⟩
  ·intro i hi;have hy:=zM iA m.args i hi;have hn:=hall i hi;unfold nmB at hn;rw[zXi]at hn;obtain⟨hn1,hn2⟩:=hn;clear hall;generalize m.args.getD i default=a at *;refine WW ?_;rfl
  ·(refine zU c3 ?_)
   exact zK
theorem FB (l:List Vh) (id:Int):∃k,k<=l.length/\(∀i,i<k->(l.getD i default).id<id)/\(k<l.length->¬(l.getD k default).id<id):=by
 induction l with
 |nil=>exact⟨0,zXc _,λi h=>absurd h (zZq _),λh=>absurd h zS⟩
 | cons x l ih=>
  obtain⟨k,h1,h2,h3⟩:=ih;by_cases hx:x.id<id
  ·refine⟨k+1,by simpa using h1,λi hi=>?_,λhk=>?_⟩
   ·cases i with
    |zero=>exact hx
    |succ i=>exact h2 i zB
   ·exact h3 (by simpa using hk)
  ·exact⟨0,zXp _,λi h=>absurd h (zZq _),λ_=>hx⟩
theorem zPl {l:List Vh}:HC l=true↔l.length<=8/\∀i,i<l.length->(0<=(l.getD i default).id/\(l.getD i default).id<=4294967295/\0<=(l.getD i default).cls/\(l.getD i default).cls<=3)/\(0<i->(l.getD (i-1) default).id<(l.getD i default).id):=by
 unfold HC;simp only[zXo,zXi,zXm,zXz];constructor
 ·rintro⟨h1,h2⟩;refine⟨zB,λi hi=>?_⟩;have:=h1 i hi;unfold UM at this;rw[zXi]at this;exact⟨⟨this.1,this.2.1,this.2.2.1,this.2.2.2.1⟩,this.2.2.2.2⟩
 ·rintro⟨h1,h2⟩;refine⟨λi hi=>?_,zB⟩;unfold UM;rw[zXi];have:=h2 i hi;exact⟨this.1.1,this.1.2.1,this.1.2.2.1,this.1.2.2.2,this.2⟩
def avL (a:Ag):Bool:=a.lim.all λn=>jK n 0 8
def avF (a:Ag):Bool:=decide ((a.sec.length:Int)=8/\(a.lim.length:Int)=4)&&(avL a&&(jK a.rights 0 63&&(jK a.cls 0 3&&(jK a.req 0 4&&(jK a.ses 1 2&&(jK a.burst 0 1000&&jK a.rate 0 a.burst))))))
theorem zVg {a:Ag} (h:∀s:Nat,s<a.lim.length->jK (a.lim.getD s default) 0 8=true):avL a=true:=by
 unfold avL;rw[zXm];intro x hx;obtain⟨i,hi,rfl⟩:=zZk hx;have:=h i hi;simpa [List.getD,hi]using this
theorem zVh {a:Ag} {i:Nat} (hi:i<a.lim.length) (h:jK (a.lim.getD i default) 0 8=false):avL a=false:=by
 unfold avL;rw[zZ7];exact⟨a.lim.getD i default,by simp[List.getD,hi],by rw[h];decide⟩
theorem zC5 (a:Ag):zN 143 [vH a] [] (bA (avF a)) []:=by
 have hs:=zA yA a.sec;have hl:=zA iA a.lim;have c1:=vS a.rights 0 63;have c2:=vS a.cls 0 3;have c3:=vS a.req 0 4;have c4:=vS a.ses 1 2;have c5:=vS a.burst 0 1000;have c6:=vS a.rate 0 a.burst;by_cases h1:(a.sec.length:Int)=8/\(a.lim.length:Int)=4
 case neg=>
  have e:avF a=false:=by unfold avF;rw[zXj h1];rfl
  rw[e];by_cases g1:(a.sec.length:Int)=8
  ·(refine eM call143 λF hF=>?_)
   refine WW ?_;exact zK
  ·(refine eM call143 λF hF=>?_)
   refine WW ?_;exact zK
 obtain⟨h1,h2⟩:=h1
 have e:avF a=(avL a&&(jK a.rights 0 63&&(jK a.cls 0 3&&(jK a.req 0 4&&(jK a.ses 1 2&&(jK a.burst 0 1000&&jK a.rate 0 a.burst)))))):=by
  unfold avF;rw[zXg ⟨h1,h2⟩,zX1]
 rw[e];refine eM call143 λF hF=>?_
 refine WW ?_;refine xT (a.lim.length) [1] [1] [1,16,17] [18,1,16,17] rfl (λi T U zs=>(∀s:Nat,s<i->jK (a.lim.getD s default) 0 8=true)/\zs=⟨(18,iA i)::T,U⟩) ?_;(conv=>whnf);refine⟨?_,?_,?_⟩
 ·exact⟨λs hs=>absurd hs (zZq _),rfl⟩
 ·rintro i st hi ⟨hp,rfl⟩;have hy:=zM iA a.lim i hi;have c:=vS (a.lim.getD i default) 0 8
  cases hq:jK (a.lim.getD i default) 0 8 with
  | true=>
   rw[hq]at c
   have hp2:∀s:Nat,s<i+1->jK (a.lim.getD s default) 0 8=true:=λs hs=>by
    by_cases hsi:s=i
    ·subst hsi;assumption
    ·exact hp s zB
   clear hq hp;generalize hx:a.lim.getD i default=x at *;clear hx;refine zU c ?_;exact⟨hp2,rfl⟩
  |false=>
   rw[hq]at c;rw[zVh hi hq,zY2];generalize a.lim.getD i default=x at *;refine zU c ?_;exact zK
 ·rintro st ⟨hp,rfl⟩;rw[zVg hp,zX1];clear hp;generalize jK a.rights 0 63=q1 at *;generalize jK a.cls 0 3=q2 at *;generalize jK a.req 0 4=q3 at *;generalize jK a.ses 1 2=q4 at *;generalize jK a.burst 0 1000=q5 at *;generalize jK a.rate 0 a.burst=q6 at *;cases q1
  ·(refine zU c1 ?_)
   exact zK
  cases q2
  ·(refine yO (wW c1 c2) ?_)
   exact zK
  cases q3
  ·(refine yO (gU c1 c2 c3) ?_)
   exact zK
  cases q4
  ·(refine yO (aB c1 c2 c3 c4) ?_)
   exact zK
  cases q5
  ·(refine yO (zt5 c1 c2 c3 c4 c5) ?_)
   exact zK
  ·(refine yO (zt6 c1 c2 c3 c4 c5 c6) ?_)
   exact zK
theorem WK (l:List Vh) (hn:l.length<=1000000):zN 281 [zD vZ l] [] (bA (HC l)) []:=by
 have hl:=zA vZ l;by_cases h8:(l.length:Int)<=8
 case neg=>
  have e:HC l=false:=by unfold HC;rw[zXj h8,yBa]
  rw[e];refine eM call281 λF hF=>?_
  refine WW ?_;exact zK
 refine eM call281 λF hF=>?_
 refine WW ?_;refine xT (l.length) [] [] [0,8,9] [10,0,8,9] rfl (λi T U zs=>(∀s:Nat,s<i->UM l s=true)/\zs=⟨(10,iA i)::T,U⟩) ?_;(conv=>whnf);refine⟨?_,?_,?_⟩
 ·exact⟨λs hs=>absurd hs (zZq _),rfl⟩
 ·rintro i st hi ⟨hp,rfl⟩
  have next:UM l i=true->∀s:Nat,s<i+1->UM l s=true:=λh s hs=>by
   by_cases hsi:s=i
   ·subst hsi;exact h
   ·exact hp s zB
  have stop:=λh=>zR3 (l:=l) hi h
  have hy:=zM vZ l i hi;have htok:UM l i=_:=rfl
  conv at htok=>rhs;unfold UM
  by_cases hi0:0<i
  ·have hyp:=yM vZ l ((i:Int)-1) zB zB;rw[show((i:Int)-1).toNat=i-1 by omega]at hyp;have hyq:(l.map vZ)[((i:Int)-1).toNat]? =some (vZ (l.getD (i-1) default)):=by rw[show((i:Int)-1).toNat=i-1 by omega];exact hyp
   clear hyp;generalize l.getD i default=t at *;generalize l.getD (i-1) default=p at *;generalize UM l i=tk at *;by_cases h1:0<=t.id/\t.id<=4294967295/\0<=t.cls/\t.cls<=3/\p.id<t.id
   ·obtain⟨h1,h2,h3,h4,h5⟩:=h1;rw[zXg ⟨h1,h2,h3,h4,λ_=>h5⟩]at htok;refine WW ?_;exact⟨next htok,rfl⟩
   ·rw[zXj (λh=>h1 ⟨h.1,h.2.1,h.2.2.1,h.2.2.2.1,h.2.2.2.2 hi0⟩)]at htok;rw[stop htok]
    by_cases g1:0<=t.id<;>by_cases g2:t.id<=4294967295<;>by_cases g3:0<=t.cls<;>by_cases g4:t.cls<=3<;>by_cases g5:p.id<t.id<;>first|(exfalso;exact h1 ⟨g1,g2,g3,g4,g5⟩)|(exfalso;omega;done)|(clear h1;((refine WW ?_));exact zK)
  ·obtain rfl:i=0:=by omega
   generalize l.getD 0 default=t at *;generalize UM l 0=tk at *;by_cases h1:0<=t.id/\t.id<=4294967295/\0<=t.cls/\t.cls<=3
   ·obtain⟨h1,h2,h3,h4⟩:=h1;rw[zXg ⟨h1,h2,h3,h4,λh=>absurd h hi0⟩]at htok;refine WW ?_;exact⟨next htok,rfl⟩
   ·rw[zXj (λh=>h1 ⟨h.1,h.2.1,h.2.2.1,h.2.2.2.1⟩)]at htok;rw[stop htok]
    by_cases g1:0<=t.id<;>by_cases g2:t.id<=4294967295<;>by_cases g3:0<=t.cls<;>by_cases g4:t.cls<=3<;>first|(exfalso;exact h1 ⟨g1,g2,g3,g4⟩)|(exfalso;omega;done)|(clear h1;((refine WW ?_));exact zK)
 ·rintro st ⟨hp,rfl⟩;have e:((List.range l.length).all λi=>UM l i)=true:=zXm.2 λi hi=>hp i (zXz.1 hi)
  unfold HC;rw[e,zX1];rw[zXg h8];refine WW ?_;exact zK
def gvF (r:Rg):Bool:=decide (0<=r.num/\r.num<4)&&(avF r.ag&&(NC r.tk&&(HC r.vh&&(bvF r.bk&&decide (r.bk.rate=r.ag.rate/\r.bk.burst=r.ag.burst)))))
theorem aO (r:Rg) (hv:r.vh.length<=1000000):zN 258 [uW r] [] (bA (gvF r)) []:=by
 have c1:=zC5 r.ag;have c2:=WM r.tk;have c3:=WK r.vh hv;have c4:=zH2 r.bk;unfold gvF;generalize avF r.ag=q1 at *;generalize NC r.tk=q2 at *;generalize HC r.vh=q3 at *;generalize bvF r.bk=q4 at *;by_cases h1:0<=r.num
 case neg=>
  rw[zXj (λh=>h1 h.1)];refine eM call258 λF hF=>?_
  refine WW ?_;exact zK
 by_cases h2:r.num<4
 case neg=>
  rw[zXj (λh=>h2 h.2)];refine eM call258 λF hF=>?_
  refine WW ?_;exact zK
 rw[zXg ⟨h1,h2⟩]
 cases q1 with
 |false=>
  refine eM call258 λF hF=>?_
  refine zU c1 ?_;exact zK
 |true=>
 cases q2 with
 |false=>
  refine eM call258 λF hF=>?_
  refine yO (wW c1 c2) ?_;exact zK
 |true=>
 cases q3 with
 |false=>
  refine eM call258 λF hF=>?_
  refine yO (gU c1 c2 c3) ?_;exact zK
 |true=>
 cases q4 with
 |false=>
  refine eM call258 λF hF=>?_
  refine yO (aB c1 c2 c3 c4) ?_;exact zK
 |true=>
 by_cases h3:r.bk.rate=r.ag.rate
 case neg=>
  rw[zXj (λh=>h3 h.1)];refine eM call258 λF hF=>?_
  refine yO (aB c1 c2 c3 c4) ?_;exact zK
 by_cases h4:r.bk.burst=r.ag.burst
 ·rw[zXg ⟨h3,h4⟩];refine eM call258 λF hF=>?_
  refine yO (aB c1 c2 c3 c4) ?_
  all_goals (first|exact zK|exact CE)
 ·rw[zXj (λh=>h4 h.2)];refine eM call258 λF hF=>?_
  refine yO (aB c1 c2 c3 c4) ?_
  all_goals (first|exact zK|exact CE)
theorem cJ (r:Rg) (hv:r.vh.length<=1000000):yR [uW r] [] (bA (gvF r)) []:=yG
end Av
end Go.Proofs.YtmamjhmoegjapaaGreat
