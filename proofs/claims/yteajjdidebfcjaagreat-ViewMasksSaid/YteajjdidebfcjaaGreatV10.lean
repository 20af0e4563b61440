/- Part 10. -/
import Derived.Test.YteajjdidebfcjaaGreatV09
namespace Go.Proofs.YteajjdidebfcjaaGreat
namespace Av
open Tryz
set_option linter.all false
set_option maxRecDepth 4000
set_option maxHeartbeats 4000000
def VQ (n:Int) (a:Ag) (N:Nat):xI:=⟨CE n a,[],[],List.replicate N false⟩
def zUg (n:Int) (a:Ag) (N:Nat) (hN:N=1∨N=2) (ha:a.ses=(N:Int)) (hs:a.sec.length<=1000000) (hl:a.lim.length<=1000000):zO 57 [iA n,vU a] [] (zK (VQ n a N)) []:=by
 have c1:=zTt n a hs hl;unfold VQ;obtain⟨sec,ri,cl,li,rq,se,ra,bu⟩:=a;dsimp only at ha;subst ha;unfold vU qW at c1;unfold vU zK wI;dsimp only at *;generalize CE n ⟨sec,ri,cl,li,rq,(N:Int),ra,bu⟩=r at*
 rcases hN with rfl|rfl
 all_goals
  refine eM call57 λF hF=>?_
  refine zY c1 ?_;exact zJ
def zPo (n:Int) (a:Ag) (N:Nat) (hN:N=1∨N=2) (ha:a.ses=(N:Int)) (hs:a.sec.length<=1000000) (hl:a.lim.length<=1000000):yV [iA n,vU a] [] (zK (VQ n a N)) []:=yI
def w2 (p:Int×Int):List Int:=[p.1,p.2]
def HQ (ws:List (Int×Int)):List Int:=(ws.map w2).flatten
theorem PN:∀ws:List (Int×Int),(HQ ws).length=2*ws.length
 | []=>rfl
 |x::l=>by
  have:=PN l
  show(x.1::x.2::HQ l).length=_
  simp only[zYh];omega
def zPp (a b:List (Int×Int)):HQ (a++b)=HQ a++HQ b:=by simp[HQ]
def zWq (x:Int) (pre post:List (Int×Int)) (q:Int×Int) (I:Int) (hI:I=1+2*(pre.length:Int)):
  ((x::HQ (pre++q::post)).map iA)[I.toNat]? =some (iA q.1)/\((x::HQ (pre++q::post)).map iA)[(I+1).toNat]? =some (iA q.2):=by
 have h:(x::HQ (pre++q::post)).drop (1+2*pre.length)=HQ (q::post):=by
  rw[zPp,show 1+2*pre.length=2*pre.length+1 by omega,yBo,yCj (by rw[PN];omega),yB2 (by rw[PN];omega),yAm]
 refine⟨?_,?_⟩<;>rw[zX8]
 ·rw[show I.toNat=1+2*pre.length+0 by omega,XH h];rfl
 ·rw[show(I+1).toNat=1+2*pre.length+1 by omega,XH h];rfl
def upQ (l:List Rq) (id:Int) (ws:List (Int×Int)) (now:Int):List Rq:=if aK l id ws now=0 then MS l id ws now else []
def zUh (c:Cf) (d:xI) (tkn:List Int) (id slot now:Int) (ws:List (Int×Int)) (hv:ZN d.rq) (hw:ws.length<=3) (n0:0<=now) (n1:now<=1073741824):
  zO 202 [vL c,zK d,yF ⟨7,tkn,id::HQ ws,[]⟩,iA slot,iA now] [] (.tup [zD yL (upQ d.rq id ws now),iA (aK d.rq id ws now)]) []:=by
 have hu:=zIj d.rq id ws now hv zB n0 n1;have hll:((id::HQ ws).map iA).length=1+2*ws.length:=by simp[PN];omega
 unfold upQ;unfold vL zK wI;rw[show yF ⟨7,tkn,id::HQ ws,[]⟩= .agg [iA 7,zD yA tkn,zD iA (id::HQ ws),.sl false []]from Z];generalize aK d.rq id ws now=e at *;generalize MS d.rq id ws now=ul at *;refine eM call202 λF hF=>?_
 refine WW ?_;refine xA 13 1001 2 Z Z Z ?_;refine gM (ws.length) [1001,6,7] [6,7] [4,6,7,12] [13,14,4,6,7,12] Z (λzn T U zs=>∃(pre:List (Int×Int)) (post:List (Int×Int)),(ws=pre++post/\zn=post.length)/\zs=⟨(13,.ref 1001 0 (pre.map wnA).length)::(14,iA (1+2*(pre.length:Int)))::T,(1001,.arr 2 (pre.map wnA) true)::U⟩) ?_;(conv=>whnf);refine⟨?_,?_⟩
 ·exact⟨[],ws,⟨rfl,rfl⟩,rfl⟩
 ·rintro zn st ⟨pre,post,⟨hqs,hzn⟩,rfl⟩;have hln:ws.length=pre.length+post.length:=by rw[hqs,zX4]
  have hpl:=zA wnA pre
  cases post with
  |nil=>
   rw[zY4]at hqs;subst hqs;rw[zZc]at hln hzn;generalize hI:1+2*(ws.length:Int)=I at *;generalize (id::HQ ws).map iA=A at*
   (have zc1:=hu;have zf1:=(⟨⟩:FzD 223 [5,6,7] [58,59,60,61]);refine WW ?_;clear zc1 zf1)
   exact zJ
  |cons q post=>
   obtain⟨y0,y1⟩:=zWq id pre post q _ Z;rw[<-hqs]at y0 y1;rw[zYh]at hln hzn;have hmp:((pre++[q]).map wnA)=pre.map wnA++[.agg [iA q.1,iA q.2]]:=by simp[wnA]
   have hI:0<=1+2*(pre.length:Int)/\1+2*(pre.length:Int)+2=1+2*((pre++[q]).length:Int)/\1+2*(pre.length:Int)+1<((id::HQ ws).map iA).length:=⟨zB,by simp;omega,zB⟩;have hfin:ws=(pre++[q])++post:=by rw[hqs];simp
   generalize (id::HQ ws).map iA=A at *;obtain⟨hI0,hI1,hI2⟩:=hI;clear hqs;generalize hqq:pre++[q]=pq at *;generalize pre.map wnA=xs at *;generalize 1+2*(pre.length:Int)=I at *;refine WW ?_;exact⟨post.length,zB,pq,post,⟨hfin,rfl⟩,by rw[hmp,<-hI1];rfl⟩
def zUi (d:xI) (tkn:List Int) (id now:Int) (ws:List (Int×Int)) (hv:ZN d.rq) (hw:ws.length<=3) (n0:0<=now) (n1:now<=1073741824):
 yV [zK d,yF ⟨7,tkn,id::HQ ws,[]⟩,iA now] [] (.tup [zK (dkQ d (if aK d.rq id ws now=0 then upQ d.rq id ws now else d.rq)),iA (aK d.rq id ws now)]) []:=yI
def zUj (c:Cf) (d:xI) (tkn:List Int) (id v life slot now:Int) (qs:List Qd) (hb:cO d) (hv:ZN d.rq) (s0:0<=slot) (s1:slot<(d.rg.tk.length:Int)) (hq:qs.length<=3) (hp:∀q∈qs,0<=q.j/\0<=q.p) (n0:0<=now) (n1:now<=1073741824):
  zO 202 [vL c,zK d,yF ⟨6,tkn,id::v::life::XO qs,[]⟩,iA slot,iA now] [] (.tup [zD yL (dsL c d (d.rg.tk.getD slot.toNat default).cls id v life now qs),iA (dsE c d (d.rg.tk.getD slot.toNat default).cls id v life now qs)]) []:=by
 have h:=zFb c d id v life slot now qs hb hv s0 s1 hq hp n0 n1;generalize dsE c d (d.rg.tk.getD slot.toNat default).cls id v life now qs=e at *;generalize dsL c d (d.rg.tk.getD slot.toNat default).cls id v life now qs=ul at *;rw[show zD iA (id::v::life::XO qs)= .sl false (iA id::iA v::iA life::(XO qs).map iA)from Z]at h;rw[show yF ⟨6,tkn,id::v::life::XO qs,[]⟩= .agg [iA 6,zD yA tkn,.sl false (iA id::iA v::iA life::(XO qs).map iA),.sl false []]from Z];generalize (XO qs).map iA=A at *;unfold vL zK wI at *;refine eM call202 λF hF=>?_
 refine zY h ?_;exact zJ
def zUk (c:Cf) (d:xI) (tkn:List Int) (id slot now:Int) (hv:ZN d.rq):
  zO 202 [vL c,zK d,yF ⟨8,tkn,[id],[]⟩,iA slot,iA now] [] (.tup [zD yL (if gY d.rq id=true then zIu d.rq id else []),iA (if gY d.rq id=true then 0 else 12)]) []:=by
 have h:=zIw d.rq id hv;generalize (if gY d.rq id=true then zIu d.rq id else [])=l at *;generalize (if gY d.rq id=true then(0:Int)else 12)=e at *;rw[show yF ⟨8,tkn,[id],[]⟩= .agg [iA 8,zD yA tkn,.sl false [iA id],.sl false []]from Z];unfold vL zK wI at *;refine eM call202 λF hF=>?_
 refine zY h ?_;exact zJ
def TU (l:List Tk) (s:Int):zO 236 [zD yY l,iA s] [] (bA (dW l s)) []:=by
 have hl:=zA yY l;unfold dW;by_cases h1:0<=s
 ·by_cases h2:s<l.length
  ·have hy:=yN yY l s h1 h2;rw[zYa ⟨h1,h2⟩,zYr];refine eM call236 λF hF=>?_
   refine WW ?_;exact zJ
  ·rw[zYb zB,zZv];refine eM call236 λF hF=>?_
   refine WW ?_;exact zJ
 ·rw[zYb zB,zZv];refine eM call236 λF hF=>?_
  refine WW ?_;exact zJ
def zK1 (g s:Int) (l:List Int) (hl:l.length<=1000000) (g0:0<=g) (g1:g<256) (s0:0<=s) (s1:s<256):zO 266 [iA g,iA s,zD yA l] [] (zD yA (g::s::l)) []:=by
 have hll:=zA yA l;refine eM call266 λF hF=>?_
 refine WW ?_;exact zI [] Z Z (zY3 (AV.sl false) (zYe zW)) Z
def zXu (n:Int) (h:0<=n):qG n 7=n/128:=by
 unfold qG;rw[zZ1 _ zV];rfl
def P7:Nat->Int
 |0=>1
 |z+1=>128*P7 z
def hiB (n:Int):Int:=IntKind.u8.wrap ((BitVec.ofInt IntKind.u8.bits (IntKind.u8.wrap (fH n 127)) ||| BitVec.ofInt IntKind.u8.bits 128).toNat)
def vbN:Nat->Int->List Int
 |0,n=>[n]
 |z+1,n=>if 128<=n then hiB n::vbN z (n/128)else [n]
theorem HR:∀z n,(vbN z n).length<=z+1
 |0,n=>zX7 _
 |z+1,n=>by
  unfold vbN;split
  ·have:=HR z (n/128);simp only[zYh];omega
  ·simp
def zPq (z:Nat) (n:Int) (h:n<128):vbN z n=[n]:=by
 cases z with
 |zero=>rfl
 |succ z=>unfold vbN;rw[zX2 zB]
def RN (n:Int):List Int:=if 0<=n/\n<=4294967295 then vbN 5 n else []
def veF (n:Int):Int:=if 0<=n/\n<=4294967295 then 0 else 8
def ZA (n:Int):(RN n).length<=6:=by
 unfold RN;split
 ·exact HR 5 n
 ·simp
def HS (n:Int):zO 180 [iA n] [] (.tup [zD yA (RN n),iA (veF n)]) []:=by
 unfold RN veF;by_cases h1:0<=n
 case neg=>
  rw[zX2 (λh=>h1 h.1),zX2 (λh=>h1 h.1)];refine eM call180 λF hF=>?_
  refine WW ?_;exact zJ
 by_cases h2:n<=4294967295
 case neg=>
  rw[zX2 (λh=>h2 h.2),zX2 (λh=>h2 h.2)];refine eM call180 λF hF=>?_
  refine WW ?_;exact zJ
 rw[zX3 ⟨h1,h2⟩,zX3 ⟨h1,h2⟩];refine eM call180 λF hF=>?_
 refine WW ?_;refine qH 11 Z ?_;refine gM (5) [11] [] [] [0,4] Z (λzn T U zs=>∃(acc:List Int) (x:Int),(0<=x/\x<P7 zn*128/\acc++vbN zn x=vbN 5 n/\acc.length<=100)/\zs=⟨(0,iA x)::(4,.ref 11 0 (acc.map yA).length)::T,(11,.arr 1 (acc.map yA) true)::U⟩) ?_;(conv=>whnf);refine⟨?_,?_⟩
 ·exact⟨[],n,⟨h1,by show n<34359738368*128;omega,rfl,by simp⟩,rfl⟩
 ·rintro zn st ⟨acc,x,⟨b1,b2,b3,b4⟩,rfl⟩;have hla:=zA yA acc;by_cases hx:128<=x
  ·have hz:zn≠0:=λe=>by
    subst e;have:P7 0=1:=rfl;omega
   obtain⟨z,rfl⟩:∃z,zn=z+1:=⟨zn-1,zB⟩;have e:=zXu x b1;have hP:P7 (z+1)=128*P7 z:=rfl
   have e2:vbN (z+1) x=hiB x::vbN z (x/128):=by
    show(if 128<=x then _ else _)=_
    rw[zX3 hx]
   rw[e2]at b3;have hm:(acc++[hiB x]).map yA=acc.map yA++[yA (hiB x)]:=by simp
   have hb5:acc++[hiB x]++vbN z (qG x 7)=vbN 5 n:=by rw[e,zYw];exact b3
   have hx2:0<=qG x 7/\qG x 7<P7 z*128:=by rw[e];rw[hP]at b2;omega
   have hlc:acc.length+1<=100:=by
    have h6:=zY3 List.length b3;have h7:=HR 5 n;simp only[zX4,zYh]at h6;omega
   clear e2 b3 hP
   (repeat' (first|refine uJ ?_|apply xL|apply wB|intro hc|(refine zE ?_;first|(refine xM ?_;refine zP (IM Z Z) Z ?_))|fail))
   exact⟨z,zB,acc++[hiB x],qG x 7,⟨hx2.1,hx2.2,hb5,by simpa using hlc⟩,by rw[hm];rfl⟩
  ·rw[zPq zn x zB]at b3;rw[<-b3];have hm:zD yA (acc++[x])= .sl false ((acc.map yA++[yA (x)]).take (acc.map yA++[yA (x)]).length):=by rw[zX6];unfold zD;rw[zYd];rfl
   rw[hm];refine WW ?_;exact zJ
structure Shp where
 t:Int
 f:Int
 g:Int
 lo:Int
 hi:Int
 da:Int
def XP (s:Shp):AV:= .agg [iA s.t,iA s.f,iA s.g,iA s.lo,iA s.hi,iA s.da]
structure zXv (k:Int) (s:Shp) (ok:Bool):Prop where
 t:0<=s.t/\s.t<=10
 f:0<=s.f/\s.f<=4
 g:s.g=0∨s.g=2∨s.g=3∨s.g=4
 da: -1<=s.da/\s.da<=10
 k2:k=2->s=⟨10,3,0,0,0,0⟩/\ok=true
 k3:k=3->s=⟨10,1,0,0,0,0⟩/\ok=true
 k4:k=4->s=⟨10,2,0,0,0,0⟩/\ok=true
 k5:k=5->s=⟨10,1,0,0,0,0⟩/\ok=true
theorem zPr (k:Int):∃(s:Shp) (ok:Bool),zXv k s ok/\zO 103 [iA k] [] (.tup [XP s,bA ok]) []:=by
 by_cases h1:k=1
 ·subst h1;refine⟨⟨10,0,0,0,0,0⟩,true,⟨by decide,by decide,by decide,by decide,λh=>absurd h zB,λh=>absurd h zB,λh=>absurd h zB,λh=>absurd h zB⟩,?_⟩;unfold XP;refine eM call103 λF hF=>?_
  refine WW ?_;exact zJ
 by_cases h2:k=2
 ·subst h2;refine⟨⟨10,3,0,0,0,0⟩,true,⟨by decide,by decide,by decide,by decide,λ_=>⟨rfl,rfl⟩,λh=>absurd h zB,λh=>absurd h zB,λh=>absurd h zB⟩,?_⟩;unfold XP;refine eM call103 λF hF=>?_
  refine WW ?_;exact zJ
 by_cases h3:k=3
 ·subst h3;refine⟨⟨10,1,0,0,0,0⟩,true,⟨by decide,by decide,by decide,by decide,λh=>absurd h zB,λ_=>⟨rfl,rfl⟩,λh=>absurd h zB,λh=>absurd h zB⟩,?_⟩;unfold XP;refine eM call103 λF hF=>?_
  refine WW ?_;exact zJ
 by_cases h4:k=4
 ·subst h4;refine⟨⟨10,2,0,0,0,0⟩,true,⟨by decide,by decide,by decide,by decide,λh=>absurd h zB,λh=>absurd h zB,λ_=>⟨rfl,rfl⟩,λh=>absurd h zB⟩,?_⟩;unfold XP;refine eM call103 λF hF=>?_
  refine WW ?_;exact zJ
 by_cases h5:k=5
 ·subst h5;refine⟨⟨10,1,0,0,0,0⟩,true,⟨by decide,by decide,by decide,by decide,λh=>absurd h zB,λh=>absurd h zB,λh=>absurd h zB,λ_=>⟨rfl,rfl⟩⟩,?_⟩;unfold XP;refine eM call103 λF hF=>?_
  refine WW ?_;exact zJ
 by_cases h6:k=6
 ·subst h6;refine⟨⟨10,3,4,1,3,0⟩,true,⟨by decide,by decide,by decide,by decide,λh=>absurd h zB,λh=>absurd h zB,λh=>absurd h zB,λh=>absurd h zB⟩,?_⟩;unfold XP;refine eM call103 λF hF=>?_
  refine WW ?_;exact zJ
 by_cases h7:k=7
 ·subst h7;refine⟨⟨10,1,2,1,3,0⟩,true,⟨by decide,by decide,by decide,by decide,λh=>absurd h zB,λh=>absurd h zB,λh=>absurd h zB,λh=>absurd h zB⟩,?_⟩;unfold XP;refine eM call103 λF hF=>?_
  refine WW ?_;exact zJ
 by_cases h8:k=8
 ·subst h8;refine⟨⟨10,1,0,0,0,0⟩,true,⟨by decide,by decide,by decide,by decide,λh=>absurd h zB,λh=>absurd h zB,λh=>absurd h zB,λh=>absurd h zB⟩,?_⟩;unfold XP;refine eM call103 λF hF=>?_
  refine WW ?_;exact zJ
 by_cases h9:k=9
 ·subst h9;refine⟨⟨10,0,0,0,0,0⟩,true,⟨by decide,by decide,by decide,by decide,λh=>absurd h zB,λh=>absurd h zB,λh=>absurd h zB,λh=>absurd h zB⟩,?_⟩;unfold XP;refine eM call103 λF hF=>?_
  refine WW ?_;exact zJ
 by_cases h10:k=10
 ·subst h10;refine⟨⟨10,1,0,0,0,0⟩,true,⟨by decide,by decide,by decide,by decide,λh=>absurd h zB,λh=>absurd h zB,λh=>absurd h zB,λh=>absurd h zB⟩,?_⟩;unfold XP;refine eM call103 λF hF=>?_
  refine WW ?_;exact zJ
 by_cases h11:k=11
 ·subst h11;refine⟨⟨10,1,0,0,0,0⟩,true,⟨by decide,by decide,by decide,by decide,λh=>absurd h zB,λh=>absurd h zB,λh=>absurd h zB,λh=>absurd h zB⟩,?_⟩;unfold XP;refine eM call103 λF hF=>?_
  refine WW ?_;exact zJ
 by_cases h12:k=12
 ·subst h12;refine⟨⟨10,0,0,0,0,0⟩,true,⟨by decide,by decide,by decide,by decide,λh=>absurd h zB,λh=>absurd h zB,λh=>absurd h zB,λh=>absurd h zB⟩,?_⟩;unfold XP;refine eM call103 λF hF=>?_
  refine WW ?_;exact zJ
 by_cases h13:k=13
 ·subst h13;refine⟨⟨0,2,0,0,0,0⟩,true,⟨by decide,by decide,by decide,by decide,λh=>absurd h zB,λh=>absurd h zB,λh=>absurd h zB,λh=>absurd h zB⟩,?_⟩;unfold XP;refine eM call103 λF hF=>?_
  refine WW ?_;exact zJ
 by_cases h14:k=14
 ·subst h14;refine⟨⟨0,2,0,0,0,0⟩,true,⟨by decide,by decide,by decide,by decide,λh=>absurd h zB,λh=>absurd h zB,λh=>absurd h zB,λh=>absurd h zB⟩,?_⟩;unfold XP;refine eM call103 λF hF=>?_
  refine WW ?_;exact zJ
 by_cases h15:k=15
 ·subst h15;refine⟨⟨0,2,0,0,0,0⟩,true,⟨by decide,by decide,by decide,by decide,λh=>absurd h zB,λh=>absurd h zB,λh=>absurd h zB,λh=>absurd h zB⟩,?_⟩;unfold XP;refine eM call103 λF hF=>?_
  refine WW ?_;exact zJ
 by_cases h16:k=16
 ·subst h16;refine⟨⟨0,1,0,0,0,10⟩,true,⟨by decide,by decide,by decide,by decide,λh=>absurd h zB,λh=>absurd h zB,λh=>absurd h zB,λh=>absurd h zB⟩,?_⟩;unfold XP;refine eM call103 λF hF=>?_
  refine WW ?_;exact zJ
 by_cases h17:k=17
 ·subst h17;refine⟨⟨0,1,0,0,0,-1⟩,true,⟨by decide,by decide,by decide,by decide,λh=>absurd h zB,λh=>absurd h zB,λh=>absurd h zB,λh=>absurd h zB⟩,?_⟩;unfold XP;refine eM call103 λF hF=>?_
  refine WW ?_;exact zJ
 by_cases h18:k=18
 ·subst h18;refine⟨⟨0,1,3,0,16,0⟩,true,⟨by decide,by decide,by decide,by decide,λh=>absurd h zB,λh=>absurd h zB,λh=>absurd h zB,λh=>absurd h zB⟩,?_⟩;unfold XP;refine eM call103 λF hF=>?_
  refine WW ?_;exact zJ
 by_cases h19:k=19
 ·subst h19;refine⟨⟨0,0,2,0,4,0⟩,true,⟨by decide,by decide,by decide,by decide,λh=>absurd h zB,λh=>absurd h zB,λh=>absurd h zB,λh=>absurd h zB⟩,?_⟩;unfold XP;refine eM call103 λF hF=>?_
  refine WW ?_;exact zJ
 by_cases h20:k=20
 ·subst h20;refine⟨⟨0,4,0,0,0,0⟩,true,⟨by decide,by decide,by decide,by decide,λh=>absurd h zB,λh=>absurd h zB,λh=>absurd h zB,λh=>absurd h zB⟩,?_⟩;unfold XP;refine eM call103 λF hF=>?_
  refine WW ?_;exact zJ
 by_cases h21:k=21
 ·subst h21;refine⟨⟨0,1,0,0,0,-1⟩,true,⟨by decide,by decide,by decide,by decide,λh=>absurd h zB,λh=>absurd h zB,λh=>absurd h zB,λh=>absurd h zB⟩,?_⟩;unfold XP;refine eM call103 λF hF=>?_
  refine WW ?_;exact zJ
 by_cases h22:k=22
 ·subst h22;refine⟨⟨0,1,0,0,0,0⟩,true,⟨by decide,by decide,by decide,by decide,λh=>absurd h zB,λh=>absurd h zB,λh=>absurd h zB,λh=>absurd h zB⟩,?_⟩;unfold XP;refine eM call103 λF hF=>?_
  refine WW ?_;exact zJ
 refine⟨⟨0,0,0,0,0,0⟩,false,⟨by decide,by decide,by decide,by decide,λh=>absurd h h2,λh=>absurd h h3,λh=>absurd h h4,λh=>absurd h h5⟩,?_⟩;unfold XP;refine eM call103 λF hF=>?_
 refine WW ?_;exact zJ
theorem zK2 (s:Shp) (hg:s.g=0∨s.g=2∨s.g=3∨s.g=4) (hf:0<=s.f/\s.f<=4) (n:Int) (hn:0<=n/\n<=1000000):∃(gr:Int) (ok:Bool),(-1000000<=gr/\gr<=1000000)/\(s.g=0->gr=0/\ok=decide (n=s.f))/\zO 179 [XP s,iA n] [] (.tup [iA gr,bA ok]) []:=by
 obtain⟨t,f,g,lo,hi,da⟩:=s;dsimp only at *;rw[show XP ⟨t,f,g,lo,hi,da⟩= .agg [iA t,iA f,iA g,iA lo,iA hi,iA da]from Z]
 rcases hg with rfl|rfl|rfl|rfl
 ·by_cases h:n=f
  ·refine⟨0,true,zB,λ_=>⟨rfl,(zYa h).symm⟩,?_⟩;refine eM call179 λF hF=>?_
   refine WW ?_;exact zJ
  ·refine⟨0,false,zB,λ_=>⟨rfl,(zYb h).symm⟩,?_⟩;refine eM call179 λF hF=>?_
   refine WW ?_;exact zJ
 ·by_cases h1:n-f<0
  ·refine⟨0,false,zB,λh=>absurd h zV,?_⟩;refine eM call179 λF hF=>?_
   refine WW ?_;exact zJ
  have hb:0<=(n-f).tdiv 2/\(n-f).tdiv 2<=1000000:=by
   rw[zZw zB];omega
  have hq:YH .i64 ((n-f).tdiv 2):=by
   unfold YH;have e1:IntKind.i64.min= -9223372036854775808:=by decide
   have e2:IntKind.i64.max=9223372036854775807:=by decide
   omega
  by_cases h2:(n-f).tmod 2=0
  case neg=>
   refine⟨0,false,zB,λh=>absurd h zV,?_⟩;refine eM call179 λF hF=>?_
   refine WW ?_;exact zJ
  generalize hm:(n-f).tmod 2=m at *;by_cases h3:lo<=(n-f).tdiv 2
  case neg=>
   refine⟨(n-f).tdiv 2,false,zB,λh=>absurd h zV,?_⟩;subst hm;refine eM call179 λF hF=>?_
   refine WW ?_;exact zJ
  by_cases h4:(n-f).tdiv 2<=hi
  ·refine⟨(n-f).tdiv 2,true,zB,λh=>absurd h zV,?_⟩;subst hm;refine eM call179 λF hF=>?_
   refine WW ?_;exact zJ
  ·refine⟨(n-f).tdiv 2,false,zB,λh=>absurd h zV,?_⟩;subst hm;refine eM call179 λF hF=>?_
   refine WW ?_;exact zJ
 ·by_cases h1:n-f<0
  ·refine⟨0,false,zB,λh=>absurd h zV,?_⟩;refine eM call179 λF hF=>?_
   refine WW ?_;exact zJ
  have hb:0<=(n-f).tdiv 3/\(n-f).tdiv 3<=1000000:=by
   rw[zZw zB];omega
  have hq:YH .i64 ((n-f).tdiv 3):=by
   unfold YH;have e1:IntKind.i64.min= -9223372036854775808:=by decide
   have e2:IntKind.i64.max=9223372036854775807:=by decide
   omega
  by_cases h2:(n-f).tmod 3=0
  case neg=>
   refine⟨0,false,zB,λh=>absurd h zV,?_⟩;refine eM call179 λF hF=>?_
   refine WW ?_;exact zJ
  generalize hm:(n-f).tmod 3=m at *;by_cases h3:lo<=(n-f).tdiv 3
  case neg=>
   refine⟨(n-f).tdiv 3,false,zB,λh=>absurd h zV,?_⟩;subst hm;refine eM call179 λF hF=>?_
   refine WW ?_;exact zJ
  by_cases h4:(n-f).tdiv 3<=hi
  ·refine⟨(n-f).tdiv 3,true,zB,λh=>absurd h zV,?_⟩;subst hm;refine eM call179 λF hF=>?_
   refine WW ?_;exact zJ
  ·refine⟨(n-f).tdiv 3,false,zB,λh=>absurd h zV,?_⟩;subst hm;refine eM call179 λF hF=>?_
   refine WW ?_;exact zJ
 ·by_cases h1:n-f<0
  ·refine⟨0,false,zB,λh=>absurd h zV,?_⟩;refine eM call179 λF hF=>?_
   refine WW ?_;exact zJ
  have hb:0<=(n-f).tdiv 4/\(n-f).tdiv 4<=1000000:=by
   rw[zZw zB];omega
  have hq:YH .i64 ((n-f).tdiv 4):=by
   unfold YH;have e1:IntKind.i64.min= -9223372036854775808:=by decide
   have e2:IntKind.i64.max=9223372036854775807:=by decide
   omega
  by_cases h2:(n-f).tmod 4=0
  case neg=>
   refine⟨0,false,zB,λh=>absurd h zV,?_⟩;refine eM call179 λF hF=>?_
   refine WW ?_;exact zJ
  generalize hm:(n-f).tmod 4=m at *;by_cases h3:lo<=(n-f).tdiv 4
  case neg=>
   refine⟨(n-f).tdiv 4,false,zB,λh=>absurd h zV,?_⟩;subst hm;refine eM call179 λF hF=>?_
   refine WW ?_;exact zJ
  by_cases h4:(n-f).tdiv 4<=hi
  ·refine⟨(n-f).tdiv 4,true,zB,λh=>absurd h zV,?_⟩;subst hm;refine eM call179 λF hF=>?_
   refine WW ?_;exact zJ
  ·refine⟨(n-f).tdiv 4,false,zB,λh=>absurd h zV,?_⟩;subst hm;refine eM call179 λF hF=>?_
   refine WW ?_;exact zJ
def QD (l:List Int) (hl:l.length<=1073741824):zO 66 [zD yA l] [] (.ref 1001 0 (l.map yA).length) [(1001,.arr 1 (l.map yA) false)]:=by
 have hll:=zA yA l;refine eM call66 λF hF=>?_
 refine yX 0 Z (λcap hx=>?_) ?_
 ·have:l=[]:=by simpa using hx
  subst this
  (repeat' (first|refine WZN ?_|apply xL|apply wB|intro hc|fail))
  refine uK 2 1001 1 Z Z Z (yU ?_);exact zL [1001] Z Z Z Z
 ·repeat' (first|(refine zE ?_;first|refine wL tok Z Z ?_|(refine xM ?_;refine zP (yG tok (.inl ⟨rfl,rfl⟩) Z Z Z Z) Z ?_)|(refine xR ?_;refine qE (nw:=[1001]) (yK tok 1001 (xs:=[]) Z Z Z Z Z Z Z Z Z) Z Z Z ?_)|(refine yD ?_;refine xF tok Z Z Z Z Z Z Z (zN _ _ (λ_=>rfl)) Z Z Z zB Z ?_)|refine uI ?_)|(first|refine xS ?_|refine xC ?_|refine vQ Z ?_|refine yC Z ?_|refine zU Z ?_|refine xH Z (λhc=>?_) λhc=>?_|refine yZ ?_|refine yU ?_|refine xB ?_|refine yQ ?_))
  exact zL [1001] Z Z Z Z
def nmB (n:Int):Bool:=decide (0<=n/\n<=4294967295)
def zDm (n:Int):veF n=if nmB n=true then 0 else 8:=by
 unfold veF nmB;by_cases h:0<=n/\n<=4294967295
 ·rw[zX3 h,zYa h,zX3 Z]
 ·rw[zX2 h,zYb h,zX2 zYp]
def pyN (s:Shp) (gr:Int) (tok args:List Int):Nat->List Int
 |0=>tok
 |i+1=>(if(i:Int)=s.f/\0<s.g then pyN s gr tok args i++RN gr else pyN s gr tok args i)++RN (args.getD i default)
def pyG (s:Shp) (gr:Int) (tok args:List Int) (i:Nat):List Int:=if(i:Int)=s.f/\0<s.g then pyN s gr tok args i++RN gr else pyN s gr tok args i
theorem HT (s:Shp) (gr:Int) (tok args:List Int):∀i,(pyN s gr tok args i).length<=tok.length+12*i
 |0=>by show tok.length<=_;omega
 |i+1=>by
  have:=HT s gr tok args i;have h1:=ZA gr;have h2:=ZA (args.getD i default);unfold pyN
  split<;>simp only[zX4]<;>omega
def zPs (s:Shp) (gr:Int) (tok args:List Int) (i:Nat):(pyG s gr tok args i).length<=tok.length+12*i+6:=by
 have:=HT s gr tok args i;have h1:=ZA gr;unfold pyG
 split<;>(try simp only[zX4])<;>omega
theorem zK3 (args:List Int):∀n,n<=args.length->(∃k,k<n/\nmB (args.getD k default)=false/\∀i,i<k->nmB (args.getD i default)=true)∨(∀i,i<n->nmB (args.getD i default)=true)
 |0,_=> .inr λi hi=>absurd hi (yAp _)
 | n+1,hn=>by
  rcases zK3 args n zB with⟨k,h1,h2,h3⟩|h
  ·exact .inl ⟨k,zB,h2,h3⟩
  ·cases hb:nmB (args.getD n default)with
   |true=>
    refine .inr λi hi=>?_
    by_cases e:i=n
    ·subst e;exact hb
    ·exact h i zB
   |false=>exact .inl ⟨n,zB,hb,h⟩
structure MsB (m:Ms):Prop where
 t:m.tok.length<=1000
 a:m.args.length<=1000
 d:m.data.length<=1000
theorem zK4 (m:Ms) (hm:MsB m):∃(xs:List AV) (e:Int),(e=0∨e=6)/\zO 134 [yF m] [] (.tup [.sl false xs,iA e]) []/\(∀f:Nat,(m.kind=2/\f=3)∨(m.kind=3/\f=1)∨(m.kind=4/\f=2)∨(m.kind=5/\f=1)->(e=0↔(m.tok.length=10/\m.data=[]/\m.args.length=f/\∀i,i<f->nmB (m.args.getD i default)=true))):=by
 obtain⟨s,ok,hs,c1⟩:=zPr m.kind;obtain⟨gr,ok2,hgr,hg0,c2⟩:=zK2 s hs.g hs.f ((m.args.map iA).length:Int) (by have:=hm.a;simp;omega);have c3:=QD m.tok (by have:=hm.t;omega);have b1:=hm.t;have b2:=hm.a;have b3:=hm.d;have hlt:=zA yA m.tok;have hla:=zA iA m.args;have hld:=zA yA m.data
 have hq:∀f:Nat,(m.kind=2/\f=3)∨(m.kind=3/\f=1)∨(m.kind=4/\f=2)∨(m.kind=5/\f=1)->s.t=10/\s.f=f/\s.g=0/\s.da=0/\ok=true:=λf hf=>by
  rcases hf with⟨h,rfl⟩|⟨h,rfl⟩|⟨h,rfl⟩|⟨h,rfl⟩
  ·obtain⟨e1,e2⟩:=hs.k2 h;subst e1;exact⟨rfl,rfl,rfl,rfl,e2⟩
  ·obtain⟨e1,e2⟩:=hs.k3 h;subst e1;exact⟨rfl,rfl,rfl,rfl,e2⟩
  ·obtain⟨e1,e2⟩:=hs.k4 h;subst e1;exact⟨rfl,rfl,rfl,rfl,e2⟩
  ·obtain⟨e1,e2⟩:=hs.k5 h;subst e1;exact⟨rfl,rfl,rfl,rfl,e2⟩
 have hst:=hs.t;have hsf:=hs.f;have hsg:=hs.g;have hsd:=hs.da;clear hs;obtain⟨mk,tk,ar,da⟩:=m;dsimp only at *;rw[show yF ⟨mk,tk,ar,da⟩= .agg [iA mk,zD yA tk,zD iA ar,zD yA da]from Z];have hpl:=HT s gr tk ar;have hpg:=zPs s gr tk ar;have hp0:pyN s gr tk ar 0=tk:=rfl
 have hpG:∀i:Nat,pyG s gr tk ar i=if(i:Int)=s.f/\0<s.g then pyN s gr tk ar i++RN gr else pyN s gr tk ar i:=λ_=>rfl
 have hpS:∀i:Nat,pyN s gr tk ar (i+1)=pyG s gr tk ar i++RN (ar.getD i default):=λ_=>rfl
 generalize pyG s gr tk ar=pg at *;generalize pyN s gr tk ar=py at *;obtain⟨st,sf,sg,slo,shi,sda⟩:=s;dsimp only at *;rw[show XP ⟨st,sf,sg,slo,shi,sda⟩= .agg [iA st,iA sf,iA sg,iA slo,iA shi,iA sda]from Z]at*
 cases ok with
 |false=>
  refine⟨[],6,.inr Z,?_,λf hf=>⟨λh=>absurd h zV,λh=>absurd (hq f hf).2.2.2.2 zV⟩⟩;clear hpl hpg hpG hpS hq;refine eM call134 λF hF=>?_
  refine zY c1 ?_;exact zJ
 |true=>
 by_cases h1:(tk.length:Int)=st
 case neg=>
  refine⟨[],6,.inr Z,?_,λf hf=>⟨λh=>absurd h zV,λh=>absurd (show(tk.length:Int)=st by have:=(hq f hf).1;omega) h1⟩⟩;clear hpl hpg hpG hpS hq;refine eM call134 λF hF=>?_
  refine zY c1 ?_;exact zJ
 by_cases h2:sda= -1∨(da.length:Int)=sda
 case neg=>
  have h2a:¬sda= -1:=λh=>h2 (.inl h)
  have h2b:¬(da.length:Int)=sda:=λh=>h2 (.inr h)
  refine⟨[],6,.inr Z,?_,λf hf=>⟨λh=>absurd h zV,λh=>absurd (show(da.length:Int)=sda by have:=(hq f hf).2.2.2.1;rw[h.2.1];simp;omega) h2b⟩⟩;clear hpl hpg hpG hpS hq h2;refine eM call134 λF hF=>?_
  refine zY c1 ?_;exact zJ
 cases ok2 with
 | false=>
  refine⟨[],6,.inr Z,?_,λf hf=>⟨λh=>absurd h zV,λh=>?_⟩⟩
  case refine_2=>
   obtain⟨q1,q2,q3,q4,_⟩:=hq f hf;have h5:=(hg0 q3).2;rw[zYa (show((ar.map iA).length:Int)=sf by omega)]at h5;cases h5
  clear hpl hpg hpG hpS hq
  rcases h2 with h2|h2
  ·(refine eM call134 λF hF=>?_)
   refine yR (wZ c1 c2) ?_;exact zJ
  ·(refine eM call134 λF hF=>?_)
   refine yR (wZ c1 c2) ?_;exact zJ
 |true=>
 by_cases h3:(da.length:Int)<=200
 case neg=>
  refine⟨[],6,.inr Z,?_,λf hf=>⟨λh=>absurd h zV,λh=>absurd (show(da.length:Int)<=200 by rw[h.2.1];simp) h3⟩⟩;clear hpl hpg hpG hpS hq
  rcases h2 with h2|h2
  ·(refine eM call134 λF hF=>?_)
   refine yR (wZ c1 c2) ?_;exact zJ
  ·(refine eM call134 λF hF=>?_)
   refine yR (wZ c1 c2) ?_;exact zJ
 have cg:=HS gr;have hlg:=zA yA (RN gr);have hvg:=ZA gr
 rcases zK3 ar ar.length (zX7 _)with⟨k,hk1,hk2,hk3⟩|hall
 ·refine⟨[],6,.inr Z,?_,λf hf=>⟨λh=>absurd h zV,λh=>?_⟩⟩
  case refine_2=>
   have:=h.2.2.2 k zB;rw[hk2]at this;cases this
  clear hq hg0;have hinv:∀i,i<k->veF (ar.getD i default)=0:=λi hi=>by rw[zDm,hk3 i hi,zX3 Z]
  have hinv2:veF (ar.getD k default)=8:=by rw[zDm,hk2,zX2 zYp]
  clear hk2 hk3
  rcases h2 with h2|h2
  all_goals
   refine eM call134 λF hF=>?_
   refine yR (fQ c1 c2 c3) ?_
  all_goals
   refine qH 1001 Z ?_;refine xT (ar.length+1) [1001,1,4] [1,4] [1,4,6,64] [7,65,1,4,6,64] Z (λi T U zs=>(i<=k)/\zs=⟨(7,.ref 1001 0 ((py i).map yA).length)::(65,iA i)::T,(1001,.arr 1 ((py i).map yA) true)::U⟩) ?_;(conv=>whnf);refine⟨?_,?_,?_⟩
   ·refine⟨zYl _,?_⟩;rw[hp0];rfl
   ·rintro i st' hi ⟨hik,rfl⟩;have cv:=HS (ar.getD i default);have hy:=zM iA ar i zB;have hbl:=hpl i;have hb2:=hpg i;have hg:=hpG i;have hS:=hpS i;have hlp:=zA yA (py i);have hlv:=zA yA (RN (ar.getD i default));have hvv:=ZA (ar.getD i default)
    have hve:(i<k/\veF (ar.getD i default)=0)∨(i=k/\veF (ar.getD i default)=8):=by
     by_cases e:i=k
     ·subst e;exact .inr ⟨rfl,hinv2⟩
     ·exact .inl ⟨zB,hinv i zB⟩
    have hmS:(py (i+1)).map yA=(pg i).map yA++(RN (ar.getD i default)).map yA:=by rw[hS,zYd]
    have hmG:(pg i).map yA=if(i:Int)=sf/\0<sg then(py i).map yA++(RN gr).map yA else(py i).map yA:=by
     rw[hg];split
     ·rw[zYd]
     ·rfl
    rw[hmS];clear hS hg hpl hpg hpG hpS hp0 hmS c1 c2 c3 hinv hinv2;generalize (py i).map yA=A at *;generalize (pg i).map yA=B at *;generalize RN (ar.getD i default)=V at *;generalize veF (ar.getD i default)=ve at *;generalize ar.getD i default=a at *;generalize RN gr=W at *;by_cases hi1:(i:Int)=sf
    ·by_cases hi2:0<sg
     ·rw[zX3 ⟨hi1,hi2⟩]at hmG;subst hmG
      rcases hve with⟨hv1,rfl⟩|⟨hv1,rfl⟩
      ·(refine yR (wZ cg cv) ?_)
       exact⟨zB,rfl⟩
      ·(refine yR (wZ cg cv) ?_)
       exact zJ
     ·rw[zX2 (λh=>hi2 h.2)]at hmG;subst hmG
      rcases hve with⟨hv1,rfl⟩|⟨hv1,rfl⟩
      ·(refine zY cv ?_)
       exact⟨zB,rfl⟩
      ·(refine zY cv ?_)
       exact zJ
    ·rw[zX2 (λh=>hi1 h.1)]at hmG;subst hmG
     rcases hve with⟨hv1,rfl⟩|⟨hv1,rfl⟩
     ·(refine zY cv ?_)
      exact⟨zB,rfl⟩
     ·(refine zY cv ?_)
      exact zJ
   ·rintro st' ⟨hik,rfl⟩;exfalso;omega
 ·have hgl:=hpg ar.length;by_cases hz:((pg ar.length).map yA++da.map yA).length<=200
  case neg=>
   refine⟨[],6,.inr Z,?_,λf hf=>⟨λh=>absurd h zV,λh=>?_⟩⟩
   case refine_2=>
    exfalso;apply hz;have e1:=h.1;have e2:=h.2.1;have e3:=h.2.2.1;have e4:f<=3:=by omega
    rw[zX4,zX5,zX5,e2];simp only[zZc];omega
   clear hq hg0;have hinv:∀i,i<ar.length->veF (ar.getD i default)=0:=λi hi=>by rw[zDm,hall i hi,zX3 Z]
   clear hall
   rcases h2 with h2|h2
   all_goals
    refine eM call134 λF hF=>?_
    refine yR (fQ c1 c2 c3) ?_
   all_goals
    refine qH 1001 Z ?_;refine xT (ar.length+1) [1001,1,4] [1,4] [1,4,6,64] [7,65,1,4,6,64] Z (λi T U zs=>(i<=ar.length)/\zs=⟨(7,.ref 1001 0 ((py i).map yA).length)::(65,iA i)::T,(1001,.arr 1 ((py i).map yA) true)::U⟩) ?_;(conv=>whnf);refine⟨?_,?_,?_⟩
    ·refine⟨zYl _,?_⟩;rw[hp0];rfl
    ·rintro i st' hi ⟨hik,rfl⟩;have hbl:=hpl i;have hb2:=hpg i;have hg:=hpG i;have hlp:=zA yA (py i);have hlP:=zA yA (pg i)
     have hmG:(pg i).map yA=if(i:Int)=sf/\0<sg then(py i).map yA++(RN gr).map yA else(py i).map yA:=by
      rw[hg];split
      ·rw[zYd]
      ·rfl
     by_cases hie:i=ar.length
     ·subst hie;clear hpS hg hpl hpg hpG hp0 c1 c2 c3 hinv;generalize (py ar.length).map yA=A at *;generalize (pg ar.length).map yA=B at *;generalize RN gr=W at *;by_cases hi1:(ar.length:Int)=sf
      ·by_cases hi2:0<sg
       ·rw[zX3 ⟨hi1,hi2⟩]at hmG;subst hmG;refine zY cg ?_;exact zJ
       ·rw[zX2 (λh=>hi2 h.2)]at hmG;subst hmG;refine WW ?_;exact zJ
      ·rw[zX2 (λh=>hi1 h.1)]at hmG;subst hmG;refine WW ?_;exact zJ
     have cv:=HS (ar.getD i default);rw[hinv i zB]at cv;have hy:=zM iA ar i zB;have hS:=hpS i;have hlv:=zA yA (RN (ar.getD i default));have hvv:=ZA (ar.getD i default);have hmS:(py (i+1)).map yA=(pg i).map yA++(RN (ar.getD i default)).map yA:=by rw[hS,zYd]
     rw[hmS];clear hS hg hpl hpg hpG hpS hp0 hmS c1 c2 c3 hinv hz hgl;generalize (pg ar.length).map yA=E at *;generalize (py i).map yA=A at *;generalize (pg i).map yA=B at *;generalize RN (ar.getD i default)=V at *;generalize ar.getD i default=a at *;generalize RN gr=W at *;by_cases hi1:(i:Int)=sf
     ·by_cases hi2:0<sg
      ·rw[zX3 ⟨hi1,hi2⟩]at hmG;subst hmG;refine yR (wZ cg cv) ?_;exact⟨zB,rfl⟩
      ·rw[zX2 (λh=>hi2 h.2)]at hmG;subst hmG;refine zY cv ?_;exact⟨zB,rfl⟩
     ·rw[zX2 (λh=>hi1 h.1)]at hmG;subst hmG;refine zY cv ?_;exact⟨zB,rfl⟩
    ·rintro st' ⟨hik,rfl⟩;exfalso;omega
  refine⟨((pg ar.length).map yA++da.map yA).take ((pg ar.length).map yA++da.map yA).length,0,.inl Z,?_,λf hf=>⟨λ_=>?_,λ_=>rfl⟩⟩
  case refine_2=>
   obtain⟨q1,q2,q3,q4,_⟩:=hq f hf;have h5:=yB8 (hg0 q3).2.symm;refine⟨zB,zYz zB,zB,λi hi=>hall i zB⟩
  clear hq hg0;have hinv:∀i,i<ar.length->veF (ar.getD i default)=0:=λi hi=>by rw[zDm,hall i hi,zX3 Z]
  clear hall
  rcases h2 with h2|h2
  all_goals
   refine eM call134 λF hF=>?_
   refine yR (fQ c1 c2 c3) ?_
  all_goals
   refine qH 1001 Z ?_;refine xT (ar.length+1) [1001,1,4] [1,4] [1,4,6,64] [7,65,1,4,6,64] Z (λi T U zs=>(i<=ar.length)/\zs=⟨(7,.ref 1001 0 ((py i).map yA).length)::(65,iA i)::T,(1001,.arr 1 ((py i).map yA) true)::U⟩) ?_;(conv=>whnf);refine⟨?_,?_,?_⟩
   ·refine⟨zYl _,?_⟩;rw[hp0];rfl
   ·rintro i st' hi ⟨hik,rfl⟩;have hbl:=hpl i;have hb2:=hpg i;have hg:=hpG i;have hlp:=zA yA (py i);have hlP:=zA yA (pg i)
    have hmG:(pg i).map yA=if(i:Int)=sf/\0<sg then(py i).map yA++(RN gr).map yA else(py i).map yA:=by
     rw[hg];split
     ·rw[zYd]
     ·rfl
    by_cases hie:i=ar.length
    ·subst hie;clear hpS hg hpl hpg hpG hp0 c1 c2 c3 hinv;generalize (py ar.length).map yA=A at *;generalize (pg ar.length).map yA=B at *;generalize RN gr=W at *;by_cases hi1:(ar.length:Int)=sf
     ·by_cases hi2:0<sg
      ·rw[zX3 ⟨hi1,hi2⟩]at hmG;subst hmG;refine zY cg ?_;exact zJ
      ·rw[zX2 (λh=>hi2 h.2)]at hmG;subst hmG;refine WW ?_;exact zJ
     ·rw[zX2 (λh=>hi1 h.1)]at hmG;subst hmG;refine WW ?_;exact zJ
    have cv:=HS (ar.getD i default);rw[hinv i zB]at cv;have hy:=zM iA ar i zB;have hS:=hpS i;have hlv:=zA yA (RN (ar.getD i default));have hvv:=ZA (ar.getD i default);have hmS:(py (i+1)).map yA=(pg i).map yA++(RN (ar.getD i default)).map yA:=by rw[hS,zYd]
    rw[hmS];clear hS hg hpl hpg hpG hpS hp0 hmS c1 c2 c3 hinv hz hgl;generalize (pg ar.length).map yA=E at *;generalize (py i).map yA=A at *;generalize (pg i).map yA=B at *;generalize RN (ar.getD i default)=V at *;generalize ar.getD i default=a at *;generalize RN gr=W at *;by_cases hi1:(i:Int)=sf
    ·by_cases hi2:0<sg
     ·rw[zX3 ⟨hi1,hi2⟩]at hmG;subst hmG;refine yR (wZ cg cv) ?_;exact⟨zB,rfl⟩
     ·rw[zX2 (λh=>hi2 h.2)]at hmG;subst hmG;refine zY cv ?_;exact⟨zB,rfl⟩
    ·rw[zX2 (λh=>hi1 h.1)]at hmG;subst hmG;refine zY cv ?_;exact⟨zB,rfl⟩
   ·rintro st' ⟨hik,rfl⟩;exfalso;omega
def kdP (k:Int) (f:Nat):Prop:=(k=2/\f=3)∨(k=3/\f=1)∨(k=4/\f=2)∨(k=5/\f=1)
def mvP (m:Ms) (f:Nat):Prop:=m.tok.length=10/\m.data=[]/\m.args.length=f/\∀i,i<f->nmB (m.args.getD i default)=true
def zK5 (m:Ms) (hm:MsB m):∃b:Bool,zO 195 [yF m] [] (bA b) []/\∀f,kdP m.kind f->(b=true↔mvP m f):=by
 obtain⟨xs,e,he,c,h⟩:=zK4 m hm
 rcases he with rfl|rfl
 ·refine⟨true,?_,λf hf=>⟨λ_=>(h f hf).1 Z,λ_=>rfl⟩⟩;clear h;refine eM call195 λF hF=>?_
  refine zY c ?_;exact zJ
 ·refine⟨false,?_,λf hf=>⟨λh1=>absurd h1 zYp,λh1=>absurd ((h f hf).2 h1) zV⟩⟩;clear h;refine eM call195 λF hF=>?_
  refine zY c ?_;exact zJ
def CQ:Nat->Int->List Int
 |0,n=>[n]
 |z+1,n=>if 128<=n then(n % 128+128)::CQ z (n/128)else [n]
theorem PO:∀z n,(CQ z n).length<=z+1
 |0,n=>zX7 _
 |z+1,n=>by
  unfold CQ;split
  ·have:=PO z (n/128);simp only[zYh];omega
  ·simp
def zPt (z:Nat) (n:Int) (h:n<128):CQ z n=[n]:=by
 cases z with
 |zero=>rfl
 |succ z=>unfold CQ;rw[zX2 zB]
def szN:Nat->Int->Int
 |0,_=>0
 |z+1,n=>if 128<=n then 1+szN z (n/128)else 0
theorem HU:∀z n,0<=szN z n/\szN z n<=z
 |0,n=>⟨yAc _,yAc _⟩
 |z+1,n=>by
  unfold szN;split
  ·have:=HU z (n/128);omega
  ·omega
def zPu (z:Nat) (n:Int) (h:n<128):szN z n=0:=by
 cases z with
 |zero=>rfl
 |succ z=>unfold szN;rw[zX2 zB]
def zK6 (x:Int) (h0:0<=x) (h1:x<=4294967295):x.tdiv 128=x/128/\YH .i64 (x.tdiv 128):=by
 have e:=zZw (a:=x) (b:=128) h0;refine⟨e,?_⟩;rw[e];exact⟨by show(-9223372036854775808:Int)<=_;omega,by show _<=(9223372036854775807:Int);omega⟩
def zPv (n:Int) (h1:0<=n) (h2:n<=4294967295):∃k:Int,1<=k/\zO 181 [iA n] [] (iA k) []:=by
 refine⟨1+szN 5 n,by have:=HU 5 n;omega,?_⟩;have hs5:=HU 5 n;refine eM call181 λF hF=>?_
 refine WW ?_;refine gM (5) [] [] [] [0,3] Z (λzn T U zs=>∃(x:Int) (k:Int),(0<=x/\x<=4294967295/\x<P7 zn*128/\k+szN zn x=1+szN 5 n/\1<=k)/\zs=⟨(0,iA x)::(3,iA k)::T,U⟩) ?_;(conv=>whnf);refine⟨?_,?_⟩
 ·exact⟨n,1,⟨h1,h2,by show n<34359738368*128;omega,rfl,yAc _⟩,rfl⟩
 ·rintro zn st ⟨x,k,⟨b1,b1',b2,b3,b4⟩,rfl⟩;by_cases hx:128<=x
  ·have hz:zn≠0:=λe=>by
    subst e;have:P7 0=1:=rfl;omega
   obtain⟨z,rfl⟩:∃z,zn=z+1:=⟨zn-1,zB⟩;obtain⟨e,hq⟩:=zK6 x b1 b1';have hP:P7 (z+1)=128*P7 z:=rfl
   have e2:szN (z+1) x=1+szN z (x/128):=by
    show(if 128<=x then _ else _)=_
    rw[zX3 hx]
   rw[e2,<-e]at b3;have hx2:0<=x.tdiv 128/\x.tdiv 128<=4294967295/\x.tdiv 128<P7 z*128:=by rw[e];rw[hP]at b2;omega
   have hk6:=HU z (x.tdiv 128);clear e2 hP e b2;refine WW ?_;exact⟨z,zB,x.tdiv 128,k+1,⟨hx2.1,hx2.2.1,hx2.2.2,zB,zB⟩,rfl⟩
  ·rw[zPu zn x zB,Int.add_zero]at b3;rw[<-b3];refine WW ?_;exact zJ
def zUl (n:Int) (h1:0<=n) (h2:n<=4294967295):zO 136 [iA n] [] (.tup [zD yA (CQ 5 n),iA 0]) []:=by
 obtain⟨k,hk,c⟩:=zPv n h1 h2;refine eM call136 λF hF=>?_
 refine zY c ?_;refine xA 4 1001 1 Z Z Z ?_;refine gM (5) [1001] [] [] [0,4] Z (λzn T U zs=>∃(acc:List Int) (x:Int),(0<=x/\x<=4294967295/\x<P7 zn*128/\acc++CQ zn x=CQ 5 n/\acc.length<=100)/\zs=⟨(0,iA x)::(4,.ref 1001 0 (acc.map yA).length)::T,(1001,.arr 1 (acc.map yA) true)::U⟩) ?_;(conv=>whnf);refine⟨?_,?_⟩
 ·exact⟨[],n,⟨h1,h2,by show n<34359738368*128;omega,rfl,by simp⟩,rfl⟩
 ·rintro zn st ⟨acc,x,⟨b1,b1',b2,b3,b4⟩,rfl⟩;have hla:=zA yA acc;by_cases hx:128<=x
  ·have hz:zn≠0:=λe=>by
    subst e;have:P7 0=1:=rfl;omega
   obtain⟨z,rfl⟩:∃z,zn=z+1:=⟨zn-1,zB⟩;obtain⟨e,hq⟩:=zK6 x b1 b1';have e9:=zZq (a:=x) (b:=128) b1;have hP:P7 (z+1)=128*P7 z:=rfl
   have e2:CQ (z+1) x=(x % 128+128)::CQ z (x/128):=by
    show(if 128<=x then _ else _)=_
    rw[zX3 hx]
   rw[e2]at b3;have hm:(acc++[x.tmod 128+128]).map yA=acc.map yA++[yA (x.tmod 128+128)]:=by simp
   have hb5:acc++[x.tmod 128+128]++CQ z (x.tdiv 128)=CQ 5 n:=by rw[e,e9,zYw];exact b3
   have hr9:0<=x.tmod 128/\x.tmod 128<=127:=by rw[e9];omega
   have hx2:0<=x.tdiv 128/\x.tdiv 128<=4294967295/\x.tdiv 128<P7 z*128:=by rw[e];rw[hP]at b2;omega
   have hlc:acc.length+1<=100:=by
    have h6:=zY3 List.length b3;have h7:=PO 5 n;simp only[zX4,zYh]at h6;omega
   clear e2 b3 hP e e9;refine WW ?_;exact⟨z,zB,acc++[x.tmod 128+128],x.tdiv 128,⟨hx2.1,hx2.2.1,hx2.2.2,hb5,by simpa using hlc⟩,by rw[hm];rfl⟩
  ·rw[zPt zn x zB]at b3;rw[<-b3];have hm:zD yA (acc++[x])= .sl false ((acc.map yA++[yA (x)]).take (acc.map yA++[yA (x)]).length):=by rw[zX6];unfold zD;rw[zYd];rfl
   rw[hm];refine WW ?_;exact zJ
def qyN (tok args:List Int):Nat->List Int
 |0=>tok
 |i+1=>qyN tok args i++CQ 5 (args.getD i default)
theorem zDn (tok args:List Int):∀i,(qyN tok args i).length<=tok.length+6*i
 |0=>by show tok.length<=_;omega
 |i+1=>by
  have:=zDn tok args i;have h2:=PO 5 (args.getD i default);unfold qyN;simp only[zX4];omega
def r5A (f:Int):AV:= .agg [iA f,iA 0,iA 0,iA 0,iA 0]
def zK7 (k:Int) (f:Nat) (hf:kdP k f):zO 106 [iA k] [] (r5A f) []:=by
 rcases hf with⟨rfl,rfl⟩|⟨rfl,rfl⟩|⟨rfl,rfl⟩|⟨rfl,rfl⟩
 all_goals
  refine eM call106 λF hF=>?_
  refine WW ?_;exact zJ
def zPw (k:Int) (h1:1<=k) (h2:k<=12):zO 107 [iA k] [] (bA true) []:=by
 refine eM call107 λF hF=>?_
 refine WW ?_;exact zJ
def zPx (m:Ms) (f:Nat) (hf:kdP m.kind f) (h:mvP m f):∃xs:List AV,xs.length<=200/\zO 99 [yF m] [] (.sl false xs) []:=by
 obtain⟨h1,h2,h3,h4⟩:=h;have c1:=zK7 m.kind f hf;have hf3:f<=3/\1<=f:=by unfold kdP at hf;omega
 obtain⟨mk,tk,ar,da⟩:=m;dsimp only at *;subst h2;have hQ:=zDn tk ar;refine⟨((qyN tk ar f).map yA++[]).take ((qyN tk ar f).map yA++[]).length,by have:=hQ f;simp;omega,?_⟩;have hlt:=zA yA tk;have hla:=zA iA ar;have hq0:qyN tk ar 0=tk:=rfl;have hqS:∀i:Nat,qyN tk ar (i+1)=qyN tk ar i++CQ 5 (ar.getD i default):=λ_=>rfl
 generalize qyN tk ar=qy at *;rw[show yF ⟨mk,tk,ar,[]⟩= .agg [iA mk,zD yA tk,zD iA ar,zD yA []]from Z];rw[show r5A f= .agg [iA f,iA 0,iA 0,iA 0,iA 0]from Z]at c1;clear hf;refine eM call99 λF hF=>?_
 (have zc1:=c1;(repeat' (first|refine uJ ?_|apply xL|apply wB|intro hc|(refine zE ?_;first|(refine yD ?_;refine kR 1001 tok Z Z Z Z Z Z (zN _ _ (λ_=>rfl)) Z Z Z zB Z Z Z ?_))|fail))<;>clear zc1)
 refine qH 1001 Z ?_;refine xT (ar.length) [1001,1,3] [1,3] [1,3,16,17] [4,18,1,3,16,17] Z (λi T U zs=>(i<=ar.length)/\zs=⟨(4,.ref 1001 0 ((qy i).map yA).length)::(18,iA i)::T,(1001,.arr 1 ((qy i).map yA) true)::U⟩) ?_;(conv=>whnf);refine⟨?_,?_,?_⟩
 ·refine⟨zYl _,?_⟩;rw[hq0];rfl
 ·rintro i st' hi ⟨hik,rfl⟩;have hn:=h4 i zB;unfold nmB at hn;rw[zX9]at hn;have cv:=zUl (ar.getD i default) hn.1 hn.2;have hy:=zM iA ar i hi;have hbl:=hQ i;have hlp:=zA yA (qy i);have hlv:=zA yA (CQ 5 (ar.getD i default));have hvv:=PO 5 (ar.getD i default);have hmS:(qy (i+1)).map yA=(qy i).map yA++(CQ 5 (ar.getD i default)).map yA:=by rw[hqS,zYd]
  rw[hmS];clear hqS hQ hq0 hmS c1 hn h4;generalize (qy i).map yA=A at *;generalize CQ 5 (ar.getD i default)=V at *;generalize ar.getD i default=a at *;refine zY cv ?_;exact⟨zB,rfl⟩
 ·rintro st' ⟨hik,rfl⟩;subst h3;have hbl:=hQ ar.length;have hlp:=zA yA (qy ar.length);clear hqS hQ hq0 h4 c1;generalize (qy ar.length).map yA=A at *;have hl0:(([]:List Int).map yA).length=0:=rfl;refine WW ?_;exact zJ
def zFh (m:Ms) (hm:MsB m) (f:Nat) (hf:kdP m.kind f):∃b:Bool,zO 98 [yF m] [] (bA b) []/\(b=true↔mvP m f):=by
 have c1:=zK7 m.kind f hf;have hk:2<=m.kind/\m.kind<=5:=by unfold kdP at hf;omega
 have c2:=zPw m.kind zB zB;have cp:=zPx m f hf;have b1:=hm.t;have b2:=hm.a;have b3:=hm.d;have hlt:=zA yA m.tok;have hla:=zA iA m.args;have hld:=zA yA m.data;have hf3:f<=3/\1<=f:=by unfold kdP at hf;omega
 rw[show r5A f= .agg [iA f,iA 0,iA 0,iA 0,iA 0]from Z]at c1;by_cases h1:m.tok.length=10
 case neg=>
  refine⟨false,?_,λh=>absurd h zYp,λh=>absurd h.1 h1⟩;clear cp;refine eM call98 λF hF=>?_
  refine yR (wZ c1 c2) ?_;exact zJ
 by_cases h2:m.args.length=f
 case neg=>
  refine⟨false,?_,λh=>absurd h zYp,λh=>absurd h.2.2.1 h2⟩;clear cp;refine eM call98 λF hF=>?_
  refine yR (wZ c1 c2) ?_;exact zJ
 by_cases h3:m.data.length=0
 case neg=>
  refine⟨false,?_,λh=>absurd h zYp,λh=>absurd (by rw[h.2.1];rfl) h3⟩;clear cp;refine eM call98 λF hF=>?_
  refine yR (wZ c1 c2) ?_;exact zJ
 have h3:=zYz h3
 rcases zK3 m.args m.args.length (zX7 _)with⟨k,hk1,hk2,hk3⟩|hall
 ·refine⟨false,?_,λh=>absurd h zYp,λh=>?_⟩
  case refine_2=>
   have:=h.2.2.2 k zB;rw[hk2]at this;cases this
  clear cp;refine eM call98 λF hF=>?_
  refine yR (wZ c1 c2) ?_;refine xT (m.args.length) [1] [1] [1,97,98] [99,1,97,98] Z (λi T U zs=>(i<=k)/\zs=⟨(99,iA i)::T,U⟩) ?_;(conv=>whnf);refine⟨?_,?_,?_⟩
  ·exact⟨zYl _,rfl⟩
  ·rintro i st' hi ⟨hik,rfl⟩;have hy:=zM iA m.args i hi;by_cases e:i=k
   ·subst e;unfold nmB at hk2;rw[zYj]at hk2;generalize m.args.getD i default=a at *;by_cases g1:0<=a
    ·have g2:¬a<=4294967295:=λh=>hk2 ⟨g1,h⟩
     clear hk2;refine WW ?_;exact zJ
    ·clear hk2;refine WW ?_;exact zJ
   ·have hn:=hk3 i zB;unfold nmB at hn;rw[zX9]at hn;obtain⟨hn1,hn2⟩:=hn;clear hk2 hk3;generalize m.args.getD i default=a at *;refine WW ?_;exact⟨zB,rfl⟩
  ·rintro st' ⟨hik,rfl⟩;exfalso;omega
 ·have hok:mvP m f:=⟨h1,h3,h2,λi hi=>hall i zB⟩;obtain⟨xs,hx,c3⟩:=cp hok;refine⟨true,?_,λ_=>hok,λ_=>rfl⟩;clear hok cp;rw[show yF m= .agg [iA m.kind,zD yA m.tok,zD iA m.args,zD yA m.data]from Z]at *; refine eM call98 λF hF=>?_
  refine yR (wZ c1 c2) ?_;refine zS (m.args.length) [1] [1] [1,97,98] [99,1,97,98] Z (λi T U=>⟨(99,iA i)::T,U⟩) ?_;(conv=>whnf);refine⟨by rfl,?_,?_⟩
  ·intro i hi;have hy:=zM iA m.args i hi;have hn:=hall i hi;unfold nmB at hn;rw[zX9]at hn;obtain⟨hn1,hn2⟩:=hn;clear hall;generalize m.args.getD i default=a at *;refine WW ?_;rfl
  ·(refine zY c3 ?_)
   exact zJ
def CR (l:List Vh) (id:Int):∃k,k<=l.length/\(∀i,i<k->(l.getD i default).id<id)/\(k<l.length->¬(l.getD k default).id<id):=by
 induction l with
 |nil=>exact⟨0,zX7 _,λi h=>absurd h (yAp _),λh=>absurd h zW⟩
 | cons x l ih=>
  obtain⟨k,h1,h2,h3⟩:=ih;by_cases hx:x.id<id
  ·refine⟨k+1,by simpa using h1,λi hi=>?_,λhk=>?_⟩
   ·cases i with
    |zero=>exact hx
    |succ i=>exact h2 i zB
   ·exact h3 (by simpa using hk)
  ·exact⟨0,zYl _,λi h=>absurd h (yAp _),λ_=>hx⟩
def zQ7 {l:List Vh}:GN l=true↔l.length<=8/\∀i,i<l.length->(0<=(l.getD i default).id/\(l.getD i default).id<=4294967295/\0<=(l.getD i default).cls/\(l.getD i default).cls<=3)/\(0<i->(l.getD (i-1) default).id<(l.getD i default).id):=by
 unfold GN;simp only[zYg,zX9,zYi,zYs];constructor
 ·rintro⟨h1,h2⟩;refine⟨zB,λi hi=>?_⟩;have:=h1 i hi;unfold RJ at this;rw[zX9]at this;exact⟨⟨this.1,this.2.1,this.2.2.1,this.2.2.2.1⟩,this.2.2.2.2⟩
 ·rintro⟨h1,h2⟩;refine⟨λi hi=>?_,zB⟩;unfold RJ;rw[zX9];have:=h2 i hi;exact⟨this.1.1,this.1.2.1,this.1.2.2.1,this.1.2.2.2,this.2⟩
end Av
end Go.Proofs.YteajjdidebfcjaaGreat
