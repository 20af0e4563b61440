/- Part 18. -/
import Derived.Test.YtmamjhmoegjapaaGreatP17
namespace Go.Proofs.YtmamjhmoegjapaaGreat
namespace Av
open Tryz
set_option linter.all false
set_option maxRecDepth 4000
set_option maxHeartbeats 4000000
def XJ (n:Int) (a:Ag) (N:Nat):xQ:=⟨FL n a,[],[],List.replicate N false⟩
theorem zSb (n:Int) (a:Ag) (N:Nat) (hN:N=1∨N=2) (ha:a.ses=(N:Int)) (hs:a.sec.length<=1000000) (hl:a.lim.length<=1000000):zO 90 [iA n,wN a] [] (zK (XJ n a N)) []:=by
 have c1:=zSu n a hs hl;unfold XJ;obtain⟨sec,ri,cl,li,rq,se,ra,bu⟩:=a;dsimp only at ha;subst ha;unfold wN qG at c1;unfold wN zK wH;dsimp only at *;generalize FL n ⟨sec,ri,cl,li,rq,(N:Int),ra,bu⟩=r at*
 rcases hN with rfl|rfl
 all_goals
  refine eM call90 λF hF=>?_
  refine zW c1 ?_;exact zL
theorem zNa (n:Int) (a:Ag) (N:Nat) (hN:N=1∨N=2) (ha:a.ses=(N:Int)) (hs:a.sec.length<=1000000) (hl:a.lim.length<=1000000):yU [iA n,wN a] [] (zK (XJ n a N)) []:=yG
def w2 (p:Int×Int):List Int:=[p.1,p.2]
def KY (ws:List (Int×Int)):List Int:=(ws.map w2).flatten
theorem RY:∀ws:List (Int×Int),(KY ws).length=2*ws.length
 | []=>rfl
 |x::l=>by
  have:=RY l
  show(x.1::x.2::KY l).length=_
  simp only[zY2];omega
theorem zNb (a b:List (Int×Int)):KY (a++b)=KY a++KY b:=by simp[KY]
theorem zV5 (x:Int) (pre post:List (Int×Int)) (q:Int×Int) (I:Int) (hI:I=1+2*(pre.length:Int)):
  ((x::KY (pre++q::post)).map iA)[I.toNat]? =some (iA q.1)/\((x::KY (pre++q::post)).map iA)[(I+1).toNat]? =some (iA q.2):=by
 have h:(x::KY (pre++q::post)).drop (1+2*pre.length)=KY (q::post):=by
  rw[zNb,show 1+2*pre.length=2*pre.length+1 by omega,yB6,yCf (by rw[RY];omega),yC1 (by rw[RY];omega),yA9]
 refine⟨?_,?_⟩<;>rw[zYt]
 ·rw[show I.toNat=1+2*pre.length+0 by omega,ZW h];rfl
 ·rw[show(I+1).toNat=1+2*pre.length+1 by omega,ZW h];rfl
def upQ (l:List Rq) (id:Int) (ws:List (Int×Int)) (now:Int):List Rq:=if bT l id ws now=0 then MV l id ws now else []
theorem zSc (c:Cf) (d:xQ) (tkn:List Int) (id slot now:Int) (ws:List (Int×Int)) (hv:aM d.rq) (hw:ws.length<=3) (n0:0<=now) (n1:now<=1073741824):
  zO 215 [wJ c,zK d,yB ⟨7,tkn,id::KY ws,[]⟩,iA slot,iA now] [] (.tup [zD yL (upQ d.rq id ws now),iA (bT d.rq id ws now)]) []:=by
 have hu:=zIh d.rq id ws now hv zB n0 n1;have hll:((id::KY ws).map iA).length=1+2*ws.length:=by simp[RY];omega
 unfold upQ;unfold wJ zK wH;rw[show yB ⟨7,tkn,id::KY ws,[]⟩= .agg [iA 7,zD yA tkn,zD iA (id::KY ws),.sl false []]from rfl];generalize bT d.rq id ws now=e at *;generalize MV d.rq id ws now=ul at *;refine eM call215 λF hF=>?_
 refine WW ?_;refine xK 13 1001 2 rfl rfl rfl ?_;refine gY (ws.length) [1001,6,7] [6,7] [4,6,7,12] [13,14,4,6,7,12] rfl (λzn T U zs=>∃(pre:List (Int×Int)) (post:List (Int×Int)),(ws=pre++post/\zn=post.length)/\zs=⟨(13,.ref 1001 0 (pre.map wnA).length)::(14,iA (1+2*(pre.length:Int)))::T,(1001,.arr 2 (pre.map wnA) true)::U⟩) ?_;(conv=>whnf);refine⟨?_,?_⟩
 ·exact⟨[],ws,⟨rfl,rfl⟩,rfl⟩
 ·rintro zn st ⟨pre,post,⟨hqs,hzn⟩,rfl⟩;have hln:ws.length=pre.length+post.length:=by rw[hqs,zYr]
  have hpl:=zA wnA pre
  cases post with
  |nil=>
   rw[zZo]at hqs;subst hqs;rw[zZz]at hln hzn;generalize hI:1+2*(ws.length:Int)=I at *;generalize (id::KY ws).map iA=A at*
   (have zc1:=hu;have zf1:=(⟨⟩:FzD 239 [5,6,7] [58,59,60,61]);refine WW ?_;clear zc1 zf1)
   exact zL
  |cons q post=>
   obtain⟨y0,y1⟩:=zV5 id pre post q _ rfl;rw[<-hqs]at y0 y1;rw[zY2]at hln hzn;have hmp:((pre++[q]).map wnA)=pre.map wnA++[.agg [iA q.1,iA q.2]]:=by simp[wnA]
   have hI:0<=1+2*(pre.length:Int)/\1+2*(pre.length:Int)+2=1+2*((pre++[q]).length:Int)/\1+2*(pre.length:Int)+1<((id::KY ws).map iA).length:=⟨zB,by simp;omega,zB⟩;have hfin:ws=(pre++[q])++post:=by rw[hqs];simp
   generalize (id::KY ws).map iA=A at *;obtain⟨hI0,hI1,hI2⟩:=hI;clear hqs;generalize hqq:pre++[q]=pq at *;generalize pre.map wnA=xs at *;generalize 1+2*(pre.length:Int)=I at *;refine WW ?_;exact⟨post.length,zB,pq,post,⟨hfin,rfl⟩,by rw[hmp,<-hI1];rfl⟩
theorem zSd (d:xQ) (tkn:List Int) (id now:Int) (ws:List (Int×Int)) (hv:aM d.rq) (hw:ws.length<=3) (n0:0<=now) (n1:now<=1073741824):
 yU [zK d,yB ⟨7,tkn,id::KY ws,[]⟩,iA now] [] (.tup [zK (dkQ d (if bT d.rq id ws now=0 then upQ d.rq id ws now else d.rq)),iA (bT d.rq id ws now)]) []:=yG
theorem zSf (c:Cf) (d:xQ) (tkn:List Int) (id v life slot now:Int) (qs:List Qd) (hb:eU d) (hv:aM d.rq) (s0:0<=slot) (s1:slot<(d.rg.tk.length:Int)) (hq:qs.length<=3) (hp:∀q∈qs,0<=q.j/\0<=q.p) (n0:0<=now) (n1:now<=1073741824):
  zO 215 [wJ c,zK d,yB ⟨6,tkn,id::v::life::YR qs,[]⟩,iA slot,iA now] [] (.tup [zD yL (dsL c d (d.rg.tk.getD slot.toNat default).cls id v life now qs),iA (AQ c d (d.rg.tk.getD slot.toNat default).cls id v life now qs)]) []:=by
 have h:=zEb c d id v life slot now qs hb hv s0 s1 hq hp n0 n1;generalize AQ c d (d.rg.tk.getD slot.toNat default).cls id v life now qs=e at *;generalize dsL c d (d.rg.tk.getD slot.toNat default).cls id v life now qs=ul at *;rw[show zD iA (id::v::life::YR qs)= .sl false (iA id::iA v::iA life::(YR qs).map iA)from rfl]at h;rw[show yB ⟨6,tkn,id::v::life::YR qs,[]⟩= .agg [iA 6,zD yA tkn,.sl false (iA id::iA v::iA life::(YR qs).map iA),.sl false []]from rfl];generalize (YR qs).map iA=A at *;unfold wJ zK wH at *;refine eM call215 λF hF=>?_
 refine zW h ?_;exact zL
theorem zSg (c:Cf) (d:xQ) (tkn:List Int) (id slot now:Int) (hv:aM d.rq):
  zO 215 [wJ c,zK d,yB ⟨8,tkn,[id],[]⟩,iA slot,iA now] [] (.tup [zD yL (if gI d.rq id=true then zIk d.rq id else []),iA (if gI d.rq id=true then 0 else 12)]) []:=by
 have h:=zIm d.rq id hv;generalize (if gI d.rq id=true then zIk d.rq id else [])=l at *;generalize (if gI d.rq id=true then(0:Int)else 12)=e at *;rw[show yB ⟨8,tkn,[id],[]⟩= .agg [iA 8,zD yA tkn,.sl false [iA id],.sl false []]from rfl];unfold wJ zK wH at *;refine eM call215 λF hF=>?_
 refine zW h ?_;exact zL
theorem VE (l:List Tk) (s:Int):zO 259 [zD xE l,iA s] [] (bA (fP l s)) []:=by
 have hl:=zA xE l;unfold fP;by_cases h1:0<=s
 ·by_cases h2:s<l.length
  ·have hy:=yP xE l s h1 h2;rw[zYu ⟨h1,h2⟩,zZh];refine eM call259 λF hF=>?_
   refine WW ?_;exact zL
  ·rw[zYw zB,yAf];refine eM call259 λF hF=>?_
   refine WW ?_;exact zL
 ·rw[zYw zB,yAf];refine eM call259 λF hF=>?_
  refine WW ?_;exact zL
theorem zGc (g s:Int) (l:List Int) (hl:l.length<=1000000) (g0:0<=g) (g1:g<256) (s0:0<=s) (s1:s<256):zO 284 [iA g,iA s,zD yA l] [] (zD yA (g::s::l)) []:=by
 have hll:=zA yA l;refine eM call284 λF hF=>?_
 refine WW ?_;exact zI [] rfl rfl (zZl (AV.sl false) (zYy zU)) rfl
theorem zX0 (n:Int) (h:0<=n):uT n 7=n/128:=by
 unfold uT;rw[yB9 _ xN];rfl
def P7:Nat->Int
 |0=>1
 |z+1=>128*P7 z
def hiB (n:Int):Int:=IntKind.u8.wrap ((BitVec.ofInt IntKind.u8.bits (IntKind.u8.wrap (eI n 127)) ||| BitVec.ofInt IntKind.u8.bits 128).toNat)
def vbN:Nat->Int->List Int
 |0,n=>[n]
 |z+1,n=>if 128<=n then hiB n::vbN z (n/128)else [n]
theorem KZ:∀z n,(vbN z n).length<=z+1
 |0,n=>zYs _
 |z+1,n=>by
  unfold vbN;split
  ·have:=KZ z (n/128);simp only[zY2];omega
  ·simp
theorem zNc (z:Nat) (n:Int) (h:n<128):vbN z n=[n]:=by
 cases z with
 |zero=>rfl
 |succ z=>unfold vbN;rw[zYo zB]
def TH (n:Int):List Int:=if 0<=n/\n<=4294967295 then vbN 5 n else []
def veF (n:Int):Int:=if 0<=n/\n<=4294967295 then 0 else 8
theorem bF (n:Int):(TH n).length<=6:=by
 unfold TH;split
 ·exact KZ 5 n
 ·simp
theorem JC (n:Int):zO 126 [iA n] [] (.tup [zD yA (TH n),iA (veF n)]) []:=by
 unfold TH veF;by_cases h1:0<=n
 case neg=>
  rw[zYo (λh=>h1 h.1),zYo (λh=>h1 h.1)];refine eM call126 λF hF=>?_
  refine WW ?_;exact zL
 by_cases h2:n<=4294967295
 case neg=>
  rw[zYo (λh=>h2 h.2),zYo (λh=>h2 h.2)];refine eM call126 λF hF=>?_
  refine WW ?_;exact zL
 rw[zYp ⟨h1,h2⟩,zYp ⟨h1,h2⟩];refine eM call126 λF hF=>?_
 refine WW ?_;refine vZ 11 rfl ?_;refine gY (5) [11] [] [] [0,4] rfl (λzn T U zs=>∃(acc:List Int) (x:Int),(0<=x/\x<P7 zn*128/\acc++vbN zn x=vbN 5 n/\acc.length<=100)/\zs=⟨(0,iA x)::(4,.ref 11 0 (acc.map yA).length)::T,(11,.arr 1 (acc.map yA) true)::U⟩) ?_;(conv=>whnf);refine⟨?_,?_⟩
 ·exact⟨[],n,⟨h1,by show n<34359738368*128;omega,rfl,by simp⟩,rfl⟩
 ·rintro zn st ⟨acc,x,⟨b1,b2,b3,b4⟩,rfl⟩;have hla:=zA yA acc;by_cases hx:128<=x
  ·have hz:zn≠0:=λe=>by
    subst e;have:P7 0=1:=rfl;omega
   obtain⟨z,rfl⟩:∃z,zn=z+1:=⟨zn-1,zB⟩;have e:=zX0 x b1;have hP:P7 (z+1)=128*P7 z:=rfl
   have e2:vbN (z+1) x=hiB x::vbN z (x/128):=by
    show(if 128<=x then _ else _)=_
    rw[zYp hx]
   rw[e2]at b3;have hm:(acc++[hiB x]).map yA=acc.map yA++[yA (hiB x)]:=by simp
   have hb5:acc++[hiB x]++vbN z (uT x 7)=vbN 5 n:=by rw[e,zZc];exact b3
   have hx2:0<=uT x 7/\uT x 7<P7 z*128:=by rw[e];rw[hP]at b2;omega
   have hlc:acc.length+1<=100:=by
    have h6:=zZl List.length b3;have h7:=KZ 5 n;simp only[zYr,zY2]at h6;omega
   clear e2 b3 hP
   (repeat' (first|refine qS ?_|refine xR (λhc=>?_) (λhc=>?_)|refine wE (λhc=>?_)|(refine zE ?_;first|(refine wS ?_;refine yF (IH rfl rfl) rfl ?_))|fail))
   exact⟨z,zB,acc++[hiB x],uT x 7,⟨hx2.1,hx2.2,hb5,by simpa using hlc⟩,by rw[hm];rfl⟩
  ·rw[zNc zn x zB]at b3;rw[<-b3];have hm:zD yA (acc++[x])= .sl false ((acc.map yA++[yA (x)]).take (acc.map yA++[yA (x)]).length):=by rw[zYv];unfold zD;rw[zYz];rfl
   rw[hm];refine WW ?_;exact zL
structure Shp where
 t:Int
 f:Int
 g:Int
 lo:Int
 hi:Int
 da:Int
def YQ (s:Shp):AV:= .agg [iA s.t,iA s.f,iA s.g,iA s.lo,iA s.hi,iA s.da]
structure zX1 (k:Int) (s:Shp) (ok:Bool):Prop where
 t:0<=s.t/\s.t<=10
 f:0<=s.f/\s.f<=4
 g:s.g=0∨s.g=2∨s.g=3∨s.g=4
 da: -1<=s.da/\s.da<=10
 k2:k=2->s=⟨10,3,0,0,0,0⟩/\ok=true
 k3:k=3->s=⟨10,1,0,0,0,0⟩/\ok=true
 k4:k=4->s=⟨10,2,0,0,0,0⟩/\ok=true
 k5:k=5->s=⟨10,1,0,0,0,0⟩/\ok=true
theorem zNd (k:Int):∃(s:Shp) (ok:Bool),zX1 k s ok/\zO 124 [iA k] [] (.tup [YQ s,bA ok]) []:=by
 by_cases h1:k=1
 ·subst h1;refine⟨⟨10,0,0,0,0,0⟩,true,⟨by decide,by decide,by decide,by decide,λh=>absurd h zB,λh=>absurd h zB,λh=>absurd h zB,λh=>absurd h zB⟩,?_⟩;unfold YQ;refine eM call124 λF hF=>?_
  refine WW ?_;exact zL
 by_cases h2:k=2
 ·subst h2;refine⟨⟨10,3,0,0,0,0⟩,true,⟨by decide,by decide,by decide,by decide,λ_=>⟨rfl,rfl⟩,λh=>absurd h zB,λh=>absurd h zB,λh=>absurd h zB⟩,?_⟩;unfold YQ;refine eM call124 λF hF=>?_
  refine WW ?_;exact zL
 by_cases h3:k=3
 ·subst h3;refine⟨⟨10,1,0,0,0,0⟩,true,⟨by decide,by decide,by decide,by decide,λh=>absurd h zB,λ_=>⟨rfl,rfl⟩,λh=>absurd h zB,λh=>absurd h zB⟩,?_⟩;unfold YQ;refine eM call124 λF hF=>?_
  refine WW ?_;exact zL
 by_cases h4:k=4
 ·subst h4;refine⟨⟨10,2,0,0,0,0⟩,true,⟨by decide,by decide,by decide,by decide,λh=>absurd h zB,λh=>absurd h zB,λ_=>⟨rfl,rfl⟩,λh=>absurd h zB⟩,?_⟩;unfold YQ;refine eM call124 λF hF=>?_
  refine WW ?_;exact zL
 by_cases h5:k=5
 ·subst h5;refine⟨⟨10,1,0,0,0,0⟩,true,⟨by decide,by decide,by decide,by decide,λh=>absurd h zB,λh=>absurd h zB,λh=>absurd h zB,λ_=>⟨rfl,rfl⟩⟩,?_⟩;unfold YQ;refine eM call124 λF hF=>?_
  refine WW ?_;exact zL
 by_cases h6:k=6
 ·subst h6;refine⟨⟨10,3,4,1,3,0⟩,true,⟨by decide,by decide,by decide,by decide,λh=>absurd h zB,λh=>absurd h zB,λh=>absurd h zB,λh=>absurd h zB⟩,?_⟩;unfold YQ;refine eM call124 λF hF=>?_
  refine WW ?_;exact zL
 by_cases h7:k=7
 ·subst h7;refine⟨⟨10,1,2,1,3,0⟩,true,⟨by decide,by decide,by decide,by decide,λh=>absurd h zB,λh=>absurd h zB,λh=>absurd h zB,λh=>absurd h zB⟩,?_⟩;unfold YQ;refine eM call124 λF hF=>?_
  refine WW ?_;exact zL
 by_cases h8:k=8
 ·subst h8;refine⟨⟨10,1,0,0,0,0⟩,true,⟨by decide,by decide,by decide,by decide,λh=>absurd h zB,λh=>absurd h zB,λh=>absurd h zB,λh=>absurd h zB⟩,?_⟩;unfold YQ;refine eM call124 λF hF=>?_
  refine WW ?_;exact zL
 by_cases h9:k=9
 ·subst h9;refine⟨⟨10,0,0,0,0,0⟩,true,⟨by decide,by decide,by decide,by decide,λh=>absurd h zB,λh=>absurd h zB,λh=>absurd h zB,λh=>absurd h zB⟩,?_⟩;unfold YQ;refine eM call124 λF hF=>?_
  refine WW ?_;exact zL
 by_cases h10:k=10
 ·subst h10;refine⟨⟨10,1,0,0,0,0⟩,true,⟨by decide,by decide,by decide,by decide,λh=>absurd h zB,λh=>absurd h zB,λh=>absurd h zB,λh=>absurd h zB⟩,?_⟩;unfold YQ;refine eM call124 λF hF=>?_
  refine WW ?_;exact zL
 by_cases h11:k=11
 ·subst h11;refine⟨⟨10,1,0,0,0,0⟩,true,⟨by decide,by decide,by decide,by decide,λh=>absurd h zB,λh=>absurd h zB,λh=>absurd h zB,λh=>absurd h zB⟩,?_⟩;unfold YQ;refine eM call124 λF hF=>?_
  refine WW ?_;exact zL
 by_cases h12:k=12
 ·subst h12;refine⟨⟨10,0,0,0,0,0⟩,true,⟨by decide,by decide,by decide,by decide,λh=>absurd h zB,λh=>absurd h zB,λh=>absurd h zB,λh=>absurd h zB⟩,?_⟩;unfold YQ;refine eM call124 λF hF=>?_
  refine WW ?_;exact zL
 by_cases h13:k=13
 ·subst h13;refine⟨⟨0,2,0,0,0,0⟩,true,⟨by decide,by decide,by decide,by decide,λh=>absurd h zB,λh=>absurd h zB,λh=>absurd h zB,λh=>absurd h zB⟩,?_⟩;unfold YQ;refine eM call124 λF hF=>?_
  refine WW ?_;exact zL
 by_cases h14:k=14
 ·subst h14;refine⟨⟨0,2,0,0,0,0⟩,true,⟨by decide,by decide,by decide,by decide,λh=>absurd h zB,λh=>absurd h zB,λh=>absurd h zB,λh=>absurd h zB⟩,?_⟩;unfold YQ;refine eM call124 λF hF=>?_
  refine WW ?_;exact zL
 by_cases h15:k=15
 ·subst h15;refine⟨⟨0,2,0,0,0,0⟩,true,⟨by decide,by decide,by decide,by decide,λh=>absurd h zB,λh=>absurd h zB,λh=>absurd h zB,λh=>absurd h zB⟩,?_⟩;unfold YQ;refine eM call124 λF hF=>?_
  refine WW ?_;exact zL
 by_cases h16:k=16
 ·subst h16;refine⟨⟨0,1,0,0,0,10⟩,true,⟨by decide,by decide,by decide,by decide,λh=>absurd h zB,λh=>absurd h zB,λh=>absurd h zB,λh=>absurd h zB⟩,?_⟩;unfold YQ;refine eM call124 λF hF=>?_
  refine WW ?_;exact zL
 by_cases h17:k=17
 ·subst h17;refine⟨⟨0,1,0,0,0,-1⟩,true,⟨by decide,by decide,by decide,by decide,λh=>absurd h zB,λh=>absurd h zB,λh=>absurd h zB,λh=>absurd h zB⟩,?_⟩;unfold YQ;refine eM call124 λF hF=>?_
  refine WW ?_;exact zL
 by_cases h18:k=18
 ·subst h18;refine⟨⟨0,1,3,0,16,0⟩,true,⟨by decide,by decide,by decide,by decide,λh=>absurd h zB,λh=>absurd h zB,λh=>absurd h zB,λh=>absurd h zB⟩,?_⟩;unfold YQ;refine eM call124 λF hF=>?_
  refine WW ?_;exact zL
 by_cases h19:k=19
 ·subst h19;refine⟨⟨0,0,2,0,4,0⟩,true,⟨by decide,by decide,by decide,by decide,λh=>absurd h zB,λh=>absurd h zB,λh=>absurd h zB,λh=>absurd h zB⟩,?_⟩;unfold YQ;refine eM call124 λF hF=>?_
  refine WW ?_;exact zL
 by_cases h20:k=20
 ·subst h20;refine⟨⟨0,4,0,0,0,0⟩,true,⟨by decide,by decide,by decide,by decide,λh=>absurd h zB,λh=>absurd h zB,λh=>absurd h zB,λh=>absurd h zB⟩,?_⟩;unfold YQ;refine eM call124 λF hF=>?_
  refine WW ?_;exact zL
 by_cases h21:k=21
 ·subst h21;refine⟨⟨0,1,0,0,0,-1⟩,true,⟨by decide,by decide,by decide,by decide,λh=>absurd h zB,λh=>absurd h zB,λh=>absurd h zB,λh=>absurd h zB⟩,?_⟩;unfold YQ;refine eM call124 λF hF=>?_
  refine WW ?_;exact zL
 by_cases h22:k=22
 ·subst h22;refine⟨⟨0,1,0,0,0,0⟩,true,⟨by decide,by decide,by decide,by decide,λh=>absurd h zB,λh=>absurd h zB,λh=>absurd h zB,λh=>absurd h zB⟩,?_⟩;unfold YQ;refine eM call124 λF hF=>?_
  refine WW ?_;exact zL
 refine⟨⟨0,0,0,0,0,0⟩,false,⟨by decide,by decide,by decide,by decide,λh=>absurd h h2,λh=>absurd h h3,λh=>absurd h h4,λh=>absurd h h5⟩,?_⟩;unfold YQ;refine eM call124 λF hF=>?_
 refine WW ?_;exact zL
theorem zGd (s:Shp) (hg:s.g=0∨s.g=2∨s.g=3∨s.g=4) (hf:0<=s.f/\s.f<=4) (n:Int) (hn:0<=n/\n<=1000000):∃(gr:Int) (ok:Bool),(-1000000<=gr/\gr<=1000000)/\(s.g=0->gr=0/\ok=decide (n=s.f))/\zO 125 [YQ s,iA n] [] (.tup [iA gr,bA ok]) []:=by
 obtain⟨t,f,g,lo,hi,da⟩:=s;dsimp only at *;rw[show YQ ⟨t,f,g,lo,hi,da⟩= .agg [iA t,iA f,iA g,iA lo,iA hi,iA da]from rfl]
 rcases hg with rfl|rfl|rfl|rfl
 ·by_cases h:n=f
  ·refine⟨0,true,zB,λ_=>⟨rfl,(zYu h).symm⟩,?_⟩;refine eM call125 λF hF=>?_
   refine WW ?_;exact zL
  ·refine⟨0,false,zB,λ_=>⟨rfl,(zYw h).symm⟩,?_⟩;refine eM call125 λF hF=>?_
   refine WW ?_;exact zL
 ·by_cases h1:n-f<0
  ·refine⟨0,false,zB,λh=>absurd h xN,?_⟩;refine eM call125 λF hF=>?_
   refine WW ?_;exact zL
  have hb:0<=(n-f).tdiv 2/\(n-f).tdiv 2<=1000000:=by
   rw[yAh zB];omega
  have hq:XB .i64 ((n-f).tdiv 2):=by
   unfold XB;have e1:IntKind.i64.min= -9223372036854775808:=by decide
   have e2:IntKind.i64.max=9223372036854775807:=by decide
   omega
  by_cases h2:(n-f).tmod 2=0
  case neg=>
   refine⟨0,false,zB,λh=>absurd h xN,?_⟩;refine eM call125 λF hF=>?_
   refine WW ?_;exact zL
  generalize hm:(n-f).tmod 2=m at *;by_cases h3:lo<=(n-f).tdiv 2
  case neg=>
   refine⟨(n-f).tdiv 2,false,zB,λh=>absurd h xN,?_⟩;subst hm;refine eM call125 λF hF=>?_
   refine WW ?_;exact zL
  by_cases h4:(n-f).tdiv 2<=hi
  ·refine⟨(n-f).tdiv 2,true,zB,λh=>absurd h xN,?_⟩;subst hm;refine eM call125 λF hF=>?_
   refine WW ?_;exact zL
  ·refine⟨(n-f).tdiv 2,false,zB,λh=>absurd h xN,?_⟩;subst hm;refine eM call125 λF hF=>?_
   refine WW ?_;exact zL
 ·by_cases h1:n-f<0
  ·refine⟨0,false,zB,λh=>absurd h xN,?_⟩;refine eM call125 λF hF=>?_
   refine WW ?_;exact zL
  have hb:0<=(n-f).tdiv 3/\(n-f).tdiv 3<=1000000:=by
   rw[yAh zB];omega
  have hq:XB .i64 ((n-f).tdiv 3):=by
   unfold XB;have e1:IntKind.i64.min= -9223372036854775808:=by decide
   have e2:IntKind.i64.max=9223372036854775807:=by decide
   omega
  by_cases h2:(n-f).tmod 3=0
  case neg=>
   refine⟨0,false,zB,λh=>absurd h xN,?_⟩;refine eM call125 λF hF=>?_
   refine WW ?_;exact zL
  generalize hm:(n-f).tmod 3=m at *;by_cases h3:lo<=(n-f).tdiv 3
  case neg=>
   refine⟨(n-f).tdiv 3,false,zB,λh=>absurd h xN,?_⟩;subst hm;refine eM call125 λF hF=>?_
   refine WW ?_;exact zL
  by_cases h4:(n-f).tdiv 3<=hi
  ·refine⟨(n-f).tdiv 3,true,zB,λh=>absurd h xN,?_⟩;subst hm;refine eM call125 λF hF=>?_
   refine WW ?_;exact zL
  ·refine⟨(n-f).tdiv 3,false,zB,λh=>absurd h xN,?_⟩;subst hm;refine eM call125 λF hF=>?_
   refine WW ?_;exact zL
 ·by_cases h1:n-f<0
  ·refine⟨0,false,zB,λh=>absurd h xN,?_⟩;refine eM call125 λF hF=>?_
   refine WW ?_;exact zL
  have hb:0<=(n-f).tdiv 4/\(n-f).tdiv 4<=1000000:=by
   rw[yAh zB];omega
  have hq:XB .i64 ((n-f).tdiv 4):=by
   unfold XB;have e1:IntKind.i64.min= -9223372036854775808:=by decide
   have e2:IntKind.i64.max=9223372036854775807:=by decide
   omega
  by_cases h2:(n-f).tmod 4=0
  case neg=>
   refine⟨0,false,zB,λh=>absurd h xN,?_⟩;refine eM call125 λF hF=>?_
   refine WW ?_;exact zL
  generalize hm:(n-f).tmod 4=m at *;by_cases h3:lo<=(n-f).tdiv 4
  case neg=>
   refine⟨(n-f).tdiv 4,false,zB,λh=>absurd h xN,?_⟩;subst hm;refine eM call125 λF hF=>?_
   refine WW ?_;exact zL
  by_cases h4:(n-f).tdiv 4<=hi
  ·refine⟨(n-f).tdiv 4,true,zB,λh=>absurd h xN,?_⟩;subst hm;refine eM call125 λF hF=>?_
   refine WW ?_;exact zL
  ·refine⟨(n-f).tdiv 4,false,zB,λh=>absurd h xN,?_⟩;subst hm;refine eM call125 λF hF=>?_
   refine WW ?_;exact zL
theorem SP (l:List Int) (hl:l.length<=1073741824):zO 79 [zD yA l] [] (.ref 1001 0 (l.map yA).length) [(1001,.arr 1 (l.map yA) false)]:=by
 have hll:=zA yA l;refine eM call79 λF hF=>?_
 refine xD 0 rfl (λcap hx=>?_) ?_
 ·have:l=[]:=by simpa using hx
  subst this
  (repeat' (first|refine AX ?_|refine xR (λhc=>?_) (λhc=>?_)|refine wE (λhc=>?_)|fail))
  refine uB 2 1001 1 rfl rfl rfl (yQ ?_);exact zJ [1001] rfl rfl rfl rfl
 ·repeat' (first|(refine zE ?_;first|refine wZ tok rfl rfl ?_|(refine wS ?_;refine yF (yM tok (.inl ⟨rfl,rfl⟩) rfl rfl rfl rfl) rfl ?_)|(refine yZ ?_;refine uF (nw:=[1001]) (yK tok 1001 (xs:=[]) rfl rfl rfl rfl rfl rfl rfl rfl rfl) rfl rfl rfl ?_)|(refine yW ?_;refine xX tok rfl rfl rfl rfl rfl rfl rfl (yY _ _ (λ_=>rfl)) rfl rfl rfl zB rfl ?_)|refine uM ?_)|(first|refine xM ?_|refine xB ?_|refine wU rfl ?_|refine zV rfl ?_|refine zQ rfl ?_|refine xF rfl (λhc=>?_) (λhc=>?_)|refine yV ?_|refine yQ ?_|refine xC ?_|refine yN ?_))
  exact zJ [1001] rfl rfl rfl rfl
def nmB (n:Int):Bool:=decide (0<=n/\n<=4294967295)
theorem zBq (n:Int):veF n=if nmB n=true then 0 else 8:=by
 unfold veF nmB;by_cases h:0<=n/\n<=4294967295
 ·rw[zYp h,zYu h,zYp rfl]
 ·rw[zYo h,zYw h,zYo zZb]
def pyN (s:Shp) (gr:Int) (tok args:List Int):Nat->List Int
 |0=>tok
 |i+1=>(if(i:Int)=s.f/\0<s.g then pyN s gr tok args i++TH gr else pyN s gr tok args i)++TH (args.getD i default)
def pyG (s:Shp) (gr:Int) (tok args:List Int) (i:Nat):List Int:=if(i:Int)=s.f/\0<s.g then pyN s gr tok args i++TH gr else pyN s gr tok args i
theorem JD (s:Shp) (gr:Int) (tok args:List Int):∀i,(pyN s gr tok args i).length<=tok.length+12*i
 |0=>by show tok.length<=_;omega
 |i+1=>by
  have:=JD s gr tok args i;have h1:=bF gr;have h2:=bF (args.getD i default);unfold pyN
  split<;>simp only[zYr]<;>omega
theorem zNe (s:Shp) (gr:Int) (tok args:List Int) (i:Nat):(pyG s gr tok args i).length<=tok.length+12*i+6:=by
 have:=JD s gr tok args i;have h1:=bF gr;unfold pyG
 split<;>(try simp only[zYr])<;>omega
theorem zGe (args:List Int):∀n,n<=args.length->(∃k,k<n/\nmB (args.getD k default)=false/\∀i,i<k->nmB (args.getD i default)=true)∨(∀i,i<n->nmB (args.getD i default)=true)
 |0,_=> .inr λi hi=>absurd hi (yBb _)
 | n+1,hn=>by
  rcases zGe args n zB with⟨k,h1,h2,h3⟩|h
  ·exact .inl ⟨k,zB,h2,h3⟩
  ·cases hb:nmB (args.getD n default)with
   |true=>
    refine .inr λi hi=>?_
    by_cases e:i=n
    ·subst e;exact hb
    ·exact h i zB
   |false=>exact .inl ⟨n,zB,hb,h⟩
structure MsB (m:Ms):Prop where
 t:m.tok.length<=1000
 a:m.args.length<=1000
 d:m.data.length<=1000
theorem zGf (m:Ms) (hm:MsB m):∃(xs:List AV) (e:Int),(e=0∨e=6)/\zO 72 [yB m] [] (.tup [.sl false xs,iA e]) []/\(∀f:Nat,(m.kind=2/\f=3)∨(m.kind=3/\f=1)∨(m.kind=4/\f=2)∨(m.kind=5/\f=1)->(e=0↔(m.tok.length=10/\m.data=[]/\m.args.length=f/\∀i,i<f->nmB (m.args.getD i default)=true))):=by
 obtain⟨s,ok,hs,c1⟩:=zNd m.kind;obtain⟨gr,ok2,hgr,hg0,c2⟩:=zGd s hs.g hs.f ((m.args.map iA).length:Int) (by have:=hm.a;simp;omega);have c3:=SP m.tok (by have:=hm.t;omega);have b1:=hm.t;have b2:=hm.a;have b3:=hm.d;have hlt:=zA yA m.tok;have hla:=zA iA m.args;have hld:=zA yA m.data
 have hq:∀f:Nat,(m.kind=2/\f=3)∨(m.kind=3/\f=1)∨(m.kind=4/\f=2)∨(m.kind=5/\f=1)->s.t=10/\s.f=f/\s.g=0/\s.da=0/\ok=true:=λf hf=>by
  rcases hf with⟨h,rfl⟩|⟨h,rfl⟩|⟨h,rfl⟩|⟨h,rfl⟩
  ·obtain⟨e1,e2⟩:=hs.k2 h;subst e1;exact⟨rfl,rfl,rfl,rfl,e2⟩
  ·obtain⟨e1,e2⟩:=hs.k3 h;subst e1;exact⟨rfl,rfl,rfl,rfl,e2⟩
  ·obtain⟨e1,e2⟩:=hs.k4 h;subst e1;exact⟨rfl,rfl,rfl,rfl,e2⟩
  ·obtain⟨e1,e2⟩:=hs.k5 h;subst e1;exact⟨rfl,rfl,rfl,rfl,e2⟩
 have hst:=hs.t;have hsf:=hs.f;have hsg:=hs.g;have hsd:=hs.da;clear hs;obtain⟨mk,tk,ar,da⟩:=m;dsimp only at *;rw[show yB ⟨mk,tk,ar,da⟩= .agg [iA mk,zD yA tk,zD iA ar,zD yA da]from rfl];have hpl:=JD s gr tk ar;have hpg:=zNe s gr tk ar;have hp0:pyN s gr tk ar 0=tk:=rfl
 have hpG:∀i:Nat,pyG s gr tk ar i=if(i:Int)=s.f/\0<s.g then pyN s gr tk ar i++TH gr else pyN s gr tk ar i:=λ_=>rfl
 have hpS:∀i:Nat,pyN s gr tk ar (i+1)=pyG s gr tk ar i++TH (ar.getD i default):=λ_=>rfl
 generalize pyG s gr tk ar=pg at *;generalize pyN s gr tk ar=py at *;obtain⟨st,sf,sg,slo,shi,sda⟩:=s;dsimp only at *;rw[show YQ ⟨st,sf,sg,slo,shi,sda⟩= .agg [iA st,iA sf,iA sg,iA slo,iA shi,iA sda]from rfl]at*
 cases ok with
 |false=>
  refine⟨[],6,.inr rfl,?_,λf hf=>⟨λh=>absurd h xN,λh=>absurd (hq f hf).2.2.2.2 xN⟩⟩;clear hpl hpg hpG hpS hq;refine eM call72 λF hF=>?_
  refine zW c1 ?_;exact zL
 |true=>
 by_cases h1:(tk.length:Int)=st
 case neg=>
  refine⟨[],6,.inr rfl,?_,λf hf=>⟨λh=>absurd h xN,λh=>absurd (show(tk.length:Int)=st by have:=(hq f hf).1;omega) h1⟩⟩;clear hpl hpg hpG hpS hq;refine eM call72 λF hF=>?_
  refine zW c1 ?_;exact zL
 by_cases h2:sda= -1∨(da.length:Int)=sda
 case neg=>
  have h2a:¬sda= -1:=λh=>h2 (.inl h)
  have h2b:¬(da.length:Int)=sda:=λh=>h2 (.inr h)
  refine⟨[],6,.inr rfl,?_,λf hf=>⟨λh=>absurd h xN,λh=>absurd (show(da.length:Int)=sda by have:=(hq f hf).2.2.2.1;rw[h.2.1];simp;omega) h2b⟩⟩;clear hpl hpg hpG hpS hq h2;refine eM call72 λF hF=>?_
  refine zW c1 ?_;exact zL
 cases ok2 with
 | false=>
  refine⟨[],6,.inr rfl,?_,λf hf=>⟨λh=>absurd h xN,λh=>?_⟩⟩
  case refine_2=>
   obtain⟨q1,q2,q3,q4,_⟩:=hq f hf;have h5:=(hg0 q3).2;rw[zYu (show((ar.map iA).length:Int)=sf by omega)]at h5;cases h5
  clear hpl hpg hpG hpS hq
  rcases h2 with h2|h2
  ·(refine eM call72 λF hF=>?_)
   refine xA (vD c1 c2) ?_;exact zL
  ·(refine eM call72 λF hF=>?_)
   refine xA (vD c1 c2) ?_;exact zL
 |true=>
 by_cases h3:(da.length:Int)<=200
 case neg=>
  refine⟨[],6,.inr rfl,?_,λf hf=>⟨λh=>absurd h xN,λh=>absurd (show(da.length:Int)<=200 by rw[h.2.1];simp) h3⟩⟩;clear hpl hpg hpG hpS hq
  rcases h2 with h2|h2
  ·(refine eM call72 λF hF=>?_)
   refine xA (vD c1 c2) ?_;exact zL
  ·(refine eM call72 λF hF=>?_)
   refine xA (vD c1 c2) ?_;exact zL
 have cg:=JC gr;have hlg:=zA yA (TH gr);have hvg:=bF gr
 rcases zGe ar ar.length (zYs _)with⟨k,hk1,hk2,hk3⟩|hall
 ·refine⟨[],6,.inr rfl,?_,λf hf=>⟨λh=>absurd h xN,λh=>?_⟩⟩
  case refine_2=>
   have:=h.2.2.2 k zB;rw[hk2]at this;cases this
  clear hq hg0;have hinv:∀i,i<k->veF (ar.getD i default)=0:=λi hi=>by rw[zBq,hk3 i hi,zYp rfl]
  have hinv2:veF (ar.getD k default)=8:=by rw[zBq,hk2,zYo zZb]
  clear hk2 hk3
  rcases h2 with h2|h2
  all_goals
   refine eM call72 λF hF=>?_
   refine xA (gK c1 c2 c3) ?_
  all_goals
   refine vZ 1001 rfl ?_;refine xV (ar.length+1) [1001,1,4] [1,4] [1,4,6,64] [7,65,1,4,6,64] rfl (λi T U zs=>(i<=k)/\zs=⟨(7,.ref 1001 0 ((py i).map yA).length)::(65,iA i)::T,(1001,.arr 1 ((py i).map yA) true)::U⟩) ?_;(conv=>whnf);refine⟨?_,?_,?_⟩
   ·refine⟨zY4 _,?_⟩;rw[hp0];rfl
   ·rintro i st' hi ⟨hik,rfl⟩;have cv:=JC (ar.getD i default);have hy:=zN iA ar i zB;have hbl:=hpl i;have hb2:=hpg i;have hg:=hpG i;have hS:=hpS i;have hlp:=zA yA (py i);have hlv:=zA yA (TH (ar.getD i default));have hvv:=bF (ar.getD i default)
    have hve:(i<k/\veF (ar.getD i default)=0)∨(i=k/\veF (ar.getD i default)=8):=by
     by_cases e:i=k
     ·subst e;exact .inr ⟨rfl,hinv2⟩
     ·exact .inl ⟨zB,hinv i zB⟩
    have hmS:(py (i+1)).map yA=(pg i).map yA++(TH (ar.getD i default)).map yA:=by rw[hS,zYz]
    have hmG:(pg i).map yA=if(i:Int)=sf/\0<sg then(py i).map yA++(TH gr).map yA else(py i).map yA:=by
     rw[hg];split
     ·rw[zYz]
     ·rfl
    rw[hmS];clear hS hg hpl hpg hpG hpS hp0 hmS c1 c2 c3 hinv hinv2;generalize (py i).map yA=A at *;generalize (pg i).map yA=B at *;generalize TH (ar.getD i default)=V at *;generalize veF (ar.getD i default)=ve at *;generalize ar.getD i default=a at *;generalize TH gr=W at *;by_cases hi1:(i:Int)=sf
    ·by_cases hi2:0<sg
     ·rw[zYp ⟨hi1,hi2⟩]at hmG;subst hmG
      rcases hve with⟨hv1,rfl⟩|⟨hv1,rfl⟩
      ·(refine xA (vD cg cv) ?_)
       exact⟨zB,rfl⟩
      ·(refine xA (vD cg cv) ?_)
       exact zL
     ·rw[zYo (λh=>hi2 h.2)]at hmG;subst hmG
      rcases hve with⟨hv1,rfl⟩|⟨hv1,rfl⟩
      ·(refine zW cv ?_)
       exact⟨zB,rfl⟩
      ·(refine zW cv ?_)
       exact zL
    ·rw[zYo (λh=>hi1 h.1)]at hmG;subst hmG
     rcases hve with⟨hv1,rfl⟩|⟨hv1,rfl⟩
     ·(refine zW cv ?_)
      exact⟨zB,rfl⟩
     ·(refine zW cv ?_)
      exact zL
   ·rintro st' ⟨hik,rfl⟩;exfalso;omega
 ·have hgl:=hpg ar.length;by_cases hz:((pg ar.length).map yA++da.map yA).length<=200
  case neg=>
   refine⟨[],6,.inr rfl,?_,λf hf=>⟨λh=>absurd h xN,λh=>?_⟩⟩
   case refine_2=>
    exfalso;apply hz;have e1:=h.1;have e2:=h.2.1;have e3:=h.2.2.1;have e4:f<=3:=by omega
    rw[zYr,zYq,zYq,e2];simp only[zZz];omega
   clear hq hg0;have hinv:∀i,i<ar.length->veF (ar.getD i default)=0:=λi hi=>by rw[zBq,hall i hi,zYp rfl]
   clear hall
   rcases h2 with h2|h2
   all_goals
    refine eM call72 λF hF=>?_
    refine xA (gK c1 c2 c3) ?_
   all_goals
    refine vZ 1001 rfl ?_;refine xV (ar.length+1) [1001,1,4] [1,4] [1,4,6,64] [7,65,1,4,6,64] rfl (λi T U zs=>(i<=ar.length)/\zs=⟨(7,.ref 1001 0 ((py i).map yA).length)::(65,iA i)::T,(1001,.arr 1 ((py i).map yA) true)::U⟩) ?_;(conv=>whnf);refine⟨?_,?_,?_⟩
    ·refine⟨zY4 _,?_⟩;rw[hp0];rfl
    ·rintro i st' hi ⟨hik,rfl⟩;have hbl:=hpl i;have hb2:=hpg i;have hg:=hpG i;have hlp:=zA yA (py i);have hlP:=zA yA (pg i)
     have hmG:(pg i).map yA=if(i:Int)=sf/\0<sg then(py i).map yA++(TH gr).map yA else(py i).map yA:=by
      rw[hg];split
      ·rw[zYz]
      ·rfl
     by_cases hie:i=ar.length
     ·subst hie;clear hpS hg hpl hpg hpG hp0 c1 c2 c3 hinv;generalize (py ar.length).map yA=A at *;generalize (pg ar.length).map yA=B at *;generalize TH gr=W at *;by_cases hi1:(ar.length:Int)=sf
      ·by_cases hi2:0<sg
       ·rw[zYp ⟨hi1,hi2⟩]at hmG;subst hmG;refine zW cg ?_;exact zL
       ·rw[zYo (λh=>hi2 h.2)]at hmG;subst hmG;refine WW ?_;exact zL
      ·rw[zYo (λh=>hi1 h.1)]at hmG;subst hmG;refine WW ?_;exact zL
     have cv:=JC (ar.getD i default);rw[hinv i zB]at cv;have hy:=zN iA ar i zB;have hS:=hpS i;have hlv:=zA yA (TH (ar.getD i default));have hvv:=bF (ar.getD i default);have hmS:(py (i+1)).map yA=(pg i).map yA++(TH (ar.getD i default)).map yA:=by rw[hS,zYz]
     rw[hmS];clear hS hg hpl hpg hpG hpS hp0 hmS c1 c2 c3 hinv hz hgl;generalize (pg ar.length).map yA=E at *;generalize (py i).map yA=A at *;generalize (pg i).map yA=B at *;generalize TH (ar.getD i default)=V at *;generalize ar.getD i default=a at *;generalize TH gr=W at *;by_cases hi1:(i:Int)=sf
     ·by_cases hi2:0<sg
      ·rw[zYp ⟨hi1,hi2⟩]at hmG;subst hmG;refine xA (vD cg cv) ?_;exact⟨zB,rfl⟩
      ·rw[zYo (λh=>hi2 h.2)]at hmG;subst hmG;refine zW cv ?_;exact⟨zB,rfl⟩
     ·rw[zYo (λh=>hi1 h.1)]at hmG;subst hmG;refine zW cv ?_;exact⟨zB,rfl⟩
    ·rintro st' ⟨hik,rfl⟩;exfalso;omega
  refine⟨((pg ar.length).map yA++da.map yA).take ((pg ar.length).map yA++da.map yA).length,0,.inl rfl,?_,λf hf=>⟨λ_=>?_,λ_=>rfl⟩⟩
  case refine_2=>
   obtain⟨q1,q2,q3,q4,_⟩:=hq f hf;have h5:=yC3 (hg0 q3).2.symm;refine⟨zB,zZp zB,zB,λi hi=>hall i zB⟩
  clear hq hg0;have hinv:∀i,i<ar.length->veF (ar.getD i default)=0:=λi hi=>by rw[zBq,hall i hi,zYp rfl]
  clear hall
  rcases h2 with h2|h2
  all_goals
   refine eM call72 λF hF=>?_
   refine xA (gK c1 c2 c3) ?_
  all_goals
   refine vZ 1001 rfl ?_;refine xV (ar.length+1) [1001,1,4] [1,4] [1,4,6,64] [7,65,1,4,6,64] rfl (λi T U zs=>(i<=ar.length)/\zs=⟨(7,.ref 1001 0 ((py i).map yA).length)::(65,iA i)::T,(1001,.arr 1 ((py i).map yA) true)::U⟩) ?_;(conv=>whnf);refine⟨?_,?_,?_⟩
   ·refine⟨zY4 _,?_⟩;rw[hp0];rfl
   ·rintro i st' hi ⟨hik,rfl⟩;have hbl:=hpl i;have hb2:=hpg i;have hg:=hpG i;have hlp:=zA yA (py i);have hlP:=zA yA (pg i)
    have hmG:(pg i).map yA=if(i:Int)=sf/\0<sg then(py i).map yA++(TH gr).map yA else(py i).map yA:=by
     rw[hg];split
     ·rw[zYz]
     ·rfl
    by_cases hie:i=ar.length
    ·subst hie;clear hpS hg hpl hpg hpG hp0 c1 c2 c3 hinv;generalize (py ar.length).map yA=A at *;generalize (pg ar.length).map yA=B at *;generalize TH gr=W at *;by_cases hi1:(ar.length:Int)=sf
     ·by_cases hi2:0<sg
      ·rw[zYp ⟨hi1,hi2⟩]at hmG;subst hmG;refine zW cg ?_;exact zL
      ·rw[zYo (λh=>hi2 h.2)]at hmG;subst hmG;refine WW ?_;exact zL
     ·rw[zYo (λh=>hi1 h.1)]at hmG;subst hmG;refine WW ?_;exact zL
    have cv:=JC (ar.getD i default);rw[hinv i zB]at cv;have hy:=zN iA ar i zB;have hS:=hpS i;have hlv:=zA yA (TH (ar.getD i default));have hvv:=bF (ar.getD i default);have hmS:(py (i+1)).map yA=(pg i).map yA++(TH (ar.getD i default)).map yA:=by rw[hS,zYz]
    rw[hmS];clear hS hg hpl hpg hpG hpS hp0 hmS c1 c2 c3 hinv hz hgl;generalize (pg ar.length).map yA=E at *;generalize (py i).map yA=A at *;generalize (pg i).map yA=B at *;generalize TH (ar.getD i default)=V at *;generalize ar.getD i default=a at *;generalize TH gr=W at *;by_cases hi1:(i:Int)=sf
    ·by_cases hi2:0<sg
     ·rw[zYp ⟨hi1,hi2⟩]at hmG;subst hmG;refine xA (vD cg cv) ?_;exact⟨zB,rfl⟩
     ·rw[zYo (λh=>hi2 h.2)]at hmG;subst hmG;refine zW cv ?_;exact⟨zB,rfl⟩
    ·rw[zYo (λh=>hi1 h.1)]at hmG;subst hmG;refine zW cv ?_;exact⟨zB,rfl⟩
   ·rintro st' ⟨hik,rfl⟩;exfalso;omega
def kdP (k:Int) (f:Nat):Prop:=(k=2/\f=3)∨(k=3/\f=1)∨(k=4/\f=2)∨(k=5/\f=1)
def mvP (m:Ms) (f:Nat):Prop:=m.tok.length=10/\m.data=[]/\m.args.length=f/\∀i,i<f->nmB (m.args.getD i default)=true
theorem zGg (m:Ms) (hm:MsB m):∃b:Bool,zO 119 [yB m] [] (bA b) []/\∀f,kdP m.kind f->(b=true↔mvP m f):=by
 obtain⟨xs,e,he,c,h⟩:=zGf m hm
 rcases he with rfl|rfl
 ·refine⟨true,?_,λf hf=>⟨λ_=>(h f hf).1 rfl,λ_=>rfl⟩⟩;clear h;refine eM call119 λF hF=>?_
  refine zW c ?_;exact zL
 ·refine⟨false,?_,λf hf=>⟨λh1=>absurd h1 zZb,λh1=>absurd ((h f hf).2 h1) xN⟩⟩;clear h;refine eM call119 λF hF=>?_
  refine zW c ?_;exact zL
def FE:Nat->Int->List Int
 |0,n=>[n]
 |z+1,n=>if 128<=n then(n % 128+128)::FE z (n/128)else [n]
theorem RZ:∀z n,(FE z n).length<=z+1
 |0,n=>zYs _
 |z+1,n=>by
  unfold FE;split
  ·have:=RZ z (n/128);simp only[zY2];omega
  ·simp
theorem zNf (z:Nat) (n:Int) (h:n<128):FE z n=[n]:=by
 cases z with
 |zero=>rfl
 |succ z=>unfold FE;rw[zYo zB]
def szN:Nat->Int->Int
 |0,_=>0
 |z+1,n=>if 128<=n then 1+szN z (n/128)else 0
theorem JE:∀z n,0<=szN z n/\szN z n<=z
 |0,n=>⟨yAu _,yAu _⟩
 |z+1,n=>by
  unfold szN;split
  ·have:=JE z (n/128);omega
  ·omega
theorem zNg (z:Nat) (n:Int) (h:n<128):szN z n=0:=by
 cases z with
 |zero=>rfl
 |succ z=>unfold szN;rw[zYo zB]
theorem zGh (x:Int) (h0:0<=x) (h1:x<=4294967295):x.tdiv 128=x/128/\XB .i64 (x.tdiv 128):=by
 have e:=yAh (a:=x) (b:=128) h0;refine⟨e,?_⟩;rw[e];exact⟨by show(-9223372036854775808:Int)<=_;omega,by show _<=(9223372036854775807:Int);omega⟩
theorem zNh (n:Int) (h1:0<=n) (h2:n<=4294967295):∃k:Int,1<=k/\zO 203 [iA n] [] (iA k) []:=by
 refine⟨1+szN 5 n,by have:=JE 5 n;omega,?_⟩;have hs5:=JE 5 n;refine eM call203 λF hF=>?_
 refine WW ?_;refine gY (5) [] [] [] [0,3] rfl (λzn T U zs=>∃(x:Int) (k:Int),(0<=x/\x<=4294967295/\x<P7 zn*128/\k+szN zn x=1+szN 5 n/\1<=k)/\zs=⟨(0,iA x)::(3,iA k)::T,U⟩) ?_;(conv=>whnf);refine⟨?_,?_⟩
 ·exact⟨n,1,⟨h1,h2,by show n<34359738368*128;omega,rfl,yAu _⟩,rfl⟩
 ·rintro zn st ⟨x,k,⟨b1,b1',b2,b3,b4⟩,rfl⟩;by_cases hx:128<=x
  ·have hz:zn≠0:=λe=>by
    subst e;have:P7 0=1:=rfl;omega
   obtain⟨z,rfl⟩:∃z,zn=z+1:=⟨zn-1,zB⟩;obtain⟨e,hq⟩:=zGh x b1 b1';have hP:P7 (z+1)=128*P7 z:=rfl
   have e2:szN (z+1) x=1+szN z (x/128):=by
    show(if 128<=x then _ else _)=_
    rw[zYp hx]
   rw[e2,<-e]at b3;have hx2:0<=x.tdiv 128/\x.tdiv 128<=4294967295/\x.tdiv 128<P7 z*128:=by rw[e];rw[hP]at b2;omega
   have hk6:=JE z (x.tdiv 128);clear e2 hP e b2;refine WW ?_;exact⟨z,zB,x.tdiv 128,k+1,⟨hx2.1,hx2.2.1,hx2.2.2,zB,zB⟩,rfl⟩
  ·rw[zNg zn x zB,Int.add_zero]at b3;rw[<-b3];refine WW ?_;exact zL
theorem zSh (n:Int) (h1:0<=n) (h2:n<=4294967295):zO 174 [iA n] [] (.tup [zD yA (FE 5 n),iA 0]) []:=by
 obtain⟨k,hk,c⟩:=zNh n h1 h2;refine eM call174 λF hF=>?_
 refine zW c ?_;refine xK 4 1001 1 rfl rfl rfl ?_;refine gY (5) [1001] [] [] [0,4] rfl (λzn T U zs=>∃(acc:List Int) (x:Int),(0<=x/\x<=4294967295/\x<P7 zn*128/\acc++FE zn x=FE 5 n/\acc.length<=100)/\zs=⟨(0,iA x)::(4,.ref 1001 0 (acc.map yA).length)::T,(1001,.arr 1 (acc.map yA) true)::U⟩) ?_;(conv=>whnf);refine⟨?_,?_⟩
 ·exact⟨[],n,⟨h1,h2,by show n<34359738368*128;omega,rfl,by simp⟩,rfl⟩
 ·rintro zn st ⟨acc,x,⟨b1,b1',b2,b3,b4⟩,rfl⟩;have hla:=zA yA acc;by_cases hx:128<=x
  ·have hz:zn≠0:=λe=>by
    subst e;have:P7 0=1:=rfl;omega
   obtain⟨z,rfl⟩:∃z,zn=z+1:=⟨zn-1,zB⟩;obtain⟨e,hq⟩:=zGh x b1 b1';have e9:=yAi (a:=x) (b:=128) b1;have hP:P7 (z+1)=128*P7 z:=rfl
   have e2:FE (z+1) x=(x % 128+128)::FE z (x/128):=by
    show(if 128<=x then _ else _)=_
    rw[zYp hx]
   rw[e2]at b3;have hm:(acc++[x.tmod 128+128]).map yA=acc.map yA++[yA (x.tmod 128+128)]:=by simp
   have hb5:acc++[x.tmod 128+128]++FE z (x.tdiv 128)=FE 5 n:=by rw[e,e9,zZc];exact b3
   have hr9:0<=x.tmod 128/\x.tmod 128<=127:=by rw[e9];omega
   have hx2:0<=x.tdiv 128/\x.tdiv 128<=4294967295/\x.tdiv 128<P7 z*128:=by rw[e];rw[hP]at b2;omega
   have hlc:acc.length+1<=100:=by
    have h6:=zZl List.length b3;have h7:=RZ 5 n;simp only[zYr,zY2]at h6;omega
   clear e2 b3 hP e e9;refine WW ?_;exact⟨z,zB,acc++[x.tmod 128+128],x.tdiv 128,⟨hx2.1,hx2.2.1,hx2.2.2,hb5,by simpa using hlc⟩,by rw[hm];rfl⟩
  ·rw[zNf zn x zB]at b3;rw[<-b3];have hm:zD yA (acc++[x])= .sl false ((acc.map yA++[yA (x)]).take (acc.map yA++[yA (x)]).length):=by rw[zYv];unfold zD;rw[zYz];rfl
   rw[hm];refine WW ?_;exact zL
def qyN (tok args:List Int):Nat->List Int
 |0=>tok
 |i+1=>qyN tok args i++FE 5 (args.getD i default)
theorem zBr (tok args:List Int):∀i,(qyN tok args i).length<=tok.length+6*i
 |0=>by show tok.length<=_;omega
 |i+1=>by
  have:=zBr tok args i;have h2:=RZ 5 (args.getD i default);unfold qyN;simp only[zYr];omega
def r5A (f:Int):AV:= .agg [iA f,iA 0,iA 0,iA 0,iA 0]
theorem zGi (k:Int) (f:Nat) (hf:kdP k f):zO 138 [iA k] [] (r5A f) []:=by
 rcases hf with⟨rfl,rfl⟩|⟨rfl,rfl⟩|⟨rfl,rfl⟩|⟨rfl,rfl⟩
 all_goals
  refine eM call138 λF hF=>?_
  refine WW ?_;exact zL
theorem zNi (k:Int) (h1:1<=k) (h2:k<=12):zO 139 [iA k] [] (bA true) []:=by
 refine eM call139 λF hF=>?_
 refine WW ?_;exact zL
theorem zNj (m:Ms) (f:Nat) (hf:kdP m.kind f) (h:mvP m f):∃xs:List AV,xs.length<=200/\zO 140 [yB m] [] (.sl false xs) []:=by
 obtain⟨h1,h2,h3,h4⟩:=h;have c1:=zGi m.kind f hf;have hf3:f<=3/\1<=f:=by unfold kdP at hf;omega
 obtain⟨mk,tk,ar,da⟩:=m;dsimp only at *;subst h2;have hQ:=zBr tk ar;refine⟨((qyN tk ar f).map yA++[]).take ((qyN tk ar f).map yA++[]).length,by have:=hQ f;simp;omega,?_⟩;have hlt:=zA yA tk;have hla:=zA iA ar;have hq0:qyN tk ar 0=tk:=rfl;have hqS:∀i:Nat,qyN tk ar (i+1)=qyN tk ar i++FE 5 (ar.getD i default):=λ_=>rfl
 generalize qyN tk ar=qy at *;rw[show yB ⟨mk,tk,ar,[]⟩= .agg [iA mk,zD yA tk,zD iA ar,zD yA []]from rfl];rw[show r5A f= .agg [iA f,iA 0,iA 0,iA 0,iA 0]from rfl]at c1;clear hf;refine eM call140 λF hF=>?_
 (have zc1:=c1;(repeat' (first|refine qS ?_|refine xR (λhc=>?_) (λhc=>?_)|refine wE (λhc=>?_)|(refine zE ?_;first|(refine yW ?_;refine gU 1001 tok rfl rfl rfl rfl rfl rfl (yY _ _ (λ_=>rfl)) rfl rfl rfl zB rfl rfl rfl ?_))|fail))<;>clear zc1)
 refine vZ 1001 rfl ?_;refine xV (ar.length) [1001,1,3] [1,3] [1,3,16,17] [4,18,1,3,16,17] rfl (λi T U zs=>(i<=ar.length)/\zs=⟨(4,.ref 1001 0 ((qy i).map yA).length)::(18,iA i)::T,(1001,.arr 1 ((qy i).map yA) true)::U⟩) ?_;(conv=>whnf);refine⟨?_,?_,?_⟩
 ·refine⟨zY4 _,?_⟩;rw[hq0];rfl
 ·rintro i st' hi ⟨hik,rfl⟩;have hn:=h4 i zB;unfold nmB at hn;rw[zYx]at hn;have cv:=zSh (ar.getD i default) hn.1 hn.2;have hy:=zN iA ar i hi;have hbl:=hQ i;have hlp:=zA yA (qy i);have hlv:=zA yA (FE 5 (ar.getD i default));have hvv:=RZ 5 (ar.getD i default);have hmS:(qy (i+1)).map yA=(qy i).map yA++(FE 5 (ar.getD i default)).map yA:=by rw[hqS,zYz]
  rw[hmS];clear hqS hQ hq0 hmS c1 hn h4;generalize (qy i).map yA=A at *;generalize FE 5 (ar.getD i default)=V at *;generalize ar.getD i default=a at *;refine zW cv ?_;exact⟨zB,rfl⟩
 ·rintro st' ⟨hik,rfl⟩;subst h3;have hbl:=hQ ar.length;have hlp:=zA yA (qy ar.length);clear hqS hQ hq0 h4 c1;generalize (qy ar.length).map yA=A at *;have hl0:(([]:List Int).map yA).length=0:=rfl;refine WW ?_;exact zL
theorem zDz (m:Ms) (hm:MsB m) (f:Nat) (hf:kdP m.kind f):∃b:Bool,zO 84 [yB m] [] (bA b) []/\(b=true↔mvP m f):=by
 have c1:=zGi m.kind f hf;have hk:2<=m.kind/\m.kind<=5:=by unfold kdP at hf;omega
 have c2:=zNi m.kind zB zB;have cp:=zNj m f hf;have b1:=hm.t;have b2:=hm.a;have b3:=hm.d;have hlt:=zA yA m.tok;have hla:=zA iA m.args;have hld:=zA yA m.data;have hf3:f<=3/\1<=f:=by unfold kdP at hf;omega
 rw[show r5A f= .agg [iA f,iA 0,iA 0,iA 0,iA 0]from rfl]at c1;by_cases h1:m.tok.length=10
 case neg=>
  refine⟨false,?_,λh=>absurd h zZb,λh=>absurd h.1 h1⟩;clear cp;refine eM call84 λF hF=>?_
  refine xA (vD c1 c2) ?_;exact zL
 by_cases h2:m.args.length=f
 case neg=>
  refine⟨false,?_,λh=>absurd h zZb,λh=>absurd h.2.2.1 h2⟩;clear cp;refine eM call84 λF hF=>?_
  refine xA (vD c1 c2) ?_;exact zL
 by_cases h3:m.data.length=0
 case neg=>
  refine⟨false,?_,λh=>absurd h zZb,λh=>absurd (by rw[h.2.1];rfl) h3⟩;clear cp;refine eM call84 λF hF=>?_
  refine xA (vD c1 c2) ?_;exact zL
 have h3:=zZp h3
 rcases zGe m.args m.args.length (zYs _)with⟨k,hk1,hk2,hk3⟩|hall
 ·refine⟨false,?_,λh=>absurd h zZb,λh=>?_⟩
  case refine_2=>
   have:=h.2.2.2 k zB;rw[hk2]at this;cases this
  clear cp;refine eM call84 λF hF=>?_
  refine xA (vD c1 c2) ?_;refine xV (m.args.length) [1] [1] [1,97,98] [99,1,97,98] rfl (λi T U zs=>(i<=k)/\zs=⟨(99,iA i)::T,U⟩) ?_;(conv=>whnf);refine⟨?_,?_,?_⟩
  ·exact⟨zY4 _,rfl⟩
  ·rintro i st' hi ⟨hik,rfl⟩;have hy:=zN iA m.args i hi;by_cases e:i=k
   ·subst e;unfold nmB at hk2;rw[zY9]at hk2;generalize m.args.getD i default=a at *;by_cases g1:0<=a
    ·have g2:¬a<=4294967295:=λh=>hk2 ⟨g1,h⟩
     clear hk2;refine WW ?_;exact zL
    ·clear hk2;refine WW ?_;exact zL
   ·have hn:=hk3 i zB;unfold nmB at hn;rw[zYx]at hn;obtain⟨hn1,hn2⟩:=hn;clear hk2 hk3;generalize m.args.getD i default=a at *;refine WW ?_;exact⟨zB,rfl⟩
  ·rintro st' ⟨hik,rfl⟩;exfalso;omega
 ·have hok:mvP m f:=⟨h1,h3,h2,λi hi=>hall i zB⟩;obtain⟨xs,hx,c3⟩:=cp hok;refine⟨true,?_,λ_=>hok,λ_=>rfl⟩;clear hok cp;rw[show yB m= .agg [iA m.kind,zD yA m.tok,zD iA m.args,zD yA m.data]from rfl]at *; refine eM call84 λF hF=>?_
  refine xA (vD c1 c2) ?_;refine zP (m.args.length) [1] [1] [1,97,98] [99,1,97,98] rfl (λi T U=>⟨(99,iA i)::T,U⟩) ?_;(conv=>whnf);refine⟨by rfl,?_,?_⟩
  ·intro i hi;have hy:=zN iA m.args i hi;have hn:=hall i hi;unfold nmB at hn;rw[zYx]at hn;obtain⟨hn1,hn2⟩:=hn;clear hall;generalize m.args.getD i default=a at *;refine WW ?_;rfl
  ·(refine zW c3 ?_)
   exact zL
theorem FF (l:List Vh) (id:Int):∃k,k<=l.length/\(∀i,i<k->(l.getD i default).id<id)/\(k<l.length->¬(l.getD k default).id<id):=by
 induction l with
 |nil=>exact⟨0,zYs _,λi h=>absurd h (yBb _),λh=>absurd h zU⟩
 | cons x l ih=>
  obtain⟨k,h1,h2,h3⟩:=ih;by_cases hx:x.id<id
  ·refine⟨k+1,by simpa using h1,λi hi=>?_,λhk=>?_⟩
   ·cases i with
    |zero=>exact hx
    |succ i=>exact h2 i zB
   ·exact h3 (by simpa using hk)
  ·exact⟨0,zY4 _,λi h=>absurd h (yBb _),λ_=>hx⟩
theorem zQz {l:List Vh}:GI l=true↔l.length<=8/\∀i,i<l.length->(0<=(l.getD i default).id/\(l.getD i default).id<=4294967295/\0<=(l.getD i default).cls/\(l.getD i default).cls<=3)/\(0<i->(l.getD (i-1) default).id<(l.getD i default).id):=by
 unfold GI;simp only[zY6,zYx,zY3,zZi];constructor
 ·rintro⟨h1,h2⟩;refine⟨zB,λi hi=>?_⟩;have:=h1 i hi;unfold TK at this;rw[zYx]at this;exact⟨⟨this.1,this.2.1,this.2.2.1,this.2.2.2.1⟩,this.2.2.2.2⟩
 ·rintro⟨h1,h2⟩;refine⟨λi hi=>?_,zB⟩;unfold TK;rw[zYx];have:=h2 i hi;exact⟨this.1.1,this.1.2.1,this.1.2.2.1,this.1.2.2.2,this.2⟩
end Av
end Go.Proofs.YtmamjhmoegjapaaGreat
