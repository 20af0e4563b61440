/- Part 15. -/
import Derived.Test.YtaglbcjljlkjcaaGreatV14
namespace Go.Proofs.YtaglbcjljlkjcaaGreat.Av
open Tryz
set_option linter.all false
set_option maxRecDepth 4000
set_option maxHeartbeats 4000000
open List renaming length->ln
open Inhabited renaming default->dd
variable {c:Cf}{cls k life ga v:Int}{i:It}{a:List Int}{qs:List Qd}{p:Ms}{d:xU}
def gO (k e:Int):Ms:=⟨15,[],[k,e],[]⟩
def Se (a k e:Int):AV:= .agg [iA a,iA k,iA e]
structure Hd where
 d:xU
 p:Ms
 k:Int
 e:Int
def iu (n u:Int) (h:Hd):AV:= .tup [zN h.d,yO h.p,Se n u h.e,iA h.k]
def PF (d:xU):AV:=wG d.rg (zE yS d.rq) (.ref 1005 0 (d.dr.map uE).length) (zE bA d.au)
def Zu (d:xU):xM:= .arr 1 (d.dr.map uE) true
def BP (n u:Int) (h:Hd):AV:= .tup [PF h.d,yO h.p,Se n u h.e,iA h.k]
def gZ (d:xU) (hb:cY d):zO 125 [zN d] [] (PF d) [(1005,Zu d)]:=by
 have u:=fC d.rg hb.rg;have L:=fD d.rq hb.q hb.g;have M:=hb.q;have z:=hb.n;have y:=hb.a;have C:=zA yS d.rq;have B:=zA uE d.dr;have A:=zA bA d.au;unfold PF zN wG;unfold Zu;unfold kD at u;refine eM call125 λF hF=>?_
 refine OJ (xH u L) ?_;refine zW 4 1005 1 Z Z Z ?_;refine zU (d.dr) [1005,2,3] [2,3] [2,3,18,19] [4,20,2,3,18,19] Z (λi gd T U=>⟨(4,.ref 1005 0 (gd.map uE).length)::(20,iA i)::T,(1005,.arr 1 (gd.map uE) true)::U⟩) (Lq ?_ ?_)
 .intro i gd x post hx hi;have R:=zY uE hx hi;have E:=zX hx hi;have G:(gd.map uE).length=i:=by rw[f7,hi]
  have O:=hb.e x (yQ hx);have I:=zA yA x;have e:(gd++[x]).map uE=gd.map uE++[uE x]:=by simp
  clear hx;rw[e];generalize gd.map uE=xs,d.dr.map uE=S at *;refine WL ?_;rfl
 ·(refine WL ?_)
  exact zH [1005] Z Z Z Z
def yc (c:Cf) (d:xU) (s ga:Int) (i:It) (h:Hd):Prop:=
 zO 131 [vL c,zN d,iA s,cF i,iA ga] [] (iu d.rg.num i.kind h) []/\zO 131 [vL c,zN d,iA s,cF i,iA ga] [] (BP d.rg.num i.kind h) [(1005,Zu h.d)]
def T6 (u:Int) (d:xU) (p:Ms) (k e:Int):Hd:=if e=0 then⟨d,p,k,0⟩else⟨d,gO u e,-1,e⟩
section
variable (c:Cf) (d:xU) (s ga:Int) (hb:cY d)
include hb
def Yu (i:It) (hc:i.code≠0):yc c d s ga i ⟨d,gO i.kind i.code,-1,i.code⟩:=by
 have y:=gZ d hb;have u:=kB d hb;unfold yc vL iu BP gO Se cF zN PF Zu wG yO at *;refine⟨?_,?_⟩
 ·(refine eM call131 λF hF=>?_)
  exact pb u
 ·(refine eM call131 λF hF=>?_)
  refine WDo u ?_;refine VR y ?_;exact zH [1005] Z Z Z Z
def Xu (i:It) (hc:i.code=0) (hk:¬(1<=i.kind/\i.kind<=12)):yc c d s ga i ⟨d,gO i.kind 5,-1,5⟩:=by
 have z:=gZ d hb;have y:=kB d hb;have u:=cP i.kind;rw[zAb hk]at u;obtain⟨A,B,C⟩:=i;dsimp only at *;subst hc;unfold yc vL iu BP gO Se cF zN PF Zu wG yO at *;refine⟨?_,?_⟩
 ·(refine eM call131 λF hF=>?_)
  exact nm (xH y u)
 ·(refine eM call131 λF hF=>?_)
  refine u0 (xH y u) ?_;refine VR z ?_;exact zH [1005] Z Z Z Z
def Wu (k:Int) (z:List Int) (B:1<=k) (h1:k<=12) (y:zO 191 [iA k,zE yA z] [] (u9 k (z.take 10) none) []):yc c d s ga ⟨0,k,z⟩ ⟨d,gO k 6,-1,6⟩:=by
 have C:=gZ d hb;have A:=kB d hb;have u:=cP k;rw[zAc ⟨B,h1⟩]at u;unfold u9 yO at y;unfold yc vL iu BP gO Se cF zN PF Zu wG yO at *;refine⟨?_,?_⟩
 ·(refine eM call131 λF hF=>?_)
  exact nm (qS A u y)
 ·(refine eM call131 λF hF=>?_)
  refine u0 (qS A u y) ?_;refine VR C ?_;exact zH [1005] Z Z Z Z
variable (k:Int) (pa tk0 ar:List Int) (h0:1<=k) (h1:k<=12) (k3:zO 191 [iA k,zE yA pa] [] (.tup [yO ⟨k,tk0,ar,[]⟩,iA 0]) [])
include h0 h1 k3
def Vu (r:Rg) (B e:Int) (C:e≠0) (y:zO 192 [kD d.rg,yO ⟨k,tk0,ar,[]⟩,iA ga] [] (.tup [kD r,iA B,iA e]) []):
  yc c d s ga ⟨0,k,pa⟩ ⟨d,gO k e,-1,e⟩:=by
 have A:=gZ d hb;have z:=kB d hb;have u:=cP k;rw[zAc ⟨h0,h1⟩]at u;unfold kD at y;unfold yc vL iu BP gO Se cF zN PF Zu wG yO at *;refine⟨?_,?_⟩
 ·(refine eM call131 λF hF=>?_)
  exact nm (cX z u k3 y)
 ·(refine eM call131 λF hF=>?_)
  refine u0 (cX z u k3 y) ?_;refine VR A ?_;exact zH [1005] Z Z Z Z
def Gw (r:Rg) (M:Int) (A:zO 192 [kD d.rg,yO ⟨k,tk0,ar,[]⟩,iA ga] [] (.tup [kD r,iA M,iA 0]) []) (u:xU) (y:cY u) (p:Ms) (L e:Int)
  (B:zO 193 [vL c,zN (uR d r),iA s,yO ⟨k,tk0,ar,[]⟩,iA M,iA ga] [] (hT u p L e) []):
  yc c d s ga ⟨0,k,pa⟩ (T6 k u p L e):=by
 have I:=gZ u y;have C:=kB d hb;have G:=kB u y;have z:=cP k;rw[zAc ⟨h0,h1⟩]at z;unfold kD at A;unfold hT uR at B;unfold yc vL cF zN PF Zu wG yO at *;by_cases E:e=0
 .subst E;unfold T6 iu BP Se zN PF wG yO;rw[Os Z];refine⟨?_,?_⟩
  ·(refine eM call131 λF hF=>?_)
   exact nm (BJ C z k3 A B G)
  ·(refine eM call131 λF hF=>?_)
   refine u0 (KE C z k3 A B) ?_;refine VR I ?_;exact zH [1005] Z Z Z Z
 .unfold T6 iu BP Se gO zN PF wG yO;rw[hW E];refine⟨?_,?_⟩
  ·(refine eM call131 λF hF=>?_)
   exact nm (BJ C z k3 A B G)
  ·(refine eM call131 λF hF=>?_)
   refine u0 (KE C z k3 A B) ?_;refine VR I ?_;exact zH [1005] Z Z Z Z
def Q0 (r:Rg) (G:Int) (A:zO 192 [kD d.rg,yO ⟨k,tk0,ar,[]⟩,iA ga] [] (.tup [kD r,iA G,iA 0]) []) (u:xU) (y:cY u) (p:Ms) (E:Int)
  (B:zO 193 [vL c,BS (uR d r),iA s,yO ⟨k,tk0,ar,[]⟩,iA G,iA ga] [(1004,Bw d.au)] (k8 u p E 0) [(1004,Bw u.au)]):
  yc c d s ga ⟨0,k,pa⟩ ⟨u,p,E,0⟩:=by
 have L:=gZ u y;have C:=MW d hb;have I:=kB u y;have z:=cP k;rw[zAc ⟨h0,h1⟩]at z;unfold kD at A;unfold k8 uR at B;unfold Bw BS at *;unfold yc vL cF zN PF Zu wG yO at *;unfold iu BP Se zN PF wG yO;refine⟨?_,?_⟩
 ·(refine eM call131 λF hF=>?_)
  refine u0 (KE C z k3 A B) ?_;refine vJ [5,6,8,10,11,12,14,17] [5,6,8,10,11,12,13,14,15,16,17] Z ?_
  (conv=>whnf)
  simp only[zAr,zAa];exact pb I
 ·(refine eM call131 λF hF=>?_)
  refine u0 (KE C z k3 A B) ?_;refine vJ [5,6,8,10,11,12,14,17] [5,6,8,10,11,12,13,14,15,16,17] Z ?_
  (conv=>whnf)
  simp only[zAr,zAa];refine VR L ?_;exact zH [1005] Z Z Z Z
end
def Rn (l:List Tk) (hn:ln l<=1000000) (g:Int) (b:List Int) (k ga:Int) (hb:BY b):zO 240 [zE yK l,iA g,zE yA b,iA k,iA ga] [] (.tup [iA (if be l g b k ga=true then b.getD 1 dd else 0),iA (if be l g b k ga=true then 0 else 9)]) []:=by
 have S:=zA yA b;have U:=zA yK l;by_cases h1:(ln b:Int)=10
 case neg=>
  have e:be l g b k ga=false:=by unfold be;rw[zAb (λh=>h1 h.1)];rfl
  rw[e];refine eM call240 λF hF=>?_
  exact mx
 have B:=yC yA b 0 zB zB;have C:=yC yA b 1 zB zB;have Y:0<=b.getD 0 dd/\b.getD 0 dd<256:=hb _ aw;have E:0<=b.getD 1 dd/\b.getD 1 dd<256:=hb _ aw
 change (b.map yA)[0]? =some (yA (b.getD 0 dd))at B
 change (b.map yA)[1]? =some (yA (b.getD 1 dd))at C
 unfold be Sm;generalize b.getD 0 dd=X,b.getD 1 dd=z at *;by_cases h2:X=g
 case neg=>
  rw[zAb (λh=>h2 h.2)];refine eM call240 λF hF=>?_
  exact mx
 rw[zAc ⟨h1,h2⟩];by_cases O:z<ln l
 case neg=>
  have y:jQ l z=false:=by unfold jQ;rw[zAb zB];rfl
  rw[y];refine eM call240 λF hF=>?_
  exact mx
 have y:jQ l z=(l.getD z.toNat dd).used:=by unfold jQ;rw[zAc ⟨E.1,O⟩,zAj]
 rw[y];have u:=yC yK l z E.1 zB;generalize l.getD z.toNat dd=t at *;cases y:t.used
 .rw[show yK t=eQ false t by unfold yK eQ;rw[y]]at u;unfold eQ at u;refine eM call240 λF hF=>?_
  exact mx
 .rw[show yK t=eQ true t by unfold yK eQ;rw[y]]at u;unfold eQ at u;have R:(b.drop 2).map yA=(b.map yA).drop 2:=by rw[zC4]
  rw[Zn (b.drop 2) t.sec];have G:=Ob t.rights k;generalize V:sn t.sec (b.drop 2)=W at *;generalize Ft t.rights k=M at *;have A:Nb t ga=decide (t.til≠0/\t.til<ga):=rfl;rw[A]
  cases W with
  |false=>
   refine eM call240 λF hF=>?_
   exact mx
  |true=>
  by_cases I:t.til=0
  .rw[zAb (λh=>h.1 I)]
   cases M<;>((refine eM call240 λF hF=>?_);exact nl G)
  by_cases L:t.til<ga
  .rw[zAc ⟨I,L⟩];refine eM call240 λF hF=>?_
   exact mx
  .rw[zAb (λh=>L h.2)]
   cases M<;>((refine eM call240 λF hF=>?_);exact nl G)
def Uu (r:Rg) (m:Ms) (ga:Int) (B:GT r) (E:BY m.tok) (hl:r.bk.level<=1000000):zO 192 [kD r,yO m,iA ga] [] (.tup [kD (Qt r m ga),iA (C3 r m ga),iA (Dh r m ga)]) []:=by
 have u:=Rn r.tk B.tk.n r.num m.tok m.kind ga E;have z:=fC r B;have y:=Lm r.bk zB;unfold Qt C3 Dh
 cases A:be r.tk r.num m.tok m.kind ga<;>rw[A]at u
 ·(refine eM call192 λF hF=>?_)
  exact nl u
 .generalize m.tok.getD 1 dd=C at *;cases hk:QK m.kind
  .have hk':¬(2<=m.kind/\m.kind<=8):=zEf hk;refine eM call192 λF hF=>?_
   refine yB (xH u z) (I2 (λhc=>?_) λhc=>?_)
   all_goals (first|exact JY|exact zI)
  .have hk':2<=m.kind/\m.kind<=8:=zD5 hk;by_cases hv:r.bk.level<=0
   .rw[zAb zB]at y;simp only[hv,and_self,zEk];refine eM call192 λF hF=>?_
    exact ng (qS u z y)
   .rw[zAc zB]at y;simp only[hv,zE3,zFg,zEk];generalize hb:LZ r.bk=G at *;refine eM call192 λF hF=>?_
    exact ng (qS u z y)
def Tu (l:List Tk) (ga:Int) (n:Nat) (j:Nat):Bool:=(List.range n).any λi=>jQ l i&&Nb (l.getD i dd) ga&&ZQ l 9 j i
theorem Qn (l:List Tk) (ga:Int) (n:Nat):Tu l ga (n+1)=λj=>Tu l ga n j||(jQ l n&&Nb (l.getD n dd) ga&&ZQ l 9 j n):=by
 funext j
 unfold Tu
 grind
def Bg (l:List Tk) (hb:JW l) (A:ln l=8) (ga:Int):zO 189 [zE yK l,iA ga] [] (zE yK (ZW l ga)) []:=by
 have L:=zA yK l;have E:=qe l hb (Tu l ga 8) A;have hx:=Uz A ga
 change ZW l ga=RA (Tu l ga 8) l 8 at hx
 rw[hx];generalize RA (Tu l ga 8) l 8=M at *;obtain⟨N,hN⟩:∃N:Nat,N=8:=⟨8,rfl⟩;refine eM call189 λF hF=>?_
 refine WW ?_;refine zM (N) [] [] [0,1,8,9] [5,10,0,1,8,9] Z (λi T U=>⟨(5,iA (qT (Tu l ga i) 8))::(10,iA i)::T,U⟩) (Lq ?_ ?_)
 .intro i hi;have y:jQ l i=(l.getD i dd).used:=by unfold jQ;rw[zAc zB,zAj,zAv]
  have G:=ue l i A;rw[A]at G;have u:=Rb (Tu l ga i) (λj=>ZQ l 9 j i);have C:=zJ yK l i zB;have B:=Qn l ga i;rw[y]at B;rw[B];clear B y E hx;generalize Tu l ga i=p,l.getD i dd=t at *;rw[show yK t= .agg [bA t.used,zE yA t.sec,iA t.par,iA t.rights,iA t.cls,iA t.til]from Z]at C;unfold Nb
  cases y:t.used with
  |false=>
   rw[y]at C;rw[show(λj=>p j||false&&decide (t.til≠0/\t.til<ga)&&ZQ l 9 j i)=p by funext j;simp];generalize qT p 8=b at *;refine WW ?_;rfl
  |true=>
  rw[y]at C;by_cases z:t.til≠0/\t.til<ga
  .rw[zAc z];rw[show(λj=>p j||true&&true&&ZQ l 9 j i)=λj=>p j||ZQ l 9 j i by funext j;simp,<-u];clear u;obtain⟨z,I⟩:=z;generalize qT p 8=b,qT (λj=>ZQ l 9 j i) 8=c at *;refine zP G ?_;rfl
  .rw[zAb z];rw[show(λj=>p j||true&&false&&ZQ l 9 j i)=p by funext j;simp];generalize qT p 8=b at *;by_cases I:t.til=0
   all_goals
    (refine WW ?_)
    rfl
 .rw[hN];exact nl E
def Pn (r:Rg) (ga:Int) (u:GT r) (B:ln r.tk=8) (hl: -1000000<=r.bk.level+r.bk.rate/\r.bk.level+r.bk.rate<=1000000):zO 129 [kD r,iA ga] [] (kD (Lz r ga)) []:=by
 have y:=fC r u;have z:=Bg r.tk u.tk B ga;have A:=Mm r.bk zB;unfold Lz;generalize ZW r.tk ga=E,Z6 r.bk=C at *;refine eM call129 λF hF=>?_
 exact ng (qS y z A)
def S6 (c:Cf) (l:List Rq):Prop:=∀r∈l,∀g∈r.legs,g.jn<(ln c.js:Int)/\g.ph<((c.js.getD g.jn.toNat dd).ph.length:Int)
structure qB (c:Cf) (d:xU):Prop where
 b:GT d.rg
 v:VI d.rq
 q:(d.rq.length:Int)<=d.rg.ag.req
 lg:S6 c d.rq
 a:ot d.rg.ag
 n:0<=d.rg.num/\d.rg.num<4
 t8:d.rg.tk.length=8
 br:d.rg.bk.rate=d.rg.ag.rate
 bb:d.rg.bk.burst=d.rg.ag.burst
 bl:0<=d.rg.bk.level/\d.rg.bk.level<=d.rg.ag.burst
 au:(d.au.length:Int)=d.rg.ag.ses
 dn:d.dr.length<=1000
 dr:∀x∈d.dr,x.length=8/\BY x
 vh:d.rg.vh.length<=8
theorem qB.bd (h:qB c d):cY d:=
 ⟨h.b,by have:=h.v.n4;omega,λr u=>by have:=h.v.lg3 u;omega,h.dn,λx hx=>by have:=(h.dr x hx).1;omega,by have:=h.au;have:=h.a.e;omega⟩
theorem Fw:∀(n:Nat) (l:List Int),ln l=4*n->∃qs:List Qd,l=QM qs/\qs.length=n
 |0,l,h=>⟨[],zA5 zB,rfl⟩
 |n+1,a::b::c::e::l,h=>by
  obtain⟨qs,h1,h2⟩:=Fw n l (by simp only[zAp]at h;omega);exact⟨⟨a,b,c,e⟩::qs,by rw[h1];rfl,by rw[zAp,h2]⟩
 |n+1,[],h=>by simp at h
 |n+1,[_],h=>by simp at h;omega
 |n+1,[_,_],h=>by simp at h;omega
 |n+1,[_,_,_],h=>by simp at h;omega
theorem Ew:∀(n:Nat) (l:List Int),ln l=2*n->∃u:List (Int×Int),l=KG u/\u.length=n
 |0,l,h=>⟨[],zA5 zB,rfl⟩
 |n+1,a::b::l,h=>by
  obtain⟨u,h1,h2⟩:=Ew n l (by simp only[zAp]at h;omega);exact⟨(a,b)::u,by rw[h1];rfl,by rw[zAp,h2]⟩
 |n+1,[],h=>by simp at h
 |n+1,[_],h=>by simp at h;omega
theorem Su {z u:Nat} {p:List Int} (hb:BY p) (h:JT z u p=some a):ln p<=200/\10<=ln p/\(∀x∈a,0<=x/\x<=4294967295)/\(u=0->ln a=z)/\(u≠0->∃c:Nat,1<=c/\c<=3/\a.length=z+c*u):=by
 unfold JT at h;by_cases hl:200<ln p\/p.length<10
 .grind
 rw[hW hl]at h;have B:BY (p.drop 10):=λx hx=>hb x (zBo hx)
 cases h1:OE z (p.drop 10)with
 |none=>rw[h1]at h;cases h
 | some M=>
  obtain⟨L,E⟩:=M;rw[h1]at h;obtain⟨X,O,v1,_⟩:=VC z _ L E B h1;dsimp only at h;by_cases C:u=0
  .grind
  .rw [hW C]at h
   cases h2:OE 1 E with
   |none=>rw[h2]at h;cases h
   | some S=>
    obtain⟨y,G⟩:=S;rw[h2]at h;obtain⟨l2,R,v2,_⟩:=VC 1 _ y G O h2;dsimp only at h;by_cases hc:y.getD 0 0<1\/3<y.getD 0 0
    .grind
    rw[hW hc]at h
    cases A:OE ((y.getD 0 0).toNat*u) G with
    |none=>rw[A]at h;cases h
    | some V=>
     obtain⟨U,I⟩:=V;rw[A]at h;obtain⟨Y,b3,v3,_⟩:=VC _ _ U I R A;dsimp only at h;by_cases W:I=[]
     .rw[Os W]at h;cases h;refine⟨zB,zB,λx hx=>?_,λh=>absurd h C,λ_=>⟨(y.getD 0 0).toNat,zB,zB,by rw[zAf,X,Y]⟩⟩
      grind
     all_goals grind
def On (d:xU) (i:It) (ga:Int) (a:List Int):Prop:=i.code=0/\1<=i.kind/\i.kind<=12/\JT (uD i.kind) (wK i.kind) i.pay=some a/\Dh d.rg ⟨i.kind,i.pay.take 10,a,[]⟩ ga=0
def ua (d:xU) (i:It) (ga:Int) (a:List Int):xU:=uR d (Qt d.rg ⟨i.kind,i.pay.take 10,a,[]⟩ ga)
def RI (c:Cf) (d:xU) (s:Int) (i:It) (ga:Int) (h:Hd):Prop:=
 True/\yc c d s ga i h
def X9 (d:xU) (i:It) (ga:Int) (a:List Int) (h:Hd):Prop:=
 (i.kind=1/\h.p=bc d ga/\h.d=d)\/(i.kind=9/\h.p=BU d/\h.d=d)\/(i.kind=12/\h.p=XW d/\h.d=d)\/
 (i.kind=2/\∃(k:Nat) (u:List Int),k<8/\(ln u=8/\BY u)/\h.p=⟨16,[],[(k:Int)],d.rg.num::(k:Int)::u⟩)\/
 ((3<=i.kind/\i.kind<=8\/i.kind=10\/i.kind=11)/\∃x,0<=x/\x<=4294967295/\h.p=dW i.kind x)
def T0 (d:xU):Prop:=d.rg.tk.getD 0 dd=⟨true,d.rg.ag.sec,-1,d.rg.ag.rights,d.rg.ag.cls,0⟩
def BQ (d u:xU):Prop:=J1 d.rg.tk->J1 u.rg.tk/\u.au=d.au
theorem BQ.refl (d:xU):BQ d d:=λh=>⟨h,rfl⟩
theorem BQ.trans {a b:xU} (h:BQ a b) (k:BQ b d):BQ a d:=λx=>⟨(k (h x).1).1,(k (h x).1).2.trans (h x).2⟩
theorem T0.of {u:xU} (h1:u.rg.tk=d.rg.tk) (y:u.au=d.au):BQ d u:=λh=>⟨h1▸h,y⟩
def XV (l z:List Rq):Prop:=∀r∈z,∀g∈r.legs,g.sc= -1\/∃y∈l,y.id=r.id/\∃u∈y.legs,u.jn=g.jn/\u.ph=g.ph/\u.sc=g.sc
theorem XV.refl (l:List Rq):XV l l:=λr y g u=> .inr ⟨r,y,rfl,g,u,rfl,rfl,rfl⟩
theorem XV.filter (l:List Rq) (p:Rq->Bool):XV l (l.filter p):=λr y g u=> .inr ⟨r,(zDs.1 y).1,rfl,g,u,rfl,rfl,rfl⟩
theorem XV.trans {a b c:List Rq} (h1:XV a b) (h2:XV b c):XV a c:=λr y g u=>by
 rcases h2 r y g u with h|⟨r1,hr1,e1,g1,hg1,a1,a2,a3⟩
 .exact .inl h
 .rcases h1 r1 hr1 g1 hg1 with h|⟨r0,hr0,e0,g0,hg0,b1,b2,b3⟩
  .exact .inl (a3▸h)
  .exact .inr ⟨r0,hr0,e0.trans e1,g0,hg0,b1.trans a1,b2.trans a2,b3.trans a3⟩
structure Dw (c:Cf) (d:xU) (s:Int) (i:It) (ga:Int) (h:Hd):Prop where
 inv:qB c h.d
 ag:h.d.rg.ag=d.rg.ag
 num:h.d.rg.num=d.rg.num
 no:h.e≠0->h.k= -1/\h.p=gO i.kind h.e/\(h.d=d\/∃a,On d i ga a/\h.d=ua d i ga a)
 yes:h.e=0->∃a,On d i ga a/\X9 d i ga a h
 rst:h.k= -1\/(i.kind=11/\0<=h.k/\h.k<(c.js.length:Int))
 dl:h.d.dr.length<=d.dr.length
 t0:BQ d h.d
 eb:0<=i.code/\i.code<=100->0<=h.e/\h.e<=100
 ax:∀k:Nat,(k:Int)≠s->h.d.au[k]? =d.au[k]?
 sc:XV d.rq h.d.rq
theorem RJ {r:Rg} {m:Ms} (h:Dh r m ga=0):Qt r m ga=⟨r.num,r.ag,r.tk,r.vh,if QK m.kind=true then LZ r.bk else r.bk⟩/\be r.tk r.num m.tok m.kind ga=true/\(QK m.kind=true->0<r.bk.level)/\C3 r m ga=m.tok.getD 1 dd:=by
 have h1:be r.tk r.num m.tok m.kind ga=true:=by
  grind [Dh,Qt,QK,LZ,be,C3]
 refine⟨?_,h1,λhk=>?_,by rw[C3,Os h]⟩
 .rw[Qt,Os h]
  split<;>rfl
 all_goals grind [Dh,Qt,QK,LZ,be,C3]
theorem Cw (u:qB c d) (h:On d i ga a):qB c (ua d i ga a):=by
 obtain⟨h1,_,y,_⟩:=RJ h.2.2.2.2;unfold ua uR;rw[h1];have hl:=u.bl;refine⟨⟨u.b.tk,u.b.s,u.b.l,u.b.v⟩,u.v,u.q,u.lg,u.a,u.n,u.t8,?_,?_,?_,u.au,u.dn,u.dr,u.vh⟩
 .dsimp only;split
  .unfold LZ;split
   all_goals exact u.br
  .exact u.br
 .dsimp only;split
  .unfold LZ;split
   all_goals exact u.bb
  .exact u.bb
 all_goals grind [On,ua,LZ]
def MV (h:On d i ga a) (hk:i.kind=1\/9<=i.kind):ua d i ga a=d:=by
 obtain⟨h1,_,_,_⟩:=RJ h.2.2.2.2;unfold ua uR;rw[h1,hW (λh=>by unfold QK at h;rw[zAg]at h;dsimp only at h;omega)]
def N0 {u:Int} {e:Int} (h:e≠0):T6 u d p k e=⟨d,gO u e,-1,e⟩:=hW h
def Ru {u:Int} :T6 u d p k 0=⟨d,p,k,0⟩:=Os Z
def BR {s:Int} (z:qB c d) {e:Int} (A:e≠0) (p:Ms) (u:xU) (hd:u=d\/∃a,On d i ga a/\u=ua d i ga a)
 (h2:yc c d s ga i ⟨u,gO i.kind e,-1,e⟩) (y:0<=i.code/\i.code<=100->0<=e/\e<=100:=by(intro _;omega)):∃h,RI c d s i ga h/\Dw c d s i ga h:=by
 have hi:qB c u/\u.rg.ag=d.rg.ag/\u.rg.num=d.rg.num/\u.dr=d.dr/\u.rg.tk=d.rg.tk:=by
  rcases hd with rfl|⟨a,ho,rfl⟩
  .exact⟨z,rfl,rfl,rfl,rfl⟩
  .refine⟨Cw z ho,?_,?_,?_,?_⟩<;>(unfold ua uR;rw[(RJ ho.2.2.2.2).1])
 exact⟨⟨u,gO i.kind e,-1,e⟩,⟨trivial,h2⟩,hi.1,hi.2.1,hi.2.2.1,λ_=>⟨rfl,rfl,hd⟩,λh=>absurd h A,.inl Z,by rw[hi.2.2.2.1];exact zAe _,T0.of hi.2.2.2.2 (by rcases hd with h|⟨a,_,h⟩<;>rw[h];rfl),y,λ_ _=>by rw[show u.au=d.au by rcases hd with h|⟨a,_,h⟩<;>rw[h];rfl],by dsimp only;rw[show u.rq=d.rq by rcases hd with h|⟨a,_,h⟩<;>rw[h];rfl];exact XV.refl _⟩
def M0 {s:Int} (L:qB c d) (a:List Int) (G:On d i ga a) (p:Ms) (k:Int) (u:xU) (hi:qB c u) (C:u.rg.ag=d.rg.ag) (E:u.rg.num=d.rg.num)
 (I:X9 d i ga a ⟨u,p,k,0⟩) (hk:k= -1\/(i.kind=11/\0<=k/\k<(ln c.js:Int))) (z:ln u.dr<=ln d.dr) (B:BQ d u)
 (h2:yc c d s ga i ⟨u,p,k,0⟩) (y:u.au=d.au) (A:XV d.rq u.rq):∃h,RI c d s i ga h/\Dw c d s i ga h:=by
 exact⟨⟨u,p,k,0⟩,⟨trivial,h2⟩,hi,C,E,λh=>absurd Z h,λ_=>⟨a,G,I⟩,hk,z,B,λ_=>by dsimp only;omega,λ_ _=>by dsimp only;rw[y],A⟩
theorem Nn:∀{qs:List Qd} {q:Qd},q∈qs->q.j∈QM qs/\q.p∈QM qs/\q.f∈QM qs/\q.t∈QM qs
 |x::l,q,h=>by
  rw[show QM (x::l)=x.j::x.p::x.f::x.t::QM l from Z]
  rcases zBx.1 h with rfl|h
  .simp
  .obtain⟨h1,h2,u,y⟩:=Nn h;simp[h1,h2,u,y]
theorem wc {α β γ:Type} {f:α->β->γ}:∀{a:List α} {b:List β} {g:γ},g∈a.zipWith f b->∃x∈a,∃y,g=f x y
 |x::a,y::b,g,h=>by
  rw[zC9]at h
  rcases zBx.1 h with rfl|h
  .exact⟨x,by simp,y,rfl⟩
  .obtain⟨z,u,w,e⟩:=wc h;exact⟨z,by simp[u],w,e⟩
 | [],_,_,h=>by simp at h
 |_::_,[],_,h=>by simp at h
theorem Mn (l:List Rq) (r:Rq):(bO l r).length=ln l+1:=by grind [bO]
theorem L0 {j p f t:Int} (h:Bh j p f t ga=true):(Ig j p f t ga).jn=j/\(Ig j p f t ga).ph=p:=by grind [Bh,Ig]
theorem R6 (h:qs.all (RM c ga)=true):∀g∈qs.map (IE ga),g.jn<(ln c.js:Int)/\g.ph<((c.js.getD g.jn.toNat dd).ph.length:Int):=by
 intro g u;rw[zBm]at u;obtain⟨q,z,rfl⟩:=u;have h1:=zAm.1 h q z;unfold RM at h1;simp only[zAi,zAg]at h1;obtain⟨h2,B,y⟩:=h1;obtain⟨e1,A⟩:=L0 y
 grind [RM,IE]
theorem W9 {l:List Rq} {q id:Int} {x:List Lg} (h:FX l q id life x=0):(ln l:Int)<q/\(ln l:Int)<4:=by grind [FX]
theorem V9 {id:Int} (h:jh c d cls id v life ga qs=0):qh (bQ d.rg.vh v)=true/\qs.all (RM c ga)=true/\FX d.rq d.rg.ag.req id life (qs.map (IE ga))=0:=by grind [jh,qh,bQ,RM,FX,IE,A0]
def U9 (u:qB c d) {id:Int} (C:0<=ga) (E:ga<=1073741824) (h:jh c d cls id v life ga qs=0):qB c (Ah d (Y1 c d cls id v life ga qs)):=by
 obtain⟨hv,B,A⟩:=V9 h;unfold qh at hv;rw[zAg]at hv;have hl:=W9 A;unfold Ah Y1;rw[Os h];refine⟨u.b,E0 u.v A hv.1.1 hv.1.2 hv.2.1 hv.2.2 C E,?_,λr y g z=>?_,u.a,u.n,u.t8,u.br,u.bb,u.bl,u.au,u.dn,u.dr,u.vh⟩
 .dsimp only;rw[Mn];omega
 .rcases MY y with rfl|y
  .exact R6 B g z
  .exact u.lg r y g z
def T9 (u:qB c d) {id:Int} {C:List (Int×Int)} (h:bP d.rq id C ga=0):qB c (Ah d (j4 d.rq id C ga)):=by
 unfold Ah j4;rw[Os h];have hl:(VH d.rq id C ga).length=ln d.rq:=by unfold VH;rw[f7]
 refine⟨u.b,B0 u.v h,?_,λr A g B=>?_,u.a,u.n,u.t8,u.br,u.bb,u.bl,u.au,u.dn,u.dr,u.vh⟩
 .dsimp only;rw[hl];exact u.q
 .dsimp only at A;unfold VH at A;rw[zBm]at A;obtain⟨E,z,rfl⟩:=A;split at B
  .obtain⟨x,hx,y,rfl⟩:=wc B;exact u.lg E z x hx
  .exact u.lg E z g B
theorem Q6 (u:qB c d) (p:Rq->Bool):qB c (Ah d (d.rq.filter p)):=by
 have hl:=zBz p d.rq;have A:=u.q;refine⟨u.b,u.v.filter p,?_,λr z g y=>u.lg r ((zDs.1 z).1) g y,u.a,u.n,u.t8,u.br,u.bb,u.bl,u.au,u.dn,u.dr,u.vh⟩
 grind [Ah]
theorem P6 {id:Int} (h:jh c d cls id v life ga qs=0):XV d.rq (Y1 c d cls id v life ga qs):=by
 unfold Y1;rw[Os h];intro r u g y
 rcases MY u with rfl|u
 .refine .inl ?_;obtain⟨q,z,rfl⟩:=zBm.1 y
  grind [jh,XV,Y1,RM,IE,Ig]
 all_goals grind
theorem O6 {id:Int} {B:List (Int×Int)} (h:bP d.rq id B ga=0):XV d.rq (j4 d.rq id B ga):=by
 unfold j4;rw[Os h];intro r u g A;unfold VH at u;rw[zBm]at u;obtain⟨C,z,rfl⟩:=u;split at A
 .obtain⟨x,hx,y,rfl⟩:=wc A;exact .inr ⟨C,z,by split<;>rfl,x,hx,rfl,rfl,rfl⟩
 all_goals grind
def N6 (d:xU) (m:Ms) (y:Rg) (u:Bool):XV d.rq (yh d m y u 0).rq:=by
 unfold yh;rw[Os Z];dsimp only;split
 .exact XV.filter _ _
 .exact XV.refl _
theorem S9 (y:qB c d) {m:Ms} {G:List Int} {B:Rg} {u:Bool} (hb:GT B) (I:DoP d.rg m G B p u 0):qB c (yh d m B u 0)/\(yh d m B u 0).rg.ag=d.rg.ag/\(yh d m B u 0).rg.num=d.rg.num/\(yh d m B u 0).dr.length<=ln d.dr/\BQ d (yh d m B u 0):=by
 have A:(if u=true then d.dr.drop 1 else d.dr).length<=1000/\∀x∈(if u=true then d.dr.drop 1 else d.dr),ln x=8/\BY x:=by
  split
  .exact⟨by have:=y.dn;rw[zBh];omega,λx hx=>y.dr x (zBo hx)⟩
  .exact⟨y.dn,y.dr⟩
 have z:VI (if m.kind=5 then KB d.rq (m.args.getD 0 0)else d.rq)/\((if m.kind=5 then KB d.rq (m.args.getD 0 0)else d.rq).length:Int)<=d.rg.ag.req/\S6 c (if m.kind=5 then KB d.rq (m.args.getD 0 0)else d.rq):=by
  split
  .have h:=Q6 y (λx=>x.vh != m.args.getD 0 0);exact⟨h.v,h.q,h.lg⟩
  .exact⟨y.v,y.q,y.lg⟩
 have C:(if u=true then d.dr.drop 1 else d.dr).length<=ln d.dr:=by
  grind
 unfold yh;rw[Os Z]
 rcases I.2 Z with⟨o,E,hT,rfl,_⟩|⟨o,E,rfl,_⟩
 .refine⟨⟨hb,z.1,z.2.1,z.2.2,y.a,y.n,E,y.br,y.bb,y.bl,y.au,A.1,A.2,y.vh⟩,rfl,rfl,C,λh=>⟨hT h,rfl⟩⟩
 .exact⟨⟨hb,z.1,z.2.1,z.2.2,y.a,y.n,y.t8,y.br,y.bb,y.bl,y.au,A.1,A.2,E⟩,rfl,rfl,C,BQ.refl _⟩
theorem I0 (u:On d i ga a):(ua d i ga a).rg.ag=d.rg.ag/\(ua d i ga a).rg.num=d.rg.num/\(ua d i ga a).rg.tk=d.rg.tk/\(ua d i ga a).rq=d.rq/\(ua d i ga a).dr=d.dr/\(ua d i ga a).au=d.au:=by grind [On,ua,uR,RJ]
theorem Re {l:List Tk} {g:Int} {b:List Int} (h:be l g b k ga=true):jQ l (b.getD 1 dd)=true:=by grind [be,jQ]
theorem R9 (r:Rg) (m:Ms) (ga:Int):0<=Dh r m ga/\Dh r m ga<=100:=by grind [Dh]
theorem M6 (c:Cf) (d:xU) (cls id v life ga:Int) (qs:List Qd):0<=jh c d cls id v life ga qs/\jh c d cls id v life ga qs<=100:=by grind [jh,A0,FX]
theorem L6 (l:List Rq) (id:Int) (u:List (Int×Int)) (ga:Int):0<=bP l id u ga/\bP l id u ga<=100:=by grind [bP]
def K6 (h:J1 d.rg.tk) (y:On d i ga a):i.kind≠10:=λhk=>by
 have h1:=(RJ y.2.2.2.2).2.1;have h2:=Re h1;unfold be at h1;dsimp only at h1;rw[hk]at h1;simp only[zAi]at h1;unfold jQ at h2;rw[zAi,zAg]at h2;dsimp only at h2;have u:=h _ (zQ d.rg.tk _ (show((i.pay.take 10).getD 1 dd).toNat<ln d.rg.tk by have:=h2.1;omega)) h2.2;rw[show Ft (Sm d.rg.tk (i.pay.take 10)).rights 10=false from u]at h1;exact absurd h1.2.2 zAs
theorem zh (c:Cf) (d:xU) (R:qB c d) (s ga:Int) (n0:0<=ga) (n1:ga<=1073741824) (i:It) (ax:BY i.pay) (a7:ln i.pay<=100000):∃h,RI c d s i ga h/\Dw c d s i ga h:=by
 by_cases hc:i.code=0
 case neg=>exact BR R hc fh d (.inl Z) (Yu c d s ga R.bd i hc) id
 by_cases hk:1<=i.kind/\i.kind<=12
 case neg=>exact BR R xG fh d (.inl Z) (Xu c d s ga R.bd i hc hk)
 obtain⟨h0,h1⟩:=hk;have r2:=xh i.kind h0 h1 i.pay ax a7;have ac:i=⟨0,i.kind,i.pay⟩:=by cases i;simp_all
 cases hd:JT (uD i.kind) (wK i.kind) i.pay with
 |none=>
  rw[hd]at r2;have E:=Wu c d s ga R.bd i.kind i.pay h0 h1 r2;rw[<-ac]at E;exact BR R xG fh d (.inl Z) E
 |some G=>
 rw[hd]at r2;obtain⟨_,cf,hv,U,a6⟩:=Su ax hd;have b0:BY (i.pay.take 10):=λx hx=>ax x (zB6 hx)
 have b7:d.rg.bk.level<=1000000:=by have:=R.bl;have:=R.a.b;omega
 have r3:=Uu d.rg ⟨i.kind,i.pay.take 10,G,[]⟩ ga R.b b0 b7;by_cases ho:Dh d.rg ⟨i.kind,i.pay.take 10,G,[]⟩ ga=0
 case neg=>
  have E:=Vu c d s ga R.bd i.kind i.pay (i.pay.take 10) G h0 h1 r2 _ _ _ ho r3;rw[<-ac]at E;exact BR R ho fh d (.inl Z) E (λ_=>R9 _ _ _)
 have hO:On d i ga G:=⟨hc,h0,h1,hd,ho⟩;obtain⟨_,b1,_,a9⟩:=RJ ho;rw[ho,a9]at r3;have av:=Re b1;dsimp only at a9 av;generalize (i.pay.take 10).getD 1 dd=M at *;have y:=Cw R hO;obtain⟨ea,en,et,eq,er,eu⟩:=I0 hO
 have a2:0<=M/\M<(ln d.rg.tk:Int):=by
  unfold jQ at av;rw[zAi,zAg]at av;exact av.1
 have X:ua d i ga G=uR d (Qt d.rg ⟨i.kind,i.pay.take 10,G,[]⟩ ga):=rfl;generalize Qt d.rg ⟨i.kind,i.pay.take 10,G,[]⟩ ga=B at *;have tl:(i.pay.take 10).length<=1000:=by rw[zA0];omega
 have NO:∀(e:Int),e≠0->0<=e/\e<=100->∀(p p2:Ms) (a3:Int),
   zO 193 [vL c,zN (uR d B),iA s,yO ⟨i.kind,i.pay.take 10,G,[]⟩,iA M,iA ga] [] (hT (uR d B) p2 a3 e) []->∃h,RI c d s i ga h/\Dw c d s i ga h:=by
  intro e I b6 p p2 a3 E;have q3:=Gw c d s ga R.bd i.kind i.pay _ G h0 h1 r2 B M r3 (uR d B) (X▸y.bd) p2 a3 e E;rw[N0 I]at q3;rw[<-ac]at q3;exact BR R I p _ (.inr ⟨G,hO,X.symm⟩) q3 (λ_=>b6)
 have S:∀(Y:xU) (p:Ms) (k:Int),qB c Y->Y.rg.ag=d.rg.ag->Y.rg.num=d.rg.num->X9 d i ga G ⟨Y,p,k,0⟩->(k= -1\/(i.kind=11/\0<=k/\k<(ln c.js:Int)))->ln Y.dr<=ln d.dr->BQ d Y->
   zO 193 [vL c,zN (uR d B),iA s,yO ⟨i.kind,i.pay.take 10,G,[]⟩,iA M,iA ga] [] (hT Y p k 0) []->Y.au=d.au->XV d.rq Y.rq->∃h,RI c d s i ga h/\Dw c d s i ga h:=by
  intro Y p k hi ha hn hr hk b5 cd E bz cb;have q3:=Gw c d s ga R.bd i.kind i.pay _ G h0 h1 r2 B M r3 Y hi.bd p k 0 E;rw[Ru]at q3;rw[<-ac]at q3;exact M0 R G hO p k Y hi ha hn hr hk b5 cd q3 bz cb
 rw[X]at y ea en et eq er eu;have cg:wK i.kind=0\/wK i.kind≠0:=by omega
 have b2:i.kind=1\/(i.kind=2\/i.kind=3\/i.kind=4\/i.kind=5)\/i.kind=6\/i.kind=7\/i.kind=8\/i.kind=9\/i.kind=10\/i.kind=11\/i.kind=12:=by omega
 rcases b2 with hk|hk|hk|hk|hk|hk|hk|hk|hk
 ·
  have W:G=[]:=zA5 (by rw[U JH,hk];rfl);subst W;have z:=MV hO (.inl hk);rw[X]at z;rw[z]at y;have E:=Ln c d s ga (i.pay.take 10) M;refine S d _ _ y Z Z (.inl ⟨hk,rfl,rfl⟩) (.inl Z) (zAe _) (BQ.refl _) ?_ Z (XV.refl _);rw[z,hk];exact E
 ·
  obtain⟨a,C,L⟩:∃a C,G=a::C:=by
   cases G with
   |nil=>exfalso;have:=U pw;rcases hk with hk|hk|hk|hk<;>rw[hk]at this<;>cases this
   |cons a C=>exact⟨a,C,rfl⟩
  have W:ln G<=1000:=by have:=U pw;have:=GJ i.kind;omega
  have hm:N1 ⟨i.kind,i.pay.take 10,G,[]⟩:=⟨tl,W,zAn _⟩
  have a8:(FC (uR d B)).length<=1000:=by
   unfold FC uR;dsimp only
   cases az:d.dr with
   |nil=>simp
   |cons b bs=>have:=(R.dr b (by rw[az];simp)).1;simp;omega
  have ca:BY (FC (uR d B)):=by
   unfold FC uR;dsimp only
   cases az:d.dr with
   |nil=>exact λx hx=>by cases hx
   |cons b bs=>exact(R.dr b (by rw[az];simp)).2
  have ce:ln B.vh<=1000:=by have:=y.vh;exact zBf this zB
  obtain⟨r',p,u,e,b9,ch,hP,f1,f2⟩:=Cu B ce ⟨i.kind,i.pay.take 10,G,[]⟩ hm M ga (FC (uR d B)) a8
  have h5:i.kind=5->∃a,G=[a]:=λh=>by
   have h9:=U (by rw[h];rfl);rw[h]at h9;exact len1 h9
  have hu:u=true->(uR d B).dr≠[]:=λhu h9=>by
   have I:e=0:=by
    by_cases I:e=0
    .exact I
    .rw[(hP.1 I).1]at hu;cases hu
   have bf:FC (uR d B)=[]:=by unfold FC;rw[h9];rfl
   rcases hP.2 I with⟨o,_,_,_,O|O⟩|⟨o,_,_,O,_⟩
   .rw[O.1]at hu;cases hu
   .rw[bf]at O;exact absurd O.2.1 xG
   .rw[O]at hu;cases hu
  have E:=Ju (uR d B) ⟨i.kind,i.pay.take 10,G,[]⟩ M ga y.v y.dn r' p u e f2 h5 hu;have w2:=G0 c (uR d B) s ga (i.pay.take 10) M i.kind G a C L hk _ p e E;by_cases I:e=0
  .subst I;obtain⟨hi,ha,hn,b3,b4⟩:=S9 (m:=⟨i.kind,i.pay.take 10,G,[]⟩) y b9 hP;have A:0<=a/\a<=4294967295:=hv a (by rw[L];simp);refine S _ p (-1) hi (ha.trans ea) (hn.trans en) ?_ (.inl Z) b3 ((T0.of et eu).trans b4) w2 (by unfold yh;rw[Os Z];rfl) (N6 (uR d B) _ r' u)
   rcases hP.2 Z with⟨o,_,_,_,O|O⟩|⟨o,_,_,_,O,V⟩
   .obtain⟨_,V,ap⟩:=O;dsimp only at ap V;exact .inr (.inr (.inr (.inr ⟨zB,a,A.1,A.2,by rw[V,L,ap];rfl⟩)))
   .obtain⟨_,V,ap,k,bu,bx⟩:=O;have a4:B.num=d.rg.num:=en;exact .inr (.inr (.inr (.inl ⟨ap,k,_,bu,⟨V,ca⟩,by rw[bx,a4]⟩)))
   .dsimp only at O V;exact .inr (.inr (.inr (.inr ⟨zB,a,A.1,A.2,by rw[V,L];rfl⟩)))
  .have e1:yh (uR d B) ⟨i.kind,i.pay.take 10,G,[]⟩ r' u e=uR d B:=by unfold yh;rw[hW I]
   rw[e1]at w2;exact NO e I (hP.1 I).2 fh _ _ w2
 ·
  obtain⟨cc,c1,c3,hl⟩:=a6 (by rw[hk];decide);rw[hk,show uD 6=3 from Z,show wK 6=4 from Z]at hl
  obtain⟨id,v,life,C,L⟩:∃id v life C,G=id::v::life::C:=by
   match G,hl with
   |id::v::life::C,_=>exact⟨id,v,life,C,rfl⟩
   | [],h=>simp at h;omega
   | [_],h=>simp at h;omega
   | [_,_],h=>simp at h;omega
  subst L;obtain⟨qs,a1,b8⟩:=Fw cc C (by simp only[zAp]at hl;omega);subst a1
  have hp:∀q∈qs,0<=q.j/\0<=q.p:=λq hq=>by
   obtain⟨m1,m2,_⟩:=Nn hq;exact⟨(hv q.j (by simp[m1])).1,(hv q.p (by simp[m2])).1⟩
  have A:=hv id yE;have s1:M<((uR d B).rg.tk.length:Int):=by rw[et];exact a2.2
  have E:=mc c (uR d B) 6 (i.pay.take 10) id v life ((uR d B).rg.tk.getD M.toNat dd).cls ga qs y.bd y.v zB hp n0 n1;by_cases I:jh c (uR d B) ((uR d B).rg.tk.getD M.toNat dd).cls id v life ga qs=0
  .have hi:=U9 y n0 n1 I;rw[Os I,I]at E;have w2:=Kn c (uR d B) s ga (i.pay.take 10) M _ id _ Z a2.1 s1 _ 0 E;refine S _ (dW i.kind id) (-1) hi ea en (.inr (.inr (.inr (.inr ⟨zB,id,A.1,A.2,rfl⟩)))) (.inl Z) (zAe _) (T0.of et eu) ?_ Z (P6 (d:=uR d B) I);rw[hk];exact w2
  .rw[hW I]at E;have w2:=Kn c (uR d B) s ga (i.pay.take 10) M _ id _ Z a2.1 s1 _ _ E;exact NO _ I (by first|exact M6 _ _ _ _ _ _ _ _|exact L6 _ _ _ _) fh _ _ (by rw[hk];exact w2)
 ·
  obtain⟨cc,c1,c3,hl⟩:=a6 (by rw[hk];decide);rw[hk,show uD 7=1 from Z,show wK 7=2 from Z]at hl
  obtain⟨id,C,L⟩:∃id C,G=id::C:=by
   match G,hl with
   |id::C,_=>exact⟨id,C,rfl⟩
   | [],h=>simp at h;omega
  subst L;obtain⟨ws,a1,b8⟩:=Ew cc C (by simp only[zAp]at hl;omega);subst a1;have A:=hv id yE;have E:=U1 (uR d B) (i.pay.take 10) id ga ws y.v zB n0 n1;by_cases I:bP (uR d B).rq id ws ga=0
  .have hi:=T9 y I;rw[Os I,I]at E;have w2:=Hn c (uR d B) s ga (i.pay.take 10) M _ id _ Z _ 0 E;refine S _ (dW i.kind id) (-1) hi ea en (.inr (.inr (.inr (.inr ⟨zB,id,A.1,A.2,rfl⟩)))) (.inl Z) (zAe _) (T0.of et eu) ?_ Z (O6 (d:=uR d B) I);rw[hk];exact w2
  .rw[hW I]at E;have w2:=Hn c (uR d B) s ga (i.pay.take 10) M _ id _ Z _ _ E;exact NO _ I (by first|exact M6 _ _ _ _ _ _ _ _|exact L6 _ _ _ _) fh _ _ (by rw[hk];exact w2)
 ·
  obtain⟨id,L⟩:=len1 (show (ln G)=1 by rw[U JH,hk];rfl);subst L;have A:=hv id yE;have E:=F0 c (uR d B) s ga (i.pay.take 10) M id _ _ (Pg (uR d B).rq id y.v);by_cases I:fX (uR d B).rq id=true
  .have hi:=Q6 y (λx=>x.id != id);rw[Os I,Os I,Os Z]at E;refine S _ (dW i.kind id) (-1) hi ea en (.inr (.inr (.inr (.inr ⟨zB,id,A.1,A.2,rfl⟩)))) (.inl Z) (zAe _) (T0.of et eu) ?_ Z (XV.filter _ _);rw[hk];exact E
  .rw[hW I,hW I,hW xG]at E;exact NO 12 xG xG fh _ _ (by rw[hk];exact E)
 ·
  have W:G=[]:=zA5 (by rw[U JH,hk];rfl);subst W;have z:=MV hO (.inr zB);rw[X]at z;rw[z]at y;have E:=Lu c d s ga (i.pay.take 10) M R.bd;refine S d _ _ y Z Z (.inr (.inl ⟨hk,rfl,rfl⟩)) (.inl Z) (zAe _) (BQ.refl _) ?_ Z (XV.refl _);rw[z,hk];exact E
 ·
  obtain⟨a,L⟩:=len1 (show (ln G)=1 by rw[U JH,hk];rfl);subst L;have A:=hv a yE;by_cases ha:1<a
  .have w2:=Nu c (uR d B) s ga (i.pay.take 10) M a ha;exact NO 8 xG xG fh _ _ (by rw[hk];exact w2)
  by_cases hs:0<=s/\s<(ln d.au:Int)
  case neg=>
   have w2:=Mu c (uR d B) s ga (i.pay.take 10) M a zB (by rw[eu];exact hs);refine S _ (dW 10 a) (-1) y ea en (.inr (.inr (.inr (.inr ⟨zB,a,A.1,A.2,by rw[hk]⟩)))) (.inl Z) (zAe _) (T0.of et eu) ?_ Z (XV.refl _);rw[hk];exact w2
  rw[hk]at r2 r3;have a5:qB c ⟨B,d.rq,d.dr,d.au.set s.toNat (a==1)⟩:=⟨y.b,y.v,y.q,y.lg,y.a,y.n,y.t8,y.br,y.bb,y.bl,by have:=y.au;dsimp only;rw[zBn];exact this,y.dn,y.dr,y.vh⟩;have w2:=Ku c (uR d B) s ga (i.pay.take 10) M a A.1 zB (by rw[eu];exact hs);have E:=Q0 c d s ga R.bd 10 i.pay _ [a] xG xG r2 B M r3 _ a5.bd _ _ w2;have a4:B.num=d.rg.num:=en;rw[<-hk,<-ac]at E;exact⟨⟨⟨B,d.rq,d.dr,d.au.set s.toNat (a==1)⟩,dW i.kind a,-1,0⟩,⟨trivial,E⟩,a5,ea,en,λh=>absurd Z h,λ_=>⟨[a],hO,.inr (.inr (.inr (.inr ⟨zB,a,A.1,A.2,rfl⟩)))⟩,.inl Z,zAe _,λh=>absurd (K6 h hO) (λh9=>h9 hk),λ_=>by dsimp only;omega,λk hk'=>by show(d.au.set s.toNat (a==1))[k]? =_;rw[zEo zB],XV.refl _⟩
 ·
  obtain⟨a,L⟩:=len1 (show (ln G)=1 by rw[U JH,hk];rfl);subst L;have A:=hv a yE;by_cases ha:a<(ln c.js:Int)
  .have w2:=Ou c (uR d B) s ga (i.pay.take 10) M a ha;refine S _ (dW 11 a) a y ea en (.inr (.inr (.inr (.inr ⟨zB,a,A.1,A.2,by rw[hk]⟩)))) (.inr ⟨hk,A.1,ha⟩) (zAe _) (T0.of et eu) ?_ Z (XV.refl _);rw[hk];exact w2
  .have w2:=Pu c (uR d B) s ga (i.pay.take 10) M a zB;exact NO 8 xG xG fh _ _ (by rw[hk];exact w2)
 ·
  have W:G=[]:=zA5 (by rw[U JH,hk];rfl);subst W;have z:=MV hO (.inr zB);rw[X]at z;rw[z]at y;have ci:=R.a.q;have E:=Qu c d s ga (i.pay.take 10) M (Iu d R.bd zB zB);refine S d _ _ y Z Z (.inr (.inr (.inl ⟨hk,rfl,rfl⟩))) (.inl Z) (zAe _) (BQ.refl _) ?_ Z (XV.refl _);rw[z,hk];exact E
