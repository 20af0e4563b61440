/- Part 18. -/
import Derived.Test.YtaglbcjljlkjcaaGreatX17
namespace Go.Proofs.YtaglbcjljlkjcaaGreat.Av
open Tryz
set_option linter.all false
set_option maxRecDepth 4000
set_option maxHeartbeats 4000000
open List renaming length->ln
open Inhabited renaming default->dd
variable {c:Cf}{cls k life f3 v:Int}{i:It}{a:List Int}{qs:List Qd}{p:Ms}{d:wE}
def gI (k e:Int):Ms:=⟨15,[],[k,e],[]⟩
def OQ (a k e:Int):AV:= .agg [iA a,iA k,iA e]
structure Hd where
 d:wE
 p:Ms
 k:Int
 e:Int
def DE (n u:Int) (h:Hd):AV:= .tup [zM h.d,zX h.p,OQ n u h.e,iA h.k]
def PK (d:wE):AV:=xD d.rg (zE zY d.rq) (.ref 1005 0 (d.dr.map qO).length) (zE bA d.au)
def Ww (d:wE):xV:= .arr 1 (d.dr.map qO) true
def Pa (n u:Int) (h:Hd):AV:= .tup [PK h.d,zX h.p,OQ n u h.e,iA h.k]
def fY (d:wE) (hb:dH d):zO 125 [zM d] [] (PK d) [(1005,Ww d)]:=by
 have z:=eI d.rg hb.rg;have O:=eK d.rq hb.q hb.g;have R:=hb.q;have B:=hb.n;have A:=hb.a;have G:=zA zY d.rq;have E:=zA qO d.dr;have C:=zA bA d.au;unfold PK zM xD;unfold Ww;unfold uR at z;refine eM call125 λF hF=>?_
 refine QE (xW z O) ?_;refine zQ 4 1005 1 Z Z Z ?_;refine zU (d.dr) [1005,2,3] [2,3] [2,3,18,19] [4,20,2,3,18,19] Z (λi f4 T U=>⟨(4,.ref 1005 0 (f4.map qO).length)::(20,iA i)::T,(1005,.arr 1 (f4.map qO) true)::U⟩) (Lq ?_ ?_)
 .intro i f4 x post u hi;have V:=yG qO u hi;have I:=zW u hi;have L:(f4.map qO).length=i:=by rw[zA6,hi]
  have S:=hb.e x (yY u);have M:=zA yA x;have e:(f4++[x]).map qO=f4.map qO++[qO x]:=by simp
  clear u;rw[e];generalize f4.map qO=xs,d.dr.map qO=W at *;refine WL ?_;rfl
 ·(refine WL ?_)
  exact zI [1005] Z Z Z Z
def qe (c:Cf) (d:wE) (s f3:Int) (i:It) (h:Hd):Prop:=
 zO 131 [wD c,zM d,iA s,vE i,iA f3] [] (DE d.rg.num i.kind h) []/\zO 131 [wD c,zM d,iA s,vE i,iA f3] [] (Pa d.rg.num i.kind h) [(1005,Ww h.d)]
def yz (u:Int) (d:wE) (p:Ms) (k e:Int):Hd:=if e=0 then⟨d,p,k,0⟩else⟨d,gI u e,-1,e⟩
def xz (c:Cf) (d:wE) (s f3:Int) (i:It) (hb:dH d) (u:wE) (p:Ms) (k e:Int) (z:zO 224 [wD c,zM d,iA s,vE i,iA f3] [] (hT u p k e) []):
  zO 176 [wD c,zM d,iA s,vE i,iA f3] [] (DE u.rg.num i.kind (yz i.kind u p k e)) []:=by
 have B:=LG d hb;unfold hT wD vE at z;unfold wD vE;unfold zM xD zX at *;by_cases A:e=0
 .subst A;unfold yz DE OQ zM xD zX;rw[zA5 Z];refine eM call176 λF hF=>?_
  exact nm (xW B z)
 .unfold yz DE OQ gI zM xD zX;rw[Os A];refine eM call176 λF hF=>?_
  exact nm (xW B z)
def U5 (c:Cf) (d:wE) (s f3:Int) (i:It) (hb:dH d) (h1:1<=ln d.au) (u:wE) (p:Ms) (k:Int) (z:zO 224 [wD c,XS d,iA s,vE i,iA f3] [(1004,DF d.au)] (kz u p k 0) [(1004,DF u.au)]):
  zO 176 [wD c,zM d,iA s,vE i,iA f3] [] (DE u.rg.num i.kind ⟨u,p,k,0⟩) []:=by
 have A:=LP d hb h1;unfold kz wD vE at z;unfold wD vE;unfold DF XS at *;unfold zM xD zX at *;unfold DE OQ zM xD zX;refine eM call176 λF hF=>?_
 refine QE (xW A z) ?_;refine zI [] Z Z ?_ Z
 show AV.tup [xD u.rg (zE zY u.rq) (zE qO u.dr) (.sl false ((u.au.map bA).take (u.au.map bA).length)),zX p,OQ u.rg.num i.kind 0,iA k]=_
 rw[zA8];rfl
section
variable (c:Cf) (d:wE) (s f3:Int) (hb:dH d)
include hb
def Uw (i:It) (hc:i.code≠0):qe c d s f3 i ⟨d,gI i.kind i.code,-1,i.code⟩:=by
 have z:=fY d hb;have u:=kN d hb;unfold qe wD DE Pa gI OQ vE zM PK Ww xD zX at *;refine⟨?_,?_⟩
 ·(refine eM call131 λF hF=>?_)
  exact oj u
 ·(refine eM call131 λF hF=>?_)
  refine WDo u ?_;refine VZ z ?_;exact zI [1005] Z Z Z Z
def Tw (i:It) (hc:i.code=0) (hk:¬(1<=i.kind/\i.kind<=12)):qe c d s f3 i ⟨d,gI i.kind 5,-1,5⟩:=by
 have A:=fY d hb;have z:=kN d hb;have u:=bC i.kind;rw[zA7 hk]at u;obtain⟨B,C,E⟩:=i;dsimp only at *;subst hc;unfold qe wD DE Pa gI OQ vE zM PK Ww xD zX at *;refine⟨?_,?_⟩
 ·(refine eM call131 λF hF=>?_)
  exact nm (xW z u)
 ·(refine eM call131 λF hF=>?_)
  refine Z2 (xW z u) ?_;refine VZ A ?_;exact zI [1005] Z Z Z Z
def Sw (k:Int) (A:List Int) (C:1<=k) (h1:k<=12) (z:zO 191 [iA k,zE yA A] [] (T6 k (A.take 10) none) []):qe c d s f3 ⟨0,k,A⟩ ⟨d,gI k 6,-1,6⟩:=by
 have E:=fY d hb;have B:=kN d hb;have u:=bC k;rw[zA9 ⟨C,h1⟩]at u;unfold T6 zX at z;unfold qe wD DE Pa gI OQ vE zM PK Ww xD zX at *;refine⟨?_,?_⟩
 ·(refine eM call131 λF hF=>?_)
  exact nm (qM B u z)
 ·(refine eM call131 λF hF=>?_)
  refine Z2 (qM B u z) ?_;refine VZ E ?_;exact zI [1005] Z Z Z Z
variable (k:Int) (pa tk0 ar:List Int) (h0:1<=k) (h1:k<=12) (k3:zO 191 [iA k,zE yA pa] [] (.tup [zX ⟨k,tk0,ar,[]⟩,iA 0]) [])
include h0 h1 k3
def Rw (r:Rg) (C e:Int) (E:e≠0) (z:zO 192 [uR d.rg,zX ⟨k,tk0,ar,[]⟩,iA f3] [] (.tup [uR r,iA C,iA e]) []):
  qe c d s f3 ⟨0,k,pa⟩ ⟨d,gI k e,-1,e⟩:=by
 have B:=fY d hb;have A:=kN d hb;have u:=bC k;rw[zA9 ⟨h0,h1⟩]at u;unfold uR at z;unfold qe wD DE Pa gI OQ vE zM PK Ww xD zX at *;refine⟨?_,?_⟩
 ·(refine eM call131 λF hF=>?_)
  exact nm (cM A u k3 z)
 ·(refine eM call131 λF hF=>?_)
  refine Z2 (cM A u k3 z) ?_;refine VZ B ?_;exact zI [1005] Z Z Z Z
def wz (r:Rg) (O:Int) (B:zO 192 [uR d.rg,zX ⟨k,tk0,ar,[]⟩,iA f3] [] (.tup [uR r,iA O,iA 0]) []) (u:wE) (z:dH u) (p:Ms) (M e:Int)
  (C:zO 193 [wD c,zM (wM d r),iA s,zX ⟨k,tk0,ar,[]⟩,iA O,iA f3] [] (hT u p M e) []):
  qe c d s f3 ⟨0,k,pa⟩ (yz k u p M e):=by
 have L:=fY u z;have E:=kN d hb;have I:=kN u z;have A:=bC k;rw[zA9 ⟨h0,h1⟩]at A;unfold uR at B;unfold hT wM at C;unfold qe wD vE zM PK Ww xD zX at *;by_cases G:e=0
 .subst G;unfold yz DE Pa OQ zM PK xD zX;rw[zA5 Z];refine⟨?_,?_⟩
  ·(refine eM call131 λF hF=>?_)
   exact nm (Zb E A k3 B C I)
  ·(refine eM call131 λF hF=>?_)
   refine Z2 (NV E A k3 B C) ?_;refine VZ L ?_;exact zI [1005] Z Z Z Z
 .unfold yz DE Pa OQ gI zM PK xD zX;rw[Os G];refine⟨?_,?_⟩
  ·(refine eM call131 λF hF=>?_)
   exact nm (Zb E A k3 B C I)
  ·(refine eM call131 λF hF=>?_)
   refine Z2 (NV E A k3 B C) ?_;refine VZ L ?_;exact zI [1005] Z Z Z Z
def T5 (r:Rg) (I:Int) (B:zO 192 [uR d.rg,zX ⟨k,tk0,ar,[]⟩,iA f3] [] (.tup [uR r,iA I,iA 0]) []) (u:wE) (z:dH u) (p:Ms) (G:Int)
  (C:zO 193 [wD c,XS (wM d r),iA s,zX ⟨k,tk0,ar,[]⟩,iA I,iA f3] [(1004,DF d.au)] (kz u p G 0) [(1004,DF u.au)]):
  qe c d s f3 ⟨0,k,pa⟩ ⟨u,p,G,0⟩:=by
 have M:=fY u z;have E:=LQ d hb;have L:=kN u z;have A:=bC k;rw[zA9 ⟨h0,h1⟩]at A;unfold uR at B;unfold kz wM at C;unfold DF XS at *;unfold qe wD vE zM PK Ww xD zX at *;unfold DE Pa OQ zM PK xD zX;refine⟨?_,?_⟩
 ·(refine eM call131 λF hF=>?_)
  refine Z2 (NV E A k3 B C) ?_;refine wB [5,6,8,10,11,12,14,17] [5,6,8,10,11,12,13,14,15,16,17] Z ?_
  (conv=>whnf)
  simp only[zBr,zA8];exact oj L
 ·(refine eM call131 λF hF=>?_)
  refine Z2 (NV E A k3 B C) ?_;refine wB [5,6,8,10,11,12,14,17] [5,6,8,10,11,12,13,14,15,16,17] Z ?_
  (conv=>whnf)
  simp only[zBr,zA8];refine VZ M ?_;exact zI [1005] Z Z Z Z
end
def Xq (l:List Tk) (hn:ln l<=1000000) (g:Int) (b:List Int) (k f3:Int) (hb:BY b):zO 240 [zE yN l,iA g,zE yA b,iA k,iA f3] [] (.tup [iA (if IK l g b k f3=true then b.getD 1 dd else 0),iA (if IK l g b k f3=true then 0 else 9)]) []:=by
 have U:=zA yA b;have V:=zA yN l;by_cases h1:(ln b:Int)=10
 case neg=>
  have e:IK l g b k f3=false:=by unfold IK;rw[zA7 (λh=>h1 h.1)];rfl
  rw[e];refine eM call240 λF hF=>?_
  exact ly
 have C:=yF yA b 0 zB zB;have E:=yF yA b 1 zB zB;have b0:0<=b.getD 0 dd/\b.getD 0 dd<256:=hb _ Mf;have G:0<=b.getD 1 dd/\b.getD 1 dd<256:=hb _ Mf
 change (b.map yA)[0]? =some (yA (b.getD 0 dd))at C
 change (b.map yA)[1]? =some (yA (b.getD 1 dd))at E
 unfold IK vi;generalize b.getD 0 dd=Y,b.getD 1 dd=A at *;by_cases h2:Y=g
 case neg=>
  rw[zA7 (λh=>h2 h.2)];refine eM call240 λF hF=>?_
  exact ly
 rw[zA9 ⟨h1,h2⟩];by_cases R:A<ln l
 case neg=>
  have z:jZ l A=false:=by unfold jZ;rw[zA7 zB];rfl
  rw[z];refine eM call240 λF hF=>?_
  exact ly
 have z:jZ l A=(l.getD A.toNat dd).used:=by unfold jZ;rw[zA9 ⟨G.1,R⟩,zBh]
 rw[z];have u:=yF yN l A G.1 zB;generalize l.getD A.toNat dd=t at *;cases z:t.used
 .rw[show yN t=dP false t by unfold yN dP;rw[z]]at u;unfold dP at u;refine eM call240 λF hF=>?_
  exact ly
 .rw[show yN t=dP true t by unfold yN dP;rw[z]]at u;unfold dP at u;have S:(b.drop 2).map yA=(b.map yA).drop 2:=by rw[zD2]
  rw[im (b.drop 2) t.sec];have I:=rd t.rights k;generalize W:Qh t.sec (b.drop 2)=q1 at *;generalize ji t.rights k=O at *;have B:Vb t f3=decide (t.til≠0/\t.til<f3):=rfl;rw[B]
  cases q1 with
  |false=>
   refine eM call240 λF hF=>?_
   exact ly
  |true=>
  by_cases L:t.til=0
  .rw[zA7 (λh=>h.1 L)]
   cases O<;>((refine eM call240 λF hF=>?_);exact ng I)
  by_cases M:t.til<f3
  .rw[zA9 ⟨L,M⟩];refine eM call240 λF hF=>?_
   exact ly
  .rw[zA7 (λh=>M h.2)]
   cases O<;>((refine eM call240 λF hF=>?_);exact ng I)
def Qw (r:Rg) (m:Ms) (f3:Int) (C:IQ r) (G:BY m.tok) (hl:r.bk.level<=1000000):zO 192 [uR r,zX m,iA f3] [] (.tup [uR (Kn r m f3),iA (Uy r m f3),iA (Kf r m f3)]) []:=by
 have u:=Xq r.tk C.tk.n r.num m.tok m.kind f3 G;have A:=eI r C;have z:=mo r.bk zB;unfold Kn Uy Kf
 cases B:IK r.tk r.num m.tok m.kind f3<;>rw[B]at u
 ·(refine eM call192 λF hF=>?_)
  exact ng u
 .generalize m.tok.getD 1 dd=E at *;cases hk:TJ m.kind
  .have hk':¬(2<=m.kind/\m.kind<=8):=zFl hk;refine eM call192 λF hF=>?_
   refine yJ (xW u A) (I2 (λhc=>?_) λhc=>?_)
   all_goals (first|exact NW|exact zH)
  .have hk':2<=m.kind/\m.kind<=8:=zEy hk;by_cases hv:r.bk.level<=0
   .rw[zA7 zB]at z;simp only[hv,and_self,zE8];refine eM call192 λF hF=>?_
    exact mx (qM u A z)
   .rw[zA9 zB]at z;simp only[hv,zFs,zF5,zE8];generalize hb:RP r.bk=I at *;refine eM call192 λF hF=>?_
    exact mx (qM u A z)
def Ow (l:List Tk) (f3:Int) (n:Nat) (j:Nat):Bool:=(List.range n).any λi=>jZ l i&&Vb (l.getD i dd) f3&&YB l 9 j i
theorem Wq (l:List Tk) (f3:Int) (n:Nat):Ow l f3 (n+1)=λj=>Ow l f3 n j||(jZ l n&&Vb (l.getD n dd) f3&&YB l 9 j n):=by
 funext j
 unfold Ow
 grind
def Ci (l:List Tk) (hb:IP l) (B:ln l=8) (f3:Int):zO 189 [zE yN l,iA f3] [] (zE yN (ZD l f3)) []:=by
 have O:=zA yN l;have I:=Gf l hb (Ow l f3 8) B;have E:=J3 B f3
 change ZD l f3=RN (Ow l f3 8) l 8 at E
 rw[E];generalize RN (Ow l f3 8) l 8=R at *;obtain⟨N,hN⟩:∃N:Nat,N=8:=⟨8,rfl⟩;refine eM call189 λF hF=>?_
 refine WW ?_;refine zN (N) [] [] [0,1,8,9] [5,10,0,1,8,9] Z (λi T U=>⟨(5,iA (gB (Ow l f3 i) 8))::(10,iA i)::T,U⟩) (Lq ?_ ?_)
 .intro i hi;have z:jZ l i=(l.getD i dd).used:=by unfold jZ;rw[zA9 zB,zBh,zBx]
  have L:=Hf l i B;rw[B]at L;have u:=Fo (Ow l f3 i) (λj=>YB l 9 j i);have G:=zJ yN l i zB;have C:=Wq l f3 i;rw[z]at C;rw[C];clear C z I E;generalize Ow l f3 i=p,l.getD i dd=t at *;rw[show yN t= .agg [bA t.used,zE yA t.sec,iA t.par,iA t.rights,iA t.cls,iA t.til]from Z]at G;unfold Vb
  cases z:t.used with
  |false=>
   rw[z]at G;rw[show(λj=>p j||false&&decide (t.til≠0/\t.til<f3)&&YB l 9 j i)=p by funext j;simp];generalize gB p 8=b at *;refine WW ?_;rfl
  |true=>
  rw[z]at G;by_cases A:t.til≠0/\t.til<f3
  .rw[zA9 A];rw[show(λj=>p j||true&&true&&YB l 9 j i)=λj=>p j||YB l 9 j i by funext j;simp,<-u];clear u;obtain⟨A,M⟩:=A;generalize gB p 8=b,gB (λj=>YB l 9 j i) 8=c at *;refine zS L ?_;rfl
  .rw[zA7 A];rw[show(λj=>p j||true&&false&&YB l 9 j i)=p by funext j;simp];generalize gB p 8=b at *;by_cases M:t.til=0
   all_goals
    (refine WW ?_)
    rfl
 .rw[hN];exact ng I
def Vq (r:Rg) (f3:Int) (u:IQ r) (C:ln r.tk=8) (hl: -1000000<=r.bk.level+r.bk.rate/\r.bk.level+r.bk.rate<=1000000):zO 129 [uR r,iA f3] [] (uR (P3 r f3)) []:=by
 have z:=eI r u;have A:=Ci r.tk u.tk C f3;have B:=ao r.bk zB;unfold P3;generalize ZD r.tk f3=G,C7 r.bk=E at *;refine eM call129 λF hF=>?_
 exact mx (qM z A B)
def L8 (c:Cf) (l:List Rq):Prop:=∀r∈l,∀g∈r.legs,g.jn<(ln c.js:Int)/\g.ph<((c.js.getD g.jn.toNat dd).ph.length:Int)
structure qE (c:Cf) (d:wE):Prop where
 b:IQ d.rg
 v:cN d.rq
 q:(d.rq.length:Int)<=d.rg.ag.req
 lg:L8 c d.rq
 a:Sy d.rg.ag
 n:0<=d.rg.num/\d.rg.num<4
 t8:d.rg.tk.length=8
 br:d.rg.bk.rate=d.rg.ag.rate
 bb:d.rg.bk.burst=d.rg.ag.burst
 bl:0<=d.rg.bk.level/\d.rg.bk.level<=d.rg.ag.burst
 au:(d.au.length:Int)=d.rg.ag.ses
 dn:d.dr.length<=1000
 dr:∀x∈d.dr,x.length=8/\BY x
 vh:d.rg.vh.length<=8
theorem qE.bd (h:qE c d):dH d:=
 ⟨h.b,by have:=h.v.n4;omega,λr u=>by have:=h.v.lg3 u;omega,h.dn,λx z=>by have:=(h.dr x z).1;omega,by have:=h.au;have:=h.a.e;omega⟩
theorem vz:∀(n:Nat) (l:List Int),ln l=4*n->∃qs:List Qd,l=bK qs/\qs.length=n
 |0,l,h=>⟨[],zB5 zB,rfl⟩
 |n+1,a::b::c::e::l,h=>by
  obtain⟨qs,h1,h2⟩:=vz n l (by simp only[zBl]at h;omega);exact⟨⟨a,b,c,e⟩::qs,by rw[h1];rfl,by rw[zBl,h2]⟩
 |n+1,[],h=>by simp at h
 |n+1,[_],h=>by simp at h;omega
 |n+1,[_,_],h=>by simp at h;omega
 |n+1,[_,_,_],h=>by simp at h;omega
theorem uz:∀(n:Nat) (l:List Int),ln l=2*n->∃u:List (Int×Int),l=SH u/\u.length=n
 |0,l,h=>⟨[],zB5 zB,rfl⟩
 |n+1,a::b::l,h=>by
  obtain⟨u,h1,h2⟩:=uz n l (by simp only[zBl]at h;omega);exact⟨(a,b)::u,by rw[h1];rfl,by rw[zBl,h2]⟩
 |n+1,[],h=>by simp at h
 |n+1,[_],h=>by simp at h;omega
theorem Nw {A u:Nat} {p:List Int} (hb:BY p) (h:NR A u p=some a):ln p<=200/\10<=ln p/\(∀x∈a,0<=x/\x<=4294967295)/\(u=0->ln a=A)/\(u≠0->∃c:Nat,1<=c/\c<=3/\a.length=A+c*u):=by
 unfold NR at h;by_cases hl:200<ln p\/p.length<10
 .grind
 rw[Os hl]at h;have C:BY (p.drop 10):=λx G=>hb x (zCc G)
 cases h1:XM A (p.drop 10)with
 |none=>rw[h1]at h;cases h
 | some R=>
  obtain⟨O,I⟩:=R;rw[h1]at h;obtain⟨l1,S,v1,_⟩:=bF A _ O I C h1;dsimp only at h;by_cases E:u=0
  .grind
  .rw [Os E]at h
   cases h2:XM 1 I with
   |none=>rw[h2]at h;cases h
   | some V=>
    obtain⟨z,L⟩:=V;rw[h2]at h;obtain⟨l2,U,v2,_⟩:=bF 1 _ z L S h2;dsimp only at h;by_cases hc:z.getD 0 0<1\/3<z.getD 0 0
    .grind
    rw[Os hc]at h
    cases B:XM ((z.getD 0 0).toNat*u) L with
    |none=>rw[B]at h;cases h
    | some Y=>
     obtain⟨W,M⟩:=Y;rw[B]at h;obtain⟨l3,b3,v3,_⟩:=bF _ _ W M U B;dsimp only at h;by_cases hr:M=[]
     .rw[zA5 hr]at h;cases h;refine⟨zB,zB,λx G=>?_,λh=>absurd h E,λ_=>⟨(z.getD 0 0).toNat,zB,zB,by rw[zBa,l1,l3]⟩⟩
      grind
     all_goals grind
def Uq (d:wE) (i:It) (f3:Int) (a:List Int):Prop:=i.code=0/\1<=i.kind/\i.kind<=12/\NR (vW i.kind) (wF i.kind) i.pay=some a/\Kf d.rg ⟨i.kind,i.pay.take 10,a,[]⟩ f3=0
def Sb (d:wE) (i:It) (f3:Int) (a:List Int):wE:=wM d (Kn d.rg ⟨i.kind,i.pay.take 10,a,[]⟩ f3)
def RZ (c:Cf) (d:wE) (s:Int) (i:It) (f3:Int) (h:Hd):Prop:=
 zO 176 [wD c,zM d,iA s,vE i,iA f3] [] (DE d.rg.num i.kind h) []/\qe c d s f3 i h
def RpF (d:wE) (i:It) (f3:Int) (a:List Int) (h:Hd):Prop:=
 (i.kind=1/\h.p=RV d f3/\h.d=d)\/(i.kind=9/\h.p=QL d/\h.d=d)\/(i.kind=12/\h.p=aD d/\h.d=d)\/
 (i.kind=2/\∃(k:Nat) (u:List Int),k<8/\(ln u=8/\BY u)/\h.p=⟨16,[],[(k:Int)],d.rg.num::(k:Int)::u⟩)\/
 ((3<=i.kind/\i.kind<=8\/i.kind=10\/i.kind=11)/\∃x,0<=x/\x<=4294967295/\h.p=jD i.kind x)
def T0 (d:wE):Prop:=d.rg.tk.getD 0 dd=⟨true,d.rg.ag.sec,-1,d.rg.ag.rights,d.rg.ag.cls,0⟩
def Oa (d u:wE):Prop:=Yi d.rg.tk->Yi u.rg.tk/\u.au=d.au
theorem Oa.refl (d:wE):Oa d d:=λh=>⟨h,rfl⟩
theorem Oa.trans {a b:wE} (h:Oa a b) (k:Oa b d):Oa a d:=λx=>⟨(k (h x).1).1,(k (h x).1).2.trans (h x).2⟩
theorem T0.of {u:wE} (h1:u.rg.tk=d.rg.tk) (z:u.au=d.au):Oa d u:=λh=>⟨h1▸h,z⟩
def WH (l A:List Rq):Prop:=∀r∈A,∀g∈r.legs,g.sc= -1\/∃z∈l,z.id=r.id/\∃u∈z.legs,u.jn=g.jn/\u.ph=g.ph/\u.sc=g.sc
theorem WH.refl (l:List Rq):WH l l:=λr z g u=> .inr ⟨r,z,rfl,g,u,rfl,rfl,rfl⟩
theorem WH.filter (l:List Rq) (p:Rq->Bool):WH l (l.filter p):=λr z g u=> .inr ⟨r,(zEv.1 z).1,rfl,g,u,rfl,rfl,rfl⟩
theorem WH.trans {a b c:List Rq} (h1:WH a b) (h2:WH b c):WH a c:=λr z g u=>by
 rcases h2 r z g u with h|⟨r1,hr1,e1,g1,hg1,a1,a2,a3⟩
 .exact .inl h
 .rcases h1 r1 hr1 g1 hg1 with h|⟨r0,hr0,e0,g0,hg0,b1,b2,b3⟩
  .exact .inl (a3▸h)
  .exact .inr ⟨r0,hr0,e0.trans e1,g0,hg0,b1.trans a1,b2.trans a2,b3.trans a3⟩
structure S5 (c:Cf) (d:wE) (s:Int) (i:It) (f3:Int) (h:Hd):Prop where
 inv:qE c h.d
 ag:h.d.rg.ag=d.rg.ag
 num:h.d.rg.num=d.rg.num
 no:h.e≠0->h.k= -1/\h.p=gI i.kind h.e/\(h.d=d\/∃a,Uq d i f3 a/\h.d=Sb d i f3 a)
 yes:h.e=0->∃a,Uq d i f3 a/\RpF d i f3 a h
 rst:h.k= -1\/(i.kind=11/\0<=h.k/\h.k<(c.js.length:Int))
 dl:h.d.dr.length<=d.dr.length
 t0:Oa d h.d
 eb:0<=i.code/\i.code<=100->0<=h.e/\h.e<=100
 ax:∀k:Nat,(k:Int)≠s->h.d.au[k]? =d.au[k]?
 sc:WH d.rq h.d.rq
theorem QA {r:Rg} {m:Ms} (h:Kf r m f3=0):Kn r m f3=⟨r.num,r.ag,r.tk,r.vh,if TJ m.kind=true then RP r.bk else r.bk⟩/\IK r.tk r.num m.tok m.kind f3=true/\(TJ m.kind=true->0<r.bk.level)/\Uy r m f3=m.tok.getD 1 dd:=by
 have h1:IK r.tk r.num m.tok m.kind f3=true:=by
  grind [Kf,Kn,TJ,RP,IK,Uy]
 refine⟨?_,h1,λhk=>?_,by rw[Uy,zA5 h]⟩
 .rw[Kn,zA5 h]
  split<;>rfl
 all_goals grind [Kf,Kn,TJ,RP,IK,Uy]
theorem qz (u:qE c d) (h:Uq d i f3 a):qE c (Sb d i f3 a):=by
 obtain⟨h1,_,z,_⟩:=QA h.2.2.2.2;unfold Sb wM;rw[h1];have hl:=u.bl;refine⟨⟨u.b.tk,u.b.s,u.b.l,u.b.v⟩,u.v,u.q,u.lg,u.a,u.n,u.t8,?_,?_,?_,u.au,u.dn,u.dr,u.vh⟩
 .dsimp only;split
  .unfold RP;split
   all_goals exact u.br
  .exact u.br
 .dsimp only;split
  .unfold RP;split
   all_goals exact u.bb
  .exact u.bb
 all_goals grind [Uq,Sb,RP]
def LO (h:Uq d i f3 a) (hk:i.kind=1\/9<=i.kind):Sb d i f3 a=d:=by
 obtain⟨h1,_,_,_⟩:=QA h.2.2.2.2;unfold Sb wM;rw[h1,Os (λh=>by unfold TJ at h;rw[zBc]at h;dsimp only at h;omega)]
def Tq {u:Int} {e:Int} (h:e≠0):yz u d p k e=⟨d,gI u e,-1,e⟩:=Os h
def Ug {u:Int} :yz u d p k 0=⟨d,p,k,0⟩:=zA5 Z
def Na {s:Int} (z:qE c d) {e:Int} (C:e≠0) (p:Ms) (u:wE) (hd:u=d\/∃a,Uq d i f3 a/\u=Sb d i f3 a)
 (h1:zO 224 [wD c,zM d,iA s,vE i,iA f3] [] (hT u p (-1) e) []) (h2:qe c d s f3 i ⟨u,gI i.kind e,-1,e⟩) (A:0<=i.code/\i.code<=100->0<=e/\e<=100:=by(intro _;omega)):∃h,RZ c d s i f3 h/\S5 c d s i f3 h:=by
 have hi:qE c u/\u.rg.ag=d.rg.ag/\u.rg.num=d.rg.num/\u.dr=d.dr/\u.rg.tk=d.rg.tk:=by
  rcases hd with rfl|⟨a,ho,rfl⟩
  .exact⟨z,rfl,rfl,rfl,rfl⟩
  .refine⟨qz z ho,?_,?_,?_,?_⟩<;>(unfold Sb wM;rw[(QA ho.2.2.2.2).1])
 have B:=xz c d s f3 i z.bd u p (-1) e h1;rw[Tq C,hi.2.2.1]at B;exact⟨⟨u,gI i.kind e,-1,e⟩,⟨B,h2⟩,hi.1,hi.2.1,hi.2.2.1,λ_=>⟨rfl,rfl,hd⟩,λh=>absurd h C,.inl Z,by rw[hi.2.2.2.1];exact zBb _,T0.of hi.2.2.2.2 (by rcases hd with h|⟨a,_,h⟩<;>rw[h];rfl),A,λ_ _=>by rw[show u.au=d.au by rcases hd with h|⟨a,_,h⟩<;>rw[h];rfl],by dsimp only;rw[show u.rq=d.rq by rcases hd with h|⟨a,_,h⟩<;>rw[h];rfl];exact WH.refl _⟩
def R5 {s:Int} (I:qE c d) (a:List Int) (M:Uq d i f3 a) (p:Ms) (k:Int) (u:wE) (hi:qE c u) (L:u.rg.ag=d.rg.ag) (G:u.rg.num=d.rg.num)
 (O:RpF d i f3 a ⟨u,p,k,0⟩) (hk:k= -1\/(i.kind=11/\0<=k/\k<(ln c.js:Int))) (A:ln u.dr<=ln d.dr) (C:Oa d u)
 (h1:zO 224 [wD c,zM d,iA s,vE i,iA f3] [] (hT u p k 0) []) (h2:qe c d s f3 i ⟨u,p,k,0⟩) (z:u.au=d.au) (B:WH d.rq u.rq):∃h,RZ c d s i f3 h/\S5 c d s i f3 h:=by
 have E:=xz c d s f3 i I.bd u p k 0 h1;rw[Ug,G]at E;exact⟨⟨u,p,k,0⟩,⟨E,h2⟩,hi,L,G,λh=>absurd Z h,λ_=>⟨a,M,O⟩,hk,A,C,λ_=>by dsimp only;omega,λ_ _=>by dsimp only;rw[z],B⟩
theorem Sq:∀{qs:List Qd} {q:Qd},q∈qs->q.j∈bK qs/\q.p∈bK qs/\q.f∈bK qs/\q.t∈bK qs
 |x::l,q,h=>by
  rw[show bK (x::l)=x.j::x.p::x.f::x.t::bK l from Z]
  rcases zCt.1 h with rfl|h
  .simp
  .obtain⟨h1,h2,u,z⟩:=Sq h;simp[h1,h2,u,z]
theorem je {α β γ:Type} {f:α->β->γ}:∀{a:List α} {b:List β} {g:γ},g∈a.zipWith f b->∃x∈a,∃y,g=f x y
 |x::a,y::b,g,h=>by
  rw[zEi]at h
  rcases zCt.1 h with rfl|h
  .exact⟨x,by simp,y,rfl⟩
  .obtain⟨z,u,w,e⟩:=je h;exact⟨z,by simp[u],w,e⟩
 | [],_,_,h=>by simp at h
 |_::_,[],_,h=>by simp at h
theorem Qq (l:List Rq) (r:Rq):(fB l r).length=ln l+1:=by grind [fB]
theorem Q5 {j p f t:Int} (h:EX j p f t f3=true):(GO j p f t f3).jn=j/\(GO j p f t f3).ph=p:=by grind [EX,GO]
theorem K8 (h:qs.all (aV c f3)=true):∀g∈qs.map (XR f3),g.jn<(ln c.js:Int)/\g.ph<((c.js.getD g.jn.toNat dd).ph.length:Int):=by
 intro g u;rw[zCl]at u;obtain⟨q,A,rfl⟩:=u;have h1:=zBk.1 h q A;unfold aV at h1;simp only[zBg,zBc]at h1;obtain⟨h2,C,z⟩:=h1;obtain⟨e1,B⟩:=Q5 z
 grind [aV,XR]
theorem zAv {l:List Rq} {q id:Int} {x:List Lg} (h:PH l q id life x=0):(ln l:Int)<q/\(ln l:Int)<4:=by grind [PH]
theorem zAw {id:Int} (h:Ya c d cls id v life f3 qs=0):ia (dK d.rg.vh v)=true/\qs.all (aV c f3)=true/\PH d.rq d.rg.ag.req id life (qs.map (XR f3))=0:=by grind [Ya,ia,dK,aV,PH,XR,Cr]
def zAx (u:qE c d) {id:Int} (E:0<=f3) (G:f3<=1073741824) (h:Ya c d cls id v life f3 qs=0):qE c (mg d (Np c d cls id v life f3 qs)):=by
 obtain⟨hv,C,B⟩:=zAw h;unfold ia at hv;rw[zBc]at hv;have hl:=zAv B;unfold mg Np;rw[zA5 h];refine⟨u.b,A4 u.v B hv.1.1 hv.1.2 hv.2.1 hv.2.2 E G,?_,λr z g A=>?_,u.a,u.n,u.t8,u.br,u.bb,u.bl,u.au,u.dn,u.dr,u.vh⟩
 .dsimp only;rw[Qq];omega
 .rcases LM z with rfl|z
  .exact K8 C g A
  .exact u.lg r z g A
def zAy (u:qE c d) {id:Int} {C:List (Int×Int)} (h:fV d.rq id C f3=0):qE c (mg d (Fy d.rq id C f3)):=by
 unfold mg Fy;rw[zA5 h];have hl:(YF d.rq id C f3).length=ln d.rq:=by unfold YF;rw[zA6]
 refine⟨u.b,u5 u.v h,?_,λr A g B=>?_,u.a,u.n,u.t8,u.br,u.bb,u.bl,u.au,u.dn,u.dr,u.vh⟩
 .dsimp only;rw[hl];exact u.q
 .dsimp only at A;unfold YF at A;rw[zCl]at A;obtain⟨E,z,rfl⟩:=A;split at B
  .obtain⟨x,G,y,rfl⟩:=je B;exact u.lg E z x G
  .exact u.lg E z g B
theorem J8 (u:qE c d) (p:Rq->Bool):qE c (mg d (d.rq.filter p)):=by
 have hl:=zCw p d.rq;have B:=u.q;refine⟨u.b,u.v.filter p,?_,λr A g z=>u.lg r ((zEv.1 A).1) g z,u.a,u.n,u.t8,u.br,u.bb,u.bl,u.au,u.dn,u.dr,u.vh⟩
 grind [mg]
theorem I8 {id:Int} (h:Ya c d cls id v life f3 qs=0):WH d.rq (Np c d cls id v life f3 qs):=by
 unfold Np;rw[zA5 h];intro r u g z
 rcases LM u with rfl|u
 .refine .inl ?_;obtain⟨q,A,rfl⟩:=zCl.1 z
  grind [Ya,WH,Np,aV,XR,GO]
 all_goals grind
theorem H8 {id:Int} {B:List (Int×Int)} (h:fV d.rq id B f3=0):WH d.rq (Fy d.rq id B f3):=by
 unfold Fy;rw[zA5 h];intro r u g A;unfold YF at u;rw[zCl]at u;obtain⟨E,z,rfl⟩:=u;split at A
 .obtain⟨x,C,y,rfl⟩:=je A;exact .inr ⟨E,z,by split<;>rfl,x,C,rfl,rfl,rfl⟩
 all_goals grind
def G8 (d:wE) (m:Ms) (z:Rg) (u:Bool):WH d.rq (fe d m z u 0).rq:=by
 unfold fe;rw[zA5 Z];dsimp only;split
 .exact WH.filter _ _
 .exact WH.refl _
theorem zAz (z:qE c d) {m:Ms} {I:List Int} {C:Rg} {u:Bool} (hb:IQ C) (L:DoP d.rg m I C p u 0):qE c (fe d m C u 0)/\(fe d m C u 0).rg.ag=d.rg.ag/\(fe d m C u 0).rg.num=d.rg.num/\(fe d m C u 0).dr.length<=ln d.dr/\Oa d (fe d m C u 0):=by
 have B:(if u=true then d.dr.drop 1 else d.dr).length<=1000/\∀x∈(if u=true then d.dr.drop 1 else d.dr),ln x=8/\BY x:=by
  split
  .exact⟨by have:=z.dn;rw[zB6];omega,λx M=>z.dr x (zCc M)⟩
  .exact⟨z.dn,z.dr⟩
 have A:cN (if m.kind=5 then TO d.rq (m.args.getD 0 0)else d.rq)/\((if m.kind=5 then TO d.rq (m.args.getD 0 0)else d.rq).length:Int)<=d.rg.ag.req/\L8 c (if m.kind=5 then TO d.rq (m.args.getD 0 0)else d.rq):=by
  split
  .have h:=J8 z (λx=>x.vh != m.args.getD 0 0);exact⟨h.v,h.q,h.lg⟩
  .exact⟨z.v,z.q,z.lg⟩
 have E:(if u=true then d.dr.drop 1 else d.dr).length<=ln d.dr:=by
  grind
 unfold fe;rw[zA5 Z]
 rcases L.2 Z with⟨o,G,hT,rfl,_⟩|⟨o,G,rfl,_⟩
 .refine⟨⟨hb,A.1,A.2.1,A.2.2,z.a,z.n,G,z.br,z.bb,z.bl,z.au,B.1,B.2,z.vh⟩,rfl,rfl,E,λh=>⟨hT h,rfl⟩⟩
 .exact⟨⟨hb,A.1,A.2.1,A.2.2,z.a,z.n,z.t8,z.br,z.bb,z.bl,z.au,B.1,B.2,G⟩,rfl,rfl,E,Oa.refl _⟩
theorem P5 (u:Uq d i f3 a):(Sb d i f3 a).rg.ag=d.rg.ag/\(Sb d i f3 a).rg.num=d.rg.num/\(Sb d i f3 a).rg.tk=d.rg.tk/\(Sb d i f3 a).rq=d.rq/\(Sb d i f3 a).dr=d.dr/\(Sb d i f3 a).au=d.au:=by grind [Uq,Sb,wM,QA]
theorem Tg {l:List Tk} {g:Int} {b:List Int} (h:IK l g b k f3=true):jZ l (b.getD 1 dd)=true:=by grind [IK,jZ]
theorem zA0 (r:Rg) (m:Ms) (f3:Int):0<=Kf r m f3/\Kf r m f3<=100:=by grind [Kf]
theorem F8 (c:Cf) (d:wE) (cls id v life f3:Int) (qs:List Qd):0<=Ya c d cls id v life f3 qs/\Ya c d cls id v life f3 qs<=100:=by grind [Ya,Cr,PH]
theorem E8 (l:List Rq) (id:Int) (u:List (Int×Int)) (f3:Int):0<=fV l id u f3/\fV l id u f3<=100:=by grind [fV]
def D8 (h:Yi d.rg.tk) (z:Uq d i f3 a):i.kind≠10:=λhk=>by
 have h1:=(QA z.2.2.2.2).2.1;have h2:=Tg h1;unfold IK at h1;dsimp only at h1;rw[hk]at h1;simp only[zBg]at h1;unfold jZ at h2;rw[zBg,zBc]at h2;dsimp only at h2;have u:=h _ (yB d.rg.tk _ (show((i.pay.take 10).getD 1 dd).toNat<ln d.rg.tk by have:=h2.1;omega)) h2.2;rw[show ji (vi d.rg.tk (i.pay.take 10)).rights 10=false from u]at h1;exact absurd h1.2.2 zBm
theorem Bi (c:Cf) (d:wE) (R:qE c d) (s f3:Int) (n0:0<=f3) (n1:f3<=1073741824) (i:It) (a2:BY i.pay) (a5:ln i.pay<=100000):∃h,RZ c d s i f3 h/\S5 c d s i f3 h:=by
 by_cases hc:i.code=0
 case neg=>exact Na R hc OR d (.inl Z) (Dw c d s f3 i hc) (Uw c d s f3 R.bd i hc) id
 by_cases hk:1<=i.kind/\i.kind<=12
 case neg=>exact Na R xA OR d (.inl Z) (Cw c d s f3 i hc hk) (Tw c d s f3 R.bd i hc hk)
 obtain⟨V,h1⟩:=hk;have W:=um i.kind V h1 i.pay a2 a5;have r2:=Ni i.kind V h1 i.pay a2 a5;have az:i=⟨0,i.kind,i.pay⟩:=by cases i;simp_all
 cases hd:NR (vW i.kind) (wF i.kind) i.pay with
 |none=>
  rw[hd]at W r2;have q1:=Bw c d s f3 i.kind i.pay V h1 W;have M:=Sw c d s f3 R.bd i.kind i.pay V h1 r2;rw[<-az]at q1 M;exact Na R xA OR d (.inl Z) q1 M
 |some I=>
 rw[hd]at W r2;obtain⟨_,cj,hv,ac,bu⟩:=Nw a2 hd;have bf:BY (i.pay.take 10):=λx hx=>a2 x (zC2 hx)
 have bx:d.rg.bk.level<=1000000:=by have:=R.bl;have:=R.a.b;omega
 have k3:=Q3 d.rg ⟨i.kind,i.pay.take 10,I,[]⟩ f3 R.b bf bx;have r3:=Qw d.rg ⟨i.kind,i.pay.take 10,I,[]⟩ f3 R.b bf bx;by_cases ho:Kf d.rg ⟨i.kind,i.pay.take 10,I,[]⟩ f3=0
 case neg=>
  have q1:=Aw c d s f3 i.kind i.pay (i.pay.take 10) I V h1 W _ _ _ ho k3;have M:=Rw c d s f3 R.bd i.kind i.pay (i.pay.take 10) I V h1 r2 _ _ _ ho r3;rw[<-az]at q1 M;exact Na R ho OR d (.inl Z) q1 M (λ_=>zA0 _ _ _)
 have hO:Uq d i f3 I:=⟨hc,V,h1,hd,ho⟩;obtain⟨_,b5,_,b0⟩:=QA ho;rw[ho,b0]at k3 r3;have a4:=Tg b5;dsimp only at b0 a4;generalize (i.pay.take 10).getD 1 dd=E at *;have z:=qz R hO;obtain⟨ea,en,et,eq,er,eu⟩:=P5 hO
 have a3:0<=E/\E<(ln d.rg.tk:Int):=by
  unfold jZ at a4;rw[zBg,zBc]at a4;exact a4.1
 have ax:Sb d i f3 I=wM d (Kn d.rg ⟨i.kind,i.pay.take 10,I,[]⟩ f3):=rfl;generalize Kn d.rg ⟨i.kind,i.pay.take 10,I,[]⟩ f3=B at *;have tl:(i.pay.take 10).length<=1000:=by rw[zBv];omega
 have NO:∀(e:Int),e≠0->0<=e/\e<=100->∀(p p2:Ms) (a9:Int),zO 224 [wD c,zM d,iA s,vE ⟨0,i.kind,i.pay⟩,iA f3] [] (hT (wM d B) p (-1) e) []->
   zO 193 [wD c,zM (wM d B),iA s,zX ⟨i.kind,i.pay.take 10,I,[]⟩,iA E,iA f3] [] (hT (wM d B) p2 a9 e) []->∃h,RZ c d s i f3 h/\S5 c d s i f3 h:=by
  intro e G cb p p2 a9 q1 M;have q3:=wz c d s f3 R.bd i.kind i.pay _ I V h1 r2 B E r3 (wM d B) (ax▸z.bd) p2 a9 e M;rw[Tq G]at q3;rw[<-az]at q1 q3;exact Na R G p _ (.inr ⟨I,hO,ax.symm⟩) q1 q3 (λ_=>cb)
 have Y:∀(d':wE) (p:Ms) (k:Int),qE c d'->d'.rg.ag=d.rg.ag->d'.rg.num=d.rg.num->RpF d i f3 I ⟨d',p,k,0⟩->(k= -1\/(i.kind=11/\0<=k/\k<(ln c.js:Int)))->ln d'.dr<=ln d.dr->Oa d d'->zO 224 [wD c,zM d,iA s,vE ⟨0,i.kind,i.pay⟩,iA f3] [] (hT d' p k 0) []->
   zO 193 [wD c,zM (wM d B),iA s,zX ⟨i.kind,i.pay.take 10,I,[]⟩,iA E,iA f3] [] (hT d' p k 0) []->d'.au=d.au->WH d.rq d'.rq->∃h,RZ c d s i f3 h/\S5 c d s i f3 h:=by
  intro d' p k hi ha hn hr hk ca ch q1 M b4 cg;have q3:=wz c d s f3 R.bd i.kind i.pay _ I V h1 r2 B E r3 d' hi.bd p k 0 M;rw[Ug]at q3;rw[<-az]at q1 q3;exact R5 R I hO p k d' hi ha hn hr hk ca ch q1 q3 b4 cg
 rw[ax]at z ea en et eq er eu;have ck:wF i.kind=0\/wF i.kind≠0:=by omega
 have b6:i.kind=1\/(i.kind=2\/i.kind=3\/i.kind=4\/i.kind=5)\/i.kind=6\/i.kind=7\/i.kind=8\/i.kind=9\/i.kind=10\/i.kind=11\/i.kind=12:=by omega
 rcases b6 with hk|hk|hk|hk|hk|hk|hk|hk|hk
 ·
  have av:I=[]:=zB5 (by rw[ac IF,hk];rfl);subst av;have A:=LO hO (.inl hk);rw[ax]at A;rw[A]at z;have q1:=ET c d s f3 i.kind i.pay _ [] V h1 W B E k3 (.inl hk) (RV d f3) (by rw[A,hk];exact ta d f3);have M:=Pq c d s f3 (i.pay.take 10) E;rw[A]at q1;refine Y d _ _ z Z Z (.inl ⟨hk,rfl,rfl⟩) (.inl Z) (zBb _) (Oa.refl _) q1 ?_ Z (WH.refl _);rw[A,hk];exact M
 ·
  obtain⟨a,L,O⟩:∃a L,I=a::L:=by
   cases I with
   |nil=>exfalso;have:=ac Yy;rcases hk with hk|hk|hk|hk<;>rw[hk]at this<;>cases this
   |cons a L=>exact⟨a,L,rfl⟩
  have av:ln I<=1000:=by have:=ac Yy;have:=EN i.kind;omega
  have hm:Pv ⟨i.kind,i.pay.take 10,I,[]⟩:=⟨tl,av,zBn _⟩
  have bz:(LR (wM d B)).length<=1000:=by
   unfold LR wM;dsimp only
   cases a7:d.dr with
   |nil=>simp
   |cons b bs=>have:=(R.dr b (by rw[a7];simp)).1;simp;omega
  have cf:BY (LR (wM d B)):=by
   unfold LR wM;dsimp only
   cases a7:d.dr with
   |nil=>exact λx hx=>by cases hx
   |cons b bs=>exact(R.dr b (by rw[a7];simp)).2
  have ci:ln B.vh<=1000:=by have:=z.vh;exact zCa this zB
  obtain⟨r',p,u,e,ce,cl,hP,f1,f2⟩:=ux B ci ⟨i.kind,i.pay.take 10,I,[]⟩ hm E f3 (LR (wM d B)) bz
  have h5:i.kind=5->∃a,I=[a]:=λh=>by
   have h9:=ac (by rw[h];rfl);rw[h]at h9;exact len1 h9
  have q1:=M5 (wM d B) ⟨i.kind,i.pay.take 10,I,[]⟩ E f3 z.v z.dn r' p u e f1 h5
  have hu:u=true->(wM d B).dr≠[]:=λhu h9=>by
   have G:e=0:=by
    by_cases G:e=0
    .exact G
    .rw[(hP.1 G).1]at hu;cases hu
   have b1:LR (wM d B)=[]:=by unfold LR;rw[h9];rfl
   rcases hP.2 G with⟨o,_,_,_,U|U⟩|⟨o,_,_,U,_⟩
   .rw[U.1]at hu;cases hu
   .rw[b1]at U;exact absurd U.2.1 xA
   .rw[U]at hu;cases hu
  have M:=Ew (wM d B) ⟨i.kind,i.pay.take 10,I,[]⟩ E f3 z.v z.dn r' p u e f2 h5 hu;have S:=L5 c d s f3 i.kind i.pay _ I V h1 W B E k3 hk _ _ e q1;have w2:=O5 c (wM d B) s f3 (i.pay.take 10) E i.kind I a L O hk _ p e M;by_cases G:e=0
  .subst G;rw[zA5 Z]at S;obtain⟨hi,ha,hn,b7,b9⟩:=zAz (m:=⟨i.kind,i.pay.take 10,I,[]⟩) z ce hP;have C:0<=a/\a<=4294967295:=hv a (by rw[O];simp);refine Y _ p (-1) hi (ha.trans ea) (hn.trans en) ?_ (.inl Z) b7 ((T0.of et eu).trans b9) S w2 (by unfold fe;rw[zA5 Z];rfl) (G8 (wM d B) _ r' u)
   rcases hP.2 Z with⟨o,_,_,_,U|U⟩|⟨o,_,_,_,U,ap⟩
   .obtain⟨_,ap,a1⟩:=U;dsimp only at a1 ap;exact .inr (.inr (.inr (.inr ⟨zB,a,C.1,C.2,by rw[ap,O,a1];rfl⟩)))
   .obtain⟨_,ap,a1,k,b2,b3⟩:=U;have a6:B.num=d.rg.num:=en;exact .inr (.inr (.inr (.inl ⟨a1,k,_,b2,⟨ap,cf⟩,by rw[b3,a6]⟩)))
   .dsimp only at U ap;exact .inr (.inr (.inr (.inr ⟨zB,a,C.1,C.2,by rw[ap,O];rfl⟩)))
  .have e1:fe (wM d B) ⟨i.kind,i.pay.take 10,I,[]⟩ r' u e=wM d B:=by unfold fe;rw[Os G]
   rw[e1]at S w2;exact NO e G (hP.1 G).2 _ _ _ S w2
 ·
  obtain⟨cc,c1,c3,hl⟩:=bu (by rw[hk];decide);rw[hk,show vW 6=3 from Z,show wF 6=4 from Z]at hl
  obtain⟨id,v,life,L,O⟩:∃id v life L,I=id::v::life::L:=by
   match I,hl with
   |id::v::life::L,_=>exact⟨id,v,life,L,rfl⟩
   | [],h=>simp at h;omega
   | [_],h=>simp at h;omega
   | [_,_],h=>simp at h;omega
  subst O;obtain⟨qs,a8,cd⟩:=vz cc L (by simp only[zBl]at hl;omega);subst a8
  have hp:∀q∈qs,0<=q.j/\0<=q.p:=λq hq=>by
   obtain⟨m1,m2,_⟩:=Sq hq;exact⟨(hv q.j (by simp[m1])).1,(hv q.p (by simp[m2])).1⟩
  have C:=hv id zV;have s1:E<((wM d B).rg.tk.length:Int):=by rw[et];exact a3.2
  have q1:=L4 c (wM d B) (i.pay.take 10) id v life E f3 qs z.bd z.v a3.1 s1 zB hp n0 n1;have M:=Id c (wM d B) 6 (i.pay.take 10) id v life ((wM d B).rg.tk.getD E.toNat dd).cls f3 qs z.bd z.v zB hp n0 n1;by_cases G:Ya c (wM d B) ((wM d B).rg.tk.getD E.toNat dd).cls id v life f3 qs=0
  .have hi:=zAx z n0 n1 G;rw[G]at q1;rw[zA5 G,G]at M;have S:=ES c d s f3 i.kind i.pay _ _ V h1 W B E k3 (.inl hk) id _ Z _ IG;have w2:=Oq c (wM d B) s f3 (i.pay.take 10) E _ id _ Z a3.1 s1 _ 0 M;refine Y _ (jD i.kind id) (-1) hi ea en (.inr (.inr (.inr (.inr ⟨zB,id,C.1,C.2,rfl⟩)))) (.inl Z) (zBb _) (T0.of et eu) S ?_ Z (I8 (d:=wM d B) G);rw[hk];exact w2
  .rw[Os G]at M;have S:=ER c d s f3 i.kind i.pay _ _ V h1 W B E k3 (.inl hk) _ _ G IG;have w2:=Oq c (wM d B) s f3 (i.pay.take 10) E _ id _ Z a3.1 s1 _ _ M;exact NO _ G (by first|exact F8 _ _ _ _ _ _ _ _|exact E8 _ _ _ _) _ _ _ S (by rw[hk];exact w2)
 ·
  obtain⟨cc,c1,c3,hl⟩:=bu (by rw[hk];decide);rw[hk,show vW 7=1 from Z,show wF 7=2 from Z]at hl
  obtain⟨id,L,O⟩:∃id L,I=id::L:=by
   match I,hl with
   |id::L,_=>exact⟨id,L,rfl⟩
   | [],h=>simp at h;omega
  subst O;obtain⟨ws,a8,cd⟩:=uz cc L (by simp only[zBl]at hl;omega);subst a8;have C:=hv id zV;have q1:=N4 c (wM d B) (i.pay.take 10) id E f3 ws z.v zB n0 n1;have M:=M4 (wM d B) (i.pay.take 10) id f3 ws z.v zB n0 n1;by_cases G:fV (wM d B).rq id ws f3=0
  .have hi:=zAy z G;rw[G]at q1;rw[zA5 G,G]at M;have S:=ES c d s f3 i.kind i.pay _ _ V h1 W B E k3 (.inr (.inl hk)) id _ Z _ IG;have w2:=Nq c (wM d B) s f3 (i.pay.take 10) E _ id _ Z _ 0 M;refine Y _ (jD i.kind id) (-1) hi ea en (.inr (.inr (.inr (.inr ⟨zB,id,C.1,C.2,rfl⟩)))) (.inl Z) (zBb _) (T0.of et eu) S ?_ Z (H8 (d:=wM d B) G);rw[hk];exact w2
  .rw[Os G]at M;have S:=ER c d s f3 i.kind i.pay _ _ V h1 W B E k3 (.inr (.inl hk)) _ _ G IG;have w2:=Nq c (wM d B) s f3 (i.pay.take 10) E _ id _ Z _ _ M;exact NO _ G (by first|exact F8 _ _ _ _ _ _ _ _|exact E8 _ _ _ _) _ _ _ S (by rw[hk];exact w2)
 ·
  obtain⟨id,O⟩:=len1 (show (ln I)=1 by rw[ac IF,hk];rfl);subst O;have C:=hv id zV;have q1:=K4 c (wM d B) (i.pay.take 10) id E f3 z.v;have M:=N5 c (wM d B) s f3 (i.pay.take 10) E id _ _ (ni (wM d B).rq id z.v);by_cases G:kV (wM d B).rq id=true
  .have hi:=J8 z (λx=>x.id != id);rw[zA5 G,zA5 G]at q1;rw[zA5 G,zA5 G,zA5 Z]at M;have S:=ES c d s f3 i.kind i.pay _ _ V h1 W B E k3 (.inr (.inr hk)) id [] Z _ IG;refine Y _ (jD i.kind id) (-1) hi ea en (.inr (.inr (.inr (.inr ⟨zB,id,C.1,C.2,rfl⟩)))) (.inl Z) (zBb _) (T0.of et eu) S ?_ Z (WH.filter _ _);rw[hk];exact M
  .rw[Os G,Os G]at q1;rw[Os G,Os G,Os xA]at M;have S:=ER c d s f3 i.kind i.pay _ _ V h1 W B E k3 (.inr (.inr hk)) _ 12 xA IG;exact NO 12 xA xA _ _ _ S (by rw[hk];exact M)
 ·
  have av:I=[]:=zB5 (by rw[ac IF,hk];rfl);subst av;have A:=LO hO (.inr zB);rw[ax]at A;rw[A]at z;have q1:=ET c d s f3 i.kind i.pay _ [] V h1 W B E k3 (.inr (.inl hk)) (QL d) (by rw[A,hk];exact Ld d f3 R.bd);have M:=Hw c d s f3 (i.pay.take 10) E R.bd;rw[A]at q1;refine Y d _ _ z Z Z (.inr (.inl ⟨hk,rfl,rfl⟩)) (.inl Z) (zBb _) (Oa.refl _) q1 ?_ Z (WH.refl _);rw[A,hk];exact M
 ·
  obtain⟨a,O⟩:=len1 (show (ln I)=1 by rw[ac IF,hk];rfl);subst O;have C:=hv a zV;by_cases ha:1<a
  .have S:=xx c d s f3 i.kind i.pay _ [a] V h1 W B E k3 hk a Z ha;have w2:=Jw c (wM d B) s f3 (i.pay.take 10) E a ha;exact NO 8 xA xA _ _ _ S (by rw[hk];exact w2)
  by_cases hs:0<=s/\s<(ln d.au:Int)
  case neg=>
   have S:=wx c d s f3 i.kind i.pay _ [a] V h1 W B E k3 hk a Z zB hs;have w2:=Iw c (wM d B) s f3 (i.pay.take 10) E a zB (by rw[eu];exact hs);refine Y _ (jD 10 a) (-1) z ea en (.inr (.inr (.inr (.inr ⟨zB,a,C.1,C.2,by rw[hk]⟩)))) (.inl Z) (zBb _) (T0.of et eu) S ?_ Z (WH.refl _);rw[hk];exact w2
  rw[hk]at W r2 k3 r3;have ba:qE c ⟨B,d.rq,d.dr,d.au.set s.toNat (a==1)⟩:=⟨z.b,z.v,z.q,z.lg,z.a,z.n,z.t8,z.br,z.bb,z.bl,by have:=z.au;dsimp only;rw[zCk];exact this,z.dn,z.dr,z.vh⟩;have S:=Gw c d s f3 i.pay (i.pay.take 10) a C.1 zB W B E k3 hs;have w2:=Fw c (wM d B) s f3 (i.pay.take 10) E a C.1 zB (by rw[eu];exact hs);have q1:=U5 c d s f3 ⟨0,10,i.pay⟩ R.bd zB _ _ _ S;have M:=T5 c d s f3 R.bd 10 i.pay _ [a] xA xA r2 B E r3 _ ba.bd _ _ w2;have a6:B.num=d.rg.num:=en;rw[show(⟨B,d.rq,d.dr,d.au.set s.toNat (a==1)⟩:wE).rg.num=d.rg.num from a6]at q1;rw[<-hk,<-az]at q1 M;exact⟨⟨⟨B,d.rq,d.dr,d.au.set s.toNat (a==1)⟩,jD i.kind a,-1,0⟩,⟨q1,M⟩,ba,ea,en,λh=>absurd Z h,λ_=>⟨[a],hO,.inr (.inr (.inr (.inr ⟨zB,a,C.1,C.2,rfl⟩)))⟩,.inl Z,zBb _,λh=>absurd (D8 h hO) (λh9=>h9 hk),λ_=>by dsimp only;omega,λk hk'=>by show(d.au.set s.toNat (a==1))[k]? =_;rw[zFy zB],WH.refl _⟩
 ·
  obtain⟨a,O⟩:=len1 (show (ln I)=1 by rw[ac IF,hk];rfl);subst O;have C:=hv a zV;by_cases ha:a<(ln c.js:Int)
  .have S:=yx c d s f3 i.kind i.pay _ [a] V h1 W B E k3 hk a Z ha;have w2:=Kw c (wM d B) s f3 (i.pay.take 10) E a ha;refine Y _ (jD 11 a) a z ea en (.inr (.inr (.inr (.inr ⟨zB,a,C.1,C.2,by rw[hk]⟩)))) (.inr ⟨hk,C.1,ha⟩) (zBb _) (T0.of et eu) S ?_ Z (WH.refl _);rw[hk];exact w2
  .have S:=zx c d s f3 i.kind i.pay _ [a] V h1 W B E k3 hk a Z zB;have w2:=Lw c (wM d B) s f3 (i.pay.take 10) E a zB;exact NO 8 xA xA _ _ _ S (by rw[hk];exact w2)
 ·
  have av:I=[]:=zB5 (by rw[ac IF,hk];rfl);subst av;have A:=LO hO (.inr zB);rw[ax]at A;rw[A]at z;have cm:=R.a.q;have q1:=ET c d s f3 i.kind i.pay _ [] V h1 W B E k3 (.inr (.inr hk)) (aD d) (by rw[A,hk];exact Md d 12 f3 xA xA R.bd zB zB);have M:=Mw c d s f3 (i.pay.take 10) E (Gv d R.bd zB zB);rw[A]at q1;refine Y d _ _ z Z Z (.inr (.inr (.inl ⟨hk,rfl,rfl⟩))) (.inl Z) (zBb _) (Oa.refl _) q1 ?_ Z (WH.refl _);rw[A,hk];exact M
