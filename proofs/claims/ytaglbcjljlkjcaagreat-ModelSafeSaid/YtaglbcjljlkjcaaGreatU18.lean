/- Part 18. -/
import Derived.Test.YtaglbcjljlkjcaaGreatU17
namespace Go.Proofs.YtaglbcjljlkjcaaGreat.Av
open Tryz
set_option linter.all false
set_option maxRecDepth 4000
set_option maxHeartbeats 4000000
open List renaming length->ln
open Inhabited renaming default->dd
variable {c:Cf}{cls k life f4 v:Int}{i:It}{a:List Int}{qs:List Qd}{p:Ms}{d:wC}
def gH (k e:Int):Ms:=⟨15,[],[k,e],[]⟩
def OK (a k e:Int):AV:= .agg [iA a,iA k,iA e]
structure Hd where
 d:wC
 p:Ms
 k:Int
 e:Int
def ET (n u:Int) (h:Hd):AV:= .tup [zM h.d,zX h.p,OK n u h.e,iA h.k]
def PC (d:wC):AV:=xD d.rg (zE zY d.rq) (.ref 1005 0 (d.dr.map qO).length) (zE bA d.au)
def jw (d:wC):xW:= .arr 1 (d.dr.map qO) true
def Za (n u:Int) (h:Hd):AV:= .tup [PC h.d,zX h.p,OK n u h.e,iA h.k]
def fW (d:wC) (hb:dN d):zN 125 [zM d] [] (PC d) [(1005,jw d)]:=by
 have z:=eI d.rg hb.rg;have O:=eE d.rq hb.q hb.g;have S:=hb.q;have B:=hb.n;have A:=hb.a;have G:=zA zY d.rq;have E:=zA qO d.dr;have C:=zA bA d.au;unfold PC zM xD;unfold jw;unfold uQ at z;refine eM call125 λF hF=>?_
 refine RH (xQ z O) ?_;refine zQ 4 1005 1 Z Z Z ?_;refine zU (d.dr) [1005,2,3] [2,3] [2,3,18,19] [4,20,2,3,18,19] Z (λi ga T U=>⟨(4,.ref 1005 0 (ga.map qO).length)::(20,iA i)::T,(1005,.arr 1 (ga.map qO) true)::U⟩) (Lq ?_ ?_)
 .intro i ga x post u hi;have W:=yJ qO u hi;have I:=zW u hi;have L:(ga.map qO).length=i:=by rw[zAt,hi]
  have V:=hb.e x (xA u);have M:=zA yA x;have e:(ga++[x]).map qO=ga.map qO++[qO x]:=by simp
  clear u;rw[e];generalize ga.map qO=xs,d.dr.map qO=Y at *;refine WL ?_;rfl
 ·(refine WL ?_)
  exact zI [1005] Z Z Z Z
def Fd (c:Cf) (d:wC) (s f4:Int) (i:It) (h:Hd):Prop:=
 zN 131 [wH c,zM d,iA s,vO i,iA f4] [] (ET d.rg.num i.kind h) []/\zN 131 [wH c,zM d,iA s,vO i,iA f4] [] (Za d.rg.num i.kind h) [(1005,jw h.d)]
def Ry (u:Int) (d:wC) (p:Ms) (k e:Int):Hd:=if e=0 then⟨d,p,k,0⟩else⟨d,gH u e,-1,e⟩
def Qy (c:Cf) (d:wC) (s f4:Int) (i:It) (hb:dN d) (u:wC) (p:Ms) (k e:Int) (z:zN 224 [wH c,zM d,iA s,vO i,iA f4] [] (hT u p k e) []):
  zN 176 [wH c,zM d,iA s,vO i,iA f4] [] (ET u.rg.num i.kind (Ry i.kind u p k e)) []:=by
 have B:=MZ d hb;unfold hT wH vO at z;unfold wH vO;unfold zM xD zX at *;by_cases A:e=0
 .subst A;unfold Ry ET OK zM xD zX;rw[zAs Z];refine eM call176 λF hF=>?_
  exact ny (xQ B z)
 .unfold Ry ET OK gH zM xD zX;rw[Os A];refine eM call176 λF hF=>?_
  exact ny (xQ B z)
def G4 (c:Cf) (d:wC) (s f4:Int) (i:It) (hb:dN d) (h1:1<=ln d.au) (u:wC) (p:Ms) (k:Int) (z:zN 224 [wH c,XU d,iA s,vO i,iA f4] [(1004,EU d.au)] (Ky u p k 0) [(1004,EU u.au)]):
  zN 176 [wH c,zM d,iA s,vO i,iA f4] [] (ET u.rg.num i.kind ⟨u,p,k,0⟩) []:=by
 have A:=LK d hb h1;unfold Ky wH vO at z;unfold wH vO;unfold EU XU at *;unfold zM xD zX at *;unfold ET OK zM xD zX;refine eM call176 λF hF=>?_
 refine RH (xQ A z) ?_;refine zI [] Z Z ?_ Z
 show AV.tup [xD u.rg (zE zY u.rq) (zE qO u.dr) (.sl false ((u.au.map bA).take (u.au.map bA).length)),zX p,OK u.rg.num i.kind 0,iA k]=_
 rw[zAv];rfl
section
variable (c:Cf) (d:wC) (s f4:Int) (hb:dN d)
include hb
def fw (i:It) (hc:i.code≠0):Fd c d s f4 i ⟨d,gH i.kind i.code,-1,i.code⟩:=by
 have z:=fW d hb;have u:=kN d hb;unfold Fd wH ET Za gH OK vO zM PC jw xD zX at *;refine⟨?_,?_⟩
 ·(refine eM call131 λF hF=>?_)
  exact pb u
 ·(refine eM call131 λF hF=>?_)
  refine WDo u ?_;refine VX z ?_;exact zI [1005] Z Z Z Z
def dw (i:It) (hc:i.code=0) (hk:¬(1<=i.kind/\i.kind<=12)):Fd c d s f4 i ⟨d,gH i.kind 5,-1,5⟩:=by
 have A:=fW d hb;have z:=kN d hb;have u:=cX i.kind;rw[zAu hk]at u;obtain⟨B,C,E⟩:=i;dsimp only at *;subst hc;unfold Fd wH ET Za gH OK vO zM PC jw xD zX at *;refine⟨?_,?_⟩
 ·(refine eM call131 λF hF=>?_)
  exact ny (xQ z u)
 ·(refine eM call131 λF hF=>?_)
  refine I1 (xQ z u) ?_;refine VX A ?_;exact zI [1005] Z Z Z Z
def bw (k:Int) (A:List Int) (C:1<=k) (h1:k<=12) (z:zN 191 [iA k,zE yA A] [] (B5 k (A.take 10) none) []):Fd c d s f4 ⟨0,k,A⟩ ⟨d,gH k 6,-1,6⟩:=by
 have E:=fW d hb;have B:=kN d hb;have u:=cX k;rw[zAw ⟨C,h1⟩]at u;unfold B5 zX at z;unfold Fd wH ET Za gH OK vO zM PC jw xD zX at *;refine⟨?_,?_⟩
 ·(refine eM call131 λF hF=>?_)
  exact ny (qC B u z)
 ·(refine eM call131 λF hF=>?_)
  refine I1 (qC B u z) ?_;refine VX E ?_;exact zI [1005] Z Z Z Z
variable (k:Int) (pa tk0 ar:List Int) (h0:1<=k) (h1:k<=12) (k3:zN 191 [iA k,zE yA pa] [] (.tup [zX ⟨k,tk0,ar,[]⟩,iA 0]) [])
include h0 h1 k3
def aw (r:Rg) (C e:Int) (E:e≠0) (z:zN 192 [uQ d.rg,zX ⟨k,tk0,ar,[]⟩,iA f4] [] (.tup [uQ r,iA C,iA e]) []):
  Fd c d s f4 ⟨0,k,pa⟩ ⟨d,gH k e,-1,e⟩:=by
 have B:=fW d hb;have A:=kN d hb;have u:=cX k;rw[zAw ⟨h0,h1⟩]at u;unfold uQ at z;unfold Fd wH ET Za gH OK vO zM PC jw xD zX at *;refine⟨?_,?_⟩
 ·(refine eM call131 λF hF=>?_)
  exact ny (cI A u k3 z)
 ·(refine eM call131 λF hF=>?_)
  refine I1 (cI A u k3 z) ?_;refine VX B ?_;exact zI [1005] Z Z Z Z
def Py (r:Rg) (O:Int) (B:zN 192 [uQ d.rg,zX ⟨k,tk0,ar,[]⟩,iA f4] [] (.tup [uQ r,iA O,iA 0]) []) (u:wC) (z:dN u) (p:Ms) (M e:Int)
  (C:zN 193 [wH c,zM (wL d r),iA s,zX ⟨k,tk0,ar,[]⟩,iA O,iA f4] [] (hT u p M e) []):
  Fd c d s f4 ⟨0,k,pa⟩ (Ry k u p M e):=by
 have L:=fW u z;have E:=kN d hb;have I:=kN u z;have A:=cX k;rw[zAw ⟨h0,h1⟩]at A;unfold uQ at B;unfold hT wL at C;unfold Fd wH vO zM PC jw xD zX at *;by_cases G:e=0
 .subst G;unfold Ry ET Za OK zM PC xD zX;rw[zAs Z];refine⟨?_,?_⟩
  ·(refine eM call131 λF hF=>?_)
   exact ny (qb E A k3 B C I)
  ·(refine eM call131 λF hF=>?_)
   refine I1 (MO E A k3 B C) ?_;refine VX L ?_;exact zI [1005] Z Z Z Z
 .unfold Ry ET Za OK gH zM PC xD zX;rw[Os G];refine⟨?_,?_⟩
  ·(refine eM call131 λF hF=>?_)
   exact ny (qb E A k3 B C I)
  ·(refine eM call131 λF hF=>?_)
   refine I1 (MO E A k3 B C) ?_;refine VX L ?_;exact zI [1005] Z Z Z Z
def F4 (r:Rg) (I:Int) (B:zN 192 [uQ d.rg,zX ⟨k,tk0,ar,[]⟩,iA f4] [] (.tup [uQ r,iA I,iA 0]) []) (u:wC) (z:dN u) (p:Ms) (G:Int)
  (C:zN 193 [wH c,XU (wL d r),iA s,zX ⟨k,tk0,ar,[]⟩,iA I,iA f4] [(1004,EU d.au)] (Ky u p G 0) [(1004,EU u.au)]):
  Fd c d s f4 ⟨0,k,pa⟩ ⟨u,p,G,0⟩:=by
 have M:=fW u z;have E:=LL d hb;have L:=kN u z;have A:=cX k;rw[zAw ⟨h0,h1⟩]at A;unfold uQ at B;unfold Ky wL at C;unfold EU XU at *;unfold Fd wH vO zM PC jw xD zX at *;unfold ET Za OK zM PC xD zX;refine⟨?_,?_⟩
 ·(refine eM call131 λF hF=>?_)
  refine I1 (MO E A k3 B C) ?_;refine wJ [5,6,8,10,11,12,14,17] [5,6,8,10,11,12,13,14,15,16,17] Z ?_
  (conv=>whnf)
  simp only[zBf,zAv];exact pb L
 ·(refine eM call131 λF hF=>?_)
  refine I1 (MO E A k3 B C) ?_;refine wJ [5,6,8,10,11,12,14,17] [5,6,8,10,11,12,13,14,15,16,17] Z ?_
  (conv=>whnf)
  simp only[zBf,zAv];refine VX M ?_;exact zI [1005] Z Z Z Z
end
def iq (l:List Tk) (hn:ln l<=1000000) (g:Int) (b:List Int) (k f4:Int) (hb:BY b):zN 240 [zE yP l,iA g,zE yA b,iA k,iA f4] [] (.tup [iA (if IO l g b k f4=true then b.getD 1 dd else 0),iA (if IO l g b k f4=true then 0 else 9)]) []:=by
 have V:=zA yA b;have W:=zA yP l;by_cases h1:(ln b:Int)=10
 case neg=>
  have e:IO l g b k f4=false:=by unfold IO;rw[zAu (λh=>h1 h.1)];rfl
  rw[e];refine eM call240 λF hF=>?_
  exact mx
 have C:=yE yA b 0 zB zB;have E:=yE yA b 1 zB zB;have b0:0<=b.getD 0 dd/\b.getD 0 dd<256:=hb _ Pe;have G:0<=b.getD 1 dd/\b.getD 1 dd<256:=hb _ Pe
 change (b.map yA)[0]? =some (yA (b.getD 0 dd))at C
 change (b.map yA)[1]? =some (yA (b.getD 1 dd))at E
 unfold IO Vi;generalize b.getD 0 dd=x0,b.getD 1 dd=A at *;by_cases h2:x0=g
 case neg=>
  rw[zAu (λh=>h2 h.2)];refine eM call240 λF hF=>?_
  exact mx
 rw[zAw ⟨h1,h2⟩];by_cases S:A<ln l
 case neg=>
  have z:jY l A=false:=by unfold jY;rw[zAu zB];rfl
  rw[z];refine eM call240 λF hF=>?_
  exact mx
 have z:jY l A=(l.getD A.toNat dd).used:=by unfold jY;rw[zAw ⟨G.1,S⟩,zA3]
 rw[z];have u:=yE yP l A G.1 zB;generalize l.getD A.toNat dd=t at *;cases z:t.used
 .rw[show yP t=dO false t by unfold yP dO;rw[z]]at u;unfold dO at u;refine eM call240 λF hF=>?_
  exact mx
 .rw[show yP t=dO true t by unfold yP dO;rw[z]]at u;unfold dO at u;have U:(b.drop 2).map yA=(b.map yA).drop 2:=by rw[zDo]
  rw[Ln (b.drop 2) t.sec];have I:=Rc t.rights k;generalize Y:Ch t.sec (b.drop 2)=q1 at *;generalize mj t.rights k=O at *;have B:Aa t f4=decide (t.til≠0/\t.til<f4):=rfl;rw[B]
  cases q1 with
  |false=>
   refine eM call240 λF hF=>?_
   exact mx
  |true=>
  by_cases L:t.til=0
  .rw[zAu (λh=>h.1 L)]
   cases O<;>((refine eM call240 λF hF=>?_);exact nl I)
  by_cases M:t.til<f4
  .rw[zAw ⟨L,M⟩];refine eM call240 λF hF=>?_
   exact mx
  .rw[zAu (λh=>M h.2)]
   cases O<;>((refine eM call240 λF hF=>?_);exact nl I)
def pw (r:Rg) (m:Ms) (f4:Int) (C:GW r) (G:BY m.tok) (hl:r.bk.level<=1000000):zN 192 [uQ r,zX m,iA f4] [] (.tup [uQ (Rp r m f4),iA (Vy r m f4),iA (zg r m f4)]) []:=by
 have u:=iq r.tk C.tk.n r.num m.tok m.kind f4 G;have A:=eI r C;have z:=bn r.bk zB;unfold Rp Vy zg
 cases B:IO r.tk r.num m.tok m.kind f4<;>rw[B]at u
 ·(refine eM call192 λF hF=>?_)
  exact nl u
 .generalize m.tok.getD 1 dd=E at *;cases hk:TU m.kind
  .have hk':¬(2<=m.kind/\m.kind<=8):=zE5 hk;refine eM call192 λF hF=>?_
   refine yF (xQ u A) (I2 (λhc=>?_) λhc=>?_)
   all_goals (first|exact MP|exact zH)
  .have hk':2<=m.kind/\m.kind<=8:=zEl hk;by_cases hv:r.bk.level<=0
   .rw[zAu zB]at z;simp only[hv,and_self,zE2];refine eM call192 λF hF=>?_
    exact ng (qC u A z)
   .rw[zAw zB]at z;simp only[hv,zE9,zFm,zE2];generalize hb:RG r.bk=I at *;refine eM call192 λF hF=>?_
    exact ng (qC u A z)
def mw (l:List Tk) (f4:Int) (n:Nat) (j:Nat):Bool:=(List.range n).any λi=>jY l i&&Aa (l.getD i dd) f4&&YF l 9 j i
theorem Zq (l:List Tk) (f4:Int) (n:Nat):mw l f4 (n+1)=λj=>mw l f4 n j||(jY l n&&Aa (l.getD n dd) f4&&YF l 9 j n):=by
 funext j
 unfold mw
 grind
def Ni (l:List Tk) (hb:IC l) (B:ln l=8) (f4:Int):zN 189 [zE yP l,iA f4] [] (zE yP (YD l f4)) []:=by
 have O:=zA yP l;have I:=wg l hb (mw l f4 8) B;have E:=T4 B f4
 change YD l f4=RT (mw l f4 8) l 8 at E
 rw[E];generalize RT (mw l f4 8) l 8=S at *;obtain⟨N,hN⟩:∃N:Nat,N=8:=⟨8,rfl⟩;refine eM call189 λF hF=>?_
 refine WW ?_;refine zO (N) [] [] [0,1,8,9] [5,10,0,1,8,9] Z (λi T U=>⟨(5,iA (kO (mw l f4 i) 8))::(10,iA i)::T,U⟩) (Lq ?_ ?_)
 .intro i hi;have z:jY l i=(l.getD i dd).used:=by unfold jY;rw[zAw zB,zA3,zBh]
  have L:=xg l i B;rw[B]at L;have u:=Vo (mw l f4 i) (λj=>YF l 9 j i);have G:=zJ yP l i zB;have C:=Zq l f4 i;rw[z]at C;rw[C];clear C z I E;generalize mw l f4 i=p,l.getD i dd=t at *;rw[show yP t= .agg [bA t.used,zE yA t.sec,iA t.par,iA t.rights,iA t.cls,iA t.til]from Z]at G;unfold Aa
  cases z:t.used with
  |false=>
   rw[z]at G;rw[show(λj=>p j||false&&decide (t.til≠0/\t.til<f4)&&YF l 9 j i)=p by funext j;simp];generalize kO p 8=b at *;refine WW ?_;rfl
  |true=>
  rw[z]at G;by_cases A:t.til≠0/\t.til<f4
  .rw[zAw A];rw[show(λj=>p j||true&&true&&YF l 9 j i)=λj=>p j||YF l 9 j i by funext j;simp,<-u];clear u;obtain⟨A,M⟩:=A;generalize kO p 8=b,kO (λj=>YF l 9 j i) 8=c at *;refine zS L ?_;rfl
  .rw[zAu A];rw[show(λj=>p j||true&&false&&YF l 9 j i)=p by funext j;simp];generalize kO p 8=b at *;by_cases M:t.til=0
   all_goals
    (refine WW ?_)
    rfl
 .rw[hN];exact nl I
def Yq (r:Rg) (f4:Int) (u:GW r) (C:ln r.tk=8) (hl: -1000000<=r.bk.level+r.bk.rate/\r.bk.level+r.bk.rate<=1000000):zN 129 [uQ r,iA f4] [] (uQ (Z4 r f4)) []:=by
 have z:=eI r u;have A:=Ni r.tk u.tk C f4;have B:=qn r.bk zB;unfold Z4;generalize YD r.tk f4=G,o7 r.bk=E at *;refine eM call129 λF hF=>?_
 exact ng (qC z A B)
def d8 (c:Cf) (l:List Rq):Prop:=∀r∈l,∀g∈r.legs,g.jn<(ln c.js:Int)/\g.ph<((c.js.getD g.jn.toNat dd).ph.length:Int)
structure qD (c:Cf) (d:wC):Prop where
 b:GW d.rg
 v:cJ d.rq
 q:(d.rq.length:Int)<=d.rg.ag.req
 lg:d8 c d.rq
 a:Ty d.rg.ag
 n:0<=d.rg.num/\d.rg.num<4
 t8:d.rg.tk.length=8
 br:d.rg.bk.rate=d.rg.ag.rate
 bb:d.rg.bk.burst=d.rg.ag.burst
 bl:0<=d.rg.bk.level/\d.rg.bk.level<=d.rg.ag.burst
 au:(d.au.length:Int)=d.rg.ag.ses
 dn:d.dr.length<=1000
 dr:∀x∈d.dr,x.length=8/\BY x
 vh:d.rg.vh.length<=8
theorem qD.bd (h:qD c d):dN d:=
 ⟨h.b,by have:=h.v.n4;omega,λr u=>by have:=h.v.lg3 u;omega,h.dn,λx z=>by have:=(h.dr x z).1;omega,by have:=h.au;have:=h.a.e;omega⟩
theorem Oy:∀(n:Nat) (l:List Int),ln l=4*n->∃qs:List Qd,l=bF qs/\qs.length=n
 |0,l,h=>⟨[],zBv zB,rfl⟩
 |n+1,a::b::c::e::l,h=>by
  obtain⟨qs,h1,h2⟩:=Oy n l (by simp only[zA8]at h;omega);exact⟨⟨a,b,c,e⟩::qs,by rw[h1];rfl,by rw[zA8,h2]⟩
 |n+1,[],h=>by simp at h
 |n+1,[_],h=>by simp at h;omega
 |n+1,[_,_],h=>by simp at h;omega
 |n+1,[_,_,_],h=>by simp at h;omega
theorem Ny:∀(n:Nat) (l:List Int),ln l=2*n->∃u:List (Int×Int),l=SE u/\u.length=n
 |0,l,h=>⟨[],zBv zB,rfl⟩
 |n+1,a::b::l,h=>by
  obtain⟨u,h1,h2⟩:=Ny n l (by simp only[zA8]at h;omega);exact⟨(a,b)::u,by rw[h1];rfl,by rw[zA8,h2]⟩
 |n+1,[],h=>by simp at h
 |n+1,[_],h=>by simp at h;omega
theorem lw {A u:Nat} {p:List Int} (hb:BY p) (h:MF A u p=some a):ln p<=200/\10<=ln p/\(∀x∈a,0<=x/\x<=4294967295)/\(u=0->ln a=A)/\(u≠0->∃c:Nat,1<=c/\c<=3/\a.length=A+c*u):=by
 unfold MF at h;by_cases hl:200<ln p\/p.length<10
 .grind
 rw[Os hl]at h;have C:BY (p.drop 10):=λx G=>hb x (zB1 G)
 cases h1:XN A (p.drop 10)with
 |none=>rw[h1]at h;cases h
 | some S=>
  obtain⟨O,I⟩:=S;rw[h1]at h;obtain⟨l1,U,v1,_⟩:=bD A _ O I C h1;dsimp only at h;by_cases E:u=0
  .grind
  .rw [Os E]at h
   cases h2:XN 1 I with
   |none=>rw[h2]at h;cases h
   | some W=>
    obtain⟨z,L⟩:=W;rw[h2]at h;obtain⟨l2,V,v2,_⟩:=bD 1 _ z L U h2;dsimp only at h;by_cases hc:z.getD 0 0<1\/3<z.getD 0 0
    .grind
    rw[Os hc]at h
    cases B:XN ((z.getD 0 0).toNat*u) L with
    |none=>rw[B]at h;cases h
    | some fr=>
     obtain⟨Y,M⟩:=fr;rw[B]at h;obtain⟨l3,b3,v3,_⟩:=bD _ _ Y M V B;dsimp only at h;by_cases hr:M=[]
     .rw[zAs hr]at h;cases h;refine⟨zB,zB,λx G=>?_,λh=>absurd h E,λ_=>⟨(z.getD 0 0).toNat,zB,zB,by rw[zAx,l1,l3]⟩⟩
      grind
     all_goals grind
def Xq (d:wC) (i:It) (f4:Int) (a:List Int):Prop:=i.code=0/\1<=i.kind/\i.kind<=12/\MF (vU i.kind) (wE i.kind) i.pay=some a/\zg d.rg ⟨i.kind,i.pay.take 10,a,[]⟩ f4=0
def rb (d:wC) (i:It) (f4:Int) (a:List Int):wC:=wL d (Rp d.rg ⟨i.kind,i.pay.take 10,a,[]⟩ f4)
def RV (c:Cf) (d:wC) (s:Int) (i:It) (f4:Int) (h:Hd):Prop:=
 zN 176 [wH c,zM d,iA s,vO i,iA f4] [] (ET d.rg.num i.kind h) []/\Fd c d s f4 i h
def RpF (d:wC) (i:It) (f4:Int) (a:List Int) (h:Hd):Prop:=
 (i.kind=1/\h.p=RP d f4/\h.d=d)\/(i.kind=9/\h.p=QF d/\h.d=d)\/(i.kind=12/\h.p=aA d/\h.d=d)\/
 (i.kind=2/\∃(k:Nat) (u:List Int),k<8/\(ln u=8/\BY u)/\h.p=⟨16,[],[(k:Int)],d.rg.num::(k:Int)::u⟩)\/
 ((3<=i.kind/\i.kind<=8\/i.kind=10\/i.kind=11)/\∃x,0<=x/\x<=4294967295/\h.p=jD i.kind x)
def T0 (d:wC):Prop:=d.rg.tk.getD 0 dd=⟨true,d.rg.ag.sec,-1,d.rg.ag.rights,d.rg.ag.cls,0⟩
def Ya (d u:wC):Prop:=O2 d.rg.tk->O2 u.rg.tk/\u.au=d.au
theorem Ya.refl (d:wC):Ya d d:=λh=>⟨h,rfl⟩
theorem Ya.trans {a b:wC} (h:Ya a b) (k:Ya b d):Ya a d:=λx=>⟨(k (h x).1).1,(k (h x).1).2.trans (h x).2⟩
theorem T0.of {u:wC} (h1:u.rg.tk=d.rg.tk) (z:u.au=d.au):Ya d u:=λh=>⟨h1▸h,z⟩
def WK (l A:List Rq):Prop:=∀r∈A,∀g∈r.legs,g.sc= -1\/∃z∈l,z.id=r.id/\∃u∈z.legs,u.jn=g.jn/\u.ph=g.ph/\u.sc=g.sc
theorem WK.refl (l:List Rq):WK l l:=λr z g u=> .inr ⟨r,z,rfl,g,u,rfl,rfl,rfl⟩
theorem WK.filter (l:List Rq) (p:Rq->Bool):WK l (l.filter p):=λr z g u=> .inr ⟨r,(zEi.1 z).1,rfl,g,u,rfl,rfl,rfl⟩
theorem WK.trans {a b c:List Rq} (h1:WK a b) (h2:WK b c):WK a c:=λr z g u=>by
 rcases h2 r z g u with h|⟨r1,hr1,e1,g1,hg1,a1,a2,a3⟩
 .exact .inl h
 .rcases h1 r1 hr1 g1 hg1 with h|⟨r0,hr0,e0,g0,hg0,b1,b2,b3⟩
  .exact .inl (a3▸h)
  .exact .inr ⟨r0,hr0,e0.trans e1,g0,hg0,b1.trans a1,b2.trans a2,b3.trans a3⟩
structure My (c:Cf) (d:wC) (s:Int) (i:It) (f4:Int) (h:Hd):Prop where
 inv:qD c h.d
 ag:h.d.rg.ag=d.rg.ag
 num:h.d.rg.num=d.rg.num
 no:h.e≠0->h.k= -1/\h.p=gH i.kind h.e/\(h.d=d\/∃a,Xq d i f4 a/\h.d=rb d i f4 a)
 yes:h.e=0->∃a,Xq d i f4 a/\RpF d i f4 a h
 rst:h.k= -1\/(i.kind=11/\0<=h.k/\h.k<(c.js.length:Int))
 dl:h.d.dr.length<=d.dr.length
 t0:Ya d h.d
 eb:0<=i.code/\i.code<=100->0<=h.e/\h.e<=100
 ax:∀k:Nat,(k:Int)≠s->h.d.au[k]? =d.au[k]?
 sc:WK d.rq h.d.rq
theorem RW {r:Rg} {m:Ms} (h:zg r m f4=0):Rp r m f4=⟨r.num,r.ag,r.tk,r.vh,if TU m.kind=true then RG r.bk else r.bk⟩/\IO r.tk r.num m.tok m.kind f4=true/\(TU m.kind=true->0<r.bk.level)/\Vy r m f4=m.tok.getD 1 dd:=by
 have h1:IO r.tk r.num m.tok m.kind f4=true:=by
  grind [zg,Rp,TU,RG,IO,Vy]
 refine⟨?_,h1,λhk=>?_,by rw[Vy,zAs h]⟩
 .rw[Rp,zAs h]
  split<;>rfl
 all_goals grind [zg,Rp,TU,RG,IO,Vy]
theorem Ly (u:qD c d) (h:Xq d i f4 a):qD c (rb d i f4 a):=by
 obtain⟨h1,_,z,_⟩:=RW h.2.2.2.2;unfold rb wL;rw[h1];have hl:=u.bl;refine⟨⟨u.b.tk,u.b.s,u.b.l,u.b.v⟩,u.v,u.q,u.lg,u.a,u.n,u.t8,?_,?_,?_,u.au,u.dn,u.dr,u.vh⟩
 .dsimp only;split
  .unfold RG;split
   all_goals exact u.br
  .exact u.br
 .dsimp only;split
  .unfold RG;split
   all_goals exact u.bb
  .exact u.bb
 all_goals grind [Xq,rb,RG]
def LJ (h:Xq d i f4 a) (hk:i.kind=1\/9<=i.kind):rb d i f4 a=d:=by
 obtain⟨h1,_,_,_⟩:=RW h.2.2.2.2;unfold rb wL;rw[h1,Os (λh=>by unfold TU at h;rw[zAz]at h;dsimp only at h;omega)]
def Wq {u:Int} {e:Int} (h:e≠0):Ry u d p k e=⟨d,gH u e,-1,e⟩:=Os h
def mg {u:Int} :Ry u d p k 0=⟨d,p,k,0⟩:=zAs Z
def Wa {s:Int} (z:qD c d) {e:Int} (C:e≠0) (p:Ms) (u:wC) (hd:u=d\/∃a,Xq d i f4 a/\u=rb d i f4 a)
 (h1:zN 224 [wH c,zM d,iA s,vO i,iA f4] [] (hT u p (-1) e) []) (h2:Fd c d s f4 i ⟨u,gH i.kind e,-1,e⟩) (A:0<=i.code/\i.code<=100->0<=e/\e<=100:=by(intro _;omega)):∃h,RV c d s i f4 h/\My c d s i f4 h:=by
 have hi:qD c u/\u.rg.ag=d.rg.ag/\u.rg.num=d.rg.num/\u.dr=d.dr/\u.rg.tk=d.rg.tk:=by
  rcases hd with rfl|⟨a,ho,rfl⟩
  .exact⟨z,rfl,rfl,rfl,rfl⟩
  .refine⟨Ly z ho,?_,?_,?_,?_⟩<;>(unfold rb wL;rw[(RW ho.2.2.2.2).1])
 have B:=Qy c d s f4 i z.bd u p (-1) e h1;rw[Wq C,hi.2.2.1]at B;exact⟨⟨u,gH i.kind e,-1,e⟩,⟨B,h2⟩,hi.1,hi.2.1,hi.2.2.1,λ_=>⟨rfl,rfl,hd⟩,λh=>absurd h C,.inl Z,by rw[hi.2.2.2.1];exact zAy _,T0.of hi.2.2.2.2 (by rcases hd with h|⟨a,_,h⟩<;>rw[h];rfl),A,λ_ _=>by rw[show u.au=d.au by rcases hd with h|⟨a,_,h⟩<;>rw[h];rfl],by dsimp only;rw[show u.rq=d.rq by rcases hd with h|⟨a,_,h⟩<;>rw[h];rfl];exact WK.refl _⟩
def E4 {s:Int} (I:qD c d) (a:List Int) (M:Xq d i f4 a) (p:Ms) (k:Int) (u:wC) (hi:qD c u) (L:u.rg.ag=d.rg.ag) (G:u.rg.num=d.rg.num)
 (O:RpF d i f4 a ⟨u,p,k,0⟩) (hk:k= -1\/(i.kind=11/\0<=k/\k<(ln c.js:Int))) (A:ln u.dr<=ln d.dr) (C:Ya d u)
 (h1:zN 224 [wH c,zM d,iA s,vO i,iA f4] [] (hT u p k 0) []) (h2:Fd c d s f4 i ⟨u,p,k,0⟩) (z:u.au=d.au) (B:WK d.rq u.rq):∃h,RV c d s i f4 h/\My c d s i f4 h:=by
 have E:=Qy c d s f4 i I.bd u p k 0 h1;rw[mg,G]at E;exact⟨⟨u,p,k,0⟩,⟨E,h2⟩,hi,L,G,λh=>absurd Z h,λ_=>⟨a,M,O⟩,hk,A,C,λ_=>by dsimp only;omega,λ_ _=>by dsimp only;rw[z],B⟩
theorem Vq:∀{qs:List Qd} {q:Qd},q∈qs->q.j∈bF qs/\q.p∈bF qs/\q.f∈bF qs/\q.t∈bF qs
 |x::l,q,h=>by
  rw[show bF (x::l)=x.j::x.p::x.f::x.t::bF l from Z]
  rcases zCh.1 h with rfl|h
  .simp
  .obtain⟨h1,h2,u,z⟩:=Vq h;simp[h1,h2,u,z]
theorem Ed {α β γ:Type} {f:α->β->γ}:∀{a:List α} {b:List β} {g:γ},g∈a.zipWith f b->∃x∈a,∃y,g=f x y
 |x::a,y::b,g,h=>by
  rw[zD6]at h
  rcases zCh.1 h with rfl|h
  .exact⟨x,by simp,y,rfl⟩
  .obtain⟨z,u,w,e⟩:=Ed h;exact⟨z,by simp[u],w,e⟩
 | [],_,_,h=>by simp at h
 |_::_,[],_,h=>by simp at h
theorem Uq (l:List Rq) (r:Rq):(gX l r).length=ln l+1:=by grind [gX]
theorem D4 {j p f t:Int} (h:EO j p f t f4=true):(GZ j p f t f4).jn=j/\(GZ j p f t f4).ph=p:=by grind [EO,GZ]
theorem b8 (h:qs.all (aR c f4)=true):∀g∈qs.map (XR f4),g.jn<(ln c.js:Int)/\g.ph<((c.js.getD g.jn.toNat dd).ph.length:Int):=by
 intro g u;rw[zCb]at u;obtain⟨q,A,rfl⟩:=u;have h1:=zA7.1 h q A;unfold aR at h1;simp only[zA4,zAz]at h1;obtain⟨h2,C,z⟩:=h1;obtain⟨e1,B⟩:=D4 z
 grind [aR,XR]
theorem zAh {l:List Rq} {q id:Int} {x:List Lg} (h:QW l q id life x=0):(ln l:Int)<q/\(ln l:Int)<4:=by grind [QW]
theorem zAi {id:Int} (h:va c d cls id v life f4 qs=0):ya (dG d.rg.vh v)=true/\qs.all (aR c f4)=true/\QW d.rq d.rg.ag.req id life (qs.map (XR f4))=0:=by grind [va,ya,dG,aR,QW,XR,Cr]
def zAj (u:qD c d) {id:Int} (E:0<=f4) (G:f4<=1073741824) (h:va c d cls id v life f4 qs=0):qD c (Df d (vp c d cls id v life f4 qs)):=by
 obtain⟨hv,C,B⟩:=zAi h;unfold ya at hv;rw[zAz]at hv;have hl:=zAh B;unfold Df vp;rw[zAs h];refine⟨u.b,J3 u.v B hv.1.1 hv.1.2 hv.2.1 hv.2.2 E G,?_,λr z g A=>?_,u.a,u.n,u.t8,u.br,u.bb,u.bl,u.au,u.dn,u.dr,u.vh⟩
 .dsimp only;rw[Uq];omega
 .rcases LF z with rfl|z
  .exact b8 C g A
  .exact u.lg r z g A
def zAk (u:qD c d) {id:Int} {C:List (Int×Int)} (h:fP d.rq id C f4=0):qD c (Df d (Yy d.rq id C f4)):=by
 unfold Df Yy;rw[zAs h];have hl:(ZV d.rq id C f4).length=ln d.rq:=by unfold ZV;rw[zAt]
 refine⟨u.b,F3 u.v h,?_,λr A g B=>?_,u.a,u.n,u.t8,u.br,u.bb,u.bl,u.au,u.dn,u.dr,u.vh⟩
 .dsimp only;rw[hl];exact u.q
 .dsimp only at A;unfold ZV at A;rw[zCb]at A;obtain⟨E,z,rfl⟩:=A;split at B
  .obtain⟨x,G,y,rfl⟩:=Ed B;exact u.lg E z x G
  .exact u.lg E z g B
theorem p8 (u:qD c d) (p:Rq->Bool):qD c (Df d (d.rq.filter p)):=by
 have hl:=zCj p d.rq;have B:=u.q;refine⟨u.b,u.v.filter p,?_,λr A g z=>u.lg r ((zEi.1 A).1) g z,u.a,u.n,u.t8,u.br,u.bb,u.bl,u.au,u.dn,u.dr,u.vh⟩
 grind [Df]
theorem o8 {id:Int} (h:va c d cls id v life f4 qs=0):WK d.rq (vp c d cls id v life f4 qs):=by
 unfold vp;rw[zAs h];intro r u g z
 rcases LF u with rfl|u
 .refine .inl ?_;obtain⟨q,A,rfl⟩:=zCb.1 z
  grind [va,WK,vp,aR,XR,GZ]
 all_goals grind
theorem m8 {id:Int} {B:List (Int×Int)} (h:fP d.rq id B f4=0):WK d.rq (Yy d.rq id B f4):=by
 unfold Yy;rw[zAs h];intro r u g A;unfold ZV at u;rw[zCb]at u;obtain⟨E,z,rfl⟩:=u;split at A
 .obtain⟨x,C,y,rfl⟩:=Ed A;exact .inr ⟨E,z,by split<;>rfl,x,C,rfl,rfl,rfl⟩
 all_goals grind
def l8 (d:wC) (m:Ms) (z:Rg) (u:Bool):WK d.rq (Dd d m z u 0).rq:=by
 unfold Dd;rw[zAs Z];dsimp only;split
 .exact WK.filter _ _
 .exact WK.refl _
theorem zAl (z:qD c d) {m:Ms} {I:List Int} {C:Rg} {u:Bool} (hb:GW C) (L:DoP d.rg m I C p u 0):qD c (Dd d m C u 0)/\(Dd d m C u 0).rg.ag=d.rg.ag/\(Dd d m C u 0).rg.num=d.rg.num/\(Dd d m C u 0).dr.length<=ln d.dr/\Ya d (Dd d m C u 0):=by
 have B:(if u=true then d.dr.drop 1 else d.dr).length<=1000/\∀x∈(if u=true then d.dr.drop 1 else d.dr),ln x=8/\BY x:=by
  split
  .exact⟨by have:=z.dn;rw[zBr];omega,λx M=>z.dr x (zB1 M)⟩
  .exact⟨z.dn,z.dr⟩
 have A:cJ (if m.kind=5 then TG d.rq (m.args.getD 0 0)else d.rq)/\((if m.kind=5 then TG d.rq (m.args.getD 0 0)else d.rq).length:Int)<=d.rg.ag.req/\d8 c (if m.kind=5 then TG d.rq (m.args.getD 0 0)else d.rq):=by
  split
  .have h:=p8 z (λx=>x.vh != m.args.getD 0 0);exact⟨h.v,h.q,h.lg⟩
  .exact⟨z.v,z.q,z.lg⟩
 have E:(if u=true then d.dr.drop 1 else d.dr).length<=ln d.dr:=by
  grind
 unfold Dd;rw[zAs Z]
 rcases L.2 Z with⟨o,G,hT,rfl,_⟩|⟨o,G,rfl,_⟩
 .refine⟨⟨hb,A.1,A.2.1,A.2.2,z.a,z.n,G,z.br,z.bb,z.bl,z.au,B.1,B.2,z.vh⟩,rfl,rfl,E,λh=>⟨hT h,rfl⟩⟩
 .exact⟨⟨hb,A.1,A.2.1,A.2.2,z.a,z.n,z.t8,z.br,z.bb,z.bl,z.au,B.1,B.2,G⟩,rfl,rfl,E,Ya.refl _⟩
theorem C4 (u:Xq d i f4 a):(rb d i f4 a).rg.ag=d.rg.ag/\(rb d i f4 a).rg.num=d.rg.num/\(rb d i f4 a).rg.tk=d.rg.tk/\(rb d i f4 a).rq=d.rq/\(rb d i f4 a).dr=d.dr/\(rb d i f4 a).au=d.au:=by grind [Xq,rb,wL,RW]
theorem tg {l:List Tk} {g:Int} {b:List Int} (h:IO l g b k f4=true):jY l (b.getD 1 dd)=true:=by grind [IO,jY]
theorem zAm (r:Rg) (m:Ms) (f4:Int):0<=zg r m f4/\zg r m f4<=100:=by grind [zg]
theorem s8 (c:Cf) (d:wC) (cls id v life f4:Int) (qs:List Qd):0<=va c d cls id v life f4 qs/\va c d cls id v life f4 qs<=100:=by grind [va,Cr,QW]
theorem Z8 (l:List Rq) (id:Int) (u:List (Int×Int)) (f4:Int):0<=fP l id u f4/\fP l id u f4<=100:=by grind [fP]
def Y8 (h:O2 d.rg.tk) (z:Xq d i f4 a):i.kind≠10:=λhk=>by
 have h1:=(RW z.2.2.2.2).2.1;have h2:=tg h1;unfold IO at h1;dsimp only at h1;rw[hk]at h1;simp only[zA4]at h1;unfold jY at h2;rw[zA4,zAz]at h2;dsimp only at h2;have u:=h _ (yK d.rg.tk _ (show((i.pay.take 10).getD 1 dd).toNat<ln d.rg.tk by have:=h2.1;omega)) h2.2;rw[show mj (Vi d.rg.tk (i.pay.take 10)).rights 10=false from u]at h1;exact absurd h1.2.2 zA9
theorem Mi (c:Cf) (d:wC) (S:qD c d) (s f4:Int) (n0:0<=f4) (n1:f4<=1073741824) (i:It) (a3:BY i.pay) (a6:ln i.pay<=100000):∃h,RV c d s i f4 h/\My c d s i f4 h:=by
 by_cases hc:i.code=0
 case neg=>exact Wa S hc OL d (.inl Z) (Rw c d s f4 i hc) (fw c d s f4 S.bd i hc) id
 by_cases hk:1<=i.kind/\i.kind<=12
 case neg=>exact Wa S yY OL d (.inl Z) (Qw c d s f4 i hc hk) (dw c d s f4 S.bd i hc hk)
 obtain⟨W,h1⟩:=hk;have Y:=Hm i.kind W h1 i.pay a3 a6;have r2:=Zi i.kind W h1 i.pay a3 a6;have a1:i=⟨0,i.kind,i.pay⟩:=by cases i;simp_all
 cases hd:MF (vU i.kind) (wE i.kind) i.pay with
 |none=>
  rw[hd]at Y r2;have q1:=Ow c d s f4 i.kind i.pay W h1 Y;have M:=bw c d s f4 S.bd i.kind i.pay W h1 r2;rw[<-a1]at q1 M;exact Wa S yY OL d (.inl Z) q1 M
 |some I=>
 rw[hd]at Y r2;obtain⟨_,ck,hv,ap,bx⟩:=lw a3 hd;have bu:BY (i.pay.take 10):=λx hx=>a3 x (zCr hx)
 have bz:d.rg.bk.level<=1000000:=by have:=S.bl;have:=S.a.b;omega
 have k3:=o4 d.rg ⟨i.kind,i.pay.take 10,I,[]⟩ f4 S.b bu bz;have r3:=pw d.rg ⟨i.kind,i.pay.take 10,I,[]⟩ f4 S.b bu bz;by_cases ho:zg d.rg ⟨i.kind,i.pay.take 10,I,[]⟩ f4=0
 case neg=>
  have q1:=Nw c d s f4 i.kind i.pay (i.pay.take 10) I W h1 Y _ _ _ ho k3;have M:=aw c d s f4 S.bd i.kind i.pay (i.pay.take 10) I W h1 r2 _ _ _ ho r3;rw[<-a1]at q1 M;exact Wa S ho OL d (.inl Z) q1 M (λ_=>zAm _ _ _)
 have hO:Xq d i f4 I:=⟨hc,W,h1,hd,ho⟩;obtain⟨_,b6,_,b1⟩:=RW ho;rw[ho,b1]at k3 r3;have a5:=tg b6;dsimp only at b1 a5;generalize (i.pay.take 10).getD 1 dd=E at *;have z:=Ly S hO;obtain⟨ea,en,et,eq,er,eu⟩:=C4 hO
 have a4:0<=E/\E<(ln d.rg.tk:Int):=by
  unfold jY at a5;rw[zA4,zAz]at a5;exact a5.1
 have az:rb d i f4 I=wL d (Rp d.rg ⟨i.kind,i.pay.take 10,I,[]⟩ f4):=rfl;generalize Rp d.rg ⟨i.kind,i.pay.take 10,I,[]⟩ f4=B at *;have tl:(i.pay.take 10).length<=1000:=by rw[zBi];omega
 have NO:∀(e:Int),e≠0->0<=e/\e<=100->∀(p p2:Ms) (ba:Int),zN 224 [wH c,zM d,iA s,vO ⟨0,i.kind,i.pay⟩,iA f4] [] (hT (wL d B) p (-1) e) []->
   zN 193 [wH c,zM (wL d B),iA s,zX ⟨i.kind,i.pay.take 10,I,[]⟩,iA E,iA f4] [] (hT (wL d B) p2 ba e) []->∃h,RV c d s i f4 h/\My c d s i f4 h:=by
  intro e G cd p p2 ba q1 M;have q3:=Py c d s f4 S.bd i.kind i.pay _ I W h1 r2 B E r3 (wL d B) (az▸z.bd) p2 ba e M;rw[Wq G]at q3;rw[<-a1]at q1 q3;exact Wa S G p _ (.inr ⟨I,hO,az.symm⟩) q1 q3 (λ_=>cd)
 have ac:∀(d':wC) (p:Ms) (k:Int),qD c d'->d'.rg.ag=d.rg.ag->d'.rg.num=d.rg.num->RpF d i f4 I ⟨d',p,k,0⟩->(k= -1\/(i.kind=11/\0<=k/\k<(ln c.js:Int)))->ln d'.dr<=ln d.dr->Ya d d'->zN 224 [wH c,zM d,iA s,vO ⟨0,i.kind,i.pay⟩,iA f4] [] (hT d' p k 0) []->
   zN 193 [wH c,zM (wL d B),iA s,zX ⟨i.kind,i.pay.take 10,I,[]⟩,iA E,iA f4] [] (hT d' p k 0) []->d'.au=d.au->WK d.rq d'.rq->∃h,RV c d s i f4 h/\My c d s i f4 h:=by
  intro d' p k hi ha hn hr hk cb ci q1 M b5 ch;have q3:=Py c d s f4 S.bd i.kind i.pay _ I W h1 r2 B E r3 d' hi.bd p k 0 M;rw[mg]at q3;rw[<-a1]at q1 q3;exact E4 S I hO p k d' hi ha hn hr hk cb ci q1 q3 b5 ch
 rw[az]at z ea en et eq er eu;have cl:wE i.kind=0\/wE i.kind≠0:=by omega
 have b7:i.kind=1\/(i.kind=2\/i.kind=3\/i.kind=4\/i.kind=5)\/i.kind=6\/i.kind=7\/i.kind=8\/i.kind=9\/i.kind=10\/i.kind=11\/i.kind=12:=by omega
 rcases b7 with hk|hk|hk|hk|hk|hk|hk|hk|hk
 ·
  have ax:I=[]:=zBv (by rw[ap JM,hk];rfl);subst ax;have A:=LJ hO (.inl hk);rw[az]at A;rw[A]at z;have q1:=EE c d s f4 i.kind i.pay _ [] W h1 Y B E k3 (.inl hk) (RP d f4) (by rw[A,hk];exact za d f4);have M:=Tq c d s f4 (i.pay.take 10) E;rw[A]at q1;refine ac d _ _ z Z Z (.inl ⟨hk,rfl,rfl⟩) (.inl Z) (zAy _) (Ya.refl _) q1 ?_ Z (WK.refl _);rw[A,hk];exact M
 ·
  obtain⟨a,L,O⟩:∃a L,I=a::L:=by
   cases I with
   |nil=>exfalso;have:=ap Qx;rcases hk with hk|hk|hk|hk<;>rw[hk]at this<;>cases this
   |cons a L=>exact⟨a,L,rfl⟩
  have ax:ln I<=1000:=by have:=ap Qx;have:=FS i.kind;omega
  have hm:A2 ⟨i.kind,i.pay.take 10,I,[]⟩:=⟨tl,ax,zBb _⟩
  have b0:(LM (wL d B)).length<=1000:=by
   unfold LM wL;dsimp only
   cases a8:d.dr with
   |nil=>simp
   |cons b bs=>have:=(S.dr b (by rw[a8];simp)).1;simp;omega
  have cg:BY (LM (wL d B)):=by
   unfold LM wL;dsimp only
   cases a8:d.dr with
   |nil=>exact λx hx=>by cases hx
   |cons b bs=>exact(S.dr b (by rw[a8];simp)).2
  have cj:ln B.vh<=1000:=by have:=z.vh;exact zBx this zB
  obtain⟨r',p,u,e,cf,cm,hP,f1,f2⟩:=Hw B cj ⟨i.kind,i.pay.take 10,I,[]⟩ hm E f4 (LM (wL d B)) b0
  have h5:i.kind=5->∃a,I=[a]:=λh=>by
   have h9:=ap (by rw[h];rfl);rw[h]at h9;exact Iq h9
  have q1:=v5 (wL d B) ⟨i.kind,i.pay.take 10,I,[]⟩ E f4 z.v z.dn r' p u e f1 h5
  have hu:u=true->(wL d B).dr≠[]:=λhu h9=>by
   have G:e=0:=by
    by_cases G:e=0
    .exact G
    .rw[(hP.1 G).1]at hu;cases hu
   have b2:LM (wL d B)=[]:=by unfold LM;rw[h9];rfl
   rcases hP.2 G with⟨o,_,_,_,V|V⟩|⟨o,_,_,V,_⟩
   .rw[V.1]at hu;cases hu
   .rw[b2]at V;exact absurd V.2.1 yY
   .rw[V]at hu;cases hu
  have M:=Sw (wL d B) ⟨i.kind,i.pay.take 10,I,[]⟩ E f4 z.v z.dn r' p u e f2 h5 hu;have U:=u5 c d s f4 i.kind i.pay _ I W h1 Y B E k3 hk _ _ e q1;have w2:=B4 c (wL d B) s f4 (i.pay.take 10) E i.kind I a L O hk _ p e M;by_cases G:e=0
  .subst G;rw[zAs Z]at U;obtain⟨hi,ha,hn,b9,ca⟩:=zAl (m:=⟨i.kind,i.pay.take 10,I,[]⟩) z cf hP;have C:0<=a/\a<=4294967295:=hv a (by rw[O];simp);refine ac _ p (-1) hi (ha.trans ea) (hn.trans en) ?_ (.inl Z) b9 ((T0.of et eu).trans ca) U w2 (by unfold Dd;rw[zAs Z];rfl) (l8 (wL d B) _ r' u)
   rcases hP.2 Z with⟨o,_,_,_,V|V⟩|⟨o,_,_,_,V,av⟩
   .obtain⟨_,av,a2⟩:=V;dsimp only at a2 av;exact .inr (.inr (.inr (.inr ⟨zB,a,C.1,C.2,by rw[av,O,a2];rfl⟩)))
   .obtain⟨_,av,a2,k,b3,b4⟩:=V;have a7:B.num=d.rg.num:=en;exact .inr (.inr (.inr (.inl ⟨a2,k,_,b3,⟨av,cg⟩,by rw[b4,a7]⟩)))
   .dsimp only at V av;exact .inr (.inr (.inr (.inr ⟨zB,a,C.1,C.2,by rw[av,O];rfl⟩)))
  .have e1:Dd (wL d B) ⟨i.kind,i.pay.take 10,I,[]⟩ r' u e=wL d B:=by unfold Dd;rw[Os G]
   rw[e1]at U w2;exact NO e G (hP.1 G).2 _ _ _ U w2
 ·
  obtain⟨cc,c1,c3,hl⟩:=bx (by rw[hk];decide);rw[hk,show vU 6=3 from Z,show wE 6=4 from Z]at hl
  obtain⟨id,v,life,L,O⟩:∃id v life L,I=id::v::life::L:=by
   match I,hl with
   |id::v::life::L,_=>exact⟨id,v,life,L,rfl⟩
   | [],h=>simp at h;omega
   | [_],h=>simp at h;omega
   | [_,_],h=>simp at h;omega
  subst O;obtain⟨qs,a9,ce⟩:=Oy cc L (by simp only[zA8]at hl;omega);subst a9
  have hp:∀q∈qs,0<=q.j/\0<=q.p:=λq hq=>by
   obtain⟨m1,m2,_⟩:=Vq hq;exact⟨(hv q.j (by simp[m1])).1,(hv q.p (by simp[m2])).1⟩
  have C:=hv id zV;have s1:E<((wL d B).rg.tk.length:Int):=by rw[et];exact a4.2
  have q1:=U3 c (wL d B) (i.pay.take 10) id v life E f4 qs z.bd z.v a4.1 s1 zB hp n0 n1;have M:=Xd c (wL d B) 6 (i.pay.take 10) id v life ((wL d B).rg.tk.getD E.toNat dd).cls f4 qs z.bd z.v zB hp n0 n1;by_cases G:va c (wL d B) ((wL d B).rg.tk.getD E.toNat dd).cls id v life f4 qs=0
  .have hi:=zAj z n0 n1 G;rw[G]at q1;rw[zAs G,G]at M;have U:=ED c d s f4 i.kind i.pay _ _ W h1 Y B E k3 (.inl hk) id _ Z _ JN;have w2:=Sq c (wL d B) s f4 (i.pay.take 10) E _ id _ Z a4.1 s1 _ 0 M;refine ac _ (jD i.kind id) (-1) hi ea en (.inr (.inr (.inr (.inr ⟨zB,id,C.1,C.2,rfl⟩)))) (.inl Z) (zAy _) (T0.of et eu) U ?_ Z (o8 (d:=wL d B) G);rw[hk];exact w2
  .rw[Os G]at M;have U:=EC c d s f4 i.kind i.pay _ _ W h1 Y B E k3 (.inl hk) _ _ G JN;have w2:=Sq c (wL d B) s f4 (i.pay.take 10) E _ id _ Z a4.1 s1 _ _ M;exact NO _ G (by first|exact s8 _ _ _ _ _ _ _ _|exact Z8 _ _ _ _) _ _ _ U (by rw[hk];exact w2)
 ·
  obtain⟨cc,c1,c3,hl⟩:=bx (by rw[hk];decide);rw[hk,show vU 7=1 from Z,show wE 7=2 from Z]at hl
  obtain⟨id,L,O⟩:∃id L,I=id::L:=by
   match I,hl with
   |id::L,_=>exact⟨id,L,rfl⟩
   | [],h=>simp at h;omega
  subst O;obtain⟨ws,a9,ce⟩:=Ny cc L (by simp only[zA8]at hl;omega);subst a9;have C:=hv id zV;have q1:=W3 c (wL d B) (i.pay.take 10) id E f4 ws z.v zB n0 n1;have M:=V3 (wL d B) (i.pay.take 10) id f4 ws z.v zB n0 n1;by_cases G:fP (wL d B).rq id ws f4=0
  .have hi:=zAk z G;rw[G]at q1;rw[zAs G,G]at M;have U:=ED c d s f4 i.kind i.pay _ _ W h1 Y B E k3 (.inr (.inl hk)) id _ Z _ JN;have w2:=Qq c (wL d B) s f4 (i.pay.take 10) E _ id _ Z _ 0 M;refine ac _ (jD i.kind id) (-1) hi ea en (.inr (.inr (.inr (.inr ⟨zB,id,C.1,C.2,rfl⟩)))) (.inl Z) (zAy _) (T0.of et eu) U ?_ Z (m8 (d:=wL d B) G);rw[hk];exact w2
  .rw[Os G]at M;have U:=EC c d s f4 i.kind i.pay _ _ W h1 Y B E k3 (.inr (.inl hk)) _ _ G JN;have w2:=Qq c (wL d B) s f4 (i.pay.take 10) E _ id _ Z _ _ M;exact NO _ G (by first|exact s8 _ _ _ _ _ _ _ _|exact Z8 _ _ _ _) _ _ _ U (by rw[hk];exact w2)
 ·
  obtain⟨id,O⟩:=Iq (show (ln I)=1 by rw[ap JM,hk];rfl);subst O;have C:=hv id zV;have q1:=S3 c (wL d B) (i.pay.take 10) id E f4 z.v;have M:=A4 c (wL d B) s f4 (i.pay.take 10) E id _ _ (Fh (wL d B).rq id z.v);by_cases G:kU (wL d B).rq id=true
  .have hi:=p8 z (λx=>x.id != id);rw[zAs G,zAs G]at q1;rw[zAs G,zAs G,zAs Z]at M;have U:=ED c d s f4 i.kind i.pay _ _ W h1 Y B E k3 (.inr (.inr hk)) id [] Z _ JN;refine ac _ (jD i.kind id) (-1) hi ea en (.inr (.inr (.inr (.inr ⟨zB,id,C.1,C.2,rfl⟩)))) (.inl Z) (zAy _) (T0.of et eu) U ?_ Z (WK.filter _ _);rw[hk];exact M
  .rw[Os G,Os G]at q1;rw[Os G,Os G,Os yY]at M;have U:=EC c d s f4 i.kind i.pay _ _ W h1 Y B E k3 (.inr (.inr hk)) _ 12 yY JN;exact NO 12 yY yY _ _ _ U (by rw[hk];exact M)
 ·
  have ax:I=[]:=zBv (by rw[ap JM,hk];rfl);subst ax;have A:=LJ hO (.inr zB);rw[az]at A;rw[A]at z;have q1:=EE c d s f4 i.kind i.pay _ [] W h1 Y B E k3 (.inr (.inl hk)) (QF d) (by rw[A,hk];exact Zd d f4 S.bd);have M:=Ww c d s f4 (i.pay.take 10) E S.bd;rw[A]at q1;refine ac d _ _ z Z Z (.inr (.inl ⟨hk,rfl,rfl⟩)) (.inl Z) (zAy _) (Ya.refl _) q1 ?_ Z (WK.refl _);rw[A,hk];exact M
 ·
  obtain⟨a,O⟩:=Iq (show (ln I)=1 by rw[ap JM,hk];rfl);subst O;have C:=hv a zV;by_cases ha:1<a
  .have U:=Kw c d s f4 i.kind i.pay _ [a] W h1 Y B E k3 hk a Z ha;have w2:=Yw c (wL d B) s f4 (i.pay.take 10) E a ha;exact NO 8 yY yY _ _ _ U (by rw[hk];exact w2)
  by_cases hs:0<=s/\s<(ln d.au:Int)
  case neg=>
   have U:=Jw c d s f4 i.kind i.pay _ [a] W h1 Y B E k3 hk a Z zB hs;have w2:=Xw c (wL d B) s f4 (i.pay.take 10) E a zB (by rw[eu];exact hs);refine ac _ (jD 10 a) (-1) z ea en (.inr (.inr (.inr (.inr ⟨zB,a,C.1,C.2,by rw[hk]⟩)))) (.inl Z) (zAy _) (T0.of et eu) U ?_ Z (WK.refl _);rw[hk];exact w2
  rw[hk]at Y r2 k3 r3;have bf:qD c ⟨B,d.rq,d.dr,d.au.set s.toNat (a==1)⟩:=⟨z.b,z.v,z.q,z.lg,z.a,z.n,z.t8,z.br,z.bb,z.bl,by have:=z.au;dsimp only;rw[zB9];exact this,z.dn,z.dr,z.vh⟩;have U:=Uw c d s f4 i.pay (i.pay.take 10) a C.1 zB Y B E k3 hs;have w2:=Tw c (wL d B) s f4 (i.pay.take 10) E a C.1 zB (by rw[eu];exact hs);have q1:=G4 c d s f4 ⟨0,10,i.pay⟩ S.bd zB _ _ _ U;have M:=F4 c d s f4 S.bd 10 i.pay _ [a] yY yY r2 B E r3 _ bf.bd _ _ w2;have a7:B.num=d.rg.num:=en;rw[show(⟨B,d.rq,d.dr,d.au.set s.toNat (a==1)⟩:wC).rg.num=d.rg.num from a7]at q1;rw[<-hk,<-a1]at q1 M;exact⟨⟨⟨B,d.rq,d.dr,d.au.set s.toNat (a==1)⟩,jD i.kind a,-1,0⟩,⟨q1,M⟩,bf,ea,en,λh=>absurd Z h,λ_=>⟨[a],hO,.inr (.inr (.inr (.inr ⟨zB,a,C.1,C.2,rfl⟩)))⟩,.inl Z,zAy _,λh=>absurd (Y8 h hO) (λh9=>h9 hk),λ_=>by dsimp only;omega,λk hk'=>by show(d.au.set s.toNat (a==1))[k]? =_;rw[zFf zB],WK.refl _⟩
 ·
  obtain⟨a,O⟩:=Iq (show (ln I)=1 by rw[ap JM,hk];rfl);subst O;have C:=hv a zV;by_cases ha:a<(ln c.js:Int)
  .have U:=Lw c d s f4 i.kind i.pay _ [a] W h1 Y B E k3 hk a Z ha;have w2:=Zw c (wL d B) s f4 (i.pay.take 10) E a ha;refine ac _ (jD 11 a) a z ea en (.inr (.inr (.inr (.inr ⟨zB,a,C.1,C.2,by rw[hk]⟩)))) (.inr ⟨hk,C.1,ha⟩) (zAy _) (T0.of et eu) U ?_ Z (WK.refl _);rw[hk];exact w2
  .have U:=Mw c d s f4 i.kind i.pay _ [a] W h1 Y B E k3 hk a Z zB;have w2:=iw c (wL d B) s f4 (i.pay.take 10) E a zB;exact NO 8 yY yY _ _ _ U (by rw[hk];exact w2)
 ·
  have ax:I=[]:=zBv (by rw[ap JM,hk];rfl);subst ax;have A:=LJ hO (.inr zB);rw[az]at A;rw[A]at z;have cn:=S.a.q;have q1:=EE c d s f4 i.kind i.pay _ [] W h1 Y B E k3 (.inr (.inr hk)) (aA d) (by rw[A,hk];exact rd d 12 f4 yY yY S.bd zB zB);have M:=sw c d s f4 (i.pay.take 10) E (pv d S.bd zB zB);rw[A]at q1;refine ac d _ _ z Z Z (.inr (.inr (.inl ⟨hk,rfl,rfl⟩))) (.inl Z) (zAy _) (Ya.refl _) q1 ?_ Z (WK.refl _);rw[A,hk];exact M
