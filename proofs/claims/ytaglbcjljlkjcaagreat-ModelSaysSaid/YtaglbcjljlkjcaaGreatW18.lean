/- Part 18. -/
import Derived.Test.YtaglbcjljlkjcaaGreatW17
namespace Go.Proofs.YtaglbcjljlkjcaaGreat.Av
open Tryz
set_option linter.all false
set_option maxRecDepth 4000
set_option maxHeartbeats 4000000
open List renaming length->ln
open Inhabited renaming default->dd
variable {c:Cf}{cls k life f3 v:Int}{i:It}{a:List Int}{qs:List Qd}{p:Ms}{d:wC}
def gG (k e:Int):Ms:=⟨15,[],[k,e],[]⟩
def OG (a k e:Int):AV:= .agg [iA a,iA k,iA e]
structure Hd where
 d:wC
 p:Ms
 k:Int
 e:Int
def EQ (n u:Int) (h:Hd):AV:= .tup [zM h.d,zW h.p,OG n u h.e,iA h.k]
def PA (d:wC):AV:=xD d.rg (zE zY d.rq) (.ref 1005 0 (d.dr.map qQ).length) (zE bA d.au)
def kw (d:wC):xW:= .arr 1 (d.dr.map qQ) true
def Va (n u:Int) (h:Hd):AV:= .tup [PA h.d,zW h.p,OG n u h.e,iA h.k]
def fV (d:wC) (hb:dN d):zN 125 [zM d] [] (PA d) [(1005,kw d)]:=by
 have u:=eI d.rg hb.rg;have M:=fZ d.rq hb.q hb.g;have O:=hb.q;have A:=hb.n;have z:=hb.a;have E:=zA zY d.rq;have C:=zA qQ d.dr;have B:=zA bA d.au;unfold PA zM xD;unfold kw;unfold uQ at u;refine eM call125 λF hF=>?_
 refine RE (xV u M) ?_;refine zQ 4 1005 1 Z Z Z ?_;refine zU (d.dr) [1005,2,3] [2,3] [2,3,18,19] [4,20,2,3,18,19] Z (λi f4 T U=>⟨(4,.ref 1005 0 (f4.map qQ).length)::(20,iA i)::T,(1005,.arr 1 (f4.map qQ) true)::U⟩) (Lq ?_ ?_)
 .intro i f4 x post hx hi;have S:=yJ qQ hx hi;have G:=zX hx hi;have I:(f4.map qQ).length=i:=by rw[zAr,hi]
  have R:=hb.e x (xA hx);have L:=zA yA x;have e:(f4++[x]).map qQ=f4.map qQ++[qQ x]:=by simp
  clear hx;rw[e];generalize f4.map qQ=xs,d.dr.map qQ=V at *;refine WL ?_;rfl
 ·(refine WL ?_)
  exact zH [1005] Z Z Z Z
def Ed (c:Cf) (d:wC) (s f3:Int) (i:It) (h:Hd):Prop:=
 zN 131 [wE c,zM d,iA s,vH i,iA f3] [] (EQ d.rg.num i.kind h) []/\zN 131 [wE c,zM d,iA s,vH i,iA f3] [] (Va d.rg.num i.kind h) [(1005,kw h.d)]
def Ry (u:Int) (d:wC) (p:Ms) (k e:Int):Hd:=if e=0 then⟨d,p,k,0⟩else⟨d,gG u e,-1,e⟩
def Qy (c:Cf) (d:wC) (s f3:Int) (i:It) (hb:dN d) (u:wC) (p:Ms) (k e:Int) (z:zN 224 [wE c,zM d,iA s,vH i,iA f3] [] (hT u p k e) []):
  zN 176 [wE c,zM d,iA s,vH i,iA f3] [] (EQ u.rg.num i.kind (Ry i.kind u p k e)) []:=by
 have B:=MR d hb;unfold hT wE vH at z;unfold wE vH;unfold zM xD zW at *;by_cases A:e=0
 .subst A;unfold Ry EQ OG zM xD zW;rw[f5 Z];refine eM call176 λF hF=>?_
  exact nm (xV B z)
 .unfold Ry EQ OG gG zM xD zW;rw[Os A];refine eM call176 λF hF=>?_
  exact nm (xV B z)
def J4 (c:Cf) (d:wC) (s f3:Int) (i:It) (hb:dN d) (h1:1<=ln d.au) (u:wC) (p:Ms) (k:Int) (z:zN 224 [wE c,XT d,iA s,vH i,iA f3] [(1004,ER d.au)] (Ly u p k 0) [(1004,ER u.au)]):
  zN 176 [wE c,zM d,iA s,vH i,iA f3] [] (EQ u.rg.num i.kind ⟨u,p,k,0⟩) []:=by
 have A:=LD d hb h1;unfold Ly wE vH at z;unfold wE vH;unfold ER XT at *;unfold zM xD zW at *;unfold EQ OG zM xD zW;refine eM call176 λF hF=>?_
 refine RE (xV A z) ?_;refine zH [] Z Z ?_ Z
 show AV.tup [xD u.rg (zE zY u.rq) (zE qQ u.dr) (.sl false ((u.au.map bA).take (u.au.map bA).length)),zW p,OG u.rg.num i.kind 0,iA k]=_
 rw[zAt];rfl
section
variable (c:Cf) (d:wC) (s f3:Int) (hb:dN d)
include hb
def jw (i:It) (hc:i.code≠0):Ed c d s f3 i ⟨d,gG i.kind i.code,-1,i.code⟩:=by
 have z:=fV d hb;have u:=kN d hb;unfold Ed wE EQ Va gG OG vH zM PA kw xD zW at *;refine⟨?_,?_⟩
 ·(refine eM call131 λF hF=>?_)
  exact oj u
 ·(refine eM call131 λF hF=>?_)
  refine WDo u ?_;refine WH z ?_;exact zH [1005] Z Z Z Z
def fw (i:It) (hc:i.code=0) (hk:¬(1<=i.kind/\i.kind<=12)):Ed c d s f3 i ⟨d,gG i.kind 5,-1,5⟩:=by
 have A:=fV d hb;have z:=kN d hb;have u:=cV i.kind;rw[zAs hk]at u;obtain⟨B,C,E⟩:=i;dsimp only at *;subst hc;unfold Ed wE EQ Va gG OG vH zM PA kw xD zW at *;refine⟨?_,?_⟩
 ·(refine eM call131 λF hF=>?_)
  exact nm (xV z u)
 ·(refine eM call131 λF hF=>?_)
  refine I1 (xV z u) ?_;refine WH A ?_;exact zH [1005] Z Z Z Z
def dw (k:Int) (A:List Int) (C:1<=k) (h1:k<=12) (z:zN 191 [iA k,zE yA A] [] (B5 k (A.take 10) none) []):Ed c d s f3 ⟨0,k,A⟩ ⟨d,gG k 6,-1,6⟩:=by
 have E:=fV d hb;have B:=kN d hb;have u:=cV k;rw[zAu ⟨C,h1⟩]at u;unfold B5 zW at z;unfold Ed wE EQ Va gG OG vH zM PA kw xD zW at *;refine⟨?_,?_⟩
 ·(refine eM call131 λF hF=>?_)
  exact nm (qM B u z)
 ·(refine eM call131 λF hF=>?_)
  refine I1 (qM B u z) ?_;refine WH E ?_;exact zH [1005] Z Z Z Z
variable (k:Int) (pa tk0 ar:List Int) (h0:1<=k) (h1:k<=12) (k3:zN 191 [iA k,zE yA pa] [] (.tup [zW ⟨k,tk0,ar,[]⟩,iA 0]) [])
include h0 h1 k3
def bw (r:Rg) (C e:Int) (E:e≠0) (z:zN 192 [uQ d.rg,zW ⟨k,tk0,ar,[]⟩,iA f3] [] (.tup [uQ r,iA C,iA e]) []):
  Ed c d s f3 ⟨0,k,pa⟩ ⟨d,gG k e,-1,e⟩:=by
 have B:=fV d hb;have A:=kN d hb;have u:=cV k;rw[zAu ⟨h0,h1⟩]at u;unfold uQ at z;unfold Ed wE EQ Va gG OG vH zM PA kw xD zW at *;refine⟨?_,?_⟩
 ·(refine eM call131 λF hF=>?_)
  exact nm (cD A u k3 z)
 ·(refine eM call131 λF hF=>?_)
  refine I1 (cD A u k3 z) ?_;refine WH B ?_;exact zH [1005] Z Z Z Z
def Py (r:Rg) (O:Int) (B:zN 192 [uQ d.rg,zW ⟨k,tk0,ar,[]⟩,iA f3] [] (.tup [uQ r,iA O,iA 0]) []) (u:wC) (z:dN u) (p:Ms) (M e:Int)
  (C:zN 193 [wE c,zM (wL d r),iA s,zW ⟨k,tk0,ar,[]⟩,iA O,iA f3] [] (hT u p M e) []):
  Ed c d s f3 ⟨0,k,pa⟩ (Ry k u p M e):=by
 have L:=fV u z;have E:=kN d hb;have I:=kN u z;have A:=cV k;rw[zAu ⟨h0,h1⟩]at A;unfold uQ at B;unfold hT wL at C;unfold Ed wE vH zM PA kw xD zW at *;by_cases G:e=0
 .subst G;unfold Ry EQ Va OG zM PA xD zW;rw[f5 Z];refine⟨?_,?_⟩
  ·(refine eM call131 λF hF=>?_)
   exact nm (mb E A k3 B C I)
  ·(refine eM call131 λF hF=>?_)
   refine I1 (MG E A k3 B C) ?_;refine WH L ?_;exact zH [1005] Z Z Z Z
 .unfold Ry EQ Va OG gG zM PA xD zW;rw[Os G];refine⟨?_,?_⟩
  ·(refine eM call131 λF hF=>?_)
   exact nm (mb E A k3 B C I)
  ·(refine eM call131 λF hF=>?_)
   refine I1 (MG E A k3 B C) ?_;refine WH L ?_;exact zH [1005] Z Z Z Z
def G4 (r:Rg) (I:Int) (B:zN 192 [uQ d.rg,zW ⟨k,tk0,ar,[]⟩,iA f3] [] (.tup [uQ r,iA I,iA 0]) []) (u:wC) (z:dN u) (p:Ms) (G:Int)
  (C:zN 193 [wE c,XT (wL d r),iA s,zW ⟨k,tk0,ar,[]⟩,iA I,iA f3] [(1004,ER d.au)] (Ly u p G 0) [(1004,ER u.au)]):
  Ed c d s f3 ⟨0,k,pa⟩ ⟨u,p,G,0⟩:=by
 have M:=fV u z;have E:=LE d hb;have L:=kN u z;have A:=cV k;rw[zAu ⟨h0,h1⟩]at A;unfold uQ at B;unfold Ly wL at C;unfold ER XT at *;unfold Ed wE vH zM PA kw xD zW at *;unfold EQ Va OG zM PA xD zW;refine⟨?_,?_⟩
 ·(refine eM call131 λF hF=>?_)
  refine I1 (MG E A k3 B C) ?_;refine wI [5,6,8,10,11,12,14,17] [5,6,8,10,11,12,13,14,15,16,17] Z ?_
  (conv=>whnf)
  simp only[zBd,zAt];exact oj L
 ·(refine eM call131 λF hF=>?_)
  refine I1 (MG E A k3 B C) ?_;refine wI [5,6,8,10,11,12,14,17] [5,6,8,10,11,12,13,14,15,16,17] Z ?_
  (conv=>whnf)
  simp only[zBd,zAt];refine WH M ?_;exact zH [1005] Z Z Z Z
end
def oq (l:List Tk) (hn:ln l<=1000000) (g:Int) (b:List Int) (k f3:Int) (hb:BY b):zN 240 [zE yP l,iA g,zE yA b,iA k,iA f3] [] (.tup [iA (if IH l g b k f3=true then b.getD 1 dd else 0),iA (if IH l g b k f3=true then 0 else 9)]) []:=by
 have U:=zA yA b;have V:=zA yP l;by_cases h1:(ln b:Int)=10
 case neg=>
  have e:IH l g b k f3=false:=by unfold IH;rw[zAs (λh=>h1 h.1)];rfl
  rw[e];refine eM call240 λF hF=>?_
  exact ly
 have C:=yE yA b 0 zB zB;have E:=yE yA b 1 zB zB;have b0:0<=b.getD 0 dd/\b.getD 0 dd<256:=hb _ Re;have G:0<=b.getD 1 dd/\b.getD 1 dd<256:=hb _ Re
 change (b.map yA)[0]? =some (yA (b.getD 0 dd))at C
 change (b.map yA)[1]? =some (yA (b.getD 1 dd))at E
 unfold IH Wi;generalize b.getD 0 dd=Y,b.getD 1 dd=A at *;by_cases h2:Y=g
 case neg=>
  rw[zAs (λh=>h2 h.2)];refine eM call240 λF hF=>?_
  exact ly
 rw[zAu ⟨h1,h2⟩];by_cases R:A<ln l
 case neg=>
  have z:jW l A=false:=by unfold jW;rw[zAs zB];rfl
  rw[z];refine eM call240 λF hF=>?_
  exact ly
 have z:jW l A=(l.getD A.toNat dd).used:=by unfold jW;rw[zAu ⟨G.1,R⟩,zA3]
 rw[z];have u:=yE yP l A G.1 zB;generalize l.getD A.toNat dd=t at *;cases z:t.used
 .rw[show yP t=dO false t by unfold yP dO;rw[z]]at u;unfold dO at u;refine eM call240 λF hF=>?_
  exact ly
 .rw[show yP t=dO true t by unfold yP dO;rw[z]]at u;unfold dO at u;have S:(b.drop 2).map yA=(b.map yA).drop 2:=by rw[zDn]
  rw[Qn (b.drop 2) t.sec];have I:=Qc t.rights k;generalize W:Dh t.sec (b.drop 2)=q1 at *;generalize bj t.rights k=O at *;have B:qb t f3=decide (t.til≠0/\t.til<f3):=rfl;rw[B]
  cases q1 with
  |false=>
   refine eM call240 λF hF=>?_
   exact ly
  |true=>
  by_cases L:t.til=0
  .rw[zAs (λh=>h.1 L)]
   cases O<;>((refine eM call240 λF hF=>?_);exact ng I)
  by_cases M:t.til<f3
  .rw[zAu ⟨L,M⟩];refine eM call240 λF hF=>?_
   exact ly
  .rw[zAs (λh=>M h.2)]
   cases O<;>((refine eM call240 λF hF=>?_);exact ng I)
def aw (r:Rg) (m:Ms) (f3:Int) (C:GR r) (G:BY m.tok) (hl:r.bk.level<=1000000):zN 192 [uQ r,zW m,iA f3] [] (.tup [uQ (Wp r m f3),iA (Vy r m f3),iA (Af r m f3)]) []:=by
 have u:=oq r.tk C.tk.n r.num m.tok m.kind f3 G;have A:=eI r C;have z:=Am r.bk zB;unfold Wp Vy Af
 cases B:IH r.tk r.num m.tok m.kind f3<;>rw[B]at u
 ·(refine eM call192 λF hF=>?_)
  exact ng u
 .generalize m.tok.getD 1 dd=E at *;cases hk:TR m.kind
  .have hk':¬(2<=m.kind/\m.kind<=8):=zE4 hk;refine eM call192 λF hF=>?_
   refine yG (xV u A) (I2 (λhc=>?_) λhc=>?_)
   all_goals (first|exact MH|exact zI)
  .have hk':2<=m.kind/\m.kind<=8:=zEj hk;by_cases hv:r.bk.level<=0
   .rw[zAs zB]at z;simp only[hv,and_self,zE0];refine eM call192 λF hF=>?_
    exact mx (qM u A z)
   .rw[zAu zB]at z;simp only[hv,zE8,zFk,zE0];generalize hb:RD r.bk=I at *;refine eM call192 λF hF=>?_
    exact mx (qM u A z)
def pw (l:List Tk) (f3:Int) (n:Nat) (j:Nat):Bool:=(List.range n).any λi=>jW l i&&qb (l.getD i dd) f3&&YB l 9 j i
theorem nq (l:List Tk) (f3:Int) (n:Nat):pw l f3 (n+1)=λj=>pw l f3 n j||(jW l n&&qb (l.getD n dd) f3&&YB l 9 j n):=by
 funext j
 unfold pw
 grind
def Oi (l:List Tk) (hb:JU l) (B:ln l=8) (f3:Int):zN 189 [zE yP l,iA f3] [] (zE yP (ZZ l f3)) []:=by
 have M:=zA yP l;have G:=xg l hb (pw l f3 8) B;have hx:=U4 B f3
 change ZZ l f3=RQ (pw l f3 8) l 8 at hx
 rw[hx];generalize RQ (pw l f3 8) l 8=O at *;obtain⟨N,hN⟩:∃N:Nat,N=8:=⟨8,rfl⟩;refine eM call189 λF hF=>?_
 refine WW ?_;refine zO (N) [] [] [0,1,8,9] [5,10,0,1,8,9] Z (λi T U=>⟨(5,iA (hH (pw l f3 i) 8))::(10,iA i)::T,U⟩) (Lq ?_ ?_)
 .intro i hi;have z:jW l i=(l.getD i dd).used:=by unfold jW;rw[zAu zB,zA3,zBf]
  have I:=yg l i B;rw[B]at I;have u:=ao (pw l f3 i) (λj=>YB l 9 j i);have E:=zJ yP l i zB;have C:=nq l f3 i;rw[z]at C;rw[C];clear C z G hx;generalize pw l f3 i=p,l.getD i dd=t at *;rw[show yP t= .agg [bA t.used,zE yA t.sec,iA t.par,iA t.rights,iA t.cls,iA t.til]from Z]at E;unfold qb
  cases z:t.used with
  |false=>
   rw[z]at E;rw[show(λj=>p j||false&&decide (t.til≠0/\t.til<f3)&&YB l 9 j i)=p by funext j;simp];generalize hH p 8=b at *;refine WW ?_;rfl
  |true=>
  rw[z]at E;by_cases A:t.til≠0/\t.til<f3
  .rw[zAu A];rw[show(λj=>p j||true&&true&&YB l 9 j i)=λj=>p j||YB l 9 j i by funext j;simp,<-u];clear u;obtain⟨A,L⟩:=A;generalize hH p 8=b,hH (λj=>YB l 9 j i) 8=c at *;refine zS I ?_;rfl
  .rw[zAs A];rw[show(λj=>p j||true&&false&&YB l 9 j i)=p by funext j;simp];generalize hH p 8=b at *;by_cases L:t.til=0
   all_goals
    (refine WW ?_)
    rfl
 .rw[hN];exact ng G
def mq (r:Rg) (f3:Int) (u:GR r) (C:ln r.tk=8) (hl: -1000000<=r.bk.level+r.bk.rate/\r.bk.level+r.bk.rate<=1000000):zN 129 [uQ r,iA f3] [] (uQ (o4 r f3)) []:=by
 have z:=eI r u;have A:=Oi r.tk u.tk C f3;have B:=Bm r.bk zB;unfold o4;generalize ZZ r.tk f3=G,s7 r.bk=E at *;refine eM call129 λF hF=>?_
 exact mx (qM z A B)
def b8 (c:Cf) (l:List Rq):Prop:=∀r∈l,∀g∈r.legs,g.jn<(ln c.js:Int)/\g.ph<((c.js.getD g.jn.toNat dd).ph.length:Int)
structure qB (c:Cf) (d:wC):Prop where
 b:GR d.rg
 v:cJ d.rq
 q:(d.rq.length:Int)<=d.rg.ag.req
 lg:b8 c d.rq
 a:Ty d.rg.ag
 n:0<=d.rg.num/\d.rg.num<4
 t8:d.rg.tk.length=8
 br:d.rg.bk.rate=d.rg.ag.rate
 bb:d.rg.bk.burst=d.rg.ag.burst
 bl:0<=d.rg.bk.level/\d.rg.bk.level<=d.rg.ag.burst
 au:(d.au.length:Int)=d.rg.ag.ses
 dn:d.dr.length<=1000
 dr:∀x∈d.dr,x.length=8/\BY x
 vh:d.rg.vh.length<=8
theorem qB.bd (h:qB c d):dN d:=
 ⟨h.b,by have:=h.v.n4;omega,λr u=>by have:=h.v.lg3 u;omega,h.dn,λx hx=>by have:=(h.dr x hx).1;omega,by have:=h.au;have:=h.a.e;omega⟩
theorem Oy:∀(n:Nat) (l:List Int),ln l=4*n->∃qs:List Qd,l=bE qs/\qs.length=n
 |0,l,h=>⟨[],zBv zB,rfl⟩
 |n+1,a::b::c::e::l,h=>by
  obtain⟨qs,h1,h2⟩:=Oy n l (by simp only[zA6]at h;omega);exact⟨⟨a,b,c,e⟩::qs,by rw[h1];rfl,by rw[zA6,h2]⟩
 |n+1,[],h=>by simp at h
 |n+1,[_],h=>by simp at h;omega
 |n+1,[_,_],h=>by simp at h;omega
 |n+1,[_,_,_],h=>by simp at h;omega
theorem Ny:∀(n:Nat) (l:List Int),ln l=2*n->∃u:List (Int×Int),l=SD u/\u.length=n
 |0,l,h=>⟨[],zBv zB,rfl⟩
 |n+1,a::b::l,h=>by
  obtain⟨u,h1,h2⟩:=Ny n l (by simp only[zA6]at h;omega);exact⟨(a,b)::u,by rw[h1];rfl,by rw[zA6,h2]⟩
 |n+1,[],h=>by simp at h
 |n+1,[_],h=>by simp at h;omega
theorem mw {A u:Nat} {p:List Int} (hb:BY p) (h:NX A u p=some a):ln p<=200/\10<=ln p/\(∀x∈a,0<=x/\x<=4294967295)/\(u=0->ln a=A)/\(u≠0->∃c:Nat,1<=c/\c<=3/\a.length=A+c*u):=by
 unfold NX at h;by_cases hl:200<ln p\/p.length<10
 .grind
 rw[Os hl]at h;have C:BY (p.drop 10):=λx hx=>hb x (zBz hx)
 cases h1:XO A (p.drop 10)with
 |none=>rw[h1]at h;cases h
 | some O=>
  obtain⟨M,G⟩:=O;rw[h1]at h;obtain⟨l1,R,v1,_⟩:=bC A _ M G C h1;dsimp only at h;by_cases E:u=0
  .grind
  .rw [Os E]at h
   cases h2:XO 1 G with
   |none=>rw[h2]at h;cases h
   | some U=>
    obtain⟨z,I⟩:=U;rw[h2]at h;obtain⟨l2,S,v2,_⟩:=bC 1 _ z I R h2;dsimp only at h;by_cases hc:z.getD 0 0<1\/3<z.getD 0 0
    .grind
    rw[Os hc]at h
    cases B:XO ((z.getD 0 0).toNat*u) I with
    |none=>rw[B]at h;cases h
    | some W=>
     obtain⟨V,L⟩:=W;rw[B]at h;obtain⟨l3,b3,v3,_⟩:=bC _ _ V L S B;dsimp only at h;by_cases Y:L=[]
     .rw[f5 Y]at h;cases h;refine⟨zB,zB,λx hx=>?_,λh=>absurd h E,λ_=>⟨(z.getD 0 0).toNat,zB,zB,by rw[zAv,l1,l3]⟩⟩
      grind
     all_goals grind
def tq (d:wC) (i:It) (f3:Int) (a:List Int):Prop:=i.code=0/\1<=i.kind/\i.kind<=12/\NX (vS i.kind) (wD i.kind) i.pay=some a/\Af d.rg ⟨i.kind,i.pay.take 10,a,[]⟩ f3=0
def Zb (d:wC) (i:It) (f3:Int) (a:List Int):wC:=wL d (Wp d.rg ⟨i.kind,i.pay.take 10,a,[]⟩ f3)
def RS (c:Cf) (d:wC) (s:Int) (i:It) (f3:Int) (h:Hd):Prop:=
 zN 176 [wE c,zM d,iA s,vH i,iA f3] [] (EQ d.rg.num i.kind h) []/\Ed c d s f3 i h
def RpF (d:wC) (i:It) (f3:Int) (a:List Int) (h:Hd):Prop:=
 (i.kind=1/\h.p=RM d f3/\h.d=d)\/(i.kind=9/\h.p=QD d/\h.d=d)\/(i.kind=12/\h.p=bY d/\h.d=d)\/
 (i.kind=2/\∃(k:Nat) (u:List Int),k<8/\(ln u=8/\BY u)/\h.p=⟨16,[],[(k:Int)],d.rg.num::(k:Int)::u⟩)\/
 ((3<=i.kind/\i.kind<=8\/i.kind=10\/i.kind=11)/\∃x,0<=x/\x<=4294967295/\h.p=jD i.kind x)
def T0 (d:wC):Prop:=d.rg.tk.getD 0 dd=⟨true,d.rg.ag.sec,-1,d.rg.ag.rights,d.rg.ag.cls,0⟩
def Ua (d u:wC):Prop:=O2 d.rg.tk->O2 u.rg.tk/\u.au=d.au
theorem Ua.refl (d:wC):Ua d d:=λh=>⟨h,rfl⟩
theorem Ua.trans {a b:wC} (h:Ua a b) (k:Ua b d):Ua a d:=λx=>⟨(k (h x).1).1,(k (h x).1).2.trans (h x).2⟩
theorem T0.of {u:wC} (h1:u.rg.tk=d.rg.tk) (z:u.au=d.au):Ua d u:=λh=>⟨h1▸h,z⟩
def WJ (l A:List Rq):Prop:=∀r∈A,∀g∈r.legs,g.sc= -1\/∃z∈l,z.id=r.id/\∃u∈z.legs,u.jn=g.jn/\u.ph=g.ph/\u.sc=g.sc
theorem WJ.refl (l:List Rq):WJ l l:=λr z g u=> .inr ⟨r,z,rfl,g,u,rfl,rfl,rfl⟩
theorem WJ.filter (l:List Rq) (p:Rq->Bool):WJ l (l.filter p):=λr z g u=> .inr ⟨r,(zEg.1 z).1,rfl,g,u,rfl,rfl,rfl⟩
theorem WJ.trans {a b c:List Rq} (h1:WJ a b) (h2:WJ b c):WJ a c:=λr z g u=>by
 rcases h2 r z g u with h|⟨r1,hr1,e1,g1,hg1,a1,a2,a3⟩
 .exact .inl h
 .rcases h1 r1 hr1 g1 hg1 with h|⟨r0,hr0,e0,g0,hg0,b1,b2,b3⟩
  .exact .inl (a3▸h)
  .exact .inr ⟨r0,hr0,e0.trans e1,g0,hg0,b1.trans a1,b2.trans a2,b3.trans a3⟩
structure lw (c:Cf) (d:wC) (s:Int) (i:It) (f3:Int) (h:Hd):Prop where
 inv:qB c h.d
 ag:h.d.rg.ag=d.rg.ag
 num:h.d.rg.num=d.rg.num
 no:h.e≠0->h.k= -1/\h.p=gG i.kind h.e/\(h.d=d\/∃a,tq d i f3 a/\h.d=Zb d i f3 a)
 yes:h.e=0->∃a,tq d i f3 a/\RpF d i f3 a h
 rst:h.k= -1\/(i.kind=11/\0<=h.k/\h.k<(c.js.length:Int))
 dl:h.d.dr.length<=d.dr.length
 t0:Ua d h.d
 eb:0<=i.code/\i.code<=100->0<=h.e/\h.e<=100
 ax:∀k:Nat,(k:Int)≠s->h.d.au[k]? =d.au[k]?
 sc:WJ d.rq h.d.rq
theorem RT {r:Rg} {m:Ms} (h:Af r m f3=0):Wp r m f3=⟨r.num,r.ag,r.tk,r.vh,if TR m.kind=true then RD r.bk else r.bk⟩/\IH r.tk r.num m.tok m.kind f3=true/\(TR m.kind=true->0<r.bk.level)/\Vy r m f3=m.tok.getD 1 dd:=by
 have h1:IH r.tk r.num m.tok m.kind f3=true:=by
  grind [Af,Wp,TR,RD,IH,Vy]
 refine⟨?_,h1,λhk=>?_,by rw[Vy,f5 h]⟩
 .rw[Wp,f5 h]
  split<;>rfl
 all_goals grind [Af,Wp,TR,RD,IH,Vy]
theorem My (u:qB c d) (h:tq d i f3 a):qB c (Zb d i f3 a):=by
 obtain⟨h1,_,z,_⟩:=RT h.2.2.2.2;unfold Zb wL;rw[h1];have hl:=u.bl;refine⟨⟨u.b.tk,u.b.s,u.b.l,u.b.v⟩,u.v,u.q,u.lg,u.a,u.n,u.t8,?_,?_,?_,u.au,u.dn,u.dr,u.vh⟩
 .dsimp only;split
  .unfold RD;split
   all_goals exact u.br
  .exact u.br
 .dsimp only;split
  .unfold RD;split
   all_goals exact u.bb
  .exact u.bb
 all_goals grind [tq,Zb,RD]
def LC (h:tq d i f3 a) (hk:i.kind=1\/9<=i.kind):Zb d i f3 a=d:=by
 obtain⟨h1,_,_,_⟩:=RT h.2.2.2.2;unfold Zb wL;rw[h1,Os (λh=>by unfold TR at h;rw[zAx]at h;dsimp only at h;omega)]
def iq {u:Int} {e:Int} (h:e≠0):Ry u d p k e=⟨d,gG u e,-1,e⟩:=Os h
def og {u:Int} :Ry u d p k 0=⟨d,p,k,0⟩:=f5 Z
def Ta {s:Int} (z:qB c d) {e:Int} (C:e≠0) (p:Ms) (u:wC) (hd:u=d\/∃a,tq d i f3 a/\u=Zb d i f3 a)
 (h1:zN 224 [wE c,zM d,iA s,vH i,iA f3] [] (hT u p (-1) e) []) (h2:Ed c d s f3 i ⟨u,gG i.kind e,-1,e⟩) (A:0<=i.code/\i.code<=100->0<=e/\e<=100:=by(intro _;omega)):∃h,RS c d s i f3 h/\lw c d s i f3 h:=by
 have hi:qB c u/\u.rg.ag=d.rg.ag/\u.rg.num=d.rg.num/\u.dr=d.dr/\u.rg.tk=d.rg.tk:=by
  rcases hd with rfl|⟨a,ho,rfl⟩
  .exact⟨z,rfl,rfl,rfl,rfl⟩
  .refine⟨My z ho,?_,?_,?_,?_⟩<;>(unfold Zb wL;rw[(RT ho.2.2.2.2).1])
 have B:=Qy c d s f3 i z.bd u p (-1) e h1;rw[iq C,hi.2.2.1]at B;exact⟨⟨u,gG i.kind e,-1,e⟩,⟨B,h2⟩,hi.1,hi.2.1,hi.2.2.1,λ_=>⟨rfl,rfl,hd⟩,λh=>absurd h C,.inl Z,by rw[hi.2.2.2.1];exact zAw _,T0.of hi.2.2.2.2 (by rcases hd with h|⟨a,_,h⟩<;>rw[h];rfl),A,λ_ _=>by rw[show u.au=d.au by rcases hd with h|⟨a,_,h⟩<;>rw[h];rfl],by dsimp only;rw[show u.rq=d.rq by rcases hd with h|⟨a,_,h⟩<;>rw[h];rfl];exact WJ.refl _⟩
def F4 {s:Int} (I:qB c d) (a:List Int) (M:tq d i f3 a) (p:Ms) (k:Int) (u:wC) (hi:qB c u) (L:u.rg.ag=d.rg.ag) (G:u.rg.num=d.rg.num)
 (O:RpF d i f3 a ⟨u,p,k,0⟩) (hk:k= -1\/(i.kind=11/\0<=k/\k<(ln c.js:Int))) (A:ln u.dr<=ln d.dr) (C:Ua d u)
 (h1:zN 224 [wE c,zM d,iA s,vH i,iA f3] [] (hT u p k 0) []) (h2:Ed c d s f3 i ⟨u,p,k,0⟩) (z:u.au=d.au) (B:WJ d.rq u.rq):∃h,RS c d s i f3 h/\lw c d s i f3 h:=by
 have E:=Qy c d s f3 i I.bd u p k 0 h1;rw[og,G]at E;exact⟨⟨u,p,k,0⟩,⟨E,h2⟩,hi,L,G,λh=>absurd Z h,λ_=>⟨a,M,O⟩,hk,A,C,λ_=>by dsimp only;omega,λ_ _=>by dsimp only;rw[z],B⟩
theorem Zq:∀{qs:List Qd} {q:Qd},q∈qs->q.j∈bE qs/\q.p∈bE qs/\q.f∈bE qs/\q.t∈bE qs
 |x::l,q,h=>by
  rw[show bE (x::l)=x.j::x.p::x.f::x.t::bE l from Z]
  rcases zCf.1 h with rfl|h
  .simp
  .obtain⟨h1,h2,u,z⟩:=Zq h;simp[h1,h2,u,z]
theorem Dd {α β γ:Type} {f:α->β->γ}:∀{a:List α} {b:List β} {g:γ},g∈a.zipWith f b->∃x∈a,∃y,g=f x y
 |x::a,y::b,g,h=>by
  rw[zD4]at h
  rcases zCf.1 h with rfl|h
  .exact⟨x,by simp,y,rfl⟩
  .obtain⟨z,u,w,e⟩:=Dd h;exact⟨z,by simp[u],w,e⟩
 | [],_,_,h=>by simp at h
 |_::_,[],_,h=>by simp at h
theorem Yq (l:List Rq) (r:Rq):(gW l r).length=ln l+1:=by grind [gW]
theorem E4 {j p f t:Int} (h:EL j p f t f3=true):(GV j p f t f3).jn=j/\(GV j p f t f3).ph=p:=by grind [EL,GV]
theorem p8 (h:qs.all (aO c f3)=true):∀g∈qs.map (XS f3),g.jn<(ln c.js:Int)/\g.ph<((c.js.getD g.jn.toNat dd).ph.length:Int):=by
 intro g u;rw[zCa]at u;obtain⟨q,A,rfl⟩:=u;have h1:=zA5.1 h q A;unfold aO at h1;simp only[zA2,zAx]at h1;obtain⟨h2,C,z⟩:=h1;obtain⟨e1,B⟩:=E4 z
 grind [aO,XS]
theorem zAh {l:List Rq} {q id:Int} {x:List Lg} (h:QU l q id life x=0):(ln l:Int)<q/\(ln l:Int)<4:=by grind [QU]
theorem zAi {id:Int} (h:qa c d cls id v life f3 qs=0):va (dG d.rg.vh v)=true/\qs.all (aO c f3)=true/\QU d.rq d.rg.ag.req id life (qs.map (XS f3))=0:=by grind [qa,va,dG,aO,QU,XS,Hr]
def zAj (u:qB c d) {id:Int} (E:0<=f3) (G:f3<=1073741824) (h:qa c d cls id v life f3 qs=0):qB c (Ef d (Co c d cls id v life f3 qs)):=by
 obtain⟨hv,C,B⟩:=zAi h;unfold va at hv;rw[zAx]at hv;have hl:=zAh B;unfold Ef Co;rw[f5 h];refine⟨u.b,L3 u.v B hv.1.1 hv.1.2 hv.2.1 hv.2.2 E G,?_,λr z g A=>?_,u.a,u.n,u.t8,u.br,u.bb,u.bl,u.au,u.dn,u.dr,u.vh⟩
 .dsimp only;rw[Yq];omega
 .rcases MX z with rfl|z
  .exact p8 C g A
  .exact u.lg r z g A
def zAk (u:qB c d) {id:Int} {C:List (Int×Int)} (h:fO d.rq id C f3=0):qB c (Ef d (Yy d.rq id C f3)):=by
 unfold Ef Yy;rw[f5 h];have hl:(ZS d.rq id C f3).length=ln d.rq:=by unfold ZS;rw[zAr]
 refine⟨u.b,I3 u.v h,?_,λr A g B=>?_,u.a,u.n,u.t8,u.br,u.bb,u.bl,u.au,u.dn,u.dr,u.vh⟩
 .dsimp only;rw[hl];exact u.q
 .dsimp only at A;unfold ZS at A;rw[zCa]at A;obtain⟨E,z,rfl⟩:=A;split at B
  .obtain⟨x,hx,y,rfl⟩:=Dd B;exact u.lg E z x hx
  .exact u.lg E z g B
theorem o8 (u:qB c d) (p:Rq->Bool):qB c (Ef d (d.rq.filter p)):=by
 have hl:=zCh p d.rq;have B:=u.q;refine⟨u.b,u.v.filter p,?_,λr A g z=>u.lg r ((zEg.1 A).1) g z,u.a,u.n,u.t8,u.br,u.bb,u.bl,u.au,u.dn,u.dr,u.vh⟩
 grind [Ef]
theorem m8 {id:Int} (h:qa c d cls id v life f3 qs=0):WJ d.rq (Co c d cls id v life f3 qs):=by
 unfold Co;rw[f5 h];intro r u g z
 rcases MX u with rfl|u
 .refine .inl ?_;obtain⟨q,A,rfl⟩:=zCa.1 z
  grind [qa,WJ,Co,aO,XS,GV]
 all_goals grind
theorem l8 {id:Int} {B:List (Int×Int)} (h:fO d.rq id B f3=0):WJ d.rq (Yy d.rq id B f3):=by
 unfold Yy;rw[f5 h];intro r u g A;unfold ZS at u;rw[zCa]at u;obtain⟨C,z,rfl⟩:=u;split at A
 .obtain⟨x,hx,y,rfl⟩:=Dd A;exact .inr ⟨C,z,by split<;>rfl,x,hx,rfl,rfl,rfl⟩
 all_goals grind
def s8 (d:wC) (m:Ms) (z:Rg) (u:Bool):WJ d.rq (Cd d m z u 0).rq:=by
 unfold Cd;rw[f5 Z];dsimp only;split
 .exact WJ.filter _ _
 .exact WJ.refl _
theorem zAl (z:qB c d) {m:Ms} {I:List Int} {C:Rg} {u:Bool} (hb:GR C) (L:DoP d.rg m I C p u 0):qB c (Cd d m C u 0)/\(Cd d m C u 0).rg.ag=d.rg.ag/\(Cd d m C u 0).rg.num=d.rg.num/\(Cd d m C u 0).dr.length<=ln d.dr/\Ua d (Cd d m C u 0):=by
 have B:(if u=true then d.dr.drop 1 else d.dr).length<=1000/\∀x∈(if u=true then d.dr.drop 1 else d.dr),ln x=8/\BY x:=by
  split
  .exact⟨by have:=z.dn;rw[zBr];omega,λx hx=>z.dr x (zBz hx)⟩
  .exact⟨z.dn,z.dr⟩
 have A:cJ (if m.kind=5 then TG d.rq (m.args.getD 0 0)else d.rq)/\((if m.kind=5 then TG d.rq (m.args.getD 0 0)else d.rq).length:Int)<=d.rg.ag.req/\b8 c (if m.kind=5 then TG d.rq (m.args.getD 0 0)else d.rq):=by
  split
  .have h:=o8 z (λx=>x.vh != m.args.getD 0 0);exact⟨h.v,h.q,h.lg⟩
  .exact⟨z.v,z.q,z.lg⟩
 have E:(if u=true then d.dr.drop 1 else d.dr).length<=ln d.dr:=by
  grind
 unfold Cd;rw[f5 Z]
 rcases L.2 Z with⟨o,G,hT,rfl,_⟩|⟨o,G,rfl,_⟩
 .refine⟨⟨hb,A.1,A.2.1,A.2.2,z.a,z.n,G,z.br,z.bb,z.bl,z.au,B.1,B.2,z.vh⟩,rfl,rfl,E,λh=>⟨hT h,rfl⟩⟩
 .exact⟨⟨hb,A.1,A.2.1,A.2.2,z.a,z.n,z.t8,z.br,z.bb,z.bl,z.au,B.1,B.2,G⟩,rfl,rfl,E,Ua.refl _⟩
theorem D4 (u:tq d i f3 a):(Zb d i f3 a).rg.ag=d.rg.ag/\(Zb d i f3 a).rg.num=d.rg.num/\(Zb d i f3 a).rg.tk=d.rg.tk/\(Zb d i f3 a).rq=d.rq/\(Zb d i f3 a).dr=d.dr/\(Zb d i f3 a).au=d.au:=by grind [tq,Zb,wL,RT]
theorem mg {l:List Tk} {g:Int} {b:List Int} (h:IH l g b k f3=true):jW l (b.getD 1 dd)=true:=by grind [IH,jW]
theorem zAm (r:Rg) (m:Ms) (f3:Int):0<=Af r m f3/\Af r m f3<=100:=by grind [Af]
theorem Z8 (c:Cf) (d:wC) (cls id v life f3:Int) (qs:List Qd):0<=qa c d cls id v life f3 qs/\qa c d cls id v life f3 qs<=100:=by grind [qa,Hr,QU]
theorem Y8 (l:List Rq) (id:Int) (u:List (Int×Int)) (f3:Int):0<=fO l id u f3/\fO l id u f3<=100:=by grind [fO]
def X8 (h:O2 d.rg.tk) (z:tq d i f3 a):i.kind≠10:=λhk=>by
 have h1:=(RT z.2.2.2.2).2.1;have h2:=mg h1;unfold IH at h1;dsimp only at h1;rw[hk]at h1;simp only[zA2]at h1;unfold jW at h2;rw[zA2,zAx]at h2;dsimp only at h2;have u:=h _ (yK d.rg.tk _ (show((i.pay.take 10).getD 1 dd).toNat<ln d.rg.tk by have:=h2.1;omega)) h2.2;rw[show bj (Wi d.rg.tk (i.pay.take 10)).rights 10=false from u]at h1;exact absurd h1.2.2 zA7
theorem Ni (c:Cf) (d:wC) (R:qB c d) (s f3:Int) (n0:0<=f3) (n1:f3<=1073741824) (i:It) (a2:BY i.pay) (a5:ln i.pay<=100000):∃h,RS c d s i f3 h/\lw c d s i f3 h:=by
 by_cases hc:i.code=0
 case neg=>exact Ta R hc OH d (.inl Z) (Rw c d s f3 i hc) (jw c d s f3 R.bd i hc) id
 by_cases hk:1<=i.kind/\i.kind<=12
 case neg=>exact Ta R yY OH d (.inl Z) (Qw c d s f3 i hc hk) (fw c d s f3 R.bd i hc hk)
 obtain⟨V,h1⟩:=hk;have W:=Mm i.kind V h1 i.pay a2 a5;have r2:=ii i.kind V h1 i.pay a2 a5;have az:i=⟨0,i.kind,i.pay⟩:=by cases i;simp_all
 cases hd:NX (vS i.kind) (wD i.kind) i.pay with
 |none=>
  rw[hd]at W r2;have q1:=Ow c d s f3 i.kind i.pay V h1 W;have M:=dw c d s f3 R.bd i.kind i.pay V h1 r2;rw[<-az]at q1 M;exact Ta R yY OH d (.inl Z) q1 M
 |some I=>
 rw[hd]at W r2;obtain⟨_,cj,hv,ac,bu⟩:=mw a2 hd;have bf:BY (i.pay.take 10):=λx hx=>a2 x (zCo hx)
 have bx:d.rg.bk.level<=1000000:=by have:=R.bl;have:=R.a.b;omega
 have k3:=j4 d.rg ⟨i.kind,i.pay.take 10,I,[]⟩ f3 R.b bf bx;have r3:=aw d.rg ⟨i.kind,i.pay.take 10,I,[]⟩ f3 R.b bf bx;by_cases ho:Af d.rg ⟨i.kind,i.pay.take 10,I,[]⟩ f3=0
 case neg=>
  have q1:=Nw c d s f3 i.kind i.pay (i.pay.take 10) I V h1 W _ _ _ ho k3;have M:=bw c d s f3 R.bd i.kind i.pay (i.pay.take 10) I V h1 r2 _ _ _ ho r3;rw[<-az]at q1 M;exact Ta R ho OH d (.inl Z) q1 M (λ_=>zAm _ _ _)
 have hO:tq d i f3 I:=⟨hc,V,h1,hd,ho⟩;obtain⟨_,b5,_,b0⟩:=RT ho;rw[ho,b0]at k3 r3;have a4:=mg b5;dsimp only at b0 a4;generalize (i.pay.take 10).getD 1 dd=E at *;have z:=My R hO;obtain⟨ea,en,et,eq,er,eu⟩:=D4 hO
 have a3:0<=E/\E<(ln d.rg.tk:Int):=by
  unfold jW at a4;rw[zA2,zAx]at a4;exact a4.1
 have ax:Zb d i f3 I=wL d (Wp d.rg ⟨i.kind,i.pay.take 10,I,[]⟩ f3):=rfl;generalize Wp d.rg ⟨i.kind,i.pay.take 10,I,[]⟩ f3=B at *;have tl:(i.pay.take 10).length<=1000:=by rw[zBg];omega
 have NO:∀(e:Int),e≠0->0<=e/\e<=100->∀(p p2:Ms) (a9:Int),zN 224 [wE c,zM d,iA s,vH ⟨0,i.kind,i.pay⟩,iA f3] [] (hT (wL d B) p (-1) e) []->
   zN 193 [wE c,zM (wL d B),iA s,zW ⟨i.kind,i.pay.take 10,I,[]⟩,iA E,iA f3] [] (hT (wL d B) p2 a9 e) []->∃h,RS c d s i f3 h/\lw c d s i f3 h:=by
  intro e G cb p p2 a9 q1 M;have q3:=Py c d s f3 R.bd i.kind i.pay _ I V h1 r2 B E r3 (wL d B) (ax▸z.bd) p2 a9 e M;rw[iq G]at q3;rw[<-az]at q1 q3;exact Ta R G p _ (.inr ⟨I,hO,ax.symm⟩) q1 q3 (λ_=>cb)
 have Y:∀(d':wC) (p:Ms) (k:Int),qB c d'->d'.rg.ag=d.rg.ag->d'.rg.num=d.rg.num->RpF d i f3 I ⟨d',p,k,0⟩->(k= -1\/(i.kind=11/\0<=k/\k<(ln c.js:Int)))->ln d'.dr<=ln d.dr->Ua d d'->zN 224 [wE c,zM d,iA s,vH ⟨0,i.kind,i.pay⟩,iA f3] [] (hT d' p k 0) []->
   zN 193 [wE c,zM (wL d B),iA s,zW ⟨i.kind,i.pay.take 10,I,[]⟩,iA E,iA f3] [] (hT d' p k 0) []->d'.au=d.au->WJ d.rq d'.rq->∃h,RS c d s i f3 h/\lw c d s i f3 h:=by
  intro d' p k hi ha hn hr hk ca ch q1 M b4 cg;have q3:=Py c d s f3 R.bd i.kind i.pay _ I V h1 r2 B E r3 d' hi.bd p k 0 M;rw[og]at q3;rw[<-az]at q1 q3;exact F4 R I hO p k d' hi ha hn hr hk ca ch q1 q3 b4 cg
 rw[ax]at z ea en et eq er eu;have ck:wD i.kind=0\/wD i.kind≠0:=by omega
 have b6:i.kind=1\/(i.kind=2\/i.kind=3\/i.kind=4\/i.kind=5)\/i.kind=6\/i.kind=7\/i.kind=8\/i.kind=9\/i.kind=10\/i.kind=11\/i.kind=12:=by omega
 rcases b6 with hk|hk|hk|hk|hk|hk|hk|hk|hk
 ·
  have av:I=[]:=zBv (by rw[ac JE,hk];rfl);subst av;have A:=LC hO (.inl hk);rw[ax]at A;rw[A]at z;have q1:=EA c d s f3 i.kind i.pay _ [] V h1 W B E k3 (.inl hk) (RM d f3) (by rw[A,hk];exact wa d f3);have M:=Xq c d s f3 (i.pay.take 10) E;rw[A]at q1;refine Y d _ _ z Z Z (.inl ⟨hk,rfl,rfl⟩) (.inl Z) (zAw _) (Ua.refl _) q1 ?_ Z (WJ.refl _);rw[A,hk];exact M
 ·
  obtain⟨a,L,O⟩:∃a L,I=a::L:=by
   cases I with
   |nil=>exfalso;have:=ac Ox;rcases hk with hk|hk|hk|hk<;>rw[hk]at this<;>cases this
   |cons a L=>exact⟨a,L,rfl⟩
  have av:ln I<=1000:=by have:=ac Ox;have:=FN i.kind;omega
  have hm:B2 ⟨i.kind,i.pay.take 10,I,[]⟩:=⟨tl,av,zA9 _⟩
  have bz:(LF (wL d B)).length<=1000:=by
   unfold LF wL;dsimp only
   cases a7:d.dr with
   |nil=>simp
   |cons b bs=>have:=(R.dr b (by rw[a7];simp)).1;simp;omega
  have cf:BY (LF (wL d B)):=by
   unfold LF wL;dsimp only
   cases a7:d.dr with
   |nil=>exact λx hx=>by cases hx
   |cons b bs=>exact(R.dr b (by rw[a7];simp)).2
  have ci:ln B.vh<=1000:=by have:=z.vh;exact zBw this zB
  obtain⟨r',p,u,e,ce,cl,hP,f1,f2⟩:=Hw B ci ⟨i.kind,i.pay.take 10,I,[]⟩ hm E f3 (LF (wL d B)) bz
  have h5:i.kind=5->∃a,I=[a]:=λh=>by
   have h9:=ac (by rw[h];rfl);rw[h]at h9;exact Nq h9
  have q1:=A4 (wL d B) ⟨i.kind,i.pay.take 10,I,[]⟩ E f3 z.v z.dn r' p u e f1 h5
  have hu:u=true->(wL d B).dr≠[]:=λhu h9=>by
   have G:e=0:=by
    by_cases G:e=0
    .exact G
    .rw[(hP.1 G).1]at hu;cases hu
   have b1:LF (wL d B)=[]:=by unfold LF;rw[h9];rfl
   rcases hP.2 G with⟨o,_,_,_,U|U⟩|⟨o,_,_,U,_⟩
   .rw[U.1]at hu;cases hu
   .rw[b1]at U;exact absurd U.2.1 yY
   .rw[U]at hu;cases hu
  have M:=Sw (wL d B) ⟨i.kind,i.pay.take 10,I,[]⟩ E f3 z.v z.dn r' p u e f2 h5 hu;have S:=v5 c d s f3 i.kind i.pay _ I V h1 W B E k3 hk _ _ e q1;have w2:=C4 c (wL d B) s f3 (i.pay.take 10) E i.kind I a L O hk _ p e M;by_cases G:e=0
  .subst G;rw[f5 Z]at S;obtain⟨hi,ha,hn,b7,b9⟩:=zAl (m:=⟨i.kind,i.pay.take 10,I,[]⟩) z ce hP;have C:0<=a/\a<=4294967295:=hv a (by rw[O];simp);refine Y _ p (-1) hi (ha.trans ea) (hn.trans en) ?_ (.inl Z) b7 ((T0.of et eu).trans b9) S w2 (by unfold Cd;rw[f5 Z];rfl) (s8 (wL d B) _ r' u)
   rcases hP.2 Z with⟨o,_,_,_,U|U⟩|⟨o,_,_,_,U,ap⟩
   .obtain⟨_,ap,a1⟩:=U;dsimp only at a1 ap;exact .inr (.inr (.inr (.inr ⟨zB,a,C.1,C.2,by rw[ap,O,a1];rfl⟩)))
   .obtain⟨_,ap,a1,k,b2,b3⟩:=U;have a6:B.num=d.rg.num:=en;exact .inr (.inr (.inr (.inl ⟨a1,k,_,b2,⟨ap,cf⟩,by rw[b3,a6]⟩)))
   .dsimp only at U ap;exact .inr (.inr (.inr (.inr ⟨zB,a,C.1,C.2,by rw[ap,O];rfl⟩)))
  .have e1:Cd (wL d B) ⟨i.kind,i.pay.take 10,I,[]⟩ r' u e=wL d B:=by unfold Cd;rw[Os G]
   rw[e1]at S w2;exact NO e G (hP.1 G).2 _ _ _ S w2
 ·
  obtain⟨cc,c1,c3,hl⟩:=bu (by rw[hk];decide);rw[hk,show vS 6=3 from Z,show wD 6=4 from Z]at hl
  obtain⟨id,v,life,L,O⟩:∃id v life L,I=id::v::life::L:=by
   match I,hl with
   |id::v::life::L,_=>exact⟨id,v,life,L,rfl⟩
   | [],h=>simp at h;omega
   | [_],h=>simp at h;omega
   | [_,_],h=>simp at h;omega
  subst O;obtain⟨qs,a8,cd⟩:=Oy cc L (by simp only[zA6]at hl;omega);subst a8
  have hp:∀q∈qs,0<=q.j/\0<=q.p:=λq hq=>by
   obtain⟨m1,m2,_⟩:=Zq hq;exact⟨(hv q.j (by simp[m1])).1,(hv q.p (by simp[m2])).1⟩
  have C:=hv id zV;have s1:E<((wL d B).rg.tk.length:Int):=by rw[et];exact a3.2
  have q1:=V3 c (wL d B) (i.pay.take 10) id v life E f3 qs z.bd z.v a3.1 s1 zB hp n0 n1;have M:=Vd c (wL d B) 6 (i.pay.take 10) id v life ((wL d B).rg.tk.getD E.toNat dd).cls f3 qs z.bd z.v zB hp n0 n1;by_cases G:qa c (wL d B) ((wL d B).rg.tk.getD E.toNat dd).cls id v life f3 qs=0
  .have hi:=zAj z n0 n1 G;rw[G]at q1;rw[f5 G,G]at M;have S:=FZ c d s f3 i.kind i.pay _ _ V h1 W B E k3 (.inl hk) id _ Z _ JF;have w2:=Wq c (wL d B) s f3 (i.pay.take 10) E _ id _ Z a3.1 s1 _ 0 M;refine Y _ (jD i.kind id) (-1) hi ea en (.inr (.inr (.inr (.inr ⟨zB,id,C.1,C.2,rfl⟩)))) (.inl Z) (zAw _) (T0.of et eu) S ?_ Z (m8 (d:=wL d B) G);rw[hk];exact w2
  .rw[Os G]at M;have S:=FY c d s f3 i.kind i.pay _ _ V h1 W B E k3 (.inl hk) _ _ G JF;have w2:=Wq c (wL d B) s f3 (i.pay.take 10) E _ id _ Z a3.1 s1 _ _ M;exact NO _ G (by first|exact Z8 _ _ _ _ _ _ _ _|exact Y8 _ _ _ _) _ _ _ S (by rw[hk];exact w2)
 ·
  obtain⟨cc,c1,c3,hl⟩:=bu (by rw[hk];decide);rw[hk,show vS 7=1 from Z,show wD 7=2 from Z]at hl
  obtain⟨id,L,O⟩:∃id L,I=id::L:=by
   match I,hl with
   |id::L,_=>exact⟨id,L,rfl⟩
   | [],h=>simp at h;omega
  subst O;obtain⟨ws,a8,cd⟩:=Ny cc L (by simp only[zA6]at hl;omega);subst a8;have C:=hv id zV;have q1:=Y3 c (wL d B) (i.pay.take 10) id E f3 ws z.v zB n0 n1;have M:=W3 (wL d B) (i.pay.take 10) id f3 ws z.v zB n0 n1;by_cases G:fO (wL d B).rq id ws f3=0
  .have hi:=zAk z G;rw[G]at q1;rw[f5 G,G]at M;have S:=FZ c d s f3 i.kind i.pay _ _ V h1 W B E k3 (.inr (.inl hk)) id _ Z _ JF;have w2:=Vq c (wL d B) s f3 (i.pay.take 10) E _ id _ Z _ 0 M;refine Y _ (jD i.kind id) (-1) hi ea en (.inr (.inr (.inr (.inr ⟨zB,id,C.1,C.2,rfl⟩)))) (.inl Z) (zAw _) (T0.of et eu) S ?_ Z (l8 (d:=wL d B) G);rw[hk];exact w2
  .rw[Os G]at M;have S:=FY c d s f3 i.kind i.pay _ _ V h1 W B E k3 (.inr (.inl hk)) _ _ G JF;have w2:=Vq c (wL d B) s f3 (i.pay.take 10) E _ id _ Z _ _ M;exact NO _ G (by first|exact Z8 _ _ _ _ _ _ _ _|exact Y8 _ _ _ _) _ _ _ S (by rw[hk];exact w2)
 ·
  obtain⟨id,O⟩:=Nq (show (ln I)=1 by rw[ac JE,hk];rfl);subst O;have C:=hv id zV;have q1:=U3 c (wL d B) (i.pay.take 10) id E f3 z.v;have M:=B4 c (wL d B) s f3 (i.pay.take 10) E id _ _ (Gh (wL d B).rq id z.v);by_cases G:kT (wL d B).rq id=true
  .have hi:=o8 z (λx=>x.id != id);rw[f5 G,f5 G]at q1;rw[f5 G,f5 G,f5 Z]at M;have S:=FZ c d s f3 i.kind i.pay _ _ V h1 W B E k3 (.inr (.inr hk)) id [] Z _ JF;refine Y _ (jD i.kind id) (-1) hi ea en (.inr (.inr (.inr (.inr ⟨zB,id,C.1,C.2,rfl⟩)))) (.inl Z) (zAw _) (T0.of et eu) S ?_ Z (WJ.filter _ _);rw[hk];exact M
  .rw[Os G,Os G]at q1;rw[Os G,Os G,Os yY]at M;have S:=FY c d s f3 i.kind i.pay _ _ V h1 W B E k3 (.inr (.inr hk)) _ 12 yY JF;exact NO 12 yY yY _ _ _ S (by rw[hk];exact M)
 ·
  have av:I=[]:=zBv (by rw[ac JE,hk];rfl);subst av;have A:=LC hO (.inr zB);rw[ax]at A;rw[A]at z;have q1:=EA c d s f3 i.kind i.pay _ [] V h1 W B E k3 (.inr (.inl hk)) (QD d) (by rw[A,hk];exact Xd d f3 R.bd);have M:=Ww c d s f3 (i.pay.take 10) E R.bd;rw[A]at q1;refine Y d _ _ z Z Z (.inr (.inl ⟨hk,rfl,rfl⟩)) (.inl Z) (zAw _) (Ua.refl _) q1 ?_ Z (WJ.refl _);rw[A,hk];exact M
 ·
  obtain⟨a,O⟩:=Nq (show (ln I)=1 by rw[ac JE,hk];rfl);subst O;have C:=hv a zV;by_cases ha:1<a
  .have S:=Kw c d s f3 i.kind i.pay _ [a] V h1 W B E k3 hk a Z ha;have w2:=Yw c (wL d B) s f3 (i.pay.take 10) E a ha;exact NO 8 yY yY _ _ _ S (by rw[hk];exact w2)
  by_cases hs:0<=s/\s<(ln d.au:Int)
  case neg=>
   have S:=Jw c d s f3 i.kind i.pay _ [a] V h1 W B E k3 hk a Z zB hs;have w2:=Xw c (wL d B) s f3 (i.pay.take 10) E a zB (by rw[eu];exact hs);refine Y _ (jD 10 a) (-1) z ea en (.inr (.inr (.inr (.inr ⟨zB,a,C.1,C.2,by rw[hk]⟩)))) (.inl Z) (zAw _) (T0.of et eu) S ?_ Z (WJ.refl _);rw[hk];exact w2
  rw[hk]at W r2 k3 r3;have ba:qB c ⟨B,d.rq,d.dr,d.au.set s.toNat (a==1)⟩:=⟨z.b,z.v,z.q,z.lg,z.a,z.n,z.t8,z.br,z.bb,z.bl,by have:=z.au;dsimp only;rw[zB5];exact this,z.dn,z.dr,z.vh⟩;have S:=Uw c d s f3 i.pay (i.pay.take 10) a C.1 zB W B E k3 hs;have w2:=Tw c (wL d B) s f3 (i.pay.take 10) E a C.1 zB (by rw[eu];exact hs);have q1:=J4 c d s f3 ⟨0,10,i.pay⟩ R.bd zB _ _ _ S;have M:=G4 c d s f3 R.bd 10 i.pay _ [a] yY yY r2 B E r3 _ ba.bd _ _ w2;have a6:B.num=d.rg.num:=en;rw[show(⟨B,d.rq,d.dr,d.au.set s.toNat (a==1)⟩:wC).rg.num=d.rg.num from a6]at q1;rw[<-hk,<-az]at q1 M;exact⟨⟨⟨B,d.rq,d.dr,d.au.set s.toNat (a==1)⟩,jD i.kind a,-1,0⟩,⟨q1,M⟩,ba,ea,en,λh=>absurd Z h,λ_=>⟨[a],hO,.inr (.inr (.inr (.inr ⟨zB,a,C.1,C.2,rfl⟩)))⟩,.inl Z,zAw _,λh=>absurd (X8 h hO) (λh9=>h9 hk),λ_=>by dsimp only;omega,λk hk'=>by show(d.au.set s.toNat (a==1))[k]? =_;rw[zFe zB],WJ.refl _⟩
 ·
  obtain⟨a,O⟩:=Nq (show (ln I)=1 by rw[ac JE,hk];rfl);subst O;have C:=hv a zV;by_cases ha:a<(ln c.js:Int)
  .have S:=Lw c d s f3 i.kind i.pay _ [a] V h1 W B E k3 hk a Z ha;have w2:=Zw c (wL d B) s f3 (i.pay.take 10) E a ha;refine Y _ (jD 11 a) a z ea en (.inr (.inr (.inr (.inr ⟨zB,a,C.1,C.2,by rw[hk]⟩)))) (.inr ⟨hk,C.1,ha⟩) (zAw _) (T0.of et eu) S ?_ Z (WJ.refl _);rw[hk];exact w2
  .have S:=Mw c d s f3 i.kind i.pay _ [a] V h1 W B E k3 hk a Z zB;have w2:=iw c (wL d B) s f3 (i.pay.take 10) E a zB;exact NO 8 yY yY _ _ _ S (by rw[hk];exact w2)
 ·
  have av:I=[]:=zBv (by rw[ac JE,hk];rfl);subst av;have A:=LC hO (.inr zB);rw[ax]at A;rw[A]at z;have cm:=R.a.q;have q1:=EA c d s f3 i.kind i.pay _ [] V h1 W B E k3 (.inr (.inr hk)) (bY d) (by rw[A,hk];exact Yd d 12 f3 yY yY R.bd zB zB);have M:=sw c d s f3 (i.pay.take 10) E (pv d R.bd zB zB);rw[A]at q1;refine Y d _ _ z Z Z (.inr (.inr (.inl ⟨hk,rfl,rfl⟩))) (.inl Z) (zAw _) (Ua.refl _) q1 ?_ Z (WJ.refl _);rw[A,hk];exact M
