/- Part 31. -/
import Derived.Test.YtaglbcjljlkjcaaGreatW30
namespace Go.Proofs.YtaglbcjljlkjcaaGreat.Av
open Tryz
set_option linter.all false
set_option maxRecDepth 4000
set_option maxHeartbeats 16000000
open List renaming length->ln,replicate->pb,range->pi,take->py,drop->p5
open Inhabited renaming default->dd
variable {nn:Bool}{e:Ev}{xs:List AV}{b:PC}
def Gw {c:Int} (h:0<=c):Vx c=[c/16777216 % 256,c/65536 % 256,c/256 % 256,c % 256]:=by
 unfold Vx;simp only[show pi 4=[0,1,2,3]from Z,zCb,zCj,Cq];rw[show c.fdiv (2 ^ (min (8*(3-((0:Nat):Int))).toNat IntKind.u32.bits))=c.fdiv 16777216 from Z,show c.fdiv (2 ^ (min (8*(3-((1:Nat):Int))).toNat IntKind.u32.bits))=c.fdiv 65536 from Z,show c.fdiv (2 ^ (min (8*(3-((2:Nat):Int))).toNat IntKind.u32.bits))=c.fdiv 256 from Z,show c.fdiv (2 ^ (min (8*(3-((3:Nat):Int))).toNat IntKind.u32.bits))=c.fdiv 1 from Z];rw[zCy _ zB,zCy _ zB,zCy _ zB,zCy _ zB,Int.ediv_one]
def Z5 {s:Int} (h:0<=s):Ux s=Vx s:=by
 rw[Gw h];unfold Ux;simp only[Cq];rw[show s.fdiv (2 ^ (min (24:Int).toNat IntKind.u32.bits))=s.fdiv 16777216 from Z,show s.fdiv (2 ^ (min (16:Int).toNat IntKind.u32.bits))=s.fdiv 65536 from Z,show s.fdiv (2 ^ (min (8:Int).toNat IntKind.u32.bits))=s.fdiv 256 from Z];rw[zCy _ zB,zCy _ zB,zCy _ zB]
def Fw (k:Int) (p:List Int) (z:0<=k) (A:k<=255) (hb:BY p) (u:ln p<=200):zN 215 [iA k,zE yA p] [] (.tup [.ref 1031 0 ((Tb k p).map yA).length,iA 0]) [(1031,.arr 1 ((Tb k p).map yA) true)]:=by
 obtain⟨q,e,_,_,c⟩:=be k p z A hb u;rw[Z5 (xk _).1]at e;rw[show Tb k p=q from e.symm];exact c
theorem Kq (u z:Nat) (c:Int):∀(l:List Int) (i:Nat),i+ln l<=u->aZ u z c i l=(l.map jR).flatten
 | [],i,_=>rfl
 |x::l,i,h=>by
  rw[zA6]at h;rw[aZ,Kq u z c l (i+1) zB,Os (λh2=>by omega)];rfl
def Ew (k:Int) (z A c:Nat) (u E:List Int) (hl:ln u=z+A*c) (hc:c<128):dK z A (c:Int) ⟨k,[],u,E⟩=OM z A c u (ln u)++E:=by
 have I:z<=ln u:=by rw[hl];exact Nat.le_add_right _ _
 have G:jR (c:Int)=[(c:Int)]:=by unfold jR;rw[VJ zB]
 rw[U5 _ _ _ _ zB zB,zBf,G];unfold dK;dsimp only;rw[zD1];by_cases C:A=0
 .subst C;have h1:ln u=z:=by rw[hl];simp
  rw[qp,Os (λh=>h.1 Z),Os zB,zA1 zB,zD3 zB];simp
 .rw[f5 (by omega:(0:Int)<(A:Int))];by_cases B:c=0
  .subst B;have h1:ln u=z:=by rw[hl];simp
   rw[Kq _ _ _ _ _ zB,f5 ⟨C,h1⟩,zA1 zB,zD3 zB];simp
  .have h1:z<ln u:=by
    rw[hl];have:0<A*c:=Nat.mul_pos zB zB;omega
   have e:=FO z A c C (u.drop z) (λh=>by have:=zBb List.length h;rw[zBr,zBx]at this;omega) (u.take z) 0 JD;rw[zEh]at e;rw[e,Os (λh=>by omega)];simp
def R8 (m:Ms) (h:YO m):zN 162 [zW m] [] (.tup [zE yA (Vg m),iA 0]) []:=by
 obtain⟨e0,⟨W,gr,ap,L,M⟩,av⟩:=N5 h;obtain⟨ht,S⟩:=h;rw[e0];clear e0;generalize O5 m=G at *;obtain⟨k,ax,B,I⟩:=m;dsimp only at *;subst ht;have kv:=we S;have E:=S.kk;have hz:=S.z;have au:=S.l
 have v2:zN 70 [zW ⟨k,[],B,I⟩] [] (zE yA G) []:=by
  have V:(0<=(jP k).1/\(jP k).1<=4)/\(0<=(jP k).2.1/\(jP k).2.1<=4)/\(jP k).2.2.2.1<=16:=by
   have:k=13\/k=14\/k=15\/k=16\/k=17\/k=18\/k=19\/k=20\/k=21:=by omega
   clear E kv L M S
   rcases this with rfl|rfl|rfl|rfl|rfl|rfl|rfl|rfl|rfl<;>decide
  obtain⟨⟨f0,f1⟩,⟨r0,r1⟩,ac⟩:=V;have Y:=C8 k E;obtain⟨O,R⟩:∃n:Nat,(jP k).1=(n:Int):=⟨(jP k).1.toNat,zB⟩;obtain⟨A,U⟩:∃n:Nat,(jP k).2.1=(n:Int):=⟨(jP k).2.1.toNat,zB⟩;obtain⟨C,rfl⟩:∃n:Nat,gr=(n:Int):=⟨gr.toNat,zB⟩;rw[R,U]at Y M L;generalize (jP k).2.2.1=lo,(jP k).2.2.2.1=hi,(jP k).2.2.2.2=sd at *
  have u:ln B=O+A*C:=by
   rcases L with⟨q1,q2,q3⟩|⟨q1,q2,_⟩
   .rw[show A=0 by omega,zEa];omega
   .have:((A*C:Nat):Int)=(A:Int)*(C:Int):=by push_cast;rfl
    omega
  have v:=EC k O A lo hi sd Y zB ⟨k,[],B,I⟩ C Z zV NB S.n NB (λ_=>by dsimp only;rw[u,zEs]) zB;rw[Ew k O A C B I u zB,<-M]at v;exact v
 have c2:=Fw k G zB zB W zB;have ag:=gx k G;clear M L S hz;unfold zW at *;dsimp only at*
 have k1:zN 21 [.agg [iA k,zE yA [],zE iA B,zE yA I]] [] (.tup [zE yA G,iA 0]) []:=by
  refine eM call21 λF hF=>?_
  exact mx (xV kv v2)
 generalize Tb k G=f at *;refine eM call162 λF hF=>?_
 refine yG (xV k1 c2) ?_;exact zH [] Z Z (zBb (λz=>AV.tup [AV.sl false z,iA 0]) zAt) Z
def IM (l:List Ms) (hl:ln l<=1002) (h:∀m∈l,YO m):zN 104 [zE zW l] [] (zE yA (PB l)) []:=by
 have C:=zA zW l;refine eM call104 λF hF=>?_
 refine WW ?_;refine zQ 3 1001 1 Z Z Z ?_;refine zU (l) [1001] [] [8,9] [3,10,8,9] Z (λi f4 T U=>⟨(3,.ref 1001 0 ((PB f4).map yA).length)::(10,iA i)::T,(1001,.arr 1 ((PB f4).map yA) true)::U⟩) (Lq ?_ ?_)
 .intro i f4 x post hx hi;have L:=yJ zW hx hi;have A:=zX hx hi;obtain⟨⟨I,_⟩,_⟩:=Gy x (h x (xA hx));have u:=R8 x (h x (xA hx));have E:=Ug (l:=f4) λm B=>h m (by rw[hx];simp[B])
  have G:=zA yA (PB f4);have z:=zA yA (Vg x);rw[Wr,zAy];clear hx;generalize PB f4=X,Vg x=Y at *;unfold zW at *;refine zS u ?_;rfl
 ·(refine WW ?_)
  exact zH [] Z Z (zBb (AV.sl false) zAt) Z
theorem Ii (v:AV):(ZC v).cells=v.cells.map ZC:=by
 cases v with
 |agg cs=>show wkL cs=cs.map ZC;exact oe cs
 |s v=>
  show(ZC (.s v)).cells=[ZC (.s v)]
  unfold ZC
  split<;>rfl
 |_=>rfl
theorem xM.wkl {w:World} {D:Nat->Prop} {c:Value} (hv:xM w D (.sl nn xs) c):xM w D (.sl nn (xs.map ZC)) c:=by
 cases hv with
 |nil a cap=>exact .nil a cap
 |nil1 a cap=>exact .nil1 a cap
 | sl _ _ b o sz cap f hx hL hc h=>
  have hl:(xs.map ZC).length=ln xs:=zAr ..
  have hk:∀(i:Nat) (x:AV),(xs.map ZC)[i]? =some x->∃y,xs[i]? =some y/\x.cells=y.cells.map ZC:=λi x hx=>by
   grind [ZC,Option.map_eq_some_iff,Ii]
  have z:Sz w D (xs.map ZC) b o sz f:=by
   refine⟨hL.lt,hL.nd,hL.pos,by rw[hl];exact hL.max,λi x hx=>?_,λi j hi hj=>hL.cell i j (by rw[hl]at hi;exact hi) hj,λi j hi hj=>hL.one i j (by rw[hl]at hi;exact hi) hj⟩;obtain⟨y,B,A⟩:=hk i x hx;rw[A,zAr];exact hL.wide i y B
  have:=xM.sl nn (xs.map ZC) b o sz cap f (by simpa using hx) z (by rw[hl];exact hc) (λi x j v hi hj=>by
   obtain⟨y,B,A⟩:=hk i x hi;rw[A,zAz,zBa]at hj;obtain⟨u,C,rfl⟩:=hj
   exact(h i y j u B C).wk)
  grind
section
variable {P:Program} {K0:List Nat} {F:Fr K0} {m:Nat} {ops:Array Oper} {rest:List Oper} {fs:List FP} {tm:List (Nat×AV)} {h:List (Nat×xW)}
theorem wK.wkL {a:Act} {w:World} (R:wK F m ⟨tm,h⟩ a w) (t:Nat) {ys:List AV} (hv:zK tm t= .sl nn xs) (C:xs.map ZC=ys):wK F m ⟨(t,.sl nn ys)::tm,h⟩ a w:=by
 obtain⟨⟨X,β,B,H,u,z,I,A⟩,G,gs,hl⟩:=R;refine⟨⟨X,β,B,H,λj=>?_,z,λi hi=>?_,A⟩,G,gs,hl⟩
 .rw[xF];split
  .rename_i hj;subst hj;have:=u j;dsimp only at this;rw[hv]at this
   cases this with
   |fz _ _ E=>exact .fz _ _ (C▸E.wkl)
  .exact u j
 all_goals grind [wK,zK,ZC]
def Q8 {Q:List FP->St->Prop} (t:Nat) {ys:List AV} (hv:zK tm t= .sl nn xs) (u:xs.map ZC=ys) (hk:yN P F m ops false rest ⟨(t,.sl nn ys)::tm,h⟩ fs Q):yN P F m ops false rest ⟨tm,h⟩ fs Q:=
 ⟨λa w R=>hk.run a w (R.wkL t hv u)⟩
end
def zSe:AV:= .agg [bA false,bA false,.s (.slice none 0 0),bA false]
def m6 (c:Cf):PC:=⟨UD c,pb (qS c.ags (ln c.ags)).toNat ⟨false,false,[],false⟩⟩
theorem P8 {α β:Type} [Inhabited α] [Inhabited β] (f:α->β) (l:List α) (k:Nat) (hk:k<ln l):(l.map f).getD k dd=f (l.getD k dd):=by grind
theorem Ky (c:Cf) (h:Qb c):KJ (UD c):=by
 have B:=h.a;have z:(LP c (ln c.ags)).length=ln c.ags:=by simp[LP]
 have u:∀d∈LP c (ln c.ags),∃k:Nat,k<ln c.ags/\d=QW (k:Int) (c.ags.getD k dd) (c.ags.getD k dd).ses.toNat:=λd hd=>by
  grind [UD,LP]
 refine⟨h,rfl,zC1 _,z,λd hd=>?_,λa B=>?_,λd hd=>?_,by simp[UD],by simp[UD],by simp[UD],by simp[UD],λw C=>?_,λk hk=>?_⟩
 .obtain⟨k,hk,rfl⟩:=u d hd;exact N4 (h.av _ (yK c.ags k hk)) k zB
 .have A:a<ln c.ags:=by rw[<-z];exact B
  show((LP c (ln c.ags)).getD a dd).rg.ag=_
  unfold LP;rw[zA0,zAz,zCk A];rfl
 .obtain⟨k,hk,rfl⟩:=u d hd;exact λr G=>by cases G
 .unfold UD at C;obtain⟨j,hj,rfl⟩:=zCa.1 C;exact Wx j (h.jv j hj) _ _
 .have hk':k<ln c.js:=hk;have J:=h.jv _ (yK c.js k hk')
  show JI (c.js.getD k dd) ((c.js.map fN).getD k dd) ((c.js.map IY).getD k dd) 0
  rw[P8 fN c.js k hk',P8 IY c.js k hk'];refine⟨Hl J,by simp[IY,sh],λe E=>?_,zC1 _,(by decide:(0:Int)<=60)⟩;rw[(zEn.1 E).2]
  decide
def O8 (c:Cf) (h:Qb c):Tg (m6 c):=by
 have hb:=qD h.ag (ln c.ags) (zAw _);refine⟨Ky c h,?_,λs u=>?_⟩
 .show((pb _ _).length:Int)=_
  rw[zCq]
  show((qS c.ags (ln c.ags)).toNat:Int)=qS c.ags (ln c.ags)
  omega
 .rw[(zEn.1 u).2];exact⟨jT,zA9 _⟩
def Y5 (b:PC) (k:Int):Bool:=decide (0<=k/\k<(ln b.ss:Int))
def N8 (e:Ev) (s:Ss):Ss:=if e.k=1 then(if s.op=true then s else⟨true,false,[],false⟩)else if e.k=2 then⟨false,false,[],false⟩else Ab s e.y
def Yb (b:PC) (e:Ev):PC:=if Y5 b e.s=true then⟨b.y,b.ss.set e.s.toNat (N8 e (b.ss.getD e.s.toNat dd))⟩else b
def s9:AV:= .agg [.sl false [],.sl false []]
def Hi (y:Cy) (e:Ev):Cy:=if e.k=4 then TY y e.a e.y else RU y e.a e.b
def Dw (d:wC):Int×List Rq:=(d.rg.num,d.rq)
def Gi {α:Type} {l:List α} {i:Nat} {x:α} (h:l[i]? =some x):l.set i x=l:=by
 apply zB0;intro j;rw[zDz];split
 .rename_i e;subst e;have:=(zBj.1 h).1;rw[f5 this,h]
 .rfl
def xe {y:Cy} (u:y.rf=false) (e:Ev):(Hi y e).c=y.c/\(Hi y e).f3=y.f3/\(Hi y e).sg=y.sg/\(Hi y e).sv=y.sv/\(Hi y e).vw=y.vw/\(Hi y e).ds.map Dw=y.ds.map Dw:=by
 unfold Hi;split
 .unfold TY;split
  .rename_i hc;refine⟨rfl,rfl,rfl,rfl,rfl,?_⟩
   show(y.ds.set _ _).map Dw=_
   rw[zCe];refine Gi (zAz.trans ?_);rw[zA0,zBk zB];rfl
  .exact⟨rfl,rfl,rfl,rfl,rfl,rfl⟩
 .unfold RU
  split<;>exact⟨rfl,rfl,rfl,rfl,rfl,rfl⟩
structure X5 where
 b:PC
 S:List (List Int)
 f:List Int
 fl:Bool
structure DvP (b:PC) (e:Ev) (r:X5):Prop where
 s:e.k=1\/e.k=2\/e.k=3->r=⟨Yb b e,[],[],false⟩
 y:e.k=4\/e.k=5->r=⟨⟨Hi b.y e,b.ss⟩,[],[],false⟩
 o:¬(1<=e.k/\e.k<=6)->r=⟨b,[],[],false⟩
 t6:e.k=6->∃(y':Cy) (Td:List (List Ms)),W9 b.y y' (ZB b.ss) Td/\r=⟨⟨y',VU b.ss b.ss.length⟩,Td.map PB,PB [QG (b.y.f3+1) y'.vw],true⟩/\zN 12 [qY b.y,zE uS (ZB b.ss)] [] (.tup [qY y',M5 Td (QG (b.y.f3+1) y'.vw)]) (L5 Td)
def OI (n:Nat) (u:Cy) (X:List AV) (S:AV) (f:Bool) (z:ln X=n):AV.tup [Ia u (.sl false (py n X)),S,bA f]=AV.tup [Ia u (.sl false X),S,bA f]:=by rw[zA1 (zCx z)]
section
variable (b:PC) (h:Tg b)
include h
def Jq:∃N:Nat,ln b.ss=N/\N<=8:=by
 have u:=h.y.v.ag;have h1:=h.l;have h2:=qD u (ln b.y.c.ags) (zAw _);have z:=u.1;exact⟨_,rfl,zB⟩
theorem M8 (e:Ev) (z:BY e.y) (u:ln e.y<=1000000) (r:X5) (D:DvP b e r) (A:r.b.y.rf=false):KT [VT b,jZ e] [] (.tup [VT r.b,Y9 r.S r.f,bA r.fl]) []:=ak
theorem Oa (u:List Ss):VU u (ln u)=u.map λs=>(aA s).1:=by
 unfold VU;apply zB0;intro j;rw[vV,zAz];by_cases hj:j<ln u
 .rw[f5 hj,f5 hj,zBk hj];simp only[zCn,zA0,zBk hj,zDm]
 .rw[Os hj,zB4 zB];rfl
def zAp (B:b.y.f3<1000000000):∃(A:Cy) (z:List (List Ms)),W9 b.y A (ZB b.ss) z/\zN 12 [qY b.y,zE uS (ZB b.ss)] [] (.tup [qY A,M5 z (QG (b.y.f3+1) A.vw)]) (L5 z):=by
 have u:(ZB b.ss).length=ln b.ss:=by unfold ZB;rw[zAr]
 exact Yj b.y h.y B (ZB b.ss) (by rw[u];exact h.l) (λi hi=>by
  unfold ZB at hi;obtain⟨s,C,rfl⟩:=zCa.1 hi
  exact(nr (h.s s C)).2)
end
section
structure EB (b:PC) (e:Ev) (r:X5):Prop extends DvP b e r where
 i:Tg r.b
 c:r.b.y.c=b.y.c
 n:b.y.f3<=r.b.y.f3/\r.b.y.f3<=b.y.f3+1
 t:r.fl=true->r.S.length=b.ss.length
 f6:r.fl=true->e.k=6
 k:KT [VT b,jZ e] [] (.tup [VT r.b,Y9 r.S r.f,bA r.fl]) []
structure i9 (e:Ev):Prop where
 y:BY e.y
 n:e.y.length<=1000000
theorem Ea.g (h:Ea e):i9 e:=⟨h.y,zBw h.n yY⟩
def L8 (u:BY e.y) {s:Ss} (h:S5 s):S5 (N8 e s):=by
 unfold N8;split
 .split
  .exact h
  .exact⟨jT,zA9 _⟩
 .split
  .exact⟨jT,zA9 _⟩
  .exact R5 h u
def K8 (h:Tg b) (A:BY e.y):Tg (Yb b e):=by
 unfold Yb;split
 .refine⟨h.y,by dsimp only;rw[zB5];exact h.l,λs u=>?_⟩;rename_i z;unfold Y5 at z;rw[zAx]at z
  rcases zDt u with u|rfl
  .exact h.s s u
  .exact L8 A (h.s _ (yK b.ss _ zB))
 .exact h
theorem J8 (b:PC) (h:Tg b) (O:b.y.f3<1000000000) (e:Ev) (A:i9 e):∃r,EB b e r:=by
 have u:∀r,DvP b e r->Tg r.b->r.b.y.c=b.y.c->(b.y.f3<=r.b.y.f3/\r.b.y.f3<=b.y.f3+1)->(r.fl=true->ln r.S=ln b.ss)->(r.fl=true->e.k=6)->∃r,EB b e r:=λr D i c n t f=>⟨r,⟨D,i,c,n,t,f,M8 b h e A.y A.n r D i.y.rf⟩⟩
 by_cases h1:e.k=1\/e.k=2\/e.k=3
 .have e1:(Yb b e).y=b.y:=by unfold Yb;split<;>rfl
  exact u ⟨Yb b e,[],[],false⟩ ⟨λ_=>rfl,λh=>zB,λh=>zB,λh=>zB⟩ (K8 h A.y) (by dsimp only;rw[e1]) (by dsimp only;rw[e1];omega) (λh=>(by cases h)) (λh=>(by cases h))
 by_cases h2:e.k=4\/e.k=5
 .have R:KJ (Hi b.y e):=by
   unfold Hi;split
   .exact D8 h.y A.y
   .exact E8 h.y ..
  obtain⟨L,W,_⟩:=xe h.y.rf e;exact u ⟨⟨Hi b.y e,b.ss⟩,[],[],false⟩ ⟨λh=>zB,λ_=>rfl,λh=>zB,λh=>zB⟩ ⟨R,by dsimp only;rw[L];exact h.l,h.s⟩ L NB (λh=>(by cases h)) (λh=>(by cases h))
 by_cases M:e.k=6
 .obtain⟨G,I,z,U⟩:=zAp b h O;have B:(ZB b.ss).length=ln b.ss:=by unfold ZB;rw[zAr]
  refine u ⟨⟨G,VU b.ss (ln b.ss)⟩,I.map PB,PB [QG (b.y.f3+1) G.vw],true⟩ ⟨λh=>zB,λh=>zB,λh=>zB,λ_=>⟨G,I,z,rfl,U⟩⟩ ⟨z.i,?_,λs C=>?_⟩ z.c (by have:=z.n;dsimp only;omega) (λ_=>by dsimp only;rw[zAr,z.l,B]) λ_=>M
  .dsimp only;rw[z.c,Oa b h,zAr];exact h.l
  .dsimp only at C;rw[Oa b h]at C;obtain⟨V,E,rfl⟩:=zCa.1 C;exact(nr (h.s V E)).1
 .exact u ⟨b,[],[],false⟩ ⟨λh=>zB,λh=>zB,λ_=>rfl,λh=>zB⟩ h Z NB (λh=>(by cases h)) (λh=>(by cases h))
open Classical in
noncomputable def i6 (b:PC) (e:Ev):X5:=if h:∃r,EB b e r then h.choose else⟨b,[],[],false⟩
theorem Cw (h:Tg b) (z:b.y.f3<1000000000) (u:i9 e):EB b e (i6 b e):=by grind [i6,J8]
def Iq (h:Tg b) (z:b.y.f3<1000000000) (u:Ea e):EB b e (i6 b e):=Cw h z u.g
theorem EB.st (h:Tg b) {r:X5} (u:Ea e) (D:EB b e r) (A:r.fl=false):r.b.y.f3=b.y.f3/\r.b.y.sg=b.y.sg/\r.b.y.sv=b.y.sv/\r.b.y.vw=b.y.vw/\r.b.y.ds.map Dw=b.y.ds.map Dw:=by
 have hk:=u.k;have hc:(e.k=1\/e.k=2\/e.k=3)\/(e.k=4\/e.k=5)\/e.k=6:=by omega
 rcases hc with hc|hc|hc
 .have e1:(Yb b e).y=b.y:=by unfold Yb;split<;>rfl
  rw[D.s hc]
  grind
 .rw[D.y hc];exact(xe h.y.rf e).2
 .obtain⟨_,_,_,z,_⟩:=D.t6 hc
  grind
end
def Hq (b:PC) (h:Tg b):zN 99 [VT b] [] (Ia b.y (.ref 1021 0 (b.ss.map dB).length)) [(1021,.arr 4 (b.ss.map dB) false)]:=by
 obtain⟨N,hN,B⟩:=Jq b h;have z:=bZ b.y h.y.b;have G:=h.s;have u:=h.y.rf;obtain⟨y,A⟩:=b;dsimp only at *;rw[aR u]at z;have I:=zA dB A;unfold VT Ia;dsimp only;refine eM call99 λF hF=>?_
 refine zS z ?_;refine zQ 4 1021 4 Z Z Z ?_;refine zU (A) [1021,2,3] [2,3] [2,3,12,13] [4,14,2,3,12,13] Z (λi f4 T U=>⟨(4,.ref 1021 0 (f4.map dB).length)::(14,iA i)::T,(1021,.arr 4 (f4.map dB) true)::U⟩) (Lq ?_ ?_)
 .intro i f4 x post hx hi;have M:=yJ dB hx hi;have C:=zX hx hi;have E:(f4.map dB).length=i:=by rw[zAr,hi]
  have L:=OK x (by have:=(G x (xA hx)).n;omega);have e:(f4++[x]).map dB=f4.map dB++[dB x]:=by simp
  clear hx;rw[e];generalize f4.map dB=xs at *;unfold dB at*
  (have ga:=L;(repeat' (first|refine jX ?_|apply yW|apply xI|intro hc|(apply zG;first|(apply yH;refine vC tok Z Z ?_))|refine SB ?_|fail))<;>clear ga)
  rfl
 .refine kF 1021 [4] Z Z Z Z Z ?_;refine WW ?_;exact zP [1021] Z Z Z Z
def Bw (c:Cf) (h:Qb c):zN 41 [wE c] [] (VT (m6 c)) []:=by
 have S:=Ts c h;have B:=Ky c h;have E:=B.rf;have G:=h.ag;have hb:=qD G (ln c.ags) (zAw _);have A:=qD G;have W:=G.1;have I:(UD c).ds.length=ln c.ags:=B.dl
 have u:∀i,i<ln c.ags->(((UD c).ds.getD i dd).au.length:Int)=(c.ags.getD i dd).ses:=λi hi=>by
  have:=(B.di _ (yK (UD c).ds i zB)).au
  rwa [B.dg i zB]at this
 rw[aR E]at S;obtain⟨N,hN⟩:∃N:Nat,qS c.ags (ln c.ags)=(N:Int):=⟨(qS c.ags (ln c.ags)).toNat,zB⟩
 have M:VT (m6 c)= .agg [zE wJ (UD c).c.js,zE uI (UD c).c.ags,iA (UD c).c.per,iA (UD c).c.cap,iA (UD c).c.hold,iA (UD c).c.lock,bA false,iA (UD c).f3,zE zM (UD c).ds,zE vE (UD c).sg,zE wW (UD c).sv,zE iA (UD c).st,zE vR (UD c).vw,.sl false (pb N (.agg [bA false,bA false,zE yA [],bA false]))]:=by
  unfold VT Ia m6;dsimp only;rw[hN];unfold zE;rw[zEf];rfl
 rw[M];clear M E B;generalize UD c=z at *;have L:=zA zM z.ds;refine eM call41 λF hF=>?_
 refine zS S ?_;refine zO ((z.ds.map zM).length) [2,3] [2,3] [2,3,12,13] [4,14,2,3,12,13] Z (λi T U=>⟨(4,iA (qS c.ags i))::(14,iA i)::T,U⟩) (Lq ?_ ?_)
 .intro i hi;have V:=zJ zM z.ds i zB;have O:=u i zB;have h2:=A i zB;have R:=G.at (i:=i) zB;have C:=zA bA (z.ds.getD i dd).au;rw[show qS c.ags (i+1)=qS c.ags i+(c.ags.getD i dd).ses from Z,<-O,<-C];rw[<-C]at O;clear u A;generalize qS c.ags i=s,c.ags.getD i dd=a,z.ds.getD i dd=d at *;unfold zM xD zE at V;refine WW ?_;rfl
 .rw[L,I,hN];rw[hN]at hb;clear u A
  (repeat' (first|refine uT ?_|apply yW|apply xI|intro hc|(apply zG;first|(apply fP;refine bD 1021 tok Z Z Z Z Z Z Z Z Z Z Z Z Z zB zB Z Z Z ?_;refine vU [1,2,3] [1,2,3,25] Z ?_;(conv=>whnf);(try simp only[zBd]);refine Q8 25 Z Z ?_))|fail))
  refine zH [] Z Z ?_ Z
  show AV.agg [zE wJ z.c.js,zE uI z.c.ags,iA z.c.per,iA z.c.cap,iA z.c.hold,iA z.c.lock,bA false,iA z.f3,zE zM z.ds,zE vE z.sg,zE wW z.sv,zE iA z.st,zE vR z.vw,.sl false (List.map ZC (py N (pb N zSe)))]=_
  rw[zA1 (by rw[zCq];exact zAw _),zEf];rfl
def rj (b:PC) (e:Ev):List Ss:=if e.k=1\/e.k=2\/e.k=3 then(Yb b e).ss else b.ss
def Aw (b:PC) (e:Ev):(rj b e).length=ln b.ss:=by
 unfold rj Yb;split
 .split
  .exact zB5 ..
  .rfl
 .rfl
theorem I8 (b:PC) (h:Tg b) (az:KI b.y.ds) (hn:b.y.f3<1000000000) (e:Ev) (he:i9 e) (r:X5) (D:EB b e r):zN 43 [VT b,jZ e] [] (.tup [VT r.b,Y9 r.S r.f,bA r.fl]) []:=by
 obtain⟨N,hN,bl⟩:=Jq b h;have k1:=Hq b h;have hs:=h.s;have E:=h.y;have bz:=he.y;have bu:=he.n;have O:=zA dB b.ss;have a9:=Aw b e;have ba:((rj b e).map dB).length=ln b.ss:=by rw[zAr];exact a9
 have z:Y5 b e.s=decide (0<=e.s/\e.s<(ln b.ss:Int)):=rfl
 have hd:Y5 b e.s=true->(rj b e).map dB=(b.ss.map dB).set e.s.toNat (dB (if e.k=1\/e.k=2\/e.k=3 then N8 e (b.ss.getD e.s.toNat dd)else b.ss.getD e.s.toNat dd)):=λG=>by
  have ap:=G;rw[z,zAx]at ap;have hy:=yE dB b.ss e.s ap.1 ap.2;unfold rj Yb;split
  .show List.map dB (b.ss.set e.s.toNat _)=_
   rw[zCe]
  .exact(YJ hy).symm
 have L:Y5 b e.s=false->rj b e=b.ss:=λG=>by
  unfold rj Yb;rw[G]
  split<;>rfl
 have a2:e.k=1\/e.k=2\/e.k=3->(Yb b e).ss=rj b e/\(Yb b e).y=b.y:=λhk=>by
  unfold rj;rw[f5 hk];refine⟨rfl,?_⟩;unfold Yb
  split<;>rfl
 have a3:¬(e.k=1\/e.k=2\/e.k=3)->rj b e=b.ss:=λhk=>by
  unfold rj;rw[Os hk]
 have R:=D.i.y.rf;have Ds:=D.s;have Dy:=D.y;have Dt:=D.t6;have Dn:=D.o;clear D;unfold VT Ia at *;unfold jZ;refine eM call43 λF hF=>?_
 apply xY;apply xR
 (repeat' (first|refine WS ?_|refine SG (I2 (λhc=>?_) λhc=>?_)|refine SG λhc=>?_|(apply zG;first|refine SM ?_)|(first|apply xY|apply xJ)|fail))
 apply xR
 (have ga:=k1;(repeat' (first|refine WS ?_|refine SG (I2 (λhc=>?_) λhc=>?_)|refine SG λhc=>?_|(apply zG;first|refine SM ?_)|(first|apply xY|apply xJ)|fail))<;>clear ga)
 rw[O];generalize b0:e=e0 at *;obtain⟨u,B,C,V,I⟩:=e0;dsimp only at *;generalize bs:rj b ⟨u,B,C,V,I⟩=ds at *;refine eQ [3,4,5,7,1021] [3,4,5,6,7,32] ⟨[(3,.ptr 3 0 0),(4,.ptr 4 0 0),(5,.ptr 5 0 0),(6,bA false),(7,.ptr 7 0 0),(32,bA (Y5 b B))],[(3,.box [iA u,iA B,iA C,iA V,zE yA I]),(4,.box [.s (.slice none 0 0),.s (.slice none 0 0),iA 0,iA 0,iA 0,iA 0,bA false,iA 0,.s (.slice none 0 0),.s (.slice none 0 0),.s (.slice none 0 0),.s (.slice none 0 0),.s (.slice none 0 0),.s (.slice none 0 0)]),(5,.box [.s (.slice none 0 0),.s (.slice none 0 0)]),(7,.box [zE wJ b.y.c.js,zE uI b.y.c.ags,iA b.y.c.per,iA b.y.c.cap,iA b.y.c.hold,iA b.y.c.lock,bA false,iA b.y.f3,zE zM b.y.ds,zE vE b.y.sg,zE wW b.y.sv,zE iA b.y.st,zE vR b.y.vw,.ref 1021 0 (ln b.ss)]),(1021,.arr 4 (b.ss.map dB) false)]⟩ rfl ?_ ?_
 .clear k1 hd L;by_cases h0:0<=B
  .by_cases h1:B<(ln b.ss:Int)
   .rw[z,zAu ⟨h0,h1⟩];refine WW ?_;exact⟨rfl,rfl⟩
   .rw[z,zAs (λh=>h1 h.2)];refine WW ?_;exact⟨rfl,rfl⟩
  .rw[z,zAs (λh=>h0 h.1)];refine WW ?_;exact⟨rfl,rfl⟩
 refine eQ [3,4,5,7,1021] [3,4,5,6,7] ⟨[(3,.ptr 3 0 0),(4,.ptr 4 0 0),(5,.ptr 5 0 0),(6,bA false),(7,.ptr 7 0 0)],[(3,.box [iA u,iA B,iA C,iA V,zE yA I]),(4,.box [.s (.slice none 0 0),.s (.slice none 0 0),iA 0,iA 0,iA 0,iA 0,bA false,iA 0,.s (.slice none 0 0),.s (.slice none 0 0),.s (.slice none 0 0),.s (.slice none 0 0),.s (.slice none 0 0),.s (.slice none 0 0)]),(5,.box [.s (.slice none 0 0),.s (.slice none 0 0)]),(7,.box [zE wJ b.y.c.js,zE uI b.y.c.ags,iA b.y.c.per,iA b.y.c.cap,iA b.y.c.hold,iA b.y.c.lock,bA false,iA b.y.f3,zE zM b.y.ds,zE vE b.y.sg,zE wW b.y.sv,zE iA b.y.st,zE vR b.y.vw,.ref 1021 0 (ln b.ss)]),(1021,.arr 4 (ds.map dB) false)]⟩ rfl ?_ ?_
 .cases G:Y5 b B
  .rw[L G];refine WW ?_;exact⟨rfl,rfl⟩
  .rw[hd G];rw[z,zAx]at G;obtain⟨h0,h1⟩:=G;have hy:=yE dB b.ss B h0 h1;have hI:=hs _ (yK b.ss B.toNat zB);have a6:=hI.n;have ko:=sr (b.ss.getD B.toNat dd) zB;have kd:=Zr (b.ss.getD B.toNat dd);have kr:=jx (b.ss.getD B.toNat dd) a6 I zB;clear hd L z hI k1;unfold N8;dsimp only;generalize b.ss.getD B.toNat dd=s at *;have hk:u=1\/u=2\/u=3\/(¬u=1/\¬u=2/\¬u=3):=by omega
   rcases hk with rfl|rfl|rfl|⟨n1,n2,n3⟩
   .rw[f5 (.inl Z),f5 Z];generalize (if s.op=true then s else⟨true,false,[],false⟩:Ss)=s1 at *;refine zS ko ?_;exact⟨rfl,rfl⟩
   .rw[f5 (.inr (.inl Z)),Os yY,f5 Z];refine zS kd ?_;exact⟨rfl,rfl⟩
   .rw[f5 (.inr (.inr Z)),Os yY,Os yY];refine zS kr ?_;exact⟨rfl,rfl⟩
   .rw[Os zB];refine WW ?_;exact⟨rfl,rfl⟩
 clear hd L z k1;by_cases M:u=1\/u=2\/u=3
 .rw[Ds M];obtain⟨e1,e2⟩:=a2 M;dsimp only;rw[e1,e2]
  rcases M with rfl|rfl|rfl
  all_goals
   refine WW ?_;exact zH [] Z Z (OI _ b.y _ s9 false ba) Z
 have e4:=a3 M;subst e4;by_cases bb:1<=u/\u<=6
 case neg=>
  rw[Dn bb];have n4:¬u=4:=by omega
  have n5:¬u=5:=by omega
  have n6:¬u=6:=by omega
  refine WW ?_;exact zH [] Z Z (OI _ b.y _ s9 false O) Z
 by_cases a4:u=6
 case neg=>
  have W:u=4\/u=5:=by omega
  have bf:=Dy W;have av:=yx b.y E C I zB;have ax:=Fq b.y E C V;rw[bf]at R⊢;dsimp only at R⊢;rw[aR E.rf]at av ax
  rcases W with rfl|rfl
  .rw[show Hi b.y ⟨4,B,C,V,I⟩=TY b.y C I from Z]at R⊢;rw[aR R]at av;generalize TY b.y C I=A at *;refine zS av ?_;exact zH [] Z Z (OI _ A _ s9 false O) Z
  .rw[show Hi b.y ⟨5,B,C,V,I⟩=RU b.y C V from Z]at R⊢;rw[aR R]at ax;generalize RU b.y C V=A at *;refine zS ax ?_;exact zH [] Z Z (OI _ A _ s9 false O) Z
 obtain⟨A,Td,hM,G,_⟩:=Dt a4;subst a4;subst G;dsimp only at R⊢;obtain⟨hT,a5,a1⟩:=hM.tk;have bd:(ZB b.ss).length=ln b.ss:=by unfold ZB;rw[zAr]
 have kt:=ur b.y E az hn (ZB b.ss) (by have:=h.l;omega) (Ha b.y (ZB b.ss)) hT (λi=>(bF ..).1) (λi=>(bF ..).2);rw[<-a5,<-a1]at kt;rw[aR E.rf,aR R,show∀f,X6 Td f= .agg [.sl false (Td.map kY),zE zW [f]]from λ_=>rfl]at kt;have ac:=hM.v;have a7:=hM.l;rw[bd]at a7;have kf:=IM [QG (b.y.f3+1) A.vw] zV (λm hm=>by rw[zBl.1 hm];exact hM.f);generalize QG (b.y.f3+1) A.vw=fm at *;clear hT a5 a1 hM a2 a3 Ds Dy Dt;have z:∀i∈ZB b.ss,i=i:=λ_ _=>rfl
 have ag:∀i,(((b.ss.take i).map λs=>(aA s).2).map uS).length<=ln b.ss:=λi=>by rw[zAr,zAr,zBg];omega
 have au:∀i,((VU b.ss i).map dB).length=ln b.ss:=λi=>by unfold VU;rw[zAr,wZ]
 have ar:VU b.ss 0=b.ss:=qN _ _;clear z;refine WW ?_;refine zQ 9 1022 2 Z Z Z ?_;refine zO (ln b.ss) [1021,1022,4,5,7] [4,5,7] [4,5,7,86,87] [9,88,4,5,7,86,87] Z (λi T U=>⟨(9,.ref 1022 0 (((b.ss.take i).map λs=>(aA s).2).map uS).length)::(88,iA i)::T,(1021,.arr 4 ((VU b.ss i).map dB) false)::(1022,.arr 2 (((b.ss.take i).map λs=>(aA s).2).map uS) true)::U⟩) ?_;(conv=>whnf);refine⟨by(rw[ar];rfl),?_,?_⟩
 .intro i hi;have b3:((VU b.ss i).map dB)[i]? =some (dB (b.ss.getD i dd)):=by rw[zAz];unfold VU;rw[vV,f5 hi,Os (zDo i)];rfl
  have e1:(VU b.ss (i+1)).map dB=((VU b.ss i).map dB).set i (dB (aA (b.ss.getD i dd)).1):=by unfold VU;rw[vN _ _ _ _ hi]
  have e2:((b.ss.take (i+1)).map λs=>(aA s).2).map uS=((b.ss.take i).map λs=>(aA s).2).map uS++[uS (aA (b.ss.getD i dd)).2]:=by
   rw[zDk hi,zAy,zAy,zA0,zBk hi];rfl
  have hI:=hs _ (yK b.ss i hi);have kk:=Xr (b.ss.getD i dd) hI.y (by have:=hI.n;omega);have h1:=au i;have h2:=ag i;rw[e1,e2];clear e1 e2 ag ar hI hs ac kt kf au;generalize (VU b.ss i).map dB=X,((b.ss.take i).map λs=>(aA s).2).map uS=Y,(aA (b.ss.getD i dd)).1=s1,(aA (b.ss.getD i dd)).2=n1 at *;generalize b.ss.getD i dd=s0 at *;unfold uS at kk⊢
  (have ga:=kk;(repeat' (first|refine jX ?_|apply yW|apply xI|intro hc|(apply zG;first|(apply yH;refine vC tok Z Z ?_))|refine SB ?_|fail))<;>clear ga)
  rfl
 .have a8:((b.ss.take (ln b.ss)).map λs=>(aA s).2)=ZB b.ss:=by rw[zAt];rfl
  have br:=zA kY Td;rw[a8];refine wI [3,4,5,7,1021] [3,4,5,6,7,9,86,87,88] Z ?_
  (conv=>whnf)
  simp only[zBd,zAt];clear ag ar;refine yG (xV kt kf) ?_;refine zQ 17 1023 1 Z Z Z ?_;refine zU (Td) [1023,4,5,7,16,1021] [4,5,7,16,1021] [4,5,7,16,122,123] [17,124,4,5,7,16,122,123] Z (λi f4 T U=>⟨(17,.ref 1023 0 ((f4.map PB).map (zE yA)).length)::(124,iA i)::T,(1023,.arr 1 ((f4.map PB).map (zE yA)) true)::U⟩) (Lq ?_ ?_)
  .intro i f4 x post hx hi;have bk:=yJ kY hx hi;have b1:=zX hx hi;obtain⟨v1,v2⟩:=ac x (xA hx);have kg:=IM x v1 v2;have b2:((f4.map PB).map (zE yA)).length=i:=by rw[zAr,zAr,hi]
   rw[show((f4++[x]).map PB).map (zE yA)=(f4.map PB).map (zE yA)++[zE yA (PB x)] by simp];unfold kY at bk;clear hx ac kt kf v2;generalize (f4.map PB).map (zE yA)=Y,PB x=bx at *
   (have ga:=kg;(repeat' (first|refine jX ?_|apply yW|apply xI|intro hc|(apply zG;first|(apply yH;refine vC tok Z Z ?_))|refine SB ?_|fail))<;>clear ga)
   rfl
  ·(refine WW ?_)
   refine zH [] Z Z ?_ Z
   show AV.tup [AV.agg [zE wJ A.c.js,zE uI A.c.ags,iA A.c.per,iA A.c.cap,iA A.c.hold,iA A.c.lock,bA false,iA A.f3,zE zM A.ds,zE vE A.sg,zE wW A.sv,zE iA A.st,zE vR A.vw,.sl false (py (ln b.ss) ((VU b.ss (ln b.ss)).map dB))],AV.agg [.sl false (py ((Td.map PB).map (zE yA)).length ((Td.map PB).map (zE yA))),_],bA true]=_
   rw[zAt,zA1 (zCx (au _))];rfl
def W5 {a b:List wC} (h:a.map Dw=b.map Dw) (H:KI b):KI a:=λi hi=>by
 have hl:=zBb List.length h;rw[zAr,zAr]at hl;have e:(a.map Dw)[i]? =(b.map Dw)[i]? :=zBb (·[i]?) h;rw[zAz,zAz,zBk hi,zBk zB]at e;have u:=zBb Prod.fst (zD2 e);have:=H i zB;rw[zA0,zBk zB]at this;rw[zA0,zBk hi];exact u.trans this
def V5 (h:Tg b) (hN:KI b.y.ds) {r:X5} (D:EB b e r):KI r.b.y.ds:=by
 by_cases h1:e.k=1\/e.k=2\/e.k=3
 .rw[D.s h1];unfold Yb
  split<;>exact hN
 by_cases h2:e.k=4\/e.k=5
 .rw[D.y h2];exact W5 (xe h.y.rf e).2.2.2.2.2 hN
 by_cases z:e.k=6
 .obtain⟨G,E,A,B,_⟩:=D.t6 z;rw[B];obtain⟨hT,C,_⟩:=A.tk;dsimp only;rw[C];intro a u;rw[show(qC b.y (Ha b.y (ZB b.ss))).ds=eW (b.y.f3+1) b.y.ds (Ha b.y (ZB b.ss)) (ln b.y.ds) from Z]at u⊢;rw[fW]at u;rw[aC u,(hT a u).1.num];exact hN a u
 .rw[D.o zB];exact hN
def zx (c:Cf):KI (UD c).ds:=λi hi=>by
 have hl:(UD c).ds.length=ln c.ags:=by simp[UD,LP]
 show((LP c (ln c.ags)).getD i dd).rg.num=_
 unfold LP;rw[zA0,zAz,zCk zB];rfl
def TX (l:List Ev) (e:Ev):(l++[e]).map jZ=l.map jZ++[jZ e]:=by simp
theorem KP.app2 {a b:List Ev} {n m:Nat} (h:KP a n) (h2:KP b m):KP (a++b) (n+m):=
 ⟨by have:=h.1;have:=h2.1;rw[zAv];omega,λx hx=>(zBc.1 hx).elim (h.2 x) (h2.2 x)⟩
theorem KP.of {l:List Ev} (h:∀e∈l,Ea e):KP l (ln l):=⟨zAw _,h⟩
def Cr:Ev:=⟨6,0,0,0,[]⟩
def tg:Ea Cr:=yj zB zB zB zB jT zV
def H8 (s:Nat):Ev:=⟨1,s,0,0,[]⟩
structure BtR (c:Cf) (cm:Bool) (g:Int) (d:Dk) (b:List Int) (d':Dk) (m0 m1:Ms) (dA dC:Dk) (q0 q1 b2:List Int) (d5:Dk):Prop where
 k0:zN 20 [.ptr 1000 0 0,wE c,iA g,bA cm] [(1000,eE d)] (zW m0) [(1000,eE dA)]
 f0:zN 95 [zW m0] [] (.ref 1031 0 (q0.map yA).length) [(1031,.arr 1 (q0.map yA) true)]
 k1:zN 20 [.ptr 1000 0 0,wE c,iA g,bA cm] [(1000,eE (ad dA))] (zW m1) [(1000,eE dC)]
 f1:zN 95 [zW m1] [] (zE yA q1) []
 h2:b2=if nx dA 3=2 then q0++q1 else q0
 h5:d5=if nx dA 3=2 then dC else ad dA
 sp:cm=false->nx d5 7=6->zN 98 [zE yA b2,iA (nx (ad d5) 99),iA (nx (ad (ad d5)) 1024)] [] (zE yA b) []
 hb:¬(cm=false/\nx d5 7=6)->b=b2
 hd:d'=if cm=true then d5 else if nx d5 7=6 then ad (ad (ad d5))else ad d5
 l0:q0.length<=210
 l1:q1.length<=210
theorem G8 (c:Cf) (hc:IG c) (B:Bool) (g:Int) (R:0<=g/\g<256) (d:Dk):∃(b:List Int) (O:Dk),(BY b/\b.length<=1000/\rem O<=rem d)/\∃I L A G E q1 z u,BtR c B g d b O I L A G E q1 z u:=by
 obtain⟨I,A,V,r0,W⟩:=ZW c hc g R B d;obtain⟨E,y0,l0,S,_⟩:=DL I V;obtain⟨L,G,h1,r1,Y⟩:=ZW c hc g R B (ad A);obtain⟨q1,y1,l1,U⟩:=DM L h1;have ra:=vF A
 obtain⟨z,M⟩:∃z,z=if nx A 3=2 then E++q1 else E:=⟨_,rfl⟩
 obtain⟨u,C⟩:∃u,u=if nx A 3=2 then G else ad A:=⟨_,rfl⟩
 have yb:BY z/\z.length<=420:=by
  grind [IG,Dk,BY,rem]
 have r5:rem u<=rem d:=by rw[C];split<;>omega
 have r6:=vF u;have r7:=vF (ad u);have r8:=vF (ad (ad u));have b7:=yQ (ad (ad u)) 1024 zB;obtain⟨q,yq,lq,kq⟩:=Qi z yb.1 zB (nx (ad u) 99) (nx (ad (ad u)) 1024) zB;refine⟨if B=false/\nx u 7=6 then q else z,if B=true then u else if nx u 7=6 then ad (ad (ad u))else ad u,⟨?_,?_,?_⟩,I,L,A,G,E,q1,z,u,W,S,Y,U,M,C,λh1 h2=>?_,λh=>Os h,rfl,l0,l1⟩
 all_goals grind
def Z9 (c:Cf) (n:Nat) (z:Bool) (p q:List Ev×Dk):Prop:=
 (nx (ad p.2) 12<=3/\q=(p.1++[Cr],ad (ad p.2)))\/
 (nx (ad p.2) 12=4/\q=(p.1++pb (nx (ad (ad p.2)) 6+1).toNat Cr,ad (ad (ad p.2))))\/
 (nx (ad p.2) 12=5/\∃e u,q=(p.1++[e],u)/\zN 96 [.ptr 1000 0 0,wE c,iA (nx p.2 (max 1 (n:Int))),bA z] [(1000,eE (ad (ad p.2)))] (jZ e) [(1000,eE u)])\/
 (6<=nx (ad p.2) 12/\∃b u,q=(p.1++[⟨3,nx p.2 (max 1 (n:Int)),0,0,b⟩],u)/\∃G I C E L q1 A B,BtR c z (Rb c.ags (nx p.2 (max 1 (n:Int)))) (ad (ad p.2)) b u G I C E L q1 A B)
theorem F8 (c:Cf) (hc:IG c) (L:LL c.ags) (n:Nat) (Y:n<=8) (z:Bool) (p:List Ev×Dk) (C:∀e∈p.1,Ea e) (hl:p.2.a<p.2.l.length):
  ∃q,Z9 c n z p q/\(∀e∈q.1,Ea e)/\p.1.length<q.1.length/\q.1.length<=p.1.length+6/\rem q.2<rem p.2:=by
 obtain⟨l,d⟩:=p;dsimp only at C hl;have r0:=T4 d hl;have r1:=vF (ad d);have S:=yQ d (max 1 (n:Int)) zB;have U:=yQ (ad d) 12 zB;have V:=yQ (ad (ad d)) 6 zB;have r2:=vF (ad (ad d));have u:∀e,Ea e->∀x∈l++[e],Ea x:=λe B x hx=>(zBc.1 hx).elim (C x) λhx=>by rw[zBl.1 hx];exact B
 have len:∀e:Ev,(l++[e]).length=ln l+1:=λe=>by rw[zAv,zCr]
 by_cases E:nx (ad d) 12<=3
 .exact⟨_,.inl ⟨E,rfl⟩,u _ tg,by dsimp only;rw[len];omega,by dsimp only;rw[len];omega,by dsimp only;omega⟩
 by_cases G:nx (ad d) 12=4
 .refine⟨_,.inr (.inl ⟨G,rfl⟩),λx hx=>(zBc.1 hx).elim (C x) λhx=>by rw[(zEn.1 hx).2];exact tg,?_,?_,by dsimp only;omega⟩
  all_goals grind
 by_cases I:nx (ad d) 12=5
 .obtain⟨e,A,B,M,k⟩:=mz c (nx d (max 1 (n:Int))) zB zB z (ad (ad d));exact⟨_,.inr (.inr (.inl ⟨I,e,A,rfl,k⟩)),u _ B,by dsimp only;rw[len];omega,by dsimp only;rw[len];omega,by dsimp only;omega⟩
 .have W:=nz L (nx d (max 1 (n:Int)));obtain⟨b,A,⟨R,O,M⟩,h⟩:=G8 c hc z (Rb c.ags (nx d (max 1 (n:Int)))) zB (ad (ad d));exact⟨_,.inr (.inr (.inr ⟨by dsimp only;omega,b,A,rfl,h⟩)),u _ (show Ea ⟨3,nx d (max 1 (n:Int)),0,0,b⟩from yj zB zB zB zB R O),by dsimp only;rw[len];omega,by dsimp only;rw[len];omega,by dsimp only;omega⟩
theorem Ei (c:Cf) (hc:IG c) (U:LL c.ags) (n:Nat) (V:n<=8) (E:Bool) (l:List Ev) (d:Dk) (hl:KP l 100):
  ∃(f:Nat->List Ev×Dk) (N:Nat),f 0=(l,d)/\(∀i,i<N->Z9 c n E (f i) (f (i+1))/\(f i).2.a<(f i).2.l.length/\(f i).1.length<150)/\¬((f N).2.a<(f N).2.l.length/\(f N).1.length<150)/\KP (f N).1 156/\∀i,i<=N->(f i).1.length<=156:=by
 obtain⟨f,L,G⟩:=IK (λ_ (p:List Ev×Dk)=>∀e∈p.1,Ea e) (λ_ p q=>p.2.a<p.2.l.length->Z9 c n E p q/\p.1.length<q.1.length/\q.1.length<=p.1.length+6/\rem q.2<rem p.2)
  (λi p M=>by
   by_cases h:p.2.a<p.2.l.length
   .obtain⟨q,h1,h2,O,R,S⟩:=F8 c hc U n V E p M h;exact⟨q,λ_=>⟨h1,O,R,S⟩,h2⟩
   .exact⟨p,λh'=>absurd h' h,M⟩) (l,d) hl.2
 have I:∃k,¬((f k).2.a<(f k).2.l.length/\(f k).1.length<150):=by
  refine zDc λhc=>?_
  have u:∀k,(f k).2.a<(f k).2.l.length/\(f k).1.length<150:=λk=>zDc λh=>hc ⟨k,h⟩
  have A:∀k,k<=(f k).1.length:=λk=>by
   induction k with
   |zero=>exact zA9 _
   |succ k W=>have:=((G k).2 (u k).1).2.1;omega
  have:=A 150
  grind
 obtain⟨k,hk⟩:=I;obtain⟨N,_,hN,C⟩:=So (P:=λk=>¬((f k).2.a<(f k).2.l.length/\(f k).1.length<150)) k hk;have B:∀i,i<N->(f i).2.a<(f i).2.l.length/\(f i).1.length<150:=λi hi=>zDc λh=>C i hi h
 have z:∀i,i<=N->(f i).1.length<=156:=λi hi=>by
  cases i with
  |zero=>rw[L];have:=hl.1;dsimp only;omega
  |succ i=>
   grind
 exact⟨f,N,L,λi hi=>⟨((G i).2 (B i hi).1).1,B i hi⟩,hN,⟨z N (zAw _),(G N).1⟩,z⟩
def Gq (g:Nat):Ev:=⟨4,0,g,0,cL (2000+10*g)⟩
def sj (c:Cf) (F:Nat×Nat->List Int) (g v:Nat):Ev:=⟨3,Fa c.ags g (ln c.ags),0,0,F (g,v)⟩
def Br (i:Nat):List Ev:=(pi i).map H8
def ig (c:Cf) (F:Nat×Nat->List Int) (n:Nat):Nat->List Ev
 |0=>Br n
 |g+1=>ig c F n g++[Gq g]++(pi 3).map (sj c F g)
theorem Ci (c:Cf) (hc:IG c) (ha:LL c.ags) (cm:Bool) (d:Dk):∃(l:List Ev) (d':Dk),KP l 160/\zN 42 [.ptr 1000 0 0,wE c,bA cm] [(1000,eE d)] (zE jZ l) [(1000,eE d')]:=by
 have ks:=Cs c ha;have ax:=qD ha (ln c.ags) (zAw _);have a4:=ha.1;obtain⟨n,hn⟩:∃n:Nat,qS c.ags (ln c.ags)=(n:Int):=⟨(qS c.ags (ln c.ags)).toNat,zB⟩;rw[hn]at ks;have a2:n<=8:=by omega
 clear ax hn;have av:=zA uI c.ags
 obtain⟨B,R⟩:=Classical.skolem.1 (λp:Nat×Nat=>show∃q,p.1<4/\p.2<3->BY q/\q.length<=210/\zN 95 [zW ⟨4,(p.1:Int)::0::cL (1000+(p.1:Int)),[(p.2:Int),(p.2:Int).tmod 2],[]⟩] [] (zE yA q) []from by
  by_cases h:p.1<4/\p.2<3
  .obtain⟨q,h1,h2,h3⟩:=DM _ (lz (p.1:Int) (p.2:Int) zB zB);exact⟨q,λ_=>⟨h1,h2,h3⟩⟩
  .exact⟨[],λh'=>absurd h' h⟩)
 have L:∀g,g<=ln c.ags->KP (ig c B n g) (n+4*g):=λg=>by
  induction g with
  |zero=>
   intro _;refine⟨by simp[ig,Br],λe he=>?_⟩;obtain⟨s,hs,rfl⟩:=zCa.1 he;rw[zBi]at hs;exact yj zB zB zB zB jT zV
  | succ g ih=>
   intro hg;have h1:=Sb ha (g:Int) (ln c.ags) (zAw _);have h2:KP [Gq g] 1:=⟨zAw _,λe he=>by rw[zBl.1 he];exact yj zB zB zB zB (OE _) (by rw[gZ];omega)⟩
   have h3:KP ((pi 3).map (sj c B g)) 3:=⟨by simp,λe he=>by
    obtain⟨v,hv,rfl⟩:=zCa.1 he;rw[zBi]at hv;obtain⟨q1,q2,_⟩:=R (g,v) ⟨by dsimp only;omega,hv⟩
    exact yj zB zB zB zB q1 zB⟩
   exact(((ih zB).app2 h2).app2 h3).le zB
 have hL:=(L (ln c.ags) (zAw _)).app tg;obtain⟨f,N,O,hf,ac,S,au⟩:=Ei c hc ha n a2 cm (ig c B n (ln c.ags)++[Cr]) d (hL.le zB);refine⟨(f N).1++[Cr],(f N).2,(S.app tg).le zB,?_⟩;unfold wE at *;refine eM call42 λF hF=>?_
 refine zS ks ?_;refine zQ 7 1001 5 Z Z Z ?_;refine zO (n) [1001,4,1000] [4,1000] [0,2,4,8,17] [7,18,0,2,4,8,17] Z (λi T U=>⟨(7,.ref 1001 0 ((Br i).map jZ).length)::(18,iA i)::T,(1001,.arr 5 ((Br i).map jZ) true)::U⟩) (Lq ?_ ?_)
 .intro i hi;have e:(Br (i+1)).map jZ=(Br i).map jZ++[jZ (H8 i)]:=by unfold Br;rw[zCs,zAy];simp
  have az:((Br i).map jZ).length=i:=by simp[Br]
  rw[e];generalize (Br i).map jZ=X at*
  (repeat' (first|refine jX ?_|apply yW|apply xI|intro hc|(apply zG;first|(apply yH;refine ZU 23 Z Z Z ?_;refine vC tok Z Z ?_))|refine SB ?_|fail))
  rfl
 ·(refine WW ?_)
  refine zO ((c.ags.map uI).length) [1001,4,1000] [4,1000] [0,2,4,8,29] [7,30,0,2,4,8,29] Z (λi T U=>⟨(7,.ref 1001 0 ((ig c B n i).map jZ).length)::(30,iA i)::T,(1001,.arr 5 ((ig c B n i).map jZ) true)::U⟩) (Lq ?_ ?_)
  .intro g hg;have kc:=cE (2000+10*(g:Int));have kb:=Bs c ha (g:Int);have kt:=cE (1000+(g:Int));have ky:=YA (g:Int) 0 (cL (1000+(g:Int))) (by rw[gZ];omega) zB zB zB zB;have az:=(L g zB).1;have a3:((ig c B n g).map jZ).length=(ig c B n g).length:=zAr ..;have e2:(ig c B n (g+1)).map jZ=((ig c B n g).map jZ++[jZ (Gq g)])++((pi 3).map (sj c B g)).map jZ:=by simp[ig]
   rw[e2];unfold wE at kb;generalize (ig c B n g).map jZ=X at*
   (have ga:=kc;(repeat' (first|refine jX ?_|apply yW|apply xI|intro hc|(apply zG;first|(apply yH;refine vC tok Z Z ?_))|refine SB ?_|fail))<;>clear ga)
   refine zO (3) [1001,4,1000] [4,1000] [0,2,4,8,10,29,30] [7,42,0,2,4,8,10,29,30] Z (λi T U=>⟨(7,.ref 1001 0 (X++[jZ (Gq g)]++((pi i).map (sj c B g)).map jZ).length)::(42,iA i)::T,(1001,.arr 5 (X++[jZ (Gq g)]++((pi i).map (sj c B g)).map jZ) true)::U⟩) ?_;(conv=>whnf);refine⟨by(rw[show X++[jZ (Gq g)]++((pi 0).map (sj c B g)).map jZ=X++[jZ (Gq g)]from zBn _];rfl),?_,?_⟩
   .intro v hv;have kf:=(R (g,v) ⟨by dsimp only;omega,hv⟩).2.2;dsimp only at kf;have e3:X++[jZ (Gq g)]++((pi (v+1)).map (sj c B g)).map jZ=X++[jZ (Gq g)]++((pi v).map (sj c B g)).map jZ++[jZ (sj c B g v)]:=by rw[zCs];simp
    have a5:(X++[jZ (Gq g)]++((pi v).map (sj c B g)).map jZ).length<=100:=by simp;omega
    rw[e3];unfold zW at kf;rw[show jZ (sj c B g v)= .agg [iA 3,iA (Fa c.ags g (ln c.ags)),iA 0,iA 0,zE yA (B (g,v))]from Z];generalize X++[jZ (Gq g)]++((pi v).map (sj c B g)).map jZ=Y,B (g,v)=fr,Fa c.ags g (ln c.ags)=bz,cL (1000+(g:Int))=sc at *
    (have ga:=kb;have ge:=kt;have gn:=ky;have gt:=kf;(repeat' (first|refine jX ?_|apply yW|apply xI|intro hc|(apply zG;first|(apply yH;refine vC tok Z Z ?_))|refine SB ?_|fail))<;>clear ga ge gn gt)
    rfl
   ·(refine WW ?_)
    rfl
  .rw [av];have ar:=(L (ln c.ags) (zAw _)).1;have ag:((ig c B n (ln c.ags)).map jZ).length=(ig c B n (ln c.ags)).length:=zAr ..
   (repeat' (first|refine jX ?_|apply yW|apply xI|intro hc|(apply zG;first|(apply yH;refine ZU 66 Z Z Z ?_;refine vC tok Z Z ?_))|refine SB ?_|fail))
   refine zO (N) [1000,1001,4] [4] [0,2,4,8] [7,0,2,4,8] Z (λi T U=>⟨(7,.ref 1001 0 ((f i).1.map jZ).length)::T,(1000,eE (f i).2)::(1001,.arr 5 ((f i).1.map jZ) true)::U⟩) ?_;(conv=>whnf);refine⟨by(rw[O,TX];rfl),?_,?_⟩
   .intro i hi;obtain⟨hR,M,ap⟩:=hf i hi;have a1:((f i).1.map jZ).length=(f i).1.length:=zAr ..;clear hf ac S au O hL ar ag L R ks;generalize f (i+1)=q at *;generalize f i=p at *;obtain⟨l,d⟩:=p;dsimp only at *;have G:=Kp d;rw[zAu M]at G;have b1:=yQ d (max 1 (n:Int)) zB;have b2:=yQ (ad d) 12 zB;have V:=yT d (max 1 (n:Int)) zB zB;have W:=yT (ad d) 12 zB zB;have ko:=uk c ha (nx d (max 1 (n:Int))) zB zB;unfold Z9 wE at hR;unfold wE at ko;generalize nx d (max 1 (n:Int))=s at *;generalize nx (ad d) 12=k at *;generalize ad (ad d)=d2 at *;generalize ad d=d1 at*
    rcases hR with⟨h3,rfl⟩|⟨h4,rfl⟩|⟨h5,e,d',rfl,kd⟩|⟨h6,b,d',rfl,m0,m1,dA,dC,q0,q1,e2,d5,hB⟩
    .dsimp only;rw[TX,show jZ Cr= .agg [iA 6,iA 0,iA 0,iA 0,.sl false []]from Z];generalize l.map jZ=X at *;have:k=0\/k=1\/k=2\/k=3:=by omega
     rcases this with h|h|h|h
     all_goals
      (have ga:=G;have ge:=V;have gn:=W;(repeat' (first|refine jX ?_|apply yW|apply xI|intro hc|(apply zG;first|(apply yH;refine ZU 128 Z Z Z ?_;refine vC tok Z Z ?_))|refine SB ?_|fail))<;>clear ga ge gn)
      rfl
    .dsimp only;have n3:=yT d2 6 zB zB;have b3:=yQ d2 6 zB;generalize ad d2=d3 at *;obtain⟨z,hz⟩:∃z:Nat,nx d2 6=(z:Int):=⟨(nx d2 6).toNat,zB⟩;rw[hz]at n3 b3⊢;rw[show((z:Int)+1).toNat=z+1 by omega,zAy,zEf,show jZ Cr= .agg [iA 6,iA 0,iA 0,iA 0,.sl false []]from Z];generalize l.map jZ=X at*
     (have ga:=G;have ge:=V;have gn:=W;have gt:=n3;(repeat' (first|refine uT ?_|apply yW|apply xI|intro hc|fail))<;>clear ga ge gn gt)
     refine zO ((z+1)) [1001,4,1000] [4,1000] [0,2,4,8] [7,13,0,2,4,8] Z (λi T U=>⟨(7,.ref 1001 0 (X++pb i (AV.agg [iA 6,iA 0,iA 0,iA 0,.sl false []])).length)::(13,iA ((z:Int)-i))::T,(1001,.arr 5 (X++pb i (AV.agg [iA 6,iA 0,iA 0,iA 0,.sl false []])) true)::U⟩) ?_;(conv=>whnf);refine⟨by(rw[List.replicate_zero,zBn,show(z:Int)-(0:Nat)=z by omega];rfl),?_,?_⟩
     .intro r hr;have a7:(X++pb r (AV.agg [iA 6,iA 0,iA 0,iA 0,.sl false []])).length<=200:=by simp;omega
      rw[show pb (r+1) (AV.agg [iA 6,iA 0,iA 0,iA 0,.sl false []])=pb r (AV.agg [iA 6,iA 0,iA 0,iA 0,.sl false []])++[AV.agg [iA 6,iA 0,iA 0,iA 0,.sl false []]]from zEy,<-zBh,show(z:Int)-((r+1:Nat):Int)=(z:Int)-r-1 by omega];generalize X++pb r (AV.agg [iA 6,iA 0,iA 0,iA 0,.sl false []])=Y at *;have z0:0<=(z:Int)-r:=by omega
      have z1:(z:Int)-r<=10:=by omega
      generalize (z:Int)-r=w at*
      (repeat' (first|refine jX ?_|apply yW|apply xI|intro hc|(apply zG;first|(apply yH;refine ZU 140 Z Z Z ?_;refine vC tok Z Z ?_))|refine SB ?_|fail))
      rfl
     .rw[show(z:Int)-((z+1:Nat):Int)= -1 by omega];refine WW ?_;rfl
    .dsimp only;rw[TX];generalize l.map jZ=X at*
     (have ga:=G;have ge:=V;have gn:=W;have gt:=kd;(repeat' (first|refine jX ?_|apply yW|apply xI|intro hc|(apply zG;first|(apply yH;refine vC tok Z Z ?_))|refine SB ?_|fail))<;>clear ga ge gn gt)
     rfl
    .dsimp only;rw[TX,show jZ ⟨3,s,0,0,b⟩= .agg [iA 3,iA s,iA 0,iA 0,zE yA b]from Z];obtain⟨k0,O,k1,f1,h2,g5,I,C,A,l0,l1⟩:=hB;unfold wE zW at *;have n3:=yT dA 3 zB zB;have n4:=yT d5 7 zB zB;have n5:=yT (ad d5) 99 zB zB;have n6:=yT (ad (ad d5)) 1024 zB zB;have c3:=yQ dA 3 zB;have c4:=yQ d5 7 zB;have m0:=zA yA q0;have m1:=zA yA q1;generalize l.map jZ=X at *;generalize nx dA 3=u at *;generalize nx d5 7=v at *;by_cases hu:u=2
     .rw[f5 hu]at h2 g5;subst g5;subst h2;have em:zE yA (q0++q1)= .sl false (q0.map yA++q1.map yA):=by unfold zE;rw[zAy]
      rw[em]at I;have ez:zE yA (q0++q1)= .sl false (py (q0.map yA++q1.map yA).length (p5 0 (q0.map yA++q1.map yA))):=by rw[em,zBd,zAt]
      cases cm with
      |true=>
       rw[f5 Z]at A;subst A;have E:=C (λh=>by cases h.1);subst E;rw[ez];clear I C
       (have ga:=G;have ge:=V;have gn:=W;have gt:=ko;have io:=k0;have la:=O;have ld:=n3;have lf:=k1;have lk:=f1;have zc10:=n4;have zc11:=n5;have zc12:=n6;(repeat' (first|refine jX ?_|apply yW|apply xI|intro hc|(apply zG;first|(apply yH;refine vU [1000,1001,4] [0,2,4,8,116,119] Z ?_;(conv=>whnf);refine vC tok Z Z ?_)|(apply yC;refine jF tok Z Z Z Z Z Z Z Z Z Z Z (yM _ _ (λ_=>rfl)) zB Z ?_))|refine SB ?_|fail))<;>clear ga ge gn gt io la ld lf lk zc10 zc11 zc12)
       rfl
      | false=>
       rw[Os zA7]at A;by_cases hv:v=6
       .rw[f5 hv]at A;subst A;have I:=I Z hv;clear C
        (have ga:=G;have ge:=V;have gn:=W;have gt:=ko;have io:=k0;have la:=O;have ld:=n3;have lf:=k1;have lk:=f1;have zc10:=n4;have zc11:=n5;have zc12:=n6;have zc13:=I;have kj:=(⟨⟩:Su 98 [1000,1001,4] [0,2,4,7,8,12,110,112,114]);(repeat' (first|refine jX ?_|apply yW|apply xI|intro hc|(apply zG;first|(apply yH;refine vU [1000,1001,4] [0,2,4,8,116,119] Z ?_;(conv=>whnf);refine vC tok Z Z ?_)|(apply yC;refine jF tok Z Z Z Z Z Z Z Z Z Z Z (yM _ _ (λ_=>rfl)) zB Z ?_))|refine SB ?_|fail))<;>clear ga ge gn gt io la ld lf lk zc10 zc11 zc12 zc13 kj)
        rfl
       .rw[Os hv]at A;subst A;have E:=C (λh=>hv h.2);subst E;rw[ez];clear I C
        (have ga:=G;have ge:=V;have gn:=W;have gt:=ko;have io:=k0;have la:=O;have ld:=n3;have lf:=k1;have lk:=f1;have zc10:=n4;have zc11:=n5;have zc12:=n6;(repeat' (first|refine jX ?_|apply yW|apply xI|intro hc|(apply zG;first|(apply yH;refine vU [1000,1001,4] [0,2,4,8,116,119] Z ?_;(conv=>whnf);refine vC tok Z Z ?_)|(apply yC;refine jF tok Z Z Z Z Z Z Z Z Z Z Z (yM _ _ (λ_=>rfl)) zB Z ?_))|refine SB ?_|fail))<;>clear ga ge gn gt io la ld lf lk zc10 zc11 zc12)
        rfl
     .rw[Os hu]at h2 g5;subst g5;subst h2;have em:∀z,zE yA z= .sl false (z.map yA):=λz=>rfl
      rw[em e2]at I;have ez:zE yA e2= .sl false (py (e2.map yA).length (p5 0 (e2.map yA))):=by rw[zBd,zAt];rfl
      cases cm with
      |true=>
       rw[f5 Z]at A;subst A;have E:=C (λh=>by cases h.1);subst E;rw[ez];clear I C
       (have ga:=G;have ge:=V;have gn:=W;have gt:=ko;have io:=k0;have la:=O;have ld:=n3;have lf:=k1;have lk:=f1;have zc10:=n4;have zc11:=n5;have zc12:=n6;(repeat' (first|refine jX ?_|apply yW|apply xI|intro hc|(apply zG;first|(apply yH;refine vU [1000,1001,4] [0,2,4,8,116,119] Z ?_;(conv=>whnf);refine vC tok Z Z ?_)|(apply yC;refine jF tok Z Z Z Z Z Z Z Z Z Z Z (yM _ _ (λ_=>rfl)) zB Z ?_))|refine SB ?_|fail))<;>clear ga ge gn gt io la ld lf lk zc10 zc11 zc12)
       rfl
      | false=>
       rw[Os zA7]at A;by_cases hv:v=6
       .rw[f5 hv]at A;subst A;have I:=I Z hv;clear C
        (have ga:=G;have ge:=V;have gn:=W;have gt:=ko;have io:=k0;have la:=O;have ld:=n3;have lf:=k1;have lk:=f1;have zc10:=n4;have zc11:=n5;have zc12:=n6;have zc13:=I;have kj:=(⟨⟩:Su 98 [1000,1001,4] [0,2,4,7,8,12,110,112,114]);(repeat' (first|refine jX ?_|apply yW|apply xI|intro hc|(apply zG;first|(apply yH;refine vU [1000,1001,4] [0,2,4,8,116,119] Z ?_;(conv=>whnf);refine vC tok Z Z ?_)|(apply yC;refine jF tok Z Z Z Z Z Z Z Z Z Z Z (yM _ _ (λ_=>rfl)) zB Z ?_))|refine SB ?_|fail))<;>clear ga ge gn gt io la ld lf lk zc10 zc11 zc12 zc13 kj)
        rfl
       .rw[Os hv]at A;subst A;have E:=C (λh=>hv h.2);subst E;rw[ez];clear I C
        (have ga:=G;have ge:=V;have gn:=W;have gt:=ko;have io:=k0;have la:=O;have ld:=n3;have lf:=k1;have lk:=f1;have zc10:=n4;have zc11:=n5;have zc12:=n6;(repeat' (first|refine jX ?_|apply yW|apply xI|intro hc|(apply zG;first|(apply yH;refine vU [1000,1001,4] [0,2,4,8,116,119] Z ?_;(conv=>whnf);refine vC tok Z Z ?_)|(apply yC;refine jF tok Z Z Z Z Z Z Z Z Z Z Z (yM _ _ (λ_=>rfl)) zB Z ?_))|refine SB ?_|fail))<;>clear ga ge gn gt io la ld lf lk zc10 zc11 zc12)
        rfl
   .rw[show zE jZ ((f N).1++[Cr])= .sl false ((f N).1.map jZ++[jZ Cr]) by unfold zE;rw[TX]];have a6:=S.1;have a1:((f N).1.map jZ).length=(f N).1.length:=zAr ..;have G:=Kp (f N).2;clear hf S au O hL ar ag L R ks;generalize f N=p at *;obtain⟨l,d⟩:=p;dsimp only at *;rw[show jZ Cr= .agg [iA 6,iA 0,iA 0,iA 0,.sl false []]from Z];by_cases M:d.a<ln d.l
    .have ap:¬l.length<150:=λh=>ac ⟨M,h⟩
     rw[zAu M]at G;generalize l.map jZ=X at*
     (have ga:=G;(repeat' (first|refine jX ?_|apply yW|apply xI|intro hc|(apply zG;first|(apply yH;refine ZU 154 Z Z Z ?_;refine vC tok Z Z ?_))|refine SB ?_|fail))<;>clear ga)
     exact zH [1000] Z Z (zBb (AV.sl false) zAt) Z
    .rw[zAs M]at G;generalize l.map jZ=X at*
     (have ga:=G;(repeat' (first|refine jX ?_|apply yW|apply xI|intro hc|(apply zG;first|(apply yH;refine ZU 154 Z Z Z ?_;refine vC tok Z Z ?_))|refine SB ?_|fail))<;>clear ga)
     exact zH [1000] Z Z (zBb (AV.sl false) zAt) Z
