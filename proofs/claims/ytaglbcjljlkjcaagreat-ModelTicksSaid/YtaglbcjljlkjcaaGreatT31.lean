/- Part 31. -/
import Derived.Test.YtaglbcjljlkjcaaGreatT30
namespace Go.Proofs.YtaglbcjljlkjcaaGreat.Av
open Tryz
set_option linter.all false
set_option maxRecDepth 4000
set_option maxHeartbeats 16000000
open List renaming length->ln,replicate->oj,range->pb,take->pi,drop->py
open Inhabited renaming default->dd
variable {nn:Bool}{e:Ev}{xs:List AV}{b:PH}
def ux {c:Int} (h:0<=c):Ix c=[c/16777216 % 256,c/65536 % 256,c/256 % 256,c % 256]:=by
 unfold Ix;simp only[show pb 4=[0,1,2,3]from Z,zCn,zCx,zr];rw[show c.fdiv (2 ^ (min (8*(3-((0:Nat):Int))).toNat IntKind.u32.bits))=c.fdiv 16777216 from Z,show c.fdiv (2 ^ (min (8*(3-((1:Nat):Int))).toNat IntKind.u32.bits))=c.fdiv 65536 from Z,show c.fdiv (2 ^ (min (8*(3-((2:Nat):Int))).toNat IntKind.u32.bits))=c.fdiv 256 from Z,show c.fdiv (2 ^ (min (8*(3-((3:Nat):Int))).toNat IntKind.u32.bits))=c.fdiv 1 from Z];rw[zDc _ zB,zDc _ zB,zDc _ zB,zDc _ zB,Int.ediv_one]
def C5 {s:Int} (h:0<=s):Hx s=Ix s:=by
 rw[ux h];unfold Hx;simp only[zr];rw[show s.fdiv (2 ^ (min (24:Int).toNat IntKind.u32.bits))=s.fdiv 16777216 from Z,show s.fdiv (2 ^ (min (16:Int).toNat IntKind.u32.bits))=s.fdiv 65536 from Z,show s.fdiv (2 ^ (min (8:Int).toNat IntKind.u32.bits))=s.fdiv 256 from Z];rw[zDc _ zB,zDc _ zB,zDc _ zB]
def qx (k:Int) (p:List Int) (z:0<=k) (A:k<=255) (hb:BY p) (u:ln p<=200):zM 215 [iA k,zE yA p] [] (.tup [.ref 1031 0 ((Kb k p).map yA).length,iA 0]) [(1031,.arr 1 ((Kb k p).map yA) true)]:=by
 obtain⟨q,e,_,_,c⟩:=Ue k p z A hb u;rw[C5 (nk _).1]at e;rw[show Kb k p=q from e.symm];exact c
theorem Gq (u z:Nat) (c:Int):∀(l:List Int) (i:Nat),i+ln l<=u->ZC u z c i l=(l.map jS).flatten
 | [],i,_=>rfl
 |x::l,i,h=>by
  rw[zBj]at h;rw[ZC,Gq u z c l (i+1) zB,Os (λh2=>by omega)];rfl
def jx (k:Int) (z A c:Nat) (u E:List Int) (hl:ln u=z+A*c) (hc:c<128):dO z A (c:Int) ⟨k,[],u,E⟩=OS z A c u (ln u)++E:=by
 have I:z<=ln u:=by rw[hl];exact Nat.le_add_right _ _
 have G:jS (c:Int)=[(c:Int)]:=by unfold jS;rw[VM zB]
 rw[j6 _ _ _ _ zB zB,zBu,G];unfold dO;dsimp only;rw[zEf];by_cases C:A=0
 .subst C;have h1:ln u=z:=by rw[hl];simp
  rw[Hp,Os (λh=>h.1 Z),Os zB,zBf zB,zEh zB];simp
 .rw[zA4 (by omega:(0:Int)<(A:Int))];by_cases B:c=0
  .subst B;have h1:ln u=z:=by rw[hl];simp
   rw[Gq _ _ _ _ _ zB,zA4 ⟨C,h1⟩,zBf zB,zEh zB];simp
  .have h1:z<ln u:=by
    rw[hl];have:0<A*c:=Nat.mul_pos zB zB;omega
   have e:=EF z A c C (u.drop z) (λh=>by have:=zBp List.length h;rw[zB5,zCb]at this;omega) (u.take z) 0 JN;rw[zEv]at e;rw[e,Os (λh=>by omega)];simp
def u9 (m:Ms) (h:ZB m):zM 162 [zX m] [] (.tup [zE yA (Jg m),iA 0]) []:=by
 obtain⟨e0,⟨W,gr,ap,L,M⟩,av⟩:=X6 h;obtain⟨ht,S⟩:=h;rw[e0];clear e0;generalize Y6 m=G at *;obtain⟨k,ax,B,I⟩:=m;dsimp only at *;subst ht;have kv:=oe S;have E:=S.kk;have hz:=S.z;have au:=S.l
 have v2:zM 70 [zX ⟨k,[],B,I⟩] [] (zE yA G) []:=by
  have V:(0<=(jQ k).1/\(jQ k).1<=4)/\(0<=(jQ k).2.1/\(jQ k).2.1<=4)/\(jQ k).2.2.2.1<=16:=by
   have:k=13\/k=14\/k=15\/k=16\/k=17\/k=18\/k=19\/k=20\/k=21:=by omega
   clear E kv L M S
   rcases this with rfl|rfl|rfl|rfl|rfl|rfl|rfl|rfl|rfl<;>decide
  obtain⟨⟨f0,f1⟩,⟨r0,r1⟩,ac⟩:=V;have Y:=V9 k E;obtain⟨O,R⟩:∃n:Nat,(jQ k).1=(n:Int):=⟨(jQ k).1.toNat,zB⟩;obtain⟨A,U⟩:∃n:Nat,(jQ k).2.1=(n:Int):=⟨(jQ k).2.1.toNat,zB⟩;obtain⟨C,rfl⟩:∃n:Nat,gr=(n:Int):=⟨gr.toNat,zB⟩;rw[R,U]at Y M L;generalize (jQ k).2.2.1=lo,(jQ k).2.2.2.1=hi,(jQ k).2.2.2.2=sd at *
  have u:ln B=O+A*C:=by
   rcases L with⟨q1,q2,q3⟩|⟨q1,q2,_⟩
   .rw[show A=0 by omega,zEo];omega
   .have:((A*C:Nat):Int)=(A:Int)*(C:Int):=by push_cast;rfl
    omega
  have v:=EN k O A lo hi sd Y zB ⟨k,[],B,I⟩ C Z zW NH S.n NH (λ_=>by dsimp only;rw[u,zE6]) zB;rw[jx k O A C B I u zB,<-M]at v;exact v
 have c2:=qx k G zB zB W zB;have ag:=Sx k G;clear M L S hz;unfold zX at *;dsimp only at*
 have k1:zM 21 [.agg [iA k,zE yA [],zE iA B,zE yA I]] [] (.tup [zE yA G,iA 0]) []:=by
  refine eM call21 λF hF=>?_
  exact mt (xU kv v2)
 generalize Kb k G=f at *;refine eM call162 λF hF=>?_
 refine yH (xU k1 c2) ?_;exact zI [] Z Z (zBp (λz=>AV.tup [AV.sl false z,iA 0]) zA8) Z
def IY (l:List Ms) (hl:ln l<=1002) (h:∀m∈l,ZB m):zM 104 [zE zX l] [] (zE yA (PG l)) []:=by
 have E:=zA zX l;refine eM call104 λF hF=>?_
 refine WW ?_;refine zS 3 1001 1 Z Z Z ?_;refine zQ (l) [1001] [] [8,9] [3,10,8,9] Z (λi f4 T U=>⟨(3,.ref 1001 0 ((PG f4).map yA).length)::(10,iA i)::T,(1001,.arr 1 ((PG f4).map yA) true)::U⟩) (Lq ?_ ?_)
 .intro i f4 x post u hi;have M:=zZ zX u hi;have B:=zV u hi;obtain⟨⟨L,_⟩,_⟩:=oz x (h x (yU u));have z:=u9 x (h x (yU u));have G:=Ig (l:=f4) λm C=>h m (by rw[u];simp[C])
  have I:=zA yA (PG f4);have A:=zA yA (Jg x);rw[Wr,zBc];clear u;generalize PG f4=X,Jg x=Y at *;unfold zX at *;refine zU z ?_;rfl
 ·(refine WW ?_)
  exact zI [] Z Z (zBp (AV.sl false) zA8) Z
theorem yj (v:AV):(ZF v).cells=v.cells.map ZF:=by
 cases v with
 |agg cs=>show wkL cs=cs.map ZF;exact Re cs
 |s v=>
  show(ZF (.s v)).cells=[ZF (.s v)]
  unfold ZF
  split<;>rfl
 |_=>rfl
theorem xM.wkl {w:World} {D:Nat->Prop} {c:Value} (hv:xM w D (.sl nn xs) c):xM w D (.sl nn (xs.map ZF)) c:=by
 cases hv with
 |nil a cap=>exact .nil a cap
 |nil1 a cap=>exact .nil1 a cap
 | sl _ _ b o sz cap f z hL hc h=>
  have hl:(xs.map ZF).length=ln xs:=zA5 ..
  have hk:∀(i:Nat) (x:AV),(xs.map ZF)[i]? =some x->∃y,xs[i]? =some y/\x.cells=y.cells.map ZF:=λi x z=>by
   grind [ZF,Option.map_eq_some_iff,yj]
  have A:Az w D (xs.map ZF) b o sz f:=by
   refine⟨hL.lt,hL.nd,hL.pos,by rw[hl];exact hL.max,λi x z=>?_,λi j hi hj=>hL.cell i j (by rw[hl]at hi;exact hi) hj,λi j hi hj=>hL.one i j (by rw[hl]at hi;exact hi) hj⟩;obtain⟨y,C,B⟩:=hk i x z;rw[B,zA5];exact hL.wide i y C
  have:=xM.sl nn (xs.map ZF) b o sz cap f (by simpa using z) A (by rw[hl];exact hc) (λi x j v hi hj=>by
   obtain⟨y,C,B⟩:=hk i x hi;rw[B,zBd,zBo]at hj;obtain⟨u,E,rfl⟩:=hj
   exact(h i y j u C E).wk)
  grind
section
variable {P:Program} {K0:List Nat} {F:Fr K0} {m:Nat} {ops:Array Oper} {rest:List Oper} {fs:List FP} {tm:List (Nat×AV)} {h:List (Nat×xW)}
theorem wM.wkL {a:Act} {w:World} (R:wM F m ⟨tm,h⟩ a w) (t:Nat) {ys:List AV} (hv:zK tm t= .sl nn xs) (C:xs.map ZF=ys):wM F m ⟨(t,.sl nn ys)::tm,h⟩ a w:=by
 obtain⟨⟨X,β,B,H,u,z,I,A⟩,G,gs,hl⟩:=R;refine⟨⟨X,β,B,H,λj=>?_,z,λi hi=>?_,A⟩,G,gs,hl⟩
 .rw[xF];split
  .rename_i hj;subst hj;have:=u j;dsimp only at this;rw[hv]at this
   cases this with
   |fz _ _ E=>exact .fz _ _ (C▸E.wkl)
  .exact u j
 all_goals grind [wM,zK,ZF]
def j9 {Q:List FP->St->Prop} (t:Nat) {ys:List AV} (hv:zK tm t= .sl nn xs) (u:xs.map ZF=ys) (hk:yP P F m ops false rest ⟨(t,.sl nn ys)::tm,h⟩ fs Q):yP P F m ops false rest ⟨tm,h⟩ fs Q:=
 ⟨λa w R=>hk.run a w (R.wkL t hv u)⟩
end
def zSe:AV:= .agg [bA false,bA false,.s (.slice none 0 0),bA false]
def G6 (c:Cf):PH:=⟨UF c,oj (jE c.ags (ln c.ags)).toNat ⟨false,false,[],false⟩⟩
theorem g9 {α β:Type} [Inhabited α] [Inhabited β] (f:α->β) (l:List α) (k:Nat) (hk:k<ln l):(l.map f).getD k dd=f (l.getD k dd):=by grind
theorem jz (c:Cf) (h:Hb c):KR (UF c):=by
 have B:=h.a;have z:(LW c (ln c.ags)).length=ln c.ags:=by simp[LW]
 have u:∀d∈LW c (ln c.ags),∃k:Nat,k<ln c.ags/\d=PE (k:Int) (c.ags.getD k dd) (c.ags.getD k dd).ses.toNat:=λd hd=>by
  grind [UF,LW]
 refine⟨h,rfl,zDf _,z,λd hd=>?_,λa B=>?_,λd hd=>?_,by simp[UF],by simp[UF],by simp[UF],by simp[UF],λw C=>?_,λk hk=>?_⟩
 .obtain⟨k,hk,rfl⟩:=u d hd;exact W5 (h.av _ (yL c.ags k hk)) k zB
 .have A:a<ln c.ags:=by rw[<-z];exact B
  show((LW c (ln c.ags)).getD a dd).rg.ag=_
  unfold LW;rw[zBk,zBd,zC3 A];rfl
 .obtain⟨k,hk,rfl⟩:=u d hd;exact λr G=>by cases G
 .unfold UF at C;obtain⟨j,hj,rfl⟩:=zCo.1 C;exact Jx j (h.jv j hj) _ _
 .have hk':k<ln c.js:=hk;have J:=h.jv _ (yL c.js k hk')
  show JI (c.js.getD k dd) ((c.js.map fQ).getD k dd) ((c.js.map HM).getD k dd) 0
  rw[g9 fQ c.js k hk',g9 HM c.js k hk'];refine⟨Al J,by simp[HM,Sh],λe E=>?_,zDf _,(by decide:(0:Int)<=60)⟩;rw[(zE1.1 E).2]
  decide
def f9 (c:Cf) (h:Hb c):Hg (G6 c):=by
 have hb:=qS h.ag (ln c.ags) (zBa _);refine⟨jz c h,?_,λs u=>?_⟩
 .show((oj _ _).length:Int)=_
  rw[zC5]
  show((jE c.ags (ln c.ags)).toNat:Int)=jE c.ags (ln c.ags)
  omega
 .rw[(zE1.1 u).2];exact⟨jU,zBn _⟩
def B5 (b:PH) (k:Int):Bool:=decide (0<=k/\k<(ln b.ss:Int))
def c9 (e:Ev) (s:Ss):Ss:=if e.k=1 then(if s.op=true then s else⟨true,false,[],false⟩)else if e.k=2 then⟨false,false,[],false⟩else tc s e.y
def Qb (b:PH) (e:Ev):PH:=if B5 b e.s=true then⟨b.y,b.ss.set e.s.toNat (c9 e (b.ss.getD e.s.toNat dd))⟩else b
def J9:AV:= .agg [.sl false [],.sl false []]
def xj (y:Cy) (e:Ev):Cy:=if e.k=4 then SD y e.a e.y else YN y e.a e.b
def gx (d:wD):Int×List Rq:=(d.rg.num,d.rq)
def wj {α:Type} {l:List α} {i:Nat} {x:α} (h:l[i]? =some x):l.set i x=l:=by
 apply zCe;intro j;rw[zEe];split
 .rename_i e;subst e;have:=(zBw.1 h).1;rw[zA4 this,h]
 .rfl
def pe {y:Cy} (u:y.rf=false) (e:Ev):(xj y e).c=y.c/\(xj y e).f3=y.f3/\(xj y e).sg=y.sg/\(xj y e).sv=y.sv/\(xj y e).vw=y.vw/\(xj y e).ds.map gx=y.ds.map gx:=by
 unfold xj;split
 .unfold SD;split
  .rename_i hc;refine⟨rfl,rfl,rfl,rfl,rfl,?_⟩
   show(y.ds.set _ _).map gx=_
   rw[zCs];refine wj (zBd.trans ?_);rw[zBk,zB2 zB];rfl
  .exact⟨rfl,rfl,rfl,rfl,rfl,rfl⟩
 .unfold YN
  split<;>exact⟨rfl,rfl,rfl,rfl,rfl,rfl⟩
structure A5 where
 b:PH
 S:List (List Int)
 f:List Int
 fl:Bool
structure DvP (b:PH) (e:Ev) (r:A5):Prop where
 s:e.k=1\/e.k=2\/e.k=3->r=⟨Qb b e,[],[],false⟩
 y:e.k=4\/e.k=5->r=⟨⟨xj b.y e,b.ss⟩,[],[],false⟩
 o:¬(1<=e.k/\e.k<=6)->r=⟨b,[],[],false⟩
 t6:e.k=6->∃(y':Cy) (Td:List (List Ms)),D9 b.y y' (ZE b.ss) Td/\r=⟨⟨y',VX b.ss b.ss.length⟩,Td.map PG,PG [QL (b.y.f3+1) y'.vw],true⟩/\zM 12 [qO b.y,zE uT (ZE b.ss)] [] (.tup [qO y',W6 Td (QL (b.y.f3+1) y'.vw)]) (V6 Td)
def OO (n:Nat) (u:Cy) (X:List AV) (S:AV) (f:Bool) (z:ln X=n):AV.tup [Ba u (.sl false (pi n X)),S,bA f]=AV.tup [Ba u (.sl false X),S,bA f]:=by rw[zBf (zDb z)]
section
variable (b:PH) (h:Hg b)
include h
def Fq:∃N:Nat,ln b.ss=N/\N<=8:=by
 have u:=h.y.v.ag;have h1:=h.l;have h2:=qS u (ln b.y.c.ags) (zBa _);have z:=u.1;exact⟨_,rfl,zB⟩
theorem o9 (e:Ev) (z:BY e.y) (u:ln e.y<=1000000) (r:A5) (D:DvP b e r) (A:r.b.y.rf=false):JC [VW b,hG e] [] (.tup [VW r.b,F9 r.S r.f,bA r.fl]) []:=Vk
theorem Ja (u:List Ss):VX u (ln u)=u.map λs=>(aE s).1:=by
 unfold VX;apply zCe;intro j;rw[vY,zBd];by_cases hj:j<ln u
 .rw[zA4 hj,zA4 hj,zB2 hj];simp only[zC1,zBk,zB2 hj,zDz]
 .rw[Os hj,zCi zB];rfl
def zA2 (B:b.y.f3<1000000000):∃(A:Cy) (z:List (List Ms)),D9 b.y A (ZE b.ss) z/\zM 12 [qO b.y,zE uT (ZE b.ss)] [] (.tup [qO A,W6 z (QL (b.y.f3+1) A.vw)]) (V6 z):=by
 have u:(ZE b.ss).length=ln b.ss:=by unfold ZE;rw[zA5]
 exact Oj b.y h.y B (ZE b.ss) (by rw[u];exact h.l) (λi hi=>by
  unfold ZE at hi;obtain⟨s,C,rfl⟩:=zCo.1 hi
  exact(mr (h.s s C)).2)
end
section
structure EM (b:PH) (e:Ev) (r:A5):Prop extends DvP b e r where
 i:Hg r.b
 c:r.b.y.c=b.y.c
 n:b.y.f3<=r.b.y.f3/\r.b.y.f3<=b.y.f3+1
 t:r.fl=true->r.S.length=b.ss.length
 f6:r.fl=true->e.k=6
 k:JC [VW b,hG e] [] (.tup [VW r.b,F9 r.S r.f,bA r.fl]) []
structure H9 (e:Ev):Prop where
 y:BY e.y
 n:e.y.length<=1000000
theorem qb.g (h:qb e):H9 e:=⟨h.y,zB9 h.n xA⟩
def m9 (u:BY e.y) {s:Ss} (h:p6 s):p6 (c9 e s):=by
 unfold c9;split
 .split
  .exact h
  .exact⟨jU,zBn _⟩
 .split
  .exact⟨jU,zBn _⟩
  .exact o6 h u
def l9 (h:Hg b) (A:BY e.y):Hg (Qb b e):=by
 unfold Qb;split
 .refine⟨h.y,by dsimp only;rw[zCj];exact h.l,λs u=>?_⟩;rename_i z;unfold B5 at z;rw[zBb]at z
  rcases zD7 u with u|rfl
  .exact h.s s u
  .exact m9 A (h.s _ (yL b.ss _ zB))
 .exact h
theorem s9 (b:PH) (h:Hg b) (O:b.y.f3<1000000000) (e:Ev) (A:H9 e):∃r,EM b e r:=by
 have u:∀r,DvP b e r->Hg r.b->r.b.y.c=b.y.c->(b.y.f3<=r.b.y.f3/\r.b.y.f3<=b.y.f3+1)->(r.fl=true->ln r.S=ln b.ss)->(r.fl=true->e.k=6)->∃r,EM b e r:=λr D i c n t f=>⟨r,⟨D,i,c,n,t,f,o9 b h e A.y A.n r D i.y.rf⟩⟩
 by_cases h1:e.k=1\/e.k=2\/e.k=3
 .have e1:(Qb b e).y=b.y:=by unfold Qb;split<;>rfl
  exact u ⟨Qb b e,[],[],false⟩ ⟨λ_=>rfl,λh=>zB,λh=>zB,λh=>zB⟩ (l9 h A.y) (by dsimp only;rw[e1]) (by dsimp only;rw[e1];omega) (λh=>(by cases h)) (λh=>(by cases h))
 by_cases h2:e.k=4\/e.k=5
 .have R:KR (xj b.y e):=by
   unfold xj;split
   .exact W9 h.y A.y
   .exact gz h.y ..
  obtain⟨L,W,_⟩:=pe h.y.rf e;exact u ⟨⟨xj b.y e,b.ss⟩,[],[],false⟩ ⟨λh=>zB,λ_=>rfl,λh=>zB,λh=>zB⟩ ⟨R,by dsimp only;rw[L];exact h.l,h.s⟩ L NH (λh=>(by cases h)) (λh=>(by cases h))
 by_cases M:e.k=6
 .obtain⟨G,I,z,U⟩:=zA2 b h O;have B:(ZE b.ss).length=ln b.ss:=by unfold ZE;rw[zA5]
  refine u ⟨⟨G,VX b.ss (ln b.ss)⟩,I.map PG,PG [QL (b.y.f3+1) G.vw],true⟩ ⟨λh=>zB,λh=>zB,λh=>zB,λ_=>⟨G,I,z,rfl,U⟩⟩ ⟨z.i,?_,λs C=>?_⟩ z.c (by have:=z.n;dsimp only;omega) (λ_=>by dsimp only;rw[zA5,z.l,B]) λ_=>M
  .dsimp only;rw[z.c,Ja b h,zA5];exact h.l
  .dsimp only at C;rw[Ja b h]at C;obtain⟨V,E,rfl⟩:=zCo.1 C;exact(mr (h.s V E)).1
 .exact u ⟨b,[],[],false⟩ ⟨λh=>zB,λh=>zB,λ_=>rfl,λh=>zB⟩ h Z NH (λh=>(by cases h)) (λh=>(by cases h))
open Classical in
noncomputable def F6 (b:PH) (e:Ev):A5:=if h:∃r,EM b e r then h.choose else⟨b,[],[],false⟩
theorem dx (h:Hg b) (z:b.y.f3<1000000000) (u:H9 e):EM b e (F6 b e):=by grind [F6,s9]
def Dq (h:Hg b) (z:b.y.f3<1000000000) (u:qb e):EM b e (F6 b e):=dx h z u.g
theorem EM.st (h:Hg b) {r:A5} (u:qb e) (D:EM b e r) (A:r.fl=false):r.b.y.f3=b.y.f3/\r.b.y.sg=b.y.sg/\r.b.y.sv=b.y.sv/\r.b.y.vw=b.y.vw/\r.b.y.ds.map gx=b.y.ds.map gx:=by
 have hk:=u.k;have hc:(e.k=1\/e.k=2\/e.k=3)\/(e.k=4\/e.k=5)\/e.k=6:=by omega
 rcases hc with hc|hc|hc
 .have e1:(Qb b e).y=b.y:=by unfold Qb;split<;>rfl
  rw[D.s hc]
  grind
 .rw[D.y hc];exact(pe h.y.rf e).2
 .obtain⟨_,_,_,z,_⟩:=D.t6 hc
  grind
end
def Cq (b:PH) (h:Hg b):zM 99 [VW b] [] (Ba b.y (.ref 1021 0 (b.ss.map dE).length)) [(1021,.arr 4 (b.ss.map dE) false)]:=by
 obtain⟨N,hN,C⟩:=Fq b h;have A:=aD b.y h.y.b;have I:=h.s;have z:=h.y.rf;obtain⟨y,B⟩:=b;dsimp only at *;rw[bJ z]at A;have L:=zA dE B;unfold VW Ba;dsimp only;refine eM call99 λF hF=>?_
 refine zU A ?_;refine zS 4 1021 4 Z Z Z ?_;refine zQ (B) [1021,2,3] [2,3] [2,3,12,13] [4,14,2,3,12,13] Z (λi f4 T U=>⟨(4,.ref 1021 0 (f4.map dE).length)::(14,iA i)::T,(1021,.arr 4 (f4.map dE) true)::U⟩) (Lq ?_ ?_)
 .intro i f4 x post u hi;have O:=zZ dE u hi;have E:=zV u hi;have G:(f4.map dE).length=i:=by rw[zA5,hi]
  have M:=OQ x (by have:=(I x (yU u)).n;omega);have e:(f4++[x]).map dE=f4.map dE++[dE x]:=by simp
  clear u;rw[e];generalize f4.map dE=xs at *;unfold dE at*
  (have ga:=M;(repeat' (first|refine jX ?_|apply yW|apply xG|intro hc|(apply zG;first|(apply yI;refine vE tok Z Z ?_))|refine SB ?_|fail))<;>clear ga)
  rfl
 .refine kE 1021 [4] Z Z Z Z Z ?_;refine WW ?_;exact zP [1021] Z Z Z Z
def px (c:Cf) (h:Hb c):zM 41 [wH c] [] (VW (G6 c)) []:=by
 have S:=Rs c h;have B:=jz c h;have E:=B.rf;have G:=h.ag;have hb:=qS G (ln c.ags) (zBa _);have A:=qS G;have W:=G.1;have I:(UF c).ds.length=ln c.ags:=B.dl
 have u:∀i,i<ln c.ags->(((UF c).ds.getD i dd).au.length:Int)=(c.ags.getD i dd).ses:=λi hi=>by
  have:=(B.di _ (yL (UF c).ds i zB)).au
  rwa [B.dg i zB]at this
 rw[bJ E]at S;obtain⟨N,hN⟩:∃N:Nat,jE c.ags (ln c.ags)=(N:Int):=⟨(jE c.ags (ln c.ags)).toNat,zB⟩
 have M:VW (G6 c)= .agg [zE wK (UF c).c.js,zE uK (UF c).c.ags,iA (UF c).c.per,iA (UF c).c.cap,iA (UF c).c.hold,iA (UF c).c.lock,bA false,iA (UF c).f3,zE zN (UF c).ds,zE wZ (UF c).sg,zE wU (UF c).sv,zE iA (UF c).st,zE vO (UF c).vw,.sl false (oj N (.agg [bA false,bA false,zE yA [],bA false]))]:=by
  unfold VW Ba G6;dsimp only;rw[hN];unfold zE;rw[zEt];rfl
 rw[M];clear M E B;generalize UF c=z at *;have L:=zA zN z.ds;refine eM call41 λF hF=>?_
 refine zU S ?_;refine zO ((z.ds.map zN).length) [2,3] [2,3] [2,3,12,13] [4,14,2,3,12,13] Z (λi T U=>⟨(4,iA (jE c.ags i))::(14,iA i)::T,U⟩) (Lq ?_ ?_)
 .intro i hi;have V:=zJ zN z.ds i zB;have O:=u i zB;have h2:=A i zB;have R:=G.at (i:=i) zB;have C:=zA bA (z.ds.getD i dd).au;rw[show jE c.ags (i+1)=jE c.ags i+(c.ags.getD i dd).ses from Z,<-O,<-C];rw[<-C]at O;clear u A;generalize jE c.ags i=s,c.ags.getD i dd=a,z.ds.getD i dd=d at *;unfold zN xD zE at V;refine WW ?_;rfl
 .rw[L,I,hN];rw[hN]at hb;clear u A
  (repeat' (first|refine uQ ?_|apply yW|apply xG|intro hc|(apply zG;first|(apply fS;refine bG 1021 tok Z Z Z Z Z Z Z Z Z Z Z Z Z zB zB Z Z Z ?_;refine vX [1,2,3] [1,2,3,25] Z ?_;(conv=>whnf);(try simp only[zBr]);refine j9 25 Z Z ?_))|fail))
  refine zI [] Z Z ?_ Z
  show AV.agg [zE wK z.c.js,zE uK z.c.ags,iA z.c.per,iA z.c.cap,iA z.c.hold,iA z.c.lock,bA false,iA z.f3,zE zN z.ds,zE wZ z.sg,zE wU z.sv,zE iA z.st,zE vO z.vw,.sl false (List.map ZF (pi N (oj N zSe)))]=_
  rw[zBf (by rw[zC5];exact zBa _),zEt];rfl
def Tj (b:PH) (e:Ev):List Ss:=if e.k=1\/e.k=2\/e.k=3 then(Qb b e).ss else b.ss
def ox (b:PH) (e:Ev):(Tj b e).length=ln b.ss:=by
 unfold Tj Qb;split
 .split
  .exact zCj ..
  .rfl
 .rfl
theorem i9 (b:PH) (h:Hg b) (az:LO b.y.ds) (hn:b.y.f3<1000000000) (e:Ev) (he:H9 e) (r:A5) (D:EM b e r):zM 43 [VW b,hG e] [] (.tup [VW r.b,F9 r.S r.f,bA r.fl]) []:=by
 obtain⟨N,hN,bl⟩:=Fq b h;have k1:=Cq b h;have hs:=h.s;have E:=h.y;have bz:=he.y;have bu:=he.n;have O:=zA dE b.ss;have a9:=ox b e;have ba:((Tj b e).map dE).length=ln b.ss:=by rw[zA5];exact a9
 have z:B5 b e.s=decide (0<=e.s/\e.s<(ln b.ss:Int)):=rfl
 have hd:B5 b e.s=true->(Tj b e).map dE=(b.ss.map dE).set e.s.toNat (dE (if e.k=1\/e.k=2\/e.k=3 then c9 e (b.ss.getD e.s.toNat dd)else b.ss.getD e.s.toNat dd)):=λG=>by
  have ap:=G;rw[z,zBb]at ap;have hy:=yF dE b.ss e.s ap.1 ap.2;unfold Tj Qb;split
  .show List.map dE (b.ss.set e.s.toNat _)=_
   rw[zCs]
  .exact(YL hy).symm
 have L:B5 b e.s=false->Tj b e=b.ss:=λG=>by
  unfold Tj Qb;rw[G]
  split<;>rfl
 have a2:e.k=1\/e.k=2\/e.k=3->(Qb b e).ss=Tj b e/\(Qb b e).y=b.y:=λhk=>by
  unfold Tj;rw[zA4 hk];refine⟨rfl,?_⟩;unfold Qb
  split<;>rfl
 have a3:¬(e.k=1\/e.k=2\/e.k=3)->Tj b e=b.ss:=λhk=>by
  unfold Tj;rw[Os hk]
 have R:=D.i.y.rf;have Ds:=D.s;have Dy:=D.y;have Dt:=D.t6;have Dn:=D.o;clear D;unfold VW Ba at *;unfold hG;refine eM call43 λF hF=>?_
 apply xZ;apply xR
 (repeat' (first|refine WS ?_|refine SG (I2 (λhc=>?_) λhc=>?_)|refine SG λhc=>?_|(apply zG;first|refine SM ?_)|(first|apply xZ|apply xJ)|fail))
 apply xR
 (have ga:=k1;(repeat' (first|refine WS ?_|refine SG (I2 (λhc=>?_) λhc=>?_)|refine SG λhc=>?_|(apply zG;first|refine SM ?_)|(first|apply xZ|apply xJ)|fail))<;>clear ga)
 rw[O];generalize b0:e=e0 at *;obtain⟨u,B,C,V,I⟩:=e0;dsimp only at *;generalize bs:Tj b ⟨u,B,C,V,I⟩=ds at *;refine gY [3,4,5,7,1021] [3,4,5,6,7,32] ⟨[(3,.ptr 3 0 0),(4,.ptr 4 0 0),(5,.ptr 5 0 0),(6,bA false),(7,.ptr 7 0 0),(32,bA (B5 b B))],[(3,.box [iA u,iA B,iA C,iA V,zE yA I]),(4,.box [.s (.slice none 0 0),.s (.slice none 0 0),iA 0,iA 0,iA 0,iA 0,bA false,iA 0,.s (.slice none 0 0),.s (.slice none 0 0),.s (.slice none 0 0),.s (.slice none 0 0),.s (.slice none 0 0),.s (.slice none 0 0)]),(5,.box [.s (.slice none 0 0),.s (.slice none 0 0)]),(7,.box [zE wK b.y.c.js,zE uK b.y.c.ags,iA b.y.c.per,iA b.y.c.cap,iA b.y.c.hold,iA b.y.c.lock,bA false,iA b.y.f3,zE zN b.y.ds,zE wZ b.y.sg,zE wU b.y.sv,zE iA b.y.st,zE vO b.y.vw,.ref 1021 0 (ln b.ss)]),(1021,.arr 4 (b.ss.map dE) false)]⟩ rfl ?_ ?_
 .clear k1 hd L;by_cases h0:0<=B
  .by_cases h1:B<(ln b.ss:Int)
   .rw[z,zA7 ⟨h0,h1⟩];refine WW ?_;exact⟨rfl,rfl⟩
   .rw[z,zA6 (λh=>h1 h.2)];refine WW ?_;exact⟨rfl,rfl⟩
  .rw[z,zA6 (λh=>h0 h.1)];refine WW ?_;exact⟨rfl,rfl⟩
 refine gY [3,4,5,7,1021] [3,4,5,6,7] ⟨[(3,.ptr 3 0 0),(4,.ptr 4 0 0),(5,.ptr 5 0 0),(6,bA false),(7,.ptr 7 0 0)],[(3,.box [iA u,iA B,iA C,iA V,zE yA I]),(4,.box [.s (.slice none 0 0),.s (.slice none 0 0),iA 0,iA 0,iA 0,iA 0,bA false,iA 0,.s (.slice none 0 0),.s (.slice none 0 0),.s (.slice none 0 0),.s (.slice none 0 0),.s (.slice none 0 0),.s (.slice none 0 0)]),(5,.box [.s (.slice none 0 0),.s (.slice none 0 0)]),(7,.box [zE wK b.y.c.js,zE uK b.y.c.ags,iA b.y.c.per,iA b.y.c.cap,iA b.y.c.hold,iA b.y.c.lock,bA false,iA b.y.f3,zE zN b.y.ds,zE wZ b.y.sg,zE wU b.y.sv,zE iA b.y.st,zE vO b.y.vw,.ref 1021 0 (ln b.ss)]),(1021,.arr 4 (ds.map dE) false)]⟩ rfl ?_ ?_
 .cases G:B5 b B
  .rw[L G];refine WW ?_;exact⟨rfl,rfl⟩
  .rw[hd G];rw[z,zBb]at G;obtain⟨h0,h1⟩:=G;have hy:=yF dE b.ss B h0 h1;have hI:=hs _ (yL b.ss B.toNat zB);have a6:=hI.n;have ko:=tr (b.ss.getD B.toNat dd) zB;have kd:=Zr (b.ss.getD B.toNat dd);have kr:=Tx (b.ss.getD B.toNat dd) a6 I zB;clear hd L z hI k1;unfold c9;dsimp only;generalize b.ss.getD B.toNat dd=s at *;have hk:u=1\/u=2\/u=3\/(¬u=1/\¬u=2/\¬u=3):=by omega
   rcases hk with rfl|rfl|rfl|⟨n1,n2,n3⟩
   .rw[zA4 (.inl Z),zA4 Z];generalize (if s.op=true then s else⟨true,false,[],false⟩:Ss)=s1 at *;refine zU ko ?_;exact⟨rfl,rfl⟩
   .rw[zA4 (.inr (.inl Z)),Os xA,zA4 Z];refine zU kd ?_;exact⟨rfl,rfl⟩
   .rw[zA4 (.inr (.inr Z)),Os xA,Os xA];refine zU kr ?_;exact⟨rfl,rfl⟩
   .rw[Os zB];refine WW ?_;exact⟨rfl,rfl⟩
 clear hd L z k1;by_cases M:u=1\/u=2\/u=3
 .rw[Ds M];obtain⟨e1,e2⟩:=a2 M;dsimp only;rw[e1,e2]
  rcases M with rfl|rfl|rfl
  all_goals
   refine WW ?_;exact zI [] Z Z (OO _ b.y _ J9 false ba) Z
 have e4:=a3 M;subst e4;by_cases bb:1<=u/\u<=6
 case neg=>
  rw[Dn bb];have n4:¬u=4:=by omega
  have n5:¬u=5:=by omega
  have n6:¬u=6:=by omega
  refine WW ?_;exact zI [] Z Z (OO _ b.y _ J9 false O) Z
 by_cases a4:u=6
 case neg=>
  have W:u=4\/u=5:=by omega
  have bf:=Dy W;have av:=Zx b.y E C I zB;have ax:=Ia b.y E C V;rw[bf]at R⊢;dsimp only at R⊢;rw[bJ E.rf]at av ax
  rcases W with rfl|rfl
  .rw[show xj b.y ⟨4,B,C,V,I⟩=SD b.y C I from Z]at R⊢;rw[bJ R]at av;generalize SD b.y C I=A at *;refine zU av ?_;exact zI [] Z Z (OO _ A _ J9 false O) Z
  .rw[show xj b.y ⟨5,B,C,V,I⟩=YN b.y C V from Z]at R⊢;rw[bJ R]at ax;generalize YN b.y C V=A at *;refine zU ax ?_;exact zI [] Z Z (OO _ A _ J9 false O) Z
 obtain⟨A,Td,hM,G,_⟩:=Dt a4;subst a4;subst G;dsimp only at R⊢;obtain⟨hT,a5,a1⟩:=hM.tk;have bd:(ZE b.ss).length=ln b.ss:=by unfold ZE;rw[zA5]
 have kt:=Da b.y E az hn (ZE b.ss) (by have:=h.l;omega) (Aa b.y (ZE b.ss)) hT (λi=>(eP ..).1) (λi=>(eP ..).2);rw[<-a5,<-a1]at kt;rw[bJ E.rf,bJ R,show∀f,Ox Td f= .agg [.sl false (Td.map jC),zE zX [f]]from λ_=>rfl]at kt;have ac:=hM.v;have a7:=hM.l;rw[bd]at a7;have kf:=IY [QL (b.y.f3+1) A.vw] zW (λm hm=>by rw[zBz.1 hm];exact hM.f);generalize QL (b.y.f3+1) A.vw=fm at *;clear hT a5 a1 hM a2 a3 Ds Dy Dt;have z:∀i∈ZE b.ss,i=i:=λ_ _=>rfl
 have ag:∀i,(((b.ss.take i).map λs=>(aE s).2).map uT).length<=ln b.ss:=λi=>by rw[zA5,zA5,zBt];omega
 have au:∀i,((VX b.ss i).map dE).length=ln b.ss:=λi=>by unfold VX;rw[zA5,vC]
 have ar:VX b.ss 0=b.ss:=qN _ _;clear z;refine WW ?_;refine zS 9 1022 2 Z Z Z ?_;refine zO (ln b.ss) [1021,1022,4,5,7] [4,5,7] [4,5,7,86,87] [9,88,4,5,7,86,87] Z (λi T U=>⟨(9,.ref 1022 0 (((b.ss.take i).map λs=>(aE s).2).map uT).length)::(88,iA i)::T,(1021,.arr 4 ((VX b.ss i).map dE) false)::(1022,.arr 2 (((b.ss.take i).map λs=>(aE s).2).map uT) true)::U⟩) ?_;(conv=>whnf);refine⟨by(rw[ar];rfl),?_,?_⟩
 .intro i hi;have b3:((VX b.ss i).map dE)[i]? =some (dE (b.ss.getD i dd)):=by rw[zBd];unfold VX;rw[vY,zA4 hi,Os (zD1 i)];rfl
  have e1:(VX b.ss (i+1)).map dE=((VX b.ss i).map dE).set i (dE (aE (b.ss.getD i dd)).1):=by unfold VX;rw[vP _ _ _ _ hi]
  have e2:((b.ss.take (i+1)).map λs=>(aE s).2).map uT=((b.ss.take i).map λs=>(aE s).2).map uT++[uT (aE (b.ss.getD i dd)).2]:=by
   rw[zDx hi,zBc,zBc,zBk,zB2 hi];rfl
  have hI:=hs _ (yL b.ss i hi);have kk:=Xr (b.ss.getD i dd) hI.y (by have:=hI.n;omega);have h1:=au i;have h2:=ag i;rw[e1,e2];clear e1 e2 ag ar hI hs ac kt kf au;generalize (VX b.ss i).map dE=X,((b.ss.take i).map λs=>(aE s).2).map uT=Y,(aE (b.ss.getD i dd)).1=s1,(aE (b.ss.getD i dd)).2=n1 at *;generalize b.ss.getD i dd=s0 at *;unfold uT at kk⊢
  (have ga:=kk;(repeat' (first|refine jX ?_|apply yW|apply xG|intro hc|(apply zG;first|(apply yI;refine vE tok Z Z ?_))|refine SB ?_|fail))<;>clear ga)
  rfl
 .have a8:((b.ss.take (ln b.ss)).map λs=>(aE s).2)=ZE b.ss:=by rw[zA8];rfl
  have br:=zA jC Td;rw[a8];refine wL [3,4,5,7,1021] [3,4,5,6,7,9,86,87,88] Z ?_
  (conv=>whnf)
  simp only[zBr,zA8];clear ag ar;refine yH (xU kt kf) ?_;refine zS 17 1023 1 Z Z Z ?_;refine zQ (Td) [1023,4,5,7,16,1021] [4,5,7,16,1021] [4,5,7,16,122,123] [17,124,4,5,7,16,122,123] Z (λi f4 T U=>⟨(17,.ref 1023 0 ((f4.map PG).map (zE yA)).length)::(124,iA i)::T,(1023,.arr 1 ((f4.map PG).map (zE yA)) true)::U⟩) (Lq ?_ ?_)
  .intro i f4 x post hx hi;have bk:=zZ jC hx hi;have b1:=zV hx hi;obtain⟨v1,v2⟩:=ac x (yU hx);have kg:=IY x v1 v2;have b2:((f4.map PG).map (zE yA)).length=i:=by rw[zA5,zA5,hi]
   rw[show((f4++[x]).map PG).map (zE yA)=(f4.map PG).map (zE yA)++[zE yA (PG x)] by simp];unfold jC at bk;clear hx ac kt kf v2;generalize (f4.map PG).map (zE yA)=Y,PG x=bx at *
   (have ga:=kg;(repeat' (first|refine jX ?_|apply yW|apply xG|intro hc|(apply zG;first|(apply yI;refine vE tok Z Z ?_))|refine SB ?_|fail))<;>clear ga)
   rfl
  ·(refine WW ?_)
   refine zI [] Z Z ?_ Z
   show AV.tup [AV.agg [zE wK A.c.js,zE uK A.c.ags,iA A.c.per,iA A.c.cap,iA A.c.hold,iA A.c.lock,bA false,iA A.f3,zE zN A.ds,zE wZ A.sg,zE wU A.sv,zE iA A.st,zE vO A.vw,.sl false (pi (ln b.ss) ((VX b.ss (ln b.ss)).map dE))],AV.agg [.sl false (pi ((Td.map PG).map (zE yA)).length ((Td.map PG).map (zE yA))),_],bA true]=_
   rw[zA8,zBf (zDb (au _))];rfl
def v6 {a b:List wD} (h:a.map gx=b.map gx) (H:LO b):LO a:=λi hi=>by
 have hl:=zBp List.length h;rw[zA5,zA5]at hl;have e:(a.map gx)[i]? =(b.map gx)[i]? :=zBp (·[i]?) h;rw[zBd,zBd,zB2 hi,zB2 zB]at e;have u:=zBp Prod.fst (zEg e);have:=H i zB;rw[zBk,zB2 zB]at this;rw[zBk,zB2 hi];exact u.trans this
def u6 (h:Hg b) (hN:LO b.y.ds) {r:A5} (D:EM b e r):LO r.b.y.ds:=by
 by_cases h1:e.k=1\/e.k=2\/e.k=3
 .rw[D.s h1];unfold Qb
  split<;>exact hN
 by_cases h2:e.k=4\/e.k=5
 .rw[D.y h2];exact v6 (pe h.y.rf e).2.2.2.2.2 hN
 by_cases z:e.k=6
 .obtain⟨G,E,A,B,_⟩:=D.t6 z;rw[B];obtain⟨hT,C,_⟩:=A.tk;dsimp only;rw[C];intro a u;rw[show(kG b.y (Aa b.y (ZE b.ss))).ds=eQ (b.y.f3+1) b.y.ds (Aa b.y (ZE b.ss)) (ln b.y.ds) from Z]at u⊢;rw[fZ]at u;rw[aG u,(hT a u).1.num];exact hN a u
 .rw[D.o zB];exact hN
def rx (c:Cf):LO (UF c).ds:=λi hi=>by
 have hl:(UF c).ds.length=ln c.ags:=by simp[UF,LW]
 show((LW c (ln c.ags)).getD i dd).rg.num=_
 unfold LW;rw[zBk,zBd,zC3 zB];rfl
def SA (l:List Ev) (e:Ev):(l++[e]).map hG=l.map hG++[hG e]:=by simp
theorem KW.app2 {a b:List Ev} {n m:Nat} (h:KW a n) (h2:KW b m):KW (a++b) (n+m):=
 ⟨by have:=h.1;have:=h2.1;rw[zA9];omega,λx u=>(zBq.1 u).elim (h.2 x) (h2.2 x)⟩
theorem KW.of {l:List Ev} (h:∀e∈l,qb e):KW l (ln l):=⟨zBa _,h⟩
def Cr:Ev:=⟨6,0,0,0,[]⟩
def Qg:qb Cr:=nj zB zB zB zB jU zW
def Z9 (s:Nat):Ev:=⟨1,s,0,0,[]⟩
structure BtR (c:Cf) (cm:Bool) (g:Int) (d:Dk) (b:List Int) (d':Dk) (m0 m1:Ms) (dA dC:Dk) (q0 q1 b2:List Int) (d5:Dk):Prop where
 k0:zM 20 [.ptr 1000 0 0,wH c,iA g,bA cm] [(1000,fI d)] (zX m0) [(1000,fI dA)]
 f0:zM 95 [zX m0] [] (.ref 1031 0 (q0.map yA).length) [(1031,.arr 1 (q0.map yA) true)]
 k1:zM 20 [.ptr 1000 0 0,wH c,iA g,bA cm] [(1000,fI (ad dA))] (zX m1) [(1000,fI dC)]
 f1:zM 95 [zX m1] [] (zE yA q1) []
 h2:b2=if nx dA 3=2 then q0++q1 else q0
 h5:d5=if nx dA 3=2 then dC else ad dA
 sp:cm=false->nx d5 7=6->zM 98 [zE yA b2,iA (nx (ad d5) 99),iA (nx (ad (ad d5)) 1024)] [] (zE yA b) []
 hb:¬(cm=false/\nx d5 7=6)->b=b2
 hd:d'=if cm=true then d5 else if nx d5 7=6 then ad (ad (ad d5))else ad d5
 l0:q0.length<=210
 l1:q1.length<=210
theorem Y9 (c:Cf) (hc:IT c) (B:Bool) (g:Int) (R:0<=g/\g<256) (d:Dk):∃(b:List Int) (O:Dk),(BY b/\b.length<=1000/\rem O<=rem d)/\∃I L A G E q1 z u,BtR c B g d b O I L A G E q1 z u:=by
 obtain⟨I,A,V,r0,W⟩:=YI c hc g R B d;obtain⟨E,y0,l0,S,_⟩:=DV I V;obtain⟨L,G,h1,r1,Y⟩:=YI c hc g R B (ad A);obtain⟨q1,y1,l1,U⟩:=DW L h1;have ra:=vG A
 obtain⟨z,M⟩:∃z,z=if nx A 3=2 then E++q1 else E:=⟨_,rfl⟩
 obtain⟨u,C⟩:∃u,u=if nx A 3=2 then G else ad A:=⟨_,rfl⟩
 have yb:BY z/\z.length<=420:=by
  grind [IT,Dk,BY,rem]
 have r5:rem u<=rem d:=by rw[C];split<;>omega
 have r6:=vG u;have r7:=vG (ad u);have r8:=vG (ad (ad u));have b7:=yQ (ad (ad u)) 1024 zB;obtain⟨q,yq,lq,kq⟩:=Hi z yb.1 zB (nx (ad u) 99) (nx (ad (ad u)) 1024) zB;refine⟨if B=false/\nx u 7=6 then q else z,if B=true then u else if nx u 7=6 then ad (ad (ad u))else ad u,⟨?_,?_,?_⟩,I,L,A,G,E,q1,z,u,W,S,Y,U,M,C,λh1 h2=>?_,λh=>Os h,rfl,l0,l1⟩
 all_goals grind
def G9 (c:Cf) (n:Nat) (z:Bool) (p q:List Ev×Dk):Prop:=
 (nx (ad p.2) 12<=3/\q=(p.1++[Cr],ad (ad p.2)))\/
 (nx (ad p.2) 12=4/\q=(p.1++oj (nx (ad (ad p.2)) 6+1).toNat Cr,ad (ad (ad p.2))))\/
 (nx (ad p.2) 12=5/\∃e u,q=(p.1++[e],u)/\zM 96 [.ptr 1000 0 0,wH c,iA (nx p.2 (max 1 (n:Int))),bA z] [(1000,fI (ad (ad p.2)))] (hG e) [(1000,fI u)])\/
 (6<=nx (ad p.2) 12/\∃b u,q=(p.1++[⟨3,nx p.2 (max 1 (n:Int)),0,0,b⟩],u)/\∃G I C E L q1 A B,BtR c z (Ib c.ags (nx p.2 (max 1 (n:Int)))) (ad (ad p.2)) b u G I C E L q1 A B)
theorem X9 (c:Cf) (hc:IT c) (M:LV c.ags) (n:Nat) (hn:n<=8) (A:Bool) (p:List Ev×Dk) (E:∀e∈p.1,qb e) (hl:p.2.a<p.2.l.length):
  ∃q,G9 c n A p q/\(∀e∈q.1,qb e)/\p.1.length<q.1.length/\q.1.length<=p.1.length+6/\rem q.2<rem p.2:=by
 obtain⟨l,d⟩:=p;dsimp only at E hl;have r0:=W2 d hl;have r1:=vG (ad d);have U:=yQ d (max 1 (n:Int)) zB;have V:=yQ (ad d) 12 zB;have W:=yQ (ad (ad d)) 6 zB;have r2:=vG (ad (ad d));have z:∀e,qb e->∀x∈l++[e],qb x:=λe C x u=>(zBq.1 u).elim (E x) λu=>by rw[zBz.1 u];exact C
 have len:∀e:Ev,(l++[e]).length=ln l+1:=λe=>by rw[zA9,zDa]
 by_cases G:nx (ad d) 12<=3
 .exact⟨_,.inl ⟨G,rfl⟩,z _ Qg,by dsimp only;rw[len];omega,by dsimp only;rw[len];omega,by dsimp only;omega⟩
 by_cases I:nx (ad d) 12=4
 .refine⟨_,.inr (.inl ⟨I,rfl⟩),λx u=>(zBq.1 u).elim (E x) λu=>by rw[(zE1.1 u).2];exact Qg,?_,?_,by dsimp only;omega⟩
  all_goals grind
 by_cases L:nx (ad d) 12=5
 .obtain⟨e,B,C,O,k⟩:=Mz c (nx d (max 1 (n:Int))) zB zB A (ad (ad d));exact⟨_,.inr (.inr (.inl ⟨L,e,B,rfl,k⟩)),z _ C,by dsimp only;rw[len];omega,by dsimp only;rw[len];omega,by dsimp only;omega⟩
 .have Y:=Nz M (nx d (max 1 (n:Int)));obtain⟨b,B,⟨S,R,O⟩,h⟩:=Y9 c hc A (Ib c.ags (nx d (max 1 (n:Int)))) zB (ad (ad d));exact⟨_,.inr (.inr (.inr ⟨by dsimp only;omega,b,B,rfl,h⟩)),z _ (show qb ⟨3,nx d (max 1 (n:Int)),0,0,b⟩from nj zB zB zB zB S R),by dsimp only;rw[len];omega,by dsimp only;rw[len];omega,by dsimp only;omega⟩
theorem vj (c:Cf) (hc:IT c) (U:LV c.ags) (n:Nat) (V:n<=8) (E:Bool) (l:List Ev) (d:Dk) (hl:KW l 100):
  ∃(f:Nat->List Ev×Dk) (N:Nat),f 0=(l,d)/\(∀i,i<N->G9 c n E (f i) (f (i+1))/\(f i).2.a<(f i).2.l.length/\(f i).1.length<150)/\¬((f N).2.a<(f N).2.l.length/\(f N).1.length<150)/\KW (f N).1 156/\∀i,i<=N->(f i).1.length<=156:=by
 obtain⟨f,L,G⟩:=IW (λ_ (p:List Ev×Dk)=>∀e∈p.1,qb e) (λ_ p q=>p.2.a<p.2.l.length->G9 c n E p q/\p.1.length<q.1.length/\q.1.length<=p.1.length+6/\rem q.2<rem p.2)
  (λi p M=>by
   by_cases h:p.2.a<p.2.l.length
   .obtain⟨q,h1,h2,O,R,S⟩:=X9 c hc U n V E p M h;exact⟨q,λ_=>⟨h1,O,R,S⟩,h2⟩
   .exact⟨p,λh'=>absurd h' h,M⟩) (l,d) hl.2
 have I:∃k,¬((f k).2.a<(f k).2.l.length/\(f k).1.length<150):=by
  refine zDq λhc=>?_
  have u:∀k,(f k).2.a<(f k).2.l.length/\(f k).1.length<150:=λk=>zDq λh=>hc ⟨k,h⟩
  have A:∀k,k<=(f k).1.length:=λk=>by
   induction k with
   |zero=>exact zBn _
   |succ k W=>have:=((G k).2 (u k).1).2.1;omega
  have:=A 150
  grind
 obtain⟨k,hk⟩:=I;obtain⟨N,_,hN,C⟩:=dp (P:=λk=>¬((f k).2.a<(f k).2.l.length/\(f k).1.length<150)) k hk;have B:∀i,i<N->(f i).2.a<(f i).2.l.length/\(f i).1.length<150:=λi hi=>zDq λh=>C i hi h
 have z:∀i,i<=N->(f i).1.length<=156:=λi hi=>by
  cases i with
  |zero=>rw[L];have:=hl.1;dsimp only;omega
  |succ i=>
   grind
 exact⟨f,N,L,λi hi=>⟨((G i).2 (B i hi).1).1,B i hi⟩,hN,⟨z N (zBa _),(G N).1⟩,z⟩
def Bq (g:Nat):Ev:=⟨4,0,g,0,cO (2000+10*g)⟩
def Sj (c:Cf) (F:Nat×Nat->List Int) (g v:Nat):Ev:=⟨3,ub c.ags g (ln c.ags),0,0,F (g,v)⟩
def Br (i:Nat):List Ev:=(pb i).map Z9
def Pg (c:Cf) (F:Nat×Nat->List Int) (n:Nat):Nat->List Ev
 |0=>Br n
 |g+1=>Pg c F n g++[Bq g]++(pb 3).map (Sj c F g)
theorem uj (c:Cf) (hc:IT c) (ha:LV c.ags) (cm:Bool) (d:Dk):∃(l:List Ev) (d':Dk),KW l 160/\zM 42 [.ptr 1000 0 0,wH c,bA cm] [(1000,fI d)] (zE hG l) [(1000,fI d')]:=by
 have ks:=Bs c ha;have ax:=qS ha (ln c.ags) (zBa _);have a4:=ha.1;obtain⟨n,hn⟩:∃n:Nat,jE c.ags (ln c.ags)=(n:Int):=⟨(jE c.ags (ln c.ags)).toNat,zB⟩;rw[hn]at ks;have a2:n<=8:=by omega
 clear ax hn;have av:=zA uK c.ags
 obtain⟨B,R⟩:=Classical.skolem.1 (λp:Nat×Nat=>show∃q,p.1<4/\p.2<3->BY q/\q.length<=210/\zM 95 [zX ⟨4,(p.1:Int)::0::cO (1000+(p.1:Int)),[(p.2:Int),(p.2:Int).tmod 2],[]⟩] [] (zE yA q) []from by
  by_cases h:p.1<4/\p.2<3
  .obtain⟨q,h1,h2,h3⟩:=DW _ (Lz (p.1:Int) (p.2:Int) zB zB);exact⟨q,λ_=>⟨h1,h2,h3⟩⟩
  .exact⟨[],λh'=>absurd h' h⟩)
 have L:∀g,g<=ln c.ags->KW (Pg c B n g) (n+4*g):=λg=>by
  induction g with
  |zero=>
   intro _;refine⟨by simp[Pg,Br],λe he=>?_⟩;obtain⟨s,hs,rfl⟩:=zCo.1 he;rw[zBv]at hs;exact nj zB zB zB zB jU zW
  | succ g ih=>
   intro hg;have h1:=Jb ha (g:Int) (ln c.ags) (zBa _);have h2:KW [Bq g] 1:=⟨zBa _,λe he=>by rw[zBz.1 he];exact nj zB zB zB zB (OC _) (by rw[gZ];omega)⟩
   have h3:KW ((pb 3).map (Sj c B g)) 3:=⟨by simp,λe he=>by
    obtain⟨v,hv,rfl⟩:=zCo.1 he;rw[zBv]at hv;obtain⟨q1,q2,_⟩:=R (g,v) ⟨by dsimp only;omega,hv⟩
    exact nj zB zB zB zB q1 zB⟩
   exact(((ih zB).app2 h2).app2 h3).le zB
 have hL:=(L (ln c.ags) (zBa _)).app Qg;obtain⟨f,N,O,hf,ac,S,au⟩:=vj c hc ha n a2 cm (Pg c B n (ln c.ags)++[Cr]) d (hL.le zB);refine⟨(f N).1++[Cr],(f N).2,(S.app Qg).le zB,?_⟩;unfold wH at *;refine eM call42 λF hF=>?_
 refine zU ks ?_;refine zS 7 1001 5 Z Z Z ?_;refine zO (n) [1001,4,1000] [4,1000] [0,2,4,8,17] [7,18,0,2,4,8,17] Z (λi T U=>⟨(7,.ref 1001 0 ((Br i).map hG).length)::(18,iA i)::T,(1001,.arr 5 ((Br i).map hG) true)::U⟩) (Lq ?_ ?_)
 .intro i hi;have e:(Br (i+1)).map hG=(Br i).map hG++[hG (Z9 i)]:=by unfold Br;rw[zC6,zBc];simp
  have az:((Br i).map hG).length=i:=by simp[Br]
  rw[e];generalize (Br i).map hG=X at*
  (repeat' (first|refine jX ?_|apply yW|apply xG|intro hc|(apply zG;first|(apply yI;refine ZW 23 Z Z Z ?_;refine vE tok Z Z ?_))|refine SB ?_|fail))
  rfl
 ·(refine WW ?_)
  refine zO ((c.ags.map uK).length) [1001,4,1000] [4,1000] [0,2,4,8,29] [7,30,0,2,4,8,29] Z (λi T U=>⟨(7,.ref 1001 0 ((Pg c B n i).map hG).length)::(30,iA i)::T,(1001,.arr 5 ((Pg c B n i).map hG) true)::U⟩) (Lq ?_ ?_)
  .intro g hg;have kc:=cE (2000+10*(g:Int));have kb:=zt c ha (g:Int);have kt:=cE (1000+(g:Int));have ky:=YA (g:Int) 0 (cO (1000+(g:Int))) (by rw[gZ];omega) zB zB zB zB;have az:=(L g zB).1;have a3:((Pg c B n g).map hG).length=(Pg c B n g).length:=zA5 ..;have e2:(Pg c B n (g+1)).map hG=((Pg c B n g).map hG++[hG (Bq g)])++((pb 3).map (Sj c B g)).map hG:=by simp[Pg]
   rw[e2];unfold wH at kb;generalize (Pg c B n g).map hG=X at*
   (have ga:=kc;(repeat' (first|refine jX ?_|apply yW|apply xG|intro hc|(apply zG;first|(apply yI;refine vE tok Z Z ?_))|refine SB ?_|fail))<;>clear ga)
   refine zO (3) [1001,4,1000] [4,1000] [0,2,4,8,10,29,30] [7,42,0,2,4,8,10,29,30] Z (λi T U=>⟨(7,.ref 1001 0 (X++[hG (Bq g)]++((pb i).map (Sj c B g)).map hG).length)::(42,iA i)::T,(1001,.arr 5 (X++[hG (Bq g)]++((pb i).map (Sj c B g)).map hG) true)::U⟩) ?_;(conv=>whnf);refine⟨by(rw[show X++[hG (Bq g)]++((pb 0).map (Sj c B g)).map hG=X++[hG (Bq g)]from zB1 _];rfl),?_,?_⟩
   .intro v hv;have kf:=(R (g,v) ⟨by dsimp only;omega,hv⟩).2.2;dsimp only at kf;have e3:X++[hG (Bq g)]++((pb (v+1)).map (Sj c B g)).map hG=X++[hG (Bq g)]++((pb v).map (Sj c B g)).map hG++[hG (Sj c B g v)]:=by rw[zC6];simp
    have a5:(X++[hG (Bq g)]++((pb v).map (Sj c B g)).map hG).length<=100:=by simp;omega
    rw[e3];unfold zX at kf;rw[show hG (Sj c B g v)= .agg [iA 3,iA (ub c.ags g (ln c.ags)),iA 0,iA 0,zE yA (B (g,v))]from Z];generalize X++[hG (Bq g)]++((pb v).map (Sj c B g)).map hG=Y,B (g,v)=fr,ub c.ags g (ln c.ags)=bz,cO (1000+(g:Int))=sc at *
    (have ga:=kb;have ge:=kt;have gn:=ky;have gt:=kf;(repeat' (first|refine jX ?_|apply yW|apply xG|intro hc|(apply zG;first|(apply yI;refine vE tok Z Z ?_))|refine SB ?_|fail))<;>clear ga ge gn gt)
    rfl
   ·(refine WW ?_)
    rfl
  .rw [av];have ar:=(L (ln c.ags) (zBa _)).1;have ag:((Pg c B n (ln c.ags)).map hG).length=(Pg c B n (ln c.ags)).length:=zA5 ..
   (repeat' (first|refine jX ?_|apply yW|apply xG|intro hc|(apply zG;first|(apply yI;refine ZW 66 Z Z Z ?_;refine vE tok Z Z ?_))|refine SB ?_|fail))
   refine zO (N) [1000,1001,4] [4] [0,2,4,8] [7,0,2,4,8] Z (λi T U=>⟨(7,.ref 1001 0 ((f i).1.map hG).length)::T,(1000,fI (f i).2)::(1001,.arr 5 ((f i).1.map hG) true)::U⟩) ?_;(conv=>whnf);refine⟨by(rw[O,SA];rfl),?_,?_⟩
   .intro i hi;obtain⟨hR,M,ap⟩:=hf i hi;have a1:((f i).1.map hG).length=(f i).1.length:=zA5 ..;clear hf ac S au O hL ar ag L R ks;generalize f (i+1)=q at *;generalize f i=p at *;obtain⟨l,d⟩:=p;dsimp only at *;have G:=Lm d;rw[zA7 M]at G;have b1:=yQ d (max 1 (n:Int)) zB;have b2:=yQ (ad d) 12 zB;have V:=yS d (max 1 (n:Int)) zB zB;have W:=yS (ad d) 12 zB zB;have ko:=ik c ha (nx d (max 1 (n:Int))) zB zB;unfold G9 wH at hR;unfold wH at ko;generalize nx d (max 1 (n:Int))=s at *;generalize nx (ad d) 12=k at *;generalize ad (ad d)=d2 at *;generalize ad d=d1 at*
    rcases hR with⟨h3,rfl⟩|⟨h4,rfl⟩|⟨h5,e,d',rfl,kd⟩|⟨h6,b,d',rfl,m0,m1,dA,dC,q0,q1,e2,d5,hB⟩
    .dsimp only;rw[SA,show hG Cr= .agg [iA 6,iA 0,iA 0,iA 0,.sl false []]from Z];generalize l.map hG=X at *;have:k=0\/k=1\/k=2\/k=3:=by omega
     rcases this with h|h|h|h
     all_goals
      (have ga:=G;have ge:=V;have gn:=W;(repeat' (first|refine jX ?_|apply yW|apply xG|intro hc|(apply zG;first|(apply yI;refine ZW 128 Z Z Z ?_;refine vE tok Z Z ?_))|refine SB ?_|fail))<;>clear ga ge gn)
      rfl
    .dsimp only;have n3:=yS d2 6 zB zB;have b3:=yQ d2 6 zB;generalize ad d2=d3 at *;obtain⟨z,hz⟩:∃z:Nat,nx d2 6=(z:Int):=⟨(nx d2 6).toNat,zB⟩;rw[hz]at n3 b3⊢;rw[show((z:Int)+1).toNat=z+1 by omega,zBc,zEt,show hG Cr= .agg [iA 6,iA 0,iA 0,iA 0,.sl false []]from Z];generalize l.map hG=X at*
     (have ga:=G;have ge:=V;have gn:=W;have gt:=n3;(repeat' (first|refine uQ ?_|apply yW|apply xG|intro hc|fail))<;>clear ga ge gn gt)
     refine zO ((z+1)) [1001,4,1000] [4,1000] [0,2,4,8] [7,13,0,2,4,8] Z (λi T U=>⟨(7,.ref 1001 0 (X++oj i (AV.agg [iA 6,iA 0,iA 0,iA 0,.sl false []])).length)::(13,iA ((z:Int)-i))::T,(1001,.arr 5 (X++oj i (AV.agg [iA 6,iA 0,iA 0,iA 0,.sl false []])) true)::U⟩) ?_;(conv=>whnf);refine⟨by(rw[List.replicate_zero,zB1,show(z:Int)-(0:Nat)=z by omega];rfl),?_,?_⟩
     .intro r hr;have a7:(X++oj r (AV.agg [iA 6,iA 0,iA 0,iA 0,.sl false []])).length<=200:=by simp;omega
      rw[show oj (r+1) (AV.agg [iA 6,iA 0,iA 0,iA 0,.sl false []])=oj r (AV.agg [iA 6,iA 0,iA 0,iA 0,.sl false []])++[AV.agg [iA 6,iA 0,iA 0,iA 0,.sl false []]]from zFd,<-zBx,show(z:Int)-((r+1:Nat):Int)=(z:Int)-r-1 by omega];generalize X++oj r (AV.agg [iA 6,iA 0,iA 0,iA 0,.sl false []])=Y at *;have z0:0<=(z:Int)-r:=by omega
      have z1:(z:Int)-r<=10:=by omega
      generalize (z:Int)-r=w at*
      (repeat' (first|refine jX ?_|apply yW|apply xG|intro hc|(apply zG;first|(apply yI;refine ZW 140 Z Z Z ?_;refine vE tok Z Z ?_))|refine SB ?_|fail))
      rfl
     .rw[show(z:Int)-((z+1:Nat):Int)= -1 by omega];refine WW ?_;rfl
    .dsimp only;rw[SA];generalize l.map hG=X at*
     (have ga:=G;have ge:=V;have gn:=W;have gt:=kd;(repeat' (first|refine jX ?_|apply yW|apply xG|intro hc|(apply zG;first|(apply yI;refine vE tok Z Z ?_))|refine SB ?_|fail))<;>clear ga ge gn gt)
     rfl
    .dsimp only;rw[SA,show hG ⟨3,s,0,0,b⟩= .agg [iA 3,iA s,iA 0,iA 0,zE yA b]from Z];obtain⟨k0,O,k1,f1,h2,g5,I,C,A,l0,l1⟩:=hB;unfold wH zX at *;have n3:=yS dA 3 zB zB;have n4:=yS d5 7 zB zB;have n5:=yS (ad d5) 99 zB zB;have n6:=yS (ad (ad d5)) 1024 zB zB;have c3:=yQ dA 3 zB;have c4:=yQ d5 7 zB;have m0:=zA yA q0;have m1:=zA yA q1;generalize l.map hG=X at *;generalize nx dA 3=u at *;generalize nx d5 7=v at *;by_cases hu:u=2
     .rw[zA4 hu]at h2 g5;subst g5;subst h2;have em:zE yA (q0++q1)= .sl false (q0.map yA++q1.map yA):=by unfold zE;rw[zBc]
      rw[em]at I;have ez:zE yA (q0++q1)= .sl false (pi (q0.map yA++q1.map yA).length (py 0 (q0.map yA++q1.map yA))):=by rw[em,zBr,zA8]
      cases cm with
      |true=>
       rw[zA4 Z]at A;subst A;have E:=C (λh=>by cases h.1);subst E;rw[ez];clear I C
       (have ga:=G;have ge:=V;have gn:=W;have gt:=ko;have ic:=k0;have kj:=O;have lc:=n3;have lf:=k1;have lk:=f1;have zc10:=n4;have zc11:=n5;have zc12:=n6;(repeat' (first|refine jX ?_|apply yW|apply xG|intro hc|(apply zG;first|(apply yI;refine vX [1000,1001,4] [0,2,4,8,116,119] Z ?_;(conv=>whnf);refine vE tok Z Z ?_)|(apply yD;refine jG tok Z Z Z Z Z Z Z Z Z Z Z (yM _ _ (λ_=>rfl)) zB Z ?_))|refine SB ?_|fail))<;>clear ga ge gn gt ic kj lc lf lk zc10 zc11 zc12)
       rfl
      | false=>
       rw[Os zBl]at A;by_cases hv:v=6
       .rw[zA4 hv]at A;subst A;have I:=I Z hv;clear C
        (have ga:=G;have ge:=V;have gn:=W;have gt:=ko;have ic:=k0;have kj:=O;have lc:=n3;have lf:=k1;have lk:=f1;have zc10:=n4;have zc11:=n5;have zc12:=n6;have zc13:=I;have kh:=(⟨⟩:su 98 [1000,1001,4] [0,2,4,7,8,12,110,112,114]);(repeat' (first|refine jX ?_|apply yW|apply xG|intro hc|(apply zG;first|(apply yI;refine vX [1000,1001,4] [0,2,4,8,116,119] Z ?_;(conv=>whnf);refine vE tok Z Z ?_)|(apply yD;refine jG tok Z Z Z Z Z Z Z Z Z Z Z (yM _ _ (λ_=>rfl)) zB Z ?_))|refine SB ?_|fail))<;>clear ga ge gn gt ic kj lc lf lk zc10 zc11 zc12 zc13 kh)
        rfl
       .rw[Os hv]at A;subst A;have E:=C (λh=>hv h.2);subst E;rw[ez];clear I C
        (have ga:=G;have ge:=V;have gn:=W;have gt:=ko;have ic:=k0;have kj:=O;have lc:=n3;have lf:=k1;have lk:=f1;have zc10:=n4;have zc11:=n5;have zc12:=n6;(repeat' (first|refine jX ?_|apply yW|apply xG|intro hc|(apply zG;first|(apply yI;refine vX [1000,1001,4] [0,2,4,8,116,119] Z ?_;(conv=>whnf);refine vE tok Z Z ?_)|(apply yD;refine jG tok Z Z Z Z Z Z Z Z Z Z Z (yM _ _ (λ_=>rfl)) zB Z ?_))|refine SB ?_|fail))<;>clear ga ge gn gt ic kj lc lf lk zc10 zc11 zc12)
        rfl
     .rw[Os hu]at h2 g5;subst g5;subst h2;have em:∀z,zE yA z= .sl false (z.map yA):=λz=>rfl
      rw[em e2]at I;have ez:zE yA e2= .sl false (pi (e2.map yA).length (py 0 (e2.map yA))):=by rw[zBr,zA8];rfl
      cases cm with
      |true=>
       rw[zA4 Z]at A;subst A;have E:=C (λh=>by cases h.1);subst E;rw[ez];clear I C
       (have ga:=G;have ge:=V;have gn:=W;have gt:=ko;have ic:=k0;have kj:=O;have lc:=n3;have lf:=k1;have lk:=f1;have zc10:=n4;have zc11:=n5;have zc12:=n6;(repeat' (first|refine jX ?_|apply yW|apply xG|intro hc|(apply zG;first|(apply yI;refine vX [1000,1001,4] [0,2,4,8,116,119] Z ?_;(conv=>whnf);refine vE tok Z Z ?_)|(apply yD;refine jG tok Z Z Z Z Z Z Z Z Z Z Z (yM _ _ (λ_=>rfl)) zB Z ?_))|refine SB ?_|fail))<;>clear ga ge gn gt ic kj lc lf lk zc10 zc11 zc12)
       rfl
      | false=>
       rw[Os zBl]at A;by_cases hv:v=6
       .rw[zA4 hv]at A;subst A;have I:=I Z hv;clear C
        (have ga:=G;have ge:=V;have gn:=W;have gt:=ko;have ic:=k0;have kj:=O;have lc:=n3;have lf:=k1;have lk:=f1;have zc10:=n4;have zc11:=n5;have zc12:=n6;have zc13:=I;have kh:=(⟨⟩:su 98 [1000,1001,4] [0,2,4,7,8,12,110,112,114]);(repeat' (first|refine jX ?_|apply yW|apply xG|intro hc|(apply zG;first|(apply yI;refine vX [1000,1001,4] [0,2,4,8,116,119] Z ?_;(conv=>whnf);refine vE tok Z Z ?_)|(apply yD;refine jG tok Z Z Z Z Z Z Z Z Z Z Z (yM _ _ (λ_=>rfl)) zB Z ?_))|refine SB ?_|fail))<;>clear ga ge gn gt ic kj lc lf lk zc10 zc11 zc12 zc13 kh)
        rfl
       .rw[Os hv]at A;subst A;have E:=C (λh=>hv h.2);subst E;rw[ez];clear I C
        (have ga:=G;have ge:=V;have gn:=W;have gt:=ko;have ic:=k0;have kj:=O;have lc:=n3;have lf:=k1;have lk:=f1;have zc10:=n4;have zc11:=n5;have zc12:=n6;(repeat' (first|refine jX ?_|apply yW|apply xG|intro hc|(apply zG;first|(apply yI;refine vX [1000,1001,4] [0,2,4,8,116,119] Z ?_;(conv=>whnf);refine vE tok Z Z ?_)|(apply yD;refine jG tok Z Z Z Z Z Z Z Z Z Z Z (yM _ _ (λ_=>rfl)) zB Z ?_))|refine SB ?_|fail))<;>clear ga ge gn gt ic kj lc lf lk zc10 zc11 zc12)
        rfl
   .rw[show zE hG ((f N).1++[Cr])= .sl false ((f N).1.map hG++[hG Cr]) by unfold zE;rw[SA]];have a6:=S.1;have a1:((f N).1.map hG).length=(f N).1.length:=zA5 ..;have G:=Lm (f N).2;clear hf S au O hL ar ag L R ks;generalize f N=p at *;obtain⟨l,d⟩:=p;dsimp only at *;rw[show hG Cr= .agg [iA 6,iA 0,iA 0,iA 0,.sl false []]from Z];by_cases M:d.a<ln d.l
    .have ap:¬l.length<150:=λh=>ac ⟨M,h⟩
     rw[zA7 M]at G;generalize l.map hG=X at*
     (have ga:=G;(repeat' (first|refine jX ?_|apply yW|apply xG|intro hc|(apply zG;first|(apply yI;refine ZW 154 Z Z Z ?_;refine vE tok Z Z ?_))|refine SB ?_|fail))<;>clear ga)
     exact zI [1000] Z Z (zBp (AV.sl false) zA8) Z
    .rw[zA6 M]at G;generalize l.map hG=X at*
     (have ga:=G;(repeat' (first|refine jX ?_|apply yW|apply xG|intro hc|(apply zG;first|(apply yI;refine ZW 154 Z Z Z ?_;refine vE tok Z Z ?_))|refine SB ?_|fail))<;>clear ga)
     exact zI [1000] Z Z (zBp (AV.sl false) zA8) Z
