/- Part 31. -/
import Derived.Test.YtaglbcjljlkjcaaGreatU30
namespace Go.Proofs.YtaglbcjljlkjcaaGreat.Av
open Tryz
set_option linter.all false
set_option maxRecDepth 4000
set_option maxHeartbeats 16000000
open List renaming length->ln,replicate->pi,range->py,take->p5,drop->qd
open Inhabited renaming default->dd
variable {nn:Bool}{e:Ev}{xs:List AV}{b:PE}
def Fw {c:Int} (h:0<=c):Xx c=[c/16777216 % 256,c/65536 % 256,c/256 % 256,c % 256]:=by
 unfold Xx;simp only[show py 4=[0,1,2,3]from Z,zCc,zCm,wr];rw[show c.fdiv (2 ^ (min (8*(3-((0:Nat):Int))).toNat IntKind.u32.bits))=c.fdiv 16777216 from Z,show c.fdiv (2 ^ (min (8*(3-((1:Nat):Int))).toNat IntKind.u32.bits))=c.fdiv 65536 from Z,show c.fdiv (2 ^ (min (8*(3-((2:Nat):Int))).toNat IntKind.u32.bits))=c.fdiv 256 from Z,show c.fdiv (2 ^ (min (8*(3-((3:Nat):Int))).toNat IntKind.u32.bits))=c.fdiv 1 from Z];rw[zC0 _ zB,zC0 _ zB,zC0 _ zB,zC0 _ zB,Int.ediv_one]
def Y5 {s:Int} (h:0<=s):Wx s=Xx s:=by
 rw[Fw h];unfold Wx;simp only[wr];rw[show s.fdiv (2 ^ (min (24:Int).toNat IntKind.u32.bits))=s.fdiv 16777216 from Z,show s.fdiv (2 ^ (min (16:Int).toNat IntKind.u32.bits))=s.fdiv 65536 from Z,show s.fdiv (2 ^ (min (8:Int).toNat IntKind.u32.bits))=s.fdiv 256 from Z];rw[zC0 _ zB,zC0 _ zB,zC0 _ zB]
def Ew (k:Int) (p:List Int) (z:0<=k) (A:k<=255) (hb:BY p) (u:ln p<=200):zN 215 [iA k,zE yA p] [] (.tup [.ref 1031 0 ((Tb k p).map yA).length,iA 0]) [(1031,.arr 1 ((Tb k p).map yA) true)]:=by
 obtain⟨q,e,_,_,c⟩:=pe k p z A hb u;rw[Y5 (jk _).1]at e;rw[show Tb k p=q from e.symm];exact c
theorem Fq (u z:Nat) (c:Int):∀(l:List Int) (i:Nat),i+ln l<=u->ZA u z c i l=(l.map jT).flatten
 | [],i,_=>rfl
 |x::l,i,h=>by
  rw[zA8]at h;rw[ZA,Fq u z c l (i+1) zB,Os (λh2=>by omega)];rfl
def Dw (k:Int) (z A c:Nat) (u E:List Int) (hl:ln u=z+A*c) (hc:c<128):dK z A (c:Int) ⟨k,[],u,E⟩=OR z A c u (ln u)++E:=by
 have I:z<=ln u:=by rw[hl];exact Nat.le_add_right _ _
 have G:jT (c:Int)=[(c:Int)]:=by unfold jT;rw[VK zB]
 rw[T5 _ _ _ _ zB zB,zBh,G];unfold dK;dsimp only;rw[zD3];by_cases C:A=0
 .subst C;have h1:ln u=z:=by rw[hl];simp
  rw[ip,Os (λh=>h.1 Z),Os zB,zA2 zB,zD5 zB];simp
 .rw[zAs (by omega:(0:Int)<(A:Int))];by_cases B:c=0
  .subst B;have h1:ln u=z:=by rw[hl];simp
   rw[Fq _ _ _ _ _ zB,zAs ⟨C,h1⟩,zA2 zB,zD5 zB];simp
  .have h1:z<ln u:=by
    rw[hl];have:0<A*c:=Nat.mul_pos zB zB;omega
   have e:=FT z A c C (u.drop z) (λh=>by have:=zBd List.length h;rw[zBr,zBz]at this;omega) (u.take z) 0 JL;rw[zEj]at e;rw[e,Os (λh=>by omega)];simp
def Q8 (m:Ms) (h:YP m):zN 162 [zX m] [] (.tup [zE yA (Tg m),iA 0]) []:=by
 obtain⟨e0,⟨Y,gr,ap,L,M⟩,av⟩:=M5 h;obtain⟨ht,S⟩:=h;rw[e0];clear e0;generalize N5 m=G at *;obtain⟨k,ax,B,I⟩:=m;dsimp only at *;subst ht;have kv:=xe S;have E:=S.kk;have hz:=S.z;have au:=S.l
 have v2:zN 70 [zX ⟨k,[],B,I⟩] [] (zE yA G) []:=by
  have W:(0<=(jR k).1/\(jR k).1<=4)/\(0<=(jR k).2.1/\(jR k).2.1<=4)/\(jR k).2.2.2.1<=16:=by
   have:k=13\/k=14\/k=15\/k=16\/k=17\/k=18\/k=19\/k=20\/k=21:=by omega
   clear E kv L M S
   rcases this with rfl|rfl|rfl|rfl|rfl|rfl|rfl|rfl|rfl<;>decide
  obtain⟨⟨f0,f1⟩,⟨r0,r1⟩,ac⟩:=W;have c1:=C8 k E;obtain⟨O,U⟩:∃n:Nat,(jR k).1=(n:Int):=⟨(jR k).1.toNat,zB⟩;obtain⟨A,V⟩:∃n:Nat,(jR k).2.1=(n:Int):=⟨(jR k).2.1.toNat,zB⟩;obtain⟨C,rfl⟩:∃n:Nat,gr=(n:Int):=⟨gr.toNat,zB⟩;rw[U,V]at c1 M L;generalize (jR k).2.2.1=lo,(jR k).2.2.2.1=hi,(jR k).2.2.2.2=sd at *
  have u:ln B=O+A*C:=by
   rcases L with⟨q1,q2,q3⟩|⟨q1,q2,_⟩
   .rw[show A=0 by omega,zEc];omega
   .have:((A*C:Nat):Int)=(A:Int)*(C:Int):=by push_cast;rfl
    omega
  have v:=EG k O A lo hi sd c1 zB ⟨k,[],B,I⟩ C Z zV NJ S.n NJ (λ_=>by dsimp only;rw[u,zEu]) zB;rw[Dw k O A C B I u zB,<-M]at v;exact v
 have c2:=Ew k G zB zB Y zB;have ag:=dx k G;clear M L S hz;unfold zX at *;dsimp only at*
 have k1:zN 21 [.agg [iA k,zE yA [],zE iA B,zE yA I]] [] (.tup [zE yA G,iA 0]) []:=by
  refine eM call21 λF hF=>?_
  exact ng (xQ kv v2)
 generalize Tb k G=f at *;refine eM call162 λF hF=>?_
 refine yF (xQ k1 c2) ?_;exact zI [] Z Z (zBd (λz=>AV.tup [AV.sl false z,iA 0]) zAv) Z
def IT (l:List Ms) (hl:ln l<=1002) (h:∀m∈l,YP m):zN 104 [zE zX l] [] (zE yA (PD l)) []:=by
 have E:=zA zX l;refine eM call104 λF hF=>?_
 refine WW ?_;refine zQ 3 1001 1 Z Z Z ?_;refine zU (l) [1001] [] [8,9] [3,10,8,9] Z (λi ga T U=>⟨(3,.ref 1001 0 ((PD ga).map yA).length)::(10,iA i)::T,(1001,.arr 1 ((PD ga).map yA) true)::U⟩) (Lq ?_ ?_)
 .intro i ga x post u hi;have M:=yJ zX u hi;have B:=zW u hi;obtain⟨⟨L,_⟩,_⟩:=Fy x (h x (xA u));have z:=Q8 x (h x (xA u));have G:=Qg (l:=ga) λm C=>h m (by rw[u];simp[C])
  have I:=zA yA (PD ga);have A:=zA yA (Tg x);rw[Rr,zA0];clear u;generalize PD ga=X,Tg x=Y at *;unfold zX at *;refine zS z ?_;rfl
 ·(refine WW ?_)
  exact zI [] Z Z (zBd (AV.sl false) zAv) Z
theorem Hi (v:AV):(ZD v).cells=v.cells.map ZD:=by
 cases v with
 |agg cs=>show wkL cs=cs.map ZD;exact re cs
 |s v=>
  show(ZD (.s v)).cells=[ZD (.s v)]
  unfold ZD
  split<;>rfl
 |_=>rfl
theorem xM.wkl {w:World} {D:Nat->Prop} {c:Value} (hv:xM w D (.sl nn xs) c):xM w D (.sl nn (xs.map ZD)) c:=by
 cases hv with
 |nil a cap=>exact .nil a cap
 |nil1 a cap=>exact .nil1 a cap
 | sl _ _ b o sz cap f z hL hc h=>
  have hl:(xs.map ZD).length=ln xs:=zAt ..
  have hk:∀(i:Nat) (x:AV),(xs.map ZD)[i]? =some x->∃y,xs[i]? =some y/\x.cells=y.cells.map ZD:=λi x z=>by
   grind [ZD,Option.map_eq_some_iff,Hi]
  have A:Sz w D (xs.map ZD) b o sz f:=by
   refine⟨hL.lt,hL.nd,hL.pos,by rw[hl];exact hL.max,λi x z=>?_,λi j hi hj=>hL.cell i j (by rw[hl]at hi;exact hi) hj,λi j hi hj=>hL.one i j (by rw[hl]at hi;exact hi) hj⟩;obtain⟨y,C,B⟩:=hk i x z;rw[B,zAt];exact hL.wide i y C
  have:=xM.sl nn (xs.map ZD) b o sz cap f (by simpa using z) A (by rw[hl];exact hc) (λi x j v hi hj=>by
   obtain⟨y,C,B⟩:=hk i x hi;rw[B,zA1,zBc]at hj;obtain⟨u,E,rfl⟩:=hj
   exact(h i y j u C E).wk)
  grind
section
variable {P:Program} {K0:List Nat} {F:Fr K0} {m:Nat} {ops:Array Oper} {rest:List Oper} {fs:List FP} {tm:List (Nat×AV)} {h:List (Nat×xW)}
theorem wK.wkL {a:Act} {w:World} (R:wK F m ⟨tm,h⟩ a w) (t:Nat) {ys:List AV} (hv:zK tm t= .sl nn xs) (C:xs.map ZD=ys):wK F m ⟨(t,.sl nn ys)::tm,h⟩ a w:=by
 obtain⟨⟨X,β,B,H,u,z,I,A⟩,G,gs,hl⟩:=R;refine⟨⟨X,β,B,H,λj=>?_,z,λi hi=>?_,A⟩,G,gs,hl⟩
 .rw[xF];split
  .rename_i hj;subst hj;have:=u j;dsimp only at this;rw[hv]at this
   cases this with
   |fz _ _ E=>exact .fz _ _ (C▸E.wkl)
  .exact u j
 all_goals grind [wK,zK,ZD]
def P8 {Q:List FP->St->Prop} (t:Nat) {ys:List AV} (hv:zK tm t= .sl nn xs) (u:xs.map ZD=ys) (hk:yN P F m ops false rest ⟨(t,.sl nn ys)::tm,h⟩ fs Q):yN P F m ops false rest ⟨tm,h⟩ fs Q:=
 ⟨λa w R=>hk.run a w (R.wkL t hv u)⟩
end
def zSe:AV:= .agg [bA false,bA false,.s (.slice none 0 0),bA false]
def o6 (c:Cf):PE:=⟨UD c,pi (jJ c.ags (ln c.ags)).toNat ⟨false,false,[],false⟩⟩
theorem O8 {α β:Type} [Inhabited α] [Inhabited β] (f:α->β) (l:List α) (k:Nat) (hk:k<ln l):(l.map f).getD k dd=f (l.getD k dd):=by grind
theorem Jy (c:Cf) (h:Qb c):LR (UD c):=by
 have B:=h.a;have z:(LY c (ln c.ags)).length=ln c.ags:=by simp[LY]
 have u:∀d∈LY c (ln c.ags),∃k:Nat,k<ln c.ags/\d=QY (k:Int) (c.ags.getD k dd) (c.ags.getD k dd).ses.toNat:=λd hd=>by
  grind [UD,LY]
 refine⟨h,rfl,zC3 _,z,λd hd=>?_,λa B=>?_,λd hd=>?_,by simp[UD],by simp[UD],by simp[UD],by simp[UD],λw C=>?_,λk hk=>?_⟩
 .obtain⟨k,hk,rfl⟩:=u d hd;exact M4 (h.av _ (yK c.ags k hk)) k zB
 .have A:a<ln c.ags:=by rw[<-z];exact B
  show((LY c (ln c.ags)).getD a dd).rg.ag=_
  unfold LY;rw[zA5,zA1,zCn A];rfl
 .obtain⟨k,hk,rfl⟩:=u d hd;exact λr G=>by cases G
 .unfold UD at C;obtain⟨j,hj,rfl⟩:=zCb.1 C;exact uk j (h.jv j hj) _ _
 .have hk':k<ln c.js:=hk;have J:=h.jv _ (yK c.js k hk')
  show JI (c.js.getD k dd) ((c.js.map fO).getD k dd) ((c.js.map HC).getD k dd) 0
  rw[O8 fO c.js k hk',O8 HC c.js k hk'];refine⟨Dl J,by simp[HC,th],λe E=>?_,zC3 _,(by decide:(0:Int)<=60)⟩;rw[(zEp.1 E).2]
  decide
def N8 (c:Cf) (h:Qb c):Pg (o6 c):=by
 have hb:=kG h.ag (ln c.ags) (zAy _);refine⟨Jy c h,?_,λs u=>?_⟩
 .show((pi _ _).length:Int)=_
  rw[zCk]
  show((jJ c.ags (ln c.ags)).toNat:Int)=jJ c.ags (ln c.ags)
  omega
 .rw[(zEp.1 u).2];exact⟨jV,zBb _⟩
def X5 (b:PE) (k:Int):Bool:=decide (0<=k/\k<(ln b.ss:Int))
def M8 (e:Ev) (s:Ss):Ss:=if e.k=1 then(if s.op=true then s else⟨true,false,[],false⟩)else if e.k=2 then⟨false,false,[],false⟩else Ab s e.y
def ib (b:PE) (e:Ev):PE:=if X5 b e.s=true then⟨b.y,b.ss.set e.s.toNat (M8 e (b.ss.getD e.s.toNat dd))⟩else b
def s9:AV:= .agg [.sl false [],.sl false []]
def Gi (y:Cy) (e:Ev):Cy:=if e.k=4 then TZ y e.a e.y else bG y e.a e.b
def Cw (d:wC):Int×List Rq:=(d.rg.num,d.rq)
def Ei {α:Type} {l:List α} {i:Nat} {x:α} (h:l[i]? =some x):l.set i x=l:=by
 apply zB2;intro j;rw[zD1];split
 .rename_i e;subst e;have:=(zBk.1 h).1;rw[zAs this,h]
 .rfl
def ye {y:Cy} (u:y.rf=false) (e:Ev):(Gi y e).c=y.c/\(Gi y e).f4=y.f4/\(Gi y e).sg=y.sg/\(Gi y e).sv=y.sv/\(Gi y e).vw=y.vw/\(Gi y e).ds.map Cw=y.ds.map Cw:=by
 unfold Gi;split
 .unfold TZ;split
  .rename_i hc;refine⟨rfl,rfl,rfl,rfl,rfl,?_⟩
   show(y.ds.set _ _).map Cw=_
   rw[zCe];refine Ei (zA1.trans ?_);rw[zA5,zBq zB];rfl
  .exact⟨rfl,rfl,rfl,rfl,rfl,rfl⟩
 .unfold bG
  split<;>exact⟨rfl,rfl,rfl,rfl,rfl,rfl⟩
structure W5 where
 b:PE
 S:List (List Int)
 f:List Int
 fl:Bool
structure DvP (b:PE) (e:Ev) (r:W5):Prop where
 s:e.k=1\/e.k=2\/e.k=3->r=⟨ib b e,[],[],false⟩
 y:e.k=4\/e.k=5->r=⟨⟨Gi b.y e,b.ss⟩,[],[],false⟩
 o:¬(1<=e.k/\e.k<=6)->r=⟨b,[],[],false⟩
 t6:e.k=6->∃(y':Cy) (Td:List (List Ms)),W9 b.y y' (ZC b.ss) Td/\r=⟨⟨y',VU b.ss b.ss.length⟩,Td.map PD,PD [QI (b.y.f4+1) y'.vw],true⟩/\zN 12 [qA b.y,zE uZ (ZC b.ss)] [] (.tup [qA y',L5 Td (QI (b.y.f4+1) y'.vw)]) (K5 Td)
def OM (n:Nat) (u:Cy) (X:List AV) (S:AV) (f:Bool) (z:ln X=n):AV.tup [La u (.sl false (p5 n X)),S,bA f]=AV.tup [La u (.sl false X),S,bA f]:=by rw[zA2 (zCz z)]
section
variable (b:PE) (h:Pg b)
include h
def Dq:∃N:Nat,ln b.ss=N/\N<=8:=by
 have u:=h.y.v.ag;have h1:=h.l;have h2:=kG u (ln b.y.c.ags) (zAy _);have z:=u.1;exact⟨_,rfl,zB⟩
theorem L8 (e:Ev) (z:BY e.y) (u:ln e.y<=1000000) (r:W5) (D:DvP b e r) (A:r.b.y.rf=false):JC [VT b,hH e] [] (.tup [VT r.b,Y9 r.S r.f,bA r.fl]) []:=Zk
theorem Sa (u:List Ss):VU u (ln u)=u.map λs=>(aC s).1:=by
 unfold VU;apply zB2;intro j;rw[vS,zA1];by_cases hj:j<ln u
 .rw[zAs hj,zAs hj,zBq hj];simp only[zCq,zA5,zBq hj,zDn]
 .rw[Os hj,zB6 zB];rfl
def zAq (B:b.y.f4<1000000000):∃(A:Cy) (z:List (List Ms)),W9 b.y A (ZC b.ss) z/\zN 12 [qA b.y,zE uZ (ZC b.ss)] [] (.tup [qA A,L5 z (QI (b.y.f4+1) A.vw)]) (K5 z):=by
 have u:(ZC b.ss).length=ln b.ss:=by unfold ZC;rw[zAt]
 exact Uj b.y h.y B (ZC b.ss) (by rw[u];exact h.l) (λi hi=>by
  unfold ZC at hi;obtain⟨s,C,rfl⟩:=zCb.1 hi
  exact(Zr (h.s s C)).2)
end
section
structure EF (b:PE) (e:Ev) (r:W5):Prop extends DvP b e r where
 i:Pg r.b
 c:r.b.y.c=b.y.c
 n:b.y.f4<=r.b.y.f4/\r.b.y.f4<=b.y.f4+1
 t:r.fl=true->r.S.length=b.ss.length
 f6:r.fl=true->e.k=6
 k:JC [VT b,hH e] [] (.tup [VT r.b,Y9 r.S r.f,bA r.fl]) []
structure i9 (e:Ev):Prop where
 y:BY e.y
 n:e.y.length<=1000000
theorem Ha.g (h:Ha e):i9 e:=⟨h.y,zBx h.n yY⟩
def K8 (u:BY e.y) {s:Ss} (h:R5 s):R5 (M8 e s):=by
 unfold M8;split
 .split
  .exact h
  .exact⟨jV,zBb _⟩
 .split
  .exact⟨jV,zBb _⟩
  .exact Q5 h u
def J8 (h:Pg b) (A:BY e.y):Pg (ib b e):=by
 unfold ib;split
 .refine⟨h.y,by dsimp only;rw[zB9];exact h.l,λs u=>?_⟩;rename_i z;unfold X5 at z;rw[zAz]at z
  rcases zDu u with u|rfl
  .exact h.s s u
  .exact K8 A (h.s _ (yK b.ss _ zB))
 .exact h
theorem I8 (b:PE) (h:Pg b) (O:b.y.f4<1000000000) (e:Ev) (A:i9 e):∃r,EF b e r:=by
 have u:∀r,DvP b e r->Pg r.b->r.b.y.c=b.y.c->(b.y.f4<=r.b.y.f4/\r.b.y.f4<=b.y.f4+1)->(r.fl=true->ln r.S=ln b.ss)->(r.fl=true->e.k=6)->∃r,EF b e r:=λr D i c n t f=>⟨r,⟨D,i,c,n,t,f,L8 b h e A.y A.n r D i.y.rf⟩⟩
 by_cases h1:e.k=1\/e.k=2\/e.k=3
 .have e1:(ib b e).y=b.y:=by unfold ib;split<;>rfl
  exact u ⟨ib b e,[],[],false⟩ ⟨λ_=>rfl,λh=>zB,λh=>zB,λh=>zB⟩ (J8 h A.y) (by dsimp only;rw[e1]) (by dsimp only;rw[e1];omega) (λh=>(by cases h)) (λh=>(by cases h))
 by_cases h2:e.k=4\/e.k=5
 .have U:LR (Gi b.y e):=by
   unfold Gi;split
   .exact D8 h.y A.y
   .exact zr h.y ..
  obtain⟨L,Y,_⟩:=ye h.y.rf e;exact u ⟨⟨Gi b.y e,b.ss⟩,[],[],false⟩ ⟨λh=>zB,λ_=>rfl,λh=>zB,λh=>zB⟩ ⟨U,by dsimp only;rw[L];exact h.l,h.s⟩ L NJ (λh=>(by cases h)) (λh=>(by cases h))
 by_cases M:e.k=6
 .obtain⟨G,I,z,V⟩:=zAq b h O;have B:(ZC b.ss).length=ln b.ss:=by unfold ZC;rw[zAt]
  refine u ⟨⟨G,VU b.ss (ln b.ss)⟩,I.map PD,PD [QI (b.y.f4+1) G.vw],true⟩ ⟨λh=>zB,λh=>zB,λh=>zB,λ_=>⟨G,I,z,rfl,V⟩⟩ ⟨z.i,?_,λs C=>?_⟩ z.c (by have:=z.n;dsimp only;omega) (λ_=>by dsimp only;rw[zAt,z.l,B]) λ_=>M
  .dsimp only;rw[z.c,Sa b h,zAt];exact h.l
  .dsimp only at C;rw[Sa b h]at C;obtain⟨W,E,rfl⟩:=zCb.1 C;exact(Zr (h.s W E)).1
 .exact u ⟨b,[],[],false⟩ ⟨λh=>zB,λh=>zB,λ_=>rfl,λh=>zB⟩ h Z NJ (λh=>(by cases h)) (λh=>(by cases h))
open Classical in
noncomputable def m6 (b:PE) (e:Ev):W5:=if h:∃r,EF b e r then h.choose else⟨b,[],[],false⟩
theorem Bw (h:Pg b) (z:b.y.f4<1000000000) (u:i9 e):EF b e (m6 b e):=by grind [m6,I8]
def Cq (h:Pg b) (z:b.y.f4<1000000000) (u:Ha e):EF b e (m6 b e):=Bw h z u.g
theorem EF.st (h:Pg b) {r:W5} (u:Ha e) (D:EF b e r) (A:r.fl=false):r.b.y.f4=b.y.f4/\r.b.y.sg=b.y.sg/\r.b.y.sv=b.y.sv/\r.b.y.vw=b.y.vw/\r.b.y.ds.map Cw=b.y.ds.map Cw:=by
 have hk:=u.k;have hc:(e.k=1\/e.k=2\/e.k=3)\/(e.k=4\/e.k=5)\/e.k=6:=by omega
 rcases hc with hc|hc|hc
 .have e1:(ib b e).y=b.y:=by unfold ib;split<;>rfl
  rw[D.s hc]
  grind
 .rw[D.y hc];exact(ye h.y.rf e).2
 .obtain⟨_,_,_,z,_⟩:=D.t6 hc
  grind
end
def Bq (b:PE) (h:Pg b):zN 99 [VT b] [] (La b.y (.ref 1021 0 (b.ss.map dB).length)) [(1021,.arr 4 (b.ss.map dB) false)]:=by
 obtain⟨N,hN,C⟩:=Dq b h;have A:=aB b.y h.y.b;have I:=h.s;have z:=h.y.rf;obtain⟨y,B⟩:=b;dsimp only at *;rw[cN z]at A;have L:=zA dB B;unfold VT La;dsimp only;refine eM call99 λF hF=>?_
 refine zS A ?_;refine zQ 4 1021 4 Z Z Z ?_;refine zU (B) [1021,2,3] [2,3] [2,3,12,13] [4,14,2,3,12,13] Z (λi ga T U=>⟨(4,.ref 1021 0 (ga.map dB).length)::(14,iA i)::T,(1021,.arr 4 (ga.map dB) true)::U⟩) (Lq ?_ ?_)
 .intro i ga x post u hi;have O:=yJ dB u hi;have E:=zW u hi;have G:(ga.map dB).length=i:=by rw[zAt,hi]
  have M:=OO x (by have:=(I x (xA u)).n;omega);have e:(ga++[x]).map dB=ga.map dB++[dB x]:=by simp
  clear u;rw[e];generalize ga.map dB=xs at *;unfold dB at*
  (have gd:=M;(repeat' (first|refine jZ ?_|apply yW|apply xH|intro hc|(apply zG;first|(apply yH;refine vD tok Z Z ?_))|refine SB ?_|fail))<;>clear gd)
  rfl
 .refine kE 1021 [4] Z Z Z Z Z ?_;refine WW ?_;exact zP [1021] Z Z Z Z
def Aw (c:Cf) (h:Qb c):zN 41 [wH c] [] (VT (o6 c)) []:=by
 have V:=Ts c h;have B:=Jy c h;have E:=B.rf;have G:=h.ag;have hb:=kG G (ln c.ags) (zAy _);have A:=kG G;have Y:=G.1;have I:(UD c).ds.length=ln c.ags:=B.dl
 have u:∀i,i<ln c.ags->(((UD c).ds.getD i dd).au.length:Int)=(c.ags.getD i dd).ses:=λi hi=>by
  have:=(B.di _ (yK (UD c).ds i zB)).au
  rwa [B.dg i zB]at this
 rw[cN E]at V;obtain⟨N,hN⟩:∃N:Nat,jJ c.ags (ln c.ags)=(N:Int):=⟨(jJ c.ags (ln c.ags)).toNat,zB⟩
 have M:VT (o6 c)= .agg [zE wD (UD c).c.js,zE uF (UD c).c.ags,iA (UD c).c.per,iA (UD c).c.cap,iA (UD c).c.hold,iA (UD c).c.lock,bA false,iA (UD c).f4,zE zM (UD c).ds,zE wU (UD c).sg,zE wP (UD c).sv,zE iA (UD c).st,zE vG (UD c).vw,.sl false (pi N (.agg [bA false,bA false,zE yA [],bA false]))]:=by
  unfold VT La o6;dsimp only;rw[hN];unfold zE;rw[zEh];rfl
 rw[M];clear M E B;generalize UD c=z at *;have L:=zA zM z.ds;refine eM call41 λF hF=>?_
 refine zS V ?_;refine zO ((z.ds.map zM).length) [2,3] [2,3] [2,3,12,13] [4,14,2,3,12,13] Z (λi T U=>⟨(4,iA (jJ c.ags i))::(14,iA i)::T,U⟩) (Lq ?_ ?_)
 .intro i hi;have W:=zJ zM z.ds i zB;have O:=u i zB;have h2:=A i zB;have S:=G.at (i:=i) zB;have C:=zA bA (z.ds.getD i dd).au;rw[show jJ c.ags (i+1)=jJ c.ags i+(c.ags.getD i dd).ses from Z,<-O,<-C];rw[<-C]at O;clear u A;generalize jJ c.ags i=s,c.ags.getD i dd=a,z.ds.getD i dd=d at *;unfold zM xD zE at W;refine WW ?_;rfl
 .rw[L,I,hN];rw[hN]at hb;clear u A
  (repeat' (first|refine uS ?_|apply yW|apply xH|intro hc|(apply zG;first|(apply fQ;refine bE 1021 tok Z Z Z Z Z Z Z Z Z Z Z Z Z zB zB Z Z Z ?_;refine vV [1,2,3] [1,2,3,25] Z ?_;(conv=>whnf);(try simp only[zBf]);refine P8 25 Z Z ?_))|fail))
  refine zI [] Z Z ?_ Z
  show AV.agg [zE wD z.c.js,zE uF z.c.ags,iA z.c.per,iA z.c.cap,iA z.c.hold,iA z.c.lock,bA false,iA z.f4,zE zM z.ds,zE wU z.sg,zE wP z.sv,zE iA z.st,zE vG z.vw,.sl false (List.map ZD (p5 N (pi N zSe)))]=_
  rw[zA2 (by rw[zCk];exact zAy _),zEh];rfl
def Zj (b:PE) (e:Ev):List Ss:=if e.k=1\/e.k=2\/e.k=3 then(ib b e).ss else b.ss
def zx (b:PE) (e:Ev):(Zj b e).length=ln b.ss:=by
 unfold Zj ib;split
 .split
  .exact zB9 ..
  .rfl
 .rfl
theorem H8 (b:PE) (h:Pg b) (a1:LP b.y.ds) (hn:b.y.f4<1000000000) (e:Ev) (he:i9 e) (r:W5) (D:EF b e r):zN 43 [VT b,hH e] [] (.tup [VT r.b,Y9 r.S r.f,bA r.fl]) []:=by
 obtain⟨N,hN,br⟩:=Dq b h;have k1:=Bq b h;have hs:=h.s;have E:=h.y;have b0:=he.y;have bz:=he.n;have O:=zA dB b.ss;have ba:=zx b e;have bb:((Zj b e).map dB).length=ln b.ss:=by rw[zAt];exact ba
 have z:X5 b e.s=decide (0<=e.s/\e.s<(ln b.ss:Int)):=rfl
 have hd:X5 b e.s=true->(Zj b e).map dB=(b.ss.map dB).set e.s.toNat (dB (if e.k=1\/e.k=2\/e.k=3 then M8 e (b.ss.getD e.s.toNat dd)else b.ss.getD e.s.toNat dd)):=λG=>by
  have ar:=G;rw[z,zAz]at ar;have hy:=yE dB b.ss e.s ar.1 ar.2;unfold Zj ib;split
  .show List.map dB (b.ss.set e.s.toNat _)=_
   rw[zCe]
  .exact(YM hy).symm
 have L:X5 b e.s=false->Zj b e=b.ss:=λG=>by
  unfold Zj ib;rw[G]
  split<;>rfl
 have a3:e.k=1\/e.k=2\/e.k=3->(ib b e).ss=Zj b e/\(ib b e).y=b.y:=λhk=>by
  unfold Zj;rw[zAs hk];refine⟨rfl,?_⟩;unfold ib
  split<;>rfl
 have a4:¬(e.k=1\/e.k=2\/e.k=3)->Zj b e=b.ss:=λhk=>by
  unfold Zj;rw[Os hk]
 have V:=D.i.y.rf;have Ds:=D.s;have Dy:=D.y;have Dt:=D.t6;have Dn:=D.o;clear D;unfold VT La at *;unfold hH;refine eM call43 λF hF=>?_
 apply xX;apply xT
 (repeat' (first|refine WS ?_|refine SG (I2 (λhc=>?_) λhc=>?_)|refine SG λhc=>?_|(apply zG;first|refine SM ?_)|(first|apply xX|apply xJ)|fail))
 apply xT
 (have gd:=k1;(repeat' (first|refine WS ?_|refine SG (I2 (λhc=>?_) λhc=>?_)|refine SG λhc=>?_|(apply zG;first|refine SM ?_)|(first|apply xX|apply xJ)|fail))<;>clear gd)
 rw[O];generalize b1:e=e0 at *;obtain⟨u,B,C,W,I⟩:=e0;dsimp only at *;generalize bu:Zj b ⟨u,B,C,W,I⟩=ds at *;refine gB [3,4,5,7,1021] [3,4,5,6,7,32] ⟨[(3,.ptr 3 0 0),(4,.ptr 4 0 0),(5,.ptr 5 0 0),(6,bA false),(7,.ptr 7 0 0),(32,bA (X5 b B))],[(3,.box [iA u,iA B,iA C,iA W,zE yA I]),(4,.box [.s (.slice none 0 0),.s (.slice none 0 0),iA 0,iA 0,iA 0,iA 0,bA false,iA 0,.s (.slice none 0 0),.s (.slice none 0 0),.s (.slice none 0 0),.s (.slice none 0 0),.s (.slice none 0 0),.s (.slice none 0 0)]),(5,.box [.s (.slice none 0 0),.s (.slice none 0 0)]),(7,.box [zE wD b.y.c.js,zE uF b.y.c.ags,iA b.y.c.per,iA b.y.c.cap,iA b.y.c.hold,iA b.y.c.lock,bA false,iA b.y.f4,zE zM b.y.ds,zE wU b.y.sg,zE wP b.y.sv,zE iA b.y.st,zE vG b.y.vw,.ref 1021 0 (ln b.ss)]),(1021,.arr 4 (b.ss.map dB) false)]⟩ rfl ?_ ?_
 .clear k1 hd L;by_cases h0:0<=B
  .by_cases h1:B<(ln b.ss:Int)
   .rw[z,zAw ⟨h0,h1⟩];refine WW ?_;exact⟨rfl,rfl⟩
   .rw[z,zAu (λh=>h1 h.2)];refine WW ?_;exact⟨rfl,rfl⟩
  .rw[z,zAu (λh=>h0 h.1)];refine WW ?_;exact⟨rfl,rfl⟩
 refine gB [3,4,5,7,1021] [3,4,5,6,7] ⟨[(3,.ptr 3 0 0),(4,.ptr 4 0 0),(5,.ptr 5 0 0),(6,bA false),(7,.ptr 7 0 0)],[(3,.box [iA u,iA B,iA C,iA W,zE yA I]),(4,.box [.s (.slice none 0 0),.s (.slice none 0 0),iA 0,iA 0,iA 0,iA 0,bA false,iA 0,.s (.slice none 0 0),.s (.slice none 0 0),.s (.slice none 0 0),.s (.slice none 0 0),.s (.slice none 0 0),.s (.slice none 0 0)]),(5,.box [.s (.slice none 0 0),.s (.slice none 0 0)]),(7,.box [zE wD b.y.c.js,zE uF b.y.c.ags,iA b.y.c.per,iA b.y.c.cap,iA b.y.c.hold,iA b.y.c.lock,bA false,iA b.y.f4,zE zM b.y.ds,zE wU b.y.sg,zE wP b.y.sv,zE iA b.y.st,zE vG b.y.vw,.ref 1021 0 (ln b.ss)]),(1021,.arr 4 (ds.map dB) false)]⟩ rfl ?_ ?_
 .cases G:X5 b B
  .rw[L G];refine WW ?_;exact⟨rfl,rfl⟩
  .rw[hd G];rw[z,zAz]at G;obtain⟨h0,h1⟩:=G;have hy:=yE dB b.ss B h0 h1;have hI:=hs _ (yK b.ss B.toNat zB);have a7:=hI.n;have ko:=Wr (b.ss.getD B.toNat dd) zB;have kd:=Vr (b.ss.getD B.toNat dd);have kr:=gx (b.ss.getD B.toNat dd) a7 I zB;clear hd L z hI k1;unfold M8;dsimp only;generalize b.ss.getD B.toNat dd=s at *;have hk:u=1\/u=2\/u=3\/(¬u=1/\¬u=2/\¬u=3):=by omega
   rcases hk with rfl|rfl|rfl|⟨n1,n2,n3⟩
   .rw[zAs (.inl Z),zAs Z];generalize (if s.op=true then s else⟨true,false,[],false⟩:Ss)=s1 at *;refine zS ko ?_;exact⟨rfl,rfl⟩
   .rw[zAs (.inr (.inl Z)),Os yY,zAs Z];refine zS kd ?_;exact⟨rfl,rfl⟩
   .rw[zAs (.inr (.inr Z)),Os yY,Os yY];refine zS kr ?_;exact⟨rfl,rfl⟩
   .rw[Os zB];refine WW ?_;exact⟨rfl,rfl⟩
 clear hd L z k1;by_cases M:u=1\/u=2\/u=3
 .rw[Ds M];obtain⟨e1,e2⟩:=a3 M;dsimp only;rw[e1,e2]
  rcases M with rfl|rfl|rfl
  all_goals
   refine WW ?_;exact zI [] Z Z (OM _ b.y _ s9 false bb) Z
 have e4:=a4 M;subst e4;by_cases bd:1<=u/\u<=6
 case neg=>
  rw[Dn bd];have n4:¬u=4:=by omega
  have n5:¬u=5:=by omega
  have n6:¬u=6:=by omega
  refine WW ?_;exact zI [] Z Z (OM _ b.y _ s9 false O) Z
 by_cases a5:u=6
 case neg=>
  have ac:u=4\/u=5:=by omega
  have bk:=Dy ac;have ax:=xx b.y E C I zB;have az:=yr b.y E C W;rw[bk]at V⊢;dsimp only at V⊢;rw[cN E.rf]at ax az
  rcases ac with rfl|rfl
  .rw[show Gi b.y ⟨4,B,C,W,I⟩=TZ b.y C I from Z]at V⊢;rw[cN V]at ax;generalize TZ b.y C I=A at *;refine zS ax ?_;exact zI [] Z Z (OM _ A _ s9 false O) Z
  .rw[show Gi b.y ⟨5,B,C,W,I⟩=bG b.y C W from Z]at V⊢;rw[cN V]at az;generalize bG b.y C W=A at *;refine zS az ?_;exact zI [] Z Z (OM _ A _ s9 false O) Z
 obtain⟨A,Td,hM,G,_⟩:=Dt a5;subst a5;subst G;dsimp only at V⊢;obtain⟨hT,a6,a2⟩:=hM.tk;have bf:(ZC b.ss).length=ln b.ss:=by unfold ZC;rw[zAt]
 have kt:=lr b.y E a1 hn (ZC b.ss) (by have:=h.l;omega) (Ka b.y (ZC b.ss)) hT (λi=>(bH ..).1) (λi=>(bH ..).2);rw[<-a6,<-a2]at kt;rw[cN E.rf,cN V,show∀f,Y6 Td f= .agg [.sl false (Td.map jI),zE zX [f]]from λ_=>rfl]at kt;have ag:=hM.v;have a8:=hM.l;rw[bf]at a8;have kf:=IT [QI (b.y.f4+1) A.vw] zV (λm hm=>by rw[zBm.1 hm];exact hM.f);generalize QI (b.y.f4+1) A.vw=fm at *;clear hT a6 a2 hM a3 a4 Ds Dy Dt;have z:∀i∈ZC b.ss,i=i:=λ_ _=>rfl
 have ap:∀i,(((b.ss.take i).map λs=>(aC s).2).map uZ).length<=ln b.ss:=λi=>by rw[zAt,zAt,zBi];omega
 have av:∀i,((VU b.ss i).map dB).length=ln b.ss:=λi=>by unfold VU;rw[zAt,wT]
 have au:VU b.ss 0=b.ss:=qM _ _;clear z;refine WW ?_;refine zQ 9 1022 2 Z Z Z ?_;refine zO (ln b.ss) [1021,1022,4,5,7] [4,5,7] [4,5,7,86,87] [9,88,4,5,7,86,87] Z (λi T U=>⟨(9,.ref 1022 0 (((b.ss.take i).map λs=>(aC s).2).map uZ).length)::(88,iA i)::T,(1021,.arr 4 ((VU b.ss i).map dB) false)::(1022,.arr 2 (((b.ss.take i).map λs=>(aC s).2).map uZ) true)::U⟩) ?_;(conv=>whnf);refine⟨by(rw[au];rfl),?_,?_⟩
 .intro i hi;have b4:((VU b.ss i).map dB)[i]? =some (dB (b.ss.getD i dd)):=by rw[zA1];unfold VU;rw[vS,zAs hi,Os (zDp i)];rfl
  have e1:(VU b.ss (i+1)).map dB=((VU b.ss i).map dB).set i (dB (aC (b.ss.getD i dd)).1):=by unfold VU;rw[vN _ _ _ _ hi]
  have e2:((b.ss.take (i+1)).map λs=>(aC s).2).map uZ=((b.ss.take i).map λs=>(aC s).2).map uZ++[uZ (aC (b.ss.getD i dd)).2]:=by
   rw[zDl hi,zA0,zA0,zA5,zBq hi];rfl
  have hI:=hs _ (yK b.ss i hi);have kk:=Sr (b.ss.getD i dd) hI.y (by have:=hI.n;omega);have h1:=av i;have h2:=ap i;rw[e1,e2];clear e1 e2 ap au hI hs ag kt kf av;generalize (VU b.ss i).map dB=X,((b.ss.take i).map λs=>(aC s).2).map uZ=Y,(aC (b.ss.getD i dd)).1=s1,(aC (b.ss.getD i dd)).2=n1 at *;generalize b.ss.getD i dd=s0 at *;unfold uZ at kk⊢
  (have gd:=kk;(repeat' (first|refine jZ ?_|apply yW|apply xH|intro hc|(apply zG;first|(apply yH;refine vD tok Z Z ?_))|refine SB ?_|fail))<;>clear gd)
  rfl
 .have a9:((b.ss.take (ln b.ss)).map λs=>(aC s).2)=ZC b.ss:=by rw[zAv];rfl
  have bs:=zA jI Td;rw[a9];refine wJ [3,4,5,7,1021] [3,4,5,6,7,9,86,87,88] Z ?_
  (conv=>whnf)
  simp only[zBf,zAv];clear ap au;refine yF (xQ kt kf) ?_;refine zQ 17 1023 1 Z Z Z ?_;refine zU (Td) [1023,4,5,7,16,1021] [4,5,7,16,1021] [4,5,7,16,122,123] [17,124,4,5,7,16,122,123] Z (λi ga T U=>⟨(17,.ref 1023 0 ((ga.map PD).map (zE yA)).length)::(124,iA i)::T,(1023,.arr 1 ((ga.map PD).map (zE yA)) true)::U⟩) (Lq ?_ ?_)
  .intro i ga x post hx hi;have bl:=yJ jI hx hi;have b2:=zW hx hi;obtain⟨v1,v2⟩:=ag x (xA hx);have kg:=IT x v1 v2;have b3:((ga.map PD).map (zE yA)).length=i:=by rw[zAt,zAt,hi]
   rw[show((ga++[x]).map PD).map (zE yA)=(ga.map PD).map (zE yA)++[zE yA (PD x)] by simp];unfold jI at bl;clear hx ag kt kf v2;generalize (ga.map PD).map (zE yA)=Y,PD x=bx at *
   (have gd:=kg;(repeat' (first|refine jZ ?_|apply yW|apply xH|intro hc|(apply zG;first|(apply yH;refine vD tok Z Z ?_))|refine SB ?_|fail))<;>clear gd)
   rfl
  ·(refine WW ?_)
   refine zI [] Z Z ?_ Z
   show AV.tup [AV.agg [zE wD A.c.js,zE uF A.c.ags,iA A.c.per,iA A.c.cap,iA A.c.hold,iA A.c.lock,bA false,iA A.f4,zE zM A.ds,zE wU A.sg,zE wP A.sv,zE iA A.st,zE vG A.vw,.sl false (p5 (ln b.ss) ((VU b.ss (ln b.ss)).map dB))],AV.agg [.sl false (p5 ((Td.map PD).map (zE yA)).length ((Td.map PD).map (zE yA))),_],bA true]=_
   rw[zAv,zA2 (zCz (av _))];rfl
def V5 {a b:List wC} (h:a.map Cw=b.map Cw) (H:LP b):LP a:=λi hi=>by
 have hl:=zBd List.length h;rw[zAt,zAt]at hl;have e:(a.map Cw)[i]? =(b.map Cw)[i]? :=zBd (·[i]?) h;rw[zA1,zA1,zBq hi,zBq zB]at e;have u:=zBd Prod.fst (zD4 e);have:=H i zB;rw[zA5,zBq zB]at this;rw[zA5,zBq hi];exact u.trans this
def U5 (h:Pg b) (hN:LP b.y.ds) {r:W5} (D:EF b e r):LP r.b.y.ds:=by
 by_cases h1:e.k=1\/e.k=2\/e.k=3
 .rw[D.s h1];unfold ib
  split<;>exact hN
 by_cases h2:e.k=4\/e.k=5
 .rw[D.y h2];exact V5 (ye h.y.rf e).2.2.2.2.2 hN
 by_cases z:e.k=6
 .obtain⟨G,E,A,B,_⟩:=D.t6 z;rw[B];obtain⟨hT,C,_⟩:=A.tk;dsimp only;rw[C];intro a u;rw[show(qW b.y (Ka b.y (ZC b.ss))).ds=eK (b.y.f4+1) b.y.ds (Ka b.y (ZC b.ss)) (ln b.y.ds) from Z]at u⊢;rw[fX]at u;rw[aE u,(hT a u).1.num];exact hN a u
 .rw[D.o zB];exact hN
def yx (c:Cf):LP (UD c).ds:=λi hi=>by
 have hl:(UD c).ds.length=ln c.ags:=by simp[UD,LY]
 show((LY c (ln c.ags)).getD i dd).rg.num=_
 unfold LY;rw[zA5,zA1,zCn zB];rfl
def TY (l:List Ev) (e:Ev):(l++[e]).map hH=l.map hH++[hH e]:=by simp
theorem KW.app2 {a b:List Ev} {n m:Nat} (h:KW a n) (h2:KW b m):KW (a++b) (n+m):=
 ⟨by have:=h.1;have:=h2.1;rw[zAx];omega,λx u=>(zBe.1 u).elim (h.2 x) (h2.2 x)⟩
theorem KW.of {l:List Ev} (h:∀e∈l,Ha e):KW l (ln l):=⟨zAy _,h⟩
def ns:Ev:=⟨6,0,0,0,[]⟩
def Zg:Ha ns:=uj zB zB zB zB jV zV
def G8 (s:Nat):Ev:=⟨1,s,0,0,[]⟩
structure BtR (c:Cf) (cm:Bool) (g:Int) (d:Dk) (b:List Int) (d':Dk) (m0 m1:Ms) (dA dC:Dk) (q0 q1 b2:List Int) (d5:Dk):Prop where
 k0:zN 20 [.ptr 1000 0 0,wH c,iA g,bA cm] [(1000,fF d)] (zX m0) [(1000,fF dA)]
 f0:zN 95 [zX m0] [] (.ref 1031 0 (q0.map yA).length) [(1031,.arr 1 (q0.map yA) true)]
 k1:zN 20 [.ptr 1000 0 0,wH c,iA g,bA cm] [(1000,fF (ad dA))] (zX m1) [(1000,fF dC)]
 f1:zN 95 [zX m1] [] (zE yA q1) []
 h2:b2=if nx dA 3=2 then q0++q1 else q0
 h5:d5=if nx dA 3=2 then dC else ad dA
 sp:cm=false->nx d5 7=6->zN 98 [zE yA b2,iA (nx (ad d5) 99),iA (nx (ad (ad d5)) 1024)] [] (zE yA b) []
 hb:¬(cm=false/\nx d5 7=6)->b=b2
 hd:d'=if cm=true then d5 else if nx d5 7=6 then ad (ad (ad d5))else ad d5
 l0:q0.length<=210
 l1:q1.length<=210
theorem F8 (c:Cf) (hc:IN c) (B:Bool) (g:Int) (S:0<=g/\g<256) (d:Dk):∃(b:List Int) (O:Dk),(BY b/\b.length<=1000/\rem O<=rem d)/\∃I L A G E q1 z u,BtR c B g d b O I L A G E q1 z u:=by
 obtain⟨I,A,W,r0,Y⟩:=YA c hc g S B d;obtain⟨E,y0,l0,U,_⟩:=DL I W;obtain⟨L,G,h1,r1,k1⟩:=YA c hc g S B (ad A);obtain⟨q1,y1,l1,V⟩:=DM L h1;have ra:=vF A
 obtain⟨z,M⟩:∃z,z=if nx A 3=2 then E++q1 else E:=⟨_,rfl⟩
 obtain⟨u,C⟩:∃u,u=if nx A 3=2 then G else ad A:=⟨_,rfl⟩
 have yb:BY z/\z.length<=420:=by
  grind [IN,Dk,BY,rem]
 have r5:rem u<=rem d:=by rw[C];split<;>omega
 have r6:=vF u;have r7:=vF (ad u);have r8:=vF (ad (ad u));have b7:=yQ (ad (ad u)) 1024 zB;obtain⟨q,yq,lq,kq⟩:=Pi z yb.1 zB (nx (ad u) 99) (nx (ad (ad u)) 1024) zB;refine⟨if B=false/\nx u 7=6 then q else z,if B=true then u else if nx u 7=6 then ad (ad (ad u))else ad u,⟨?_,?_,?_⟩,I,L,A,G,E,q1,z,u,Y,U,k1,V,M,C,λh1 h2=>?_,λh=>Os h,rfl,l0,l1⟩
 all_goals grind
def Z9 (c:Cf) (n:Nat) (z:Bool) (p q:List Ev×Dk):Prop:=
 (nx (ad p.2) 12<=3/\q=(p.1++[ns],ad (ad p.2)))\/
 (nx (ad p.2) 12=4/\q=(p.1++pi (nx (ad (ad p.2)) 6+1).toNat ns,ad (ad (ad p.2))))\/
 (nx (ad p.2) 12=5/\∃e u,q=(p.1++[e],u)/\zN 96 [.ptr 1000 0 0,wH c,iA (nx p.2 (max 1 (n:Int))),bA z] [(1000,fF (ad (ad p.2)))] (hH e) [(1000,fF u)])\/
 (6<=nx (ad p.2) 12/\∃b u,q=(p.1++[⟨3,nx p.2 (max 1 (n:Int)),0,0,b⟩],u)/\∃G I C E L q1 A B,BtR c z (Rb c.ags (nx p.2 (max 1 (n:Int)))) (ad (ad p.2)) b u G I C E L q1 A B)
theorem E8 (c:Cf) (hc:IN c) (M:LX c.ags) (n:Nat) (hn:n<=8) (A:Bool) (p:List Ev×Dk) (E:∀e∈p.1,Ha e) (hl:p.2.a<p.2.l.length):
  ∃q,Z9 c n A p q/\(∀e∈q.1,Ha e)/\p.1.length<q.1.length/\q.1.length<=p.1.length+6/\rem q.2<rem p.2:=by
 obtain⟨l,d⟩:=p;dsimp only at E hl;have r0:=S4 d hl;have r1:=vF (ad d);have V:=yQ d (max 1 (n:Int)) zB;have W:=yQ (ad d) 12 zB;have Y:=yQ (ad (ad d)) 6 zB;have r2:=vF (ad (ad d));have z:∀e,Ha e->∀x∈l++[e],Ha x:=λe C x u=>(zBe.1 u).elim (E x) λu=>by rw[zBm.1 u];exact C
 have len:∀e:Ev,(l++[e]).length=ln l+1:=λe=>by rw[zAx,zCx]
 by_cases G:nx (ad d) 12<=3
 .exact⟨_,.inl ⟨G,rfl⟩,z _ Zg,by dsimp only;rw[len];omega,by dsimp only;rw[len];omega,by dsimp only;omega⟩
 by_cases I:nx (ad d) 12=4
 .refine⟨_,.inr (.inl ⟨I,rfl⟩),λx u=>(zBe.1 u).elim (E x) λu=>by rw[(zEp.1 u).2];exact Zg,?_,?_,by dsimp only;omega⟩
  all_goals grind
 by_cases L:nx (ad d) 12=5
 .obtain⟨e,B,C,O,k⟩:=mz c (nx d (max 1 (n:Int))) zB zB A (ad (ad d));exact⟨_,.inr (.inr (.inl ⟨L,e,B,rfl,k⟩)),z _ C,by dsimp only;rw[len];omega,by dsimp only;rw[len];omega,by dsimp only;omega⟩
 .have hg:=nz M (nx d (max 1 (n:Int)));obtain⟨b,B,⟨U,S,O⟩,h⟩:=F8 c hc A (Rb c.ags (nx d (max 1 (n:Int)))) zB (ad (ad d));exact⟨_,.inr (.inr (.inr ⟨by dsimp only;omega,b,B,rfl,h⟩)),z _ (show Ha ⟨3,nx d (max 1 (n:Int)),0,0,b⟩from uj zB zB zB zB U S),by dsimp only;rw[len];omega,by dsimp only;rw[len];omega,by dsimp only;omega⟩
theorem Ci (c:Cf) (hc:IN c) (V:LX c.ags) (n:Nat) (W:n<=8) (E:Bool) (l:List Ev) (d:Dk) (hl:KW l 100):
  ∃(f:Nat->List Ev×Dk) (N:Nat),f 0=(l,d)/\(∀i,i<N->Z9 c n E (f i) (f (i+1))/\(f i).2.a<(f i).2.l.length/\(f i).1.length<150)/\¬((f N).2.a<(f N).2.l.length/\(f N).1.length<150)/\KW (f N).1 156/\∀i,i<=N->(f i).1.length<=156:=by
 obtain⟨f,L,G⟩:=IR (λ_ (p:List Ev×Dk)=>∀e∈p.1,Ha e) (λ_ p q=>p.2.a<p.2.l.length->Z9 c n E p q/\p.1.length<q.1.length/\q.1.length<=p.1.length+6/\rem q.2<rem p.2)
  (λi p M=>by
   by_cases h:p.2.a<p.2.l.length
   .obtain⟨q,h1,h2,O,S,U⟩:=E8 c hc V n W E p M h;exact⟨q,λ_=>⟨h1,O,S,U⟩,h2⟩
   .exact⟨p,λh'=>absurd h' h,M⟩) (l,d) hl.2
 have I:∃k,¬((f k).2.a<(f k).2.l.length/\(f k).1.length<150):=by
  refine zDd λhc=>?_
  have u:∀k,(f k).2.a<(f k).2.l.length/\(f k).1.length<150:=λk=>zDd λh=>hc ⟨k,h⟩
  have A:∀k,k<=(f k).1.length:=λk=>by
   induction k with
   |zero=>exact zBb _
   |succ k Y=>have:=((G k).2 (u k).1).2.1;omega
  have:=A 150
  grind
 obtain⟨k,hk⟩:=I;obtain⟨N,_,hN,C⟩:=Mo (P:=λk=>¬((f k).2.a<(f k).2.l.length/\(f k).1.length<150)) k hk;have B:∀i,i<N->(f i).2.a<(f i).2.l.length/\(f i).1.length<150:=λi hi=>zDd λh=>C i hi h
 have z:∀i,i<=N->(f i).1.length<=156:=λi hi=>by
  cases i with
  |zero=>rw[L];have:=hl.1;dsimp only;omega
  |succ i=>
   grind
 exact⟨f,N,L,λi hi=>⟨((G i).2 (B i hi).1).1,B i hi⟩,hN,⟨z N (zAy _),(G N).1⟩,z⟩
def Aq (g:Nat):Ev:=⟨4,0,g,0,cL (2000+10*g)⟩
def Yj (c:Cf) (F:Nat×Nat->List Int) (g v:Nat):Ev:=⟨3,Ia c.ags g (ln c.ags),0,0,F (g,v)⟩
def ms (i:Nat):List Ev:=(py i).map G8
def Yg (c:Cf) (F:Nat×Nat->List Int) (n:Nat):Nat->List Ev
 |0=>ms n
 |g+1=>Yg c F n g++[Aq g]++(py 3).map (Yj c F g)
theorem Bi (c:Cf) (hc:IN c) (ha:LX c.ags) (cm:Bool) (d:Dk):∃(l:List Ev) (d':Dk),KW l 160/\zN 42 [.ptr 1000 0 0,wH c,bA cm] [(1000,fF d)] (zE hH l) [(1000,fF d')]:=by
 have ks:=Cs c ha;have ax:=kG ha (ln c.ags) (zAy _);have a4:=ha.1;obtain⟨n,hn⟩:∃n:Nat,jJ c.ags (ln c.ags)=(n:Int):=⟨(jJ c.ags (ln c.ags)).toNat,zB⟩;rw[hn]at ks;have a2:n<=8:=by omega
 clear ax hn;have av:=zA uF c.ags
 obtain⟨B,S⟩:=Classical.skolem.1 (λp:Nat×Nat=>show∃q,p.1<4/\p.2<3->BY q/\q.length<=210/\zN 95 [zX ⟨4,(p.1:Int)::0::cL (1000+(p.1:Int)),[(p.2:Int),(p.2:Int).tmod 2],[]⟩] [] (zE yA q) []from by
  by_cases h:p.1<4/\p.2<3
  .obtain⟨q,h1,h2,h3⟩:=DM _ (lz (p.1:Int) (p.2:Int) zB zB);exact⟨q,λ_=>⟨h1,h2,h3⟩⟩
  .exact⟨[],λh'=>absurd h' h⟩)
 have L:∀g,g<=ln c.ags->KW (Yg c B n g) (n+4*g):=λg=>by
  induction g with
  |zero=>
   intro _;refine⟨by simp[Yg,ms],λe he=>?_⟩;obtain⟨s,hs,rfl⟩:=zCb.1 he;rw[zBj]at hs;exact uj zB zB zB zB jV zV
  | succ g ih=>
   intro hg;have h1:=Sb ha (g:Int) (ln c.ags) (zAy _);have h2:KW [Aq g] 1:=⟨zAy _,λe he=>by rw[zBm.1 he];exact uj zB zB zB zB (OI _) (by rw[fA];omega)⟩
   have h3:KW ((py 3).map (Yj c B g)) 3:=⟨by simp,λe he=>by
    obtain⟨v,hv,rfl⟩:=zCb.1 he;rw[zBj]at hv;obtain⟨q1,q2,_⟩:=S (g,v) ⟨by dsimp only;omega,hv⟩
    exact uj zB zB zB zB q1 zB⟩
   exact(((ih zB).app2 h2).app2 h3).le zB
 have hL:=(L (ln c.ags) (zAy _)).app Zg;obtain⟨f,N,O,hf,ac,V,au⟩:=Ci c hc ha n a2 cm (Yg c B n (ln c.ags)++[ns]) d (hL.le zB);refine⟨(f N).1++[ns],(f N).2,(V.app Zg).le zB,?_⟩;unfold wH at *;refine eM call42 λF hF=>?_
 refine zS ks ?_;refine zQ 7 1001 5 Z Z Z ?_;refine zO (n) [1001,4,1000] [4,1000] [0,2,4,8,17] [7,18,0,2,4,8,17] Z (λi T U=>⟨(7,.ref 1001 0 ((ms i).map hH).length)::(18,iA i)::T,(1001,.arr 5 ((ms i).map hH) true)::U⟩) (Lq ?_ ?_)
 .intro i hi;have e:(ms (i+1)).map hH=(ms i).map hH++[hH (G8 i)]:=by unfold ms;rw[zCt,zA0];simp
  have az:((ms i).map hH).length=i:=by simp[ms]
  rw[e];generalize (ms i).map hH=X at*
  (repeat' (first|refine jZ ?_|apply yW|apply xH|intro hc|(apply zG;first|(apply yH;refine ZX 23 Z Z Z ?_;refine vD tok Z Z ?_))|refine SB ?_|fail))
  rfl
 ·(refine WW ?_)
  refine zO ((c.ags.map uF).length) [1001,4,1000] [4,1000] [0,2,4,8,29] [7,30,0,2,4,8,29] Z (λi T U=>⟨(7,.ref 1001 0 ((Yg c B n i).map hH).length)::(30,iA i)::T,(1001,.arr 5 ((Yg c B n i).map hH) true)::U⟩) (Lq ?_ ?_)
  .intro g hg;have kc:=cD (2000+10*(g:Int));have kb:=Bs c ha (g:Int);have kt:=cD (1000+(g:Int));have ky:=YE (g:Int) 0 (cL (1000+(g:Int))) (by rw[fA];omega) zB zB zB zB;have az:=(L g zB).1;have a3:((Yg c B n g).map hH).length=(Yg c B n g).length:=zAt ..;have e2:(Yg c B n (g+1)).map hH=((Yg c B n g).map hH++[hH (Aq g)])++((py 3).map (Yj c B g)).map hH:=by simp[Yg]
   rw[e2];unfold wH at kb;generalize (Yg c B n g).map hH=X at*
   (have gd:=kc;(repeat' (first|refine jZ ?_|apply yW|apply xH|intro hc|(apply zG;first|(apply yH;refine vD tok Z Z ?_))|refine SB ?_|fail))<;>clear gd)
   refine zO (3) [1001,4,1000] [4,1000] [0,2,4,8,10,29,30] [7,42,0,2,4,8,10,29,30] Z (λi T U=>⟨(7,.ref 1001 0 (X++[hH (Aq g)]++((py i).map (Yj c B g)).map hH).length)::(42,iA i)::T,(1001,.arr 5 (X++[hH (Aq g)]++((py i).map (Yj c B g)).map hH) true)::U⟩) ?_;(conv=>whnf);refine⟨by(rw[show X++[hH (Aq g)]++((py 0).map (Yj c B g)).map hH=X++[hH (Aq g)]from zBo _];rfl),?_,?_⟩
   .intro v hv;have kf:=(S (g,v) ⟨by dsimp only;omega,hv⟩).2.2;dsimp only at kf;have e3:X++[hH (Aq g)]++((py (v+1)).map (Yj c B g)).map hH=X++[hH (Aq g)]++((py v).map (Yj c B g)).map hH++[hH (Yj c B g v)]:=by rw[zCt];simp
    have a5:(X++[hH (Aq g)]++((py v).map (Yj c B g)).map hH).length<=100:=by simp;omega
    rw[e3];unfold zX at kf;rw[show hH (Yj c B g v)= .agg [iA 3,iA (Ia c.ags g (ln c.ags)),iA 0,iA 0,zE yA (B (g,v))]from Z];generalize X++[hH (Aq g)]++((py v).map (Yj c B g)).map hH=Y,B (g,v)=fr,Ia c.ags g (ln c.ags)=bz,cL (1000+(g:Int))=sc at *
    (have gd:=kb;have gn:=kt;have gt:=ky;have gv:=kf;(repeat' (first|refine jZ ?_|apply yW|apply xH|intro hc|(apply zG;first|(apply yH;refine vD tok Z Z ?_))|refine SB ?_|fail))<;>clear gd gn gt gv)
    rfl
   ·(refine WW ?_)
    rfl
  .rw [av];have ar:=(L (ln c.ags) (zAy _)).1;have ag:((Yg c B n (ln c.ags)).map hH).length=(Yg c B n (ln c.ags)).length:=zAt ..
   (repeat' (first|refine jZ ?_|apply yW|apply xH|intro hc|(apply zG;first|(apply yH;refine ZX 66 Z Z Z ?_;refine vD tok Z Z ?_))|refine SB ?_|fail))
   refine zO (N) [1000,1001,4] [4] [0,2,4,8] [7,0,2,4,8] Z (λi T U=>⟨(7,.ref 1001 0 ((f i).1.map hH).length)::T,(1000,fF (f i).2)::(1001,.arr 5 ((f i).1.map hH) true)::U⟩) ?_;(conv=>whnf);refine⟨by(rw[O,TY];rfl),?_,?_⟩
   .intro i hi;obtain⟨hR,M,ap⟩:=hf i hi;have a1:((f i).1.map hH).length=(f i).1.length:=zAt ..;clear hf ac V au O hL ar ag L S ks;generalize f (i+1)=q at *;generalize f i=p at *;obtain⟨l,d⟩:=p;dsimp only at *;have G:=Md d;rw[zAw M]at G;have b1:=yQ d (max 1 (n:Int)) zB;have b2:=yQ (ad d) 12 zB;have W:=yR d (max 1 (n:Int)) zB zB;have n2:=yR (ad d) 12 zB zB;have ko:=fk c ha (nx d (max 1 (n:Int))) zB zB;unfold Z9 wH at hR;unfold wH at ko;generalize nx d (max 1 (n:Int))=s at *;generalize nx (ad d) 12=k at *;generalize ad (ad d)=d2 at *;generalize ad d=d1 at*
    rcases hR with⟨h3,rfl⟩|⟨h4,rfl⟩|⟨h5,e,d',rfl,kd⟩|⟨h6,b,d',rfl,m0,m1,dA,dC,q0,q1,e2,d5,hB⟩
    .dsimp only;rw[TY,show hH ns= .agg [iA 6,iA 0,iA 0,iA 0,.sl false []]from Z];generalize l.map hH=X at *;have:k=0\/k=1\/k=2\/k=3:=by omega
     rcases this with h|h|h|h
     all_goals
      (have gd:=G;have gn:=W;have gt:=n2;(repeat' (first|refine jZ ?_|apply yW|apply xH|intro hc|(apply zG;first|(apply yH;refine ZX 128 Z Z Z ?_;refine vD tok Z Z ?_))|refine SB ?_|fail))<;>clear gd gn gt)
      rfl
    .dsimp only;have n3:=yR d2 6 zB zB;have b3:=yQ d2 6 zB;generalize ad d2=d3 at *;obtain⟨z,hz⟩:∃z:Nat,nx d2 6=(z:Int):=⟨(nx d2 6).toNat,zB⟩;rw[hz]at n3 b3⊢;rw[show((z:Int)+1).toNat=z+1 by omega,zA0,zEh,show hH ns= .agg [iA 6,iA 0,iA 0,iA 0,.sl false []]from Z];generalize l.map hH=X at*
     (have gd:=G;have gn:=W;have gt:=n2;have gv:=n3;(repeat' (first|refine uS ?_|apply yW|apply xH|intro hc|fail))<;>clear gd gn gt gv)
     refine zO ((z+1)) [1001,4,1000] [4,1000] [0,2,4,8] [7,13,0,2,4,8] Z (λi T U=>⟨(7,.ref 1001 0 (X++pi i (AV.agg [iA 6,iA 0,iA 0,iA 0,.sl false []])).length)::(13,iA ((z:Int)-i))::T,(1001,.arr 5 (X++pi i (AV.agg [iA 6,iA 0,iA 0,iA 0,.sl false []])) true)::U⟩) ?_;(conv=>whnf);refine⟨by(rw[List.replicate_zero,zBo,show(z:Int)-(0:Nat)=z by omega];rfl),?_,?_⟩
     .intro r hr;have a7:(X++pi r (AV.agg [iA 6,iA 0,iA 0,iA 0,.sl false []])).length<=200:=by simp;omega
      rw[show pi (r+1) (AV.agg [iA 6,iA 0,iA 0,iA 0,.sl false []])=pi r (AV.agg [iA 6,iA 0,iA 0,iA 0,.sl false []])++[AV.agg [iA 6,iA 0,iA 0,iA 0,.sl false []]]from zE0,<-zBl,show(z:Int)-((r+1:Nat):Int)=(z:Int)-r-1 by omega];generalize X++pi r (AV.agg [iA 6,iA 0,iA 0,iA 0,.sl false []])=Y at *;have z0:0<=(z:Int)-r:=by omega
      have z1:(z:Int)-r<=10:=by omega
      generalize (z:Int)-r=w at*
      (repeat' (first|refine jZ ?_|apply yW|apply xH|intro hc|(apply zG;first|(apply yH;refine ZX 140 Z Z Z ?_;refine vD tok Z Z ?_))|refine SB ?_|fail))
      rfl
     .rw[show(z:Int)-((z+1:Nat):Int)= -1 by omega];refine WW ?_;rfl
    .dsimp only;rw[TY];generalize l.map hH=X at*
     (have gd:=G;have gn:=W;have gt:=n2;have gv:=kd;(repeat' (first|refine jZ ?_|apply yW|apply xH|intro hc|(apply zG;first|(apply yH;refine vD tok Z Z ?_))|refine SB ?_|fail))<;>clear gd gn gt gv)
     rfl
    .dsimp only;rw[TY,show hH ⟨3,s,0,0,b⟩= .agg [iA 3,iA s,iA 0,iA 0,zE yA b]from Z];obtain⟨k0,O,k1,f1,h2,g5,I,C,A,l0,l1⟩:=hB;unfold wH zX at *;have n3:=yR dA 3 zB zB;have n4:=yR d5 7 zB zB;have n5:=yR (ad d5) 99 zB zB;have n6:=yR (ad (ad d5)) 1024 zB zB;have c3:=yQ dA 3 zB;have c4:=yQ d5 7 zB;have m0:=zA yA q0;have m1:=zA yA q1;generalize l.map hH=X at *;generalize nx dA 3=u at *;generalize nx d5 7=v at *;by_cases hu:u=2
     .rw[zAs hu]at h2 g5;subst g5;subst h2;have em:zE yA (q0++q1)= .sl false (q0.map yA++q1.map yA):=by unfold zE;rw[zA0]
      rw[em]at I;have ez:zE yA (q0++q1)= .sl false (p5 (q0.map yA++q1.map yA).length (qd 0 (q0.map yA++q1.map yA))):=by rw[em,zBf,zAv]
      cases cm with
      |true=>
       rw[zAs Z]at A;subst A;have E:=C (λh=>by cases h.1);subst E;rw[ez];clear I C
       (have gd:=G;have gn:=W;have gt:=n2;have gv:=ko;have io:=k0;have la:=O;have lk:=n3;have lp:=k1;have ly:=f1;have zc10:=n4;have zc11:=n5;have zc12:=n6;(repeat' (first|refine jZ ?_|apply yW|apply xH|intro hc|(apply zG;first|(apply yH;refine vV [1000,1001,4] [0,2,4,8,116,119] Z ?_;(conv=>whnf);refine vD tok Z Z ?_)|(apply yC;refine jF tok Z Z Z Z Z Z Z Z Z Z Z (yM _ _ (λ_=>rfl)) zB Z ?_))|refine SB ?_|fail))<;>clear gd gn gt gv io la lk lp ly zc10 zc11 zc12)
       rfl
      | false=>
       rw[Os zA9]at A;by_cases hv:v=6
       .rw[zAs hv]at A;subst A;have I:=I Z hv;clear C
        (have gd:=G;have gn:=W;have gt:=n2;have gv:=ko;have io:=k0;have la:=O;have lk:=n3;have lp:=k1;have ly:=f1;have zc10:=n4;have zc11:=n5;have zc12:=n6;have zc13:=I;have kj:=(⟨⟩:Su 98 [1000,1001,4] [0,2,4,7,8,12,110,112,114]);(repeat' (first|refine jZ ?_|apply yW|apply xH|intro hc|(apply zG;first|(apply yH;refine vV [1000,1001,4] [0,2,4,8,116,119] Z ?_;(conv=>whnf);refine vD tok Z Z ?_)|(apply yC;refine jF tok Z Z Z Z Z Z Z Z Z Z Z (yM _ _ (λ_=>rfl)) zB Z ?_))|refine SB ?_|fail))<;>clear gd gn gt gv io la lk lp ly zc10 zc11 zc12 zc13 kj)
        rfl
       .rw[Os hv]at A;subst A;have E:=C (λh=>hv h.2);subst E;rw[ez];clear I C
        (have gd:=G;have gn:=W;have gt:=n2;have gv:=ko;have io:=k0;have la:=O;have lk:=n3;have lp:=k1;have ly:=f1;have zc10:=n4;have zc11:=n5;have zc12:=n6;(repeat' (first|refine jZ ?_|apply yW|apply xH|intro hc|(apply zG;first|(apply yH;refine vV [1000,1001,4] [0,2,4,8,116,119] Z ?_;(conv=>whnf);refine vD tok Z Z ?_)|(apply yC;refine jF tok Z Z Z Z Z Z Z Z Z Z Z (yM _ _ (λ_=>rfl)) zB Z ?_))|refine SB ?_|fail))<;>clear gd gn gt gv io la lk lp ly zc10 zc11 zc12)
        rfl
     .rw[Os hu]at h2 g5;subst g5;subst h2;have em:∀z,zE yA z= .sl false (z.map yA):=λz=>rfl
      rw[em e2]at I;have ez:zE yA e2= .sl false (p5 (e2.map yA).length (qd 0 (e2.map yA))):=by rw[zBf,zAv];rfl
      cases cm with
      |true=>
       rw[zAs Z]at A;subst A;have E:=C (λh=>by cases h.1);subst E;rw[ez];clear I C
       (have gd:=G;have gn:=W;have gt:=n2;have gv:=ko;have io:=k0;have la:=O;have lk:=n3;have lp:=k1;have ly:=f1;have zc10:=n4;have zc11:=n5;have zc12:=n6;(repeat' (first|refine jZ ?_|apply yW|apply xH|intro hc|(apply zG;first|(apply yH;refine vV [1000,1001,4] [0,2,4,8,116,119] Z ?_;(conv=>whnf);refine vD tok Z Z ?_)|(apply yC;refine jF tok Z Z Z Z Z Z Z Z Z Z Z (yM _ _ (λ_=>rfl)) zB Z ?_))|refine SB ?_|fail))<;>clear gd gn gt gv io la lk lp ly zc10 zc11 zc12)
       rfl
      | false=>
       rw[Os zA9]at A;by_cases hv:v=6
       .rw[zAs hv]at A;subst A;have I:=I Z hv;clear C
        (have gd:=G;have gn:=W;have gt:=n2;have gv:=ko;have io:=k0;have la:=O;have lk:=n3;have lp:=k1;have ly:=f1;have zc10:=n4;have zc11:=n5;have zc12:=n6;have zc13:=I;have kj:=(⟨⟩:Su 98 [1000,1001,4] [0,2,4,7,8,12,110,112,114]);(repeat' (first|refine jZ ?_|apply yW|apply xH|intro hc|(apply zG;first|(apply yH;refine vV [1000,1001,4] [0,2,4,8,116,119] Z ?_;(conv=>whnf);refine vD tok Z Z ?_)|(apply yC;refine jF tok Z Z Z Z Z Z Z Z Z Z Z (yM _ _ (λ_=>rfl)) zB Z ?_))|refine SB ?_|fail))<;>clear gd gn gt gv io la lk lp ly zc10 zc11 zc12 zc13 kj)
        rfl
       .rw[Os hv]at A;subst A;have E:=C (λh=>hv h.2);subst E;rw[ez];clear I C
        (have gd:=G;have gn:=W;have gt:=n2;have gv:=ko;have io:=k0;have la:=O;have lk:=n3;have lp:=k1;have ly:=f1;have zc10:=n4;have zc11:=n5;have zc12:=n6;(repeat' (first|refine jZ ?_|apply yW|apply xH|intro hc|(apply zG;first|(apply yH;refine vV [1000,1001,4] [0,2,4,8,116,119] Z ?_;(conv=>whnf);refine vD tok Z Z ?_)|(apply yC;refine jF tok Z Z Z Z Z Z Z Z Z Z Z (yM _ _ (λ_=>rfl)) zB Z ?_))|refine SB ?_|fail))<;>clear gd gn gt gv io la lk lp ly zc10 zc11 zc12)
        rfl
   .rw[show zE hH ((f N).1++[ns])= .sl false ((f N).1.map hH++[hH ns]) by unfold zE;rw[TY]];have a6:=V.1;have a1:((f N).1.map hH).length=(f N).1.length:=zAt ..;have G:=Md (f N).2;clear hf V au O hL ar ag L S ks;generalize f N=p at *;obtain⟨l,d⟩:=p;dsimp only at *;rw[show hH ns= .agg [iA 6,iA 0,iA 0,iA 0,.sl false []]from Z];by_cases M:d.a<ln d.l
    .have ap:¬l.length<150:=λh=>ac ⟨M,h⟩
     rw[zAw M]at G;generalize l.map hH=X at*
     (have gd:=G;(repeat' (first|refine jZ ?_|apply yW|apply xH|intro hc|(apply zG;first|(apply yH;refine ZX 154 Z Z Z ?_;refine vD tok Z Z ?_))|refine SB ?_|fail))<;>clear gd)
     exact zI [1000] Z Z (zBd (AV.sl false) zAv) Z
    .rw[zAu M]at G;generalize l.map hH=X at*
     (have gd:=G;(repeat' (first|refine jZ ?_|apply yW|apply xH|intro hc|(apply zG;first|(apply yH;refine ZX 154 Z Z Z ?_;refine vD tok Z Z ?_))|refine SB ?_|fail))<;>clear gd)
     exact zI [1000] Z Z (zBd (AV.sl false) zAv) Z
