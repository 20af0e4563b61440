/- Part 28. -/
import Derived.Test.YtaglbcjljlkjcaaGreatV27
namespace Go.Proofs.YtaglbcjljlkjcaaGreat.Av
open Tryz
set_option linter.all false
set_option maxRecDepth 4000
set_option maxHeartbeats 16000000
open List renaming length->ln,replicate->pg,take->pi
open Inhabited renaming default->dd
variable {nn:Bool}{e:Ev}{xs:List AV}
section
open Classical in
noncomputable def Ge (m:Ms):List Int:=if h:YE m then ta m.kind (ZC h.2).choose else []
def dx (m:Ms) (h:YE m):((Ge m).length<=300/\(m.args≠[]->∃q:List Int,Ge m=90::165::1::m.kind::q/\7<=ln q))/\KU [yO m] [] (.tup [zE yA (Ge m),iA 0]) []:=by
 have A:=(ZC h.2).choose_spec;have e:Ge m=ta m.kind (ZC h.2).choose:=by unfold Ge;rw[zFa h]
 rw[e];generalize (ZC h.2).choose=p at *;obtain⟨h1,h2,u⟩:=A;obtain⟨k,I,B,C⟩:=m;obtain⟨y,E⟩:=h;dsimp only at *;subst y;refine⟨⟨?_,λz=>?_⟩,u⟩
 .simp only[ta,qw,zAp,zAf,f7,zBp];have:(IP k (ln p)).length<=10:=by unfold IP;simp
  have:=h2.1;omega
 .refine⟨0::(ln p:Int)::(p++qw (QP (IP k (ln p)++p))),by simp[ta,IP],?_⟩;have G:=h2.2 z;simp only[qw,zAp,zAf,f7,zBp];omega
noncomputable def PG (l:List Ms):List Int:=(l.map Ge).flatten
def Ho (l:List Ms) (m:Ms):PG (l++[m])=PG l++Ge m:=by simp[PG]
theorem Fe:∀{l:List Ms},(∀m∈l,YE m)->(PG l).length<=300*ln l
 | [],_=>zAn _
 |m::l,h=>by
  have h1:=(dx m (h m yE)).1.1;have h2:=Fe (l:=l) λx hx=>h x (by simp[hx])
  have e:PG (m::l)=Ge m++PG l:=rfl;rw[e,zAf,zAp];omega
structure PH where
 y:Cy
 ss:List Ss
def AI (y:Cy) (s:AV):AV:= .agg [zE xC y.c.js,zE wP y.c.ags,iA y.c.per,iA y.c.cap,iA y.c.hold,iA y.c.lock,bA false,iA y.ga,zE zN y.ds,zE wD y.sg,zE xZ y.sv,zE iA y.st,zE wE y.vw,s]
def VM (b:PH):AV:=AI b.y (zE fT b.ss)
structure Ee (b:PH):Prop where
 y:VO b.y
 l:(b.ss.length:Int)=jP b.y.c.ags b.y.c.ags.length
 s:∀s∈b.ss,C2 s
def p8 (S:List (List Int)) (f:List Int):AV:= .agg [zE (zE yA) S,zE yA f]
def aX (u:List Ss):List In:=u.map λs=>(bT s).2
def VN (u:List Ss) (i:Nat):List Ss:=QI (λ_ s=>(bT s).1) u i
end
section
open Classical in
noncomputable def U2 (m:Ms):List Int:=if h:YE m then(ZC h.2).choose else []
def S2 {m:Ms} (h:YE m):Ge m=ta m.kind (U2 m)/\(BY (U2 m)/\Y8 m.kind m.args m.data (U2 m))/\(U2 m).length<=200:=by
 have u:=(ZC h.2).choose_spec;have e1:Ge m=ta m.kind (ZC h.2).choose:=by unfold Ge;rw[zFa h]
 have y:U2 m=(ZC h.2).choose:=by unfold U2;rw[zFa h]
 rw[e1,y];exact⟨rfl,u.1,u.2.1.1⟩
def iv (k:Int) (p:List Int):(ta k p).length=ln p+10:=by
 simp only[ta,qw,IP,zAp,zAf,f7,zBp,zBq];omega
end
def Zv {c:Int} (h:0<=c):qw c=[c/16777216 % 256,c/65536 % 256,c/256 % 256,c % 256]:=by
 unfold qw;simp only[show List.range 4=[0,1,2,3]from Z,zBc,zBs,Sp];rw[show c.fdiv (2 ^ (min (8*(3-((0:Nat):Int))).toNat IntKind.u32.bits))=c.fdiv 16777216 from Z,show c.fdiv (2 ^ (min (8*(3-((1:Nat):Int))).toNat IntKind.u32.bits))=c.fdiv 65536 from Z,show c.fdiv (2 ^ (min (8*(3-((2:Nat):Int))).toNat IntKind.u32.bits))=c.fdiv 256 from Z,show c.fdiv (2 ^ (min (8*(3-((3:Nat):Int))).toNat IntKind.u32.bits))=c.fdiv 1 from Z];rw[zCb _ zB,zCb _ zB,zCb _ zB,zCb _ zB,Int.ediv_one]
variable {b:PH}
def P2 {s:Int} (h:0<=s):kw s=qw s:=by
 rw[Zv h];unfold kw;simp only[Sp];rw[show s.fdiv (2 ^ (min (24:Int).toNat IntKind.u32.bits))=s.fdiv 16777216 from Z,show s.fdiv (2 ^ (min (16:Int).toNat IntKind.u32.bits))=s.fdiv 65536 from Z,show s.fdiv (2 ^ (min (8:Int).toNat IntKind.u32.bits))=s.fdiv 256 from Z];rw[zCb _ zB,zCb _ zB,zCb _ zB]
def Yv (k:Int) (p:List Int) (y:0<=k) (z:k<=255) (hb:BY p) (u:ln p<=200):zO 215 [iA k,zE yA p] [] (.tup [.ref 1031 0 ((ta k p).map yA).length,iA 0]) [(1031,.arr 1 ((ta k p).map yA) true)]:=by
 obtain⟨q,e,_,_,c⟩:=Ec k p y z hb u;rw[P2 (Ei _).1]at e;rw[show ta k p=q from e.symm];exact c
theorem Fo (u y:Nat) (c:Int):∀(l:List Int) (i:Nat),i+ln l<=u->aV u y c i l=(l.map jI).flatten
 | [],i,_=>rfl
 |x::l,i,h=>by
  rw[zAp]at h;rw[aV,Fo u y c l (i+1) zB,hW (λh2=>by omega)];rfl
def Xv (k:Int) (y z c:Nat) (u C:List Int) (hl:ln u=y+z*c) (hc:c<128):eP y z (c:Int) ⟨k,[],u,C⟩=OU y z c u (ln u)++C:=by
 have G:y<=ln u:=by rw[hl];exact Nat.le_add_right _ _
 have E:jI (c:Int)=[(c:Int)]:=by unfold jI;rw[VB zB]
 rw[W3 _ _ _ _ zB zB,zAv,E];unfold eP;dsimp only;rw[zC7];by_cases B:z=0
 .subst B;have h1:ln u=y:=by rw[hl];simp
  rw[Gn,hW (λh=>h.1 Z),hW zB,zAl zB,zEi zB];simp
 .rw[Os (by omega:(0:Int)<(z:Int))];by_cases A:c=0
  .subst A;have h1:ln u=y:=by rw[hl];simp
   rw[Fo _ _ _ _ _ zB,Os ⟨B,h1⟩,zAl zB,zEi zB];simp
  .have h1:y<ln u:=by
    rw[hl];have:0<z*c:=Nat.mul_pos zB zB;omega
   have e:=FD y z c B (u.drop y) (λh=>by have:=zAt List.length h;rw[zBh,zBq]at this;omega) (u.take y) 0 EZ;rw[zDd]at e;rw[e,hW (λh=>by omega)];simp
def i7 (m:Ms) (h:YE m):zO 162 [yO m] [] (.tup [zE yA (Ge m),iA 0]) []:=by
 obtain⟨X,⟨V,Y,ap,I,L⟩,av⟩:=S2 h;obtain⟨ht,S⟩:=h;rw[X];clear X;generalize U2 m=E at *;obtain⟨k,ax,A,G⟩:=m;dsimp only at *;subst ht;have kv:=Rc S;have C:=S.kk;have hz:=S.z;have au:=S.l
 have v2:zO 70 [yO ⟨k,[],A,G⟩] [] (zE yA E) []:=by
  have U:(0<=(jG k).1/\(jG k).1<=4)/\(0<=(jG k).2.1/\(jG k).2.1<=4)/\(jG k).2.2.2.1<=16:=by
   have:k=13\/k=14\/k=15\/k=16\/k=17\/k=18\/k=19\/k=20\/k=21:=by omega
   clear C kv I L S
   rcases this with rfl|rfl|rfl|rfl|rfl|rfl|rfl|rfl|rfl<;>decide
  obtain⟨⟨f0,f1⟩,⟨r0,r1⟩,ac⟩:=U;have W:=N7 k C;obtain⟨M,O⟩:∃n:Nat,(jG k).1=(n:Int):=⟨(jG k).1.toNat,zB⟩;obtain⟨y,R⟩:∃n:Nat,(jG k).2.1=(n:Int):=⟨(jG k).2.1.toNat,zB⟩;obtain⟨B,rfl⟩:∃n:Nat,Y=(n:Int):=⟨Y.toNat,zB⟩;rw[O,R]at W L I;generalize (jG k).2.2.1=lo,(jG k).2.2.2.1=hi,(jG k).2.2.2.2=sd at *
  have u:ln A=M+y*B:=by
   rcases I with⟨q1,q2,q3⟩|⟨q1,q2,_⟩
   .rw[show y=0 by omega,zDh];omega
   .have:((y*B:Nat):Int)=(y:Int)*(B:Int):=by push_cast;rfl
    omega
  have v:=FQ k M y lo hi sd W zB ⟨k,[],A,G⟩ B Z yE NK S.n NK (λ_=>by dsimp only;rw[u,zEe]) zB;rw[Xv k M y B A G u zB,<-L]at v;exact v
 have c2:=Yv k E zB zB V zB;have ag:=iv k E;clear L I S hz;unfold yO at *;dsimp only at*
 have k1:zO 21 [.agg [iA k,zE yA [],zE iA A,zE yA G]] [] (.tup [zE yA E,iA 0]) []:=by
  refine eM call21 λF hF=>?_
  exact ng (xH kv v2)
 generalize ta k E=f at *;refine eM call162 λF hF=>?_
 refine yB (xH k1 c2) ?_;exact zH [] Z Z (zAt (λz=>AV.tup [AV.sl false z,iA 0]) zAa) Z
def IH (l:List Ms) (hl:ln l<=1002) (h:∀m∈l,YE m):zO 104 [zE yO l] [] (zE yA (PG l)) []:=by
 have B:=zA yO l;refine eM call104 λF hF=>?_
 refine WW ?_;refine zW 3 1001 1 Z Z Z ?_;refine zU (l) [1001] [] [8,9] [3,10,8,9] Z (λi gd T U=>⟨(3,.ref 1001 0 ((PG gd).map yA).length)::(10,iA i)::T,(1001,.arr 1 ((PG gd).map yA) true)::U⟩) (Lq ?_ ?_)
 .intro i gd x post hx hi;have I:=zY yO hx hi;have z:=zX hx hi;obtain⟨⟨G,_⟩,_⟩:=dx x (h x (yQ hx));have u:=i7 x (h x (yQ hx));have C:=Fe (l:=gd) λm A=>h m (by rw[hx];simp[A])
  have E:=zA yA (PG gd);have y:=zA yA (Ge x);rw[Ho,zAd];clear hx;generalize PG gd=X,Ge x=Y at *;unfold yO at *;refine zP u ?_;rfl
 ·(refine WW ?_)
  exact zH [] Z Z (zAt (AV.sl false) zAa) Z
theorem sh (v:AV):(ZA v).cells=v.cells.map ZA:=by
 cases v with
 |agg cs=>show wkL cs=cs.map ZA;exact Bc cs
 |s v=>
  show(ZA (.s v)).cells=[ZA (.s v)]
  unfold ZA
  split<;>rfl
 |_=>rfl
theorem xF.wkl {w:World} {D:Nat->Prop} {c:Value} (hv:xF w D (.sl nn xs) c):xF w D (.sl nn (xs.map ZA)) c:=by
 cases hv with
 |nil a cap=>exact .nil a cap
 |nil1 a cap=>exact .nil1 a cap
 | sl _ _ b o sz cap f hx z hc h=>
  have hl:(xs.map ZA).length=ln xs:=f7 ..
  have hk:∀(i:Nat) (x:AV),(xs.map ZA)[i]? =some x->∃y,xs[i]? =some y/\x.cells=y.cells.map ZA:=λi x hx=>by
   grind [ZA,Option.map_eq_some_iff,sh]
  have A:uy w D (xs.map ZA) b o sz f:=by
   refine⟨z.lt,z.nd,z.pos,by rw[hl];exact z.max,λi x hx=>?_,λi j hi hj=>z.cell i j (by rw[hl]at hi;exact hi) hj,λi j hi hj=>z.one i j (by rw[hl]at hi;exact hi) hj⟩;obtain⟨y,C,B⟩:=hk i x hx;rw[B,f7];exact z.wide i y C
  have:=xF.sl nn (xs.map ZA) b o sz cap f (by simpa using hx) A (by rw[hl];exact hc) (λi x j v hi hj=>by
   obtain⟨y,C,B⟩:=hk i x hi;rw[B,zAh,zAo]at hj;obtain⟨u,E,rfl⟩:=hj
   exact(h i y j u C E).wk)
  grind
section
variable {P:Program} {K0:List Nat} {F:Fr K0} {m:Nat} {ops:Array Oper} {rest:List Oper} {fs:List FP} {tm:List (Nat×AV)} {h:List (Nat×xM)}
theorem wV.wkL {a:Act} {w:World} (R:wV F m ⟨tm,h⟩ a w) (t:Nat) {ys:List AV} (hv:zL tm t= .sl nn xs) (B:xs.map ZA=ys):wV F m ⟨(t,.sl nn ys)::tm,h⟩ a w:=by
 obtain⟨⟨X,β,A,H,u,y,G,z⟩,E,gs,hl⟩:=R;refine⟨⟨X,β,A,H,λj=>?_,y,λi hi=>?_,z⟩,E,gs,hl⟩
 .rw[xL];split
  .rename_i hj;subst hj;have:=u j;dsimp only at this;rw[hv]at this
   cases this with
   |fz _ _ C=>exact .fz _ _ (B▸C.wkl)
  .exact u j
 all_goals grind [wV,zL,ZA]
def Z7 {Q:List FP->St->Prop} (t:Nat) {ys:List AV} (hv:zL tm t= .sl nn xs) (u:xs.map ZA=ys) (hk:yP P F m ops false rest ⟨(t,.sl nn ys)::tm,h⟩ fs Q):yP P F m ops false rest ⟨tm,h⟩ fs Q:=
 ⟨λa w R=>hk.run a w (R.wkL t hv u)⟩
end
def zSe:AV:= .agg [bA false,bA false,.s (.slice none 0 0),bA false]
def Y4 (c:Cf):PH:=⟨XD c,pg (jP c.ags (ln c.ags)).toNat ⟨false,false,[],false⟩⟩
theorem Y7 {α β:Type} [Inhabited α] [Inhabited β] (f:α->β) (l:List α) (k:Nat) (hk:k<ln l):(l.map f).getD k dd=f (l.getD k dd):=by grind
theorem De (c:Cf) (h:TW c):VO (XD c):=by
 have A:=h.a;have y:(XC c (ln c.ags)).length=ln c.ags:=by simp[XC]
 have u:∀d∈XC c (ln c.ags),∃k:Nat,k<ln c.ags/\d=TL (k:Int) (c.ags.getD k dd) (c.ags.getD k dd).ses.toNat:=λd hd=>by
  grind [XD,XC]
 refine⟨h,rfl,zCi _,y,λd hd=>?_,λa A=>?_,λd hd=>?_,by simp[XD],by simp[XD],by simp[XD],by simp[XD],λw B=>?_,λk hk=>?_⟩
 .obtain⟨k,hk,rfl⟩:=u d hd;exact qz (h.av _ (zQ c.ags k hk)) k zB
 .have z:a<ln c.ags:=by rw[<-y];exact A
  show((XC c (ln c.ags)).getD a dd).rg.ag=_
  unfold XC;rw[zAk,zAh,zB2 z];rfl
 .obtain⟨k,hk,rfl⟩:=u d hd;exact λr E=>by cases E
 .unfold XD at B;obtain⟨j,hj,rfl⟩:=zBm.1 B;exact uw j (h.jv j hj) _ _
 .have hk':k<ln c.js:=hk;have J:=h.jv _ (zQ c.js k hk')
  show JI (c.js.getD k dd) ((c.js.map qA).getD k dd) ((c.js.map aU).getD k dd) 0
  rw[Y7 qA c.js k hk',Y7 aU c.js k hk'];refine⟨Ld J,by simp[aU,DP],λe C=>?_,zCi _,(by decide:(0:Int)<=60)⟩;rw[(zD1.1 C).2]
  decide
def X7 (c:Cf) (h:TW c):Ee (Y4 c):=by
 have hb:=kG h.ag (ln c.ags) (zAe _);refine⟨De c h,?_,λs u=>?_⟩
 .show((pg _ _).length:Int)=_
  rw[zB1]
  show((jP c.ags (ln c.ags)).toNat:Int)=jP c.ags (ln c.ags)
  omega
 .rw[(zD1.1 u).2];exact⟨hH,zAn _⟩
def O2 (b:PH) (k:Int):Bool:=decide (0<=k/\k<(ln b.ss:Int))
def W7 (e:Ev) (s:Ss):Ss:=if e.k=1 then(if s.op=true then s else⟨true,false,[],false⟩)else if e.k=2 then⟨false,false,[],false⟩else Ga s e.y
def ja (b:PH) (e:Ev):PH:=if O2 b e.s=true then⟨b.y,b.ss.set e.s.toNat (W7 e (b.ss.getD e.s.toNat dd))⟩else b
def o8:AV:= .agg [.sl false [],.sl false []]
def th (y:Cy) (e:Ev):Cy:=if e.k=4 then fA y e.a e.y else aY y e.a e.b
def Wv (d:xU):Int×List Rq:=(d.rg.num,d.rq)
def Zh {α:Type} {l:List α} {i:Nat} {x:α} (h:l[i]? =some x):l.set i x=l:=by
 apply zBe;intro j;rw[zDu];split
 .rename_i e;subst e;have:=(zAx.1 h).1;rw[Os this,h]
 .rfl
def Sc {y:Cy} (u:y.rf=false) (e:Ev):(th y e).c=y.c/\(th y e).ga=y.ga/\(th y e).sg=y.sg/\(th y e).sv=y.sv/\(th y e).vw=y.vw/\(th y e).ds.map Wv=y.ds.map Wv:=by
 unfold th;split
 .unfold fA;split
  .rename_i hc;refine⟨rfl,rfl,rfl,rfl,rfl,?_⟩
   show(y.ds.set _ _).map Wv=_
   rw[zBt];refine Zh (zAh.trans ?_);rw[zAk,zAu zB];rfl
  .exact⟨rfl,rfl,rfl,rfl,rfl,rfl⟩
 .unfold aY
  split<;>exact⟨rfl,rfl,rfl,rfl,rfl,rfl⟩
structure M2 where
 b:PH
 S:List (List Int)
 f:List Int
 fl:Bool
structure J9 (b:PH) (e:Ev) (r:M2):Prop where
 s:e.k=1\/e.k=2\/e.k=3->r=⟨ja b e,[],[],false⟩
 y:e.k=4\/e.k=5->r=⟨⟨th b.y e,b.ss⟩,[],[],false⟩
 o:¬(1<=e.k/\e.k<=6)->r=⟨b,[],[],false⟩
 t6:e.k=6->∃(y':Cy) (Td:List (List Ms)),Z8 b.y y' (aX b.ss) Td/\r=⟨⟨y',VN b.ss b.ss.length⟩,Td.map PG,PG [PJ (b.y.ga+1) y'.vw],true⟩/\True
def OP (n:Nat) (u:Cy) (X:List AV) (S:AV) (f:Bool) (y:ln X=n):AV.tup [AI u (.sl false (pi n X)),S,bA f]=AV.tup [AI u (.sl false X),S,bA f]:=by rw[zAl (zCa y)]
section
variable (b:PH) (h:Ee b)
include h
def Eo:∃N:Nat,ln b.ss=N/\N<=8:=by
 have u:=h.y.v.ag;have h1:=h.l;have h2:=kG u (ln b.y.c.ags) (zAe _);have z:=u.1;exact⟨_,rfl,zB⟩
theorem V7 (e:Ev) (z:BY e.y) (u:ln e.y<=1000000) (r:M2) (D:J9 b e r) (A:r.b.y.rf=false):KU [VM b,jS e] [] (.tup [VM r.b,p8 r.S r.f,bA r.fl]) []:=wj
theorem AJ (u:List Ss):VN u (ln u)=u.map λs=>(bT s).1:=by
 unfold VN;apply zBe;intro j;rw[uJ,zAh];by_cases hj:j<ln u
 .rw[Os hj,Os hj,zAu hj];simp only[zB8,zAk,zAu hj,zCo]
 .rw[hW hj,zBj zB];rfl
def H9 (B:b.y.ga<1000000000):∃(A:Cy) (z:List (List Ms)),Z8 b.y A (aX b.ss) z/\True:=by
 have u:(aX b.ss).length=ln b.ss:=by unfold aX;rw[f7]
 exact gi b.y h.y B (aX b.ss) (by rw[u];exact h.l) (λi hi=>by
  unfold aX at hi;obtain⟨s,C,rfl⟩:=zBm.1 hi
  exact(qp (h.s s C)).2)
end
section
structure FM (b:PH) (e:Ev) (r:M2):Prop extends J9 b e r where
 i:Ee r.b
 c:r.b.y.c=b.y.c
 n:b.y.ga<=r.b.y.ga/\r.b.y.ga<=b.y.ga+1
 t:r.fl=true->r.S.length=b.ss.length
 f6:r.fl=true->e.k=6
 k:KU [VM b,jS e] [] (.tup [VM r.b,p8 r.S r.f,bA r.fl]) []
structure m8 (e:Ev):Prop where
 y:BY e.y
 n:e.y.length<=1000000
theorem AR.g (h:AR e):m8 e:=⟨h.y,zBf h.n xG⟩
def U7 (u:BY e.y) {s:Ss} (h:C2 s):C2 (W7 e s):=by
 unfold W7;split
 .split
  .exact h
  .exact⟨hH,zAn _⟩
 .split
  .exact⟨hH,zAn _⟩
  .exact A2 h u
def T7 (h:Ee b) (A:BY e.y):Ee (ja b e):=by
 unfold ja;split
 .refine⟨h.y,by dsimp only;rw[zBn];exact h.l,λs u=>?_⟩;rename_i z;unfold O2 at z;rw[zAg]at z
  rcases zC1 u with u|rfl
  .exact h.s s u
  .exact U7 A (h.s _ (zQ b.ss _ zB))
 .exact h
theorem S7 (b:PH) (h:Ee b) (O:b.y.ga<1000000000) (e:Ev) (A:m8 e):∃r,FM b e r:=by
 have u:∀r,J9 b e r->Ee r.b->r.b.y.c=b.y.c->(b.y.ga<=r.b.y.ga/\r.b.y.ga<=b.y.ga+1)->(r.fl=true->ln r.S=ln b.ss)->(r.fl=true->e.k=6)->∃r,FM b e r:=λr D i c n t f=>⟨r,⟨D,i,c,n,t,f,V7 b h e A.y A.n r D i.y.rf⟩⟩
 by_cases h1:e.k=1\/e.k=2\/e.k=3
 .have e1:(ja b e).y=b.y:=by unfold ja;split<;>rfl
  exact u ⟨ja b e,[],[],false⟩ ⟨λ_=>rfl,λh=>zB,λh=>zB,λh=>zB⟩ (T7 h A.y) (by dsimp only;rw[e1]) (by dsimp only;rw[e1];omega) (λh=>(by cases h)) (λh=>(by cases h))
 by_cases h2:e.k=4\/e.k=5
 .have R:VO (th b.y e):=by
   unfold th;split
   .exact Yx h.y A.y
   .exact Zx h.y ..
  obtain⟨L,W,_⟩:=Sc h.y.rf e;exact u ⟨⟨th b.y e,b.ss⟩,[],[],false⟩ ⟨λh=>zB,λ_=>rfl,λh=>zB,λh=>zB⟩ ⟨R,by dsimp only;rw[L];exact h.l,h.s⟩ L NK (λh=>(by cases h)) (λh=>(by cases h))
 by_cases M:e.k=6
 .obtain⟨G,I,z,U⟩:=H9 b h O;have B:(aX b.ss).length=ln b.ss:=by unfold aX;rw[f7]
  refine u ⟨⟨G,VN b.ss (ln b.ss)⟩,I.map PG,PG [PJ (b.y.ga+1) G.vw],true⟩ ⟨λh=>zB,λh=>zB,λh=>zB,λ_=>⟨G,I,z,rfl,U⟩⟩ ⟨z.i,?_,λs C=>?_⟩ z.c (by have:=z.n;dsimp only;omega) (λ_=>by dsimp only;rw[f7,z.l,B]) λ_=>M
  .dsimp only;rw[z.c,AJ b h,f7];exact h.l
  .dsimp only at C;rw[AJ b h]at C;obtain⟨V,E,rfl⟩:=zBm.1 C;exact(qp (h.s V E)).1
 .exact u ⟨b,[],[],false⟩ ⟨λh=>zB,λh=>zB,λ_=>rfl,λh=>zB⟩ h Z NK (λh=>(by cases h)) (λh=>(by cases h))
open Classical in
noncomputable def W4 (b:PH) (e:Ev):M2:=if h:∃r,FM b e r then h.choose else⟨b,[],[],false⟩
theorem Vv (h:Ee b) (z:b.y.ga<1000000000) (u:m8 e):FM b e (W4 b e):=by grind [W4,S7]
def Co (h:Ee b) (z:b.y.ga<1000000000) (u:AR e):FM b e (W4 b e):=Vv h z u.g
theorem FM.st (h:Ee b) {r:M2} (u:AR e) (D:FM b e r) (A:r.fl=false):r.b.y.ga=b.y.ga/\r.b.y.sg=b.y.sg/\r.b.y.sv=b.y.sv/\r.b.y.vw=b.y.vw/\r.b.y.ds.map Wv=b.y.ds.map Wv:=by
 have hk:=u.k;have hc:(e.k=1\/e.k=2\/e.k=3)\/(e.k=4\/e.k=5)\/e.k=6:=by omega
 rcases hc with hc|hc|hc
 .have e1:(ja b e).y=b.y:=by unfold ja;split<;>rfl
  rw[D.s hc]
  grind
 .rw[D.y hc];exact(Sc h.y.rf e).2
 .obtain⟨_,_,_,z,_⟩:=D.t6 hc
  grind
end
def Bo (b:PH) (h:Ee b):zO 99 [VM b] [] (AI b.y (.ref 1021 0 (b.ss.map fT).length)) [(1021,.arr 4 (b.ss.map fT) false)]:=by
 obtain⟨N,hN,B⟩:=Eo b h;have z:=bU b.y h.y.b;have G:=h.s;have u:=h.y.rf;obtain⟨y,A⟩:=b;dsimp only at *;rw[cG u]at z;have I:=zA fT A;unfold VM AI;dsimp only;refine eM call99 λF hF=>?_
 refine zP z ?_;refine zW 4 1021 4 Z Z Z ?_;refine zU (A) [1021,2,3] [2,3] [2,3,12,13] [4,14,2,3,12,13] Z (λi gd T U=>⟨(4,.ref 1021 0 (gd.map fT).length)::(14,iA i)::T,(1021,.arr 4 (gd.map fT) true)::U⟩) (Lq ?_ ?_)
 .intro i gd x post hx hi;have M:=zY fT hx hi;have C:=zX hx hi;have E:(gd.map fT).length=i:=by rw[f7,hi]
  have L:=OR x (by have:=(G x (yQ hx)).n;omega);have e:(gd++[x]).map fT=gd.map fT++[fT x]:=by simp
  clear hx;rw[e];generalize gd.map fT=xs at *;unfold fT at*
  (have gt:=L;(repeat' (first|refine gM ?_|apply yY|apply xN|intro hc|(apply zG;first|(apply yL;refine wQ tok Z Z ?_))|refine SB ?_|fail))<;>clear gt)
  rfl
 .refine kV 1021 [4] Z Z Z Z Z ?_;refine WW ?_;exact zV [1021] Z Z Z Z
def Uv (c:Cf) (h:TW c):zO 41 [vL c] [] (VM (Y4 c)) []:=by
 have R:=IM c h;have A:=De c h;have C:=A.rf;have E:=h.ag;have hb:=kG E (ln c.ags) (zAe _);have y:=kG E;have V:=E.1;have G:(XD c).ds.length=ln c.ags:=A.dl
 have u:∀i,i<ln c.ags->(((XD c).ds.getD i dd).au.length:Int)=(c.ags.getD i dd).ses:=λi hi=>by
  have:=(A.di _ (zQ (XD c).ds i zB)).au
  rwa [A.dg i zB]at this
 rw[cG C]at R;obtain⟨N,hN⟩:∃N:Nat,jP c.ags (ln c.ags)=(N:Int):=⟨(jP c.ags (ln c.ags)).toNat,zB⟩
 have L:VM (Y4 c)= .agg [zE xC (XD c).c.js,zE wP (XD c).c.ags,iA (XD c).c.per,iA (XD c).c.cap,iA (XD c).c.hold,iA (XD c).c.lock,bA false,iA (XD c).ga,zE zN (XD c).ds,zE wD (XD c).sg,zE xZ (XD c).sv,zE iA (XD c).st,zE wE (XD c).vw,.sl false (pg N (.agg [bA false,bA false,zE yA [],bA false]))]:=by
  unfold VM AI Y4;dsimp only;rw[hN];unfold zE;rw[zDr];rfl
 rw[L];clear L C A;generalize XD c=z at *;have I:=zA zN z.ds;refine eM call41 λF hF=>?_
 refine zP R ?_;refine zM ((z.ds.map zN).length) [2,3] [2,3] [2,3,12,13] [4,14,2,3,12,13] Z (λi T U=>⟨(4,iA (jP c.ags i))::(14,iA i)::T,U⟩) (Lq ?_ ?_)
 .intro i hi;have S:=zJ zN z.ds i zB;have M:=u i zB;have h2:=y i zB;have O:=E.at (i:=i) zB;have B:=zA bA (z.ds.getD i dd).au;rw[show jP c.ags (i+1)=jP c.ags i+(c.ags.getD i dd).ses from Z,<-M,<-B];rw[<-B]at M;clear u y;generalize jP c.ags i=s,c.ags.getD i dd=a,z.ds.getD i dd=d at *;unfold zN wG zE at S;refine WW ?_;rfl
 .rw[I,G,hN];rw[hN]at hb;clear u y
  (repeat' (first|refine qU ?_|apply yY|apply xN|intro hc|(apply zG;first|(apply fY;refine aO 1021 tok Z Z Z Z Z Z Z Z Z Z Z Z Z zB zB Z Z Z ?_;refine vR [1,2,3] [1,2,3,25] Z ?_;(conv=>whnf);(try simp only[zAr]);refine Z7 25 Z Z ?_))|fail))
  refine zH [] Z Z ?_ Z
  show AV.agg [zE xC z.c.js,zE wP z.c.ags,iA z.c.per,iA z.c.cap,iA z.c.hold,iA z.c.lock,bA false,iA z.ga,zE zN z.ds,zE wD z.sg,zE xZ z.sv,zE iA z.st,zE wE z.vw,.sl false (List.map ZA (pi N (pg N zSe)))]=_
  rw[zAl (by rw[zB1];exact zAe _),zDr];rfl
def vi (b:PH) (e:Ev):List Ss:=if e.k=1\/e.k=2\/e.k=3 then(ja b e).ss else b.ss
def Tv (b:PH) (e:Ev):(vi b e).length=ln b.ss:=by
 unfold vi ja;split
 .split
  .exact zBn ..
  .rfl
 .rfl
theorem R7 (b:PH) (h:Ee b) (az:RT b.y.ds) (hn:b.y.ga<1000000000) (e:Ev) (he:m8 e) (r:M2) (D:FM b e r):zO 43 [VM b,jS e] [] (.tup [VM r.b,p8 r.S r.f,bA r.fl]) []:=by
 obtain⟨N,hN,br⟩:=Eo b h;have k1:=Bo b h;have hs:=h.s;have E:=h.y;have b0:=he.y;have bz:=he.n;have O:=zA fT b.ss;have a9:=Tv b e;have bb:((vi b e).map fT).length=ln b.ss:=by rw[f7];exact a9
 have z:O2 b e.s=decide (0<=e.s/\e.s<(ln b.ss:Int)):=rfl
 have hd:O2 b e.s=true->(vi b e).map fT=(b.ss.map fT).set e.s.toNat (fT (if e.k=1\/e.k=2\/e.k=3 then W7 e (b.ss.getD e.s.toNat dd)else b.ss.getD e.s.toNat dd)):=λG=>by
  have ap:=G;rw[z,zAg]at ap;have hy:=yC fT b.ss e.s ap.1 ap.2;unfold vi ja;split
  .show List.map fT (b.ss.set e.s.toNat _)=_
   rw[zBt]
  .exact(dT hy).symm
 have L:O2 b e.s=false->vi b e=b.ss:=λG=>by
  unfold vi ja;rw[G]
  split<;>rfl
 have a2:e.k=1\/e.k=2\/e.k=3->(ja b e).ss=vi b e/\(ja b e).y=b.y:=λhk=>by
  unfold vi;rw[Os hk];refine⟨rfl,?_⟩;unfold ja
  split<;>rfl
 have a3:¬(e.k=1\/e.k=2\/e.k=3)->vi b e=b.ss:=λhk=>by
  unfold vi;rw[hW hk]
 have R:=D.i.y.rf;have Ds:=D.s;have Dy:=D.y;have Dt:=D.t6;have Dn:=D.o;clear D;unfold VM AI at *;unfold jS;refine eM call43 λF hF=>?_
 apply wF;apply wB
 (repeat' (first|refine WS ?_|refine SG (I2 (λhc=>?_) λhc=>?_)|refine SG λhc=>?_|(apply zG;first|refine SM ?_)|(first|apply wF|apply xO)|fail))
 apply wB
 (have gt:=k1;(repeat' (first|refine WS ?_|refine SG (I2 (λhc=>?_) λhc=>?_)|refine SG λhc=>?_|(apply zG;first|refine SM ?_)|(first|apply wF|apply xO)|fail))<;>clear gt)
 rw[O];generalize b1:e=e0 at *;obtain⟨u,B,C,V,I⟩:=e0;dsimp only at *;generalize bu:vi b ⟨u,B,C,V,I⟩=ds at *;refine dV [3,4,5,7,1021] [3,4,5,6,7,32] ⟨[(3,.ptr 3 0 0),(4,.ptr 4 0 0),(5,.ptr 5 0 0),(6,bA false),(7,.ptr 7 0 0),(32,bA (O2 b B))],[(3,.box [iA u,iA B,iA C,iA V,zE yA I]),(4,.box [.s (.slice none 0 0),.s (.slice none 0 0),iA 0,iA 0,iA 0,iA 0,bA false,iA 0,.s (.slice none 0 0),.s (.slice none 0 0),.s (.slice none 0 0),.s (.slice none 0 0),.s (.slice none 0 0),.s (.slice none 0 0)]),(5,.box [.s (.slice none 0 0),.s (.slice none 0 0)]),(7,.box [zE xC b.y.c.js,zE wP b.y.c.ags,iA b.y.c.per,iA b.y.c.cap,iA b.y.c.hold,iA b.y.c.lock,bA false,iA b.y.ga,zE zN b.y.ds,zE wD b.y.sg,zE xZ b.y.sv,zE iA b.y.st,zE wE b.y.vw,.ref 1021 0 (ln b.ss)]),(1021,.arr 4 (b.ss.map fT) false)]⟩ rfl ?_ ?_
 .clear k1 hd L;by_cases h0:0<=B
  .by_cases h1:B<(ln b.ss:Int)
   .rw[z,zAc ⟨h0,h1⟩];refine WW ?_;exact⟨rfl,rfl⟩
   .rw[z,zAb (λh=>h1 h.2)];refine WW ?_;exact⟨rfl,rfl⟩
  .rw[z,zAb (λh=>h0 h.1)];refine WW ?_;exact⟨rfl,rfl⟩
 refine dV [3,4,5,7,1021] [3,4,5,6,7] ⟨[(3,.ptr 3 0 0),(4,.ptr 4 0 0),(5,.ptr 5 0 0),(6,bA false),(7,.ptr 7 0 0)],[(3,.box [iA u,iA B,iA C,iA V,zE yA I]),(4,.box [.s (.slice none 0 0),.s (.slice none 0 0),iA 0,iA 0,iA 0,iA 0,bA false,iA 0,.s (.slice none 0 0),.s (.slice none 0 0),.s (.slice none 0 0),.s (.slice none 0 0),.s (.slice none 0 0),.s (.slice none 0 0)]),(5,.box [.s (.slice none 0 0),.s (.slice none 0 0)]),(7,.box [zE xC b.y.c.js,zE wP b.y.c.ags,iA b.y.c.per,iA b.y.c.cap,iA b.y.c.hold,iA b.y.c.lock,bA false,iA b.y.ga,zE zN b.y.ds,zE wD b.y.sg,zE xZ b.y.sv,zE iA b.y.st,zE wE b.y.vw,.ref 1021 0 (ln b.ss)]),(1021,.arr 4 (ds.map fT) false)]⟩ rfl ?_ ?_
 .cases G:O2 b B
  .rw[L G];refine WW ?_;exact⟨rfl,rfl⟩
  .rw[hd G];rw[z,zAg]at G;obtain⟨h0,h1⟩:=G;have hy:=yC fT b.ss B h0 h1;have hI:=hs _ (zQ b.ss B.toNat zB);have a6:=hI.n;have ko:=np (b.ss.getD B.toNat dd) zB;have kd:=mp (b.ss.getD B.toNat dd);have kr:=Nv (b.ss.getD B.toNat dd) a6 I zB;clear hd L z hI k1;unfold W7;dsimp only;generalize b.ss.getD B.toNat dd=s at *;have hk:u=1\/u=2\/u=3\/(¬u=1/\¬u=2/\¬u=3):=by omega
   rcases hk with rfl|rfl|rfl|⟨n1,n2,n3⟩
   .rw[Os (.inl Z),Os Z];generalize (if s.op=true then s else⟨true,false,[],false⟩:Ss)=s1 at *;refine zP ko ?_;exact⟨rfl,rfl⟩
   .rw[Os (.inr (.inl Z)),hW xG,Os Z];refine zP kd ?_;exact⟨rfl,rfl⟩
   .rw[Os (.inr (.inr Z)),hW xG,hW xG];refine zP kr ?_;exact⟨rfl,rfl⟩
   .rw[hW zB];refine WW ?_;exact⟨rfl,rfl⟩
 clear hd L z k1;by_cases M:u=1\/u=2\/u=3
 .rw[Ds M];obtain⟨e1,e2⟩:=a2 M;dsimp only;rw[e1,e2]
  rcases M with rfl|rfl|rfl
  all_goals
   refine WW ?_;exact zH [] Z Z (OP _ b.y _ o8 false bb) Z
 have e4:=a3 M;subst e4;by_cases bd:1<=u/\u<=6
 case neg=>
  rw[Dn bd];have n4:¬u=4:=by omega
  have n5:¬u=5:=by omega
  have n6:¬u=6:=by omega
  refine WW ?_;exact zH [] Z Z (OP _ b.y _ o8 false O) Z
 by_cases a4:u=6
 case neg=>
  have W:u=4\/u=5:=by omega
  have bk:=Dy W;have av:=Be b.y E C I zB;have ax:=AL b.y E C V;rw[bk]at R⊢;dsimp only at R⊢;rw[cG E.rf]at av ax
  rcases W with rfl|rfl
  .rw[show th b.y ⟨4,B,C,V,I⟩=fA b.y C I from Z]at R⊢;rw[cG R]at av;generalize fA b.y C I=A at *;refine zP av ?_;exact zH [] Z Z (OP _ A _ o8 false O) Z
  .rw[show th b.y ⟨5,B,C,V,I⟩=aY b.y C V from Z]at R⊢;rw[cG R]at ax;generalize aY b.y C V=A at *;refine zP ax ?_;exact zH [] Z Z (OP _ A _ o8 false O) Z
 obtain⟨A,Td,hM,G,_⟩:=Dt a4;subst a4;subst G;dsimp only at R⊢;obtain⟨hT,a5,a1⟩:=hM.tk;have bf:(aX b.ss).length=ln b.ss:=by unfold aX;rw[f7]
 have kt:=xp b.y E az hn (aX b.ss) (by have:=h.l;omega) (Vq b.y (aX b.ss)) hT (λi=>(VV ..).1) (λi=>(VV ..).2);rw[<-a5,<-a1]at kt;rw[cG E.rf,cG R,show∀f,s8 Td f= .agg [.sl false (Td.map jC),zE yO [f]]from λ_=>rfl]at kt;have ac:=hM.v;have a7:=hM.l;rw[bf]at a7;have kf:=IH [PJ (b.y.ga+1) A.vw] yE (λm hm=>by rw[zA8.1 hm];exact hM.f);generalize PJ (b.y.ga+1) A.vw=fm at *;clear hT a5 a1 hM a2 a3 Ds Dy Dt;have z:∀i∈aX b.ss,i=i:=λ_ _=>rfl
 have ag:∀i,(((b.ss.take i).map λs=>(bT s).2).map fZ).length<=ln b.ss:=λi=>by rw[f7,f7,zA0];omega
 have au:∀i,((VN b.ss i).map fT).length=ln b.ss:=λi=>by unfold VN;rw[f7,vI]
 have ar:VN b.ss 0=b.ss:=kC _ _;clear z;refine WW ?_;refine zW 9 1022 2 Z Z Z ?_;refine zM (ln b.ss) [1021,1022,4,5,7] [4,5,7] [4,5,7,86,87] [9,88,4,5,7,86,87] Z (λi T U=>⟨(9,.ref 1022 0 (((b.ss.take i).map λs=>(bT s).2).map fZ).length)::(88,iA i)::T,(1021,.arr 4 ((VN b.ss i).map fT) false)::(1022,.arr 2 (((b.ss.take i).map λs=>(bT s).2).map fZ) true)::U⟩) ?_;(conv=>whnf);refine⟨by(rw[ar];rfl),?_,?_⟩
 .intro i hi;have b4:((VN b.ss i).map fT)[i]? =some (fT (b.ss.getD i dd)):=by rw[zAh];unfold VN;rw[uJ,Os hi,hW (zDa i)];rfl
  have e1:(VN b.ss (i+1)).map fT=((VN b.ss i).map fT).set i (fT (bT (b.ss.getD i dd)).1):=by unfold VN;rw[uC _ _ _ _ hi]
  have e2:((b.ss.take (i+1)).map λs=>(bT s).2).map fZ=((b.ss.take i).map λs=>(bT s).2).map fZ++[fZ (bT (b.ss.getD i dd)).2]:=by
   rw[zCd hi,zAd,zAd,zAk,zAu hi];rfl
  have hI:=hs _ (zQ b.ss i hi);have kk:=ip (b.ss.getD i dd) hI.y (by have:=hI.n;omega);have h1:=au i;have h2:=ag i;rw[e1,e2];clear e1 e2 ag ar hI hs ac kt kf au;generalize (VN b.ss i).map fT=X,((b.ss.take i).map λs=>(bT s).2).map fZ=Y,(bT (b.ss.getD i dd)).1=s1,(bT (b.ss.getD i dd)).2=n1 at *;generalize b.ss.getD i dd=s0 at *;unfold fZ at kk⊢
  (have gt:=kk;(repeat' (first|refine gM ?_|apply yY|apply xN|intro hc|(apply zG;first|(apply yL;refine wQ tok Z Z ?_))|refine SB ?_|fail))<;>clear gt)
  rfl
 .have a8:((b.ss.take (ln b.ss)).map λs=>(bT s).2)=aX b.ss:=by rw[zAa];rfl
  have bs:=zA jC Td;rw[a8];refine vJ [3,4,5,7,1021] [3,4,5,6,7,9,86,87,88] Z ?_
  (conv=>whnf)
  simp only[zAr,zAa];clear ag ar;refine yB (xH kt kf) ?_;refine zW 17 1023 1 Z Z Z ?_;refine zU (Td) [1023,4,5,7,16,1021] [4,5,7,16,1021] [4,5,7,16,122,123] [17,124,4,5,7,16,122,123] Z (λi gd T U=>⟨(17,.ref 1023 0 ((gd.map PG).map (zE yA)).length)::(124,iA i)::T,(1023,.arr 1 ((gd.map PG).map (zE yA)) true)::U⟩) (Lq ?_ ?_)
  .intro i gd x post hx hi;have bl:=zY jC hx hi;have b2:=zX hx hi;obtain⟨v1,v2⟩:=ac x (yQ hx);have kg:=IH x v1 v2;have b3:((gd.map PG).map (zE yA)).length=i:=by rw[f7,f7,hi]
   rw[show((gd++[x]).map PG).map (zE yA)=(gd.map PG).map (zE yA)++[zE yA (PG x)] by simp];unfold jC at bl;clear hx ac kt kf v2;generalize (gd.map PG).map (zE yA)=Y,PG x=bx at *
   (have gt:=kg;(repeat' (first|refine gM ?_|apply yY|apply xN|intro hc|(apply zG;first|(apply yL;refine wQ tok Z Z ?_))|refine SB ?_|fail))<;>clear gt)
   rfl
  ·(refine WW ?_)
   refine zH [] Z Z ?_ Z
   show AV.tup [AV.agg [zE xC A.c.js,zE wP A.c.ags,iA A.c.per,iA A.c.cap,iA A.c.hold,iA A.c.lock,bA false,iA A.ga,zE zN A.ds,zE wD A.sg,zE xZ A.sv,zE iA A.st,zE wE A.vw,.sl false (pi (ln b.ss) ((VN b.ss (ln b.ss)).map fT))],AV.agg [.sl false (pi ((Td.map PG).map (zE yA)).length ((Td.map PG).map (zE yA))),_],bA true]=_
   rw[zAa,zAl (zCa (au _))];rfl
def L2 {a b:List xU} (h:a.map Wv=b.map Wv) (H:RT b):RT a:=λi hi=>by
 have hl:=zAt List.length h;rw[f7,f7]at hl;have e:(a.map Wv)[i]? =(b.map Wv)[i]? :=zAt (·[i]?) h;rw[zAh,zAh,zAu hi,zAu zB]at e;have u:=zAt Prod.fst (zD2 e);have:=H i zB;rw[zAk,zAu zB]at this;rw[zAk,zAu hi];exact u.trans this
def K2 (h:Ee b) (hN:RT b.y.ds) {r:M2} (D:FM b e r):RT r.b.y.ds:=by
 by_cases h1:e.k=1\/e.k=2\/e.k=3
 .rw[D.s h1];unfold ja
  split<;>exact hN
 by_cases h2:e.k=4\/e.k=5
 .rw[D.y h2];exact L2 (Sc h.y.rf e).2.2.2.2.2 hN
 by_cases z:e.k=6
 .obtain⟨G,E,A,B,_⟩:=D.t6 z;rw[B];obtain⟨hT,C,_⟩:=A.tk;dsimp only;rw[C];intro a u;rw[show(kJ b.y (Vq b.y (aX b.ss))).ds=fQ (b.y.ga+1) b.y.ds (Vq b.y (aX b.ss)) (ln b.y.ds) from Z]at u⊢;rw[eI]at u;rw[YC u,(hT a u).1.num];exact hN a u
 .rw[D.o zB];exact hN
def Rv (c:Cf):RT (XD c).ds:=λi hi=>by
 have hl:(XD c).ds.length=ln c.ags:=by simp[XD,XC]
 show((XC c (ln c.ags)).getD i dd).rg.num=_
 unfold XC;rw[zAk,zAh,zB2 zB];rfl
