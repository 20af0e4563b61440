/- Part 30. -/
import Derived.Test.YtdjfiebpnmieoaaGreatC29
namespace Go.Proofs.YtdjfiebpnmieoaaGreat.Av
open Tryz
set_option linter.all false
set_option maxRecDepth 4000
set_option maxHeartbeats 16000000
open List renaming length->ln,replicate->nm,range->ny,take->oj
open Inhabited renaming default->dd
variable {nn:Bool}{e:Ev}{xs:List AV}{b:TB}
def ns {c:Int} (h:0<=c):BR c=[c/16777216 % 256,c/65536 % 256,c/256 % 256,c % 256]:=by
 unfold BR;simp only[show ny 4=[0,1,2,3]from Z,zBk,zBt,Zk];rw[show c.fdiv (2 ^ (min (8*(3-((0:Nat):Int))).toNat IntKind.u32.bits))=c.fdiv 16777216 from Z,show c.fdiv (2 ^ (min (8*(3-((1:Nat):Int))).toNat IntKind.u32.bits))=c.fdiv 65536 from Z,show c.fdiv (2 ^ (min (8*(3-((2:Nat):Int))).toNat IntKind.u32.bits))=c.fdiv 256 from Z,show c.fdiv (2 ^ (min (8*(3-((3:Nat):Int))).toNat IntKind.u32.bits))=c.fdiv 1 from Z];rw[zCh _ zB,zCh _ zB,zCh _ zB,zCh _ zB,Int.ediv_one]
def Jy {s:Int} (h:0<=s):dx s=BR s:=by
 rw[ns h];unfold dx;simp only[Zk];rw[show s.fdiv (2 ^ (min (24:Int).toNat IntKind.u32.bits))=s.fdiv 16777216 from Z,show s.fdiv (2 ^ (min (16:Int).toNat IntKind.u32.bits))=s.fdiv 65536 from Z,show s.fdiv (2 ^ (min (8:Int).toNat IntKind.u32.bits))=s.fdiv 256 from Z];rw[zCh _ zB,zCh _ zB,zCh _ zB]
def ms (k:Int) (p:List Int) (z:0<=k) (A:k<=255) (hb:BY p) (u:ln p<=200):zO 194 [iA k,zD yA p] [] (.tup [.ref 1031 0 ((yc k p).map yA).length,iA 0]) [(1031,.arr 1 ((yc k p).map yA) true)]:=by
 obtain⟨q,e,_,_,c⟩:=nt k p z A hb u;rw[Jy (ml _).1]at e;rw[show yc k p=q from e.symm];exact c
theorem Mj (u z:Nat) (c:Int):∀(l:List Int) (i:Nat),i+ln l<=u->XT u z c i l=(l.map gN).flatten
 | [],i,_=>rfl
 |x::l,i,h=>by
  rw[zAm]at h;rw[XT,Mj u z c l (i+1) zB,Of (λh2=>by omega)];rfl
def Zs (k:Int) (z A c:Nat) (u E:List Int) (hl:ln u=z+A*c) (hc:c<128):ZW z A (c:Int) ⟨k,[],u,E⟩=LO z A c u (ln u)++E:=by
 have I:z<=ln u:=by rw[hl];exact Nat.le_add_right _ _
 have G:gN (c:Int)=[(c:Int)]:=by unfold gN;rw[TN zB]
 rw[xz _ _ _ _ zB zB,zAx,G];unfold ZW;dsimp only;rw[zCv];by_cases C:A=0
 .subst C;have h1:ln u=z:=by rw[hl];simp
  rw[Kp,Of (λh=>h.1 Z),Of zB,zAj zB,zDo zB];simp
 .rw[Os (by omega:(0:Int)<(A:Int))];by_cases B:c=0
  .subst B;have h1:ln u=z:=by rw[hl];simp
   rw[Mj _ _ _ _ _ zB,Os ⟨C,h1⟩,zAj zB,zDo zB];simp
  .have h1:z<ln u:=by
    rw[hl];have:0<A*c:=Nat.mul_pos zB zB;omega
   have e:=DP z A c C (u.drop z) (λh=>by have:=zAv List.length h;rw[zA8,zBh]at this;omega) (u.take z) 0 GM;rw[zDs]at e;rw[e,Of (λh=>by omega)];simp
def T5 (m:Ms) (h:VK m):zO 148 [yC m] [] (.tup [zD yA (CY m),iA 0]) []:=by
 obtain⟨e0,⟨W,gr,ap,L,M⟩,av⟩:=J4 h;obtain⟨ht,S⟩:=h;rw[e0];clear e0;generalize K4 m=G at *;obtain⟨k,ax,B,I⟩:=m;dsimp only at *;subst ht;have kv:=Tc S;have E:=S.kk;have hz:=S.z;have au:=S.l
 have v2:zO 232 [yC ⟨k,[],B,I⟩] [] (zD yA G) []:=by
  have V:(0<=(gM k).1/\(gM k).1<=4)/\(0<=(gM k).2.1/\(gM k).2.1<=4)/\(gM k).2.2.2.1<=16:=by
   have:k=13\/k=14\/k=15\/k=16\/k=17\/k=18\/k=19\/k=20\/k=21:=by omega
   clear E kv L M S
   rcases this with rfl|rfl|rfl|rfl|rfl|rfl|rfl|rfl|rfl<;>decide
  obtain⟨⟨f0,f1⟩,⟨r0,r1⟩,ac⟩:=V;have Y:=L5 k E;obtain⟨O,R⟩:∃n:Nat,(gM k).1=(n:Int):=⟨(gM k).1.toNat,zB⟩;obtain⟨A,U⟩:∃n:Nat,(gM k).2.1=(n:Int):=⟨(gM k).2.1.toNat,zB⟩;obtain⟨C,rfl⟩:∃n:Nat,gr=(n:Int):=⟨gr.toNat,zB⟩;rw[R,U]at Y M L;generalize (gM k).2.2.1=lo,(gM k).2.2.2.1=hi,(gM k).2.2.2.2=sd at *
  have u:ln B=O+A*C:=by
   rcases L with⟨q1,q2,q3⟩|⟨q1,q2,_⟩
   .rw[show A=0 by omega,zEi];omega
   .have:((A*C:Nat):Int)=(A:Int)*(C:Int):=by push_cast;rfl
    omega
  have v:=FI k O A lo hi sd Y zB ⟨k,[],B,I⟩ C Z zW NM S.n NM (λ_=>by dsimp only;rw[u,zEh]) zB;rw[Zs k O A C B I u zB,<-M]at v;exact v
 have c2:=ms k G zB zB W zB;have ag:=Ew k G;clear M L S hz;unfold yC at *;dsimp only at*
 have k1:zO 193 [.agg [iA k,zD yA [],zD iA B,zD yA I]] [] (.tup [zD yA G,iA 0]) []:=by
  refine eM call193 λF hF=>?_
  exact ld (xV kv v2)
 generalize yc k G=f at *;refine eM call148 λF hF=>?_
 refine yJ (xV k1 c2) ?_;exact zH [] Z Z (zAv (λz=>AV.tup [AV.sl false z,iA 0]) zAb) Z
def HG (l:List Ms) (hl:ln l<=1002) (h:∀m∈l,VK m):zO 96 [zD yC l] [] (zD yA (aJ l)) []:=by
 have C:=zA yC l;refine eM call96 λF hF=>?_
 refine WW ?_;refine zS 3 1001 1 Z Z Z ?_;refine zU (l) [1001] [] [8,9] [3,10,8,9] Z (λi ga T U=>⟨(3,.ref 1001 0 ((aJ ga).map yA).length)::(10,iA i)::T,(1001,.arr 1 ((aJ ga).map yA) true)::U⟩) (Lq ?_ ?_)
 .intro i ga x post hx hi;have L:=yI yC hx hi;have A:=zV hx hi;obtain⟨⟨I,_⟩,_⟩:=Db x (h x (yV hx));have u:=T5 x (h x (yV hx));have E:=CE (l:=ga) λm B=>h m (by rw[hx];simp[B])
  have G:=zA yA (aJ ga);have z:=zA yA (CY x);rw[Cb,zAf];clear hx;generalize aJ ga=X,CY x=Y at *;unfold yC at *;refine zQ u ?_;rfl
 ·(refine WW ?_)
  exact zH [] Z Z (zAv (AV.sl false) zAb) Z
theorem nh (v:AV):(YY v).cells=v.cells.map YY:=by
 cases v with
 |agg cs=>show wkL cs=cs.map YY;exact tg cs
 |s v=>
  show(YY (.s v)).cells=[YY (.s v)]
  unfold YY
  split<;>rfl
 |_=>rfl
theorem xS.wkl {w:World} {D:Nat->Prop} {c:Value} (hv:xS w D (.sl nn xs) c):xS w D (.sl nn (xs.map YY)) c:=by
 cases hv with
 |nil a cap=>exact .nil a cap
 |nil1 a cap=>exact .nil1 a cap
 | sl _ _ b o sz cap f hx hL hc h=>
  have hl:(xs.map YY).length=ln xs:=zAa ..
  have hk:∀(i:Nat) (x:AV),(xs.map YY)[i]? =some x->∃y,xs[i]? =some y/\x.cells=y.cells.map YY:=λi x hx=>by
   grind [YY,Option.map_eq_some_iff,nh]
  have z:J1 w D (xs.map YY) b o sz f:=by
   refine⟨hL.lt,hL.nd,hL.pos,by rw[hl];exact hL.max,λi x hx=>?_,λi j hi hj=>hL.cell i j (by rw[hl]at hi;exact hi) hj,λi j hi hj=>hL.one i j (by rw[hl]at hi;exact hi) hj⟩;obtain⟨y,B,A⟩:=hk i x hx;rw[A,zAa];exact hL.wide i y B
  have:=xS.sl nn (xs.map YY) b o sz cap f (by simpa using hx) z (by rw[hl];exact hc) (λi x j v hi hj=>by
   obtain⟨y,B,A⟩:=hk i x hi;rw[A,zAi,zAs]at hj;obtain⟨u,C,rfl⟩:=hj
   exact(h i y j u B C).wk)
  grind
section
variable {P:Program} {K0:List Nat} {F:Fr K0} {m:Nat} {ops:Array Oper} {rest:List Oper} {fs:List FP} {tm:List (Nat×AV)} {h:List (Nat×wB)}
theorem wT.wkL {a:Act} {w:World} (R:wT F m ⟨tm,h⟩ a w) (t:Nat) {ys:List AV} (hv:zM tm t= .sl nn xs) (C:xs.map YY=ys):wT F m ⟨(t,.sl nn ys)::tm,h⟩ a w:=by
 obtain⟨⟨X,β,B,H,u,z,I,A⟩,G,gs,hl⟩:=R;refine⟨⟨X,β,B,H,λj=>?_,z,λi hi=>?_,A⟩,G,gs,hl⟩
 .rw[xL];split
  .rename_i hj;subst hj;have:=u j;dsimp only at this;rw[hv]at this
   cases this with
   |fz _ _ E=>exact .fz _ _ (C▸E.wkl)
  .exact u j
 all_goals grind [wT,zM,YY]
def yx {Q:List FP->St->Prop} (t:Nat) {ys:List AV} (hv:zM tm t= .sl nn xs) (u:xs.map YY=ys) (hk:yQ P F m ops false rest ⟨(t,.sl nn ys)::tm,h⟩ fs Q):yQ P F m ops false rest ⟨tm,h⟩ fs Q:=
 ⟨λa w R=>hk.run a w (R.wkL t hv u)⟩
end
def Lj (c:Cf) (u:lf c.ags) (n:Nat) (C:n<=ln c.ags):zO 111 [wO c,iA n] [] (iA (jI c.ags n)) []:=by
 have hl:=zA vX c.ags;have B:=u.1;have hb:=kN u;unfold wO;refine eM call111 λF hF=>?_
 refine WW ?_;refine zN (n) [] [] [1,9,10] [5,11,1,9,10] Z (λi T U=>⟨(5,iA (jI c.ags i))::(11,iA i)::T,U⟩) (Lq ?_ ?_)
 .intro i hi;have A:=zJ vX c.ags i zB;have h1:=u.at (i:=i) zB;have h2:=hb i zB;rw[show jI c.ags (i+1)=jI c.ags i+(c.ags.getD i dd).ses from Z];clear hb;generalize jI c.ags i=s,c.ags.getD i dd=a at *;refine WW ?_;rfl
 .by_cases z:n<ln c.ags
  .have A:=zJ vX c.ags n z;generalize c.ags.getD n dd=a at *;exact lc
  .exact lc
def Iy:AV:= .agg [bA false,bA false,.s (.slice none 0 0),bA false]
def NB (u:List Ss) (i:Nat):List AV:=(ny (ln u)).map λk=>if k<i then qA (u.getD k dd)else Iy
def mh (u:List Ss):NB u 0=nm (ln u) Iy:=by apply zBb<;>grind [NB,Iy,List.getElem?_range,List.getElem?_eq_none]
def Kj (u:List Ss):NB u (ln u)=u.map qA:=by
 unfold NB;rw[VG]
 apply zBb<;>grind [NB,qA,List.getElem?_range,List.getElem?_eq_getElem,List.getElem?_eq_none]
def Vc (b:TB) (h:CF b):zO 112 [bY b] [] (YT b.y (.ref 1021 0 (ln b.ss))) [(1021,.arr 4 (b.ss.map qA) false)]:=by
 obtain⟨y,u⟩:=b;have z:=h.y;have hs:=h.s;have hl:=h.l;dsimp only at *;have I:=z.v.ag;have A:=z.rf
 have O:ln u<=8:=by
  have:=kN I (ln y.c.ags) (zAg _);have:=I.1;omega
 have L:uB y= .agg [zD wD y.c.js,zD vX y.c.ags,iA y.c.per,iA y.c.cap,iA y.c.hold,iA y.c.lock,bA false,iA y.f4,zD zK y.ds,zD wC y.sg,zD xY y.sv,zD iA y.st,zD wZ y.vw]:=by rw[<-A];rfl
 have E:=XM y z.b;rw[L]at E;have B:=zA qA u;unfold bY YT;dsimp only;refine eM call112 λF hF=>?_
 (repeat' (first|refine uD ?_|apply yZ|apply xM|intro hc|(apply zG;first|(apply eJ;refine cJ 1021 tok Z Z Z Z Z Z Z Z Z Z Z Z Z zB zB Z Z Z ?_))|fail))
 rw[B];have M:∀i,(NB u i).length=ln u:=λi=>by unfold NB;rw[zAa,zBo]
 refine zN (ln u) [1021,1,2] [1,2] [1,2,3,11,12] [13,1,2,3,11,12] Z (λi T U=>⟨(13,iA i)::T,(1021,.arr 4 (NB u i) false)::U⟩) ?_;(conv=>whnf);refine⟨by(rw[mh];rfl),?_,?_⟩
 .intro i hi;have z:=zJ qA u i hi;have C:(NB u i)[i]? =some Iy:=bB _ _ _ _ hi;have e1:NB u (i+1)=(NB u i).set i (qA (u.getD i dd)):=eX _ _ _ _ hi;have G:=hs _ (zY u i hi);have R:=FX (u.getD i dd) (by have:=G.n;omega);have h1:=M i;rw[e1];clear e1 hs G E;unfold Iy at C;generalize NB u i=X,u.getD i dd=s at *;refine zQ R ?_;rfl
 .rw[Kj];refine zQ E ?_;exact zP [1021] Z Z Z Z
def kM (c:Cf):TB:=⟨eQ c,nm (jI c.ags (ln c.ags)).toNat ⟨false,false,[],false⟩⟩
def S5 {α β:Type} [Inhabited α] [Inhabited β] (f:α->β) (l:List α) (k:Nat) (hk:k<ln l):(l.map f).getD k dd=f (l.getD k dd):=by grind
def Jj (c:Cf) (h:HT c):CH (eQ c):=by
 have B:=h.a;have z:(UE c (ln c.ags)).length=ln c.ags:=by simp[UE]
 have u:∀d∈UE c (ln c.ags),∃k:Nat,k<ln c.ags/\d=QX (k:Int) (c.ags.getD k dd) (c.ags.getD k dd).ses.toNat:=λd hd=>by
  grind [eQ,UE]
 refine⟨h,rfl,zCn _,z,λd hd=>?_,λa B=>?_,λd hd=>?_,by simp[eQ],by simp[eQ],by simp[eQ],by simp[eQ],λw C=>?_,λk hk=>?_⟩
 .obtain⟨k,hk,rfl⟩:=u d hd;exact A3 (h.av _ (zY c.ags k hk)) k zB
 .have A:a<ln c.ags:=by rw[<-z];exact B
  show((UE c (ln c.ags)).getD a dd).rg.ag=_
  unfold UE;rw[zAl,zAi,zBu A];rfl
 .obtain⟨k,hk,rfl⟩:=u d hd;exact λr G=>by cases G
 .unfold eQ at C;obtain⟨j,hj,rfl⟩:=zB0.1 C;exact qx j (h.jv j hj) _ _
 .have hk':k<ln c.js:=hk;have J:=h.jv _ (zY c.js k hk')
  show JI (c.js.getD k dd) ((c.js.map qZ).getD k dd) ((c.js.map XB).getD k dd) 0
  rw[S5 qZ c.js k hk',S5 XB c.js k hk'];refine⟨Rf J,by simp[XB,BW],λe E=>?_,zCn _,(by decide:(0:Int)<=60)⟩;rw[(zEq.1 E).2]
  decide
def CZ (c:Cf) (h:HT c):CF (kM c):=by
 have hb:=kN h.ag (ln c.ags) (zAg _);refine⟨Jj c h,?_,λs hs=>?_⟩
 .show((nm _ _).length:Int)=_
  rw[zB6]
  show((jI c.ags (ln c.ags)).toNat:Int)=jI c.ags (ln c.ags)
  omega
 .rw[(zEq.1 hs).2];exact⟨bF,zAr _⟩
def Ys (c:Cf) (h:HT c):zO 55 [wO c] [] (bY (kM c)) []:=by
 have E:=Zz c h;have A:=(Jj c h).rf;have B:=h.ag;have C:=Lj c B (ln c.ags) (zAg _);have u:=zA vX c.ags;have hb:=kN B (ln c.ags) (zAg _);have L:=B.1;have I:uB (eQ c)= .agg [zD wD (eQ c).c.js,zD vX (eQ c).c.ags,iA (eQ c).c.per,iA (eQ c).c.cap,iA (eQ c).c.hold,iA (eQ c).c.lock,bA false,iA (eQ c).f4,zD zK (eQ c).ds,zD wC (eQ c).sg,zD xY (eQ c).sv,zD iA (eQ c).st,zD wZ (eQ c).vw]:=by rw[<-A];rfl
 rw[I]at E;obtain⟨N,hN⟩:∃N:Nat,jI c.ags (ln c.ags)=(N:Int):=⟨(jI c.ags (ln c.ags)).toNat,zB⟩;rw[hN]at C hb;rw[<-u]at C
 have G:bY (kM c)= .agg [zD wD (eQ c).c.js,zD vX (eQ c).c.ags,iA (eQ c).c.per,iA (eQ c).c.cap,iA (eQ c).c.hold,iA (eQ c).c.lock,bA false,iA (eQ c).f4,zD zK (eQ c).ds,zD wC (eQ c).sg,zD xY (eQ c).sv,zD iA (eQ c).st,zD wZ (eQ c).vw,.sl false (nm N (.agg [bA false,bA false,zD yA [],bA false]))]:=by
  unfold bY YT kM;dsimp only;rw[hN];unfold zD;rw[zDr];rfl
 rw[G];generalize eQ c=z at *;refine eM call55 λF hF=>?_
 (have gd:=E;have gn:=C;(repeat' (first|refine uD ?_|apply yZ|apply xM|intro hc|(apply zG;first|(apply eJ;refine cJ 1021 tok Z Z Z Z Z Z Z Z Z Z Z Z Z zB zB Z Z Z ?_;refine kL [1,2,3] [1,2,3,16] Z ?_;(conv=>whnf);(try simp only[zAu]);refine yx 16 Z Z ?_))|fail))<;>clear gd gn)
 refine zH [] Z Z ?_ Z
 show AV.agg [zD wD z.c.js,zD vX z.c.ags,iA z.c.per,iA z.c.cap,iA z.c.hold,iA z.c.lock,bA false,iA z.f4,zD zK z.ds,zD wC z.sg,zD xY z.sv,zD iA z.st,zD wZ z.vw,.sl false (List.map YY (oj N (nm N Iy)))]=_
 rw[zAj Gx,zDr];rfl
def Ee (b:TB) (k:Int):Bool:=decide (0<=k/\k<(ln b.ss:Int))
def Xs (e:Ev) (s:Ss):Ss:=if e.k=1 then(if s.op=true then s else⟨true,false,[],false⟩)else if e.k=2 then⟨false,false,[],false⟩else FW s e.y
def RD (b:TB) (e:Ev):TB:=if Ee b e.s=true then⟨b.y,b.ss.set e.s.toNat (Xs e (b.ss.getD e.s.toNat dd))⟩else b
def Ij:AV:= .agg [.sl false [],.sl false []]
def De (y:Cy) (e:Ev):Cy:=if e.k=4 then UC y e.a e.y else TC y e.a e.b
def Ws (d:xP):Int×List Rq:=(d.rg.num,d.rq)
def rh {α:Type} {l:List α} {i:Nat} {x:α} (h:l[i]? =some x):l.set i x=l:=by
 apply zBb;intro j;rw[zDk];split
 .rename_i e;subst e;have:=(zAz.1 h).1;rw[Os this,h]
 .rfl
def Uc {y:Cy} (u:y.rf=false) (e:Ev):(De y e).c=y.c/\(De y e).f4=y.f4/\(De y e).sg=y.sg/\(De y e).sv=y.sv/\(De y e).vw=y.vw/\(De y e).ds.map Ws=y.ds.map Ws:=by
 unfold De;split
 .unfold UC;split
  .rename_i hc;refine⟨rfl,rfl,rfl,rfl,rfl,?_⟩
   show(y.ds.set _ _).map Ws=_
   rw[zBs];refine rh (zAi.trans ?_);rw[zAl,zA4 zB];rfl
  .exact⟨rfl,rfl,rfl,rfl,rfl,rfl⟩
 .unfold TC
  split<;>exact⟨rfl,rfl,rfl,rfl,rfl,rfl⟩
structure Hy where
 b:TB
 S:List (List Int)
 f:List Int
 fl:Bool
structure k8 (b:TB) (e:Ev) (r:Hy):Prop where
 s:e.k=1\/e.k=2\/e.k=3->r=⟨RD b e,[],[],false⟩
 y:e.k=4\/e.k=5->r=⟨⟨De b.y e,b.ss⟩,[],[],false⟩
 o:¬(1<=e.k/\e.k<=6)->r=⟨b,[],[],false⟩
 t6:e.k=6->∃(y':Cy) (Td:List (List Ms)),K7 b.y y' (fM b.ss) Td/\r=⟨⟨y',fN b.ss b.ss.length⟩,Td.map aJ,aJ [SY (b.y.f4+1) y'.vw],true⟩/\zO 26 [uB b.y,zD qL (fM b.ss)] [] (.tup [uB y',D4 Td (SY (b.y.f4+1) y'.vw)]) (C4 Td)
def fC (n:Nat) (u:Cy) (X:List AV) (S:AV) (f:Bool) (z:ln X=n):AV.tup [YT u (.sl false (oj n X)),S,bA f]=AV.tup [YT u (.sl false X),S,bA f]:=by rw[zAj (zCb z)]
section
variable (b:TB) (h:CF b)
include h
def FE:∃N:Nat,ln b.ss=N/\N<=8:=by
 have u:=h.y.v.ag;have h1:=h.l;have h2:=kN u (ln b.y.c.ags) (zAg _);have z:=u.1;exact⟨_,rfl,zB⟩
omit h in
theorem Gy (u:Ee b e.s=true):(RD b e).ss.map qA=(b.ss.map qA).set e.s.toNat (qA (Xs e (b.ss.getD e.s.toNat dd))):=by
 unfold RD;rw[Os u]
 show List.map qA (b.ss.set e.s.toNat _)=_
 rw[zBs]
theorem R5 (e:Ev) (au:BY e.y) (ar:ln e.y<=1000000) (r:Hy) (D:k8 b e r) (A:r.b.y.rf=false):zO 56 [bY b,PE e] [] (.tup [bY r.b,Fw r.S r.f,bA r.fl]) []:=by
 obtain⟨N,hN,ax⟩:=FE b h;have k1:=Vc b h;have hs:=h.s;have W:=h.y;have E:=zA qA b.ss;have C:Ee b e.s=decide (0<=e.s/\e.s<(ln b.ss:Int)):=rfl;have hd:=Gy (b:=b) (e:=e)
 have ap:(RD b e).y=b.y:=by unfold RD;split<;>rfl
 have G:Ee b e.s=false->(RD b e).ss=b.ss:=λM=>by unfold RD;rw[M,Of zAp]
 have Ds:=D.s;have Dy:=D.y;have Dt:=D.t6;have Dn:=D.o;clear D;unfold bY at *;have Y:=k1;unfold YT at Y⊢;unfold PE;refine eM call56 λF hF=>?_
 apply xK;apply xF
 (repeat' (first|refine WS ?_|refine SG (I2 (λhc=>?_) λhc=>?_)|refine SG λhc=>?_|(apply zG;first|refine SM ?_)|(first|apply xK|apply xB)|fail))
 apply xF
 (have gd:=Y;(repeat' (first|refine WS ?_|refine SG (I2 (λhc=>?_) λhc=>?_)|refine SG λhc=>?_|(apply zG;first|refine SM ?_)|(first|apply xK|apply xB)|fail))<;>clear gd)
 clear k1 Y;generalize az:e=e0 at *;obtain⟨B,u,R,en,U⟩:=e0;dsimp only at *;refine WA [2,3,4,5,1021] [2,3,4,5,6,7] ⟨[(2,.ptr 2 0 0),(3,.ptr 3 0 0),(4,.ptr 4 0 0),(5,.ptr 5 0 0),(6,bA false),(7,bA (Ee b u))],[(2,.box [zD wD b.y.c.js,zD vX b.y.c.ags,iA b.y.c.per,iA b.y.c.cap,iA b.y.c.hold,iA b.y.c.lock,bA false,iA b.y.f4,zD zK b.y.ds,zD wC b.y.sg,zD xY b.y.sv,zD iA b.y.st,zD wZ b.y.vw,.ref 1021 0 (ln b.ss)]),(3,.box [iA B,iA u,iA R,iA en,zD yA U]),(4,.box [.s (.slice none 0 0),.s (.slice none 0 0),iA 0,iA 0,iA 0,iA 0,bA false,iA 0,.s (.slice none 0 0),.s (.slice none 0 0),.s (.slice none 0 0),.s (.slice none 0 0),.s (.slice none 0 0),.s (.slice none 0 0)]),(5,.box [.s (.slice none 0 0),.s (.slice none 0 0)]),(1021,.arr 4 (b.ss.map qA) false)]⟩ rfl ?_ ?_
 .clear hd G;by_cases h0:0<=u
  .by_cases h1:u<(ln b.ss:Int)
   .rw[C,zAd ⟨h0,h1⟩];refine WW ?_;exact⟨rfl,rfl⟩
   .rw[C,zAc (λh=>h1 h.2)];refine WW ?_;exact⟨rfl,rfl⟩
  .rw[C,zAc (λh=>h0 h.1)];refine WW ?_;exact⟨rfl,rfl⟩
 by_cases hk:B=1\/B=2\/B=3
 .rw[Ds hk];dsimp only;rw[ap];cases M:Ee b u
  .rw[G M]
   rcases hk with rfl|rfl|rfl
   all_goals
    refine WW ?_;exact zH [] Z Z (fC _ b.y _ Ij false E) Z
  .have hd:=hd M;rw[show zD qA (RD b ⟨B,u,R,en,U⟩).ss= .sl false ((b.ss.map qA).set u.toNat (qA (Xs ⟨B,u,R,en,U⟩ (b.ss.getD u.toNat dd))))from zAv (AV.sl false) hd];rw[C,zAe]at M;obtain⟨h0,h1⟩:=M;have hy:=yF qA b.ss u h0 h1;have ag:=(hs _ (zY b.ss u.toNat zB)).n;have ko:=Aw (b.ss.getD u.toNat dd) zB;have O:=zx (b.ss.getD u.toNat dd);have kr:=G4 (b.ss.getD u.toNat dd) ag U zB;clear hd G C;unfold Xs;dsimp only;generalize b.ss.getD u.toNat dd=s at *;have V:∀z,((b.ss.map qA).set u.toNat z).length=ln b.ss:=λz=>by rw[zBp];exact E
   rcases hk with rfl|rfl|rfl
   .rw[Os Z];generalize (if s.op=true then s else⟨true,false,[],false⟩:Ss)=s1 at *;refine zQ ko ?_;exact zH [] Z Z (fC _ b.y _ Ij false (V _)) Z
   .rw[Of yX,Os Z];refine zQ O ?_;exact zH [] Z Z (fC _ b.y _ Ij false (V _)) Z
   .rw[Of yX,Of yX];refine zQ kr ?_;exact zH [] Z Z (fC _ b.y _ Ij false (V _)) Z
 clear hd G C;by_cases I:1<=B/\B<=6
 case neg=>
  rw[Dn I];have n4:¬B=4:=by omega
  have n5:¬B=5:=by omega
  have n6:¬B=6:=by omega
  refine WW ?_;exact zH [] Z Z (fC _ b.y _ Ij false E) Z
 by_cases I:B=6
 case neg=>
  have L:B=4\/B=5:=by omega
  have av:=Dy L;obtain⟨y1,_,e1,O⟩:=BF b.y W R U au ar;obtain⟨y2,_,e2,kk⟩:=HJ b.y W R en;rw[av]at A⊢;dsimp only at A⊢;rw[aU W.rf]at O kk
  rcases L with rfl|rfl
  .rw[show De b.y ⟨4,u,R,en,U⟩=y1 from e1.symm]at A⊢;rw[aU A]at O;refine zQ O ?_;exact zH [] Z Z (fC _ y1 _ Ij false E) Z
  .rw[show De b.y ⟨5,u,R,en,U⟩=y2 from e2.symm]at A⊢;rw[aU A]at kk;refine zQ kk ?_;exact zH [] Z Z (fC _ y2 _ Ij false E) Z
 obtain⟨y',Td,hM,M,km⟩:=Dt I;have O:=Zr b h y' Td hM (zz km);subst I M;dsimp only at A⊢;have ac:((fN b.ss (ln b.ss)).map qA).length=ln b.ss:=by unfold fN;rw[zAa,wR]
 clear km;unfold Fw at *;generalize Td.map aJ=S,aJ [SY (b.y.f4+1) y'.vw]=fb at *;unfold YT at O;rw[show zD qA (fN b.ss (ln b.ss))= .sl false ((fN b.ss (ln b.ss)).map qA)from Z];generalize (fN b.ss (ln b.ss)).map qA=X at *;refine zQ O ?_;exact zH [] Z Z (fC _ y' X _ true ac) Z
theorem BA (u:List Ss):fN u (ln u)=u.map λs=>(eV s).1:=by
 unfold fN;apply zBb;intro j;rw[vZ,zAi];by_cases hj:j<ln u
 .rw[Os hj,Os hj,zA4 hj];simp only[zB8,zAl,zA4 hj,zC1]
 .rw[Of hj,zB2 zB];rfl
def j8 (B:b.y.f4<1000000000):∃(A:Cy) (z:List (List Ms)),K7 b.y A (fM b.ss) z/\zO 26 [uB b.y,zD qL (fM b.ss)] [] (.tup [uB A,D4 z (SY (b.y.f4+1) A.vw)]) (C4 z):=by
 have u:(fM b.ss).length=ln b.ss:=by unfold fM;rw[zAa]
 exact qk b.y h.y B (fM b.ss) (by rw[u];exact h.l) (λi hi=>by
  unfold fM at hi;obtain⟨s,hs,rfl⟩:=zB0.1 hi
  exact(Wr (h.s s hs)).2)
end
section
structure FF (b:TB) (e:Ev) (r:Hy):Prop extends k8 b e r where
 i:CF r.b
 c:r.b.y.c=b.y.c
 n:b.y.f4<=r.b.y.f4/\r.b.y.f4<=b.y.f4+1
 t:r.fl=true->r.S.length=b.ss.length
 f6:r.fl=true->e.k=6
 k:zO 56 [bY b,PE e] [] (.tup [bY r.b,Fw r.S r.f,bA r.fl]) []
structure Ce (e:Ev):Prop where
 y:BY e.y
 n:e.y.length<=1000000
theorem px.g (h:px e):Ce e:=⟨h.y,zBi h.n yX⟩
def Q5 (u:BY e.y) {s:Ss} (h:F4 s):F4 (Xs e s):=by
 unfold Xs;split
 .split
  .exact h
  .exact⟨bF,zAr _⟩
 .split
  .exact⟨bF,zAr _⟩
  .exact E4 h u
def P5 (h:CF b) (z:BY e.y):CF (RD b e):=by
 unfold RD;split
 .refine⟨h.y,by dsimp only;rw[zBp];exact h.l,λs hs=>?_⟩;rename_i u;unfold Ee at u;rw[zAe]at u
  rcases zDv hs with hs|rfl
  .exact h.s s hs
  .exact Q5 z (h.s _ (zY b.ss _ zB))
 .exact h
def O5 (b:TB) (h:CF b) (O:b.y.f4<1000000000) (e:Ev) (B:Ce e):∃r,FF b e r:=by
 have z:∀r,k8 b e r->CF r.b->r.b.y.c=b.y.c->(b.y.f4<=r.b.y.f4/\r.b.y.f4<=b.y.f4+1)->(r.fl=true->ln r.S=ln b.ss)->(r.fl=true->e.k=6)->∃r,FF b e r:=λr D i c n t f=>⟨r,⟨D,i,c,n,t,f,R5 b h e B.y B.n r D i.y.rf⟩⟩
 by_cases h1:e.k=1\/e.k=2\/e.k=3
 .have e1:(RD b e).y=b.y:=by unfold RD;split<;>rfl
  exact z ⟨RD b e,[],[],false⟩ ⟨λ_=>rfl,λh=>zB,λh=>zB,λh=>zB⟩ (P5 h B.y) (by dsimp only;rw[e1]) (by dsimp only;rw[e1];omega) (λh=>(by cases h)) (λh=>(by cases h))
 by_cases h2:e.k=4\/e.k=5
 .obtain⟨u,R,L⟩:∃u,CH u/\u=De b.y e:=by
   unfold De;split
   .obtain⟨u,i,e,_⟩:=BF b.y h.y e.a e.y B.y B.n;exact⟨u,i,e⟩
   .obtain⟨u,i,e,_⟩:=HJ b.y h.y e.a e.b;exact⟨u,i,e⟩
  obtain⟨G,U,_⟩:=Uc h.y.rf e;rw[<-L]at G U;exact z ⟨⟨u,b.ss⟩,[],[],false⟩ ⟨λh=>zB,λ_=>by rw[L],λh=>zB,λh=>zB⟩ ⟨R,by dsimp only;rw[G];exact h.l,h.s⟩ G NM (λh=>(by cases h)) (λh=>(by cases h))
 by_cases M:e.k=6
 .obtain⟨u,I,A,V⟩:=j8 b h O;have C:(fM b.ss).length=ln b.ss:=by unfold fM;rw[zAa]
  refine z ⟨⟨u,fN b.ss (ln b.ss)⟩,I.map aJ,aJ [SY (b.y.f4+1) u.vw],true⟩ ⟨λh=>zB,λh=>zB,λh=>zB,λ_=>⟨u,I,A,rfl,V⟩⟩ ⟨A.i,?_,λs hs=>?_⟩ A.c (by have:=A.n;dsimp only;omega) (λ_=>by dsimp only;rw[zAa,A.l,C]) λ_=>M
  .dsimp only;rw[A.c,BA b h,zAa];exact h.l
  .dsimp only at hs;rw[BA b h]at hs;obtain⟨W,E,rfl⟩:=zB0.1 hs;exact(Wr (h.s W E)).1
 .exact z ⟨b,[],[],false⟩ ⟨λh=>zB,λh=>zB,λ_=>rfl,λh=>zB⟩ h Z NM (λh=>(by cases h)) (λh=>(by cases h))
open Classical in
noncomputable def PD (b:TB) (e:Ev):Hy:=if h:∃r,FF b e r then h.choose else⟨b,[],[],false⟩
def VE (h:CF b) (z:b.y.f4<1000000000) (u:Ce e):FF b e (PD b e):=by
 have hx:=O5 b h z e u;unfold PD;rw[zFn hx];exact hx.choose_spec
def Hj (h:CF b) (z:b.y.f4<1000000000) (u:px e):FF b e (PD b e):=VE h z u.g
theorem FF.st (h:CF b) {r:Hy} (A:px e) (D:FF b e r) (u:r.fl=false):r.b.y.f4=b.y.f4/\r.b.y.sg=b.y.sg/\r.b.y.sv=b.y.sv/\r.b.y.vw=b.y.vw/\r.b.y.ds.map Ws=b.y.ds.map Ws:=by
 have hk:=A.k;have hc:(e.k=1\/e.k=2\/e.k=3)\/(e.k=4\/e.k=5)\/e.k=6:=by omega
 rcases hc with hc|hc|hc
 .have e1:(RD b e).y=b.y:=by unfold RD;split<;>rfl
  rw[D.s hc];dsimp only;rw[e1];exact⟨rfl,rfl,rfl,rfl,rfl⟩
 .rw[D.y hc];exact(Uc h.y.rf e).2
 .obtain⟨_,_,_,z,_⟩:=D.t6 hc;rw[z]at u;cases u
noncomputable def dW:TB->List Ev->TB
 |b,[]=>b
 |b,e::l=>dW (PD b e).b l
noncomputable def SW:TB->List Ev->List (List (List Int)×List Int)
 |_,[]=>[]
 |b,e::l=>(if(PD b e).fl=true then [((PD b e).S,(PD b e).f)]else [])++SW (PD b e).b l
def Be (b:TB) (l m:List Ev):dW b (l++m)=dW (dW b l) m:=by
 induction l generalizing b with
 |nil=>rfl
 |cons e l u=>exact u _
def Ae (b:TB) (l m:List Ev):SW b (l++m)=SW b l++SW (dW b l) m:=by
 induction l generalizing b with
 |nil=>rfl
 |cons e l u=>
  show _++SW _ (l++m)=_
  rw[u,<-zA0];rfl
theorem FG:∀(l:List Ev) {b:TB},CF b->(∀e∈l,Ce e)->b.y.f4+(ln l:Int)<1000000000->CF (dW b l)/\(dW b l).y.c=b.y.c/\b.y.f4<=(dW b l).y.f4/\(dW b l).y.f4<=b.y.f4+(ln l:Int)/\(SW b l).length<=ln l
 | [],b,h,_,_=>⟨h,rfl,zCn _,by simp[dW],zAg _⟩
 | e::l,b,h,u,z=>by
  rw[zAm]at z;have k:=VE h zB (u e zW);have kn:=k.n;obtain⟨A,B,C,E,G⟩:=FG l k.i (λx hx=>u x OT) zB;refine⟨A,B.trans k.c,?_,?_,?_⟩
  .show b.y.f4<=(dW (PD b e).b l).y.f4
   omega
  .show(dW (PD b e).b l).y.f4<=_
   rw[zAm];omega
  .show((if(PD b e).fl=true then [((PD b e).S,(PD b e).f)]else [])++SW (PD b e).b l).length<=_
   rw[zAh,zAm];split
   .simp only[zAm,zBh];omega
   .simp only[zBh];omega
def FH (p:List (List Int)×List Int):AV:=Fw p.1 p.2
def Gj (c:Cf) (hc:HT c) (l:List Ev) (hl:ln l<=1000000) (M:∀e∈l,Ce e):zO 23 [wO c,zD PE l] [] (zD FH (SW (kM c) (l.take 400))) []:=by
 have G:=Ys c hc;have hb:=CZ c hc;have R:=zA PE l;have L:(kM c).y.f4=0:=rfl;have ac:(l.take 400).length<=400:=by rw[zAw];omega
 have u:∀e∈l.take 400,Ce e:=λe h=>M e (zB5 h)
 unfold bY YT at G;refine eM call23 λF hF=>?_
 refine zQ G ?_
 have C:l.take (min ((l.map PE).length:Int) 400).toNat=l.take 400:=by
  rw[zAa];by_cases h:ln l<=400
  .rw[zAj zB,zAj zB]
  .congr 1
   omega
 rw[C];have O:=zA PE (l.take 400);generalize l.take 400=I at *;refine zS 6 1001 2 Z Z Z ?_;refine zU (I) [5,1001] [] [5,18,19] [6,20,5,18,19] Z (λi ga T U=>⟨(6,.ref 1001 0 ((SW (kM c) ga).map FH).length)::(20,iA i)::T,(5,.box [zD wD (dW (kM c) ga).y.c.js,zD vX (dW (kM c) ga).y.c.ags,iA (dW (kM c) ga).y.c.per,iA (dW (kM c) ga).y.c.cap,iA (dW (kM c) ga).y.c.hold,iA (dW (kM c) ga).y.c.lock,bA false,iA (dW (kM c) ga).y.f4,zD zK (dW (kM c) ga).y.ds,zD wC (dW (kM c) ga).y.sg,zD xY (dW (kM c) ga).y.sv,zD iA (dW (kM c) ga).y.st,zD wZ (dW (kM c) ga).y.vw,zD qA (dW (kM c) ga).ss])::(1001,.arr 2 ((SW (kM c) ga).map FH) true)::U⟩) (Lq ?_ ?_)
 .intro i ga x post hx hi;have hy:=yI PE hx hi;have V:=zV hx hi;have z:∀e∈ga,Ce e:=λe h=>u e (by rw[hx];simp[h])
  have W:ln ga<=ln I:=by rw[hx];simp
  have A:=u x (by rw[hx];simp);obtain⟨p1,p2,p3,p4,p5⟩:=FG ga hb z (by rw[L];omega);have D:=VE p1 zB A;have B:=D.k;have e1:dW (kM c) (ga++[x])=(PD (dW (kM c) ga) x).b:=Be _ _ _
  have E:SW (kM c) (ga++[x])=SW (kM c) ga++(if(PD (dW (kM c) ga) x).fl=true then [((PD (dW (kM c) ga) x).S,(PD (dW (kM c) ga) x).f)]else []):=by
   rw[Ae]
   congr 1
   show _++[]=_
   rw[zA2]
  rw[e1,E,zAf];have Y:=zA FH (SW (kM c) ga);clear D e1 E hx z;generalize (SW (kM c) ga).map FH=X at *;unfold bY YT PE Fw at B;unfold PE at hy;generalize PD (dW (kM c) ga) x=r at *;generalize dW (kM c) ga=b0 at *;obtain⟨rb,S,f,fl⟩:=r;dsimp only at *;cases fl
  .rw[Of zAp,zBt,zA2];refine zQ B ?_;rfl
  .rw[Os Z,show [(S,f)].map FH=[.agg [zD (zD yA) S,zD yA f]]from Z];refine zQ B ?_;rfl
 ·(refine WW ?_)
  exact zH [] Z Z (zAv (AV.sl false) zAb) Z
def N5 (c:Cf) (hc:HT c) (l:List Ev) (hl:ln l<=1000000) (u:∀e∈l,px e):zO 23 [wO c,zD PE l] [] (zD FH (SW (kM c) (l.take 400))) []:=Gj c hc l hl λe h=>(u e h).g
end
def Fj (b:TB) (h:CF b):zO 90 [bY b] [] (YT b.y (.ref 1021 0 (b.ss.map qA).length)) [(1021,.arr 4 (b.ss.map qA) false)]:=by
 obtain⟨N,hN,B⟩:=FE b h;have z:=aT b.y h.y.b;have hs:=h.s;have u:=h.y.rf;obtain⟨y,A⟩:=b;dsimp only at *;rw[aU u]at z;have G:=zA qA A;unfold bY YT;dsimp only;refine eM call90 λF hF=>?_
 refine zQ z ?_;refine zS 4 1021 4 Z Z Z ?_;refine zU (A) [1021,2,3] [2,3] [2,3,12,13] [4,14,2,3,12,13] Z (λi ga T U=>⟨(4,.ref 1021 0 (ga.map qA).length)::(14,iA i)::T,(1021,.arr 4 (ga.map qA) true)::U⟩) (Lq ?_ ?_)
 .intro i ga x post hx hi;have L:=yI qA hx hi;have C:=zV hx hi;have E:(ga.map qA).length=i:=by rw[zAa,hi]
  have I:=LC x (by have:=(hs x (yV hx)).n;omega);have e:(ga++[x]).map qA=ga.map qA++[qA x]:=by simp
  clear hx;rw[e];generalize ga.map qA=xs at *;unfold qA at*
  (have gd:=I;(repeat' (first|refine dZ ?_|apply yZ|apply xM|intro hc|(apply zG;first|(apply yR;refine kD tok Z Z ?_))|refine SB ?_|fail))<;>clear gd)
  rfl
 .refine kV 1021 [4] Z Z Z Z Z ?_;refine WW ?_;exact zP [1021] Z Z Z Z
def Vs (c:Cf) (h:HT c):zO 43 [wO c] [] (bY (kM c)) []:=by
 have S:=yt c h;have B:=Jj c h;have E:=B.rf;have G:=h.ag;have hb:=kN G (ln c.ags) (zAg _);have A:=kN G;have W:=G.1;have I:(eQ c).ds.length=ln c.ags:=B.dl
 have u:∀i,i<ln c.ags->(((eQ c).ds.getD i dd).au.length:Int)=(c.ags.getD i dd).ses:=λi hi=>by
  have:=(B.di _ (zY (eQ c).ds i zB)).au
  rwa [B.dg i zB]at this
 rw[aU E]at S;obtain⟨N,hN⟩:∃N:Nat,jI c.ags (ln c.ags)=(N:Int):=⟨(jI c.ags (ln c.ags)).toNat,zB⟩
 have M:bY (kM c)= .agg [zD wD (eQ c).c.js,zD vX (eQ c).c.ags,iA (eQ c).c.per,iA (eQ c).c.cap,iA (eQ c).c.hold,iA (eQ c).c.lock,bA false,iA (eQ c).f4,zD zK (eQ c).ds,zD wC (eQ c).sg,zD xY (eQ c).sv,zD iA (eQ c).st,zD wZ (eQ c).vw,.sl false (nm N (.agg [bA false,bA false,zD yA [],bA false]))]:=by
  unfold bY YT kM;dsimp only;rw[hN];unfold zD;rw[zDr];rfl
 rw[M];clear M E B;generalize eQ c=z at *;have L:=zA zK z.ds;refine eM call43 λF hF=>?_
 refine zQ S ?_;refine zN ((z.ds.map zK).length) [2,3] [2,3] [2,3,12,13] [4,14,2,3,12,13] Z (λi T U=>⟨(4,iA (jI c.ags i))::(14,iA i)::T,U⟩) (Lq ?_ ?_)
 .intro i hi;have V:=zJ zK z.ds i zB;have O:=u i zB;have h2:=A i zB;have R:=G.at (i:=i) zB;have C:=zA bA (z.ds.getD i dd).au;rw[show jI c.ags (i+1)=jI c.ags i+(c.ags.getD i dd).ses from Z,<-O,<-C];rw[<-C]at O;clear u A;generalize jI c.ags i=s,c.ags.getD i dd=a,z.ds.getD i dd=d at *;unfold zK xC zD at V;refine WW ?_;rfl
 .rw[L,I,hN];rw[hN]at hb;clear u A
  (repeat' (first|refine uD ?_|apply yZ|apply xM|intro hc|(apply zG;first|(apply eJ;refine cJ 1021 tok Z Z Z Z Z Z Z Z Z Z Z Z Z zB zB Z Z Z ?_;refine kL [1,2,3] [1,2,3,25] Z ?_;(conv=>whnf);(try simp only[zAu]);refine yx 25 Z Z ?_))|fail))
  refine zH [] Z Z ?_ Z
  show AV.agg [zD wD z.c.js,zD vX z.c.ags,iA z.c.per,iA z.c.cap,iA z.c.hold,iA z.c.lock,bA false,iA z.f4,zD zK z.ds,zD wC z.sg,zD xY z.sv,zD iA z.st,zD wZ z.vw,.sl false (List.map YY (oj N (nm N Iy)))]=_
  rw[zAj Gx,zDr];rfl
def tj (b:TB) (e:Ev):List Ss:=if e.k=1\/e.k=2\/e.k=3 then(RD b e).ss else b.ss
def Us (b:TB) (e:Ev):(tj b e).length=ln b.ss:=by
 unfold tj RD;split
 .split
  .exact zBp ..
  .rfl
 .rfl
theorem M5 (b:TB) (h:CF b) (az:LE b.y.ds) (hn:b.y.f4<1000000000) (e:Ev) (he:Ce e) (r:Hy) (D:FF b e r):zO 46 [bY b,PE e] [] (.tup [bY r.b,Fw r.S r.f,bA r.fl]) []:=by
 obtain⟨N,hN,bl⟩:=FE b h;have k1:=Fj b h;have hs:=h.s;have E:=h.y;have b0:=he.y;have bu:=he.n;have O:=zA qA b.ss;have ba:=Us b e;have bb:((tj b e).map qA).length=ln b.ss:=by rw[zAa];exact ba
 have z:Ee b e.s=decide (0<=e.s/\e.s<(ln b.ss:Int)):=rfl
 have hd:Ee b e.s=true->(tj b e).map qA=(b.ss.map qA).set e.s.toNat (qA (if e.k=1\/e.k=2\/e.k=3 then Xs e (b.ss.getD e.s.toNat dd)else b.ss.getD e.s.toNat dd)):=λG=>by
  have ap:=G;rw[z,zAe]at ap;have hy:=yF qA b.ss e.s ap.1 ap.2;unfold tj RD;split
  .show List.map qA (b.ss.set e.s.toNat _)=_
   rw[zBs]
  .exact(eO hy).symm
 have L:Ee b e.s=false->tj b e=b.ss:=λG=>by
  unfold tj RD;rw[G]
  split<;>rfl
 have a2:e.k=1\/e.k=2\/e.k=3->(RD b e).ss=tj b e/\(RD b e).y=b.y:=λhk=>by
  unfold tj;rw[Os hk];refine⟨rfl,?_⟩;unfold RD
  split<;>rfl
 have a3:¬(e.k=1\/e.k=2\/e.k=3)->tj b e=b.ss:=λhk=>by
  unfold tj;rw[Of hk]
 have R:=D.i.y.rf;have Ds:=D.s;have Dy:=D.y;have Dt:=D.t6;have Dn:=D.o;clear D;unfold bY YT at *;unfold PE;refine eM call46 λF hF=>?_
 apply xK;apply xF
 (repeat' (first|refine WS ?_|refine SG (I2 (λhc=>?_) λhc=>?_)|refine SG λhc=>?_|(apply zG;first|refine SM ?_)|(first|apply xK|apply xB)|fail))
 apply xF
 (have gd:=k1;(repeat' (first|refine WS ?_|refine SG (I2 (λhc=>?_) λhc=>?_)|refine SG λhc=>?_|(apply zG;first|refine SM ?_)|(first|apply xK|apply xB)|fail))<;>clear gd)
 rw[O];generalize b1:e=e0 at *;obtain⟨u,B,C,V,I⟩:=e0;dsimp only at *;generalize bs:tj b ⟨u,B,C,V,I⟩=ds at *;refine WA [3,4,5,7,1021] [3,4,5,6,7,32] ⟨[(3,.ptr 3 0 0),(4,.ptr 4 0 0),(5,.ptr 5 0 0),(6,bA false),(7,.ptr 7 0 0),(32,bA (Ee b B))],[(3,.box [iA u,iA B,iA C,iA V,zD yA I]),(4,.box [.s (.slice none 0 0),.s (.slice none 0 0),iA 0,iA 0,iA 0,iA 0,bA false,iA 0,.s (.slice none 0 0),.s (.slice none 0 0),.s (.slice none 0 0),.s (.slice none 0 0),.s (.slice none 0 0),.s (.slice none 0 0)]),(5,.box [.s (.slice none 0 0),.s (.slice none 0 0)]),(7,.box [zD wD b.y.c.js,zD vX b.y.c.ags,iA b.y.c.per,iA b.y.c.cap,iA b.y.c.hold,iA b.y.c.lock,bA false,iA b.y.f4,zD zK b.y.ds,zD wC b.y.sg,zD xY b.y.sv,zD iA b.y.st,zD wZ b.y.vw,.ref 1021 0 (ln b.ss)]),(1021,.arr 4 (b.ss.map qA) false)]⟩ rfl ?_ ?_
 .clear k1 hd L;by_cases h0:0<=B
  .by_cases h1:B<(ln b.ss:Int)
   .rw[z,zAd ⟨h0,h1⟩];refine WW ?_;exact⟨rfl,rfl⟩
   .rw[z,zAc (λh=>h1 h.2)];refine WW ?_;exact⟨rfl,rfl⟩
  .rw[z,zAc (λh=>h0 h.1)];refine WW ?_;exact⟨rfl,rfl⟩
 refine WA [3,4,5,7,1021] [3,4,5,6,7] ⟨[(3,.ptr 3 0 0),(4,.ptr 4 0 0),(5,.ptr 5 0 0),(6,bA false),(7,.ptr 7 0 0)],[(3,.box [iA u,iA B,iA C,iA V,zD yA I]),(4,.box [.s (.slice none 0 0),.s (.slice none 0 0),iA 0,iA 0,iA 0,iA 0,bA false,iA 0,.s (.slice none 0 0),.s (.slice none 0 0),.s (.slice none 0 0),.s (.slice none 0 0),.s (.slice none 0 0),.s (.slice none 0 0)]),(5,.box [.s (.slice none 0 0),.s (.slice none 0 0)]),(7,.box [zD wD b.y.c.js,zD vX b.y.c.ags,iA b.y.c.per,iA b.y.c.cap,iA b.y.c.hold,iA b.y.c.lock,bA false,iA b.y.f4,zD zK b.y.ds,zD wC b.y.sg,zD xY b.y.sv,zD iA b.y.st,zD wZ b.y.vw,.ref 1021 0 (ln b.ss)]),(1021,.arr 4 (ds.map qA) false)]⟩ rfl ?_ ?_
 .cases G:Ee b B
  .rw[L G];refine WW ?_;exact⟨rfl,rfl⟩
  .rw[hd G];rw[z,zAe]at G;obtain⟨h0,h1⟩:=G;have hy:=yF qA b.ss B h0 h1;have hI:=hs _ (zY b.ss B.toNat zB);have a7:=hI.n;have ko:=jr (b.ss.getD B.toNat dd) zB;have kd:=nr (b.ss.getD B.toNat dd);have kr:=Gw (b.ss.getD B.toNat dd) a7 I zB;clear hd L z hI k1;unfold Xs;dsimp only;generalize b.ss.getD B.toNat dd=s at *;have hk:u=1\/u=2\/u=3\/(¬u=1/\¬u=2/\¬u=3):=by omega
   rcases hk with rfl|rfl|rfl|⟨n1,n2,n3⟩
   .rw[Os (.inl Z),Os Z];generalize (if s.op=true then s else⟨true,false,[],false⟩:Ss)=s1 at *;refine zQ ko ?_;exact⟨rfl,rfl⟩
   .rw[Os (.inr (.inl Z)),Of yX,Os Z];refine zQ kd ?_;exact⟨rfl,rfl⟩
   .rw[Os (.inr (.inr Z)),Of yX,Of yX];refine zQ kr ?_;exact⟨rfl,rfl⟩
   .rw[Of zB];refine WW ?_;exact⟨rfl,rfl⟩
 clear hd L z k1;by_cases M:u=1\/u=2\/u=3
 .rw[Ds M];obtain⟨e1,e2⟩:=a2 M;dsimp only;rw[e1,e2]
  rcases M with rfl|rfl|rfl
  all_goals
   refine WW ?_;exact zH [] Z Z (fC _ b.y _ Ij false bb) Z
 have e4:=a3 M;subst e4;by_cases bd:1<=u/\u<=6
 case neg=>
  rw[Dn bd];have n4:¬u=4:=by omega
  have n5:¬u=5:=by omega
  have n6:¬u=6:=by omega
  refine WW ?_;exact zH [] Z Z (fC _ b.y _ Ij false O) Z
 by_cases a4:u=6
 case neg=>
  have W:u=4\/u=5:=by omega
  have bf:=Dy W;have av:=Hs b.y E C I zB;have ax:=sk b.y E C V;rw[bf]at R⊢;dsimp only at R⊢;rw[aU E.rf]at av ax
  rcases W with rfl|rfl
  .rw[show De b.y ⟨4,B,C,V,I⟩=UC b.y C I from Z]at R⊢;rw[aU R]at av;generalize UC b.y C I=A at *;refine zQ av ?_;exact zH [] Z Z (fC _ A _ Ij false O) Z
  .rw[show De b.y ⟨5,B,C,V,I⟩=TC b.y C V from Z]at R⊢;rw[aU R]at ax;generalize TC b.y C V=A at *;refine zQ ax ?_;exact zH [] Z Z (fC _ A _ Ij false O) Z
 obtain⟨A,Td,hM,G,_⟩:=Dt a4;subst a4;subst G;dsimp only at R⊢;obtain⟨hT,a6,a1⟩:=hM.tk;have a5:(fM b.ss).length=ln b.ss:=by unfold fM;rw[zAa]
 have kt:=xk b.y E az hn (fM b.ss) (by rw[a5];exact h.l) (zt b.y (fM b.ss)) hT (λi=>(RK ..).1) (λi=>(RK ..).2);rw[<-a6,<-a1]at kt;rw[aU E.rf,aU R,show∀f,B4 Td f= .agg [.sl false (Td.map jO),zD yC [f]]from λ_=>rfl]at kt;have ac:=hM.v;have a8:=hM.l;rw[a5]at a8;have kf:=HG [SY (b.y.f4+1) A.vw] zW (λm hm=>by rw[zBf.1 hm];exact hM.f);generalize SY (b.y.f4+1) A.vw=fm at *;clear hT a6 a1 hM a2 a3 Ds Dy Dt;have z:∀i∈fM b.ss,i=i:=λ_ _=>rfl
 have ag:∀i,(((b.ss.take i).map λs=>(eV s).2).map qL).length<=ln b.ss:=λi=>by rw[zAa,zAa,zAw];omega
 have au:∀i,((fN b.ss i).map qA).length=ln b.ss:=λi=>by unfold fN;rw[zAa,wR]
 have ar:fN b.ss 0=b.ss:=qP _ _;clear z;refine WW ?_;refine zS 9 1022 2 Z Z Z ?_;refine zN (ln b.ss) [1021,1022,4,5,7] [4,5,7] [4,5,7,86,87] [9,88,4,5,7,86,87] Z (λi T U=>⟨(9,.ref 1022 0 (((b.ss.take i).map λs=>(eV s).2).map qL).length)::(88,iA i)::T,(1021,.arr 4 ((fN b.ss i).map qA) false)::(1022,.arr 2 (((b.ss.take i).map λs=>(eV s).2).map qL) true)::U⟩) ?_;(conv=>whnf);refine⟨by(rw[ar];rfl),?_,?_⟩
 .intro i hi;have b4:((fN b.ss i).map qA)[i]? =some (qA (b.ss.getD i dd)):=by rw[zAi];unfold fN;rw[vZ,Os hi,Of (zC5 i)];rfl
  have e1:(fN b.ss (i+1)).map qA=((fN b.ss i).map qA).set i (qA (eV (b.ss.getD i dd)).1):=by unfold fN;rw[vI _ _ _ _ hi]
  have e2:((b.ss.take (i+1)).map λs=>(eV s).2).map qL=((b.ss.take i).map λs=>(eV s).2).map qL++[qL (eV (b.ss.getD i dd)).2]:=by
   rw[zCk hi,zAf,zAf,zAl,zA4 hi];rfl
  have hI:=hs _ (zY b.ss i hi);have kk:=lr (b.ss.getD i dd) hI.y (by have:=hI.n;omega);have h1:=au i;have h2:=ag i;rw[e1,e2];clear e1 e2 ag ar hI hs ac kt kf au;generalize (fN b.ss i).map qA=X,((b.ss.take i).map λs=>(eV s).2).map qL=Y,(eV (b.ss.getD i dd)).1=s1,(eV (b.ss.getD i dd)).2=n1 at *;generalize b.ss.getD i dd=s0 at *;unfold qL at kk⊢
  (have gd:=kk;(repeat' (first|refine dZ ?_|apply yZ|apply xM|intro hc|(apply zG;first|(apply yR;refine kD tok Z Z ?_))|refine SB ?_|fail))<;>clear gd)
  rfl
 .have a9:((b.ss.take (ln b.ss)).map λs=>(eV s).2)=fM b.ss:=by rw[zAb];rfl
  have br:=zA jO Td;rw[a9];refine wJ [3,4,5,7,1021] [3,4,5,6,7,9,86,87,88] Z ?_
  (conv=>whnf)
  simp only[zAu,zAb];clear ag ar;refine yJ (xV kt kf) ?_;refine zS 17 1023 1 Z Z Z ?_;refine zU (Td) [1023,4,5,7,16,1021] [4,5,7,16,1021] [4,5,7,16,122,123] [17,124,4,5,7,16,122,123] Z (λi ga T U=>⟨(17,.ref 1023 0 ((ga.map aJ).map (zD yA)).length)::(124,iA i)::T,(1023,.arr 1 ((ga.map aJ).map (zD yA)) true)::U⟩) (Lq ?_ ?_)
  .intro i ga x post hx hi;have bk:=yI jO hx hi;have b2:=zV hx hi;obtain⟨v1,v2⟩:=ac x (yV hx);have kg:=HG x v1 v2;have b3:((ga.map aJ).map (zD yA)).length=i:=by rw[zAa,zAa,hi]
   rw[show((ga++[x]).map aJ).map (zD yA)=(ga.map aJ).map (zD yA)++[zD yA (aJ x)] by simp];unfold jO at bk;clear hx ac kt kf v2;generalize (ga.map aJ).map (zD yA)=Y,aJ x=bx at *
   (have gd:=kg;(repeat' (first|refine dZ ?_|apply yZ|apply xM|intro hc|(apply zG;first|(apply yR;refine kD tok Z Z ?_))|refine SB ?_|fail))<;>clear gd)
   rfl
  ·(refine WW ?_)
   refine zH [] Z Z ?_ Z
   show AV.tup [AV.agg [zD wD A.c.js,zD vX A.c.ags,iA A.c.per,iA A.c.cap,iA A.c.hold,iA A.c.lock,bA false,iA A.f4,zD zK A.ds,zD wC A.sg,zD xY A.sv,zD iA A.st,zD wZ A.vw,.sl false (oj (ln b.ss) ((fN b.ss (ln b.ss)).map qA))],AV.agg [.sl false (oj ((Td.map aJ).map (zD yA)).length ((Td.map aJ).map (zD yA))),_],bA true]=_
   rw[zAb,zAj (zCb (au _))];rfl
def Fy {a b:List xP} (h:a.map Ws=b.map Ws) (H:LE b):LE a:=λi hi=>by
 have hl:=zAv List.length h;rw[zAa,zAa]at hl;have e:(a.map Ws)[i]? =(b.map Ws)[i]? :=zAv (·[i]?) h;rw[zAi,zAi,zA4 hi,zA4 zB]at e;have u:=zAv Prod.fst (zDm e);have:=H i zB;rw[zAl,zA4 zB]at this;rw[zAl,zA4 hi];exact u.trans this
def Ey (h:CF b) (hN:LE b.y.ds) {r:Hy} (D:FF b e r):LE r.b.y.ds:=by
 by_cases h1:e.k=1\/e.k=2\/e.k=3
 .rw[D.s h1];unfold RD
  split<;>exact hN
 by_cases h2:e.k=4\/e.k=5
 .rw[D.y h2];exact Fy (Uc h.y.rf e).2.2.2.2.2 hN
 by_cases z:e.k=6
 .obtain⟨G,E,A,B,_⟩:=D.t6 z;rw[B];obtain⟨hT,C,_⟩:=A.tk;dsimp only;rw[C];intro a u;rw[show(kU b.y (zt b.y (fM b.ss))).ds=cF (b.y.f4+1) b.y.ds (zt b.y (fM b.ss)) (ln b.y.ds) from Z]at u⊢;rw[cR]at u;rw[ZS u,(hT a u).1.num];exact hN a u
 .rw[D.o zB];exact hN
def Ts (c:Cf):LE (eQ c).ds:=λi hi=>by
 have hl:(eQ c).ds.length=ln c.ags:=by simp[eQ,UE]
 show((UE c (ln c.ags)).getD i dd).rg.num=_
 unfold UE;rw[zAl,zAi,zBu zB];rfl
theorem Ej:∀(l:List Ev) {b:TB},CF b->LE b.y.ds->(∀e∈l,Ce e)->b.y.f4+(ln l:Int)<1000000000->LE (dW b l).y.ds
 | [],_,_,h,_,_=>h
 |e::l,b,h,hN,u,z=>by
  rw[zAm]at z;have D:=VE h zB (u e zW);have:=D.n;exact Ej l D.i (Ey h hN D) (λx hx=>u x OT) zB
def Ay (c:Cf) (hc:HT c) (l:List Ev) (hl:ln l<=1000000) (E:∀e∈l,Ce e):zO 24 [wO c,zD PE l] [] (zD FH (SW (kM c) (l.take 400))) []:=by
 have G:=Vs c hc;have hb:=CZ c hc;have M:=zA PE l;have C:(kM c).y.f4=0:=rfl;unfold bY YT at G;refine eM call24 λF hF=>?_
 refine zQ G ?_;refine zS 6 1001 2 Z Z Z ?_;refine qC (l) [5,1001] [] [5,14,15] [6,16,5,14,15] Z (λi ga T U W=>(i<=400)/\W=⟨(6,.ref 1001 0 ((SW (kM c) ga).map FH).length)::(16,iA i)::T,(5,.box [zD wD (dW (kM c) ga).y.c.js,zD vX (dW (kM c) ga).y.c.ags,iA (dW (kM c) ga).y.c.per,iA (dW (kM c) ga).y.c.cap,iA (dW (kM c) ga).y.c.hold,iA (dW (kM c) ga).y.c.lock,bA false,iA (dW (kM c) ga).y.f4,zD zK (dW (kM c) ga).y.ds,zD wC (dW (kM c) ga).y.sg,zD xY (dW (kM c) ga).y.sv,zD iA (dW (kM c) ga).y.st,zD wZ (dW (kM c) ga).y.vw,zD qA (dW (kM c) ga).ss])::(1001,.arr 2 ((SW (kM c) ga).map FH) true)::U⟩) (Lp ?_ ?_ ?_)
 .exact⟨zAr _,rfl⟩
 .rintro i ga x post st hx hi ⟨i4,rfl⟩;have V:=yI PE hx hi;have O:=zV hx hi;by_cases h4:i<400
  case neg=>
   have L:l.take 400=ga:=by rw[hx,zCd zB,zAj zB]
   rw[L];refine WW ?_;exact zH [] Z Z (zAv (AV.sl false) zAb) Z
  have u:∀e∈ga,Ce e:=λe h=>E e (by rw[hx];simp[h])
  have z:=E x (by rw[hx];simp);obtain⟨I,p2,p3,p4,p5⟩:=FG ga hb u (by rw[C];omega);have D:=VE I zB z;have A:=M5 _ I (Ej ga hb (Ts c) u (by rw[C];omega)) zB x z _ D;have e1:dW (kM c) (ga++[x])=(PD (dW (kM c) ga) x).b:=Be _ _ _
  have B:SW (kM c) (ga++[x])=SW (kM c) ga++(if(PD (dW (kM c) ga) x).fl=true then [((PD (dW (kM c) ga) x).S,(PD (dW (kM c) ga) x).f)]else []):=by
   rw[Ae]
   congr 1
   show _++[]=_
   rw[zA2]
  have R:=zA FH (SW (kM c) ga);rw[e1,B,zAf];clear D e1 B hx u;generalize (SW (kM c) ga).map FH=X at *;unfold bY YT PE Fw at A;unfold PE at V;generalize PD (dW (kM c) ga) x=r at *;generalize dW (kM c) ga=Y at *;obtain⟨rb,S,f,fl⟩:=r;dsimp only at *;cases fl
  .rw[Of zAp,zBt,zA2];refine zQ A ?_;exact⟨zB,rfl⟩
  .rw[Os Z,show [(S,f)].map FH=[.agg [zD (zD yA) S,zD yA f]]from Z];refine TQ A ?_;exact⟨zB,rfl⟩
 .rintro st ⟨i4,rfl⟩;rw[zAj i4];refine WW ?_;exact zH [] rfl rfl (zAv (AV.sl false) zAb) rfl
def Rs (l:List (List (List Int)×List Int)) (hl:ln l<=1000000) (A:∀p∈l,p.1.length<=1000):zO 22 [zD FH l,zD FH l] [] (bA true) []:=by
 have E:=zA FH l;refine eM call22 λF hF=>?_
 refine WW ?_;refine zU (l) [] [] [1,15,16] [17,1,15,16] Z (λi ga T U=>⟨(17,iA i)::T,U⟩) (Lq ?_ ?_)
 .intro i ga x post hx hi;have z:=yI FH hx hi;have G:=zV hx hi;have h1:=A x (yV hx);obtain⟨S,f⟩:=x;dsimp only at h1;have B:=zA (zD yA) S;unfold FH Fw at z;dsimp only at z;clear hx;have I:=QE f
  (repeat' (first|refine uD ?_|apply yZ|apply xM|intro hc|(apply zG;first|refine SM ?_)|fail))
  refine zN (ln S) [7] [7] [1,7,15,16,17,43,44] [45,1,7,15,16,17,43,44] Z (λi T U=>⟨(45,iA i)::T,U⟩) (Lq ?_ ?_)
  .intro j hj;have u:=zJ (zD yA) S j hj;have C:=QE (S.getD j dd);generalize S.getD j dd=s at *;unfold zD at u
   (repeat' (first|refine uD ?_|apply yZ|apply xM|intro hc|(apply zG;first|refine SM ?_)|fail))
   rfl
  ·(repeat' (first|refine uD ?_|apply yZ|apply xM|intro hc|(apply zG;first|refine SM ?_)|fail))
   rfl
 .exact lc
def gL (k:Int):Ev:=⟨k,0,0,0,[]⟩
def yf {k:Int} (h:1<=k/\k<=6):px (gL k):=⟨h,by dsimp only[gL];omega,by dsimp only[gL];omega,by dsimp only[gL];omega,bF,zAr _⟩
def sh (c:Cf) (h:HT c):∃(S:List (List Int)) (f q1 A:List Int),SW (kM c) [gL 1,gL 6]=[(S,f)]/\0<ln S/\(ln S:Int)=jI c.ags (ln c.ags)/\S.getD 0 []=90::165::1::17::q1/\7<=ln q1/\f=90::165::1::21::A/\7<=ln A:=by
 have hb:=CZ c h;have hw:=h.ag;have ap:=kN hw (ln c.ags) (zAg _);have ac:=h.a;have R:(kM c).ss.length=(jI c.ags (ln c.ags)).toNat:=by unfold kM;exact zB6
 have Y:=Hj hb (by show(0:Int)<_;omega) (yf (k:=1) zB);have e1:=Y.s (.inl Z)
 have L:Ee (kM c) (gL 1).s=true:=by
  unfold Ee;rw[zAe];dsimp only[gL];omega
 have E:RD (kM c) (gL 1)=⟨(kM c).y,(kM c).ss.set 0 ⟨true,false,[],false⟩⟩:=by
  unfold RD;rw[Os L]
  have:(kM c).ss.getD 0 dd=⟨false,false,[],false⟩:=by
   unfold kM;dsimp only;rw[zAl,zCj,Os zB];rfl
  show(⟨_,(kM c).ss.set 0 (Xs (gL 1) ((kM c).ss.getD 0 dd))⟩:TB)=_
  rw[this];rfl
 have U:=Y.i;rw[e1]at U;dsimp only at U;have O:(RD (kM c) (gL 1)).y.f4=0:=by rw[E];rfl
 have d2:=Hj U (by rw[O];omega) (yf (k:=6) zB);obtain⟨y',W,G,e3,_⟩:=d2.t6 Z
 have er:SW (kM c) [gL 1,gL 6]=[(W.map aJ,aJ [SY ((RD (kM c) (gL 1)).y.f4+1) y'.vw])]:=by
  unfold SW;rw[e1];dsimp only;rw[Of zAp,zCv];unfold SW;rw[e3];dsimp only;rw[Os Z];rfl
 have M:(fM (RD (kM c) (gL 1)).ss).length=(kM c).ss.length:=by unfold fM;rw[zAa,E,zBp]
 have I:=G.l
 have z:(fM (RD (kM c) (gL 1)).ss).getD 0 dd=⟨true,[]⟩:=by
  unfold fM;rw[E,zAl,zAi,zA6 zB];rfl
 obtain⟨l1,l2,d,u,t2,t3⟩:=G.on 0 zB (by rw[z]);rw[z]at t2;have V:l1=[]:=zBa t2;subst V;rw[zCv]at u;have B:=(Db _ t3).1.2 (by simp[OK,Cr]);have C:=(Db _ G.f).1.2 (by simp[SY]);obtain⟨q1,B,b3⟩:=B;obtain⟨A,C,b4⟩:=C;refine⟨_,_,q1++aJ l2,A++[],er,by rw[zAa];omega,by rw[zAa,I,M,R];omega,?_,by rw[zAh];omega,?_,by rw[zAh];omega⟩
 .rw[zAl,zAi];rw[zAl]at u
  cases hg:W[0]? with
  |none=>
   rw[hg]at u;cases u
  |some x=>
   rw[hg]at u;have u:x=_:=u
   show aJ x=_
   rw[u]
   show CY _++aJ l2=_
   rw[B];rfl
 .show CY _++[]=_
  rw[C];rfl
def th:zO 25 [] [] (bA true) []:=by
 have kn:=Mx [] zW;have kc:=Xb Yy 63;have hv:=rx Yy 63 zB
 have k:=N5 (JU Yy 63) hv [gL 1,gL 6] zW (λe I=>by
  simp only[zBv,zEw,zFt]at I
  rcases I with rfl|rfl
  .exact yf zB
  .exact yf zB)
 obtain⟨S,f,q1,u,h1,h2,G,z,h5,O,h7⟩:=sh (JU Yy 63) hv;rw[show([gL 1,gL 6]:List Ev).take 400=[gL 1,gL 6]from Z,h1]at k;rw[show jI (JU Yy 63).ags (JU Yy 63).ags.length=1 by rfl]at G;generalize JU Yy 63=c,C7 Yy 63=e0 at *
 obtain⟨B,S,rfl⟩:∃B M,S=B::M:=by
  cases S with
  |nil=>cases h2
  |cons s S=>exact⟨s,S,rfl⟩
 have z:B=_:=z;subst z;subst O;unfold wO at *;have U:=zA yA q1;have V:=zA yA u;rw[show zD FH [(((90::165::1::17::q1):List Int)::S,(90::165::1::21::u:List Int))]= .sl false [.agg [.sl false (.sl false (yA 90::yA 165::yA 1::yA 17::q1.map yA)::S.map (zD yA)),.sl false (yA 90::yA 165::yA 1::yA 21::u.map yA)]]from Z]at k;have R:=zA (zD yA) S;generalize S.map (zD yA)=E,q1.map yA=C,u.map yA=L at *;rw[zAm]at h2 G;have A:ln E=0:=by omega
 have W:(AV.sl false (yA 90::yA 165::yA 1::yA 17::C)::E).length=1:=by rw[zAm,A]
 have Y:(yA 90::yA 165::yA 1::yA 17::C).length=ln q1+4:=by simp only[zAm];omega
 have ac:(yA 90::yA 165::yA 1::yA 21::L).length=ln u+4:=by simp only[zAm];omega
 refine eM call25 λF hF=>?_
 (have gd:=kn;have gn:=kc;have gt:=k;(repeat' (first|refine dZ ?_|apply yZ|apply xM|intro hc|(apply zG;first|(apply yR;refine QF 6 Z Z Z ?_;refine QF 7 Z Z Z ?_;refine kD tok Z Z ?_))|refine SB ?_|fail))<;>clear gd gn gt)
 exact zI
