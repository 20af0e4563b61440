/- Part 27. -/
import Derived.Test.YtaglbcjljlkjcaaGreatV26
namespace Go.Proofs.YtaglbcjljlkjcaaGreat.Av
open Tryz
set_option linter.all false
set_option maxRecDepth 4000
set_option maxHeartbeats 16000000
open List renaming length->ln,replicate->pg,take->pi,getD->py
open Inhabited renaming default->dd
variable {p:It×Nat}{b:List Int}{N:Nat}
def Ao (g:Cf) (j:Jn) (J:JV j) (s:Sg) (C:CV j s.c) (v:Sv) (l:List Cl) (k ga:Int) (H:Ap g v l ga) (G: -1000000<=(uM g v l ga).gr/\(uM g v l ga).gr<=1000000):zO 58 [vL g,xC j,wD s,xZ v,zE uK l,iA k,iA ga] [] (.tup [wD (AU g j s v l k ga).1,xZ (AU g j s v l k ga).2]) []:=by
 have hJ:=J.n;have hn:=C.n;have hm:=C.m;have hb:AT v:=⟨by have:=H.sl;omega⟩;have A:AT (uM g v l ga):=⟨by rw[YP];have:=H.sl;omega⟩;have M:=PS s zB zB;have O:=Ja v hb ga;have B:=Af g v l ga H;have E:=uk j J s C (uM g v l ga).ph k;have R:=Ja (uM g v l ga) A ga;have I:=Hj (uM g v l ga) A (Yy (Sd j s (uM g v l ga).ph k) (uM g v l ga)) G;have X:=Uy J C (uM g v l ga).ph k;have U:=X.n;unfold AU;generalize qQ v ga=v0,uM g v l ga=y at *;generalize qQ y ga=v2 at *;generalize Sd j s y.ph k=x at *;have u:Yy x y=(decide (0<=y.ph/\y.ph<ln x.c.li)&&((xI x.c y.ph.toNat).lamp==1)):=rfl;generalize Yy x y=b at *;generalize gE y b=v3 at *;clear H G X C hb A;obtain⟨sc,W⟩:=s;obtain⟨z,Y⟩:=x;dsimp only at *;have S:=zA yX z.li
 cases W with
 |true=>
  rw[Os Z];refine eM call58 λF hF=>?_
  exact ng (xH M O)
 |false=>
 rw[hW zAs]
 cases Y with
 |true=>
  rw[Os Z];refine eM call58 λF hF=>?_
  exact ng (qS B E R)
 |false=>
 rw[hW zAs];dsimp only;rw[show wD ⟨z,false⟩= .agg [zE yX z.li,iA z.gr,zE iA z.nx,iA z.wt,bA false]from Z]at *; by_cases h1:0<=y.ph
 case neg=>
  rw[zAb (λh=>h1 h.1),zA7]at u;subst u;refine eM call58 λF hF=>?_
  exact ng (qS B E I)
 by_cases h2:y.ph<ln z.li
 case neg=>
  rw[zAb (λh=>h2 h.2),zA7]at u;subst u;refine eM call58 λF hF=>?_
  exact ng (qS B E I)
 rw[zAc ⟨h1,h2⟩,zAj]at u;have V:=yC yX z.li y.ph h1 h2
 change (z.li.map yX)[y.ph.toNat]? =some (yX (xI z y.ph.toNat))at V
 generalize xI z y.ph.toNat=a at *;by_cases L:a.lamp=1
 .rw[show(a.lamp==1)=true by rw[zBv];exact L]at u;subst u;refine eM call58 λF hF=>?_
  exact ng (qS B E I)
 .rw[show(a.lamp==1)=false by rw[zBd];exact L]at u;subst u;refine eM call58 λF hF=>?_
  exact ng (qS B E I)
def Qv (u:List In) (y n:Nat):oa u y n=(u.drop y).take n++pg (n-(ln u-y)) dd:=by
 unfold oa;apply zBe;intro k;by_cases hk:k<n
 .rw[zAh,zB2 hk,List.getElem?_append,zB0,Os hk,zCe,zA0,zBh];by_cases h:y+k<ln u
  .rw[Os zB,zAu h];simp[py,h]
  .rw[hW zB,zC5,Os zB];simp[py,zBj (Nat.le_of_not_lt h)]
 .rw[zBj qM,zBj qM]
def J2 (xs:List AV) (u n:Nat):(xs.drop (min (u:Int) (ln xs:Int)).toNat).take ((min ((u:Int)+(n:Int)) (ln xs:Int)).toNat-(min (u:Int) (ln xs:Int)).toNat)=(xs.drop u).take n:=by
 apply zBe;intro k;rw[zB0,zB0,zCe,zCe];by_cases h:u+k<ln xs
 .rw[show(min (u:Int) (ln xs:Int)).toNat=u by omega];by_cases hk:k<n
  .rw[Os zB,Os hk]
  .rw[hW zB,hW hk]
 .rw[zBj (l:=xs) (i:=u+k) zB,zBj (l:=xs) (i:=(min (u:Int) (ln xs:Int)).toNat+k) zB];simp
def zp (ga:Int) (u:List xU) (R:Nat->DR):PK ga u (ln u)=fQ ga u R 0:=by
 unfold fQ;apply zBe;intro j;unfold PK;rw[uJ,zAh];by_cases hj:j<ln u
 .rw[Os hj,Os hj,zB2 hj];simp
 .rw[hW hj,zBj qM];rfl
def Yh (R:Nat->DR) (i:Nat):List (List Ms):=((List.range i).map λa=>(R a).R).flatten
def LF (R:Nat->DR) (i:Nat):Yh R (i+1)=Yh R i++(R i).R:=by simp[Yh,zB4]
theorem OQ {l:List Ag} {R:Nat->DR} (u:LP l) (h:∀a,a<ln l->(((R a).R.length:Nat):Int)=(l.getD a dd).ses):∀i,i<=ln l->((Yh R i).length:Int)=jP l i
 |0,_=>rfl
 |i+1,hi=>by
  have y:=OQ u h i zB;have:=h i zB;rw[LF,zAf]
  show _=jP l i+(l.getD i dd).ses
  omega
theorem yp {l:List Ag} {R:Nat->DR} (u:LP l) (h:∀a,a<ln l->(((R a).R.length:Nat):Int)=(l.getD a dd).ses):∀n,n<=ln l->∀a k,a<n->k<(R a).R.length->(Yh R n).getD ((jP l a).toNat+k) []=(R a).R.getD k []
 |0,_,a,k,y,_=>absurd y (zBa _)
 |n+1,B,a,k,y,hk=>by
  have hl:=OQ u h n zB;rw[LF,zAk];by_cases h1:a=n
  .subst h1;rw[zBb zB,show(jP l a).toNat+k-(Yh R a).length=k by omega,<-zAk]
  .have A:=OX u (show a+1<=n by omega) zB;have h2:=h a zB;have C:jP l (a+1)=jP l a+(l.getD a dd).ses:=rfl;have z:=kG u a zB;rw[zA9 zB,<-zAk];exact yp u h n zB a k zB hk
theorem xp (y:Cy) (h:VO y) (cd:RT y.ds) (hn:y.ga<1000000000) (u:List In) (fi:(ln u:Int)<=jP y.c.ags (ln y.c.ags)) (R:Nat->DR) (L:Fp y u R) (az:∀i,(R i).en.length<=2000) (a3:∀i,(R i).ks.length<=2000):
  zO 13 [vN y,zE fZ u] [] (.tup [vN (kJ y R),s8 (RV y.c (Mc (kJ y R) u R (ln y.ds)) (ln y.c.ags)) (PJ (y.ga+1) (kJ y R).vw)]) []:=by
 have hb:=h.b;have n0:=h.n0;have S:=h.v.ag;have b3:=h.dl;have k1:=XB y hb;have ff:=zA fZ u;have ci:min (y.ga+1) 1073741824=y.ga+1:=by omega
 have co:=h.rf;have eC:=cG co;have ft:=S.1;have c2:=zA zN y.ds
 have I:∀i,i<ln y.ds->((y.ds.getD i dd).au.length:Int)=(y.c.ags.getD i dd).ses:=λi hi=>by
  have:=(h.di _ (zQ y.ds i hi)).au
  rwa [h.dg i hi]at this
 have E:∀a,a<ln y.c.ags->(((R a).R.length:Nat):Int)=(y.c.ags.getD a dd).ses:=λa B=>by
  have:=(L a zB).1.rn;have h2:=I a zB;rw[show(XT (y.ds.getD a dd) (y.ga+1)).au.length=(y.ds.getD a dd).au.length from Z]at this;omega
 unfold OY OZ eJ at k1;rw[eC,co]at k1;rw[eC];refine eM call13 λF hF=>?_
 refine zP k1 ?_;have c4:=zA wD y.sg;have dr:=zA xZ y.sv;have cr:=zA iA y.st;have ch:=h.gl;have br:=h.sl;have bl:=h.tl;rw[ci,c4,ch,dr,br,cr,bl];have b1:∀i,(PK (y.ga+1) y.ds i).length=ln y.ds:=λi=>vI _ _ _
 have b2:∀i,((PK (y.ga+1) y.ds i).map zN).length=ln y.ds:=λi=>by rw[f7,b1]
 have ax:PK (y.ga+1) y.ds 0=y.ds:=kC _ _;rw[c2];refine zM (ln y.ds) [1011,2,4,5,6,1012,1013,1014] [2,4,5,6,1012,1013,1014] [1,2,4,5,6,53,54] [55,1,2,4,5,6,53,54] Z (λi T U=>⟨(55,iA i)::T,(1011,.arr 17 ((PK (y.ga+1) y.ds i).map zN) false)::U⟩) ?_;(conv=>whnf);refine⟨by(rw[ax];rfl),?_,?_⟩
 .intro i hi
  have hy:((PK (y.ga+1) y.ds i).map zN)[i]? =some (zN (y.ds.getD i dd)):=by
   rw[zAh];unfold PK;rw[uJ,Os hi,hW (zDa i)];rfl
  have e:(PK (y.ga+1) y.ds (i+1)).map zN=((PK (y.ga+1) y.ds i).map zN).set i (zN (XT (y.ds.getD i dd) (y.ga+1))):=by unfold PK;rw[uC _ _ _ _ hi]
  have kb:=Tl (h.di _ (zQ y.ds i hi)) (y.ga+1);have cw:=b2 i;rw[e];clear e L ax E I k1 eC;generalize XT (y.ds.getD i dd) (y.ga+1)=d2 at *;generalize y.ds.getD i dd=d1 at *;generalize (PK (y.ga+1) y.ds i).map zN=X at *;refine zP kb ?_;rfl
 .rw [zp (y.ga+1) y.ds R];refine WW ?_;have b8:∀i,((fQ (y.ga+1) y.ds R i).map zN).length=ln y.ds:=λi=>by unfold fQ;rw[f7,f7,zBp]
  refine zW 9 1041 1 Z Z Z ?_;refine zW 10 1042 3 Z Z Z ?_;refine zW 11 1043 1 Z Z Z ?_;refine zM (ln y.ds) [1011,1041,1042,1043,2,4,5,6,1012,1013,1014] [2,4,5,6,1012,1013,1014] [1,2,4,5,6,70,71] [9,10,11,12,72,1,2,4,5,6,70,71] Z (λi T U=>⟨(9,.ref 1041 0 ((Yh R i).map jC).length)::(10,.ref 1042 0 ((XJ R i).map bM).length)::(11,.ref 1043 0 ((fU R i).map iA).length)::(12,iA (jP y.c.ags i))::(72,iA i)::T,(1011,.arr 17 ((fQ (y.ga+1) y.ds R i).map zN) false)::(1041,.arr 1 ((Yh R i).map jC) true)::(1042,.arr 3 ((XJ R i).map bM) true)::(1043,.arr 1 ((fU R i).map iA) true)::U⟩) (Lq ?_ ?_)
  .intro i hi;have c5:i<ln y.c.ags:=by omega
   have hy:((fQ (y.ga+1) y.ds R i).map zN)[i]? =some (zN (XT (y.ds.getD i dd) (y.ga+1))):=by
    rw[zAh];unfold fQ;rw[VY _ _ _ _ hi];rfl
   have e1:(fQ (y.ga+1) y.ds R (i+1)).map zN=((fQ (y.ga+1) y.ds R i).map zN).set i (zN (R i).d):=by
    unfold fQ;rw[YF _ _ _ _ hi,zBt]
   obtain⟨A,ac⟩:∃A:Nat,jP y.c.ags i=(A:Int):=⟨(jP y.c.ags i).toNat,by have:=kG S i zB;omega⟩;have dj:=kG S i zB;have er:=S.at (i:=i) zB;have I:=I i hi;have a5:jP y.c.ags (i+1)=jP y.c.ags i+(y.c.ags.getD i dd).ses:=rfl;have db:=OX S (show i+1<=ln y.c.ags by omega) (zAe _);have ex:=E i c5;have eq:=OQ S E i zB;have e7:=VW az i;have c7:=VX a3 i;have az:=az i;have a3:=a3 i;have cw:=b8 i;have fp:=zA jC (Yh R i);have fq:=zA bM (XJ R i);have fr:=zA iA (fU R i);have e8:=zA jC (R i).R;have fc:=zA bM (R i).en;have fd:=zA iA (R i).ks
   have cj:Oi y.c u i=(u.drop A).take (y.ds.getD i dd).au.length++pg ((y.ds.getD i dd).au.length-(ln u-A)) dd:=by
    unfold Oi;rw[ac,show(y.c.ags.getD i dd).ses.toNat=(y.ds.getD i dd).au.length by omega,zAv,Qv]
   have kt:=(L i hi).2.2 _ _ cj;clear cj;have c1:(XT (y.ds.getD i dd) (y.ga+1)).au=(y.ds.getD i dd).au:=rfl;rw[<-c1]at I kt;have av:=zA bA (XT (y.ds.getD i dd) (y.ga+1)).au;rw[<-av]at I kt;have cq:=J2 (u.map fZ) A ((XT (y.ds.getD i dd) (y.ga+1)).au.map bA).length;rw[show(((u.map fZ).drop A).take ((XT (y.ds.getD i dd) (y.ga+1)).au.map bA).length)=((u.drop A).take ((XT (y.ds.getD i dd) (y.ga+1)).au.map bA).length).map fZ by rw[zDk,zC4]]at cq;rw[e1,LF,OV,OW,a5,ac,<-I,zAd,zAd,zAd];unfold Mx D7 vL at kt;clear e1 L E ax b1 b2 k1 eC b8 av a5 db;generalize (u.drop A).take ((XT (y.ds.getD i dd) (y.ga+1)).au.map bA).length=ow at *;generalize XT (y.ds.getD i dd) (y.ga+1)=d1 at *;generalize (fQ (y.ga+1) y.ds R i).map zN=X,(Yh R i).map jC=X1,(XJ R i).map bM=X2,(fU R i).map iA=X3,(R i).R=r1,(R i).en=r2,(R i).ks=r3,(R i).d=d2 at *;unfold zN wG at kt hy;refine zP kt ?_;rfl
  .have a4:∀x∈fU R (ln y.ds),0<=x/\x<(ln y.c.js:Int):=λx hx=>by
    obtain⟨a,B,hx⟩:=Kc hx;exact(L a B).1.ks x hx
   have c7:=VX a3 (ln y.ds);have c6:=zA xC y.c.js;have fo:=zA iA (fU R (ln y.ds));have em:(fU R (ln y.ds)).length<=10000:=by omega
   refine WW ?_;refine vJ [2,4,5,6,1012,1013,1014] [1,2,4,5,6,9,10,121,122,123] Z ?_
   (conv=>whnf)
   simp only[zAr,zAa];rw[zAl (l:=(fQ (y.ga+1) y.ds R (ln y.ds)).map zN) (zCa (b8 _))];clear k1 ax b1 b2;refine zU ((fU R (ln y.ds))) [1012,2,4,5,6,1013,1014] [2,4,5,6,1013,1014] [1,2,4,5,6,9,10,121,122] [123,1,2,4,5,6,9,10,121,122] Z (λi gd T U=>⟨(123,iA i)::T,(1012,.arr 5 ((cR y.c y.sg gd).map wD) false)::U⟩) (Lq ?_ ?_)
   .intro i gd x post hx hi;have hy:=zY iA hx hi;have c8:=zX hx hi;have b9:=a4 x (yQ hx);obtain⟨g1,g2⟩:=KM h.v (sv:=y.sv) (ga:=y.ga) gd y.sg h.gl h.j;have J:=h.v.jv _ (zQ y.c.js x.toNat zB);have C:=(g2 x.toNat zB).c;have hJ:=J.n;have hC:=C.n;have hM:=C.m;have kr:=yg (y.c.js.getD x.toNat dd) J ((cR y.c y.sg gd).getD x.toNat dd) zB zB;have d4:=yC xC y.c.js x b9.1 b9.2;have d3:=yC wD (cR y.c y.sg gd) x b9.1 zB;have ej:=zA wD (cR y.c y.sg gd);rw[ED,zBt];clear hx a4 L J C g2 eC;generalize (cR y.c y.sg gd).getD x.toNat dd=s,y.c.js.getD x.toNat dd=j at *;generalize cR y.c y.sg gd=X at *;generalize X.map wD=Y at *;refine zP kr ?_;rfl
   .obtain ⟨g1,g2⟩:=KM h.v (sv:=y.sv) (ga:=y.ga) (fU R (ln y.ds)) y.sg h.gl h.j;have hC:=TU;have bu:∀D,YH D (cR y.c y.sg (fU R (ln y.ds))) 0=cR y.c y.sg (fU R (ln y.ds)):=λD=>kC _ _
    have b0:∀D,YI D y.sv 0=y.sv:=λD=>kC _ _
    have bx:XK y.st 0=y.st:=kC _ _;have a1:∀D i,((YH D (cR y.c y.sg (fU R (ln y.ds))) i).map wD).length=ln y.c.js:=λD i=>by unfold YH;rw[f7,vI];exact g1
    have a7:∀D i,((YI D y.sv i).map xZ).length=ln y.c.js:=λD i=>by unfold YI;rw[f7,vI];exact br
    have a2:∀i,((XK y.st i).map iA).length=ln y.c.js:=λi=>by unfold XK;rw[f7,vI];exact bl
    have a6:∀D i,((FS y.c.js D i).map wE).length=i:=λD i=>by simp[FS]
    have V:∀d∈fQ (y.ga+1) y.ds R (ln y.ds),qB y.c d:=λd hd=>by
     obtain⟨a,B,rfl⟩:=YD hd;exact(L a B).1.i
    have b7:∀d∈fQ (y.ga+1) y.ds R (ln y.ds),KN (y.ga+1) d.rq:=λd hd=>by
     obtain⟨a,B,rfl⟩:=YD hd;refine(L a B).1.sc ?_;exact KN.of zB ((h.sc _ (zQ y.ds a B)).mono zB) (aa _ _)
    have bz:RT (fQ (y.ga+1) y.ds R (ln y.ds)):=λa B=>by
     rw[eI]at B;rw[YC B,(L a B).1.num];exact cd a B
    have eh:(fQ (y.ga+1) y.ds R (ln y.ds)).length<=4:=by rw[eI];omega
    have b5:∀d∈fQ (y.ga+1) y.ds R (ln y.ds),∀r∈d.rq,kT [] r.legs=true:=λd hd r hr=>by
     have:=((V d hd).v.ok r hr).lg;unfold Gb at this;rw[zAi]at this;exact this.2
    have fj:=h.v.j;refine WW ?_;refine zW 24 1015 4 Z Z Z ?_;rw[c6];refine zM (ln y.c.js) [1012,1013,1014,1015,2,4,5,6] [2,4,5,6] [1,2,4,5,6,9,10,150,151] [24,152,1,2,4,5,6,9,10,150,151] Z (λi T U=>⟨(24,.ref 1015 0 ((FS y.c.js (fI y R) i).map wE).length)::(152,iA i)::T,(1012,.arr 5 ((YH (fI y R) (cR y.c y.sg (fU R (ln y.ds))) i).map wD) false)::(1013,.arr 3 ((YI (fI y R) y.sv i).map xZ) false)::(1014,.arr 1 ((XK y.st i).map iA) false)::(1015,.arr 4 ((FS y.c.js (fI y R) i).map wE) true)::U⟩) ?_;(conv=>whnf);refine⟨by(rw[bu,b0,bx];rfl),?_,?_⟩
    .intro i hi;have d4:=zJ xC y.c.js i hi;have d3:((YH (fI y R) (cR y.c y.sg (fU R (ln y.ds))) i).map wD)[i]? =some (wD ((cR y.c y.sg (fU R (ln y.ds))).getD i dd)):=by rw[zAh];unfold YH;rw[uJ,Os zB,hW (zDa i)];rfl
     have f2:((YI (fI y R) y.sv i).map xZ)[i]? =some (xZ (y.sv.getD i dd)):=by rw[zAh];unfold YI;rw[uJ,Os zB,hW (zDa i)];rfl
     have f1:((XK y.st i).map iA)[i]? =some (iA (y.st.getD i dd)):=by rw[zAh];unfold XK;rw[uJ,Os zB,hW (zDa i)];rfl
     have eg:(YH (fI y R) (cR y.c y.sg (fU R (ln y.ds))) (i+1)).map wD=((YH (fI y R) (cR y.c y.sg (fU R (ln y.ds))) i).map wD).set i (wD (fI y R i).1):=by unfold YH;rw[uC _ _ _ _ zB]
     have ev:(YI (fI y R) y.sv (i+1)).map xZ=((YI (fI y R) y.sv i).map xZ).set i (xZ (fI y R i).2):=by unfold YI;rw[uC _ _ _ _ zB]
     have ek:(XK y.st (i+1)).map iA=((XK y.st i).map iA).set i (iA (-1)):=by unfold XK;rw[uC _ _ _ _ zB]
     have ew:(FS y.c.js (fI y R) (i+1)).map wE=(FS y.c.js (fI y R) i).map wE++[wE (VP (y.c.js.getD i dd) (fI y R i).1 (fI y R i).2)]:=by simp[FS,zB4]
     have J:=h.v.jv _ (zQ y.c.js i hi);have H:=g2 i hi;have cl:(uO (i:Int) (fQ (y.ga+1) y.ds R (ln y.ds))).length<=4*(fQ (y.ga+1) y.ds R (ln y.ds)).length:=hC i _ λd hd=>(V d hd).v.n4
     have cm:=EK (j:=(i:Int)) V (ga:=y.ga+1) zB b7;have hp:=h.v.p;have e6:=h.v.cp;have e0:=J.n;have ez:=H.n;have He:∀e∈(y.sv.getD i dd).en,-1<=e/\e<=y.ga+1:=λe he=>by have:=H.e e he;omega
     have HD:Ap y.c (y.sv.getD i dd) (uO (i:Int) (fQ (y.ga+1) y.ds R (ln y.ds))) (y.ga+1):=⟨hp.1,zB,zB,zB,zB,He,λx hx=>(cm x hx).1,λx hx=>(cm x hx).2,zB,zB⟩
     have kd:zO 58 [vL y.c,xC (y.c.js.getD i dd),wD ((cR y.c y.sg (fU R (ln y.ds))).getD i dd),xZ (y.sv.getD i dd),zE uK (uO (i:Int) (fQ (y.ga+1) y.ds R (ln y.ds))),iA (y.st.getD i dd),iA (y.ga+1)] [] (.tup [wD (fI y R i).1,xZ (fI y R i).2]) []:=
      Ao y.c _ J _ H.c _ _ _ (y.ga+1) HD (by have:=ma y.c (y.sv.getD i dd) (uO (i:Int) (fQ (y.ga+1) y.ds R (ln y.ds))) (y.ga+1) H.g;omega)
     have ko:=zw (y.c.js.getD i dd) J (fI y R i).1 (Xy J H.c _ _ _ _ _) (fI y R i).2;have kc:=AN y.c false (y.ga+1) (fQ (y.ga+1) y.ds R (ln y.ds)) i zB (λd hd=>(V d hd).bd) b5 bz ((YH (fI y R) (cR y.c y.sg (fU R (ln y.ds))) i).map wD) ((YI (fI y R) y.sv i).map xZ) ((XK y.st i).map iA) (ln y.c.js) (ln y.c.js) (ln y.c.js) y.vw;have ei:=a1 (fI y R) i;have et:=a7 (fI y R) i;have el:=a2 i;have es:=a6 (fI y R) i;rw[eg,ev,ek,ew];clear eg ev ek ew bu b0 bx HD cm hC a1 a7 a2 a6 g2 H J eC L V b7 bz b5 He a4;generalize (YH (fI y R) (cR y.c y.sg (fU R (ln y.ds))) i).map wD=X,(YI (fI y R) y.sv i).map xZ=Y,(XK y.st i).map iA=Z',(FS y.c.js (fI y R) i).map wE=W,fI y R i=p at *;generalize VP (y.c.js.getD i dd) p.1 p.2=w at *;generalize uO (i:Int) (fQ (y.ga+1) y.ds R (ln y.ds))=l,(cR y.c y.sg (fU R (ln y.ds))).getD i dd=s,y.sv.getD i dd=v,y.st.getD i dd=k,y.c.js.getD i dd=j at *;unfold eJ at kc;unfold vL at kd
     (have gt:=kd;have gv:=ko;(repeat' (first|refine gM ?_|apply yY|apply xN|intro hc|(apply zG;first|(refine vF 39 ?_;refine wO (EJ (zK kc Z Z Z Z Z) Z Z) Z ?_)|(apply yL;refine wQ tok Z Z ?_))|refine SB ?_|fail))<;>clear gt gv)
     rfl
    .have l4:=a1 (fI y R) (ln y.c.js);have l5:=a7 (fI y R) (ln y.c.js);have l6:=a2 (ln y.c.js);have l7:=a6 (fI y R) (ln y.c.js);refine vJ [4,5,6] [1,4,5,6,9,10,24,151,152] Z ?_
     (conv=>whnf)
     simp only[zAr,zAa];rw[zAl (l:=(YH (fI y R) (cR y.c y.sg (fU R (ln y.ds))) (ln y.c.js)).map wD) (zCa l4),zAl (l:=(YI (fI y R) y.sv (ln y.c.js)).map xZ) (zCa l5),zAl (l:=(XK y.st (ln y.c.js)).map iA) (zCa l6)];have hZ:=Nc h L;have zn:(kJ y R).ga=y.ga+1:=rfl;have zd:(kJ y R).ds.length=ln y.ds:=eI ..;have zR:∀a,a<ln y.ds->(kJ y R).ds.getD a dd=(R a).d:=λa B=>YC B
     have eT:vN (kJ y R)= .agg [zE xC y.c.js,zE wP y.c.ags,iA y.c.per,iA y.c.cap,iA y.c.hold,iA y.c.lock,bA false,iA (y.ga+1),.sl false ((kJ y R).ds.map zN),.sl false ((kJ y R).sg.map wD),.sl false ((kJ y R).sv.map xZ),.sl false ((kJ y R).st.map iA),.sl false ((kJ y R).vw.map wE)]:=rfl;have cv:(kJ y R).vw.length<=4:=by have:=hZ.wl;have:=hZ.v.j;omega
     have kf:=Jv (y.ga+1) (kJ y R).vw zB hZ.wb;have kv:=Kv (PJ (y.ga+1) (kJ y R).vw) (Ux _ _ zB zB cv hZ.wb)
     have cf:∀a k,Mc (kJ y R) u R (ln y.ds) a k=if(u.getD ((jP y.c.ags a).toNat+k) dd).opn=true then uf ((kJ y R).ds.getD a dd) (kJ y R).vw (kJ y R).ga k (R a).R (XJ R (ln y.ds))else []:=λ_ _=>rfl
     have cc:∀e∈XJ R (ln y.ds),Ui e:=λe he=>by
      obtain⟨a,B,he⟩:=IL he;exact(L a B).1.en e he
     have ey:=VW az (ln y.ds);rw[show fQ (y.ga+1) y.ds R (ln y.ds)=(kJ y R).ds from Z,show YH (fI y R) (cR y.c y.sg (fU R (ln y.ds))) (ln y.c.js)=(kJ y R).sg from Z,show YI (fI y R) y.sv (ln y.c.js)=(kJ y R).sv from Z,show XK y.st (ln y.c.js)=(kJ y R).st from Z,show FS y.c.js (fI y R) (ln y.c.js)=(kJ y R).vw from Z,eT,show∀T f,s8 T f= .agg [.sl false (T.map jC),zE yO [f]]from λ_ _=>rfl];have bf:=yp S E;have bk:=OQ S E (ln y.c.ags) (zAe _);rw[<-b3]at bk;clear bu b0 bx a1 a7 a2 a6 V b7 bz b5 hC g1 g2 l4 l5 l6 l7 a4 eC eT;generalize Mc (kJ y R) u R (ln y.ds)=G at *;generalize kJ y R=z at *;generalize c3:PJ (y.ga+1) z.vw=fm at *;clear c3;unfold zE at kf;refine yB (xH kf kv) ?_;refine zW 30 1051 1 Z Z Z ?_;have eb:=zA zN z.ds;rw[eb,zd];clear kf kv;refine zM (ln y.ds) [1051,4,5,6,29] [4,5,6,29] [1,4,5,6,9,10,24,29,215,216] [12,30,217,1,4,5,6,9,10,24,29,215,216] Z (λi T U=>⟨(12,iA (jP y.c.ags i))::(30,.ref 1051 0 ((RV y.c G i).map jC).length)::(217,iA i)::T,(1051,.arr 1 ((RV y.c G i).map jC) true)::U⟩) (Lq ?_ ?_)
     .intro a B;have b4:a<ln y.ds:=B;obtain⟨A,ac⟩:∃A:Nat,jP y.c.ags a=(A:Int):=⟨(jP y.c.ags a).toNat,by have:=kG S a zB;omega⟩;obtain⟨N,hN⟩:∃N:Nat,(y.c.ags.getD a dd).ses=(N:Int):=⟨(y.c.ags.getD a dd).ses.toNat,by have:=S.at (i:=a) zB;omega⟩;have e2:=S.at (i:=a) zB;have dj:=kG S a zB
      have a5:jP y.c.ags (a+1)=((A+N:Nat):Int):=by
       show jP y.c.ags a+(y.c.ags.getD a dd).ses=_
       omega
      have e5:A+N<=(Yh R (ln y.ds)).length:=by
       have:=OX S (show a+1<=ln y.c.ags by omega) (zAe _);rw[b3]at bk⊢;omega
      have ar:=(L a b4).1;have hI:=hZ.di _ (zQ z.ds a zB);have bb:=hI.au;rw[hZ.dg a zB]at bb;have ea:=zR a b4;have ce:=ar.rv;have ef:=E a zB;have hy:=zJ zN z.ds a zB;have b6:=hI.a.q
      have cg:(z.ds.getD a dd).au.length=N:=by
       have:=ar.i.au;rw[ar.ag]at this;have e9:=h.dg a b4;rw[show(XT (y.ds.getD a dd) (y.ga+1)).rg.ag=(y.ds.getD a dd).rg.ag from Z,e9]at this;rw[ea];omega
      have a8:=fg (z.ds.getD a dd) hI.bd b6 z.vw (y.ga+1) zB hZ.wb;have ec:=Dv (z.ds.getD a dd) b6 z.vw (y.ga+1) zB zB cv hZ.wb;have c0:=Pp (y.ga+1) (XJ R (ln y.ds)) zB;have ed:=U4 (y.ga+1) zB zB (XJ R (ln y.ds)) cc;have ap:=λk (hk:k<N)=>bf (ln y.ds) zB a k zB zB
      have M:∀k,k<N->G a k=if(u.getD (A+k) dd).opn=true then uf (z.ds.getD a dd) z.vw (y.ga+1) k (R a).R (XJ R (ln y.ds))else []:=λk hk=>by
       rw[cf a k,ac,zn];rfl
      have fz:=VU S G a zB;rw[VT,show(y.c.ags.getD a dd).ses.toNat=N by omega,a5,ac,zAd];have cw:=zA jC (RV y.c G a);rw[ac]at ap;clear cf cc E L ar hI zR bf bb;generalize (RV y.c G a).map jC=X,(R a).R=Ra at *;generalize dk:LW (z.ds.getD a dd) z.vw (y.ga+1)=st0 at *;generalize dn:Nh (y.ga+1) (XJ R (ln y.ds))=a9 at *;unfold uf at M;rw[dk,dn]at M;generalize z.ds.getD a dd=d1 at *;have av:(d1.au.map bA).length=N:=by rw[f7];exact cg
      generalize XJ R (ln y.ds)=eu at *;unfold zN wG at hy a8;have cb:=λk (hk:k<N)=>zJ bA d1.au k zB
      unfold zE at hy;refine WW ?_;rw[av];refine zM (N) [1051,4,5,6,29,32] [4,5,6,29,32] [1,4,5,6,9,10,24,29,32,215,216,217,222,223] [12,30,224,1,4,5,6,9,10,24,29,32,215,216,217,222,223] Z (λi T U=>⟨(12,iA ((A+i:Nat):Int))::(30,.ref 1051 0 (X++(OT G a i).map jC).length)::(224,iA i)::T,(1051,.arr 1 (X++(OT G a i).map jC) true)::U⟩) ?_;(conv=>whnf);refine⟨by(rw[show(OT G a 0).map jC=[]from Z,zA6];rfl),?_,?_⟩
      .intro k hk;have fv:((OT G a k).map jC).length=k:=by unfold OT;rw[f7,f7,zBp]
       have f0:=cb k hk;have cn:=ap k hk
       have d9:((Yh R (ln y.ds)).map jC)[A+k]? =some (jC (Ra.getD k [])):=by
        rw[zJ jC (Yh R (ln y.ds)) (A+k) zB];exact zAt (λq=>some (jC q)) cn
       have ck:(Ra.getD k []).length<=1000/\∀m∈Ra.getD k [],YE m:=by
        refine ce _ ?_;rw[zAk,zAu zB];exact zDy _
       rw[EE,zAd,show [G a k].map jC=[zE yO (G a k)]from Z,M k hk,<-zA2];have e4:(X++(OT G a k).map jC).length<=100:=by rw[zAf];omega
       clear M ap cb cn ce b6 hZ;generalize X++(OT G a k).map jC=O,d1.au.getD k dd=da,Ra.getD k []=r0 at *;by_cases hq:A+k<ln u
       .have cx:=zJ fZ u (A+k) hq;generalize u.getD (A+k) dd=x at *;obtain⟨xo,xs⟩:=x;unfold fZ at cx;unfold jC at d9;dsimp only at cx⊢;cases xo
        .rw[hW zAs]
         (repeat' (first|refine gM ?_|apply yY|apply xN|intro hc|(apply zG;first|(apply yL;refine XH 272 Z Z Z ?_;refine wQ tok Z Z ?_))|refine SB ?_|fail))
         rfl
        .rw[Os Z];have ep:=zA yO r0;have ca:=Qc (r0.map yO) zB st0 ec;have cy:=Qc (r0.map yO++[yO st0]) lw a9 ed;refine WW ?_;refine zW 35 1053 4 Z Z Z ?_;refine zU (r0) [1053,4,5,6,29,32,1051] [4,5,6,29,32,1051] [1,4,5,6,9,10,12,24,29,30,32,33,34,215,216,217,222,223,224,243,244] [35,245,1,4,5,6,9,10,12,24,29,30,32,33,34,215,216,217,222,223,224,243,244] Z (λi gd T U=>⟨(35,.ref 1053 0 (gd.map yO).length)::(245,iA i)::T,(1053,.arr 4 (gd.map yO) true)::U⟩) (Lq ?_ ?_)
         .intro i gd m post hx hi;have d5:=zY yO hx hi;have c8:=zX hx hi;have fy:=zA yO gd;have fx:ln gd<=ln r0:=by rw[hx];simp
          have km:=Qc (gd.map yO) zB m (ck.2 m (yQ hx));rw[show(gd++[m]).map yO=gd.map yO++[yO m] by simp];clear hx ca cy a8 c0;generalize gd.map yO=Y at *;unfold yO at d5 km;refine zP km ?_;rfl
         .clear ck;cases da
          .rw[show zE yO ((r0++[st0])++if false=true then [a9]else [])= .sl false (r0.map yO++[yO st0]) by simp[zE]];generalize r0.map yO=Y at*
           (have gt:=a8;have gv:=ca;(repeat' (first|refine gM ?_|apply yY|apply xN|intro hc|(apply zG;first|(apply yL;refine vR [4,5,6,29,32,1051] [1,4,5,6,9,10,12,24,29,30,32,215,216,217,222,223,224,271,272] Z ?_;(conv=>whnf);(try simp only[zAr,zAa]);refine wQ tok Z Z ?_))|refine SB ?_|fail))<;>clear gt gv)
           rfl
          .rw[show zE yO ((r0++[st0])++if true=true then [a9]else [])= .sl false ((r0.map yO++[yO st0])++[yO a9]) by simp[zE]];generalize r0.map yO=Y at*
           (have gt:=a8;have gv:=ca;have ic:=c0;have io:=cy;(repeat' (first|refine gM ?_|apply yY|apply xN|intro hc|(apply zG;first|(apply yL;refine vR [4,5,6,29,32,1051] [1,4,5,6,9,10,12,24,29,30,32,215,216,217,222,223,224,271,272] Z ?_;(conv=>whnf);(try simp only[zAr,zAa]);refine wQ tok Z Z ?_))|refine SB ?_|fail))<;>clear gt gv ic io)
           rfl
       .rw[show(u.getD (A+k) dd).opn=false by rw[zAk,zBj zB];rfl,hW zAs]
        (repeat' (first|refine gM ?_|apply yY|apply xN|intro hc|(apply zG;first|(apply yL;refine XH 272 Z Z Z ?_;refine wQ tok Z Z ?_))|refine SB ?_|fail))
        rfl
      ·(refine WW ?_)
       rfl
     .rw[b3];refine WW ?_;refine zH [] Z Z ?_ Z
      show AV.tup [_,AV.agg [.sl false (pi ((RV y.c G (ln y.c.ags)).map jC).length ((RV y.c G (ln y.c.ags)).map jC)),_]]=_
      rw[zAa];rfl
def vp (hb:BY b) (h:Kh b=some p):(1<=p.2/\p.2<=ln b)/\(ln b<=100000->Ox p.1):=by
 unfold Kh at h;split at h
 .cases h
 rename_i u;split at h
 .cases h;exact⟨⟨zAe _,by dsimp only;omega⟩,λ_=>⟨hH,zAn _,by dsimp only;omega,by dsimp only;omega⟩⟩
 split at h
 .cases h
 split at h
 .cases h;exact⟨⟨zAe _,by dsimp only;omega⟩,λ_=>⟨hH,zAn _,by dsimp only;omega,by dsimp only;omega⟩⟩
 split at h
 .cases h
 split at h
 .cases h;exact⟨⟨zAe _,by dsimp only;omega⟩,λ_=>⟨hH,zAn _,by dsimp only;omega,by dsimp only;omega⟩⟩
 split at h
 .cases h;exact⟨⟨by dsimp only;omega,by dsimp only;omega⟩,λ_=>⟨hH,zAn _,by dsimp only;omega,by dsimp only;omega⟩⟩
 split at h
 .cases h;exact⟨⟨by dsimp only;omega,by dsimp only;omega⟩,λ_=>⟨hH,zAn _,by dsimp only;omega,by dsimp only;omega⟩⟩
 .cases h;rename_i hk;refine⟨⟨by dsimp only;omega,by dsimp only;omega⟩,λhl=>⟨λx hx=>hb x (zBo (zB6 hx)),by dsimp only;rw[zA0,zBh];omega,?_,by dsimp only;omega⟩⟩;dsimp only;omega
def II:Nat->List Int->List (It×Nat)
 |0,_=>[]
 |n+1,b=>match Kh b with
  |none=>[]
  |some p=>p::II n (b.drop p.2)
def Pv {n:Nat}:∀{b:List Int},BY b->ln b<=100000->∀p∈II n b,Ox p.1:=by
 induction n with
 |zero=>intro b _ _ p u;cases u
 | succ n z=>
  intro b hb hl p u;unfold II at u;split at u
  .cases u
  .rename_i q y;have h:=vp hb y
   rcases zBx.1 u with rfl|u
   .exact h.2 hl
   .exact z (λx hx=>hb x (zBo hx)) EY p u
structure up where
 t:Nat
 g:Bool
 its:List It
def px (s:up) (p:It×Nat):Bool:=decide (p.1.code=2)&&s.g
def IJ (s:up) (p:It×Nat):up:=if px s p=true then⟨s.t+p.2,s.g,s.its⟩else⟨s.t+p.2,decide (p.1.code=2)||(decide (p.1.code=7)||decide (p.1.code=4)),s.its++[p.1]⟩
def Q7 (N:Nat) (s:up) (p:It×Nat):Bool:=!px s p&&decide (N<=ln s.its+1)
def FZ (N:Nat):List (It×Nat)->up->up
 | [],s=>s
 |p::l,s=>if Q7 N s p=true then IJ s p else FZ N l (IJ s p)
theorem FN :∀(l:List (It×Nat)) (s:up),ln s.its<N->(FZ N l s).its.length<=N
 | [],s,h=>zEq h
 | p::l,s,h=>by
  unfold FZ
  have h1:(IJ s p).its.length<=ln s.its+1:=by
   unfold IJ;split
   .dsimp only;omega
   .dsimp only;rw[zAf];simp
  split
  .omega
  .rename_i hx;refine FN l _ ?_;unfold Q7 at hx;unfold IJ;cases hc:px s p
   .rw[hc]at hx;rw[hW zAs];simp only[zD6,zAj,zAg]at hx;dsimp only;rw[zAf];simp only[zAp,zBq];omega
   .rw[Os Z];exact h
theorem Ce {Pr:It->Prop}:∀(l:List (It×Nat)) (s:up),(∀x∈s.its,Pr x)->(∀p∈l,Pr p.1)->∀x∈(FZ N l s).its,Pr x
 | [],s,h,_=>h
 | p::l,s,h,hl=>by
  have h1:∀x∈(IJ s p).its,Pr x:=by
   unfold IJ;split
   .exact h
   .intro x hx
    rcases zAy.1 hx with hx|hx
    .exact h x hx
    .rw[zA8.1 hx];exact hl p yE
  unfold FZ;split
  .exact h1
  .exact Ce l _ h1 λq u=>hl q (by simp[u])
def ox (b:List Int) (g:Bool):AV:= .agg [zE yA b,bA g]
def bT (s:Ss):Ss×In:=if s.op=true then(⟨true,false,s.bf.drop (FZ 4 (II (ln s.bf) s.bf) ⟨0,s.gb,[]⟩).t,(FZ 4 (II (ln s.bf) s.bf) ⟨0,s.gb,[]⟩).g⟩,⟨true,(if s.dr=true then [⟨15,0,[]⟩]else [])++(FZ 4 (II (ln s.bf) s.bf) ⟨0,s.gb,[]⟩).its⟩)else(s,⟨false,[]⟩)
structure C2 (s:Ss):Prop where
 y:BY s.bf
 n:s.bf.length<=256
def qp {s:Ss} (h:C2 s):C2 (bT s).1/\Ep (bT s).2:=by
 have A:=h.n;unfold bT;split
 .refine⟨⟨λx hx=>h.y x (zBo hx),by dsimp only;rw[zBh];omega⟩,?_⟩;have z:=FN (N:=4) (II (ln s.bf) s.bf) ⟨0,s.gb,[]⟩ (by show 0<4;omega);have u:=Ce (N:=4) (Pr:=Ox) (II (ln s.bf) s.bf) ⟨0,s.gb,[]⟩ (λx hx=>by cases hx) (Pv h.y zB);generalize FZ 4 (II (ln s.bf) s.bf) ⟨0,s.gb,[]⟩=r at *;refine⟨?_,λx hx=>?_⟩
  .dsimp only;rw[zAf];split
   .simp only[zAp,zBq];omega
   .simp only[zBq];omega
  .rcases zAy.1 hx with hx|hx
   .split at hx
    .rw[zA8.1 hx];exact⟨hH,zAn _,by dsimp only;omega,by dsimp only;omega⟩
    .cases hx
   .exact u x hx
 .exact⟨h,zAn _,λx hx=>by cases hx⟩
def A2 {s:Ss} (h:C2 s) {x:List Int} (hx:BY x):C2 (Ga s x):=by
 refine⟨?_,Lr h.n x⟩;unfold Ga;split
 .intro y u
  rcases zAy.1 u with u|u
  .exact h.y y u
  .exact hx y (zB6 u)
 .exact h.y
theorem AK (h:Kh b=some p) (hc:p.1.code=0):p=(⟨0,b.getD 3 0,(b.drop 6).take (TX b)⟩,TX b+10)/\TX b+10<=ln b:=by grind [Kh,TX]
theorem Ov {q:It×Nat} (h:Kh b=some q) (hc:q.1.code=0):b.getD 0 0=90/\b.getD 1 0=165/\TX b<=200/\QP ((b.drop 2).take (TX b+4))=Yf ((b.drop (TX b+6)).take 4)/\b.getD 2 0=1/\1<=b.getD 3 0/\b.getD 3 0<=22:=by
 have z:=AK h hc;unfold Kh at h;by_cases u:ln b=0
 .grind
 rw[hW u]at h;by_cases y:b.getD 0 0≠90\/(1<ln b/\b.getD 1 0≠165)
 all_goals grind
def G9 {a b c d:Int} (u:0<=a/\a<256) (hb:0<=b/\b<256) (hc:0<=c/\c<256) (hd:0<=d/\d<256):Yf [a,b,c,d]=((a*256+b)*256+c)*256+d:=by
 unfold Yf;simp only[List.foldl_cons,List.foldl_nil];rw[TP (n:=0) (x:=a) ⟨zB,zB⟩ u,TP (n:=0*256+a) (x:=b) ⟨zB,zB⟩ hb,TP (n:=(0*256+a)*256+b) (x:=c) ⟨zB,zB⟩ hc,TP (n:=((0*256+a)*256+b)*256+c) (x:=d) ⟨zB,zB⟩ hd];omega
def j3 (a c k:Nat) (hc:c<2 ^ k) (h:a*2 ^ k+c<4294967296):Cp ((a*2 ^ k:Nat):Int) (c:Int)=((a*2 ^ k+c:Nat):Int):=by
 have u:=zD3 hc a;rw[Nat.shiftLeft_eq]at u;rw[Ae (a*2 ^ k) c zB zB,<-u]
def or4 {a b c d:Int} (u:0<=a/\a<256) (hb:0<=b/\b<256) (hc:0<=c/\c<256) (hd:0<=d/\d<256):Cp (Cp (Cp (IntKind.u32.wrap (a*2 ^ (min (24:Int).toNat IntKind.u32.bits))) (IntKind.u32.wrap (b*2 ^ (min (16:Int).toNat IntKind.u32.bits)))) (IntKind.u32.wrap (c*2 ^ (min (8:Int).toNat IntKind.u32.bits)))) d=Yf [a,b,c,d]:=by
 have w:∀(x y:Int) (k:Nat),0<=x/\x<256->(2:Int) ^ k=y->0<=x*y/\x*y<4294967296->IntKind.u32.wrap (x*2 ^ k)=x*y:=λx y k _ h1 h2=>by rw[h1];exact u32_in h2
 rw[G9 u hb hc hd,w a 16777216 _ u xG zB,w b 65536 _ hb xG zB,w c 256 _ hc xG zB];obtain⟨a,rfl⟩:=zB7 u.1;obtain⟨b,rfl⟩:=zB7 hb.1;obtain⟨c,rfl⟩:=zB7 hc.1;obtain⟨d,rfl⟩:=zB7 hd.1;have s:∀(x y z:Int) (m n k:Nat),x=((m*2 ^ k:Nat):Int)->y=(n:Int)->n<2 ^ k->m*2 ^ k+n<4294967296->z=((m*2 ^ k+n:Nat):Int)->Cp x y=z:=λx y z m n k e1 A h1 h2 e3=>by rw[e1,A,e3];exact j3 m n k h1 h2
 rw[s ((a:Int)*16777216) ((b:Int)*65536) ((a:Int)*16777216+b*65536) a (b*65536) 24 zB zB zB zB zB,
  s ((a:Int)*16777216+b*65536) ((c:Int)*256) ((a:Int)*16777216+b*65536+c*256) (a*256+b) (c*256) 16 zB zB zB zB zB,
  s ((a:Int)*16777216+b*65536+c*256) (d:Int) ((a:Int)*16777216+b*65536+c*256+d) ((a*256+b)*256+c) d 8 zB zB zB zB zB]
 omega
theorem rx (l:List Int) (i:Nat) (h:i+4<=ln l):(l.drop i).take 4=[l.getD i 0,l.getD (i+1) 0,l.getD (i+2) 0,l.getD (i+3) 0]:=by apply zBe<;>grind [List.getElem?_eq_getElem]
def dp (b:List Int) (hb:BY b) (hl:ln b<=1000000) {q:It×Nat} (C:Kh b=some q) (hc:q.1.code=0):zO 216 [zE yA b] [] (.tup [cF q.1,iA q.2,bA true]) []:=by
 have M:=zA yA b;obtain⟨V,W,iN,E,X,i3,i4⟩:=Ov C hc;obtain⟨I,hn⟩:=AK C hc;rw[I];clear I C hc;obtain⟨y0,_⟩:=KS b hb 0 zB;obtain⟨y1,_⟩:=KS b hb 1 zB;obtain⟨y2,_⟩:=KS b hb 2 zB;obtain⟨y3,z3⟩:=KS b hb 3 zB;obtain⟨y4,z4⟩:=KS b hb 4 zB;obtain⟨y5,z5⟩:=KS b hb 5 zB;obtain⟨y6,z6⟩:=KS b hb (TX b+6) zB;obtain⟨y7,z7⟩:=KS b hb (TX b+7) zB;obtain⟨y8,z8⟩:=KS b hb (TX b+8) zB;obtain⟨y9,z9⟩:=KS b hb (TX b+9) zB;rw[V]at y0;rw[W]at y1;rw[X]at y2;have u:=C9 z4 z5;have B:b.getD 4 0*256+b.getD 5 0=(TX b:Int):=by unfold TX;omega
 rw[B]at u;rw[rx b (TX b+6) zB]at E;have S:=or4 z6 z7 z8 z9;have U:=Ei ((b.drop 2).take (TX b+4));have G:∀i k,BY ((b.drop i).take k):=λi k x hx=>hb x (zBo (zB6 hx))
 generalize b.getD 4 0=x4,b.getD 5 0=x5 at *;generalize hN:TX b=N at *;have A:=sa ((b.drop 2).take (N+4)) sw (G _ _);rw[E]at A
 have e1:((b.map yA).drop (2:Int).toNat).take (((N:Int)+6).toNat-(2:Int).toNat)=((b.drop 2).take (N+4)).map yA:=by
  rw[zDk,zC4,show((N:Int)+6).toNat-(2:Int).toNat=N+4 by omega];rfl
 have e3:((b.map yA).drop (6:Int).toNat).take (((N:Int)+6).toNat-(6:Int).toNat)=((b.drop 6).take N).map yA:=by
  rw[zDk,zC4,show((N:Int)+6).toNat-(6:Int).toNat=N by omega];rfl
 have R:(((b.drop 6).take N).map yA).length=N:=by rw[f7,zA0,zBh];omega
 have O:∀y,(((b.drop 6).take N).map yA)[0]? =some y->ln y.cells=1:=yG _ _ (λ_=>rfl);clear E;generalize (b.drop 2).take (N+4)=B1,(b.drop 6).take N=L at *;clear G U;generalize b.getD 3 0=Y,b.getD (N+6) 0=x6,b.getD (N+7) 0=x7,b.getD (N+8) 0=x8,b.getD (N+9) 0=x9 at *;refine eM call216 λF hF=>?_
 (repeat' (first|(apply zG;first|((apply vE;first|refine wO (aM Z Z) Z ?_|refine wO (PM Z Z) Z ?_);(try rw[u]);(try rw[S]))|refine PT ?_|(apply xJ;(first|(refine vF 261 ?_;first|refine wO (zK (A) Z Z Z Z Z) Z ?_|refine qH (zK (A) Z Z Z Z Z) Z Z Z ?_|refine bX (zK (A) Z Z Z Z Z) Z Z Z ?_)))|refine SL ?_|refine SB ?_)|refine SG (I2 (λhc=>?_) λhc=>?_)|refine SG λhc=>?_|first|refine SR ?_|refine SK (I2 (λhc=>?_) λhc=>?_)|refine SK λhc=>?_|fail))
 exact zH [] Z Z (zAt (λz=>AV.tup [.agg [iA 0,iA Y,zE yA L],iA z,bA true]) (show(N:Int)+10=((N+10:Nat):Int) by omega)) Z
theorem bp (b:List Int) (hb:BY b) (hl:ln b<=1000000):zO 216 [zE yA b] [] (Cx (Kh b)) []:=by
 by_cases u:∃q,Kh b=some q/\q.1.code=0
 .obtain⟨q,W,hc⟩:=u;rw[W];exact dp b hb hl W hc
 have ac:=zA yA b;unfold Kh at u⊢;by_cases O:ln b=0
 .rw[Os O];refine eM call216 λF hF=>?_
  exact mx
 rw[hW O]at u⊢;obtain⟨L,z0⟩:=KS b hb 0 zB;by_cases h1:b.getD 0 0=90
 case neg=>
  rw[Os (.inl h1)];generalize b.getD 0 0=x0 at *;refine eM call216 λF hF=>?_
  exact mx
 by_cases h2:1<ln b
 case neg=>
  rw[hW (λh=>h.elim (λh=>h h1) (λh=>h2 h.1)),Os zB];rw[h1]at L;refine eM call216 λF hF=>?_
  exact mx
 obtain⟨y1,z1⟩:=KS b hb 1 h2;by_cases C:b.getD 1 0=165
 case neg=>
  rw[Os (.inr ⟨h2,C⟩)];rw[h1]at L;generalize b.getD 1 0=x1 at *;refine eM call216 λF hF=>?_
  exact mx
 rw[hW (λh=>h.elim (λh=>h h1) (λh=>h.2 C))]at u⊢;rw[h1]at L;rw[C]at y1;clear z0 z1 h1 C;by_cases R:ln b<6
 .rw[Os R];refine eM call216 λF hF=>?_
  exact mx
 rw[hW R]at u⊢;obtain⟨y4,z4⟩:=KS b hb 4 zB;obtain⟨y5,z5⟩:=KS b hb 5 zB;have y:=C9 z4 z5;have G:b.getD 4 0*256+b.getD 5 0=(TX b:Int):=by unfold TX;omega
 rw[G]at y;generalize b.getD 4 0=x4,b.getD 5 0=x5 at *;generalize hN:TX b=N at *;by_cases S:200<N
 .rw[Os S];refine eM call216 λF hF=>?_
  (repeat' (first|(apply zG;first|((apply vE;refine wO (aM Z Z) Z ?_);rw[y])|refine PT ?_|(apply xJ;fail)|refine SM ?_|refine SB ?_)|refine SG (I2 (λhc=>?_) λhc=>?_)|refine SG λhc=>?_|first|refine SR ?_|refine SK (I2 (λhc=>?_) λhc=>?_)|refine SK λhc=>?_|fail))
  exact zI
 rw[hW S]at u⊢;by_cases U:ln b<N+10
 .rw[Os U];refine eM call216 λF hF=>?_
  (repeat' (first|(apply zG;first|((apply vE;refine wO (aM Z Z) Z ?_);rw[y])|refine PT ?_|(apply xJ;fail)|refine SM ?_|refine SB ?_)|refine SG (I2 (λhc=>?_) λhc=>?_)|refine SG λhc=>?_|first|refine SR ?_|refine SK (I2 (λhc=>?_) λhc=>?_)|refine SK λhc=>?_|fail))
  exact zI
 rw[hW U]at u⊢;have M:∀i k,BY ((b.drop i).take k):=λi k x hx=>hb x (zBo (zB6 hx))
 have B:=sa ((b.drop 2).take (N+4)) sw (M _ _)
 have e1:((b.map yA).drop (2:Int).toNat).take (((N:Int)+6).toNat-(2:Int).toNat)=((b.drop 2).take (N+4)).map yA:=by
  rw[zDk,zC4,show((N:Int)+6).toNat-(2:Int).toNat=N+4 by omega];rfl
 obtain⟨y6,z6⟩:=KS b hb (N+6) zB;obtain⟨y7,z7⟩:=KS b hb (N+7) zB;obtain⟨y8,z8⟩:=KS b hb (N+8) zB;obtain⟨y9,z9⟩:=KS b hb (N+9) zB;obtain⟨y2,z2⟩:=KS b hb 2 zB;obtain⟨y3,z3⟩:=KS b hb 3 zB;have I:=or4 z6 z7 z8 z9;rw[rx b (N+6) zB]at u⊢;generalize (b.drop 2).take (N+4)=B1 at *;clear M;generalize b.getD 2 0=x2,b.getD 3 0=x3,b.getD (N+6) 0=x6,b.getD (N+7) 0=x7,b.getD (N+8) 0=x8,b.getD (N+9) 0=x9,QP B1=X at *;generalize Yf [x6,x7,x8,x9]=Y at *;by_cases E:X=Y
 case neg=>
  rw[Os E];have E:Y≠X:=λh=>E h.symm
  clear u;refine eM call216 λF hF=>?_
  (repeat' (first|(apply zG;first|((apply vE;first|refine wO (aM Z Z) Z ?_|refine wO (PM Z Z) Z ?_);(try rw[y]);(try rw[I]))|refine PT ?_|(apply xJ;(first|(refine vF 261 ?_;first|refine wO (zK (B) Z Z Z Z Z) Z ?_|refine qH (zK (B) Z Z Z Z Z) Z Z Z ?_|refine bX (zK (B) Z Z Z Z Z) Z Z Z ?_)))|refine SM ?_|refine SB ?_)|refine SG (I2 (λhc=>?_) λhc=>?_)|refine SG λhc=>?_|first|refine SR ?_|refine SK (I2 (λhc=>?_) λhc=>?_)|refine SK λhc=>?_|fail))
  exact zI
 subst E;rw[hW (λh=>h Z)]at u⊢;by_cases V:x2=1
 case neg=>
  rw[Os V];clear u;refine eM call216 λF hF=>?_
  (repeat' (first|(apply zG;first|((apply vE;first|refine wO (aM Z Z) Z ?_|refine wO (PM Z Z) Z ?_);(try rw[y]);(try rw[I]))|refine PT ?_|(apply xJ;(first|(refine vF 261 ?_;first|refine wO (zK (B) Z Z Z Z Z) Z ?_|refine qH (zK (B) Z Z Z Z Z) Z Z Z ?_|refine bX (zK (B) Z Z Z Z Z) Z Z Z ?_)))|refine SM ?_|refine SB ?_)|refine SG (I2 (λhc=>?_) λhc=>?_)|refine SG λhc=>?_|first|refine SR ?_|refine SK (I2 (λhc=>?_) λhc=>?_)|refine SK λhc=>?_|fail))
  exact zH [] Z Z (zAt (λz=>AV.tup [.agg [iA 3,iA 0,.sl false []],iA z,bA true]) (show(N:Int)+10=((N+10:Nat):Int) by omega)) Z
 rw[hW (λh=>h V)]at u⊢;by_cases A:x3<1\/22<x3
 .rw[Os A];clear u
  rcases A with A|A
  all_goals
   refine eM call216 λF hF=>?_
   (repeat' (first|(apply zG;first|((apply vE;first|refine wO (aM Z Z) Z ?_|refine wO (PM Z Z) Z ?_);(try rw[y]);(try rw[I]))|refine PT ?_|(apply xJ;(first|(refine vF 261 ?_;first|refine wO (zK (B) Z Z Z Z Z) Z ?_|refine qH (zK (B) Z Z Z Z Z) Z Z Z ?_|refine bX (zK (B) Z Z Z Z Z) Z Z Z ?_)))|refine SM ?_|refine SB ?_)|refine SG (I2 (λhc=>?_) λhc=>?_)|refine SG λhc=>?_|first|refine SR ?_|refine SK (I2 (λhc=>?_) λhc=>?_)|refine SK λhc=>?_|fail))
   exact zH [] Z Z (zAt (λz=>AV.tup [.agg [iA 5,iA 0,.sl false []],iA z,bA true]) (show(N:Int)+10=((N+10:Nat):Int) by omega)) Z
 .rw[hW A]at u;exact absurd ⟨_,rfl,rfl⟩ u
def Z3 (b:List Int) (hl:ln b<=256) (g:Bool) (x:List Int) (hx:ln x<=1000000):zO 165 [ox b g,zE yA x] [] (.tup [ox (b++x.take (UO (ln b) (ln x))) g,bA (decide (UO (ln b) (ln x)=ln x))]) []:=by
 have y:=zA yA b;have u:=zA yA x;have B:UO (ln b) (ln x)<=ln x/\b.length+UO (ln b) (ln x)<=256:=by unfold UO;omega
 have e1:min ((ln x:Nat):Int) (256-((ln b:Nat):Int))=((UO (ln b) (ln x):Nat):Int):=by unfold UO;omega
 have A:zE yA (b++x.take (UO (ln b) (ln x)))= .sl false (b.map yA++(x.take (UO (ln b) (ln x))).map yA):=by unfold zE;rw[zAd]
 unfold ox;rw[A];generalize UO (ln b) (ln x)=f at *;refine eM call165 λF hF=>?_
 (repeat' (first|refine Ch ?_|apply yY|apply xN|intro hc|(apply zG;first|refine SM ?_)|fail))
 rw[y,u,e1]
 (repeat' (first|refine qU ?_|apply yY|apply xN|intro hc|(apply zG;first|(apply yI;refine xB 1001 tok Z Z Z Z Z Z (yG _ _ (λ_=>rfl)) Z Z Z zB Z Z Z ?_))|fail))
 refine zH [] Z Z ?_ Z
 show AV.tup [AV.agg [AV.sl false (pi (b.map yA++(x.take f).map yA).length (b.map yA++(x.take f).map yA)),bA g],bA (kL .eql (f:Int) ((x.map yA).length:Int))]=_
 rw[zAa,u,show kL .eql (f:Int) (ln x:Int)=decide (f=ln x) by
  by_cases z:f=ln x
  .rw[z];simp[kL]
  .have:(f:Int)≠(ln x:Int):=by omega
   simp[kL,z,this]]
def OR (s:Ss) (h:ln s.bf<=1000):zO 164 [fT s] [] (fT s) []:=by
 have hl:=zA yA s.bf;unfold fT;refine eM call164 λF hF=>?_
 refine WL ?_;refine zH [] Z Z ?_ Z;rfl
def np (s:Ss) (hl:ln s.bf<=1000):zO 100 [fT s] [] (fT (if s.op=true then s else⟨true,false,[],false⟩)) []:=by
 obtain⟨op,z,y,A⟩:=s;dsimp only at hl⊢;have u:=OR ⟨op,z,y,A⟩ hl;cases op
 .rw[hW zAs];unfold fT at *;refine eM call100 λF hF=>?_
  exact nl u
 .rw[Os Z];unfold fT at *;refine eM call100 λF hF=>?_
  exact nl u
def mp (s:Ss):zO 101 [fT s] [] (fT ⟨false,false,[],false⟩) []:=by
 unfold fT;refine eM call101 λF hF=>?_
 exact mx
def Nv (s:Ss) (hl:ln s.bf<=256) (x:List Int) (hx:ln x<=1000000):zO 102 [fT s,zE yA x] [] (fT (Ga s x)) []:=by
 obtain⟨op,A,z,C⟩:=s;dsimp only at hl;have B:=OR ⟨op,A,z,C⟩ NK;have u:=Z3 z hl C x hx;unfold Ga;dsimp only;unfold ox at u;cases op
 .rw[hW zAs];unfold fT at *;refine eM call102 λF hF=>?_
  exact nl B
 .rw[Os Z];unfold fT at *;cases y:decide (UO (ln z) (ln x)=ln x)
  .rw[y]at u;rw[zAc (zEf y),zDq];cases A
   all_goals
    refine eM call102 λF hF=>?_
    exact ng (xH B u)
  .rw[y]at u;rw[zAb (λh=>h (zD5 y)),zE5];cases A
   all_goals
    refine eM call102 λF hF=>?_
    exact ng (xH B u)
def O7 (b:List Int) (N:Nat) (R s:up) (m:Nat):Prop:=s.t<=ln b/\b.length<=m+s.t/\((ln s.its<N/\FZ N (II m (b.drop s.t)) s=R)\/(ln s.its=N/\s=R))
theorem O7.next {R s:up} {m:Nat} {p:It×Nat} (A:1<=p.2/\p.2<=ln b-s.t) (B:s.t<=ln b) (z:ln b<=m+1+s.t) (y:ln s.its<N) (u:FZ N (p::II m (b.drop (s.t+p.2))) s=R):O7 b N R (IJ s p) m:=by
 have e:(IJ s p).t=s.t+p.2:=by unfold IJ;split<;>rfl
 refine⟨zB,zB,?_⟩;unfold FZ at u;rw[e];by_cases hx:Q7 N s p=true
 .rw[Os hx]at u;refine .inr ⟨?_,u⟩;unfold Q7 at hx;simp only[zAi,zCr,zAg]at hx;unfold IJ;rw[hW (by rw[hx.1];exact zAs)]
  show(s.its++[p.1]).length=N
  rw[zAf,zCf];omega
 .rw[hW hx]at u;refine .inl ⟨?_,u⟩;unfold Q7 at hx;unfold IJ;cases hc:px s p
  .rw[hc]at hx;rw[hW zAs];simp only[zD6,zAj,zAg]at hx
   show(s.its++[p.1]).length<N
   rw[zAf,zCf];omega
  .rw[Os Z];exact y
theorem tp (b:List Int) (hb:BY b) (hl:ln b<=1000) (g:Bool) (N:Nat) (hN:1<=N/\N<=1000):zO 166 [ox b g,iA N] []
  (.tup [ox (b.drop (FZ N (II (ln b) b) ⟨0,g,[]⟩).t) (FZ N (II (ln b) b) ⟨0,g,[]⟩).g,zE cF (FZ N (II (ln b) b) ⟨0,g,[]⟩).its]) []:=by
 have ac:=zA yA b;have X:O7 b N (FZ N (II (ln b) b) ⟨0,g,[]⟩) ⟨0,g,[]⟩ (ln b):=⟨zAn _,zAe _,.inl ⟨by show 0<N;omega,rfl⟩⟩;generalize FZ N (II (ln b) b) ⟨0,g,[]⟩=R at *;unfold ox;refine eM call166 λF hF=>?_
 refine WW ?_;refine zW 6 1001 3 Z Z Z ?_;refine fH (ln b) [1001,2,4] [2,4] [1,2,4] [6,7,8,1,2,4] Z (λL T U zs=>∃(s:up) (m:Nat),(O7 b N R s m/\L=m)/\zs=⟨(6,.ref 1001 0 (s.its.map cF).length)::(7,iA s.t)::(8,bA s.g)::T,(1001,.arr 3 (s.its.map cF) true)::U⟩) ?_;(conv=>whnf);refine⟨?_,?_⟩
 .exact⟨⟨0,g,[]⟩,ln b,⟨X,rfl⟩,rfl⟩
 rintro L st ⟨s,m,⟨⟨ht,hm,hI⟩,rfl⟩,rfl⟩;have ag:=zA cF s.its
 rcases hI with⟨I,E⟩|⟨I,rfl⟩
 case inr=>
  refine WL ?_;refine zH [] Z Z ?_ Z
  show AV.tup [AV.agg [.sl false ((b.drop s.t).map yA),bA s.g],.sl false (pi (s.its.map cF).length (s.its.map cF))]=_
  rw[zAa];rfl
 have z:=bp (b.drop s.t) (λx hx=>hb x (zBo hx)) EY
 cases G:Kh (b.drop s.t)with
 | none=>
  rw[G]at z
  have O:s=R:=by
   rw[<-E]
   cases L with
   |zero=>rfl
   |succ m=>unfold II;rw[G];rfl
  subst O;unfold Cx at z;dsimp only at z;refine VR z ?_;refine zH [] Z Z ?_ Z
  show AV.tup [AV.agg [.sl false ((b.drop s.t).map yA),bA s.g],.sl false (pi (s.its.map cF).length (s.its.map cF))]=_
  rw[zAa];rfl
 | some q=>
  rw[G]at z;obtain⟨⟨q1,W⟩,_⟩:=vp (λx hx=>hb x (zBo hx)) G;rw[zBh]at W;obtain⟨m,rfl⟩:∃m,L=m+1:=⟨L-1,zB⟩;unfold II at E;rw[G]at E;dsimp only at E;rw[List.drop_drop]at E;unfold Cx at z;dsimp only at z;have C:=O7.next ⟨q1,W⟩ ht zB I E;obtain⟨⟨u,y,A⟩,n⟩:=q;dsimp only at *;have S:s.t+n<=1000:=by omega
  have M:(s.its++[(⟨u,y,A⟩:It)]).map cF=s.its.map cF++[cF ⟨u,y,A⟩]:=by simp
  clear E G;by_cases h2:u=2
  .cases V:s.g
   .have e:IJ s (⟨u,y,A⟩,n)=⟨s.t+n,true,s.its++[⟨u,y,A⟩]⟩:=by simp[IJ,px,V,h2]
    rw[e]at C;generalize s.its.map cF=Y at *;unfold cF at *;dsimp only at *;refine VR z ?_;exact⟨m,zB,⟨s.t+n,true,s.its++[⟨u,y,A⟩]⟩,m,⟨C,rfl⟩,by dsimp only;rw[M];rfl⟩
   .have e:IJ s (⟨u,y,A⟩,n)=⟨s.t+n,true,s.its⟩:=by simp[IJ,px,V,h2]
    rw[e]at C;unfold cF at z;dsimp only at *;refine VR z ?_;exact⟨m,zB,⟨s.t+n,true,s.its⟩,m,⟨C,rfl⟩,rfl⟩
  .by_cases B:u=7\/u=4
   .have e:IJ s (⟨u,y,A⟩,n)=⟨s.t+n,true,s.its++[⟨u,y,A⟩]⟩:=by
     rcases B with B|B<;>simp[IJ,px,B]
    rw[e]at C;generalize s.its.map cF=Y at *;unfold cF at *;dsimp only at*
    rcases B with B|B
    all_goals
     refine VR z ?_;exact⟨m,zB,⟨s.t+n,true,s.its++[⟨u,y,A⟩]⟩,m,⟨C,rfl⟩,by dsimp only;rw[M];rfl⟩
   .have h7:¬u=7:=λh=>B (.inl h)
    have h4:¬u=4:=λh=>B (.inr h)
    have e:IJ s (⟨u,y,A⟩,n)=⟨s.t+n,false,s.its++[⟨u,y,A⟩]⟩:=by simp[IJ,px,h2,h7,h4]
    rw[e]at C;generalize s.its.map cF=Y at *;unfold cF at *;dsimp only at *;refine VR z ?_;exact⟨m,zB,⟨s.t+n,false,s.its++[⟨u,y,A⟩]⟩,m,⟨C,rfl⟩,by dsimp only;rw[M];rfl⟩
def ip (s:Ss) (hb:BY s.bf) (hl:ln s.bf<=1000):zO 103 [fT s] [] (.tup [fT (bT s).1,fZ (bT s).2]) []:=by
 obtain⟨op,A,u,y⟩:=s;dsimp only at hb hl;have E:=OR ⟨op,A,u,y⟩ hl;have z:=tp u hb hl y 4 zB;have B:=FN (N:=4) (II (ln u) u) ⟨0,y,[]⟩ (by show 0<4;omega);unfold bT;dsimp only;generalize FZ 4 (II (ln u) u) ⟨0,y,[]⟩=r at *;have C:=zA cF r.its;unfold ox at z;cases op
 .rw[hW zAs];unfold fT at *;unfold fZ;refine eM call103 λF hF=>?_
  exact nl E
 .rw[Os Z];unfold fT at *;unfold fZ;cases A
  .rw[hW zAs,zC7];refine eM call103 λF hF=>?_
   refine zP z ?_;refine ba 27 1055 3 Z Z Z ?_;refine WW ?_;refine zH [] Z Z ?_ Z
   show AV.tup [_,AV.agg [_,AV.sl false (pi (r.its.map cF).length (r.its.map cF))]]=_
   rw[zAa];rfl
  .rw[Os Z,show zE cF ([⟨15,0,[]⟩]++r.its)= .sl false ([.agg [iA 15,iA 0,zE yA []]]++r.its.map cF) by unfold zE;rw[zAd];rfl];refine eM call103 λF hF=>?_
   (have gt:=z;(repeat' (first|refine gM ?_|apply yY|apply xN|intro hc|(apply zG;first|(apply yL;refine XH 18 Z Z Z ?_;refine wQ tok Z Z ?_))|refine SB ?_|fail))<;>clear gt)
   refine ba 17 1055 3 Z Z Z ?_
   (have gt:=z;(repeat' (first|refine qU ?_|apply yY|apply xN|intro hc|(apply zG;first|refine SM ?_)|fail))<;>clear gt)
   refine zH [] Z Z ?_ Z
   show AV.tup [_,AV.agg [_,AV.sl false (pi ([AV.agg [iA 15,iA 0,zE yA []]]++r.its.map cF).length ([AV.agg [iA 15,iA 0,zE yA []]]++r.its.map cF))]]=_
   rw[zAa];rfl
