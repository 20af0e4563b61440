/- Part 30. -/
import Derived.Test.YtaglbcjljlkjcaaGreatU29
namespace Go.Proofs.YtaglbcjljlkjcaaGreat.Av
open Tryz
set_option linter.all false
set_option maxRecDepth 4000
set_option maxHeartbeats 16000000
open List renaming length->ln,replicate->pi,take->py,getD->p5
open Inhabited renaming default->dd
variable {p:It×Nat}{b:List Int}{N:Nat}
def ux (u:List In) (z n:Nat):Wb u z n=(u.drop z).take n++pi (n-(ln u-z)) dd:=by
 unfold Wb;apply zB2;intro k;by_cases hk:k<n
 .rw[zA1,zCn hk,List.getElem?_append,zCi,zAs hk,zC1,zBi,zBr];by_cases h:z+k<ln u
  .rw[zAs zB,zBq h];simp[p5,h]
  .rw[Os zB,zC9,zAs zB];simp[p5,zB6 (Nat.le_of_not_lt h)]
 .rw[zB6 qB,zB6 qB]
def S5 (xs:List AV) (u n:Nat):(xs.drop (min (u:Int) (ln xs:Int)).toNat).take ((min ((u:Int)+(n:Int)) (ln xs:Int)).toNat-(min (u:Int) (ln xs:Int)).toNat)=(xs.drop u).take n:=by
 apply zB2;intro k;rw[zCi,zCi,zC1,zC1];by_cases h:u+k<ln xs
 .rw[show(min (u:Int) (ln xs:Int)).toNat=u by omega];by_cases hk:k<n
  .rw[zAs zB,zAs hk]
  .rw[Os zB,Os hk]
 .rw[zB6 (l:=xs) (i:=u+k) zB,zB6 (l:=xs) (i:=(min (u:Int) (ln xs:Int)).toNat+k) zB];simp
def nr (f4:Int) (u:List wC) (R:Nat->DR):PF f4 u (ln u)=eK f4 u R 0:=by
 unfold eK;apply zB2;intro j;unfold PF;rw[vS,zA1];by_cases hj:j<ln u
 .rw[zAs hj,zAs hj,zCn hj];simp
 .rw[Os hj,zB6 qB];rfl
def yj (R:Nat->DR) (i:Nat):List (List Ms):=((List.range i).map λa=>(R a).R).flatten
def LQ (R:Nat->DR) (i:Nat):yj R (i+1)=yj R i++(R i).R:=by simp[yj,zCt]
theorem ON {l:List Ag} {R:Nat->DR} (u:LX l) (h:∀a,a<ln l->(((R a).R.length:Nat):Int)=(l.getD a dd).ses):∀i,i<=ln l->((yj R i).length:Int)=jJ l i
 |0,_=>rfl
 |i+1,hi=>by
  have z:=ON u h i zB;have:=h i zB;rw[LQ,zAx]
  show _=jJ l i+(l.getD i dd).ses
  omega
theorem mr {l:List Ag} {R:Nat->DR} (u:LX l) (h:∀a,a<ln l->(((R a).R.length:Nat):Int)=(l.getD a dd).ses):∀n,n<=ln l->∀a k,a<n->k<(R a).R.length->(yj R n).getD ((jJ l a).toNat+k) []=(R a).R.getD k []
 |0,_,a,k,z,_=>absurd z (zCp _)
 |n+1,C,a,k,z,hk=>by
  have hl:=ON u h n zB;rw[LQ,zA5];by_cases h1:a=n
  .subst h1;rw[zBy zB,show(jJ l a).toNat+k-(yj R a).length=k by omega,<-zA5]
  .have B:=OU u (show a+1<=n by omega) zB;have h2:=h a zB;have E:jJ l (a+1)=jJ l a+(l.getD a dd).ses:=rfl;have A:=kG u a zB;rw[zBw zB,<-zA5];exact mr u h n zB a k zB hk
theorem lr (y:Cy) (h:LR y) (ce:LP y.ds) (hn:y.f4<1000000000) (u:List In) (fd:(ln u:Int)<=jJ y.c.ags (ln y.c.ags)) (R:Nat->DR) (M:Vj y u R) (a1:∀i,(R i).en.length<=2000) (a4:∀i,(R i).ks.length<=2000):
  zN 13 [qA y,zE uZ u] [] (.tup [qA (qW y R),Y6 (SI y.c (Xb (qW y R) u R (ln y.ds)) (ln y.c.ags)) (QI (y.f4+1) (qW y R).vw)]) []:=by
 have hb:=h.b;have n0:=h.n0;have V:=h.v.ag;have b3:=h.dl;have k1:=XK y hb;have fc:=zA uZ u;have cj:min (y.f4+1) 1073741824=y.f4+1:=by omega
 have cq:=h.rf;have eC:=cN cq;have fp:=V.1;have c3:=zA zM y.ds
 have L:∀i,i<ln y.ds->((y.ds.getD i dd).au.length:Int)=(y.c.ags.getD i dd).ses:=λi hi=>by
  have:=(h.di _ (yK y.ds i hi)).au
  rwa [h.dg i hi]at this
 have G:∀a,a<ln y.c.ags->(((R a).R.length:Nat):Int)=(y.c.ags.getD a dd).ses:=λa B=>by
  have:=(M a zB).1.rn;have h2:=L a zB;rw[show(XT (y.ds.getD a dd) (y.f4+1)).au.length=(y.ds.getD a dd).au.length from Z]at this;omega
 unfold LV LW aF at k1;rw[eC,cq]at k1;rw[eC];refine eM call13 λF hF=>?_
 refine zS k1 ?_;have c5:=zA wU y.sg;have dr:=zA wP y.sv;have cu:=zA iA y.st;have ci:=h.gl;have br:=h.sl;have bl:=h.tl;rw[cj,c5,ci,dr,br,cu,bl];have b1:∀i,(PF (y.f4+1) y.ds i).length=ln y.ds:=λi=>wT _ _ _
 have b2:∀i,((PF (y.f4+1) y.ds i).map zM).length=ln y.ds:=λi=>by rw[zAt,b1]
 have az:PF (y.f4+1) y.ds 0=y.ds:=qM _ _;rw[c3];refine zO (ln y.ds) [1011,2,4,5,6,1012,1013,1014] [2,4,5,6,1012,1013,1014] [1,2,4,5,6,53,54] [55,1,2,4,5,6,53,54] Z (λi T U=>⟨(55,iA i)::T,(1011,.arr 17 ((PF (y.f4+1) y.ds i).map zM) false)::U⟩) ?_;(conv=>whnf);refine⟨by(rw[az];rfl),?_,?_⟩
 .intro i hi
  have hy:((PF (y.f4+1) y.ds i).map zM)[i]? =some (zM (y.ds.getD i dd)):=by
   rw[zA1];unfold PF;rw[vS,zAs hi,Os (zDp i)];rfl
  have e:(PF (y.f4+1) y.ds (i+1)).map zM=((PF (y.f4+1) y.ds i).map zM).set i (zM (XT (y.ds.getD i dd) (y.f4+1))):=by unfold PF;rw[vN _ _ _ _ hi]
  have kb:=jq (h.di _ (yK y.ds i hi)) (y.f4+1);have cw:=b2 i;rw[e];clear e M az G L k1 eC;generalize XT (y.ds.getD i dd) (y.f4+1)=d2 at *;generalize y.ds.getD i dd=d1 at *;generalize (PF (y.f4+1) y.ds i).map zM=X at *;refine zS kb ?_;rfl
 .rw [nr (y.f4+1) y.ds R];refine WW ?_;have b9:∀i,((eK (y.f4+1) y.ds R i).map zM).length=ln y.ds:=λi=>by unfold eK;rw[zAt,zAt,zCd]
  refine zQ 9 1041 1 Z Z Z ?_;refine zQ 10 1042 3 Z Z Z ?_;refine zQ 11 1043 1 Z Z Z ?_;refine zO (ln y.ds) [1011,1041,1042,1043,2,4,5,6,1012,1013,1014] [2,4,5,6,1012,1013,1014] [1,2,4,5,6,70,71] [9,10,11,12,72,1,2,4,5,6,70,71] Z (λi T U=>⟨(9,.ref 1041 0 ((yj R i).map jI).length)::(10,.ref 1042 0 ((XV R i).map kF).length)::(11,.ref 1043 0 ((eO R i).map iA).length)::(12,iA (jJ y.c.ags i))::(72,iA i)::T,(1011,.arr 17 ((eK (y.f4+1) y.ds R i).map zM) false)::(1041,.arr 1 ((yj R i).map jI) true)::(1042,.arr 3 ((XV R i).map kF) true)::(1043,.arr 1 ((eO R i).map iA) true)::U⟩) (Lq ?_ ?_)
  .intro i hi;have c6:i<ln y.c.ags:=by omega
   have hy:((eK (y.f4+1) y.ds R i).map zM)[i]? =some (zM (XT (y.ds.getD i dd) (y.f4+1))):=by
    rw[zA1];unfold eK;rw[UC _ _ _ _ hi];rfl
   have e1:(eK (y.f4+1) y.ds R (i+1)).map zM=((eK (y.f4+1) y.ds R i).map zM).set i (zM (R i).d):=by
    unfold eK;rw[YQ _ _ _ _ hi,zCe]
   obtain⟨A,ap⟩:∃A:Nat,jJ y.c.ags i=(A:Int):=⟨(jJ y.c.ags i).toNat,by have:=kG V i zB;omega⟩;have dj:=kG V i zB;have er:=V.at (i:=i) zB;have L:=L i hi;have a6:jJ y.c.ags (i+1)=jJ y.c.ags i+(y.c.ags.getD i dd).ses:=rfl;have dc:=OU V (show i+1<=ln y.c.ags by omega) (zAy _);have ex:=G i c6;have eq:=ON V G i zB;have e7:=UA a1 i;have c8:=UB a4 i;have a1:=a1 i;have a4:=a4 i;have cw:=b9 i;have fj:=zA jI (yj R i);have fl:=zA kF (XV R i);have fo:=zA iA (eO R i);have e8:=zA jI (R i).R;have fa:=zA kF (R i).en;have fb:=zA iA (R i).ks
   have ck:wj y.c u i=(u.drop A).take (y.ds.getD i dd).au.length++pi ((y.ds.getD i dd).au.length-(ln u-A)) dd:=by
    unfold wj;rw[ap,show(y.c.ags.getD i dd).ses.toNat=(y.ds.getD i dd).au.length by omega,zBh,ux]
   have kt:=(M i hi).2.2 _ _ ck;clear ck;have c2:(XT (y.ds.getD i dd) (y.f4+1)).au=(y.ds.getD i dd).au:=rfl;rw[<-c2]at L kt;have ax:=zA bA (XT (y.ds.getD i dd) (y.f4+1)).au;rw[<-ax]at L kt;have cr:=S5 (u.map uZ) A ((XT (y.ds.getD i dd) (y.f4+1)).au.map bA).length;rw[show(((u.map uZ).drop A).take ((XT (y.ds.getD i dd) (y.f4+1)).au.map bA).length)=((u.drop A).take ((XT (y.ds.getD i dd) (y.f4+1)).au.map bA).length).map uZ by rw[zD7,zDo]]at cr;rw[e1,LQ,OS,OT,a6,ap,<-L,zA0,zA0,zA0];unfold Gj qw wH at kt;clear e1 M G az b1 b2 k1 eC b9 ax a6 dc;generalize (u.drop A).take ((XT (y.ds.getD i dd) (y.f4+1)).au.map bA).length=ow at *;generalize XT (y.ds.getD i dd) (y.f4+1)=d1 at *;generalize (eK (y.f4+1) y.ds R i).map zM=X,(yj R i).map jI=X1,(XV R i).map kF=X2,(eO R i).map iA=X3,(R i).R=r1,(R i).en=r2,(R i).ks=r3,(R i).d=d2 at *;unfold zM xD at kt hy;refine zS kt ?_;rfl
  .have a5:∀x∈eO R (ln y.ds),0<=x/\x<(ln y.c.js:Int):=λx E=>by
    obtain⟨a,B,E⟩:=fe E;exact(M a B).1.ks x E
   have c8:=UB a4 (ln y.ds);have c7:=zA wD y.c.js;have fi:=zA iA (eO R (ln y.ds));have em:(eO R (ln y.ds)).length<=10000:=by omega
   refine WW ?_;refine wJ [2,4,5,6,1012,1013,1014] [1,2,4,5,6,9,10,121,122,123] Z ?_
   (conv=>whnf)
   simp only[zBf,zAv];rw[zA2 (l:=(eK (y.f4+1) y.ds R (ln y.ds)).map zM) (zCz (b9 _))];clear k1 az b1 b2;refine zU ((eO R (ln y.ds))) [1012,2,4,5,6,1013,1014] [2,4,5,6,1013,1014] [1,2,4,5,6,9,10,121,122] [123,1,2,4,5,6,9,10,121,122] Z (λi ga T U=>⟨(123,iA i)::T,(1012,.arr 5 ((cM y.c y.sg ga).map wU) false)::U⟩) (Lq ?_ ?_)
   .intro i ga x post E hi;have hy:=yJ iA E hi;have db:=zW E hi;have ca:=a5 x (xA E);obtain⟨g1,g2⟩:=OP h.v (sv:=y.sv) (f4:=y.f4) ga y.sg h.gl h.j;have J:=h.v.jv _ (yK y.c.js x.toNat zB);have C:=(g2 x.toNat zB).c;have hJ:=J.n;have hC:=C.n;have hM:=C.m;have kr:=Uh (y.c.js.getD x.toNat dd) J ((cM y.c y.sg ga).getD x.toNat dd) zB zB;have d4:=yE wD y.c.js x ca.1 ca.2;have d3:=yE wU (cM y.c y.sg ga) x ca.1 zB;have ej:=zA wU (cM y.c y.sg ga);rw[EY,zCe];clear E a5 M J C g2 eC;generalize (cM y.c y.sg ga).getD x.toNat dd=s,y.c.js.getD x.toNat dd=j at *;generalize cM y.c y.sg ga=X at *;generalize X.map wU=Y at *;refine zS kr ?_;rfl
   .obtain ⟨g1,g2⟩:=OP h.v (sv:=y.sv) (f4:=y.f4) (eO R (ln y.ds)) y.sg h.gl h.j;have hC:=SJ;have bu:∀D,ZH D (cM y.c y.sg (eO R (ln y.ds))) 0=cM y.c y.sg (eO R (ln y.ds)):=λD=>qM _ _
    have b0:∀D,ZI D y.sv 0=y.sv:=λD=>qM _ _
    have bx:XW y.st 0=y.st:=qM _ _;have a2:∀D i,((ZH D (cM y.c y.sg (eO R (ln y.ds))) i).map wU).length=ln y.c.js:=λD i=>by unfold ZH;rw[zAt,wT];exact g1
    have a8:∀D i,((ZI D y.sv i).map wP).length=ln y.c.js:=λD i=>by unfold ZI;rw[zAt,wT];exact br
    have a3:∀i,((XW y.st i).map iA).length=ln y.c.js:=λi=>by unfold XW;rw[zAt,wT];exact bl
    have a7:∀D i,((KU y.c.js D i).map vG).length=i:=λD i=>by simp[KU]
    have ac:∀d∈eK (y.f4+1) y.ds R (ln y.ds),qD y.c d:=λd hd=>by
     obtain⟨a,B,rfl⟩:=YO hd;exact(M a B).1.i
    have b7:∀d∈eK (y.f4+1) y.ds R (ln y.ds),KV (y.f4+1) d.rq:=λd hd=>by
     obtain⟨a,B,rfl⟩:=YO hd;refine(M a B).1.sc ?_;exact KV.of zB ((h.sc _ (yK y.ds a B)).mono zB) (Yb _ _)
    have bz:LP (eK (y.f4+1) y.ds R (ln y.ds)):=λa B=>by
     rw[fX]at B;rw[aE B,(M a B).1.num];exact ce a B
    have eh:(eK (y.f4+1) y.ds R (ln y.ds)).length<=4:=by rw[fX];omega
    have b5:∀d∈eK (y.f4+1) y.ds R (ln y.ds),∀r∈d.rq,kV [] r.legs=true:=λd hd r hr=>by
     have:=((ac d hd).v.ok r hr).lg;unfold AK at this;rw[zA4]at this;exact this.2
    have ff:=h.v.j;refine WW ?_;refine zQ 24 1015 4 Z Z Z ?_;rw[c7];refine zO (ln y.c.js) [1012,1013,1014,1015,2,4,5,6] [2,4,5,6] [1,2,4,5,6,9,10,150,151] [24,152,1,2,4,5,6,9,10,150,151] Z (λi T U=>⟨(24,.ref 1015 0 ((KU y.c.js (eJ y R) i).map vG).length)::(152,iA i)::T,(1012,.arr 5 ((ZH (eJ y R) (cM y.c y.sg (eO R (ln y.ds))) i).map wU) false)::(1013,.arr 3 ((ZI (eJ y R) y.sv i).map wP) false)::(1014,.arr 1 ((XW y.st i).map iA) false)::(1015,.arr 4 ((KU y.c.js (eJ y R) i).map vG) true)::U⟩) ?_;(conv=>whnf);refine⟨by(rw[bu,b0,bx];rfl),?_,?_⟩
    .intro i hi;have d4:=zJ wD y.c.js i hi;have d3:((ZH (eJ y R) (cM y.c y.sg (eO R (ln y.ds))) i).map wU)[i]? =some (wU ((cM y.c y.sg (eO R (ln y.ds))).getD i dd)):=by rw[zA1];unfold ZH;rw[vS,zAs zB,Os (zDp i)];rfl
     have fz:((ZI (eJ y R) y.sv i).map wP)[i]? =some (wP (y.sv.getD i dd)):=by rw[zA1];unfold ZI;rw[vS,zAs zB,Os (zDp i)];rfl
     have fy:((XW y.st i).map iA)[i]? =some (iA (y.st.getD i dd)):=by rw[zA1];unfold XW;rw[vS,zAs zB,Os (zDp i)];rfl
     have eg:(ZH (eJ y R) (cM y.c y.sg (eO R (ln y.ds))) (i+1)).map wU=((ZH (eJ y R) (cM y.c y.sg (eO R (ln y.ds))) i).map wU).set i (wU (eJ y R i).1):=by unfold ZH;rw[vN _ _ _ _ zB]
     have ev:(ZI (eJ y R) y.sv (i+1)).map wP=((ZI (eJ y R) y.sv i).map wP).set i (wP (eJ y R i).2):=by unfold ZI;rw[vN _ _ _ _ zB]
     have ek:(XW y.st (i+1)).map iA=((XW y.st i).map iA).set i (iA (-1)):=by unfold XW;rw[vN _ _ _ _ zB]
     have ew:(KU y.c.js (eJ y R) (i+1)).map vG=(KU y.c.js (eJ y R) i).map vG++[vG (XL (y.c.js.getD i dd) (eJ y R i).1 (eJ y R i).2)]:=by simp[KU,zCt]
     have J:=h.v.jv _ (yK y.c.js i hi);have H:=g2 i hi;have cl:(jK (i:Int) (eK (y.f4+1) y.ds R (ln y.ds))).length<=4*(eK (y.f4+1) y.ds R (ln y.ds)).length:=hC i _ λd hd=>(ac d hd).v.n4
     have cm:=DF (j:=(i:Int)) ac (f4:=y.f4+1) zB b7;have hp:=h.v.p;have e6:=h.v.cp;have e0:=J.n;have ez:=H.n;have He:∀e∈(y.sv.getD i dd).en,-1<=e/\e<=y.f4+1:=λe he=>by have:=H.e e he;omega
     have HD:Lr y.c (y.sv.getD i dd) (jK (i:Int) (eK (y.f4+1) y.ds R (ln y.ds))) (y.f4+1):=⟨hp.1,zB,zB,zB,zB,He,λx E=>(cm x E).1,λx E=>(cm x E).2,zB,zB⟩
     have kd:zN 58 [wH y.c,wD (y.c.js.getD i dd),wU ((cM y.c y.sg (eO R (ln y.ds))).getD i dd),wP (y.sv.getD i dd),zE kD (jK (i:Int) (eK (y.f4+1) y.ds R (ln y.ds))),iA (y.st.getD i dd),iA (y.f4+1)] [] (.tup [wU (eJ y R i).1,wP (eJ y R i).2]) []:=
      jr y.c _ J _ H.c _ _ _ (y.f4+1) HD (by have:=Vb y.c (y.sv.getD i dd) (jK (i:Int) (eK (y.f4+1) y.ds R (ln y.ds))) (y.f4+1) H.g;omega)
     have ko:=Mj (y.c.js.getD i dd) J (eJ y R i).1 (Iz J H.c _ _ _ _ _) (eJ y R i).2;have kc:=Oa y.c false (y.f4+1) (eK (y.f4+1) y.ds R (ln y.ds)) i zB (λd hd=>(ac d hd).bd) b5 bz ((ZH (eJ y R) (cM y.c y.sg (eO R (ln y.ds))) i).map wU) ((ZI (eJ y R) y.sv i).map wP) ((XW y.st i).map iA) (ln y.c.js) (ln y.c.js) (ln y.c.js) y.vw;have ei:=a2 (eJ y R) i;have et:=a8 (eJ y R) i;have el:=a3 i;have es:=a7 (eJ y R) i;rw[eg,ev,ek,ew];clear eg ev ek ew bu b0 bx HD cm hC a2 a8 a3 a7 g2 H J eC M ac b7 bz b5 He a5;generalize (ZH (eJ y R) (cM y.c y.sg (eO R (ln y.ds))) i).map wU=X,(ZI (eJ y R) y.sv i).map wP=Y,(XW y.st i).map iA=Z',(KU y.c.js (eJ y R) i).map vG=W,eJ y R i=p at *;generalize XL (y.c.js.getD i dd) p.1 p.2=w at *;generalize jK (i:Int) (eK (y.f4+1) y.ds R (ln y.ds))=l,(cM y.c y.sg (eO R (ln y.ds))).getD i dd=s,y.sv.getD i dd=v,y.st.getD i dd=k,y.c.js.getD i dd=j at *;unfold aF at kc;unfold wH at kd
     (have gd:=kd;have gn:=ko;(repeat' (first|refine jZ ?_|apply yW|apply xH|intro hc|(apply zG;first|(refine vH 39 ?_;refine wM (DE (zL kc Z Z Z Z Z) Z Z) Z ?_)|(apply yH;refine vD tok Z Z ?_))|refine SB ?_|fail))<;>clear gd gn)
     rfl
    .have l4:=a2 (eJ y R) (ln y.c.js);have l5:=a8 (eJ y R) (ln y.c.js);have l6:=a3 (ln y.c.js);have l7:=a7 (eJ y R) (ln y.c.js);refine wJ [4,5,6] [1,4,5,6,9,10,24,151,152] Z ?_
     (conv=>whnf)
     simp only[zBf,zAv];rw[zA2 (l:=(ZH (eJ y R) (cM y.c y.sg (eO R (ln y.ds))) (ln y.c.js)).map wU) (zCz l4),zA2 (l:=(ZI (eJ y R) y.sv (ln y.c.js)).map wP) (zCz l5),zA2 (l:=(XW y.st (ln y.c.js)).map iA) (zCz l6)];have hZ:=EZ h M;have zn:(qW y R).f4=y.f4+1:=rfl;have zd:(qW y R).ds.length=ln y.ds:=fX ..;have zR:∀a,a<ln y.ds->(qW y R).ds.getD a dd=(R a).d:=λa B=>aE B
     have eT:qA (qW y R)= .agg [zE wD y.c.js,zE uF y.c.ags,iA y.c.per,iA y.c.cap,iA y.c.hold,iA y.c.lock,bA false,iA (y.f4+1),.sl false ((qW y R).ds.map zM),.sl false ((qW y R).sg.map wU),.sl false ((qW y R).sv.map wP),.sl false ((qW y R).st.map iA),.sl false ((qW y R).vw.map vG)]:=rfl;have cv:(qW y R).vw.length<=4:=by have:=hZ.wl;have:=hZ.v.j;omega
     have kf:=vx (y.f4+1) (qW y R).vw zB hZ.wb;have kv:=wx (QI (y.f4+1) (qW y R).vw) (yz _ _ zB zB cv hZ.wb)
     have cg:∀a k,Xb (qW y R) u R (ln y.ds) a k=if(u.getD ((jJ y.c.ags a).toNat+k) dd).opn=true then Og ((qW y R).ds.getD a dd) (qW y R).vw (qW y R).f4 k (R a).R (XV R (ln y.ds))else []:=λ_ _=>rfl
     have cd:∀e∈XV R (ln y.ds),Ij e:=λe he=>by
      obtain⟨a,B,he⟩:=IX he;exact(M a B).1.en e he
     have ey:=UA a1 (ln y.ds);rw[show eK (y.f4+1) y.ds R (ln y.ds)=(qW y R).ds from Z,show ZH (eJ y R) (cM y.c y.sg (eO R (ln y.ds))) (ln y.c.js)=(qW y R).sg from Z,show ZI (eJ y R) y.sv (ln y.c.js)=(qW y R).sv from Z,show XW y.st (ln y.c.js)=(qW y R).st from Z,show KU y.c.js (eJ y R) (ln y.c.js)=(qW y R).vw from Z,eT,show∀T f,Y6 T f= .agg [.sl false (T.map jI),zE zX [f]]from λ_ _=>rfl];have bf:=mr V G;have bk:=ON V G (ln y.c.ags) (zAy _);rw[<-b3]at bk;clear bu b0 bx a2 a8 a3 a7 ac b7 bz b5 hC g1 g2 l4 l5 l6 l7 a5 eC eT;generalize Xb (qW y R) u R (ln y.ds)=I at *;generalize qW y R=z at *;generalize c4:QI (y.f4+1) z.vw=fm at *;clear c4;unfold zE at kf;refine yF (xQ kf kv) ?_;refine zQ 30 1051 1 Z Z Z ?_;have eb:=zA zM z.ds;rw[eb,zd];clear kf kv;refine zO (ln y.ds) [1051,4,5,6,29] [4,5,6,29] [1,4,5,6,9,10,24,29,215,216] [12,30,217,1,4,5,6,9,10,24,29,215,216] Z (λi T U=>⟨(12,iA (jJ y.c.ags i))::(30,.ref 1051 0 ((SI y.c I i).map jI).length)::(217,iA i)::T,(1051,.arr 1 ((SI y.c I i).map jI) true)::U⟩) (Lq ?_ ?_)
     .intro a B;have b4:a<ln y.ds:=B;obtain⟨A,ap⟩:∃A:Nat,jJ y.c.ags a=(A:Int):=⟨(jJ y.c.ags a).toNat,by have:=kG V a zB;omega⟩;obtain⟨N,hN⟩:∃N:Nat,(y.c.ags.getD a dd).ses=(N:Int):=⟨(y.c.ags.getD a dd).ses.toNat,by have:=V.at (i:=a) zB;omega⟩;have e2:=V.at (i:=a) zB;have dj:=kG V a zB
      have a6:jJ y.c.ags (a+1)=((A+N:Nat):Int):=by
       show jJ y.c.ags a+(y.c.ags.getD a dd).ses=_
       omega
      have e5:A+N<=(yj R (ln y.ds)).length:=by
       have:=OU V (show a+1<=ln y.c.ags by omega) (zAy _);rw[b3]at bk⊢;omega
      have av:=(M a b4).1;have hI:=hZ.di _ (yK z.ds a zB);have bb:=hI.au;rw[hZ.dg a zB]at bb;have ea:=zR a b4;have cf:=av.rv;have ef:=G a zB;have hy:=zJ zM z.ds a zB;have b6:=hI.a.q
      have ch:(z.ds.getD a dd).au.length=N:=by
       have:=av.i.au;rw[av.ag]at this;have e9:=h.dg a b4;rw[show(XT (y.ds.getD a dd) (y.f4+1)).rg.ag=(y.ds.getD a dd).rg.ag from Z,e9]at this;rw[ea];omega
      have a9:=Qi (z.ds.getD a dd) hI.bd b6 z.vw (y.f4+1) zB hZ.wb;have ec:=px (z.ds.getD a dd) b6 z.vw (y.f4+1) zB zB cv hZ.wb;have c1:=qr (y.f4+1) (XV R (ln y.ds)) zB;have ed:=Z6 (y.f4+1) zB zB (XV R (ln y.ds)) cd;have ar:=λk (hk:k<N)=>bf (ln y.ds) zB a k zB zB
      have S:∀k,k<N->I a k=if(u.getD (A+k) dd).opn=true then Og (z.ds.getD a dd) z.vw (y.f4+1) k (R a).R (XV R (ln y.ds))else []:=λk hk=>by
       rw[cg a k,ap,zn];rfl
      have fv:=VZ V I a zB;rw[VY,show(y.c.ags.getD a dd).ses.toNat=N by omega,a6,ap,zA0];have cw:=zA jI (SI y.c I a);rw[ap]at ar;clear cg cd G M av hI zR bf bb;generalize (SI y.c I a).map jI=X,(R a).R=Ra at *;generalize dk:KS (z.ds.getD a dd) z.vw (y.f4+1)=st0 at *;generalize dn:xj (y.f4+1) (XV R (ln y.ds))=ba at *;unfold Og at S;rw[dk,dn]at S;generalize z.ds.getD a dd=d1 at *;have ax:(d1.au.map bA).length=N:=by rw[zAt];exact ch
      generalize XV R (ln y.ds)=eu at *;unfold zM xD at hy a9;have cc:=λk (hk:k<N)=>zJ bA d1.au k zB
      unfold zE at hy;refine WW ?_;rw[ax];refine zO (N) [1051,4,5,6,29,32] [4,5,6,29,32] [1,4,5,6,9,10,24,29,32,215,216,217,222,223] [12,30,224,1,4,5,6,9,10,24,29,32,215,216,217,222,223] Z (λi T U=>⟨(12,iA ((A+i:Nat):Int))::(30,.ref 1051 0 (X++(OQ I a i).map jI).length)::(224,iA i)::T,(1051,.arr 1 (X++(OQ I a i).map jI) true)::U⟩) ?_;(conv=>whnf);refine⟨by(rw[show(OQ I a 0).map jI=[]from Z,zBo];rfl),?_,?_⟩
      .intro k hk;have fq:((OQ I a k).map jI).length=k:=by unfold OQ;rw[zAt,zAt,zCd]
       have fx:=cc k hk;have co:=ar k hk
       have d9:((yj R (ln y.ds)).map jI)[A+k]? =some (jI (Ra.getD k [])):=by
        rw[zJ jI (yj R (ln y.ds)) (A+k) zB];exact zBd (λq=>some (jI q)) co
       have cn:(Ra.getD k []).length<=1000/\∀m∈Ra.getD k [],YP m:=by
        refine cf _ ?_;rw[zA5,zBq zB];exact zEn _
       rw[DA,zA0,show [I a k].map jI=[zE zX (I a k)]from Z,S k hk,<-zBl];have e4:(X++(OQ I a k).map jI).length<=100:=by rw[zAx];omega
       clear S ar cc co cf b6 hZ;generalize X++(OQ I a k).map jI=O,d1.au.getD k dd=da,Ra.getD k []=r0 at *;by_cases hq:A+k<ln u
       .have cx:=zJ uZ u (A+k) hq;generalize u.getD (A+k) dd=x at *;obtain⟨xo,xs⟩:=x;unfold uZ at cx;unfold jI at d9;dsimp only at cx⊢;cases xo
        .rw[Os zA9]
         (repeat' (first|refine jZ ?_|apply yW|apply xH|intro hc|(apply zG;first|(apply yH;refine ZX 272 Z Z Z ?_;refine vD tok Z Z ?_))|refine SB ?_|fail))
         rfl
        .rw[zAs Z];have ep:=zA zX r0;have cb:=we (r0.map zX) zB st0 ec;have c0:=we (r0.map zX++[zX st0]) Px ba ed;refine WW ?_;refine zQ 35 1053 4 Z Z Z ?_;refine zU (r0) [1053,4,5,6,29,32,1051] [4,5,6,29,32,1051] [1,4,5,6,9,10,12,24,29,30,32,33,34,215,216,217,222,223,224,243,244] [35,245,1,4,5,6,9,10,12,24,29,30,32,33,34,215,216,217,222,223,224,243,244] Z (λi ga T U=>⟨(35,.ref 1053 0 (ga.map zX).length)::(245,iA i)::T,(1053,.arr 4 (ga.map zX) true)::U⟩) (Lq ?_ ?_)
         .intro i ga m post E hi;have d5:=yJ zX E hi;have db:=zW E hi;have ft:=zA zX ga;have fr:ln ga<=ln r0:=by rw[E];simp
          have km:=we (ga.map zX) zB m (cn.2 m (xA E));rw[show(ga++[m]).map zX=ga.map zX++[zX m] by simp];clear E cb c0 a9 c1;generalize ga.map zX=Y at *;unfold zX at d5 km;refine zS km ?_;rfl
         .clear cn;cases da
          .rw[show zE zX ((r0++[st0])++if false=true then [ba]else [])= .sl false (r0.map zX++[zX st0]) by simp[zE]];generalize r0.map zX=Y at*
           (have gd:=a9;have gn:=cb;(repeat' (first|refine jZ ?_|apply yW|apply xH|intro hc|(apply zG;first|(apply yH;refine vV [4,5,6,29,32,1051] [1,4,5,6,9,10,12,24,29,30,32,215,216,217,222,223,224,271,272] Z ?_;(conv=>whnf);(try simp only[zBf,zAv]);refine vD tok Z Z ?_))|refine SB ?_|fail))<;>clear gd gn)
           rfl
          .rw[show zE zX ((r0++[st0])++if true=true then [ba]else [])= .sl false ((r0.map zX++[zX st0])++[zX ba]) by simp[zE]];generalize r0.map zX=Y at*
           (have gd:=a9;have gn:=cb;have gt:=c1;have gv:=c0;(repeat' (first|refine jZ ?_|apply yW|apply xH|intro hc|(apply zG;first|(apply yH;refine vV [4,5,6,29,32,1051] [1,4,5,6,9,10,12,24,29,30,32,215,216,217,222,223,224,271,272] Z ?_;(conv=>whnf);(try simp only[zBf,zAv]);refine vD tok Z Z ?_))|refine SB ?_|fail))<;>clear gd gn gt gv)
           rfl
       .rw[show(u.getD (A+k) dd).opn=false by rw[zA5,zB6 zB];rfl,Os zA9]
        (repeat' (first|refine jZ ?_|apply yW|apply xH|intro hc|(apply zG;first|(apply yH;refine ZX 272 Z Z Z ?_;refine vD tok Z Z ?_))|refine SB ?_|fail))
        rfl
      ·(refine WW ?_)
       rfl
     .rw[b3];refine WW ?_;refine zI [] Z Z ?_ Z
      show AV.tup [_,AV.agg [.sl false (py ((SI y.c I (ln y.c.ags)).map jI).length ((SI y.c I (ln y.c.ags)).map jI)),_]]=_
      rw[zAv];rfl
def sr (hb:BY b) (h:qj b=some p):(1<=p.2/\p.2<=ln b)/\(ln b<=100000->Ls p.1):=by
 unfold qj at h;split at h
 .cases h
 rename_i z;split at h
 .cases h;exact⟨⟨zAy _,by dsimp only;omega⟩,λ_=>⟨jV,zBb _,by dsimp only;omega,by dsimp only;omega⟩⟩
 split at h
 .cases h
 split at h
 .cases h;exact⟨⟨zAy _,by dsimp only;omega⟩,λ_=>⟨jV,zBb _,by dsimp only;omega,by dsimp only;omega⟩⟩
 split at h
 .cases h
 split at h
 .cases h;exact⟨⟨zAy _,by dsimp only;omega⟩,λ_=>⟨jV,zBb _,by dsimp only;omega,by dsimp only;omega⟩⟩
 split at h
 .cases h;exact⟨⟨by dsimp only;omega,by dsimp only;omega⟩,λ_=>⟨jV,zBb _,by dsimp only;omega,by dsimp only;omega⟩⟩
 split at h
 .cases h;exact⟨⟨by dsimp only;omega,by dsimp only;omega⟩,λ_=>⟨jV,zBb _,by dsimp only;omega,by dsimp only;omega⟩⟩
 .cases h;rename_i hk;refine⟨⟨by dsimp only;omega,by dsimp only;omega⟩,λhl=>⟨λx u=>hb x (zB1 (zCr u)),by dsimp only;rw[zBi,zBr];omega,?_,by dsimp only;omega⟩⟩;dsimp only;omega
def IV:Nat->List Int->List (It×Nat)
 |0,_=>[]
 |n+1,b=>match qj b with
  |none=>[]
  |some p=>p::IV n (b.drop p.2)
def qx {n:Nat}:∀{b:List Int},BY b->ln b<=100000->∀p∈IV n b,Ls p.1:=by
 induction n with
 |zero=>intro b _ _ p u;cases u
 | succ n B=>
  intro b hb hl p u;unfold IV at u;split at u
  .cases u
  .rename_i q z;have h:=sr hb z
   rcases zCh.1 u with rfl|u
   .exact h.2 hl
   .exact B (λx A=>hb x (zB1 A)) CF p u
structure tr where
 t:Nat
 g:Bool
 its:List It
def Iy (s:tr) (p:It×Nat):Bool:=decide (p.1.code=2)&&s.g
def IW (s:tr) (p:It×Nat):tr:=if Iy s p=true then⟨s.t+p.2,s.g,s.its⟩else⟨s.t+p.2,decide (p.1.code=2)||(decide (p.1.code=7)||decide (p.1.code=4)),s.its++[p.1]⟩
def B8 (N:Nat) (s:tr) (p:It×Nat):Bool:=!Iy s p&&decide (N<=ln s.its+1)
def EV (N:Nat):List (It×Nat)->tr->tr
 | [],s=>s
 |p::l,s=>if B8 N s p=true then IW s p else EV N l (IW s p)
theorem EH :∀(l:List (It×Nat)) (s:tr),ln s.its<N->(EV N l s).its.length<=N
 | [],s,h=>zFg h
 | p::l,s,h=>by
  unfold EV
  have h1:(IW s p).its.length<=ln s.its+1:=by
   unfold IW;split
   .dsimp only;omega
   .dsimp only;rw[zAx];simp
  split
  .omega
  .rename_i u;refine EH l _ ?_;unfold B8 at u;unfold IW;cases hc:Iy s p
   .rw[hc]at u;rw[Os zA9];simp only[zEr,zA3,zAz]at u;dsimp only;rw[zAx];simp only[zA8,zBz];omega
   .rw[zAs Z];exact h
theorem Ug {Pr:It->Prop}:∀(l:List (It×Nat)) (s:tr),(∀x∈s.its,Pr x)->(∀p∈l,Pr p.1)->∀x∈(EV N l s).its,Pr x
 | [],s,h,_=>h
 | p::l,s,h,hl=>by
  have h1:∀x∈(IW s p).its,Pr x:=by
   unfold IW;split
   .exact h
   .intro x u
    rcases zBe.1 u with u|u
    .exact h x u
    .rw[zBm.1 u];exact hl p zV
  unfold EV;split
  .exact h1
  .exact Ug l _ h1 λq z=>hl q (by simp[z])
def Hy (b:List Int) (g:Bool):AV:= .agg [zE yA b,bA g]
def aC (s:Ss):Ss×In:=if s.op=true then(⟨true,false,s.bf.drop (EV 4 (IV (ln s.bf) s.bf) ⟨0,s.gb,[]⟩).t,(EV 4 (IV (ln s.bf) s.bf) ⟨0,s.gb,[]⟩).g⟩,⟨true,(if s.dr=true then [⟨15,0,[]⟩]else [])++(EV 4 (IV (ln s.bf) s.bf) ⟨0,s.gb,[]⟩).its⟩)else(s,⟨false,[]⟩)
structure R5 (s:Ss):Prop where
 y:BY s.bf
 n:s.bf.length<=256
def Zr {s:Ss} (h:R5 s):R5 (aC s).1/\Ja (aC s).2:=by
 have B:=h.n;unfold aC;split
 .refine⟨⟨λx u=>h.y x (zB1 u),by dsimp only;rw[zBr];omega⟩,?_⟩;have A:=EH (N:=4) (IV (ln s.bf) s.bf) ⟨0,s.gb,[]⟩ (by show 0<4;omega);have z:=Ug (N:=4) (Pr:=Ls) (IV (ln s.bf) s.bf) ⟨0,s.gb,[]⟩ (λx u=>by cases u) (qx h.y zB);generalize EV 4 (IV (ln s.bf) s.bf) ⟨0,s.gb,[]⟩=r at *;refine⟨?_,λx u=>?_⟩
  .dsimp only;rw[zAx];split
   .simp only[zA8,zBz];omega
   .simp only[zBz];omega
  .rcases zBe.1 u with u|u
   .split at u
    .rw[zBm.1 u];exact⟨jV,zBb _,by dsimp only;omega,by dsimp only;omega⟩
    .cases u
   .exact z x u
 .exact⟨h,zBb _,λx u=>by cases u⟩
def Q5 {s:Ss} (h:R5 s) {x:List Int} (z:BY x):R5 (Ab s x):=by
 refine⟨?_,Mt h.n x⟩;unfold Ab;split
 .intro y u
  rcases zBe.1 u with u|u
  .exact h.y y u
  .exact z y (zCr u)
 .exact h.y
theorem Ma (h:qj b=some p) (hc:p.1.code=0):p=(⟨0,b.getD 3 0,(b.drop 6).take (SO b)⟩,SO b+10)/\SO b+10<=ln b:=by grind [qj,SO]
theorem jx {q:It×Nat} (h:qj b=some q) (hc:q.1.code=0):b.getD 0 0=90/\b.getD 1 0=165/\SO b<=200/\QJ ((b.drop 2).take (SO b+4))=Eg ((b.drop (SO b+6)).take 4)/\b.getD 2 0=1/\1<=b.getD 3 0/\b.getD 3 0<=22:=by
 have A:=Ma h hc;unfold qj at h;by_cases u:ln b=0
 .grind
 rw[Os u]at h;by_cases z:b.getD 0 0≠90\/(1<ln b/\b.getD 1 0≠165)
 all_goals grind
def zAr {a b c d:Int} (u:0<=a/\a<256) (hb:0<=b/\b<256) (hc:0<=c/\c<256) (hd:0<=d/\d<256):Eg [a,b,c,d]=((a*256+b)*256+c)*256+d:=by
 unfold Eg;simp only[List.foldl_cons,List.foldl_nil];rw[SA (n:=0) (x:=a) ⟨zB,zB⟩ u,SA (n:=0*256+a) (x:=b) ⟨zB,zB⟩ hb,SA (n:=(0*256+a)*256+b) (x:=c) ⟨zB,zB⟩ hc,SA (n:=((0*256+a)*256+b)*256+c) (x:=d) ⟨zB,zB⟩ hd];omega
def P5 (a c k:Nat) (hc:c<2 ^ k) (h:a*2 ^ k+c<4294967296):Nr ((a*2 ^ k:Nat):Int) (c:Int)=((a*2 ^ k+c:Nat):Int):=by
 have u:=zEd hc a;rw[zF8]at u;rw[Xg (a*2 ^ k) c zB zB,<-u]
def or4 {a b c d:Int} (u:0<=a/\a<256) (hb:0<=b/\b<256) (hc:0<=c/\c<256) (hd:0<=d/\d<256):Nr (Nr (Nr (IntKind.u32.wrap (a*2 ^ (min (24:Int).toNat IntKind.u32.bits))) (IntKind.u32.wrap (b*2 ^ (min (16:Int).toNat IntKind.u32.bits)))) (IntKind.u32.wrap (c*2 ^ (min (8:Int).toNat IntKind.u32.bits)))) d=Eg [a,b,c,d]:=by
 have w:∀(x y:Int) (k:Nat),0<=x/\x<256->(2:Int) ^ k=y->0<=x*y/\x*y<4294967296->IntKind.u32.wrap (x*2 ^ k)=x*y:=λx y k _ h1 h2=>by rw[h1];exact u32_in h2
 rw[zAr u hb hc hd,w a 16777216 _ u yY zB,w b 65536 _ hb yY zB,w c 256 _ hc yY zB];obtain⟨a,rfl⟩:=zCo u.1;obtain⟨b,rfl⟩:=zCo hb.1;obtain⟨c,rfl⟩:=zCo hc.1;obtain⟨d,rfl⟩:=zCo hd.1;have s:∀(x y z:Int) (m n k:Nat),x=((m*2 ^ k:Nat):Int)->y=(n:Int)->n<2 ^ k->m*2 ^ k+n<4294967296->z=((m*2 ^ k+n:Nat):Int)->Nr x y=z:=λx y z m n k e1 A h1 h2 e3=>by rw[e1,A,e3];exact P5 m n k h1 h2
 rw[s ((a:Int)*16777216) ((b:Int)*65536) ((a:Int)*16777216+b*65536) a (b*65536) 24 zB zB zB zB zB,
  s ((a:Int)*16777216+b*65536) ((c:Int)*256) ((a:Int)*16777216+b*65536+c*256) (a*256+b) (c*256) 16 zB zB zB zB zB,
  s ((a:Int)*16777216+b*65536+c*256) (d:Int) ((a:Int)*16777216+b*65536+c*256+d) ((a*256+b)*256+c) d 8 zB zB zB zB zB]
 omega
theorem Gy (l:List Int) (i:Nat) (h:i+4<=ln l):(l.drop i).take 4=[l.getD i 0,l.getD (i+1) 0,l.getD (i+2) 0,l.getD (i+3) 0]:=by apply zB2<;>grind [List.getElem?_eq_getElem]
def Yr (b:List Int) (hb:BY b) (hl:ln b<=1000000) {q:It×Nat} (C:qj b=some q) (hc:q.1.code=0):zN 216 [zE yA b] [] (.tup [vO q.1,iA q.2,bA true]) []:=by
 have M:=zA yA b;obtain⟨Y,i1,iN,E,i2,i3,i4⟩:=jx C hc;obtain⟨I,hn⟩:=Ma C hc;rw[I];clear I C hc;obtain⟨y0,_⟩:=KZ b hb 0 zB;obtain⟨y1,_⟩:=KZ b hb 1 zB;obtain⟨y2,_⟩:=KZ b hb 2 zB;obtain⟨y3,z3⟩:=KZ b hb 3 zB;obtain⟨y4,z4⟩:=KZ b hb 4 zB;obtain⟨y5,z5⟩:=KZ b hb 5 zB;obtain⟨y6,z6⟩:=KZ b hb (SO b+6) zB;obtain⟨y7,z7⟩:=KZ b hb (SO b+7) zB;obtain⟨y8,z8⟩:=KZ b hb (SO b+8) zB;obtain⟨y9,z9⟩:=KZ b hb (SO b+9) zB;rw[Y]at y0;rw[i1]at y1;rw[i2]at y2;have u:=or8 z4 z5;have B:b.getD 4 0*256+b.getD 5 0=(SO b:Int):=by unfold SO;omega
 rw[B]at u;rw[Gy b (SO b+6) zB]at E;have U:=or4 z6 z7 z8 z9;have V:=jk ((b.drop 2).take (SO b+4));have G:∀i k,BY ((b.drop i).take k):=λi k x W=>hb x (zB1 (zCr W))
 generalize b.getD 4 0=x4,b.getD 5 0=x5 at *;generalize hN:SO b=N at *;have A:=Ub ((b.drop 2).take (N+4)) Ox (G _ _);rw[E]at A
 have e1:((b.map yA).drop (2:Int).toNat).take (((N:Int)+6).toNat-(2:Int).toNat)=((b.drop 2).take (N+4)).map yA:=by
  rw[zD7,zDo,show((N:Int)+6).toNat-(2:Int).toNat=N+4 by omega];rfl
 have e3:((b.map yA).drop (6:Int).toNat).take (((N:Int)+6).toNat-(6:Int).toNat)=((b.drop 6).take N).map yA:=by
  rw[zD7,zDo,show((N:Int)+6).toNat-(6:Int).toNat=N by omega];rfl
 have S:(((b.drop 6).take N).map yA).length=N:=by rw[zAt,zBi,zBr];omega
 have O:∀y,(((b.drop 6).take N).map yA)[0]? =some y->ln y.cells=1:=yM _ _ (λ_=>rfl);clear E;generalize (b.drop 2).take (N+4)=B1,(b.drop 6).take N=L at *;clear G V;generalize b.getD 3 0=x3,b.getD (N+6) 0=x6,b.getD (N+7) 0=x7,b.getD (N+8) 0=x8,b.getD (N+9) 0=x9 at *;refine eM call216 λF hF=>?_
 (repeat' (first|(apply zG;first|((apply wY;first|refine wM (aQ Z Z) Z ?_|refine wM (PH Z Z) Z ?_);(try rw[u]);(try rw[U]))|refine PT ?_|(apply xP;(first|(refine vH 261 ?_;first|refine wM (zL (A) Z Z Z Z Z) Z ?_|refine uT (zL (A) Z Z Z Z Z) Z Z Z ?_|refine aI (zL (A) Z Z Z Z Z) Z Z Z ?_)))|refine SL ?_|refine SB ?_)|refine SG (I2 (λhc=>?_) λhc=>?_)|refine SG λhc=>?_|first|refine SR ?_|refine SK (I2 (λhc=>?_) λhc=>?_)|refine SK λhc=>?_|fail))
 exact zI [] Z Z (zBd (λz=>AV.tup [.agg [iA 0,iA x3,zE yA L],iA z,bA true]) (show(N:Int)+10=((N+10:Nat):Int) by omega)) Z
theorem Xr (b:List Int) (hb:BY b) (hl:ln b<=1000000):zN 216 [zE yA b] [] (Zz (qj b)) []:=by
 by_cases u:∃q,qj b=some q/\q.1.code=0
 .obtain⟨q,hq,hc⟩:=u;rw[hq];exact Yr b hb hl hq hc
 have ac:=zA yA b;unfold qj at u⊢;by_cases S:ln b=0
 .rw[zAs S];refine eM call216 λF hF=>?_
  exact mx
 rw[Os S]at u⊢;obtain⟨M,z0⟩:=KZ b hb 0 zB;by_cases h1:b.getD 0 0=90
 case neg=>
  rw[zAs (.inl h1)];generalize b.getD 0 0=x0 at *;refine eM call216 λF hF=>?_
  exact mx
 by_cases h2:1<ln b
 case neg=>
  rw[Os (λh=>h.elim (λh=>h h1) (λh=>h2 h.1)),zAs zB];rw[h1]at M;refine eM call216 λF hF=>?_
  exact mx
 obtain⟨y1,z1⟩:=KZ b hb 1 h2;by_cases E:b.getD 1 0=165
 case neg=>
  rw[zAs (.inr ⟨h2,E⟩)];rw[h1]at M;generalize b.getD 1 0=x1 at *;refine eM call216 λF hF=>?_
  exact mx
 rw[Os (λh=>h.elim (λh=>h h1) (λh=>h.2 E))]at u⊢;rw[h1]at M;rw[E]at y1;clear z0 z1 h1 E;by_cases U:ln b<6
 .rw[zAs U];refine eM call216 λF hF=>?_
  exact mx
 rw[Os U]at u⊢;obtain⟨y4,z4⟩:=KZ b hb 4 zB;obtain⟨y5,z5⟩:=KZ b hb 5 zB;have A:=or8 z4 z5;have I:b.getD 4 0*256+b.getD 5 0=(SO b:Int):=by unfold SO;omega
 rw[I]at A;generalize b.getD 4 0=x4,b.getD 5 0=x5 at *;generalize hN:SO b=N at *;by_cases V:200<N
 .rw[zAs V];refine eM call216 λF hF=>?_
  (repeat' (first|(apply zG;first|((apply wY;refine wM (aQ Z Z) Z ?_);rw[A])|refine PT ?_|(apply xP;fail)|refine SM ?_|refine SB ?_)|refine SG (I2 (λhc=>?_) λhc=>?_)|refine SG λhc=>?_|first|refine SR ?_|refine SK (I2 (λhc=>?_) λhc=>?_)|refine SK λhc=>?_|fail))
  exact zH
 rw[Os V]at u⊢;by_cases W:ln b<N+10
 .rw[zAs W];refine eM call216 λF hF=>?_
  (repeat' (first|(apply zG;first|((apply wY;refine wM (aQ Z Z) Z ?_);rw[A])|refine PT ?_|(apply xP;fail)|refine SM ?_|refine SB ?_)|refine SG (I2 (λhc=>?_) λhc=>?_)|refine SG λhc=>?_|first|refine SR ?_|refine SK (I2 (λhc=>?_) λhc=>?_)|refine SK λhc=>?_|fail))
  exact zH
 rw[Os W]at u⊢;have O:∀i k,BY ((b.drop i).take k):=λi k x hx=>hb x (zB1 (zCr hx))
 have C:=Ub ((b.drop 2).take (N+4)) Ox (O _ _)
 have e1:((b.map yA).drop (2:Int).toNat).take (((N:Int)+6).toNat-(2:Int).toNat)=((b.drop 2).take (N+4)).map yA:=by
  rw[zD7,zDo,show((N:Int)+6).toNat-(2:Int).toNat=N+4 by omega];rfl
 obtain⟨y6,z6⟩:=KZ b hb (N+6) zB;obtain⟨y7,z7⟩:=KZ b hb (N+7) zB;obtain⟨y8,z8⟩:=KZ b hb (N+8) zB;obtain⟨y9,z9⟩:=KZ b hb (N+9) zB;obtain⟨y2,z2⟩:=KZ b hb 2 zB;obtain⟨y3,z3⟩:=KZ b hb 3 zB;have L:=or4 z6 z7 z8 z9;rw[Gy b (N+6) zB]at u⊢;generalize (b.drop 2).take (N+4)=B1 at *;clear O;generalize b.getD 2 0=x2,b.getD 3 0=x3,b.getD (N+6) 0=x6,b.getD (N+7) 0=x7,b.getD (N+8) 0=x8,b.getD (N+9) 0=x9,QJ B1=u1 at *;generalize Eg [x6,x7,x8,x9]=u2 at *;by_cases G:u1=u2
 case neg=>
  rw[zAs G];have G:u2≠u1:=λh=>G h.symm
  clear u;refine eM call216 λF hF=>?_
  (repeat' (first|(apply zG;first|((apply wY;first|refine wM (aQ Z Z) Z ?_|refine wM (PH Z Z) Z ?_);(try rw[A]);(try rw[L]))|refine PT ?_|(apply xP;(first|(refine vH 261 ?_;first|refine wM (zL (C) Z Z Z Z Z) Z ?_|refine uT (zL (C) Z Z Z Z Z) Z Z Z ?_|refine aI (zL (C) Z Z Z Z Z) Z Z Z ?_)))|refine SM ?_|refine SB ?_)|refine SG (I2 (λhc=>?_) λhc=>?_)|refine SG λhc=>?_|first|refine SR ?_|refine SK (I2 (λhc=>?_) λhc=>?_)|refine SK λhc=>?_|fail))
  exact zH
 subst G;rw[Os (λh=>h Z)]at u⊢;by_cases Y:x2=1
 case neg=>
  rw[zAs Y];clear u;refine eM call216 λF hF=>?_
  (repeat' (first|(apply zG;first|((apply wY;first|refine wM (aQ Z Z) Z ?_|refine wM (PH Z Z) Z ?_);(try rw[A]);(try rw[L]))|refine PT ?_|(apply xP;(first|(refine vH 261 ?_;first|refine wM (zL (C) Z Z Z Z Z) Z ?_|refine uT (zL (C) Z Z Z Z Z) Z Z Z ?_|refine aI (zL (C) Z Z Z Z Z) Z Z Z ?_)))|refine SM ?_|refine SB ?_)|refine SG (I2 (λhc=>?_) λhc=>?_)|refine SG λhc=>?_|first|refine SR ?_|refine SK (I2 (λhc=>?_) λhc=>?_)|refine SK λhc=>?_|fail))
  exact zI [] Z Z (zBd (λz=>AV.tup [.agg [iA 3,iA 0,.sl false []],iA z,bA true]) (show(N:Int)+10=((N+10:Nat):Int) by omega)) Z
 rw[Os (λh=>h Y)]at u⊢;by_cases B:x3<1\/22<x3
 .rw[zAs B];clear u
  rcases B with B|B
  all_goals
   refine eM call216 λF hF=>?_
   (repeat' (first|(apply zG;first|((apply wY;first|refine wM (aQ Z Z) Z ?_|refine wM (PH Z Z) Z ?_);(try rw[A]);(try rw[L]))|refine PT ?_|(apply xP;(first|(refine vH 261 ?_;first|refine wM (zL (C) Z Z Z Z Z) Z ?_|refine uT (zL (C) Z Z Z Z Z) Z Z Z ?_|refine aI (zL (C) Z Z Z Z Z) Z Z Z ?_)))|refine SM ?_|refine SB ?_)|refine SG (I2 (λhc=>?_) λhc=>?_)|refine SG λhc=>?_|first|refine SR ?_|refine SK (I2 (λhc=>?_) λhc=>?_)|refine SK λhc=>?_|fail))
   exact zI [] Z Z (zBd (λz=>AV.tup [.agg [iA 5,iA 0,.sl false []],iA z,bA true]) (show(N:Int)+10=((N+10:Nat):Int) by omega)) Z
 .rw[Os B]at u;exact absurd ⟨_,rfl,rfl⟩ u
def O5 (b:List Int) (hl:ln b<=256) (g:Bool) (x:List Int) (E:ln x<=1000000):zN 165 [Hy b g,zE yA x] [] (.tup [Hy (b++x.take (US (ln b) (ln x))) g,bA (decide (US (ln b) (ln x)=ln x))]) []:=by
 have z:=zA yA b;have u:=zA yA x;have C:US (ln b) (ln x)<=ln x/\b.length+US (ln b) (ln x)<=256:=by unfold US;omega
 have e1:min ((ln x:Nat):Int) (256-((ln b:Nat):Int))=((US (ln b) (ln x):Nat):Int):=by unfold US;omega
 have B:zE yA (b++x.take (US (ln b) (ln x)))= .sl false (b.map yA++(x.take (US (ln b) (ln x))).map yA):=by unfold zE;rw[zA0]
 unfold Hy;rw[B];generalize US (ln b) (ln x)=f at *;refine eM call165 λF hF=>?_
 (repeat' (first|refine ub ?_|apply yW|apply xH|intro hc|(apply zG;first|refine SM ?_)|fail))
 rw[z,u,e1]
 (repeat' (first|refine uS ?_|apply yW|apply xH|intro hc|(apply zG;first|(apply yC;refine xG 1001 tok Z Z Z Z Z Z (yM _ _ (λ_=>rfl)) Z Z Z zB Z Z Z ?_))|fail))
 refine zI [] Z Z ?_ Z
 show AV.tup [AV.agg [AV.sl false (py (b.map yA++(x.take f).map yA).length (b.map yA++(x.take f).map yA)),bA g],bA (uB .eql (f:Int) ((x.map yA).length:Int))]=_
 rw[zAv,u,show uB .eql (f:Int) (ln x:Int)=decide (f=ln x) by
  by_cases A:f=ln x
  .rw[A];simp[uB]
  .have:(f:Int)≠(ln x:Int):=by omega
   simp[uB,A,this]]
def OO (s:Ss) (h:ln s.bf<=1000):zN 164 [dB s] [] (dB s) []:=by
 have hl:=zA yA s.bf;unfold dB;refine eM call164 λF hF=>?_
 refine WL ?_;refine zI [] Z Z ?_ Z;rfl
def Wr (s:Ss) (hl:ln s.bf<=1000):zN 100 [dB s] [] (dB (if s.op=true then s else⟨true,false,[],false⟩)) []:=by
 obtain⟨op,A,z,B⟩:=s;dsimp only at hl⊢;have u:=OO ⟨op,A,z,B⟩ hl;cases op
 .rw[Os zA9];unfold dB at *;refine eM call100 λF hF=>?_
  exact nl u
 .rw[zAs Z];unfold dB at *;refine eM call100 λF hF=>?_
  exact nl u
def Vr (s:Ss):zN 101 [dB s] [] (dB ⟨false,false,[],false⟩) []:=by
 unfold dB;refine eM call101 λF hF=>?_
 exact mx
def gx (s:Ss) (hl:ln s.bf<=256) (x:List Int) (G:ln x<=1000000):zN 102 [dB s,zE yA x] [] (dB (Ab s x)) []:=by
 obtain⟨op,B,A,E⟩:=s;dsimp only at hl;have C:=OO ⟨op,B,A,E⟩ NJ;have u:=O5 A hl E x G;unfold Ab;dsimp only;unfold Hy at u;cases op
 .rw[Os zA9];unfold dB at *;refine eM call102 λF hF=>?_
  exact nl C
 .rw[zAs Z];unfold dB at *;cases z:decide (US (ln A) (ln x)=ln x)
  .rw[z]at u;rw[zAw (zE5 z),zEg];cases B
   all_goals
    refine eM call102 λF hF=>?_
    exact ng (xQ C u)
  .rw[z]at u;rw[zAu (λh=>h (zEl z)),zFx];cases B
   all_goals
    refine eM call102 λF hF=>?_
    exact ng (xQ C u)
def A8 (b:List Int) (N:Nat) (R s:tr) (m:Nat):Prop:=s.t<=ln b/\b.length<=m+s.t/\((ln s.its<N/\EV N (IV m (b.drop s.t)) s=R)\/(ln s.its=N/\s=R))
theorem A8.next {R s:tr} {m:Nat} {p:It×Nat} (C:1<=p.2/\p.2<=ln b-s.t) (E:s.t<=ln b) (B:ln b<=m+1+s.t) (A:ln s.its<N) (z:EV N (p::IV m (b.drop (s.t+p.2))) s=R):A8 b N R (IW s p) m:=by
 have e:(IW s p).t=s.t+p.2:=by unfold IW;split<;>rfl
 refine⟨zB,zB,?_⟩;unfold EV at z;rw[e];by_cases u:B8 N s p=true
 .rw[zAs u]at z;refine .inr ⟨?_,z⟩;unfold B8 at u;simp only[zA4,zDb,zAz]at u;unfold IW;rw[Os (by rw[u.1];exact zA9)]
  show(s.its++[p.1]).length=N
  rw[zAx,zCx];omega
 .rw[Os u]at z;refine .inl ⟨?_,z⟩;unfold B8 at u;unfold IW;cases hc:Iy s p
  .rw[hc]at u;rw[Os zA9];simp only[zEr,zA3,zAz]at u
   show(s.its++[p.1]).length<N
   rw[zAx,zCx];omega
  .rw[zAs Z];exact A
theorem Ur (b:List Int) (hb:BY b) (hl:ln b<=1000) (g:Bool) (N:Nat) (hN:1<=N/\N<=1000):zN 166 [Hy b g,iA N] []
  (.tup [Hy (b.drop (EV N (IV (ln b) b) ⟨0,g,[]⟩).t) (EV N (IV (ln b) b) ⟨0,g,[]⟩).g,zE vO (EV N (IV (ln b) b) ⟨0,g,[]⟩).its]) []:=by
 have ac:=zA yA b;have h0:A8 b N (EV N (IV (ln b) b) ⟨0,g,[]⟩) ⟨0,g,[]⟩ (ln b):=⟨zBb _,zAy _,.inl ⟨by show 0<N;omega,rfl⟩⟩;generalize EV N (IV (ln b) b) ⟨0,g,[]⟩=R at *;unfold Hy;refine eM call166 λF hF=>?_
 refine WW ?_;refine zQ 6 1001 3 Z Z Z ?_;refine jQ (ln b) [1001,2,4] [2,4] [1,2,4] [6,7,8,1,2,4] Z (λM T U zs=>∃(s:tr) (m:Nat),(A8 b N R s m/\M=m)/\zs=⟨(6,.ref 1001 0 (s.its.map vO).length)::(7,iA s.t)::(8,bA s.g)::T,(1001,.arr 3 (s.its.map vO) true)::U⟩) ?_;(conv=>whnf);refine⟨?_,?_⟩
 .exact⟨⟨0,g,[]⟩,ln b,⟨h0,rfl⟩,rfl⟩
 rintro M st ⟨s,m,⟨⟨ht,hm,hI⟩,rfl⟩,rfl⟩;have ag:=zA vO s.its
 rcases hI with⟨L,G⟩|⟨L,rfl⟩
 case inr=>
  refine WL ?_;refine zI [] Z Z ?_ Z
  show AV.tup [AV.agg [.sl false ((b.drop s.t).map yA),bA s.g],.sl false (py (s.its.map vO).length (s.its.map vO))]=_
  rw[zAv];rfl
 have A:=Xr (b.drop s.t) (λx V=>hb x (zB1 V)) CF
 cases I:qj (b.drop s.t)with
 | none=>
  rw[I]at A
  have S:s=R:=by
   rw[<-G]
   cases M with
   |zero=>rfl
   |succ m=>unfold IV;rw[I];rfl
  subst S;unfold Zz at A;dsimp only at A;refine VX A ?_;refine zI [] Z Z ?_ Z
  show AV.tup [AV.agg [.sl false ((b.drop s.t).map yA),bA s.g],.sl false (py (s.its.map vO).length (s.its.map vO))]=_
  rw[zAv];rfl
 | some q=>
  rw[I]at A;obtain⟨⟨q1,q2⟩,_⟩:=sr (λx V=>hb x (zB1 V)) I;rw[zBr]at q2;obtain⟨m,rfl⟩:∃m,M=m+1:=⟨M-1,zB⟩;unfold IV at G;rw[I]at G;dsimp only at G;rw[List.drop_drop]at G;unfold Zz at A;dsimp only at A;have E:=A8.next ⟨q1,q2⟩ ht zB L G;obtain⟨⟨u,z,B⟩,n⟩:=q;dsimp only at *;have W:s.t+n<=1000:=by omega
  have O:(s.its++[(⟨u,z,B⟩:It)]).map vO=s.its.map vO++[vO ⟨u,z,B⟩]:=by simp
  clear G I;by_cases h2:u=2
  .cases hg:s.g
   .have e:IW s (⟨u,z,B⟩,n)=⟨s.t+n,true,s.its++[⟨u,z,B⟩]⟩:=by simp[IW,Iy,hg,h2]
    rw[e]at E;generalize s.its.map vO=Y at *;unfold vO at *;dsimp only at *;refine VX A ?_;exact⟨m,zB,⟨s.t+n,true,s.its++[⟨u,z,B⟩]⟩,m,⟨E,rfl⟩,by dsimp only;rw[O];rfl⟩
   .have e:IW s (⟨u,z,B⟩,n)=⟨s.t+n,true,s.its⟩:=by simp[IW,Iy,hg,h2]
    rw[e]at E;unfold vO at A;dsimp only at *;refine VX A ?_;exact⟨m,zB,⟨s.t+n,true,s.its⟩,m,⟨E,rfl⟩,rfl⟩
  .by_cases C:u=7\/u=4
   .have e:IW s (⟨u,z,B⟩,n)=⟨s.t+n,true,s.its++[⟨u,z,B⟩]⟩:=by
     rcases C with C|C<;>simp[IW,Iy,C]
    rw[e]at E;generalize s.its.map vO=Y at *;unfold vO at *;dsimp only at*
    rcases C with C|C
    all_goals
     refine VX A ?_;exact⟨m,zB,⟨s.t+n,true,s.its++[⟨u,z,B⟩]⟩,m,⟨E,rfl⟩,by dsimp only;rw[O];rfl⟩
   .have h7:¬u=7:=λh=>C (.inl h)
    have h4:¬u=4:=λh=>C (.inr h)
    have e:IW s (⟨u,z,B⟩,n)=⟨s.t+n,false,s.its++[⟨u,z,B⟩]⟩:=by simp[IW,Iy,h2,h7,h4]
    rw[e]at E;generalize s.its.map vO=Y at *;unfold vO at *;dsimp only at *;refine VX A ?_;exact⟨m,zB,⟨s.t+n,false,s.its++[⟨u,z,B⟩]⟩,m,⟨E,rfl⟩,by dsimp only;rw[O];rfl⟩
def Sr (s:Ss) (hb:BY s.bf) (hl:ln s.bf<=1000):zN 103 [dB s] [] (.tup [dB (aC s).1,uZ (aC s).2]) []:=by
 obtain⟨op,B,u,z⟩:=s;dsimp only at hb hl;have G:=OO ⟨op,B,u,z⟩ hl;have A:=Ur u hb hl z 4 zB;have C:=EH (N:=4) (IV (ln u) u) ⟨0,z,[]⟩ (by show 0<4;omega);unfold aC;dsimp only;generalize EV 4 (IV (ln u) u) ⟨0,z,[]⟩=r at *;have E:=zA vO r.its;unfold Hy at A;cases op
 .rw[Os zA9];unfold dB at *;unfold uZ;refine eM call103 λF hF=>?_
  exact nl G
 .rw[zAs Z];unfold dB at *;unfold uZ;cases B
  .rw[Os zA9,zD3];refine eM call103 λF hF=>?_
   refine zS A ?_;refine Zb 27 1055 3 Z Z Z ?_;refine WW ?_;refine zI [] Z Z ?_ Z
   show AV.tup [_,AV.agg [_,AV.sl false (py (r.its.map vO).length (r.its.map vO))]]=_
   rw[zAv];rfl
  .rw[zAs Z,show zE vO ([⟨15,0,[]⟩]++r.its)= .sl false ([.agg [iA 15,iA 0,zE yA []]]++r.its.map vO) by unfold zE;rw[zA0];rfl];refine eM call103 λF hF=>?_
   (have gd:=A;(repeat' (first|refine jZ ?_|apply yW|apply xH|intro hc|(apply zG;first|(apply yH;refine ZX 18 Z Z Z ?_;refine vD tok Z Z ?_))|refine SB ?_|fail))<;>clear gd)
   refine Zb 17 1055 3 Z Z Z ?_
   (have gd:=A;(repeat' (first|refine uS ?_|apply yW|apply xH|intro hc|(apply zG;first|refine SM ?_)|fail))<;>clear gd)
   refine zI [] Z Z ?_ Z
   show AV.tup [_,AV.agg [_,AV.sl false (py ([AV.agg [iA 15,iA 0,zE yA []]]++r.its.map vO).length ([AV.agg [iA 15,iA 0,zE yA []]]++r.its.map vO))]]=_
   rw[zAv];rfl
section
open Classical in
noncomputable def Tg (m:Ms):List Int:=if h:YP m then Tb m.kind (ZE h.2).choose else []
def Fy (m:Ms) (h:YP m):((Tg m).length<=300/\(m.args≠[]->∃q:List Int,Tg m=90::165::1::m.kind::q/\7<=ln q))/\JC [zX m] [] (.tup [zE yA (Tg m),iA 0]) []:=by
 have B:=(ZE h.2).choose_spec;have e:Tg m=Tb m.kind (ZE h.2).choose:=by unfold Tg;rw[zF3 h]
 rw[e];generalize (ZE h.2).choose=p at *;obtain⟨h1,h2,u⟩:=B;obtain⟨k,L,C,E⟩:=m;obtain⟨z,G⟩:=h;dsimp only at *;subst z;refine⟨⟨?_,λA=>?_⟩,u⟩
 .simp only[Tb,Xx,zA8,zAx,zAt,zCd];have:(HA k (ln p)).length<=10:=by unfold HA;simp
  have:=h2.1;omega
 .refine⟨0::(ln p:Int)::(p++Xx (QJ (HA k (ln p)++p))),by simp[Tb,HA],?_⟩;have I:=h2.2 A;simp only[Xx,zA8,zAx,zAt,zCd];omega
noncomputable def PD (l:List Ms):List Int:=(l.map Tg).flatten
def Rr (l:List Ms) (m:Ms):PD (l++[m])=PD l++Tg m:=by simp[PD]
theorem Qg:∀{l:List Ms},(∀m∈l,YP m)->(PD l).length<=300*ln l
 | [],_=>zBb _
 |m::l,h=>by
  have h1:=(Fy m (h m zV)).1.1;have h2:=Qg (l:=l) λx u=>h x (by simp[u])
  have e:PD (m::l)=Tg m++PD l:=rfl;rw[e,zAx,zA8];omega
structure PE where
 y:Cy
 ss:List Ss
def La (y:Cy) (s:AV):AV:= .agg [zE wD y.c.js,zE uF y.c.ags,iA y.c.per,iA y.c.cap,iA y.c.hold,iA y.c.lock,bA false,iA y.f4,zE zM y.ds,zE wU y.sg,zE wP y.sv,zE iA y.st,zE vG y.vw,s]
def VT (b:PE):AV:=La b.y (zE dB b.ss)
structure Pg (b:PE):Prop where
 y:LR b.y
 l:(b.ss.length:Int)=jJ b.y.c.ags b.y.c.ags.length
 s:∀s∈b.ss,R5 s
def Y9 (S:List (List Int)) (f:List Int):AV:= .agg [zE (zE yA) S,zE yA f]
def ZC (u:List Ss):List In:=u.map λs=>(aC s).2
def VU (u:List Ss) (i:Nat):List Ss:=aZ (λ_ s=>(aC s).1) u i
end
section
open Classical in
noncomputable def N5 (m:Ms):List Int:=if h:YP m then(ZE h.2).choose else []
def M5 {m:Ms} (h:YP m):Tg m=Tb m.kind (N5 m)/\(BY (N5 m)/\V9 m.kind m.args m.data (N5 m))/\(N5 m).length<=200:=by
 have u:=(ZE h.2).choose_spec;have e1:Tg m=Tb m.kind (ZE h.2).choose:=by unfold Tg;rw[zF3 h]
 have z:N5 m=(ZE h.2).choose:=by unfold N5;rw[zF3 h]
 rw[e1,z];exact⟨rfl,u.1,u.2.1.1⟩
def dx (k:Int) (p:List Int):(Tb k p).length=ln p+10:=by
 simp only[Tb,Xx,HA,zA8,zAx,zAt,zCd,zBz];omega
end
