/- Part 30. -/
import Derived.Test.YtaglbcjljlkjcaaGreatT29
namespace Go.Proofs.YtaglbcjljlkjcaaGreat.Av
open Tryz
set_option linter.all false
set_option maxRecDepth 4000
set_option maxHeartbeats 16000000
open List renaming length->ln,replicate->oj,take->pb,getD->pi
open Inhabited renaming default->dd
variable {p:It×Nat}{b:List Int}{N:Nat}
def Wx (u:List In) (z n:Nat):Nb u z n=(u.drop z).take n++oj (n-(ln u-z)) dd:=by
 unfold Nb;apply zCe;intro k;by_cases hk:k<n
 .rw[zBd,zC3 hk,List.getElem?_append,zCu,zA4 hk,zDd,zBt,zB5];by_cases h:z+k<ln u
  .rw[zA4 zB,zB2 h];simp[pi,h]
  .rw[Os zB,zDo,zA4 zB];simp[pi,zCi (Nat.le_of_not_lt h)]
 .rw[zCi qB,zCi qB]
def d6 (xs:List AV) (u n:Nat):(xs.drop (min (u:Int) (ln xs:Int)).toNat).take ((min ((u:Int)+(n:Int)) (ln xs:Int)).toNat-(min (u:Int) (ln xs:Int)).toNat)=(xs.drop u).take n:=by
 apply zCe;intro k;rw[zCu,zCu,zDd,zDd];by_cases h:u+k<ln xs
 .rw[show(min (u:Int) (ln xs:Int)).toNat=u by omega];by_cases hk:k<n
  .rw[zA4 zB,zA4 hk]
  .rw[Os zB,Os hk]
 .rw[zCi (l:=xs) (i:=u+k) zB,zCi (l:=xs) (i:=(min (u:Int) (ln xs:Int)).toNat+k) zB];simp
def ur (f3:Int) (u:List wD) (R:Nat->DR):PI f3 u (ln u)=eQ f3 u R 0:=by
 unfold eQ;apply zCe;intro j;unfold PI;rw[vY,zBd];by_cases hj:j<ln u
 .rw[zA4 hj,zA4 hj,zC3 hj];simp
 .rw[Os hj,zCi qB];rfl
def gj (R:Nat->DR) (i:Nat):List (List Ms):=((List.range i).map λa=>(R a).R).flatten
def LP (R:Nat->DR) (i:Nat):gj R (i+1)=gj R i++(R i).R:=by simp[gj,zC6]
theorem OP {l:List Ag} {R:Nat->DR} (u:LV l) (h:∀a,a<ln l->(((R a).R.length:Nat):Int)=(l.getD a dd).ses):∀i,i<=ln l->((gj R i).length:Int)=jE l i
 |0,_=>rfl
 |i+1,hi=>by
  have z:=OP u h i zB;have:=h i zB;rw[LP,zA9]
  show _=jE l i+(l.getD i dd).ses
  omega
theorem qr {l:List Ag} {R:Nat->DR} (u:LV l) (h:∀a,a<ln l->(((R a).R.length:Nat):Int)=(l.getD a dd).ses):∀n,n<=ln l->∀a k,a<n->k<(R a).R.length->(gj R n).getD ((jE l a).toNat+k) []=(R a).R.getD k []
 |0,_,a,k,z,_=>absurd z (zC0 _)
 |n+1,C,a,k,z,hk=>by
  have hl:=OP u h n zB;rw[LP,zBk];by_cases h1:a=n
  .subst h1;rw[zCa zB,show(jE l a).toNat+k-(gj R a).length=k by omega,<-zBk]
  .have B:=OV u (show a+1<=n by omega) zB;have h2:=h a zB;have E:jE l (a+1)=jE l a+(l.getD a dd).ses:=rfl;have A:=qS u a zB;rw[zB8 zB,<-zBk];exact qr u h n zB a k zB hk
theorem Da (y:Cy) (h:KR y) (cd:LO y.ds) (hn:y.f3<1000000000) (u:List In) (fb:(ln u:Int)<=jE y.c.ags (ln y.c.ags)) (R:Nat->DR) (M:Pj y u R) (a1:∀i,(R i).en.length<=2000) (a4:∀i,(R i).ks.length<=2000):
  zM 13 [qO y,zE uT u] [] (.tup [qO (kG y R),Ox (SP y.c (zb (kG y R) u R (ln y.ds)) (ln y.c.ags)) (QL (y.f3+1) (kG y R).vw)]) []:=by
 have hb:=h.b;have n0:=h.n0;have V:=h.v.ag;have b3:=h.dl;have k1:=XN y hb;have fa:=zA uT u;have ci:min (y.f3+1) 1073741824=y.f3+1:=by omega
 have co:=h.rf;have eC:=bJ co;have fl:=V.1;have c1:=zA zN y.ds
 have L:∀i,i<ln y.ds->((y.ds.getD i dd).au.length:Int)=(y.c.ags.getD i dd).ses:=λi hi=>by
  have:=(h.di _ (yL y.ds i hi)).au
  rwa [h.dg i hi]at this
 have G:∀a,a<ln y.c.ags->(((R a).R.length:Nat):Int)=(y.c.ags.getD a dd).ses:=λa B=>by
  have:=(M a zB).1.rn;have h2:=L a zB;rw[show(XV (y.ds.getD a dd) (y.f3+1)).au.length=(y.ds.getD a dd).au.length from Z]at this;omega
 unfold HG HI aH at k1;rw[eC,co]at k1;rw[eC];refine eM call13 λF hF=>?_
 refine zU k1 ?_;have c3:=zA wZ y.sg;have dk:=zA wU y.sv;have cr:=zA iA y.st;have ch:=h.gl;have br:=h.sl;have bl:=h.tl;rw[ci,c3,ch,dk,br,cr,bl];have b1:∀i,(PI (y.f3+1) y.ds i).length=ln y.ds:=λi=>vC _ _ _
 have b2:∀i,((PI (y.f3+1) y.ds i).map zN).length=ln y.ds:=λi=>by rw[zA5,b1]
 have az:PI (y.f3+1) y.ds 0=y.ds:=qN _ _;rw[c1];refine zO (ln y.ds) [1011,2,4,5,6,1012,1013,1014] [2,4,5,6,1012,1013,1014] [1,2,4,5,6,53,54] [55,1,2,4,5,6,53,54] Z (λi T U=>⟨(55,iA i)::T,(1011,.arr 17 ((PI (y.f3+1) y.ds i).map zN) false)::U⟩) ?_;(conv=>whnf);refine⟨by(rw[az];rfl),?_,?_⟩
 .intro i hi
  have hy:((PI (y.f3+1) y.ds i).map zN)[i]? =some (zN (y.ds.getD i dd)):=by
   rw[zBd];unfold PI;rw[vY,zA4 hi,Os (zD1 i)];rfl
  have e:(PI (y.f3+1) y.ds (i+1)).map zN=((PI (y.f3+1) y.ds i).map zN).set i (zN (XV (y.ds.getD i dd) (y.f3+1))):=by unfold PI;rw[vP _ _ _ _ hi]
  have kb:=jq (h.di _ (yL y.ds i hi)) (y.f3+1);have cv:=b2 i;rw[e];clear e M az G L k1 eC;generalize XV (y.ds.getD i dd) (y.f3+1)=d2 at *;generalize y.ds.getD i dd=d1 at *;generalize (PI (y.f3+1) y.ds i).map zN=X at *;refine zU kb ?_;rfl
 .rw [ur (y.f3+1) y.ds R];refine WW ?_;have b8:∀i,((eQ (y.f3+1) y.ds R i).map zN).length=ln y.ds:=λi=>by unfold eQ;rw[zA5,zA5,zCp]
  refine zS 9 1041 1 Z Z Z ?_;refine zS 10 1042 3 Z Z Z ?_;refine zS 11 1043 1 Z Z Z ?_;refine zO (ln y.ds) [1011,1041,1042,1043,2,4,5,6,1012,1013,1014] [2,4,5,6,1012,1013,1014] [1,2,4,5,6,70,71] [9,10,11,12,72,1,2,4,5,6,70,71] Z (λi T U=>⟨(9,.ref 1041 0 ((gj R i).map jC).length)::(10,.ref 1042 0 ((XX R i).map kF).length)::(11,.ref 1043 0 ((dF R i).map iA).length)::(12,iA (jE y.c.ags i))::(72,iA i)::T,(1011,.arr 17 ((eQ (y.f3+1) y.ds R i).map zN) false)::(1041,.arr 1 ((gj R i).map jC) true)::(1042,.arr 3 ((XX R i).map kF) true)::(1043,.arr 1 ((dF R i).map iA) true)::U⟩) (Lq ?_ ?_)
  .intro i hi;have c4:i<ln y.c.ags:=by omega
   have hy:((eQ (y.f3+1) y.ds R i).map zN)[i]? =some (zN (XV (y.ds.getD i dd) (y.f3+1))):=by
    rw[zBd];unfold eQ;rw[UE _ _ _ _ hi];rfl
   have e1:(eQ (y.f3+1) y.ds R (i+1)).map zN=((eQ (y.f3+1) y.ds R i).map zN).set i (zN (R i).d):=by
    unfold eQ;rw[YQ _ _ _ _ hi,zCs]
   obtain⟨A,ap⟩:∃A:Nat,jE y.c.ags i=(A:Int):=⟨(jE y.c.ags i).toNat,by have:=qS V i zB;omega⟩;have db:=qS V i zB;have ep:=V.at (i:=i) zB;have L:=L i hi;have a6:jE y.c.ags (i+1)=jE y.c.ags i+(y.c.ags.getD i dd).ses:=rfl;have c8:=OV V (show i+1<=ln y.c.ags by omega) (zBa _);have et:=G i c4;have em:=OP V G i zB;have e5:=UC a1 i;have c6:=UD a4 i;have a1:=a1 i;have a4:=a4 i;have cv:=b8 i;have ff:=zA jC (gj R i);have fi:=zA kF (XX R i);have fj:=zA iA (dF R i);have e6:=zA jC (R i).R;have e7:=zA kF (R i).en;have e8:=zA iA (R i).ks
   have cj:aj y.c u i=(u.drop A).take (y.ds.getD i dd).au.length++oj ((y.ds.getD i dd).au.length-(ln u-A)) dd:=by
    unfold aj;rw[ap,show(y.c.ags.getD i dd).ses.toNat=(y.ds.getD i dd).au.length by omega,zBu,Wx]
   have kt:=(M i hi).2.2 _ _ cj;clear cj;have c0:(XV (y.ds.getD i dd) (y.f3+1)).au=(y.ds.getD i dd).au:=rfl;rw[<-c0]at L kt;have ax:=zA bA (XV (y.ds.getD i dd) (y.f3+1)).au;rw[<-ax]at L kt;have cq:=d6 (u.map uT) A ((XV (y.ds.getD i dd) (y.f3+1)).au.map bA).length;rw[show(((u.map uT).drop A).take ((XV (y.ds.getD i dd) (y.f3+1)).au.map bA).length)=((u.drop A).take ((XV (y.ds.getD i dd) (y.f3+1)).au.map bA).length).map uT by rw[zEj,zD0]]at cq;rw[e1,LP,OT,OU,a6,ap,<-L,zBc,zBc,zBc];unfold Bj sw wH at kt;clear e1 M G az b1 b2 k1 eC b8 ax a6 c8;generalize (u.drop A).take ((XV (y.ds.getD i dd) (y.f3+1)).au.map bA).length=ow at *;generalize XV (y.ds.getD i dd) (y.f3+1)=d1 at *;generalize (eQ (y.f3+1) y.ds R i).map zN=X,(gj R i).map jC=X1,(XX R i).map kF=X2,(dF R i).map iA=X3,(R i).R=r1,(R i).en=r2,(R i).ks=r3,(R i).d=d2 at *;unfold zN xD at kt hy;refine zU kt ?_;rfl
  .have a5:∀x∈dF R (ln y.ds),0<=x/\x<(ln y.c.js:Int):=λx E=>by
    obtain⟨a,B,E⟩:=Ze E;exact(M a B).1.ks x E
   have c6:=UD a4 (ln y.ds);have c5:=zA wK y.c.js;have fd:=zA iA (dF R (ln y.ds));have ej:(dF R (ln y.ds)).length<=10000:=by omega
   refine WW ?_;refine wL [2,4,5,6,1012,1013,1014] [1,2,4,5,6,9,10,121,122,123] Z ?_
   (conv=>whnf)
   simp only[zBr,zA8];rw[zBf (l:=(eQ (y.f3+1) y.ds R (ln y.ds)).map zN) (zDb (b8 _))];clear k1 az b1 b2;refine zQ ((dF R (ln y.ds))) [1012,2,4,5,6,1013,1014] [2,4,5,6,1013,1014] [1,2,4,5,6,9,10,121,122] [123,1,2,4,5,6,9,10,121,122] Z (λi f4 T U=>⟨(123,iA i)::T,(1012,.arr 5 ((bB y.c y.sg f4).map wZ) false)::U⟩) (Lq ?_ ?_)
   .intro i f4 x post E hi;have hy:=zZ iA E hi;have c7:=zV E hi;have b9:=a5 x (yU E);obtain⟨g1,g2⟩:=KT h.v (sv:=y.sv) (f3:=y.f3) f4 y.sg h.gl h.j;have J:=h.v.jv _ (yL y.c.js x.toNat zB);have C:=(g2 x.toNat zB).c;have hJ:=J.n;have hC:=C.n;have hM:=C.m;have kr:=Mh (y.c.js.getD x.toNat dd) J ((bB y.c y.sg f4).getD x.toNat dd) zB zB;have dr:=yF wK y.c.js x b9.1 b9.2;have dn:=yF wZ (bB y.c y.sg f4) x b9.1 zB;have eh:=zA wZ (bB y.c y.sg f4);rw[DF,zCs];clear E a5 M J C g2 eC;generalize (bB y.c y.sg f4).getD x.toNat dd=s,y.c.js.getD x.toNat dd=j at *;generalize bB y.c y.sg f4=X at *;generalize X.map wZ=Y at *;refine zU kr ?_;rfl
   .obtain ⟨g1,g2⟩:=KT h.v (sv:=y.sv) (f3:=y.f3) (dF R (ln y.ds)) y.sg h.gl h.j;have hC:=ST;have bu:∀D,YR D (bB y.c y.sg (dF R (ln y.ds))) 0=bB y.c y.sg (dF R (ln y.ds)):=λD=>qN _ _
    have b0:∀D,YS D y.sv 0=y.sv:=λD=>qN _ _
    have bx:XY y.st 0=y.st:=qN _ _;have a2:∀D i,((YR D (bB y.c y.sg (dF R (ln y.ds))) i).map wZ).length=ln y.c.js:=λD i=>by unfold YR;rw[zA5,vC];exact g1
    have a8:∀D i,((YS D y.sv i).map wU).length=ln y.c.js:=λD i=>by unfold YS;rw[zA5,vC];exact br
    have a3:∀i,((XY y.st i).map iA).length=ln y.c.js:=λi=>by unfold XY;rw[zA5,vC];exact bl
    have a7:∀D i,((EP y.c.js D i).map vO).length=i:=λD i=>by simp[EP]
    have ac:∀d∈eQ (y.f3+1) y.ds R (ln y.ds),qC y.c d:=λd hd=>by
     obtain⟨a,B,rfl⟩:=YO hd;exact(M a B).1.i
    have b7:∀d∈eQ (y.f3+1) y.ds R (ln y.ds),KU (y.f3+1) d.rq:=λd hd=>by
     obtain⟨a,B,rfl⟩:=YO hd;refine(M a B).1.sc ?_;exact KU.of zB ((h.sc _ (yL y.ds a B)).mono zB) (Ob _ _)
    have bz:LO (eQ (y.f3+1) y.ds R (ln y.ds)):=λa B=>by
     rw[fZ]at B;rw[aG B,(M a B).1.num];exact cd a B
    have ed:(eQ (y.f3+1) y.ds R (ln y.ds)).length<=4:=by rw[fZ];omega
    have b5:∀d∈eQ (y.f3+1) y.ds R (ln y.ds),∀r∈d.rq,kS [] r.legs=true:=λd hd r hr=>by
     have:=((ac d hd).v.ok r hr).lg;unfold AH at this;rw[zBe]at this;exact this.2
    have fc:=h.v.j;refine WW ?_;refine zS 24 1015 4 Z Z Z ?_;rw[c5];refine zO (ln y.c.js) [1012,1013,1014,1015,2,4,5,6] [2,4,5,6] [1,2,4,5,6,9,10,150,151] [24,152,1,2,4,5,6,9,10,150,151] Z (λi T U=>⟨(24,.ref 1015 0 ((EP y.c.js (eO y R) i).map vO).length)::(152,iA i)::T,(1012,.arr 5 ((YR (eO y R) (bB y.c y.sg (dF R (ln y.ds))) i).map wZ) false)::(1013,.arr 3 ((YS (eO y R) y.sv i).map wU) false)::(1014,.arr 1 ((XY y.st i).map iA) false)::(1015,.arr 4 ((EP y.c.js (eO y R) i).map vO) true)::U⟩) ?_;(conv=>whnf);refine⟨by(rw[bu,b0,bx];rfl),?_,?_⟩
    .intro i hi;have dr:=zJ wK y.c.js i hi;have dn:((YR (eO y R) (bB y.c y.sg (dF R (ln y.ds))) i).map wZ)[i]? =some (wZ ((bB y.c y.sg (dF R (ln y.ds))).getD i dd)):=by rw[zBd];unfold YR;rw[vY,zA4 zB,Os (zD1 i)];rfl
     have fx:((YS (eO y R) y.sv i).map wU)[i]? =some (wU (y.sv.getD i dd)):=by rw[zBd];unfold YS;rw[vY,zA4 zB,Os (zD1 i)];rfl
     have fv:((XY y.st i).map iA)[i]? =some (iA (y.st.getD i dd)):=by rw[zBd];unfold XY;rw[vY,zA4 zB,Os (zD1 i)];rfl
     have eg:(YR (eO y R) (bB y.c y.sg (dF R (ln y.ds))) (i+1)).map wZ=((YR (eO y R) (bB y.c y.sg (dF R (ln y.ds))) i).map wZ).set i (wZ (eO y R i).1):=by unfold YR;rw[vP _ _ _ _ zB]
     have ev:(YS (eO y R) y.sv (i+1)).map wU=((YS (eO y R) y.sv i).map wU).set i (wU (eO y R i).2):=by unfold YS;rw[vP _ _ _ _ zB]
     have ek:(XY y.st (i+1)).map iA=((XY y.st i).map iA).set i (iA (-1)):=by unfold XY;rw[vP _ _ _ _ zB]
     have ew:(EP y.c.js (eO y R) (i+1)).map vO=(EP y.c.js (eO y R) i).map vO++[vO (LQ (y.c.js.getD i dd) (eO y R i).1 (eO y R i).2)]:=by simp[EP,zC6]
     have J:=h.v.jv _ (yL y.c.js i hi);have H:=g2 i hi;have cl:(jK (i:Int) (eQ (y.f3+1) y.ds R (ln y.ds))).length<=4*(eQ (y.f3+1) y.ds R (ln y.ds)).length:=hC i _ λd hd=>(ac d hd).v.n4
     have cm:=DN (j:=(i:Int)) ac (f3:=y.f3+1) zB b7;have hp:=h.v.p;have e4:=h.v.cp;have ey:=J.n;have ex:=H.n;have He:∀e∈(y.sv.getD i dd).en,-1<=e/\e<=y.f3+1:=λe he=>by have:=H.e e he;omega
     have HD:Rr y.c (y.sv.getD i dd) (jK (i:Int) (eQ (y.f3+1) y.ds R (ln y.ds))) (y.f3+1):=⟨hp.1,zB,zB,zB,zB,He,λx E=>(cm x E).1,λx E=>(cm x E).2,zB,zB⟩
     have kd:zM 58 [wH y.c,wK (y.c.js.getD i dd),wZ ((bB y.c y.sg (dF R (ln y.ds))).getD i dd),wU (y.sv.getD i dd),zE kD (jK (i:Int) (eQ (y.f3+1) y.ds R (ln y.ds))),iA (y.st.getD i dd),iA (y.f3+1)] [] (.tup [wZ (eO y R i).1,wU (eO y R i).2]) []:=
      vr y.c _ J _ H.c _ _ _ (y.f3+1) HD (by have:=Mb y.c (y.sv.getD i dd) (jK (i:Int) (eQ (y.f3+1) y.ds R (ln y.ds))) (y.f3+1) H.g;omega)
     have ko:=Mx (y.c.js.getD i dd) J (eO y R i).1 (L0 J H.c _ _ _ _ _) (eO y R i).2;have kc:=Fa y.c false (y.f3+1) (eQ (y.f3+1) y.ds R (ln y.ds)) i zB (λd hd=>(ac d hd).bd) b5 bz ((YR (eO y R) (bB y.c y.sg (dF R (ln y.ds))) i).map wZ) ((YS (eO y R) y.sv i).map wU) ((XY y.st i).map iA) (ln y.c.js) (ln y.c.js) (ln y.c.js) y.vw;have ef:=a2 (eO y R) i;have er:=a8 (eO y R) i;have ei:=a3 i;have eq:=a7 (eO y R) i;rw[eg,ev,ek,ew];clear eg ev ek ew bu b0 bx HD cm hC a2 a8 a3 a7 g2 H J eC M ac b7 bz b5 He a5;generalize (YR (eO y R) (bB y.c y.sg (dF R (ln y.ds))) i).map wZ=X,(YS (eO y R) y.sv i).map wU=Y,(XY y.st i).map iA=Z',(EP y.c.js (eO y R) i).map vO=W,eO y R i=p at *;generalize LQ (y.c.js.getD i dd) p.1 p.2=w at *;generalize jK (i:Int) (eQ (y.f3+1) y.ds R (ln y.ds))=l,(bB y.c y.sg (dF R (ln y.ds))).getD i dd=s,y.sv.getD i dd=v,y.st.getD i dd=k,y.c.js.getD i dd=j at *;unfold aH at kc;unfold wH at kd
     (have ga:=kd;have ge:=ko;(repeat' (first|refine jX ?_|apply yW|apply xG|intro hc|(apply zG;first|(refine vH 39 ?_;refine wJ (DM (zL kc Z Z Z Z Z) Z Z) Z ?_)|(apply yI;refine vE tok Z Z ?_))|refine SB ?_|fail))<;>clear ga ge)
     rfl
    .have l4:=a2 (eO y R) (ln y.c.js);have l5:=a8 (eO y R) (ln y.c.js);have l6:=a3 (ln y.c.js);have l7:=a7 (eO y R) (ln y.c.js);refine wL [4,5,6] [1,4,5,6,9,10,24,151,152] Z ?_
     (conv=>whnf)
     simp only[zBr,zA8];rw[zBf (l:=(YR (eO y R) (bB y.c y.sg (dF R (ln y.ds))) (ln y.c.js)).map wZ) (zDb l4),zBf (l:=(YS (eO y R) y.sv (ln y.c.js)).map wU) (zDb l5),zBf (l:=(XY y.st (ln y.c.js)).map iA) (zDb l6)];have hZ:=DG h M;have zn:(kG y R).f3=y.f3+1:=rfl;have zd:(kG y R).ds.length=ln y.ds:=fZ ..;have zR:∀a,a<ln y.ds->(kG y R).ds.getD a dd=(R a).d:=λa B=>aG B
     have eT:qO (kG y R)= .agg [zE wK y.c.js,zE uK y.c.ags,iA y.c.per,iA y.c.cap,iA y.c.hold,iA y.c.lock,bA false,iA (y.f3+1),.sl false ((kG y R).ds.map zN),.sl false ((kG y R).sg.map wZ),.sl false ((kG y R).sv.map wU),.sl false ((kG y R).st.map iA),.sl false ((kG y R).vw.map vO)]:=rfl;have cu:(kG y R).vw.length<=4:=by have:=hZ.wl;have:=hZ.v.j;omega
     have kf:=Xx (y.f3+1) (kG y R).vw zB hZ.wb;have kv:=Yx (QL (y.f3+1) (kG y R).vw) (rz _ _ zB zB cu hZ.wb)
     have cf:∀a k,zb (kG y R) u R (ln y.ds) a k=if(u.getD ((jE y.c.ags a).toNat+k) dd).opn=true then Gg ((kG y R).ds.getD a dd) (kG y R).vw (kG y R).f3 k (R a).R (XX R (ln y.ds))else []:=λ_ _=>rfl
     have cc:∀e∈XX R (ln y.ds),Dj e:=λe he=>by
      obtain⟨a,B,he⟩:=HC he;exact(M a B).1.en e he
     have eu:=UC a1 (ln y.ds);rw[show eQ (y.f3+1) y.ds R (ln y.ds)=(kG y R).ds from Z,show YR (eO y R) (bB y.c y.sg (dF R (ln y.ds))) (ln y.c.js)=(kG y R).sg from Z,show YS (eO y R) y.sv (ln y.c.js)=(kG y R).sv from Z,show XY y.st (ln y.c.js)=(kG y R).st from Z,show EP y.c.js (eO y R) (ln y.c.js)=(kG y R).vw from Z,eT,show∀T f,Ox T f= .agg [.sl false (T.map jC),zE zX [f]]from λ_ _=>rfl];have bf:=qr V G;have bk:=OP V G (ln y.c.ags) (zBa _);rw[<-b3]at bk;clear bu b0 bx a2 a8 a3 a7 ac b7 bz b5 hC g1 g2 l4 l5 l6 l7 a5 eC eT;generalize zb (kG y R) u R (ln y.ds)=I at *;generalize kG y R=z at *;generalize c2:QL (y.f3+1) z.vw=fm at *;clear c2;unfold zE at kf;refine yH (xU kf kv) ?_;refine zS 30 1051 1 Z Z Z ?_;have d9:=zA zN z.ds;rw[d9,zd];clear kf kv;refine zO (ln y.ds) [1051,4,5,6,29] [4,5,6,29] [1,4,5,6,9,10,24,29,215,216] [12,30,217,1,4,5,6,9,10,24,29,215,216] Z (λi T U=>⟨(12,iA (jE y.c.ags i))::(30,.ref 1051 0 ((SP y.c I i).map jC).length)::(217,iA i)::T,(1051,.arr 1 ((SP y.c I i).map jC) true)::U⟩) (Lq ?_ ?_)
     .intro a B;have b4:a<ln y.ds:=B;obtain⟨A,ap⟩:∃A:Nat,jE y.c.ags a=(A:Int):=⟨(jE y.c.ags a).toNat,by have:=qS V a zB;omega⟩;obtain⟨N,hN⟩:∃N:Nat,(y.c.ags.getD a dd).ses=(N:Int):=⟨(y.c.ags.getD a dd).ses.toNat,by have:=V.at (i:=a) zB;omega⟩;have ez:=V.at (i:=a) zB;have db:=qS V a zB
      have a6:jE y.c.ags (a+1)=((A+N:Nat):Int):=by
       show jE y.c.ags a+(y.c.ags.getD a dd).ses=_
       omega
      have e2:A+N<=(gj R (ln y.ds)).length:=by
       have:=OV V (show a+1<=ln y.c.ags by omega) (zBa _);rw[b3]at bk⊢;omega
      have av:=(M a b4).1;have hI:=hZ.di _ (yL z.ds a zB);have bb:=hI.au;rw[hZ.dg a zB]at bb;have d5:=zR a b4;have ce:=av.rv;have ec:=G a zB;have hy:=zJ zN z.ds a zB;have b6:=hI.a.q
      have cg:(z.ds.getD a dd).au.length=N:=by
       have:=av.i.au;rw[av.ag]at this;have e9:=h.dg a b4;rw[show(XV (y.ds.getD a dd) (y.f3+1)).rg.ag=(y.ds.getD a dd).rg.ag from Z,e9]at this;rw[d5];omega
      have a9:=Ii (z.ds.getD a dd) hI.bd b6 z.vw (y.f3+1) zB hZ.wb;have ea:=Rx (z.ds.getD a dd) b6 z.vw (y.f3+1) zB zB cu hZ.wb;have cy:=wr (y.f3+1) (XX R (ln y.ds)) zB;have eb:=D6 (y.f3+1) zB zB (XX R (ln y.ds)) cc;have ar:=λk (hk:k<N)=>bf (ln y.ds) zB a k zB zB
      have S:∀k,k<N->I a k=if(u.getD (A+k) dd).opn=true then Gg (z.ds.getD a dd) z.vw (y.f3+1) k (R a).R (XX R (ln y.ds))else []:=λk hk=>by
       rw[cf a k,ap,zn];rfl
      have fr:=YP V I a zB;rw[UB,show(y.c.ags.getD a dd).ses.toNat=N by omega,a6,ap,zBc];have cv:=zA jC (SP y.c I a);rw[ap]at ar;clear cf cc G M av hI zR bf bb;generalize (SP y.c I a).map jC=X,(R a).R=Ra at *;generalize dc:KQ (z.ds.getD a dd) z.vw (y.f3+1)=st0 at *;generalize dj:bj (y.f3+1) (XX R (ln y.ds))=ba at *;unfold Gg at S;rw[dc,dj]at S;generalize z.ds.getD a dd=d1 at *;have ax:(d1.au.map bA).length=N:=by rw[zA5];exact cg
      generalize XX R (ln y.ds)=es at *;unfold zN xD at hy a9;have cb:=λk (hk:k<N)=>zJ bA d1.au k zB
      unfold zE at hy;refine WW ?_;rw[ax];refine zO (N) [1051,4,5,6,29,32] [4,5,6,29,32] [1,4,5,6,9,10,24,29,32,215,216,217,222,223] [12,30,224,1,4,5,6,9,10,24,29,32,215,216,217,222,223] Z (λi T U=>⟨(12,iA ((A+i:Nat):Int))::(30,.ref 1051 0 (X++(OR I a i).map jC).length)::(224,iA i)::T,(1051,.arr 1 (X++(OR I a i).map jC) true)::U⟩) ?_;(conv=>whnf);refine⟨by(rw[show(OR I a 0).map jC=[]from Z,zB1];rfl),?_,?_⟩
      .intro k hk;have fo:((OR I a k).map jC).length=k:=by unfold OR;rw[zA5,zA5,zCp]
       have ft:=cb k hk;have cn:=ar k hk
       have d4:((gj R (ln y.ds)).map jC)[A+k]? =some (jC (Ra.getD k [])):=by
        rw[zJ jC (gj R (ln y.ds)) (A+k) zB];exact zBp (λq=>some (jC q)) cn
       have ck:(Ra.getD k []).length<=1000/\∀m∈Ra.getD k [],ZB m:=by
        refine ce _ ?_;rw[zBk,zB2 zB];exact zEz _
       rw[DH,zBc,show [I a k].map jC=[zE zX (I a k)]from Z,S k hk,<-zBx];have e0:(X++(OR I a k).map jC).length<=100:=by rw[zA9];omega
       clear S ar cb cn ce b6 hZ;generalize X++(OR I a k).map jC=O,d1.au.getD k dd=da,Ra.getD k []=r0 at *;by_cases hq:A+k<ln u
       .have cw:=zJ uT u (A+k) hq;generalize u.getD (A+k) dd=x at *;obtain⟨xo,xs⟩:=x;unfold uT at cw;unfold jC at d4;dsimp only at cw⊢;cases xo
        .rw[Os zBl]
         (repeat' (first|refine jX ?_|apply yW|apply xG|intro hc|(apply zG;first|(apply yI;refine ZW 272 Z Z Z ?_;refine vE tok Z Z ?_))|refine SB ?_|fail))
         rfl
        .rw[zA4 Z];have el:=zA zX r0;have ca:=me (r0.map zX) zB st0 ea;have cx:=me (r0.map zX++[zX st0]) Ax ba eb;refine WW ?_;refine zS 35 1053 4 Z Z Z ?_;refine zQ (r0) [1053,4,5,6,29,32,1051] [4,5,6,29,32,1051] [1,4,5,6,9,10,12,24,29,30,32,33,34,215,216,217,222,223,224,243,244] [35,245,1,4,5,6,9,10,12,24,29,30,32,33,34,215,216,217,222,223,224,243,244] Z (λi f4 T U=>⟨(35,.ref 1053 0 (f4.map zX).length)::(245,iA i)::T,(1053,.arr 4 (f4.map zX) true)::U⟩) (Lq ?_ ?_)
         .intro i f4 m post E hi;have d3:=zZ zX E hi;have c7:=zV E hi;have fq:=zA zX f4;have fp:ln f4<=ln r0:=by rw[E];simp
          have km:=me (f4.map zX) zB m (ck.2 m (yU E));rw[show(f4++[m]).map zX=f4.map zX++[zX m] by simp];clear E ca cx a9 cy;generalize f4.map zX=Y at *;unfold zX at d3 km;refine zU km ?_;rfl
         .clear ck;cases da
          .rw[show zE zX ((r0++[st0])++if false=true then [ba]else [])= .sl false (r0.map zX++[zX st0]) by simp[zE]];generalize r0.map zX=Y at*
           (have ga:=a9;have ge:=ca;(repeat' (first|refine jX ?_|apply yW|apply xG|intro hc|(apply zG;first|(apply yI;refine vX [4,5,6,29,32,1051] [1,4,5,6,9,10,12,24,29,30,32,215,216,217,222,223,224,271,272] Z ?_;(conv=>whnf);(try simp only[zBr,zA8]);refine vE tok Z Z ?_))|refine SB ?_|fail))<;>clear ga ge)
           rfl
          .rw[show zE zX ((r0++[st0])++if true=true then [ba]else [])= .sl false ((r0.map zX++[zX st0])++[zX ba]) by simp[zE]];generalize r0.map zX=Y at*
           (have ga:=a9;have ge:=ca;have gn:=cy;have gt:=cx;(repeat' (first|refine jX ?_|apply yW|apply xG|intro hc|(apply zG;first|(apply yI;refine vX [4,5,6,29,32,1051] [1,4,5,6,9,10,12,24,29,30,32,215,216,217,222,223,224,271,272] Z ?_;(conv=>whnf);(try simp only[zBr,zA8]);refine vE tok Z Z ?_))|refine SB ?_|fail))<;>clear ga ge gn gt)
           rfl
       .rw[show(u.getD (A+k) dd).opn=false by rw[zBk,zCi zB];rfl,Os zBl]
        (repeat' (first|refine jX ?_|apply yW|apply xG|intro hc|(apply zG;first|(apply yI;refine ZW 272 Z Z Z ?_;refine vE tok Z Z ?_))|refine SB ?_|fail))
        rfl
      ·(refine WW ?_)
       rfl
     .rw[b3];refine WW ?_;refine zI [] Z Z ?_ Z
      show AV.tup [_,AV.agg [.sl false (pb ((SP y.c I (ln y.c.ags)).map jC).length ((SP y.c I (ln y.c.ags)).map jC)),_]]=_
      rw[zA8];rfl
def jr (hb:BY b) (h:mj b=some p):(1<=p.2/\p.2<=ln b)/\(ln b<=100000->Js p.1):=by
 unfold mj at h;split at h
 .cases h
 rename_i z;split at h
 .cases h;exact⟨⟨zBa _,by dsimp only;omega⟩,λ_=>⟨jU,zBn _,by dsimp only;omega,by dsimp only;omega⟩⟩
 split at h
 .cases h
 split at h
 .cases h;exact⟨⟨zBa _,by dsimp only;omega⟩,λ_=>⟨jU,zBn _,by dsimp only;omega,by dsimp only;omega⟩⟩
 split at h
 .cases h
 split at h
 .cases h;exact⟨⟨zBa _,by dsimp only;omega⟩,λ_=>⟨jU,zBn _,by dsimp only;omega,by dsimp only;omega⟩⟩
 split at h
 .cases h;exact⟨⟨by dsimp only;omega,by dsimp only;omega⟩,λ_=>⟨jU,zBn _,by dsimp only;omega,by dsimp only;omega⟩⟩
 split at h
 .cases h;exact⟨⟨by dsimp only;omega,by dsimp only;omega⟩,λ_=>⟨jU,zBn _,by dsimp only;omega,by dsimp only;omega⟩⟩
 .cases h;rename_i hk;refine⟨⟨by dsimp only;omega,by dsimp only;omega⟩,λhl=>⟨λx u=>hb x (zCd (zCz u)),by dsimp only;rw[zBt,zB5];omega,?_,by dsimp only;omega⟩⟩;dsimp only;omega
def HA:Nat->List Int->List (It×Nat)
 |0,_=>[]
 |n+1,b=>match mj b with
  |none=>[]
  |some p=>p::HA n (b.drop p.2)
def Vx {n:Nat}:∀{b:List Int},BY b->ln b<=100000->∀p∈HA n b,Js p.1:=by
 induction n with
 |zero=>intro b _ _ p u;cases u
 | succ n B=>
  intro b hb hl p u;unfold HA at u;split at u
  .cases u
  .rename_i q z;have h:=jr hb z
   rcases zCt.1 u with rfl|u
   .exact h.2 hl
   .exact B (λx A=>hb x (zCd A)) CM p u
structure nr where
 t:Nat
 g:Bool
 its:List It
def dz (s:nr) (p:It×Nat):Bool:=decide (p.1.code=2)&&s.g
def HB (s:nr) (p:It×Nat):nr:=if dz s p=true then⟨s.t+p.2,s.g,s.its⟩else⟨s.t+p.2,decide (p.1.code=2)||(decide (p.1.code=7)||decide (p.1.code=4)),s.its++[p.1]⟩
def U9 (N:Nat) (s:nr) (p:It×Nat):Bool:=!dz s p&&decide (N<=ln s.its+1)
def DC (N:Nat):List (It×Nat)->nr->nr
 | [],s=>s
 |p::l,s=>if U9 N s p=true then HB s p else DC N l (HB s p)
theorem EO :∀(l:List (It×Nat)) (s:nr),ln s.its<N->(DC N l s).its.length<=N
 | [],s,h=>zFv h
 | p::l,s,h=>by
  unfold DC
  have h1:(HB s p).its.length<=ln s.its+1:=by
   unfold HB;split
   .dsimp only;omega
   .dsimp only;rw[zA9];simp
  split
  .omega
  .rename_i u;refine EO l _ ?_;unfold U9 at u;unfold HB;cases hc:dz s p
   .rw[hc]at u;rw[Os zBl];simp only[zE3,zBg,zBb]at u;dsimp only;rw[zA9];simp only[zBj,zCb];omega
   .rw[zA4 Z];exact h
theorem Kg {Pr:It->Prop}:∀(l:List (It×Nat)) (s:nr),(∀x∈s.its,Pr x)->(∀p∈l,Pr p.1)->∀x∈(DC N l s).its,Pr x
 | [],s,h,_=>h
 | p::l,s,h,hl=>by
  have h1:∀x∈(HB s p).its,Pr x:=by
   unfold HB;split
   .exact h
   .intro x u
    rcases zBq.1 u with u|u
    .exact h x u
    .rw[zBz.1 u];exact hl p zW
  unfold DC;split
  .exact h1
  .exact Kg l _ h1 λq z=>hl q (by simp[z])
def cz (b:List Int) (g:Bool):AV:= .agg [zE yA b,bA g]
def aE (s:Ss):Ss×In:=if s.op=true then(⟨true,false,s.bf.drop (DC 4 (HA (ln s.bf) s.bf) ⟨0,s.gb,[]⟩).t,(DC 4 (HA (ln s.bf) s.bf) ⟨0,s.gb,[]⟩).g⟩,⟨true,(if s.dr=true then [⟨15,0,[]⟩]else [])++(DC 4 (HA (ln s.bf) s.bf) ⟨0,s.gb,[]⟩).its⟩)else(s,⟨false,[]⟩)
structure p6 (s:Ss):Prop where
 y:BY s.bf
 n:s.bf.length<=256
def mr {s:Ss} (h:p6 s):p6 (aE s).1/\DL (aE s).2:=by
 have B:=h.n;unfold aE;split
 .refine⟨⟨λx u=>h.y x (zCd u),by dsimp only;rw[zB5];omega⟩,?_⟩;have A:=EO (N:=4) (HA (ln s.bf) s.bf) ⟨0,s.gb,[]⟩ (by show 0<4;omega);have z:=Kg (N:=4) (Pr:=Js) (HA (ln s.bf) s.bf) ⟨0,s.gb,[]⟩ (λx u=>by cases u) (Vx h.y zB);generalize DC 4 (HA (ln s.bf) s.bf) ⟨0,s.gb,[]⟩=r at *;refine⟨?_,λx u=>?_⟩
  .dsimp only;rw[zA9];split
   .simp only[zBj,zCb];omega
   .simp only[zCb];omega
  .rcases zBq.1 u with u|u
   .split at u
    .rw[zBz.1 u];exact⟨jU,zBn _,by dsimp only;omega,by dsimp only;omega⟩
    .cases u
   .exact z x u
 .exact⟨h,zBn _,λx u=>by cases u⟩
def o6 {s:Ss} (h:p6 s) {x:List Int} (z:BY x):p6 (tc s x):=by
 refine⟨?_,Lt h.n x⟩;unfold tc;split
 .intro y u
  rcases zBq.1 u with u|u
  .exact h.y y u
  .exact z y (zCz u)
 .exact h.y
theorem Ca (h:mj b=some p) (hc:p.1.code=0):p=(⟨0,b.getD 3 0,(b.drop 6).take (SU b)⟩,SU b+10)/\SU b+10<=ln b:=by grind [mj,SU]
theorem Ux {q:It×Nat} (h:mj b=some q) (hc:q.1.code=0):b.getD 0 0=90/\b.getD 1 0=165/\SU b<=200/\QM ((b.drop 2).take (SU b+4))=wh ((b.drop (SU b+6)).take 4)/\b.getD 2 0=1/\1<=b.getD 3 0/\b.getD 3 0<=22:=by
 have A:=Ca h hc;unfold mj at h;by_cases u:ln b=0
 .grind
 rw[Os u]at h;by_cases z:b.getD 0 0≠90\/(1<ln b/\b.getD 1 0≠165)
 all_goals grind
def zA3 {a b c d:Int} (u:0<=a/\a<256) (hb:0<=b/\b<256) (hc:0<=c/\c<256) (hd:0<=d/\d<256):wh [a,b,c,d]=((a*256+b)*256+c)*256+d:=by
 unfold wh;simp only[List.foldl_cons,List.foldl_nil];rw[SH (n:=0) (x:=a) ⟨zB,zB⟩ u,SH (n:=0*256+a) (x:=b) ⟨zB,zB⟩ hb,SH (n:=(0*256+a)*256+b) (x:=c) ⟨zB,zB⟩ hc,SH (n:=((0*256+a)*256+b)*256+c) (x:=d) ⟨zB,zB⟩ hd];omega
def i6 (a c k:Nat) (hc:c<2 ^ k) (h:a*2 ^ k+c<4294967296):Ur ((a*2 ^ k:Nat):Int) (c:Int)=((a*2 ^ k+c:Nat):Int):=by
 have u:=zEp hc a;rw[zGl]at u;rw[Og (a*2 ^ k) c zB zB,<-u]
def or4 {a b c d:Int} (u:0<=a/\a<256) (hb:0<=b/\b<256) (hc:0<=c/\c<256) (hd:0<=d/\d<256):Ur (Ur (Ur (IntKind.u32.wrap (a*2 ^ (min (24:Int).toNat IntKind.u32.bits))) (IntKind.u32.wrap (b*2 ^ (min (16:Int).toNat IntKind.u32.bits)))) (IntKind.u32.wrap (c*2 ^ (min (8:Int).toNat IntKind.u32.bits)))) d=wh [a,b,c,d]:=by
 have w:∀(x y:Int) (k:Nat),0<=x/\x<256->(2:Int) ^ k=y->0<=x*y/\x*y<4294967296->IntKind.u32.wrap (x*2 ^ k)=x*y:=λx y k _ h1 h2=>by rw[h1];exact u32_in h2
 rw[zA3 u hb hc hd,w a 16777216 _ u xA zB,w b 65536 _ hb xA zB,w c 256 _ hc xA zB];obtain⟨a,rfl⟩:=zCy u.1;obtain⟨b,rfl⟩:=zCy hb.1;obtain⟨c,rfl⟩:=zCy hc.1;obtain⟨d,rfl⟩:=zCy hd.1;have s:∀(x y z:Int) (m n k:Nat),x=((m*2 ^ k:Nat):Int)->y=(n:Int)->n<2 ^ k->m*2 ^ k+n<4294967296->z=((m*2 ^ k+n:Nat):Int)->Ur x y=z:=λx y z m n k e1 A h1 h2 e3=>by rw[e1,A,e3];exact i6 m n k h1 h2
 rw[s ((a:Int)*16777216) ((b:Int)*65536) ((a:Int)*16777216+b*65536) a (b*65536) 24 zB zB zB zB zB,
  s ((a:Int)*16777216+b*65536) ((c:Int)*256) ((a:Int)*16777216+b*65536+c*256) (a*256+b) (c*256) 16 zB zB zB zB zB,
  s ((a:Int)*16777216+b*65536+c*256) (d:Int) ((a:Int)*16777216+b*65536+c*256+d) ((a*256+b)*256+c) d 8 zB zB zB zB zB]
 omega
theorem pz (l:List Int) (i:Nat) (h:i+4<=ln l):(l.drop i).take 4=[l.getD i 0,l.getD (i+1) 0,l.getD (i+2) 0,l.getD (i+3) 0]:=by apply zCe<;>grind [List.getElem?_eq_getElem]
def lr (b:List Int) (hb:BY b) (hl:ln b<=1000000) {q:It×Nat} (C:mj b=some q) (hc:q.1.code=0):zM 216 [zE yA b] [] (.tup [vQ q.1,iA q.2,bA true]) []:=by
 have M:=zA yA b;obtain⟨W,Y,iN,E,i2,i3,i4⟩:=Ux C hc;obtain⟨I,hn⟩:=Ca C hc;rw[I];clear I C hc;obtain⟨y0,_⟩:=KZ b hb 0 zB;obtain⟨y1,_⟩:=KZ b hb 1 zB;obtain⟨y2,_⟩:=KZ b hb 2 zB;obtain⟨y3,z3⟩:=KZ b hb 3 zB;obtain⟨y4,z4⟩:=KZ b hb 4 zB;obtain⟨y5,z5⟩:=KZ b hb 5 zB;obtain⟨y6,z6⟩:=KZ b hb (SU b+6) zB;obtain⟨y7,z7⟩:=KZ b hb (SU b+7) zB;obtain⟨y8,z8⟩:=KZ b hb (SU b+8) zB;obtain⟨y9,z9⟩:=KZ b hb (SU b+9) zB;rw[W]at y0;rw[Y]at y1;rw[i2]at y2;have u:=or8 z4 z5;have B:b.getD 4 0*256+b.getD 5 0=(SU b:Int):=by unfold SU;omega
 rw[B]at u;rw[pz b (SU b+6) zB]at E;have S:=or4 z6 z7 z8 z9;have U:=nk ((b.drop 2).take (SU b+4));have G:∀i k,BY ((b.drop i).take k):=λi k x V=>hb x (zCd (zCz V))
 generalize b.getD 4 0=x4,b.getD 5 0=x5 at *;generalize hN:SU b=N at *;have A:=Lb ((b.drop 2).take (N+4)) zy (G _ _);rw[E]at A
 have e1:((b.map yA).drop (2:Int).toNat).take (((N:Int)+6).toNat-(2:Int).toNat)=((b.drop 2).take (N+4)).map yA:=by
  rw[zEj,zD0,show((N:Int)+6).toNat-(2:Int).toNat=N+4 by omega];rfl
 have e3:((b.map yA).drop (6:Int).toNat).take (((N:Int)+6).toNat-(6:Int).toNat)=((b.drop 6).take N).map yA:=by
  rw[zEj,zD0,show((N:Int)+6).toNat-(6:Int).toNat=N by omega];rfl
 have R:(((b.drop 6).take N).map yA).length=N:=by rw[zA5,zBt,zB5];omega
 have O:∀y,(((b.drop 6).take N).map yA)[0]? =some y->ln y.cells=1:=yM _ _ (λ_=>rfl);clear E;generalize (b.drop 2).take (N+4)=B1,(b.drop 6).take N=L at *;clear G U;generalize b.getD 3 0=x3,b.getD (N+6) 0=x6,b.getD (N+7) 0=x7,b.getD (N+8) 0=x8,b.getD (N+9) 0=x9 at *;refine eM call216 λF hF=>?_
 (repeat' (first|(apply zG;first|((apply wR;first|refine wJ (aR Z Z) Z ?_|refine wJ (PJ Z Z) Z ?_);(try rw[u]);(try rw[S]))|refine PT ?_|(apply xP;(first|(refine vH 261 ?_;first|refine wJ (zL (A) Z Z Z Z Z) Z ?_|refine uX (zL (A) Z Z Z Z Z) Z Z Z ?_|refine aK (zL (A) Z Z Z Z Z) Z Z Z ?_)))|refine SL ?_|refine SB ?_)|refine SG (I2 (λhc=>?_) λhc=>?_)|refine SG λhc=>?_|first|refine SR ?_|refine SK (I2 (λhc=>?_) λhc=>?_)|refine SK λhc=>?_|fail))
 exact zI [] Z Z (zBp (λz=>AV.tup [.agg [iA 0,iA x3,zE yA L],iA z,bA true]) (show(N:Int)+10=((N+10:Nat):Int) by omega)) Z
theorem sr (b:List Int) (hb:BY b) (hl:ln b<=1000000):zM 216 [zE yA b] [] (Iz (mj b)) []:=by
 by_cases u:∃q,mj b=some q/\q.1.code=0
 .obtain⟨q,Y,hc⟩:=u;rw[Y];exact lr b hb hl Y hc
 have ac:=zA yA b;unfold mj at u⊢;by_cases R:ln b=0
 .rw[zA4 R];refine eM call216 λF hF=>?_
  exact ly
 rw[Os R]at u⊢;obtain⟨M,z0⟩:=KZ b hb 0 zB;by_cases h1:b.getD 0 0=90
 case neg=>
  rw[zA4 (.inl h1)];generalize b.getD 0 0=x0 at *;refine eM call216 λF hF=>?_
  exact ly
 by_cases h2:1<ln b
 case neg=>
  rw[Os (λh=>h.elim (λh=>h h1) (λh=>h2 h.1)),zA4 zB];rw[h1]at M;refine eM call216 λF hF=>?_
  exact ly
 obtain⟨y1,z1⟩:=KZ b hb 1 h2;by_cases E:b.getD 1 0=165
 case neg=>
  rw[zA4 (.inr ⟨h2,E⟩)];rw[h1]at M;generalize b.getD 1 0=x1 at *;refine eM call216 λF hF=>?_
  exact ly
 rw[Os (λh=>h.elim (λh=>h h1) (λh=>h.2 E))]at u⊢;rw[h1]at M;rw[E]at y1;clear z0 z1 h1 E;by_cases S:ln b<6
 .rw[zA4 S];refine eM call216 λF hF=>?_
  exact ly
 rw[Os S]at u⊢;obtain⟨y4,z4⟩:=KZ b hb 4 zB;obtain⟨y5,z5⟩:=KZ b hb 5 zB;have A:=or8 z4 z5;have I:b.getD 4 0*256+b.getD 5 0=(SU b:Int):=by unfold SU;omega
 rw[I]at A;generalize b.getD 4 0=x4,b.getD 5 0=x5 at *;generalize hN:SU b=N at *;by_cases U:200<N
 .rw[zA4 U];refine eM call216 λF hF=>?_
  (repeat' (first|(apply zG;first|((apply wR;refine wJ (aR Z Z) Z ?_);rw[A])|refine PT ?_|(apply xP;fail)|refine SM ?_|refine SB ?_)|refine SG (I2 (λhc=>?_) λhc=>?_)|refine SG λhc=>?_|first|refine SR ?_|refine SK (I2 (λhc=>?_) λhc=>?_)|refine SK λhc=>?_|fail))
  exact zH
 rw[Os U]at u⊢;by_cases V:ln b<N+10
 .rw[zA4 V];refine eM call216 λF hF=>?_
  (repeat' (first|(apply zG;first|((apply wR;refine wJ (aR Z Z) Z ?_);rw[A])|refine PT ?_|(apply xP;fail)|refine SM ?_|refine SB ?_)|refine SG (I2 (λhc=>?_) λhc=>?_)|refine SG λhc=>?_|first|refine SR ?_|refine SK (I2 (λhc=>?_) λhc=>?_)|refine SK λhc=>?_|fail))
  exact zH
 rw[Os V]at u⊢;have O:∀i k,BY ((b.drop i).take k):=λi k x hx=>hb x (zCd (zCz hx))
 have C:=Lb ((b.drop 2).take (N+4)) zy (O _ _)
 have e1:((b.map yA).drop (2:Int).toNat).take (((N:Int)+6).toNat-(2:Int).toNat)=((b.drop 2).take (N+4)).map yA:=by
  rw[zEj,zD0,show((N:Int)+6).toNat-(2:Int).toNat=N+4 by omega];rfl
 obtain⟨y6,z6⟩:=KZ b hb (N+6) zB;obtain⟨y7,z7⟩:=KZ b hb (N+7) zB;obtain⟨y8,z8⟩:=KZ b hb (N+8) zB;obtain⟨y9,z9⟩:=KZ b hb (N+9) zB;obtain⟨y2,z2⟩:=KZ b hb 2 zB;obtain⟨y3,z3⟩:=KZ b hb 3 zB;have L:=or4 z6 z7 z8 z9;rw[pz b (N+6) zB]at u⊢;generalize (b.drop 2).take (N+4)=B1 at *;clear O;generalize b.getD 2 0=x2,b.getD 3 0=x3,b.getD (N+6) 0=x6,b.getD (N+7) 0=x7,b.getD (N+8) 0=x8,b.getD (N+9) 0=x9,QM B1=u1 at *;generalize wh [x6,x7,x8,x9]=u2 at *;by_cases G:u1=u2
 case neg=>
  rw[zA4 G];have G:u2≠u1:=λh=>G h.symm
  clear u;refine eM call216 λF hF=>?_
  (repeat' (first|(apply zG;first|((apply wR;first|refine wJ (aR Z Z) Z ?_|refine wJ (PJ Z Z) Z ?_);(try rw[A]);(try rw[L]))|refine PT ?_|(apply xP;(first|(refine vH 261 ?_;first|refine wJ (zL (C) Z Z Z Z Z) Z ?_|refine uX (zL (C) Z Z Z Z Z) Z Z Z ?_|refine aK (zL (C) Z Z Z Z Z) Z Z Z ?_)))|refine SM ?_|refine SB ?_)|refine SG (I2 (λhc=>?_) λhc=>?_)|refine SG λhc=>?_|first|refine SR ?_|refine SK (I2 (λhc=>?_) λhc=>?_)|refine SK λhc=>?_|fail))
  exact zH
 subst G;rw[Os (λh=>h Z)]at u⊢;by_cases W:x2=1
 case neg=>
  rw[zA4 W];clear u;refine eM call216 λF hF=>?_
  (repeat' (first|(apply zG;first|((apply wR;first|refine wJ (aR Z Z) Z ?_|refine wJ (PJ Z Z) Z ?_);(try rw[A]);(try rw[L]))|refine PT ?_|(apply xP;(first|(refine vH 261 ?_;first|refine wJ (zL (C) Z Z Z Z Z) Z ?_|refine uX (zL (C) Z Z Z Z Z) Z Z Z ?_|refine aK (zL (C) Z Z Z Z Z) Z Z Z ?_)))|refine SM ?_|refine SB ?_)|refine SG (I2 (λhc=>?_) λhc=>?_)|refine SG λhc=>?_|first|refine SR ?_|refine SK (I2 (λhc=>?_) λhc=>?_)|refine SK λhc=>?_|fail))
  exact zI [] Z Z (zBp (λz=>AV.tup [.agg [iA 3,iA 0,.sl false []],iA z,bA true]) (show(N:Int)+10=((N+10:Nat):Int) by omega)) Z
 rw[Os (λh=>h W)]at u⊢;by_cases B:x3<1\/22<x3
 .rw[zA4 B];clear u
  rcases B with B|B
  all_goals
   refine eM call216 λF hF=>?_
   (repeat' (first|(apply zG;first|((apply wR;first|refine wJ (aR Z Z) Z ?_|refine wJ (PJ Z Z) Z ?_);(try rw[A]);(try rw[L]))|refine PT ?_|(apply xP;(first|(refine vH 261 ?_;first|refine wJ (zL (C) Z Z Z Z Z) Z ?_|refine uX (zL (C) Z Z Z Z Z) Z Z Z ?_|refine aK (zL (C) Z Z Z Z Z) Z Z Z ?_)))|refine SM ?_|refine SB ?_)|refine SG (I2 (λhc=>?_) λhc=>?_)|refine SG λhc=>?_|first|refine SR ?_|refine SK (I2 (λhc=>?_) λhc=>?_)|refine SK λhc=>?_|fail))
   exact zI [] Z Z (zBp (λz=>AV.tup [.agg [iA 5,iA 0,.sl false []],iA z,bA true]) (show(N:Int)+10=((N+10:Nat):Int) by omega)) Z
 .rw[Os B]at u;exact absurd ⟨_,rfl,rfl⟩ u
def Z6 (b:List Int) (hl:ln b<=256) (g:Bool) (x:List Int) (E:ln x<=1000000):zM 165 [cz b g,zE yA x] [] (.tup [cz (b++x.take (UU (ln b) (ln x))) g,bA (decide (UU (ln b) (ln x)=ln x))]) []:=by
 have z:=zA yA b;have u:=zA yA x;have C:UU (ln b) (ln x)<=ln x/\b.length+UU (ln b) (ln x)<=256:=by unfold UU;omega
 have e1:min ((ln x:Nat):Int) (256-((ln b:Nat):Int))=((UU (ln b) (ln x):Nat):Int):=by unfold UU;omega
 have B:zE yA (b++x.take (UU (ln b) (ln x)))= .sl false (b.map yA++(x.take (UU (ln b) (ln x))).map yA):=by unfold zE;rw[zBc]
 unfold cz;rw[B];generalize UU (ln b) (ln x)=f at *;refine eM call165 λF hF=>?_
 (repeat' (first|refine AF ?_|apply yW|apply xG|intro hc|(apply zG;first|refine SM ?_)|fail))
 rw[z,u,e1]
 (repeat' (first|refine uQ ?_|apply yW|apply xG|intro hc|(apply zG;first|(apply yD;refine xH 1001 tok Z Z Z Z Z Z (yM _ _ (λ_=>rfl)) Z Z Z zB Z Z Z ?_))|fail))
 refine zI [] Z Z ?_ Z
 show AV.tup [AV.agg [AV.sl false (pb (b.map yA++(x.take f).map yA).length (b.map yA++(x.take f).map yA)),bA g],bA (vW .eql (f:Int) ((x.map yA).length:Int))]=_
 rw[zA8,u,show vW .eql (f:Int) (ln x:Int)=decide (f=ln x) by
  by_cases A:f=ln x
  .rw[A];simp[vW]
  .have:(f:Int)≠(ln x:Int):=by omega
   simp[vW,A,this]]
def OQ (s:Ss) (h:ln s.bf<=1000):zM 164 [dE s] [] (dE s) []:=by
 have hl:=zA yA s.bf;unfold dE;refine eM call164 λF hF=>?_
 refine WL ?_;refine zI [] Z Z ?_ Z;rfl
def tr (s:Ss) (hl:ln s.bf<=1000):zM 100 [dE s] [] (dE (if s.op=true then s else⟨true,false,[],false⟩)) []:=by
 obtain⟨op,A,z,B⟩:=s;dsimp only at hl⊢;have u:=OQ ⟨op,A,z,B⟩ hl;cases op
 .rw[Os zBl];unfold dE at *;refine eM call100 λF hF=>?_
  exact mx u
 .rw[zA4 Z];unfold dE at *;refine eM call100 λF hF=>?_
  exact mx u
def Zr (s:Ss):zM 101 [dE s] [] (dE ⟨false,false,[],false⟩) []:=by
 unfold dE;refine eM call101 λF hF=>?_
 exact ly
def Tx (s:Ss) (hl:ln s.bf<=256) (x:List Int) (G:ln x<=1000000):zM 102 [dE s,zE yA x] [] (dE (tc s x)) []:=by
 obtain⟨op,B,A,E⟩:=s;dsimp only at hl;have C:=OQ ⟨op,B,A,E⟩ NH;have u:=Z6 A hl E x G;unfold tc;dsimp only;unfold cz at u;cases op
 .rw[Os zBl];unfold dE at *;refine eM call102 λF hF=>?_
  exact mx C
 .rw[zA4 Z];unfold dE at *;cases z:decide (UU (ln A) (ln x)=ln x)
  .rw[z]at u;rw[zA7 (zFi z),zEs];cases B
   all_goals
    refine eM call102 λF hF=>?_
    exact mt (xU C u)
  .rw[z]at u;rw[zA6 (λh=>h (zEx z)),zGc];cases B
   all_goals
    refine eM call102 λF hF=>?_
    exact mt (xU C u)
def T9 (b:List Int) (N:Nat) (R s:nr) (m:Nat):Prop:=s.t<=ln b/\b.length<=m+s.t/\((ln s.its<N/\DC N (HA m (b.drop s.t)) s=R)\/(ln s.its=N/\s=R))
theorem T9.next {R s:nr} {m:Nat} {p:It×Nat} (C:1<=p.2/\p.2<=ln b-s.t) (E:s.t<=ln b) (B:ln b<=m+1+s.t) (A:ln s.its<N) (z:DC N (p::HA m (b.drop (s.t+p.2))) s=R):T9 b N R (HB s p) m:=by
 have e:(HB s p).t=s.t+p.2:=by unfold HB;split<;>rfl
 refine⟨zB,zB,?_⟩;unfold DC at z;rw[e];by_cases u:U9 N s p=true
 .rw[zA4 u]at z;refine .inr ⟨?_,z⟩;unfold U9 at u;simp only[zBe,zDm,zBb]at u;unfold HB;rw[Os (by rw[u.1];exact zBl)]
  show(s.its++[p.1]).length=N
  rw[zA9,zDa];omega
 .rw[Os u]at z;refine .inl ⟨?_,z⟩;unfold U9 at u;unfold HB;cases hc:dz s p
  .rw[hc]at u;rw[Os zBl];simp only[zE3,zBg,zBb]at u
   show(s.its++[p.1]).length<N
   rw[zA9,zDa];omega
  .rw[zA4 Z];exact A
theorem Yr (b:List Int) (hb:BY b) (hl:ln b<=1000) (g:Bool) (N:Nat) (hN:1<=N/\N<=1000):zM 166 [cz b g,iA N] []
  (.tup [cz (b.drop (DC N (HA (ln b) b) ⟨0,g,[]⟩).t) (DC N (HA (ln b) b) ⟨0,g,[]⟩).g,zE vQ (DC N (HA (ln b) b) ⟨0,g,[]⟩).its]) []:=by
 have ac:=zA yA b;have h0:T9 b N (DC N (HA (ln b) b) ⟨0,g,[]⟩) ⟨0,g,[]⟩ (ln b):=⟨zBn _,zBa _,.inl ⟨by show 0<N;omega,rfl⟩⟩;generalize DC N (HA (ln b) b) ⟨0,g,[]⟩=R at *;unfold cz;refine eM call166 λF hF=>?_
 refine WW ?_;refine zS 6 1001 3 Z Z Z ?_;refine gE (ln b) [1001,2,4] [2,4] [1,2,4] [6,7,8,1,2,4] Z (λM T U zs=>∃(s:nr) (m:Nat),(T9 b N R s m/\M=m)/\zs=⟨(6,.ref 1001 0 (s.its.map vQ).length)::(7,iA s.t)::(8,bA s.g)::T,(1001,.arr 3 (s.its.map vQ) true)::U⟩) ?_;(conv=>whnf);refine⟨?_,?_⟩
 .exact⟨⟨0,g,[]⟩,ln b,⟨h0,rfl⟩,rfl⟩
 rintro M st ⟨s,m,⟨⟨ht,hm,hI⟩,rfl⟩,rfl⟩;have ag:=zA vQ s.its
 rcases hI with⟨L,G⟩|⟨L,rfl⟩
 case inr=>
  refine WL ?_;refine zI [] Z Z ?_ Z
  show AV.tup [AV.agg [.sl false ((b.drop s.t).map yA),bA s.g],.sl false (pb (s.its.map vQ).length (s.its.map vQ))]=_
  rw[zA8];rfl
 have A:=sr (b.drop s.t) (λx V=>hb x (zCd V)) CM
 cases I:mj (b.drop s.t)with
 | none=>
  rw[I]at A
  have S:s=R:=by
   rw[<-G]
   cases M with
   |zero=>rfl
   |succ m=>unfold HA;rw[I];rfl
  subst S;unfold Iz at A;dsimp only at A;refine UA A ?_;refine zI [] Z Z ?_ Z
  show AV.tup [AV.agg [.sl false ((b.drop s.t).map yA),bA s.g],.sl false (pb (s.its.map vQ).length (s.its.map vQ))]=_
  rw[zA8];rfl
 | some q=>
  rw[I]at A;obtain⟨⟨q1,q2⟩,_⟩:=jr (λx V=>hb x (zCd V)) I;rw[zB5]at q2;obtain⟨m,rfl⟩:∃m,M=m+1:=⟨M-1,zB⟩;unfold HA at G;rw[I]at G;dsimp only at G;rw[List.drop_drop]at G;unfold Iz at A;dsimp only at A;have E:=T9.next ⟨q1,q2⟩ ht zB L G;obtain⟨⟨u,z,B⟩,n⟩:=q;dsimp only at *;have W:s.t+n<=1000:=by omega
  have O:(s.its++[(⟨u,z,B⟩:It)]).map vQ=s.its.map vQ++[vQ ⟨u,z,B⟩]:=by simp
  clear G I;by_cases h2:u=2
  .cases hg:s.g
   .have e:HB s (⟨u,z,B⟩,n)=⟨s.t+n,true,s.its++[⟨u,z,B⟩]⟩:=by simp[HB,dz,hg,h2]
    rw[e]at E;generalize s.its.map vQ=Y at *;unfold vQ at *;dsimp only at *;refine UA A ?_;exact⟨m,zB,⟨s.t+n,true,s.its++[⟨u,z,B⟩]⟩,m,⟨E,rfl⟩,by dsimp only;rw[O];rfl⟩
   .have e:HB s (⟨u,z,B⟩,n)=⟨s.t+n,true,s.its⟩:=by simp[HB,dz,hg,h2]
    rw[e]at E;unfold vQ at A;dsimp only at *;refine UA A ?_;exact⟨m,zB,⟨s.t+n,true,s.its⟩,m,⟨E,rfl⟩,rfl⟩
  .by_cases C:u=7\/u=4
   .have e:HB s (⟨u,z,B⟩,n)=⟨s.t+n,true,s.its++[⟨u,z,B⟩]⟩:=by
     rcases C with C|C<;>simp[HB,dz,C]
    rw[e]at E;generalize s.its.map vQ=Y at *;unfold vQ at *;dsimp only at*
    rcases C with C|C
    all_goals
     refine UA A ?_;exact⟨m,zB,⟨s.t+n,true,s.its++[⟨u,z,B⟩]⟩,m,⟨E,rfl⟩,by dsimp only;rw[O];rfl⟩
   .have h7:¬u=7:=λh=>C (.inl h)
    have h4:¬u=4:=λh=>C (.inr h)
    have e:HB s (⟨u,z,B⟩,n)=⟨s.t+n,false,s.its++[⟨u,z,B⟩]⟩:=by simp[HB,dz,h2,h7,h4]
    rw[e]at E;generalize s.its.map vQ=Y at *;unfold vQ at *;dsimp only at *;refine UA A ?_;exact⟨m,zB,⟨s.t+n,false,s.its++[⟨u,z,B⟩]⟩,m,⟨E,rfl⟩,by dsimp only;rw[O];rfl⟩
def Xr (s:Ss) (hb:BY s.bf) (hl:ln s.bf<=1000):zM 103 [dE s] [] (.tup [dE (aE s).1,uT (aE s).2]) []:=by
 obtain⟨op,B,u,z⟩:=s;dsimp only at hb hl;have G:=OQ ⟨op,B,u,z⟩ hl;have A:=Yr u hb hl z 4 zB;have C:=EO (N:=4) (HA (ln u) u) ⟨0,z,[]⟩ (by show 0<4;omega);unfold aE;dsimp only;generalize DC 4 (HA (ln u) u) ⟨0,z,[]⟩=r at *;have E:=zA vQ r.its;unfold cz at A;cases op
 .rw[Os zBl];unfold dE at *;unfold uT;refine eM call103 λF hF=>?_
  exact mx G
 .rw[zA4 Z];unfold dE at *;unfold uT;cases B
  .rw[Os zBl,zEf];refine eM call103 λF hF=>?_
   refine zU A ?_;refine Pb 27 1055 3 Z Z Z ?_;refine WW ?_;refine zI [] Z Z ?_ Z
   show AV.tup [_,AV.agg [_,AV.sl false (pb (r.its.map vQ).length (r.its.map vQ))]]=_
   rw[zA8];rfl
  .rw[zA4 Z,show zE vQ ([⟨15,0,[]⟩]++r.its)= .sl false ([.agg [iA 15,iA 0,zE yA []]]++r.its.map vQ) by unfold zE;rw[zBc];rfl];refine eM call103 λF hF=>?_
   (have ga:=A;(repeat' (first|refine jX ?_|apply yW|apply xG|intro hc|(apply zG;first|(apply yI;refine ZW 18 Z Z Z ?_;refine vE tok Z Z ?_))|refine SB ?_|fail))<;>clear ga)
   refine Pb 17 1055 3 Z Z Z ?_
   (have ga:=A;(repeat' (first|refine uQ ?_|apply yW|apply xG|intro hc|(apply zG;first|refine SM ?_)|fail))<;>clear ga)
   refine zI [] Z Z ?_ Z
   show AV.tup [_,AV.agg [_,AV.sl false (pb ([AV.agg [iA 15,iA 0,zE yA []]]++r.its.map vQ).length ([AV.agg [iA 15,iA 0,zE yA []]]++r.its.map vQ))]]=_
   rw[zA8];rfl
section
open Classical in
noncomputable def Jg (m:Ms):List Int:=if h:ZB m then Kb m.kind (ZG h.2).choose else []
def oz (m:Ms) (h:ZB m):((Jg m).length<=300/\(m.args≠[]->∃q:List Int,Jg m=90::165::1::m.kind::q/\7<=ln q))/\JC [zX m] [] (.tup [zE yA (Jg m),iA 0]) []:=by
 have B:=(ZG h.2).choose_spec;have e:Jg m=Kb m.kind (ZG h.2).choose:=by unfold Jg;rw[zGg h]
 rw[e];generalize (ZG h.2).choose=p at *;obtain⟨h1,h2,u⟩:=B;obtain⟨k,L,C,E⟩:=m;obtain⟨z,G⟩:=h;dsimp only at *;subst z;refine⟨⟨?_,λA=>?_⟩,u⟩
 .simp only[Kb,Ix,zBj,zA9,zA5,zCp];have:(HJ k (ln p)).length<=10:=by unfold HJ;simp
  have:=h2.1;omega
 .refine⟨0::(ln p:Int)::(p++Ix (QM (HJ k (ln p)++p))),by simp[Kb,HJ],?_⟩;have I:=h2.2 A;simp only[Ix,zBj,zA9,zA5,zCp];omega
noncomputable def PG (l:List Ms):List Int:=(l.map Jg).flatten
def Wr (l:List Ms) (m:Ms):PG (l++[m])=PG l++Jg m:=by simp[PG]
theorem Ig:∀{l:List Ms},(∀m∈l,ZB m)->(PG l).length<=300*ln l
 | [],_=>zBn _
 |m::l,h=>by
  have h1:=(oz m (h m zW)).1.1;have h2:=Ig (l:=l) λx u=>h x (by simp[u])
  have e:PG (m::l)=Jg m++PG l:=rfl;rw[e,zA9,zBj];omega
structure PH where
 y:Cy
 ss:List Ss
def Ba (y:Cy) (s:AV):AV:= .agg [zE wK y.c.js,zE uK y.c.ags,iA y.c.per,iA y.c.cap,iA y.c.hold,iA y.c.lock,bA false,iA y.f3,zE zN y.ds,zE wZ y.sg,zE wU y.sv,zE iA y.st,zE vO y.vw,s]
def VW (b:PH):AV:=Ba b.y (zE dE b.ss)
structure Hg (b:PH):Prop where
 y:KR b.y
 l:(b.ss.length:Int)=jE b.y.c.ags b.y.c.ags.length
 s:∀s∈b.ss,p6 s
def F9 (S:List (List Int)) (f:List Int):AV:= .agg [zE (zE yA) S,zE yA f]
def ZE (u:List Ss):List In:=u.map λs=>(aE s).2
def VX (u:List Ss) (i:Nat):List Ss:=ZA (λ_ s=>(aE s).1) u i
end
section
open Classical in
noncomputable def Y6 (m:Ms):List Int:=if h:ZB m then(ZG h.2).choose else []
def X6 {m:Ms} (h:ZB m):Jg m=Kb m.kind (Y6 m)/\(BY (Y6 m)/\C9 m.kind m.args m.data (Y6 m))/\(Y6 m).length<=200:=by
 have u:=(ZG h.2).choose_spec;have e1:Jg m=Kb m.kind (ZG h.2).choose:=by unfold Jg;rw[zGg h]
 have z:Y6 m=(ZG h.2).choose:=by unfold Y6;rw[zGg h]
 rw[e1,z];exact⟨rfl,u.1,u.2.1.1⟩
def Sx (k:Int) (p:List Int):(Kb k p).length=ln p+10:=by
 simp only[Kb,Ix,HJ,zBj,zA9,zA5,zCp,zCb];omega
end
