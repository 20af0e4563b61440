/- Part 30. -/
import Derived.Test.YtaglbcjljlkjcaaGreatW29
namespace Go.Proofs.YtaglbcjljlkjcaaGreat.Av
open Tryz
set_option linter.all false
set_option maxRecDepth 4000
set_option maxHeartbeats 16000000
open List renaming length->ln,replicate->pb,take->pi,getD->py
open Inhabited renaming default->dd
variable {p:It×Nat}{b:List Int}{N:Nat}
def vx (u:List In) (z n:Nat):DB u z n=(u.drop z).take n++pb (n-(ln u-z)) dd:=by
 unfold DB;apply zB0;intro k;by_cases hk:k<n
 .rw[zAz,zCk hk,List.getElem?_append,zCg,f5 hk,zCz,zBg,zBr];by_cases h:z+k<ln u
  .rw[f5 zB,zBk h];simp[py,h]
  .rw[Os zB,zDb,f5 zB];simp[py,zB4 (Nat.le_of_not_lt h)]
 .rw[zB4 qA,zB4 qA]
def T5 (xs:List AV) (u n:Nat):(xs.drop (min (u:Int) (ln xs:Int)).toNat).take ((min ((u:Int)+(n:Int)) (ln xs:Int)).toNat-(min (u:Int) (ln xs:Int)).toNat)=(xs.drop u).take n:=by
 apply zB0;intro k;rw[zCg,zCg,zCz,zCz];by_cases h:u+k<ln xs
 .rw[show(min (u:Int) (ln xs:Int)).toNat=u by omega];by_cases hk:k<n
  .rw[f5 zB,f5 hk]
  .rw[Os zB,Os hk]
 .rw[zB4 (l:=xs) (i:=u+k) zB,zB4 (l:=xs) (i:=(min (u:Int) (ln xs:Int)).toNat+k) zB];simp
def xr (f3:Int) (u:List wC) (R:Nat->DR):PD f3 u (ln u)=eW f3 u R 0:=by
 unfold eW;apply zB0;intro j;unfold PD;rw[vV,zAz];by_cases hj:j<ln u
 .rw[f5 hj,f5 hj,zCk hj];simp
 .rw[Os hj,zB4 qA];rfl
def Ai (R:Nat->DR) (i:Nat):List (List Ms):=((List.range i).map λa=>(R a).R).flatten
def LI (R:Nat->DR) (i:Nat):Ai R (i+1)=Ai R i++(R i).R:=by simp[Ai,zCs]
theorem OJ {l:List Ag} {R:Nat->DR} (u:LL l) (h:∀a,a<ln l->(((R a).R.length:Nat):Int)=(l.getD a dd).ses):∀i,i<=ln l->((Ai R i).length:Int)=qS l i
 |0,_=>rfl
 |i+1,hi=>by
  have z:=OJ u h i zB;have:=h i zB;rw[LI,zAv]
  show _=qS l i+(l.getD i dd).ses
  omega
theorem wr {l:List Ag} {R:Nat->DR} (u:LL l) (h:∀a,a<ln l->(((R a).R.length:Nat):Int)=(l.getD a dd).ses):∀n,n<=ln l->∀a k,a<n->k<(R a).R.length->(Ai R n).getD ((qS l a).toNat+k) []=(R a).R.getD k []
 |0,_,a,k,z,_=>absurd z (zCm _)
 |n+1,C,a,k,z,hk=>by
  have hl:=OJ u h n zB;rw[LI,zA0];by_cases h1:a=n
  .subst h1;rw[zBq zB,show(qS l a).toNat+k-(Ai R a).length=k by omega,<-zA0]
  .have B:=UC u (show a+1<=n by omega) zB;have h2:=h a zB;have E:qS l (a+1)=qS l a+(l.getD a dd).ses:=rfl;have A:=qD u a zB;rw[zBp zB,<-zA0];exact wr u h n zB a k zB hk
theorem ur (y:Cy) (h:KJ y) (cd:KI y.ds) (hn:y.f3<1000000000) (u:List In) (fc:(ln u:Int)<=qS y.c.ags (ln y.c.ags)) (R:Nat->DR) (L:Zj y u R) (az:∀i,(R i).en.length<=2000) (a3:∀i,(R i).ks.length<=2000):
  zN 13 [qY y,zE uS u] [] (.tup [qY (qC y R),X6 (VV y.c (LJ (qC y R) u R (ln y.ds)) (ln y.c.ags)) (QG (y.f3+1) (qC y R).vw)]) []:=by
 have hb:=h.b;have n0:=h.n0;have S:=h.v.ag;have b2:=h.dl;have k1:=XL y hb;have fb:=zA uS u;have ci:min (y.f3+1) 1073741824=y.f3+1:=by omega
 have co:=h.rf;have eC:=aR co;have fo:=S.1;have c2:=zA zM y.ds
 have I:∀i,i<ln y.ds->((y.ds.getD i dd).au.length:Int)=(y.c.ags.getD i dd).ses:=λi hi=>by
  have:=(h.di _ (yK y.ds i hi)).au
  rwa [h.dg i hi]at this
 have E:∀a,a<ln y.c.ags->(((R a).R.length:Nat):Int)=(y.c.ags.getD a dd).ses:=λa B=>by
  have:=(L a zB).1.rn;have h2:=I a zB;rw[show(YH (y.ds.getD a dd) (y.f3+1)).au.length=(y.ds.getD a dd).au.length from Z]at this;omega
 unfold IU IV aY at k1;rw[eC,co]at k1;rw[eC];refine eM call13 λF hF=>?_
 refine zS k1 ?_;have c4:=zA vE y.sg;have dn:=zA wW y.sv;have cr:=zA iA y.st;have ch:=h.gl;have bl:=h.sl;have bk:=h.tl;rw[ci,c4,ch,dn,bl,cr,bk];have b0:∀i,(PD (y.f3+1) y.ds i).length=ln y.ds:=λi=>wZ _ _ _
 have b1:∀i,((PD (y.f3+1) y.ds i).map zM).length=ln y.ds:=λi=>by rw[zAr,b0]
 have ax:PD (y.f3+1) y.ds 0=y.ds:=qN _ _;rw[c2];refine zO (ln y.ds) [1011,2,4,5,6,1012,1013,1014] [2,4,5,6,1012,1013,1014] [1,2,4,5,6,53,54] [55,1,2,4,5,6,53,54] Z (λi T U=>⟨(55,iA i)::T,(1011,.arr 17 ((PD (y.f3+1) y.ds i).map zM) false)::U⟩) ?_;(conv=>whnf);refine⟨by(rw[ax];rfl),?_,?_⟩
 .intro i hi
  have hy:((PD (y.f3+1) y.ds i).map zM)[i]? =some (zM (y.ds.getD i dd)):=by
   rw[zAz];unfold PD;rw[vV,f5 hi,Os (zDo i)];rfl
  have e:(PD (y.f3+1) y.ds (i+1)).map zM=((PD (y.f3+1) y.ds i).map zM).set i (zM (YH (y.ds.getD i dd) (y.f3+1))):=by unfold PD;rw[vN _ _ _ _ hi]
  have kb:=wq (h.di _ (yK y.ds i hi)) (y.f3+1);have cv:=b1 i;rw[e];clear e L ax E I k1 eC;generalize YH (y.ds.getD i dd) (y.f3+1)=d2 at *;generalize y.ds.getD i dd=d1 at *;generalize (PD (y.f3+1) y.ds i).map zM=X at *;refine zS kb ?_;rfl
 .rw [xr (y.f3+1) y.ds R];refine WW ?_;have b7:∀i,((eW (y.f3+1) y.ds R i).map zM).length=ln y.ds:=λi=>by unfold eW;rw[zAr,zAr,zB9]
  refine zQ 9 1041 1 Z Z Z ?_;refine zQ 10 1042 3 Z Z Z ?_;refine zQ 11 1043 1 Z Z Z ?_;refine zO (ln y.ds) [1011,1041,1042,1043,2,4,5,6,1012,1013,1014] [2,4,5,6,1012,1013,1014] [1,2,4,5,6,70,71] [9,10,11,12,72,1,2,4,5,6,70,71] Z (λi T U=>⟨(9,.ref 1041 0 ((Ai R i).map kY).length)::(10,.ref 1042 0 ((XM R i).map kG).length)::(11,.ref 1043 0 ((dD R i).map iA).length)::(12,iA (qS y.c.ags i))::(72,iA i)::T,(1011,.arr 17 ((eW (y.f3+1) y.ds R i).map zM) false)::(1041,.arr 1 ((Ai R i).map kY) true)::(1042,.arr 3 ((XM R i).map kG) true)::(1043,.arr 1 ((dD R i).map iA) true)::U⟩) (Lq ?_ ?_)
  .intro i hi;have c5:i<ln y.c.ags:=by omega
   have hy:((eW (y.f3+1) y.ds R i).map zM)[i]? =some (zM (YH (y.ds.getD i dd) (y.f3+1))):=by
    rw[zAz];unfold eW;rw[UB _ _ _ _ hi];rfl
   have e1:(eW (y.f3+1) y.ds R (i+1)).map zM=((eW (y.f3+1) y.ds R i).map zM).set i (zM (R i).d):=by
    unfold eW;rw[YP _ _ _ _ hi,zCe]
   obtain⟨A,ac⟩:∃A:Nat,qS y.c.ags i=(A:Int):=⟨(qS y.c.ags i).toNat,by have:=qD S i zB;omega⟩;have dc:=qD S i zB;have eq:=S.at (i:=i) zB;have I:=I i hi;have a5:qS y.c.ags (i+1)=qS y.c.ags i+(y.c.ags.getD i dd).ses:=rfl;have db:=UC S (show i+1<=ln y.c.ags by omega) (zAw _);have eu:=E i c5;have ep:=OJ S E i zB;have e6:=VZ az i;have c7:=UA a3 i;have az:=az i;have a3:=a3 i;have cv:=b7 i;have fi:=zA kY (Ai R i);have fj:=zA kG (XM R i);have fl:=zA iA (dD R i);have e7:=zA kY (R i).R;have e8:=zA kG (R i).en;have fa:=zA iA (R i).ks
   have cj:DC y.c u i=(u.drop A).take (y.ds.getD i dd).au.length++pb ((y.ds.getD i dd).au.length-(ln u-A)) dd:=by
    unfold DC;rw[ac,show(y.c.ags.getD i dd).ses.toNat=(y.ds.getD i dd).au.length by omega,zBf,vx]
   have kt:=(L i hi).2.2 _ _ cj;clear cj;have c1:(YH (y.ds.getD i dd) (y.f3+1)).au=(y.ds.getD i dd).au:=rfl;rw[<-c1]at I kt;have av:=zA bA (YH (y.ds.getD i dd) (y.f3+1)).au;rw[<-av]at I kt;have cq:=T5 (u.map uS) A ((YH (y.ds.getD i dd) (y.f3+1)).au.map bA).length;rw[show(((u.map uS).drop A).take ((YH (y.ds.getD i dd) (y.f3+1)).au.map bA).length)=((u.drop A).take ((YH (y.ds.getD i dd) (y.f3+1)).au.map bA).length).map uS by rw[zD5,zDn]]at cq;rw[e1,LI,ON,OO,a5,ac,<-I,zAy,zAy,zAy];unfold Jj uw wE at kt;clear e1 L E ax b0 b1 k1 eC b7 av a5 db;generalize (u.drop A).take ((YH (y.ds.getD i dd) (y.f3+1)).au.map bA).length=ow at *;generalize YH (y.ds.getD i dd) (y.f3+1)=d1 at *;generalize (eW (y.f3+1) y.ds R i).map zM=X,(Ai R i).map kY=X1,(XM R i).map kG=X2,(dD R i).map iA=X3,(R i).R=r1,(R i).en=r2,(R i).ks=r3,(R i).d=d2 at *;unfold zM xD at kt hy;refine zS kt ?_;rfl
  .have a4:∀x∈dD R (ln y.ds),0<=x/\x<(ln y.c.js:Int):=λx hx=>by
    obtain⟨a,B,hx⟩:=qe hx;exact(L a B).1.ks x hx
   have c7:=UA a3 (ln y.ds);have c6:=zA wJ y.c.js;have ff:=zA iA (dD R (ln y.ds));have el:(dD R (ln y.ds)).length<=10000:=by omega
   refine WW ?_;refine wI [2,4,5,6,1012,1013,1014] [1,2,4,5,6,9,10,121,122,123] Z ?_
   (conv=>whnf)
   simp only[zBd,zAt];rw[zA1 (l:=(eW (y.f3+1) y.ds R (ln y.ds)).map zM) (zCx (b7 _))];clear k1 ax b0 b1;refine zU ((dD R (ln y.ds))) [1012,2,4,5,6,1013,1014] [2,4,5,6,1013,1014] [1,2,4,5,6,9,10,121,122] [123,1,2,4,5,6,9,10,121,122] Z (λi f4 T U=>⟨(123,iA i)::T,(1012,.arr 5 ((cX y.c y.sg f4).map vE) false)::U⟩) (Lq ?_ ?_)
   .intro i f4 x post hx hi;have hy:=yJ iA hx hi;have c8:=zX hx hi;have b9:=a4 x (xA hx);obtain⟨g1,g2⟩:=KM h.v (sv:=y.sv) (f3:=y.f3) f4 y.sg h.gl h.j;have J:=h.v.jv _ (yK y.c.js x.toNat zB);have C:=(g2 x.toNat zB).c;have hJ:=J.n;have hC:=C.n;have hM:=C.m;have kr:=Wh (y.c.js.getD x.toNat dd) J ((cX y.c y.sg f4).getD x.toNat dd) zB zB;have d3:=yE wJ y.c.js x b9.1 b9.2;have dr:=yE vE (cX y.c y.sg f4) x b9.1 zB;have ei:=zA vE (cX y.c y.sg f4);rw[EV,zCe];clear hx a4 L J C g2 eC;generalize (cX y.c y.sg f4).getD x.toNat dd=s,y.c.js.getD x.toNat dd=j at *;generalize cX y.c y.sg f4=X at *;generalize X.map vE=Y at *;refine zS kr ?_;rfl
   .obtain ⟨g1,g2⟩:=KM h.v (sv:=y.sv) (f3:=y.f3) (dD R (ln y.ds)) y.sg h.gl h.j;have hC:=SF;have br:∀D,YQ D (cX y.c y.sg (dD R (ln y.ds))) 0=cX y.c y.sg (dD R (ln y.ds)):=λD=>qN _ _
    have bz:∀D,YR D y.sv 0=y.sv:=λD=>qN _ _
    have bu:XU y.st 0=y.st:=qN _ _;have a1:∀D i,((YQ D (cX y.c y.sg (dD R (ln y.ds))) i).map vE).length=ln y.c.js:=λD i=>by unfold YQ;rw[zAr,wZ];exact g1
    have a7:∀D i,((YR D y.sv i).map wW).length=ln y.c.js:=λD i=>by unfold YR;rw[zAr,wZ];exact bl
    have a2:∀i,((XU y.st i).map iA).length=ln y.c.js:=λi=>by unfold XU;rw[zAr,wZ];exact bk
    have a6:∀D i,((EE y.c.js D i).map vR).length=i:=λD i=>by simp[EE]
    have V:∀d∈eW (y.f3+1) y.ds R (ln y.ds),qB y.c d:=λd hd=>by
     obtain⟨a,B,rfl⟩:=YM hd;exact(L a B).1.i
    have b6:∀d∈eW (y.f3+1) y.ds R (ln y.ds),KN (y.f3+1) d.rq:=λd hd=>by
     obtain⟨a,B,rfl⟩:=YM hd;refine(L a B).1.sc ?_;exact KN.of zB ((h.sc _ (yK y.ds a B)).mono zB) (Wb _ _)
    have bx:KI (eW (y.f3+1) y.ds R (ln y.ds)):=λa B=>by
     rw[fW]at B;rw[aC B,(L a B).1.num];exact cd a B
    have ef:(eW (y.f3+1) y.ds R (ln y.ds)).length<=4:=by rw[fW];omega
    have b4:∀d∈eW (y.f3+1) y.ds R (ln y.ds),∀r∈d.rq,kU [] r.legs=true:=λd hd r hr=>by
     have:=((V d hd).v.ok r hr).lg;unfold AL at this;rw[zA2]at this;exact this.2
    have fd:=h.v.j;refine WW ?_;refine zQ 24 1015 4 Z Z Z ?_;rw[c6];refine zO (ln y.c.js) [1012,1013,1014,1015,2,4,5,6] [2,4,5,6] [1,2,4,5,6,9,10,150,151] [24,152,1,2,4,5,6,9,10,150,151] Z (λi T U=>⟨(24,.ref 1015 0 ((EE y.c.js (eJ y R) i).map vR).length)::(152,iA i)::T,(1012,.arr 5 ((YQ (eJ y R) (cX y.c y.sg (dD R (ln y.ds))) i).map vE) false)::(1013,.arr 3 ((YR (eJ y R) y.sv i).map wW) false)::(1014,.arr 1 ((XU y.st i).map iA) false)::(1015,.arr 4 ((EE y.c.js (eJ y R) i).map vR) true)::U⟩) ?_;(conv=>whnf);refine⟨by(rw[br,bz,bu];rfl),?_,?_⟩
    .intro i hi;have d3:=zJ wJ y.c.js i hi;have dr:((YQ (eJ y R) (cX y.c y.sg (dD R (ln y.ds))) i).map vE)[i]? =some (vE ((cX y.c y.sg (dD R (ln y.ds))).getD i dd)):=by rw[zAz];unfold YQ;rw[vV,f5 zB,Os (zDo i)];rfl
     have fy:((YR (eJ y R) y.sv i).map wW)[i]? =some (wW (y.sv.getD i dd)):=by rw[zAz];unfold YR;rw[vV,f5 zB,Os (zDo i)];rfl
     have fx:((XU y.st i).map iA)[i]? =some (iA (y.st.getD i dd)):=by rw[zAz];unfold XU;rw[vV,f5 zB,Os (zDo i)];rfl
     have eg:(YQ (eJ y R) (cX y.c y.sg (dD R (ln y.ds))) (i+1)).map vE=((YQ (eJ y R) (cX y.c y.sg (dD R (ln y.ds))) i).map vE).set i (vE (eJ y R i).1):=by unfold YQ;rw[vN _ _ _ _ zB]
     have ev:(YR (eJ y R) y.sv (i+1)).map wW=((YR (eJ y R) y.sv i).map wW).set i (wW (eJ y R i).2):=by unfold YR;rw[vN _ _ _ _ zB]
     have ek:(XU y.st (i+1)).map iA=((XU y.st i).map iA).set i (iA (-1)):=by unfold XU;rw[vN _ _ _ _ zB]
     have ew:(EE y.c.js (eJ y R) (i+1)).map vR=(EE y.c.js (eJ y R) i).map vR++[vR (LK (y.c.js.getD i dd) (eJ y R i).1 (eJ y R i).2)]:=by simp[EE,zCs]
     have J:=h.v.jv _ (yK y.c.js i hi);have H:=g2 i hi;have cl:(jJ (i:Int) (eW (y.f3+1) y.ds R (ln y.ds))).length<=4*(eW (y.f3+1) y.ds R (ln y.ds)).length:=hC i _ λd hd=>(V d hd).v.n4
     have cm:=DE (j:=(i:Int)) V (f3:=y.f3+1) zB b6;have hp:=h.v.p;have e5:=h.v.cp;have ez:=J.n;have ey:=H.n;have He:∀e∈(y.sv.getD i dd).en,-1<=e/\e<=y.f3+1:=λe he=>by have:=H.e e he;omega
     have HD:Rr y.c (y.sv.getD i dd) (jJ (i:Int) (eW (y.f3+1) y.ds R (ln y.ds))) (y.f3+1):=⟨hp.1,zB,zB,zB,zB,He,λx hx=>(cm x hx).1,λx hx=>(cm x hx).2,zB,zB⟩
     have kd:zN 58 [wE y.c,wJ (y.c.js.getD i dd),vE ((cX y.c y.sg (dD R (ln y.ds))).getD i dd),wW (y.sv.getD i dd),zE kE (jJ (i:Int) (eW (y.f3+1) y.ds R (ln y.ds))),iA (y.st.getD i dd),iA (y.f3+1)] [] (.tup [vE (eJ y R i).1,wW (eJ y R i).2]) []:=
      yr y.c _ J _ H.c _ _ _ (y.f3+1) HD (by have:=Vb y.c (y.sv.getD i dd) (jJ (i:Int) (eW (y.f3+1) y.ds R (ln y.ds))) (y.f3+1) H.g;omega)
     have ko:=Zx (y.c.js.getD i dd) J (eJ y R i).1 (Iz J H.c _ _ _ _ _) (eJ y R i).2;have kc:=La y.c false (y.f3+1) (eW (y.f3+1) y.ds R (ln y.ds)) i zB (λd hd=>(V d hd).bd) b4 bx ((YQ (eJ y R) (cX y.c y.sg (dD R (ln y.ds))) i).map vE) ((YR (eJ y R) y.sv i).map wW) ((XU y.st i).map iA) (ln y.c.js) (ln y.c.js) (ln y.c.js) y.vw;have eh:=a1 (eJ y R) i;have es:=a7 (eJ y R) i;have ej:=a2 i;have er:=a6 (eJ y R) i;rw[eg,ev,ek,ew];clear eg ev ek ew br bz bu HD cm hC a1 a7 a2 a6 g2 H J eC L V b6 bx b4 He a4;generalize (YQ (eJ y R) (cX y.c y.sg (dD R (ln y.ds))) i).map vE=X,(YR (eJ y R) y.sv i).map wW=Y,(XU y.st i).map iA=Z',(EE y.c.js (eJ y R) i).map vR=W,eJ y R i=p at *;generalize LK (y.c.js.getD i dd) p.1 p.2=w at *;generalize jJ (i:Int) (eW (y.f3+1) y.ds R (ln y.ds))=l,(cX y.c y.sg (dD R (ln y.ds))).getD i dd=s,y.sv.getD i dd=v,y.st.getD i dd=k,y.c.js.getD i dd=j at *;unfold aY at kc;unfold wE at kd
     (have ga:=kd;have ge:=ko;(repeat' (first|refine jX ?_|apply yW|apply xI|intro hc|(apply zG;first|(refine vG 39 ?_;refine wM (DD (zL kc Z Z Z Z Z) Z Z) Z ?_)|(apply yH;refine vC tok Z Z ?_))|refine SB ?_|fail))<;>clear ga ge)
     rfl
    .have l4:=a1 (eJ y R) (ln y.c.js);have l5:=a7 (eJ y R) (ln y.c.js);have l6:=a2 (ln y.c.js);have l7:=a6 (eJ y R) (ln y.c.js);refine wI [4,5,6] [1,4,5,6,9,10,24,151,152] Z ?_
     (conv=>whnf)
     simp only[zBd,zAt];rw[zA1 (l:=(YQ (eJ y R) (cX y.c y.sg (dD R (ln y.ds))) (ln y.c.js)).map vE) (zCx l4),zA1 (l:=(YR (eJ y R) y.sv (ln y.c.js)).map wW) (zCx l5),zA1 (l:=(XU y.st (ln y.c.js)).map iA) (zCx l6)];have hZ:=EW h L;have zn:(qC y R).f3=y.f3+1:=rfl;have zd:(qC y R).ds.length=ln y.ds:=fW ..;have zR:∀a,a<ln y.ds->(qC y R).ds.getD a dd=(R a).d:=λa B=>aC B
     have eT:qY (qC y R)= .agg [zE wJ y.c.js,zE uI y.c.ags,iA y.c.per,iA y.c.cap,iA y.c.hold,iA y.c.lock,bA false,iA (y.f3+1),.sl false ((qC y R).ds.map zM),.sl false ((qC y R).sg.map vE),.sl false ((qC y R).sv.map wW),.sl false ((qC y R).st.map iA),.sl false ((qC y R).vw.map vR)]:=rfl;have cu:(qC y R).vw.length<=4:=by have:=hZ.wl;have:=hZ.v.j;omega
     have kf:=wx (y.f3+1) (qC y R).vw zB hZ.wb;have kv:=xx (QG (y.f3+1) (qC y R).vw) (zz _ _ zB zB cu hZ.wb)
     have cf:∀a k,LJ (qC y R) u R (ln y.ds) a k=if(u.getD ((qS y.c.ags a).toNat+k) dd).opn=true then Pg ((qC y R).ds.getD a dd) (qC y R).vw (qC y R).f3 k (R a).R (XM R (ln y.ds))else []:=λ_ _=>rfl
     have cc:∀e∈XM R (ln y.ds),Nj e:=λe he=>by
      obtain⟨a,B,he⟩:=IR he;exact(L a B).1.en e he
     have ex:=VZ az (ln y.ds);rw[show eW (y.f3+1) y.ds R (ln y.ds)=(qC y R).ds from Z,show YQ (eJ y R) (cX y.c y.sg (dD R (ln y.ds))) (ln y.c.js)=(qC y R).sg from Z,show YR (eJ y R) y.sv (ln y.c.js)=(qC y R).sv from Z,show XU y.st (ln y.c.js)=(qC y R).st from Z,show EE y.c.js (eJ y R) (ln y.c.js)=(qC y R).vw from Z,eT,show∀T f,X6 T f= .agg [.sl false (T.map kY),zE zW [f]]from λ_ _=>rfl];have bb:=wr S E;have bf:=OJ S E (ln y.c.ags) (zAw _);rw[<-b2]at bf;clear br bz bu a1 a7 a2 a6 V b6 bx b4 hC g1 g2 l4 l5 l6 l7 a4 eC eT;generalize LJ (qC y R) u R (ln y.ds)=G at *;generalize qC y R=z at *;generalize c3:QG (y.f3+1) z.vw=fm at *;clear c3;unfold zE at kf;refine yG (xV kf kv) ?_;refine zQ 30 1051 1 Z Z Z ?_;have ea:=zA zM z.ds;rw[ea,zd];clear kf kv;refine zO (ln y.ds) [1051,4,5,6,29] [4,5,6,29] [1,4,5,6,9,10,24,29,215,216] [12,30,217,1,4,5,6,9,10,24,29,215,216] Z (λi T U=>⟨(12,iA (qS y.c.ags i))::(30,.ref 1051 0 ((VV y.c G i).map kY).length)::(217,iA i)::T,(1051,.arr 1 ((VV y.c G i).map kY) true)::U⟩) (Lq ?_ ?_)
     .intro a B;have b3:a<ln y.ds:=B;obtain⟨A,ac⟩:∃A:Nat,qS y.c.ags a=(A:Int):=⟨(qS y.c.ags a).toNat,by have:=qD S a zB;omega⟩;obtain⟨N,hN⟩:∃N:Nat,(y.c.ags.getD a dd).ses=(N:Int):=⟨(y.c.ags.getD a dd).ses.toNat,by have:=S.at (i:=a) zB;omega⟩;have e0:=S.at (i:=a) zB;have dc:=qD S a zB
      have a5:qS y.c.ags (a+1)=((A+N:Nat):Int):=by
       show qS y.c.ags a+(y.c.ags.getD a dd).ses=_
       omega
      have e4:A+N<=(Ai R (ln y.ds)).length:=by
       have:=UC S (show a+1<=ln y.c.ags by omega) (zAw _);rw[b2]at bf⊢;omega
      have ar:=(L a b3).1;have hI:=hZ.di _ (yK z.ds a zB);have ba:=hI.au;rw[hZ.dg a zB]at ba;have d9:=zR a b3;have ce:=ar.rv;have ed:=E a zB;have hy:=zJ zM z.ds a zB;have b5:=hI.a.q
      have cg:(z.ds.getD a dd).au.length=N:=by
       have:=ar.i.au;rw[ar.ag]at this;have e9:=h.dg a b3;rw[show(YH (y.ds.getD a dd) (y.f3+1)).rg.ag=(y.ds.getD a dd).rg.ag from Z,e9]at this;rw[d9];omega
      have a8:=Ri (z.ds.getD a dd) hI.bd b5 z.vw (y.f3+1) zB hZ.wb;have eb:=dx (z.ds.getD a dd) b5 z.vw (y.f3+1) zB zB cu hZ.wb;have c0:=zr (y.f3+1) (XM R (ln y.ds)) zB;have ec:=Y6 (y.f3+1) zB zB (XM R (ln y.ds)) cc;have ap:=λk (hk:k<N)=>bb (ln y.ds) zB a k zB zB
      have M:∀k,k<N->G a k=if(u.getD (A+k) dd).opn=true then Pg (z.ds.getD a dd) z.vw (y.f3+1) k (R a).R (XM R (ln y.ds))else []:=λk hk=>by
       rw[cf a k,ac,zn];rfl
      have ft:=YN S G a zB;rw[VY,show(y.c.ags.getD a dd).ses.toNat=N by omega,a5,ac,zAy];have cv:=zA kY (VV y.c G a);rw[ac]at ap;clear cf cc E L ar hI zR bb ba;generalize (VV y.c G a).map kY=X,(R a).R=Ra at *;generalize dj:LB (z.ds.getD a dd) z.vw (y.f3+1)=st0 at *;generalize dk:Qg (y.f3+1) (XM R (ln y.ds))=a9 at *;unfold Pg at M;rw[dj,dk]at M;generalize z.ds.getD a dd=d1 at *;have av:(d1.au.map bA).length=N:=by rw[zAr];exact cg
      generalize XM R (ln y.ds)=et at *;unfold zM xD at hy a8;have cb:=λk (hk:k<N)=>zJ bA d1.au k zB
      unfold zE at hy;refine WW ?_;rw[av];refine zO (N) [1051,4,5,6,29,32] [4,5,6,29,32] [1,4,5,6,9,10,24,29,32,215,216,217,222,223] [12,30,224,1,4,5,6,9,10,24,29,32,215,216,217,222,223] Z (λi T U=>⟨(12,iA ((A+i:Nat):Int))::(30,.ref 1051 0 (X++(OL G a i).map kY).length)::(224,iA i)::T,(1051,.arr 1 (X++(OL G a i).map kY) true)::U⟩) ?_;(conv=>whnf);refine⟨by(rw[show(OL G a 0).map kY=[]from Z,zBn];rfl),?_,?_⟩
      .intro k hk;have fp:((OL G a k).map kY).length=k:=by unfold OL;rw[zAr,zAr,zB9]
       have fv:=cb k hk;have cn:=ap k hk
       have d5:((Ai R (ln y.ds)).map kY)[A+k]? =some (kY (Ra.getD k [])):=by
        rw[zJ kY (Ai R (ln y.ds)) (A+k) zB];exact zBb (λq=>some (kY q)) cn
       have ck:(Ra.getD k []).length<=1000/\∀m∈Ra.getD k [],YO m:=by
        refine ce _ ?_;rw[zA0,zBk zB];exact zEl _
       rw[EX,zAy,show [G a k].map kY=[zE zW (G a k)]from Z,M k hk,<-zBh];have e2:(X++(OL G a k).map kY).length<=100:=by rw[zAv];omega
       clear M ap cb cn ce b5 hZ;generalize X++(OL G a k).map kY=O,d1.au.getD k dd=da,Ra.getD k []=r0 at *;by_cases hq:A+k<ln u
       .have cw:=zJ uS u (A+k) hq;generalize u.getD (A+k) dd=x at *;obtain⟨xo,xs⟩:=x;unfold uS at cw;unfold kY at d5;dsimp only at cw⊢;cases xo
        .rw[Os zA7]
         (repeat' (first|refine jX ?_|apply yW|apply xI|intro hc|(apply zG;first|(apply yH;refine ZU 272 Z Z Z ?_;refine vC tok Z Z ?_))|refine SB ?_|fail))
         rfl
        .rw[f5 Z];have em:=zA zW r0;have ca:=ue (r0.map zW) zB st0 eb;have cx:=ue (r0.map zW++[zW st0]) Hk a9 ec;refine WW ?_;refine zQ 35 1053 4 Z Z Z ?_;refine zU (r0) [1053,4,5,6,29,32,1051] [4,5,6,29,32,1051] [1,4,5,6,9,10,12,24,29,30,32,33,34,215,216,217,222,223,224,243,244] [35,245,1,4,5,6,9,10,12,24,29,30,32,33,34,215,216,217,222,223,224,243,244] Z (λi f4 T U=>⟨(35,.ref 1053 0 (f4.map zW).length)::(245,iA i)::T,(1053,.arr 4 (f4.map zW) true)::U⟩) (Lq ?_ ?_)
         .intro i f4 m post hx hi;have d4:=yJ zW hx hi;have c8:=zX hx hi;have fr:=zA zW f4;have fq:ln f4<=ln r0:=by rw[hx];simp
          have km:=ue (f4.map zW) zB m (ck.2 m (xA hx));rw[show(f4++[m]).map zW=f4.map zW++[zW m] by simp];clear hx ca cx a8 c0;generalize f4.map zW=Y at *;unfold zW at d4 km;refine zS km ?_;rfl
         .clear ck;cases da
          .rw[show zE zW ((r0++[st0])++if false=true then [a9]else [])= .sl false (r0.map zW++[zW st0]) by simp[zE]];generalize r0.map zW=Y at*
           (have ga:=a8;have ge:=ca;(repeat' (first|refine jX ?_|apply yW|apply xI|intro hc|(apply zG;first|(apply yH;refine vU [4,5,6,29,32,1051] [1,4,5,6,9,10,12,24,29,30,32,215,216,217,222,223,224,271,272] Z ?_;(conv=>whnf);(try simp only[zBd,zAt]);refine vC tok Z Z ?_))|refine SB ?_|fail))<;>clear ga ge)
           rfl
          .rw[show zE zW ((r0++[st0])++if true=true then [a9]else [])= .sl false ((r0.map zW++[zW st0])++[zW a9]) by simp[zE]];generalize r0.map zW=Y at*
           (have ga:=a8;have ge:=ca;have gn:=c0;have gt:=cx;(repeat' (first|refine jX ?_|apply yW|apply xI|intro hc|(apply zG;first|(apply yH;refine vU [4,5,6,29,32,1051] [1,4,5,6,9,10,12,24,29,30,32,215,216,217,222,223,224,271,272] Z ?_;(conv=>whnf);(try simp only[zBd,zAt]);refine vC tok Z Z ?_))|refine SB ?_|fail))<;>clear ga ge gn gt)
           rfl
       .rw[show(u.getD (A+k) dd).opn=false by rw[zA0,zB4 zB];rfl,Os zA7]
        (repeat' (first|refine jX ?_|apply yW|apply xI|intro hc|(apply zG;first|(apply yH;refine ZU 272 Z Z Z ?_;refine vC tok Z Z ?_))|refine SB ?_|fail))
        rfl
      ·(refine WW ?_)
       rfl
     .rw[b2];refine WW ?_;refine zH [] Z Z ?_ Z
      show AV.tup [_,AV.agg [.sl false (pi ((VV y.c G (ln y.c.ags)).map kY).length ((VV y.c G (ln y.c.ags)).map kY)),_]]=_
      rw[zAt];rfl
def qr (hb:BY b) (h:xj b=some p):(1<=p.2/\p.2<=ln b)/\(ln b<=100000->Ls p.1):=by
 unfold xj at h;split at h
 .cases h
 rename_i u;split at h
 .cases h;exact⟨⟨zAw _,by dsimp only;omega⟩,λ_=>⟨jT,zA9 _,by dsimp only;omega,by dsimp only;omega⟩⟩
 split at h
 .cases h
 split at h
 .cases h;exact⟨⟨zAw _,by dsimp only;omega⟩,λ_=>⟨jT,zA9 _,by dsimp only;omega,by dsimp only;omega⟩⟩
 split at h
 .cases h
 split at h
 .cases h;exact⟨⟨zAw _,by dsimp only;omega⟩,λ_=>⟨jT,zA9 _,by dsimp only;omega,by dsimp only;omega⟩⟩
 split at h
 .cases h;exact⟨⟨by dsimp only;omega,by dsimp only;omega⟩,λ_=>⟨jT,zA9 _,by dsimp only;omega,by dsimp only;omega⟩⟩
 split at h
 .cases h;exact⟨⟨by dsimp only;omega,by dsimp only;omega⟩,λ_=>⟨jT,zA9 _,by dsimp only;omega,by dsimp only;omega⟩⟩
 .cases h;rename_i hk;refine⟨⟨by dsimp only;omega,by dsimp only;omega⟩,λhl=>⟨λx hx=>hb x (zBz (zCo hx)),by dsimp only;rw[zBg,zBr];omega,?_,by dsimp only;omega⟩⟩;dsimp only;omega
def IO:Nat->List Int->List (It×Nat)
 |0,_=>[]
 |n+1,b=>match xj b with
  |none=>[]
  |some p=>p::IO n (b.drop p.2)
def ux {n:Nat}:∀{b:List Int},BY b->ln b<=100000->∀p∈IO n b,Ls p.1:=by
 induction n with
 |zero=>intro b _ _ p u;cases u
 | succ n A=>
  intro b hb hl p u;unfold IO at u;split at u
  .cases u
  .rename_i q z;have h:=qr hb z
   rcases zCf.1 u with rfl|u
   .exact h.2 hl
   .exact A (λx hx=>hb x (zBz hx)) CG p u
structure jr where
 t:Nat
 g:Bool
 its:List It
def Jy (s:jr) (p:It×Nat):Bool:=decide (p.1.code=2)&&s.g
def IP (s:jr) (p:It×Nat):jr:=if Jy s p=true then⟨s.t+p.2,s.g,s.its⟩else⟨s.t+p.2,decide (p.1.code=2)||(decide (p.1.code=7)||decide (p.1.code=4)),s.its++[p.1]⟩
def B8 (N:Nat) (s:jr) (p:It×Nat):Bool:=!Jy s p&&decide (N<=ln s.its+1)
def ES (N:Nat):List (It×Nat)->jr->jr
 | [],s=>s
 |p::l,s=>if B8 N s p=true then IP s p else ES N l (IP s p)
theorem ED :∀(l:List (It×Nat)) (s:jr),ln s.its<N->(ES N l s).its.length<=N
 | [],s,h=>zE3 h
 | p::l,s,h=>by
  unfold ES
  have h1:(IP s p).its.length<=ln s.its+1:=by
   unfold IP;split
   .dsimp only;omega
   .dsimp only;rw[zAv];simp
  split
  .omega
  .rename_i hx;refine ED l _ ?_;unfold B8 at hx;unfold IP;cases hc:Jy s p
   .rw[hc]at hx;rw[Os zA7];simp only[zEp,zA3,zAx]at hx;dsimp only;rw[zAv];simp only[zA6,zBx];omega
   .rw[f5 Z];exact h
theorem Wg {Pr:It->Prop}:∀(l:List (It×Nat)) (s:jr),(∀x∈s.its,Pr x)->(∀p∈l,Pr p.1)->∀x∈(ES N l s).its,Pr x
 | [],s,h,_=>h
 | p::l,s,h,hl=>by
  have h1:∀x∈(IP s p).its,Pr x:=by
   unfold IP;split
   .exact h
   .intro x hx
    rcases zBc.1 hx with hx|hx
    .exact h x hx
    .rw[zBl.1 hx];exact hl p zV
  unfold ES;split
  .exact h1
  .exact Wg l _ h1 λq u=>hl q (by simp[u])
def Iy (b:List Int) (g:Bool):AV:= .agg [zE yA b,bA g]
def aA (s:Ss):Ss×In:=if s.op=true then(⟨true,false,s.bf.drop (ES 4 (IO (ln s.bf) s.bf) ⟨0,s.gb,[]⟩).t,(ES 4 (IO (ln s.bf) s.bf) ⟨0,s.gb,[]⟩).g⟩,⟨true,(if s.dr=true then [⟨15,0,[]⟩]else [])++(ES 4 (IO (ln s.bf) s.bf) ⟨0,s.gb,[]⟩).its⟩)else(s,⟨false,[]⟩)
structure S5 (s:Ss):Prop where
 y:BY s.bf
 n:s.bf.length<=256
def nr {s:Ss} (h:S5 s):S5 (aA s).1/\Ga (aA s).2:=by
 have A:=h.n;unfold aA;split
 .refine⟨⟨λx hx=>h.y x (zBz hx),by dsimp only;rw[zBr];omega⟩,?_⟩;have z:=ED (N:=4) (IO (ln s.bf) s.bf) ⟨0,s.gb,[]⟩ (by show 0<4;omega);have u:=Wg (N:=4) (Pr:=Ls) (IO (ln s.bf) s.bf) ⟨0,s.gb,[]⟩ (λx hx=>by cases hx) (ux h.y zB);generalize ES 4 (IO (ln s.bf) s.bf) ⟨0,s.gb,[]⟩=r at *;refine⟨?_,λx hx=>?_⟩
  .dsimp only;rw[zAv];split
   .simp only[zA6,zBx];omega
   .simp only[zBx];omega
  .rcases zBc.1 hx with hx|hx
   .split at hx
    .rw[zBl.1 hx];exact⟨jT,zA9 _,by dsimp only;omega,by dsimp only;omega⟩
    .cases hx
   .exact u x hx
 .exact⟨h,zA9 _,λx hx=>by cases hx⟩
def R5 {s:Ss} (h:S5 s) {x:List Int} (hx:BY x):S5 (Ab s x):=by
 refine⟨?_,Mt h.n x⟩;unfold Ab;split
 .intro y u
  rcases zBc.1 u with u|u
  .exact h.y y u
  .exact hx y (zCo u)
 .exact h.y
theorem Ja (h:xj b=some p) (hc:p.1.code=0):p=(⟨0,b.getD 3 0,(b.drop 6).take (SH b)⟩,SH b+10)/\SH b+10<=ln b:=by grind [xj,SH]
theorem qx {q:It×Nat} (h:xj b=some q) (hc:q.1.code=0):b.getD 0 0=90/\b.getD 1 0=165/\SH b<=200/\QH ((b.drop 2).take (SH b+4))=Fg ((b.drop (SH b+6)).take 4)/\b.getD 2 0=1/\1<=b.getD 3 0/\b.getD 3 0<=22:=by
 have A:=Ja h hc;unfold xj at h;by_cases u:ln b=0
 .grind
 rw[Os u]at h;by_cases z:b.getD 0 0≠90\/(1<ln b/\b.getD 1 0≠165)
 all_goals grind
def zAq {a b c d:Int} (u:0<=a/\a<256) (hb:0<=b/\b<256) (hc:0<=c/\c<256) (hd:0<=d/\d<256):Fg [a,b,c,d]=((a*256+b)*256+c)*256+d:=by
 unfold Fg;simp only[List.foldl_cons,List.foldl_nil];rw[TZ (n:=0) (x:=a) ⟨zB,zB⟩ u,TZ (n:=0*256+a) (x:=b) ⟨zB,zB⟩ hb,TZ (n:=(0*256+a)*256+b) (x:=c) ⟨zB,zB⟩ hc,TZ (n:=((0*256+a)*256+b)*256+c) (x:=d) ⟨zB,zB⟩ hd];omega
def Q5 (a c k:Nat) (hc:c<2 ^ k) (h:a*2 ^ k+c<4294967296):Ur ((a*2 ^ k:Nat):Int) (c:Int)=((a*2 ^ k+c:Nat):Int):=by
 have u:=zEb hc a;rw[zF6]at u;rw[Zg (a*2 ^ k) c zB zB,<-u]
def or4 {a b c d:Int} (u:0<=a/\a<256) (hb:0<=b/\b<256) (hc:0<=c/\c<256) (hd:0<=d/\d<256):Ur (Ur (Ur (IntKind.u32.wrap (a*2 ^ (min (24:Int).toNat IntKind.u32.bits))) (IntKind.u32.wrap (b*2 ^ (min (16:Int).toNat IntKind.u32.bits)))) (IntKind.u32.wrap (c*2 ^ (min (8:Int).toNat IntKind.u32.bits)))) d=Fg [a,b,c,d]:=by
 have w:∀(x y:Int) (k:Nat),0<=x/\x<256->(2:Int) ^ k=y->0<=x*y/\x*y<4294967296->IntKind.u32.wrap (x*2 ^ k)=x*y:=λx y k _ h1 h2=>by rw[h1];exact u32_in h2
 rw[zAq u hb hc hd,w a 16777216 _ u yY zB,w b 65536 _ hb yY zB,w c 256 _ hc yY zB];obtain⟨a,rfl⟩:=zCl u.1;obtain⟨b,rfl⟩:=zCl hb.1;obtain⟨c,rfl⟩:=zCl hc.1;obtain⟨d,rfl⟩:=zCl hd.1;have s:∀(x y z:Int) (m n k:Nat),x=((m*2 ^ k:Nat):Int)->y=(n:Int)->n<2 ^ k->m*2 ^ k+n<4294967296->z=((m*2 ^ k+n:Nat):Int)->Ur x y=z:=λx y z m n k e1 A h1 h2 e3=>by rw[e1,A,e3];exact Q5 m n k h1 h2
 rw[s ((a:Int)*16777216) ((b:Int)*65536) ((a:Int)*16777216+b*65536) a (b*65536) 24 zB zB zB zB zB,
  s ((a:Int)*16777216+b*65536) ((c:Int)*256) ((a:Int)*16777216+b*65536+c*256) (a*256+b) (c*256) 16 zB zB zB zB zB,
  s ((a:Int)*16777216+b*65536+c*256) (d:Int) ((a:Int)*16777216+b*65536+c*256+d) ((a*256+b)*256+c) d 8 zB zB zB zB zB]
 omega
theorem Hy (l:List Int) (i:Nat) (h:i+4<=ln l):(l.drop i).take 4=[l.getD i 0,l.getD (i+1) 0,l.getD (i+2) 0,l.getD (i+3) 0]:=by apply zB0<;>grind [List.getElem?_eq_getElem]
def mr (b:List Int) (hb:BY b) (hl:ln b<=1000000) {q:It×Nat} (C:xj b=some q) (hc:q.1.code=0):zN 216 [zE yA b] [] (.tup [vH q.1,iA q.2,bA true]) []:=by
 have M:=zA yA b;obtain⟨V,W,iN,E,Y,i3,i4⟩:=qx C hc;obtain⟨I,hn⟩:=Ja C hc;rw[I];clear I C hc;obtain⟨y0,_⟩:=KS b hb 0 zB;obtain⟨y1,_⟩:=KS b hb 1 zB;obtain⟨y2,_⟩:=KS b hb 2 zB;obtain⟨y3,z3⟩:=KS b hb 3 zB;obtain⟨y4,z4⟩:=KS b hb 4 zB;obtain⟨y5,z5⟩:=KS b hb 5 zB;obtain⟨y6,z6⟩:=KS b hb (SH b+6) zB;obtain⟨y7,z7⟩:=KS b hb (SH b+7) zB;obtain⟨y8,z8⟩:=KS b hb (SH b+8) zB;obtain⟨y9,z9⟩:=KS b hb (SH b+9) zB;rw[V]at y0;rw[W]at y1;rw[Y]at y2;have u:=or8 z4 z5;have B:b.getD 4 0*256+b.getD 5 0=(SH b:Int):=by unfold SH;omega
 rw[B]at u;rw[Hy b (SH b+6) zB]at E;have S:=or4 z6 z7 z8 z9;have U:=xk ((b.drop 2).take (SH b+4));have G:∀i k,BY ((b.drop i).take k):=λi k x hx=>hb x (zBz (zCo hx))
 generalize b.getD 4 0=x4,b.getD 5 0=x5 at *;generalize hN:SH b=N at *;have A:=Ub ((b.drop 2).take (N+4)) Nx (G _ _);rw[E]at A
 have e1:((b.map yA).drop (2:Int).toNat).take (((N:Int)+6).toNat-(2:Int).toNat)=((b.drop 2).take (N+4)).map yA:=by
  rw[zD5,zDn,show((N:Int)+6).toNat-(2:Int).toNat=N+4 by omega];rfl
 have e3:((b.map yA).drop (6:Int).toNat).take (((N:Int)+6).toNat-(6:Int).toNat)=((b.drop 6).take N).map yA:=by
  rw[zD5,zDn,show((N:Int)+6).toNat-(6:Int).toNat=N by omega];rfl
 have R:(((b.drop 6).take N).map yA).length=N:=by rw[zAr,zBg,zBr];omega
 have O:∀y,(((b.drop 6).take N).map yA)[0]? =some y->ln y.cells=1:=yM _ _ (λ_=>rfl);clear E;generalize (b.drop 2).take (N+4)=B1,(b.drop 6).take N=L at *;clear G U;generalize b.getD 3 0=x3,b.getD (N+6) 0=x6,b.getD (N+7) 0=x7,b.getD (N+8) 0=x8,b.getD (N+9) 0=x9 at *;refine eM call216 λF hF=>?_
 (repeat' (first|(apply zG;first|((apply wV;first|refine wM (aN Z Z) Z ?_|refine wM (PE Z Z) Z ?_);(try rw[u]);(try rw[S]))|refine PT ?_|(apply xP;(first|(refine vG 261 ?_;first|refine wM (zL (A) Z Z Z Z Z) Z ?_|refine uU (zL (A) Z Z Z Z Z) Z Z Z ?_|refine aF (zL (A) Z Z Z Z Z) Z Z Z ?_)))|refine SL ?_|refine SB ?_)|refine SG (I2 (λhc=>?_) λhc=>?_)|refine SG λhc=>?_|first|refine SR ?_|refine SK (I2 (λhc=>?_) λhc=>?_)|refine SK λhc=>?_|fail))
 exact zH [] Z Z (zBb (λz=>AV.tup [.agg [iA 0,iA x3,zE yA L],iA z,bA true]) (show(N:Int)+10=((N+10:Nat):Int) by omega)) Z
theorem lr (b:List Int) (hb:BY b) (hl:ln b<=1000000):zN 216 [zE yA b] [] (Zz (xj b)) []:=by
 by_cases u:∃q,xj b=some q/\q.1.code=0
 .obtain⟨q,Y,hc⟩:=u;rw[Y];exact mr b hb hl Y hc
 have ac:=zA yA b;unfold xj at u⊢;by_cases R:ln b=0
 .rw[f5 R];refine eM call216 λF hF=>?_
  exact ly
 rw[Os R]at u⊢;obtain⟨M,z0⟩:=KS b hb 0 zB;by_cases h1:b.getD 0 0=90
 case neg=>
  rw[f5 (.inl h1)];generalize b.getD 0 0=x0 at *;refine eM call216 λF hF=>?_
  exact ly
 by_cases h2:1<ln b
 case neg=>
  rw[Os (λh=>h.elim (λh=>h h1) (λh=>h2 h.1)),f5 zB];rw[h1]at M;refine eM call216 λF hF=>?_
  exact ly
 obtain⟨y1,z1⟩:=KS b hb 1 h2;by_cases E:b.getD 1 0=165
 case neg=>
  rw[f5 (.inr ⟨h2,E⟩)];rw[h1]at M;generalize b.getD 1 0=x1 at *;refine eM call216 λF hF=>?_
  exact ly
 rw[Os (λh=>h.elim (λh=>h h1) (λh=>h.2 E))]at u⊢;rw[h1]at M;rw[E]at y1;clear z0 z1 h1 E;by_cases S:ln b<6
 .rw[f5 S];refine eM call216 λF hF=>?_
  exact ly
 rw[Os S]at u⊢;obtain⟨y4,z4⟩:=KS b hb 4 zB;obtain⟨y5,z5⟩:=KS b hb 5 zB;have A:=or8 z4 z5;have I:b.getD 4 0*256+b.getD 5 0=(SH b:Int):=by unfold SH;omega
 rw[I]at A;generalize b.getD 4 0=x4,b.getD 5 0=x5 at *;generalize hN:SH b=N at *;by_cases U:200<N
 .rw[f5 U];refine eM call216 λF hF=>?_
  (repeat' (first|(apply zG;first|((apply wV;refine wM (aN Z Z) Z ?_);rw[A])|refine PT ?_|(apply xP;fail)|refine SM ?_|refine SB ?_)|refine SG (I2 (λhc=>?_) λhc=>?_)|refine SG λhc=>?_|first|refine SR ?_|refine SK (I2 (λhc=>?_) λhc=>?_)|refine SK λhc=>?_|fail))
  exact zI
 rw[Os U]at u⊢;by_cases V:ln b<N+10
 .rw[f5 V];refine eM call216 λF hF=>?_
  (repeat' (first|(apply zG;first|((apply wV;refine wM (aN Z Z) Z ?_);rw[A])|refine PT ?_|(apply xP;fail)|refine SM ?_|refine SB ?_)|refine SG (I2 (λhc=>?_) λhc=>?_)|refine SG λhc=>?_|first|refine SR ?_|refine SK (I2 (λhc=>?_) λhc=>?_)|refine SK λhc=>?_|fail))
  exact zI
 rw[Os V]at u⊢;have O:∀i k,BY ((b.drop i).take k):=λi k x hx=>hb x (zBz (zCo hx))
 have C:=Ub ((b.drop 2).take (N+4)) Nx (O _ _)
 have e1:((b.map yA).drop (2:Int).toNat).take (((N:Int)+6).toNat-(2:Int).toNat)=((b.drop 2).take (N+4)).map yA:=by
  rw[zD5,zDn,show((N:Int)+6).toNat-(2:Int).toNat=N+4 by omega];rfl
 obtain⟨y6,z6⟩:=KS b hb (N+6) zB;obtain⟨y7,z7⟩:=KS b hb (N+7) zB;obtain⟨y8,z8⟩:=KS b hb (N+8) zB;obtain⟨y9,z9⟩:=KS b hb (N+9) zB;obtain⟨y2,z2⟩:=KS b hb 2 zB;obtain⟨y3,z3⟩:=KS b hb 3 zB;have L:=or4 z6 z7 z8 z9;rw[Hy b (N+6) zB]at u⊢;generalize (b.drop 2).take (N+4)=B1 at *;clear O;generalize b.getD 2 0=x2,b.getD 3 0=x3,b.getD (N+6) 0=x6,b.getD (N+7) 0=x7,b.getD (N+8) 0=x8,b.getD (N+9) 0=x9,QH B1=u1 at *;generalize Fg [x6,x7,x8,x9]=u2 at *;by_cases G:u1=u2
 case neg=>
  rw[f5 G];have G:u2≠u1:=λh=>G h.symm
  clear u;refine eM call216 λF hF=>?_
  (repeat' (first|(apply zG;first|((apply wV;first|refine wM (aN Z Z) Z ?_|refine wM (PE Z Z) Z ?_);(try rw[A]);(try rw[L]))|refine PT ?_|(apply xP;(first|(refine vG 261 ?_;first|refine wM (zL (C) Z Z Z Z Z) Z ?_|refine uU (zL (C) Z Z Z Z Z) Z Z Z ?_|refine aF (zL (C) Z Z Z Z Z) Z Z Z ?_)))|refine SM ?_|refine SB ?_)|refine SG (I2 (λhc=>?_) λhc=>?_)|refine SG λhc=>?_|first|refine SR ?_|refine SK (I2 (λhc=>?_) λhc=>?_)|refine SK λhc=>?_|fail))
  exact zI
 subst G;rw[Os (λh=>h Z)]at u⊢;by_cases W:x2=1
 case neg=>
  rw[f5 W];clear u;refine eM call216 λF hF=>?_
  (repeat' (first|(apply zG;first|((apply wV;first|refine wM (aN Z Z) Z ?_|refine wM (PE Z Z) Z ?_);(try rw[A]);(try rw[L]))|refine PT ?_|(apply xP;(first|(refine vG 261 ?_;first|refine wM (zL (C) Z Z Z Z Z) Z ?_|refine uU (zL (C) Z Z Z Z Z) Z Z Z ?_|refine aF (zL (C) Z Z Z Z Z) Z Z Z ?_)))|refine SM ?_|refine SB ?_)|refine SG (I2 (λhc=>?_) λhc=>?_)|refine SG λhc=>?_|first|refine SR ?_|refine SK (I2 (λhc=>?_) λhc=>?_)|refine SK λhc=>?_|fail))
  exact zH [] Z Z (zBb (λz=>AV.tup [.agg [iA 3,iA 0,.sl false []],iA z,bA true]) (show(N:Int)+10=((N+10:Nat):Int) by omega)) Z
 rw[Os (λh=>h W)]at u⊢;by_cases B:x3<1\/22<x3
 .rw[f5 B];clear u
  rcases B with B|B
  all_goals
   refine eM call216 λF hF=>?_
   (repeat' (first|(apply zG;first|((apply wV;first|refine wM (aN Z Z) Z ?_|refine wM (PE Z Z) Z ?_);(try rw[A]);(try rw[L]))|refine PT ?_|(apply xP;(first|(refine vG 261 ?_;first|refine wM (zL (C) Z Z Z Z Z) Z ?_|refine uU (zL (C) Z Z Z Z Z) Z Z Z ?_|refine aF (zL (C) Z Z Z Z Z) Z Z Z ?_)))|refine SM ?_|refine SB ?_)|refine SG (I2 (λhc=>?_) λhc=>?_)|refine SG λhc=>?_|first|refine SR ?_|refine SK (I2 (λhc=>?_) λhc=>?_)|refine SK λhc=>?_|fail))
   exact zH [] Z Z (zBb (λz=>AV.tup [.agg [iA 5,iA 0,.sl false []],iA z,bA true]) (show(N:Int)+10=((N+10:Nat):Int) by omega)) Z
 .rw[Os B]at u;exact absurd ⟨_,rfl,rfl⟩ u
def P5 (b:List Int) (hl:ln b<=256) (g:Bool) (x:List Int) (hx:ln x<=1000000):zN 165 [Iy b g,zE yA x] [] (.tup [Iy (b++x.take (US (ln b) (ln x))) g,bA (decide (US (ln b) (ln x)=ln x))]) []:=by
 have z:=zA yA b;have u:=zA yA x;have C:US (ln b) (ln x)<=ln x/\b.length+US (ln b) (ln x)<=256:=by unfold US;omega
 have e1:min ((ln x:Nat):Int) (256-((ln b:Nat):Int))=((US (ln b) (ln x):Nat):Int):=by unfold US;omega
 have B:zE yA (b++x.take (US (ln b) (ln x)))= .sl false (b.map yA++(x.take (US (ln b) (ln x))).map yA):=by unfold zE;rw[zAy]
 unfold Iy;rw[B];generalize US (ln b) (ln x)=f at *;refine eM call165 λF hF=>?_
 (repeat' (first|refine Yf ?_|apply yW|apply xI|intro hc|(apply zG;first|refine SM ?_)|fail))
 rw[z,u,e1]
 (repeat' (first|refine uT ?_|apply yW|apply xI|intro hc|(apply zG;first|(apply yC;refine xG 1001 tok Z Z Z Z Z Z (yM _ _ (λ_=>rfl)) Z Z Z zB Z Z Z ?_))|fail))
 refine zH [] Z Z ?_ Z
 show AV.tup [AV.agg [AV.sl false (pi (b.map yA++(x.take f).map yA).length (b.map yA++(x.take f).map yA)),bA g],bA (uN .eql (f:Int) ((x.map yA).length:Int))]=_
 rw[zAt,u,show uN .eql (f:Int) (ln x:Int)=decide (f=ln x) by
  by_cases A:f=ln x
  .rw[A];simp[uN]
  .have:(f:Int)≠(ln x:Int):=by omega
   simp[uN,A,this]]
def OK (s:Ss) (h:ln s.bf<=1000):zN 164 [dB s] [] (dB s) []:=by
 have hl:=zA yA s.bf;unfold dB;refine eM call164 λF hF=>?_
 refine WL ?_;refine zH [] Z Z ?_ Z;rfl
def sr (s:Ss) (hl:ln s.bf<=1000):zN 100 [dB s] [] (dB (if s.op=true then s else⟨true,false,[],false⟩)) []:=by
 obtain⟨op,A,z,B⟩:=s;dsimp only at hl⊢;have u:=OK ⟨op,A,z,B⟩ hl;cases op
 .rw[Os zA7];unfold dB at *;refine eM call100 λF hF=>?_
  exact ng u
 .rw[f5 Z];unfold dB at *;refine eM call100 λF hF=>?_
  exact ng u
def Zr (s:Ss):zN 101 [dB s] [] (dB ⟨false,false,[],false⟩) []:=by
 unfold dB;refine eM call101 λF hF=>?_
 exact ly
def jx (s:Ss) (hl:ln s.bf<=256) (x:List Int) (hx:ln x<=1000000):zN 102 [dB s,zE yA x] [] (dB (Ab s x)) []:=by
 obtain⟨op,B,A,E⟩:=s;dsimp only at hl;have C:=OK ⟨op,B,A,E⟩ NB;have u:=P5 A hl E x hx;unfold Ab;dsimp only;unfold Iy at u;cases op
 .rw[Os zA7];unfold dB at *;refine eM call102 λF hF=>?_
  exact ng C
 .rw[f5 Z];unfold dB at *;cases z:decide (US (ln A) (ln x)=ln x)
  .rw[z]at u;rw[zAu (zE4 z),zEe];cases B
   all_goals
    refine eM call102 λF hF=>?_
    exact mx (xV C u)
  .rw[z]at u;rw[zAs (λh=>h (zEj z)),zFv];cases B
   all_goals
    refine eM call102 λF hF=>?_
    exact mx (xV C u)
def A8 (b:List Int) (N:Nat) (R s:jr) (m:Nat):Prop:=s.t<=ln b/\b.length<=m+s.t/\((ln s.its<N/\ES N (IO m (b.drop s.t)) s=R)\/(ln s.its=N/\s=R))
theorem A8.next {R s:jr} {m:Nat} {p:It×Nat} (B:1<=p.2/\p.2<=ln b-s.t) (C:s.t<=ln b) (A:ln b<=m+1+s.t) (z:ln s.its<N) (u:ES N (p::IO m (b.drop (s.t+p.2))) s=R):A8 b N R (IP s p) m:=by
 have e:(IP s p).t=s.t+p.2:=by unfold IP;split<;>rfl
 refine⟨zB,zB,?_⟩;unfold ES at u;rw[e];by_cases hx:B8 N s p=true
 .rw[f5 hx]at u;refine .inr ⟨?_,u⟩;unfold B8 at hx;simp only[zA2,zC9,zAx]at hx;unfold IP;rw[Os (by rw[hx.1];exact zA7)]
  show(s.its++[p.1]).length=N
  rw[zAv,zCr];omega
 .rw[Os hx]at u;refine .inl ⟨?_,u⟩;unfold B8 at hx;unfold IP;cases hc:Jy s p
  .rw[hc]at hx;rw[Os zA7];simp only[zEp,zA3,zAx]at hx
   show(s.its++[p.1]).length<N
   rw[zAv,zCr];omega
  .rw[f5 Z];exact z
theorem Yr (b:List Int) (hb:BY b) (hl:ln b<=1000) (g:Bool) (N:Nat) (hN:1<=N/\N<=1000):zN 166 [Iy b g,iA N] []
  (.tup [Iy (b.drop (ES N (IO (ln b) b) ⟨0,g,[]⟩).t) (ES N (IO (ln b) b) ⟨0,g,[]⟩).g,zE vH (ES N (IO (ln b) b) ⟨0,g,[]⟩).its]) []:=by
 have ac:=zA yA b;have h0:A8 b N (ES N (IO (ln b) b) ⟨0,g,[]⟩) ⟨0,g,[]⟩ (ln b):=⟨zA9 _,zAw _,.inl ⟨by show 0<N;omega,rfl⟩⟩;generalize ES N (IO (ln b) b) ⟨0,g,[]⟩=R at *;unfold Iy;refine eM call166 λF hF=>?_
 refine WW ?_;refine zQ 6 1001 3 Z Z Z ?_;refine gD (ln b) [1001,2,4] [2,4] [1,2,4] [6,7,8,1,2,4] Z (λM T U zs=>∃(s:jr) (m:Nat),(A8 b N R s m/\M=m)/\zs=⟨(6,.ref 1001 0 (s.its.map vH).length)::(7,iA s.t)::(8,bA s.g)::T,(1001,.arr 3 (s.its.map vH) true)::U⟩) ?_;(conv=>whnf);refine⟨?_,?_⟩
 .exact⟨⟨0,g,[]⟩,ln b,⟨h0,rfl⟩,rfl⟩
 rintro M st ⟨s,m,⟨⟨ht,hm,hI⟩,rfl⟩,rfl⟩;have ag:=zA vH s.its
 rcases hI with⟨L,G⟩|⟨L,rfl⟩
 case inr=>
  refine WL ?_;refine zH [] Z Z ?_ Z
  show AV.tup [AV.agg [.sl false ((b.drop s.t).map yA),bA s.g],.sl false (pi (s.its.map vH).length (s.its.map vH))]=_
  rw[zAt];rfl
 have A:=lr (b.drop s.t) (λx hx=>hb x (zBz hx)) CG
 cases I:xj (b.drop s.t)with
 | none=>
  rw[I]at A
  have S:s=R:=by
   rw[<-G]
   cases M with
   |zero=>rfl
   |succ m=>unfold IO;rw[I];rfl
  subst S;unfold Zz at A;dsimp only at A;refine WH A ?_;refine zH [] Z Z ?_ Z
  show AV.tup [AV.agg [.sl false ((b.drop s.t).map yA),bA s.g],.sl false (pi (s.its.map vH).length (s.its.map vH))]=_
  rw[zAt];rfl
 | some q=>
  rw[I]at A;obtain⟨⟨q1,q2⟩,_⟩:=qr (λx hx=>hb x (zBz hx)) I;rw[zBr]at q2;obtain⟨m,rfl⟩:∃m,M=m+1:=⟨M-1,zB⟩;unfold IO at G;rw[I]at G;dsimp only at G;rw[List.drop_drop]at G;unfold Zz at A;dsimp only at A;have E:=A8.next ⟨q1,q2⟩ ht zB L G;obtain⟨⟨u,z,B⟩,n⟩:=q;dsimp only at *;have V:s.t+n<=1000:=by omega
  have O:(s.its++[(⟨u,z,B⟩:It)]).map vH=s.its.map vH++[vH ⟨u,z,B⟩]:=by simp
  clear G I;by_cases h2:u=2
  .cases W:s.g
   .have e:IP s (⟨u,z,B⟩,n)=⟨s.t+n,true,s.its++[⟨u,z,B⟩]⟩:=by simp[IP,Jy,W,h2]
    rw[e]at E;generalize s.its.map vH=Y at *;unfold vH at *;dsimp only at *;refine WH A ?_;exact⟨m,zB,⟨s.t+n,true,s.its++[⟨u,z,B⟩]⟩,m,⟨E,rfl⟩,by dsimp only;rw[O];rfl⟩
   .have e:IP s (⟨u,z,B⟩,n)=⟨s.t+n,true,s.its⟩:=by simp[IP,Jy,W,h2]
    rw[e]at E;unfold vH at A;dsimp only at *;refine WH A ?_;exact⟨m,zB,⟨s.t+n,true,s.its⟩,m,⟨E,rfl⟩,rfl⟩
  .by_cases C:u=7\/u=4
   .have e:IP s (⟨u,z,B⟩,n)=⟨s.t+n,true,s.its++[⟨u,z,B⟩]⟩:=by
     rcases C with C|C<;>simp[IP,Jy,C]
    rw[e]at E;generalize s.its.map vH=Y at *;unfold vH at *;dsimp only at*
    rcases C with C|C
    all_goals
     refine WH A ?_;exact⟨m,zB,⟨s.t+n,true,s.its++[⟨u,z,B⟩]⟩,m,⟨E,rfl⟩,by dsimp only;rw[O];rfl⟩
   .have h7:¬u=7:=λh=>C (.inl h)
    have h4:¬u=4:=λh=>C (.inr h)
    have e:IP s (⟨u,z,B⟩,n)=⟨s.t+n,false,s.its++[⟨u,z,B⟩]⟩:=by simp[IP,Jy,h2,h7,h4]
    rw[e]at E;generalize s.its.map vH=Y at *;unfold vH at *;dsimp only at *;refine WH A ?_;exact⟨m,zB,⟨s.t+n,false,s.its++[⟨u,z,B⟩]⟩,m,⟨E,rfl⟩,by dsimp only;rw[O];rfl⟩
def Xr (s:Ss) (hb:BY s.bf) (hl:ln s.bf<=1000):zN 103 [dB s] [] (.tup [dB (aA s).1,uS (aA s).2]) []:=by
 obtain⟨op,B,u,z⟩:=s;dsimp only at hb hl;have G:=OK ⟨op,B,u,z⟩ hl;have A:=Yr u hb hl z 4 zB;have C:=ED (N:=4) (IO (ln u) u) ⟨0,z,[]⟩ (by show 0<4;omega);unfold aA;dsimp only;generalize ES 4 (IO (ln u) u) ⟨0,z,[]⟩=r at *;have E:=zA vH r.its;unfold Iy at A;cases op
 .rw[Os zA7];unfold dB at *;unfold uS;refine eM call103 λF hF=>?_
  exact ng G
 .rw[f5 Z];unfold dB at *;unfold uS;cases B
  .rw[Os zA7,zD1];refine eM call103 λF hF=>?_
   refine zS A ?_;refine Xb 27 1055 3 Z Z Z ?_;refine WW ?_;refine zH [] Z Z ?_ Z
   show AV.tup [_,AV.agg [_,AV.sl false (pi (r.its.map vH).length (r.its.map vH))]]=_
   rw[zAt];rfl
  .rw[f5 Z,show zE vH ([⟨15,0,[]⟩]++r.its)= .sl false ([.agg [iA 15,iA 0,zE yA []]]++r.its.map vH) by unfold zE;rw[zAy];rfl];refine eM call103 λF hF=>?_
   (have ga:=A;(repeat' (first|refine jX ?_|apply yW|apply xI|intro hc|(apply zG;first|(apply yH;refine ZU 18 Z Z Z ?_;refine vC tok Z Z ?_))|refine SB ?_|fail))<;>clear ga)
   refine Xb 17 1055 3 Z Z Z ?_
   (have ga:=A;(repeat' (first|refine uT ?_|apply yW|apply xI|intro hc|(apply zG;first|refine SM ?_)|fail))<;>clear ga)
   refine zH [] Z Z ?_ Z
   show AV.tup [_,AV.agg [_,AV.sl false (pi ([AV.agg [iA 15,iA 0,zE yA []]]++r.its.map vH).length ([AV.agg [iA 15,iA 0,zE yA []]]++r.its.map vH))]]=_
   rw[zAt];rfl
section
open Classical in
noncomputable def Vg (m:Ms):List Int:=if h:YO m then Tb m.kind (ZD h.2).choose else []
def Gy (m:Ms) (h:YO m):((Vg m).length<=300/\(m.args≠[]->∃q:List Int,Vg m=90::165::1::m.kind::q/\7<=ln q))/\KT [zW m] [] (.tup [zE yA (Vg m),iA 0]) []:=by
 have B:=(ZD h.2).choose_spec;have e:Vg m=Tb m.kind (ZD h.2).choose:=by unfold Vg;rw[zF1 h]
 rw[e];generalize (ZD h.2).choose=p at *;obtain⟨h1,h2,u⟩:=B;obtain⟨k,L,C,E⟩:=m;obtain⟨z,G⟩:=h;dsimp only at *;subst z;refine⟨⟨?_,λA=>?_⟩,u⟩
 .simp only[Tb,Vx,zA6,zAv,zAr,zB9];have:(IW k (ln p)).length<=10:=by unfold IW;simp
  have:=h2.1;omega
 .refine⟨0::(ln p:Int)::(p++Vx (QH (IW k (ln p)++p))),by simp[Tb,IW],?_⟩;have I:=h2.2 A;simp only[Vx,zA6,zAv,zAr,zB9];omega
noncomputable def PB (l:List Ms):List Int:=(l.map Vg).flatten
def Wr (l:List Ms) (m:Ms):PB (l++[m])=PB l++Vg m:=by simp[PB]
theorem Ug:∀{l:List Ms},(∀m∈l,YO m)->(PB l).length<=300*ln l
 | [],_=>zA9 _
 |m::l,h=>by
  have h1:=(Gy m (h m zV)).1.1;have h2:=Ug (l:=l) λx hx=>h x (by simp[hx])
  have e:PB (m::l)=Vg m++PB l:=rfl;rw[e,zAv,zA6];omega
structure PC where
 y:Cy
 ss:List Ss
def Ia (y:Cy) (s:AV):AV:= .agg [zE wJ y.c.js,zE uI y.c.ags,iA y.c.per,iA y.c.cap,iA y.c.hold,iA y.c.lock,bA false,iA y.f3,zE zM y.ds,zE vE y.sg,zE wW y.sv,zE iA y.st,zE vR y.vw,s]
def VT (b:PC):AV:=Ia b.y (zE dB b.ss)
structure Tg (b:PC):Prop where
 y:KJ b.y
 l:(b.ss.length:Int)=qS b.y.c.ags b.y.c.ags.length
 s:∀s∈b.ss,S5 s
def Y9 (S:List (List Int)) (f:List Int):AV:= .agg [zE (zE yA) S,zE yA f]
def ZB (u:List Ss):List In:=u.map λs=>(aA s).2
def VU (u:List Ss) (i:Nat):List Ss:=aX (λ_ s=>(aA s).1) u i
end
section
open Classical in
noncomputable def O5 (m:Ms):List Int:=if h:YO m then(ZD h.2).choose else []
def N5 {m:Ms} (h:YO m):Vg m=Tb m.kind (O5 m)/\(BY (O5 m)/\V9 m.kind m.args m.data (O5 m))/\(O5 m).length<=200:=by
 have u:=(ZD h.2).choose_spec;have e1:Vg m=Tb m.kind (ZD h.2).choose:=by unfold Vg;rw[zF1 h]
 have z:O5 m=(ZD h.2).choose:=by unfold O5;rw[zF1 h]
 rw[e1,z];exact⟨rfl,u.1,u.2.1.1⟩
def gx (k:Int) (p:List Int):(Tb k p).length=ln p+10:=by
 simp only[Tb,Vx,IW,zA6,zAv,zAr,zB9,zBx];omega
end
