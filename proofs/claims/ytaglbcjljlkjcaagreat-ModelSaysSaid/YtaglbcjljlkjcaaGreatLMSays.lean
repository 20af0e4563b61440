/- law27: ModelSays. -/
import Derived.Test.YtaglbcjljlkjcaaGreatW32
namespace Go.Proofs.YtaglbcjljlkjcaaGreat.Av
set_option linter.all false
set_option maxRecDepth 4000
set_option maxHeartbeats 8000000
open List renaming length->ln
open Inhabited renaming default->dd
structure SyP (its:List It) (b:Bool) (x r0:List Ms) (st tr:Ms):Prop where
 x:x=(r0++[st])++if b=true then [tr]else []
 s:st.kind=17
 t:tr.kind=18
 l:r0.length=its.length
 r:∀p,p<its.length->J5 (its.getD p default) (r0.getD p default)
def Ar {y:Cy} (h:KJ y) {u:List In} {R:Nat->DR} (W:Zj y u R) (s:Nat) (hs:s<(VV y.c (LJ (qC y R) u R (ln y.ds)) (ln y.c.ags)).length) (hi:s<ln u):
  ∃a k:Nat,(a<ln y.c.ags/\(k:Int)<(y.c.ags.getD a dd).ses/\s=(qS y.c.ags a).toNat+k/\k<((qC y R).ds.getD a dd).au.length)/\
   ((u.getD s dd).opn=false->(VV y.c (LJ (qC y R) u R (ln y.ds)) (ln y.c.ags)).getD s []=[])/\
   ((u.getD s dd).opn=true->∃r0 st tr,SyP (u.getD s dd).its (((qC y R).ds.getD a dd).au.getD k dd) ((VV y.c (LJ (qC y R) u R (ln y.ds)) (ln y.c.ags)).getD s []) r0 st tr):=by
 obtain⟨a,k,h1,h2,E,O⟩:=IQ h.v.ag (LJ (qC y R) u R (ln y.ds)) _ (zAw _) s hs;have z:a<ln y.ds:=by have:=h.dl;omega
 have A:=(W a z).1
 have S:((YH (y.ds.getD a dd) (y.f3+1)).au.length:Int)=(y.c.ags.getD a dd).ses:=by
  have:=(h.di _ (yK y.ds a z)).au;rw[h.dg a z]at this;exact this
 have M:(qC y R).ds.getD a dd=(R a).d:=aC z
 have U:((R a).d.au.length:Int)=(y.c.ags.getD a dd).ses:=by
  have:=A.i.au;rw[A.ag]at this;have V:=h.dg a z;rw[show(YH (y.ds.getD a dd) (y.f3+1)).rg.ag=(y.ds.getD a dd).rg.ag from Z,V]at this;exact this
 refine⟨a,k,⟨h1,h2,E,by rw[M];omega⟩,λG=>?_,λG=>?_⟩
 .rw[O];unfold LJ;rw[show(qS (qC y R).c.ags a).toNat+k=s from E.symm,G,Os zA7]
 .have I:(DC y.c u a).getD k dd=u.getD s dd:=by
   unfold DC DB;rw[zA0,zAz,zCk zB,E];rfl
  have Y:(DC y.c u a).length=(y.c.ags.getD a dd).ses.toNat:=by unfold DC DB;rw[zAr,zB9]
  have L:fE (DC y.c u a) k=(u.getD s dd).its:=by
   unfold fE;rw[I,f5 ⟨zB,G⟩]
  have C:=A.rl k zB;have B:=A.ra k zB;rw[L]at C B;refine⟨(R a).R.getD k [],LB ((qC y R).ds.getD a dd) (qC y R).vw (qC y R).f3,Qg (qC y R).f3 (XM R (ln y.ds)),?_,rfl,rfl,C,B⟩;rw[O];unfold LJ;rw[show(qS (qC y R).c.ags a).toNat+k=s from E.symm,G,f5 Z];rfl
theorem msays_c (l1:List Int) (h1:ln l1<=9223372036854775807):zN 5 [zE iA l1] [] (bA true) []:=by
 have ka:=Mg;have kn:=Y7 l1 h1;obtain⟨b,e0,P,kp⟩:=Ki 63 zB ⟨l1,0,zA9 _,h1⟩;have C:=P.i.y;have M:b.y.f3<1000000000:=by have:=P.n;omega
 clear P;obtain⟨y,ss⟩:=b;dsimp only at *;unfold VT Ia at kp;dsimp only at kp;generalize (⟨l1,0,zA9 _,h1⟩:Dk)=a7 at *;obtain⟨u,e1,⟨br,a1⟩,ki⟩:=Ji y C.v e0;have S:=ox C M a1;have kt:=xz (je y C M u zB (Ha y u) S (λi=>(bF ..).1) (λi=>(bF ..).2));have hZ:=EW C S;have bd:=qD C.v.ag (ln y.c.ags) (zAw _);have ba:=C.v.a;have a8:=YN C.v.ag (LJ (qC y (Ha y u)) u (Ha y u) (ln y.ds)) _ (zAw _);have hS:=λs hs hi=>Ar C S s hs hi
 have bl:(qC y (Ha y u)).ds.length=ln y.ds:=fW ..;have bk:=C.dl;have W:=C.v.ag;have a4:=C.rf;have a6:=hZ.rf;have V:=(wz C M S).2;clear S hZ;generalize VV y.c (LJ (qC y (Ha y u)) u (Ha y u) (ln y.ds)) (ln y.c.ags)=T at *;generalize qC y (Ha y u)=z at *;rw[aR a4]at ki kt;rw[aR a6]at kt;rw[show∀(v:List Vw),X6 T (QG (y.f3+1) v)= .agg [zE kY T,.sl false [.agg [iA 21,zE yA [],zE iA [y.f3+1],zE yA (YF v)]]]from λ_=>rfl]at kt;have a9:=zA kY T;have bs:=zA uS u;have b0:=zA zM z.ds;have bz:=zA zM y.ds;generalize YF z.vw=vr at *;refine eM Tryz.call5 λF hF=>?_
 refine RE (cD kn kp ki kt) ?_;clear kn kp ki kt;refine zU (T) [4,6] [4,6] [4,5,6,60,61] [62,4,5,6,60,61] Z (λi f4 T U=>⟨(62,iA i)::T,U⟩) (Lq ?_ ?_)
 .intro s f4 x post hx hs;have R:=yJ kY hx hs;have a2:=zX hx hs;have ex:T.getD s []=x:=by rw[hx,<-hs];simp
  have ar:=zJ uS u s zB;obtain⟨a,k,⟨h1,h2,h3,h4⟩,B,E⟩:=hS s a2 zB;rw[ex]at B E;have hxv:=V x DW;have bf:=qD W a zB;have ko:=Mq y.c W a k h1 h2 (s:Int) zB;have a3:=zJ zM z.ds a zB;generalize z.ds.getD a dd=d at *;have bx:=zJ bA d.au k h4;have bb:=zA bA d.au;generalize d.au.getD k dd=b at *;unfold zM xD zE at a3;unfold wE at ko;clear hx hS V ex h3;generalize u.getD s dd=ip at *;obtain⟨op,A⟩:=ip;unfold uS at ar;dsimp only at ar B E
  cases op with
  |false=>
   rw[B Z]at R;rw[show kY []= .sl false []from Z]at R;clear B E;refine WH ko ?_;rfl
  | true=>
   obtain⟨r0,st,tr,⟨e1,e2,e3,e4,e5⟩⟩:=E Z;clear B E;have Y:=zA vH A;have bu:ln r0<=1002:=by have:=hxv.1;rw[e1,zAv,zAv]at this;omega
   have ap:(x.map zW).length=ln A+1+if b=true then 1 else 0:=by
    rw[e1,zAr,zAv,zAv,e4]
    split<;>rfl
   have O:(x.map zW)[((A.map vH).length:Int).toNat]? =some (zW st):=by
    rw[zBf,Y,e1,zAz,zBh,zBq zB,e4,zC7];rfl
   have I:b=true->(x.map zW)[(((A.map vH).length:Int)+1).toNat]? =some (zW tr):=λhb=>by
    rw[show(((A.map vH).length:Int)+1).toNat=ln A+1 by omega,e1,hb,zAz,f5 Z,zBq Hk,zAv,zCr,e4,zC7];rfl
   have ac:∀p,p<ln A->(x.map zW)[p]? =some (zW (r0.getD p dd)):=λp hp=>by
    rw[e1,zAz,zBh,zBp zB,zBk zB,zA0,zBk zB];rfl
   unfold kY zE at R;clear e1 hxv;generalize x.map zW=X at *;unfold zW at O I;rw[e2]at O;rw[e3]at I;clear e2 e3;cases b
   all_goals
    first|rw[Os zA7]at ap|rw[f5 Z]at ap
    first|have I:=I Z|clear I
    refine WH ko ?_;refine zU (A) [4,6] [4,6] [4,5,6,9,60,61,62,146,147] [148,4,5,6,9,60,61,62,146,147] Z (λi f4 T U=>⟨(148,iA i)::T,U⟩) (Lq ?_ ?_)
    .intro p f4 it post hx hp;have a5:=yJ vH hx hp;have L:=zX hx hp;have av:=ac p L;have G:=e5 p L;rw[show A.getD p dd=it by rw[hx,<-hp];simp]at G;clear hx ac e5 O ko;generalize r0.getD p dd=m at *;obtain⟨mk,mt,ma,md⟩:=m;obtain⟨ic,ik,iy⟩:=it;unfold J5 at G;unfold zW zE at av;unfold vH at a5;dsimp only at *;by_cases az:mk=15
     .subst az;obtain⟨v,rfl⟩:=G (.inr Z);refine WW ?_;rfl
     .by_cases ax:mk=14
      .subst ax;obtain⟨v,rfl⟩:=G (.inl Z);refine WW ?_;rfl
      .clear G;refine WW ?_;rfl
    ·(refine WW ?_)
     rfl
 .exact ng ka
