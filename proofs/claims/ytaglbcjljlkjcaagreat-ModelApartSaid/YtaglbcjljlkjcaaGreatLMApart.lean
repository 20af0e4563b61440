/- law27: ModelApart. -/
import Derived.Test.YtaglbcjljlkjcaaGreatX31
namespace Go.Proofs.YtaglbcjljlkjcaaGreat.Av
set_option linter.all false
set_option maxRecDepth 4000
set_option maxHeartbeats 8000000
open List renaming length->ln
open Inhabited renaming default->dd
def Ys (c:Cf) (z:QT c.ags) (h:Nat) (hh:h<ln c.ags):zO 19 [wD c,iA h] [] (iA (uF c.ags h)) []:=by
 have C:=z.1;have u:=zA vP c.ags;have hb:=λi hi=>vT z i hi
 unfold wD;refine eM Tryz.call19 λF hF=>?_
 refine WW ?_;rw[u];refine zN (ln c.ags) [] [] [1,9,10] [5,11,1,9,10] Z (λi T U=>⟨(5,iA (uF c.ags (min i h)))::(11,iA i)::T,U⟩) ?_;(conv=>whnf);refine⟨by(rw[Nat.zero_min];rfl),?_,?_⟩
 .intro i hi;have A:=zJ vP c.ags i hi;have h2:=z.at (i:=i) hi;have B:=hb i zB;clear hb;by_cases e:i<h
  .rw[show min i h=i by omega,show min (i+1) h=i+1 by omega,show uF c.ags (i+1)=uF c.ags i+(c.ags.getD i dd).ses from Z];generalize uF c.ags i=s,c.ags.getD i dd=g at *;unfold vP at A;refine WW ?_;rfl
  .rw[show min i h=h by omega,show min (i+1) h=h by omega];generalize c.ags.getD i dd=g at *;unfold vP at A;refine WW ?_;rfl
 .rw[show min (ln c.ags) h=h by omega];exact ly
def apS (c:Cf) (h u s:Nat) (a b:List In×Dk):Prop:=∃(f:Nat->List It×Dk) (N:Nat),N<=3/\nx a.2 4=(N:Int)/\f 0=([],ad a.2)/\(∀k,(f k).1.length=k/\D9 c (h:Int) (f k) (f (k+1)))/\b=(a.1.set (u+s) ⟨true,(f N).1⟩,(f N).2)
def mz (c:Cf) (hv:qb c) (h:Nat) (hh:h<ln c.ags) (ins:List In) (B:∀i∈ins,HL i) (u:Nat) (d:Dk):∃g:Nat->List In×Dk,g 0=(ins,d)/\∀s,((g s).1.length=ln ins/\(∀i∈(g s).1,HL i)/\∀j,¬(u<=j/\j<u+s)->(g s).1.getD j dd=ins.getD j dd)/\apS c h u s (g s) (g (s+1)):=
 LN (λs (a:List In×Dk)=>a.1.length=ln ins/\(∀i∈a.1,HL i)/\∀j,¬(u<=j/\j<u+s)->a.1.getD j dd=ins.getD j dd) (λs a b=>apS c h u s a b)
  (λs a A=>by
   have E:=hv.a;have w:=yQ a.2 4 zB;obtain⟨f,C,z⟩:=jz c hv.w (h:Int) zB (ad a.2);refine⟨_,⟨f,(nx a.2 4).toNat,zB,zB,C,λk=>⟨(z k).1.1,(z k).2⟩,rfl⟩,by dsimp only;rw[zCk];exact A.1,λi hi=>?_,λj hj=>?_⟩
   .rcases zDm hi with hi|rfl
    .exact A.2.1 i hi
    .exact⟨by dsimp only;rw[(z _).1.1];omega,(z _).1.2⟩
   .dsimp only
    rw[<-A.2.2 j zB,zBj,zD5,Os zB,<-zBj])
  (ins,d) ⟨rfl,B,λ_ _=>rfl⟩
def H6 {c:Cf} (u:QT c.ags) {h:Nat} (hh:h<ln c.ags) {ins l:List In} (e:ln l=ln ins) (H:∀j,¬((uF c.ags h).toNat<=j/\j<(uF c.ags h).toNat+(c.ags.getD h dd).ses.toNat)->l.getD j dd=ins.getD j dd):c9 c h ins l:=by
 refine⟨e,λa k A z hk=>H _ λhc=>?_⟩;have B:=vT u a zB;have C:=vT u h zB;have E:uF c.ags (a+1)=uF c.ags a+(c.ags.getD a dd).ses:=rfl;have G:uF c.ags (h+1)=uF c.ags h+(c.ags.getD h dd).ses:=rfl;have:=u.at (i:=h) hh
 rcases zFn a h with h'|h'|h'
 .have:=hG u (show a+1<=h by omega) zB;omega
 .exact z h'
 .have:=hG u (show h+1<=a by omega) zB;omega
theorem mapart_c (l1:List Int) (h1:ln l1<=9223372036854775807) (l2:List Int) (h2:ln l2<=9223372036854775807) (I:Int):zO 4 [zE iA l1,zE iA l2,iA I] [] (bA true) []:=by
 have ka:=Fg;have kn:=uy l1 h1;have a3:=uy l2 h2;obtain⟨b,e0,P,kp⟩:=wj 15 zB ⟨l1,0,zBn _,h1⟩;have B:=P.i.y;have E:b.y.f3<1000000000:=by have:=P.n;omega
 have a6:xj b.y:=P.a (naN λa ha=>by rw[D5 ⟨l1,0,zBn _,h1⟩ 15 a ha];decide);clear P;obtain⟨y,ss⟩:=b;dsimp only at *;unfold VV Ha at kp;dsimp only at kp;generalize (⟨l1,0,zBn _,h1⟩:Dk)=cg,(⟨l2,0,zBn _,h2⟩:Dk)=b0 at *;obtain⟨ins,e1,⟨cu,a1⟩,ki⟩:=vj y B.v e0;have ck:=B.v.a;have cl:=zA vP y.c.ags;have W:=BE I ((y.c.ags.map vP).length:Int) zB zB;have q0:=zEe I (show((y.c.ags.map vP).length:Int)≠0 by omega);have q1:=zDy I (show(0:Int)<((y.c.ags.map vP).length:Int) by omega);obtain⟨h,hh⟩:∃h:Nat,I % ((y.c.ags.map vP).length:Int)=(h:Int):=⟨(I % ((y.c.ags.map vP).length:Int)).toNat,zB⟩;rw[hh]at W q1;have S:h<ln y.c.ags:=by omega
 have kb:=Ys y.c B.v.ag h S;have b3:=zA uI ins;have cm:=vT B.v.ag (ln y.c.ags) (zBb _);have a2:=B.rf;have b7:=zJ vP y.c.ags h S;rw[dY a2]at ki;unfold wD at kb;refine eM Tryz.call4 λF hF=>?_
 (have ga:=kn;have ge:=kp;have gn:=ki;have gt:=W;have gv:=kb;(repeat' (first|refine uT ?_|apply yW|apply xH|intro hc|(apply zG;first|(apply yE;refine xE 1045 tok Z Z Z Z Z Z (yM _ _ (λ_=>rfl)) Z Z Z zB Z Z Z ?_))|fail))<;>clear ga ge gn gt gv)
 refine vU [8,1045] [8,9,10,11,12,51] Z ?_
 (conv=>whnf)
 obtain⟨O,bk⟩:∃O:Nat,uF y.c.ags h=(O:Int):=⟨(uF y.c.ags h).toNat,by have:=vT B.v.ag h zB;omega⟩;have cd:=B.v.ag.at (i:=h) S;have cw:=hG B.v.ag (show h+1<=ln y.c.ags by omega) (zBb _);have cx:uF y.c.ags (h+1)=uF y.c.ags h+(y.c.ags.getD h dd).ses:=rfl;obtain⟨N,hN⟩:∃N:Nat,(y.c.ags.getD h dd).ses=(N:Int):=⟨(y.c.ags.getD h dd).ses.toNat,zB⟩;obtain⟨g,g0,hg⟩:=mz y.c B.v h S ins a1 O b0;have hA:c9 y.c h ins (g N).1:=H6 B.v.ag S (hg N).1.1 (by rw[bk,hN];exact(hg N).1.2.2);unfold vP at b7;refine zS a3 ?_;rw[hN,bk];have az:=λs=>(hg s).1.1
 refine zN (N) [1000,1045,8] [8] [8,9,10,11,12,13,59] [60,8,9,10,11,12,13,59] Z (λi T U=>⟨(60,iA i)::T,(1000,fI (g i).2)::(1045,.arr 2 ((g i).1.map uI) false)::U⟩) ?_;(conv=>whnf);refine⟨by(rw[g0];rfl),?_,?_⟩
 .intro s hs;obtain⟨f,M,hM,hm,f0,hf,bb⟩:=(hg s).2;have cr:=az s;have cq:=zA uI (g s).1
  have c1:((g s).1.map uI)[((O:Int)+(s:Int)).toNat]? =some (.agg [bA ((g s).1.getD (O+s) dd).opn,zE vE ((g s).1.getD (O+s) dd).its]):=by
   rw[show((O:Int)+(s:Int)).toNat=O+s by omega];exact zJ uI _ _ zB
  rw[bb,zCs];dsimp only;have n4:=yS (g s).2 4 zB zB;rw[hm]at n4;have ac:=λk=>(hf k).1
  clear bb hg hA az a3 kb ki kp;generalize (g s).1.getD (O+s) dd=i0 at *;rw[show O+s=((O:Int)+(s:Int)).toNat by omega];generalize (g s).1.map uI=X,(g s).2=d0 at *;refine zS n4 ?_;refine zQ 15 1046 3 Z Z Z ?_;refine zN (M) [1000,1046,8,1045] [8,1045] [8,9,10,11,12,13,14,59,60] [15,16,8,9,10,11,12,13,14,59,60] Z (λi T U=>⟨(15,.ref 1046 0 ((f i).1.map vE).length)::(16,iA ((M:Int)-i))::T,(1000,fI (f i).2)::(1046,.arr 3 ((f i).1.map vE) true)::U⟩) ?_;(conv=>whnf);refine⟨by(rw[f0,show(M:Int)-(0:Nat)=M by omega];rfl),?_,?_⟩
  .intro k hk;obtain⟨m,p,⟨W,ke⟩,bf⟩:=(hf k).2;have b5:=ac k;have bu:=zA vE (f k).1;rw[bf,zBd,show∀z,[z].map vE=[vE z]from λ_=>rfl,show(M:Int)-((k+1:Nat):Int)=(M:Int)-(k:Int)-1 by omega];clear bf hf ac n4;generalize (f k).1.map vE=Y,(f (k+1)).2=e2,(f k).2=e1 at *;unfold wD at W;unfold zX at W ke;unfold vE;refine yJ (xW W ke) ?_;rfl
  .have b5:=ac M;clear hf ac;generalize (f M).2=e9 at *;generalize (f M).1=L at *;have bu:=zA vE L
   (repeat' (first|refine Tc ?_|apply yW|apply xH|intro hc|(apply zG;first|refine SM ?_)|fail))
   refine yC Z ?_;apply xO;refine wB [8,1000,1045] [8,9,10,11,12,13,14,15,59,60] Z ?_
   (conv=>whnf)
   simp only[zBr,zA8];rw[show uI ⟨true,L⟩= .agg [bA true,.sl false (L.map vE)]from Z];generalize L.map vE=Y at *;refine WW ?_;rfl
 .have b4:((g N).1.map uI).length=(ins.map uI).length:=by rw[zA6,zA6];exact(hg N).1.1
  have ax:=(hg N).1.2.1;have cv:(g N).1.length=ln ins:=(hg N).1.1;clear hg az a3 kb ki kp;refine wB [8] [8,9,10,11,59,60] Z ?_
  (conv=>whnf)
  simp only[zBr];rw[zBf (l:=(g N).1.map uI) (zDc b4)];generalize (g N).1=u at *;have hR:=gk B E a1;have R:=gk B E ax;have kt:=Rj (HI y B E ins zB (gK y ins) hR (λi=>(eO ..).1) (λi=>(eO ..).2));have av:=Rj (HI y B E u zB (gK y u) R (λi=>(eO ..).1) (λi=>(eO ..).2));have a5:=λs hs=>l9 B a6 hA hR R s hs
  have hZ:=KY B hR;have a9:=KY B R;have br:=λ(a:Nat) (ha:a<ln y.ds) (hn:a≠h)=>show(uQ y (gK y u)).ds.getD a dd=(uQ y (gK y ins)).ds.getD a dd from(fZ ha).trans ((zBq DR.d (m9 B hA (by have:=B.dl;omega) hn)).trans (fZ ha).symm)
  have ci:=cR B.v.ag (SJ (uQ y (gK y ins)) ins (gK y ins) (ln y.ds)) _ (zBb _);have ca:=cR B.v.ag (SJ (uQ y (gK y u)) u (gK y u) (ln y.ds)) _ (zBb _);have a7:=(Xs B E hR).2;have a8:=(Xs B E R).2;have b1:(uQ y (gK y ins)).ds.length=ln y.ds:=gQ ..;have b2:(uQ y (gK y u)).ds.length=ln y.ds:=gQ ..;have b9:=hZ.rf;have bz:=a9.rf;have cp:=B.dl;have bl:=λd hd=>(hZ.di d hd).bd
  have ba:=B.v.ag;clear hR R hZ a9 a6 hA a1 ax B;generalize ZK y.c (SJ (uQ y (gK y ins)) ins (gK y ins) (ln y.ds)) (ln y.c.ags)=T,ZK y.c (SJ (uQ y (gK y u)) u (gK y u) (ln y.ds)) (ln y.c.ags)=T2 at *;generalize uQ y (gK y ins)=z at *;generalize uQ y (gK y u)=z2,QC (y.f3+1) z.vw=fm at *;generalize QC (y.f3+1) z2.vw=ch at *;unfold f7 at kt av;rw[dY a2,dY b9]at kt;rw[dY a2,dY bz]at av;have c2:=zA zM z.ds;have cf:=zA zM z2.ds;have c0:=zA zM y.ds;have cj:=zA kW T;have cb:=zA kW T2;have cc:=zA uI u;refine yJ (xW kt av) ?_;clear kt av;refine zN (ln z.ds) [8,20,21,22,23] [8,20,21,22,23] [8,9,11,20,21,22,23,140] [141,8,9,11,20,21,22,23,140] Z (λi T U=>⟨(141,iA i)::T,U⟩) (Lq ?_ ?_)
  .intro a ha;have G:=zJ zM z.ds a ha;have C:=zJ zM z2.ds a zB;have kd:=mw (z.ds.getD a dd) (bl _ (yB z.ds a ha));by_cases hn:a=h
   .subst hn;generalize z.ds.getD a dd=d,z2.ds.getD a dd=d2 at *;refine WW ?_;rfl
   .rw[br a zB hn]at C;generalize z.ds.getD a dd=d at *;unfold zM xD at G C kd;refine zS kd ?_;rfl
  ·(refine WW ?_)
   rw[b3];refine zN (ln ins) [8,21,23] [8,21,23] [8,11,21,23,163] [164,8,11,21,23,163] Z (λi T U=>⟨(164,iA i)::T,U⟩) (Lq ?_ ?_)
   .intro s hs;obtain⟨a,k,⟨w1,w2,w3⟩,au⟩:=a5 s zB;have cn:=vT ba a zB;have ko:=Bq y.c ba a k w1 w2 (s:Int) zB;have G:=zJ kW T s zB;have C:=zJ kW T2 s zB;have V:=a7 _ (yB T s zB);rw[show T.getD s dd=T.getD s []from Z]at G V;rw[show T2.getD s dd=T2.getD s []from Z]at C;unfold wD at ko;clear a5 a7 a8 br bl w3;by_cases e:a=h
    .subst e;clear au;refine zS ko ?_;rfl
    .rcases au e with⟨q1,q2⟩|⟨r0,st,st',A⟩
     .rw[q1]at G;rw[q2]at C;rw[show kW []= .sl false []from Z]at G C;clear au V;refine zS ko ?_;refine zN (0) [8,21,23] [8,21,23] [8,11,21,23,25,163,164,194,195] [196,8,11,21,23,25,163,164,194,195] Z (λi T U=>⟨(196,iA i)::T,U⟩) (Lq ?_ ?_)
      .intro i hi;cases hi
      ·(refine WW ?_)
       rfl
     .obtain⟨A1,A2⟩:=s9 A;clear au A;generalize T.getD s []=x at *;generalize T2.getD s []=x' at *;have b6:=zA zX x;have ce:=zA zX x';unfold kW zE at G C;have cy:=V.1;refine zS ko ?_;rw[b6];refine zN (ln x) [8,21,23] [8,21,23] [8,11,21,23,25,163,164,194,195] [196,8,11,21,23,25,163,164,194,195] Z (λi T U=>⟨(196,iA i)::T,U⟩) (Lq ?_ ?_)
      .intro p hp;obtain⟨m,m',e1,e2,e3,e4,e5⟩:=A2 p hp;have ap:(x.map zX)[p]? =some (zX m):=by rw[zBe,e1];rfl
       have ar:(x'.map zX)[p]? =some (zX m'):=by rw[zBe,e2];rfl
       have bx:=i9 (V.2 m (zCq e1));have W:=qx m bx;clear A2 ko V e1 e2;generalize x.map zX=X,x'.map zX=X' at *;have b1:=zA yA m.data;have b2:=zA yA m'.data;obtain⟨_,_,co⟩:=bx;by_cases a4:m.kind=17
       .clear W e5;obtain⟨mk,mt,ma,md⟩:=m;obtain⟨c5,c6,c3,c4⟩:=m';dsimp only at *;subst a4;subst e3;unfold zX zE at ap ar;dsimp only at ap ar;refine WW ?_;rfl
       .obtain rfl:=e5 a4;clear e3 e4 e5;obtain⟨mk,mt,ma,md⟩:=m';dsimp only at *;unfold zX zE at ap ar W;dsimp only at ap ar W;refine zS W ?_;rfl
      ·(refine WW ?_)
       rfl
   .exact ng ka
