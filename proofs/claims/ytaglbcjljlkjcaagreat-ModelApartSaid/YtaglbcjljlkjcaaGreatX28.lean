/- Part 28. -/
import Derived.Test.YtaglbcjljlkjcaaGreatX27
namespace Go.Proofs.YtaglbcjljlkjcaaGreat.Av
open Tryz
set_option linter.all false
set_option maxRecDepth 4000
set_option maxHeartbeats 8000000
open List renaming length->ln,range->pb,take->pi,drop->py
open Inhabited renaming default->dd
variable {y:Cy}{R:Nat->DR}
theorem re {n:Nat} {x:Int} (h:x∈dF R n):∃a,a<n/\x∈(R a).ks:=by grind [dF]
theorem HG {n:Nat} {x:En} (h:x∈XT R n):∃a,a<n/\x∈(R a).en:=by grind [XT]
def Y6 (T:List (List Ms)) (f:Ms):AV:= .agg [.ref 1051 0 (T.map kW).length,zE zX [f]]
def X6 (T:List (List Ms)):List (Nat×xV):=[(1051,.arr 1 (T.map kW) true)]
theorem HI (y:Cy) (h:LX y) (hn:y.f3<1000000000) (ins:List In) (bx:(ln ins:Int)<=uF y.c.ags (ln y.c.ags)) (R:Nat->DR) (L:zh y ins R) (a5:∀i,(R i).en.length<=2000) (a7:∀i,(R i).ks.length<=2000):
  zO 12 [qX y,zE uI ins] [] (.tup [qX (uQ y R),Y6 (ZK y.c (SJ (uQ y R) ins R (ln y.ds)) (ln y.c.ags)) (QC (y.f3+1) (uQ y R).vw)]) (X6 (ZK y.c (SJ (uQ y R) ins R (ln y.ds)) (ln y.c.ags))):=by
 have hb:=h.b;have n0:=h.n0;have hw:=h.v.ag;have k1:=CD y hb;have cc:=h.dl;have k2:=Cg y.c hw (y.f3+1) zB zB y.ds h.dl (λi hi=>h.di _ (yB y.ds i hi)) ins bx R a5 a7 (λa E=>(L a E).2.1) (y.sg.map vG) (y.sv.map wW) (y.st.map iA) (y.sg.map vG).length (y.sv.map wW).length (y.st.map iA).length y.vw;have cd:=zA uI ins;have a8:min y.f3 1073741823+1=y.f3+1:=by omega
 have a9:=h.rf;have eC:qX y= .agg [zE wK y.c.js,zE vP y.c.ags,iA y.c.per,iA y.c.cap,iA y.c.hold,iA y.c.lock,bA false,iA y.f3,zE zM y.ds,zE vG y.sg,zE wW y.sv,zE iA y.st,zE vV y.vw]:=by rw[<-a9];rfl
 unfold GA GB ZB at k1;rw[eC,a9]at k1;unfold ZB at k2;rw[eC];refine eM call12 λF hF=>?_
 refine zS k1 ?_;rw[a8];refine zS k2 ?_;refine wB [2,3,4,5,6,7,1012,1013,1014] [2,3,4,5,6,7,34,35,36] Z ?_
 (conv=>whnf)
 have a4:(y.ds.map zM).length=((dB (y.f3+1) y.ds R (ln y.ds)).map zM).length:=by rw[zA6,zA6,gQ]
 have bu:=zA vG y.sg;have b1:=zA wW y.sv;have b0:=zA iA y.st;have a6:=h.gl;have bb:=h.sl;have ba:=h.tl;simp only[zBr];rw[a4,zA8,bu,b1,b0,a6,bb,ba];clear k1 k2
 have ac:∀x∈dF R (ln y.ds),0<=x/\x<(ln y.c.js:Int):=λx S=>by
  obtain⟨a,E,S⟩:=re S;exact(L a E).1.ks x S
 have cf:=UD a7 (ln y.ds);have b5:=h.v.a;have b7:(dF R (ln y.ds)).length<=10000:=by omega
 have ce:=zA wK y.c.js;have cg:=zA iA (dF R (ln y.ds));have eY:uQ y R=⟨y.c,false,y.f3+1,dB (y.f3+1) y.ds R (ln y.ds),YP (eP y R) (bE y.c y.sg (dF R (ln y.ds))) (ln y.c.js),YQ (eP y R) y.sv (ln y.c.js),XU y.st (ln y.c.js),QP y.c.js (eP y R) (ln y.c.js)⟩:=rfl;refine zU ((dF R (ln y.ds))) [1012,2,3,4,5,6,7,1013,1014] [2,3,4,5,6,7,1013,1014] [2,3,4,5,6,7,34,35,86] [36,2,3,4,5,6,7,34,35,86] Z (λi f4 T U=>⟨(36,iA i)::T,(1012,.arr 5 ((bE y.c y.sg f4).map vG) false)::U⟩) (Lq ?_ ?_)
 .intro i f4 x post S hi;have hy:=yG iA S hi;have ch:=zW S hi;have ap:=ac x (yY S);obtain⟨V,W⟩:=KX h.v (sv:=y.sv) (f3:=y.f3) f4 y.sg h.gl h.j;have J:=h.v.jv _ (yB y.c.js x.toNat zB);have C:=(W x.toNat zB).c;have hJ:=J.n;have hC:=C.n;have hM:=C.m;have kr:=Gk (y.c.js.getD x.toNat dd) J ((bE y.c y.sg f4).getD x.toNat dd) zB zB;have cn:=yF wK y.c.js x ap.1 ap.2;have cm:=yF vG (bE y.c y.sg f4) x ap.1 zB;have b6:=zA vG (bE y.c y.sg f4);rw[DN,zCs];clear S ac eY L J C W;generalize (bE y.c y.sg f4).getD x.toNat dd=s,y.c.js.getD x.toNat dd=j at *;generalize bE y.c y.sg f4=X at *;generalize X.map vG=Y at *;refine zS kr ?_;rfl
 .obtain⟨V,W⟩:=KX h.v (sv:=y.sv) (f3:=y.f3) (dF R (ln y.ds)) y.sg h.gl h.j
  have u:=uk y.c h.v (y.f3+1) zB zB (dB (y.f3+1) y.ds R (ln y.ds)) (by rw[gQ];omega) (λd hd=>by
    obtain⟨a,E,rfl⟩:=aI hd
    exact(L a E).1.i) (λd hd=>by
    obtain⟨a,E,rfl⟩:=aI hd;refine(L a E).1.sc ?_
    exact KV.of zB ((h.sc _ (yB y.ds a E)).mono zB) (Ob _ _)) (bE y.c y.sg (dF R (ln y.ds))) y.sv y.st y.vw V h.sl h.tl (λk hk=>by
    have H:=W k hk
    exact⟨H.c,H.n,λe he=>by have:=H.e e he;omega,H.g⟩)
  have l1:((bE y.c y.sg (dF R (ln y.ds))).map vG).length=ln y.c.js:=by rw[zA6];exact V
  have l2:(y.sv.map wW).length=ln y.c.js:=by rw[zA6];exact h.sl
  have l3:(y.st.map iA).length=ln y.c.js:=by rw[zA6];exact h.tl
  have l4:((YP (eP y R) (bE y.c y.sg (dF R (ln y.ds))) (ln y.c.js)).map vG).length=ln y.c.js:=by unfold YP;rw[zA6,wP];exact V
  have l5:((YQ (eP y R) y.sv (ln y.c.js)).map wW).length=ln y.c.js:=by unfold YQ;rw[zA6,wP];exact h.sl
  have l6:((XU y.st (ln y.c.js)).map iA).length=ln y.c.js:=by unfold XU;rw[zA6,wP];exact h.tl
  have l7:((QP y.c.js (eP y R) (ln y.c.js)).map vV).length=ln y.c.js:=by simp[QP]
  have br:=zA vP y.c.ags;unfold M9 at u;rw[show ZJ y.c (bE y.c y.sg (dF R (ln y.ds))) y.sv y.st (dB (y.f3+1) y.ds R (ln y.ds)) (y.f3+1)=eP y R from Z,Es,l1,l2,l3,l4,l5,l6]at u;have eT:qX (uQ y R)= .agg [zE wK y.c.js,zE vP y.c.ags,iA y.c.per,iA y.c.cap,iA y.c.hold,iA y.c.lock,bA false,iA (y.f3+1),zE zM (uQ y R).ds,zE vG (uQ y R).sg,zE wW (uQ y R).sv,zE iA (uQ y R).st,zE vV (uQ y R).vw]:=rfl;have d1:dB (y.f3+1) y.ds R (ln y.ds)=(uQ y R).ds:=rfl;have d2:YP (eP y R) (bE y.c y.sg (dF R (ln y.ds))) (ln y.c.js)=(uQ y R).sg:=rfl;have d3:YQ (eP y R) y.sv (ln y.c.js)=(uQ y R).sv:=rfl;have d4:XU y.st (ln y.c.js)=(uQ y R).st:=rfl;have d5:QP y.c.js (eP y R) (ln y.c.js)=(uQ y R).vw:=rfl;rw[d2]at u l4;rw[d3]at u l5;rw[d4]at u l6;rw[d5]at u l7;rw[d1]at u⊢;refine zS u ?_;refine wB [2,3,4,5,6,7,11] [2,3,4,5,6,7,11,78,79] Z ?_
  (conv=>whnf)
  simp only[zBr];rw[zBf (l:=(uQ y R).sg.map vG) (zDc l4),zBf (l:=(uQ y R).sv.map wW) (zDc l5),zBf (l:=(uQ y R).st.map iA) (zDc l6),zBf (l:=(uQ y R).vw.map vV) (zDc l7),br];have M:=KY h L;have zc:(uQ y R).c=y.c:=rfl;have zn:(uQ y R).f3=y.f3+1:=rfl;have zd:(uQ y R).ds.length=ln y.ds:=gQ ..;have zR:∀a,a<ln y.ds->(uQ y R).ds.getD a dd=(R a).d:=λa E=>fZ E
  have co:=zA zM (uQ y R).ds;have eA:∀T f,Y6 T f= .agg [.ref 1051 0 (T.map kW).length,zE zX [f]]:=λ_ _=>rfl
  have eH:∀T,X6 T=[(1051,.arr 1 (T.map kW) true)]:=λ_=>rfl
  rw[eT,eA,eH];clear d1 d2 d3 d4 d5 u l1 l2 l3 l4 l5 l6 l7 V W ac eY a4;refine gL 11 0 1051 1 Z Z Z Z Z ?_
  have az:∀a k,SJ (uQ y R) ins R (ln y.ds) a k=if(ins.getD ((uF y.c.ags a).toNat+k) dd).opn=true then Pb ((uQ y R).ds.getD a dd) (uQ y R).vw (uQ y R).f3 k (R a).R (XT R (ln y.ds))else []:=λ_ _=>rfl
  generalize SJ (uQ y R) ins R (ln y.ds)=A at *;generalize uQ y R=z at *;refine zN (ln y.c.ags) [11,1051,2,3,4,5,6,7] [2,3,4,5,6,7] [2,3,4,5,6,7,11,78,86] [79,2,3,4,5,6,7,11,78,86] Z (λi T U=>⟨(79,iA i)::T,(11,.box [.ref 1051 0 ((ZK y.c A i).map kW).length,.s (.slice none 0 0)])::(1051,.arr 1 ((ZK y.c A i).map kW) true)::U⟩) (Lq ?_ ?_)
  .intro i hi;have B:i<ln y.ds:=by omega
   have ks:=Ve y.c i;have ht:=Yk y.c hw i hi;obtain⟨I,a3⟩:∃I:Nat,uF y.c.ags i=(I:Int):=⟨(uF y.c.ags i).toNat,by have:=vT hw i zB;omega⟩;obtain⟨N,hN⟩:∃N:Nat,(y.c.ags.getD i dd).ses=(N:Int):=⟨(y.c.ags.getD i dd).ses.toNat,by have:=hw.at (i:=i) zB;omega⟩;have ca:=hw.at (i:=i) zB;have hL:HQ y.c i=(pb N).map λk=>[Zk i k (I+k)]:=by unfold HQ;rw[a3,hN];rfl
   have ck:=cR hw A i zB;have cj:=vT hw i zB;rw[UF,show(y.c.ags.getD i dd).ses.toNat=N by omega]
   have cl:(List.map (λk=>Ox (R k)) (pb (ln y.ds)))[i]? =some (.sl false ((R i).R.map kW)):=by
    rw[zBe,zC1 B];rfl
   have G:=(L i B).1;have hI:=M.di _ (yB z.ds i zB);have b4:=zR i B
   have cb:(R i).d.au.length=N:=by
    have:=G.i.au;rw[G.ag]at this;have e9:=h.dg i B;rw[show(XL (y.ds.getD i dd) (y.f3+1)).rg.ag=(y.ds.getD i dd).rg.ag from Z,e9]at this;omega
   have a2:(XL (y.ds.getD i dd) (y.f3+1)).au.length=N:=by
    have:=(h.di _ (yB y.ds i B)).au;rw[h.dg i B]at this
    show(y.ds.getD i dd).au.length=N
    omega
   have bl:=G.rn;rw[a2]at bl;have ax:=G.rv
   have av:∀e∈XT R (ln y.ds),Fj e:=λe he=>by
    obtain⟨a,E,he⟩:=HG he;exact(L a E).1.en e he
   have b9:=UC a5 (ln y.ds);have bz:=hI.a.q;have kt:=λk (hk:k<N)=>Hs z M.n0 zB i k (I+k) zB hI.bd bz (by have:=M.wl;have:=M.v.j;omega) M.wb (by rw[b4];omega) (R i).R ax zB (XT R (ln y.ds)) av zB
   have a1:∀k,k<N->A i k=if(ins.getD (I+k) dd).opn=true then Pb (z.ds.getD i dd) z.vw z.f3 k (R i).R (XT R (ln y.ds))else []:=λk hk=>by
    rw[az i k,a3];rfl
   clear az av ax L G hI zR;have eZ:qX z= .agg [zE wK y.c.js,zE vP y.c.ags,iA y.c.per,iA y.c.cap,iA y.c.hold,iA y.c.lock,bA false,iA (y.f3+1),zE zM z.ds,zE vG z.sg,zE wW z.sv,zE iA z.st,zE vV z.vw]:=eT;rw[eZ]at kt;rw[show zE kW (R i).R= .sl false ((R i).R.map kW)from Z]at kt;generalize (R i).R.map kW=Rm at *;rw[zBd];have b3:=zA kW (ZK y.c A i);generalize (ZK y.c A i).map kW=X at *;unfold qh at ks ht;unfold wD at ks;refine zS ks ?_
   refine qR hF ht Z [2,3,4,5,6,7,11,12,1051] [2,3,4,5,6,7,11,12,78,79] Z Z Z Z Z Z Z Z Z (λk ys h=>?_) (λk=>[(2,.box [zE wK y.c.js,zE vP y.c.ags,iA y.c.per,iA y.c.cap,iA y.c.hold,iA y.c.lock,bA false,iA (y.f3+1),zE zM z.ds,zE vG z.sg,zE wW z.sv,zE iA z.st,zE vV z.vw]),(3,.box [zE uI ins]),(4,.box [.s (.slice none 0 0),.s (.slice none 0 0),iA 0,iA 0,iA 0,iA 0,bA false,iA 0,.s (.slice none 0 0),.s (.slice none 0 0),.s (.slice none 0 0),.s (.slice none 0 0),.s (.slice none 0 0)]),(5,.box [.s (.slice none 0 0),.s (.slice none 0 0)]),(6,.box [.sl false (List.map (λk=>Ox (R k)) (pb (ln y.ds)))]),(7,.box [zE kG (XT R (ln y.ds))]),(11,.box [.ref 1051 0 (X++(OY A i k).map kW).length,.s (.slice none 0 0)]),(12,.box [iA i]),(1051,.arr 1 (X++(OY A i k).map kW) true)]) (λ_=>True)
    (T:=[(2,.ptr 2 0 0),(3,.ptr 3 0 0),(4,.ptr 4 0 0),(5,.ptr 5 0 0),(6,.ptr 6 0 0),(7,.ptr 7 0 0),(11,.ptr 11 0 0),(12,.ptr 12 0 0),(78,iA (ln y.c.ags)),(79,iA i)]) (by rw[show(OY A i 0).map kW=[]from Z,zB0];rfl) trivial (λk ys q ar bk F1 h1 h2=>?_) (λbk=>?_)
   .rw[hL,zBe,zBp]at h;obtain⟨x,_,rfl⟩:=h;rfl
   .have hk:k<N:=by
     have:=(zBw.1 ar).1;rw[hL,zA6,zCr]at this;exact this
    rw[hL,zBe,zC1 hk]at ar;obtain rfl:=zEg ar;have ci:((OY A i k).map kW).length=k:=by unfold OY;rw[zA6,zA6,zCr]
    have kt:=kt k hk;rw[DO,zBd,show [A i k].map kW=[zE zX (A i k)]from Z,a1 k hk,<-zBy];generalize (OY A i k).map kW=O,Pb (z.ds.getD i dd) z.vw z.f3 k (R i).R (XT R (ln y.ds))=tl at *;by_cases hq:I+k<ln ins
    .have bf:=zJ uI ins (I+k) hq;generalize ins.getD (I+k) dd=x at *;unfold uI at bf;obtain⟨xo,xs⟩:=x;refine WW ?_;refine⟨rfl,λF2 V W=>?_⟩;dsimp only at bf⊢;cases xo
     .rw[Os zBm]
      (repeat' (first|refine jX ?_|apply yW|apply xH|intro hc|(apply zG;first|(apply yI;refine ZR 117 Z Z Z ?_;refine vD tok Z Z ?_))|refine SB ?_|fail))
      exact⟨rfl,trivial⟩
     .rw[zA5 Z]
      (have ga:=kt;(repeat' (first|refine jX ?_|apply yW|apply xH|intro hc|(apply zG;first|(apply yI;refine ZR 117 Z Z Z ?_;refine vD tok Z Z ?_))|refine SB ?_|fail))<;>clear ga)
      exact⟨rfl,trivial⟩
    .rw[show(ins.getD (I+k) dd).opn=false by rw[zBj,zCh zB];rfl,Os zBm];refine WW ?_;refine⟨rfl,λF2 V W=>?_⟩
     (repeat' (first|refine jX ?_|apply yW|apply xH|intro hc|(apply zG;first|(apply yI;refine ZR 117 Z Z Z ?_;refine vD tok Z Z ?_))|refine SB ?_|fail))
     exact⟨rfl,trivial⟩
   .rw[show(HQ y.c i).length=N by rw[hL,zA6,zCr]]
    show uG _ _ _ _ ⟨_,_⟩ _
    refine WW ?_;rfl
  .have b2:ln z.vw<=4:=by have:=M.wl;have:=M.v.j;omega
   have kf:=Vz (y.f3+1) z.vw zB M.wb;have kv:=DM [QC (y.f3+1) z.vw] zV (λm hm=>by rw[zB1.1 hm];exact Wz z.vw (y.f3+1) zB zB b2 M.wb);rw[show zE zX [QC (y.f3+1) z.vw]= .sl false [zX (QC (y.f3+1) z.vw)]from Z]at *; generalize QC (y.f3+1) z.vw=fm at *;have b3:=zA kW (ZK y.c A (ln y.c.ags));generalize (ZK y.c A (ln y.c.ags)).map kW=X at *;refine zS kf ?_
   (refine vJ 51 ?_;refine vU [2,4,5,11,1051] [2,4,5,11,127] Z ?_;(conv=>whnf);(try simp only[zBr,zA8]);first|refine wJ (zL (kv) Z Z Z Z Z) Z ?_|refine qA (zL (kv) Z Z Z Z Z) Z Z Z ?_|refine aO (zL (kv) Z Z Z Z Z) Z Z Z ?_)
   refine WW ?_;exact zI [1051] Z Z Z Z
def Rj {u:Cy} {ins:List In} {T:List (List Ms)} {f:Ms} (k:zO 12 [qX y,zE uI ins] [] (.tup [qX u,Y6 T f]) (X6 T)):zO 12 [qX y,zE uI ins] [] (.tup [qX u,f7 T f]) []:=by
 refine k.frz [] ?_ Z Z
 show AV.tup [_,AV.agg [AV.sl false (pi (T.map kW).length (T.map kW)),_]]=_
 rw[zA8];rfl
def Xs (h:LX y) (hn:y.f3<1000000000) {ins:List In} (E:zh y ins R):ZH (QC (y.f3+1) (uQ y R).vw)/\∀x∈ZK y.c (SJ (uQ y R) ins R (ln y.ds)) (ln y.c.ags),ln x<=1002/\∀m∈x,ZH m:=by
 have B:=KY h E;have n0:=h.n0;have hw:=h.v.ag;have W:=h.dl;have A:(uQ y R).vw.length<=4:=by have:=B.wl;have:=B.v.j;omega
 have C:∀e∈XT R (ln y.ds),Fj e:=λe G=>by
  obtain⟨a,V,G⟩:=HG G;exact(E a V).1.en e G
 refine⟨Wz _ _ zB zB A B.wb,λx hx=>?_⟩;obtain⟨s,M,e⟩:=List.mem_iff_getElem.1 hx;obtain⟨a,k,h1,h2,h3,S⟩:=PN hw (SJ (uQ y R) ins R (ln y.ds)) _ (zBb _) s M;have O:x=SJ (uQ y R) ins R (ln y.ds) a k:=by rw[<-S,zBj,zB2 M,<-e];rfl
 rw[O];unfold SJ;split
 .have u:a<ln y.ds:=by omega
  have z:=(E a u).1
  have L:((XL (y.ds.getD a dd) (y.f3+1)).au.length:Int)=(y.c.ags.getD a dd).ses:=by
   have:=(h.di _ (yB y.ds a u)).au;rw[h.dg a u]at this;exact this
  have U:=z.rn;have hq:=z.i.a.q;have I:(uQ y R).ds.getD a dd=(R a).d:=fZ u;rw[I];exact Mx _ hq _ _ (by show 0<=y.f3+1;omega) (by show y.f3+1<=_;omega) A B.wb k (R a).R z.rv zB _ C
 .exact⟨zBn _,λm Y=>by cases Y⟩
structure MtP (y y':Cy) (ins:List In) (T:List (List Ms)):Prop where
 i:LX y'
 c:y'.c=y.c
 n:y'.f3=y.f3+1
 l:T.length=ins.length
 v:∀x∈T,x.length<=1002/\∀m∈x,ZH m
 f:ZH (QC (y.f3+1) y'.vw)
 tk:zh y ins (gK y ins)/\y'=uQ y (gK y ins)/\T=ZK y.c (SJ y' ins (gK y ins) y.ds.length) y.c.ags.length
def Qj (y:Cy) (h:LX y) (z:y.f3<1000000000) (ins:List In) (G:(ln ins:Int)=uF y.c.ags (ln y.c.ags)) (A:∀i∈ins,HL i):
  ∃(B:Cy) (T:List (List Ms)),MtP y B ins T/\zO 12 [qX y,zE uI ins] [] (.tup [qX B,Y6 T (QC (y.f3+1) B.vw)]) (X6 T):=by
 have u:=gk h z A;have k:=HI y h z ins zB (gK y ins) u (λi=>(eO ..).1) (λi=>(eO ..).2);obtain⟨R,C⟩:∃R,R=gK y ins:=⟨_,rfl⟩;rw[<-C]at u k;have E:=KY h u;have hl:=cR h.v.ag (SJ (uQ y R) ins R (ln y.ds)) _ (zBb _);exact⟨uQ y R,ZK y.c (SJ (uQ y R) ins R (ln y.ds)) (ln y.c.ags),⟨E,rfl,rfl,zB,(Xs h z u).2,(Xs h z u).1,C▸⟨u,rfl,rfl⟩⟩,k⟩
def G6:AV:= .agg [.s (.slice none 0 0),.s (.slice none 0 0),iA 0,iA 0,iA 0,iA 0]
def Qx (n:Int):AV:= .agg [.sl false [],.sl false [],iA 0,iA 0,iA 0,iA 0,bA true,iA n,.sl false [],.sl false [],.sl false [],.sl false [],.sl false []]
def Ws:AV:= .sl false [.agg [iA 22,.s (.slice none 0 0),.sl false [iA 16],.s (.slice none 0 0)]]
def Hg:zO 148 [iA 0,iA 1,iA 4] [] (bA false) []:=by
 refine eM call148 λF hF=>?_
 (repeat' (first|refine aK ?_|refine yW (λhc=>?_) λhc=>?_|fail))
 exact zH
def Vs:zO 78 [G6] [] (bA false) []:=by
 have w:=Hg;unfold G6;refine eM call78 λF hF=>?_
 exact ng w
def Us:zO 33 [G6] [] (Qx 0) []:=by
 have w:=Vs;unfold G6 at *;unfold Qx;refine eM call33 λF hF=>?_
 refine zS w ?_;refine zN (0) [2,3] [2,3] [2,3,19,20] [21,2,3,19,20] Z (λi T U=>⟨(21,iA i)::T,U⟩) (Lq ?_ ?_)
 .intro i hi;cases hi
 .exact ly
def F6:zO 44 [Qx 0] [] (Qx 0) []:=
 Kk ⟨⟨[],[],0,0,0,0⟩,true,0,[],[],[],[],[]⟩ ⟨by simp,λ_ h=>(by cases h),by simp,λ_ h=>(by cases h),by simp,λ_ h=>(by cases h),by simp,by simp,λ_ h=>(by cases h)⟩
def Pj:zO 113 [] [] Ws []:=by
 unfold Ws;refine eM call113 λF hF=>?_
 exact nl
def E6:AV:= .sl false [.agg [bA true,.s (.slice none 0 0)]]
def Gg:zO 45 [E6] [] (.agg [.sl false [Ws],Ws]) []:=by
 have w:=Pj;unfold E6 Ws at *;obtain⟨z,u,hl,A⟩:∃l:List AV,l=[.agg [bA true,.s (.slice none 0 0)]]/\l.length=1/\l[(0:Nat)]? =some (.agg [bA true,.s (.slice none 0 0)]):=⟨_,rfl,rfl,rfl⟩;rw[<-u];refine eM call45 λF hF=>?_
 refine zS w ?_;rw[hl];refine zN (1) [7,2,3] [2,3] [0,2,3,11] [12,0,2,3,11] Z (λi T U=>⟨(12,iA i)::T,(7,.arr 1 (if i=0 then [.s (.slice none 0 0)]else [.sl false [.agg [iA 22,.s (.slice none 0 0),.sl false [iA 16],.s (.slice none 0 0)]]]) false)::U⟩) (Lq ?_ ?_)
 .intro i hi;obtain rfl:i=0:=by omega
  refine zS w ?_;rfl
 .exact ly
def Oj:zO 12 [Qx 0,E6] [] (.tup [Qx 1,.agg [.sl false [Ws],Ws]]) []:=by
 have w:=Gg;have k:=F6;unfold E6 Ws Qx at *;refine eM call12 λF hF=>?_
 refine zS k ?_;rw[show min (0:Int) 1073741823+1=1 from Z];exact ng w
def Fg:zO 18 [] [] (bA true) []:=by
 have u:=Us;have z:=Oj;unfold G6 at u;unfold E6 Ws Qx at *;refine eM call18 λF hF=>?_
 exact nm (xW u z)
def dW (n a b:Int) (h:a<=n/\n<=b):zO 154 [iA n,iA a,iA b] [] (bA true) []:=by
 have k:=gN n a b
 rwa [show uH n a b=true from zA9 h]at k
def D6 (j:Jn) (J:JV j):zO 210 [zE iA j.cf] [] (bA true) []:=by
 have hl:=zA iA j.cf;have M:=J.n;have hc:=J.c;have I:=S7 (n:=ln j.cf) zB;refine eM call210 λF hF=>?_
 refine WW ?_;refine zN (ln j.cf) [] [] [0,14,15] [16,0,14,15] Z (λi T U=>⟨(16,iA i)::T,U⟩) (Lq ?_ ?_)
 .intro u L;have O:=zJ iA j.cf u L;have z:=J.row u zB;have G:(2:Int) ^ (ln j.ph)=p2 (ln j.cf:Int):=by rw[hc];unfold p2;rw[zBx]
  rw[G,<-hl]at z;have E:=kZ j.cf zB u u;rw[J.ir u zB]at E;have A:=λv:Nat=>kZ j.cf zB u v
  have B:=λv:Nat=>kZ j.cf zB v u
  have C:=λv (hv:v<ln j.cf)=>J.sy u v zB zB
  rw[<-hl]at I;generalize j.cf.getD u dd=x at *;refine zS E ?_;refine zN (ln j.cf) [] [] [0,3,14,15,16,38] [39,0,3,14,15,16,38] Z (λi T U=>⟨(39,iA i)::T,U⟩) (Lq ?_ ?_)
  .intro v hv;have A:=A v;have B:=B v;rw[C v hv]at A;clear C;generalize kH j.cf v u=b at *;cases b
   all_goals
    (refine yJ (xW A B) ?_)
    rfl
  ·(refine WW ?_)
   rfl
 .exact ly
def Nj (j:Jn) (J:JV j) (p:Nat) (z:p<ln j.ph):zO 211 [xN (yH j p)] [] (bA true) []:=by
 have W:=J.rg p z;have V:=J.gp p z;obtain⟨Y,t2,t3,t4,t5,t6,t7,t8,t9,A,B,ac,u⟩:=J.ti p z;generalize yH j p=t at *;have C:=dW t.ring 0 1 W;have E:=dW t.group 0 3 V;have G:=dW t.ming 1 60 ⟨Y,zB⟩;have I:=dW t.maxg t.ming 60 ⟨zB,t3⟩;have L:=dW t.yel 1 60 ⟨t4,t5⟩;have M:=dW t.red 0 60 ⟨t6,t7⟩;have O:=dW t.walk 0 60 ⟨t8,t9⟩;have S:=dW t.clear 0 60 ⟨A,B⟩;by_cases U:t.walk=0
 .have h1:=u.1 U;clear u;refine eM call211 λF hF=>?_
  exact mx (vy C E G I L M O S)
 .have h1:¬t.clear=0:=λh=>U (u.2 h)
  clear u;refine eM call211 λF hF=>?_
  exact mx (vy C E G I L M O S)
def DH (j:Jn) (p i:Nat):Bool:=(yH j p).group==0||(pb i).any λq=>(yH j q).group==(yH j p).group-1
def Mj (j:Jn) (p i:Nat):DH j p (i+1)=(DH j p i||(yH j i).group==(yH j p).group-1):=by
 unfold DH;rw[zC5,List.any_append,zGw,List.any_nil,zGg,Bool.or_assoc]
def Ts (j:Jn) (J:JV j) (p:Nat) (u:p<ln j.ph):DH j p (ln j.ph)=true:=by
 unfold DH;have B:=J.gp p u;by_cases z:(yH j p).group=0
 .rw[z];rfl
 .obtain⟨q,A,e⟩:=J.lo p u ((yH j p).group-1) zB zB;rw[zDi];exact .inr (zCx.2 ⟨q,zBu.2 A,by rw[zCp];exact e⟩)
theorem DI (j:Jn) (J:JV j):zO 155 [wK j] [] (bA true) []:=by
 have hl:=zA xN j.ph;have ag:=zA iA j.cf;have hn:=J.n;have hc:=J.c;have c1:=D6 j J;have c2:=dW j.st 0 60 J.st;refine eM call155 λF hF=>?_
 refine yJ (xW c1 c2) ?_;refine zN (ln j.ph) [1] [1] [1,42,43] [44,1,42,43] Z (λi T U=>⟨(44,iA i)::T,U⟩) (Lq ?_ ?_)
 .intro u G;have Y:=zJ xN j.ph u G
  change (j.ph.map xN)[u]? =some (xN (yH j u))at Y
  have cp:=Nj j J u G;generalize yH j u=t at *;refine zS cp ?_;rfl
 .clear c1 c2;refine WW ?_;refine zN (ln j.ph) [1] [1] [1,53,54] [55,1,53,54] Z (λi T U=>⟨(55,iA i)::T,U⟩) (Lq ?_ ?_)
  .intro u G;have Y:=zJ xN j.ph u G
   change (j.ph.map xN)[u]? =some (xN (yH j u))at Y
   have C:=Ts j J u G;have hg:=J.gp u G;have A:DH j u 0=((yH j u).group==0):=by unfold DH;simp
   have E:=Mj j u;refine WW ?_;refine zN (ln j.ph) [1,7] [1,7] [1,6,7,53,54,55,61,62] [63,1,6,7,53,54,55,61,62] Z (λi T U=>⟨(63,iA i)::T,U⟩) (Lq ?_ ?_)
   .intro v hv;have B:=zJ xN j.ph v hv
    change (j.ph.map xN)[v]? =some (xN (yH j v))at B
    have M:=kZ j.cf zB u v;have z:=J.ap u v G hv;clear E A C;by_cases I:u=v
    .have W:(u:Int)=v:=by omega
     clear z;generalize yH j u=a,yH j v=b at *;refine WW ?_;rfl
    have W:¬(u:Int)=v:=by omega
    by_cases h1:(yH j u).ring=(yH j v).ring
    .rw[z I (.inl h1)]at M;clear z;generalize yH j u=a,yH j v=b at *;refine zS M ?_;rfl
    by_cases h2:(yH j u).group=(yH j v).group
    .clear z;generalize yH j u=a,yH j v=b at *;refine WW ?_;rfl
    .rw[z I (.inr h2)]at M;clear z;generalize yH j u=a,yH j v=b at *;refine zS M ?_;rfl
   .have L:∀b:Bool,((yH j u).group==0)=b->b=DH j u 0:=λb h=>by rw[A,h]
    by_cases O:(yH j u).group=0
    .have S:DH j u 0=true:=by rw[A,zCp];exact O
     clear L;refine WW ?_;refine zN (ln j.ph) [1,7] [1,7] [1,7,53,54,55,98,99] [10,100,1,7,53,54,55,98,99] Z (λi T U=>⟨(10,bA (DH j u i))::(100,iA i)::T,U⟩) ?_;(conv=>whnf);refine⟨by(rw[S];rfl),?_,?_⟩
     .intro v hv;have B:=zJ xN j.ph v hv
      change (j.ph.map xN)[v]? =some (xN (yH j v))at B
      have e9:DH j u v=true:=by unfold DH;rw[O];rfl
      have V:DH j u (v+1)=true:=by unfold DH;rw[O];rfl
      rw[e9,V];generalize yH j u=a,yH j v=b at *;refine WW ?_;rfl
     .rw[C];refine WW ?_;rfl
    .have S:DH j u 0=false:=by rw[A,zB3];exact O
     clear L;refine WW ?_;refine zN (ln j.ph) [1,7] [1,7] [1,7,53,54,55,98,99] [10,100,1,7,53,54,55,98,99] Z (λi T U=>⟨(10,bA (DH j u i))::(100,iA i)::T,U⟩) ?_;(conv=>whnf);refine⟨by(rw[S];rfl),?_,?_⟩
     .intro v hv;have B:=zJ xN j.ph v hv
      change (j.ph.map xN)[v]? =some (xN (yH j v))at B
      have V:=E v;rw[V];have ac:=J.gp v hv;generalize DH j u v=bb at *;clear C E A;generalize yH j u=a,yH j v=b at *;cases bb
      .by_cases hq:b.group=a.group-1
       .rw[show(false||b.group==a.group-1)=true by rw[zDk,zCp];exact hq];refine WW ?_;rfl
       .rw[show(false||b.group==a.group-1)=false by rw[zDk,zB3];exact hq];refine WW ?_;rfl
      .rw[zDt];refine WW ?_;rfl
     .rw[C];refine WW ?_;rfl
  .exact ly
def lz (c:Cf) (h:qb c):zO 84 [wD c] [] (bA true) []:=by
 have hj:=h.j;have M:=h.a;have A:=zA wK c.js;have z:=zA vP c.ags;have C:=dW ((c.js.map wK).length:Int) 1 4 zB;have w2:=dW ((c.ags.map vP).length:Int) 1 4 zB;have E:=dW c.per 1 600 h.p;have G:=dW c.cap 0 100 h.cp;have I:=dW c.hold 1 60 h.h;have L:=dW c.lock 0 600 h.l;unfold wD zE;refine eM call84 λF hF=>?_
 refine yJ (xW C w2) ?_;refine zN ((c.js.map wK).length) [1] [1] [1,20,21] [22,1,20,21] Z (λi T U=>⟨(22,iA i)::T,U⟩) (Lq ?_ ?_)
 .intro i hi;have B:=zJ wK c.js i zB;have u:=DI _ (h.jv _ (yB c.js i zB));generalize c.js.getD i dd=j at *;refine zS u ?_;rfl
 ·(refine WW ?_)
  refine zN ((c.ags.map vP).length) [1] [1] [1,31,32] [33,1,31,32] Z (λi T U=>⟨(33,iA i)::T,U⟩) (Lq ?_ ?_)
  .intro i hi;have B:=zJ vP c.ags i zB;have u:=IU (c.ags.getD i dd);rw[(Hv _).2 (h.av _ (yB c.ags i zB))]at u;generalize c.ags.getD i dd=a at *;refine zS u ?_;rfl
  .exact mx (cM E G I L)
def Lj (p:Ph) (h:Ax p) (l:Li) (B: -1000000000000<=l.tk/\l.tk<=1000000000000) (z: -1000<=Fe p/\Fe p<=1000) (C: -1000<=p.yel/\p.yel<=1000) (A: -1000<=p.red/\p.red<=1000):zO 77 [xN p,xG l] [] (iA (Rr p l)) []:=by
 have c:=Je p h;unfold Rr;generalize Fe p=n at *;by_cases h1:l.lamp=1
 .rw[zA5 h1,Int.max_comm];refine eM call77 λF hF=>?_
  exact ng c
 rw[Os h1];by_cases h2:l.lamp=2
 .rw[zA5 h2];refine eM call77 λF hF=>?_
  exact ly
 rw[Os h2];by_cases u:l.lamp=3
 .rw[zA5 u];refine eM call77 λF hF=>?_
  exact ly
 .rw[Os u];refine eM call77 λF hF=>?_
  exact ly
def Kj (s:Sg) (i:Nat):List Int:=(pb i).map λp=>Lx (xS s.c p)
def Jj (j:Jn) (s:Sg) (i:Nat):List Int:=(pb i).map λp=>Rr (yH j p) (xS s.c p)
def Ze (f:Nat->Int) (n:Nat):(pb n).map f=ZA (λp _=>f p) (List.replicate n 0) n:=by
 apply zCf;intro k;rw[vY,zC4,zBe];by_cases hk:k<n
 .rw[zA5 hk,zA5 hk,zC1 hk];rfl
 .rw[Os hk,zCh qD];rfl
theorem Px (j:Jn) (J:JV j) (s:Sg) (C:CV j s.c) (v:Sv):zO 30 [wK j,vG s,wW v] [] (vV (QR j s v)) []:=by
 have k:=aw j J.n.2;have hl:=zA xN j.ph;have W:=J.n;have z:(s.c.li.map xG).length=ln j.ph:=by rw[zA6];exact C.n
 unfold QR
 cases u:s.lat with
 |true=>
  rw[zA5 Z];unfold vG wW;rw[u];unfold vV at *;refine eM call30 λF hF=>?_
  exact ng k
 | false=>
  rw[Os zBm];have e1:KZ s (ln j.ph) (ln j.ph)=Kj s (ln j.ph):=(Ze _ _).symm;have I:HM j s (ln j.ph) (ln j.ph)=Jj j s (ln j.ph):=(Ze _ _).symm;rw[e1,I];have O:∀i,(Kj s (i+1)).map iA=(Kj s i).map iA++[iA (Lx (xS s.c i))]:=λi=>by simp[Kj,zC5]
  have S:∀i,(Jj j s (i+1)).map iA=(Jj j s i).map iA++[iA (Rr (yH j i) (xS s.c i))]:=λi=>by simp[Jj,zC5]
  have L:∀i,((Kj s i).map iA).length=i:=λi=>by simp[Kj]
  have M:∀i,((Jj j s i).map iA).length=i:=λi=>by simp[Jj]
  unfold wK vG wW zE at *;rw[u];refine eM call30 λF hF=>?_
  refine WW ?_;refine zQ 8 1021 1 Z Z Z ?_;refine zQ 9 1022 1 Z Z Z ?_;refine zN ((s.c.li.map xG).length) [1021,1022,3,6,7] [3,6,7] [3,6,7,24,25] [8,9,26,3,6,7,24,25] Z (λi T U=>⟨(8,.ref 1021 0 ((Kj s i).map iA).length)::(9,.ref 1022 0 ((Jj j s i).map iA).length)::(26,iA i)::T,(1021,.arr 1 ((Kj s i).map iA) true)::(1022,.arr 1 ((Jj j s i).map iA) true)::U⟩) (Lq ?_ ?_)
  .intro i hi;have hi':i<ln j.ph:=by omega
   have hy:(j.ph.map xN)[i]? =some (xN (yH j i)):=zJ xN j.ph i hi';have hz:(s.c.li.map xG)[i]? =some (xG (xS s.c i)):=zJ xG s.c.li i (by have:=C.n;omega);have Y:=J.ti i hi';have hv:=C.k i hi';have x1:=L i;have x2:=M i
   have E: -1000000000000<=(xS s.c i).tk/\(xS s.c i).tk<=1000000000000:=by
    unfold mb at hv
    repeat' split at hv
    all_goals (first|(rw[zBc]at hv;omega)|cases hv)
   have G:=Lj (yH j i) ⟨zB,zB,zB,zB⟩ (xS s.c i) E (by unfold Fe;omega) zB zB;rw[O,S];clear O S L M k e1 I;generalize Rr (yH j i) (xS s.c i)=V,(Kj s i).map iA=A,(Jj j s i).map iA=B at *;generalize yH j i=p at *;unfold Lx;generalize xS s.c i=l at *;by_cases h1:l.lamp=1
   .rw[zA5 (.inl h1)];refine zS G ?_;rfl
   by_cases h2:l.lamp=2
   .rw[zA5 (.inr h2)];refine zS G ?_;rfl
   .rw[Os (λh=>h.elim h1 h2)];refine zS G ?_;rfl
  ·(refine WW ?_)
   refine zI [] Z Z ?_ Z
   show AV.agg [bA false,bA (v.ph != -1),.sl false (pi ((Kj s (s.c.li.map xG).length).map iA).length (py 0 ((Kj s (s.c.li.map xG).length).map iA))),.sl false (pi ((Jj j s (s.c.li.map xG).length).map iA).length (py 0 ((Jj j s (s.c.li.map xG).length).map iA)))]=_
   rw[zBr,zA8,zBr,zA8,z];rfl
theorem Rs (c:Cf) (h:qb c):zO 34 [wD c] [] (qX (WJ c)) []:=by
 have E:=lz c h;have hj:=h.j;have ha:=h.a;have B:=zA wK c.js;have A:=zA vP c.ags;have z:∀i,((OZ c i).map zM).length=i:=λi=>by simp[OZ]
 have u:qX (WJ c)= .agg [zE wK c.js,zE vP c.ags,iA c.per,iA c.cap,iA c.hold,iA c.lock,bA false,iA 0,zE zM (OZ c (ln c.ags)),zE vG (c.js.map fM),zE wW (c.js.map HP),zE iA (c.js.map λ_=> -1),zE vV (c.js.map λj=>QR j (fM j) (HP j))]:=rfl;rw[u];unfold wD zE at *;refine eM call34 λF hF=>?_
 refine zS E ?_;refine zQ 7 1011 17 Z Z Z ?_;refine zN ((c.ags.map vP).length) [1011,1,2,3] [1,2,3] [1,2,3,4,40,41] [7,42,1,2,3,4,40,41] Z (λi T U=>⟨(7,.ref 1011 0 ((OZ c i).map zM).length)::(42,iA i)::T,(1011,.arr 17 ((OZ c i).map zM) true)::U⟩) (Lq ?_ ?_)
 .intro i hi;have O:=zJ vP c.ags i zB;have V:=(Y8 (i:Int) _ (h.av _ (yB c.ags i zB))).2;have e:(OZ c (i+1)).map zM=(OZ c i).map zM++[zM (PJ (i:Int) (c.ags.getD i dd) (c.ags.getD i dd).ses.toNat)]:=by unfold OZ;rw[zC5,zBd,zBd];rfl
  have z:=z i;rw[e];clear E u e;generalize PJ (i:Int) (c.ags.getD i dd) (c.ags.getD i dd).ses.toNat=dk at *;generalize c.ags.getD i dd=a at *;generalize (OZ c i).map zM=X at *;unfold zM xD at*
  (have ga:=V;(repeat' (first|refine jX ?_|apply yW|apply xH|intro hc|(apply zG;first|(apply yI;refine vD tok Z Z ?_))|refine SB ?_|fail))<;>clear ga)
  rfl
 ·(refine WW ?_)
  refine zQ 10 1012 5 Z Z Z ?_;refine zQ 11 1013 3 Z Z Z ?_;refine zQ 12 1014 1 Z Z Z ?_;refine zQ 4 1015 4 Z Z Z ?_;rw[A];refine zN ((c.js.map wK).length) [1012,1013,1014,1015,2,3,1011] [2,3,1011] [2,3,7,55,56] [4,10,11,12,57,2,3,7,55,56] Z (λi T U=>⟨(4,.ref 1015 0 (((c.js.take i).map λj=>QR j (fM j) (HP j)).map vV).length)::(10,.ref 1012 0 (((c.js.take i).map fM).map vG).length)::(11,.ref 1013 0 (((c.js.take i).map HP).map wW).length)::(12,.ref 1014 0 ((c.js.take i).map λ_=>iA (-1)).length)::(57,iA i)::T,(1012,.arr 5 (((c.js.take i).map fM).map vG) true)::(1013,.arr 3 (((c.js.take i).map HP).map wW) true)::(1014,.arr 1 ((c.js.take i).map λ_=>iA (-1)) true)::(1015,.arr 4 (((c.js.take i).map λj=>QR j (fM j) (HP j)).map vV) true)::U⟩) (Lq ?_ ?_)
  .intro i hi;have hi':i<ln c.js:=by omega
   have O:=zJ wK c.js i hi';have J:=h.jv _ (yB c.js i hi')
   have G:c.js.take (i+1)=c.js.take i++[c.js.getD i dd]:=by
    rw[zBj,zB2 hi',zDr,zDz hi']
   have M:(c.js.take i).length<=4:=by rw[zBv];omega
   have S:=Oe _ J;have I:=ot (c.js.getD i dd).ph.length BS;have L:=Px _ J (fM (c.js.getD i dd)) (Ck J) (HP (c.js.getD i dd));have C:((c.js.getD i dd).ph.map xN).length=(c.js.getD i dd).ph.length:=zA6 ..;rw[G];simp only[zBd,zCo,zCy];have m1:(((c.js.take i).map fM).map vG).length=(c.js.take i).length:=by simp
   have m2:(((c.js.take i).map HP).map wW).length=(c.js.take i).length:=by simp
   have m3:((c.js.take i).map λ_=>iA (-1)).length=(c.js.take i).length:=by simp
   have m4:(((c.js.take i).map λj=>QR j (fM j) (HP j)).map vV).length=(c.js.take i).length:=by simp
   clear E u G J;unfold HP at *;rw[<-C]at I L⊢;generalize bh ((c.js.getD i dd).ph.map xN).length=sv,fM (c.js.getD i dd)=W at *;generalize QR (c.js.getD i dd) W sv=vw at *;generalize c.js.getD i dd=j,((c.js.take i).map fM).map vG=Y at *;generalize ((c.js.take i).map λj=>bh (ln j.ph)).map wW=X2 at *;generalize (c.js.take i).map (λ_=>iA (-1))=X3,((c.js.take i).map λj=>QR j (fM j) (bh (ln j.ph))).map vV=X4 at *;unfold wK zE vG wW vV at*
   (have ga:=S;have ge:=I;have gn:=L;(repeat' (first|refine jX ?_|apply yW|apply xH|intro hc|(apply zG;first|(apply yI;refine vD tok Z Z ?_))|refine SB ?_|fail))<;>clear ga ge gn)
   rfl
  .rw[B,zA8];refine WW ?_;refine zI [] Z Z ?_ Z
   show AV.agg [.sl false (c.js.map wK),.sl false (c.ags.map vP),iA c.per,iA c.cap,iA c.hold,iA c.lock,bA false,iA 0,.sl false (pi ((OZ c (ln c.ags)).map zM).length (py 0 ((OZ c (ln c.ags)).map zM))),.sl false (pi ((c.js.map fM).map vG).length (py 0 ((c.js.map fM).map vG))),.sl false (pi ((c.js.map HP).map wW).length (py 0 ((c.js.map HP).map wW))),.sl false (pi (c.js.map λ_=>iA (-1)).length (py 0 (c.js.map λ_=>iA (-1)))),.sl false (pi ((c.js.map λj=>QR j (fM j) (HP j)).map vV).length (py 0 ((c.js.map λj=>QR j (fM j) (HP j)).map vV)))]=_
   rw[zBr,zA8,zBr,zA8,zBr,zA8,zBr,zA8,zBr,zA8,show(c.js.map λ_=>iA (-1))=(c.js.map λ_=>(-1:Int)).map iA by rw[zGy];rfl]
def UA (y:Cy) (j p:Int):Cy:=if(0<=j/\j<(ln y.c.js:Int))/\0<=p/\p<((y.c.js.getD j.toNat dd).ph.length:Int)then⟨y.c,false,y.f3,y.ds,y.sg,y.sv,y.st.set j.toNat p,y.vw⟩else y
def C6 (h:LX y) (j p:Int):LX (UA y j p):=by
 unfold UA;split
 .exact⟨h.v,rfl,h.n0,h.dl,h.di,h.dg,h.sc,h.gl,h.sl,by dsimp only;rw[zCk];exact h.tl,h.wl,h.wb,h.j⟩
 .exact h
def drD (d:wE) (x:List Int):wE:=⟨d.rg,d.rq,d.dr++[x],d.au⟩
def WI (y:Cy) (a:Int) (x:List Int):Cy:=if(0<=a/\a<(ln y.ds:Int))/\x.length=8/\(y.ds.getD a.toNat dd).dr.length<8 then⟨y.c,false,y.f3,y.ds.set a.toNat (drD (y.ds.getD a.toNat dd) x),y.sg,y.sv,y.st,y.vw⟩else y
theorem B6 (h:LX y) {a:Int} {d:List Int} (hd:BY d):LX (WI y a d):=by
 unfold WI;split
 case isFalse=>exact h
 rename_i hc;obtain⟨⟨a0,E⟩,G,I⟩:=hc;have A:a.toNat<ln y.ds:=by omega
 generalize a.toNat=n at *;have u:=h.di _ (yB y.ds n A);refine⟨h.v,rfl,h.n0,by dsimp only;rw[zCk];exact h.dl,λz B=>?_,λi hi=>?_,λz B=>?_,h.gl,h.sl,h.tl,h.wl,h.wb,h.j⟩
 .rcases zDm B with B|rfl
  .exact h.di z B
  .refine⟨u.b,u.v,u.q,u.lg,u.a,u.n,u.t8,u.br,u.bb,u.bl,u.au,?_,λx C=>?_,u.vh⟩
   .grind [BY,WI,drD,List.length_append,List.length_cons,List.length_nil]
   .rcases zBs.1 C with C|C
    .exact u.dr x C
    all_goals grind
 .dsimp only at hi⊢;rw[zCk]at hi;rw[KW _ _ _ _ hi];split
  .rename_i e;rw[<-e];exact h.dg n A
  .exact h.dg i hi
 .rcases zDm B with B|rfl
  .exact h.sc z B
  .exact h.sc (y.ds.getD n dd) (yB y.ds n A)
theorem YN (y:Cy) (h:i7 y):zO 53 [qX y] [] (GA y) (GB y):=by
 have E:=zA zM y.ds;have G:=zA vG y.sg;have I:=zA wW y.sv;have L:=zA iA y.st;have M:=zA vV y.vw;have hd:=h.d;have O:=h.g;have S:=h.s;have V:=h.t;have hv:=h.v;unfold qX GA ZB GB;refine eM call53 λF hF=>?_
 (repeat' (first|refine uT ?_|apply yW|apply xH|intro hc|(apply zG;first|(apply yE;first|refine xE 1014 tok Z Z Z Z Z Z (yM _ _ (λ_=>rfl)) Z Z Z zB Z Z Z ?_|refine xE 1016 tok Z Z Z Z Z Z (yM _ _ (λ_=>rfl)) Z Z Z zB Z Z Z ?_))|fail))
 refine zQ 4 1011 17 Z Z Z ?_;refine zU (y.ds) [1011,1,2,3,1014,1016] [1,2,3,1014,1016] [1,2,3,27,28] [4,29,1,2,3,27,28] Z (λi f4 T U=>⟨(4,.ref 1011 0 (f4.map zM).length)::(29,iA i)::T,(1011,.arr 17 (f4.map zM) true)::U⟩) (Lq ?_ ?_)
 .intro i f4 x post u hi;have C:=yG zM u hi;have z:=zW u hi;have A:(f4.map zM).length=i:=by rw[zA6,hi]
  have B:=kN x (h.db x (yY u));have e:(f4++[x]).map zM=f4.map zM++[zM x]:=by simp
  clear u;rw[e];generalize f4.map zM=xs at *;unfold zM xD at*
  (have ga:=B;(repeat' (first|refine jX ?_|apply yW|apply xH|intro hc|(apply zG;first|(apply yI;refine vD tok Z Z ?_))|refine SB ?_|fail))<;>clear ga)
  rfl
 .refine kF 1011 [4] Z Z Z Z Z ?_;refine WW ?_;refine zQ 7 1012 5 Z Z Z ?_;refine zU (y.sg) [1012,1,2,3,1011,1014,1016] [1,2,3,1011,1014,1016] [1,2,3,4,40,41] [7,42,1,2,3,4,40,41] Z (λi f4 T U=>⟨(7,.ref 1012 0 (f4.map vG).length)::(42,iA i)::T,(1012,.arr 5 (f4.map vG) true)::U⟩) (Lq ?_ ?_)
  .intro i f4 x post u hi;have C:=yG vG u hi;have z:=zW u hi;have A:(f4.map vG).length=i:=by rw[zA6,hi]
   have hb:=h.gb x (yY u);have B:=PP x zB zB;have e:(f4++[x]).map vG=f4.map vG++[vG x]:=by simp
   clear u;rw[e];generalize f4.map vG=xs at *;unfold vG at*
   (have ga:=B;(repeat' (first|refine jX ?_|apply yW|apply xH|intro hc|(apply zG;first|(apply yI;refine vD tok Z Z ?_))|refine SB ?_|fail))<;>clear ga)
   rfl
  .refine kF 1012 [7] Z Z Z Z Z ?_;refine WW ?_;refine zQ 10 1013 3 Z Z Z ?_;refine zU (y.sv) [1013,2,3,1011,1012,1014,1016] [2,3,1011,1012,1014,1016] [2,3,4,7,53,54] [10,55,2,3,4,7,53,54] Z (λi f4 T U=>⟨(10,.ref 1013 0 (f4.map wW).length)::(55,iA i)::T,(1013,.arr 3 (f4.map wW) true)::U⟩) (Lq ?_ ?_)
   .intro i f4 x post u hi;have C:=yG wW u hi;have z:=zW u hi;have A:(f4.map wW).length=i:=by rw[zA6,hi]
    have hb:=h.sb x (yY u);have B:=NF x ⟨zB⟩;have e:(f4++[x]).map wW=f4.map wW++[wW x]:=by simp
    clear u;rw[e];generalize f4.map wW=xs at *;unfold wW at*
    (have ga:=B;(repeat' (first|refine jX ?_|apply yW|apply xH|intro hc|(apply zG;first|(apply yI;refine vD tok Z Z ?_))|refine SB ?_|fail))<;>clear ga)
    rfl
   .refine kF 1013 [10] Z Z Z Z Z ?_;refine WW ?_;refine zI [1011,1012,1013,1014] Z Z ?_ Z
    show AV.agg [zE wK y.c.js,zE vP y.c.ags,iA y.c.per,iA y.c.cap,iA y.c.hold,iA y.c.lock,bA y.rf,iA y.f3,.ref 1011 0 (y.ds.map zM).length,.ref 1012 0 (y.sg.map vG).length,.ref 1013 0 (y.sv.map wW).length,.ref 1014 0 (y.st.map iA).length,.sl false (pi (y.vw.map vV).length (y.vw.map vV))]=_
    rw[zA8];rfl
def bL (y:Cy) (h:i7 y):zO 53 [qX y] [] (qX y) []:=Qe (YN y h)
def Ij (y:Cy) (h:LX y) (j p:Int):zO 17 [qX y,iA j,iA p] [] (qX (UA y j p)) []:=by
 have hb:=h.b;have z:=h.rf;have L:=zA wK y.c.js;have O:=zA iA y.st;have G:=h.tl;have B:=dY z;by_cases hj:0<=j/\j<(ln y.c.js:Int)
 case neg=>
  rw[show UA y j p=y by unfold UA;rw[Os (λh=>hj h.1)]];have u:=bL y hb;rw[B]at u⊢;by_cases I:j<0
  all_goals
   refine eM call17 λF hF=>?_
   exact ng u
 obtain⟨j0,j1⟩:=hj;have A:=yF wK y.c.js j j0 j1;have M:=zA xN (y.c.js.getD j.toNat dd).ph;by_cases E:0<=p/\p<((y.c.js.getD j.toNat dd).ph.length:Int)
 case neg=>
  rw[show UA y j p=y by unfold UA;rw[Os (λh=>E h.2)]];have u:=bL y hb;rw[B]at u⊢;generalize y.c.js.getD j.toNat dd=U at *;unfold wK at A;by_cases I:p<0
  all_goals
   refine eM call17 λF hF=>?_
   exact ng u
 obtain⟨V,W⟩:=E;rw[show UA y j p=⟨y.c,false,y.f3,y.ds,y.sg,y.sv,y.st.set j.toNat p,y.vw⟩ by unfold UA;rw[zA5 ⟨⟨j0,j1⟩,V,W⟩]];have u:=YN y hb;unfold GA GB ZB at u;rw[B,z]at u;rw[B];have C:(y.st.set j.toNat p).map iA=(y.st.map iA).set j.toNat (iA p):=zCs ..;rw[show qX ⟨y.c,false,y.f3,y.ds,y.sg,y.sv,y.st.set j.toNat p,y.vw⟩= .agg [zE wK y.c.js,zE vP y.c.ags,iA y.c.per,iA y.c.cap,iA y.c.hold,iA y.c.lock,bA false,iA y.f3,zE zM y.ds,zE vG y.sg,zE wW y.sv,.sl false ((y.st.map iA).set j.toNat (iA p)),zE vV y.vw] by rw[<-C];rfl];clear C;have S:=yF iA y.st j j0 zB;generalize y.c.js.getD j.toNat dd=U at *;unfold wK at A;refine eM call17 λF hF=>?_
 refine zS u ?_;refine zI [] Z Z ?_ Z
 show AV.agg [_,_,_,_,_,_,_,_,.sl false (pi (y.ds.map zM).length (y.ds.map zM)),.sl false (pi (y.sg.map vG).length (y.sg.map vG)),.sl false (pi (y.sv.map wW).length (y.sv.map wW)),.sl false (pi (y.st.map iA).length ((y.st.map iA).set j.toNat (iA p))),_]=_
 rw[zA8,zA8,zA8,zBf (by rw[zCk];exact zBb _)];rfl
theorem Qs (y:Cy) (h:LX y) (a:Int) (d:List Int) (S:ln d<=1000000):zO 37 [qX y,iA a,zE yA d] [] (qX (WI y a d)) []:=by
 have hb:=h.b;have A:=h.rf;have U:=zA zM y.ds;have V:=zA yA d;have C:=dY A;by_cases M:0<=a/\a<(ln y.ds:Int)
 case neg=>
  rw[show WI y a d=y by unfold WI;rw[Os (λh=>M h.1)]];have u:=bL y hb;rw[C]at u⊢;by_cases h0:a<0
  all_goals
   refine eM call37 λF hF=>?_
   exact ng u
 obtain⟨a0,I⟩:=M;have z:=yF zM y.ds a a0 I;have O:=h.di _ (yB y.ds a.toNat zB);have W:=O.dn;by_cases E:ln d=8/\(y.ds.getD a.toNat dd).dr.length<8
 case neg=>
  rw[show WI y a d=y by unfold WI;rw[Os (λh=>E h.2)]];have u:=bL y hb;rw[C]at u⊢;generalize y.ds.getD a.toNat dd=x at *;have G:=zA qO x.dr;unfold zM xD at z;by_cases h9:ln d=8
  all_goals
   refine eM call37 λF hF=>?_
   exact ng u
 obtain⟨E,Y⟩:=E;rw[show WI y a d=⟨y.c,false,y.f3,y.ds.set a.toNat ⟨(y.ds.getD a.toNat dd).rg,(y.ds.getD a.toNat dd).rq,(y.ds.getD a.toNat dd).dr++[d],(y.ds.getD a.toNat dd).au⟩,y.sg,y.sv,y.st,y.vw⟩ by unfold WI;rw[zA5 ⟨⟨a0,I⟩,E,Y⟩];rfl];have u:=YN y hb;unfold GA GB ZB at u;rw[C,A]at u;rw[C];generalize y.ds.getD a.toNat dd=x at *;have G:=zA qO x.dr;have B:(x.dr++[d]).map qO=x.dr.map qO++[.sl false (d.map yA)]:=by rw[zBd];rfl
 have L:(y.ds.set a.toNat ⟨x.rg,x.rq,x.dr++[d],x.au⟩).map zM=(y.ds.map zM).set a.toNat (xD x.rg (zE zY x.rq) (.sl false (x.dr.map qO++[.sl false (d.map yA)])) (zE bA x.au)):=by rw[zCs,<-B];rfl
 rw[show qX ⟨y.c,false,y.f3,y.ds.set a.toNat ⟨x.rg,x.rq,x.dr++[d],x.au⟩,y.sg,y.sv,y.st,y.vw⟩= .agg [zE wK y.c.js,zE vP y.c.ags,iA y.c.per,iA y.c.cap,iA y.c.hold,iA y.c.lock,bA false,iA y.f3,.sl false ((y.ds.map zM).set a.toNat (xD x.rg (zE zY x.rq) (.sl false (x.dr.map qO++[.sl false (d.map yA)])) (zE bA x.au))),zE vG y.sg,zE wW y.sv,zE iA y.st,zE vV y.vw] by rw[<-L];rfl];clear L;clear B;unfold zM xD at z;unfold xD;refine eM call37 λF hF=>?_
 (have ga:=u;(repeat' (first|refine jX ?_|apply yW|apply xH|intro hc|(apply zG;first|(apply am;refine wJ (bV Z Z z) Z ?_)|(apply yI;refine vD tok Z Z ?_)|(apply yE;first|refine xE 1005 tok Z Z Z Z Z Z (yM _ _ (λ_=>rfl)) Z Z Z zB Z Z Z ?_|refine kX tok Z Z Z Z Z Z (yM _ _ (λ_=>rfl)) Z Z Z zB Z ?_))|refine SB ?_|fail))<;>clear ga)
 refine vU [6,7,1011,1012,1013,1014] [6,7,48,50] Z ?_
 (conv=>whnf)
 simp only[zBr,zA8];refine WW ?_;refine zI [] Z Z ?_ Z
 show AV.agg [_,_,_,_,_,_,_,_,.sl false (pi (y.ds.map zM).length ((y.ds.map zM).set a.toNat _)),.sl false (pi (y.sg.map vG).length (y.sg.map vG)),.sl false (pi (y.sv.map wW).length (y.sv.map wW)),.sl false (pi (y.st.map iA).length (y.st.map iA)),_]=_
 rw[zA8,zA8,zA8,zBf (by rw[zCk];exact zBb _)];rfl
theorem Hj (f g A:Int) (u:List Int) (E:0<=f):∀i,i<=ln u->HR f g A u i=if(i:Int)<=f\/g<=0 then((u.take i).map jQ).flatten else((u.take f.toNat).map jQ).flatten++(jQ A++(((u.drop f.toNat).take (i-f.toNat)).map jQ).flatten)
 |0,_=>by rw[zA5 zB];rfl
 | i +1,hi=>by
  have z:=Hj f g A u E i zB
  have e:u.take (i+1)=u.take i++[u.getD i dd]:=by
   rw[zBj,zB2 zB,zDr,zDz zB]
  unfold HR;by_cases B:g<=0
  .rw[Os zB,z,zA5 (.inr B),zA5 (.inr B),e,zBd,zEr];simp
  .by_cases h1:(i:Int)<f
   .rw[Os zB,z,zA5 zB,zA5 zB,e,zBd,zEr];simp
   .rw[Os (show¬(((i+1:Nat):Int)<=f\/g<=0) by omega)]
    have C:(u.drop f.toNat).take (i+1-f.toNat)=(u.drop f.toNat).take (i-f.toNat)++[u.getD i dd]:=by
     rw[show i+1-f.toNat=(i-f.toNat)+1 by omega,zDz BT,List.getElem_drop,zBj,zB2 zB,zDr]
     congr 3
     omega
    rw[C,zBd,zEr];by_cases h2:(i:Int)=f
    .subst h2;rw[zA5 ⟨rfl,zB⟩,z,zA5 zB];simp
    .rw[Os zB,z,Os zB];simp
theorem rz (f g z:Int) (u:List Int) (B:0<=f) (E:f<=ln u):NC f g z u (ln u)=((u.take f.toNat).map jQ).flatten++((if 0<g then jQ z else [])++((u.drop f.toNat).map jQ).flatten):=by
 have C:=Hj f g z u B (ln u) (zBb _);have A:(u.drop f.toNat).take (ln u-f.toNat)=u.drop f.toNat:=zBf (by rw[zB6];exact zBb _);rw[A,zA8]at C
 grind [NC,jQ,List.flatten_append,List.take_append_drop,List.take_of_length_le,List.drop_eq_nil_of_le]
def u32_in {n:Int} (h:0<=n/\n<4294967296):IntKind.u32.wrap n=n:=by
 unfold IntKind.wrap;simp[IntKind.signed,IntKind.bits];omega
def Ye (a c:Nat) (u:a<4294967296) (hc:c<4294967296):Qr (a:Int) (c:Int)=((a ||| c:Nat):Int):=by
 unfold Qr
 have h1:(BitVec.ofInt IntKind.u32.bits (a:Int) ||| BitVec.ofInt IntKind.u32.bits (c:Int)).toNat=a ||| c:=by
  rw[zGq,zEc,zEc,zEb,zEb,zD0 (show a<2 ^ IntKind.u32.bits from u),zD0 (show c<2 ^ IntKind.u32.bits from hc)]
 rw[h1]
 have h2:a ||| c<2 ^ 32:=zGi u hc
 exact u32_in ⟨zB,zB⟩
def UB {n x:Int} (z:0<=n/\n<16777216) (A:0<=x/\x<256):Qr (IntKind.u32.wrap (n*2 ^ (min (8:Int).toNat IntKind.u32.bits))) x=n*256+x:=by
 rw[show n*2 ^ (min (8:Int).toNat IntKind.u32.bits)=n*256 from Z,u32_in zB];obtain⟨a,rfl⟩:=zCz z.1;obtain⟨c,rfl⟩:=zCz A.1;have h2:=Ye (a*256) c zB zB;have u:=zEq (show c<2 ^ 8 by omega) a;rw[zGp]at u;rw[show((a:Int)*256)=((a*256:Nat):Int) by omega,h2,<-u];omega
def Gj (y:Int):IntKind.u8.wrap y=y % 256:=by
 unfold IntKind.wrap;simp[IntKind.signed,IntKind.bits]
def A6 (k:Int) (h:13<=k/\k<=21):zO 141 [iA k] [] (.agg [iA (jP k).1,iA (jP k).2.1,iA (jP k).2.2.1,iA (jP k).2.2.2.1,iA (jP k).2.2.2.2]) []:=by
 have:k=13\/k=14\/k=15\/k=16\/k=17\/k=18\/k=19\/k=20\/k=21:=by omega
 rcases this with rfl|rfl|rfl|rfl|rfl|rfl|rfl|rfl|rfl
 all_goals
  refine eM call141 λF hF=>?_
  exact ly
theorem HJ (k:Int) (B z:Nat) (lo hi sd:Int) (V:zO 141 [iA k] [] (.agg [iA (B:Int),iA (z:Int),iA lo,iA hi,iA sd]) []) (hg:z<=4) (m:Ms) (c:Nat) (hk:m.kind=k) (ht:ln m.tok<=10) (hd:ln m.data<=100000) (ha:∀x∈m.args,0<=x/\x<=4294967295) (hn:ln m.args<=1000) (hc:z≠0->ln m.args=B+c*z) (av:c<=16):
  zO 70 [zX m] [] (zE yA (dL B z c m)) []:=by
 subst hk;have a2:=zA yA m.tok;have ag:=zA iA m.args;have az:=zA yA m.data;unfold dL;generalize hT:m.tok++ZC B z c 0 m.args=ar;refine eM call70 λF hF=>?_
 (have ga:=V;(repeat' (first|refine uT ?_|apply yW|apply xH|intro hc|(apply zG;first|(apply yE;refine xE 1001 tok Z Z Z Z Z Z (yM _ _ (λ_=>rfl)) Z Z Z zB Z Z Z ?_))|fail))<;>clear ga)
 refine vQ 1001 Z ?_;refine uZ (m.args) [1001,1,3] [1,3] [1,3,16,17] [4,18,1,3,16,17] Z (λi f4 T U zs=>∃u:List Int,(ln u<=10+6*i/\∀post,m.args=f4++post->u++ZC B z c i post=ar)/\zs=⟨(4,.ref 1001 0 (u.map yA).length)::(18,iA i)::T,(1001,.arr 1 (u.map yA) true)::U⟩) (Lp ?_ ?_ ?_)
 .exact⟨m.tok,⟨zB,λpost h=>by rw[<-hT,h];rfl⟩,rfl⟩
 .rintro i f4 x post st I hi ⟨u,⟨q0,q1⟩,rfl⟩;have hy:=yG iA I hi;have au:=zW I hi;have O:=ha x (yY I);have M:=zA yA u;have he:=gD x;have c2:=yy x O.1 O.2;have a1:=zA yA (jQ x)
  have A:∀p,m.args=f4++[x]++p->p=post:=λp h=>by
   rw[I,zBy]at h;simpa using h.symm
  have C:=q1 _ I;clear q1 hT I;by_cases G:i=B/\z≠0
  .obtain⟨rfl,E⟩:=G;have L:=hc E
   have hq:(((m.args.map iA).length:Int)-(i:Int)).tdiv (z:Int)=(c:Int):=by
    rw[ag,L,show(((i+c*z:Nat):Int)-(i:Int))=(c:Int)*(z:Int) by rw[Int.natCast_add,zFv];omega];exact Int.mul_tdiv_cancel _ zB
   have ax:aG .i64 ((((m.args.map iA).length:Int)-(i:Int)).tdiv (z:Int)):=by rw[hq];exact⟨zB,zB⟩
   have e:ZC i z c i (x::post)=[(c:Int)]++(jQ x++ZC i z c (i+1) post):=by rw[ZC,zA5 ⟨rfl,E⟩]
   rw[e]at C;clear e L hc;generalize jQ x=W at *;refine yJ (xW V c2) ?_;refine⟨u++[(c:Int)]++W,⟨by simp;omega,λp h=>by rw[A p h,<-C];simp⟩,?_⟩;rw[zBd,zBd,<-hq];rfl
  .have e:ZC B z c i (x::post)=jQ x++ZC B z c (i+1) post:=by rw[ZC,Os G];rfl
   rw[e]at C;clear e hc;generalize jQ x=W at *;by_cases ac:i=B
   .have E:z=0:=by
     by_cases h:z=0
     .exact h
     .exact absurd ⟨ac,h⟩ G
    refine yJ (xW V c2) ?_;refine⟨u++W,⟨by simp;omega,λp h=>by rw[A p h,<-C];simp⟩,?_⟩;rw[zBd];rfl
   ·(refine yJ (xW V c2) ?_)
    refine⟨u++W,⟨by simp;omega,λp h=>by rw[A p h,<-C];simp⟩,?_⟩;rw[zBd];rfl
 .rintro st ⟨u,⟨q0,q1⟩,rfl⟩;have e:=q1 [] zV;rw[show ZC B z c (ln m.args) []=[]from rfl,zB0]at e;subst e;have M:=zA yA u;clear q1 hT hc;by_cases Y:z≠0/\m.args.length=B
  .rw[zA5 Y];obtain⟨S,ap⟩:=Y;refine WW ?_;refine zI [] Z Z ?_ Z
   show AV.sl false ((u.map yA++[yA 0]++m.data.map yA).take (u.map yA++[yA 0]++m.data.map yA).length)=_
   rw[zA8];unfold zE;rw[zBd,zBd,zBy];rfl
  .rw[Os Y];by_cases S:z=0
   ·(refine WW ?_)
    refine zI [] Z Z ?_ Z
    show AV.sl false ((u.map yA++m.data.map yA).take (u.map yA++m.data.map yA).length)=_
    rw[zA8];unfold zE;rw[zBd];rfl
   .have ap:ln m.args≠B:=λh=>Y ⟨S,h⟩
    refine WW ?_;refine zI [] Z Z ?_ Z
    show AV.sl false ((u.map yA++m.data.map yA).take (u.map yA++m.data.map yA).length)=_
    rw[zA8];unfold zE;rw[zBd];rfl
