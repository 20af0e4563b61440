/- Part 26. -/
import Derived.Test.YtdjfiebpnmieoaaGreatC25
namespace Go.Proofs.YtdjfiebpnmieoaaGreat.Av
open Tryz
set_option linter.all false
set_option maxRecDepth 4000
set_option maxHeartbeats 8000000
open List renaming length->ln,range->nm,take->ny
open Inhabited renaming default->dd
variable {post ga:List xP}{x:xP}
def qf {R:Nat->DR} {n:Nat} {x:Int} (h:x∈cH R n):∃a,a<n/\x∈(R a).ks:=by grind [cH]
def FK {R:Nat->DR} {n:Nat} {x:En} (h:x∈UD R n):∃a,a<n/\x∈(R a).en:=by grind [UD]
def D4 (T:List (List Ms)) (f:Ms):AV:= .agg [.ref 1051 0 (T.map jO).length,zD yC [f]]
def C4 (T:List (List Ms)):List (Nat×wB):=[(1051,.arr 1 (T.map jO) true)]
theorem Ls (y:Cy) (h:CH y) (hn:y.f4<1000000000) (u:List In) (bu:(ln u:Int)=jI y.c.ags (ln y.c.ags)) (R:Nat->DR) (L:Bs y u R) (a4:∀i,(R i).en.length<=2000) (a6:∀i,(R i).ks.length<=2000):
  zO 26 [uB y,zD qL u] [] (.tup [uB (kU y R),D4 (ND y.c (BM (kU y R) u R (ln y.ds)) (ln y.c.ags)) (SY (y.f4+1) (kU y R).vw)]) (C4 (ND y.c (BM (kU y R) u R (ln y.ds)) (ln y.c.ags))):=by
 have hb:=h.b;have n0:=h.n0;have V:=h.v.ag;have k1:=LP y hb;have cd:=h.dl;have k2:=Sh y.c V (y.f4+1) zB zB y.ds h.dl (λi hi=>h.di _ (zY y.ds i hi)) u bu R a4 a6 (λa G=>(L a G).2.1) (y.sg.map wC) (y.sv.map xY) (y.st.map iA) (y.sg.map wC).length (y.sv.map xY).length (y.st.map iA).length y.vw;have ce:=zA qL u;have a7:min y.f4 1073741823+1=y.f4+1:=by omega
 have a8:=h.rf;have eC:uB y= .agg [zD wD y.c.js,zD vX y.c.ags,iA y.c.per,iA y.c.cap,iA y.c.hold,iA y.c.lock,bA false,iA y.f4,zD zK y.ds,zD wC y.sg,zD xY y.sv,zD iA y.st,zD wZ y.vw]:=by rw[<-a8];rfl
 unfold IO IP bD at k1;rw[eC,a8]at k1;unfold bD at k2;rw[eC];refine eM call26 λF hF=>?_
 refine zQ k1 ?_;rw[a7];refine zQ k2 ?_;refine wJ [2,3,4,5,6,7,1012,1013,1014] [2,3,4,5,6,7,34,35,36] Z ?_
 (conv=>whnf)
 have a3:(y.ds.map zK).length=((cF (y.f4+1) y.ds R (ln y.ds)).map zK).length:=by rw[zAa,zAa,cR]
 have br:=zA wC y.sg;have b1:=zA xY y.sv;have b0:=zA iA y.st;have a5:=h.gl;have ba:=h.sl;have a9:=h.tl;simp only[zAu];rw[a3,zAb,br,b1,b0,a5,ba,a9];clear k1 k2
 have W:∀x∈cH R (ln y.ds),0<=x/\x<(ln y.c.js:Int):=λx hx=>by
  obtain⟨a,G,hx⟩:=qf hx;exact(L a G).1.ks x hx
 have cg:=RH a6 (ln y.ds);have b5:=h.v.a;have b7:(cH R (ln y.ds)).length<=10000:=by omega
 have cf:=zA wD y.c.js;have ch:=zA iA (cH R (ln y.ds));have eY:kU y R=⟨y.c,false,y.f4+1,cF (y.f4+1) y.ds R (ln y.ds),VH (dX y R) (aK y.c y.sg (cH R (ln y.ds))) (ln y.c.js),VI (dX y R) y.sv (ln y.c.js),UP y.st (ln y.c.js),CI y.c.js (dX y R) (ln y.c.js)⟩:=rfl;refine zU ((cH R (ln y.ds))) [1012,2,3,4,5,6,7,1013,1014] [2,3,4,5,6,7,1013,1014] [2,3,4,5,6,7,34,35,86] [36,2,3,4,5,6,7,34,35,86] Z (λi ga T U=>⟨(36,iA i)::T,(1012,.arr 5 ((aK y.c y.sg ga).map wC) false)::U⟩) (Lq ?_ ?_)
 .intro i ga x post hx hi;have hy:=yI iA hx hi;have ci:=zV hx hi;have ac:=W x (yV hx);obtain⟨g1,g2⟩:=HN h.v (sv:=y.sv) (f4:=y.f4) ga y.sg h.gl h.j;have J:=h.v.jv _ (zY y.c.js x.toNat zB);have C:=(g2 x.toNat zB).c;have hJ:=J.n;have hC:=C.n;have hM:=C.m;have kr:=Hl (y.c.js.getD x.toNat dd) J ((aK y.c y.sg ga).getD x.toNat dd) zB zB;have co:=yF wD y.c.js x ac.1 ac.2;have cn:=yF wC (aK y.c y.sg ga) x ac.1 zB;have b6:=zA wC (aK y.c y.sg ga);rw[BL,zBs];clear hx W eY L J C g2;generalize (aK y.c y.sg ga).getD x.toNat dd=s,y.c.js.getD x.toNat dd=j at *;generalize aK y.c y.sg ga=X at *;generalize X.map wC=Y at *;refine zQ kr ?_;rfl
 .obtain⟨g1,g2⟩:=HN h.v (sv:=y.sv) (f4:=y.f4) (cH R (ln y.ds)) y.sg h.gl h.j
  have A:=Uk y.c h.v (y.f4+1) zB zB (cF (y.f4+1) y.ds R (ln y.ds)) (by rw[cR];omega) (λd hd=>by
    obtain⟨a,G,rfl⟩:=VJ hd
    exact(L a G).1.i) (λd hd=>by
    obtain⟨a,G,rfl⟩:=VJ hd;refine(L a G).1.sc ?_
    exact HQ.of zB ((h.sc _ (zY y.ds a G)).mono zB) (Qc _ _)) (aK y.c y.sg (cH R (ln y.ds))) y.sv y.st y.vw g1 h.sl h.tl (λk hk=>by
    have H:=g2 k hk
    exact⟨H.c,H.n,λe he=>by have:=H.e e he;omega,H.g⟩)
  have l1:((aK y.c y.sg (cH R (ln y.ds))).map wC).length=ln y.c.js:=by rw[zAa];exact g1
  have l2:(y.sv.map xY).length=ln y.c.js:=by rw[zAa];exact h.sl
  have l3:(y.st.map iA).length=ln y.c.js:=by rw[zAa];exact h.tl
  have l4:((VH (dX y R) (aK y.c y.sg (cH R (ln y.ds))) (ln y.c.js)).map wC).length=ln y.c.js:=by unfold VH;rw[zAa,wR];exact g1
  have l5:((VI (dX y R) y.sv (ln y.c.js)).map xY).length=ln y.c.js:=by unfold VI;rw[zAa,wR];exact h.sl
  have l6:((UP y.st (ln y.c.js)).map iA).length=ln y.c.js:=by unfold UP;rw[zAa,wR];exact h.tl
  have l7:((CI y.c.js (dX y R) (ln y.c.js)).map wZ).length=ln y.c.js:=by simp[CI]
  have bl:=zA vX y.c.ags;unfold J7 at A;rw[show XF y.c (aK y.c y.sg (cH R (ln y.ds))) y.sv y.st (cF (y.f4+1) y.ds R (ln y.ds)) (y.f4+1)=dX y R from Z,Cs,l1,l2,l3,l4,l5,l6]at A;have eT:uB (kU y R)= .agg [zD wD y.c.js,zD vX y.c.ags,iA y.c.per,iA y.c.cap,iA y.c.hold,iA y.c.lock,bA false,iA (y.f4+1),zD zK (kU y R).ds,zD wC (kU y R).sg,zD xY (kU y R).sv,zD iA (kU y R).st,zD wZ (kU y R).vw]:=rfl;have d1:cF (y.f4+1) y.ds R (ln y.ds)=(kU y R).ds:=rfl;have d2:VH (dX y R) (aK y.c y.sg (cH R (ln y.ds))) (ln y.c.js)=(kU y R).sg:=rfl;have d3:VI (dX y R) y.sv (ln y.c.js)=(kU y R).sv:=rfl;have d4:UP y.st (ln y.c.js)=(kU y R).st:=rfl;have d5:CI y.c.js (dX y R) (ln y.c.js)=(kU y R).vw:=rfl;rw[d2]at A l4;rw[d3]at A l5;rw[d4]at A l6;rw[d5]at A l7;rw[d1]at A⊢;refine zQ A ?_;refine wJ [2,3,4,5,6,7,11] [2,3,4,5,6,7,11,78,79] Z ?_
  (conv=>whnf)
  simp only[zAu];rw[zAj (l:=(kU y R).sg.map wC) (zCb l4),zAj (l:=(kU y R).sv.map xY) (zCb l5),zAj (l:=(kU y R).st.map iA) (zCb l6),zAj (l:=(kU y R).vw.map wZ) (zCb l7),bl];have M:=Pk h L;have zc:(kU y R).c=y.c:=rfl;have zn:(kU y R).f4=y.f4+1:=rfl;have zd:(kU y R).ds.length=ln y.ds:=cR ..;have zR:∀a,a<ln y.ds->(kU y R).ds.getD a dd=(R a).d:=λa G=>ZS G
  have cp:=zA zK (kU y R).ds;have eA:∀T f,D4 T f= .agg [.ref 1051 0 (T.map jO).length,zD yC [f]]:=λ_ _=>rfl
  have eH:∀T,C4 T=[(1051,.arr 1 (T.map jO) true)]:=λ_=>rfl
  rw[eT,eA,eH];clear d1 d2 d3 d4 d5 A l1 l2 l3 l4 l5 l6 l7 g1 g2 W eY a3;refine qJ 11 0 1051 1 Z Z Z Z Z ?_
  have ax:∀a k,BM (kU y R) u R (ln y.ds) a k=if(u.getD ((jI y.c.ags a).toNat+k) dd).opn=true then df ((kU y R).ds.getD a dd) (kU y R).vw (kU y R).f4 k (R a).R (UD R (ln y.ds))else []:=λ_ _=>rfl
  generalize BM (kU y R) u R (ln y.ds)=B at *;generalize kU y R=z at *;refine zN (ln y.c.ags) [11,1051,2,3,4,5,6,7] [2,3,4,5,6,7] [2,3,4,5,6,7,11,78,86] [79,2,3,4,5,6,7,11,78,86] Z (λi T U=>⟨(79,iA i)::T,(11,.box [.ref 1051 0 ((ND y.c B i).map jO).length,.s (.slice none 0 0)])::(1051,.arr 1 ((ND y.c B i).map jO) true)::U⟩) (Lq ?_ ?_)
  .intro i hi;have E:i<ln y.ds:=by omega
   have ks:=pf y.c i;have ht:=Jk y.c V i hi;obtain⟨S,a2⟩:∃S:Nat,jI y.c.ags i=(S:Int):=⟨(jI y.c.ags i).toNat,by have:=kN V i zB;omega⟩;obtain⟨N,hN⟩:∃N:Nat,(y.c.ags.getD i dd).ses=(N:Int):=⟨(y.c.ags.getD i dd).ses.toNat,by have:=V.at (i:=i) zB;omega⟩
   have cc:S+N<=ln u:=by
    have:=XE V (show i+1<=ln y.c.ags by omega) (zAg _);have h2:jI y.c.ags (i+1)=jI y.c.ags i+(y.c.ags.getD i dd).ses:=rfl;omega
   have ca:=V.at (i:=i) zB;have hL:FM y.c i=(nm N).map λk=>[Kk i k (S+k)]:=by unfold FM;rw[a2,hN];rfl
   have cl:=RJ V B i zB;have ck:=kN V i zB;rw[RI,show(y.c.ags.getD i dd).ses.toNat=N by omega]
   have cm:(List.map (λk=>xx (R k)) (nm (ln y.ds)))[i]? =some (.sl false ((R i).R.map jO)):=by
    rw[zAi,zBu E];rfl
   have I:=(L i E).1;have hI:=M.di _ (zY z.ds i zB);have b4:=zR i E
   have cb:(R i).d.au.length=N:=by
    have:=I.i.au;rw[I.ag]at this;have e9:=h.dg i E;rw[show(VA (y.ds.getD i dd) (y.f4+1)).rg.ag=(y.ds.getD i dd).rg.ag from Z,e9]at this;omega
   have a1:(VA (y.ds.getD i dd) (y.f4+1)).au.length=N:=by
    have:=(h.di _ (zY y.ds i E)).au;rw[h.dg i E]at this
    show(y.ds.getD i dd).au.length=N
    omega
   have bk:=I.rn;rw[a1]at bk;have av:=I.rv
   have ar:∀e∈UD R (ln y.ds),Fk e:=λe he=>by
    obtain⟨a,G,he⟩:=FK he;exact(L a G).1.en e he
   have b9:=RG a4 (ln y.ds);have bx:=hI.a.q;have kt:=λk (hk:k<N)=>Gs z M.n0 zB i k (S+k) zB hI.bd bx (by have:=M.wl;have:=M.v.j;omega) M.wb (by rw[b4];omega) (R i).R av zB (UD R (ln y.ds)) ar zB
   have az:∀k,k<N->B i k=if(u.getD (S+k) dd).opn=true then df (z.ds.getD i dd) z.vw z.f4 k (R i).R (UD R (ln y.ds))else []:=λk hk=>by
    rw[ax i k,a2];rfl
   clear ax ar av L I hI zR;have eZ:uB z= .agg [zD wD y.c.js,zD vX y.c.ags,iA y.c.per,iA y.c.cap,iA y.c.hold,iA y.c.lock,bA false,iA (y.f4+1),zD zK z.ds,zD wC z.sg,zD xY z.sv,zD iA z.st,zD wZ z.vw]:=eT;rw[eZ]at kt;rw[show zD jO (R i).R= .sl false ((R i).R.map jO)from Z]at kt;generalize (R i).R.map jO=Rm at *;rw[zAf];have b3:=zA jO (ND y.c B i);generalize (ND y.c B i).map jO=X at *;unfold Mh at ks ht;unfold wO at ks;refine zQ ks ?_
   refine qH hF ht Z [2,3,4,5,6,7,11,12,1051] [2,3,4,5,6,7,11,12,78,79] Z Z Z Z Z Z Z Z Z (λk ys h=>?_) (λk=>[(2,.box [zD wD y.c.js,zD vX y.c.ags,iA y.c.per,iA y.c.cap,iA y.c.hold,iA y.c.lock,bA false,iA (y.f4+1),zD zK z.ds,zD wC z.sg,zD xY z.sv,zD iA z.st,zD wZ z.vw]),(3,.box [zD qL u]),(4,.box [.s (.slice none 0 0),.s (.slice none 0 0),iA 0,iA 0,iA 0,iA 0,bA false,iA 0,.s (.slice none 0 0),.s (.slice none 0 0),.s (.slice none 0 0),.s (.slice none 0 0),.s (.slice none 0 0)]),(5,.box [.s (.slice none 0 0),.s (.slice none 0 0)]),(6,.box [.sl false (List.map (λk=>xx (R k)) (nm (ln y.ds)))]),(7,.box [zD kW (UD R (ln y.ds))]),(11,.box [.ref 1051 0 (X++(LL B i k).map jO).length,.s (.slice none 0 0)]),(12,.box [iA i]),(1051,.arr 1 (X++(LL B i k).map jO) true)]) (λ_=>True)
    (T:=[(2,.ptr 2 0 0),(3,.ptr 3 0 0),(4,.ptr 4 0 0),(5,.ptr 5 0 0),(6,.ptr 6 0 0),(7,.ptr 7 0 0),(11,.ptr 11 0 0),(12,.ptr 12 0 0),(78,iA (ln y.c.ags)),(79,iA i)]) (by rw[show(LL B i 0).map jO=[]from Z,zA2];rfl) trivial (λk ys q ap bf F1 h1 h2=>?_) (λbf=>?_)
   .rw[hL,zAi,zAs]at h;obtain⟨x,_,rfl⟩:=h;rfl
   .have hk:k<N:=by
     have:=(zAz.1 ap).1;rw[hL,zAa,zBo]at this;exact this
    rw[hL,zAi,zBu hk]at ap;obtain rfl:=zDm ap;have bb:=zJ qL u (S+k) zB;have cj:((LL B i k).map jO).length=k:=by unfold LL;rw[zAa,zAa,zBo]
    have kt:=kt k hk;rw[BN,zAf,show [B i k].map jO=[zD yC (B i k)]from Z,az k hk,<-zA0];generalize (LL B i k).map jO=O,u.getD (S+k) dd=x,df (z.ds.getD i dd) z.vw z.f4 k (R i).R (UD R (ln y.ds))=tl at *;unfold qL at bb;obtain⟨xo,xs⟩:=x;refine WW ?_;refine⟨rfl,λF2 g1 g2=>?_⟩;dsimp only at bb⊢;cases xo
    .rw[Of zAp]
     (repeat' (first|refine dZ ?_|apply yZ|apply xM|intro hc|(apply zG;first|(apply yR;refine QF 117 Z Z Z ?_;refine kD tok Z Z ?_))|refine SB ?_|fail))
     exact⟨rfl,trivial⟩
    .rw[Os Z]
     (have gd:=kt;(repeat' (first|refine dZ ?_|apply yZ|apply xM|intro hc|(apply zG;first|(apply yR;refine QF 117 Z Z Z ?_;refine kD tok Z Z ?_))|refine SB ?_|fail))<;>clear gd)
     exact⟨rfl,trivial⟩
   .rw[show(FM y.c i).length=N by rw[hL,zAa,zBo]]
    show uR _ _ _ _ ⟨_,_⟩ _
    refine WW ?_;rfl
  .have b2:ln z.vw<=4:=by have:=M.wl;have:=M.v.j;omega
   have kf:=jz (y.f4+1) z.vw zB M.wb;have kv:=BJ [SY (y.f4+1) z.vw] zW (λm hm=>by rw[zBf.1 hm];exact qz z.vw (y.f4+1) zB zB b2 M.wb);rw[show zD yC [SY (y.f4+1) z.vw]= .sl false [yC (SY (y.f4+1) z.vw)]from Z]at *; generalize SY (y.f4+1) z.vw=fm at *;have b3:=zA jO (ND y.c B (ln y.c.ags));generalize (ND y.c B (ln y.c.ags)).map jO=X at *;refine zQ kf ?_
   (refine vG 63 ?_;refine kL [2,4,5,11,1051] [2,4,5,11,127] Z ?_;(conv=>whnf);(try simp only[zAu,zAb]);first|refine yE (zL (kv) Z Z Z Z Z) Z ?_|refine qB (zL (kv) Z Z Z Z Z) Z Z Z ?_|refine ZR (zL (kv) Z Z Z Z Z) Z Z Z ?_)
   refine WW ?_;exact zH [1051] Z Z Z Z
def zz {y z:Cy} {u:List In} {T:List (List Ms)} {f:Ms} (k:zO 26 [uB y,zD qL u] [] (.tup [uB z,D4 T f]) (C4 T)):zO 26 [uB y,zD qL u] [] (.tup [uB z,B4 T f]) []:=by
 refine k.frz [] ?_ Z Z
 show AV.tup [_,AV.agg [AV.sl false (ny (T.map jO).length (T.map jO)),_]]=_
 rw[zAb];rfl
structure K7 (y y':Cy) (ins:List In) (T:List (List Ms)):Prop where
 i:CH y'
 c:y'.c=y.c
 n:y'.f4=y.f4+1
 l:T.length=ins.length
 v:∀x∈T,x.length<=1002/\∀m∈x,VK m
 f:VK (SY (y.f4+1) y'.vw)
 off:∀s,s<ins.length->(ins.getD s default).opn=false->T.getD s []=[]
 on:∀s,s<ins.length->(ins.getD s default).opn=true->∃(l1 l2:List Ms) (d:xP),T.getD s []=l1++(OK d y'.vw (y.f4+1)::l2)/\l1.length=(ins.getD s default).its.length/\VK (OK d y'.vw (y.f4+1))
 tk:Bs y ins (zt y ins)/\y'=kU y (zt y ins)/\T=ND y.c (BM y' ins (zt y ins) y.ds.length) y.c.ags.length
theorem qk (y:Cy) (h:CH y) (hn:y.f4<1000000000) (u:List In) (O:(ln u:Int)=jI y.c.ags (ln y.c.ags)) (ac:∀i∈u,Vr i):
  ∃(y':Cy) (T:List (List Ms)),K7 y y' u T/\zO 26 [uB y,zD qL u] [] (.tup [uB y',D4 T (SY (y.f4+1) y'.vw)]) (C4 T):=by
 have B:=F5 h hn O ac;have k:=Ls y h hn u O (zt y u) B (λi=>(RK ..).1) (λi=>(RK ..).2);obtain⟨R,eR⟩:∃R,R=zt y u:=⟨_,rfl⟩;rw[<-eR]at B k;have G:=Pk h B;have n0:=h.n0;have V:=h.v.ag;have ax:=h.dl;have hl:=RJ V (BM (kU y R) u R (ln y.ds)) _ (zAg _);have C:(kU y R).vw.length<=4:=by have:=G.wl;have:=G.v.j;omega
 have W:∀e∈UD R (ln y.ds),Fk e:=λe Y=>by
  obtain⟨a,ha,Y⟩:=FK Y;exact(B a ha).1.en e Y
 refine⟨kU y R,ND y.c (BM (kU y R) u R (ln y.ds)) (ln y.c.ags),⟨G,rfl,rfl,zB,λx hx=>?_,qz _ _ zB zB C G.wb,λs hs U=>?_,λs hs U=>?_,eR▸⟨B,rfl,rfl⟩⟩,k⟩
 .obtain⟨s,hs,e⟩:=List.mem_iff_getElem.1 hx;obtain⟨a,k,h1,h2,I,L⟩:=MA V (BM (kU y R) u R (ln y.ds)) _ (zAg _) s hs;have e2:x=BM (kU y R) u R (ln y.ds) a k:=by rw[<-L,zAl,zA4 hs,<-e];rfl
  rw[e2];unfold BM;split
  .have z:a<ln y.ds:=by omega
   have A:=(B a z).1
   have M:((VA (y.ds.getD a dd) (y.f4+1)).au.length:Int)=(y.c.ags.getD a dd).ses:=by
    have:=(h.di _ (zY y.ds a z)).au;rw[h.dg a z]at this;exact this
   have av:=A.rn;have hq:=A.i.a.q;have E:(kU y R).ds.getD a dd=(R a).d:=ZS z;rw[E];exact wx _ hq _ _ (by show 0<=y.f4+1;omega) (by show y.f4+1<=_;omega) C G.wb k (R a).R A.rv zB _ W
  .exact⟨zAr _,λm hm=>by cases hm⟩
 .obtain⟨a,k,h1,h2,I,L⟩:=MA V (BM (kU y R) u R (ln y.ds)) _ (zAg _) s zB;rw[L];unfold BM;rw[show(jI (kU y R).c.ags a).toNat+k=s from I.symm,U,Of zAp]
 .obtain⟨a,k,h1,h2,I,L⟩:=MA V (BM (kU y R) u R (ln y.ds)) _ (zAg _) s zB;have z:a<ln y.ds:=by omega
  have A:=(B a z).1
  have M:((VA (y.ds.getD a dd) (y.f4+1)).au.length:Int)=(y.c.ags.getD a dd).ses:=by
   have:=(h.di _ (zY y.ds a z)).au;rw[h.dg a z]at this;exact this
  have hq:=A.i.a.q;have E:(kU y R).ds.getD a dd=(R a).d:=ZS z;have S:=A.rl k zB;have az:(BG y.c u a).length=(y.c.ags.getD a dd).ses.toNat:=by unfold BG HL;rw[zAa,zBo]
  have ap:(BG y.c u a).getD k dd=u.getD s dd:=by
   unfold BG HL;rw[zAl,zAi,zBu zB,I];rfl
  have ar:cQ (BG y.c u a) k=(u.getD s dd).its:=by
   unfold cQ;rw[ap,Os ⟨zB,U⟩]
  rw[ar]at S;refine⟨(R a).R.getD k [],(if((kU y R).ds.getD a dd).au.getD k dd=true then [Qh (kU y R).f4 (UD R (ln y.ds))]else []),(kU y R).ds.getD a dd,?_,S,?_⟩
  .rw[L];unfold BM;rw[show(jI (kU y R).c.ags a).toNat+k=s from I.symm,U,Os Z];unfold df;rw[zA0];rfl
  .rw[E];exact Qk _ hq _ _ zB zB C G.wb
def TC (y:Cy) (j p:Int):Cy:=if(0<=j/\j<(ln y.c.js:Int))/\0<=p/\p<((y.c.js.getD j.toNat dd).ph.length:Int)then⟨y.c,false,y.f4,y.ds,y.sg,y.sv,y.st.set j.toNat p,y.vw⟩else y
def HJ (y:Cy) (h:CH y) (j p:Int):∃C:Cy,CH C/\C=TC y j p/\zO 14 [uB y,iA j,iA p] [] (uB C) []:=by
 have hb:=h.b;have z:=h.rf;have M:=zA wD y.c.js;have R:=zA iA y.st;have I:=h.tl;have B:uB y= .agg [zD wD y.c.js,zD vX y.c.ags,iA y.c.per,iA y.c.cap,iA y.c.hold,iA y.c.lock,bA false,iA y.f4,zD zK y.ds,zD wC y.sg,zD xY y.sv,zD iA y.st,zD wZ y.vw]:=by rw[<-z];rfl
 by_cases hj:0<=j/\j<(ln y.c.js:Int)
 case neg=>
  refine⟨y,h,by unfold TC;rw[Of (λh=>hj h.1)],?_⟩;have u:=XM y hb;rw[B]at u⊢;by_cases L:j<0
  all_goals
   (refine eM call14 λF hF=>?_)
   exact lk u
 obtain⟨j0,j1⟩:=hj;have A:=yF wD y.c.js j j0 j1;have O:=zA xQ (y.c.js.getD j.toNat dd).ph;by_cases G:0<=p/\p<((y.c.js.getD j.toNat dd).ph.length:Int)
 case neg=>
  refine⟨y,h,by unfold TC;rw[Of (λh=>G h.2)],?_⟩;have u:=XM y hb;rw[B]at u⊢;generalize y.c.js.getD j.toNat dd=U at *;unfold wD at A;by_cases L:p<0
  all_goals
   (refine eM call14 λF hF=>?_)
   exact lk u
 obtain⟨V,W⟩:=G;refine⟨⟨y.c,false,y.f4,y.ds,y.sg,y.sv,y.st.set j.toNat p,y.vw⟩,⟨h.v,rfl,h.n0,h.dl,h.di,h.dg,h.sc,h.gl,h.sl,by dsimp only;rw[zBp];exact h.tl,h.wl,h.wb,h.j⟩,by unfold TC;rw[Os ⟨⟨j0,j1⟩,V,W⟩],?_⟩;have u:=LP y hb;unfold IO IP bD at u;rw[B,z]at u;rw[B];have E:(y.st.set j.toNat p).map iA=(y.st.map iA).set j.toNat (iA p):=zBs ..;rw[show uB ⟨y.c,false,y.f4,y.ds,y.sg,y.sv,y.st.set j.toNat p,y.vw⟩= .agg [zD wD y.c.js,zD vX y.c.ags,iA y.c.per,iA y.c.cap,iA y.c.hold,iA y.c.lock,bA false,iA y.f4,zD zK y.ds,zD wC y.sg,zD xY y.sv,.sl false ((y.st.map iA).set j.toNat (iA p)),zD wZ y.vw] by rw[<-E];rfl];clear E;have S:=yF iA y.st j j0 zB;generalize y.c.js.getD j.toNat dd=U at *;unfold wD at A;refine eM call14 λF hF=>?_
 refine zQ u ?_;refine zH [] Z Z ?_ Z
 show AV.agg [_,_,_,_,_,_,_,_,.sl false (ny (y.ds.map zK).length (y.ds.map zK)),.sl false (ny (y.sg.map wC).length (y.sg.map wC)),.sl false (ny (y.sv.map xY).length (y.sv.map xY)),.sl false (ny (y.st.map iA).length ((y.st.map iA).set j.toNat (iA p))),_]=_
 rw[zAb,zAb,zAb,zAj Xo];rfl
def jk (l:List (List Int)) (hl:ln l<=1073741824):zO 166 [zD vW l] [] (.ref 1005 0 (l.map vW).length) [(1005,.arr 1 (l.map vW) false)]:=by
 have u:=zA vW l;refine eM call166 λF hF=>?_
 refine xI 0 Z (λcap hx=>?_) ?_
 .have:l=[]:=by simpa using hx
  subst this
  (repeat' (first|refine Md ?_|apply yZ|apply xM|intro hc|fail))
  refine qK 2 1005 1 Z Z Z (xG ?_);exact zP [1005] Z Z Z Z
 .repeat' (first|(apply zG;first|refine wX tok Z Z ?_|(apply xZ;refine yE (yU tok (.inl ⟨rfl,rfl⟩) Z Z Z Z) Z ?_)|(apply yR;refine qB (nw:=[1005]) (yT tok 1005 (xs:=[]) Z Z Z Z Z Z Z Z Z) Z Z Z ?_)|(apply yG;refine xW tok Z Z Z Z Z Z Z (zZ _ _ (λ_=>rfl)) Z Z Z zB Z ?_)|apply uT)|(first|apply xK|apply xF|refine vQ Z ?_|refine yM Z ?_|refine yB Z ?_|refine xU Z (λhc=>?_) λhc=>?_|apply xB|apply xG|apply xJ|apply xE))
  exact zP [1005] Z Z Z Z
def NC (d:xP):AV:=xC d.rg (zD zX d.rq) (.ref 1005 0 (d.dr.map vW).length) (zD bA d.au)
def gk (d:xP) (hb:cN d):zO 98 [zK d] [] (NC d) [(1005,.arr 1 (d.dr.map vW) false)]:=by
 have z:=DQ d.rg hb.rg;have O:=hb.q;have B:=hb.n;have A:=hb.a;have I:=SO d.rq zB;have L:=jk d.dr zB;have M:=Vb d.au zB;have E:=zA zX d.rq;have C:=zA vW d.dr;unfold NC zK xC;unfold qD at z;refine eM call98 λF hF=>?_
 refine yJ (xV z I) ?_;refine zN ((d.rq.map zX).length) [1001,1,2] [1,2] [1,2,15] [16,1,2,15] Z (λi T U=>⟨(16,iA i)::T,(1001,.arr 5 (gO i (d.rq.map zX)) false)::U⟩) (Lq ?_ ?_)
 .intro i hi;have hi':i<ln d.rq:=by omega
  have G:(gO i (d.rq.map zX))[i]? =some (zX (d.rq.getD i dd)):=zJ zX d.rq i hi';have e:=jW zX d.rq i hi';have u:=ZB (d.rq.getD i dd).legs (hb.g (d.rq.getD i dd) XD);generalize (d.rq.getD i dd)=t,gO i (d.rq.map zX)=xs,gO (i+1) (d.rq.map zX)=ys at *;subst e;refine zQ u ?_;rfl
 ·(refine zQ L ?_)
  refine zN ((d.dr.map vW).length) [1005,1,2,1001] [1,2,1001] [1,2,38] [39,1,2,38] Z (λi T U=>⟨(39,iA i)::T,(1005,.arr 1 (gO i (d.dr.map vW)) false)::U⟩) (Lq ?_ ?_)
  .intro i hi;have hi':i<ln d.dr:=by omega
   have G:(gO i (d.dr.map vW))[i]? =some (vW (d.dr.getD i dd)):=zJ vW d.dr i hi';have e:=jW vW d.dr i hi';have u:=vJ (d.dr.getD i dd) (by have:=hb.e (d.dr.getD i dd) XD;omega);generalize (d.dr.getD i dd)=t,gO i (d.dr.map vW)=xs,gO (i+1) (d.dr.map vW)=ys at *;subst e;refine zQ u ?_;rfl
  ·(refine zQ M ?_)
   refine zH [1005] Z Z ?_ Z
   show xC d.rg (.sl false ((d.rq.map zX).take (d.rq.map zX).length)) (.ref 1005 0 (d.dr.map vW).length) (zD bA d.au)=_
   rw[zAb];rfl
theorem FL (K:List Nat) (h:yS):∀l:List xP,kJ K h (l.map zK)=l.map zK
 | []=>rfl
 |r::l=>by rw[zBk,kJ,FL K h l];rfl
theorem LG (K:List Nat) (h:yS):∀l:List xP,vA K h (l.map zK)=l.map zK
 | []=>rfl
 |r::l=>by rw[zBk,vA,LG K h l];rfl
theorem PI:∀l:List xP,wU (l.map zK)=true
 | []=>rfl
 |r::l=>by rw[zBk,wU,PI l];rfl
def gB (ga:List xP) (x:xP) (post:List xP):List AV:=ga.map zK++NC x::post.map zK
def LH (ga:List xP) (x:xP) (post:List xP):(gB ga x post).length=ln ga+1+ln post:=by simp[gB];omega
def fk {K:List Nat} (z:K.contains 1005=true) (h:yS) (ga:List xP) (x:xP) (post:List xP) (b:Bool):qE K h (.arr 17 (gB ga x post) ⟨b,true⟩)= .arr 17 (gB ga x post) ⟨b,true⟩:=by
 have e:kJ K h (gB ga x post)=gB ga x post:=by
  unfold gB;rw[RV,FL,kJ,FL]
  congr 2
  have u:wQ K h (.ref 1005 0 (x.dr.map vW).length)= .ref 1005 0 (x.dr.map vW).length:=by
   unfold wQ;rw[z];rfl
  show AV.agg [_,_,_,_,_,_,_,_,_,_,_,_,_,_,_,wQ K h (.ref 1005 0 (x.dr.map vW).length),_]=_
  rw[u];rfl
 have A:wU (gB ga x post)=false:=by
  unfold gB;rw[ZY,PI,wU];rfl
 simp_all [yS,qE,gB]
def Js (ga:List xP) (x:xP) (post:List xP):(gB ga x post)[ln ga]? =some (NC x):=by grind [gB,NC]
def Is {l:List xP} (hL:l=ga++x::post):(l.map zK).set (ln ga) (NC x)=gB ga x post:=by simp_all [zK,NC,gB]
def Th {l:List xP} (hL:l=ga++x::post) {i:Nat} (h1:ln ga<i) (h2:i<ln l):(gB ga x post)[i]? =some (zK (l.getD i dd)):=by grind [gB,zK]
def yz (y:Cy) (ga:List xP) (x:xP) (post:List xP):AV:=bD y.c y.rf y.f4 (.ref 1011 0 (ln y.ds)) (zD wC y.sg) (zD xY y.sv) (zD iA y.st) (zD wZ y.vw)
theorem ak (y:Cy) (h:v5 y) (ga:List xP) (x:xP) (post:List xP) (hL:y.ds=ga++x::post):zO 47 [uB y] [] (yz y ga x post) [(1011,.arr 17 (gB ga x post) ⟨false,true⟩),(1005,.arr 1 (x.dr.map vW) false)]:=by
 have k1:=XI y.ds (by have:=h.d;omega);have k2:=XJ y.sg (by have:=h.g;omega);have k3:=XK y.sv (by have:=h.s;omega);have k4:=XL y.st (by have:=h.t;omega);have k5:=PO y.vw h.v h.vb;have R:=zA zK y.ds;have L:=zA wC y.sg;have M:=zA xY y.sv;have ag:=zA iA y.st;have hd:=h.d;have hg:=h.g;have hs:=h.s;have U:ln y.ds=ln ga+1+ln post:=by rw[hL];simp;omega
 have W:=LH ga x post;have A:∀(K:List Nat) (H:yS),K.contains 1005=true->qE K H (.arr 17 (gB ga x post) ⟨false,true⟩)= .arr 17 (gB ga x post) ⟨false,true⟩:=λK H V=>fk V H ga x post false
 unfold uB yz bD;refine eM call47 λF hF=>?_
 refine zQ k1 ?_;rw[R]
 refine wF (λn st=>∃i,n+i=ln y.ds/\st=if i<=ln ga then(⟨[(13,iA i),(1,.ptr 1 0 0),(2,.ptr 2 0 0),(12,iA (ln y.ds))],[(1,.box [zD wD y.c.js,zD vX y.c.ags,iA y.c.per,iA y.c.cap,iA y.c.hold,iA y.c.lock,bA y.rf,iA y.f4,.ref 1011 0 (ln y.ds),zD wC y.sg,zD xY y.sv,zD iA y.st,zD wZ y.vw]),(2,.box [.s (.slice none 0 0),.s (.slice none 0 0),iA 0,iA 0,iA 0,iA 0,bA false,iA 0,.s (.slice none 0 0),.s (.slice none 0 0),.s (.slice none 0 0),.s (.slice none 0 0),.s (.slice none 0 0)]),(1011,.arr 17 (y.ds.map zK) false)]⟩:St)
  else⟨[(13,iA i),(1,.ptr 1 0 0),(2,.ptr 2 0 0),(12,iA (ln y.ds))],[(1,.box [zD wD y.c.js,zD vX y.c.ags,iA y.c.per,iA y.c.cap,iA y.c.hold,iA y.c.lock,bA y.rf,iA y.f4,.ref 1011 0 (ln y.ds),zD wC y.sg,zD xY y.sv,zD iA y.st,zD wZ y.vw]),(2,.box [.s (.slice none 0 0),.s (.slice none 0 0),iA 0,iA 0,iA 0,iA 0,bA false,iA 0,.s (.slice none 0 0),.s (.slice none 0 0),.s (.slice none 0 0),.s (.slice none 0 0),.s (.slice none 0 0)]),(1011,.arr 17 (gB ga x post) ⟨false,true⟩),(1005,.arr 1 (x.dr.map vW) false)]⟩) (ln y.ds) [1,2,1011,1005] [13,1,2,12] Z ⟨0,zB,by rw[Os (zAr _)];rfl⟩ ?_
 rintro n st ⟨i,hi,rfl⟩;by_cases ac:i<ln ga
 .rw[Os zB];have u:i<ln y.ds:=by omega
  have C:=zJ zK y.ds i u;have B:=ZN (y.ds.getD i dd) (h.db _ (zY y.ds i u));have e:=jW zK y.ds i u;generalize y.ds.getD i dd=d,y.ds.map zK=xs at *;have z:=eO C;refine zQ B ?_;refine⟨n-1,zB,i+1,zB,?_⟩;rw[Os zB]
  show(⟨_,[_,_,(1011,.arr 17 (xs.set i (zK d)) false)]⟩:St)=_
  rw[z];rfl
 by_cases O:i=ln ga
 .rw[Os zB];subst O;have u:ln ga<ln y.ds:=by omega
  have hx:y.ds.getD (ln ga) dd=x:=by rw[hL,zAl,zBc (zAg _),zCl];rfl
  have C:=zJ zK y.ds (ln ga) u;have B:=gk (y.ds.getD (ln ga) dd) (h.db _ (zY y.ds (ln ga) u));rw[hx]at C B;have S:=Is hL;generalize y.ds.map zK=xs at *;refine KU 1011 Z ?_;unfold NC at B;refine zQ B ?_;refine⟨n-1,zB,ln ga+1,zB,?_⟩;rw[Of zB]
  show(⟨_,[_,_,(1011,qE _ _ (.arr 17 (xs.set (ln ga) (NC x)) ⟨false,true⟩)),_]⟩:St)=_
  rw[S,A _ _ Z];rfl
 rw[Of zB];by_cases u:i<ln y.ds
 .have C:=Th hL zB u;have B:=ZN (y.ds.getD i dd) (h.db _ (zY y.ds i u));have z:=eO C;generalize y.ds.getD i dd=d at *;generalize gB ga x post=cs at *;refine zQ B ?_;refine⟨n-1,zB,i+1,zB,?_⟩;rw[Of zB]
  show(⟨_,[_,_,(1011,qE _ _ (.arr 17 (cs.set i (zK d)) ⟨false,true⟩)),_]⟩:St)=_
  rw[z,A _ _ Z];rfl
 have E:i=ln y.ds:=by omega
 subst E;generalize gB ga x post=cs at *;refine zQ k2 ?_;rw[L];refine wF (λn st=>∃i,n+i=ln y.sg/\st=(⟨[(34,iA i),(1,.ptr 1 0 0),(2,.ptr 2 0 0),(33,iA (ln y.sg))],[(1,.box [zD wD y.c.js,zD vX y.c.ags,iA y.c.per,iA y.c.cap,iA y.c.hold,iA y.c.lock,bA y.rf,iA y.f4,.ref 1011 0 (ln y.ds),.ref 1012 0 (ln y.sg),zD xY y.sv,zD iA y.st,zD wZ y.vw]),(2,.box [.s (.slice none 0 0),.s (.slice none 0 0),iA 0,iA 0,iA 0,iA 0,bA false,iA 0,.s (.slice none 0 0),.s (.slice none 0 0),.s (.slice none 0 0),.s (.slice none 0 0),.s (.slice none 0 0)]),(1011,.arr 17 cs ⟨false,true⟩),(1005,.arr 1 (x.dr.map vW) false),(1012,.arr 5 (y.sg.map wC) false)]⟩:St)) (ln y.sg) [1,2,1011,1005,1012] [34,1,2,33] Z ⟨0,zB,?_⟩ ?_
 .show(⟨_,[_,_,(1011,qE _ _ (.arr 17 cs ⟨false,true⟩)),_,_]⟩:St)=_
  rw[A _ _ Z];rfl
 rintro n st ⟨i,hi2,rfl⟩;by_cases u:i<ln y.sg
 .have C:=zJ wC y.sg i u;have Y:=h.gb _ (zY y.sg i u);have B:=Wf (y.sg.getD i dd) zB zB;have z:=eO C;generalize y.sg.getD i dd=d at *;generalize y.sg.map wC=xs at *;refine zQ B ?_;refine⟨n-1,zB,i+1,zB,?_⟩
  show(⟨_,[_,_,(1011,qE _ _ (.arr 17 cs ⟨false,true⟩)),_,(1012,.arr 5 (xs.set i (wC d)) false)]⟩:St)=_
  rw[z,A _ _ Z];rfl
 have G:i=ln y.sg:=by omega
 subst G;refine zQ k3 ?_;rw[M];refine wF (λn st=>∃i,n+i=ln y.sv/\st=(⟨[(55,iA i),(1,.ptr 1 0 0),(2,.ptr 2 0 0),(54,iA (ln y.sv))],[(1,.box [zD wD y.c.js,zD vX y.c.ags,iA y.c.per,iA y.c.cap,iA y.c.hold,iA y.c.lock,bA y.rf,iA y.f4,.ref 1011 0 (ln y.ds),.ref 1012 0 (ln y.sg),.ref 1013 0 (ln y.sv),zD iA y.st,zD wZ y.vw]),(2,.box [.s (.slice none 0 0),.s (.slice none 0 0),iA 0,iA 0,iA 0,iA 0,bA false,iA 0,.s (.slice none 0 0),.s (.slice none 0 0),.s (.slice none 0 0),.s (.slice none 0 0),.s (.slice none 0 0)]),(1011,.arr 17 cs ⟨false,true⟩),(1005,.arr 1 (x.dr.map vW) false),(1012,.arr 5 (y.sg.map wC) false),(1013,.arr 3 (y.sv.map xY) false)]⟩:St)) (ln y.sv) [1,2,1011,1005,1012,1013] [55,1,2,54] Z ⟨0,zB,?_⟩ ?_
 .show(⟨_,[_,_,(1011,qE _ _ (.arr 17 cs ⟨false,true⟩)),_,_,_]⟩:St)=_
  rw[A _ _ Z];rfl
 rintro n st ⟨i,hi3,rfl⟩;by_cases u:i<ln y.sv
 .have C:=zJ xY y.sv i u;have ap:=h.sb _ (zY y.sv i u);have B:=RN (y.sv.getD i dd) ⟨zB⟩;have z:=eO C;generalize y.sv.getD i dd=d at *;generalize y.sv.map xY=xs at *;refine zQ B ?_;refine⟨n-1,zB,i+1,zB,?_⟩
  show(⟨_,[_,_,(1011,qE _ _ (.arr 17 cs ⟨false,true⟩)),_,_,(1013,.arr 3 (xs.set i (xY d)) false)]⟩:St)=_
  rw[z,A _ _ Z];rfl
 have I:i=ln y.sv:=by omega
 subst I;refine yJ (xV k4 k5) ?_;refine zH [1011,1005] Z Z ?_ ?_
 .show AV.agg [zD wD y.c.js,zD vX y.c.ags,iA y.c.per,iA y.c.cap,iA y.c.hold,iA y.c.lock,bA y.rf,iA y.f4,.ref 1011 0 (ln y.ds),.sl false (ny (ln y.sg) (y.sg.map wC)),.sl false (ny (ln y.sv) (y.sv.map xY)),.sl false (ny (y.st.map iA).length (y.st.map iA)),zD wZ y.vw]=_
  rw[zAj (zCb L),zAj (zCb M),zAb];rfl
 .show [(1011,qE _ _ (.arr 17 cs ⟨false,true⟩)),(1005,_)]=_
  rw[A _ _ Z];rfl
def nk {h:yS} {b fl:Bool} (h1:h 1011=some (.arr 17 (gB ga x post) ⟨b,true⟩)) (h2:h 1005=some (.arr 1 (x.dr.map vW) ⟨fl,false⟩)):
  wQ [] h (.ref 1011 0 (gB ga x post).length)=zD zK (ga++x::post):=by
 have e:vA [] h (gB ga x post)=(ga++x::post).map zK:=by
  unfold gB;rw[PV,LG,vA,LG,zAf,zBk]
  congr 1
  congr 1
  have z:kI [] h (.ref 1005 0 (x.dr.map vW).length)=zD vW x.dr:=by
   simp only[kI,h2]
   show AV.sl false (((x.dr.map vW).drop 0).take (x.dr.map vW).length)=_
   rw[zAu,zAb];rfl
  show AV.agg [_,_,_,_,_,_,_,_,_,_,_,_,_,_,_,kI [] h (.ref 1005 0 (x.dr.map vW).length),_]=_
  rw[z];rfl
 have u:(gB ga x post).length=((ga++x::post).map zK).length:=by rw[LH];simp;omega
 rw[u];simp only[wQ,h1]
 show(bif wU (vA [] h (gB ga x post))then AV.sl false (((vA [] h (gB ga x post)).drop 0).take _)else .bot)=_
 rw[e,PI,zAu,zAb];rfl
def C9 (d:xP) (x:List Int):xP:=⟨d.rg,d.rq,d.dr++[x],d.au⟩
def UC (y:Cy) (a:Int) (x:List Int):Cy:=if(0<=a/\a<(ln y.ds:Int))/\x.length=8/\(y.ds.getD a.toNat dd).dr.length<8 then⟨y.c,false,y.f4,y.ds.set a.toNat (C9 (y.ds.getD a.toNat dd) x),y.sg,y.sv,y.st,y.vw⟩else y
theorem BF (y:Cy) (h:CH y) (a:Int) (d:List Int) (hd:BY d) (ag:ln d<=1000000):∃y':Cy,CH y'/\y'=UC y a d/\zO 17 [uB y,iA a,zD yA d] [] (uB y') []:=by
 have hb:=h.b;have M:=h.rf;have ap:=zA zK y.ds;have ar:=zA yA d;have S:uB y= .agg [zD wD y.c.js,zD vX y.c.ags,iA y.c.per,iA y.c.cap,iA y.c.hold,iA y.c.lock,bA false,iA y.f4,zD zK y.ds,zD wC y.sg,zD xY y.sv,zD iA y.st,zD wZ y.vw]:=by rw[<-M];rfl
 by_cases ha:0<=a/\a<(ln y.ds:Int)
 case neg=>
  refine⟨y,h,by unfold UC;rw[Of (λh=>ha h.1)],?_⟩;have B:=XM y hb;rw[S]at B⊢;by_cases h0:a<0
  all_goals
   (refine eM call17 λF hF=>?_)
   exact lk B
 obtain⟨a0,a1⟩:=ha;by_cases W:ln d=8
 case neg=>
  refine⟨y,h,by unfold UC;rw[Of (λh=>W h.2.1)],?_⟩;have B:=XM y hb;rw[S]at B⊢;refine eM call17 λF hF=>?_
  exact lk B
 have O:=yF zK y.ds a a0 a1;have u:=h.di _ (zY y.ds a.toNat zB);have Y:=u.dn;by_cases hr:(y.ds.getD a.toNat dd).dr.length<8
 case neg=>
  refine⟨y,h,by unfold UC;rw[Of (λh=>hr h.2.2)],?_⟩;have B:=LP y hb;unfold IO IP bD at B;rw[S,M]at B;rw[S];generalize y.ds.getD a.toNat dd=x at *;have ac:=zA vW x.dr;unfold zK xC at O;refine eM call17 λF hF=>?_
  (have gd:=B;(repeat' (first|refine uD ?_|apply yZ|apply xM|intro hc|(apply zG;first|(apply aM;refine yE (wM Z Z O) Z ?_))|fail))<;>clear gd)
  refine zH [] Z Z ?_ Z
  show AV.agg [zD wD y.c.js,zD vX y.c.ags,iA y.c.per,iA y.c.cap,iA y.c.hold,iA y.c.lock,bA false,iA y.f4,.sl false (ny (y.ds.map zK).length (y.ds.map zK)),.sl false (ny (y.sg.map wC).length (y.sg.map wC)),.sl false (ny (y.sv.map xY).length (y.sv.map xY)),.sl false (ny (y.st.map iA).length (y.st.map iA)),zD wZ y.vw]=_
  rw[zAb,zAb,zAb,zAb];rfl
 obtain⟨n,hn⟩:∃n:Nat,a=(n:Int):=⟨a.toNat,zB⟩;subst hn;have C:n<ln y.ds:=by omega
 rw[zAx]at u hr Y
 have hL:y.ds=y.ds.take n++y.ds.getD n dd::y.ds.drop (n+1):=by
  rw[zAl,zA4 C]
  show _=_++y.ds[n]::_
  rw[<-zDu C,zDs]
 have L:(y.ds.take n).length=n:=by rw[zAw];omega
 have B:=ak y hb (y.ds.take n) (y.ds.getD n dd) (y.ds.drop (n+1)) hL;have k2:=vJ d zB;have G:=Js (y.ds.take n) (y.ds.getD n dd) (y.ds.drop (n+1));have I:=LH (y.ds.take n) (y.ds.getD n dd) (y.ds.drop (n+1));rw[L]at G I;have U:(gB (y.ds.take n) (y.ds.getD n dd) (y.ds.drop (n+1))).length=ln y.ds:=by rw[I,zA8];omega
 have E:∀D:List (List Int),(gB (y.ds.take n) (y.ds.getD n dd) (y.ds.drop (n+1))).set n (NC ⟨(y.ds.getD n dd).rg,(y.ds.getD n dd).rq,D,(y.ds.getD n dd).au⟩)=gB (y.ds.take n) ⟨(y.ds.getD n dd).rg,(y.ds.getD n dd).rq,D,(y.ds.getD n dd).au⟩ (y.ds.drop (n+1)):=λD=>by
  unfold gB;rw[zDe _ _ (by rw[zAa,L];exact zAg _),zAa,L,zCl];rfl
 have V:∀x':xP,y.ds.take n++x'::y.ds.drop (n+1)=y.ds.set n x':=λx'=>by
  rw[List.set_eq_take_append_cons_drop,Os C]
 refine⟨⟨y.c,false,y.f4,y.ds.set n ⟨(y.ds.getD n dd).rg,(y.ds.getD n dd).rq,(y.ds.getD n dd).dr++[d],(y.ds.getD n dd).au⟩,y.sg,y.sv,y.st,y.vw⟩,⟨h.v,rfl,h.n0,by dsimp only;rw[zBp];exact h.dl,λz R=>?_,λi hi=>?_,λz R=>?_,h.gl,h.sl,h.tl,h.wl,h.wb,h.j⟩,by unfold UC;rw[zAx,Os ⟨⟨a0,a1⟩,W,hr⟩];rfl,?_⟩
 .rcases zDv R with R|rfl
  .exact h.di z R
  .refine⟨u.b,u.v,u.q,u.lg,u.a,u.n,u.t8,u.br,u.bb,u.bl,u.au,?_,λx hx=>?_,u.vh⟩
   .dsimp only;rw[zAh];simp only[zAm,zBh];omega
   .rcases zA5.1 hx with hx|hx
    .exact u.dr x hx
    .rw[zBf.1 hx];exact⟨W,hd⟩
 .dsimp only at hi⊢;rw[zBp]at hi;rw[HM _ _ _ _ hi];split
  .rename_i e;rw[<-e];exact h.dg n C
  .exact h.dg i hi
 .rcases zDv R with R|rfl
  .exact h.sc z R
  .exact h.sc (y.ds.getD n dd) (zY y.ds n C)
 .unfold yz bD at B;rw[S,M]at B;rw[S,<-V];have A:=λH fl h1 h2=>nk (h:=H) (ga:=y.ds.take n) (post:=y.ds.drop (n+1)) (x:=⟨(y.ds.getD n dd).rg,(y.ds.getD n dd).rq,(y.ds.getD n dd).dr++[d],(y.ds.getD n dd).au⟩) (b:=false) (fl:=fl) h1 h2
  rw[<-E]at A;clear hL V E O u I;rw[show∀l:List xP,uB ⟨y.c,false,y.f4,l,y.sg,y.sv,y.st,y.vw⟩= .agg [zD wD y.c.js,zD vX y.c.ags,iA y.c.per,iA y.c.cap,iA y.c.hold,iA y.c.lock,bA false,iA y.f4,zD zK l,zD wC y.sg,zD xY y.sv,zD iA y.st,zD wZ y.vw]from λ_=>rfl];generalize y.ds.getD n dd=x at *;generalize gB (y.ds.take n) x (y.ds.drop (n+1))=cs at *;have ac:=zA vW x.dr;unfold NC xC at G;refine eM call17 λF hF=>?_
  (have gd:=B;have gn:=k2;(repeat' (first|refine uD ?_|apply yZ|apply xM|intro hc|(apply zG;first|(apply aM;refine yE (wM Z Z G) Z ?_))|fail))<;>clear gd gn)
  simp only[NC,zAf]at A;rw[zBp,U]at A;refine zH [] Z Z ?_ Z;refine(zAv (λw=>AV.agg [zD wD y.c.js,zD vX y.c.ags,iA y.c.per,iA y.c.cap,iA y.c.hold,iA y.c.lock,bA false,iA y.f4,YY w,zD wC y.sg,zD xY y.sv,zD iA y.st,zD wZ y.vw]) (A _ true ?_ ?_)).trans ?_
  all_goals rfl
theorem VF (y:Cy) (h:v5 y):zO 48 [uB y] [] (IO y) (IP y):=by
 have C:=zA zK y.ds;have E:=zA wC y.sg;have G:=zA xY y.sv;have I:=zA iA y.st;have L:=zA wZ y.vw;have hd:=h.d;have M:=h.g;have hs:=h.s;have O:=h.t;have hv:=h.v;unfold uB IO bD IP;refine eM call48 λF hF=>?_
 (repeat' (first|refine uD ?_|apply yZ|apply xM|intro hc|(apply zG;first|(apply yG;first|refine wA 1014 tok Z Z Z Z Z Z (zZ _ _ (λ_=>rfl)) Z Z Z zB Z Z Z ?_|refine wA 1016 tok Z Z Z Z Z Z (zZ _ _ (λ_=>rfl)) Z Z Z zB Z Z Z ?_))|fail))
 refine zS 4 1011 17 Z Z Z ?_;refine zU (y.ds) [1011,1,2,3,1014,1016] [1,2,3,1014,1016] [1,2,3,27,28] [4,29,1,2,3,27,28] Z (λi ga T U=>⟨(4,.ref 1011 0 (ga.map zK).length)::(29,iA i)::T,(1011,.arr 17 (ga.map zK) true)::U⟩) (Lq ?_ ?_)
 .intro i ga x post hx hi;have B:=yI zK hx hi;have u:=zV hx hi;have z:(ga.map zK).length=i:=by rw[zAa,hi]
  have A:=jE x (h.db x (yV hx));have e:(ga++[x]).map zK=ga.map zK++[zK x]:=by simp
  clear hx;rw[e];generalize ga.map zK=xs at *;unfold zK xC at*
  (have gd:=A;(repeat' (first|refine dZ ?_|apply yZ|apply xM|intro hc|(apply zG;first|(apply yR;refine kD tok Z Z ?_))|refine SB ?_|fail))<;>clear gd)
  rfl
 .refine kV 1011 [4] Z Z Z Z Z ?_;refine WW ?_;refine zS 7 1012 5 Z Z Z ?_;refine zU (y.sg) [1012,1,2,3,1011,1014,1016] [1,2,3,1011,1014,1016] [1,2,3,4,40,41] [7,42,1,2,3,4,40,41] Z (λi ga T U=>⟨(7,.ref 1012 0 (ga.map wC).length)::(42,iA i)::T,(1012,.arr 5 (ga.map wC) true)::U⟩) (Lq ?_ ?_)
  .intro i ga x post hx hi;have B:=yI wC hx hi;have u:=zV hx hi;have z:(ga.map wC).length=i:=by rw[zAa,hi]
   have hb:=h.gb x (yV hx);have A:=MC x zB zB;have e:(ga++[x]).map wC=ga.map wC++[wC x]:=by simp
   clear hx;rw[e];generalize ga.map wC=xs at *;unfold wC at*
   (have gd:=A;(repeat' (first|refine dZ ?_|apply yZ|apply xM|intro hc|(apply zG;first|(apply yR;refine kD tok Z Z ?_))|refine SB ?_|fail))<;>clear gd)
   rfl
  .refine kV 1012 [7] Z Z Z Z Z ?_;refine WW ?_;refine zS 10 1013 3 Z Z Z ?_;refine zU (y.sv) [1013,2,3,1011,1012,1014,1016] [2,3,1011,1012,1014,1016] [2,3,4,7,53,54] [10,55,2,3,4,7,53,54] Z (λi ga T U=>⟨(10,.ref 1013 0 (ga.map xY).length)::(55,iA i)::T,(1013,.arr 3 (ga.map xY) true)::U⟩) (Lq ?_ ?_)
   .intro i ga x post hx hi;have B:=yI xY hx hi;have u:=zV hx hi;have z:(ga.map xY).length=i:=by rw[zAa,hi]
    have hb:=h.sb x (yV hx);have A:=LT x ⟨zB⟩;have e:(ga++[x]).map xY=ga.map xY++[xY x]:=by simp
    clear hx;rw[e];generalize ga.map xY=xs at *;unfold xY at*
    (have gd:=A;(repeat' (first|refine dZ ?_|apply yZ|apply xM|intro hc|(apply zG;first|(apply yR;refine kD tok Z Z ?_))|refine SB ?_|fail))<;>clear gd)
    rfl
   .refine kV 1013 [10] Z Z Z Z Z ?_;refine WW ?_;refine zH [1011,1012,1013,1014] Z Z ?_ Z
    show AV.agg [zD wD y.c.js,zD vX y.c.ags,iA y.c.per,iA y.c.cap,iA y.c.hold,iA y.c.lock,bA y.rf,iA y.f4,.ref 1011 0 (y.ds.map zK).length,.ref 1012 0 (y.sg.map wC).length,.ref 1013 0 (y.sv.map xY).length,.ref 1014 0 (y.st.map iA).length,.sl false (ny (y.vw.map wZ).length (y.vw.map wZ))]=_
    rw[zAb];rfl
def aT (y:Cy) (h:v5 y):zO 48 [uB y] [] (uB y) []:=by
 refine(VF y h).frz [] ?_ Z Z
 show AV.agg [zD wD y.c.js,zD vX y.c.ags,iA y.c.per,iA y.c.cap,iA y.c.hold,iA y.c.lock,bA y.rf,iA y.f4,.sl false (ny (y.ds.map zK).length (y.ds.map zK)),.sl false (ny (y.sg.map wC).length (y.sg.map wC)),.sl false (ny (y.sv.map xY).length (y.sv.map xY)),.sl false (ny (y.st.map iA).length (y.st.map iA)),zD wZ y.vw]=_
 rw[zAb,zAb,zAb,zAb];rfl
def sk (y:Cy) (h:CH y) (j p:Int):zO 15 [uB y,iA j,iA p] [] (uB (TC y j p)) []:=by
 have hb:=h.b;have z:=h.rf;have L:=zA wD y.c.js;have O:=zA iA y.st;have G:=h.tl;have B:=aU z;by_cases hj:0<=j/\j<(ln y.c.js:Int)
 case neg=>
  rw[show TC y j p=y by unfold TC;rw[Of (λh=>hj h.1)]];have u:=aT y hb;rw[B]at u⊢;by_cases I:j<0
  all_goals
   refine eM call15 λF hF=>?_
   exact lk u
 obtain⟨j0,j1⟩:=hj;have A:=yF wD y.c.js j j0 j1;have M:=zA xQ (y.c.js.getD j.toNat dd).ph;by_cases E:0<=p/\p<((y.c.js.getD j.toNat dd).ph.length:Int)
 case neg=>
  rw[show TC y j p=y by unfold TC;rw[Of (λh=>E h.2)]];have u:=aT y hb;rw[B]at u⊢;generalize y.c.js.getD j.toNat dd=S at *;unfold wD at A;by_cases I:p<0
  all_goals
   refine eM call15 λF hF=>?_
   exact lk u
 obtain⟨U,V⟩:=E;rw[show TC y j p=⟨y.c,false,y.f4,y.ds,y.sg,y.sv,y.st.set j.toNat p,y.vw⟩ by unfold TC;rw[Os ⟨⟨j0,j1⟩,U,V⟩]];have u:=VF y hb;unfold IO IP bD at u;rw[B,z]at u;rw[B];have C:(y.st.set j.toNat p).map iA=(y.st.map iA).set j.toNat (iA p):=zBs ..;rw[show uB ⟨y.c,false,y.f4,y.ds,y.sg,y.sv,y.st.set j.toNat p,y.vw⟩= .agg [zD wD y.c.js,zD vX y.c.ags,iA y.c.per,iA y.c.cap,iA y.c.hold,iA y.c.lock,bA false,iA y.f4,zD zK y.ds,zD wC y.sg,zD xY y.sv,.sl false ((y.st.map iA).set j.toNat (iA p)),zD wZ y.vw] by rw[<-C];rfl];clear C;have R:=yF iA y.st j j0 zB;generalize y.c.js.getD j.toNat dd=S at *;unfold wD at A;refine eM call15 λF hF=>?_
 refine zQ u ?_;refine zH [] Z Z ?_ Z
 show AV.agg [_,_,_,_,_,_,_,_,.sl false (ny (y.ds.map zK).length (y.ds.map zK)),.sl false (ny (y.sg.map wC).length (y.sg.map wC)),.sl false (ny (y.sv.map xY).length (y.sv.map xY)),.sl false (ny (y.st.map iA).length ((y.st.map iA).set j.toNat (iA p))),_]=_
 rw[zAb,zAb,zAb,zAj Xo];rfl
theorem Hs (y:Cy) (h:CH y) (a:Int) (d:List Int) (R:ln d<=1000000):zO 18 [uB y,iA a,zD yA d] [] (uB (UC y a d)) []:=by
 have hb:=h.b;have A:=h.rf;have S:=zA zK y.ds;have U:=zA yA d;have C:=aU A;by_cases M:0<=a/\a<(ln y.ds:Int)
 case neg=>
  rw[show UC y a d=y by unfold UC;rw[Of (λh=>M h.1)]];have u:=aT y hb;rw[C]at u⊢;by_cases Y:a<0
  all_goals
   refine eM call18 λF hF=>?_
   exact lk u
 obtain⟨a0,I⟩:=M;have z:=yF zK y.ds a a0 I;have O:=h.di _ (zY y.ds a.toNat zB);have V:=O.dn;by_cases E:ln d=8/\(y.ds.getD a.toNat dd).dr.length<8
 case neg=>
  rw[show UC y a d=y by unfold UC;rw[Of (λh=>E h.2)]];have u:=aT y hb;rw[C]at u⊢;generalize y.ds.getD a.toNat dd=x at *;have G:=zA vW x.dr;unfold zK xC at z;by_cases h9:ln d=8
  all_goals
   refine eM call18 λF hF=>?_
   exact lk u
 obtain⟨E,W⟩:=E;rw[show UC y a d=⟨y.c,false,y.f4,y.ds.set a.toNat ⟨(y.ds.getD a.toNat dd).rg,(y.ds.getD a.toNat dd).rq,(y.ds.getD a.toNat dd).dr++[d],(y.ds.getD a.toNat dd).au⟩,y.sg,y.sv,y.st,y.vw⟩ by unfold UC;rw[Os ⟨⟨a0,I⟩,E,W⟩];rfl];have u:=VF y hb;unfold IO IP bD at u;rw[C,A]at u;rw[C];generalize y.ds.getD a.toNat dd=x at *;have G:=zA vW x.dr;have B:(x.dr++[d]).map vW=x.dr.map vW++[.sl false (d.map yA)]:=by rw[zAf];rfl
 have L:(y.ds.set a.toNat ⟨x.rg,x.rq,x.dr++[d],x.au⟩).map zK=(y.ds.map zK).set a.toNat (xC x.rg (zD zX x.rq) (.sl false (x.dr.map vW++[.sl false (d.map yA)])) (zD bA x.au)):=by rw[zBs,<-B];rfl
 rw[show uB ⟨y.c,false,y.f4,y.ds.set a.toNat ⟨x.rg,x.rq,x.dr++[d],x.au⟩,y.sg,y.sv,y.st,y.vw⟩= .agg [zD wD y.c.js,zD vX y.c.ags,iA y.c.per,iA y.c.cap,iA y.c.hold,iA y.c.lock,bA false,iA y.f4,.sl false ((y.ds.map zK).set a.toNat (xC x.rg (zD zX x.rq) (.sl false (x.dr.map vW++[.sl false (d.map yA)])) (zD bA x.au))),zD wC y.sg,zD xY y.sv,zD iA y.st,zD wZ y.vw] by rw[<-L];rfl];clear L;clear B;unfold zK xC at z;unfold xC;refine eM call18 λF hF=>?_
 (have gd:=u;(repeat' (first|refine dZ ?_|apply yZ|apply xM|intro hc|(apply zG;first|(apply aM;refine yE (wM Z Z z) Z ?_)|(apply yR;refine kD tok Z Z ?_)|(apply yG;first|refine wA 1005 tok Z Z Z Z Z Z (zZ _ _ (λ_=>rfl)) Z Z Z zB Z Z Z ?_|refine jJ tok Z Z Z Z Z Z (zZ _ _ (λ_=>rfl)) Z Z Z zB Z ?_))|refine SB ?_|fail))<;>clear gd)
 refine kL [6,7,1011,1012,1013,1014] [6,7,48,50] Z ?_
 (conv=>whnf)
 simp only[zAu,zAb];refine WW ?_;refine zH [] Z Z ?_ Z
 show AV.agg [_,_,_,_,_,_,_,_,.sl false (ny (y.ds.map zK).length ((y.ds.map zK).set a.toNat _)),.sl false (ny (y.sg.map wC).length (y.sg.map wC)),.sl false (ny (y.sv.map xY).length (y.sv.map xY)),.sl false (ny (y.st.map iA).length (y.st.map iA)),_]=_
 rw[zAb,zAb,zAb,zAj Xo];rfl
theorem ik (f g A:Int) (u:List Int) (E:0<=f):∀i,i<=ln u->FN f g A u i=if(i:Int)<=f\/g<=0 then((u.take i).map gN).flatten else((u.take f.toNat).map gN).flatten++(gN A++(((u.drop f.toNat).take (i-f.toNat)).map gN).flatten)
 |0,_=>by rw[Os zB];rfl
 | i +1,hi=>by
  have z:=ik f g A u E i zB
  have e:u.take (i+1)=u.take i++[u.getD i dd]:=by
   rw[zAl,zA4 zB,zC1,zCk zB]
  unfold FN;by_cases B:g<=0
  .rw[Of zB,z,Os (.inr B),Os (.inr B),e,zAf,zD2];simp
  .by_cases h1:(i:Int)<f
   .rw[Of zB,z,Os zB,Os zB,e,zAf,zD2];simp
   .rw[Of (show¬(((i+1:Nat):Int)<=f\/g<=0) by omega)]
    have C:(u.drop f.toNat).take (i+1-f.toNat)=(u.drop f.toNat).take (i-f.toNat)++[u.getD i dd]:=by
     rw[show i+1-f.toNat=(i-f.toNat)+1 by omega,zCk OU,List.getElem_drop,zAl,zA4 zB,zC1]
     congr 3
     omega
    rw[C,zAf,zD2];by_cases h2:(i:Int)=f
    .subst h2;rw[Os ⟨rfl,zB⟩,z,Os zB];simp
    .rw[Of zB,z,Of zB];simp
def xz (f g z:Int) (u:List Int) (B:0<=f) (E:f<=ln u):LO f g z u (ln u)=((u.take f.toNat).map gN).flatten++((if 0<g then gN z else [])++((u.drop f.toNat).map gN).flatten):=by
 have C:=ik f g z u B (ln u) (zAg _);have A:(u.drop f.toNat).take (ln u-f.toNat)=u.drop f.toNat:=zAj (by rw[zA8];exact zAg _);rw[A,zAb]at C
 grind [LO,gN,List.flatten_append,List.take_append_drop,List.take_of_length_le,List.drop_eq_nil_of_le]
def u32_in {n:Int} (h:0<=n/\n<4294967296):IntKind.u32.wrap n=n:=by
 unfold IntKind.wrap;simp[IntKind.signed,IntKind.bits];omega
def gf (a c:Nat) (u:a<4294967296) (hc:c<4294967296):nl (a:Int) (c:Int)=((a ||| c:Nat):Int):=by
 unfold nl
 have h1:(BitVec.ofInt IntKind.u32.bits (a:Int) ||| BitVec.ofInt IntKind.u32.bits (c:Int)).toNat=a ||| c:=by
  rw[zFu,zDh,zDh,zDf,zDf,zC9 (show a<2 ^ IntKind.u32.bits from u),zC9 (show c<2 ^ IntKind.u32.bits from hc)]
 rw[h1]
 have h2:a ||| c<2 ^ 32:=zFk u hc
 exact u32_in ⟨zB,zB⟩
def RF {n x:Int} (z:0<=n/\n<16777216) (hx:0<=x/\x<256):nl (IntKind.u32.wrap (n*2 ^ (min (8:Int).toNat IntKind.u32.bits))) x=n*256+x:=by
 rw[show n*2 ^ (min (8:Int).toNat IntKind.u32.bits)=n*256 from Z,u32_in zB];obtain⟨a,rfl⟩:=zB4 z.1;obtain⟨c,rfl⟩:=zB4 hx.1;have h2:=gf (a*256) c zB zB;have u:=zD1 (show c<2 ^ 8 by omega) a;rw[zFs]at u;rw[show((a:Int)*256)=((a*256:Nat):Int) by omega,h2,<-u];omega
def Zk (y:Int):IntKind.u8.wrap y=y % 256:=by
 unfold IntKind.wrap;simp[IntKind.signed,IntKind.bits]
