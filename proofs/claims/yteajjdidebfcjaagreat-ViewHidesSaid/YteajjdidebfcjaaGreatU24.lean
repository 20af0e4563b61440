/- Part 24. -/
import Derived.Test.YteajjdidebfcjaaGreatU23
namespace Go.Proofs.YteajjdidebfcjaaGreat
namespace Av
open Tryz
set_option linter.all false
set_option maxRecDepth 4000
set_option maxHeartbeats 8000000
def zRz {R:Nat->DR} {n:Nat} {x:Int} (h:x∈RE R n):∃a,a<n/\x∈(R a).ks:=by
 unfold RE at h;obtain⟨l,hl,hx⟩:=yD4.1 h;obtain⟨a,ha,rfl⟩:=yBl.1 hl;exact⟨a,yA2.1 ha,hx⟩
def zEp {R:Nat->DR} {n:Nat} {x:En} (h:x∈LG R n):∃a,a<n/\x∈(R a).en:=by
 unfold LG at h;obtain⟨l,hl,hx⟩:=yD4.1 h;obtain⟨a,ha,rfl⟩:=yBl.1 hl;exact⟨a,yA2.1 ha,hx⟩
def tdO (T:List (List Ms)) (f:Ms):AV:= .agg [.ref 1051 0 (T.map YO).length,zC yB [f]]
def tdH (T:List (List Ms)):List (Nat×xO):=[(1051,.arr 1 (T.map YO) true)]
theorem zR0 (y:Cy) (h:CyI y) (hn:y.now<1000000000) (ins:List In) (hil:(ins.length:Int)=vM y.c.ags y.c.ags.length) (R:Nat->DR) (hR:TkR y ins R) (hen:∀i,(R i).en.length<=2000) (hks:∀i,(R i).ks.length<=2000):
  zN 118 [qA y,zC kL ins] [] (.tup [qA (fZ y R),tdO (FE y.c (FD (fZ y R) ins R y.ds.length) y.c.ags.length) (KE (y.now+1) (fZ y R).vw)]) (tdH (FE y.c (FD (fZ y R) ins R y.ds.length) y.c.ags.length)):=by
 have hb:=h.b;have n0:=h.n0;have hw:=h.v.ag;have k1:=MK y hb;have hdl:=h.dl;have k2:=zGx y.c hw (y.now+1) zB zB y.ds h.dl (λi hi=>h.di _ (zQ y.ds i hi)) ins hil R hen hks (λa ha=>(hR a ha).2) (y.sg.map vH) (y.sv.map vD) (y.st.map iA) (y.sg.map vH).length (y.sv.map vD).length (y.st.map iA).length y.vw;have hi9:=zA kL ins;have hmin:min y.now 1073741823+1=y.now+1:=by omega
 have hrf:=h.rf;have eC:qA y= .agg [zC wC y.c.js,zC wK y.c.ags,iA y.c.per,iA y.c.cap,iA y.c.hold,iA y.c.lock,bA false,iA y.now,zC zL y.ds,zC vH y.sg,zC vD y.sv,zC iA y.st,zC vA y.vw]:=by rw[<-hrf];rfl
 unfold zK0 zK1 XU at k1;rw[eC,hrf]at k1;unfold XU at k2;rw[eC];refine eM call118 λF hF=>?_
 refine zV k1 ?_;rw[hmin];refine zV k2 ?_;refine uM [2,3,4,5,6,7,1012,1013,1014] [2,3,4,5,6,7,34,35,36] Z ?_
 (conv=>whnf)
 have hds:(y.ds.map zL).length=((RD (y.now+1) y.ds R y.ds.length).map zL).length:=by rw[yAe,yAe,eU]
 have hgl:=zA vH y.sg;have hvl:=zA vD y.sv;have htl:=zA iA y.st;have hgl2:=h.gl;have hvl2:=h.sl;have htl2:=h.tl;simp only[yBf];rw[hds,yAh,hgl,hvl,htl,hgl2,hvl2,htl2];clear k1 k2
 have hkx:∀x∈RE R y.ds.length,0<=x/\x<(y.c.js.length:Int):=λx hx=>by
  obtain⟨a,ha,hx⟩:=zRz hx;exact(hR a ha).1.ks x hx
 have hkl:=FB hks y.ds.length;have hags:=h.v.a;have hks9:(RE R y.ds.length).length<=10000:=by omega
 have hjl:=zA wC y.c.js;have hkm:=zA iA (RE R y.ds.length);have eY:fZ y R=⟨y.c,false,y.now+1,RD (y.now+1) y.ds R y.ds.length,LH (AK y R) (MX y.c y.sg (RE R y.ds.length)) y.c.js.length,LI (AK y R) y.sv y.c.js.length,FC y.st y.c.js.length,AJ y.c.js (AK y R) y.c.js.length⟩:=rfl;refine yM ((RE R y.ds.length)) [1012,2,3,4,5,6,7,1013,1014] [2,3,4,5,6,7,1013,1014] [2,3,4,5,6,7,34,35,86] [36,2,3,4,5,6,7,34,35,86] Z (λi pre T U=>⟨(36,iA i)::T,(1012,.arr 5 ((MX y.c y.sg pre).map vH) false)::U⟩) ?_;(conv=>whnf);refine⟨by rfl,?_,?_⟩
 ·intro i pre x post hx hi;have hy:=xG iA hx hi;have hlt:=yP hx hi;have hxb:=hkx x (wT hx);obtain⟨g1,g2⟩:=zEv h.v (sv:=y.sv) (now:=y.now) pre y.sg h.gl h.j;have J:=h.v.jv _ (zQ y.c.js x.toNat zB);have C:=(g2 x.toNat zB).c;have hJ:=J.n;have hC:=C.n;have hM:=C.m;have kr:=zLf (y.c.js.getD x.toNat default) J ((MX y.c y.sg pre).getD x.toNat default) zB zB;have hyj:=yN wC y.c.js x hxb.1 hxb.2;have hyg:=yN vH (MX y.c y.sg pre) x hxb.1 zB;have hgl3:=zA vH (MX y.c y.sg pre);rw[zNo,yCk];clear hx hkx eY hR J C g2;generalize (MX y.c y.sg pre).getD x.toNat default=s at *;generalize y.c.js.getD x.toNat default=j at *;generalize MX y.c y.sg pre=X at *;generalize X.map vH=Y at *;refine zV kr ?_;rfl
 ·obtain⟨g1,g2⟩:=zEv h.v (sv:=y.sv) (now:=y.now) (RE R y.ds.length) y.sg h.gl h.j
  have kst:=zNn y.c h.v (y.now+1) zB zB (RD (y.now+1) y.ds R y.ds.length) (by rw[eU];omega) (λd hd=>by
    obtain⟨a,ha,rfl⟩:=SU hd
    exact(hR a ha).1.i) (λd hd=>by
    obtain⟨a,ha,rfl⟩:=SU hd;refine(hR a ha).1.sc ?_
    exact FN.of zB ((h.sc _ (zQ y.ds a ha)).mono zB) (zNp _ _)) (MX y.c y.sg (RE R y.ds.length)) y.sv y.st y.vw g1 h.sl h.tl (λk hk=>by
    have H:=g2 k hk
    exact⟨H.c,H.n,λe he=>by have:=H.e e he;omega,H.g⟩)
  have l1:((MX y.c y.sg (RE R y.ds.length)).map vH).length=y.c.js.length:=by rw[yAe];exact g1
  have l2:(y.sv.map vD).length=y.c.js.length:=by rw[yAe];exact h.sl
  have l3:(y.st.map iA).length=y.c.js.length:=by rw[yAe];exact h.tl
  have l4:((LH (AK y R) (MX y.c y.sg (RE R y.ds.length)) y.c.js.length).map vH).length=y.c.js.length:=by unfold LH;rw[yAe,wZ];exact g1
  have l5:((LI (AK y R) y.sv y.c.js.length).map vD).length=y.c.js.length:=by unfold LI;rw[yAe,wZ];exact h.sl
  have l6:((FC y.st y.c.js.length).map iA).length=y.c.js.length:=by unfold FC;rw[yAe,wZ];exact h.tl
  have l7:((AJ y.c.js (AK y R) y.c.js.length).map vA).length=y.c.js.length:=by simp[AJ]
  have hal:=zA wK y.c.ags;unfold stH at kst;rw[show YT y.c (MX y.c y.sg (RE R y.ds.length)) y.sv y.st (RD (y.now+1) y.ds R y.ds.length) (y.now+1)=AK y R from Z,zR5,l1,l2,l3,l4,l5,l6]at kst;have eT:qA (fZ y R)= .agg [zC wC y.c.js,zC wK y.c.ags,iA y.c.per,iA y.c.cap,iA y.c.hold,iA y.c.lock,bA false,iA (y.now+1),zC zL (fZ y R).ds,zC vH (fZ y R).sg,zC vD (fZ y R).sv,zC iA (fZ y R).st,zC vA (fZ y R).vw]:=rfl;have d1:RD (y.now+1) y.ds R y.ds.length=(fZ y R).ds:=rfl;have d2:LH (AK y R) (MX y.c y.sg (RE R y.ds.length)) y.c.js.length=(fZ y R).sg:=rfl;have d3:LI (AK y R) y.sv y.c.js.length=(fZ y R).sv:=rfl;have d4:FC y.st y.c.js.length=(fZ y R).st:=rfl;have d5:AJ y.c.js (AK y R) y.c.js.length=(fZ y R).vw:=rfl;rw[d2]at kst l4;rw[d3]at kst l5;rw[d4]at kst l6;rw[d5]at kst l7;rw[d1]at kst⊢;refine zV kst ?_;refine uM [2,3,4,5,6,7,11] [2,3,4,5,6,7,11,78,79] Z ?_
  (conv=>whnf)
  simp only[yBf];rw[yAo (l:=(fZ y R).sg.map vH) (yCf l4),yAo (l:=(fZ y R).sv.map vD) (yCf l5),yAo (l:=(fZ y R).st.map iA) (yCf l6),yAo (l:=(fZ y R).vw.map vA) (yCf l7),hal];have hZ:=zTa h hR;have zc:(fZ y R).c=y.c:=rfl;have zn:(fZ y R).now=y.now+1:=rfl;have zd:(fZ y R).ds.length=y.ds.length:=eU ..;have zR:∀a,a<y.ds.length->(fZ y R).ds.getD a default=(R a).d:=λa ha=>aY ha
  have hzl:=zA zL (fZ y R).ds;have eA:∀T f,tdO T f= .agg [.ref 1051 0 (T.map YO).length,zC yB [f]]:=λ_ _=>rfl
  have eH:∀T,tdH T=[(1051,.arr 1 (T.map YO) true)]:=λ_=>rfl
  rw[eT,eA,eH];clear d1 d2 d3 d4 d5 kst l1 l2 l3 l4 l5 l6 l7 g1 g2 hkx eY hds;refine vW 11 0 1051 1 Z Z Z Z Z ?_
  have hTf:∀a k,FD (fZ y R) ins R y.ds.length a k=if(ins.getD ((vM y.c.ags a).toNat+k) default).opn=true then tlF ((fZ y R).ds.getD a default) (fZ y R).vw (fZ y R).now k (R a).R (LG R y.ds.length)else []:=λ_ _=>rfl
  generalize FD (fZ y R) ins R y.ds.length=tf at *;generalize fZ y R=z at *;refine zO (y.c.ags.length) [11,1051,2,3,4,5,6,7] [2,3,4,5,6,7] [2,3,4,5,6,7,11,78,86] [79,2,3,4,5,6,7,11,78,86] Z (λi T U=>⟨(79,iA i)::T,(11,.box [.ref 1051 0 ((FE y.c tf i).map YO).length,.s (.slice none 0 0)])::(1051,.arr 1 ((FE y.c tf i).map YO) true)::U⟩) ?_;(conv=>whnf);refine⟨by rfl,?_,?_⟩
  ·intro i hi;have hid:i<y.ds.length:=by omega
   have ks:=zD1 y.c i;have ht:=zKn y.c hw i hi;obtain⟨bs,hbs⟩:∃bs:Nat,vM y.c.ags i=(bs:Int):=⟨(vM y.c.ags i).toNat,by have:=kQ hw i zB;omega⟩;obtain⟨N,hN⟩:∃N:Nat,(y.c.ags.getD i default).ses=(N:Int):=⟨(y.c.ags.getD i default).ses.toNat,by have:=hw.at (i:=i) zB;omega⟩
   have hbd:bs+N<=ins.length:=by
    have:=YS hw (show i+1<=y.c.ags.length by omega) (yAg _);have h2:vM y.c.ags (i+1)=vM y.c.ags i+(y.c.ags.getD i default).ses:=rfl;omega
   have hN2:=hw.at (i:=i) zB;have hL:GD y.c i=(List.range N).map λk=>[plA i k (bs+k)]:=by unfold GD;rw[hbs,hN];rfl
   have htd:=SW hw tf i zB;have hsb:=kQ hw i zB;rw[MY,show(y.c.ags.getD i default).ses.toNat=N by omega]
   have hy6:(List.map (λk=>rpA (R k)) (List.range y.ds.length))[i]? =some (.sl false ((R i).R.map YO)):=by
    rw[yAi,yBg hid];rfl
   have hDt:=(hR i hid).1;have hI:=hZ.di _ (zQ z.ds i zB);have hzi:=zR i hid
   have hau:(R i).d.au.length=N:=by
    have:=hDt.i.au;rw[hDt.ag]at this;have e9:=h.dg i hid;rw[show(LE (y.ds.getD i default) (y.now+1)).rg.ag=(y.ds.getD i default).rg.ag from Z,e9]at this;omega
   have hau2:(LE (y.ds.getD i default) (y.now+1)).au.length=N:=by
    have:=(h.di _ (zQ y.ds i hid)).au;rw[h.dg i hid]at this
    show(y.ds.getD i default).au.length=N
    omega
   have hRl:=hDt.rn;rw[hau2]at hRl;have hRv:=hDt.rv
   have hEn:∀e∈LG R y.ds.length,EnK e:=λe he=>by
    obtain⟨a,ha,he⟩:=zEp he;exact(hR a ha).1.en e he
   have hEl:=FA hen y.ds.length;have hq9:=hI.a.q;have kt:=λk (hk:k<N)=>zR1 z hZ.n0 zB i k (bs+k) zB hI.bd hq9 (by have:=hZ.wl;have:=hZ.v.j;omega) hZ.wb (by rw[hzi];omega) (R i).R hRv zB (LG R y.ds.length) hEn zB
   have hTf':∀k,k<N->tf i k=if(ins.getD (bs+k) default).opn=true then tlF (z.ds.getD i default) z.vw z.now k (R i).R (LG R y.ds.length)else []:=λk hk=>by
    rw[hTf i k,hbs];rfl
   clear hTf hEn hRv hR hDt hI zR;have eZ:qA z= .agg [zC wC y.c.js,zC wK y.c.ags,iA y.c.per,iA y.c.cap,iA y.c.hold,iA y.c.lock,bA false,iA (y.now+1),zC zL z.ds,zC vH z.sg,zC vD z.sv,zC iA z.st,zC vA z.vw]:=eT;rw[eZ]at kt;rw[show zC YO (R i).R= .sl false ((R i).R.map YO)from Z]at kt;generalize (R i).R.map YO=Rm at *;rw[yAn];have hxl:=zA YO (FE y.c tf i);generalize (FE y.c tf i).map YO=X at *;unfold zGc at ks ht;unfold wD at ks;refine zV ks ?_
   refine wW hF ht Z [2,3,4,5,6,7,11,12,1051] [2,3,4,5,6,7,11,12,78,79] Z Z Z Z Z Z Z Z Z (λk ys h=>?_) (λk=>[(2,.box [zC wC y.c.js,zC wK y.c.ags,iA y.c.per,iA y.c.cap,iA y.c.hold,iA y.c.lock,bA false,iA (y.now+1),zC zL z.ds,zC vH z.sg,zC vD z.sv,zC iA z.st,zC vA z.vw]),(3,.box [zC kL ins]),(4,.box [.s (.slice none 0 0),.s (.slice none 0 0),iA 0,iA 0,iA 0,iA 0,bA false,iA 0,.s (.slice none 0 0),.s (.slice none 0 0),.s (.slice none 0 0),.s (.slice none 0 0),.s (.slice none 0 0)]),(5,.box [.s (.slice none 0 0),.s (.slice none 0 0)]),(6,.box [.sl false (List.map (λk=>rpA (R k)) (List.range y.ds.length))]),(7,.box [zC gI (LG R y.ds.length)]),(11,.box [.ref 1051 0 (X++(tdP tf i k).map YO).length,.s (.slice none 0 0)]),(12,.box [iA i]),(1051,.arr 1 (X++(tdP tf i k).map YO) true)]) (λ_=>True)
    (T:=[(2,.ptr 2 0 0),(3,.ptr 3 0 0),(4,.ptr 4 0 0),(5,.ptr 5 0 0),(6,.ptr 6 0 0),(7,.ptr 7 0 0),(11,.ptr 11 0 0),(12,.ptr 12 0 0),(78,iA y.c.ags.length),(79,iA i)]) (by rw[show(tdP tf i 0).map YO=[]from Z,yA8];rfl) trivial (λk ys q hys hI9 F1 h1 h2=>?_) (λhI9=>?_)
   ·rw[hL,yAi,yAq]at h;obtain⟨x,_,rfl⟩:=h;rfl
   ·have hk:k<N:=by
     have:=(yA5.1 hys).1;rw[hL,yAe,yB1]at this;exact this
    rw[hL,yAi,yBg hk]at hys;obtain rfl:=yCr hys;have hyi:=zM kL ins (bs+k) zB;have hol:((tdP tf i k).map YO).length=k:=by unfold tdP;rw[yAe,yAe,yB1]
    have kt:=kt k hk;rw[zNq,yAn,show [tf i k].map YO=[zC yB (tf i k)]from Z,hTf' k hk,<-yA6];generalize (tdP tf i k).map YO=O at *;generalize ins.getD (bs+k) default=x at *;generalize tlF (z.ds.getD i default) z.vw z.now k (R i).R (LG R y.ds.length)=tl at *;unfold kL at hyi;obtain⟨xo,xs⟩:=x;refine WW ?_;refine⟨rfl,λF2 g1 g2=>?_⟩;dsimp only at hyi⊢;cases xo
    ·rw[yAc yAx]
     (repeat' (first|refine ZJ ?_|apply xM|apply xZ|intro hc|(refine zE ?_;first|(refine yV ?_;refine UW 117 Z Z Z ?_;refine qS tok Z Z ?_))|refine SB ?_|fail))
     exact⟨rfl,trivial⟩
    ·rw[yAd Z]
     (have zc1:=kt;(repeat' (first|refine ZJ ?_|apply xM|apply xZ|intro hc|(refine zE ?_;first|(refine yV ?_;refine UW 117 Z Z Z ?_;refine qS tok Z Z ?_))|refine SB ?_|fail))<;>clear zc1)
     exact⟨rfl,trivial⟩
   ·rw[show(GD y.c i).length=N by rw[hL,yAe,yB1]]
    show vZ _ _ _ _ ⟨_,_⟩ _
    refine WW ?_;rfl
  ·have hwl:z.vw.length<=4:=by have:=hZ.wl;have:=hZ.v.j;omega
   have kf:=zW0 (y.now+1) z.vw zB hZ.wb;have kv:=AG [KE (y.now+1) z.vw] zS (λm hm=>by rw[yBe.1 hm];exact zY4 z.vw (y.now+1) zB zB hwl hZ.wb);rw[show zC yB [KE (y.now+1) z.vw]= .sl false [yB (KE (y.now+1) z.vw)]from Z]at *; generalize KE (y.now+1) z.vw=fm at *;have hxl:=zA YO (FE y.c tf y.c.ags.length);generalize (FE y.c tf y.c.ags.length).map YO=X at *;refine zV kf ?_
   (refine vR 158 ?_;refine uN [2,4,5,11,1051] [2,4,5,11,127] Z ?_;(conv=>whnf);(try simp only[yBf,yAh]);first|refine yJ (zI (kv) Z Z Z Z Z) Z ?_|refine uT (zI (kv) Z Z Z Z Z) Z Z Z ?_|refine XF (zI (kv) Z Z Z Z Z) Z Z Z ?_)
   refine WW ?_;exact zH [1051] Z Z Z Z
def zWw {y y':Cy} {ins:List In} {T:List (List Ms)} {f:Ms} (k:zN 118 [qA y,zC kL ins] [] (.tup [qA y',tdO T f]) (tdH T)):zN 118 [qA y,zC kL ins] [] (.tup [qA y',tdA T f]) []:=by
 refine k.frz [] ?_ Z Z
 show AV.tup [_,AV.agg [AV.sl false (List.take (T.map YO).length (T.map YO)),_]]=_
 rw[yAh];rfl
structure MtP (y y':Cy) (ins:List In) (T:List (List Ms)):Prop where
 i:CyI y'
 c:y'.c=y.c
 n:y'.now=y.now+1
 l:T.length=ins.length
 v:∀x∈T,x.length<=1002/\∀m∈x,bS m
 f:bS (KE (y.now+1) y'.vw)
 off:∀s,s<ins.length->(ins.getD s default).opn=false->T.getD s []=[]
 on:∀s,s<ins.length->(ins.getD s default).opn=true->∃(l1 l2:List Ms) (d:xJ),T.getD s []=l1++(jQ d y'.vw (y.now+1)::l2)/\l1.length=(ins.getD s default).its.length/\bS (jQ d y'.vw (y.now+1))
 tk:TkR y ins (dtR y ins)/\y'=fZ y (dtR y ins)/\T=FE y.c (FD y' ins (dtR y ins) y.ds.length) y.c.ags.length
theorem zM5 (y:Cy) (h:CyI y) (hn:y.now<1000000000) (ins:List In) (hil:(ins.length:Int)=vM y.c.ags y.c.ags.length) (hin:∀i∈ins,InS i):
  ∃(y':Cy) (T:List (List Ms)),MtP y y' ins T/\zN 118 [qA y,zC kL ins] [] (.tup [qA y',tdO T (KE (y.now+1) y'.vw)]) (tdH T):=by
 have hR:=zY6 h hn hil hin;have k:=zR0 y h hn ins hil (dtR y ins) hR (λi=>(BC ..).1) (λi=>(BC ..).2);obtain⟨R,eR⟩:∃R,R=dtR y ins:=⟨_,rfl⟩;rw[<-eR]at hR k;have hZ:=zTa h hR;have n0:=h.n0;have hw:=h.v.ag;have hdl:=h.dl;have hl:=SW hw (FD (fZ y R) ins R y.ds.length) _ (yAg _);have hwl:(fZ y R).vw.length<=4:=by have:=hZ.wl;have:=hZ.v.j;omega
 have hEn:∀e∈LG R y.ds.length,EnK e:=λe he=>by
  obtain⟨a,ha,he⟩:=zEp he;exact(hR a ha).1.en e he
 refine⟨fZ y R,FE y.c (FD (fZ y R) ins R y.ds.length) y.c.ags.length,⟨hZ,rfl,rfl,zB,λx hx=>?_,zY4 _ _ zB zB hwl hZ.wb,λs hs ho=>?_,λs hs ho=>?_,eR▸⟨hR,rfl,rfl⟩⟩,k⟩
 ·obtain⟨s,hs,e⟩:=yEa.1 hx;obtain⟨a,k,h1,h2,h3,h4⟩:=SY hw (FD (fZ y R) ins R y.ds.length) _ (yAg _) s hs;have e2:x=FD (fZ y R) ins R y.ds.length a k:=by rw[<-h4,yAk,yAr hs,<-e];rfl
  rw[e2];unfold FD;split
  ·have hid:a<y.ds.length:=by omega
   have hDt:=(hR a hid).1
   have hau2:((LE (y.ds.getD a default) (y.now+1)).au.length:Int)=(y.c.ags.getD a default).ses:=by
    have:=(h.di _ (zQ y.ds a hid)).au;rw[h.dg a hid]at this;exact this
   have hRl:=hDt.rn;have hq:=hDt.i.a.q;have hzi:(fZ y R).ds.getD a default=(R a).d:=aY hid;rw[hzi];exact zS9 _ hq _ _ (by show 0<=y.now+1;omega) (by show y.now+1<=_;omega) hwl hZ.wb k (R a).R hDt.rv zB _ hEn
  ·exact⟨yAt _,λm hm=>by cases hm⟩
 ·obtain⟨a,k,h1,h2,h3,h4⟩:=SY hw (FD (fZ y R) ins R y.ds.length) _ (yAg _) s zB;rw[h4];unfold FD;rw[show(vM (fZ y R).c.ags a).toNat+k=s from h3.symm,ho,yAc yAx]
 ·obtain⟨a,k,h1,h2,h3,h4⟩:=SY hw (FD (fZ y R) ins R y.ds.length) _ (yAg _) s zB;have hid:a<y.ds.length:=by omega
  have hDt:=(hR a hid).1
  have hau2:((LE (y.ds.getD a default) (y.now+1)).au.length:Int)=(y.c.ags.getD a default).ses:=by
   have:=(h.di _ (zQ y.ds a hid)).au;rw[h.dg a hid]at this;exact this
  have hq:=hDt.i.a.q;have hzi:(fZ y R).ds.getD a default=(R a).d:=aY hid;have hrl:=hDt.rl k zB;have hol:(owI y.c ins a).length=(y.c.ags.getD a default).ses.toNat:=by unfold owI owP;rw[yAe,yB1]
  have hog:(owI y.c ins a).getD k default=ins.getD s default:=by
   unfold owI owP;rw[yAk,yAi,yBg zB,h3];rfl
  have hsi:cC (owI y.c ins a) k=(ins.getD s default).its:=by
   unfold cC;rw[hog,yAd ⟨zB,ho⟩]
  rw[hsi]at hrl;refine⟨(R a).R.getD k [],(if((fZ y R).ds.getD a default).au.getD k default=true then [trM (fZ y R).now (LG R y.ds.length)]else []),(fZ y R).ds.getD a default,?_,hrl,?_⟩
  ·rw[h4];unfold FD;rw[show(vM (fZ y R).c.ags a).toNat+k=s from h3.symm,ho,yAd Z];unfold tlF;rw[yA6];rfl
  ·rw[hzi];exact zNd _ hq _ _ zB zB hwl hZ.wb
def AF (y:Cy) (j p:Int):Cy:=if(0<=j/\j<(y.c.js.length:Int))/\0<=p/\p<((y.c.js.getD j.toNat default).ph.length:Int)then⟨y.c,false,y.now,y.ds,y.sg,y.sv,y.st.set j.toNat p,y.vw⟩else y
def zGu (y:Cy) (h:CyI y) (j p:Int):∃y':Cy,CyI y'/\y'=AF y j p/\zN 83 [qA y,iA j,iA p] [] (qA y') []:=by
 have hb:=h.b;have hrf:=h.rf;have hjl:=zA wC y.c.js;have htl:=zA iA y.st;have htl2:=h.tl;have eC:qA y= .agg [zC wC y.c.js,zC wK y.c.ags,iA y.c.per,iA y.c.cap,iA y.c.hold,iA y.c.lock,bA false,iA y.now,zC zL y.ds,zC vH y.sg,zC vD y.sv,zC iA y.st,zC vA y.vw]:=by rw[<-hrf];rfl
 by_cases hj:0<=j/\j<(y.c.js.length:Int)
 case neg=>
  refine⟨y,h,by unfold AF;rw[yAc (λh=>hj h.1)],?_⟩;have k1:=YL y hb;rw[eC]at k1⊢;by_cases h0:j<0
  ·(refine eM call83 λF hF=>?_)
   refine zV k1 ?_;exact zJ
  ·(refine eM call83 λF hF=>?_)
   refine zV k1 ?_;exact zJ
 obtain⟨j0,j1⟩:=hj;have hyj:=yN wC y.c.js j j0 j1;have hpl:=zA vE (y.c.js.getD j.toNat default).ph;by_cases hp:0<=p/\p<((y.c.js.getD j.toNat default).ph.length:Int)
 case neg=>
  refine⟨y,h,by unfold AF;rw[yAc (λh=>hp h.2)],?_⟩;have k1:=YL y hb;rw[eC]at k1⊢;generalize y.c.js.getD j.toNat default=jn at *;unfold wC at hyj;by_cases h0:p<0
  ·(refine eM call83 λF hF=>?_)
   refine zV k1 ?_;exact zJ
  ·(refine eM call83 λF hF=>?_)
   refine zV k1 ?_;exact zJ
 obtain⟨p0,p1⟩:=hp;refine⟨⟨y.c,false,y.now,y.ds,y.sg,y.sv,y.st.set j.toNat p,y.vw⟩,⟨h.v,rfl,h.n0,h.dl,h.di,h.dg,h.sc,h.gl,h.sl,by dsimp only;rw[yB7];exact h.tl,h.wl,h.wb,h.j⟩,by unfold AF;rw[yAd ⟨⟨j0,j1⟩,p0,p1⟩],?_⟩;have k1:=MK y hb;unfold zK0 zK1 XU at k1;rw[eC,hrf]at k1;rw[eC];have e2:(y.st.set j.toNat p).map iA=(y.st.map iA).set j.toNat (iA p):=yCk ..;rw[show qA ⟨y.c,false,y.now,y.ds,y.sg,y.sv,y.st.set j.toNat p,y.vw⟩= .agg [zC wC y.c.js,zC wK y.c.ags,iA y.c.per,iA y.c.cap,iA y.c.hold,iA y.c.lock,bA false,iA y.now,zC zL y.ds,zC vH y.sg,zC vD y.sv,.sl false ((y.st.map iA).set j.toNat (iA p)),zC vA y.vw] by rw[<-e2];rfl];clear e2;have hyt:=yN iA y.st j j0 zB;generalize y.c.js.getD j.toNat default=jn at *;unfold wC at hyj;refine eM call83 λF hF=>?_
 refine zV k1 ?_;refine zH [] Z Z ?_ Z
 show AV.agg [_,_,_,_,_,_,_,_,.sl false (List.take (y.ds.map zL).length (y.ds.map zL)),.sl false (List.take (y.sg.map vH).length (y.sg.map vH)),.sl false (List.take (y.sv.map vD).length (y.sv.map vD)),.sl false (List.take (y.st.map iA).length ((y.st.map iA).set j.toNat (iA p))),_]=_
 rw[yAh,yAh,yAh,yAo (by rw[yB7];exact yAg _)];rfl
section
open Classical in
noncomputable def bT (m:Ms):List Int:=if h:bS m then FI m.kind (dT h.2).choose else []
def zEq (m:Ms) (h:bS m):((bT m).length<=300/\(m.args≠[]->∃q:List Int,bT m=90::165::1::m.kind::q/\7<=q.length))/\zN 97 [yB m] [] (.tup [zC yA (bT m),iA 0]) []:=by
 have hs:=(dT h.2).choose_spec;have e:bT m=FI m.kind (dT h.2).choose:=by unfold bT;rw[yFo h]
 rw[e];generalize (dT h.2).choose=p at *;obtain⟨h1,h2,h3⟩:=hs;obtain⟨k,tk,ar,da⟩:=m;obtain⟨h4,h5⟩:=h;dsimp only at *;subst h4;refine⟨⟨?_,λh9=>?_⟩,h3⟩
 ·simp only[FI,LB,yAp,yAf,yAe,yB1];have:(eG k p.length).length<=10:=by unfold eG;simp
  have:=h2.1;omega
 ·refine⟨0::(p.length:Int)::(p++LB (gN (eG k p.length++p))),by simp[FI,eG],?_⟩;have h8:=h2.2 h9;simp only[LB,yAp,yAf,yAe,yB1];omega
noncomputable def qN (l:List Ms):List Int:=(l.map bT).flatten
def YQ (l:List Ms) (m:Ms):qN (l++[m])=qN l++bT m:=by simp[qN]
theorem aX:∀{l:List Ms},(∀m∈l,bS m)->(qN l).length<=300*l.length
 | [],_=>yAt _
 |m::l,h=>by
  have h1:=(zEq m (h m zS)).1.1;have h2:=aX (l:=l) λx hx=>h x RS
  have e:qN (m::l)=bT m++qN l:=rfl;rw[e,yAf,yAp];omega
def JO (l:List Ms) (hl:l.length<=1002) (h:∀m∈l,bS m):zN 119 [zC yB l] [] (zC yA (qN l)) []:=by
 have hml:=zA yB l;refine eM call119 λF hF=>?_
 refine WW ?_;refine xC 3 1001 1 Z Z Z ?_;refine yM (l) [1001] [] [8,9] [3,10,8,9] Z (λi pre T U=>⟨(3,.ref 1001 0 ((qN pre).map yA).length)::(10,iA i)::T,(1001,.arr 1 ((qN pre).map yA) true)::U⟩) ?_;(conv=>whnf);refine⟨by rfl,?_,?_⟩
 ·intro i pre x post hx hi;have hy:=xG yB hx hi;have hlt:=yP hx hi;obtain⟨⟨c1,_⟩,c2⟩:=zEq x (h x (wT hx));have hpl:=aX (l:=pre) λm hm=>h m (by rw[hx];simp[hm])
  have hpm:=zA yA (qN pre);have hbm:=zA yA (bT x);rw[YQ,yAn];clear hx;generalize qN pre=X at *;generalize bT x=Y at *;unfold yB at *;refine zV c2 ?_;rfl
 ·(refine WW ?_)
  exact zH [] Z Z (yBa (AV.sl false) yAh) Z
structure WI where
 y:Cy
 ss:List Ss
def UC (y:Cy) (s:AV):AV:= .agg [zC wC y.c.js,zC wK y.c.ags,iA y.c.per,iA y.c.cap,iA y.c.hold,iA y.c.lock,bA false,iA y.now,zC zL y.ds,zC vH y.sg,zC vD y.sv,zC iA y.st,zC vA y.vw,s]
def bB (b:WI):AV:=UC b.y (zC kM b.ss)
structure LF (b:WI):Prop where
 y:CyI b.y
 l:(b.ss.length:Int)=vM b.y.c.ags b.y.c.ags.length
 s:∀s∈b.ss,SsI s
def sdA (S:List (List Int)) (f:List Int):AV:= .agg [zC (zC yA) S,zC yA f]
def kC (ss:List Ss):List In:=ss.map λs=>(UE s).2
def MV (ss:List Ss) (i:Nat):List AV:=(List.range ss.length).map λk=>if k<i then kL (UE (ss.getD k default)).2 else .agg [bA false,.s (.slice none 0 0)]
def bC (ss:List Ss) (i:Nat):List Ss:=XP (λ_ s=>(UE s).1) ss i
noncomputable def QF (T:List (List Ms)) (i:Nat):List AV:=(List.range T.length).map λk=>if k<i then zC yA (qN (T.getD k default))else .s (.slice none 0 0)
def zM6 (ss:List Ss):MV ss ss.length=(kC ss).map kL:=by
 unfold MV kC;rw[dE,yEz];apply yBj;intro j;rw[yAi,yAi];by_cases hj:j<ss.length
 ·rw[yBg hj,yAr hj];simp only[Option.map_some,Function.comp,yAk,yAr hj,yCh]
 ·rw[yA1 wF,yA1 zB];rfl
def zM7 (T:List (List Ms)):QF T T.length=(T.map qN).map (zC yA):=by
 unfold QF;rw[dE,yEz];apply yBj;intro j;rw[yAi,yAi];by_cases hj:j<T.length
 ·rw[yBg hj,yAr hj];simp only[Option.map_some,Function.comp,yAk,yAr hj,yCh]
 ·rw[yA1 wF,yA1 zB];rfl
theorem zM8 (b:WI) (h:LF b) (y':Cy) (Td:List (List Ms)) (hM:MtP b.y y' (kC b.ss) Td) (k:zN 118 [qA b.y,zC kL (kC b.ss)] [] (.tup [qA y',tdA Td (KE (b.y.now+1) y'.vw)]) []):
  zN 84 [UC b.y (.ref 1021 0 b.ss.length)] [(1021,.arr 4 (b.ss.map kM) false)] (.tup [UC y' (.ref 1021 0 b.ss.length),sdA (Td.map qN) (qN [KE (b.y.now+1) y'.vw])]) [(1021,.arr 4 ((bC b.ss b.ss.length).map kM) false)]:=by
 obtain⟨y,ss⟩:=b;have hy:=h.y;have hs:=h.s;have hl:=h.l;dsimp only at *;have hw:=hy.v.ag;have hrf:=hy.rf
 have hsb:ss.length<=8:=by
  have:=kQ hw y.c.ags.length (yAg _);have:=hw.1;omega
 have hrf':=hM.i.rf;have hTl:=hM.l;have hil:(kC ss).length=ss.length:=by unfold kC;rw[yAe]
 rw[hil]at hTl;have eC:qA y= .agg [zC wC y.c.js,zC wK y.c.ags,iA y.c.per,iA y.c.cap,iA y.c.hold,iA y.c.lock,bA false,iA y.now,zC zL y.ds,zC vH y.sg,zC vD y.sv,zC iA y.st,zC vA y.vw]:=by rw[<-hrf];rfl
 have eC':qA y'= .agg [zC wC y'.c.js,zC wK y'.c.ags,iA y'.c.per,iA y'.c.cap,iA y'.c.hold,iA y'.c.lock,bA false,iA y'.now,zC zL y'.ds,zC vH y'.sg,zC vD y'.sv,zC iA y'.st,zC vA y'.vw]:=by rw[<-hrf'];rfl
 rw[eC,eC',show∀f,tdA Td f= .agg [.sl false (Td.map YO),zC yB [f]]from λ_=>rfl]at k;have hTv:=hM.v;have kf:=JO [KE (y.now+1) y'.vw] zS (λm hm=>by rw[yBe.1 hm];exact hM.f);generalize KE (y.now+1) y'.vw=fm at *;have hsl:=zA kM ss
 have hi0:MV ss 0=List.replicate ss.length (.agg [bA false,.s (.slice none 0 0)]):=by
  unfold MV;apply yBj;intro j;rw[yAi,yCb];by_cases hj:j<ss.length
  ·rw[yBg hj,yAd hj];simp
  ·rw[yAc hj,yA1 wF];rfl
 have hs0:bC ss 0=ss:=jL _ _;unfold UC;refine eM call84 λF hF=>?_
 refine WW ?_;have hsn:∀i,((bC ss i).map kM).length=ss.length:=λi=>by unfold bC;rw[yAe,wZ]
 have hin:∀i,(MV ss i).length=ss.length:=λi=>by unfold MV;rw[yAe,yB1]
 refine zO (ss.length) [1021,14,1,2,3] [1,2,3] [1,2,3,4,17] [18,1,2,3,4,17] Z (λi T U=>⟨(18,iA i)::T,(1021,.arr 4 ((bC ss i).map kM) false)::(14,.arr 2 (MV ss i) false)::U⟩) ?_;(conv=>whnf);refine⟨by(rw[hi0,hs0];rfl),?_,?_⟩
 ·intro i hi;have hys:((bC ss i).map kM)[i]? =some (kM (ss.getD i default)):=by rw[yAi];unfold bC;rw[uO,yAd hi,yAc (yEf i)];rfl
  have hyi:(MV ss i)[i]? =some (.agg [bA false,.s (.slice none 0 0)]):=bU _ _ _ _ hi;have e1:(bC ss (i+1)).map kM=((bC ss i).map kM).set i (kM (UE (ss.getD i default)).1):=by unfold bC;rw[qE _ _ _ _ hi]
  have e2:MV ss (i+1)=(MV ss i).set i (kL (UE (ss.getD i default)).2):=dD _ _ _ _ hi;have hI:=hs _ (zQ ss i hi);have kt:=zEt (ss.getD i default) hI.y (by have:=hI.n;omega);have h1:=hsn i;have h2:=hin i;rw[e1,e2];clear e1 e2 hi0 hs0 hI hs hTv k;generalize (bC ss i).map kM=X at *;generalize MV ss i=Y at *;generalize (UE (ss.getD i default)).1=s1 at *;generalize (UE (ss.getD i default)).2=n1 at *;generalize ss.getD i default=s0 at *;refine zV kt ?_;rfl
 ·rw[zM6];refine uM [1,2,3,1021] [1,2,3,4,17,18] Z ?_
  (conv=>whnf)
  have hbm:=zA kL (kC ss);simp only[yBf];rw[yAo (l:=(kC ss).map kL) zB];have hTm:=zA YO Td;refine yQ (wV k kf) ?_
  have hd0:QF Td 0=List.replicate Td.length (.s (.slice none 0 0)):=by
   unfold QF;apply yBj;intro j;rw[yAi,yCb];by_cases hj:j<Td.length
   ·rw[yBg hj,yAd hj];simp
   ·rw[yAc hj,yA1 wF];rfl
  have hdn:∀i,(QF Td i).length=Td.length:=λi=>by unfold QF;rw[yAe,yB1]
  rw[hTm];refine zO (Td.length) [50,1,2,3,8,1021] [1,2,3,8,1021] [1,2,3,8,56,57] [58,1,2,3,8,56,57] Z (λi T U=>⟨(58,iA i)::T,(50,.arr 1 (QF Td i) false)::U⟩) ?_;(conv=>whnf);refine⟨by(rw[hd0];rfl),?_,?_⟩
  ·intro i hi;have hyT:=zM YO Td i hi;have hyd:(QF Td i)[i]? =some (.s (.slice none 0 0)):=bU _ _ _ _ hi;have e1:QF Td (i+1)=(QF Td i).set i (zC yA (qN (Td.getD i default))):=dD _ _ _ _ hi;obtain⟨v1,v2⟩:=hTv _ (zQ Td i hi);have kg:=JO (Td.getD i default) v1 v2;have h2:=hdn i;rw[e1];unfold YO at hyT;clear e1 hd0 hdn hi0 hs0 hs hTv k v2 kf;generalize QF Td i=X at *;generalize qN (Td.getD i default)=bs at *;generalize Td.getD i default=ti at *;refine zV kg ?_;rfl
  ·(refine WW ?_)
   refine zH [1021] Z Z ?_ Z
   show AV.tup [_,AV.agg [AV.sl false (List.take Td.length (QF Td Td.length)),_]]=_
   rw[yAo (l:=QF Td Td.length) (yCf (hdn _)),zM7];rfl
end
def zGv (v:AV):(VH v).cells=v.cells.map VH:=by
 cases v with
 |agg cs=>show wkL cs=cs.map VH;exact zDi cs
 |s v=>
  show(VH (.s v)).cells=[VH (.s v)]
  unfold VH
  split<;>rfl
 |_=>rfl
theorem xH.wkl {w:World} {D:Nat->Prop} {nn:Bool} {xs:List AV} {c:Value} (hv:xH w D (.sl nn xs) c):xH w D (.sl nn (xs.map VH)) c:=by
 cases hv with
 |nil a cap=>exact .nil a cap
 |nil1 a cap=>exact .nil1 a cap
 | sl _ _ b o sz cap f hx hL hc h=>
  have hl:(xs.map VH).length=xs.length:=yAe ..
  have hk:∀(i:Nat) (x:AV),(xs.map VH)[i]? =some x->∃y,xs[i]? =some y/\x.cells=y.cells.map VH:=λi x hx=>by
   rw[yAi,yAq]at hx;obtain⟨y,hy,rfl⟩:=hx;exact⟨y,hy,zGv y⟩
  have hL':Lay w D (xs.map VH) b o sz f:=by
   refine⟨hL.lt,hL.nd,hL.pos,by rw[hl];exact hL.max,λi x hx=>?_,λi j hi hj=>hL.cell i j (by rw[hl]at hi;exact hi) hj,λi j hi hj=>hL.one i j (by rw[hl]at hi;exact hi) hj⟩;obtain⟨y,hy,he⟩:=hk i x hx;rw[he,yAe];exact hL.wide i y hy
  have:=xH.sl nn (xs.map VH) b o sz cap f (by simpa using hx) hL' (by rw[hl];exact hc) (λi x j v hi hj=>by
   obtain⟨y,hy,he⟩:=hk i x hi;rw[he,yAi,yAq]at hj;obtain⟨u,hu,rfl⟩:=hj
   exact(h i y j u hy hu).wk)
  rw[hl]at this;exact this
section
variable {P:Program} {K0:List Nat} {F:Fr K0} {m:Nat} {ops:Array Oper} {rest:List Oper} {fs:List FP} {tm:List (Nat×AV)} {h:List (Nat×xO)}
theorem wN.wkL {a:Act} {w:World} (R:wN F m ⟨tm,h⟩ a w) (t:Nat) {nn:Bool} {xs ys:List AV} (hv:zG tm t= .sl nn xs) (he:xs.map VH=ys):wN F m ⟨(t,.sl nn ys)::tm,h⟩ a w:=by
 obtain⟨⟨X,β,hX,H,Ht,KK,hJ,hD⟩,nd,gs,hl⟩:=R;refine⟨⟨X,β,hX,H,λj=>?_,KK,λi hi=>?_,hD⟩,nd,gs,hl⟩
 ·rw[yT];split
  ·rename_i hj;subst hj;have:=Ht j;dsimp only at this;rw[hv]at this
   cases this with
   |fz _ _ hf=>exact .fz _ _ (he▸hf.wkl)
  ·exact Ht j
 ·rw[yT]at hi;split at hi
  ·cases hi
  ·exact hJ i hi
def zY1 {Q:List FP->St->Prop} (t:Nat) {nn:Bool} {xs ys:List AV} (hv:zG tm t= .sl nn xs) (he:xs.map VH=ys) (hk:zZ P F m ops false rest ⟨(t,.sl nn ys)::tm,h⟩ fs Q):zZ P F m ops false rest ⟨tm,h⟩ fs Q:=
 ⟨λa w R=>hk.run a w (R.wkL t hv he)⟩
end
def zM9 (c:Cf) (hw:QP c.ags) (n:Nat) (hn:n<=c.ags.length):zN 77 [wD c,iA n] [] (iA (vM c.ags n)) []:=by
 have hl:=zA wK c.ags;have h4:=hw.1;have hb:=kQ hw;unfold wD;refine eM call77 λF hF=>?_
 refine WW ?_;refine zO (n) [] [] [1,9,10] [5,11,1,9,10] Z (λi T U=>⟨(5,iA (vM c.ags i))::(11,iA i)::T,U⟩) ?_;(conv=>whnf);refine⟨by rfl,?_,?_⟩
 ·intro i hi;have hy:=zM wK c.ags i zB;have h1:=hw.at (i:=i) zB;have h2:=hb i zB;rw[show vM c.ags (i+1)=vM c.ags i+(c.ags.getD i default).ses from Z];clear hb;generalize vM c.ags i=s at *;generalize c.ags.getD i default=a at *;refine WW ?_;rfl
 ·by_cases h9:n<c.ags.length
  ·have hy:=zM wK c.ags n h9;generalize c.ags.getD n default=a at *;refine WW ?_;exact zJ
  ·(refine WW ?_)
   exact zJ
def zSe:AV:= .agg [bA false,bA false,.s (.slice none 0 0),bA false]
def MW (ss:List Ss) (i:Nat):List AV:=(List.range ss.length).map λk=>if k<i then kM (ss.getD k default)else zSe
def zGw (ss:List Ss):MW ss 0=List.replicate ss.length zSe:=by
 unfold MW;apply yBj;intro j;rw[yAi,yCb];by_cases hj:j<ss.length
 ·rw[yBg hj,yAd hj];simp
 ·rw[yAc hj,yA1 wF];rfl
def zNa (ss:List Ss):MW ss ss.length=ss.map kM:=by
 unfold MW;rw[dE];apply yBj;intro j;rw[yAi,yAi];by_cases hj:j<ss.length
 ·rw[yBg hj,yAr hj];simp only[Option.map_some,yAk,yAr hj,yCh]
 ·rw[yA1 wF,yA1 zB];rfl
def UD (b:WI) (h:LF b):zN 78 [bB b] [] (UC b.y (.ref 1021 0 b.ss.length)) [(1021,.arr 4 (b.ss.map kM) false)]:=by
 obtain⟨y,ss⟩:=b;have hy:=h.y;have hs:=h.s;have hl:=h.l;dsimp only at *;have hw:=hy.v.ag;have hrf:=hy.rf
 have hsb:ss.length<=8:=by
  have:=kQ hw y.c.ags.length (yAg _);have:=hw.1;omega
 have eC:qA y= .agg [zC wC y.c.js,zC wK y.c.ags,iA y.c.per,iA y.c.cap,iA y.c.hold,iA y.c.lock,bA false,iA y.now,zC zL y.ds,zC vH y.sg,zC vD y.sv,zC iA y.st,zC vA y.vw]:=by rw[<-hrf];rfl
 have k1:=YL y hy.b;rw[eC]at k1;have hsl:=zA kM ss;unfold bB UC;dsimp only;refine eM call78 λF hF=>?_
 (repeat' (first|refine uP ?_|apply xM|apply xZ|intro hc|(refine zE ?_;first|(refine gP ?_;refine cW 1021 tok Z Z Z Z Z Z Z Z Z Z Z Z Z zB zB Z Z Z ?_))|fail))
 rw[hsl];have hn:∀i,(MW ss i).length=ss.length:=λi=>by unfold MW;rw[yAe,yB1]
 refine zO (ss.length) [1021,1,2] [1,2] [1,2,3,11,12] [13,1,2,3,11,12] Z (λi T U=>⟨(13,iA i)::T,(1021,.arr 4 (MW ss i) false)::U⟩) ?_;(conv=>whnf);refine⟨by(rw[zGw];rfl),?_,?_⟩
 ·intro i hi;have hy:=zM kM ss i hi;have hyc:(MW ss i)[i]? =some zSe:=bU _ _ _ _ hi;have e1:MW ss (i+1)=(MW ss i).set i (kM (ss.getD i default)):=dD _ _ _ _ hi;have hI:=hs _ (zQ ss i hi);have kx:=GH (ss.getD i default) (by have:=hI.n;omega);have h1:=hn i;rw[e1];clear e1 hs hI k1;unfold zSe at hyc;generalize MW ss i=X at *;generalize ss.getD i default=s at *;refine zV kx ?_;rfl
 ·rw[zNa];refine zV k1 ?_;exact zK [1021] Z Z Z Z
def qO (c:Cf):WI:=⟨YD c,List.replicate (vM c.ags c.ags.length).toNat ⟨false,false,[],false⟩⟩
def zY2 {α β:Type} [Inhabited α] [Inhabited β] (f:α->β) (l:List α) (k:Nat) (hk:k<l.length):(l.map f).getD k default=f (l.getD k default):=by
 rw[yAk,yAi,yAr hk,yAk,yAr hk];rfl
def zS8 (c:Cf) (h:FM c):CyI (YD c):=by
 have ha:=h.a;have hdl:(LX c c.ags.length).length=c.ags.length:=by simp[LX]
 have hmem:∀d∈LX c c.ags.length,∃k:Nat,k<c.ags.length/\d=WP (k:Int) (c.ags.getD k default) (c.ags.getD k default).ses.toNat:=λd hd=>by
  unfold LX at hd;obtain⟨k,hk,rfl⟩:=yBl.1 hd;exact⟨k,yA2.1 hk,rfl⟩
 refine⟨h,rfl,yCj _,hdl,λd hd=>?_,λa ha=>?_,λd hd=>?_,by simp[YD],by simp[YD],by simp[YD],by simp[YD],λw hw=>?_,λk hk=>?_⟩
 ·obtain⟨k,hk,rfl⟩:=hmem d hd;exact zMk (h.av _ (zQ c.ags k hk)) k zB
 ·have ha':a<c.ags.length:=by rw[<-hdl];exact ha
  show((LX c c.ags.length).getD a default).rg.ag=_
  unfold LX;rw[yAk,yAi,yBg ha'];rfl
 ·obtain⟨k,hk,rfl⟩:=hmem d hd;exact λr hr=>by cases hr
 ·unfold YD at hw;obtain⟨j,hj,rfl⟩:=yBl.1 hw;exact zSt j (h.jv j hj) _ _
 ·have hk':k<c.js.length:=hk;have J:=h.jv _ (zQ c.js k hk')
  show JI (c.js.getD k default) ((c.js.map fX).getD k default) ((c.js.map ME).getD k default) 0
  rw[zY2 fX c.js k hk',zY2 ME c.js k hk'];refine⟨zK9 J,by simp[ME,zQl],λe he=>?_,yCj _⟩;rw[(yEs.1 he).2]
  decide
def zEr (c:Cf) (h:FM c):LF (qO c):=by
 have hb:=kQ h.ag c.ags.length (yAg _);refine⟨zS8 c h,?_,λs hs=>?_⟩
 ·show((List.replicate _ _).length:Int)=_
  rw[yB2]
  show((vM c.ags c.ags.length).toNat:Int)=vM c.ags c.ags.length
  omega
 ·rw[(yEs.1 hs).2];exact⟨qY,yAt _⟩
def zEs (c:Cf) (h:FM c):zN 44 [wD c] [] (bB (qO c)) []:=by
 have k1:=zVi c h;have hrf:=(zS8 c h).rf;have hw:=h.ag;have k2:=zM9 c hw c.ags.length (yAg _);have hal:=zA wK c.ags;have hb:=kQ hw c.ags.length (yAg _);have h4:=hw.1;have eC:qA (YD c)= .agg [zC wC (YD c).c.js,zC wK (YD c).c.ags,iA (YD c).c.per,iA (YD c).c.cap,iA (YD c).c.hold,iA (YD c).c.lock,bA false,iA (YD c).now,zC zL (YD c).ds,zC vH (YD c).sg,zC vD (YD c).sv,zC iA (YD c).st,zC vA (YD c).vw]:=by rw[<-hrf];rfl
 rw[eC]at k1;obtain⟨N,hN⟩:∃N:Nat,vM c.ags c.ags.length=(N:Int):=⟨(vM c.ags c.ags.length).toNat,zB⟩;rw[hN]at k2 hb;rw[<-hal]at k2
 have eB:bB (qO c)= .agg [zC wC (YD c).c.js,zC wK (YD c).c.ags,iA (YD c).c.per,iA (YD c).c.cap,iA (YD c).c.hold,iA (YD c).c.lock,bA false,iA (YD c).now,zC zL (YD c).ds,zC vH (YD c).sg,zC vD (YD c).sv,zC iA (YD c).st,zC vA (YD c).vw,.sl false (List.replicate N (.agg [bA false,bA false,zC yA [],bA false]))]:=by
  unfold bB UC qO;dsimp only;rw[hN];unfold zC;rw[yD6];rfl
 rw[eB];generalize YD c=z at *;refine eM call44 λF hF=>?_
 (have zc1:=k1;have zc2:=k2;(repeat' (first|refine uP ?_|apply xM|apply xZ|intro hc|(refine zE ?_;first|(refine gP ?_;refine cW 1021 tok Z Z Z Z Z Z Z Z Z Z Z Z Z zB zB Z Z Z ?_;refine uN [1,2,3] [1,2,3,16] Z ?_;(conv=>whnf);(try simp only[yBf]);refine zY1 16 Z Z ?_))|fail))<;>clear zc1 zc2)
 refine zH [] Z Z ?_ Z
 show AV.agg [zC wC z.c.js,zC wK z.c.ags,iA z.c.per,iA z.c.cap,iA z.c.hold,iA z.c.lock,bA false,iA z.now,zC zL z.ds,zC vH z.sg,zC vD z.sv,zC iA z.st,zC vA z.vw,.sl false (List.map VH (List.take N (List.replicate N zSe)))]=_
 rw[yAo (by rw[yB2];exact yAg _),yD6];rfl
end Av
end Go.Proofs.YteajjdidebfcjaaGreat
