/- Part 23. -/
import Derived.Test.YteajjdidebfcjaaGreatV22
namespace Go.Proofs.YteajjdidebfcjaaGreat
namespace Av
open Tryz
set_option linter.all false
set_option maxRecDepth 4000
set_option maxHeartbeats 8000000
def zP4 {R:Nat->DR} {n:Nat} {x:Int} (h:x∈ST R n):∃a,a<n/\x∈(R a).ks:=by
 unfold ST at h;obtain⟨l,hl,hx⟩:=yBi.1 h;obtain⟨a,ha,rfl⟩:=zZn.1 hl;exact⟨a,zYs.1 ha,hx⟩
def zDq {R:Nat->DR} {n:Nat} {x:En} (h:x∈MH R n):∃a,a<n/\x∈(R a).en:=by
 unfold MH at h;obtain⟨l,hl,hx⟩:=yBi.1 h;obtain⟨a,ha,rfl⟩:=zZn.1 hl;exact⟨a,zYs.1 ha,hx⟩
def tdO (T:List (List Ms)) (f:Ms):AV:= .agg [.ref 1051 0 (T.map ZX).length,zD yF [f]]
def tdH (T:List (List Ms)):List (Nat×xN):=[(1051,.arr 1 (T.map ZX) true)]
theorem zP5 (y:Cy) (h:CyI y) (hn:y.now<1000000000) (ins:List In) (hil:(ins.length:Int)=qV y.c.ags y.c.ags.length) (R:Nat->DR) (hR:TkR y ins R) (hen:∀i,(R i).en.length<=2000) (hks:∀i,(R i).ks.length<=2000):
  zO 118 [qJ y,zD kX ins] [] (.tup [qJ (dB y R),tdO (GC y.c (GB (dB y R) ins R y.ds.length) y.c.ags.length) (LD (y.now+1) (dB y R).vw)]) (tdH (GC y.c (GB (dB y R) ins R y.ds.length) y.c.ags.length)):=by
 have hb:=h.b;have n0:=h.n0;have hw:=h.v.ag;have k1:=PU y hb;have hdl:=h.dl;have k2:=zFr y.c hw (y.now+1) zB zB y.ds h.dl (λi hi=>h.di _ (zX y.ds i hi)) ins hil R hen hks (λa ha=>(hR a ha).2) (y.sg.map vJ) (y.sv.map vI) (y.st.map iA) (y.sg.map vJ).length (y.sv.map vI).length (y.st.map iA).length y.vw;have hi9:=zA kX ins;have hmin:min y.now 1073741823+1=y.now+1:=by omega
 have hrf:=h.rf;have eC:qJ y= .agg [zD vC y.c.js,zD vU y.c.ags,iA y.c.per,iA y.c.cap,iA y.c.hold,iA y.c.lock,bA false,iA y.now,zD zK y.ds,zD vJ y.sg,zD vI y.sv,zD iA y.st,zD vW y.vw]:=by rw[<-hrf];rfl
 unfold zGg zGh XK at k1;rw[eC,hrf]at k1;unfold XK at k2;rw[eC];refine eM call118 λF hF=>?_
 refine zY k1 ?_;rw[hmin];refine zY k2 ?_;refine uS [2,3,4,5,6,7,1012,1013,1014] [2,3,4,5,6,7,34,35,36] Z ?_
 (conv=>whnf)
 have hds:(y.ds.map zK).length=((SP (y.now+1) y.ds R y.ds.length).map zK).length:=by rw[zX5,zX5,dS]
 have hgl:=zA vJ y.sg;have hvl:=zA vI y.sv;have htl:=zA iA y.st;have hgl2:=h.gl;have hvl2:=h.sl;have htl2:=h.tl;simp only[zYq];rw[hds,zX6,hgl,hvl,htl,hgl2,hvl2,htl2];clear k1 k2
 have hkx:∀x∈ST R y.ds.length,0<=x/\x<(y.c.js.length:Int):=λx hx=>by
  obtain⟨a,ha,hx⟩:=zP4 hx;exact(hR a ha).1.ks x hx
 have hkl:=HZ hks y.ds.length;have hags:=h.v.a;have hks9:(ST R y.ds.length).length<=10000:=by omega
 have hjl:=zA vC y.c.js;have hkm:=zA iA (ST R y.ds.length);have eY:dB y R=⟨y.c,false,y.now+1,SP (y.now+1) y.ds R y.ds.length,MI (BF y R) (NY y.c y.sg (ST R y.ds.length)) y.c.js.length,MJ (BF y R) y.sv y.c.js.length,GA y.st y.c.js.length,BE y.c.js (BF y R) y.c.js.length⟩:=rfl;refine yT ((ST R y.ds.length)) [1012,2,3,4,5,6,7,1013,1014] [2,3,4,5,6,7,1013,1014] [2,3,4,5,6,7,34,35,86] [36,2,3,4,5,6,7,34,35,86] Z (λi pre T U=>⟨(36,iA i)::T,(1012,.arr 5 ((NY y.c y.sg pre).map vJ) false)::U⟩) ?_;(conv=>whnf);refine⟨by rfl,?_,?_⟩
 ·intro i pre x post hx hi;have hy:=xQ iA hx hi;have hlt:=yW hx hi;have hxb:=hkx x (vF hx);obtain⟨g1,g2⟩:=zDv h.v (sv:=y.sv) (now:=y.now) pre y.sg h.gl h.j;have J:=h.v.jv _ (zX y.c.js x.toNat zB);have C:=(g2 x.toNat zB).c;have hJ:=J.n;have hC:=C.n;have hM:=C.m;have kr:=zGq (y.c.js.getD x.toNat default) J ((NY y.c y.sg pre).getD x.toNat default) zB zB;have hyj:=yN vC y.c.js x hxb.1 hxb.2;have hyg:=yN vJ (NY y.c y.sg pre) x hxb.1 zB;have hgl3:=zA vJ (NY y.c y.sg pre);rw[zL8,zZ8];clear hx hkx eY hR J C g2;generalize (NY y.c y.sg pre).getD x.toNat default=s at *;generalize y.c.js.getD x.toNat default=j at *;generalize NY y.c y.sg pre=X at *;generalize X.map vJ=Y at *;refine zY kr ?_;rfl
 ·obtain⟨g1,g2⟩:=zDv h.v (sv:=y.sv) (now:=y.now) (ST R y.ds.length) y.sg h.gl h.j
  have kst:=zL7 y.c h.v (y.now+1) zB zB (SP (y.now+1) y.ds R y.ds.length) (by rw[dS];omega) (λd hd=>by
    obtain⟨a,ha,rfl⟩:=SD hd
    exact(hR a ha).1.i) (λd hd=>by
    obtain⟨a,ha,rfl⟩:=SD hd;refine(hR a ha).1.sc ?_
    exact GD.of zB ((h.sc _ (zX y.ds a ha)).mono zB) (zL9 _ _)) (NY y.c y.sg (ST R y.ds.length)) y.sv y.st y.vw g1 h.sl h.tl (λk hk=>by
    have H:=g2 k hk
    exact⟨H.c,H.n,λe he=>by have:=H.e e he;omega,H.g⟩)
  have l1:((NY y.c y.sg (ST R y.ds.length)).map vJ).length=y.c.js.length:=by rw[zX5];exact g1
  have l2:(y.sv.map vI).length=y.c.js.length:=by rw[zX5];exact h.sl
  have l3:(y.st.map iA).length=y.c.js.length:=by rw[zX5];exact h.tl
  have l4:((MI (BF y R) (NY y.c y.sg (ST R y.ds.length)) y.c.js.length).map vJ).length=y.c.js.length:=by unfold MI;rw[zX5,vE];exact g1
  have l5:((MJ (BF y R) y.sv y.c.js.length).map vI).length=y.c.js.length:=by unfold MJ;rw[zX5,vE];exact h.sl
  have l6:((GA y.st y.c.js.length).map iA).length=y.c.js.length:=by unfold GA;rw[zX5,vE];exact h.tl
  have l7:((BE y.c.js (BF y R) y.c.js.length).map vW).length=y.c.js.length:=by simp[BE]
  have hal:=zA vU y.c.ags;unfold stH at kst;rw[show YR y.c (NY y.c y.sg (ST R y.ds.length)) y.sv y.st (SP (y.now+1) y.ds R y.ds.length) (y.now+1)=BF y R from Z,zQb,l1,l2,l3,l4,l5,l6]at kst;have eT:qJ (dB y R)= .agg [zD vC y.c.js,zD vU y.c.ags,iA y.c.per,iA y.c.cap,iA y.c.hold,iA y.c.lock,bA false,iA (y.now+1),zD zK (dB y R).ds,zD vJ (dB y R).sg,zD vI (dB y R).sv,zD iA (dB y R).st,zD vW (dB y R).vw]:=rfl;have d1:SP (y.now+1) y.ds R y.ds.length=(dB y R).ds:=rfl;have d2:MI (BF y R) (NY y.c y.sg (ST R y.ds.length)) y.c.js.length=(dB y R).sg:=rfl;have d3:MJ (BF y R) y.sv y.c.js.length=(dB y R).sv:=rfl;have d4:GA y.st y.c.js.length=(dB y R).st:=rfl;have d5:BE y.c.js (BF y R) y.c.js.length=(dB y R).vw:=rfl;rw[d2]at kst l4;rw[d3]at kst l5;rw[d4]at kst l6;rw[d5]at kst l7;rw[d1]at kst⊢;refine zY kst ?_;refine uS [2,3,4,5,6,7,11] [2,3,4,5,6,7,11,78,79] Z ?_
  (conv=>whnf)
  simp only[zYq];rw[zYe (l:=(dB y R).sg.map vJ) (zZ5 l4),zYe (l:=(dB y R).sv.map vI) (zZ5 l5),zYe (l:=(dB y R).st.map iA) (zZ5 l6),zYe (l:=(dB y R).vw.map vW) (zZ5 l7),hal];have hZ:=zRe h hR;have zc:(dB y R).c=y.c:=rfl;have zn:(dB y R).now=y.now+1:=rfl;have zd:(dB y R).ds.length=y.ds.length:=dS ..;have zR:∀a,a<y.ds.length->(dB y R).ds.getD a default=(R a).d:=λa ha=>ZC ha
  have hzl:=zA zK (dB y R).ds;have eA:∀T f,tdO T f= .agg [.ref 1051 0 (T.map ZX).length,zD yF [f]]:=λ_ _=>rfl
  have eH:∀T,tdH T=[(1051,.arr 1 (T.map ZX) true)]:=λ_=>rfl
  rw[eT,eA,eH];clear d1 d2 d3 d4 d5 kst l1 l2 l3 l4 l5 l6 l7 g1 g2 hkx eY hds;refine uY 11 0 1051 1 Z Z Z Z Z ?_
  have hTf:∀a k,GB (dB y R) ins R y.ds.length a k=if(ins.getD ((qV y.c.ags a).toNat+k) default).opn=true then tlF ((dB y R).ds.getD a default) (dB y R).vw (dB y R).now k (R a).R (MH R y.ds.length)else []:=λ_ _=>rfl
  generalize GB (dB y R) ins R y.ds.length=tf at *;generalize dB y R=z at *;refine zS (y.c.ags.length) [11,1051,2,3,4,5,6,7] [2,3,4,5,6,7] [2,3,4,5,6,7,11,78,86] [79,2,3,4,5,6,7,11,78,86] Z (λi T U=>⟨(79,iA i)::T,(11,.box [.ref 1051 0 ((GC y.c tf i).map ZX).length,.s (.slice none 0 0)])::(1051,.arr 1 ((GC y.c tf i).map ZX) true)::U⟩) ?_;(conv=>whnf);refine⟨by rfl,?_,?_⟩
  ·intro i hi;have hid:i<y.ds.length:=by omega
   have ks:=zB1 y.c i;have ht:=zGl y.c hw i hi;obtain⟨bs,hbs⟩:∃bs:Nat,qV y.c.ags i=(bs:Int):=⟨(qV y.c.ags i).toNat,by have:=eG hw i zB;omega⟩;obtain⟨N,hN⟩:∃N:Nat,(y.c.ags.getD i default).ses=(N:Int):=⟨(y.c.ags.getD i default).ses.toNat,by have:=hw.at (i:=i) zB;omega⟩
   have hbd:bs+N<=ins.length:=by
    have:=TZ hw (show i+1<=y.c.ags.length by omega) (zX7 _);have h2:qV y.c.ags (i+1)=qV y.c.ags i+(y.c.ags.getD i default).ses:=rfl;omega
   have hN2:=hw.at (i:=i) zB;have hL:JC y.c i=(List.range N).map λk=>[plA i k (bs+k)]:=by unfold JC;rw[hbs,hN];rfl
   have htd:=SE hw tf i zB;have hsb:=eG hw i zB;rw[NZ,show(y.c.ags.getD i default).ses.toNat=N by omega]
   have hy6:(List.map (λk=>rpA (R k)) (List.range y.ds.length))[i]? =some (.sl false ((R i).R.map ZX)):=by
    rw[zX8,zY5 hid];rfl
   have hDt:=(hR i hid).1;have hI:=hZ.di _ (zX z.ds i zB);have hzi:=zR i hid
   have hau:(R i).d.au.length=N:=by
    have:=hDt.i.au;rw[hDt.ag]at this;have e9:=h.dg i hid;rw[show(MC (y.ds.getD i default) (y.now+1)).rg.ag=(y.ds.getD i default).rg.ag from Z,e9]at this;omega
   have hau2:(MC (y.ds.getD i default) (y.now+1)).au.length=N:=by
    have:=(h.di _ (zX y.ds i hid)).au;rw[h.dg i hid]at this
    show(y.ds.getD i default).au.length=N
    omega
   have hRl:=hDt.rn;rw[hau2]at hRl;have hRv:=hDt.rv
   have hEn:∀e∈MH R y.ds.length,EnK e:=λe he=>by
    obtain⟨a,ha,he⟩:=zDq he;exact(hR a ha).1.en e he
   have hEl:=HY hen y.ds.length;have hq9:=hI.a.q;have kt:=λk (hk:k<N)=>zP7 z hZ.n0 zB i k (bs+k) zB hI.bd hq9 (by have:=hZ.wl;have:=hZ.v.j;omega) hZ.wb (by rw[hzi];omega) (R i).R hRv zB (MH R y.ds.length) hEn zB
   have hTf':∀k,k<N->tf i k=if(ins.getD (bs+k) default).opn=true then tlF (z.ds.getD i default) z.vw z.now k (R i).R (MH R y.ds.length)else []:=λk hk=>by
    rw[hTf i k,hbs];rfl
   clear hTf hEn hRv hR hDt hI zR;have eZ:qJ z= .agg [zD vC y.c.js,zD vU y.c.ags,iA y.c.per,iA y.c.cap,iA y.c.hold,iA y.c.lock,bA false,iA (y.now+1),zD zK z.ds,zD vJ z.sg,zD vI z.sv,zD iA z.st,zD vW z.vw]:=eT;rw[eZ]at kt;rw[show zD ZX (R i).R= .sl false ((R i).R.map ZX)from Z]at kt;generalize (R i).R.map ZX=Rm at *;rw[zYd];have hxl:=zA ZX (GC y.c tf i);generalize (GC y.c tf i).map ZX=X at *;unfold zD9 at ks ht;unfold vL at ks;refine zY ks ?_
   refine vM hF ht Z [2,3,4,5,6,7,11,12,1051] [2,3,4,5,6,7,11,12,78,79] Z Z Z Z Z Z Z Z Z (λk ys h=>?_) (λk=>[(2,.box [zD vC y.c.js,zD vU y.c.ags,iA y.c.per,iA y.c.cap,iA y.c.hold,iA y.c.lock,bA false,iA (y.now+1),zD zK z.ds,zD vJ z.sg,zD vI z.sv,zD iA z.st,zD vW z.vw]),(3,.box [zD kX ins]),(4,.box [.s (.slice none 0 0),.s (.slice none 0 0),iA 0,iA 0,iA 0,iA 0,bA false,iA 0,.s (.slice none 0 0),.s (.slice none 0 0),.s (.slice none 0 0),.s (.slice none 0 0),.s (.slice none 0 0)]),(5,.box [.s (.slice none 0 0),.s (.slice none 0 0)]),(6,.box [.sl false (List.map (λk=>rpA (R k)) (List.range y.ds.length))]),(7,.box [zD gX (MH R y.ds.length)]),(11,.box [.ref 1051 0 (X++(BT tf i k).map ZX).length,.s (.slice none 0 0)]),(12,.box [iA i]),(1051,.arr 1 (X++(BT tf i k).map ZX) true)]) (λ_=>True)
    (T:=[(2,.ptr 2 0 0),(3,.ptr 3 0 0),(4,.ptr 4 0 0),(5,.ptr 5 0 0),(6,.ptr 6 0 0),(7,.ptr 7 0 0),(11,.ptr 11 0 0),(12,.ptr 12 0 0),(78,iA y.c.ags.length),(79,iA i)]) (by rw[show(BT tf i 0).map ZX=[]from Z,zY4];rfl) trivial (λk ys q hys hI9 F1 h1 h2=>?_) (λhI9=>?_)
   ·rw[hL,zX8,zYf]at h;obtain⟨x,_,rfl⟩:=h;rfl
   ·have hk:k<N:=by
     have:=(zYu.1 hys).1;rw[hL,zX5,zZr]at this;exact this
    rw[hL,zX8,zY5 hk]at hys;obtain rfl:=yAh hys;have hyi:=zM kX ins (bs+k) zB;have hol:((BT tf i k).map ZX).length=k:=by unfold BT;rw[zX5,zX5,zZr]
    have kt:=kt k hk;rw[zMa,zYd,show [tf i k].map ZX=[zD yF (tf i k)]from Z,hTf' k hk,<-zYw];generalize (BT tf i k).map ZX=O at *;generalize ins.getD (bs+k) default=x at *;generalize tlF (z.ds.getD i default) z.vw z.now k (R i).R (MH R y.ds.length)=tl at *;unfold kX at hyi;obtain⟨xo,xs⟩:=x;refine WW ?_;refine⟨rfl,λF2 g1 g2=>?_⟩;dsimp only at hyi⊢;cases xo
    ·rw[zX2 zYp]
     (repeat' (first|refine MF ?_|apply xL|apply wB|intro hc|(refine zE ?_;first|(refine xR ?_;refine DA 117 Z Z Z ?_;refine bV tok Z Z ?_))|refine SB ?_|fail))
     exact⟨rfl,trivial⟩
    ·rw[zX3 Z]
     (have zc1:=kt;(repeat' (first|refine MF ?_|apply xL|apply wB|intro hc|(refine zE ?_;first|(refine xR ?_;refine DA 117 Z Z Z ?_;refine bV tok Z Z ?_))|refine SB ?_|fail))<;>clear zc1)
     exact⟨rfl,trivial⟩
   ·rw[show(JC y.c i).length=N by rw[hL,zX5,zZr]]
    show uQ _ _ _ _ ⟨_,_⟩ _
    refine WW ?_;rfl
  ·have hwl:z.vw.length<=4:=by have:=hZ.wl;have:=hZ.v.j;omega
   have kf:=zUy (y.now+1) z.vw zB hZ.wb;have kv:=BB [LD (y.now+1) z.vw] zW (λm hm=>by rw[zZd.1 hm];exact zW1 z.vw (y.now+1) zB zB hwl hZ.wb);rw[show zD yF [LD (y.now+1) z.vw]= .sl false [yF (LD (y.now+1) z.vw)]from Z]at *; generalize LD (y.now+1) z.vw=fm at *;have hxl:=zA ZX (GC y.c tf y.c.ags.length);generalize (GC y.c tf y.c.ags.length).map ZX=X at *;refine zY kf ?_
   (refine vP 158 ?_;refine wJ [2,4,5,11,1051] [2,4,5,11,127] Z ?_;(conv=>whnf);(try simp only[zYq,zX6]);first|refine zP (zH (kv) Z Z Z Z Z) Z ?_|refine qE (zH (kv) Z Z Z Z Z) Z Z Z ?_|refine ZJ (zH (kv) Z Z Z Z Z) Z Z Z ?_)
   refine WW ?_;exact zI [1051] Z Z Z Z
def zUu {y y':Cy} {ins:List In} {T:List (List Ms)} {f:Ms} (k:zO 118 [qJ y,zD kX ins] [] (.tup [qJ y',tdO T f]) (tdH T)):zO 118 [qJ y,zD kX ins] [] (.tup [qJ y',tdA T f]) []:=by
 refine k.frz [] ?_ Z Z
 show AV.tup [_,AV.agg [AV.sl false (List.take (T.map ZX).length (T.map ZX)),_]]=_
 rw[zX6];rfl
structure MtP (y y':Cy) (ins:List In) (T:List (List Ms)):Prop where
 i:CyI y'
 c:y'.c=y.c
 n:y'.now=y.now+1
 l:T.length=ins.length
 v:∀x∈T,x.length<=1002/\∀m∈x,RT m
 f:RT (LD (y.now+1) y'.vw)
 off:∀s,s<ins.length->(ins.getD s default).opn=false->T.getD s []=[]
 on:∀s,s<ins.length->(ins.getD s default).opn=true->∃(l1 l2:List Ms) (d:xI),T.getD s []=l1++(cD d y'.vw (y.now+1)::l2)/\l1.length=(ins.getD s default).its.length/\RT (cD d y'.vw (y.now+1))
 tk:TkR y ins (dtR y ins)/\y'=dB y (dtR y ins)/\T=GC y.c (GB y' ins (dtR y ins) y.ds.length) y.c.ags.length
theorem zLo (y:Cy) (h:CyI y) (hn:y.now<1000000000) (ins:List In) (hil:(ins.length:Int)=qV y.c.ags y.c.ags.length) (hin:∀i∈ins,InS i):
  ∃(y':Cy) (T:List (List Ms)),MtP y y' ins T/\zO 118 [qJ y,zD kX ins] [] (.tup [qJ y',tdO T (LD (y.now+1) y'.vw)]) (tdH T):=by
 have hR:=zW3 h hn hil hin;have k:=zP5 y h hn ins hil (dtR y ins) hR (λi=>(GZ ..).1) (λi=>(GZ ..).2);obtain⟨R,eR⟩:∃R,R=dtR y ins:=⟨_,rfl⟩;rw[<-eR]at hR k;have hZ:=zRe h hR;have n0:=h.n0;have hw:=h.v.ag;have hdl:=h.dl;have hl:=SE hw (GB (dB y R) ins R y.ds.length) _ (zX7 _);have hwl:(dB y R).vw.length<=4:=by have:=hZ.wl;have:=hZ.v.j;omega
 have hEn:∀e∈MH R y.ds.length,EnK e:=λe he=>by
  obtain⟨a,ha,he⟩:=zDq he;exact(hR a ha).1.en e he
 refine⟨dB y R,GC y.c (GB (dB y R) ins R y.ds.length) y.c.ags.length,⟨hZ,rfl,rfl,zB,λx hx=>?_,zW1 _ _ zB zB hwl hZ.wb,λs hs ho=>?_,λs hs ho=>?_,eR▸⟨hR,rfl,rfl⟩⟩,k⟩
 ·obtain⟨s,hs,e⟩:=yBy.1 hx;obtain⟨a,k,h1,h2,h3,h4⟩:=SF hw (GB (dB y R) ins R y.ds.length) _ (zX7 _) s hs;have e2:x=GB (dB y R) ins R y.ds.length a k:=by rw[<-h4,zYc,zYk hs,<-e];rfl
  rw[e2];unfold GB;split
  ·have hid:a<y.ds.length:=by omega
   have hDt:=(hR a hid).1
   have hau2:((MC (y.ds.getD a default) (y.now+1)).au.length:Int)=(y.c.ags.getD a default).ses:=by
    have:=(h.di _ (zX y.ds a hid)).au;rw[h.dg a hid]at this;exact this
   have hRl:=hDt.rn;have hq:=hDt.i.a.q;have hzi:(dB y R).ds.getD a default=(R a).d:=ZC hid;rw[hzi];exact zRd _ hq _ _ (by show 0<=y.now+1;omega) (by show y.now+1<=_;omega) hwl hZ.wb k (R a).R hDt.rv zB _ hEn
  ·exact⟨zYl _,λm hm=>by cases hm⟩
 ·obtain⟨a,k,h1,h2,h3,h4⟩:=SF hw (GB (dB y R) ins R y.ds.length) _ (zX7 _) s zB;rw[h4];unfold GB;rw[show(qV (dB y R).c.ags a).toNat+k=s from h3.symm,ho,zX2 zYp]
 ·obtain⟨a,k,h1,h2,h3,h4⟩:=SF hw (GB (dB y R) ins R y.ds.length) _ (zX7 _) s zB;have hid:a<y.ds.length:=by omega
  have hDt:=(hR a hid).1
  have hau2:((MC (y.ds.getD a default) (y.now+1)).au.length:Int)=(y.c.ags.getD a default).ses:=by
   have:=(h.di _ (zX y.ds a hid)).au;rw[h.dg a hid]at this;exact this
  have hq:=hDt.i.a.q;have hzi:(dB y R).ds.getD a default=(R a).d:=ZC hid;have hrl:=hDt.rl k zB;have hol:(owI y.c ins a).length=(y.c.ags.getD a default).ses.toNat:=by unfold owI BS;rw[zX5,zZr]
  have hog:(owI y.c ins a).getD k default=ins.getD s default:=by
   unfold owI BS;rw[zYc,zX8,zY5 zB,h3];rfl
  have hsi:cS (owI y.c ins a) k=(ins.getD s default).its:=by
   unfold cS;rw[hog,zX3 ⟨zB,ho⟩]
  rw[hsi]at hrl;refine⟨(R a).R.getD k [],(if((dB y R).ds.getD a default).au.getD k default=true then [trM (dB y R).now (MH R y.ds.length)]else []),(dB y R).ds.getD a default,?_,hrl,?_⟩
  ·rw[h4];unfold GB;rw[show(qV (dB y R).c.ags a).toNat+k=s from h3.symm,ho,zX3 Z];unfold tlF;rw[zYw];rfl
  ·rw[hzi];exact zLx _ hq _ _ zB zB hwl hZ.wb
def BA (y:Cy) (j p:Int):Cy:=if(0<=j/\j<(y.c.js.length:Int))/\0<=p/\p<((y.c.js.getD j.toNat default).ph.length:Int)then⟨y.c,false,y.now,y.ds,y.sg,y.sv,y.st.set j.toNat p,y.vw⟩else y
def zFo (y:Cy) (h:CyI y) (j p:Int):∃y':Cy,CyI y'/\y'=BA y j p/\zO 83 [qJ y,iA j,iA p] [] (qJ y') []:=by
 have hb:=h.b;have hrf:=h.rf;have hjl:=zA vC y.c.js;have htl:=zA iA y.st;have htl2:=h.tl;have eC:qJ y= .agg [zD vC y.c.js,zD vU y.c.ags,iA y.c.per,iA y.c.cap,iA y.c.hold,iA y.c.lock,bA false,iA y.now,zD zK y.ds,zD vJ y.sg,zD vI y.sv,zD iA y.st,zD vW y.vw]:=by rw[<-hrf];rfl
 by_cases hj:0<=j/\j<(y.c.js.length:Int)
 case neg=>
  refine⟨y,h,by unfold BA;rw[zX2 (λh=>hj h.1)],?_⟩;have k1:=ZS y hb;rw[eC]at k1⊢;by_cases h0:j<0
  ·(refine eM call83 λF hF=>?_)
   refine zY k1 ?_;exact zJ
  ·(refine eM call83 λF hF=>?_)
   refine zY k1 ?_;exact zJ
 obtain⟨j0,j1⟩:=hj;have hyj:=yN vC y.c.js j j0 j1;have hpl:=zA vK (y.c.js.getD j.toNat default).ph;by_cases hp:0<=p/\p<((y.c.js.getD j.toNat default).ph.length:Int)
 case neg=>
  refine⟨y,h,by unfold BA;rw[zX2 (λh=>hp h.2)],?_⟩;have k1:=ZS y hb;rw[eC]at k1⊢;generalize y.c.js.getD j.toNat default=jn at *;unfold vC at hyj;by_cases h0:p<0
  ·(refine eM call83 λF hF=>?_)
   refine zY k1 ?_;exact zJ
  ·(refine eM call83 λF hF=>?_)
   refine zY k1 ?_;exact zJ
 obtain⟨p0,p1⟩:=hp;refine⟨⟨y.c,false,y.now,y.ds,y.sg,y.sv,y.st.set j.toNat p,y.vw⟩,⟨h.v,rfl,h.n0,h.dl,h.di,h.dg,h.sc,h.gl,h.sl,by dsimp only;rw[zZx];exact h.tl,h.wl,h.wb,h.j⟩,by unfold BA;rw[zX3 ⟨⟨j0,j1⟩,p0,p1⟩],?_⟩;have k1:=PU y hb;unfold zGg zGh XK at k1;rw[eC,hrf]at k1;rw[eC];have e2:(y.st.set j.toNat p).map iA=(y.st.map iA).set j.toNat (iA p):=zZ8 ..;rw[show qJ ⟨y.c,false,y.now,y.ds,y.sg,y.sv,y.st.set j.toNat p,y.vw⟩= .agg [zD vC y.c.js,zD vU y.c.ags,iA y.c.per,iA y.c.cap,iA y.c.hold,iA y.c.lock,bA false,iA y.now,zD zK y.ds,zD vJ y.sg,zD vI y.sv,.sl false ((y.st.map iA).set j.toNat (iA p)),zD vW y.vw] by rw[<-e2];rfl];clear e2;have hyt:=yN iA y.st j j0 zB;generalize y.c.js.getD j.toNat default=jn at *;unfold vC at hyj;refine eM call83 λF hF=>?_
 refine zY k1 ?_;refine zI [] Z Z ?_ Z
 show AV.agg [_,_,_,_,_,_,_,_,.sl false (List.take (y.ds.map zK).length (y.ds.map zK)),.sl false (List.take (y.sg.map vJ).length (y.sg.map vJ)),.sl false (List.take (y.sv.map vI).length (y.sv.map vI)),.sl false (List.take (y.st.map iA).length ((y.st.map iA).set j.toNat (iA p))),_]=_
 rw[zX6,zX6,zX6,zYe (by rw[zZx];exact zX7 _)];rfl
section
open Classical in
noncomputable def bsM (m:Ms):List Int:=if h:RT m then YB m.kind (JE h.2).choose else []
def zDr (m:Ms) (h:RT m):((bsM m).length<=300/\(m.args≠[]->∃q:List Int,bsM m=90::165::1::m.kind::q/\7<=q.length))/\zO 97 [yF m] [] (.tup [zD yA (bsM m),iA 0]) []:=by
 have hs:=(JE h.2).choose_spec;have e:bsM m=YB m.kind (JE h.2).choose:=by unfold bsM;rw[dif_pos h]
 rw[e];generalize (JE h.2).choose=p at *;obtain⟨h1,h2,h3⟩:=hs;obtain⟨k,tk,ar,da⟩:=m;obtain⟨h4,h5⟩:=h;dsimp only at *;subst h4;refine⟨⟨?_,λh9=>?_⟩,h3⟩
 ·simp only[YB,GK,zYh,zX4,zX5,zZr];have:(aI k p.length).length<=10:=by unfold aI;simp
  have:=h2.1;omega
 ·refine⟨0::(p.length:Int)::(p++GK (eK (aI k p.length++p))),by simp[YB,aI],?_⟩;have h8:=h2.2 h9;simp only[GK,zYh,zX4,zX5,zZr];omega
noncomputable def TY (l:List Ms):List Int:=(l.map bsM).flatten
def zLp (l:List Ms) (m:Ms):TY (l++[m])=TY l++bsM m:=by simp[TY]
theorem zDs:∀{l:List Ms},(∀m∈l,RT m)->(TY l).length<=300*l.length
 | [],_=>zYl _
 |m::l,h=>by
  have h1:=(zDr m (h m zW)).1.1;have h2:=zDs (l:=l) λx hx=>h x OU
  have e:TY (m::l)=bsM m++TY l:=rfl;rw[e,zX4,zYh];omega
def KO (l:List Ms) (hl:l.length<=1002) (h:∀m∈l,RT m):zO 119 [zD yF l] [] (zD yA (TY l)) []:=by
 have hml:=zA yF l;refine eM call119 λF hF=>?_
 refine WW ?_;refine xA 3 1001 1 Z Z Z ?_;refine yT (l) [1001] [] [8,9] [3,10,8,9] Z (λi pre T U=>⟨(3,.ref 1001 0 ((TY pre).map yA).length)::(10,iA i)::T,(1001,.arr 1 ((TY pre).map yA) true)::U⟩) ?_;(conv=>whnf);refine⟨by rfl,?_,?_⟩
 ·intro i pre x post hx hi;have hy:=xQ yF hx hi;have hlt:=yW hx hi;obtain⟨⟨c1,_⟩,c2⟩:=zDr x (h x (vF hx));have hpl:=zDs (l:=pre) λm hm=>h m (by rw[hx];simp[hm])
  have hpm:=zA yA (TY pre);have hbm:=zA yA (bsM x);rw[zLp,zYd];clear hx;generalize TY pre=X at *;generalize bsM x=Y at *;unfold yF at *;refine zY c2 ?_;rfl
 ·(refine WW ?_)
  exact zI [] Z Z (zY3 (AV.sl false) zX6) Z
structure SO where
 y:Cy
 ss:List Ss
def RR (y:Cy) (s:AV):AV:= .agg [zD vC y.c.js,zD vU y.c.ags,iA y.c.per,iA y.c.cap,iA y.c.hold,iA y.c.lock,bA false,iA y.now,zD zK y.ds,zD vJ y.sg,zD vI y.sv,zD iA y.st,zD vW y.vw,s]
def ZB (b:SO):AV:=RR b.y (zD jB b.ss)
structure GQ (b:SO):Prop where
 y:CyI b.y
 l:(b.ss.length:Int)=qV b.y.c.ags b.y.c.ags.length
 s:∀s∈b.ss,SsI s
def sdA (S:List (List Int)) (f:List Int):AV:= .agg [zD (zD yA) S,zD yA f]
def kP (ss:List Ss):List In:=ss.map λs=>(VV s).2
def NW (ss:List Ss) (i:Nat):List AV:=(List.range ss.length).map λk=>if k<i then kX (VV (ss.getD k default)).2 else .agg [bA false,.s (.slice none 0 0)]
def bO (ss:List Ss) (i:Nat):List Ss:=YY (λ_ s=>(VV s).1) ss i
noncomputable def RS (T:List (List Ms)) (i:Nat):List AV:=(List.range T.length).map λk=>if k<i then zD yA (TY (T.getD k default))else .s (.slice none 0 0)
def zLq (ss:List Ss):NW ss ss.length=(kP ss).map kX:=by
 unfold NW kP;rw[dY,yCl];apply zZf;intro j;rw[zX8,zX8];by_cases hj:j<ss.length
 ·rw[zY5 hj,zYk hj];simp only[Option.map_some,Function.comp,zYc,zYk hj,yAg]
 ·rw[zYx xX,zYx zB];rfl
def zLr (T:List (List Ms)):RS T T.length=(T.map TY).map (zD yA):=by
 unfold RS;rw[dY,yCl];apply zZf;intro j;rw[zX8,zX8];by_cases hj:j<T.length
 ·rw[zY5 hj,zYk hj];simp only[Option.map_some,Function.comp,zYc,zYk hj,yAg]
 ·rw[zYx xX,zYx zB];rfl
theorem zLs (b:SO) (h:GQ b) (y':Cy) (Td:List (List Ms)) (hM:MtP b.y y' (kP b.ss) Td) (k:zO 118 [qJ b.y,zD kX (kP b.ss)] [] (.tup [qJ y',tdA Td (LD (b.y.now+1) y'.vw)]) []):
  zO 84 [RR b.y (.ref 1021 0 b.ss.length)] [(1021,.arr 4 (b.ss.map jB) false)] (.tup [RR y' (.ref 1021 0 b.ss.length),sdA (Td.map TY) (TY [LD (b.y.now+1) y'.vw])]) [(1021,.arr 4 ((bO b.ss b.ss.length).map jB) false)]:=by
 obtain⟨y,ss⟩:=b;have hy:=h.y;have hs:=h.s;have hl:=h.l;dsimp only at *;have hw:=hy.v.ag;have hrf:=hy.rf
 have hsb:ss.length<=8:=by
  have:=eG hw y.c.ags.length (zX7 _);have:=hw.1;omega
 have hrf':=hM.i.rf;have hTl:=hM.l;have hil:(kP ss).length=ss.length:=by unfold kP;rw[zX5]
 rw[hil]at hTl;have eC:qJ y= .agg [zD vC y.c.js,zD vU y.c.ags,iA y.c.per,iA y.c.cap,iA y.c.hold,iA y.c.lock,bA false,iA y.now,zD zK y.ds,zD vJ y.sg,zD vI y.sv,zD iA y.st,zD vW y.vw]:=by rw[<-hrf];rfl
 have eC':qJ y'= .agg [zD vC y'.c.js,zD vU y'.c.ags,iA y'.c.per,iA y'.c.cap,iA y'.c.hold,iA y'.c.lock,bA false,iA y'.now,zD zK y'.ds,zD vJ y'.sg,zD vI y'.sv,zD iA y'.st,zD vW y'.vw]:=by rw[<-hrf'];rfl
 rw[eC,eC',show∀f,tdA Td f= .agg [.sl false (Td.map ZX),zD yF [f]]from λ_=>rfl]at k;have hTv:=hM.v;have kf:=KO [LD (y.now+1) y'.vw] zW (λm hm=>by rw[zZd.1 hm];exact hM.f);generalize LD (y.now+1) y'.vw=fm at *;have hsl:=zA jB ss
 have hi0:NW ss 0=List.replicate ss.length (.agg [bA false,.s (.slice none 0 0)]):=by
  unfold NW;apply zZf;intro j;rw[zX8,zZ0];by_cases hj:j<ss.length
  ·rw[zY5 hj,zX3 hj];simp
  ·rw[zX2 hj,zYx xX];rfl
 have hs0:bO ss 0=ss:=jU _ _;unfold RR;refine eM call84 λF hF=>?_
 refine WW ?_;have hsn:∀i,((bO ss i).map jB).length=ss.length:=λi=>by unfold bO;rw[zX5,vE]
 have hin:∀i,(NW ss i).length=ss.length:=λi=>by unfold NW;rw[zX5,zZr]
 refine zS (ss.length) [1021,14,1,2,3] [1,2,3] [1,2,3,4,17] [18,1,2,3,4,17] Z (λi T U=>⟨(18,iA i)::T,(1021,.arr 4 ((bO ss i).map jB) false)::(14,.arr 2 (NW ss i) false)::U⟩) ?_;(conv=>whnf);refine⟨by(rw[hi0,hs0];rfl),?_,?_⟩
 ·intro i hi;have hys:((bO ss i).map jB)[i]? =some (jB (ss.getD i default)):=by rw[zX8];unfold bO;rw[qD,zX3 hi,zX2 (yB7 i)];rfl
  have hyi:(NW ss i)[i]? =some (.agg [bA false,.s (.slice none 0 0)]):=aF _ _ _ _ hi;have e1:(bO ss (i+1)).map jB=((bO ss i).map jB).set i (jB (VV (ss.getD i default)).1):=by unfold bO;rw[qP _ _ _ _ hi]
  have e2:NW ss (i+1)=(NW ss i).set i (kX (VV (ss.getD i default)).2):=dX _ _ _ _ hi;have hI:=hs _ (zX ss i hi);have kt:=zDt (ss.getD i default) hI.y (by have:=hI.n;omega);have h1:=hsn i;have h2:=hin i;rw[e1,e2];clear e1 e2 hi0 hs0 hI hs hTv k;generalize (bO ss i).map jB=X at *;generalize NW ss i=Y at *;generalize (VV (ss.getD i default)).1=s1 at *;generalize (VV (ss.getD i default)).2=n1 at *;generalize ss.getD i default=s0 at *;refine zY kt ?_;rfl
 ·rw[zLq];refine uS [1,2,3,1021] [1,2,3,4,17,18] Z ?_
  (conv=>whnf)
  have hbm:=zA kX (kP ss);simp only[zYq];rw[zYe (l:=(kP ss).map kX) zB];have hTm:=zA ZX Td;refine yR (wZ k kf) ?_
  have hd0:RS Td 0=List.replicate Td.length (.s (.slice none 0 0)):=by
   unfold RS;apply zZf;intro j;rw[zX8,zZ0];by_cases hj:j<Td.length
   ·rw[zY5 hj,zX3 hj];simp
   ·rw[zX2 hj,zYx xX];rfl
  have hdn:∀i,(RS Td i).length=Td.length:=λi=>by unfold RS;rw[zX5,zZr]
  rw[hTm];refine zS (Td.length) [50,1,2,3,8,1021] [1,2,3,8,1021] [1,2,3,8,56,57] [58,1,2,3,8,56,57] Z (λi T U=>⟨(58,iA i)::T,(50,.arr 1 (RS Td i) false)::U⟩) ?_;(conv=>whnf);refine⟨by(rw[hd0];rfl),?_,?_⟩
  ·intro i hi;have hyT:=zM ZX Td i hi;have hyd:(RS Td i)[i]? =some (.s (.slice none 0 0)):=aF _ _ _ _ hi;have e1:RS Td (i+1)=(RS Td i).set i (zD yA (TY (Td.getD i default))):=dX _ _ _ _ hi;obtain⟨v1,v2⟩:=hTv _ (zX Td i hi);have kg:=KO (Td.getD i default) v1 v2;have h2:=hdn i;rw[e1];unfold ZX at hyT;clear e1 hd0 hdn hi0 hs0 hs hTv k v2 kf;generalize RS Td i=X at *;generalize TY (Td.getD i default)=bs at *;generalize Td.getD i default=ti at *;refine zY kg ?_;rfl
  ·(refine WW ?_)
   refine zI [1021] Z Z ?_ Z
   show AV.tup [_,AV.agg [AV.sl false (List.take Td.length (RS Td Td.length)),_]]=_
   rw[zYe (l:=RS Td Td.length) (zZ5 (hdn _)),zLr];rfl
end
def zFp (v:AV):(VE v).cells=v.cells.map VE:=by
 cases v with
 |agg cs=>show wkL cs=cs.map VE;exact zC0 cs
 |s v=>
  show(VE (.s v)).cells=[VE (.s v)]
  unfold VE
  split<;>rfl
 |_=>rfl
theorem xE.wkl {w:World} {D:Nat->Prop} {nn:Bool} {xs:List AV} {c:Value} (hv:xE w D (.sl nn xs) c):xE w D (.sl nn (xs.map VE)) c:=by
 cases hv with
 |nil a cap=>exact .nil a cap
 |nil1 a cap=>exact .nil1 a cap
 | sl _ _ b o sz cap f hx hL hc h=>
  have hl:(xs.map VE).length=xs.length:=zX5 ..
  have hk:∀(i:Nat) (x:AV),(xs.map VE)[i]? =some x->∃y,xs[i]? =some y/\x.cells=y.cells.map VE:=λi x hx=>by
   rw[zX8,zYf]at hx;obtain⟨y,hy,rfl⟩:=hx;exact⟨y,hy,zFp y⟩
  have hL':Lay w D (xs.map VE) b o sz f:=by
   refine⟨hL.lt,hL.nd,hL.pos,by rw[hl];exact hL.max,λi x hx=>?_,λi j hi hj=>hL.cell i j (by rw[hl]at hi;exact hi) hj,λi j hi hj=>hL.one i j (by rw[hl]at hi;exact hi) hj⟩;obtain⟨y,hy,he⟩:=hk i x hx;rw[he,zX5];exact hL.wide i y hy
  have:=xE.sl nn (xs.map VE) b o sz cap f (by simpa using hx) hL' (by rw[hl];exact hc) (λi x j v hi hj=>by
   obtain⟨y,hy,he⟩:=hk i x hi;rw[he,zX8,zYf]at hj;obtain⟨u,hu,rfl⟩:=hj
   exact(h i y j u hy hu).wk)
  rw[hl]at this;exact this
section
variable {P:Program} {K0:List Nat} {F:Fr K0} {m:Nat} {ops:Array Oper} {rest:List Oper} {fs:List FP} {tm:List (Nat×AV)} {h:List (Nat×xN)}
theorem wN.wkL {a:Act} {w:World} (R:wN F m ⟨tm,h⟩ a w) (t:Nat) {nn:Bool} {xs ys:List AV} (hv:zG tm t= .sl nn xs) (he:xs.map VE=ys):wN F m ⟨(t,.sl nn ys)::tm,h⟩ a w:=by
 obtain⟨⟨X,β,hX,H,Ht,KK,hJ,hD⟩,nd,gs,hl⟩:=R;refine⟨⟨X,β,hX,H,λj=>?_,KK,λi hi=>?_,hD⟩,nd,gs,hl⟩
 ·rw[yP];split
  ·rename_i hj;subst hj;have:=Ht j;dsimp only at this;rw[hv]at this
   cases this with
   |fz _ _ hf=>exact .fz _ _ (he▸hf.wkl)
  ·exact Ht j
 ·rw[yP]at hi;split at hi
  ·cases hi
  ·exact hJ i hi
def zWy {Q:List FP->St->Prop} (t:Nat) {nn:Bool} {xs ys:List AV} (hv:zG tm t= .sl nn xs) (he:xs.map VE=ys) (hk:yE P F m ops false rest ⟨(t,.sl nn ys)::tm,h⟩ fs Q):yE P F m ops false rest ⟨tm,h⟩ fs Q:=
 ⟨λa w R=>hk.run a w (R.wkL t hv he)⟩
end
def zLt (c:Cf) (hw:AD c.ags) (n:Nat) (hn:n<=c.ags.length):zO 77 [vL c,iA n] [] (iA (qV c.ags n)) []:=by
 have hl:=zA vU c.ags;have h4:=hw.1;have hb:=eG hw;unfold vL;refine eM call77 λF hF=>?_
 refine WW ?_;refine zS (n) [] [] [1,9,10] [5,11,1,9,10] Z (λi T U=>⟨(5,iA (qV c.ags i))::(11,iA i)::T,U⟩) ?_;(conv=>whnf);refine⟨by rfl,?_,?_⟩
 ·intro i hi;have hy:=zM vU c.ags i zB;have h1:=hw.at (i:=i) zB;have h2:=hb i zB;rw[show qV c.ags (i+1)=qV c.ags i+(c.ags.getD i default).ses from Z];clear hb;generalize qV c.ags i=s at *;generalize c.ags.getD i default=a at *;refine WW ?_;rfl
 ·by_cases h9:n<c.ags.length
  ·have hy:=zM vU c.ags n h9;generalize c.ags.getD n default=a at *;refine WW ?_;exact zJ
  ·(refine WW ?_)
   exact zJ
def zSe:AV:= .agg [bA false,bA false,.s (.slice none 0 0),bA false]
def NX (ss:List Ss) (i:Nat):List AV:=(List.range ss.length).map λk=>if k<i then jB (ss.getD k default)else zSe
def zFq (ss:List Ss):NX ss 0=List.replicate ss.length zSe:=by
 unfold NX;apply zZf;intro j;rw[zX8,zZ0];by_cases hj:j<ss.length
 ·rw[zY5 hj,zX3 hj];simp
 ·rw[zX2 hj,zYx xX];rfl
def zLu (ss:List Ss):NX ss ss.length=ss.map jB:=by
 unfold NX;rw[dY];apply zZf;intro j;rw[zX8,zX8];by_cases hj:j<ss.length
 ·rw[zY5 hj,zYk hj];simp only[Option.map_some,zYc,zYk hj,yAg]
 ·rw[zYx xX,zYx zB];rfl
def VU (b:SO) (h:GQ b):zO 78 [ZB b] [] (RR b.y (.ref 1021 0 b.ss.length)) [(1021,.arr 4 (b.ss.map jB) false)]:=by
 obtain⟨y,ss⟩:=b;have hy:=h.y;have hs:=h.s;have hl:=h.l;dsimp only at *;have hw:=hy.v.ag;have hrf:=hy.rf
 have hsb:ss.length<=8:=by
  have:=eG hw y.c.ags.length (zX7 _);have:=hw.1;omega
 have eC:qJ y= .agg [zD vC y.c.js,zD vU y.c.ags,iA y.c.per,iA y.c.cap,iA y.c.hold,iA y.c.lock,bA false,iA y.now,zD zK y.ds,zD vJ y.sg,zD vI y.sv,zD iA y.st,zD vW y.vw]:=by rw[<-hrf];rfl
 have k1:=ZS y hy.b;rw[eC]at k1;have hsl:=zA jB ss;unfold ZB RR;dsimp only;refine eM call78 λF hF=>?_
 (repeat' (first|refine uJ ?_|apply xL|apply wB|intro hc|(refine zE ?_;first|(refine eP ?_;refine bM 1021 tok Z Z Z Z Z Z Z Z Z Z Z Z Z zB zB Z Z Z ?_))|fail))
 rw[hsl];have hn:∀i,(NX ss i).length=ss.length:=λi=>by unfold NX;rw[zX5,zZr]
 refine zS (ss.length) [1021,1,2] [1,2] [1,2,3,11,12] [13,1,2,3,11,12] Z (λi T U=>⟨(13,iA i)::T,(1021,.arr 4 (NX ss i) false)::U⟩) ?_;(conv=>whnf);refine⟨by(rw[zFq];rfl),?_,?_⟩
 ·intro i hi;have hy:=zM jB ss i hi;have hyc:(NX ss i)[i]? =some zSe:=aF _ _ _ _ hi;have e1:NX ss (i+1)=(NX ss i).set i (jB (ss.getD i default)):=dX _ _ _ _ hi;have hI:=hs _ (zX ss i hi);have kx:=JJ (ss.getD i default) (by have:=hI.n;omega);have h1:=hn i;rw[e1];clear e1 hs hI k1;unfold zSe at hyc;generalize NX ss i=X at *;generalize ss.getD i default=s at *;refine zY kx ?_;rfl
 ·rw[zLu];refine zY k1 ?_;exact zL [1021] Z Z Z Z
def ZH (c:Cf):SO:=⟨ZT c,List.replicate (qV c.ags c.ags.length).toNat ⟨false,false,[],false⟩⟩
def zWz {α β:Type} [Inhabited α] [Inhabited β] (f:α->β) (l:List α) (k:Nat) (hk:k<l.length):(l.map f).getD k default=f (l.getD k default):=by
 rw[zYc,zX8,zYk hk,zYc,zYk hk];rfl
def zRb (c:Cf) (h:BI c):CyI (ZT c):=by
 have ha:=h.a;have hdl:(KZ c c.ags.length).length=c.ags.length:=by simp[KZ]
 have hmem:∀d∈KZ c c.ags.length,∃k:Nat,k<c.ags.length/\d=VQ (k:Int) (c.ags.getD k default) (c.ags.getD k default).ses.toNat:=λd hd=>by
  unfold KZ at hd;obtain⟨k,hk,rfl⟩:=zZn.1 hd;exact⟨k,zYs.1 hk,rfl⟩
 refine⟨h,rfl,yAc _,hdl,λd hd=>?_,λa ha=>?_,λd hd=>?_,by simp[ZT],by simp[ZT],by simp[ZT],by simp[ZT],λw hw=>?_,λk hk=>?_⟩
 ·obtain⟨k,hk,rfl⟩:=hmem d hd;exact zIa (h.av _ (zX c.ags k hk)) k zB
 ·have ha':a<c.ags.length:=by rw[<-hdl];exact ha
  show((KZ c c.ags.length).getD a default).rg.ag=_
  unfold KZ;rw[zYc,zX8,zY5 ha'];rfl
 ·obtain⟨k,hk,rfl⟩:=hmem d hd;exact λr hr=>by cases hr
 ·unfold ZT at hw;obtain⟨j,hj,rfl⟩:=zZn.1 hw;exact zQe j (h.jv j hj) _ _
 ·have hk':k<c.js.length:=hk;have J:=h.jv _ (zX c.js k hk')
  show JI (c.js.getD k default) ((c.js.map eJ).getD k default) ((c.js.map PV).getD k default) 0
  rw[zWz eJ c.js k hk',zWz PV c.js k hk'];refine⟨zG8 J,by simp[PV,zMw],λe he=>?_,yAc _⟩;rw[(yDh.1 he).2]
  decide
def zRc (c:Cf) (h:BI c):GQ (ZH c):=by
 have hb:=eG h.ag c.ags.length (zX7 _);refine⟨zRb c h,?_,λs hs=>?_⟩
 ·show((List.replicate _ _).length:Int)=_
  rw[zZs]
  show((qV c.ags c.ags.length).toNat:Int)=qV c.ags c.ags.length
  omega
 ·rw[(yDh.1 hs).2];exact⟨jP,zYl _⟩
def zP6 (c:Cf) (h:BI c):zO 44 [vL c] [] (ZB (ZH c)) []:=by
 have k1:=zRs c h;have hrf:=(zRb c h).rf;have hw:=h.ag;have k2:=zLt c hw c.ags.length (zX7 _);have hal:=zA vU c.ags;have hb:=eG hw c.ags.length (zX7 _);have h4:=hw.1;have eC:qJ (ZT c)= .agg [zD vC (ZT c).c.js,zD vU (ZT c).c.ags,iA (ZT c).c.per,iA (ZT c).c.cap,iA (ZT c).c.hold,iA (ZT c).c.lock,bA false,iA (ZT c).now,zD zK (ZT c).ds,zD vJ (ZT c).sg,zD vI (ZT c).sv,zD iA (ZT c).st,zD vW (ZT c).vw]:=by rw[<-hrf];rfl
 rw[eC]at k1;obtain⟨N,hN⟩:∃N:Nat,qV c.ags c.ags.length=(N:Int):=⟨(qV c.ags c.ags.length).toNat,zB⟩;rw[hN]at k2 hb;rw[<-hal]at k2
 have eB:ZB (ZH c)= .agg [zD vC (ZT c).c.js,zD vU (ZT c).c.ags,iA (ZT c).c.per,iA (ZT c).c.cap,iA (ZT c).c.hold,iA (ZT c).c.lock,bA false,iA (ZT c).now,zD zK (ZT c).ds,zD vJ (ZT c).sg,zD vI (ZT c).sv,zD iA (ZT c).st,zD vW (ZT c).vw,.sl false (List.replicate N (.agg [bA false,bA false,zD yA [],bA false]))]:=by
  unfold ZB RR ZH;dsimp only;rw[hN];unfold zD;rw[yCh];rfl
 rw[eB];generalize ZT c=z at *;refine eM call44 λF hF=>?_
 (have zc1:=k1;have zc2:=k2;(repeat' (first|refine uJ ?_|apply xL|apply wB|intro hc|(refine zE ?_;first|(refine eP ?_;refine bM 1021 tok Z Z Z Z Z Z Z Z Z Z Z Z Z zB zB Z Z Z ?_;refine wJ [1,2,3] [1,2,3,16] Z ?_;(conv=>whnf);(try simp only[zYq]);refine zWy 16 Z Z ?_))|fail))<;>clear zc1 zc2)
 refine zI [] Z Z ?_ Z
 show AV.agg [zD vC z.c.js,zD vU z.c.ags,iA z.c.per,iA z.c.cap,iA z.c.hold,iA z.c.lock,bA false,iA z.now,zD zK z.ds,zD vJ z.sg,zD vI z.sv,zD iA z.st,zD vW z.vw,.sl false (List.map VE (List.take N (List.replicate N zSe)))]=_
 rw[zYe (by rw[zZs];exact zX7 _),yCh];rfl
end Av
end Go.Proofs.YteajjdidebfcjaaGreat
