/- Part 33. -/
import Derived.Test.YtmamjhmoegjapaaGreatP32
namespace Go.Proofs.YtmamjhmoegjapaaGreat
namespace Av
open Tryz
set_option linter.all false
set_option maxRecDepth 4000
set_option maxHeartbeats 8000000
def BH:Ss:=⟨true,false,[],false⟩
def sdL (d:xQ):List AV:=[iA d.rg.num,zD yA d.rg.ag.sec,iA d.rg.ag.rights,iA d.rg.ag.cls,zD iA d.rg.ag.lim,iA d.rg.ag.req,iA d.rg.ag.ses,iA d.rg.ag.rate,iA d.rg.ag.burst,zD xE d.rg.tk,zD vQ d.rg.vh,iA d.rg.bk.level,iA d.rg.bk.rate,iA d.rg.bk.burst,zD yL d.rq,zD qV d.dr,zD bA d.au,.ref 36 0 1]
theorem zMe (c:Cf) (d:xQ) (hI:uW c d) (hn:d.au.length=1) (v:List Vw) (hv:v.length<=4) (hb:∀w∈v,BT w):∃d':xQ,RE (bX d' v 1)/\zO 129 [.ptr 9 0 0,wJ c,zD vO v,iA 1] [(9,.box (sdL d)),(36,.arr 4 [kN BH] false)] (.sl false [zD yA (IZ (bX d' v 1))]) [(9,.box (sdL d')),(36,.arr 4 [kN BH] false)]:=by
 have kt:=zCw BH kF (by simp[BH]);rw[show WF BH=(BH,⟨true,[]⟩)from rfl]at kt;have kb:=GY hI 1;have hB:=zQw hI 1;obtain⟨hB,hB2,_⟩:=hB;have hbn:(PA d 1).au.length=1:=hn;have kk:=zMk hB 1 zB zB hbn [⟨true,[]⟩] rfl;have hM:=zQr (zFx hB [⟨true,[]⟩]) 1 zB zB;generalize dkM (dkU (PA d 1) [⟨true,[]⟩]) 1=d2 at *;generalize PA d 1=d1 at *;have hq:=hM.a.q;have ks:=BA d2 hM.bd hq v 1 zB hb;have hs:=zJv d2 hq v 1 zB zB hv hb;refine⟨d2,hs,?_⟩;obtain⟨⟨b1,_⟩,kf⟩:=zCn _ hs;have hbl:=zA yA (IZ (bX d2 v 1));generalize IZ (bX d2 v 1)=B at *;generalize bX d2 v 1=st at *;unfold sdL;unfold zK wH at *;refine eM call129 λF hF=>?_
 refine WW ?_;refine wM 2 [5,9,36,26] [32,31,0,2,3,5,9] rfl ?_;refine yE (st0:=⟨[(32,iA 0),(31,iA 1),(0,.ptr 9 0 0),(2,zD vO v),(3,iA 1),(5,.ptr 5 0 0),(9,.ref 26 0 1)],[(5,.box [zD wC c.js,zD wN c.ags,iA c.per,iA c.cap,iA c.hold,iA c.lock]),(9,.box [iA d.rg.num,zD yA d.rg.ag.sec,iA d.rg.ag.rights,iA d.rg.ag.cls,zD iA d.rg.ag.lim,iA d.rg.ag.req,iA d.rg.ag.ses,iA d.rg.ag.rate,iA d.rg.ag.burst,zD xE d.rg.tk,zD vQ d.rg.vh,iA d.rg.bk.level,iA d.rg.bk.rate,iA d.rg.bk.burst,zD yL d.rq,zD qV d.dr,zD bA d.au,.ref 36 0 1]),(36,.arr 4 [kN BH] false),(26,.arr 2 [.agg [bA false,.s (.slice none 0 0)]] false)]⟩) (by rfl) ?_;refine zW kt ?_;refine yE (st0:=⟨[(32,iA 1),(31,iA 1),(0,.ptr 9 0 0),(2,zD vO v),(3,iA 1),(5,.ptr 5 0 0),(9,.ref 26 0 1)],[(5,.box [zD wC c.js,zD wN c.ags,iA c.per,iA c.cap,iA c.hold,iA c.lock]),(9,.box [iA d.rg.num,zD yA d.rg.ag.sec,iA d.rg.ag.rights,iA d.rg.ag.cls,zD iA d.rg.ag.lim,iA d.rg.ag.req,iA d.rg.ag.ses,iA d.rg.ag.rate,iA d.rg.ag.burst,zD xE d.rg.tk,zD vQ d.rg.vh,iA d.rg.bk.level,iA d.rg.bk.rate,iA d.rg.bk.burst,zD yL d.rq,zD qV d.dr,zD bA d.au,.ref 36 0 1]),(36,.arr 4 [kN BH] false),(26,.arr 2 [kM ⟨true,[]⟩] false)]⟩) (by rfl) ?_
 (repeat' (first|refine WS ?_|refine SG (I2 (λhc=>?_) (λhc=>?_))|refine SG (λhc=>?_)|(first|refine xM ?_|refine xB ?_|refine zV rfl ?_|refine zQ rfl ?_|refine yV ?_|refine xC ?_|refine yN ?_)|fail))
 refine uQ [5,9,36] [0,2,3,5,9] rfl ?_
 (conv=>whnf)
 refine xA (vD kb kk) ?_;refine wM 2 [9,36,80] [83,82,0,2,3,9,12,15] rfl ?_;refine yE (st0:=⟨[(83,iA 0),(82,iA 1),(0,.ptr 9 0 0),(2,zD vO v),(3,iA 1),(9,.sl false [kM ⟨true,[]⟩]),(12,.sl false [.s (.slice none 0 0)]),(15,.ref 80 0 1)],[(9,.box [iA d2.rg.num,zD yA d2.rg.ag.sec,iA d2.rg.ag.rights,iA d2.rg.ag.cls,zD iA d2.rg.ag.lim,iA d2.rg.ag.req,iA d2.rg.ag.ses,iA d2.rg.ag.rate,iA d2.rg.ag.burst,zD xE d2.rg.tk,zD vQ d2.rg.vh,iA d2.rg.bk.level,iA d2.rg.bk.rate,iA d2.rg.bk.burst,zD yL d2.rq,zD qV d2.dr,zD bA d2.au,.ref 36 0 1]),(36,.arr 4 [kN BH] false),(80,.arr 1 [.s (.slice none 0 0)] false)]⟩) (by rfl) ?_;refine WLo ks ?_;refine wM 2 [9,36,80] [106,105,104,16,83,82,0,2,3,9,12,15] rfl ?_;refine yE (st0:=⟨[(106,iA 0),(105,iA 1),(104,.sl false [yB st]),(16,iA 0),(83,iA 0),(82,iA 1),(0,.ptr 9 0 0),(2,zD vO v),(3,iA 1),(9,.sl false [kM ⟨true,[]⟩]),(12,.sl false [.s (.slice none 0 0)]),(15,.ref 80 0 1)],[(9,.box [iA d2.rg.num,zD yA d2.rg.ag.sec,iA d2.rg.ag.rights,iA d2.rg.ag.cls,zD iA d2.rg.ag.lim,iA d2.rg.ag.req,iA d2.rg.ag.ses,iA d2.rg.ag.rate,iA d2.rg.ag.burst,zD xE d2.rg.tk,zD vQ d2.rg.vh,iA d2.rg.bk.level,iA d2.rg.bk.rate,iA d2.rg.bk.burst,zD yL d2.rq,zD qV d2.dr,zD bA d2.au,.ref 36 0 1]),(36,.arr 4 [kN BH] false),(80,.arr 1 [.s (.slice none 0 0)] false)]⟩) (by rfl) ?_;refine WLo kf ?_;refine yE (st0:=⟨[(106,iA 1),(105,iA 1),(104,.sl false [yB st]),(16,iA 0),(83,iA 0),(82,iA 1),(0,.ptr 9 0 0),(2,zD vO v),(3,iA 1),(9,.sl false [kM ⟨true,[]⟩]),(12,.sl false [.s (.slice none 0 0)]),(15,.ref 80 0 1)],[(9,.box [iA d2.rg.num,zD yA d2.rg.ag.sec,iA d2.rg.ag.rights,iA d2.rg.ag.cls,zD iA d2.rg.ag.lim,iA d2.rg.ag.req,iA d2.rg.ag.ses,iA d2.rg.ag.rate,iA d2.rg.ag.burst,zD xE d2.rg.tk,zD vQ d2.rg.vh,iA d2.rg.bk.level,iA d2.rg.bk.rate,iA d2.rg.bk.burst,zD yL d2.rq,zD qV d2.dr,zD bA d2.au,.ref 36 0 1]),(36,.arr 4 [kN BH] false),(80,.arr 1 [.sl false (B.map yA)] false)]⟩) (by rfl) ?_;refine WL ?_;refine yE (st0:=⟨[(83,iA 1),(82,iA 1),(0,.ptr 9 0 0),(2,zD vO v),(3,iA 1),(9,.sl false [kM ⟨true,[]⟩]),(12,.sl false [.s (.slice none 0 0)]),(15,.ref 80 0 1)],[(9,.box [iA d2.rg.num,zD yA d2.rg.ag.sec,iA d2.rg.ag.rights,iA d2.rg.ag.cls,zD iA d2.rg.ag.lim,iA d2.rg.ag.req,iA d2.rg.ag.ses,iA d2.rg.ag.rate,iA d2.rg.ag.burst,zD xE d2.rg.tk,zD vQ d2.rg.vh,iA d2.rg.bk.level,iA d2.rg.bk.rate,iA d2.rg.bk.burst,zD yL d2.rq,zD qV d2.dr,zD bA d2.au,.ref 36 0 1]),(36,.arr 4 [kN BH] false),(80,.arr 1 [.sl false (B.map yA)] false)]⟩) (by rfl) ?_;refine WL ?_;exact zJ [9,36] rfl rfl rfl rfl
def dV (k:Int):Ev:=⟨k,0,0,0,[]⟩
theorem GT {k:Int} (h:1<=k/\k<=6):ZP (dV k):=⟨h,by dsimp only[dV];omega,by dsimp only[dV];omega,by dsimp only[dV];omega,kF,zY4 _⟩
theorem zRu:zO 132 [.agg [bA false,bA false,.s (.slice none 0 0),bA false],wT (dV 1)] [] (kN BH) []:=by
 have ko:=zCx ⟨false,false,[],false⟩ zU;rw[show(if(⟨false,false,[],false⟩:Ss).op=true then⟨false,false,[],false⟩else⟨true,false,[],false⟩:Ss)=BH from rfl]at ko;unfold dV wT;refine eM call132 λF hF=>?_
 (repeat' (first|refine qS ?_|refine xR (λhc=>?_) (λhc=>?_)|refine wE (λhc=>?_)|(refine zE ?_;refine xT ?_;(refine vT 52 ?_;refine UG 9 rfl rfl rfl ?_;refine yF (zH (ko) rfl rfl rfl rfl rfl) rfl ?_))|(refine zE ?_;first|refine SM ?_)|fail))
 exact zL
theorem zFr (c:Cf) (hc:DY c) (a:Ag) (hs:a.ses=1) (h0:c.ags.getD 0 default=a) (ho:owF c 0=(0,0)) (v:List Vw) (hv:v.length<=4) (hb:∀w∈v,BT w):∃d':xQ,RE (bX d' v 1)/\zO 74 [wJ c,iA 0,zD wT [dV 1,dV 6],.sl false [zD vO v]] [] (.sl false [.sl false [zD yA (IZ (bX d' v 1))]]) []:=by
 have hal:=hc.a;have hav:AgV a:=by rw[<-h0];exact hc.av _ (zZ c.ags 0 zB)
 have kn:=(zQv 0 a hav).1;have hI:=zF3 (c:=c) hav 0 zB;rw[show a.ses.toNat=1 by omega]at kn hI;have hn:(XJ 0 a 1).au.length=1:=rfl;have hau:(XJ 0 a 1).au.map bA=[bA false]:=rfl;obtain⟨d2,hs2,kt⟩:=zMe c _ hI hn v hv hb;refine⟨d2,hs2,?_⟩;have kp:=zRu;have ko:=zCy c hc.ag 0 zB;rw[ho]at ko;have kw:=zA4 c hc.ag 0 (dV 1) (GT zB);rw[show SD c 0 (dV 1)=true by unfold SD;rw[show(dV 1).s=0 from rfl,ho];rfl]at kw;have hya:=zN wN c.ags 0 zB;rw[h0]at hya;have hagl:=zA wN c.ags;unfold zK wH at kn;unfold sdL at kt;rw[show zD bA (XJ 0 a 1).au= .sl false [bA false]from rfl]at kn kt;clear hI hn hau;generalize XJ 0 a 1=d at *;generalize IZ (bX d2 v 1)=B at *;unfold wJ wT dV at *;refine eM call74 λF hF=>?_
 have hz1:([bA false]:List AV).length=1:=rfl;refine zW kn ?_;refine wM 3 [4,9,36] [40,39,38,1,3,4,9,10] rfl ?_;refine yE (st0:=⟨[(40,iA 0),(39,iA 2),(38,.sl false [.agg [iA 1,iA 0,iA 0,iA 0,zD yA []],.agg [iA 6,iA 0,iA 0,iA 0,zD yA []]]),(1,iA 0),(3,.sl false [zD vO v]),(4,.ptr 4 0 0),(9,.ptr 9 0 0),(10,.s (.slice none 0 0))],[(4,.box [zD wC c.js,zD wN c.ags,iA c.per,iA c.cap,iA c.hold,iA c.lock]),(9,.box [iA d.rg.num,zD yA d.rg.ag.sec,iA d.rg.ag.rights,iA d.rg.ag.cls,zD iA d.rg.ag.lim,iA d.rg.ag.req,iA d.rg.ag.ses,iA d.rg.ag.rate,iA d.rg.ag.burst,zD xE d.rg.tk,zD vQ d.rg.vh,iA d.rg.bk.level,iA d.rg.bk.rate,iA d.rg.bk.burst,zD yL d.rq,zD qV d.dr,.sl false [bA false],.ref 36 0 1]),(36,.arr 4 [.agg [bA false,bA false,.s (.slice none 0 0),bA false]] false)]⟩) (by rfl) ?_;refine xA (gK kw ko kp) ?_;refine yE (st0:=⟨[(40,iA 1),(39,iA 2),(38,.sl false [.agg [iA 1,iA 0,iA 0,iA 0,zD yA []],.agg [iA 6,iA 0,iA 0,iA 0,zD yA []]]),(1,iA 0),(3,.sl false [zD vO v]),(4,.ptr 4 0 0),(9,.ptr 9 0 0),(10,.s (.slice none 0 0))],[(4,.box [zD wC c.js,zD wN c.ags,iA c.per,iA c.cap,iA c.hold,iA c.lock]),(9,.box [iA d.rg.num,zD yA d.rg.ag.sec,iA d.rg.ag.rights,iA d.rg.ag.cls,zD iA d.rg.ag.lim,iA d.rg.ag.req,iA d.rg.ag.ses,iA d.rg.ag.rate,iA d.rg.ag.burst,zD xE d.rg.tk,zD vQ d.rg.vh,iA d.rg.bk.level,iA d.rg.bk.rate,iA d.rg.bk.burst,zD yL d.rq,zD qV d.dr,.sl false [bA false],.ref 36 0 1]),(36,.arr 4 [kN BH] false)]⟩) (by rfl) ?_;refine WLo kt ?_;refine yE (st0:=⟨[(40,iA 2),(39,iA 2),(38,.sl false [.agg [iA 1,iA 0,iA 0,iA 0,zD yA []],.agg [iA 6,iA 0,iA 0,iA 0,zD yA []]]),(1,iA 0),(3,.sl false [zD vO v]),(4,.ptr 4 0 0),(9,.ptr 9 0 0),(10,.sl false [.sl false [zD yA B]])],[(4,.box [zD wC c.js,zD wN c.ags,iA c.per,iA c.cap,iA c.hold,iA c.lock]),(9,.box [iA d2.rg.num,zD yA d2.rg.ag.sec,iA d2.rg.ag.rights,iA d2.rg.ag.cls,zD iA d2.rg.ag.lim,iA d2.rg.ag.req,iA d2.rg.ag.ses,iA d2.rg.ag.rate,iA d2.rg.ag.burst,zD xE d2.rg.tk,zD vQ d2.rg.vh,iA d2.rg.bk.level,iA d2.rg.bk.rate,iA d2.rg.bk.burst,zD yL d2.rq,zD qV d2.dr,zD bA d2.au,.ref 36 0 1]),(36,.arr 4 [kN BH] false)]⟩) (by rfl) ?_;refine WW ?_;exact zL
noncomputable def GH:RR->List Ev->List (List Vw)
 |_,[]=>[]
 |b,e::l=>(if(cD b e).fl=true then [(cD b e).b.y.vw]else [])++GH (cD b e).b l
theorem zMf (b:RR) (l m:List Ev):GH b (l++m)=GH b l++GH (fN b l) m:=by
 induction l generalizing b with
 |nil=>rfl
 |cons e l ih=>
  show _++GH _ (l++m)=_
  rw[ih,<-zZc];rfl
theorem zBk:∀(l:List Ev) (b:RR),(GH b l).length<=l.length
 | [],_=>zYs _
 |e::l,b=>by
  have ih:=zBk l (cD b e).b
  show((if(cD b e).fl=true then [(cD b e).b.y.vw]else [])++GH (cD b e).b l).length<=_
  rw[zYr,zY2];split
  ·simp only[zY2,zZz];omega
  ·simp only[zZz];omega
def vsA (v:List Vw):AV:=zD vO v
theorem zMg (c:Cf) (hc:DY c) (l:List Ev) (hl:l.length<=1000000) (he:∀e∈l,ZP e):zO 31 [wJ c,zD wT l] [] (zD vsA (GH (kS c) (l.take 400))) []:=by
 have k1:=zCo c hc;have hb:=DP c hc;have hll:=zA wT l;have h0:(kS c).y.now=0:=rfl;have ht4:(l.take 400).length<=400:=by rw[zY5];omega
 have hm4:∀e∈l.take 400,ZP e:=λe h=>he e (zZ1 h)
 unfold cK WB at k1;refine eM call31 λF hF=>?_
 refine zW k1 ?_
 have tk4:l.take (min ((l.map wT).length:Int) 400).toNat=l.take 400:=by
  rw[zYq];by_cases h:l.length<=400
  ·rw[zYy zB,zYy zB]
  ·congr 1
   omega
 rw[tk4];have hl4:=zA wT (l.take 400);generalize l.take 400=l4 at *;refine xK 6 1001 1 rfl rfl rfl ?_;refine yS (l4) [5,1001] [] [5,18,19] [6,20,5,18,19] rfl (λi pre T U=>⟨(6,.ref 1001 0 ((GH (kS c) pre).map vsA).length)::(20,iA i)::T,(5,.box [zD wC (fN (kS c) pre).y.c.js,zD wN (fN (kS c) pre).y.c.ags,iA (fN (kS c) pre).y.c.per,iA (fN (kS c) pre).y.c.cap,iA (fN (kS c) pre).y.c.hold,iA (fN (kS c) pre).y.c.lock,bA false,iA (fN (kS c) pre).y.now,zD zK (fN (kS c) pre).y.ds,zD vF (fN (kS c) pre).y.sg,zD vC (fN (kS c) pre).y.sv,zD iA (fN (kS c) pre).y.st,zD vO (fN (kS c) pre).y.vw,zD kN (fN (kS c) pre).ss])::(1001,.arr 1 ((GH (kS c) pre).map vsA) true)::U⟩) ?_;(conv=>whnf);refine⟨by rfl,?_,?_⟩
 ·intro i pre x post hx hi;have hy:=xO wT hx hi;have hlt:=yX hx hi;have hpm:∀e∈pre,ZP e:=λe h=>hm4 e (by rw[hx];simp[h])
  have hpl:pre.length<=l4.length:=by rw[hx];simp
  have hxe:=hm4 x (by rw[hx];simp);obtain⟨p1,p2,p3,p4,p5⟩:=zCr pre hb hpm (by rw[h0];omega);have D:=WE p1 zB hxe;have kd:=D.k;have e1:fN (kS c) (pre++[x])=(cD (fN (kS c) pre) x).b:=zCq _ _ _
  have e2:GH (kS c) (pre++[x])=GH (kS c) pre++(if(cD (fN (kS c) pre) x).fl=true then [(cD (fN (kS c) pre) x).b.y.vw]else []):=by
   rw[zMf]
   congr 1
   show _++[]=_
   rw[zZo]
  have hvl:=zBk pre (kS c);have Db:=D.i.y.b;have cv:=YL _ Db.v Db.vb;rw[e1,e2,zYz];have hsm:=zA vsA (GH (kS c) pre);clear D Db e1 e2 hx hpm;generalize (GH (kS c) pre).map vsA=X at *;unfold cK WB wT sdA at kd;unfold wT at hy;generalize cD (fN (kS c) pre) x=r at *;generalize fN (kS c) pre=b0 at *;obtain⟨rb,S,f,fl⟩:=r;dsimp only at *;cases fl
  ·rw[zYo zZb,yA5,zZo];refine zW kd ?_;rfl
  ·rw[zYp rfl,show [rb.y.vw].map vsA=[zD vO rb.y.vw]from rfl];refine MM (vD kd cv) ?_;rfl
 ·(refine WW ?_)
  exact zI [] rfl rfl (zZl (AV.sl false) zYv) rfl
theorem zMh (c:Cf) (h:DY c) (e9:Ev) (h9:ZP e9) (hk:e9.k=1):∃v:List Vw,GH (kS c) [dV 1,dV 6,e9]=[v]/\v.length<=4/\∀w∈v,BT w:=by
 have hb:=DP c h;have h0:(kS c).y.now=0:=rfl;have d1:=WE hb zB (GT (k:=1) zB);have n1:=d1.n;have f1:(cD (kS c) (dV 1)).fl=false:=by rw[d1.s (.inl rfl)]
 have d2:=WE d1.i zB (GT (k:=6) zB);have n2:=d2.n;obtain⟨y',Td,hM,e3,_⟩:=d2.t6 rfl;have f2:(cD (cD (kS c) (dV 1)).b (dV 6)).fl=true:=by rw[e3]
 have d3:=WE d2.i zB h9;have f3:(cD (cD (cD (kS c) (dV 1)).b (dV 6)).b e9).fl=false:=by rw[d3.s (.inl hk)]
 have hy:=d2.i.y;refine⟨(cD (cD (kS c) (dV 1)).b (dV 6)).b.y.vw,?_,by have:=hy.wl;have:=hy.v.j;omega,hy.wb⟩;unfold GH;rw[f1,zYo zZb,yA9];unfold GH;rw[f2,zYp rfl];unfold GH;rw[f3,zYo zZb];rfl
def BV:Ev:=⟨1,9,0,0,[]⟩
theorem zQq:ZP BV:=⟨by dsimp only[BV];omega,by dsimp only[BV];omega,by dsimp only[BV];omega,by dsimp only[BV];omega,kF,zY4 _⟩
theorem zDq:zO 25 [] [] (bA true) []:=by
 have kn:=zQ5 [] zU;have kc:=DI d00 15;have hv:=zRk d00 15 zB
 have hev:∀e∈[dV 1,dV 6,BV],ZP e:=λe he=>by
  simp only[zZ5,yCt,yD5]at he
  rcases he with rfl|rfl|rfl
  ·exact GT zB
  ·exact GT zB
  ·exact zQq
 have km:=QN (RC d00 15) hv.ag 0 [dV 1,dV 6,BV] zU hev;rw[show RS (RC d00 15) 0 [dV 1,dV 6,BV]=[dV 1,dV 6]from rfl]at km;have kv:=zMg (RC d00 15) hv [dV 1,dV 6,BV] zU hev;rw[show([dV 1,dV 6,BV]:List Ev).take 400=[dV 1,dV 6,BV]from rfl]at kv;obtain⟨v,e1,v1,v2⟩:=zMh (RC d00 15) hv BV zQq rfl;rw[e1]at kv;obtain⟨d',hs,kr⟩:=zFr (RC d00 15) hv _ (show((RC d00 15).ags.getD 0 default).ses=1 from rfl) rfl (show owF (RC d00 15) 0=(0,0)from rfl) v v1 v2;obtain⟨q,hq,hq7⟩:=(zCn _ hs).1.2 (by simp[bX,stM]);rw[hq]at kr;generalize RC d00 15=c at *;generalize cfD d00 15=e0 at *;have hq1:=zA yA q;rw[show zD yA (90::165::1::(bX d' v 1).kind::q)= .sl false (yA 90::yA 165::yA 1::yA 17::q.map yA)from rfl]at kr;rw[show zD vsA [v]= .sl false [zD vO v]from rfl]at kv;rw[show zD wT [dV 1,dV 6,BV]= .sl false [wT (dV 1),wT (dV 6),wT BV]from rfl]at km kv;rw[show zD wT [dV 1,dV 6]= .sl false [wT (dV 1),wT (dV 6)]from rfl]at km kr;generalize q.map yA=Q at *;have hz2:(yA 90::yA 165::yA 1::yA 17::Q).length=q.length+4:=by simp only[zY2];omega
 unfold wJ wT dV BV at *;refine eM call25 λF hF=>?_
 (have zc1:=kn;have zc2:=kc;have zc3:=km;have zc4:=kv;have zc5:=kr;(repeat' (first|refine aT ?_|refine xR (λhc=>?_) (λhc=>?_)|refine wE (λhc=>?_)|(refine zE ?_;first|(refine yZ ?_;refine UG 6 rfl rfl rfl ?_;refine UG 7 rfl rfl rfl ?_;refine UG 8 rfl rfl rfl ?_;refine kH tok rfl rfl ?_))|refine SB ?_|fail))<;>clear zc1 zc2 zc3 zc4 zc5)
 exact zL
theorem VA (l:List Ev) (e:Ev):(l++[e]).map wT=l.map wT++[wT e]:=by simp
theorem KM.app2 {a b:List Ev} {n m:Nat} (h:KM a n) (h2:KM b m):KM (a++b) (n+m):=
 ⟨by have:=h.1;have:=h2.1;rw[zYr];omega,λx hx=>(zZa.1 hx).elim (h.2 x) (h2.2 x)⟩
theorem KM.of {l:List Ev} (h:∀e∈l,ZP e):KM l l.length:=⟨zYs _,h⟩
def tkE:Ev:=⟨6,0,0,0,[]⟩
theorem zBl:ZP tkE:=evb zB zB zB zB kF zU
def zVj (s:Nat):Ev:=⟨1,s,0,0,[]⟩
structure BtR (c:Cf) (cm:Bool) (g:Int) (d:Dk) (b:List Int) (d':Dk) (m0 m1:Ms) (dA dC:Dk) (q0 q1 b2:List Int) (d5:Dk):Prop where
 k0:zO 48 [.ptr 1000 0 0,wJ c,iA g,bA cm] [(1000,cG d)] (yB m0) [(1000,cG dA)]
 f0:zO 45 [yB m0] [] (.ref 1031 0 (q0.map yA).length) [(1031,.arr 1 (q0.map yA) true)]
 k1:zO 48 [.ptr 1000 0 0,wJ c,iA g,bA cm] [(1000,cG (ad dA))] (yB m1) [(1000,cG dC)]
 f1:zO 45 [yB m1] [] (zD yA q1) []
 h2:b2=if nx dA 3=2 then q0++q1 else q0
 h5:d5=if nx dA 3=2 then dC else ad dA
 sp:cm=false->nx d5 7=6->zO 50 [zD yA b2,iA (nx (ad d5) 99),iA (nx (ad (ad d5)) 1024)] [] (zD yA b) []
 hb:¬(cm=false/\nx d5 7=6)->b=b2
 hd:d'=if cm=true then d5 else if nx d5 7=6 then ad (ad (ad d5))else ad d5
 l0:q0.length<=210
 l1:q1.length<=210
theorem zVk (c:Cf) (hc:CfW c) (cm:Bool) (g:Int) (hg:0<=g/\g<256) (d:Dk):∃(b:List Int) (d':Dk),(BY b/\b.length<=1000/\rem d'<=rem d)/\∃m0 m1 dA dC q0 q1 b2 d5,BtR c cm g d b d' m0 m1 dA dC q0 q1 b2 d5:=by
 obtain⟨m0,dA,h0,r0,k0⟩:=ST c hc g hg cm d;obtain⟨q0,y0,l0,f0,_⟩:=CJ m0 h0;obtain⟨m1,dC,h1,r1,k1⟩:=ST c hc g hg cm (ad dA);obtain⟨q1,y1,l1,f1⟩:=CK m1 h1;have ra:=wP dA
 obtain⟨b2,hb2⟩:∃b2,b2=if nx dA 3=2 then q0++q1 else q0:=⟨_,rfl⟩
 obtain⟨d5,hd5⟩:∃d5,d5=if nx dA 3=2 then dC else ad dA:=⟨_,rfl⟩
 have yb:BY b2/\b2.length<=420:=by
  rw[hb2];split
  ·exact⟨λx hx=>(zZa.1 hx).elim (y0 x) (y1 x),by rw[zYr];omega⟩
  ·exact⟨y0,zB⟩
 have r5:rem d5<=rem d:=by rw[hd5];split<;>omega
 have r6:=wP d5;have r7:=wP (ad d5);have r8:=wP (ad (ad d5));have b7:=yD (ad (ad d5)) 1024 zB;obtain⟨q,yq,lq,kq⟩:=zDt b2 yb.1 zB (nx (ad d5) 99) (nx (ad (ad d5)) 1024) zB;refine⟨if cm=false/\nx d5 7=6 then q else b2,if cm=true then d5 else if nx d5 7=6 then ad (ad (ad d5))else ad d5,⟨?_,?_,?_⟩,m0,m1,dA,dC,q0,q1,b2,d5,k0,f0,k1,f1,hb2,hd5,λh1 h2=>?_,λh=>zYo h,rfl,l0,l1⟩
 ·split
  ·exact yq
  ·exact yb.1
 ·split<;>omega
 ·split
  ·omega
  ·split<;>omega
 ·rw[zYp ⟨h1,h2⟩];exact kq
def scR (c:Cf) (n:Nat) (cm:Bool) (p q:List Ev×Dk):Prop:=
 (nx (ad p.2) 12<=3/\q=(p.1++[tkE],ad (ad p.2)))∨
 (nx (ad p.2) 12=4/\q=(p.1++List.replicate (nx (ad (ad p.2)) 6+1).toNat tkE,ad (ad (ad p.2))))∨
 (nx (ad p.2) 12=5/\∃e d',q=(p.1++[e],d')/\zO 47 [.ptr 1000 0 0,wJ c,iA (nx p.2 (max 1 (n:Int))),bA cm] [(1000,cG (ad (ad p.2)))] (wT e) [(1000,cG d')])∨
 (6<=nx (ad p.2) 12/\∃b d',q=(p.1++[⟨3,nx p.2 (max 1 (n:Int)),0,0,b⟩],d')/\∃m0 m1 dA dC q0 q1 b2 d5,BtR c cm (zBa c.ags (nx p.2 (max 1 (n:Int)))) (ad (ad p.2)) b d' m0 m1 dA dC q0 q1 b2 d5)
theorem zVl (c:Cf) (hc:CfW c) (ha:MB c.ags) (n:Nat) (hn:n<=8) (cm:Bool) (p:List Ev×Dk) (hp:∀e∈p.1,ZP e) (hl:p.2.a<p.2.l.length):
  ∃q,scR c n cm p q/\(∀e∈q.1,ZP e)/\p.1.length<q.1.length/\q.1.length<=p.1.length+6/\rem q.2<rem p.2:=by
 obtain⟨l,d⟩:=p;dsimp only at hp hl;have r0:=zS0 d hl;have r1:=wP (ad d);have b0:=yD d (max 1 (n:Int)) zB;have b1:=yD (ad d) 12 zB;have b2:=yD (ad (ad d)) 6 zB;have r2:=wP (ad (ad d));have one:∀e,ZP e->∀x∈l++[e],ZP x:=λe he x hx=>(zZa.1 hx).elim (hp x) λhx=>by rw[zZu.1 hx];exact he
 have len:∀e:Ev,(l++[e]).length=l.length+1:=λe=>by rw[zYr,yA8]
 by_cases h3:nx (ad d) 12<=3
 ·exact⟨_,.inl ⟨h3,rfl⟩,one _ zBl,by dsimp only;rw[len];omega,by dsimp only;rw[len];omega,by dsimp only;omega⟩
 by_cases h4:nx (ad d) 12=4
 ·refine⟨_,.inr (.inl ⟨h4,rfl⟩),λx hx=>(zZa.1 hx).elim (hp x) λhx=>by rw[(yCy.1 hx).2];exact zBl,?_,?_,by dsimp only;omega⟩
  ·dsimp only;rw[zYr,zZ0];omega
  ·dsimp only;rw[zYr,zZ0];omega
 by_cases h5:nx (ad d) 12=5
 ·obtain⟨e,d',he,hr,k⟩:=zUs c (nx d (max 1 (n:Int))) zB zB cm (ad (ad d));exact⟨_,.inr (.inr (.inl ⟨h5,e,d',rfl,k⟩)),one _ he,by dsimp only;rw[len];omega,by dsimp only;rw[len];omega,by dsimp only;omega⟩
 ·have hg:=zUr ha (nx d (max 1 (n:Int)));obtain⟨b,d',⟨yb,lb,hr⟩,h⟩:=zVk c hc cm (zBa c.ags (nx d (max 1 (n:Int)))) zB (ad (ad d));exact⟨_,.inr (.inr (.inr ⟨by dsimp only;omega,b,d',rfl,h⟩)),one _ (show ZP ⟨3,nx d (max 1 (n:Int)),0,0,b⟩from evb zB zB zB zB yb lb),by dsimp only;rw[len];omega,by dsimp only;rw[len];omega,by dsimp only;omega⟩
theorem zDr (c:Cf) (hc:CfW c) (ha:MB c.ags) (n:Nat) (hn:n<=8) (cm:Bool) (l:List Ev) (d:Dk) (hl:KM l 100):
  ∃(f:Nat->List Ev×Dk) (N:Nat),f 0=(l,d)/\(∀i,i<N->scR c n cm (f i) (f (i+1))/\(f i).2.a<(f i).2.l.length/\(f i).1.length<150)/\¬((f N).2.a<(f N).2.l.length/\(f N).1.length<150)/\KM (f N).1 156/\∀i,i<=N->(f i).1.length<=156:=by
 obtain⟨f,f0,hf⟩:=zFw (λ_ (p:List Ev×Dk)=>∀e∈p.1,ZP e) (λ_ p q=>p.2.a<p.2.l.length->scR c n cm p q/\p.1.length<q.1.length/\q.1.length<=p.1.length+6/\rem q.2<rem p.2)
  (λi p hp=>by
   by_cases h:p.2.a<p.2.l.length
   ·obtain⟨q,h1,h2,h3,h4,h5⟩:=zVl c hc ha n hn cm p hp h;exact⟨q,λ_=>⟨h1,h3,h4,h5⟩,h2⟩
   ·exact⟨p,λh'=>absurd h' h,hp⟩) (l,d) hl.2
 have hst:∃k,¬((f k).2.a<(f k).2.l.length/\(f k).1.length<150):=by
  refine yBx λhc=>?_
  have hall:∀k,(f k).2.a<(f k).2.l.length/\(f k).1.length<150:=λk=>yBx λh=>hc ⟨k,h⟩
  have hlen:∀k,k<=(f k).1.length:=λk=>by
   induction k with
   |zero=>exact zY4 _
   |succ k ih=>have:=((hf k).2 (hall k).1).2.1;omega
  have:=hlen 150;have:=(hall 150).2;omega
 obtain⟨k,hk⟩:=hst;obtain⟨N,_,hN,hmin⟩:=zI9 (P:=λk=>¬((f k).2.a<(f k).2.l.length/\(f k).1.length<150)) k hk;have hlt:∀i,i<N->(f i).2.a<(f i).2.l.length/\(f i).1.length<150:=λi hi=>yBx λh=>hmin i hi h
 have hle:∀i,i<=N->(f i).1.length<=156:=λi hi=>by
  cases i with
  |zero=>rw[f0];have:=hl.1;dsimp only;omega
  |succ i=>
   have h1:=hlt i zB;have h2:=((hf i).2 h1.1).2.2.1;omega
 exact⟨f,N,f0,λi hi=>⟨((hf i).2 (hlt i hi).1).1,hlt i hi⟩,hN,⟨hle N (zYs _),(hf N).1⟩,hle⟩
def drE (g:Nat):Ev:=⟨4,0,g,0,dS (2000+10*g)⟩
def rgE (c:Cf) (F:Nat×Nat->List Int) (g v:Nat):Ev:=⟨3,BQ c.ags g c.ags.length,0,0,F (g,v)⟩
def l1E (i:Nat):List Ev:=(List.range i).map zVj
def l2E (c:Cf) (F:Nat×Nat->List Int) (n:Nat):Nat->List Ev
 |0=>l1E n
 |g+1=>l2E c F n g++[drE g]++(List.range 3).map (rgE c F g)
theorem zDs (c:Cf) (hc:CfW c) (ha:MB c.ags) (cm:Bool) (d:Dk):∃(l:List Ev) (d':Dk),KM l 160/\zO 14 [.ptr 1000 0 0,wJ c,bA cm] [(1000,cG d)] (zD wT l) [(1000,cG d')]:=by
 have ks:=zPv c ha;have hb1:=jR ha c.ags.length (zYs _);have han:=ha.1;obtain⟨n,hn⟩:∃n:Nat,gJ c.ags c.ags.length=(n:Int):=⟨(gJ c.ags c.ags.length).toNat,zB⟩;rw[hn]at ks;have hn8:n<=8:=by omega
 clear hb1 hn;have hal:=zA wN c.ags
 obtain⟨fR,hfR⟩:=Classical.skolem.1 (λp:Nat×Nat=>show∃q,p.1<4/\p.2<3->BY q/\q.length<=210/\zO 45 [yB ⟨4,(p.1:Int)::0::dS (1000+(p.1:Int)),[(p.2:Int),(p.2:Int).tmod 2],[]⟩] [] (zD yA q) []from by
  by_cases h:p.1<4/\p.2<3
  ·obtain⟨q,h1,h2,h3⟩:=CK _ (zUt (p.1:Int) (p.2:Int) zB zB);exact⟨q,λ_=>⟨h1,h2,h3⟩⟩
  ·exact⟨[],λh'=>absurd h' h⟩)
 have hl2:∀g,g<=c.ags.length->KM (l2E c fR n g) (n+4*g):=λg=>by
  induction g with
  |zero=>
   intro _;refine⟨by simp[l2E,l1E],λe he=>?_⟩;obtain⟨s,hs,rfl⟩:=zZ3.1 he;rw[zZi]at hs;exact evb zB zB zB zB kF zU
  | succ g ih=>
   intro hg;have h1:=zA9 ha (g:Int) c.ags.length (zYs _);have h2:KM [drE g] 1:=⟨zYs _,λe he=>by rw[zZu.1 he];exact evb zB zB zB zB (ZX _) (by rw[jG];omega)⟩
   have h3:KM ((List.range 3).map (rgE c fR g)) 3:=⟨by simp,λe he=>by
    obtain⟨v,hv,rfl⟩:=zZ3.1 he;rw[zZi]at hv;obtain⟨q1,q2,_⟩:=hfR (g,v) ⟨by dsimp only;omega,hv⟩
    exact evb zB zB zB zB q1 zB⟩
   exact(((ih zB).app2 h2).app2 h3).le zB
 have hL:=(hl2 c.ags.length (zYs _)).app zBl;obtain⟨f,N,f0,hf,hend,hfl,hle⟩:=zDr c hc ha n hn8 cm (l2E c fR n c.ags.length++[tkE]) d (hL.le zB);refine⟨(f N).1++[tkE],(f N).2,(hfl.app zBl).le zB,?_⟩;unfold wJ at *;refine eM call14 λF hF=>?_
 refine zW ks ?_;refine xK 7 1001 5 rfl rfl rfl ?_;refine zP (n) [1001,4,1000] [4,1000] [0,2,4,8,17] [7,18,0,2,4,8,17] rfl (λi T U=>⟨(7,.ref 1001 0 ((l1E i).map wT).length)::(18,iA i)::T,(1001,.arr 5 ((l1E i).map wT) true)::U⟩) ?_;(conv=>whnf);refine⟨by rfl,?_,?_⟩
 ·intro i hi;have e:(l1E (i+1)).map wT=(l1E i).map wT++[wT (zVj i)]:=by unfold l1E;rw[yBa,zYz];simp
  have hln:((l1E i).map wT).length=i:=by simp[l1E]
  rw[e];generalize (l1E i).map wT=X at*
  (repeat' (first|refine aT ?_|refine xR (λhc=>?_) (λhc=>?_)|refine wE (λhc=>?_)|(refine zE ?_;first|(refine yZ ?_;refine UG 23 rfl rfl rfl ?_;refine kH tok rfl rfl ?_))|refine SB ?_|fail))
  rfl
 ·(refine WW ?_)
  refine zP ((c.ags.map wN).length) [1001,4,1000] [4,1000] [0,2,4,8,29] [7,30,0,2,4,8,29] rfl (λi T U=>⟨(7,.ref 1001 0 ((l2E c fR n i).map wT).length)::(30,iA i)::T,(1001,.arr 5 ((l2E c fR n i).map wT) true)::U⟩) ?_;(conv=>whnf);refine⟨by rfl,?_,?_⟩
  ·intro g hg;have kc:=eX (2000+10*(g:Int));have kb:=zPw c ha (g:Int);have kt:=eX (1000+(g:Int));have ky:=aP (g:Int) 0 (dS (1000+(g:Int))) (by rw[jG];omega) zB zB zB zB;have hln:=(hl2 g zB).1;have hln2:((l2E c fR n g).map wT).length=(l2E c fR n g).length:=zYq ..;have e2:(l2E c fR n (g+1)).map wT=((l2E c fR n g).map wT++[wT (drE g)])++((List.range 3).map (rgE c fR g)).map wT:=by simp[l2E]
   rw[e2];unfold wJ at kb;generalize (l2E c fR n g).map wT=X at*
   (have zc1:=kc;(repeat' (first|refine aT ?_|refine xR (λhc=>?_) (λhc=>?_)|refine wE (λhc=>?_)|(refine zE ?_;first|(refine yZ ?_;refine kH tok rfl rfl ?_))|refine SB ?_|fail))<;>clear zc1)
   refine zP (3) [1001,4,1000] [4,1000] [0,2,4,8,10,29,30] [7,42,0,2,4,8,10,29,30] rfl (λi T U=>⟨(7,.ref 1001 0 (X++[wT (drE g)]++((List.range i).map (rgE c fR g)).map wT).length)::(42,iA i)::T,(1001,.arr 5 (X++[wT (drE g)]++((List.range i).map (rgE c fR g)).map wT) true)::U⟩) ?_;(conv=>whnf);refine⟨by(rw[show X++[wT (drE g)]++((List.range 0).map (rgE c fR g)).map wT=X++[wT (drE g)]from zZo _];rfl),?_,?_⟩
   ·intro v hv;have kf:=(hfR (g,v) ⟨by dsimp only;omega,hv⟩).2.2;dsimp only at kf;have e3:X++[wT (drE g)]++((List.range (v+1)).map (rgE c fR g)).map wT=X++[wT (drE g)]++((List.range v).map (rgE c fR g)).map wT++[wT (rgE c fR g v)]:=by rw[yBa];simp
    have hl3:(X++[wT (drE g)]++((List.range v).map (rgE c fR g)).map wT).length<=100:=by simp;omega
    rw[e3];unfold yB at kf;rw[show wT (rgE c fR g v)= .agg [iA 3,iA (BQ c.ags g c.ags.length),iA 0,iA 0,zD yA (fR (g,v))]from rfl];generalize X++[wT (drE g)]++((List.range v).map (rgE c fR g)).map wT=Y at *;generalize fR (g,v)=fr at *;generalize BQ c.ags g c.ags.length=bz at *;generalize dS (1000+(g:Int))=sc at*
    (have zc1:=kb;have zc2:=kt;have zc3:=ky;have zc4:=kf;(repeat' (first|refine aT ?_|refine xR (λhc=>?_) (λhc=>?_)|refine wE (λhc=>?_)|(refine zE ?_;first|(refine yZ ?_;refine kH tok rfl rfl ?_))|refine SB ?_|fail))<;>clear zc1 zc2 zc3 zc4)
    rfl
   ·(refine WW ?_)
    rfl
  ·rw [hal];have hl9:=(hl2 c.ags.length (zYs _)).1;have hl10:((l2E c fR n c.ags.length).map wT).length=(l2E c fR n c.ags.length).length:=zYq ..
   (repeat' (first|refine aT ?_|refine xR (λhc=>?_) (λhc=>?_)|refine wE (λhc=>?_)|(refine zE ?_;first|(refine yZ ?_;refine UG 66 rfl rfl rfl ?_;refine kH tok rfl rfl ?_))|refine SB ?_|fail))
   refine zP (N) [1000,1001,4] [4] [0,2,4,8] [7,0,2,4,8] rfl (λi T U=>⟨(7,.ref 1001 0 ((f i).1.map wT).length)::T,(1000,cG (f i).2)::(1001,.arr 5 ((f i).1.map wT) true)::U⟩) ?_;(conv=>whnf);refine⟨by(rw[f0,VA];rfl),?_,?_⟩
   ·intro i hi;obtain⟨hR,hlt,h150⟩:=hf i hi;have hml:((f i).1.map wT).length=(f i).1.length:=zYq ..;clear hf hend hfl hle f0 hL hl9 hl10 hl2 hfR ks;generalize f (i+1)=q at *;generalize f i=p at *;obtain⟨l,d⟩:=p;dsimp only at *;have lf:=zG5 d;rw[zYu hlt]at lf;have b1:=yD d (max 1 (n:Int)) zB;have b2:=yD (ad d) 12 zB;have n1:=yJ d (max 1 (n:Int)) zB zB;have n2:=yJ (ad d) 12 zB zB;have ko:=zKs c ha (nx d (max 1 (n:Int))) zB zB;unfold scR wJ at hR;unfold wJ at ko;generalize nx d (max 1 (n:Int))=s at *;generalize nx (ad d) 12=k at *;generalize ad (ad d)=d2 at *;generalize ad d=d1 at*
    rcases hR with⟨h3,rfl⟩|⟨h4,rfl⟩|⟨h5,e,d',rfl,kd⟩|⟨h6,b,d',rfl,m0,m1,dA,dC,q0,q1,e2,d5,hB⟩
    ·dsimp only;rw[VA,show wT tkE= .agg [iA 6,iA 0,iA 0,iA 0,.sl false []]from rfl];generalize l.map wT=X at *;have:k=0∨k=1∨k=2∨k=3:=by omega
     rcases this with h|h|h|h
     all_goals
      (have zc1:=lf;have zc2:=n1;have zc3:=n2;(repeat' (first|refine aT ?_|refine xR (λhc=>?_) (λhc=>?_)|refine wE (λhc=>?_)|(refine zE ?_;first|(refine yZ ?_;refine UG 128 rfl rfl rfl ?_;refine kH tok rfl rfl ?_))|refine SB ?_|fail))<;>clear zc1 zc2 zc3)
      rfl
    ·dsimp only;have n3:=yJ d2 6 zB zB;have b3:=yD d2 6 zB;generalize ad d2=d3 at *;obtain⟨z,hz⟩:∃z:Nat,nx d2 6=(z:Int):=⟨(nx d2 6).toNat,zB⟩;rw[hz]at n3 b3⊢;rw[show((z:Int)+1).toNat=z+1 by omega,zYz,yCd,show wT tkE= .agg [iA 6,iA 0,iA 0,iA 0,.sl false []]from rfl];generalize l.map wT=X at*
     (have zc1:=lf;have zc2:=n1;have zc3:=n2;have zc4:=n3;(repeat' (first|refine qS ?_|refine xR (λhc=>?_) (λhc=>?_)|refine wE (λhc=>?_)|fail))<;>clear zc1 zc2 zc3 zc4)
     refine zP ((z+1)) [1001,4,1000] [4,1000] [0,2,4,8] [7,13,0,2,4,8] rfl (λi T U=>⟨(7,.ref 1001 0 (X++List.replicate i (AV.agg [iA 6,iA 0,iA 0,iA 0,.sl false []])).length)::(13,iA ((z:Int)-i))::T,(1001,.arr 5 (X++List.replicate i (AV.agg [iA 6,iA 0,iA 0,iA 0,.sl false []])) true)::U⟩) ?_;(conv=>whnf);refine⟨by(rw[yDe,zZo,show(z:Int)-(0:Nat)=z by omega];rfl),?_,?_⟩
     ·intro r hr;have hlr:(X++List.replicate r (AV.agg [iA 6,iA 0,iA 0,iA 0,.sl false []])).length<=200:=by simp;omega
      rw[show List.replicate (r+1) (AV.agg [iA 6,iA 0,iA 0,iA 0,.sl false []])=List.replicate r (AV.agg [iA 6,iA 0,iA 0,iA 0,.sl false []])++[AV.agg [iA 6,iA 0,iA 0,iA 0,.sl false []]]from yD0,<-zZc,show(z:Int)-((r+1:Nat):Int)=(z:Int)-r-1 by omega];generalize X++List.replicate r (AV.agg [iA 6,iA 0,iA 0,iA 0,.sl false []])=Y at *;have z0:0<=(z:Int)-r:=by omega
      have z1:(z:Int)-r<=10:=by omega
      generalize (z:Int)-r=w at*
      (repeat' (first|refine aT ?_|refine xR (λhc=>?_) (λhc=>?_)|refine wE (λhc=>?_)|(refine zE ?_;first|(refine yZ ?_;refine UG 140 rfl rfl rfl ?_;refine kH tok rfl rfl ?_))|refine SB ?_|fail))
      rfl
     ·rw[show(z:Int)-((z+1:Nat):Int)= -1 by omega];refine WW ?_;rfl
    ·dsimp only;rw[VA];generalize l.map wT=X at*
     (have zc1:=lf;have zc2:=n1;have zc3:=n2;have zc4:=kd;(repeat' (first|refine aT ?_|refine xR (λhc=>?_) (λhc=>?_)|refine wE (λhc=>?_)|(refine zE ?_;first|(refine yZ ?_;refine kH tok rfl rfl ?_))|refine SB ?_|fail))<;>clear zc1 zc2 zc3 zc4)
     rfl
    ·dsimp only;rw[VA,show wT ⟨3,s,0,0,b⟩= .agg [iA 3,iA s,iA 0,iA 0,zD yA b]from rfl];obtain⟨k0,f0,k1,f1,h2,g5,sp,hb',hd',l0,l1⟩:=hB;unfold wJ yB at *;have n3:=yJ dA 3 zB zB;have n4:=yJ d5 7 zB zB;have n5:=yJ (ad d5) 99 zB zB;have n6:=yJ (ad (ad d5)) 1024 zB zB;have c3:=yD dA 3 zB;have c4:=yD d5 7 zB;have m0:=zA yA q0;have m1:=zA yA q1;generalize l.map wT=X at *;generalize nx dA 3=u at *;generalize nx d5 7=v at *;by_cases hu:u=2
     ·rw[zYp hu]at h2 g5;subst g5;subst h2;have em:zD yA (q0++q1)= .sl false (q0.map yA++q1.map yA):=by unfold zD;rw[zYz]
      rw[em]at sp;have ez:zD yA (q0++q1)= .sl false (List.take (q0.map yA++q1.map yA).length (List.drop 0 (q0.map yA++q1.map yA))):=by rw[em,zZv,zYv]
      cases cm with
      |true=>
       rw[zYp rfl]at hd';subst hd';have hbe:=hb' (λh=>by cases h.1);subst hbe;rw[ez];clear sp hb'
       (have zc1:=lf;have zc2:=n1;have zc3:=n2;have zc4:=ko;have zc5:=k0;have zc6:=f0;have zc7:=n3;have zc8:=k1;have zc9:=f1;have zc10:=n4;have zc11:=n5;have zc12:=n6;(repeat' (first|refine aT ?_|refine xR (λhc=>?_) (λhc=>?_)|refine wE (λhc=>?_)|(refine zE ?_;first|(refine yZ ?_;refine gB [1000,1001,4] [0,2,4,8,116,119] rfl ?_;(conv=>whnf);refine kH tok rfl rfl ?_)|(refine yW ?_;refine uL tok rfl rfl rfl rfl rfl rfl rfl rfl rfl rfl rfl (yY _ _ (λ_=>rfl)) zB rfl ?_))|refine SB ?_|fail))<;>clear zc1 zc2 zc3 zc4 zc5 zc6 zc7 zc8 zc9 zc10 zc11 zc12)
       rfl
      | false=>
       rw[zYo zZb]at hd';by_cases hv:v=6
       ·rw[zYp hv]at hd';subst hd';have sp:=sp rfl hv;clear hb'
        (have zc1:=lf;have zc2:=n1;have zc3:=n2;have zc4:=ko;have zc5:=k0;have zc6:=f0;have zc7:=n3;have zc8:=k1;have zc9:=f1;have zc10:=n4;have zc11:=n5;have zc12:=n6;have zc13:=sp;have zf1:=(⟨⟩:FzD 50 [1000,1001,4] [0,2,4,7,8,12,110,112,114]);(repeat' (first|refine aT ?_|refine xR (λhc=>?_) (λhc=>?_)|refine wE (λhc=>?_)|(refine zE ?_;first|(refine yZ ?_;refine gB [1000,1001,4] [0,2,4,8,116,119] rfl ?_;(conv=>whnf);refine kH tok rfl rfl ?_)|(refine yW ?_;refine uL tok rfl rfl rfl rfl rfl rfl rfl rfl rfl rfl rfl (yY _ _ (λ_=>rfl)) zB rfl ?_))|refine SB ?_|fail))<;>clear zc1 zc2 zc3 zc4 zc5 zc6 zc7 zc8 zc9 zc10 zc11 zc12 zc13 zf1)
        rfl
       ·rw[zYo hv]at hd';subst hd';have hbe:=hb' (λh=>hv h.2);subst hbe;rw[ez];clear sp hb'
        (have zc1:=lf;have zc2:=n1;have zc3:=n2;have zc4:=ko;have zc5:=k0;have zc6:=f0;have zc7:=n3;have zc8:=k1;have zc9:=f1;have zc10:=n4;have zc11:=n5;have zc12:=n6;(repeat' (first|refine aT ?_|refine xR (λhc=>?_) (λhc=>?_)|refine wE (λhc=>?_)|(refine zE ?_;first|(refine yZ ?_;refine gB [1000,1001,4] [0,2,4,8,116,119] rfl ?_;(conv=>whnf);refine kH tok rfl rfl ?_)|(refine yW ?_;refine uL tok rfl rfl rfl rfl rfl rfl rfl rfl rfl rfl rfl (yY _ _ (λ_=>rfl)) zB rfl ?_))|refine SB ?_|fail))<;>clear zc1 zc2 zc3 zc4 zc5 zc6 zc7 zc8 zc9 zc10 zc11 zc12)
        rfl
     ·rw[zYo hu]at h2 g5;subst g5;subst h2;have em:∀z,zD yA z= .sl false (z.map yA):=λz=>rfl
      rw[em e2]at sp;have ez:zD yA e2= .sl false (List.take (e2.map yA).length (List.drop 0 (e2.map yA))):=by rw[zZv,zYv];rfl
      cases cm with
      |true=>
       rw[zYp rfl]at hd';subst hd';have hbe:=hb' (λh=>by cases h.1);subst hbe;rw[ez];clear sp hb'
       (have zc1:=lf;have zc2:=n1;have zc3:=n2;have zc4:=ko;have zc5:=k0;have zc6:=f0;have zc7:=n3;have zc8:=k1;have zc9:=f1;have zc10:=n4;have zc11:=n5;have zc12:=n6;(repeat' (first|refine aT ?_|refine xR (λhc=>?_) (λhc=>?_)|refine wE (λhc=>?_)|(refine zE ?_;first|(refine yZ ?_;refine gB [1000,1001,4] [0,2,4,8,116,119] rfl ?_;(conv=>whnf);refine kH tok rfl rfl ?_)|(refine yW ?_;refine uL tok rfl rfl rfl rfl rfl rfl rfl rfl rfl rfl rfl (yY _ _ (λ_=>rfl)) zB rfl ?_))|refine SB ?_|fail))<;>clear zc1 zc2 zc3 zc4 zc5 zc6 zc7 zc8 zc9 zc10 zc11 zc12)
       rfl
      | false=>
       rw[zYo zZb]at hd';by_cases hv:v=6
       ·rw[zYp hv]at hd';subst hd';have sp:=sp rfl hv;clear hb'
        (have zc1:=lf;have zc2:=n1;have zc3:=n2;have zc4:=ko;have zc5:=k0;have zc6:=f0;have zc7:=n3;have zc8:=k1;have zc9:=f1;have zc10:=n4;have zc11:=n5;have zc12:=n6;have zc13:=sp;have zf1:=(⟨⟩:FzD 50 [1000,1001,4] [0,2,4,7,8,12,110,112,114]);(repeat' (first|refine aT ?_|refine xR (λhc=>?_) (λhc=>?_)|refine wE (λhc=>?_)|(refine zE ?_;first|(refine yZ ?_;refine gB [1000,1001,4] [0,2,4,8,116,119] rfl ?_;(conv=>whnf);refine kH tok rfl rfl ?_)|(refine yW ?_;refine uL tok rfl rfl rfl rfl rfl rfl rfl rfl rfl rfl rfl (yY _ _ (λ_=>rfl)) zB rfl ?_))|refine SB ?_|fail))<;>clear zc1 zc2 zc3 zc4 zc5 zc6 zc7 zc8 zc9 zc10 zc11 zc12 zc13 zf1)
        rfl
       ·rw[zYo hv]at hd';subst hd';have hbe:=hb' (λh=>hv h.2);subst hbe;rw[ez];clear sp hb'
        (have zc1:=lf;have zc2:=n1;have zc3:=n2;have zc4:=ko;have zc5:=k0;have zc6:=f0;have zc7:=n3;have zc8:=k1;have zc9:=f1;have zc10:=n4;have zc11:=n5;have zc12:=n6;(repeat' (first|refine aT ?_|refine xR (λhc=>?_) (λhc=>?_)|refine wE (λhc=>?_)|(refine zE ?_;first|(refine yZ ?_;refine gB [1000,1001,4] [0,2,4,8,116,119] rfl ?_;(conv=>whnf);refine kH tok rfl rfl ?_)|(refine yW ?_;refine uL tok rfl rfl rfl rfl rfl rfl rfl rfl rfl rfl rfl (yY _ _ (λ_=>rfl)) zB rfl ?_))|refine SB ?_|fail))<;>clear zc1 zc2 zc3 zc4 zc5 zc6 zc7 zc8 zc9 zc10 zc11 zc12)
        rfl
   ·rw[show zD wT ((f N).1++[tkE])= .sl false ((f N).1.map wT++[wT tkE]) by unfold zD;rw[VA]];have hlN:=hfl.1;have hml:((f N).1.map wT).length=(f N).1.length:=zYq ..;have lf:=zG5 (f N).2;clear hf hfl hle f0 hL hl9 hl10 hl2 hfR ks;generalize f N=p at *;obtain⟨l,d⟩:=p;dsimp only at *;rw[show wT tkE= .agg [iA 6,iA 0,iA 0,iA 0,.sl false []]from rfl];by_cases hlt:d.a<d.l.length
    ·have h150:¬l.length<150:=λh=>hend ⟨hlt,h⟩
     rw[zYu hlt]at lf;generalize l.map wT=X at*
     (have zc1:=lf;(repeat' (first|refine aT ?_|refine xR (λhc=>?_) (λhc=>?_)|refine wE (λhc=>?_)|(refine zE ?_;first|(refine yZ ?_;refine UG 154 rfl rfl rfl ?_;refine kH tok rfl rfl ?_))|refine SB ?_|fail))<;>clear zc1)
     exact zI [1000] rfl rfl (zZl (AV.sl false) zYv) rfl
    ·rw[zYw hlt]at lf;generalize l.map wT=X at*
     (have zc1:=lf;(repeat' (first|refine aT ?_|refine xR (λhc=>?_) (λhc=>?_)|refine wE (λhc=>?_)|(refine zE ?_;first|(refine yZ ?_;refine UG 154 rfl rfl rfl ?_;refine kH tok rfl rfl ?_))|refine SB ?_|fail))<;>clear zc1)
     exact zI [1000] rfl rfl (zZl (AV.sl false) zYv) rfl
end Av
end Go.Proofs.YtmamjhmoegjapaaGreat
