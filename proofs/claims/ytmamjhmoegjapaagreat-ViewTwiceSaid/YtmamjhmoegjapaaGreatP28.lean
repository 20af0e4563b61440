/- Part 28. -/
import Derived.Test.YtmamjhmoegjapaaGreatP27
namespace Go.Proofs.YtmamjhmoegjapaaGreat
namespace Av
open Tryz
set_option linter.all false
set_option maxRecDepth 4000
set_option maxHeartbeats 4000000
structure DY (c:Cf):Prop where
 j:1<=c.js.length/\c.js.length<=4
 jv:∀j∈c.js,JV j
 a:1<=c.ags.length/\c.ags.length<=4
 av:∀a∈c.ags,AgV a
 p:1<=c.per/\c.per<=600
 cp:0<=c.cap/\c.cap<=100
 h:1<=c.hold/\c.hold<=60
 l:0<=c.lock/\c.lock<=600
theorem zZ {α:Type} [Inhabited α] (l:List α) (i:Nat) (h:i<l.length):l.getD i default∈l:=by
 rw[zY0,zZd h];exact yBm _
theorem DY.w {c:Cf} (h:DY c):CfW c:=⟨h.j.2,λj hj=>(h.jv j hj).n⟩
theorem DY.ag {c:Cf} (h:DY c):MB c.ags:=⟨h.a.2,λa ha=>(h.av a ha).e⟩
theorem zRk (d:Dk) (r:Int) (hr:0<=r/\r<=63):DY (RC d r):=by
 have hn:=zVz d r;have h1:=yD d (4-1+1) zB;have h2:=yD (ad d) 4 zB;have h3:=yD (ad (ad d)) (3-1+1) zB;have h4:=yD (ad (ad (ad d))) 5 zB;refine⟨zB,λj hj=>?_,zB,λa ha=>?_,?_,?_,?_,?_⟩
 ·rw[zF1]at hj;obtain⟨e,rfl⟩:=zBo _ _ j hj;exact zUw e
 ·obtain⟨i,hi,rfl⟩:=yAz ha;have:=(zR1 d r hr (i:Int) zB zB).1.v;rw[show(i:Int).toNat=i from rfl]at this;rw[show(RC d r).ags[i]=(RC d r).ags.getD i default by simp[List.getD,hi]];exact this
 all_goals (unfold RC;dsimp only;omega)
theorem zFb (c:Cf) (h:DY c):zO 88 [wJ c] [] (bA true) []:=by
 have hj:=h.j;have ha:=h.a;have hjl:=zA wC c.js;have hal:=zA wN c.ags;have w1:=dO ((c.js.map wC).length:Int) 1 4 zB;have w2:=dO ((c.ags.map wN).length:Int) 1 4 zB;have w3:=dO c.per 1 600 h.p;have w4:=dO c.cap 0 100 h.cp;have w5:=dO c.hold 1 60 h.h;have w6:=dO c.lock 0 600 h.l;unfold wJ zD;refine eM call88 λF hF=>?_
 refine xA (vD w1 w2) ?_;refine zP ((c.js.map wC).length) [1] [1] [1,20,21] [22,1,20,21] rfl (λi T U=>⟨(22,iA i)::T,U⟩) ?_;(conv=>whnf);refine⟨by rfl,?_,?_⟩
 ·intro i hi;have hy:=zN wC c.js i zB;have kj:=RG _ (h.jv _ (zZ c.js i zB));generalize c.js.getD i default=j at *;refine zW kj ?_;rfl
 ·(refine WW ?_)
  refine zP ((c.ags.map wN).length) [1] [1] [1,31,32] [33,1,31,32] rfl (λi T U=>⟨(33,iA i)::T,U⟩) ?_;(conv=>whnf);refine⟨by rfl,?_,?_⟩
  ·intro i hi;have hy:=zN wN c.ags i zB;have kj:=zEd _ (h.av _ (zZ c.ags i zB));generalize c.ags.getD i default=a at *;refine zW kj ?_;rfl
  ·(refine xA (aG w3 w4 w5 w6) ?_)
   exact zL
def HM (c:Cf) (i:Nat):List xQ:=(List.range i).map λk:Nat=>XJ (k:Int) (c.ags.getD k default) (c.ags.getD k default).ses.toNat
def NK (j:Jn):Sv:=zP5 j.ph.length
def ZI (c:Cf):Cy:=⟨c,false,0,HM c c.ags.length,c.js.map fU,c.js.map NK,c.js.map λ_=> -1,c.js.map λj=>CI j (fU j) (NK j)⟩
theorem zUg (c:Cf) (h:DY c):zO 40 [wJ c] [] (qB (ZI c)) []:=by
 have kp:=zFb c h;have hj:=h.j;have ha:=h.a;have hjl:=zA wC c.js;have hal:=zA wN c.ags;have hdl:∀i,((HM c i).map zK).length=i:=λi=>by simp[HM]
 have hfin:qB (ZI c)= .agg [zD wC c.js,zD wN c.ags,iA c.per,iA c.cap,iA c.hold,iA c.lock,bA false,iA 0,zD zK (HM c c.ags.length),zD vF (c.js.map fU),zD vC (c.js.map NK),zD iA (c.js.map λ_=> -1),zD vO (c.js.map λj=>CI j (fU j) (NK j))]:=rfl;rw[hfin];unfold wJ zD at *;refine eM call40 λF hF=>?_
 refine zW kp ?_;refine vW 3 8 1011 17 rfl rfl rfl rfl rfl ?_;refine zP ((c.ags.map wN).length) [3,1011,1,2] [1,2] [1,2,3,35,36] [37,1,2,3,35,36] rfl (λi T U=>⟨(37,iA i)::T,(3,.box [.sl false (c.js.map wC),.sl false (c.ags.map wN),iA c.per,iA c.cap,iA c.hold,iA c.lock,bA false,iA 0,.ref 1011 0 ((HM c i).map zK).length,.s (.slice none 0 0),.s (.slice none 0 0),.s (.slice none 0 0),.s (.slice none 0 0)])::(1011,.arr 17 ((HM c i).map zK) true)::U⟩) ?_;(conv=>whnf);refine⟨by rfl,?_,?_⟩
 ·intro i hi;have hy:=zN wN c.ags i zB;have kd:=(zQv (i:Int) _ (h.av _ (zZ c.ags i zB))).1;have e:(HM c (i+1)).map zK=(HM c i).map zK++[zK (XJ (i:Int) (c.ags.getD i default) (c.ags.getD i default).ses.toNat)]:=by unfold HM;rw[yBa,zYz,zYz];rfl
  have hdl:=hdl i;rw[e];clear kp hfin e;generalize XJ (i:Int) (c.ags.getD i default) (c.ags.getD i default).ses.toNat=dk at *;generalize c.ags.getD i default=a at *;generalize (HM c i).map zK=X at *;unfold zK wH at*
  (have zc1:=kd;(repeat' (first|refine aT ?_|refine xR (λhc=>?_) (λhc=>?_)|refine wE (λhc=>?_)|(refine zE ?_;first|(refine yZ ?_;refine kH tok rfl rfl ?_))|refine SB ?_|fail))<;>clear zc1)
  rfl
 ·(refine WW ?_)
  refine vW 3 9 1012 5 rfl rfl rfl rfl rfl ?_;refine vW 3 10 1013 3 rfl rfl rfl rfl rfl ?_;refine vW 3 11 1014 1 rfl rfl rfl rfl rfl ?_;refine vW 3 12 1015 4 rfl rfl rfl rfl rfl ?_;rw[hal];refine zP ((c.js.map wC).length) [3,1012,1013,1014,1015,2,1011] [2,1011] [2,3,52,53] [54,2,3,52,53] rfl (λi T U=>⟨(54,iA i)::T,(3,.box [.sl false (c.js.map wC),.sl false (c.ags.map wN),iA c.per,iA c.cap,iA c.hold,iA c.lock,bA false,iA 0,.ref 1011 0 ((HM c c.ags.length).map zK).length,.ref 1012 0 (((c.js.take i).map fU).map vF).length,.ref 1013 0 (((c.js.take i).map NK).map vC).length,.ref 1014 0 ((c.js.take i).map λ_=>iA (-1)).length,.ref 1015 0 (((c.js.take i).map λj=>CI j (fU j) (NK j)).map vO).length])::(1012,.arr 5 (((c.js.take i).map fU).map vF) true)::(1013,.arr 3 (((c.js.take i).map NK).map vC) true)::(1014,.arr 1 ((c.js.take i).map λ_=>iA (-1)) true)::(1015,.arr 4 (((c.js.take i).map λj=>CI j (fU j) (NK j)).map vO) true)::U⟩) ?_;(conv=>whnf);refine⟨by rfl,?_,?_⟩
  ·intro i hi;have hi':i<c.js.length:=by omega
   have hy:=zN wC c.js i hi';have J:=h.jv _ (zZ c.js i hi')
   have et:c.js.take (i+1)=c.js.take i++[c.js.getD i default]:=by
    rw[zY0,zZd hi',yA1,yCu hi']
   have hlt:(c.js.take i).length<=4:=by rw[zY5];omega
   have k1:=zKz _ J;have k2:=zU3 (c.js.getD i default).ph.length zB8;have k3:=zKp _ J (fU (c.js.getD i default)) (zKu J) (NK (c.js.getD i default));have hpl:((c.js.getD i default).ph.map vE).length=(c.js.getD i default).ph.length:=zYq ..;rw[et];simp only[zYz,yAa,yA5];have m1:(((c.js.take i).map fU).map vF).length=(c.js.take i).length:=by simp
   have m2:(((c.js.take i).map NK).map vC).length=(c.js.take i).length:=by simp
   have m3:((c.js.take i).map λ_=>iA (-1)).length=(c.js.take i).length:=by simp
   have m4:(((c.js.take i).map λj=>CI j (fU j) (NK j)).map vO).length=(c.js.take i).length:=by simp
   rw[show zP5 (c.js.getD i default).ph.length=NK (c.js.getD i default)from rfl,<-hpl]at k2;clear et hfin kp;generalize CI (c.js.getD i default) (fU (c.js.getD i default)) (NK (c.js.getD i default))=w at *;generalize fU (c.js.getD i default)=s at *;generalize NK (c.js.getD i default)=v at *;generalize c.js.getD i default=j at *;generalize ((c.js.take i).map fU).map vF=X1 at *;generalize ((c.js.take i).map NK).map vC=X2 at *;generalize (c.js.take i).map (λ_=>iA (-1))=X3 at *;generalize ((c.js.take i).map λj=>CI j (fU j) (NK j)).map vO=X4 at *;unfold wC zD vF vC vO at*
   (have zc1:=k1;have zc2:=k2;have zc3:=k3;(repeat' (first|refine aT ?_|refine xR (λhc=>?_) (λhc=>?_)|refine wE (λhc=>?_)|(refine zE ?_;first|(refine yZ ?_;refine kH tok rfl rfl ?_))|refine SB ?_|fail))<;>clear zc1 zc2 zc3)
   rfl
  ·rw[hjl,zYv];refine WW ?_;refine zI [] rfl rfl ?_ rfl
   show AV.agg [.sl false (c.js.map wC),.sl false (c.ags.map wN),iA c.per,iA c.cap,iA c.hold,iA c.lock,bA false,iA 0,.sl false (List.take ((HM c c.ags.length).map zK).length (List.drop 0 ((HM c c.ags.length).map zK))),.sl false (List.take ((c.js.map fU).map vF).length (List.drop 0 ((c.js.map fU).map vF))),.sl false (List.take ((c.js.map NK).map vC).length (List.drop 0 ((c.js.map NK).map vC))),.sl false (List.take (c.js.map λ_=>iA (-1)).length (List.drop 0 (c.js.map λ_=>iA (-1)))),.sl false (List.take ((c.js.map λj=>CI j (fU j) (NK j)).map vO).length (List.drop 0 ((c.js.map λj=>CI j (fU j) (NK j)).map vO)))]=_
   rw[zZv,zYv,zZv,zYv,zZv,zYv,zZv,zYv,zZv,zYv,show(c.js.map λ_=>iA (-1))=(c.js.map λ_=>(-1:Int)).map iA by rw[yC4];rfl]
theorem zUh (j:Int) (x:Lg):zO 201 [xW x,.ptr 5 0 0] [(5,.box [iA j])] (bA (x.jn==j)) [(5,.box [iA j])]:=by
 refine eM call201 λF hF=>?_
 refine WW ?_;exact zJ [5] rfl rfl rfl rfl
theorem zUi (j:Int) (l:List Lg) (hb:l.length<=1000):zO 200 [zD xW l,.fn 201 [.ptr 5 0 0]] [(5,.box [iA j])] (iA (TA (λr:Lg=>r.jn==j) l)) [(5,.box [iA j])]:=by
 have hl:=zA xW l;refine eM call200 λF hF=>?_
 refine WW ?_;refine kR (l) [5] [5] [0,1,7] [8,0,1,7] rfl (λi pre T U zs=>(∀y∈pre,(y.jn==j)=false)/\zs=⟨(8,iA i)::T,U⟩) ?_;(conv=>whnf);refine⟨?_,?_,?_⟩
 ·exact⟨by simp,rfl⟩
 ·rintro i pre x post st hx hi ⟨hp,rfl⟩;have hy:=xO xW hx hi;have hlt:=yX hx hi;have c:=zUh j x;have hit:=QI (p:=λr:Lg=>r.jn==j) hx hp
  cases he:(x.jn==j)<;>rw[he]at c
  ·clear hx hit;refine zW c ?_;exact⟨λy hy=>by simp only[zZa,zZu]at hy;rcases hy with hy|rfl;exact hp y hy;exact he,rfl⟩
  ·rw[hit he,hi];clear hx hit;refine zW c ?_;exact zJ [5] rfl rfl rfl rfl
 ·rintro st ⟨hp,rfl⟩;rw[ZF hp];refine WW ?_;exact zJ [5] rfl rfl rfl rfl
def DZ (ag j:Int) (x:Rq):List Cl:=if TA (λr:Lg=>r.jn==j) x.legs<0 then []else if(x.legs.getD (TA (λr:Lg=>r.jn==j) x.legs).toNat default).sc= -1 then []else [⟨ag,x.id,(x.legs.getD (TA (λr:Lg=>r.jn==j) x.legs).toNat default).ph,x.cls,(x.legs.getD (TA (λr:Lg=>r.jn==j) x.legs).toNat default).sc⟩]
def bC (ag j:Int) (l:List Rq):List Cl:=(l.map (DZ ag j)).flatten
theorem zJ4 (ag j:Int) (x:Rq):(DZ ag j x).length<=1:=by
 unfold DZ;split
 ·exact zY4 _
 ·split
  ·exact zY4 _
  ·exact zYs _
theorem zFc (ag j:Int) (l:List Rq) (x:Rq):bC ag j (l++[x])=bC ag j l++DZ ag j x:=by simp[bC]
theorem ZJ (ag j:Int):∀l:List Rq,(bC ag j l).length<=l.length
 | []=>zYs _
 |x::l=>by
  have h1:=zJ4 ag j x;have h2:=ZJ ag j l;have e:bC ag j (x::l)=DZ ag j x++bC ag j l:=rfl;rw[e,zYr,zY2];omega
theorem zFd (l:List Rq) (ag j:Int) (hn:l.length<=1000) (hb:∀r∈l,r.legs.length<=1000):zO 164 [zD yL l,iA ag,iA j] [] (zD dR (bC ag j l)) []:=by
 have hl:=zA yL l;refine eM call164 λF hF=>?_
 refine WW ?_;refine xK 7 1001 5 rfl rfl rfl ?_;refine yS (l) [1001,5] [5] [1,5,12,13] [7,14,1,5,12,13] rfl (λi pre T U=>⟨(7,.ref 1001 0 ((bC ag j pre).map dR).length)::(14,iA i)::T,(1001,.arr 5 ((bC ag j pre).map dR) true)::U⟩) ?_;(conv=>whnf);refine⟨by rfl,?_,?_⟩
 ·intro i pre x post hx hi;have hy:=xO yL hx hi;have hlt:=yX hx hi;have kx:=zUi j x.legs (hb x (wY hx));have hq:=ZJ ag j pre;have hql:((bC ag j pre).map dR).length=(bC ag j pre).length:=zYq ..;have hpl:pre.length<=l.length:=by rw[hx];simp
  have hxl:(x.legs.map xW).length=x.legs.length:=zYq ..;rw[zFc,zYz]
  have hlo: -1<=TA (λr:Lg=>r.jn==j) x.legs/\(0<=TA (λr:Lg=>r.jn==j) x.legs->TA (λr:Lg=>r.jn==j) x.legs<x.legs.length):=by
   cases ha:x.legs.any (λr:Lg=>r.jn==j)with
   |true=>have:=zAv ha;omega
   |false=>rw[TA,ha,zYo zZb];omega
  unfold DZ;clear hx;generalize (bC ag j pre).map dR=X at *;by_cases h0:TA (λr:Lg=>r.jn==j) x.legs<0
  ·rw[zYp h0,yA5,zZo];generalize TA (λr:Lg=>r.jn==j) x.legs=at1 at *;refine zW kx ?_;rfl
  ·rw[zYo h0];have hyg:=yP xW x.legs (TA (λr:Lg=>r.jn==j) x.legs) zB zB;generalize TA (λr:Lg=>r.jn==j) x.legs=at1 at *;generalize x.legs.getD at1.toNat default=g at *;by_cases h1:g.sc= -1
   ·rw[zYp h1,yA5,zZo];refine zW kx ?_;rfl
   ·rw[zYo h1];refine zW kx ?_;rfl
 ·(refine WW ?_)
  exact zI [] rfl rfl (zZl (AV.sl false) zYv) rfl
def dM (j:Int) (l:List xQ):List Cl:=(l.map λd=>bC d.rg.num j d.rq).flatten
theorem zFe (j:Int) (l:List xQ) (d:xQ):dM j (l++[d])=dM j l++bC d.rg.num j d.rq:=by simp[dM]
theorem CA (j:Int):∀l:List xQ,(∀d∈l,d.rq.length<=1000)->(dM j l).length<=1000*l.length
 | [],_=>zYs _
 |d::l,h=>by
  have h1:=ZJ d.rg.num j d.rq;have h2:=CA j l (λx hx=>h x VX);have h3:=h d zU;have e:dM j (d::l)=bC d.rg.num j d.rq++dM j l:=rfl;rw[e,zYr,zY2];omega
theorem zFf (c:Cf) (rf:Bool) (now:Int) (ds:List xQ) (j:Int) (hd:ds.length<=1000) (hb:∀d∈ds,eU d) (A B C D:List AV) (a b e f:Nat):
  zO 113 [YV c rf now (zD zK ds) (.ref 1012 0 a) (.ref 1013 0 b) (.ref 1014 0 e) (.ref 1015 0 f),iA j] [(1012,.arr 5 A false),(1013,.arr 3 B false),(1014,.arr 1 C false),(1015,.arr 4 D false)] (zD dR (dM j ds)) [(1012,.arr 5 A false),(1013,.arr 3 B false),(1014,.arr 1 C false),(1015,.arr 4 D false)]:=by
 have hl:=zA zK ds;unfold YV;refine eM call113 λF hF=>?_
 refine WW ?_;refine xK 5 1001 5 rfl rfl rfl ?_;refine yS (ds) [1001,1012,1013,1014,1015] [1012,1013,1014,1015] [1,9,10] [5,11,1,9,10] rfl (λi pre T U=>⟨(5,.ref 1001 0 ((dM j pre).map dR).length)::(11,iA i)::T,(1001,.arr 5 ((dM j pre).map dR) true)::U⟩) ?_;(conv=>whnf);refine⟨by rfl,?_,?_⟩
 ·intro i pre x post hx hi;have hy:=xO zK hx hi;have hlt:=yX hx hi;have hbx:=hb x (wY hx);have kx:=zFd x.rq x.rg.num j hbx.q hbx.g;have hq:=CA j pre (λd hd=>(hb d (by rw[hx];simp[hd])).q);have hql:((dM j pre).map dR).length=(dM j pre).length:=zYq ..;have hq2:=ZJ x.rg.num j x.rq;have hq3:((bC x.rg.num j x.rq).map dR).length=(bC x.rg.num j x.rq).length:=zYq ..;have hpl:pre.length<=ds.length:=by rw[hx];simp
  have hxq:=hbx.q;rw[zFe,zYz];clear hx;generalize (dM j pre).map dR=X at *;unfold zD at kx;generalize bC x.rg.num j x.rq=Y at *;unfold zK wH at hy;refine zW kx ?_;rfl
 ·(refine WW ?_)
  exact zI [1012,1013,1014,1015] rfl rfl (zZl (AV.sl false) zYv) rfl
theorem CB (a:Ag) (h:1<=a.ses/\a.ses<=2):zO 115 [wN a] [] (iA a.ses) []:=by
 refine eM call115 λF hF=>?_
 refine WW ?_;refine zI [] rfl rfl (zZl iA ?_) rfl;omega
def plA (a k s:Nat):AV:= .agg [iA a,iA k,iA s]
def zFg (c:Cf) (a:Nat):List (Nat×xP):=[(1103,.box [iA a]),(1104,.box [zD wC c.js,zD wN c.ags,iA c.per,iA c.cap,iA c.hold,iA c.lock])]
def HN (c:Cf) (a:Nat):List (List AV):=(List.range (c.ags.getD a default).ses.toNat).map λk=>[plA a k ((gJ c.ags a).toNat+k)]
theorem zC4 (c:Cf) (a:Nat):zO 65 [wJ c,iA a] [] (.fn 114 [.ptr 1104 0 0,.ptr 1103 0 0]) (zFg c a):=by
 unfold wJ zFg;refine eM call65 λF hF=>?_
 repeat' (first|(refine zE ?_;first|refine uF (kZ (v:=AV.agg _) 1104 rfl rfl) rfl rfl rfl ?_|refine uF (kZ (v:=AV.s _) 1103 rfl rfl) rfl rfl rfl ?_|refine wZ tok rfl rfl ?_|refine uM ?_)|(first|refine xM ?_|refine xB ?_|refine wU rfl ?_|refine zV rfl ?_|refine zQ rfl ?_|refine xF rfl (λhc=>?_) (λhc=>?_)|refine yV ?_|refine yQ ?_|refine xC ?_|refine yN ?_))
 exact zJ [1103,1104] rfl rfl rfl rfl
theorem zJ5 (c:Cf) (h:MB c.ags) (a:Nat) (ha:a<c.ags.length):bR prog 114 [.ptr 1104 0 0,.ptr 1103 0 0] (zFg c a) (HN c a):=by
 have hl:=zA wN c.ags;have hn:=h.1;have hs:=h.at ha;refine dJ func114 rfl (λargs w=>call114 args w) rfl rfl rfl (λF y hro hit hY=>?_);unfold zFg;have htl:((c.ags.take (a:Int).toNat).map wN).length=a:=by rw[zYq,zY5];omega
 have hts:∀i,i<=a->gJ (c.ags.take a) i=gJ c.ags i:=λi=>by
  induction i with
  |zero=>intro _;rfl
  |succ i ih=>
   intro hi;unfold gJ;rw[ih zB,zY0,zZ2,zYp zB,<-zY0]
 refine WW ?_;refine zP (a) [1103,1104] [1103,1104] [0,1,2,11,12] [4,13,1000000,0,1,2,11,12] rfl (λi T U=>⟨(4,iA (gJ c.ags i))::(13,iA i)::(1000000,.gh 0)::T,U⟩) ?_;(conv=>whnf);refine⟨by rfl,?_,?_⟩
 ·intro i hi
  have hy:((c.ags.take (a:Int).toNat).map wN)[i]? =some (wN (c.ags.getD i default)):=by
   show((c.ags.take a).map wN)[i]? =_
   rw[zYt,zZ2,zYp hi,zY0,zZd zB];rfl
  have h2:=h.at (i:=i) zB;have hb:=jR h i zB;have kc:=CB (c.ags.getD i default) h2;rw[show gJ c.ags (i+1)=gJ c.ags i+(c.ags.getD i default).ses from rfl];clear hts hs hY;generalize gJ c.ags i=z at *;generalize c.ags.getD i default=g at *;refine zW kc ?_;rfl
 ·have hy:=zN wN c.ags a ha;have kc:=CB (c.ags.getD a default) hs;have hb:=jR h a zB;obtain⟨bs,hbs⟩:∃bs:Nat,gJ c.ags a=(bs:Int):=⟨(gJ c.ags a).toNat,zB⟩;obtain⟨N,hN⟩:∃N:Nat,(c.ags.getD a default).ses=(N:Int):=⟨(c.ags.getD a default).ses.toNat,zB⟩;have hL:HN c a=(List.range N).map λk=>[plA a k (bs+k)]:=by unfold HN;rw[hbs,hN];rfl
  rw[hbs]at hb⊢;rw[hN]at kc hs;rw[hL]at hY⊢;clear hL hN hts;generalize c.ags.getD a default=g at *;refine zW kc ?_;refine zP (N) [1103,1104] [1103,1104] [0,2,4,27] [28,1000000,0,2,4,27] rfl (λi T U=>⟨(28,iA i)::(1000000,.gh i)::T,U⟩) ?_;(conv=>whnf);refine⟨by rfl,?_,?_⟩
  ·intro k hk
   have hys:((List.range N).map λk=>[plA a k (bs+k)])[k]? =some [plA a k (bs+k)]:=by
    rw[zYt,zZr hk];rfl
   have hlen:k<((List.range N).map λk=>[plA a k (bs+k)]).length:=by simp;exact hk
   rw[show plA a k (bs+k)= .agg [iA (a:Int),iA (k:Int),iA ((bs:Int)+k)]from by unfold plA;rw[show((bs+k:Nat):Int)=(bs:Int)+k by omega]]at hys;generalize ((List.range N).map λk=>[plA a k (bs+k)])=xs at*
   (repeat' (first|refine qS ?_|refine xR (λhc=>?_) (λhc=>?_)|refine wE (λhc=>?_)|(refine zE ?_;refine xT ?_;first|(refine aB ?_;refine UI hit hY rfl rfl hys rfl rfl rfl ?_ ?_))|(refine zE ?_;first|refine SM ?_)|fail))
   ·rfl
   ·exact gA rfl (.inr zB)
  ·(refine WW ?_)
   exact cB rfl (.inl zU)
def GO (f g gr:Int) (ar:List Int):Nat->List Int
 |0=>[]
 |i+1=>(if(i:Int)=f/\0<g then GO f g gr ar i++cO gr else GO f g gr ar i)++cO (ar.getD i default)
def KJ (f g gr:Int) (ar:List Int) (i:Nat):List Int:=if(i:Int)=f/\0<g then GO f g gr ar i++cO gr else GO f g gr ar i
theorem CD {n:Int} (h:n<128):(cO n).length=1:=by unfold cO;rw[NB h];rfl
theorem zW5 {n:Int} (h:n<16384):(cO n).length<=2:=by
 by_cases h1:n<128
 ·rw[CD h1];omega
 ·unfold cO;rw[IY zB,NB zB];simp
theorem HO (f g gr:Int) (ar:List Int):∀i,(GO f g gr ar i).length<=10*i
 |0=>zYs _
 |i+1=>by
  have:=HO f g gr ar i;have h1:=fD gr;have h2:=fD (ar.getD i default);unfold GO
  split<;>simp only[zYr]<;>omega
theorem zPm (f g gr:Int) (ar:List Int) (i:Nat):(KJ f g gr ar i).length<=10*i+5:=by
 have:=HO f g gr ar i;have h1:=fD gr;unfold KJ
 split<;>(try simp only[zYr])<;>omega
theorem zJ6 {f g gr:Int} (hg:0<=gr/\gr<=4294967295) {ar:List Int} (ha:RH ar):∀i,i<=ar.length->BY (GO f g gr ar i)
 |0,_=>λx hx=>by cases hx
 | i+1,hi=>by
  have ih:=zJ6 (f:=f) (g:=g) hg ha i zB;have h1:=KU hg.1 hg.2;have h2:=ha (ar.getD i default) (zZ ar i zB);have h3:=KU h2.1 h2.2;unfold GO;intro x hx
  rcases zZa.1 hx with hx|hx
  ·split at hx
   ·exact(zZa.1 hx).elim (ih x) (h1 x)
   ·exact ih x hx
  ·exact h3 x hx
theorem zUj {f g gr:Int} (hg:0<=gr/\gr<=4294967295) {ar:List Int} (ha:RH ar) (i:Nat) (hi:i<=ar.length):BY (KJ f g gr ar i):=by
 have ih:=zJ6 (f:=f) (g:=g) hg ha i hi;have h1:=KU hg.1 hg.2;unfold KJ;intro x hx;split at hx
 ·exact(zZa.1 hx).elim (ih x) (h1 x)
 ·exact ih x hx
theorem zUk (k f g lo hi sd gr:Int) (ar da:List Int) (c1:zO 124 [iA k] [] (.tup [YQ ⟨0,f,g,lo,hi,sd⟩,bA true]) []) (c2:zO 125 [YQ ⟨0,f,g,lo,hi,sd⟩,iA ((ar.map iA).length:Int)] [] (.tup [iA gr,bA true]) [])
  (hd:sd= -1∨(da.length:Int)=sd) (ha:RH ar) (hal:ar.length<=100) (hg:0<=gr/\gr<=4294967295) (hz:(KJ f g gr ar ar.length++da).length<=200):
  zO 72 [yB ⟨k,[],ar,da⟩] [] (.tup [zD yA (KJ f g gr ar ar.length++da),iA 0]) []:=by
 have c3:=SP [] zU;have hla:=zA iA ar;have hld:=zA yA da;have cg:=zWp gr hg.1 hg.2;have hlg:=zA yA (cO gr);have hvg:=fD gr;have hpl:=HO f g gr ar;have hpg:=zPm f g gr ar;have hp0:GO f g gr ar 0=[]:=rfl
 have hpG:∀i:Nat,KJ f g gr ar i=if(i:Int)=f/\0<g then GO f g gr ar i++cO gr else GO f g gr ar i:=λ_=>rfl
 have hpS:∀i:Nat,GO f g gr ar (i+1)=KJ f g gr ar i++cO (ar.getD i default):=λ_=>rfl
 have hz3:(KJ f g gr ar ar.length).length+da.length<=200:=by rw[zYr]at hz;exact hz
 have hz:((KJ f g gr ar ar.length).map yA++da.map yA).length<=200:=by rw[zYr]at hz;simp;omega
 have hd3:da.length<=200:=by omega
 rw[show zD yA (KJ f g gr ar ar.length++da)= .sl false (List.take ((KJ f g gr ar ar.length).map yA++da.map yA).length (List.drop 0 ((KJ f g gr ar ar.length).map yA++da.map yA))) by rw[zZv,zYv];unfold zD;rw[zYz]];rw[show yB ⟨k,[],ar,da⟩= .agg [iA k,zD yA [],zD iA ar,zD yA da]from rfl];rw[show YQ ⟨0,f,g,lo,hi,sd⟩= .agg [iA 0,iA f,iA g,iA lo,iA hi,iA sd]from rfl]at *; generalize KJ f g gr ar=pg at *;generalize GO f g gr ar=py at *;clear hz3
 rcases hd with h2|h2
 all_goals
  refine eM call72 λF hF=>?_
  refine xA (gK c1 c2 c3) ?_
 all_goals
  refine vZ 1001 rfl ?_;refine xV (ar.length+1) [1001,1,4] [1,4] [1,4,6,64] [7,65,1,4,6,64] rfl (λi T U zs=>(i<=ar.length)/\zs=⟨(7,.ref 1001 0 ((py i).map yA).length)::(65,iA i)::T,(1001,.arr 1 ((py i).map yA) true)::U⟩) ?_;(conv=>whnf);refine⟨?_,?_,?_⟩
  ·refine⟨zY4 _,?_⟩;rw[hp0];rfl
  ·rintro i st' hi ⟨hik,rfl⟩;have hbl:=hpl i;have hb2:=hpg i;have hg:=hpG i;have hlp:=zA yA (py i);have hlP:=zA yA (pg i)
   have hmG:(pg i).map yA=if(i:Int)=f/\0<g then(py i).map yA++(cO gr).map yA else(py i).map yA:=by
    rw[hg];split
    ·rw[zYz]
    ·rfl
   by_cases hie:i=ar.length
   ·subst hie;clear hpS hg hpl hpg hpG hp0 c1 c2 c3;generalize (py ar.length).map yA=A at *;generalize (pg ar.length).map yA=B at *;generalize cO gr=W at *;by_cases hi1:(ar.length:Int)=f
    ·by_cases hi2:0<g
     ·rw[zYp ⟨hi1,hi2⟩]at hmG;subst hmG;refine zW cg ?_;exact zL
     ·rw[zYo (λh=>hi2 h.2)]at hmG;subst hmG;refine WW ?_;exact zL
    ·rw[zYo (λh=>hi1 h.1)]at hmG;subst hmG;refine WW ?_;exact zL
   have hna:=ha (ar.getD i default) (zZ ar i zB);have cv:=zWp (ar.getD i default) hna.1 hna.2;have hy:=zN iA ar i zB;have hS:=hpS i;have hlv:=zA yA (cO (ar.getD i default));have hvv:=fD (ar.getD i default);have hmS:(py (i+1)).map yA=(pg i).map yA++(cO (ar.getD i default)).map yA:=by rw[hS,zYz]
   rw[hmS];clear hS hg hpl hpg hpG hpS hp0 hmS c1 c2 c3 hz ha;generalize (pg ar.length).map yA=E at *;generalize (py i).map yA=A at *;generalize (pg i).map yA=B at *;generalize cO (ar.getD i default)=V at *;generalize ar.getD i default=a at *;generalize cO gr=W at *;by_cases hi1:(i:Int)=f
   ·by_cases hi2:0<g
    ·rw[zYp ⟨hi1,hi2⟩]at hmG;subst hmG;refine xA (vD cg cv) ?_;exact⟨zB,rfl⟩
    ·rw[zYo (λh=>hi2 h.2)]at hmG;subst hmG;refine zW cv ?_;exact⟨zB,rfl⟩
   ·rw[zYo (λh=>hi1 h.1)]at hmG;subst hmG;refine zW cv ?_;exact⟨zB,rfl⟩
  ·rintro st' ⟨hik,rfl⟩;exfalso;omega
def dP (k:Int):Int×Int×Int×Int×Int:=if k=16 then(1,0,0,0,10)else if k=17∨k=21 then(1,0,0,0,-1)else if k=18 then(1,3,0,16,0)else if k=19 then(0,2,0,4,0)else if k=20 then(4,0,0,0,0)else(2,0,0,0,0)
theorem zPn (k:Int) (h:13<=k/\k<=21):zO 124 [iA k] [] (.tup [YQ ⟨0,(dP k).1,(dP k).2.1,(dP k).2.2.1,(dP k).2.2.2.1,(dP k).2.2.2.2⟩,bA true]) []:=by
 have:k=13∨k=14∨k=15∨k=16∨k=17∨k=18∨k=19∨k=20∨k=21:=by omega
 rcases this with rfl|rfl|rfl|rfl|rfl|rfl|rfl|rfl|rfl
 all_goals
  refine eM call124 λF hF=>?_
  refine WW ?_;exact zL
theorem zJ7 (f g lo hi sd n gr:Int) (hn:0<=n/\n<=100) (hf:0<=f/\f<=4) (h:(g=0/\n=f/\gr=0)∨((g=2∨g=3)/\n=f+g*gr/\0<=gr/\lo<=gr/\gr<=hi)):zO 125 [YQ ⟨0,f,g,lo,hi,sd⟩,iA n] [] (.tup [iA gr,bA true]) []:=by
 rw[show YQ ⟨0,f,g,lo,hi,sd⟩= .agg [iA 0,iA f,iA g,iA lo,iA hi,iA sd]from rfl]
 rcases h with⟨rfl,rfl,rfl⟩|⟨rfl|rfl,he,h0,h1,h2⟩
 ·(refine eM call125 λF hF=>?_)
  refine WW ?_;exact zL
 ·have hgr:gr=(n-f).tdiv 2:=by
   rw[yAh zB];omega
  have hm:(n-f).tmod 2=0:=by
   rw[yAi zB];omega
  have hq:XB .i64 ((n-f).tdiv 2):=by
   unfold XB;have e1:IntKind.i64.min= -9223372036854775808:=by decide
   have e2:IntKind.i64.max=9223372036854775807:=by decide
   omega
  have h9:¬n-f<0:=by omega
  subst hgr;clear he;refine eM call125 λF hF=>?_
  refine WW ?_;exact zL
 ·have hgr:gr=(n-f).tdiv 3:=by
   rw[yAh zB];omega
  have hm:(n-f).tmod 3=0:=by
   rw[yAi zB];omega
  have hq:XB .i64 ((n-f).tdiv 3):=by
   unfold XB;have e1:IntKind.i64.min= -9223372036854775808:=by decide
   have e2:IntKind.i64.max=9223372036854775807:=by decide
   omega
  have h9:¬n-f<0:=by omega
  subst hgr;clear he;refine eM call125 λF hF=>?_
  refine WW ?_;exact zL
structure SvM (k:Int) (ar da:List Int):Prop where
 kk:13<=k/\k<=21
 n:RH ar
 l:ar.length<=60
 b:BY da
 d:(dP k).2.2.2.2= -1∨(da.length:Int)=(dP k).2.2.2.2
 g:((dP k).2.1=0/\(ar.length:Int)=(dP k).1)∨(((dP k).2.1=2∨(dP k).2.1=3)/\∃gr:Int,(ar.length:Int)=(dP k).1+(dP k).2.1*gr/\0<=gr/\(dP k).2.2.1<=gr/\gr<=(dP k).2.2.2.1)
 z:(((ar.map cO).flatten).length+1)+da.length<=200
theorem zC5 (f g gr:Int) (hgr:gr<128) (ar:List Int):∀i,i<=ar.length->(GO f g gr ar i).length<=(((ar.take i).map cO).flatten).length+(if f<i then 1 else 0)
 |0,_=>by simp[GO]
 | i+1,hi=>by
  have ih:=zC5 f g gr hgr ar i zB;have h1:=CD hgr
  have e:ar.take (i+1)=ar.take i++[ar.getD i default]:=by
   rw[zY0,zZd zB,yA1,yCu zB]
  rw[e,zYz,yDd];unfold GO;simp only[zYr,yAa,yA5,yBf,List.flatten_nil,zZo,zZz];split
  ·rename_i h2;rw[zYr,h1,zYp zB];rw[zYo zB]at ih;omega
  ·by_cases h3:f<i
   ·rw[zYp h3]at ih;rw[zYp zB];omega
   ·rw[zYo h3]at ih
    split<;>omega
theorem zPo (f g gr:Int) (hgr:gr<128) (ar:List Int):(KJ f g gr ar ar.length).length<=((ar.map cO).flatten).length+1:=by
 have ih:=zC5 f g gr hgr ar ar.length (zYs _);have h1:=CD hgr;rw[zYv]at ih;unfold KJ;split
 ·rename_i h2;rw[zYr,h1];rw[zYo zB]at ih;omega
 ·split at ih<;>omega
theorem zPp (f g gr:Int) (ar:List Int) (h:ar≠[]):1<=(KJ f g gr ar ar.length).length:=by
 have h1:0<ar.length:=List.length_pos_iff.2 h;obtain⟨n,hn⟩:∃n,ar.length=n+1:=⟨ar.length-1,zB⟩
 have h2:1<=(GO f g gr ar ar.length).length:=by
  rw[hn];unfold GO;rw[zYr];have:=(fD (ar.getD n default)).1;omega
 unfold KJ;split
 ·rw[zYr];omega
 ·exact h2
def PyF (k:Int) (ar da p:List Int):Prop:=∃gr:Int,(0<=gr/\gr<=100)/\(((dP k).2.1=0/\(ar.length:Int)=(dP k).1/\gr=0)∨(((dP k).2.1=2∨(dP k).2.1=3)/\(ar.length:Int)=(dP k).1+(dP k).2.1*gr/\0<=gr/\(dP k).2.2.1<=gr/\gr<=(dP k).2.2.2.1))/\p=KJ (dP k).1 (dP k).2.1 gr ar ar.length++da
theorem zJ8 {k:Int} {ar da:List Int} (h:SvM k ar da):∃p,(BY p/\PyF k ar da p)/\(p.length<=200/\(ar≠[]->1<=p.length))/\zO 72 [yB ⟨k,[],ar,da⟩] [] (.tup [zD yA p,iA 0]) []:=by
 have hl:=zA iA ar
 have hf:(0<=(dP k).1/\(dP k).1<=4)/\(dP k).2.2.2.1<=16:=by
  have hk:=h.kk;have:k=13∨k=14∨k=15∨k=16∨k=17∨k=18∨k=19∨k=20∨k=21:=by omega
  clear hk h
  rcases this with rfl|rfl|rfl|rfl|rfl|rfl|rfl|rfl|rfl<;>decide
 obtain⟨hf,hh⟩:=hf
 obtain⟨gr,hg1,hg2,hg3⟩:∃gr:Int,(0<=gr/\gr<=100)/\True/\(((dP k).2.1=0/\((ar.map iA).length:Int)=(dP k).1/\gr=0)∨(((dP k).2.1=2∨(dP k).2.1=3)/\((ar.map iA).length:Int)=(dP k).1+(dP k).2.1*gr/\0<=gr/\(dP k).2.2.1<=gr/\gr<=(dP k).2.2.2.1)):=by
  rw[hl]
  rcases h.g with⟨g1,g2⟩|⟨g1,gr,g2,g3,g4,g5⟩
  ·exact⟨0,zB,trivial,.inl ⟨g1,g2,rfl⟩⟩
  ·exact⟨gr,zB,trivial,.inr ⟨g1,g2,g3,g4,g5⟩⟩
 have c2:=zJ7 _ _ (dP k).2.2.1 (dP k).2.2.2.1 (dP k).2.2.2.2 ((ar.map iA).length:Int) gr (by have:=h.l;omega) hf hg3;have hs:=zPo (dP k).1 (dP k).2.1 gr zB ar;have hz:=h.z;refine⟨KJ (dP k).1 (dP k).2.1 gr ar ar.length++da,⟨?_,gr,hg1,by rw[hl]at hg3;exact hg3,rfl⟩,?_,zUk k _ _ _ _ _ gr ar da (zPn k h.kk) c2 h.d h.n (by have:=h.l;omega) zB (by rw[zYr];omega)⟩
 ·intro x hx;exact(zZa.1 hx).elim (zUj zB h.n ar.length (zYs _) x) (h.b x)
 ·refine⟨by rw[zYr];omega,λh9=>?_⟩;have:=zPp (dP k).1 (dP k).2.1 gr ar h9;rw[zYr];omega
theorem zUl {k:Int} {ar da:List Int} (h:SvM k ar da):zO 119 [yB ⟨k,[],ar,da⟩] [] (bA true) []:=by
 obtain⟨p,_,_,c⟩:=zJ8 h;rw[show yB ⟨k,[],ar,da⟩= .agg [iA k,zD yA [],zD iA ar,zD yA da]from rfl]at *; refine eM call119 λF hF=>?_
 refine zW c ?_;exact zL
theorem WH {k:Int} {ar da:List Int} (h:SvM k ar da):∃p,(BY p/\PyF k ar da p)/\(p.length<=200/\(ar≠[]->1<=p.length))/\zO 20 [yB ⟨k,[],ar,da⟩] [] (.tup [zD yA (frF k p),iA 0]) []:=by
 obtain⟨p,h1,⟨h2,h3⟩,c⟩:=zJ8 h;have hk:=h.kk;have c2:=zVf k p zB zB h1.1 h2;refine⟨p,h1,⟨h2,h3⟩,?_⟩;generalize frF k p=q at *;rw[show yB ⟨k,[],ar,da⟩= .agg [iA k,zD yA [],zD iA ar,zD yA da]from rfl]at *; refine eM call20 λF hF=>?_
 refine xA (vD c c2) ?_;exact zL
def RE (m:Ms):Prop:=m.tok=[]/\SvM m.kind m.args m.data
structure ItK (i:It):Prop where
 y:BY i.pay
 n:i.pay.length<=100000
 k:0<=i.kind/\i.kind<=255
 c:0<=i.code/\i.code<=100
def InS (i:In):Prop:=i.its.length<=1000/\∀x∈i.its,ItK x
theorem InS.b {i:In} (h:InS i):InB i:=⟨h.1,λx hx=>⟨(h.2 x hx).y,(h.2 x hx).n⟩⟩
structure EnK (e:En):Prop where
 a:0<=e.ag/\e.ag<4
 k:0<=e.ki/\e.ki<=255
 c:0<=e.co/\e.co<=100
theorem eK (l:List Int):((l.map cO).flatten).length<=5*l.length:=by
 induction l with
 |nil=>simp
 |cons a l ih=>
  have:=(fD a).2;rw[yAa,yBf,zYr,zY2];omega
theorem sv2 (k a b:Int) (hk:k=13∨k=14∨k=15) (ha:0<=a/\a<=4294967295) (hb:0<=b/\b<=4294967295):RE ⟨k,[],[a,b],[]⟩:=by
 have h:=eK [a,b];refine⟨rfl,?_⟩;dsimp only
 have hs:dP k=(2,0,0,0,0):=by rcases hk with rfl|rfl|rfl<;>rfl
 refine⟨zB,.cons ha (.cons hb .nil),by simp,λx hx=>(by cases hx),?_,?_,by simp only[zY2,zZz]at *; omega⟩
 ·rw[hs];exact .inr rfl
 ·rw[hs];exact .inl ⟨rfl,rfl⟩
theorem zUm {c:Cf} {d:xQ} (hI:uW c d):RH (fG d.rq):=by
 have ho:=hI.v.ok;generalize d.rq=l at *;intro x hx;unfold fG at hx;obtain⟨y,hy,hx⟩:=yCc.1 hx;obtain⟨r,hr,rfl⟩:=zZ3.1 hy;have h:=ho r hr;have h0:=h.i0;have h1:=h.i1;have h2:=h.t0;have h3:=h.t1;simp only[zZ5,yCt,yD5]at hx;omega
theorem zYd {c:Cf} {d:xQ} (hI:uW c d) {s now:Int} (n0:0<=now) (n1:now<=1073741824) {i:It} (hK:ItK i) {h:Hd} (hP:HdP c d s i now h):RE h.p:=by
 have hn:=hI.n;by_cases he:h.e=0
 ·obtain⟨a,_,hr⟩:=hP.yes he
  rcases hr with⟨_,e,_⟩|⟨_,e,_⟩|⟨_,e,_⟩|⟨_,k,sec,hk,⟨hs,hy⟩,e⟩|⟨_,x,x0,x1,e⟩
  ·rw[e];exact sv2 13 _ _ (.inl rfl) zB zB
  ·have h4:=hI.v.n4;have hb:=zUm hI;have hl:=TL d.rq;have hf:=eK (fG d.rq);rw[e];refine⟨rfl,by dsimp only[PG];omega,hb,by dsimp only[PG];omega,λx hx=>(by cases hx),.inr rfl,.inr ⟨.inl rfl,(d.rq.length:Int),?_,zB,by show(0:Int)<=_;omega,by show _<=(4:Int);omega⟩,?_⟩
   ·show((fG d.rq).length:Int)=0+2*(d.rq.length:Int)
    omega
   ·show(((fG d.rq).map cO).flatten).length+1+0<=200
    omega
  ·have h8:=hI.t8;have hv:=hI.vh;have hq:=hI.q;have ha:=hI.a.q;have hl:=hI.bl;have hb:=hI.a.b;have hfr:JK d.rg.tk<=8:=by rw[<-h8];exact yAv _ _
   rw[e];have hf:=eK (bY d).args;refine⟨rfl,by dsimp only[bY];omega,.cons zB (.cons zB (.cons zB (.cons zB .nil))),by simp[bY],λx hx=>(by cases hx),.inr rfl,.inl ⟨rfl,rfl⟩,?_⟩
   show(((bY d).args.map cO).flatten).length+1+0<=200
   have:(bY d).args.length=4:=rfl;omega
  ·rw[e];have hf:=eK [(k:Int)];refine⟨rfl,by dsimp only;omega,.cons zB .nil,by simp,?_,.inr ?_,.inl ⟨rfl,rfl⟩,?_⟩
   ·intro x hx;simp only[zZ5]at hx
    rcases hx with rfl|rfl|hx
    ·omega
    ·omega
    ·exact hy x hx
   ·show((d.rg.num::(k:Int)::sec).length:Int)=10
    simp only[zY2];omega
   ·show(([(k:Int)].map cO).flatten).length+1+(d.rg.num::(k:Int)::sec).length<=200
    simp only[zY2,zZz]at hf⊢;omega
  ·rw[e];exact sv2 14 _ _ (.inr (.inl rfl)) (by have:=hK.k;omega) ⟨x0,x1⟩
 ·have hb:=hP.eb hK.c;rw[(hP.no he).2.1];exact sv2 15 _ _ (.inr (.inr rfl)) (by have:=hK.k;omega) zB
def MA (now:Int) (l:List Rq):Prop:=∀r∈l,∀g∈r.legs,g.sc<=now
theorem MA.mono {a b:Int} {l:List Rq} (h:MA a l) (hab:a<=b):MA b l:=λr hr g hg=>Int.le_trans (h r hr g hg) hab
theorem MA.of {now:Int} (n0:0<=now) {l l':List Rq} (h:MA now l) (hs:QX l l'):MA now l':=λr hr g hg=>by
 rcases hs r hr g hg with h1|⟨r0,h1,g0,h2,h3⟩
 ·omega
 ·rw[h3];exact h r0 h1 g0 h2
theorem MA.mk {now:Int} (n0:0<=now) {l:List Rq} (h:MA now l):MA now (mkQ l now):=λr hr g hg=>by
 unfold mkQ at hr;obtain⟨r0,hr0,rfl⟩:=zZ3.1 hr;unfold mkR at hg;obtain⟨g0,hg0,rfl⟩:=zZ3.1 hg;unfold aU;have:=h r0 hr0 g0 hg0;split
 ·split
  ·exact yAu _
  ·exact this
 ·show(-1:Int)<=now
  omega
theorem zJ9 {c:Cf} {s:Nat} {now:Int} (n0:0<=now) (n1:now<=1073741824) {its:List It} (hK:∀x∈its,ItK x) {f:Nat->TS} {d:xQ} (he:∀e∈(f 0).en,EnK e) (h0:(f 0).rs=[])
  (hs:∀k,k<its.length->StR c (s:Int) now (its.getD k default) (f k) (f (k+1))) (hd:∀k,GU c d (f k).d):∀k,k<=its.length->(∀m∈(f k).rs,RE m)/\(∀e∈(f k).en,EnK e)/\(∀j:Nat,j≠s->(f k).d.au[j]? =(f 0).d.au[j]?)/\(MA now (f 0).d.rq->MA now (f k).d.rq)
 |0,_=>⟨λm hm=>(by rw[h0]at hm;cases hm),he,λ_ _=>rfl,id⟩
 | k+1,hk=>by
  obtain⟨i1,i2,i3,i4⟩:=zJ9 n0 n1 hK he h0 hs hd k zB;obtain⟨h,_,hP,hb⟩:=hs k zB;have hI:=(hd k).i;have hit:=hK _ (zZ its k zB);have hn:=hI.n;rw[hb];refine⟨λm hm=>?_,λe he=>?_,λj hj=>?_,λh9=>MA.of n0 (i4 h9) hP.sc⟩
  ·rcases zZa.1 hm with hm|hm
   ·exact i1 m hm
   ·rw[zZu.1 hm];exact zYd hI n0 n1 hit hP
  ·rcases zZa.1 he with he|he
   ·exact i2 e he
   ·rw[zZu.1 he];exact⟨hn,hit.k,hP.eb hit.c⟩
  ·dsimp only;rw[hP.ax j zB,i3 j hj]
structure DR where
 d:xQ
 R:List (List Ms)
 en:List En
 ks:List Int
def drT (r:DR):AV:=tkT r.d r.R r.en r.ks
structure DtP (c:Cf) (now:Int) (d:xQ) (ins:List In) (r:DR):Prop where
 i:uW c r.d
 ag:r.d.rg.ag=d.rg.ag
 num:r.d.rg.num=d.rg.num
 rn:r.R.length=d.au.length
 rl:∀s,s<d.au.length->(r.R.getD s []).length=(dQ ins s).length
 rv:∀l∈r.R,l.length<=1000/\∀m∈l,RE m
 el:r.en.length<=2000
 en:∀e∈r.en,EnK e
 kl:r.ks.length<=2000
 ks:∀x∈r.ks,0<=x/\x<(c.js.length:Int)
 sc:MA now d.rq->MA now r.d.rq
 au:∀s,s<d.au.length->dQ ins s=[]->r.d.au[s]? =some (SO ins s (d.au.getD s default))
theorem zW6 {ins:List In} (h:∀i∈ins,InS i) (s:Nat):∀x∈dQ ins s,ItK x:=by
 unfold dQ;split
 ·rename_i hs;exact(h _ (zZ ins s hs.1)).2
 ·exact λx hx=>by cases hx
theorem zKa {c:Cf} {now:Int} (n0:0<=now) (n1:now<=1073741824) {ins:List In} (hin:∀i∈ins,InS i) {d:xQ} {zF:Nat->SS} (h0:zF 0=⟨d,[],[],[]⟩) (hz:∀s,GU c d (zF s).d/\SeR c now ins s (zF s) (zF (s+1))):
  ∀s,(zF s).R.length=s/\(∀j,j<s->((zF s).R.getD j []).length=(dQ ins j).length)/\(∀l∈(zF s).R,l.length<=1000/\∀m∈l,RE m)/\(∀e∈(zF s).en,EnK e)/\(∀j,(s<=j∨dQ ins j=[])->(zF s).d.au[j]? =d.au[j]?)/\(MA now d.rq->MA now (zF s).d.rq)
 |0=>by rw[h0];exact⟨rfl,λj hj=>absurd hj (yBb _),λl hl=>(by cases hl),λe he=>(by cases he),λ_ _=>rfl,id⟩
 | s+1=>by
  obtain⟨i0,i1,i2,i3,i4,i5⟩:=zKa n0 n1 hin h0 hz s;obtain⟨f,f0,f1,f2,f3⟩:=(hz s).2;have hsb:=(GV (λi hi=>(hin i hi).b) s).1;obtain⟨r1,r2,r3,r4⟩:=zJ9 n0 n1 (zW6 hin s) (d:=(zF s).d) (f:=f) (by rw[f0];exact i3) (by rw[f0]) f1 (λk=>(f2 k).1) _ (zYs _);rw[f3];dsimp only;have hrl:=(f2 (dQ ins s).length).2.1;refine⟨by rw[zYr,yA8,i0],λj hj=>?_,λl hl=>?_,r2,λj hj=>?_,λh9=>r4 (by rw[f0];exact i5 h9)⟩
  ·rw[zY0];by_cases h:j=s
   ·subst h;rw[zZe zB,i0,yA0];exact hrl
   ·rw[zZf zB,<-zY0];exact i1 j zB
  ·rcases zZa.1 hl with hl|hl
   ·exact i2 l hl
   ·rw[zZu.1 hl];exact⟨zB,r1⟩
  ·by_cases h:j=s
   ·subst h;have he:dQ ins j=[]:=hj.elim (λh=>absurd h zB) id;rw[he,zZz,f0];exact i4 j (.inl (zYs _))
   ·rw[r3 j h,f0];exact i4 j (hj.imp (λh=>by omega) id)
theorem zKb (c:Cf) (d:xQ) (hI:uW c d) (ins:List In) (hil:ins.length=d.au.length) (hin:∀i∈ins,InS i) (now:Int) (n0:0<=now) (n1:now<=1073741824):
  ∃r:DR,DtP c now d ins r/\zO 110 [wJ c,zK d,zD kM ins,iA now] [] (drT r) []:=by
 have hib:∀i∈ins,InB i:=λi hi=>(hin i hi).b
 have hau:d.au.length=1∨d.au.length=2:=by have:=hI.au;have:=hI.a.e;omega
 obtain⟨zF,z0,hz⟩:=zMj c now n0 n1 ins hib (dkU d ins) (zFx hI ins);have hs:=zKa n0 n1 hin z0 (λs=>⟨(hz s).1,(hz s).2.2⟩) d.au.length;obtain⟨hT,⟨_,e2,e3,e4⟩,_⟩:=hz d.au.length;refine⟨⟨dkM (zF d.au.length).d now,(zF d.au.length).R,(zF d.au.length).en,(zF d.au.length).ks⟩,⟨zQr hT.i now n0 n1,hT.a,hT.n,hs.1,hs.2.1,hs.2.2.1,by dsimp only;omega,hs.2.2.2.1,by dsimp only;omega,e4,λh9=>MA.mk n0 (hs.2.2.2.2.2 h9),λs hsl he=>?_⟩,?_⟩
 ·show(zF d.au.length).d.au[s]? =_
  rw[hs.2.2.2.2.1 s (.inr he)]
  show(auF ins d.au)[s]? =_
  unfold auF;rw[uV,zYp hsl,zYp hsl]
 ·show zO 110 [wJ c,zK d,zD kM ins,iA now] [] (tkT (dkM (zF d.au.length).d now) (zF d.au.length).R (zF d.au.length).en (zF d.au.length).ks) []
  rcases hau with hn|hn
  ·rw[hn];exact zDu hI ins zB hib now n0 n1 zF z0 hn zB hz
  ·rw[hn];exact zDv hI ins zB hib now n0 n1 zF z0 hn zB hz
theorem SE {b:List Int} (hb:BY b) {p:It×Nat} (h:XE b=some p):(1<=p.2/\p.2<=b.length)/\(b.length<=100000->ItK p.1):=by
 unfold XE at h;split at h
 ·cases h
 rename_i h0;split at h
 ·cases h;exact⟨⟨zYs _,by dsimp only;omega⟩,λ_=>⟨kF,zY4 _,by dsimp only;omega,by dsimp only;omega⟩⟩
 split at h
 ·cases h
 split at h
 ·cases h;exact⟨⟨zYs _,by dsimp only;omega⟩,λ_=>⟨kF,zY4 _,by dsimp only;omega,by dsimp only;omega⟩⟩
 split at h
 ·cases h
 split at h
 ·cases h;exact⟨⟨zYs _,by dsimp only;omega⟩,λ_=>⟨kF,zY4 _,by dsimp only;omega,by dsimp only;omega⟩⟩
 split at h
 ·cases h;exact⟨⟨by dsimp only;omega,by dsimp only;omega⟩,λ_=>⟨kF,zY4 _,by dsimp only;omega,by dsimp only;omega⟩⟩
 split at h
 ·cases h;exact⟨⟨by dsimp only;omega,by dsimp only;omega⟩,λ_=>⟨kF,zY4 _,by dsimp only;omega,by dsimp only;omega⟩⟩
 ·cases h;rename_i hk;refine⟨⟨by dsimp only;omega,by dsimp only;omega⟩,λhl=>⟨λx hx=>hb x (zZn (zZ1 hx)),by dsimp only;rw[zY5,zZk];omega,?_,by dsimp only;omega⟩⟩;dsimp only;omega
def gM:Nat->List Int->List (It×Nat)
 |0,_=>[]
 |n+1,b=>match XE b with
  |none=>[]
  |some p=>p::gM n (b.drop p.2)
theorem zPq {n:Nat}:∀{b:List Int},BY b->b.length<=100000->∀p∈gM n b,ItK p.1:=by
 induction n with
 |zero=>intro b _ _ p hp;cases hp
 | succ n ih=>
  intro b hb hl p hp;unfold gM at hp;split at hp
  ·cases hp
  ·rename_i q hq;have h:=SE hb hq
   rcases zZ5.1 hp with rfl|hp
   ·exact h.2 hl
   ·exact ih (λx hx=>hb x (zZn hx)) RP p hp
def zFh (l:List (It×Nat)):Nat:=(l.map λp=>p.2).sum
theorem zC6 {n:Nat}:∀{b:List Int},BY b->zFh (gM n b)<=b.length:=by
 induction n with
 |zero=>intro b _;exact zY4 _
 |succ n ih=>
  intro b hb;unfold gM;split
  ·exact zY4 _
  ·rename_i q hq;have h:=SE hb hq;have h2:=ih (b:=b.drop q.2) (λx hx=>hb x (zZn hx));rw[zZk]at h2;simp only[zFh,yAa,List.sum_cons]at *; omega
def psH (b:List Int):List (Nat×xP):=[(1061,.box [zD yA b])]
def psL (b:List Int):List (List AV):=(gM b.length b).map λp=>[vB p.1,iA (p.2:Int)]
theorem zKc (b:List Int):zO 149 [zD yA b] [] (.fn 184 [.ptr 1061 0 0]) (psH b):=by
 unfold psH;refine eM call149 λF hF=>?_
 repeat' (first|(refine zE ?_;first|refine uF (kZ (v:=AV.sl _ _) 1061 rfl rfl) rfl rfl rfl ?_|refine wZ tok rfl rfl ?_|refine uM ?_)|(first|refine xM ?_|refine xB ?_|refine wU rfl ?_|refine zV rfl ?_|refine zQ rfl ?_|refine xF rfl (λhc=>?_) (λhc=>?_)|refine yV ?_|refine yQ ?_|refine xC ?_|refine yN ?_))
 exact zJ [1061] rfl rfl rfl rfl
theorem zKd {n:Nat} {b:List Int} (hb:BY b) (hn:b.length<=n):gM n b=match XE b with
  |none=>[]
  |some p=>p::gM (n-1) (b.drop p.2):=by
 cases n with
 |zero=>
  have h0:b=[]:=zZp zB;subst h0;rfl
 |succ n=>rfl
theorem zFi (b:List Int) (hb:BY b) (hl:b.length<=1000000):bR prog 184 [.ptr 1061 0 0] (psH b) (psL b):=by
 refine dJ func184 rfl (λargs w=>call184 args w) rfl rfl rfl (λF y hro hit hY=>?_);unfold psH;refine WW ?_;refine gY (b.length+1) [1061] [1061] [0] [3,1000000,0] rfl (λzn T U zs=>∃(r:List Int) (pre:List (It×Nat)) (n:Nat),(gM b.length b=pre++gM n r/\BY r/\r.length<=n/\n<=1000000/\zn=n+1)/\zs=⟨(3,zD yA r)::(1000000,.gh pre.length)::T,U⟩) ?_;(conv=>whnf);refine⟨?_,?_⟩
 ·exact⟨b,[],b.length,⟨rfl,hb,zYs _,hl,rfl⟩,rfl⟩
 rintro zn st ⟨r,pre,n,⟨hp,hr,hrn,hn1,rfl⟩,rfl⟩;have kp:=zDm r hr zB;rw[zKd hr hrn]at hp;have hrl:=zA yA r;unfold psL at hY⊢
 cases h:XE r with
 |none=>
  rw[h]at kp hp;rw[show zLp none= .tup [.agg [iA 0,iA 0,.sl false []],iA 0,bA false]from rfl]at kp;dsimp only at hp;rw[zZo]at hp;refine zW kp ?_;exact gA rfl (.inl zB9)
 | some p=>
  rw[h]at kp hp;obtain⟨hp1,hp2⟩:=(SE hr h).1;obtain⟨it,k⟩:=p;dsimp only at hp hp1 hp2;rw[show zLp (some (it,k))= .tup [vB it,iA (k:Int),bA true]from rfl]at kp
  have hys:((gM b.length b).map λp=>[vB p.1,iA (p.2:Int)])[pre.length]? =some [vB it,iA (k:Int)]:=by
   rw[hp,zYt,zZe (zYs _),yA0];rfl
  have hlen:pre.length<((gM b.length b).map λp=>[vB p.1,iA (p.2:Int)]).length:=by rw[zYq,hp];simp
  have hn0:1<=n:=by omega
  generalize ((gM b.length b).map λp=>[vB p.1,iA (p.2:Int)])=xs at *;unfold vB at*
  (repeat' (first|refine qS ?_|refine xR (λhc=>?_) (λhc=>?_)|refine wE (λhc=>?_)|(refine zE ?_;refine xT ?_;first|(first|(refine vT 134 ?_;first|refine yF (zH (kp) rfl rfl rfl rfl rfl) rfl ?_|refine uF (zH (kp) rfl rfl rfl rfl rfl) rfl rfl rfl ?_|refine bJ (zH (kp) rfl rfl rfl rfl rfl) rfl rfl rfl ?_))|(refine aB ?_;refine UI hit hY rfl rfl hys rfl rfl rfl ?_ ?_))|(refine zE ?_;first|refine SM ?_)|fail))
  ·refine⟨n-1+1,zB,r.drop k,pre++[(it,k)],n-1,⟨by rw[hp,zZc];rfl,λx hx=>hr x (zZn hx),by rw[zZk];omega,zB,rfl⟩,?_⟩;rw[zYr,yA8];rfl
  ·exact gA rfl (.inr zB)
structure Pc where
 fr:Nat
 k:Nat
 it:It
def pcA (p:Pc):AV:= .agg [iA (p.fr:Int),iA ((p.fr:Int)+(p.k:Int)),iA p.it.code,iA p.it.kind,zD yA p.it.pay]
def jD:Nat->List Int->Nat->List Pc
 |0,_,_=>[]
 |n+1,r,a=>match XE r with
  |none=>[]
  |some p=>if p.1.code=0 then⟨a,p.2,p.1⟩::jD n (r.drop p.2) (a+p.2)else []
def vfL (b:List Int):List (List AV):=(jD b.length b 0).map λp=>[pcA p]
theorem SF (b:List Int):zO 78 [zD yA b] [] (.fn 133 [.ptr 1061 0 0]) (psH b):=by
 unfold psH;refine eM call78 λF hF=>?_
 repeat' (first|(refine zE ?_;first|refine uF (kZ (v:=AV.sl _ _) 1061 rfl rfl) rfl rfl rfl ?_|refine wZ tok rfl rfl ?_|refine uM ?_)|(first|refine xM ?_|refine xB ?_|refine wU rfl ?_|refine zV rfl ?_|refine zQ rfl ?_|refine xF rfl (λhc=>?_) (λhc=>?_)|refine yV ?_|refine yQ ?_|refine xC ?_|refine yN ?_))
 exact zJ [1061] rfl rfl rfl rfl
theorem NL {n:Nat} {b:List Int} (hn:b.length<=n) (a:Nat):jD n b a=match XE b with
  |none=>[]
  |some p=>if p.1.code=0 then⟨a,p.2,p.1⟩::jD (n-1) (b.drop p.2) (a+p.2)else []:=by
 cases n with
 |zero=>
  have h0:b=[]:=zZp zB;subst h0;rfl
 |succ n=>rfl
theorem zC7 {b:List Int} {p:It×Nat} (h:XE b=some p):1<=p.2:=by
 unfold XE at h
 repeat' split at h
 all_goals (cases h)
 all_goals (dsimp only;omega)
theorem CE:∀{n m:Nat} {r:List Int} {a:Nat},r.length<=n->r.length<=m->jD n r a=jD m r a
 |0,m,r,a,h,_=>by
  have h0:r=[]:=zZp zB;subst h0
  cases m<;>rfl
 |n+1,0,r,a,_,h=>by
  have h0:r=[]:=zZp zB;subst h0;rfl
 | n+1,m+1,r,a,h1,h2=>by
  unfold jD
  cases hp:XE r with
  |none=>rfl
  | some p=>
   dsimp only;have hk:1<=p.2:=zC7 hp
   have h0:r.length≠0:=λh0=>by
    have h0:r=[]:=zZp h0;subst h0;cases hp
   rw[CE (n:=n) (m:=m) RP RP]
theorem WI (b:List Int) (hb:BY b) (hl:b.length<=1000000):bR prog 133 [.ptr 1061 0 0] (psH b) (vfL b):=by
 refine dJ func133 rfl (λargs w=>call133 args w) rfl rfl rfl (λF y hro hit hY=>?_);unfold psH;refine WW ?_;refine gY (b.length+1) [1061] [1061] [0,1] [3,1000000,0,1] rfl (λzn T U zs=>∃(a:Nat) (pre:List Pc) (n:Nat),(jD b.length b 0=pre++jD n (b.drop a) a/\a+n=b.length/\zn=n+1)/\zs=⟨(3,iA (a:Int))::(1000000,.gh pre.length)::T,U⟩) ?_;(conv=>whnf);refine⟨?_,?_⟩
 ·exact⟨0,[],b.length,⟨rfl,zB,rfl⟩,rfl⟩
 rintro zn st ⟨a,pre,n,⟨hp,han,rfl⟩,rfl⟩;have hbl:=zA yA b;by_cases hn:n=0
 ·subst hn;have hp:jD b.length b 0=pre:=by rw[hp];exact zZo _
  unfold vfL at hY⊢;refine WW ?_;exact cB rfl (.inl zB9)
 have hr:BY (b.drop (a:Int).toNat):=λx hx=>hb x (zZn hx)
 have hdl:(b.drop (a:Int).toNat).length=n:=by rw[zZk];omega
 have kp:=zDm (b.drop (a:Int).toNat) hr zB;rw[show b.drop a=b.drop (a:Int).toNat from rfl,NL (n:=n) (b:=b.drop (a:Int).toNat) zB]at hp;unfold vfL at hY⊢
 cases h:XE (b.drop (a:Int).toNat)with
 |none=>
  rw[h]at kp hp;rw[show zLp none= .tup [.agg [iA 0,iA 0,.sl false []],iA 0,bA false]from rfl]at kp;dsimp only at hp;rw[zZo]at hp;refine zW kp ?_;exact gA rfl (.inl zB9)
 | some p=>
  rw[h]at kp hp;obtain⟨hp1,hp2⟩:=(SE hr h).1;obtain⟨it,k⟩:=p;dsimp only at hp hp1 hp2;rw[show zLp (some (it,k))= .tup [vB it,iA (k:Int),bA true]from rfl]at kp;by_cases hc:it.code=0
  ·rw[zYp hc]at hp
   have hys:((jD b.length b 0).map λp=>[pcA p])[pre.length]? =some [pcA ⟨a,k,it⟩]:=by
    rw[hp,zYt,zZe (zYs _),yA0];rfl
   have hlen:pre.length<((jD b.length b 0).map λp=>[pcA p]).length:=by rw[zYq,hp];simp
   have hnx:jD b.length b 0=(pre++[⟨a,k,it⟩])++jD (n-k) (b.drop (a+k)) (a+k):=by
    rw[hp,zZc,show(b.drop (a:Int).toNat).drop k=b.drop (a+k)from yEl]
    show _++(_::jD (n-1) _ _)=_++(_::jD (n-k) _ _)
    rw[CE (n:=n-1) (m:=n-k) RP RP]
   generalize ((jD b.length b 0).map λp=>[pcA p])=xs at *;unfold pcA at hys;dsimp only at hys;unfold vB at*
   (repeat' (first|refine qS ?_|refine xR (λhc=>?_) (λhc=>?_)|refine wE (λhc=>?_)|(refine zE ?_;refine xT ?_;first|(first|(refine vT 134 ?_;first|refine yF (zH (kp) rfl rfl rfl rfl rfl) rfl ?_|refine uF (zH (kp) rfl rfl rfl rfl rfl) rfl rfl rfl ?_|refine bJ (zH (kp) rfl rfl rfl rfl rfl) rfl rfl rfl ?_))|(refine aB ?_;refine UI hit hY rfl rfl hys rfl rfl rfl ?_ ?_))|(refine zE ?_;first|refine SM ?_)|fail))
   ·refine⟨n-k+1,zB,a+k,pre++[⟨a,k,it⟩],n-k,⟨hnx,zB,rfl⟩,?_⟩;rw[zYr,yA8,yEg];rfl
   ·exact gA rfl (.inr zB)
  ·rw[zYo hc,zZo]at hp;unfold vB at *;refine zW kp ?_;exact gA rfl (.inl zB9)
def whE (l:List Pc):Nat:=l.foldl (λ_ p=>p.fr+p.k) 0
def whF (b:List Int):Bool:=decide (whE (jD b.length b 0)=b.length)
theorem zKe {l:List Pc} {i:Nat} {p:Pc} (h:l[i]? =some p):whE (l.take (i+1))=p.fr+p.k:=by
 unfold whE;rw[yA6,h,yDs];rfl
theorem zKf {n:Nat}:∀{r:List Int} {a:Nat},BY r->∀p∈jD n r a,a<=p.fr/\1<=p.k/\p.fr+p.k<=a+r.length/\p.it.code=0:=by
 induction n with
 |zero=>intro r a _ p hp;cases hp
 | succ n ih=>
  intro r a hr p hp;unfold jD at hp;split at hp
  ·cases hp
  ·rename_i q hq;have h:=(SE hr hq).1;split at hp
   ·rename_i hc
    rcases zZ5.1 hp with rfl|hp
    ·exact⟨zYs _,h.1,by dsimp only;omega,hc⟩
    ·obtain⟨h1,h2,h3,h4⟩:=ih (λx hx=>hr x (zZn hx)) p hp;rw[zZk]at h3;exact⟨zB,h2,zB,h4⟩
   ·cases hp
theorem zC8 (b:List Int) (hb:BY b) (hl:b.length<=1000000):zO 77 [zD yA b] [] (bA (whF b)) []:=by
 have kp:=SF b;have ht:=WI b hb hl;have hL:vfL b=(jD b.length b 0).map λp=>[pcA p]:=rfl
 have hbd:=zKf (n:=b.length) (a:=0) hb;have hbl:=zA yA b
 have hw:whF b=decide (whE ((jD b.length b 0).take (vfL b).length)=b.length):=by
  rw[hL,zYq,zYv];rfl
 rw[hw];unfold psH at kp ht;refine eM call77 λF hF=>?_
 refine zW kp ?_
 refine wW hF ht rfl [3] [0,3] rfl rfl rfl rfl rfl rfl rfl rfl rfl (λk ys h=>?_) (λi=>[(3,.box [iA (whE ((jD b.length b 0).take i):Int)])]) (λi=>whE ((jD b.length b 0).take i)<=b.length)
  (T:=[(0,zD yA b),(3,.ptr 3 0 0)]) rfl (zY4 _) (λi ys q hys hI F1 h1 h2=>?_) (λhI=>?_)
 ·rw[hL,zYt,zY1]at h;obtain⟨x,_,rfl⟩:=h;rfl
 ·rw[hL,zYt,zY1]at hys;obtain⟨p,hp,rfl⟩:=hys;rw[zKe hp];obtain⟨b1,b2,b3,_⟩:=hbd p (zZ4 hp);clear hL hbd hp hw ht kp;unfold pcA;refine WW ?_;refine⟨rfl,λF2 g1 g2=>?_⟩;dsimp only;refine WW ?_;rw[yEg];exact⟨rfl,zB⟩
 ·generalize whE ((jD b.length b 0).take (vfL b).length)=e at *;by_cases h:e=b.length
  ·rw[zYu h];refine WW ?_;exact zL
  ·rw[zYw h];refine WW ?_;exact zL
end Av
end Go.Proofs.YtmamjhmoegjapaaGreat
