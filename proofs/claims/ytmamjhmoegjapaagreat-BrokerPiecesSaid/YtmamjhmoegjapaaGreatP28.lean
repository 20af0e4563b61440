/- Part 28. -/
import Derived.Test.YtmamjhmoegjapaaGreatP27
import Derived.Test.YtmamjhmoegjapaaGreatP19
import Derived.Test.YtmamjhmoegjapaaGreatP15
import Derived.Test.YtmamjhmoegjapaaGreatP22
namespace Go.Proofs.YtmamjhmoegjapaaGreat
namespace Av
open Tryz
set_option linter.unusedSimpArgs false
set_option linter.unusedVariables false
set_option maxRecDepth 4000
set_option maxHeartbeats 4000000
structure GY (c:Cf):Prop where
 j:1<=c.js.length/\c.js.length<=4
 jv:∀j∈c.js,JV j
 a:1<=c.ags.length/\c.ags.length<=4
 av:∀a∈c.ags,AgV a
 p:1<=c.per/\c.per<=600
 cp:0<=c.cap/\c.cap<=100
 h:1<=c.hold/\c.hold<=60
 l:0<=c.lock/\c.lock<=600
theorem zZ {α:Type} [Inhabited α] (l:List α) (i:Nat) (h:i<l.length):l.getD i default∈l:=by
 rw[zX5,zYi h];exact yAn _
theorem GY.w {c:Cf} (h:GY c):CfW c:=⟨h.j.2,λj hj=>(h.jv j hj).n⟩
theorem GY.ag {c:Cf} (h:GY c):MX c.ags:=⟨h.a.2,λa ha=>(h.av a ha).e⟩
theorem MV (d:Dk) (r:Int) (hr:0<=r/\r<=63):GY (XU d r):=by
 have hn:=zV2 d r;have h1:=yF d (4-1+1) zB;have h2:=yF (ad d) 4 zB;have h3:=yF (ad (ad d)) (3-1+1) zB;have h4:=yF (ad (ad (ad d))) 5 zB;refine⟨zB,λj hj=>?_,zB,λa ha=>?_,?_,?_,?_,?_⟩
 ·rw[zHy]at hj;obtain⟨e,rfl⟩:=zB4 _ _ j hj;exact zR7 e
 ·obtain⟨i,hi,rfl⟩:=yAa ha;have:=(zSo d r hr (i:Int) zB zB).1.v;rw[show(i:Int).toNat=i from rfl]at this;rw[show(XU d r).ags[i]=(XU d r).ags.getD i default by simp[List.getD,hi]];exact this
 all_goals (unfold XU;dsimp only;omega)
theorem zDc (c:Cf) (h:GY c):zN 88 [wP c] [] (bA true) []:=by
 have hj:=h.j;have ha:=h.a;have hjl:=zA wH c.js;have hal:=zA vC c.ags;have w1:=dB ((c.js.map wH).length:Int) 1 4 zB;have w2:=dB ((c.ags.map vC).length:Int) 1 4 zB;have w3:=dB c.per 1 600 h.p;have w4:=dB c.cap 0 100 h.cp;have w5:=dB c.hold 1 60 h.h;have w6:=dB c.lock 0 600 h.l;unfold wP zD;refine eM call88 λF hF=>?_
 refine yQ (wZ w1 w2) ?_;refine zP ((c.js.map wH).length) [1] [1] [1,20,21] [22,1,20,21] rfl (λi T U=>⟨(22,iA i)::T,U⟩) ?_;(conv=>whnf);refine⟨by rfl,?_,?_⟩
 ·intro i hi;have hy:=zM wH c.js i zB;have kj:=TX _ (h.jv _ (zZ c.js i zB));generalize c.js.getD i default=j at *;refine zU kj ?_;rfl
 ·(refine WW ?_)
  refine zP ((c.ags.map vC).length) [1] [1] [1,31,32] [33,1,31,32] rfl (λi T U=>⟨(33,iA i)::T,U⟩) ?_;(conv=>whnf);refine⟨by rfl,?_,?_⟩
  ·intro i hi;have hy:=zM vC c.ags i zB;have kj:=zD4 _ (h.av _ (zZ c.ags i zB));generalize c.ags.getD i default=a at *;refine zU kj ?_;rfl
  ·(refine yQ (aB w3 w4 w5 w6) ?_)
   exact zJ
def KQ (c:Cf) (i:Nat):List xQ:=(List.range i).map λk:Nat=>PV (k:Int) (c.ags.getD k default) (c.ags.getD k default).ses.toNat
def QU (j:Jn):Sv:=zMf j.ph.length
def aP (c:Cf):Cy:=⟨c,false,0,KQ c c.ags.length,c.js.map kS,c.js.map QU,c.js.map λ_=> -1,c.js.map λj=>RO j (kS j) (QU j)⟩
theorem zRe (c:Cf) (h:GY c):zN 40 [wP c] [] (uF (aP c)) []:=by
 have kp:=zDc c h;have hj:=h.j;have ha:=h.a;have hjl:=zA wH c.js;have hal:=zA vC c.ags;have hdl:∀i,((KQ c i).map zK).length=i:=λi=>by simp[KQ]
 have hfin:uF (aP c)= .agg [zD wH c.js,zD vC c.ags,iA c.per,iA c.cap,iA c.hold,iA c.lock,bA false,iA 0,zD zK (KQ c c.ags.length),zD wV (c.js.map kS),zD wT (c.js.map QU),zD iA (c.js.map λ_=> -1),zD vM (c.js.map λj=>RO j (kS j) (QU j))]:=rfl;rw[hfin];unfold wP zD at *;refine eM call40 λF hF=>?_
 refine zU kp ?_;refine uK 3 8 1011 17 rfl rfl rfl rfl rfl ?_;refine zP ((c.ags.map vC).length) [3,1011,1,2] [1,2] [1,2,3,35,36] [37,1,2,3,35,36] rfl (λi T U=>⟨(37,iA i)::T,(3,.box [.sl false (c.js.map wH),.sl false (c.ags.map vC),iA c.per,iA c.cap,iA c.hold,iA c.lock,bA false,iA 0,.ref 1011 0 ((KQ c i).map zK).length,.s (.slice none 0 0),.s (.slice none 0 0),.s (.slice none 0 0),.s (.slice none 0 0)])::(1011,.arr 17 ((KQ c i).map zK) true)::U⟩) ?_;(conv=>whnf);refine⟨by rfl,?_,?_⟩
 ·intro i hi;have hy:=zM vC c.ags i zB;have kd:=(zV5 (i:Int) _ (h.av _ (zZ c.ags i zB))).1;have e:(KQ c (i+1)).map zK=(KQ c i).map zK++[zK (PV (i:Int) (c.ags.getD i default) (c.ags.getD i default).ses.toNat)]:=by unfold KQ;rw[yAh,zYc,zYc];rfl
  have hdl:=hdl i;rw[e];clear kp hfin e;generalize PV (i:Int) (c.ags.getD i default) (c.ags.getD i default).ses.toNat=dk at *;generalize c.ags.getD i default=a at *;generalize (KQ c i).map zK=X at *;unfold zK wI at*
  (have zc1:=kd;(repeat' (first|refine aL ?_|refine xO (λhc=>?_) (λhc=>?_)|refine wB (λhc=>?_)|(refine zE ?_;first|(refine yS ?_;refine qR tok rfl rfl ?_))|refine SB ?_|fail))<;>clear zc1)
  rfl
 ·(refine WW ?_)
  refine uK 3 9 1012 5 rfl rfl rfl rfl rfl ?_;refine uK 3 10 1013 3 rfl rfl rfl rfl rfl ?_;refine uK 3 11 1014 1 rfl rfl rfl rfl rfl ?_;refine uK 3 12 1015 4 rfl rfl rfl rfl rfl ?_;rw[hal];refine zP ((c.js.map wH).length) [3,1012,1013,1014,1015,2,1011] [2,1011] [2,3,52,53] [54,2,3,52,53] rfl (λi T U=>⟨(54,iA i)::T,(3,.box [.sl false (c.js.map wH),.sl false (c.ags.map vC),iA c.per,iA c.cap,iA c.hold,iA c.lock,bA false,iA 0,.ref 1011 0 ((KQ c c.ags.length).map zK).length,.ref 1012 0 (((c.js.take i).map kS).map wV).length,.ref 1013 0 (((c.js.take i).map QU).map wT).length,.ref 1014 0 ((c.js.take i).map λ_=>iA (-1)).length,.ref 1015 0 (((c.js.take i).map λj=>RO j (kS j) (QU j)).map vM).length])::(1012,.arr 5 (((c.js.take i).map kS).map wV) true)::(1013,.arr 3 (((c.js.take i).map QU).map wT) true)::(1014,.arr 1 ((c.js.take i).map λ_=>iA (-1)) true)::(1015,.arr 4 (((c.js.take i).map λj=>RO j (kS j) (QU j)).map vM) true)::U⟩) ?_;(conv=>whnf);refine⟨by rfl,?_,?_⟩
  ·intro i hi;have hi':i<c.js.length:=by omega
   have hy:=zM wH c.js i hi';have J:=h.jv _ (zZ c.js i hi')
   have et:c.js.take (i+1)=c.js.take i++[c.js.getD i default]:=by
    rw[zX5,zYi hi',zZ3,yB3 hi']
   have hlt:(c.js.take i).length<=4:=by rw[zYo];omega
   have k1:=zGl _ J;have k2:=zR1 (c.js.getD i default).ph.length zCw;have k3:=zGd _ J (kS (c.js.getD i default)) (FN J) (QU (c.js.getD i default));have hpl:((c.js.getD i default).ph.map wU).length=(c.js.getD i default).ph.length:=zX2 ..;rw[et];simp only[zYc,zZl,yAl];have m1:(((c.js.take i).map kS).map wV).length=(c.js.take i).length:=by simp
   have m2:(((c.js.take i).map QU).map wT).length=(c.js.take i).length:=by simp
   have m3:((c.js.take i).map λ_=>iA (-1)).length=(c.js.take i).length:=by simp
   have m4:(((c.js.take i).map λj=>RO j (kS j) (QU j)).map vM).length=(c.js.take i).length:=by simp
   rw[show zMf (c.js.getD i default).ph.length=QU (c.js.getD i default)from rfl,<-hpl]at k2;clear et hfin kp;generalize RO (c.js.getD i default) (kS (c.js.getD i default)) (QU (c.js.getD i default))=w at *;generalize kS (c.js.getD i default)=s at *;generalize QU (c.js.getD i default)=v at *;generalize c.js.getD i default=j at *;generalize ((c.js.take i).map kS).map wV=X1 at *;generalize ((c.js.take i).map QU).map wT=X2 at *;generalize (c.js.take i).map (λ_=>iA (-1))=X3 at *;generalize ((c.js.take i).map λj=>RO j (kS j) (QU j)).map vM=X4 at *;unfold wH zD wV wT vM at*
   (have zc1:=k1;have zc2:=k2;have zc3:=k3;(repeat' (first|refine aL ?_|refine xO (λhc=>?_) (λhc=>?_)|refine wB (λhc=>?_)|(refine zE ?_;first|(refine yS ?_;refine qR tok rfl rfl ?_))|refine SB ?_|fail))<;>clear zc1 zc2 zc3)
   rfl
  ·rw[hjl,zX7];refine WW ?_;refine zI [] rfl rfl ?_ rfl
   show AV.agg [.sl false (c.js.map wH),.sl false (c.ags.map vC),iA c.per,iA c.cap,iA c.hold,iA c.lock,bA false,iA 0,.sl false (List.take ((KQ c c.ags.length).map zK).length (List.drop 0 ((KQ c c.ags.length).map zK))),.sl false (List.take ((c.js.map kS).map wV).length (List.drop 0 ((c.js.map kS).map wV))),.sl false (List.take ((c.js.map QU).map wT).length (List.drop 0 ((c.js.map QU).map wT))),.sl false (List.take (c.js.map λ_=>iA (-1)).length (List.drop 0 (c.js.map λ_=>iA (-1)))),.sl false (List.take ((c.js.map λj=>RO j (kS j) (QU j)).map vM).length (List.drop 0 ((c.js.map λj=>RO j (kS j) (QU j)).map vM)))]=_
   rw[zY2,zX7,zY2,zX7,zY2,zX7,zY2,zX7,zY2,zX7,show(c.js.map λ_=>iA (-1))=(c.js.map λ_=>(-1:Int)).map iA by rw[yCp];rfl]
theorem zRf (j:Int) (x:Lg):zN 201 [xU x,.ptr 5 0 0] [(5,.box [iA j])] (bA (x.jn==j)) [(5,.box [iA j])]:=by
 refine eM call201 λF hF=>?_
 refine WW ?_;exact zL [5] rfl rfl rfl rfl
theorem zRg (j:Int) (l:List Lg) (hb:l.length<=1000):zN 200 [zD xU l,.fn 201 [.ptr 5 0 0]] [(5,.box [iA j])] (iA (UP (λr:Lg=>r.jn==j) l)) [(5,.box [iA j])]:=by
 have hl:=zA xU l;refine eM call200 λF hF=>?_
 refine WW ?_;refine qM (l) [5] [5] [0,1,7] [8,0,1,7] rfl (λi pre T U zs=>(∀y∈pre,(y.jn==j)=false)/\zs=⟨(8,iA i)::T,U⟩) ?_;(conv=>whnf);refine⟨?_,?_,?_⟩
 ·exact⟨by simp,rfl⟩
 ·rintro i pre x post st hx hi ⟨hp,rfl⟩;have hy:=yI xU hx hi;have hlt:=yB hx hi;have c:=zRf j x;have hit:=QD (p:=λr:Lg=>r.jn==j) hx hp
  cases he:(x.jn==j)<;>rw[he]at c
  ·clear hx hit;refine zU c ?_;exact⟨λy hy=>by simp only[zYl,zYz]at hy;rcases hy with hy|rfl;exact hp y hy;exact he,rfl⟩
  ·rw[hit he,hi];clear hx hit;refine zU c ?_;exact zL [5] rfl rfl rfl rfl
 ·rintro st ⟨hp,rfl⟩;rw[ZF hp];refine WW ?_;exact zL [5] rfl rfl rfl rfl
def GZ (ag j:Int) (x:Rq):List Cl:=if UP (λr:Lg=>r.jn==j) x.legs<0 then []else if(x.legs.getD (UP (λr:Lg=>r.jn==j) x.legs).toNat default).sc= -1 then []else [⟨ag,x.id,(x.legs.getD (UP (λr:Lg=>r.jn==j) x.legs).toNat default).ph,x.cls,(x.legs.getD (UP (λr:Lg=>r.jn==j) x.legs).toNat default).sc⟩]
def cP (ag j:Int) (l:List Rq):List Cl:=(l.map (GZ ag j)).flatten
theorem zFv (ag j:Int) (x:Rq):(GZ ag j x).length<=1:=by
 unfold GZ;split
 ·exact zYe _
 ·split
  ·exact zYe _
  ·exact zX6 _
theorem zDd (ag j:Int) (l:List Rq) (x:Rq):cP ag j (l++[x])=cP ag j l++GZ ag j x:=by simp[cP]
theorem aQ (ag j:Int):∀l:List Rq,(cP ag j l).length<=l.length
 | []=>zX6 _
 |x::l=>by
  have h1:=zFv ag j x;have h2:=aQ ag j l;have e:cP ag j (x::l)=GZ ag j x++cP ag j l:=rfl;rw[e,zX3,zYd];omega
theorem zDe (l:List Rq) (ag j:Int) (hn:l.length<=1000) (hb:∀r∈l,r.legs.length<=1000):zN 164 [zD yK l,iA ag,iA j] [] (zD dT (cP ag j l)) []:=by
 have hl:=zA yK l;refine eM call164 λF hF=>?_
 refine WW ?_;refine xC 7 1001 5 rfl rfl rfl ?_;refine zY (l) [1001,5] [5] [1,5,12,13] [7,14,1,5,12,13] rfl (λi pre T U=>⟨(7,.ref 1001 0 ((cP ag j pre).map dT).length)::(14,iA i)::T,(1001,.arr 5 ((cP ag j pre).map dT) true)::U⟩) ?_;(conv=>whnf);refine⟨by rfl,?_,?_⟩
 ·intro i pre x post hx hi;have hy:=yI yK hx hi;have hlt:=yB hx hi;have kx:=zRg j x.legs (hb x (xX hx));have hq:=aQ ag j pre;have hql:((cP ag j pre).map dT).length=(cP ag j pre).length:=zX2 ..;have hpl:pre.length<=l.length:=by rw[hx];simp
  have hxl:(x.legs.map xU).length=x.legs.length:=zX2 ..;rw[zDd,zYc]
  have hlo: -1<=UP (λr:Lg=>r.jn==j) x.legs/\(0<=UP (λr:Lg=>r.jn==j) x.legs->UP (λr:Lg=>r.jn==j) x.legs<x.legs.length):=by
   cases ha:x.legs.any (λr:Lg=>r.jn==j)with
   |true=>have:=zAj ha;omega
   |false=>rw[UP,ha,zX0 zYk];omega
  unfold GZ;clear hx;generalize (cP ag j pre).map dT=X at *;by_cases h0:UP (λr:Lg=>r.jn==j) x.legs<0
  ·rw[zX1 h0,yAl,zY5];generalize UP (λr:Lg=>r.jn==j) x.legs=at1 at *;refine zU kx ?_;rfl
  ·rw[zX0 h0];have hyg:=yM xU x.legs (UP (λr:Lg=>r.jn==j) x.legs) zB zB;generalize UP (λr:Lg=>r.jn==j) x.legs=at1 at *;generalize x.legs.getD at1.toNat default=g at *;by_cases h1:g.sc= -1
   ·rw[zX1 h1,yAl,zY5];refine zU kx ?_;rfl
   ·rw[zX0 h1];refine zU kx ?_;rfl
 ·(refine WW ?_)
  exact zI [] rfl rfl (zY0 (AV.sl false) zX7) rfl
def eX (j:Int) (l:List xQ):List Cl:=(l.map λd=>cP d.rg.num j d.rq).flatten
theorem zDf (j:Int) (l:List xQ) (d:xQ):eX j (l++[d])=eX j l++cP d.rg.num j d.rq:=by simp[eX]
theorem FA (j:Int):∀l:List xQ,(∀d∈l,d.rq.length<=1000)->(eX j l).length<=1000*l.length
 | [],_=>zX6 _
 |d::l,h=>by
  have h1:=aQ d.rg.num j d.rq;have h2:=FA j l (λx hx=>h x ST);have h3:=h d zS;have e:eX j (d::l)=cP d.rg.num j d.rq++eX j l:=rfl;rw[e,zX3,zYd];omega
theorem zDg (c:Cf) (rf:Bool) (now:Int) (ds:List xQ) (j:Int) (hd:ds.length<=1000) (hb:∀d∈ds,eE d) (A B C D:List AV) (a b e f:Nat):
  zN 113 [aR c rf now (zD zK ds) (.ref 1012 0 a) (.ref 1013 0 b) (.ref 1014 0 e) (.ref 1015 0 f),iA j] [(1012,.arr 5 A false),(1013,.arr 3 B false),(1014,.arr 1 C false),(1015,.arr 4 D false)] (zD dT (eX j ds)) [(1012,.arr 5 A false),(1013,.arr 3 B false),(1014,.arr 1 C false),(1015,.arr 4 D false)]:=by
 have hl:=zA zK ds;unfold aR;refine eM call113 λF hF=>?_
 refine WW ?_;refine xC 5 1001 5 rfl rfl rfl ?_;refine zY (ds) [1001,1012,1013,1014,1015] [1012,1013,1014,1015] [1,9,10] [5,11,1,9,10] rfl (λi pre T U=>⟨(5,.ref 1001 0 ((eX j pre).map dT).length)::(11,iA i)::T,(1001,.arr 5 ((eX j pre).map dT) true)::U⟩) ?_;(conv=>whnf);refine⟨by rfl,?_,?_⟩
 ·intro i pre x post hx hi;have hy:=yI zK hx hi;have hlt:=yB hx hi;have hbx:=hb x (xX hx);have kx:=zDe x.rq x.rg.num j hbx.q hbx.g;have hq:=FA j pre (λd hd=>(hb d (by rw[hx];simp[hd])).q);have hql:((eX j pre).map dT).length=(eX j pre).length:=zX2 ..;have hq2:=aQ x.rg.num j x.rq;have hq3:((cP x.rg.num j x.rq).map dT).length=(cP x.rg.num j x.rq).length:=zX2 ..;have hpl:pre.length<=ds.length:=by rw[hx];simp
  have hxq:=hbx.q;rw[zDf,zYc];clear hx;generalize (eX j pre).map dT=X at *;unfold zD at kx;generalize cP x.rg.num j x.rq=Y at *;unfold zK wI at hy;refine zU kx ?_;rfl
 ·(refine WW ?_)
  exact zI [1012,1013,1014,1015] rfl rfl (zY0 (AV.sl false) zX7) rfl
theorem FB (a:Ag) (h:1<=a.ses/\a.ses<=2):zN 115 [vC a] [] (iA a.ses) []:=by
 refine eM call115 λF hF=>?_
 refine WW ?_;refine zI [] rfl rfl (zY0 iA ?_) rfl;omega
def plA (a k s:Nat):AV:= .agg [iA a,iA k,iA s]
def zDh (c:Cf) (a:Nat):List (Nat×xN):=[(1103,.box [iA a]),(1104,.box [zD wH c.js,zD vC c.ags,iA c.per,iA c.cap,iA c.hold,iA c.lock])]
def KR (c:Cf) (a:Nat):List (List AV):=(List.range (c.ags.getD a default).ses.toNat).map λk=>[plA a k ((qX c.ags a).toNat+k)]
theorem zBi (c:Cf) (a:Nat):zN 65 [wP c,iA a] [] (.fn 114 [.ptr 1104 0 0,.ptr 1103 0 0]) (zDh c a):=by
 unfold wP zDh;refine eM call65 λF hF=>?_
 repeat' (first|(refine zE ?_;first|refine uN (jF (v:=AV.agg _) 1104 rfl rfl) rfl rfl rfl ?_|refine uN (jF (v:=AV.s _) 1103 rfl rfl) rfl rfl rfl ?_|refine vN tok rfl rfl ?_|refine qF ?_)|(first|refine xS ?_|refine xD ?_|refine vD rfl ?_|refine zX rfl ?_|refine zQ rfl ?_|refine xK rfl (λhc=>?_) (λhc=>?_)|refine yY ?_|refine yU ?_|refine xE ?_|refine yT ?_))
 exact zL [1103,1104] rfl rfl rfl rfl
theorem zFw (c:Cf) (h:MX c.ags) (a:Nat) (ha:a<c.ags.length):YN prog 114 [.ptr 1104 0 0,.ptr 1103 0 0] (zDh c a) (KR c a):=by
 have hl:=zA vC c.ags;have hn:=h.1;have hs:=h.at ha;refine bY func114 rfl (λargs w=>call114 args w) rfl rfl rfl (λF y hro hit hY=>?_);unfold zDh;have htl:((c.ags.take (a:Int).toNat).map vC).length=a:=by rw[zX2,zYo];omega
 have hts:∀i,i<=a->qX (c.ags.take a) i=qX c.ags i:=λi=>by
  induction i with
  |zero=>intro _;rfl
  |succ i ih=>
   intro hi;unfold qX;rw[ih zB,zX5,zZq,zX1 zB,<-zX5]
 refine WW ?_;refine zP (a) [1103,1104] [1103,1104] [0,1,2,11,12] [4,13,1000000,0,1,2,11,12] rfl (λi T U=>⟨(4,iA (qX c.ags i))::(13,iA i)::(1000000,.gh 0)::T,U⟩) ?_;(conv=>whnf);refine⟨by rfl,?_,?_⟩
 ·intro i hi
  have hy:((c.ags.take (a:Int).toNat).map vC)[i]? =some (vC (c.ags.getD i default)):=by
   show((c.ags.take a).map vC)[i]? =_
   rw[zX4,zZq,zX1 hi,zX5,zYi zB];rfl
  have h2:=h.at (i:=i) zB;have hb:=qS h i zB;have kc:=FB (c.ags.getD i default) h2;rw[show qX c.ags (i+1)=qX c.ags i+(c.ags.getD i default).ses from rfl];clear hts hs hY;generalize qX c.ags i=z at *;generalize c.ags.getD i default=g at *;refine zU kc ?_;rfl
 ·have hy:=zM vC c.ags a ha;have kc:=FB (c.ags.getD a default) hs;have hb:=qS h a zB;obtain⟨bs,hbs⟩:∃bs:Nat,qX c.ags a=(bs:Int):=⟨(qX c.ags a).toNat,zB⟩;obtain⟨N,hN⟩:∃N:Nat,(c.ags.getD a default).ses=(N:Int):=⟨(c.ags.getD a default).ses.toNat,zB⟩;have hL:KR c a=(List.range N).map λk=>[plA a k (bs+k)]:=by unfold KR;rw[hbs,hN];rfl
  rw[hbs]at hb⊢;rw[hN]at kc hs;rw[hL]at hY⊢;clear hL hN hts;generalize c.ags.getD a default=g at *;refine zU kc ?_;refine zP (N) [1103,1104] [1103,1104] [0,2,4,27] [28,1000000,0,2,4,27] rfl (λi T U=>⟨(28,iA i)::(1000000,.gh i)::T,U⟩) ?_;(conv=>whnf);refine⟨by rfl,?_,?_⟩
  ·intro k hk
   have hys:((List.range N).map λk=>[plA a k (bs+k)])[k]? =some [plA a k (bs+k)]:=by
    rw[zX4,zYx hk];rfl
   have hlen:k<((List.range N).map λk=>[plA a k (bs+k)]).length:=by simp;exact hk
   rw[show plA a k (bs+k)= .agg [iA (a:Int),iA (k:Int),iA ((bs:Int)+k)]from by unfold plA;rw[show((bs+k:Nat):Int)=(bs:Int)+k by omega]]at hys;generalize ((List.range N).map λk=>[plA a k (bs+k)])=xs at*
   (repeat' (first|refine qB ?_|refine xO (λhc=>?_) (λhc=>?_)|refine wB (λhc=>?_)|(refine zE ?_;refine wD ?_;first|(refine ZP ?_;refine QJ hit hY rfl rfl hys rfl rfl rfl ?_ ?_))|(refine zE ?_;first|refine SM ?_)|fail))
   ·rfl
   ·exact bB rfl (.inr zB)
  ·(refine WW ?_)
   exact ZQ rfl (.inl zS)
def GF (f g gr:Int) (ar:List Int):Nat->List Int
 |0=>[]
 |i+1=>(if(i:Int)=f/\0<g then GF f g gr ar i++cM gr else GF f g gr ar i)++cM (ar.getD i default)
def GG (f g gr:Int) (ar:List Int) (i:Nat):List Int:=if(i:Int)=f/\0<g then GF f g gr ar i++cM gr else GF f g gr ar i
theorem FC {n:Int} (h:n<128):(cM n).length=1:=by unfold cM;rw[PW h];rfl
theorem zU4 {n:Int} (h:n<16384):(cM n).length<=2:=by
 by_cases h1:n<128
 ·rw[FC h1];omega
 ·unfold cM;rw[ID zB,PW zB];simp
theorem KS (f g gr:Int) (ar:List Int):∀i,(GF f g gr ar i).length<=10*i
 |0=>zX6 _
 |i+1=>by
  have:=KS f g gr ar i;have h1:=fA gr;have h2:=fA (ar.getD i default);unfold GF
  split<;>simp only[zX3]<;>omega
theorem zLs (f g gr:Int) (ar:List Int) (i:Nat):(GG f g gr ar i).length<=10*i+5:=by
 have:=KS f g gr ar i;have h1:=fA gr;unfold GG
 split<;>(try simp only[zX3])<;>omega
theorem zFx {f g gr:Int} (hg:0<=gr/\gr<=4294967295) {ar:List Int} (ha:RA ar):∀i,i<=ar.length->BY (GF f g gr ar i)
 |0,_=>λx hx=>by cases hx
 | i+1,hi=>by
  have ih:=zFx (f:=f) (g:=g) hg ha i zB;have h1:=JJ hg.1 hg.2;have h2:=ha (ar.getD i default) (zZ ar i zB);have h3:=JJ h2.1 h2.2;unfold GF;intro x hx
  rcases zYl.1 hx with hx|hx
  ·split at hx
   ·exact(zYl.1 hx).elim (ih x) (h1 x)
   ·exact ih x hx
  ·exact h3 x hx
theorem zRh {f g gr:Int} (hg:0<=gr/\gr<=4294967295) {ar:List Int} (ha:RA ar) (i:Nat) (hi:i<=ar.length):BY (GG f g gr ar i):=by
 have ih:=zFx (f:=f) (g:=g) hg ha i hi;have h1:=JJ hg.1 hg.2;unfold GG;intro x hx;split at hx
 ·exact(zYl.1 hx).elim (ih x) (h1 x)
 ·exact ih x hx
theorem zRi (k f g lo hi sd gr:Int) (ar da:List Int) (c1:zN 124 [iA k] [] (.tup [YQ ⟨0,f,g,lo,hi,sd⟩,bA true]) []) (c2:zN 125 [YQ ⟨0,f,g,lo,hi,sd⟩,iA ((ar.map iA).length:Int)] [] (.tup [iA gr,bA true]) [])
  (hd:sd= -1∨(da.length:Int)=sd) (ha:RA ar) (hal:ar.length<=100) (hg:0<=gr/\gr<=4294967295) (hz:(GG f g gr ar ar.length++da).length<=200):
  zN 72 [yE ⟨k,[],ar,da⟩] [] (.tup [zD yA (GG f g gr ar ar.length++da),iA 0]) []:=by
 have c3:=TZ [] zS;have hla:=zA iA ar;have hld:=zA yA da;have cg:=zWn gr hg.1 hg.2;have hlg:=zA yA (cM gr);have hvg:=fA gr;have hpl:=KS f g gr ar;have hpg:=zLs f g gr ar;have hp0:GF f g gr ar 0=[]:=rfl
 have hpG:∀i:Nat,GG f g gr ar i=if(i:Int)=f/\0<g then GF f g gr ar i++cM gr else GF f g gr ar i:=λ_=>rfl
 have hpS:∀i:Nat,GF f g gr ar (i+1)=GG f g gr ar i++cM (ar.getD i default):=λ_=>rfl
 have hz3:(GG f g gr ar ar.length).length+da.length<=200:=by rw[zX3]at hz;exact hz
 have hz:((GG f g gr ar ar.length).map yA++da.map yA).length<=200:=by rw[zX3]at hz;simp;omega
 have hd3:da.length<=200:=by omega
 rw[show zD yA (GG f g gr ar ar.length++da)= .sl false (List.take ((GG f g gr ar ar.length).map yA++da.map yA).length (List.drop 0 ((GG f g gr ar ar.length).map yA++da.map yA))) by rw[zY2,zX7];unfold zD;rw[zYc]];rw[show yE ⟨k,[],ar,da⟩= .agg [iA k,zD yA [],zD iA ar,zD yA da]from rfl];rw[show YQ ⟨0,f,g,lo,hi,sd⟩= .agg [iA 0,iA f,iA g,iA lo,iA hi,iA sd]from rfl]at *; generalize GG f g gr ar=pg at *;generalize GF f g gr ar=py at *;clear hz3
 rcases hd with h2|h2
 all_goals
  refine eM call72 λF hF=>?_
  refine yQ (fB c1 c2 c3) ?_
 all_goals
  refine uL 1001 rfl ?_;refine xV (ar.length+1) [1001,1,4] [1,4] [1,4,6,64] [7,65,1,4,6,64] rfl (λi T U zs=>(i<=ar.length)/\zs=⟨(7,.ref 1001 0 ((py i).map yA).length)::(65,iA i)::T,(1001,.arr 1 ((py i).map yA) true)::U⟩) ?_;(conv=>whnf);refine⟨?_,?_,?_⟩
  ·refine⟨zYe _,?_⟩;rw[hp0];rfl
  ·rintro i st' hi ⟨hik,rfl⟩;have hbl:=hpl i;have hb2:=hpg i;have hg:=hpG i;have hlp:=zA yA (py i);have hlP:=zA yA (pg i)
   have hmG:(pg i).map yA=if(i:Int)=f/\0<g then(py i).map yA++(cM gr).map yA else(py i).map yA:=by
    rw[hg];split
    ·rw[zYc]
    ·rfl
   by_cases hie:i=ar.length
   ·subst hie;clear hpS hg hpl hpg hpG hp0 c1 c2 c3;generalize (py ar.length).map yA=A at *;generalize (pg ar.length).map yA=B at *;generalize cM gr=W at *;by_cases hi1:(ar.length:Int)=f
    ·by_cases hi2:0<g
     ·rw[zX1 ⟨hi1,hi2⟩]at hmG;subst hmG;refine zU cg ?_;exact zJ
     ·rw[zX0 (λh=>hi2 h.2)]at hmG;subst hmG;refine WW ?_;exact zJ
    ·rw[zX0 (λh=>hi1 h.1)]at hmG;subst hmG;refine WW ?_;exact zJ
   have hna:=ha (ar.getD i default) (zZ ar i zB);have cv:=zWn (ar.getD i default) hna.1 hna.2;have hy:=zM iA ar i zB;have hS:=hpS i;have hlv:=zA yA (cM (ar.getD i default));have hvv:=fA (ar.getD i default);have hmS:(py (i+1)).map yA=(pg i).map yA++(cM (ar.getD i default)).map yA:=by rw[hS,zYc]
   rw[hmS];clear hS hg hpl hpg hpG hpS hp0 hmS c1 c2 c3 hz ha;generalize (pg ar.length).map yA=E at *;generalize (py i).map yA=A at *;generalize (pg i).map yA=B at *;generalize cM (ar.getD i default)=V at *;generalize ar.getD i default=a at *;generalize cM gr=W at *;by_cases hi1:(i:Int)=f
   ·by_cases hi2:0<g
    ·rw[zX1 ⟨hi1,hi2⟩]at hmG;subst hmG;refine yQ (wZ cg cv) ?_;exact⟨zB,rfl⟩
    ·rw[zX0 (λh=>hi2 h.2)]at hmG;subst hmG;refine zU cv ?_;exact⟨zB,rfl⟩
   ·rw[zX0 (λh=>hi1 h.1)]at hmG;subst hmG;refine zU cv ?_;exact⟨zB,rfl⟩
  ·rintro st' ⟨hik,rfl⟩;exfalso;omega
def ZU (k:Int):Int×Int×Int×Int×Int:=if k=16 then(1,0,0,0,10)else if k=17∨k=21 then(1,0,0,0,-1)else if k=18 then(1,3,0,16,0)else if k=19 then(0,2,0,4,0)else if k=20 then(4,0,0,0,0)else(2,0,0,0,0)
theorem zLt (k:Int) (h:13<=k/\k<=21):zN 124 [iA k] [] (.tup [YQ ⟨0,(ZU k).1,(ZU k).2.1,(ZU k).2.2.1,(ZU k).2.2.2.1,(ZU k).2.2.2.2⟩,bA true]) []:=by
 have:k=13∨k=14∨k=15∨k=16∨k=17∨k=18∨k=19∨k=20∨k=21:=by omega
 rcases this with rfl|rfl|rfl|rfl|rfl|rfl|rfl|rfl|rfl
 all_goals
  refine eM call124 λF hF=>?_
  refine WW ?_;exact zJ
theorem zFy (f g lo hi sd n gr:Int) (hn:0<=n/\n<=100) (hf:0<=f/\f<=4) (h:(g=0/\n=f/\gr=0)∨((g=2∨g=3)/\n=f+g*gr/\0<=gr/\lo<=gr/\gr<=hi)):zN 125 [YQ ⟨0,f,g,lo,hi,sd⟩,iA n] [] (.tup [iA gr,bA true]) []:=by
 rw[show YQ ⟨0,f,g,lo,hi,sd⟩= .agg [iA 0,iA f,iA g,iA lo,iA hi,iA sd]from rfl]
 rcases h with⟨rfl,rfl,rfl⟩|⟨rfl|rfl,he,h0,h1,h2⟩
 ·(refine eM call125 λF hF=>?_)
  refine WW ?_;exact zJ
 ·have hgr:gr=(n-f).tdiv 2:=by
   rw[zZt zB];omega
  have hm:(n-f).tmod 2=0:=by
   rw[zZu zB];omega
  have hq:XC .i64 ((n-f).tdiv 2):=by
   unfold XC;have e1:IntKind.i64.min= -9223372036854775808:=by decide
   have e2:IntKind.i64.max=9223372036854775807:=by decide
   omega
  have h9:¬n-f<0:=by omega
  subst hgr;clear he;refine eM call125 λF hF=>?_
  refine WW ?_;exact zJ
 ·have hgr:gr=(n-f).tdiv 3:=by
   rw[zZt zB];omega
  have hm:(n-f).tmod 3=0:=by
   rw[zZu zB];omega
  have hq:XC .i64 ((n-f).tdiv 3):=by
   unfold XC;have e1:IntKind.i64.min= -9223372036854775808:=by decide
   have e2:IntKind.i64.max=9223372036854775807:=by decide
   omega
  have h9:¬n-f<0:=by omega
  subst hgr;clear he;refine eM call125 λF hF=>?_
  refine WW ?_;exact zJ
structure SvM (k:Int) (ar da:List Int):Prop where
 kk:13<=k/\k<=21
 n:RA ar
 l:ar.length<=60
 b:BY da
 d:(ZU k).2.2.2.2= -1∨(da.length:Int)=(ZU k).2.2.2.2
 g:((ZU k).2.1=0/\(ar.length:Int)=(ZU k).1)∨(((ZU k).2.1=2∨(ZU k).2.1=3)/\∃gr:Int,(ar.length:Int)=(ZU k).1+(ZU k).2.1*gr/\0<=gr/\(ZU k).2.2.1<=gr/\gr<=(ZU k).2.2.2.1)
 z:(((ar.map cM).flatten).length+1)+da.length<=200
theorem zBj (f g gr:Int) (hgr:gr<128) (ar:List Int):∀i,i<=ar.length->(GF f g gr ar i).length<=(((ar.take i).map cM).flatten).length+(if f<i then 1 else 0)
 |0,_=>by simp[GF]
 | i+1,hi=>by
  have ih:=zBj f g gr hgr ar i zB;have h1:=FC hgr
  have e:ar.take (i+1)=ar.take i++[ar.getD i default]:=by
   rw[zX5,zYi zB,zZ3,yB3 zB]
  rw[e,zYc,yDa];unfold GF;simp only[zX3,zZl,yAl,yA5,List.flatten_nil,zY5,zZa];split
  ·rename_i h2;rw[zX3,h1,zX1 zB];rw[zX0 zB]at ih;omega
  ·by_cases h3:f<i
   ·rw[zX1 h3]at ih;rw[zX1 zB];omega
   ·rw[zX0 h3]at ih
    split<;>omega
theorem zLu (f g gr:Int) (hgr:gr<128) (ar:List Int):(GG f g gr ar ar.length).length<=((ar.map cM).flatten).length+1:=by
 have ih:=zBj f g gr hgr ar ar.length (zX6 _);have h1:=FC hgr;rw[zX7]at ih;unfold GG;split
 ·rename_i h2;rw[zX3,h1];rw[zX0 zB]at ih;omega
 ·split at ih<;>omega
theorem zLv (f g gr:Int) (ar:List Int) (h:ar≠[]):1<=(GG f g gr ar ar.length).length:=by
 have h1:0<ar.length:=List.length_pos_iff.2 h;obtain⟨n,hn⟩:∃n,ar.length=n+1:=⟨ar.length-1,zB⟩
 have h2:1<=(GF f g gr ar ar.length).length:=by
  rw[hn];unfold GF;rw[zX3];have:=(fA (ar.getD n default)).1;omega
 unfold GG;split
 ·rw[zX3];omega
 ·exact h2
theorem zFz {k:Int} {ar da:List Int} (h:SvM k ar da):∃p,BY p/\(p.length<=200/\(ar≠[]->1<=p.length))/\zN 72 [yE ⟨k,[],ar,da⟩] [] (.tup [zD yA p,iA 0]) []:=by
 have hl:=zA iA ar
 have hf:(0<=(ZU k).1/\(ZU k).1<=4)/\(ZU k).2.2.2.1<=16:=by
  have hk:=h.kk;have:k=13∨k=14∨k=15∨k=16∨k=17∨k=18∨k=19∨k=20∨k=21:=by omega
  clear hk h
  rcases this with rfl|rfl|rfl|rfl|rfl|rfl|rfl|rfl|rfl<;>decide
 obtain⟨hf,hh⟩:=hf
 obtain⟨gr,hg1,hg2,hg3⟩:∃gr:Int,(0<=gr/\gr<=100)/\True/\(((ZU k).2.1=0/\((ar.map iA).length:Int)=(ZU k).1/\gr=0)∨(((ZU k).2.1=2∨(ZU k).2.1=3)/\((ar.map iA).length:Int)=(ZU k).1+(ZU k).2.1*gr/\0<=gr/\(ZU k).2.2.1<=gr/\gr<=(ZU k).2.2.2.1)):=by
  rw[hl]
  rcases h.g with⟨g1,g2⟩|⟨g1,gr,g2,g3,g4,g5⟩
  ·exact⟨0,zB,trivial,.inl ⟨g1,g2,rfl⟩⟩
  ·exact⟨gr,zB,trivial,.inr ⟨g1,g2,g3,g4,g5⟩⟩
 have c2:=zFy _ _ (ZU k).2.2.1 (ZU k).2.2.2.1 (ZU k).2.2.2.2 ((ar.map iA).length:Int) gr (by have:=h.l;omega) hf hg3;have hs:=zLu (ZU k).1 (ZU k).2.1 gr zB ar;have hz:=h.z;refine⟨_,?_,?_,zRi k _ _ _ _ _ gr ar da (zLt k h.kk) c2 h.d h.n (by have:=h.l;omega) zB (by rw[zX3];omega)⟩
 ·intro x hx;exact(zYl.1 hx).elim (zRh zB h.n ar.length (zX6 _) x) (h.b x)
 ·refine⟨by rw[zX3];omega,λh9=>?_⟩;have:=zLv (ZU k).1 (ZU k).2.1 gr ar h9;rw[zX3];omega
theorem zRj {k:Int} {ar da:List Int} (h:SvM k ar da):zN 119 [yE ⟨k,[],ar,da⟩] [] (bA true) []:=by
 obtain⟨p,_,_,c⟩:=zFz h;rw[show yE ⟨k,[],ar,da⟩= .agg [iA k,zD yA [],zD iA ar,zD yA da]from rfl]at *; refine eM call119 λF hF=>?_
 refine zU c ?_;exact zJ
theorem XH {k:Int} {ar da:List Int} (h:SvM k ar da):∃p,BY p/\(p.length<=200/\(ar≠[]->1<=p.length))/\zN 20 [yE ⟨k,[],ar,da⟩] [] (.tup [zD yA (frF k p),iA 0]) []:=by
 obtain⟨p,h1,⟨h2,h3⟩,c⟩:=zFz h;have hk:=h.kk;have c2:=zUg k p zB zB h1 h2;refine⟨p,h1,⟨h2,h3⟩,?_⟩;generalize frF k p=q at *;rw[show yE ⟨k,[],ar,da⟩= .agg [iA k,zD yA [],zD iA ar,zD yA da]from rfl]at *; refine eM call20 λF hF=>?_
 refine yQ (wZ c c2) ?_;exact zJ
def SW (m:Ms):Prop:=m.tok=[]/\SvM m.kind m.args m.data
structure ItK (i:It):Prop where
 y:BY i.pay
 n:i.pay.length<=100000
 k:0<=i.kind/\i.kind<=255
 c:0<=i.code/\i.code<=100
def InS (i:In):Prop:=i.its.length<=1000/\∀x∈i.its,ItK x
theorem InS.b {i:In} (h:InS i):InB i:=⟨h.1,λx hx=>⟨(h.2 x hx).y,(h.2 x hx).n⟩⟩
structure EnK (e:En):Prop where
 a:0<=e.ag/\e.ag<4
 k:0<=e.ki/\e.ki<=255
 c:0<=e.co/\e.co<=100
theorem eQ (l:List Int):((l.map cM).flatten).length<=5*l.length:=by
 induction l with
 |nil=>simp
 |cons a l ih=>
  have:=(fA a).2;rw[zZl,yA5,zX3,zYd];omega
theorem sv2 (k a b:Int) (hk:k=13∨k=14∨k=15) (ha:0<=a/\a<=4294967295) (hb:0<=b/\b<=4294967295):SW ⟨k,[],[a,b],[]⟩:=by
 have h:=eQ [a,b];refine⟨rfl,?_⟩;dsimp only
 have hs:ZU k=(2,0,0,0,0):=by rcases hk with rfl|rfl|rfl<;>rfl
 refine⟨zB,.cons ha (.cons hb .nil),by simp,λx hx=>(by cases hx),?_,?_,by simp only[zYd,zZa]at *; omega⟩
 ·rw[hs];exact .inr rfl
 ·rw[hs];exact .inl ⟨rfl,rfl⟩
theorem zRk {c:Cf} {d:xQ} (hI:qC c d):RA (fL d.rq):=by
 have ho:=hI.v.ok;generalize d.rq=l at *;intro x hx;unfold fL at hx;obtain⟨y,hy,hx⟩:=yBm.1 hx;obtain⟨r,hr,rfl⟩:=zZj.1 hy;have h:=ho r hr;have h0:=h.i0;have h1:=h.i1;have h2:=h.t0;have h3:=h.t1;simp only[zZi,yBn,yCy]at hx;omega
theorem zW9 {c:Cf} {d:xQ} (hI:qC c d) {s now:Int} (n0:0<=now) (n1:now<=1073741824) {i:It} (hK:ItK i) {h:Hd} (hP:HdP c d s i now h):SW h.p:=by
 have hn:=hI.n;by_cases he:h.e=0
 ·obtain⟨a,_,hr⟩:=hP.yes he
  rcases hr with⟨_,e,_⟩|⟨_,e,_⟩|⟨_,e,_⟩|⟨_,k,sec,hk,⟨hs,hy⟩,e⟩|⟨_,x,x0,x1,e⟩
  ·rw[e];exact sv2 13 _ _ (.inl rfl) zB zB
  ·have h4:=hI.v.n4;have hb:=zRk hI;have hl:=TE d.rq;have hf:=eQ (fL d.rq);rw[e];refine⟨rfl,by dsimp only[PU];omega,hb,by dsimp only[PU];omega,λx hx=>(by cases hx),.inr rfl,.inr ⟨.inl rfl,(d.rq.length:Int),?_,zB,by show(0:Int)<=_;omega,by show _<=(4:Int);omega⟩,?_⟩
   ·show((fL d.rq).length:Int)=0+2*(d.rq.length:Int)
    omega
   ·show(((fL d.rq).map cM).flatten).length+1+0<=200
    omega
  ·have h8:=hI.t8;have hv:=hI.vh;have hq:=hI.q;have ha:=hI.a.q;have hl:=hI.bl;have hb:=hI.a.b;have hfr:IA d.rg.tk<=8:=by rw[<-h8];exact yAd _ _
   rw[e];have hf:=eQ (aA d).args;refine⟨rfl,by dsimp only[aA];omega,.cons zB (.cons zB (.cons zB (.cons zB .nil))),by simp[aA],λx hx=>(by cases hx),.inr rfl,.inl ⟨rfl,rfl⟩,?_⟩
   show(((aA d).args.map cM).flatten).length+1+0<=200
   have:(aA d).args.length=4:=rfl;omega
  ·rw[e];have hf:=eQ [(k:Int)];refine⟨rfl,by dsimp only;omega,.cons zB .nil,by simp,?_,.inr ?_,.inl ⟨rfl,rfl⟩,?_⟩
   ·intro x hx;simp only[zZi]at hx
    rcases hx with rfl|rfl|hx
    ·omega
    ·omega
    ·exact hy x hx
   ·show((d.rg.num::(k:Int)::sec).length:Int)=10
    simp only[zYd];omega
   ·show(([(k:Int)].map cM).flatten).length+1+(d.rg.num::(k:Int)::sec).length<=200
    simp only[zYd,zZa]at hf⊢;omega
  ·rw[e];exact sv2 14 _ _ (.inr (.inl rfl)) (by have:=hK.k;omega) ⟨x0,x1⟩
 ·have hb:=hP.eb hK.c;rw[(hP.no he).2.1];exact sv2 15 _ _ (.inr (.inr rfl)) (by have:=hK.k;omega) zB
def NP (now:Int) (l:List Rq):Prop:=∀r∈l,∀g∈r.legs,g.sc<=now
theorem NP.mono {a b:Int} {l:List Rq} (h:NP a l) (hab:a<=b):NP b l:=λr hr g hg=>Int.le_trans (h r hr g hg) hab
theorem NP.of {now:Int} (n0:0<=now) {l l':List Rq} (h:NP now l) (hs:PI l l'):NP now l':=λr hr g hg=>by
 rcases hs r hr g hg with h1|⟨r0,h1,g0,h2,h3⟩
 ·omega
 ·rw[h3];exact h r0 h1 g0 h2
theorem NP.mk {now:Int} (n0:0<=now) {l:List Rq} (h:NP now l):NP now (mkQ l now):=λr hr g hg=>by
 unfold mkQ at hr;obtain⟨r0,hr0,rfl⟩:=zZj.1 hr;unfold mkR at hg;obtain⟨g0,hg0,rfl⟩:=zZj.1 hg;unfold ZG;have:=h r0 hr0 g0 hg0;split
 ·split
  ·exact zZ8 _
  ·exact this
 ·show(-1:Int)<=now
  omega
theorem zF0 {c:Cf} {s:Nat} {now:Int} (n0:0<=now) (n1:now<=1073741824) {its:List It} (hK:∀x∈its,ItK x) {f:Nat->TS} {d:xQ} (he:∀e∈(f 0).en,EnK e) (h0:(f 0).rs=[])
  (hs:∀k,k<its.length->StR c (s:Int) now (its.getD k default) (f k) (f (k+1))) (hd:∀k,FX c d (f k).d):∀k,k<=its.length->(∀m∈(f k).rs,SW m)/\(∀e∈(f k).en,EnK e)/\(∀j:Nat,j≠s->(f k).d.au[j]? =(f 0).d.au[j]?)/\(NP now (f 0).d.rq->NP now (f k).d.rq)
 |0,_=>⟨λm hm=>(by rw[h0]at hm;cases hm),he,λ_ _=>rfl,id⟩
 | k+1,hk=>by
  obtain⟨i1,i2,i3,i4⟩:=zF0 n0 n1 hK he h0 hs hd k zB;obtain⟨h,_,hP,hb⟩:=hs k zB;have hI:=(hd k).i;have hit:=hK _ (zZ its k zB);have hn:=hI.n;rw[hb];refine⟨λm hm=>?_,λe he=>?_,λj hj=>?_,λh9=>NP.of n0 (i4 h9) hP.sc⟩
  ·rcases zYl.1 hm with hm|hm
   ·exact i1 m hm
   ·rw[zYz.1 hm];exact zW9 hI n0 n1 hit hP
  ·rcases zYl.1 he with he|he
   ·exact i2 e he
   ·rw[zYz.1 he];exact⟨hn,hit.k,hP.eb hit.c⟩
  ·dsimp only;rw[hP.ax j zB,i3 j hj]
structure DR where
 d:xQ
 R:List (List Ms)
 en:List En
 ks:List Int
def drT (r:DR):AV:=tkT r.d r.R r.en r.ks
structure DtP (c:Cf) (now:Int) (d:xQ) (ins:List In) (r:DR):Prop where
 i:qC c r.d
 ag:r.d.rg.ag=d.rg.ag
 num:r.d.rg.num=d.rg.num
 rn:r.R.length=d.au.length
 rl:∀s,s<d.au.length->(r.R.getD s []).length=(fZ ins s).length
 rv:∀l∈r.R,l.length<=1000/\∀m∈l,SW m
 el:r.en.length<=2000
 en:∀e∈r.en,EnK e
 kl:r.ks.length<=2000
 ks:∀x∈r.ks,0<=x/\x<(c.js.length:Int)
 sc:NP now d.rq->NP now r.d.rq
 au:∀s,s<d.au.length->fZ ins s=[]->r.d.au[s]? =some (LF ins s (d.au.getD s default))
theorem zU5 {ins:List In} (h:∀i∈ins,InS i) (s:Nat):∀x∈fZ ins s,ItK x:=by
 unfold fZ;split
 ·rename_i hs;exact(h _ (zZ ins s hs.1)).2
 ·exact λx hx=>by cases hx
theorem zF1 {c:Cf} {now:Int} (n0:0<=now) (n1:now<=1073741824) {ins:List In} (hin:∀i∈ins,InS i) {d:xQ} {zF:Nat->SS} (h0:zF 0=⟨d,[],[],[]⟩) (hz:∀s,FX c d (zF s).d/\SeR c now ins s (zF s) (zF (s+1))):
  ∀s,(zF s).R.length=s/\(∀j,j<s->((zF s).R.getD j []).length=(fZ ins j).length)/\(∀l∈(zF s).R,l.length<=1000/\∀m∈l,SW m)/\(∀e∈(zF s).en,EnK e)/\(∀j,(s<=j∨fZ ins j=[])->(zF s).d.au[j]? =d.au[j]?)/\(NP now d.rq->NP now (zF s).d.rq)
 |0=>by rw[h0];exact⟨rfl,λj hj=>absurd hj (yAi _),λl hl=>(by cases hl),λe he=>(by cases he),λ_ _=>rfl,id⟩
 | s+1=>by
  obtain⟨i0,i1,i2,i3,i4,i5⟩:=zF1 n0 n1 hin h0 hz s;obtain⟨f,f0,f1,f2,f3⟩:=(hz s).2;have hsb:=(FY (λi hi=>(hin i hi).b) s).1;obtain⟨r1,r2,r3,r4⟩:=zF0 n0 n1 (zU5 hin s) (d:=(zF s).d) (f:=f) (by rw[f0];exact i3) (by rw[f0]) f1 (λk=>(f2 k).1) _ (zX6 _);rw[f3];dsimp only;have hrl:=(f2 (fZ ins s).length).2.1;refine⟨by rw[zX3,yAg,i0],λj hj=>?_,λl hl=>?_,r2,λj hj=>?_,λh9=>r4 (by rw[f0];exact i5 h9)⟩
  ·rw[zX5];by_cases h:j=s
   ·subst h;rw[zYs zB,i0,yAe];exact hrl
   ·rw[zYw zB,<-zX5];exact i1 j zB
  ·rcases zYl.1 hl with hl|hl
   ·exact i2 l hl
   ·rw[zYz.1 hl];exact⟨zB,r1⟩
  ·by_cases h:j=s
   ·subst h;have he:fZ ins j=[]:=hj.elim (λh=>absurd h zB) id;rw[he,zZa,f0];exact i4 j (.inl (zX6 _))
   ·rw[r3 j h,f0];exact i4 j (hj.imp (λh=>by omega) id)
theorem zF2 (c:Cf) (d:xQ) (hI:qC c d) (ins:List In) (hil:ins.length=d.au.length) (hin:∀i∈ins,InS i) (now:Int) (n0:0<=now) (n1:now<=1073741824):
  ∃r:DR,DtP c now d ins r/\zN 110 [wP c,zK d,zD kT ins,iA now] [] (drT r) []:=by
 have hib:∀i∈ins,InB i:=λi hi=>(hin i hi).b
 have hau:d.au.length=1∨d.au.length=2:=by have:=hI.au;have:=hI.a.e;omega
 obtain⟨zF,z0,hz⟩:=zMt c now n0 n1 ins hib (dkU d ins) (zVs hI ins);have hs:=zF1 n0 n1 hin z0 (λs=>⟨(hz s).1,(hz s).2.2⟩) d.au.length;obtain⟨hT,⟨_,e2,e3,e4⟩,_⟩:=hz d.au.length;refine⟨⟨dkM (zF d.au.length).d now,(zF d.au.length).R,(zF d.au.length).en,(zF d.au.length).ks⟩,⟨zVt hT.i now n0 n1,hT.a,hT.n,hs.1,hs.2.1,hs.2.2.1,by dsimp only;omega,hs.2.2.2.1,by dsimp only;omega,e4,λh9=>NP.mk n0 (hs.2.2.2.2.2 h9),λs hsl he=>?_⟩,?_⟩
 ·show(zF d.au.length).d.au[s]? =_
  rw[hs.2.2.2.2.1 s (.inr he)]
  show(auF ins d.au)[s]? =_
  unfold auF;rw[vO,zX1 hsl,zX1 hsl]
 ·show zN 110 [wP c,zK d,zD kT ins,iA now] [] (tkT (dkM (zF d.au.length).d now) (zF d.au.length).R (zF d.au.length).en (zF d.au.length).ks) []
  rcases hau with hn|hn
  ·rw[hn];exact zDr hI ins zB hib now n0 n1 zF z0 hn zB hz
  ·rw[hn];exact zDs hI ins zB hib now n0 n1 zF z0 hn zB hz
theorem BO {b:List Int} (hb:BY b) {p:It×Nat} (h:prF b=some p):(1<=p.2/\p.2<=b.length)/\(b.length<=100000->ItK p.1):=by
 unfold prF at h;split at h
 ·cases h
 rename_i h0;split at h
 ·cases h;exact⟨⟨zX6 _,by dsimp only;omega⟩,λ_=>⟨kD,zYe _,by dsimp only;omega,by dsimp only;omega⟩⟩
 split at h
 ·cases h
 split at h
 ·cases h;exact⟨⟨zX6 _,by dsimp only;omega⟩,λ_=>⟨kD,zYe _,by dsimp only;omega,by dsimp only;omega⟩⟩
 split at h
 ·cases h
 split at h
 ·cases h;exact⟨⟨zX6 _,by dsimp only;omega⟩,λ_=>⟨kD,zYe _,by dsimp only;omega,by dsimp only;omega⟩⟩
 split at h
 ·cases h;exact⟨⟨by dsimp only;omega,by dsimp only;omega⟩,λ_=>⟨kD,zYe _,by dsimp only;omega,by dsimp only;omega⟩⟩
 split at h
 ·cases h;exact⟨⟨by dsimp only;omega,by dsimp only;omega⟩,λ_=>⟨kD,zYe _,by dsimp only;omega,by dsimp only;omega⟩⟩
 ·cases h;rename_i hk;refine⟨⟨by dsimp only;omega,by dsimp only;omega⟩,λhl=>⟨λx hx=>hb x (zZe (zZv hx)),by dsimp only;rw[zYo,zY4];omega,?_,by dsimp only;omega⟩⟩;dsimp only;omega
def gG:Nat->List Int->List (It×Nat)
 |0,_=>[]
 |n+1,b=>match prF b with
  |none=>[]
  |some p=>p::gG n (b.drop p.2)
theorem zLw {n:Nat}:∀{b:List Int},BY b->b.length<=100000->∀p∈gG n b,ItK p.1:=by
 induction n with
 |zero=>intro b _ _ p hp;cases hp
 | succ n ih=>
  intro b hb hl p hp;unfold gG at hp;split at hp
  ·cases hp
  ·rename_i q hq;have h:=BO hb hq
   rcases zZi.1 hp with rfl|hp
   ·exact h.2 hl
   ·exact ih (λx hx=>hb x (zZe hx)) HB p hp
def zDi (l:List (It×Nat)):Nat:=(l.map λp=>p.2).sum
theorem zBk {n:Nat}:∀{b:List Int},BY b->zDi (gG n b)<=b.length:=by
 induction n with
 |zero=>intro b _;exact zYe _
 |succ n ih=>
  intro b hb;unfold gG;split
  ·exact zYe _
  ·rename_i q hq;have h:=BO hb hq;have h2:=ih (b:=b.drop q.2) (λx hx=>hb x (zZe hx));rw[zY4]at h2;simp only[zDi,zZl,List.sum_cons]at *; omega
def psH (b:List Int):List (Nat×xN):=[(1061,.box [zD yA b])]
def psL (b:List Int):List (List AV):=(gG b.length b).map λp=>[vE p.1,iA (p.2:Int)]
theorem zF3 (b:List Int):zN 149 [zD yA b] [] (.fn 184 [.ptr 1061 0 0]) (psH b):=by
 unfold psH;refine eM call149 λF hF=>?_
 repeat' (first|(refine zE ?_;first|refine uN (jF (v:=AV.sl _ _) 1061 rfl rfl) rfl rfl rfl ?_|refine vN tok rfl rfl ?_|refine qF ?_)|(first|refine xS ?_|refine xD ?_|refine vD rfl ?_|refine zX rfl ?_|refine zQ rfl ?_|refine xK rfl (λhc=>?_) (λhc=>?_)|refine yY ?_|refine yU ?_|refine xE ?_|refine yT ?_))
 exact zL [1061] rfl rfl rfl rfl
theorem zF4 {n:Nat} {b:List Int} (hb:BY b) (hn:b.length<=n):gG n b=match prF b with
  |none=>[]
  |some p=>p::gG (n-1) (b.drop p.2):=by
 cases n with
 |zero=>
  have h0:b=[]:=zY1 zB;subst h0;rfl
 |succ n=>rfl
theorem zDj (b:List Int) (hb:BY b) (hl:b.length<=1000):YN prog 184 [.ptr 1061 0 0] (psH b) (psL b):=by
 refine bY func184 rfl (λargs w=>call184 args w) rfl rfl rfl (λF y hro hit hY=>?_);unfold psH;refine WW ?_;refine fF (b.length+1) [1061] [1061] [0] [3,1000000,0] rfl (λzn T U zs=>∃(r:List Int) (pre:List (It×Nat)) (n:Nat),(gG b.length b=pre++gG n r/\BY r/\r.length<=n/\n<=1000/\zn=n+1)/\zs=⟨(3,zD yA r)::(1000000,.gh pre.length)::T,U⟩) ?_;(conv=>whnf);refine⟨?_,?_⟩
 ·exact⟨b,[],b.length,⟨rfl,hb,zX6 _,hl,rfl⟩,rfl⟩
 rintro zn st ⟨r,pre,n,⟨hp,hr,hrn,hn1,rfl⟩,rfl⟩;have kp:=zNp r hr zB;rw[zF4 hr hrn]at hp;have hrl:=zA yA r;unfold psL at hY⊢
 cases h:prF r with
 |none=>
  rw[h]at kp hp;rw[show zS0 none= .tup [.agg [iA 0,iA 0,.sl false []],iA 0,bA false]from rfl]at kp;dsimp only at hp;rw[zY5]at hp;refine zU kp ?_;exact bB rfl (.inl (by rw[zX2,hp]))
 | some p=>
  rw[h]at kp hp;obtain⟨hp1,hp2⟩:=(BO hr h).1;obtain⟨it,k⟩:=p;dsimp only at hp hp1 hp2;rw[show zS0 (some (it,k))= .tup [vE it,iA (k:Int),bA true]from rfl]at kp
  have hys:((gG b.length b).map λp=>[vE p.1,iA (p.2:Int)])[pre.length]? =some [vE it,iA (k:Int)]:=by
   rw[hp,zX4,zYs (zX6 _),yAe];rfl
  have hlen:pre.length<((gG b.length b).map λp=>[vE p.1,iA (p.2:Int)]).length:=by rw[zX2,hp];simp
  have hn0:1<=n:=by omega
  generalize ((gG b.length b).map λp=>[vE p.1,iA (p.2:Int)])=xs at *;unfold vE at*
  (repeat' (first|refine qB ?_|refine xO (λhc=>?_) (λhc=>?_)|refine wB (λhc=>?_)|(refine zE ?_;refine wD ?_;first|(first|(refine uQ 134 ?_;first|refine xI (zH (kp) rfl rfl rfl rfl rfl) rfl ?_|refine uN (zH (kp) rfl rfl rfl rfl rfl) rfl rfl rfl ?_|refine aN (zH (kp) rfl rfl rfl rfl rfl) rfl rfl rfl ?_))|(refine ZP ?_;refine QJ hit hY rfl rfl hys rfl rfl rfl ?_ ?_))|(refine zE ?_;first|refine SM ?_)|fail))
  ·refine⟨n-1+1,zB,r.drop k,pre++[(it,k)],n-1,⟨by rw[hp,zYv];rfl,λx hx=>hr x (zZe hx),by rw[zY4];omega,zB,rfl⟩,?_⟩;rw[zX3,yAg];rfl
  ·exact bB rfl (.inr zB)
end Av
end Go.Proofs.YtmamjhmoegjapaaGreat
