/- Part 21. -/
import Derived.Test.YteajjdidebfcjaaGreatU20
namespace Go.Proofs.YteajjdidebfcjaaGreat
namespace Av
open Tryz
set_option linter.all false
set_option maxRecDepth 4000
set_option maxHeartbeats 4000000
def zKk (m:Ms) (h:MgP m):∃q,BY q/\q.length<=210/\zN 28 [yB m] [] (.tup [.ref 1031 0 (q.map yA).length,iA 0]) [(1031,.arr 1 (q.map yA) true)]:=by
 obtain⟨p,h1,h2,c1⟩:=zWk m h;have hk:=h.k;obtain⟨q,_,q1,q2,c2⟩:=zQq m.kind p zB zB h1 h2;refine⟨q,q1,zB,?_⟩;unfold yB at *;refine eM call28 λF hF=>?_
 refine yQ (wV c1 c2) ?_;exact zK [1031] Z Z Z Z
def CU (m:Ms) (h:MgP m):∃q,BY q/\q.length<=210/\zN 13 [yB m] [] (.ref 1031 0 (q.map yA).length) [(1031,.arr 1 (q.map yA) true)]/\zN 13 [yB m] [] (zC yA q) []:=by
 obtain⟨q,q1,q2,c2⟩:=zKk m h;refine⟨q,q1,q2,?_,?_⟩
 ·unfold yB at *;refine eM call13 λF hF=>?_
  refine zV c2 ?_;exact zK [1031] Z Z Z Z
 ·unfold yB at *;refine eM call13 λF hF=>?_
  refine zV c2 ?_;exact zH [] Z Z (yBa (AV.sl false) yAh) Z
def CW (m:Ms) (h:MgP m):∃q,BY q/\q.length<=210/\zN 13 [yB m] [] (zC yA q) []:=by
 obtain⟨q,q1,q2,_,c2⟩:=CU m h;exact⟨q,q1,q2,c2⟩
def vM (l:List Ag):Nat->Int
 |0=>0
 |i+1=>vM l i+(l.getD i default).ses
def QP (l:List Ag):Prop:=l.length<=4/\∀a∈l,1<=a.ses/\a.ses<=2
theorem QP.at {l:List Ag} (h:QP l) {i:Nat} (hi:i<l.length):1<=(l.getD i default).ses/\(l.getD i default).ses<=2:=by
 refine h.2 _ ?_;rw[yAk,yAr hi];exact yDa _
theorem kQ {l:List Ag} (h:QP l):∀i,i<=l.length->(i:Int)<=vM l i/\vM l i<=2*i
 |0,_=>⟨yCj _,yCj _⟩
 |i+1,hi=>by
  have h1:=kQ h i zB;have h2:=h.at (i:=i) zB;unfold vM;omega
def zQe (c:Cf) (h:QP c.ags):zN 48 [wD c] [] (iA (vM c.ags c.ags.length)) []:=by
 have hal:=zA wK c.ags;have hn:=h.1;unfold wD zC;refine eM call48 λF hF=>?_
 refine WW ?_;refine zO ((c.ags.map wK).length) [] [] [7,8] [3,9,7,8] Z (λi T U=>⟨(3,iA (vM c.ags i))::(9,iA i)::T,U⟩) ?_;(conv=>whnf);refine⟨by rfl,?_,?_⟩
 ·intro i hi;have hy:=zM wK c.ags i zB;have h2:=h.at (i:=i) zB;have hb:=kQ h i zB;rw[show vM c.ags (i+1)=vM c.ags i+(c.ags.getD i default).ses from Z];generalize vM c.ags i=z at *;generalize c.ags.getD i default=a at *;refine WW ?_;rfl
 ·rw[hal];refine WW ?_;exact zJ
def AW (l:List Ag) (g:Int):Nat->Int
 |0=>0
 |i+1=>if(i:Int)<g then AW l g i+(l.getD i default).ses else AW l g i
theorem zBo {l:List Ag} (h:QP l) (g:Int):∀i,i<=l.length->0<=AW l g i/\AW l g i<=2*i
 |0,_=>⟨yCj _,yCj _⟩
 |i+1,hi=>by
  have h1:=zBo h g i zB;have h2:=h.at (i:=i) zB;unfold AW
  split<;>omega
def zQf (c:Cf) (h:QP c.ags) (g:Int):zN 50 [wD c,iA g] [] (iA (AW c.ags g c.ags.length)) []:=by
 have hal:=zA wK c.ags;have hn:=h.1;unfold wD zC;refine eM call50 λF hF=>?_
 refine WW ?_;refine zO ((c.ags.map wK).length) [] [] [1,9,10] [5,11,1,9,10] Z (λi T U=>⟨(5,iA (AW c.ags g i))::(11,iA i)::T,U⟩) ?_;(conv=>whnf);refine⟨by rfl,?_,?_⟩
 ·intro i hi;have hy:=zM wK c.ags i zB;have h2:=h.at (i:=i) zB;have hb:=zBo h g i zB;by_cases hg:(i:Int)<g
  ·rw[show AW c.ags g (i+1)=AW c.ags g i+(c.ags.getD i default).ses from yAd hg];generalize AW c.ags g i=z at *;generalize c.ags.getD i default=a at *;refine WW ?_;rfl
  ·rw[show AW c.ags g (i+1)=AW c.ags g i from yAc hg];generalize AW c.ags g i=z at *;generalize c.ags.getD i default=a at *;refine WW ?_;rfl
 ·rw[hal];refine WW ?_;exact zJ
def CX:List Ag->Int->Nat->Option (Nat×Int)
 | [],_,_=>none
 |a::l,s,i=>if s<a.ses then some (i,s)else CX l (s-a.ses) (i+1)
def zQg (l:List Ag) (s:Int) (i:Nat) (h:i<l.length):CX (l.drop i) s i=if s<(l.getD i default).ses then some (i,s)else CX (l.drop (i+1)) (s-(l.getD i default).ses) (i+1):=by
 have e:l.getD i default=l[i]:=by simp[List.getD,h]
 rw[<-List.getElem_cons_drop h,e];rfl
def zBp (l:List Ag) (s:Int):Int:=match CX l s 0 with
 |some p=>p.1
 |none=>0
theorem zD0:∀(l:List Ag) (s:Int) (i:Nat) (p:Nat×Int),CX l s i=some p->p.1<i+l.length
 | [],_,_,_,h=>by cases h
 |a::l,s,i,p,h=>by
  unfold CX at h;split at h
  ·cases h;simp only[yAp];omega
  ·have:=zD0 l _ _ p h;simp only[yAp];omega
def zVf {l:List Ag} (h:QP l) (s:Int):0<=zBp l s/\zBp l s<4:=by
 unfold zBp;split
 ·rename_i p hp;have:=zD0 l s 0 p hp;have:=h.1;omega
 ·omega
def zKl (c:Cf) (h:QP c.ags) (s:Int) (s0: -1000<=s) (s1:s<=1000):zN 55 [wD c,iA s] [] (iA (zBp c.ags s)) []:=by
 have hal:=zA wK c.ags;have hn:=h.1;unfold zBp wD zC;refine eM call55 λF hF=>?_
 refine WW ?_;refine xS ((c.ags.map wK).length) [] [] [8,9] [1,10,8,9] Z (λi T U zs=>∃(z:Int),(CX c.ags s 0=CX (c.ags.drop i) z i/\ -1000-2*(i:Int)<=z/\z<=1000)/\zs=⟨(1,iA z)::(10,iA i)::T,U⟩) ?_;(conv=>whnf);refine⟨?_,?_,?_⟩
 ·exact⟨s,⟨rfl,zB,zB⟩,rfl⟩
 ·rintro i st hi ⟨z,⟨hz,z0,z1⟩,rfl⟩;have hy:=zM wK c.ags i zB;have h2:=h.at (i:=i) zB;rw[zQg c.ags z i zB]at hz;generalize hD:c.ags.drop (i+1)=D at *;generalize c.ags.getD i default=a at *;by_cases ha:z<a.ses
  ·rw[yAd ha]at hz;rw[hz];refine WW ?_;exact zJ
  ·rw[yAc ha]at hz;refine WW ?_;exact⟨_,⟨hz,zB,zB⟩,rfl⟩
 ·rintro st ⟨z,⟨hz,z0,z1⟩,rfl⟩;rw[hal,yDp]at hz;rw[hz];refine WW ?_;exact zJ
structure bX (e:Ev):Prop where
 k:1<=e.k/\e.k<=6
 s:0<=e.s/\e.s<=100
 a:0<=e.a/\e.a<=100
 b:0<=e.b/\e.b<=100
 y:BY e.y
 n:e.y.length<=1000
def evb {k s a b:Int} {y:List Int} (hk:1<=k/\k<=6) (hs:0<=s/\s<=100) (ha:0<=a/\a<=100) (hb:0<=b/\b<=100) (hy:BY y) (hn:y.length<=1000):bX ⟨k,s,a,b,y⟩:=⟨hk,hs,ha,hb,hy,hn⟩
def qY:BY []:=λx hx=>by cases hx
theorem zVg (c:Cf) (s:Int) (s0:0<=s) (s1:s<=100) (cm:Bool) (d:Dk):∃(e:Ev) (d':Dk),bX e/\rem d'<=rem d/\zN 53 [.ptr 1000 0 0,wD c,iA s,bA cm] [(1000,cT d)] (vC e) [(1000,cT d')]:=by
 have k1:=yH d 6 zB zB;have b1:=yD d 6 zB;have r1:=wO d;generalize nx d 6=k at *;generalize ad d=d1 at *;unfold vC zC;by_cases h0:k=0
 ·refine⟨⟨2,s,0,0,[]⟩,d1,evb zB zB zB zB qY zS,r1,?_⟩;refine eM call53 λF hF=>?_
  refine zV k1 ?_;exact zH [1000] Z Z Z Z
 by_cases h1:k=1
 ·refine⟨⟨1,s,0,0,[]⟩,d1,evb zB zB zB zB qY zS,r1,?_⟩;refine eM call53 λF hF=>?_
  refine zV k1 ?_;exact zH [1000] Z Z Z Z
 by_cases h2:k=2
 ·have k2:=yH d1 4 zB zB;have b2:=yD d1 4 zB;have r2:=wO d1;have k3:=yH (ad d1) 50 zB zB;have b3:=yD (ad d1) 50 zB;have r3:=wO (ad d1);have k4:=dI (nx (ad d1) 50);refine⟨⟨4,0,nx d1 4,0,dY (nx (ad d1) 50)⟩,ad (ad d1),evb zB zB zB zB (YV _) (by rw[jJ];omega),zB,?_⟩;generalize nx (ad d1) 50=q at *;generalize nx d1 4=p at *;generalize dY q=y at *;refine eM call53 λF hF=>?_
  refine yQ (ZB k1 k2 k3 k4) ?_;exact zH [1000] Z Z Z Z
 cases cm with
 |true=>
  refine⟨⟨6,0,0,0,[]⟩,d1,evb zB zB zB zB qY zS,r1,?_⟩;refine eM call53 λF hF=>?_
  refine zV k1 ?_;exact zH [1000] Z Z Z Z
 |false=>
 by_cases h3:k=3
 ·have k2:=yH d1 3 zB zB;have b2:=yD d1 3 zB;have r2:=wO d1;have k3:=yH (ad d1) 9 zB zB;have b3:=yD (ad d1) 9 zB;have r3:=wO (ad d1);refine⟨⟨5,0,nx d1 3,nx (ad d1) 9,[]⟩,ad (ad d1),evb zB zB zB zB qY zS,zB,?_⟩;generalize nx (ad d1) 9=q at *;generalize nx d1 3=p at *;refine eM call53 λF hF=>?_
  refine yQ (gG k1 k2 k3) ?_;exact zH [1000] Z Z Z Z
 by_cases h4:k=4
 ·have k2:=yH d1 120 zB zB;have b2:=yD d1 120 zB;have r2:=wO d1;refine⟨⟨3,s,0,0,List.replicate (150+nx d1 120).toNat 0⟩,ad d1,evb zB zB zB zB (λx hx=>by have:=(yEs.1 hx).2;omega) (by rw[yB2];omega),zB,?_⟩;generalize nx d1 120=q at *;refine eM call53 λF hF=>?_
  have hnx:150+q=(((150+q).toNat:Nat):Int):=by omega
  (have zc1:=k1;have zc2:=k2;(repeat' (first|refine uP ?_|apply xM|apply xZ|intro hc|(refine zE ?_;first|(refine gP ?_;refine zDe tok Z Z Z Z Z Z Z Z Z Z Z Z hnx zB zB Z Z Z ?_))|fail))<;>clear zc1 zc2)
  have e:List.take (150+q).toNat (List.drop 0 (List.replicate (150+q).toNat (yA 0)))=(List.replicate (150+q).toNat 0).map yA:=by rw[yBf,yAo zS,yD6]
  exact zH [1000] Z Z (yBa (λz=>AV.agg [iA 3,iA s,iA 0,iA 0,.sl false z]) e) Z
 ·have k2:=zMl d1 9 zB zB;have b2:=yD d1 (9+1) zB;obtain⟨p1,p2,p3⟩:=zB6 (ad d1) (nx d1 (9+1)).toNat;have r2:=wO d1;refine⟨⟨3,s,0,0,(fN (ad d1) (nx d1 (9+1)).toNat).1⟩,(fN (ad d1) (nx d1 (9+1)).toNat).2,evb zB zB zB zB p3 zB,zB,?_⟩;generalize (fN (ad d1) (nx d1 (9+1)).toNat).1=y at *;generalize (fN (ad d1) (nx d1 (9+1)).toNat).2=d2 at *;refine eM call53 λF hF=>?_
  refine yQ (wV k1 k2) ?_;exact zH [1000] Z Z Z Z
def KY (l:List Ev) (n:Nat):Prop:=l.length<=n/\∀e∈l,bX e
theorem KY.nil:KY [] 0:=⟨yAg _,λe h=>by cases h⟩
theorem KY.app {l:List Ev} {n:Nat} (h:KY l n) {e:Ev} (he:bX e):KY (l++[e]) (n+1):=
 ⟨by have:=h.1;rw[yAf,yCl];omega,λx hx=>(yAz.1 hx).elim (h.2 x) λhx=>by rw[yBe.1 hx];exact he⟩
theorem KY.le {l:List Ev} {n m:Nat} (h:KY l n) (hm:n<=m):KY l m:=⟨yBn h.1 hm,h.2⟩
def zVh (g v:Int) (hg:0<=g/\g<256) (hv:0<=v/\v<=100):MgP ⟨4,g::0::dY (1000+g),[v,v.tmod 2],[]⟩:=by
 have h1:=yF8 2 hv.1;have h2:v.tmod 2<2:=yFx v zB;exact⟨IK hg zB (YV _),by simp[jJ],by dsimp only;omega,.cons zB (.cons zB .nil),⟨0,zB,λh=>absurd Z h,rfl⟩,rfl⟩
structure FM (c:Cf):Prop where
 j:1<=c.js.length/\c.js.length<=4
 jv:∀j∈c.js,JV j
 a:1<=c.ags.length/\c.ags.length<=4
 av:∀a∈c.ags,AgV a
 p:1<=c.per/\c.per<=600
 cp:0<=c.cap/\c.cap<=100
 h:1<=c.hold/\c.hold<=60
 l:0<=c.lock/\c.lock<=600
theorem FM.w {c:Cf} (h:FM c):CfW c:=⟨h.j.2,λj hj=>(h.jv j hj).n⟩
theorem FM.ag {c:Cf} (h:FM c):QP c.ags:=⟨h.a.2,λa ha=>(h.av a ha).e⟩
def zSs (d:Dk) (r:Int) (hr:0<=r/\r<=63):FM (QA d r):=by
 have hn:=zYl d r;have h1:=yD d (4-1+1) zB;have h2:=yD (ad d) 4 zB;have h3:=yD (ad (ad d)) (3-1+1) zB;have h4:=yD (ad (ad (ad d))) 5 zB;refine⟨zB,λj hj=>?_,zB,λa ha=>?_,?_,?_,?_,?_⟩
 ·rw[zMi]at hj;obtain⟨e,rfl⟩:=zEh _ _ j hj;exact zVx e
 ·obtain⟨i,hi,rfl⟩:=yCp ha;have:=(zWh d r hr (i:Int) zB zB).1.v;rw[show(i:Int).toNat=i from Z]at this;rw[show(QA d r).ags[i]=(QA d r).ags.getD i default by simp[List.getD,hi]];exact this
 all_goals (unfold QA;dsimp only;omega)
def zF7 (c:Cf) (h:FM c):zN 110 [wD c] [] (bA true) []:=by
 have hj:=h.j;have ha:=h.a;have hjl:=zA wC c.js;have hal:=zA wK c.ags;have w1:=dV ((c.js.map wC).length:Int) 1 4 zB;have w2:=dV ((c.ags.map wK).length:Int) 1 4 zB;have w3:=dV c.per 1 600 h.p;have w4:=dV c.cap 0 100 h.cp;have w5:=dV c.hold 1 60 h.h;have w6:=dV c.lock 0 600 h.l;unfold wD zC;refine eM call110 λF hF=>?_
 refine yQ (wV w1 w2) ?_;refine zO ((c.js.map wC).length) [1] [1] [1,20,21] [22,1,20,21] Z (λi T U=>⟨(22,iA i)::T,U⟩) ?_;(conv=>whnf);refine⟨by rfl,?_,?_⟩
 ·intro i hi;have hy:=zM wC c.js i zB;have kj:=QS _ (h.jv _ (zQ c.js i zB));generalize c.js.getD i default=j at *;refine zV kj ?_;rfl
 ·(refine WW ?_)
  refine zO ((c.ags.map wK).length) [1] [1] [1,31,32] [33,1,31,32] Z (λi T U=>⟨(33,iA i)::T,U⟩) ?_;(conv=>whnf);refine⟨by rfl,?_,?_⟩
  ·intro i hi;have hy:=zM wK c.ags i zB;have kj:=zE7 _ (h.av _ (zQ c.ags i zB));generalize c.ags.getD i default=a at *;refine zV kj ?_;rfl
  ·(refine yQ (ZB w3 w4 w5 w6) ?_)
   exact zJ
def LX (c:Cf) (i:Nat):List xJ:=(List.range i).map λk:Nat=>WP (k:Int) (c.ags.getD k default) (c.ags.getD k default).ses.toNat
def ME (j:Jn):Sv:=zQl j.ph.length
def YD (c:Cf):Cy:=⟨c,false,0,LX c c.ags.length,c.js.map fX,c.js.map ME,c.js.map λ_=> -1,c.js.map λj=>JD j (fX j) (ME j)⟩
theorem zVi (c:Cf) (h:FM c):zN 76 [wD c] [] (qA (YD c)) []:=by
 have kp:=zF7 c h;have hj:=h.j;have ha:=h.a;have hjl:=zA wC c.js;have hal:=zA wK c.ags;have hdl:∀i,((LX c i).map zL).length=i:=λi=>by simp[LX]
 have hfin:qA (YD c)= .agg [zC wC c.js,zC wK c.ags,iA c.per,iA c.cap,iA c.hold,iA c.lock,bA false,iA 0,zC zL (LX c c.ags.length),zC vH (c.js.map fX),zC vD (c.js.map ME),zC iA (c.js.map λ_=> -1),zC vA (c.js.map λj=>JD j (fX j) (ME j))]:=rfl;rw[hfin];unfold wD zC at *;refine eM call76 λF hF=>?_
 refine zV kp ?_;refine vW 3 8 1011 17 Z Z Z Z Z ?_;refine zO ((c.ags.map wK).length) [3,1011,1,2] [1,2] [1,2,3,35,36] [37,1,2,3,35,36] Z (λi T U=>⟨(37,iA i)::T,(3,.box [.sl false (c.js.map wC),.sl false (c.ags.map wK),iA c.per,iA c.cap,iA c.hold,iA c.lock,bA false,iA 0,.ref 1011 0 ((LX c i).map zL).length,.s (.slice none 0 0),.s (.slice none 0 0),.s (.slice none 0 0),.s (.slice none 0 0)])::(1011,.arr 17 ((LX c i).map zL) true)::U⟩) ?_;(conv=>whnf);refine⟨by rfl,?_,?_⟩
 ·intro i hi;have hy:=zM wK c.ags i zB;have kd:=(zS0 (i:Int) _ (h.av _ (zQ c.ags i zB))).1;have e:(LX c (i+1)).map zL=(LX c i).map zL++[zL (WP (i:Int) (c.ags.getD i default) (c.ags.getD i default).ses.toNat)]:=by unfold LX;rw[yCx,yAn,yAn];rfl
  have hdl:=hdl i;rw[e];clear kp hfin e;generalize WP (i:Int) (c.ags.getD i default) (c.ags.getD i default).ses.toNat=dk at *;generalize c.ags.getD i default=a at *;generalize (LX c i).map zL=X at *;unfold zL wJ at*
  (have zc1:=kd;(repeat' (first|refine ZJ ?_|apply xM|apply xZ|intro hc|(refine zE ?_;first|(refine yV ?_;refine qS tok Z Z ?_))|refine SB ?_|fail))<;>clear zc1)
  rfl
 ·(refine WW ?_)
  refine vW 3 9 1012 5 Z Z Z Z Z ?_;refine vW 3 10 1013 3 Z Z Z Z Z ?_;refine vW 3 11 1014 1 Z Z Z Z Z ?_;refine vW 3 12 1015 4 Z Z Z Z Z ?_;rw[hal];refine zO ((c.js.map wC).length) [3,1012,1013,1014,1015,2,1011] [2,1011] [2,3,52,53] [54,2,3,52,53] Z (λi T U=>⟨(54,iA i)::T,(3,.box [.sl false (c.js.map wC),.sl false (c.ags.map wK),iA c.per,iA c.cap,iA c.hold,iA c.lock,bA false,iA 0,.ref 1011 0 ((LX c c.ags.length).map zL).length,.ref 1012 0 (((c.js.take i).map fX).map vH).length,.ref 1013 0 (((c.js.take i).map ME).map vD).length,.ref 1014 0 ((c.js.take i).map λ_=>iA (-1)).length,.ref 1015 0 (((c.js.take i).map λj=>JD j (fX j) (ME j)).map vA).length])::(1012,.arr 5 (((c.js.take i).map fX).map vH) true)::(1013,.arr 3 (((c.js.take i).map ME).map vD) true)::(1014,.arr 1 ((c.js.take i).map λ_=>iA (-1)) true)::(1015,.arr 4 (((c.js.take i).map λj=>JD j (fX j) (ME j)).map vA) true)::U⟩) ?_;(conv=>whnf);refine⟨by rfl,?_,?_⟩
  ·intro i hi;have hi':i<c.js.length:=by omega
   have hy:=zM wC c.js i hi';have J:=h.jv _ (zQ c.js i hi')
   have et:c.js.take (i+1)=c.js.take i++[c.js.getD i default]:=by
    rw[yAk,yAr hi',yCh,yDq hi']
   have hlt:(c.js.take i).length<=4:=by rw[yAw];omega
   have k1:=zLe _ J;have k2:=zVp (c.js.getD i default).ph.length zDv;have k3:=zK3 _ J (fX (c.js.getD i default)) (zK9 J) (ME (c.js.getD i default));have hpl:((c.js.getD i default).ph.map vE).length=(c.js.getD i default).ph.length:=yAe ..;rw[et];simp only[yAn,yBs,yCq];have m1:(((c.js.take i).map fX).map vH).length=(c.js.take i).length:=by simp
   have m2:(((c.js.take i).map ME).map vD).length=(c.js.take i).length:=by simp
   have m3:((c.js.take i).map λ_=>iA (-1)).length=(c.js.take i).length:=by simp
   have m4:(((c.js.take i).map λj=>JD j (fX j) (ME j)).map vA).length=(c.js.take i).length:=by simp
   rw[show zQl (c.js.getD i default).ph.length=ME (c.js.getD i default)from Z,<-hpl]at k2;clear et hfin kp;generalize JD (c.js.getD i default) (fX (c.js.getD i default)) (ME (c.js.getD i default))=w at *;generalize fX (c.js.getD i default)=s at *;generalize ME (c.js.getD i default)=v at *;generalize c.js.getD i default=j at *;generalize ((c.js.take i).map fX).map vH=X1 at *;generalize ((c.js.take i).map ME).map vD=X2 at *;generalize (c.js.take i).map (λ_=>iA (-1))=X3 at *;generalize ((c.js.take i).map λj=>JD j (fX j) (ME j)).map vA=X4 at *;unfold wC zC vH vD vA at*
   (have zc1:=k1;have zc2:=k2;have zc3:=k3;(repeat' (first|refine ZJ ?_|apply xM|apply xZ|intro hc|(refine zE ?_;first|(refine yV ?_;refine qS tok Z Z ?_))|refine SB ?_|fail))<;>clear zc1 zc2 zc3)
   rfl
  ·rw[hjl,yAh];refine WW ?_;refine zH [] Z Z ?_ Z
   show AV.agg [.sl false (c.js.map wC),.sl false (c.ags.map wK),iA c.per,iA c.cap,iA c.hold,iA c.lock,bA false,iA 0,.sl false (List.take ((LX c c.ags.length).map zL).length (List.drop 0 ((LX c c.ags.length).map zL))),.sl false (List.take ((c.js.map fX).map vH).length (List.drop 0 ((c.js.map fX).map vH))),.sl false (List.take ((c.js.map ME).map vD).length (List.drop 0 ((c.js.map ME).map vD))),.sl false (List.take (c.js.map λ_=>iA (-1)).length (List.drop 0 (c.js.map λ_=>iA (-1)))),.sl false (List.take ((c.js.map λj=>JD j (fX j) (ME j)).map vA).length (List.drop 0 ((c.js.map λj=>JD j (fX j) (ME j)).map vA)))]=_
   rw[yBf,yAh,yBf,yAh,yBf,yAh,yBf,yAh,yBf,yAh,show(c.js.map λ_=>iA (-1))=(c.js.map λ_=>(-1:Int)).map iA by rw[yEz];rfl]
def zVj (j:Int) (x:Lg):zN 161 [xW x,.ptr 5 0 0] [(5,.box [iA j])] (bA (x.jn==j)) [(5,.box [iA j])]:=by
 refine eM call161 λF hF=>?_
 refine WW ?_;exact zK [5] Z Z Z Z
def zVk (j:Int) (l:List Lg) (hb:l.length<=1000):zN 160 [zC xW l,.fn 161 [.ptr 5 0 0]] [(5,.box [iA j])] (iA (RB (λr:Lg=>r.jn==j) l)) [(5,.box [iA j])]:=by
 have hl:=zA xW l;refine eM call160 λF hF=>?_
 refine WW ?_;refine kO (l) [5] [5] [0,1,7] [8,0,1,7] Z (λi pre T U zs=>(∀y∈pre,(y.jn==j)=false)/\zs=⟨(8,iA i)::T,U⟩) ?_;(conv=>whnf);refine⟨?_,?_,?_⟩
 ·exact⟨by simp,rfl⟩
 ·rintro i pre x post st hx hi ⟨hp,rfl⟩;have hy:=xG xW hx hi;have hlt:=yP hx hi;have c:=zVj j x;have hit:=PO (p:=λr:Lg=>r.jn==j) hx hp
  cases he:(x.jn==j)<;>rw[he]at c
  ·clear hx hit;refine zV c ?_;exact⟨λy hy=>by simp only[yAz,yBe]at hy;rcases hy with hy|rfl;exact hp y hy;exact he,rfl⟩
  ·rw[hit he,hi];clear hx hit;refine zV c ?_;exact zK [5] Z Z Z Z
 ·rintro st ⟨hp,rfl⟩;rw[ZR hp];refine WW ?_;exact zK [5] rfl rfl rfl rfl
def CY (ag j:Int) (x:Rq):List Cl:=if RB (λr:Lg=>r.jn==j) x.legs<0 then []else if(x.legs.getD (RB (λr:Lg=>r.jn==j) x.legs).toNat default).sc= -1 then []else [⟨ag,x.id,(x.legs.getD (RB (λr:Lg=>r.jn==j) x.legs).toNat default).ph,x.cls,(x.legs.getD (RB (λr:Lg=>r.jn==j) x.legs).toNat default).sc⟩]
def bR (ag j:Int) (l:List Rq):List Cl:=(l.map (CY ag j)).flatten
def zKm (ag j:Int) (x:Rq):(CY ag j x).length<=1:=by
 unfold CY;split
 ·exact yAt _
 ·split
  ·exact yAt _
  ·exact yAg _
def zF8 (ag j:Int) (l:List Rq) (x:Rq):bR ag j (l++[x])=bR ag j l++CY ag j x:=by simp[bR]
theorem YE (ag j:Int):∀l:List Rq,(bR ag j l).length<=l.length
 | []=>yAg _
 |x::l=>by
  have h1:=zKm ag j x;have h2:=YE ag j l;have e:bR ag j (x::l)=CY ag j x++bR ag j l:=rfl;rw[e,yAf,yAp];omega
def zF9 (l:List Rq) (ag j:Int) (hn:l.length<=1000) (hb:∀r∈l,r.legs.length<=1000):zN 121 [zC yL l,iA ag,iA j] [] (zC dZ (bR ag j l)) []:=by
 have hl:=zA yL l;refine eM call121 λF hF=>?_
 refine WW ?_;refine xC 7 1001 5 Z Z Z ?_;refine yM (l) [1001,5] [5] [1,5,12,13] [7,14,1,5,12,13] Z (λi pre T U=>⟨(7,.ref 1001 0 ((bR ag j pre).map dZ).length)::(14,iA i)::T,(1001,.arr 5 ((bR ag j pre).map dZ) true)::U⟩) ?_;(conv=>whnf);refine⟨by rfl,?_,?_⟩
 ·intro i pre x post hx hi;have hy:=xG yL hx hi;have hlt:=yP hx hi;have kx:=zVk j x.legs (hb x (wT hx));have hq:=YE ag j pre;have hql:((bR ag j pre).map dZ).length=(bR ag j pre).length:=yAe ..;have hpl:pre.length<=l.length:=by rw[hx];simp
  have hxl:(x.legs.map xW).length=x.legs.length:=yAe ..;rw[zF8,yAn]
  have hlo: -1<=RB (λr:Lg=>r.jn==j) x.legs/\(0<=RB (λr:Lg=>r.jn==j) x.legs->RB (λr:Lg=>r.jn==j) x.legs<x.legs.length):=by
   cases ha:x.legs.any (λr:Lg=>r.jn==j)with
   |true=>have:=zA0 ha;omega
   |false=>rw[RB,ha,yAc yAx];omega
  unfold CY;clear hx;generalize (bR ag j pre).map dZ=X at *;by_cases h0:RB (λr:Lg=>r.jn==j) x.legs<0
  ·rw[yAd h0,yCq,yA8];generalize RB (λr:Lg=>r.jn==j) x.legs=at1 at *;refine zV kx ?_;rfl
  ·rw[yAc h0];have hyg:=yN xW x.legs (RB (λr:Lg=>r.jn==j) x.legs) zB zB;generalize RB (λr:Lg=>r.jn==j) x.legs=at1 at *;generalize x.legs.getD at1.toNat default=g at *;by_cases h1:g.sc= -1
   ·rw[yAd h1,yCq,yA8];refine zV kx ?_;rfl
   ·rw[yAc h1];refine zV kx ?_;rfl
 ·(refine WW ?_)
  exact zH [] Z Z (yBa (AV.sl false) yAh) Z
def dS (j:Int) (l:List xJ):List Cl:=(l.map λd=>bR d.rg.num j d.rq).flatten
def zGa (j:Int) (l:List xJ) (d:xJ):dS j (l++[d])=dS j l++bR d.rg.num j d.rq:=by simp[dS]
theorem CZ (j:Int):∀l:List xJ,(∀d∈l,d.rq.length<=1000)->(dS j l).length<=1000*l.length
 | [],_=>yAg _
 |d::l,h=>by
  have h1:=YE d.rg.num j d.rq;have h2:=CZ j l (λx hx=>h x RS);have h3:=h d zS;have e:dS j (d::l)=bR d.rg.num j d.rq++dS j l:=rfl;rw[e,yAf,yAp];omega
def zGb (c:Cf) (rf:Bool) (now:Int) (ds:List xJ) (j:Int) (hd:ds.length<=1000) (hb:∀d∈ds,dH d) (A B C D:List AV) (a b e f:Nat):
  zN 86 [XU c rf now (zC zL ds) (.ref 1012 0 a) (.ref 1013 0 b) (.ref 1014 0 e) (.ref 1015 0 f),iA j] [(1012,.arr 5 A false),(1013,.arr 3 B false),(1014,.arr 1 C false),(1015,.arr 4 D false)] (zC dZ (dS j ds)) [(1012,.arr 5 A false),(1013,.arr 3 B false),(1014,.arr 1 C false),(1015,.arr 4 D false)]:=by
 have hl:=zA zL ds;unfold XU;refine eM call86 λF hF=>?_
 refine WW ?_;refine xC 5 1001 5 Z Z Z ?_;refine yM (ds) [1001,1012,1013,1014,1015] [1012,1013,1014,1015] [1,9,10] [5,11,1,9,10] Z (λi pre T U=>⟨(5,.ref 1001 0 ((dS j pre).map dZ).length)::(11,iA i)::T,(1001,.arr 5 ((dS j pre).map dZ) true)::U⟩) ?_;(conv=>whnf);refine⟨by rfl,?_,?_⟩
 ·intro i pre x post hx hi;have hy:=xG zL hx hi;have hlt:=yP hx hi;have hbx:=hb x (wT hx);have kx:=zF9 x.rq x.rg.num j hbx.q hbx.g;have hq:=CZ j pre (λd hd=>(hb d (by rw[hx];simp[hd])).q);have hql:((dS j pre).map dZ).length=(dS j pre).length:=yAe ..;have hq2:=YE x.rg.num j x.rq;have hq3:((bR x.rg.num j x.rq).map dZ).length=(bR x.rg.num j x.rq).length:=yAe ..;have hpl:pre.length<=ds.length:=by rw[hx];simp
  have hxq:=hbx.q;rw[zGa,yAn];clear hx;generalize (dS j pre).map dZ=X at *;unfold zC at kx;generalize bR x.rg.num j x.rq=Y at *;unfold zL wJ at hy;refine zV kx ?_;rfl
 ·(refine WW ?_)
  exact zH [1012,1013,1014,1015] Z Z (yBa (AV.sl false) yAh) Z
def BA (a:Ag) (h:1<=a.ses/\a.ses<=2):zN 192 [wK a] [] (iA a.ses) []:=by
 refine eM call192 λF hF=>?_
 refine WW ?_;refine zH [] Z Z (yBa iA ?_) Z;omega
def plA (a k s:Nat):AV:= .agg [iA a,iA k,iA s]
def zGc (c:Cf) (a:Nat):List (Nat×xO):=[(1103,.box [iA a]),(1104,.box [zC wC c.js,zC wK c.ags,iA c.per,iA c.cap,iA c.hold,iA c.lock])]
def GD (c:Cf) (a:Nat):List (List AV):=(List.range (c.ags.getD a default).ses.toNat).map λk=>[plA a k ((vM c.ags a).toNat+k)]
def zD1 (c:Cf) (a:Nat):zN 156 [wD c,iA a] [] (.fn 191 [.ptr 1104 0 0,.ptr 1103 0 0]) (zGc c a):=by
 unfold wD zGc;refine eM call156 λF hF=>?_
 repeat' (first|(refine zE ?_;first|refine uT (jC (v:=AV.agg _) 1104 Z Z) Z Z Z ?_|refine uT (jC (v:=AV.s _) 1103 Z Z) Z Z Z ?_|refine vF tok Z Z ?_|refine uQ ?_)|(first|refine xQ ?_|refine xE ?_|refine vG Z ?_|refine zX Z ?_|refine zU Z ?_|refine xK Z (λhc=>?_) λhc=>?_|refine xA ?_|refine yW ?_|refine xD ?_|refine yU ?_))
 exact zK [1103,1104] Z Z Z Z
def zKn (c:Cf) (h:QP c.ags) (a:Nat) (ha:a<c.ags.length):aJ prog 191 [.ptr 1104 0 0,.ptr 1103 0 0] (zGc c a) (GD c a):=by
 have hl:=zA wK c.ags;have hn:=h.1;have hs:=h.at ha;refine dL func191 Z (λargs w=>call191 args w) Z Z Z (λF y hro hit hY=>?_);unfold zGc;have htl:((c.ags.take (a:Int).toNat).map wK).length=a:=by rw[yAe,yAw];omega
 have hts:∀i,i<=a->vM (c.ags.take a) i=vM c.ags i:=λi=>by
  induction i with
  |zero=>intro _;rfl
  |succ i ih=>
   intro hi;unfold vM;rw[ih zB,yAk,yBr,yAd zB,<-yAk]
 refine WW ?_;refine zO (a) [1103,1104] [1103,1104] [0,1,2,11,12] [4,13,1000000,0,1,2,11,12] Z (λi T U=>⟨(4,iA (vM c.ags i))::(13,iA i)::(1000000,.gh 0)::T,U⟩) ?_;(conv=>whnf);refine⟨by rfl,?_,?_⟩
 ·intro i hi
  have hy:((c.ags.take (a:Int).toNat).map wK)[i]? =some (wK (c.ags.getD i default)):=by
   show((c.ags.take a).map wK)[i]? =_
   rw[yAi,yBr,yAd hi,yAk,yAr zB];rfl
  have h2:=h.at (i:=i) zB;have hb:=kQ h i zB;have kc:=BA (c.ags.getD i default) h2;rw[show vM c.ags (i+1)=vM c.ags i+(c.ags.getD i default).ses from Z];clear hts hs hY;generalize vM c.ags i=z at *;generalize c.ags.getD i default=g at *;refine zV kc ?_;rfl
 ·have hy:=zM wK c.ags a ha;have kc:=BA (c.ags.getD a default) hs;have hb:=kQ h a zB;obtain⟨bs,hbs⟩:∃bs:Nat,vM c.ags a=(bs:Int):=⟨(vM c.ags a).toNat,zB⟩;obtain⟨N,hN⟩:∃N:Nat,(c.ags.getD a default).ses=(N:Int):=⟨(c.ags.getD a default).ses.toNat,zB⟩;have hL:GD c a=(List.range N).map λk=>[plA a k (bs+k)]:=by unfold GD;rw[hbs,hN];rfl
  rw[hbs]at hb⊢;rw[hN]at kc hs;rw[hL]at hY⊢;clear hL hN hts;generalize c.ags.getD a default=g at *;refine zV kc ?_;refine zO (N) [1103,1104] [1103,1104] [0,2,4,27] [28,1000000,0,2,4,27] Z (λi T U=>⟨(28,iA i)::(1000000,.gh i)::T,U⟩) ?_;(conv=>whnf);refine⟨by rfl,?_,?_⟩
  ·intro k hk
   have hys:((List.range N).map λk=>[plA a k (bs+k)])[k]? =some [plA a k (bs+k)]:=by
    rw[yAi,yBg hk];rfl
   have hlen:k<((List.range N).map λk=>[plA a k (bs+k)]).length:=by simp;exact hk
   rw[show plA a k (bs+k)= .agg [iA (a:Int),iA (k:Int),iA ((bs:Int)+k)]from by unfold plA;rw[show((bs+k:Nat):Int)=(bs:Int)+k by omega]]at hys;generalize ((List.range N).map λk=>[plA a k (bs+k)])=xs at*
   (repeat' (first|refine uP ?_|apply xM|apply xZ|intro hc|(refine zE ?_;refine xT ?_;first|(refine KP ?_;refine US hit hY Z Z hys Z Z Z ?_ ?_))|(refine zE ?_;first|refine SM ?_)|fail))
   ·rfl
   ·exact hG Z (.inr zB)
  ·(refine WW ?_)
   exact cK Z (.inl zS)
def KZ (f g gr:Int) (ar:List Int):Nat->List Int
 |0=>[]
 |i+1=>(if(i:Int)=f/\0<g then KZ f g gr ar i++qQ gr else KZ f g gr ar i)++qQ (ar.getD i default)
def MF (f g gr:Int) (ar:List Int) (i:Nat):List Int:=if(i:Int)=f/\0<g then KZ f g gr ar i++qQ gr else KZ f g gr ar i
def BB {n:Int} (h:n<128):(qQ n).length=1:=by unfold qQ;rw[WR h];rfl
def zXt {n:Int} (h:n<16384):(qQ n).length<=2:=by
 by_cases h1:n<128
 ·rw[BB h1];omega
 ·unfold qQ;rw[OV zB,WR zB];simp
theorem GE (f g gr:Int) (ar:List Int):∀i,(KZ f g gr ar i).length<=10*i
 |0=>yAg _
 |i+1=>by
  have:=GE f g gr ar i;have h1:=jW gr;have h2:=jW (ar.getD i default);unfold KZ
  split<;>simp only[yAf]<;>omega
def zQh (f g gr:Int) (ar:List Int) (i:Nat):(MF f g gr ar i).length<=10*i+5:=by
 have:=GE f g gr ar i;have h1:=jW gr;unfold MF
 split<;>(try simp only[yAf])<;>omega
theorem zKo {f g gr:Int} (hg:0<=gr/\gr<=4294967295) {ar:List Int} (ha:PG ar):∀i,i<=ar.length->BY (KZ f g gr ar i)
 |0,_=>λx hx=>by cases hx
 | i+1,hi=>by
  have ih:=zKo (f:=f) (g:=g) hg ha i zB;have h1:=GU hg.1 hg.2;have h2:=ha (ar.getD i default) (zQ ar i zB);have h3:=GU h2.1 h2.2;unfold KZ;intro x hx
  rcases yAz.1 hx with hx|hx
  ·split at hx
   ·exact(yAz.1 hx).elim (ih x) (h1 x)
   ·exact ih x hx
  ·exact h3 x hx
def zVl {f g gr:Int} (hg:0<=gr/\gr<=4294967295) {ar:List Int} (ha:PG ar) (i:Nat) (hi:i<=ar.length):BY (MF f g gr ar i):=by
 have ih:=zKo (f:=f) (g:=g) hg ha i hi;have h1:=GU hg.1 hg.2;unfold MF;intro x hx;split at hx
 ·exact(yAz.1 hx).elim (ih x) (h1 x)
 ·exact ih x hx
theorem zVm (k f g lo hi sd gr:Int) (ar da:List Int) (c1:zN 103 [iA k] [] (.tup [XQ ⟨0,f,g,lo,hi,sd⟩,bA true]) []) (c2:zN 179 [XQ ⟨0,f,g,lo,hi,sd⟩,iA ((ar.map iA).length:Int)] [] (.tup [iA gr,bA true]) [])
  (hd:sd= -1∨(da.length:Int)=sd) (ha:PG ar) (hal:ar.length<=100) (hg:0<=gr/\gr<=4294967295) (hz:(MF f g gr ar ar.length++da).length<=200):
  zN 134 [yB ⟨k,[],ar,da⟩] [] (.tup [zC yA (MF f g gr ar ar.length++da),iA 0]) []:=by
 have c3:=QG [] zS;have hla:=zA iA ar;have hld:=zA yA da;have cg:=zXe gr hg.1 hg.2;have hlg:=zA yA (qQ gr);have hvg:=jW gr;have hpl:=GE f g gr ar;have hpg:=zQh f g gr ar;have hp0:KZ f g gr ar 0=[]:=rfl
 have hpG:∀i:Nat,MF f g gr ar i=if(i:Int)=f/\0<g then KZ f g gr ar i++qQ gr else KZ f g gr ar i:=λ_=>rfl
 have hpS:∀i:Nat,KZ f g gr ar (i+1)=MF f g gr ar i++qQ (ar.getD i default):=λ_=>rfl
 have hz3:(MF f g gr ar ar.length).length+da.length<=200:=by rw[yAf]at hz;exact hz
 have hz:((MF f g gr ar ar.length).map yA++da.map yA).length<=200:=by rw[yAf]at hz;simp;omega
 have hd3:da.length<=200:=by omega
 rw[show zC yA (MF f g gr ar ar.length++da)= .sl false (List.take ((MF f g gr ar ar.length).map yA++da.map yA).length (List.drop 0 ((MF f g gr ar ar.length).map yA++da.map yA))) by rw[yBf,yAh];unfold zC;rw[yAn]];rw[show yB ⟨k,[],ar,da⟩= .agg [iA k,zC yA [],zC iA ar,zC yA da]from Z];rw[show XQ ⟨0,f,g,lo,hi,sd⟩= .agg [iA 0,iA f,iA g,iA lo,iA hi,iA sd]from Z]at *; generalize MF f g gr ar=pg at *;generalize KZ f g gr ar=py at *;clear hz3
 rcases hd with h2|h2
 all_goals
  refine eM call134 λF hF=>?_
  refine yQ (gG c1 c2 c3) ?_
 all_goals
  refine vY 1001 Z ?_;refine xS (ar.length+1) [1001,1,4] [1,4] [1,4,6,64] [7,65,1,4,6,64] Z (λi T U zs=>(i<=ar.length)/\zs=⟨(7,.ref 1001 0 ((py i).map yA).length)::(65,iA i)::T,(1001,.arr 1 ((py i).map yA) true)::U⟩) ?_;(conv=>whnf);refine⟨?_,?_,?_⟩
  ·refine⟨yAt _,?_⟩;rw[hp0];rfl
  ·rintro i st' hi ⟨hik,rfl⟩;have hbl:=hpl i;have hb2:=hpg i;have hg:=hpG i;have hlp:=zA yA (py i);have hlP:=zA yA (pg i)
   have hmG:(pg i).map yA=if(i:Int)=f/\0<g then(py i).map yA++(qQ gr).map yA else(py i).map yA:=by
    rw[hg];split
    ·rw[yAn]
    ·rfl
   by_cases hie:i=ar.length
   ·subst hie;clear hpS hg hpl hpg hpG hp0 c1 c2 c3;generalize (py ar.length).map yA=A at *;generalize (pg ar.length).map yA=B at *;generalize qQ gr=W at *;by_cases hi1:(ar.length:Int)=f
    ·by_cases hi2:0<g
     ·rw[yAd ⟨hi1,hi2⟩]at hmG;subst hmG;refine zV cg ?_;exact zJ
     ·rw[yAc (λh=>hi2 h.2)]at hmG;subst hmG;refine WW ?_;exact zJ
    ·rw[yAc (λh=>hi1 h.1)]at hmG;subst hmG;refine WW ?_;exact zJ
   have hna:=ha (ar.getD i default) (zQ ar i zB);have cv:=zXe (ar.getD i default) hna.1 hna.2;have hy:=zM iA ar i zB;have hS:=hpS i;have hlv:=zA yA (qQ (ar.getD i default));have hvv:=jW (ar.getD i default);have hmS:(py (i+1)).map yA=(pg i).map yA++(qQ (ar.getD i default)).map yA:=by rw[hS,yAn]
   rw[hmS];clear hS hg hpl hpg hpG hpS hp0 hmS c1 c2 c3 hz ha;generalize (pg ar.length).map yA=E at *;generalize (py i).map yA=A at *;generalize (pg i).map yA=B at *;generalize qQ (ar.getD i default)=V at *;generalize ar.getD i default=a at *;generalize qQ gr=W at *;by_cases hi1:(i:Int)=f
   ·by_cases hi2:0<g
    ·rw[yAd ⟨hi1,hi2⟩]at hmG;subst hmG;refine yQ (wV cg cv) ?_;exact⟨zB,rfl⟩
    ·rw[yAc (λh=>hi2 h.2)]at hmG;subst hmG;refine zV cv ?_;exact⟨zB,rfl⟩
   ·rw[yAc (λh=>hi1 h.1)]at hmG;subst hmG;refine zV cv ?_;exact⟨zB,rfl⟩
  ·rintro st' ⟨hik,rfl⟩;exfalso;omega
def dX (k:Int):Int×Int×Int×Int×Int:=if k=16 then(1,0,0,0,10)else if k=17∨k=21 then(1,0,0,0,-1)else if k=18 then(1,3,0,16,0)else if k=19 then(0,2,0,4,0)else if k=20 then(4,0,0,0,0)else(2,0,0,0,0)
def zQi (k:Int) (h:13<=k/\k<=21):zN 103 [iA k] [] (.tup [XQ ⟨0,(dX k).1,(dX k).2.1,(dX k).2.2.1,(dX k).2.2.2.1,(dX k).2.2.2.2⟩,bA true]) []:=by
 have:k=13∨k=14∨k=15∨k=16∨k=17∨k=18∨k=19∨k=20∨k=21:=by omega
 rcases this with rfl|rfl|rfl|rfl|rfl|rfl|rfl|rfl|rfl
 all_goals
  refine eM call103 λF hF=>?_
  refine WW ?_;exact zJ
def zKp (f g lo hi sd n gr:Int) (hn:0<=n/\n<=100) (hf:0<=f/\f<=4) (h:(g=0/\n=f/\gr=0)∨((g=2∨g=3)/\n=f+g*gr/\0<=gr/\lo<=gr/\gr<=hi)):zN 179 [XQ ⟨0,f,g,lo,hi,sd⟩,iA n] [] (.tup [iA gr,bA true]) []:=by
 rw[show XQ ⟨0,f,g,lo,hi,sd⟩= .agg [iA 0,iA f,iA g,iA lo,iA hi,iA sd]from Z]
 rcases h with⟨rfl,rfl,rfl⟩|⟨rfl|rfl,he,h0,h1,h2⟩
 ·(refine eM call179 λF hF=>?_)
  refine WW ?_;exact zJ
 ·have hgr:gr=(n-f).tdiv 2:=by
   rw[yB6 zB];omega
  have hm:(n-f).tmod 2=0:=by
   rw[yBz zB];omega
  have hq:ZM .i64 ((n-f).tdiv 2):=by
   unfold ZM;have e1:IntKind.i64.min= -9223372036854775808:=by decide
   have e2:IntKind.i64.max=9223372036854775807:=by decide
   omega
  have h9:¬n-f<0:=by omega
  subst hgr;clear he;refine eM call179 λF hF=>?_
  refine WW ?_;exact zJ
 ·have hgr:gr=(n-f).tdiv 3:=by
   rw[yB6 zB];omega
  have hm:(n-f).tmod 3=0:=by
   rw[yBz zB];omega
  have hq:ZM .i64 ((n-f).tdiv 3):=by
   unfold ZM;have e1:IntKind.i64.min= -9223372036854775808:=by decide
   have e2:IntKind.i64.max=9223372036854775807:=by decide
   omega
  have h9:¬n-f<0:=by omega
  subst hgr;clear he;refine eM call179 λF hF=>?_
  refine WW ?_;exact zJ
structure SvM (k:Int) (ar da:List Int):Prop where
 kk:13<=k/\k<=21
 n:PG ar
 l:ar.length<=60
 b:BY da
 d:(dX k).2.2.2.2= -1∨(da.length:Int)=(dX k).2.2.2.2
 g:((dX k).2.1=0/\(ar.length:Int)=(dX k).1)∨(((dX k).2.1=2∨(dX k).2.1=3)/\∃gr:Int,(ar.length:Int)=(dX k).1+(dX k).2.1*gr/\0<=gr/\(dX k).2.2.1<=gr/\gr<=(dX k).2.2.2.1)
 z:(((ar.map qQ).flatten).length+1)+da.length<=200
theorem zD2 (f g gr:Int) (hgr:gr<128) (ar:List Int):∀i,i<=ar.length->(KZ f g gr ar i).length<=(((ar.take i).map qQ).flatten).length+(if f<i then 1 else 0)
 |0,_=>by simp[KZ]
 | i+1,hi=>by
  have ih:=zD2 f g gr hgr ar i zB;have h1:=BB hgr
  have e:ar.take (i+1)=ar.take i++[ar.getD i default]:=by
   rw[yAk,yAr zB,yCh,yDq zB]
  rw[e,yAn,yCv];unfold KZ;simp only[yAf,yBs,yCq,yC0,List.flatten_nil,yA8,yBk];split
  ·rename_i h2;rw[yAf,h1,yAd zB];rw[yAc zB]at ih;omega
  ·by_cases h3:f<i
   ·rw[yAd h3]at ih;rw[yAd zB];omega
   ·rw[yAc h3]at ih
    split<;>omega
def zQj (f g gr:Int) (hgr:gr<128) (ar:List Int):(MF f g gr ar ar.length).length<=((ar.map qQ).flatten).length+1:=by
 have ih:=zD2 f g gr hgr ar ar.length (yAg _);have h1:=BB hgr;rw[yAh]at ih;unfold MF;split
 ·rename_i h2;rw[yAf,h1];rw[yAc zB]at ih;omega
 ·split at ih<;>omega
def zQk (f g gr:Int) (ar:List Int) (h:ar≠[]):1<=(MF f g gr ar ar.length).length:=by
 have h1:0<ar.length:=List.length_pos_iff.2 h;obtain⟨n,hn⟩:∃n,ar.length=n+1:=⟨ar.length-1,zB⟩
 have h2:1<=(KZ f g gr ar ar.length).length:=by
  rw[hn];unfold KZ;rw[yAf];have:=(jW (ar.getD n default)).1;omega
 unfold MF;split
 ·rw[yAf];omega
 ·exact h2
def PyF (k:Int) (ar da p:List Int):Prop:=∃gr:Int,(0<=gr/\gr<=100)/\(((dX k).2.1=0/\(ar.length:Int)=(dX k).1/\gr=0)∨(((dX k).2.1=2∨(dX k).2.1=3)/\(ar.length:Int)=(dX k).1+(dX k).2.1*gr/\0<=gr/\(dX k).2.2.1<=gr/\gr<=(dX k).2.2.2.1))/\p=MF (dX k).1 (dX k).2.1 gr ar ar.length++da
def zKq {k:Int} {ar da:List Int} (h:SvM k ar da):∃p,(BY p/\PyF k ar da p)/\(p.length<=200/\(ar≠[]->1<=p.length))/\zN 134 [yB ⟨k,[],ar,da⟩] [] (.tup [zC yA p,iA 0]) []:=by
 have hl:=zA iA ar
 have hf:(0<=(dX k).1/\(dX k).1<=4)/\(dX k).2.2.2.1<=16:=by
  have hk:=h.kk;have:k=13∨k=14∨k=15∨k=16∨k=17∨k=18∨k=19∨k=20∨k=21:=by omega
  clear hk h
  rcases this with rfl|rfl|rfl|rfl|rfl|rfl|rfl|rfl|rfl<;>decide
 obtain⟨hf,hh⟩:=hf
 obtain⟨gr,hg1,hg2,hg3⟩:∃gr:Int,(0<=gr/\gr<=100)/\True/\(((dX k).2.1=0/\((ar.map iA).length:Int)=(dX k).1/\gr=0)∨(((dX k).2.1=2∨(dX k).2.1=3)/\((ar.map iA).length:Int)=(dX k).1+(dX k).2.1*gr/\0<=gr/\(dX k).2.2.1<=gr/\gr<=(dX k).2.2.2.1)):=by
  rw[hl]
  rcases h.g with⟨g1,g2⟩|⟨g1,gr,g2,g3,g4,g5⟩
  ·exact⟨0,zB,trivial,.inl ⟨g1,g2,rfl⟩⟩
  ·exact⟨gr,zB,trivial,.inr ⟨g1,g2,g3,g4,g5⟩⟩
 have c2:=zKp _ _ (dX k).2.2.1 (dX k).2.2.2.1 (dX k).2.2.2.2 ((ar.map iA).length:Int) gr (by have:=h.l;omega) hf hg3;have hs:=zQj (dX k).1 (dX k).2.1 gr zB ar;have hz:=h.z;refine⟨MF (dX k).1 (dX k).2.1 gr ar ar.length++da,⟨?_,gr,hg1,by rw[hl]at hg3;exact hg3,rfl⟩,?_,zVm k _ _ _ _ _ gr ar da (zQi k h.kk) c2 h.d h.n (by have:=h.l;omega) zB (by rw[yAf];omega)⟩
 ·intro x hx;exact(yAz.1 hx).elim (zVl zB h.n ar.length (yAg _) x) (h.b x)
 ·refine⟨by rw[yAf];omega,λh9=>?_⟩;have:=zQk (dX k).1 (dX k).2.1 gr ar h9;rw[yAf];omega
def zVn {k:Int} {ar da:List Int} (h:SvM k ar da):zN 195 [yB ⟨k,[],ar,da⟩] [] (bA true) []:=by
 obtain⟨p,_,_,c⟩:=zKq h;rw[show yB ⟨k,[],ar,da⟩= .agg [iA k,zC yA [],zC iA ar,zC yA da]from Z]at *; refine eM call195 λF hF=>?_
 refine zV c ?_;exact zJ
def dT {k:Int} {ar da:List Int} (h:SvM k ar da):∃p,(BY p/\PyF k ar da p)/\(p.length<=200/\(ar≠[]->1<=p.length))/\zN 97 [yB ⟨k,[],ar,da⟩] [] (.tup [zC yA (FI k p),iA 0]) []:=by
 obtain⟨p,h1,⟨h2,h3⟩,c⟩:=zKq h;have hk:=h.kk;have c2:=zUz k p zB zB h1.1 h2;refine⟨p,h1,⟨h2,h3⟩,?_⟩;generalize FI k p=q at *;rw[show yB ⟨k,[],ar,da⟩= .agg [iA k,zC yA [],zC iA ar,zC yA da]from Z]at *; refine eM call97 λF hF=>?_
 refine yQ (wV c c2) ?_;exact zJ
section
def bS (m:Ms):Prop:=m.tok=[]/\SvM m.kind m.args m.data
structure ItK (i:It):Prop where
 y:BY i.pay
 n:i.pay.length<=100000
 k:0<=i.kind/\i.kind<=255
 c:0<=i.code/\i.code<=100
def InS (i:In):Prop:=i.its.length<=1000/\∀x∈i.its,ItK x
theorem InS.b {i:In} (h:InS i):InB i:=⟨h.1,λx hx=>⟨(h.2 x hx).y,(h.2 x hx).n⟩⟩
structure EnK (e:En):Prop where
 a:0<=e.ag/\e.ag<4
 k:0<=e.ki/\e.ki<=255
 c:0<=e.co/\e.co<=100
def eX (l:List Int):((l.map qQ).flatten).length<=5*l.length:=by
 induction l with
 |nil=>simp
 |cons a l ih=>
  have:=(jW a).2;rw[yBs,yC0,yAf,yAp];omega
def sv2 (k a b:Int) (hk:k=13∨k=14∨k=15) (ha:0<=a/\a<=4294967295) (hb:0<=b/\b<=4294967295):bS ⟨k,[],[a,b],[]⟩:=by
 have h:=eX [a,b];refine⟨rfl,?_⟩;dsimp only
 have hs:dX k=(2,0,0,0,0):=by rcases hk with rfl|rfl|rfl<;>rfl
 refine⟨zB,.cons ha (.cons hb .nil),by simp,λx hx=>(by cases hx),?_,?_,by simp only[yAp,yBk]at *; omega⟩
 ·rw[hs];exact .inr Z
 ·rw[hs];exact .inl ⟨rfl,rfl⟩
def zVo {c:Cf} {d:xJ} (hI:uU c d):PG (fG d.rq):=by
 have ho:=hI.v.ok;generalize d.rq=l at *;intro x hx;unfold fG at hx;obtain⟨y,hy,hx⟩:=yD4.1 hx;obtain⟨r,hr,rfl⟩:=yBl.1 hy;have h:=ho r hr;have h0:=h.i0;have h1:=h.i1;have h2:=h.t0;have h3:=h.t1;simp only[yBt,yEk,yFv]at hx;omega
def zZn {c:Cf} {d:xJ} (hI:uU c d) {s now:Int} (n0:0<=now) (n1:now<=1073741824) {i:It} (hK:ItK i) {h:Hd} (hP:HdP c d s i now h):bS h.p:=by
 have hn:=hI.n;by_cases he:h.e=0
 ·obtain⟨a,_,hr⟩:=hP.yes he
  rcases hr with⟨_,e,_⟩|⟨_,e,_⟩|⟨_,e,_⟩|⟨_,k,sec,hk,⟨hs,hy⟩,e⟩|⟨_,x,x0,x1,e⟩
  ·rw[e];exact sv2 13 _ _ (.inl Z) zB zB
  ·have h4:=hI.v.n4;have hb:=zVo hI;have hl:=RK d.rq;have hf:=eX (fG d.rq);rw[e];refine⟨rfl,by dsimp only[OT];omega,hb,by dsimp only[OT];omega,λx hx=>(by cases hx),.inr Z,.inr ⟨.inl Z,(d.rq.length:Int),?_,zB,by show(0:Int)<=_;omega,by show _<=(4:Int);omega⟩,?_⟩
   ·show((fG d.rq).length:Int)=0+2*(d.rq.length:Int)
    omega
   ·show(((fG d.rq).map qQ).flatten).length+1+0<=200
    omega
  ·have h8:=hI.t8;have hv:=hI.vh;have hq:=hI.q;have ha:=hI.a.q;have hl:=hI.bl;have hb:=hI.a.b;have hfr:IM d.rg.tk<=8:=by rw[<-h8];exact yCo _ _
   rw[e];have hf:=eX (aZ d).args;refine⟨rfl,by dsimp only[aZ];omega,.cons zB (.cons zB (.cons zB (.cons zB .nil))),by simp[aZ],λx hx=>(by cases hx),.inr Z,.inl ⟨rfl,rfl⟩,?_⟩
   show(((aZ d).args.map qQ).flatten).length+1+0<=200
   have:(aZ d).args.length=4:=rfl;omega
  ·rw[e];have hf:=eX [(k:Int)];refine⟨rfl,by dsimp only;omega,.cons zB .nil,by simp,?_,.inr ?_,.inl ⟨rfl,rfl⟩,?_⟩
   ·intro x hx;simp only[yBt]at hx
    rcases hx with rfl|rfl|hx
    ·omega
    ·omega
    ·exact hy x hx
   ·show((d.rg.num::(k:Int)::sec).length:Int)=10
    simp only[yAp];omega
   ·show(([(k:Int)].map qQ).flatten).length+1+(d.rg.num::(k:Int)::sec).length<=200
    simp only[yAp,yBk]at hf⊢;omega
  ·rw[e];exact sv2 14 _ _ (.inr (.inl Z)) (by have:=hK.k;omega) ⟨x0,x1⟩
 ·have hb:=hP.eb hK.c;rw[(hP.no he).2.1];exact sv2 15 _ _ (.inr (.inr Z)) (by have:=hK.k;omega) zB
def zZo {c:Cf} {d:xJ} {s now:Int} {i:It} {h:Hd} (hP:HdP c d s i now h):h.p.kind≠17:=by
 by_cases he:h.e=0
 ·obtain⟨a,_,hr⟩:=hP.yes he
  rcases hr with⟨_,e,_⟩|⟨_,e,_⟩|⟨_,e,_⟩|⟨_,k,sec,hk,⟨hs,hy⟩,e⟩|⟨_,x,x0,x1,e⟩
  all_goals (rw[e];intro h17;revert h17;first|decide|(intro h17;cases h17))
 ·obtain⟨_,e,_⟩:=hP.no he;rw[e];intro h17;cases h17
def FN (now:Int) (l:List Rq):Prop:=∀r∈l,∀g∈r.legs,g.sc<=now
theorem FN.mono {a b:Int} {l:List Rq} (h:FN a l) (hab:a<=b):FN b l:=λr hr g hg=>Int.le_trans (h r hr g hg) hab
theorem FN.of {now:Int} (n0:0<=now) {l l':List Rq} (h:FN now l) (hs:UA l l'):FN now l':=λr hr g hg=>by
 rcases hs r hr g hg with h1|⟨r0,h1,_,g0,h2,_,_,h3⟩
 ·omega
 ·rw[<-h3];exact h r0 h1 g0 h2
theorem FN.mk {now:Int} (n0:0<=now) {l:List Rq} (h:FN now l):FN now (mkQ l now):=λr hr g hg=>by
 unfold mkQ at hr;obtain⟨r0,hr0,rfl⟩:=yBl.1 hr;unfold mkR at hg;obtain⟨g0,hg0,rfl⟩:=yBl.1 hg;unfold ZT;have:=h r0 hr0 g0 hg0;split
 ·split
  ·exact yCj _
  ·exact this
 ·show(-1:Int)<=now
  omega
theorem zKr {c:Cf} {s:Nat} {now:Int} (n0:0<=now) (n1:now<=1073741824) {its:List It} (hK:∀x∈its,ItK x) {f:Nat->TS} {d:xJ} (he:∀e∈(f 0).en,EnK e) (h0:(f 0).rs=[])
  (hs:∀k,k<its.length->StR c (s:Int) now (its.getD k default) (f k) (f (k+1))) (hd:∀k,BR c d (f k).d):∀k,k<=its.length->(∀m∈(f k).rs,bS m/\m.kind≠17)/\(∀e∈(f k).en,EnK e)/\(∀j:Nat,j≠s->(f k).d.au[j]? =(f 0).d.au[j]?)/\UA (f 0).d.rq (f k).d.rq
 |0,_=>⟨λm hm=>(by rw[h0]at hm;cases hm),he,λ_ _=>rfl,UA.refl _⟩
 | k+1,hk=>by
  obtain⟨i1,i2,i3,i4⟩:=zKr n0 n1 hK he h0 hs hd k zB;obtain⟨h,_,hP,hb⟩:=hs k zB;have hI:=(hd k).i;have hit:=hK _ (zQ its k zB);have hn:=hI.n;rw[hb];refine⟨λm hm=>?_,λe he=>?_,λj hj=>?_,i4.trans hP.sc⟩
  ·rcases yAz.1 hm with hm|hm
   ·exact i1 m hm
   ·rw[yBe.1 hm];exact⟨zZn hI n0 n1 hit hP,zZo hP⟩
  ·rcases yAz.1 he with he|he
   ·exact i2 e he
   ·rw[yBe.1 he];exact⟨hn,hit.k,hP.eb hit.c⟩
  ·dsimp only;rw[hP.ax j zB,i3 j hj]
structure DR where
 d:xJ
 R:List (List Ms)
 en:List En
 ks:List Int
def drT (r:DR):AV:=tkT r.d r.R r.en r.ks
structure DtP (c:Cf) (now:Int) (d:xJ) (ins:List In) (r:DR):Prop where
 i:uU c r.d
 ag:r.d.rg.ag=d.rg.ag
 num:r.d.rg.num=d.rg.num
 rn:r.R.length=d.au.length
 rl:∀s,s<d.au.length->(r.R.getD s []).length=(cC ins s).length
 rv:∀l∈r.R,l.length<=1000/\∀m∈l,bS m
 rk:∀l∈r.R,∀m∈l,m.kind≠17
 el:r.en.length<=2000
 en:∀e∈r.en,EnK e
 kl:r.ks.length<=2000
 ks:∀x∈r.ks,0<=x/\x<(c.js.length:Int)
 sc:FN now d.rq->FN now r.d.rq
 au:∀s,s<d.au.length->cC ins s=[]->r.d.au[s]? =some (QB ins s (d.au.getD s default))
 na:NoT d.rg.tk->NoT r.d.rg.tk/\r.d.au=auF ins d.au
def zXu {ins:List In} (h:∀i∈ins,InS i) (s:Nat):∀x∈cC ins s,ItK x:=by
 unfold cC;split
 ·rename_i hs;exact(h _ (zQ ins s hs.1)).2
 ·exact λx hx=>by cases hx
theorem zKs {c:Cf} {now:Int} (n0:0<=now) (n1:now<=1073741824) {ins:List In} (hin:∀i∈ins,InS i) {d:xJ} {zF:Nat->SS} (h0:zF 0=⟨d,[],[],[]⟩) (hz:∀s,BR c d (zF s).d/\SeR c now ins s (zF s) (zF (s+1))):
  ∀s,(zF s).R.length=s/\(∀j,j<s->((zF s).R.getD j []).length=(cC ins j).length)/\(∀l∈(zF s).R,l.length<=1000/\∀m∈l,bS m/\m.kind≠17)/\(∀e∈(zF s).en,EnK e)/\(∀j,(s<=j∨cC ins j=[])->(zF s).d.au[j]? =d.au[j]?)/\UA d.rq (zF s).d.rq
 |0=>by rw[h0];exact⟨rfl,λj hj=>absurd hj (yC3 _),λl hl=>(by cases hl),λe he=>(by cases he),λ_ _=>rfl,UA.refl _⟩
 | s+1=>by
  obtain⟨i0,i1,i2,i3,i4,i5⟩:=zKs n0 n1 hin h0 hz s;obtain⟨f,f0,f1,f2,f3⟩:=(hz s).2;have hsb:=(BS (λi hi=>(hin i hi).b) s).1;obtain⟨r1,r2,r3,r4⟩:=zKr n0 n1 (zXu hin s) (d:=(zF s).d) (f:=f) (by rw[f0];exact i3) (by rw[f0]) f1 (λk=>(f2 k).1) _ (yAg _);rw[f3];dsimp only;have hrl:=(f2 (cC ins s).length).2.1;refine⟨by rw[yAf,yCl,i0],λj hj=>?_,λl hl=>?_,r2,λj hj=>?_,i5.trans (by rw[f0]at r4;exact r4)⟩
  ·rw[yAk];by_cases h:j=s
   ·subst h;rw[yA4 zB,i0,yCm];exact hrl
   ·rw[yA9 zB,<-yAk];exact i1 j zB
  ·rcases yAz.1 hl with hl|hl
   ·exact i2 l hl
   ·rw[yBe.1 hl];exact⟨zB,r1⟩
  ·by_cases h:j=s
   ·subst h;have he:cC ins j=[]:=hj.elim (λh=>absurd h zB) id;rw[he,yBk,f0];exact i4 j (.inl (yAg _))
   ·rw[r3 j h,f0];exact i4 j (hj.imp (λh=>by omega) id)
def zKt (c:Cf) (d:xJ) (hI:uU c d) (ins:List In) (hil:ins.length=d.au.length) (hin:∀i∈ins,InS i) (now:Int) (n0:0<=now) (n1:now<=1073741824):
  ∃r:DR,DtP c now d ins r/\zN 94 [wD c,zL d,zC kL ins,iA now] [] (drT r) []:=by
 have hib:∀i∈ins,InB i:=λi hi=>(hin i hi).b
 have hau:d.au.length=1∨d.au.length=2:=by have:=hI.au;have:=hI.a.e;omega
 obtain⟨zF,z0,hz⟩:=zRb c now n0 n1 ins hib (dkU d ins) (zL8 hI ins);have hs:=zKs n0 n1 hin z0 (λs=>⟨(hz s).1,(hz s).2.2⟩) d.au.length;obtain⟨hT,⟨_,e2,e3,e4⟩,_⟩:=hz d.au.length;refine⟨⟨dkM (zF d.au.length).d now,(zF d.au.length).R,(zF d.au.length).en,(zF d.au.length).ks⟩,⟨zSz hT.i now n0 n1,hT.a,hT.n,hs.1,hs.2.1,λl h=>⟨(hs.2.2.1 l h).1,λm hm=>((hs.2.2.1 l h).2 m hm).1⟩,λl h m hm=>((hs.2.2.1 l h).2 m hm).2,by dsimp only;omega,hs.2.2.2.1,by dsimp only;omega,e4,λh9=>FN.mk n0 (FN.of n0 h9 hs.2.2.2.2.2),λs hsl he=>?_,hT.t⟩,?_⟩
 ·show(zF d.au.length).d.au[s]? =_
  rw[hs.2.2.2.2.1 s (.inr he)]
  show(auF ins d.au)[s]? =_
  unfold auF;rw[uO,yAd hsl,yAd hsl]
 ·show zN 94 [wD c,zL d,zC kL ins,iA now] [] (tkT (dkM (zF d.au.length).d now) (zF d.au.length).R (zF d.au.length).en (zF d.au.length).ks) []
  rcases hau with hn|hn
  ·rw[hn];exact zGk hI ins zB hib now n0 n1 zF z0 hn zB hz
  ·rw[hn];exact zGl hI ins zB hib now n0 n1 zF z0 hn zB hz
open Classical in
noncomputable def VO (c:Cf) (d:xJ) (ins:List In) (now:Int):DR:=if h:∃r:DR,DtP c now d ins r/\zN 94 [wD c,zL d,zC kL ins,iA now] [] (drT r) []then h.choose else⟨default,[],[],[]⟩
def zGd (c:Cf) (d:xJ) (hI:uU c d) (ins:List In) (hil:ins.length=d.au.length) (hin:∀i∈ins,InS i) (now:Int) (n0:0<=now) (n1:now<=1073741824):
  DtP c now d ins (VO c d ins now)/\zN 94 [wD c,zL d,zC kL ins,iA now] [] (drT (VO c d ins now)) []:=by
 have h:=zKt c d hI ins hil hin now n0 n1;unfold VO;rw[yFo h];exact h.choose_spec
def BC (c:Cf) (d:xJ) (ins:List In) (now:Int):(VO c d ins now).en.length<=2000/\(VO c d ins now).ks.length<=2000:=by
 unfold VO;split
 ·rename_i h;have:=h.choose_spec.1;exact⟨this.el,this.kl⟩
 ·exact⟨yAt _,yAt _⟩
end
end Av
end Go.Proofs.YteajjdidebfcjaaGreat
