/- Part 29. -/
import Derived.Test.YtmamjhmoegjapaaGreatP28
import Derived.Lib.SliceRun
namespace Go.Proofs.YtmamjhmoegjapaaGreat
namespace Av
open Tryz
set_option linter.all false
set_option maxRecDepth 4000
set_option maxHeartbeats 4000000
def owR:List Ag->Int->Nat->Int×Int
 | [],_,_=>(-1,-1)
 |a::l,s,i=>if s<a.ses then((i:Int),s)else owR l (s-a.ses) (i+1)
def owF (c:Cf) (s:Int):Int×Int:=if s<0 then(-1,-1)else owR c.ags s 0
theorem zCy (c:Cf) (hw:MB c.ags) (s:Int) (hs:s<=1000000):zO 131 [wJ c,iA s] [] (.tup [iA (owF c s).1,iA (owF c s).2]) []:=by
 have hal:=zA wN c.ags;have h4:=hw.1;unfold wJ zD;by_cases h0:s<0
 ·rw[show owF c s=(-1,-1)from zYp h0];refine eM call131 λF hF=>?_
  refine WW ?_;exact zL
 rw[show owF c s=owR c.ags s 0 from zYo h0];refine eM call131 λF hF=>?_
 refine WW ?_;refine kR (c.ags) [] [] [11,12] [1,13,11,12] rfl (λi pre T U zs=>∃(z:Int),(owR c.ags s 0=owR (c.ags.drop pre.length) z pre.length/\0<=z/\z<=s)/\zs=⟨(1,iA z)::(13,iA i)::T,U⟩) ?_;(conv=>whnf);refine⟨?_,?_,?_⟩
 ·exact⟨s,⟨rfl,zB,yAu _⟩,rfl⟩
 ·rintro i pre x post st hx hi ⟨z,⟨q1,q2,q3⟩,rfl⟩;have hy:=xO wN hx hi;have hlt:=yX hx hi;have hxs:=hw.2 x (wY hx);rw[show c.ags.drop pre.length=x::post by rw[hx,yDq],hi]at q1;have hd:c.ags.drop (pre++[x]).length=post:=by rw[hx,show pre++x::post=(pre++[x])++post by simp,yDq]
  have hl1:(pre++[x]).length=i+1:=by simp[hi]
  rw[show owR (x::post) z i=if z<x.ses then((i:Int),z)else owR post (z-x.ses) (i+1)from rfl]at q1;clear hx;unfold wN at hy;by_cases h:z<x.ses
  ·rw[zYp h]at q1;rw[q1];dsimp only;refine WW ?_;exact zL
  ·rw[zYo h]at q1;refine WW ?_;exact⟨z-x.ses,⟨by rw[hd,hl1];exact q1,zB,zB⟩,rfl⟩
 ·rintro st ⟨z,⟨q1,q2,q3⟩,rfl⟩;rw[yCi]at q1;rw[q1];refine WW ?_;exact zL
def SD (c:Cf) (a:Int) (e:Ev):Bool:=decide (1<=e.k/\e.k<=3)&&decide ((owF c e.s).1≠ -1/\(owF c e.s).1=a)
theorem zA4 (c:Cf) (hw:MB c.ags) (a:Int) (e:Ev) (he:ZP e):zO 75 [wJ c,iA a,wT e] [] (bA (SD c a e)) []:=by
 have k:=zCy c hw e.s (by have:=he.s;omega);unfold SD;have hk:=he.k;generalize owF c e.s=o at *;obtain⟨o1,o2⟩:=o;obtain⟨ek,es,ea,eb,ey⟩:=e;dsimp only at *;unfold wT;dsimp only;unfold wJ at *;by_cases h:1<=ek/\ek<=3
 ·rw [zYu h,zZh];have h3:ek=1∨ek=2∨ek=3:=by omega
  by_cases h1:o1= -1
  ·subst h1;rw[zYw zU]
   rcases h3 with rfl|rfl|rfl
   all_goals
    refine eM call75 λF hF=>?_
    refine zW k ?_;exact zL
  ·by_cases h2:o1=a
   ·rw[zYu ⟨h1,h2⟩]
    rcases h3 with rfl|rfl|rfl
    all_goals
     refine eM call75 λF hF=>?_
     refine zW k ?_;exact zL
   ·rw[zYw (λh=>h2 h.2)]
    rcases h3 with rfl|rfl|rfl
    all_goals
     refine eM call75 λF hF=>?_
     refine zW k ?_;exact zL
 ·rw[zYw h,yAf];have h3:3<ek:=by omega
  refine eM call75 λF hF=>?_
  refine WW ?_;exact zL
def mnB (c:Cf) (a:Int) (e:Ev):Bool:=decide (e.k=6)||((decide (e.k=4)&&decide (e.a=a))||SD c a e)
def RS (c:Cf) (a:Int) (l:List Ev):List Ev:=l.filter (mnB c a)
theorem QN (c:Cf) (hw:MB c.ags) (a:Int) (l:List Ev) (hl:l.length<=400) (he:∀e∈l,ZP e):zO 26 [wJ c,zD wT l,iA a] [] (zD wT (RS c a l)) []:=by
 have hll:=zA wT l;have hko:=λe (h:ZP e)=>zA4 c hw a e h
 unfold wJ zD at *;refine eM call26 λF hF=>?_
 refine WW ?_;have tk4:l.take (min ((l.map wT).length:Int) 400).toNat=l:=zYy (by rw[zYq];omega);rw[tk4];refine xK 7 1001 5 rfl rfl rfl ?_;refine yS (l) [1001,3] [3] [2,3,14,15] [7,16,2,3,14,15] rfl (λi pre T U=>⟨(7,.ref 1001 0 ((RS c a pre).map wT).length)::(16,iA i)::T,(1001,.arr 5 ((RS c a pre).map wT) true)::U⟩) ?_;(conv=>whnf);refine⟨by rfl,?_,?_⟩
 ·intro i pre x post hx hi;have hy:=xO wT hx hi;have hlt:=yX hx hi;have hxe:=he x (wY hx);have kx:=hko x hxe;have kc:=zKl x (by have:=hxe.n;omega);have hfl:(RS c a pre).length<=pre.length:=yAv _ _;have hfm:=zA wT (RS c a pre)
  have e1:RS c a (pre++[x])=RS c a pre++(if mnB c a x=true then [x]else []):=by
   unfold RS;rw[yBz]
   congr 1
   by_cases h:mnB c a x=true
   ·rw[zYp h,yBv h];rfl
   ·rw[zYo h,yB2 h];rfl
  rw[e1,zYz];have hb:mnB c a x=(decide (x.k=6)||((decide (x.k=4)&&decide (x.a=a))||SD c a x)):=rfl;have hk:=hxe.k;clear hx e1;generalize (RS c a pre).map wT=X at *;generalize SD c a x=ob at *;generalize mnB c a x=mb at *;by_cases h6:x.k=6
  ·rw[zYu h6,yA4]at hb;subst hb;rw[zYp rfl];unfold wT at *;refine MM (vD kx kc) ?_;rfl
  ·rw[zYw h6,yBh]at hb;by_cases h4:x.k=4
   ·by_cases ha:x.a=a
    ·rw[zYu h4,zYu ha,zZh,yA4]at hb;subst hb;rw[zYp rfl];unfold wT at *;refine MM (vD kx kc) ?_;rfl
    ·rw[zYw ha,yCh,yBh]at hb;subst hb;unfold wT at *;cases mb
     ·rw[zYo zZb,yA5,zZo];refine MM (vD kx kc) ?_;rfl
     ·rw[zYp rfl];refine MM (vD kx kc) ?_;rfl
   ·rw[zYw h4,yAf,yBh]at hb;subst hb;unfold wT at *;cases mb
    ·rw[zYo zZb,yA5,zZo];refine MM (vD kx kc) ?_;rfl
    ·rw[zYp rfl];refine MM (vD kx kc) ?_;rfl
 ·(refine WW ?_)
  exact zI [] rfl rfl (zZl (AV.sl false) zYv) rfl
theorem KD (l:List Ev) (hl:l.length<=1000000):zO 28 [zD wT l,zD wT l] [] (bA true) []:=by
 have hll:=zA wT l;refine eM call28 λF hF=>?_
 refine WW ?_;refine yS (l) [] [] [1,13,14] [15,1,13,14] rfl (λi pre T U=>⟨(15,iA i)::T,U⟩) ?_;(conv=>whnf);refine⟨by rfl,?_,?_⟩
 ·intro i pre x post hx hi;have hy:=xO wT hx hi;have hlt:=yX hx hi;have he:=dI x.y;unfold wT zD at hy;clear hx;refine WW ?_
  all_goals (first|rfl|(exfalso;first|(simp[dI]at hc;done)|(revert hc;simp[dI];done)))
 ·(refine WW ?_)
  exact zL
def wkK (k:Int):Bool:=!(decide (k=6)||(decide (k=7)||decide (k=8)))
def wkQ (p:Pc):Bool:=wkK p.it.kind
def LA (b:List Int) (p:Pc):List Int:=(b.drop p.fr).take p.k
def KE (b:List Int) (l:List Pc):List Int:=((l.filter wkQ).map (LA b)).flatten
def wkF (b:List Int):List Int:=KE b (jD b.length b 0)
def woB (c:Cf) (a:Int) (e:Ev):Bool:=decide (e.k=3)&&(SD c a e&&whF e.y)
def GN (c:Cf) (a:Int) (e:Ev):Ev:=if woB c a e=true then⟨e.k,e.s,e.a,e.b,wkF e.y⟩else e
def QO (c:Cf) (a:Int) (l:List Ev):List Ev:=l.map (GN c a)
theorem zJy (b:List Int) {l:List Pc} {i:Nat} {p:Pc} (h:l[i]? =some p):KE b (l.take (i+1))=KE b (l.take i)++(if wkQ p=true then LA b p else []):=by
 unfold KE;rw[yA6,h,yBz,zYz,yDd]
 congr 1
 show(List.map (LA b) (List.filter _ [p])).flatten=_
 by_cases hk:wkQ p=true
 ·rw[zYp hk,yBv hk];simp
 ·rw[zYo hk,yB2 hk];rfl
theorem zCz (b:List Int):∀(l:List Pc),(∀p∈l,p.k<=100000)->(KE b l).length<=100000*l.length
 | [],_=>zYs _
 | p::l,h=>by
  have ih:=zCz b l λq hq=>h q (by simp[hq])
  have hp:=h p zU;unfold KE at ih⊢;by_cases hk:wkQ p=true
  ·rw[yBv hk,yAa,yBf,zYr,zY2];have:(LA b p).length<=p.k:=by unfold LA;rw[zY5];omega
   omega
  ·rw[yB2 hk,zY2];omega
theorem zC0:∀(n:Nat) (r:List Int) (a:Nat),(jD n r a).length<=n
 |0,_,_=>zYs _
 | n+1,r,a=>by
  unfold jD;split
  ·exact zY4 _
  ·rename_i q _;split
   ·rw[zY2];have:=zC0 n (r.drop q.2) (a+q.2);omega
   ·exact zY4 _
theorem KG (c:Cf) (hw:MB c.ags) (a:Int) (l:List Ev) (hl:l.length<=400) (he:∀e∈l,ZP e):zO 27 [wJ c,zD wT l,iA a] [] (zD wT (QO c a l)) []:=by
 have hll:=zA wT l;have hko:=λe (h:ZP e)=>zA4 c hw a e h
 unfold wJ zD at *;refine eM call27 λF hF=>?_
 refine WW ?_;refine vZ 14 rfl ?_;refine yS (l) [14,3] [3] [2,3,15,16,40] [7,17,2,3,15,16,40] rfl (λi pre T U=>⟨(7,.ref 14 0 ((QO c a pre).map wT).length)::(17,iA i)::T,(14,.arr 5 ((QO c a pre).map wT) true)::U⟩) ?_;(conv=>whnf);refine⟨by rfl,?_,?_⟩
 ·intro i pre x post hx hi;have hy:=xO wT hx hi;have hlt:=yX hx hi;have hxe:=he x (wY hx);have kx:=hko x hxe;have hxn:=hxe.n;have kc:=zKl x zB;have kw:=zC8 x.y hxe.y zB;have kp:=SF x.y;have ht:=WI x.y hxe.y zB;have hbd:=zKf (n:=x.y.length) (a:=0) hxe.y;have hfl:(QO c a pre).length=pre.length:=zYq ..;have hfm:=zA wT (QO c a pre);have e1:QO c a (pre++[x])=QO c a pre++[GN c a x]:=by unfold QO;rw[zYz];rfl
  rw[e1,zYz]
  have hwo:GN c a x=if woB c a x=true then⟨x.k,x.s,x.a,x.b,wkF x.y⟩else x:=rfl
  have hb:woB c a x=(decide (x.k=3)&&(SD c a x&&whF x.y)):=rfl;have hL:vfL x.y=(jD x.y.length x.y 0).map λp=>[pcA p]:=rfl
  clear hx e1 he hko hxe;generalize (QO c a pre).map wT=X at *;generalize SD c a x=ob at *;generalize whF x.y=wb at *;generalize woB c a x=mb at *;by_cases h3:x.k=3
  ·rw [zYu h3,zZh]at hb;cases ob
   ·rw[yAf]at hb;subst hb;rw[zYo zZb]at hwo;rw[hwo];unfold wT at *;refine MM (vD kx kc) ?_;rfl
   ·rw [zZh]at hb;subst hb;cases mb
    ·rw[zYo zZb]at hwo;rw[hwo];unfold wT zD at *;refine MM (gK kx kc kw) ?_;rfl
    ·rw[zYp rfl]at hwo;rw[hwo];unfold psH at kp ht;unfold wT zD at *;refine xA (aG kx kc kw kp) ?_;refine vW 10 0 1051 1 rfl rfl rfl rfl rfl ?_
     refine wW hF ht rfl [3,9,10,14,1051] [2,3,7,9,10,15,16,17] rfl rfl rfl rfl rfl rfl rfl rfl rfl (λk ys h=>?_) (λj=>[(3,.box [.sl false (c.js.map wC),.sl false (c.ags.map wN),iA c.per,iA c.cap,iA c.hold,iA c.lock]),(9,.box [iA x.k,iA x.s,iA x.a,iA x.b,.sl false (x.y.map yA)]),(10,.box [.ref 1051 0 ((KE x.y ((jD x.y.length x.y 0).take j)).map yA).length]),(14,.arr 5 X true),(1051,.arr 1 ((KE x.y ((jD x.y.length x.y 0).take j)).map yA) true)]) (λ_=>True)
      (T:=[(2,iA a),(3,.ptr 3 0 0),(7,.ref 14 0 X.length),(9,.ptr 9 0 0),(10,.ptr 10 0 0),(15,.sl false (l.map λe=> .agg [iA e.k,iA e.s,iA e.a,iA e.b,.sl false (e.y.map yA)])),(16,iA ((l.map λe=>AV.agg [iA e.k,iA e.s,iA e.a,iA e.b,.sl false (e.y.map yA)]).length:Int)),(17,iA i)]) rfl trivial (λj ys q hys hI F1 h1 h2=>?_) (λhI=>?_)
     ·rw[hL,zYt,zY1]at h;obtain⟨x,_,rfl⟩:=h;rfl
     ·rw[hL,zYt,zY1]at hys;obtain⟨p,hp,rfl⟩:=hys;have hjl:j<(jD x.y.length x.y 0).length:=(zZg.1 hp).1;rw[zJy x.y hp];obtain⟨b1,b2,b3,_⟩:=hbd p (zZ4 hp);have hyl:=zA yA x.y
      have hWl:=zCz x.y ((jD x.y.length x.y 0).take j) λq hq=>by
       have:=hbd q (zZ1 hq);omega
      have hvl:=zC0 x.y.length x.y 0;rw[zY5]at hWl;have hWm:=zA yA (KE x.y ((jD x.y.length x.y 0).take j));clear hL hbd hp ht kp kw kx;generalize KE x.y ((jD x.y.length x.y 0).take j)=W at *;unfold pcA;refine WW ?_;refine⟨rfl,λF2 g1 g2=>?_⟩;dsimp only;have hq:wkQ p= !(decide (p.it.kind=6)||(decide (p.it.kind=7)||decide (p.it.kind=8))):=rfl;by_cases k6:p.it.kind=6
      ·rw[zYu k6,yA4]at hq;rw[zYo zH5,zZo];refine WW ?_;exact⟨rfl,trivial⟩
      rw[zYw k6,yBh]at hq;by_cases k7:p.it.kind=7
      ·rw[zYu k7,yA4]at hq;rw[zYo zH5,zZo];refine WW ?_;exact⟨rfl,trivial⟩
      rw[zYw k7,yBh]at hq;by_cases k8:p.it.kind=8
      ·rw[zYu k8]at hq;rw[zYo zH5,zZo];refine WW ?_;exact⟨rfl,trivial⟩
      rw[zYw k8]at hq;rw[zYp (by rw[hq];rfl),zYz];refine WW ?_
      have eS:List.take (((p.fr:Int)+(p.k:Int)).toNat-(p.fr:Int).toNat) (List.drop (p.fr:Int).toNat (x.y.map yA))=(LA x.y p).map yA:=by
       unfold LA;rw[yCb,yCa,show((p.fr:Int)+(p.k:Int)).toNat-(p.fr:Int).toNat=p.k by omega];rfl
      rw[eS];have hPl:=zA yA (LA x.y p);have hPb:(LA x.y p).length<=p.k:=by unfold LA;rw[zY5];omega
      generalize LA x.y p=Z at *;refine WW ?_;exact⟨rfl,trivial⟩
     ·have eW:KE x.y ((jD x.y.length x.y 0).take (vfL x.y).length)=wkF x.y:=by
       rw[hL,zYq,zYv];rfl
      rw[eW];have hWm:=zA yA (wkF x.y);clear hL hbd ht kp kw kx eW;generalize wkF x.y=W at*
      show uI _ _ _ _ ⟨_,_⟩ _
      refine uQ [3,9,10,14] [2,3,7,9,10,15,16,17] rfl ?_
      (conv=>whnf)
      simp only[zZv,zYv];refine WL ?_;rfl
  ·rw[zYw h3,yAf]at hb;subst hb;rw[zYo zZb]at hwo;rw[hwo];unfold wT at *;refine WLo kc ?_;rfl
 ·(refine WW ?_)
  exact zI [] rfl rfl (zZl (AV.sl false) zYv) rfl
theorem tkd {l z:List Int} {n i k:Nat} (h:i+k<=n) (hn:n<=l.length):((l.take n++z).drop i).take k=(l.drop i).take k:=by
 apply zZ9;intro j;rw[zZ2,zZ2];split
 ·rw[yAj,yAj,zZf zB6,zZ2,zYp zB]
 ·rfl
theorem tkg {l z:List Int} {n i:Nat} (h:i<n) (hn:n<=l.length):(l.take n++z).getD i 0=l.getD i 0:=by
 rw[zY0,zY0,zZf zB6,zZ2,zYp h]
theorem zJz {b c:List Int} (h4:c.getD 4 0=b.getD 4 0) (h5:c.getD 5 0=b.getD 5 0):YW c=YW b:=by
 unfold YW;rw[h4,h5]
theorem HJ {b:List Int} {p:It×Nat} (h:XE b=some p) (hc:p.1.code=0) (z:List Int):XE (b.take p.2++z)=some p/\p.2<=b.length:=by
 unfold XE at h;by_cases c1:b.length=0
 ·rw[zYp c1]at h;cases h
 rw[zYo c1]at h;by_cases c2:b.getD 0 0≠90∨(1<b.length/\b.getD 1 0≠165)
 ·rw[zYp c2]at h;cases h;cases hc
 rw[zYo c2]at h;by_cases c3:b.length<6
 ·rw[zYp c3]at h;cases h
 rw[zYo c3]at h;by_cases c4:200<YW b
 ·rw[zYp c4]at h;cases h;cases hc
 rw[zYo c4]at h;by_cases c5:b.length<YW b+10
 ·rw[zYp c5]at h;cases h
 rw[zYo c5]at h;by_cases c6:aK ((b.drop 2).take (YW b+4))≠GA ((b.drop (YW b+6)).take 4)
 ·rw[zYp c6]at h;cases h;cases hc
 rw[zYo c6]at h;by_cases c7:b.getD 2 0≠1
 ·rw[zYp c7]at h;cases h;cases hc
 rw[zYo c7]at h;by_cases c8:b.getD 3 0<1∨22<b.getD 3 0
 ·rw[zYp c8]at h;cases h;cases hc
 rw[zYo c8]at h;cases h;dsimp only;have hn:YW b+10<=b.length:=by omega
 refine⟨?_,hn⟩;have hl:(b.take (YW b+10)++z).length=YW b+10+z.length:=by rw[zYr,zY5];omega
 have g:∀i,i<YW b+10->(b.take (YW b+10)++z).getD i 0=b.getD i 0:=λi hi=>tkg hi hn
 have hp:YW (b.take (YW b+10)++z)=YW b:=zJz (g 4 zB) (g 5 zB);unfold XE;rw[zYo (by rw[hl];omega),zYo (by rw[hl,g 0 zB,g 1 zB];intro h;exact c2 (h.imp id λh=>⟨zB,h.2⟩)),zYo (by rw[hl];omega),hp,zYo c4,zYo (by rw[hl];omega),tkd zB hn,tkd zB hn,zYo c6,g 2 zB,zYo c7,g 3 zB,zYo c8,tkd zB hn]
def gpF:List (It×List Int)->Nat->List Pc
 | [],_=>[]
 |q::l,a=>⟨a,q.2.length,q.1⟩::gpF l (a+q.2.length)
def zUc (q:It×List Int):Prop:=XE q.2=some (q.1,q.2.length)/\q.1.code=0
theorem DW:∀(l:List (It×List Int)) (n a:Nat),(∀q∈l,zUc q)->((l.map (·.2)).flatten).length<=n->jD n (l.map (·.2)).flatten a=gpF l a
 | [],n,a,_,_=>by
  rw[NL (zY4 _)];rfl
 |q::l,n,a,hg,hn=>by
  obtain⟨h1,h2⟩:=hg q zU;have h3:=(HJ h1 h2 (l.map (·.2)).flatten).1;rw[show(q.1,q.2.length).2=q.2.length from rfl,zYy (zYs _)]at h3;have e:((q::l).map (·.2)).flatten=q.2++(l.map (·.2)).flatten:=by simp
  rw[e]at hn⊢;rw[NL hn,h3];have hp:=zC7 h1;dsimp only at hp⊢;rw[zYp h2,yDq,DW l (n-1) _ (λx hx=>hg x VX) (by rw[zYr]at hn;omega)];rfl
theorem DX {b:List Int}:∀(n a:Nat),∀p∈jD n (b.drop a) a,zUc (p.it,LA b p)/\(LA b p).length=p.k
 |0,a,p,hp=>by cases hp
 | n +1,a,p,hp=>by
  unfold jD at hp;split at hp
  ·cases hp
  ·rename_i q hq;split at hp
   ·rename_i hc
    rcases zZ5.1 hp with rfl|hp
    ·have h:=HJ hq hc [];rw[zZo]at h
     have hl:(LA b ⟨a,q.2,q.1⟩).length=q.2:=by
      have:=h.2;unfold LA;dsimp only;rw[zY5];omega
     refine⟨⟨?_,hc⟩,hl⟩;dsimp only;rw[hl];exact h.1
    ·rw[yEl]at hp;exact DX n (a+q.2) p hp
   ·cases hp
def bkL (b:List Int) (l:List Pc):List (It×List Int):=(l.filter wkQ).map λp=>(p.it,LA b p)
theorem zUd (b:List Int) (l:List Pc):KE b l=((bkL b l).map (·.2)).flatten:=by
 unfold KE bkL;rw[yC4];rfl
theorem zJ0:∀(l:List (It×List Int)) (pre:List Int),(∀q∈l,wkK q.1.kind=true)->KE (pre++(l.map (·.2)).flatten) (gpF l pre.length)=(l.map (·.2)).flatten
 | [],pre,_=>rfl
 | q::l,pre,h=>by
  have e:((q::l).map (·.2)).flatten=q.2++(l.map (·.2)).flatten:=by simp
  rw[e];have hk:wkQ ⟨pre.length,q.2.length,q.1⟩=true:=h q zU
  have hp:LA (pre++(q.2++(l.map (·.2)).flatten)) ⟨pre.length,q.2.length,q.1⟩=q.2:=by
   unfold LA;dsimp only;rw[yDq,List.take_left]
  have ih:=zJ0 l (pre++q.2) λx hx=>h x VX
  rw[zZc,zYr]at ih
  have e2:KE (pre++(q.2++(l.map (·.2)).flatten)) (gpF (q::l) pre.length)=LA (pre++(q.2++(l.map (·.2)).flatten)) ⟨pre.length,q.2.length,q.1⟩++KE (pre++(q.2++(l.map (·.2)).flatten)) (gpF l (pre.length+q.2.length)):=by
   rw[show gpF (q::l) pre.length=⟨pre.length,q.2.length,q.1⟩::gpF l (pre.length+q.2.length)from rfl];unfold KE;rw[yBv hk,yAa,yBf]
  rw[e2,hp,ih]
theorem zPf (b:List Int):wkF (wkF b)=wkF b:=by
 have hg:∀q∈bkL b (jD b.length b 0),zUc q/\wkK q.1.kind=true:=λq hq=>by
  unfold bkL at hq;obtain⟨p,hp,rfl⟩:=zZ3.1 hq;obtain⟨h1,h2⟩:=yBl.1 hp;exact⟨(DX (b:=b) b.length 0 p h1).1,h2⟩
 have e:wkF b=((bkL b (jD b.length b 0)).map (·.2)).flatten:=zUd _ _;rw[e];generalize bkL b (jD b.length b 0)=l at *;unfold wkF;rw[DW l _ 0 (λq hq=>(hg q hq).1) (zYs _)];exact zJ0 l [] λq hq=>(hg q hq).2
theorem zC1:∀(n:Nat) (r:List Int) (a:Nat) (b:List Int),BY r->(KE b (jD n r a)).length<=r.length
 |0,r,a,b,_=>zY4 _
 | n +1,r,a,b,hr=>by
  unfold jD;split
  ·exact zY4 _
  ·rename_i q hq;have h:=(SE hr hq).1;split
   ·have ih:=zC1 n (r.drop q.2) (a+q.2) b λx hx=>hr x (zZn hx)
    rw[zZk]at ih;unfold KE at ih⊢;by_cases hk:wkQ ⟨a,q.2,q.1⟩=true
    ·rw[yBv hk,yAa,yBf,zYr];have:(LA b ⟨a,q.2,q.1⟩).length<=q.2:=by unfold LA;rw[zY5];dsimp only;omega
     omega
    ·rw[yB2 hk];omega
   ·exact zY4 _
theorem zJ1 {b:List Int} (h:BY b):BY (wkF b)/\(wkF b).length<=b.length:=by
 refine⟨λx hx=>?_,zC1 _ _ _ _ h⟩;unfold wkF KE at hx;obtain⟨l,hl,hxl⟩:=yCc.1 hx;obtain⟨p,_,rfl⟩:=zZ3.1 hl;exact h x (zZn (zZ1 hxl))
theorem zW4 {c:Cf} {a:Int} {e:Ev} (h:ZP e):ZP (GN c a e):=by
 unfold GN;split
 ·have:=zJ1 h.y;have:=h.n;exact evb h.k h.s h.a h.b (zJ1 h.y).1 zB
 ·exact h
theorem zPg (c:Cf) (a i:Int) (e:Ev):SD c i (GN c a e)=SD c i e:=by
 unfold GN
 split<;>rfl
theorem zPh (c:Cf) (a:Int) (e:Ev):GN c a (GN c a e)=GN c a e:=by
 by_cases h:woB c a e=true
 ·have e1:GN c a e=⟨e.k,e.s,e.a,e.b,wkF e.y⟩:=zYp h;rw[e1];unfold GN;split
  ·dsimp only;rw[zPf]
  ·rfl
 ·have e1:GN c a e=e:=zYo h;rw[e1,e1]
theorem zPi (c:Cf) (a:Int) (l:List Ev):QO c a (QO c a l)=QO c a l:=by
 unfold QO;rw[yC4]
 congr 1
 exact funext λe=>zPh c a e
theorem zPj (c:Cf) (a:Int) (l:List Ev):RS c a (RS c a l)=RS c a l:=by
 unfold RS;rw[List.filter_filter]
 congr 1
 exact funext λe=>Bool.and_self _
theorem zUe (c:Cf) (a i:Int) (hi:a≠i) (l:List Ev):RS c i (QO c a l)=RS c i l:=by
 induction l with
 |nil=>rfl
 | cons e l ih=>
  have hm:mnB c i (GN c a e)=mnB c i e:=by
   have:=zPg c a i e;unfold mnB;rw[this];unfold GN
   split<;>rfl
  have hs:mnB c i e=true->GN c a e=e:=λhb=>by
   unfold GN;split
   ·rename_i hw;exfalso;unfold woB at hw;rw[zY6,zY6,zYx]at hw;obtain⟨w1,w2,_⟩:=hw;unfold mnB at hb;rw[w1]at hb;unfold SD at hb w2;simp only[zY6,zYx]at w2;obtain⟨_,_,w3⟩:=w2;rw[w3]at hb;simp[hi]at hb
   ·rfl
  show List.filter _ (GN c a e::QO c a l)=List.filter _ (e::l)
  by_cases hb:mnB c i e=true
  ·rw[yBv (by rw[hm];exact hb),yBv hb,hs hb];exact zZl (e:: ·) ih
  ·rw[yB2 (by rw[hm];exact hb),yB2 hb];exact ih
section
variable {P:Program} {TT:List TI} {st:St}
theorem NJ (hP:uN P TT) {T:Nat} {ti:TI} (hT:TT[T]? =some ti) (h1:ti.zero.all (·.oneCell')=true) (hpos:Nat.ble 1 ti.zero.length=true) (hm:Nat.ble ti.zero.length 65536=true):wR P st (.alloc T) (.fp (ti.zero.map .s) 0 0) [] [] []:=by
 refine⟨?_⟩;intro X tm h hg _ hn o a w β ho HH Ht;obtain⟨dst,op',type,pos,after,guard⟩:=o;dsimp only at ho;subst ho;have hpos:=zY7 hpos;have hm:=zY7 hm;obtain⟨z,hz,hzz⟩:=OJ (hP _ _ hT) w;have hzl:z.cells.size=ti.zero.length:=by rw[<-hzz];simp
 have hat:∀(i:Nat) (x:AV),(ti.zero.map AV.s)[i]? =some x->x= .s (z.cells.getD i undef):=λi x hx=>by
  simp only[zYt,zY1]at hx;obtain⟨u,hu,rfl⟩:=hx;rw[<-hzz]at hu;rw[hH (by simpa using hu)]
 have hv:=xG.newArr HH z.cells T 1 (ti.zero.map .s) z.cells.size (λi _=>z.cells.getD i undef) (zYs _) (by rw[zYq];unfold dT;omega) (by rw[zYq];omega) (λi x hx=>by rw[hat i x hx];rfl) (λi j hi hj=>by
  rw[zYq]at hi;rw[show i*1+j=i by omega]
  simp[Array.getD,show i<z.cells.size by omega]) (λi j hi hj=>by
  rw[zYq]at hi;have:=zY3.1 h1 (z.cells.getD i undef) (by rw[<-hzz];exact zZ4 (by simpa using kK _ i zB))
  exact this) (λi x j v hx hy=>by
  rw[hat i x hx]at hy
  cases j with
  |zero=>cases hy;exact .s _
  |succ j=>cases hy)
 have hr:(execOp a.eval ⟨dst,.alloc T,type,pos,after,guard⟩).run P w= .ok (.value (.pointer (some ⟨w.heap.size,0,none⟩))) (w.alloc (.cells z.cells T)):=by
  simp[execOp,Instr.alloc,hz,newVar,newRow]
 rw[hr];refine⟨β,xL.newFz HH z.cells T,.fz _ _ ?_⟩;have hxl:(ti.zero.map AV.s).length=ti.zero.length:=zYq ..;clear hat;generalize ti.zero.map AV.s=xs at *;generalize hc:(Value.slice (some ⟨w.heap.size,0,none⟩) xs.length z.cells.size)=c at hv
 cases hv with
 |nil1 a cap=>exfalso;rw[zZz]at hxl;omega
 |sl _ _ b o sz cap f hne hL hcp hh=>
  injection hc with q1 q2 q3
  injection q1 with q1
  injection q1 with q4 q5
  subst q4 q5;have hw:=hL.pos;have:=xG.fp (w:=w.alloc (.cells z.cells T)) (D:=xH X β) xs w.heap.size 0 sz 0 0 f hL zB hw hh;simpa using this
theorem KH (hP:uN P TT) {T e key off len:Nat} {d:Operand} {ti te:TI} {xs:List AV} {v0:Value} (hdv:yO (zG st.tm) d= .ref key off len) (hk:zC st.h key=some (.arr 1 xs false)) (hT:TT[T]? =some ti) (hd:ti.d= .slice e) (he:TT[e]? =some te) (hz0:te.zero=[v0]) (hv1:v0.oneCell'=true):
  wR P st (.call ⟨.builtin .clear, #[d], #[T]⟩) (.tup []) [(key,.arr 1 (xs.take off++List.replicate len (AV.s v0)++xs.drop (off+len)) false)] [key] []:=by
 refine⟨?_⟩;intro X tm h hg hr _ o a w β ho HH Ht;obtain⟨dst,op',type,pos,after,guard⟩:=o;dsimp only at ho;subst ho;have hk':=(hr key zU).trans hk;have h1:=jP Ht hg (x:=d) qH hdv;obtain⟨g1,g2,g3,g4,g5,f,g6,g7,g8⟩:=HH.ent key _ hk';obtain⟨u0,hu0,hd'⟩:=xU (hP _ _ hT) w;obtain rfl:=vP (hd'.trans hd);obtain⟨z,hz,hzz⟩:=OJ (hP _ _ he) w;rw[hz0]at hzz;have hzc:z.cells= #[v0]:=by rw[<-Array.toArray_toList (xs:=z.cells),hzz]
 obtain⟨ys,hys⟩:∃ys,ys=List.replicate len (AV.s v0):=⟨_,rfl⟩;have hyl:ys.length=len:=by rw[hys];exact zZ0
 have hyat:∀(i:Nat) y,ys[i]? =some y->y= .s v0:=λi y hy=>by
  rw[hys,yAm]at hy;split at hy
  ·exact(yA2 hy).symm
  ·cases hy
 rw[<-hys];rw[show xs.drop (off+len)=xs.drop (off+ys.length) by rw[hyl]]
 have hnx:∀b n,(b,n)∈β key->n=xs.length∨n=0:=λb n hb=>by
  cases hbk:β key with
  |nil=>rw[hbk]at hb;simp at hb
  |cons q rr=>
   obtain⟨b0,n0⟩:=q;obtain⟨q1,q2,_⟩:=g5 b0 n0 rr hbk;rw[hbk]at hb;simp at hb
   rcases hb with⟨_,rfl⟩|hb
   ·exact .inl q1
   ·exact .inr (q2 rfl b n hb)
 have hop:∀{w'},(Builtin.clear_ #[T] type #[a.eval d]).run P w= .ok (.tuple #[]) w'->(execOp a.eval ⟨dst,.call ⟨.builtin .clear, #[d], #[T]⟩,type,pos,after,guard⟩).run P w= .ok (.value (.tuple #[])) w':=λhv=>by
  simp[execOp,resolve,invoke,builtin,hv]
 have hvt:∀{w':World} {D:Nat->Prop} {h':yI} {β':uH},zX w' D h' β' (.tup []) (.tuple #[]):= .tup [] #[] rfl λi v hi=>by cases hi
 by_cases hnil:len=0
 ·subst hnil;have hy0:ys=[]:=zZp hyl;subst hy0;have hxs:xs.take off++[]++xs.drop (off+([]:List AV).length)=xs:=by simp
  rw[hxs]
  obtain⟨bd,cp,hcs⟩:∃bd cp,a.eval d= .slice bd 0 cp:=by
   generalize a.eval d=cx at h1
   cases h1 with
   |fz _ _ hf=>cases hf
   |dref _ _ _ _ hd _=>rw[hk']at hd;cases hd
   |ref _ _ _ _ _ _ _ _ _ _ _ _ _ _=>exact⟨_,_,rfl⟩
   |ref0 _ _ _ _ _ _ _ _=>exact⟨_,_,rfl⟩
  rw[hop (w':=w) (by
   rw[hcs]
   cases bd with
   |none=>simp[Builtin.clear_,hu0]
   |some b=>simp[Builtin.clear_,hu0])]
  have G:=xL.step (w':=w) HH key (.arr 1 xs false) (β key) (zYs _) (λ_ _ _=>rfl) rfl rfl rfl (λb n hm=> .inl ⟨n,hm⟩) (λ_ _ _=>rfl) (λe he=>by rw[hk']at he;cases he;exact .inr ⟨⟨_,_,rfl,zYs _⟩,λ_ n hm=>⟨n,zYs _,hm⟩⟩)
   (λE=>⟨g1,g2,λh=>by rw[zS];exact g3 h,g4,λb n r hr=>by rw[zS]at hr;exact g5 b n r hr,f,jO.evo E g6,g7,λb n hm=>by rw[zS]at hm;exact g8 b n hm⟩)
  exact⟨_,G,hvt⟩
 have hpos:0<ys.length:=by omega
 obtain⟨sz,hsz1⟩:∃sz,sz=1:=⟨1,rfl⟩;obtain⟨fy,hfy⟩:∃fy:Nat->Nat->Value,fy=λ_ _=>v0:=⟨_,rfl⟩
 rw[<-hsz1]at hk' g1 g4 g7 g8⊢
 have hf2:∀v,v∈flat fy ys.length sz->v.oneCell'=true:=λv hv=>by
  have:v=v0:=by
   obtain⟨i,hi,rfl⟩:=yCq.1 hv;subst hfy;simp[flat]
  rw[this];exact hv1
 obtain⟨b,n,cp,hcs,hbm,hnl,hcp⟩:∃b n cp,a.eval d= .slice (some ⟨b,off*sz,none⟩) len cp/\(b,n)∈β key/\off+len<=n/\len<=cp:=by
  generalize a.eval d=cx at h1
  cases h1 with
  |fz _ _ hf=>cases hf
  |dref _ _ _ _ hd _=>rw[hk']at hd;cases hd
  |ref _ _ _ sz' xs' st' b n cp hk2 hb hn hc2 hs2=>
   rw[hk']at hk2;cases hk2;exact⟨b,n,cp,rfl,hb,hn,hc2⟩
  |ref0 _ _ _ _ _ _ _ _=>omega
 have hnn:n=xs.length:=by rcases hnx b n hbm with h|h<;>omega
 subst hnn;obtain⟨cur,el,c1,c2,c3,c4⟩:=g8 b _ hbm;have hfit:(off+ys.length)*sz<=cur.size:=zZy (zY8 _ zB) c2;have hst:=run_storeCells_at P b (off*sz) el (flat fy ys.length sz) 0 cur w c1 (by rw[zM,yBi,<-zZs];exact hfit) hf2;simp only[yBi]at hst;generalize hcur':(cur.toList.take (off*sz)++flat fy ys.length sz++cur.toList.drop (off*sz+(flat fy ys.length sz).length)).toArray=cur' at hst
 have hflz:(Builtin.zeroCells z.cells ys.length).toList=flat fy ys.length sz:=by
  subst hfy hsz1;rw[hzc];apply List.ext_getElem
  ·simp[Builtin.zeroCells,zM]
  ·intro i h1 h2;simp[Builtin.zeroCells,flat,Nat.mod_one]
 rw[hop (w':=w.setRow b cur') (by
  rw[hcs];obtain⟨m,hm⟩:∃m,len=m+1:=⟨len-1,zB⟩;rw[hyl]at hflz hst;rw[hm]at hflz hst⊢
  simp[Builtin.clear_,hu0,hz,hflz,hst])]
 rw[zZs]at hfit
 have hsz':cur'.size=cur.size:=by
  rw[<-hcur'];simp only[yBk,zYr,zY5,zZk,yBj,zM];omega
 have hone2:∀q,q<cur'.size->(cur'.getD q undef).oneCell'=true:=by
  rw[<-hcur'];refine uS.get (uS.arr λv hv=>?_);have hc4:=uS.of c4
  rcases zZa.1 hv with hv|hv
  ·rcases zZa.1 hv with hv|hv
   ·exact hc4 v (zZ1 hv)
   ·exact hf2 v hv
  ·exact hc4 v (zZn hv)
 let f':Nat->Nat->Value:=λi j=>if off<=i/\i<off+ys.length then fy (i-off) j else f i j
 have hoff:off+ys.length<=xs.length:=by omega
 have hlen:(xs.take off++ys++xs.drop (off+ys.length)).length=xs.length:=by
  simp only[zYr,zY5,zZk];omega
 have hat:∀(i:Nat) y,(xs.take off++ys++xs.drop (off+ys.length))[i]? =some y->(off<=i/\i<off+ys.length/\ys[i-off]? =some y)∨(¬(off<=i/\i<off+ys.length)/\xs[i]? =some y):=λi y hy=>by
  have ht:(xs.take off).length=off:=by simp;omega
  by_cases h5:i<off
  ·rw[zZc,zZf zB,zZ2,zYp h5]at hy;exact .inr ⟨zB,hy⟩
  ·by_cases h6:i<off+ys.length
   ·rw[zZc,zZe zB,ht,zZf zB]at hy;exact .inl ⟨zB,h6,hy⟩
   ·rw[zZe wI]at hy;simp only[zYr,ht]at hy;rw[yAj,show off+ys.length+(i-(off+ys.length))=i by omega]at hy;exact .inr ⟨zB,hy⟩
 have hcell:∀i j,i<xs.length->j<sz->cur'[i*sz+j]? =some (f' i j):=λi j hi hj=>by
  rw[<-hcur'];simp only[f',yA7];by_cases h5:i<off
  ·have hlt:i*sz+j<off*sz:=by
    have:=zY8 sz (show i+1<=off by omega);rw[zZs,yAl]at this;omega
   rw[zYo zB,zZc,zZf wI,zZ2,zYp hlt];simpa using c3 i j hi hj
  ·have ht:(List.take (off*sz) cur.toList).length=off*sz:=by simp;omega
   have hge:off*sz<=i*sz:=zY8 _ zB;by_cases h6:i<off+ys.length
   ·have e4:i*sz+j-off*sz=(i-off)*sz+j:=by rw[yDc];omega
    have hlt:(i-off)*sz+j<ys.length*sz:=by
     have:=zY8 sz (show(i-off)+1<=ys.length by omega);rw[zZs,yAl]at this;omega
    rw[zYp zB,zZc,zZe (by rw[ht];omega),ht,zZf (by rw[zM];omega),e4];exact uY fy zB hj
   ·have hge2:(off+ys.length)*sz<=i*sz:=zY8 _ zB;rw[zZs]at hge2;rw[zYo zB,zZe (by simp only[zYr,ht,zM];omega),yAj];simp only[zYr,ht,zM];rw[show off*sz+ys.length*sz+(i*sz+j-(off*sz+ys.length*sz))=i*sz+j by omega];simpa using c3 i j hi hj
 obtain⟨rr,hbk,hr0⟩:∃rr,β key=(b,xs.length)::rr/\∀b' n',(b',n')∈rr->n'=0:=by
  cases hbk:β key with
  |nil=>rw[hbk]at hbm;simp at hbm
  |cons q r=>
   obtain⟨b0,n0⟩:=q;obtain⟨q1,q2,_⟩:=g5 b0 n0 r hbk;have q2:=q2 rfl;rw[hbk]at hbm;simp at hbm
   rcases hbm with⟨rfl,rfl⟩|hm
   ·exact⟨r,rfl,q2⟩
   ·have:=q2 b _ hm;omega
 refine⟨cA β key (β key),xL.step HH key _ _ zU (λj hj hn=>setRow_other w b j cur' (λe=>hn xs.length LT)) rfl rfl rfl (λb n hm=> .inl ⟨n,hm⟩) (λb n _=>uK c1 hsz' b)
  (λe he=>by rw[hk']at he;cases he;exact .inr ⟨⟨_,_,rfl,by rw[hlen];exact zYs _⟩,λ_ n hm=>⟨n,zYs _,hm⟩⟩) λE=>⟨zB,by rw[hlen];exact g2,λ_=>by rw[zS,hbk];simp,λi' x' hx'=>?_,λb' n' r hb'=>?_,f',λi' x' j u hx' hu=>?_,λi' j hi' hj=>?_,λb' n' hb'=>?_⟩,hvt⟩
 ·rcases hat i' x' hx' with⟨_,_,h⟩|⟨_,h⟩
  ·rw[hyat _ _ h,hsz1];rfl
  ·exact g4 i' x' h
 ·rw[zS]at hb';rw[hlen];exact g5 b' n' r hb'
 ·simp only[f']
  rcases hat i' x' hx' with⟨q1,q2,h⟩|⟨q1,h⟩
  ·rw[zYp ⟨q1,q2⟩];have hx0:=hyat _ _ h;subst hx0
   have hu0:u= .s v0:=by
    cases j with
    |zero=>exact(yA2 hu).symm
    |succ j=>cases hu
   subst hu0;rw[hfy];exact⟨.fz _ _ (.s _),λ_=> .s _⟩
  ·rw[zYo q1];exact⟨(g6.toV i' x' j u h hu).evo E,λ_=>(g6.toF rfl i' x' j u h hu).evo E.size E.fz⟩
 ·rw[hlen]at hi';simp only[f'];split
  ·rw[hfy];exact hv1
  ·exact g7 i' j hi' hj
 ·rw[zS]at hb'
  rcases hnx b' n' hb' with rfl|rfl
  ·have hbb:b'=b:=by
    rw[hbk]at hb';simp at hb'
    rcases hb' with rfl|h
    ·rfl
    ·have:=hr0 b' _ h;omega
   subst hbb;exact⟨cur',el,setRow_heap w _ _ _ _ _ c1,by rw[hsz'];exact c2,λi' j hi' hj=>hcell i' j hi' hj,hone2⟩
  ·by_cases hbb:b'=b
   ·subst hbb;exact⟨cur',el,setRow_heap w _ _ _ _ _ c1,zB,λi' j hi' _=>by omega,hone2⟩
   ·obtain⟨c',el',q1,q2,_,q4⟩:=g8 b' 0 hb';exact⟨c',el',(setRow_other w b b' cur' hbb).trans q1,q2,λi' j hi' _=>by omega,q4⟩
theorem KI (hP:uN P TT) {T n e:Nat} {x:Operand} {ti te:TI} {xs:List AV} (hx:yO (zG st.tm) x= .fp xs 0 0) (hT:TT[T]? =some ti) (hd:ti.d= .arr n e) (he:TT[e]? =some te) (hn:Nat.beq xs.length n=true):wR P st (.slice T x none none none) (.sl true xs) [] [] []:=
 yR λoo X tm h w β a ho hg _ HH Ht=>by
  obtain⟨dst,op',type,pos,after,guard⟩:=oo;dsimp only at ho;subst ho;have h1:=jP Ht hg (x:=x) uG hx;have hn:=zZm hn;obtain⟨u,hu,hd'⟩:=xU (hP _ _ hT) w;obtain rfl:=zAj (hd'.trans hd);have hs:=uO (hP _ _ he) w;generalize hcx:a.eval x=cx at h1
  cases h1 with
  | fz _ _ hf=>
   cases hf with
   |fp _ b o sz i off f hL hi ho hh=>
    refine⟨.slice (some ⟨b,o,none⟩) n n,?_,.fz _ _ ?_⟩
    ·simp[execOp,Instr.sliceAt,hu,hcx,Instr.sureAddr,asAddr,Instr.sliceBounds,hs,Addr.add]
    ·rw[<-hn];exact .sl true xs b o sz xs.length f (λh=>by rw[h]at hi;cases hi) hL (zYs _) hh
end
theorem zE9 (l:List Int) (hl:l.length<=1073741824):zO 79 [zD yA l] [] (.ref 1001 0 (l.map yA).length) [(1001,.arr 1 (l.map yA) false)]:=by
 have hll:=zA yA l;refine eM call79 λF hF=>?_
 refine xD 0 rfl (λcap hx=>?_) ?_
 ·have:l=[]:=by simpa using hx
  subst this
  (repeat' (first|refine AX ?_|refine xR (λhc=>?_) (λhc=>?_)|refine wE (λhc=>?_)|fail))
  refine uB 2 1001 1 rfl rfl rfl (yQ ?_);exact zJ [1001] rfl rfl rfl rfl
 ·repeat' (first|(refine zE ?_;first|refine wZ tok rfl rfl ?_|(refine wS ?_;refine yF (yM tok (.inl ⟨rfl,rfl⟩) rfl rfl rfl rfl) rfl ?_)|(refine yZ ?_;refine uF (nw:=[1001]) (yK tok 1001 (xs:=[]) rfl rfl rfl rfl rfl rfl rfl rfl rfl) rfl rfl rfl ?_)|(refine yW ?_;refine xX tok rfl rfl rfl rfl rfl rfl rfl (yY _ _ (λ_=>rfl)) rfl rfl rfl zB rfl ?_)|refine uM ?_)|(first|refine xM ?_|refine xB ?_|refine wU rfl ?_|refine zV rfl ?_|refine zQ rfl ?_|refine xF rfl (λhc=>?_) (λhc=>?_)|refine yV ?_|refine yQ ?_|refine xC ?_|refine yN ?_))
  exact zJ [1001] rfl rfl rfl rfl
theorem zFa (k:Int) (h:k=17∨k=21):zO 124 [iA k] [] (.tup [.agg [iA 0,iA 1,iA 0,iA 0,iA 0,iA (-1)],bA true]) []:=by
 obtain rfl|rfl:=h
 all_goals (refine eM call124 λF hF=>?_)
 all_goals (refine WW ?_)
 all_goals exact zL
def dtF (p:List Int):Option (List Int×List Int):=if 200<p.length then none else WU 1 p
def dtT (k:Int):Option (List Int×List Int)->AV
 |none=> .tup [yB ⟨0,[],[],[]⟩,iA 6]
 |some q=> .tup [yB ⟨k,[],q.1,q.2⟩,iA 0]
theorem zPk (k:Int) (h:k=17∨k=21) (p:List Int) (hb:BY p) (hn:p.length<=100000):zO 80 [iA k,zD yA p] [] (dtT k (dtF p)) []:=by
 have hl:=zA yA p;have c1:=zFa k h;by_cases h2:200<p.length
 ·rw[show dtF p=none from zYp h2]
  show zO 80 [iA k,zD yA p] [] (.tup [yB ⟨0,[],[],[]⟩,iA 6]) []
  refine eM call80 λF hF=>?_
  refine zW c1 ?_;exact zL
 rw[show dtF p=WU 1 p from zYo h2];have c2:=YH p 1 hb hn zB
 cases hnb:WU 1 p with
 |none=>
  rw[hnb]at c2
  show zO 80 [iA k,zD yA p] [] (.tup [yB ⟨0,[],[],[]⟩,iA 6]) []
  unfold nbT at c2;refine eM call80 λF hF=>?_
  (have zc1:=c1;have zc2:=c2;(repeat' (first|refine qS ?_|refine xR (λhc=>?_) (λhc=>?_)|refine wE (λhc=>?_)|(refine zE ?_;first|refine SM ?_|(refine qD ?_;first|refine ON tok rfl rfl rfl rfl rfl (yY _ _ (λ_=>rfl)) zB (yDj _) rfl rfl ?_|refine ZE tok rfl rfl rfl rfl rfl (yY _ _ (λ_=>rfl)) zB (yDj _) rfl rfl ?_))|fail))<;>clear zc1 zc2)
  exact zL
 | some q=>
  obtain⟨a,r⟩:=q;obtain⟨ha,hbr,har,hsp⟩:=bV _ _ _ _ hb hnb
  have hrl:r.length<=100000:=by
   have:=zZl List.length hsp;rw[zYr]at this;omega
  have hlr:=zA yA r;have hla:=zA iA a;rw[hnb]at c2;unfold nbT at c2;have k1:=wK [] zU;have k2:=wK r zB
  show zO 80 [iA k,zD yA p] [] (.tup [yB ⟨k,[],a,r⟩,iA 0]) []
  refine eM call80 λF hF=>?_
  (have zc1:=c1;have zc2:=c2;have zc3:=k1;have zc4:=k2;(repeat' (first|refine qS ?_|refine xR (λhc=>?_) (λhc=>?_)|refine wE (λhc=>?_)|(refine zE ?_;first|refine SM ?_|(refine qD ?_;first|refine ON tok rfl rfl rfl rfl rfl (yY _ _ (λ_=>rfl)) zB (yDj _) rfl rfl ?_|refine ZE tok rfl rfl rfl rfl rfl (yY _ _ (λ_=>rfl)) zB (yDj _) rfl rfl ?_))|fail))<;>clear zc1 zc2 zc3 zc4)
  exact zL
theorem yH.frz {P:Program} {f:Nat} {args:List AV} {r:AV} {h1:List (Nat×xP)} {r':AV} {h1':List (Nat×xP)} (h:yH P f args [] r h1) (K:List Nat) (hr:XU (wQ K (zC h1) r)=r') (hh:wV K (zC h1)=h1') (hnd:uC h1'=true):yH P f args [] r' h1':=
 ⟨h.able,λk=>qL hnd,λX w β cargs hc H ha=>(h.sim X w β cargs hc H ha).mono λe w' ⟨c,β',he,G,hv⟩=>by
  obtain⟨H3,hv3⟩:=G.hok.restr K;refine⟨c,λk=>if k∈K then β' k else [],he,⟨G.size,G.keep,λk b n hm=>?_,G.bs,λk e he=>by simp[zC]at he,by rw[<-hh];exact H3,G.os,G.tape,G.output⟩,?_⟩
  ·split at hm
   ·exact G.own k b n hm
   ·simp at hm
  ·rw[<-hh,<-hr]
   exact(hv3 _ _ hv).wk⟩
def BP (i:It):Option Nat:=if i.kind=17∨i.kind=21 then(dtF i.pay).map (λq=>q.2.length)else none
def zeF (b:List Int) (p:Pc):List Int:=match BP p.it with
 |none=>b
 |some n=>b.take (p.fr+p.k-4-n)++List.replicate (n+4) 0++b.drop (p.fr+p.k)
def msL (b:List Int) (l:List Pc):List Int:=l.foldl zeF b
def RD (b:List Int):List Int:=if whF b=true then msL b (jD b.length b 0)else b
theorem zJ2 (b:List Int) {l:List Pc} {i:Nat} {p:Pc} (h:l[i]? =some p):msL b (l.take (i+1))=zeF (msL b (l.take i)) p:=by
 unfold msL;rw[yA6,h,yDs];rfl
theorem bW {b:List Int} {p:It×Nat} (h:XE b=some p) (hc:p.1.code=0):p.1.pay.length+10=p.2/\p.2<=b.length/\p.1.pay=(b.drop 6).take (p.2-10)/\p.1.pay.length<=200:=by
 unfold XE at h
 repeat' split at h
 all_goals (first|(cases h;done)|(cases h;cases hc;done)|skip)
 all_goals (cases h;dsimp only;refine⟨?_,zB,rfl,?_⟩<;>(rw[zY5,zZk];omega))
theorem zC2 {p:List Int} (hb:BY p) {q:List Int×List Int} (h:dtF p=some q):q.2.length<=p.length:=by
 unfold dtF at h;split at h
 ·cases h
 ·obtain⟨a,r⟩:=q;obtain⟨_,_,_,h4⟩:=bV _ _ _ _ hb h;have:=zZl List.length h4;rw[zYr]at this;dsimp only;omega
structure PcB (L:Nat) (p:Pc):Prop where
 c:p.it.code=0
 y:BY p.it.pay
 l:p.it.pay.length+10=p.k
 e:p.fr+p.k<=L
 u:p.it.pay.length<=200
theorem zC3 {n:Nat}:∀{r:List Int} {a:Nat},BY r->∀p∈jD n r a,PcB (a+r.length) p:=by
 induction n with
 |zero=>intro r a _ p hp;cases hp
 | succ n ih=>
  intro r a hr p hp;unfold jD at hp;split at hp
  ·cases hp
  ·rename_i q hq;split at hp
   ·rename_i hc;obtain⟨h1,h2,h3,h4⟩:=bW hq hc
    rcases zZ5.1 hp with rfl|hp
    ·exact⟨hc,by dsimp only;rw[h3];exact λx hx=>hr x (zZn (zZ1 hx)),h1,by dsimp only;omega,h4⟩
    ·have h:=ih (λx hx=>hr x (zZn hx)) p hp;rw[zZk]at h;exact⟨h.c,h.y,h.l,by have:=h.e;omega,h.u⟩
   ·cases hp
theorem zJ3 {L:Nat} {p:Pc} (h:PcB L p) {n:Nat} (hm:BP p.it=some n):n+10<=p.k:=by
 unfold BP at hm;split at hm
 ·rw[zY1]at hm;obtain⟨q,hq,rfl⟩:=hm;have:=zC2 h.y hq;have:=h.l;omega
 ·cases hm
theorem zPl {b:List Int} {p:Pc} (h:PcB b.length p):(zeF b p).length=b.length:=by
 unfold zeF;split
 ·rfl
 ·rename_i n hn;have:=zJ3 h hn;have:=h.e;simp only[zYr,zY5,zZk,zZ0];omega
theorem HL (b:List Int) (l:List Pc):∀(L:Nat),b.length=L->(∀p∈l,PcB L p)->(msL b l).length=L:=by
 induction l generalizing b with
 |nil=>intro L h _;exact h
 |cons p l ih=>
  intro L h hp;subst h;exact ih (zeF b p) b.length (zPl (hp p zU)) λq hq=>hp q (by simp[hq])
theorem zUf {X:List Int} {o n c:Nat} (h:o+n+4<=X.length) (hc:c=n) (z:AV) (hz:z=yA 0):(((X.map yA).take o++List.replicate c z++(X.map yA).drop (o+c)).take (o+n)++[z,z,z,z]++((X.map yA).take o++List.replicate c z++(X.map yA).drop (o+c)).drop (o+n+4))=(X.take o++List.replicate (n+4) 0++X.drop (o+n+4)).map yA:=by
 subst hz hc;have e1:((X.map yA).take o++List.replicate c (yA 0)).length=o+c:=by simp;omega
 have e2:((X.map yA).take o++List.replicate c (yA 0)++(X.map yA).drop (o+c)).take (o+c)=(X.map yA).take o++List.replicate c (yA 0):=by
  rw[<-e1];exact List.take_left
 have e3:((X.map yA).take o++List.replicate c (yA 0)++(X.map yA).drop (o+c)).drop (o+c+4)=(X.map yA).drop (o+c+4):=by
  rw[List.drop_append,e1,yCj zB,yA9,yEl]
  congr 1
  omega
 rw[e2,e3,zYz,zYz,yCb,yCa,yCd,zZc (List.take o _),show([yA 0,yA 0,yA 0,yA 0]:List AV)=List.replicate 4 (yA 0)from rfl,List.replicate_append_replicate]
theorem zA5 (b:List Int) (hb:BY b) (hl:b.length<=1000000):zO 29 [zD yA b] [] (.ref 1001 0 (b.map yA).length) [(1001,.arr 1 ((RD b).map yA) false)]:=by
 have hbl:=zA yA b;have kw:=zC8 b hb hl;have kc:=zE9 b zB;by_cases hw:whF b=true
 case neg=>
  rw[show RD b=b from zYo hw];have hw:whF b=false:=by simpa using hw
  rw[hw]at kw;refine eM call29 λF hF=>?_
  refine xA (vD kc kw) ?_;exact zJ [1001] rfl rfl rfl rfl
 rw[show RD b=msL b (jD b.length b 0)from zYp hw];rw[hw]at kw;clear hw;have kp:=SF b;have ht:=WI b hb hl;have hL:vfL b=(jD b.length b 0).map λp=>[pcA p]:=rfl
 have hbd:=zC3 (n:=b.length) (a:=0) hb;rw[zZt]at hbd;unfold psH at kp ht;refine eM call29 λF hF=>?_
 refine xA (gK kc kw kp) ?_
 refine wW hF ht rfl [3,1001] [3] rfl rfl rfl rfl rfl rfl rfl rfl rfl (λk ys h=>?_) (λj=>[(3,.box [.ref 1001 0 (b.map yA).length]),(1001,.arr 1 ((msL b ((jD b.length b 0).take j)).map yA) false)]) (λ_=>True)
  (T:=[(3,.ptr 3 0 0)]) rfl trivial (λj ys q hys hI F1 h1 h2=>?_) (λhI=>?_)
 ·rw[hL,zYt,zY1]at h;obtain⟨x,_,rfl⟩:=h;rfl
 ·rw[hL,zYt,zY1]at hys;obtain⟨p,hp,rfl⟩:=hys;rw[zJ2 b hp];have hP:=hbd p (zZ4 hp);have hpl:=hP.l;have hpe:=hP.e;have hpu:=hP.u;have hlen:=HL b ((jD b.length b 0).take j) b.length rfl λq hq=>hbd q (zZ1 hq)
  have hpy:=hP.y;have hmd:=λn (h:BP p.it=some n)=>zJ3 hP h
  have hxl:=zA yA (msL b ((jD b.length b 0).take j));have hpp:=zA yA p.it.pay;clear hL hbd hp ht kp kw kc hP;generalize msL b ((jD b.length b 0).take j)=X at *;unfold pcA;refine WW ?_;refine⟨rfl,λF2 g1 g2=>?_⟩;dsimp only;by_cases hk:p.it.kind=17∨p.it.kind=21
  case neg=>
   rw[show zeF X p=X by unfold zeF BP;rw[zYo hk]];have hk1:p.it.kind≠17:=λh=>hk (.inl h)
   have hk2:p.it.kind≠21:=λh=>hk (.inr h)
   refine WW ?_;exact⟨rfl,trivial⟩
  have kd:=zPk p.it.kind hk p.it.pay hpy zB
  cases hd:dtF p.it.pay with
  | none=>
   rw[hd]at kd;rw[show zeF X p=X by unfold zeF BP;rw[zYp hk,hd];rfl];unfold dtT yB at kd
   rcases hk with hk|hk
   ·(refine zW kd ?_)
    exact⟨rfl,trivial⟩
   ·(refine zW kd ?_)
    exact⟨rfl,trivial⟩
  | some q=>
   rw[hd]at kd;have hm:BP p.it=some q.2.length:=by unfold BP;rw[zYp hk,hd];rfl
   have hn:=hmd _ hm;rw[show zeF X p=X.take (p.fr+p.k-4-q.2.length)++List.replicate (q.2.length+4) 0++X.drop (p.fr+p.k) by unfold zeF;rw[hm]];unfold dtT yB at kd;dsimp only at kd;have hql:=zA yA q.2;obtain⟨o,ho⟩:∃o:Nat,p.fr+p.k=o+q.2.length+4:=⟨p.fr+p.k-q.2.length-4,zB⟩;rw[show p.fr+p.k-4-q.2.length=o by omega,show X.drop (p.fr+p.k)=X.drop (o+q.2.length+4) by rw[ho],<-zUf (X:=X) (o:=o) (n:=q.2.length) (c:=o+q.2.length-o) zB zB (.s (.int .u8 0)) rfl]
   rcases hk with hk|hk
   ·(repeat' (first|(refine zE ?_;first|refine yF (NJ (T:=179) tok rfl rfl rfl rfl) rfl ?_|refine wZ tok rfl rfl ?_|(refine xT ?_;(first|(refine vT 80 ?_;first|refine yF (zH (kd) rfl rfl rfl rfl rfl) rfl ?_|refine uF (zH (kd) rfl rfl rfl rfl rfl) rfl rfl rfl ?_|refine bJ (zH (kd) rfl rfl rfl rfl rfl) rfl rfl rfl ?_)))|(refine bK ?_;first|refine zHv rfl rfl ?_|refine EB rfl rfl rfl rfl ?_|(refine fJ rfl rfl (λhc=>?_) (λhc=>?_)<;>(try simp only[qT,zYx,zY9,zZ7,yAy,yB5,yBc,zZw,yAb,yC8,yC7,yB3]at hc)))|(refine wS ?_;first|refine yF (cU rfl rfl rfl (by unfold TM;omega)) rfl ?_|refine yF (cV rfl rfl rfl (by unfold TM;omega)) rfl ?_|refine yF (VJ rfl rfl rfl) rfl ?_|refine yF (VZ rfl rfl ⟨zB,zB⟩) rfl ?_|refine yF (UA rfl rfl ⟨zB,zB⟩) rfl ?_|refine yF (UB rfl rfl ⟨zB,zB⟩) rfl ?_|refine yF (UC rfl rfl OF zB) rfl ?_|refine yF (UD rfl rfl zB) rfl ?_|refine yF (UE rfl rfl) rfl ?_|refine yF (OP rfl rfl zB) rfl ?_|refine yF (OQ rfl rfl zB) rfl ?_|refine yF (uU (.inl ⟨rfl,rfl⟩) rfl rfl zB) rfl ?_|refine yF (uU (.inr ⟨rfl,rfl⟩) rfl rfl zB) rfl ?_|refine yF (kJ tok rfl rfl rfl rfl (.inl ⟨rfl,rfl⟩)) rfl ?_|refine yF (kJ tok rfl rfl rfl rfl (.inr ⟨rfl,rfl⟩)) rfl ?_|refine yF (dG tok (.inl ⟨rfl,rfl⟩) rfl rfl rfl) rfl ?_|refine yF (yM tok (.inl ⟨rfl,rfl⟩) rfl rfl rfl rfl) rfl ?_|refine yF (OL rfl rfl) rfl ?_|refine yF (IP rfl rfl) rfl ?_|refine yF (OM rfl rfl) rfl ?_|refine yF (XW rfl rfl OF) rfl ?_|refine yF (YD rfl rfl) rfl ?_|refine yF (XX rfl rfl OF) rfl ?_|refine yF (YE rfl rfl) rfl ?_)|(refine PQ ?_;first|refine yF (qN tok rfl rfl rfl rfl rfl zB kC rfl rfl) rfl ?_|refine yF (qK tok rfl rfl rfl rfl rfl rfl zB zB rfl) rfl ?_|refine yF (qA tok rfl rfl rfl rfl rfl rfl zB zB) rfl ?_)|(refine VQ ?_;first|refine yF (jY tok rfl rfl rfl kC rfl) rfl ?_|refine yF (jX tok rfl rfl rfl kC rfl) rfl ?_|refine yF (jI tok rfl rfl rfl rfl kC rfl) rfl ?_|refine yF (jH tok rfl rfl rfl rfl kC rfl) rfl ?_)|(refine PR ?_;first|refine yF (uZ tok rfl rfl rfl rfl rfl rfl rfl rfl) rfl ?_|refine yF (qM tok rfl kC rfl rfl rfl rfl rfl rfl) rfl ?_)|(refine yW ?_;first|refine xX tok rfl rfl rfl rfl rfl rfl rfl (by first|(intro y hy;cases hy;rfl)|exact yY _ _ (λ_=>rfl)) rfl rfl rfl (by first|omega|(simp;done)|(simp;omega)) rfl ?_|refine uL tok rfl rfl rfl rfl rfl rfl rfl rfl rfl rfl rfl (by first|(intro y hy;cases hy;rfl)|exact yY _ _ (λ_=>rfl)) (by first|omega|(simp;done)|(simp;omega)) rfl ?_)|(refine VL ?_;first|refine yF (UF rfl ⟨zB,zB⟩) rfl ?_)|(refine VK ?_;first|refine yF (fI tok rfl rfl rfl rfl ⟨zB,zB⟩) rfl ?_|refine yF (cZ tok rfl rfl rfl rfl) rfl ?_|refine yF (ZD tok rfl rfl rfl rfl rfl rfl rfl kC) rfl ?_)|(refine qD ?_;first|refine ZE tok rfl rfl rfl rfl rfl (by first|(intro y hy;cases hy;rfl)|exact yY _ _ (λ_=>rfl)|assumption|(simp;done)) zB wI zHz rfl ?_|refine ON tok rfl rfl rfl rfl rfl (by first|(intro y hy;cases hy;rfl)|exact yY _ _ (λ_=>rfl)|assumption|(simp;done)) zB wI zH0 rfl ?_|refine IQ tok rfl rfl rfl rfl rfl rfl (by first|(intro y hy;cases hy;rfl)|exact yY _ _ (λ_=>rfl)|assumption|(simp;done)) zB zB (by first|omega|(simp;omega)) zH1 rfl ?_)|refine SM ?_|(refine qD ?_;first|refine ZS tok rfl rfl rfl rfl rfl rfl rfl rfl o (o+q.2.length) zB zB zB zB rfl ?_|refine ZS tok rfl rfl rfl rfl rfl rfl rfl rfl (o+q.2.length) (o+q.2.length+4) zB zB zB zB rfl ?_|refine yF (KI tok rfl rfl rfl rfl rfl) rfl ?_)|(refine x_s (nw:=[]) (KH tok rfl rfl rfl rfl rfl rfl rfl) rfl rfl ?_)|(refine zCd tok rfl rfl rfl rfl rfl rfl rfl (λy hy=>by cases hy;rfl) rfl (by show 4<=_;omega) rfl rfl ?_)|(refine OS ?_;refine yF (qO rfl rfl rfl) rfl ?_)|refine dX tok rfl rfl rfl rfl ?_|(refine dE ?_;first|refine OU tok rfl rfl rfl rfl rfl rfl ?_|refine fY tok rfl rfl rfl ?_|refine zAn tok rfl rfl rfl kC rfl rfl rfl rfl rfl rfl ?_|refine OT tok rfl rfl rfl kC rfl rfl rfl rfl rfl rfl rfl rfl ?_)|refine uM ?_|refine aY OE ?_)|first|refine SR ?_|refine SK (I2 (λhc=>?_) (λhc=>?_))|refine SK (λhc=>?_)|fail))
    exact⟨rfl,trivial⟩
   ·(repeat' (first|(refine zE ?_;first|refine yF (NJ (T:=179) tok rfl rfl rfl rfl) rfl ?_|refine wZ tok rfl rfl ?_|(refine xT ?_;(first|(refine vT 80 ?_;first|refine yF (zH (kd) rfl rfl rfl rfl rfl) rfl ?_|refine uF (zH (kd) rfl rfl rfl rfl rfl) rfl rfl rfl ?_|refine bJ (zH (kd) rfl rfl rfl rfl rfl) rfl rfl rfl ?_)))|(refine bK ?_;first|refine zHv rfl rfl ?_|refine EB rfl rfl rfl rfl ?_|(refine fJ rfl rfl (λhc=>?_) (λhc=>?_)<;>(try simp only[qT,zYx,zY9,zZ7,yAy,yB5,yBc,zZw,yAb,yC8,yC7,yB3]at hc)))|(refine wS ?_;first|refine yF (cU rfl rfl rfl (by unfold TM;omega)) rfl ?_|refine yF (cV rfl rfl rfl (by unfold TM;omega)) rfl ?_|refine yF (VJ rfl rfl rfl) rfl ?_|refine yF (VZ rfl rfl ⟨zB,zB⟩) rfl ?_|refine yF (UA rfl rfl ⟨zB,zB⟩) rfl ?_|refine yF (UB rfl rfl ⟨zB,zB⟩) rfl ?_|refine yF (UC rfl rfl OF zB) rfl ?_|refine yF (UD rfl rfl zB) rfl ?_|refine yF (UE rfl rfl) rfl ?_|refine yF (OP rfl rfl zB) rfl ?_|refine yF (OQ rfl rfl zB) rfl ?_|refine yF (uU (.inl ⟨rfl,rfl⟩) rfl rfl zB) rfl ?_|refine yF (uU (.inr ⟨rfl,rfl⟩) rfl rfl zB) rfl ?_|refine yF (kJ tok rfl rfl rfl rfl (.inl ⟨rfl,rfl⟩)) rfl ?_|refine yF (kJ tok rfl rfl rfl rfl (.inr ⟨rfl,rfl⟩)) rfl ?_|refine yF (dG tok (.inl ⟨rfl,rfl⟩) rfl rfl rfl) rfl ?_|refine yF (yM tok (.inl ⟨rfl,rfl⟩) rfl rfl rfl rfl) rfl ?_|refine yF (OL rfl rfl) rfl ?_|refine yF (IP rfl rfl) rfl ?_|refine yF (OM rfl rfl) rfl ?_|refine yF (XW rfl rfl OF) rfl ?_|refine yF (YD rfl rfl) rfl ?_|refine yF (XX rfl rfl OF) rfl ?_|refine yF (YE rfl rfl) rfl ?_)|(refine PQ ?_;first|refine yF (qN tok rfl rfl rfl rfl rfl zB kC rfl rfl) rfl ?_|refine yF (qK tok rfl rfl rfl rfl rfl rfl zB zB rfl) rfl ?_|refine yF (qA tok rfl rfl rfl rfl rfl rfl zB zB) rfl ?_)|(refine VQ ?_;first|refine yF (jY tok rfl rfl rfl kC rfl) rfl ?_|refine yF (jX tok rfl rfl rfl kC rfl) rfl ?_|refine yF (jI tok rfl rfl rfl rfl kC rfl) rfl ?_|refine yF (jH tok rfl rfl rfl rfl kC rfl) rfl ?_)|(refine PR ?_;first|refine yF (uZ tok rfl rfl rfl rfl rfl rfl rfl rfl) rfl ?_|refine yF (qM tok rfl kC rfl rfl rfl rfl rfl rfl) rfl ?_)|(refine yW ?_;first|refine xX tok rfl rfl rfl rfl rfl rfl rfl (by first|(intro y hy;cases hy;rfl)|exact yY _ _ (λ_=>rfl)) rfl rfl rfl (by first|omega|(simp;done)|(simp;omega)) rfl ?_|refine uL tok rfl rfl rfl rfl rfl rfl rfl rfl rfl rfl rfl (by first|(intro y hy;cases hy;rfl)|exact yY _ _ (λ_=>rfl)) (by first|omega|(simp;done)|(simp;omega)) rfl ?_)|(refine VL ?_;first|refine yF (UF rfl ⟨zB,zB⟩) rfl ?_)|(refine VK ?_;first|refine yF (fI tok rfl rfl rfl rfl ⟨zB,zB⟩) rfl ?_|refine yF (cZ tok rfl rfl rfl rfl) rfl ?_|refine yF (ZD tok rfl rfl rfl rfl rfl rfl rfl kC) rfl ?_)|(refine qD ?_;first|refine ZE tok rfl rfl rfl rfl rfl (by first|(intro y hy;cases hy;rfl)|exact yY _ _ (λ_=>rfl)|assumption|(simp;done)) zB wI zHz rfl ?_|refine ON tok rfl rfl rfl rfl rfl (by first|(intro y hy;cases hy;rfl)|exact yY _ _ (λ_=>rfl)|assumption|(simp;done)) zB wI zH0 rfl ?_|refine IQ tok rfl rfl rfl rfl rfl rfl (by first|(intro y hy;cases hy;rfl)|exact yY _ _ (λ_=>rfl)|assumption|(simp;done)) zB zB (by first|omega|(simp;omega)) zH1 rfl ?_)|refine SM ?_|(refine qD ?_;first|refine ZS tok rfl rfl rfl rfl rfl rfl rfl rfl o (o+q.2.length) zB zB zB zB rfl ?_|refine ZS tok rfl rfl rfl rfl rfl rfl rfl rfl (o+q.2.length) (o+q.2.length+4) zB zB zB zB rfl ?_|refine yF (KI tok rfl rfl rfl rfl rfl) rfl ?_)|(refine x_s (nw:=[]) (KH tok rfl rfl rfl rfl rfl rfl rfl) rfl rfl ?_)|(refine zCd tok rfl rfl rfl rfl rfl rfl rfl (λy hy=>by cases hy;rfl) rfl (by show 4<=_;omega) rfl rfl ?_)|(refine OS ?_;refine yF (qO rfl rfl rfl) rfl ?_)|refine dX tok rfl rfl rfl rfl ?_|(refine dE ?_;first|refine OU tok rfl rfl rfl rfl rfl rfl ?_|refine fY tok rfl rfl rfl ?_|refine zAn tok rfl rfl rfl kC rfl rfl rfl rfl rfl rfl ?_|refine OT tok rfl rfl rfl kC rfl rfl rfl rfl rfl rfl rfl rfl ?_)|refine uM ?_|refine aY OE ?_)|first|refine SR ?_|refine SK (I2 (λhc=>?_) (λhc=>?_))|refine SK (λhc=>?_)|fail))
    exact⟨rfl,trivial⟩
 ·have eW:msL b ((jD b.length b 0).take (vfL b).length)=msL b (jD b.length b 0):=by
   rw[hL,zYq,zYv]
  rw[eW];have hlen:=HL b (jD b.length b 0) b.length rfl hbd;have hxl:=zA yA (msL b (jD b.length b 0));clear hL hbd ht kp kw eW;generalize msL b (jD b.length b 0)=X at *;refine WW ?_;exact zJ [1001] rfl rfl rfl rfl
end Av
end Go.Proofs.YtmamjhmoegjapaaGreat
