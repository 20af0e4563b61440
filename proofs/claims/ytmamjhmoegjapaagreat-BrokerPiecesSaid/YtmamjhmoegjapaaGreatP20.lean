/- Part 20. -/
import Derived.Test.YtmamjhmoegjapaaGreatP19
import Derived.Test.YtmamjhmoegjapaaGreatP12
import Derived.Test.YtmamjhmoegjapaaGreatP13
import Derived.Test.YtmamjhmoegjapaaGreatP16
import Derived.Test.YtmamjhmoegjapaaGreatP09
import Derived.Test.YtmamjhmoegjapaaGreatP15
namespace Go.Proofs.YtmamjhmoegjapaaGreat
namespace Av
open Tryz
set_option linter.unusedSimpArgs false
set_option linter.unusedVariables false
set_option linter.unusedSectionVars false
set_option maxRecDepth 4000
set_option maxHeartbeats 4000000
theorem zH1 (l:List Rq) (now:Int) (hv:aM l):zN 159 [zD yK l,iA now] [] (zD yK (mkQ l now)) []:=by
 have h4:=hv.n4;have hb:∀r∈l,1<=r.legs.length/\r.legs.length<=1000:=λr hr=>by have:=hv.lg3 hr;omega
 match l,h4,hb with
 | [],_,_=>
  have kc:=VS;refine eM call159 λF hF=>?_
  refine zU kc ?_;refine uT 1 [] [13,11,12,1,5] rfl ?_;refine xF (st0:=⟨[(13,iA 0),(11,.s (.slice none 0 0)),(12,iA 0),(1,iA now),(5,.s (.slice none 0 0))],[]⟩) rfl ?_;refine WW ?_;exact zJ
 | [a],_,hb=>exact zNq a (hb a zS).1 (hb a zS).2 now
 | [a,b],_,hb=>exact zNr a b (hb a zS).1 (hb a zS).2 (hb b zS).1 (hb b zS).2 now
 | [a,b,c],_,hb=>exact zNs a b c (hb a zS).1 (hb a zS).2 (hb b zS).1 (hb b zS).2 (hb c zS).1 (hb c zS).2 now
 | [a,b,c,d],_,hb=>exact zNt a b c d (hb a zS).1 (hb a zS).2 (hb b zS).1 (hb b zS).2 (hb c zS).1 (hb c zS).2 (hb d zS).1 (hb d zS).2 now
 |_::_::_::_::_::_,h,_=>simp at h
theorem zH2 (g:Lg) (now:Int) (n0:0<=now) (n1:now<=1073741824):(ZG g now).jn=g.jn/\(ZG g now).ph=g.ph/\(IN g=true->IN (ZG g now)=true):=by
 unfold ZG;split
 ·split
  ·refine⟨rfl,rfl,λh=>?_⟩;unfold IN at *;rw[zX9]at *; dsimp only;omega
  ·exact⟨rfl,rfl,id⟩
 ·refine⟨rfl,rfl,λh=>?_⟩;unfold IN at *;rw[zX9]at *; dsimp only;omega
theorem zB6 {now:Int} (n0:0<=now) (n1:now<=1073741824):∀(gs pre pre':List Lg),pre'.map (·.jn)=pre.map (·.jn)->eG pre gs=true->eG pre' (gs.map λg=>ZG g now)=true
 | [],_,_,_,_=>rfl
 |x::post,pre,pre',hp,h=>by
  obtain⟨e1,_,e3⟩:=zH2 x now n0 n1;have ha:∀(l:List Lg),(l.any λy=>y.jn==x.jn)=(l.map (·.jn)).any λn=>n==x.jn:=λl=>by rw[List.any_map];rfl
  rw[eG,zYh,zYh]at h;rw[zZl,eG,e3 h.1,e1,ha,hp,<-ha,h.2.1,zYp,zYp];exact zB6 n0 n1 post (pre++[x]) (pre'++[ZG x now]) (by rw[zYc,zYc,hp];simp[e1]) h.2.2
theorem zV8 {l:List Rq} (hv:aM l) (now:Int) (n0:0<=now) (n1:now<=1073741824):aM (mkQ l now):=by
 refine⟨λr hr=>?_,?_,by unfold mkQ;rw[zX2];exact hv.n4⟩
 ·obtain⟨x,hx,rfl⟩:=zZj.1 hr;have h:=hv.ok x hx;refine⟨h.i0,h.i1,h.v0,h.v1,h.c0,h.c1,h.t0,h.t1,?_⟩;have h1:=h.lg;rw[vgF,zYh]at h1;unfold vgF mkR;dsimp only;rw[zYh,zX2];exact⟨h1.1,zB6 n0 n1 x.legs [] [] rfl h1.2⟩
 ·unfold mkQ;rw[List.pairwise_map];exact hv.so
def prA (p:Int×Int):AV:= .agg [iA p.1,iA p.2]
def qD (n:Int):List (Int×Int):=if n=0 then [(0,0),(0,0)]else if n=1 then [(0,0),(1,0),(0,1),(1,1)]else if n=2 then [(0,0),(1,0),(0,0)]
 else if n=3 then [(0,0),(0,0),(1,0),(1,0),(0,1),(0,1),(1,1),(1,1)]else if n=4 then [(1,0),(0,1),(0,2)]else [(0,0)]
theorem zH3 (n:Int):zN 87 [iA n] [] (zD prA (qD n)) []:=by
 by_cases h0:n=0
 ·subst h0;refine eM call87 λF hF=>?_
  (repeat' (first|refine YF ?_|refine xO (λhc=>?_) (λhc=>?_)|fail))
  exact zJ
 by_cases h1:n=1
 ·subst h1;refine eM call87 λF hF=>?_
  (repeat' (first|refine YF ?_|refine xO (λhc=>?_) (λhc=>?_)|fail))
  exact zJ
 by_cases h2:n=2
 ·subst h2;refine eM call87 λF hF=>?_
  (repeat' (first|refine YF ?_|refine xO (λhc=>?_) (λhc=>?_)|fail))
  exact zJ
 by_cases h3:n=3
 ·subst h3;refine eM call87 λF hF=>?_
  (repeat' (first|refine YF ?_|refine xO (λhc=>?_) (λhc=>?_)|fail))
  exact zJ
 by_cases h4:n=4
 ·subst h4;refine eM call87 λF hF=>?_
  (repeat' (first|refine YF ?_|refine xO (λhc=>?_) (λhc=>?_)|fail))
  exact zJ
 rw[show qD n=[(0,0)] by simp[qD,h0,h1,h2,h3,h4]];refine eM call87 λF hF=>?_
 (repeat' (first|refine YF ?_|refine xO (λhc=>?_) (λhc=>?_)|fail))
 exact zJ
instance:Inhabited (Int×Int):=⟨(0,0)⟩
def UM (d:Dk) (s:Int×Int):Ph:=
 if nx (ad (ad (ad d))) 3=2 then⟨s.1,s.2,1+nx d (3-1+1),max (1+nx d (3-1+1)) (1+nx (ad (ad (ad (ad d)))) (2-1+1)+(1+nx (ad (ad (ad (ad (ad d))))) (2-1+1)))+nx (ad (ad (ad (ad (ad (ad d)))))) 4,1+nx (ad d) (2-1+1),nx (ad (ad d)) 3,1+nx (ad (ad (ad (ad d)))) (2-1+1),1+nx (ad (ad (ad (ad (ad d))))) (2-1+1)⟩
 else⟨s.1,s.2,1+nx d (3-1+1),max (1+nx d (3-1+1)) (0+0)+nx (ad (ad (ad (ad d)))) 4,1+nx (ad d) (2-1+1),nx (ad (ad d)) 3,0,0⟩
def phD (d:Dk):Dk:=if nx (ad (ad (ad d))) 3=2 then ad (ad (ad (ad (ad (ad (ad d))))))else ad (ad (ad (ad (ad d))))
def LG (d:Dk) (l:List (Int×Int)):Nat->List Ph×Dk
 |0=>([],d)
 |i+1=>((LG d l i).1++[UM (LG d l i).2 (l.getD i default)],phD (LG d l i).2)
theorem VK (d:Dk) (l:List (Int×Int)):∀i,(LG d l i).1.length=i
 |0=>rfl
 |i+1=>by simp[LG,VK d l i]
def cnd (ps:List Ph) (ex:Bool) (i k:Nat):Bool:=i != k&&((ps.getD i default).ring==(ps.getD k default).ring||(ps.getD i default).group != (ps.getD k default).group||ex&&((i:Int)+k).tmod 2==1)
def YP (ps:List Ph) (ex:Bool) (i:Nat):Nat->Int
 |0=>0
 |k+1=>if cnd ps ex i k=true then YP ps ex i k+2 ^ k else YP ps ex i k
theorem RU (ps:List Ph) (ex:Bool) (i:Nat):∀k,0<=YP ps ex i k/\YP ps ex i k<2 ^ k
 |0=>by simp[YP]
 |k+1=>by
  have:=RU ps ex i k;have e:(2:Int) ^ (k+1)=2 ^ k*2:=yDn 2 k;unfold YP
  split<;>omega
def gH (ps:List Ph) (ex:Bool) (n:Nat):List Int:=(List.range n).map λi=>YP ps ex i ps.length
def XT (d:Dk):List Ph×Dk:=LG (ad (ad d)) (qD (nx d 6)) (qD (nx d 6)).length
def jnF (d:Dk):Jn:=⟨(XT d).1,gH (XT d).1 (nx (XT d).2 4==3) (XT d).1.length,nx (ad d) 3⟩
def jnD (d:Dk):Dk:=ad (XT d).2
theorem PL (n:Int):1<=(qD n).length/\(qD n).length<=8:=by
 unfold qD
 (repeat' split)<;>simp
theorem zXq (k:Nat) (h:k<8):IntKind.i64.wrap (1*2 ^ (min ((k:Int)).toNat IntKind.i64.bits))=2 ^ k/\(2:Int) ^ k<=128:=by
 obtain rfl|rfl|rfl|rfl|rfl|rfl|rfl|rfl:k=0∨k=1∨k=2∨k=3∨k=4∨k=5∨k=6∨k=7:=by omega
 all_goals decide
theorem AJ (d:Dk):zN 38 [.ptr 1000 0 0] [(1000,dU d)] (wH (jnF d)) [(1000,dU (jnD d))]:=by
 have hb:=yF d 6 zB;have hsl:=PL (nx d 6);have sc:=zH3 (nx d 6);have ej:jnF d=⟨(XT d).1,gH (XT d).1 (nx (XT d).2 4==3) (XT d).1.length,nx (ad d) 3⟩:=rfl;have ed:jnD d=ad (XT d).2:=rfl;have ep:XT d=LG (ad (ad d)) (qD (nx d 6)) (qD (nx d 6)).length:=rfl;rw[ej,ed];generalize XT d=jp at *;generalize qD (nx d 6)=l at *;have hll:(l.map prA).length=l.length:=by simp
 refine eM call38 λF hF=>?_
 (repeat' (first|refine YF ?_|refine xO (λhc=>?_) (λhc=>?_)|(refine zE ?_;refine wD ?_;(first|(refine uQ 87 ?_;first|refine xI (zH (sc) rfl rfl rfl rfl rfl) rfl ?_|refine uN (zH (sc) rfl rfl rfl rfl rfl) rfl rfl rfl ?_|refine aN (zH (sc) rfl rfl rfl rfl rfl) rfl rfl rfl ?_)|(refine uQ 22 ?_;first|refine xI (zH (yH _ _ zB zB) rfl rfl rfl rfl rfl) rfl ?_|refine uN (zH (yH _ _ zB zB) rfl rfl rfl rfl rfl) rfl rfl rfl ?_|refine aN (zH (yH _ _ zB zB) rfl rfl rfl rfl rfl) rfl rfl rfl ?_)))|fail))
 refine uK 4 0 1001 8 rfl rfl rfl rfl rfl ?_
 refine vA (λn st=>∃i:Nat,n+i=l.length/\st=⟨[(0,.ptr 1000 0 0),(2,.ptr 2 0 0),(4,.ptr 4 0 0),(20,zD prA l),(21,iA l.length),(22,iA i)],
   [(1000,dU (LG (ad (ad d)) l i).2),(2,.box [.s (.slice none 0 0),.s (.slice none 0 0),iA 0]),(4,.box [.ref 1001 0 ((LG (ad (ad d)) l i).1.map wU).length,.s (.slice none 0 0),iA (nx (ad d) 3)]),(1001,.arr 8 ((LG (ad (ad d)) l i).1.map wU) true)]⟩)
  l.length [1000,2,4,1001] [0,2,4,20,21,22] rfl ⟨0,rfl,by rw[<-hll];rfl⟩ ?_
 rintro n st ⟨i,hi,rfl⟩;by_cases hlt:i<l.length
 ·have hy:=yM prA l i zB zB;rw[show((i:Int)).toNat=i from rfl]at hy;have hm:(LG (ad (ad d)) l (i+1)).1.map wU=(LG (ad (ad d)) l i).1.map wU++[wU (UM (LG (ad (ad d)) l i).2 (l.getD i default))]:=zYc;have hd:(LG (ad (ad d)) l (i+1)).2=phD (LG (ad (ad d)) l i).2:=rfl;have hle:=VK (ad (ad d)) l i;generalize l.getD i default=p at *;obtain⟨p1,p2⟩:=p;generalize hq':LG (ad (ad d)) l (i+1)=q' at hm hd;generalize LG (ad (ad d)) l i=q at *;obtain⟨ql,qd⟩:=q;dsimp only at hm hd hle⊢;have b0:=yF qd (3-1+1) zB;have b1:=yF (ad (ad (ad (ad qd)))) 4 zB;have b2:=yF (ad (ad (ad (ad qd)))) (2-1+1) zB;have b3:=yF (ad (ad (ad (ad (ad qd))))) (2-1+1) zB;have b4:=yF (ad (ad (ad (ad (ad (ad qd)))))) 4 zB;by_cases hz:nx (ad (ad (ad qd))) 3=2
  ·rw[show UM qd (p1,p2)=⟨p1,p2,1+nx qd (3-1+1),max (1+nx qd (3-1+1)) (1+nx (ad (ad (ad (ad qd)))) (2-1+1)+(1+nx (ad (ad (ad (ad (ad qd))))) (2-1+1)))+nx (ad (ad (ad (ad (ad (ad qd)))))) 4,1+nx (ad qd) (2-1+1),nx (ad (ad qd)) 3,1+nx (ad (ad (ad (ad qd)))) (2-1+1),1+nx (ad (ad (ad (ad (ad qd))))) (2-1+1)⟩ by unfold UM;rw[zX1 hz]]at hm;rw[show phD qd=ad (ad (ad (ad (ad (ad (ad qd)))))) by unfold phD;rw[zX1 hz]]at hd
   (repeat' (first|refine YF ?_|refine xO (λhc=>?_) (λhc=>?_)|(refine zE ?_;refine wD ?_;(first|(refine uQ 37 ?_;first|refine xI (zH (kU _ _ _ zB zB zB) rfl rfl rfl rfl rfl) rfl ?_|refine uN (zH (kU _ _ _ zB zB zB) rfl rfl rfl rfl rfl) rfl rfl rfl ?_|refine aN (zH (kU _ _ _ zB zB zB) rfl rfl rfl rfl rfl) rfl rfl rfl ?_)|(refine uQ 22 ?_;first|refine xI (zH (yH _ _ zB zB) rfl rfl rfl rfl rfl) rfl ?_|refine uN (zH (yH _ _ zB zB) rfl rfl rfl rfl rfl) rfl rfl rfl ?_|refine aN (zH (yH _ _ zB zB) rfl rfl rfl rfl rfl) rfl rfl rfl ?_)))|fail))
   exact⟨n-1,zB,i+1,zB,by rw[hq',hm,hd];rfl⟩
  ·rw[show UM qd (p1,p2)=⟨p1,p2,1+nx qd (3-1+1),max (1+nx qd (3-1+1)) (0+0)+nx (ad (ad (ad (ad qd)))) 4,1+nx (ad qd) (2-1+1),nx (ad (ad qd)) 3,0,0⟩ by unfold UM;rw[zX0 hz]]at hm;rw[show phD qd=ad (ad (ad (ad (ad qd)))) by unfold phD;rw[zX0 hz]]at hd
   (repeat' (first|refine YF ?_|refine xO (λhc=>?_) (λhc=>?_)|(refine zE ?_;refine wD ?_;(first|(refine uQ 37 ?_;first|refine xI (zH (kU _ _ _ zB zB zB) rfl rfl rfl rfl rfl) rfl ?_|refine uN (zH (kU _ _ _ zB zB zB) rfl rfl rfl rfl rfl) rfl rfl rfl ?_|refine aN (zH (kU _ _ _ zB zB zB) rfl rfl rfl rfl rfl) rfl rfl rfl ?_)|(refine uQ 22 ?_;first|refine xI (zH (yH _ _ zB zB) rfl rfl rfl rfl rfl) rfl ?_|refine uN (zH (yH _ _ zB zB) rfl rfl rfl rfl rfl) rfl rfl rfl ?_|refine aN (zH (yH _ _ zB zB) rfl rfl rfl rfl rfl) rfl rfl rfl ?_)))|fail))
   exact⟨n-1,zB,i+1,zB,by rw[hq',hm,hd];rfl⟩
 obtain rfl:i=l.length:=by omega
 have hpl:jp.1.length=l.length:=by rw[ep];exact VK _ _ _
 rw[<-ep];clear ep ej ed sc hll hi hlt;obtain⟨ps,dj⟩:=jp;dsimp only at hpl⊢;have hlp:(ps.map wU).length=ps.length:=by simp
 generalize nx (ad d) 3=js
 (repeat' (first|refine YF ?_|refine xO (λhc=>?_) (λhc=>?_)|(refine zE ?_;refine wD ?_;(first|(refine uQ 22 ?_;first|refine xI (zH (yH _ _ zB zB) rfl rfl rfl rfl rfl) rfl ?_|refine uN (zH (yH _ _ zB zB) rfl rfl rfl rfl rfl) rfl rfl rfl ?_|refine aN (zH (yH _ _ zB zB) rfl rfl rfl rfl rfl) rfl rfl rfl ?_)))|fail))
 generalize nx dj 4=n4
 refine jP (st':=⟨[(0,.ptr 1000 0 0),(2,.ptr 2 0 0),(4,.ptr 4 0 0),(8,bA (n4==3)),(69,zD wU ps),(70,iA ps.length),(71,iA 0)],
   [(1000,dU (ad dj)),(2,.box [.s (.slice none 0 0),.s (.slice none 0 0),iA 0]),(4,.box [zD wU ps,.s (.slice none 0 0),iA js])]⟩) [1000,2,4] [0,2,4,8,69,70,71] rfl (by
  have e1:zD wU ps= .sl false (List.take (ps.map wU).length (List.drop 0 (ps.map wU))):=by
   rw[zY2,zX7];rfl
  rw[e1,<-hlp]
  rfl) ?_
 generalize (n4==3)=ex;generalize ad dj=dk;refine uK 4 1 1002 1 rfl rfl rfl rfl rfl ?_
 refine vA (λn st=>∃i:Nat,n+i=ps.length/\st=⟨[(0,.ptr 1000 0 0),(2,.ptr 2 0 0),(4,.ptr 4 0 0),(8,bA ex),(69,zD wU ps),(70,iA ps.length),(71,iA i)],
   [(1000,dU dk),(2,.box [.s (.slice none 0 0),.s (.slice none 0 0),iA 0]),(4,.box [zD wU ps,.ref 1002 0 ((gH ps ex i).map iA).length,iA js]),(1002,.arr 1 ((gH ps ex i).map iA) true)]⟩)
  ps.length [1000,2,4,1002] [0,2,4,8,69,70,71] rfl ⟨0,rfl,rfl⟩ ?_
 clear n;rintro n st ⟨i,hi,rfl⟩;by_cases hlt:i<ps.length
 ·have hy:=yM wU ps i zB zB;rw[show((i:Int)).toNat=i from rfl]at hy;have ht:(gH ps ex (i+1)).map iA=(gH ps ex i).map iA++[iA (YP ps ex i ps.length)]:=by unfold gH;rw[yAh];simp
  have hrl:(gH ps ex i).length=i:=by simp[gH]
  obtain⟨p,hp⟩:∃p,ps.getD i default=p:=⟨_,rfl⟩;rw[hp]at hy;obtain⟨rows,hrows⟩:∃r,gH ps ex i=r:=⟨_,rfl⟩;rw[hrows]at ht hrl⊢
  (repeat' (first|refine YF ?_|refine xO (λhc=>?_) (λhc=>?_)|fail))
  refine vA (λn st=>∃k:Nat,n+k=ps.length/\st=⟨[(0,.ptr 1000 0 0),(2,.ptr 2 0 0),(4,.ptr 4 0 0),(8,bA ex),(9,iA i),(10,.ptr 10 0 0),(11,iA (YP ps ex i k)),(69,zD wU ps),(70,iA ps.length),(71,iA i),(77,zD wU ps),(78,iA ps.length),(79,iA k)],
    [(1000,dU dk),(2,.box [.s (.slice none 0 0),.s (.slice none 0 0),iA 0]),(4,.box [zD wU ps,.ref 1002 0 (rows.map iA).length,iA js]),(10,.box [iA p.ring,iA p.group,iA p.ming,iA p.maxg,iA p.yel,iA p.red,iA p.walk,iA p.clear]),(1002,.arr 1 (rows.map iA) true)]⟩)
   ps.length [1000,2,4,10,1002] [0,2,4,8,9,10,11,69,70,71,77,78,79] rfl ⟨0,rfl,by rw[<-hlp];rfl⟩ ?_
  rintro n2 st ⟨k,hk,rfl⟩;by_cases hlt2:k<ps.length
  ·have hy2:=yM wU ps k zB zB;rw[show((k:Int)).toNat=k from rfl]at hy2
   have hn:YP ps ex i (k+1)=if cnd ps ex i k=true then YP ps ex i k+2 ^ k else YP ps ex i k:=rfl
   have hc:cnd ps ex i k=(i != k&&(p.ring==(ps.getD k default).ring||p.group != (ps.getD k default).group||ex&&((i:Int)+k).tmod 2==1)):=by rw[<-hp];rfl
   obtain⟨hw,hw2⟩:=zXq k zB;obtain⟨hr0,hr1⟩:=RU ps ex i k;have hr2:0<=(2:Int) ^ k:=by omega
   rw[show(2:Int) ^ k=p2 k from rfl]at hn hr1 hr2 hw2;clear hw;generalize ps.getD k default=q at *;by_cases h0:i=k
   ·rw[zX0 (by rw[hc];simp[h0])]at hn;clear hc;subst h0
    (repeat' (first|refine YF ?_|refine xO (λhc=>?_) (λhc=>?_)|fail))
    exact⟨n2-1,zB,i+1,zB,by rw[hn];rfl⟩
   by_cases h1:p.ring=q.ring
   ·rw[zX1 (by rw[hc];simp[h0,h1])]at hn;clear hc
    (repeat' (first|refine YF ?_|refine xO (λhc=>?_) (λhc=>?_)|fail))
    exact⟨n2-1,zB,k+1,zB,by rw[hn];rfl⟩
   by_cases h2:p.group=q.group
   ·cases ex with
    |false=>
     rw[zX0 (by rw[hc];simp[h0,h1,h2])]at hn;clear hc
     (repeat' (first|refine YF ?_|refine xO (λhc=>?_) (λhc=>?_)|fail))
     exact⟨n2-1,zB,k+1,zB,by rw[hn];rfl⟩
    | true=>
     by_cases h3:((i:Int)+k).tmod 2=1
     ·rw[zX1 (by rw[hc];simp[h0,h1,h2,h3])]at hn;clear hc
      (repeat' (first|refine YF ?_|refine xO (λhc=>?_) (λhc=>?_)|fail))
      exact⟨n2-1,zB,k+1,zB,by rw[hn];rfl⟩
     ·rw[zX0 (by rw[hc];simp[h0,h1,h2,h3])]at hn;clear hc
      (repeat' (first|refine YF ?_|refine xO (λhc=>?_) (λhc=>?_)|fail))
      exact⟨n2-1,zB,k+1,zB,by rw[hn];rfl⟩
   ·rw[zX1 (by rw[hc];simp[h0,h1,h2])]at hn;clear hc
    (repeat' (first|refine YF ?_|refine xO (λhc=>?_) (λhc=>?_)|fail))
    exact⟨n2-1,zB,k+1,zB,by rw[hn];rfl⟩
  ·obtain rfl:k=ps.length:=by omega
   have hr:=RU ps ex i ps.length
   (repeat' (first|refine YF ?_|refine xO (λhc=>?_) (λhc=>?_)|fail))
   exact⟨n-1,zB,i+1,zB,by rw[ht];rfl⟩
 obtain rfl:i=ps.length:=by omega
 (repeat' (first|refine YF ?_|refine xO (λhc=>?_) (λhc=>?_)|fail))
 exact zL [1000] rfl rfl (zY0 (λx=>AV.agg [zD wU ps,AV.sl false x,iA js]) zX7) rfl
def ad4 (d:Dk):Dk:=ad (ad (ad (ad d)))
def NT (d:Dk):Nat->List Jn×Dk
 |0=>([],d)
 |i+1=>((NT d i).1++[jnF (NT d i).2],jnD (NT d i).2)
def UN (d:Dk) (rights:Int):Nat->List Ag×Dk
 |0=>([],d)
 |i+1=>((UN d rights i).1++[agF (UN d rights i).2 i rights],ad (ad7 (UN d rights i).2))
theorem RV (d:Dk):∀i,(NT d i).1.length=i
 |0=>rfl
 |i+1=>by simp[NT,RV d i]
theorem dX (d:Dk) (rights:Int):∀i,(UN d rights i).1.length=i
 |0=>rfl
 |i+1=>by simp[UN,dX d rights i]
theorem zSr (d:Dk) (rights:Int) (i:Nat):(UN d rights (i+1)).2=ad (ad7 (UN d rights i).2):=by simp only[UN]
theorem zH4 (d:Dk) (rights:Int) (i:Nat):(UN d rights (i+1)).1=(UN d rights i).1++[agF (UN d rights i).2 i rights]:=by simp only[UN]
def cfN (d:Dk):Nat:=(1+nx (ad4 d) 2).toNat
def cfJ (d:Dk):List Jn×Dk:=NT (ad (ad4 d)) (cfN d)
def cfM (d:Dk):Nat:=(1+nx (cfJ d).2 3).toNat
def cfG (d:Dk) (rights:Int):List Ag×Dk:=UN (ad (cfJ d).2) rights (cfM d)
def XU (d:Dk) (rights:Int):Cf:=⟨(cfJ d).1,(cfG d rights).1,1+nx d (4-1+1),nx (ad d) 4,1+nx (ad (ad d)) (3-1+1),nx (ad (ad (ad d))) 5⟩
def cfD (d:Dk) (rights:Int):Dk:=(cfG d rights).2
theorem cQ (d:Dk) (rights:Int):zN 12 [.ptr 1000 0 0,iA rights] [(1000,dU d)] (wP (XU d rights)) [(1000,dU (cfD d rights))]:=by
 have hn:=yF (ad4 d) 2 zB;have hm:=yF (cfJ d).2 3 zB;have en:1+nx (ad4 d) 2=(cfN d:Int):=(yC8 zB).symm;have em:1+nx (cfJ d).2 3=(cfM d:Int):=(yC8 zB).symm;have ej:cfJ d=NT (ad (ad4 d)) (cfN d):=rfl;have eg:cfG d rights=UN (ad (cfJ d).2) rights (cfM d):=rfl;have ef:XU d rights=⟨(cfJ d).1,(cfG d rights).1,1+nx d (4-1+1),nx (ad d) 4,1+nx (ad (ad d)) (3-1+1),nx (ad (ad (ad d))) 5⟩:=rfl;have ed:cfD d rights=(cfG d rights).2:=rfl;rw[ef,ed];unfold ad4 at *;generalize cfJ d=jj at *;generalize cfG d rights=gg at *;generalize cfN d=N at *;generalize cfM d=M at *;have jc:=λi=>AJ (NT (ad (ad (ad (ad (ad d))))) i).2
 refine eM call12 λF hF=>?_
 (repeat' (first|refine YF ?_|refine xO (λhc=>?_) (λhc=>?_)|(refine zE ?_;refine wD ?_;(first|(refine uQ 37 ?_;first|refine xI (zH (kU _ _ _ zB zB zB) rfl rfl rfl rfl rfl) rfl ?_|refine uN (zH (kU _ _ _ zB zB zB) rfl rfl rfl rfl rfl) rfl rfl rfl ?_|refine aN (zH (kU _ _ _ zB zB zB) rfl rfl rfl rfl rfl) rfl rfl rfl ?_)|(refine uQ 22 ?_;first|refine xI (zH (yH _ _ zB zB) rfl rfl rfl rfl rfl) rfl ?_|refine uN (zH (yH _ _ zB zB) rfl rfl rfl rfl rfl) rfl rfl rfl ?_|refine aN (zH (yH _ _ zB zB) rfl rfl rfl rfl rfl) rfl rfl rfl ?_)))|fail))
 generalize nx d (4-1+1)=c1 at *;generalize nx (ad d) 4=c2 at *;generalize nx (ad (ad d)) (3-1+1)=c3 at *;generalize nx (ad (ad (ad d))) 5=c4 at *;generalize nx (ad (ad (ad (ad d)))) 2=n0 at *;generalize ad (ad (ad (ad (ad d))))=d5 at *;refine uK 5 0 1001 3 rfl rfl rfl rfl rfl ?_
 refine vA (λn st=>∃i:Nat,n+i=N/\st=⟨[(0,.ptr 1000 0 0),(1,iA rights),(4,.ptr 4 0 0),(5,.ptr 5 0 0),(6,iA (1+n0-i))],
   [(1000,dU (NT d5 i).2),(4,.box [.s (.slice none 0 0),.s (.slice none 0 0),iA 0,iA 0,iA 0,iA 0]),(5,.box [.ref 1001 0 ((NT d5 i).1.map wH).length,.s (.slice none 0 0),iA (1+c1),iA c2,iA (1+c3),iA c4]),(1001,.arr 3 ((NT d5 i).1.map wH) true)]⟩)
  N [1000,4,5,1001] [0,1,4,5,6] rfl ⟨0,rfl,by rw[show 1+n0-(0:Nat)=1+n0 by omega];rfl⟩ ?_
 rintro n st ⟨i,hi,rfl⟩;by_cases hlt:i<N
 ·have hm2:(NT d5 (i+1)).1.map wH=(NT d5 i).1.map wH++[wH (jnF (NT d5 i).2)]:=zYc;have hd2:(NT d5 (i+1)).2=jnD (NT d5 i).2:=rfl;have c:=jc i;have hle:=RV d5 i;generalize hq':NT d5 (i+1)=q' at hm2 hd2;generalize NT d5 i=q at *;obtain⟨ql,qd⟩:=q;dsimp only at hm2 hd2 hle c⊢;generalize jnF qd=jf at *;generalize jnD qd=jd at *;refine zU c ?_;exact⟨n-1,zB,i+1,zB,by rw[hq',hm2,hd2,show 1+n0-((i+1:Nat):Int)=1+n0-i-1 by omega];rfl⟩
 obtain rfl:i=N:=by omega
 have hjl:jj.1.length=i:=by rw[ej];exact RV _ _
 rw[<-ej];clear ej jc ef ed;obtain⟨js,dj⟩:=jj;dsimp only at *;have hlp:(js.map wH).length=js.length:=by simp
 have hal:=dX (ad dj) rights M;have ac:=λk (hk:k<M)=>zJr (UN (ad dj) rights k).2 k rights zB zB
 rw[<-eg]at hal
 (repeat' (first|refine YF ?_|refine xO (λhc=>?_) (λhc=>?_)|(refine zE ?_;refine wD ?_;(first|(refine uQ 22 ?_;first|refine xI (zH (yH _ _ zB zB) rfl rfl rfl rfl rfl) rfl ?_|refine uN (zH (yH _ _ zB zB) rfl rfl rfl rfl rfl) rfl rfl rfl ?_|refine aN (zH (yH _ _ zB zB) rfl rfl rfl rfl rfl) rfl rfl rfl ?_)))|fail))
 generalize nx dj 3=n3 at *;generalize ad dj=dk at*
 refine jP (st':=⟨[(0,.ptr 1000 0 0),(1,iA rights),(4,.ptr 4 0 0),(5,.ptr 5 0 0),(33,iA (1+n3)),(34,iA 0)],
   [(1000,dU dk),(4,.box [.s (.slice none 0 0),.s (.slice none 0 0),iA 0,iA 0,iA 0,iA 0]),(5,.box [zD wH js,.s (.slice none 0 0),iA (1+c1),iA c2,iA (1+c3),iA c4])]⟩) [1000,4,5] [0,1,4,5,33,34] rfl (by
  have e1:zD wH js= .sl false (List.take (js.map wH).length (List.drop 0 (js.map wH))):=by
   rw[zY2,zX7];rfl
  rw[e1]
  rfl) ?_
 refine uK 5 1 1002 8 rfl rfl rfl rfl rfl ?_
 refine vA (λn st=>∃k:Nat,n+k=M/\st=⟨[(0,.ptr 1000 0 0),(1,iA rights),(4,.ptr 4 0 0),(5,.ptr 5 0 0),(33,iA (1+n3)),(34,iA k)],
   [(1000,dU (UN dk rights k).2),(4,.box [.s (.slice none 0 0),.s (.slice none 0 0),iA 0,iA 0,iA 0,iA 0]),(5,.box [zD wH js,.ref 1002 0 ((UN dk rights k).1.map vC).length,iA (1+c1),iA c2,iA (1+c3),iA c4]),(1002,.arr 8 ((UN dk rights k).1.map vC) true)]⟩)
  M [1000,4,5,1002] [0,1,4,5,33,34] rfl ⟨0,rfl,rfl⟩ ?_
 clear n hi hlt;rintro n st ⟨k,hk,rfl⟩;by_cases hlt:k<M
 ·have hm2:(UN dk rights (k+1)).1.map vC=(UN dk rights k).1.map vC++[vC (agF (UN dk rights k).2 k rights)]:=by rw[zH4];exact zYc
  have hd2:(UN dk rights (k+1)).2=ad (ad7 (UN dk rights k).2):=zSr dk rights k;have c:=ac k hlt;have hle:=dX dk rights k;clear ac;generalize hq':UN dk rights (k+1)=q' at hm2 hd2;generalize UN dk rights k=q at *;obtain⟨ql,qd⟩:=q;dsimp only at hm2 hd2 hle c⊢;generalize agF qd k rights=jf at *;generalize ad (ad7 qd)=jd at *;refine zU c ?_;exact⟨n-1,zB,k+1,zB,by rw[hq',hm2,hd2];rfl⟩
 obtain rfl:k=M:=by omega
 rw[<-eg];clear eg ac;refine WW ?_;exact zL [1000] rfl rfl (zY0 (λx=>AV.agg [zD wH js,AV.sl false x,iA (1+c1),iA c2,iA (1+c3),iA c4]) zX7) rfl
def CfW (c:Cf):Prop:=c.js.length<=4/\∀j∈c.js,1<=j.ph.length/\j.ph.length<=8
theorem CfW.at {c:Cf} (h:CfW c) {j:Int} (h0:0<=j) (h1:j<((c.js.map wH).length:Int)):1<=(c.js.getD j.toNat default).ph.length/\(c.js.getD j.toNat default).ph.length<=8:=by
 rw[zX2]at h1;refine h.2 _ ?_;rw[zX5,zYi zB,zZ3];exact yAn _
def qJ (c:Cf) (e:Dk) (k:Nat):Int:=Int.tmod (nx e 3+k) (max 1 (((c.js.map wH).length:Int)+(nx (ad e) 12).tdiv 11))
def qP (c:Cf) (j:Int):Int:=if j<((c.js.map wH).length:Int)then(((c.js.getD j.toNat default).ph.map wU).length:Int)else 2
theorem JK (x:Int) (h:0<=x/\x<12):0<=x.tdiv 11/\x.tdiv 11<=1/\XC .i64 (x.tdiv 11):=by
 have:x.tdiv 11=x/11:=zZt h.1;rw[this];refine⟨zB,zB,by unfold XC;omega⟩
theorem zH5 (a b:Int) (h0:0<=a) (h1:1<=b) (h2:b<=1000):0<=a.tmod b/\a.tmod b<=1000/\XC .i64 (a.tmod b):=by
 have:=yDp b h0;have h3:a.tmod b<b:=yDe a zB;exact⟨this,zB,by unfold XC;omega⟩
theorem zV9 {c:Cf} (h:CfW c) (e:Dk) (k:Nat):0<=qJ c e k/\qJ c e k<=1000:=by
 have w1:=yF e 3 zB;have w2:=yF (ad e) 12 zB;obtain⟨v2,u2,i2⟩:=JK _ w2;have h1:=h.1;have h2:(c.js.map wH).length=c.js.length:=zX2 ..;have:=zH5 (nx e 3+k) (max 1 (((c.js.map wH).length:Int)+(nx (ad e) 12).tdiv 11)) zB zB zB;exact⟨this.1,this.2.1⟩
theorem zWa {c:Cf} (h:CfW c) {j:Int} (h0:0<=j):1<=qP c j/\qP c j<=8:=by
 unfold qP;split
 ·rename_i h1;have:=h.at h0 h1;rw[zX2];omega
 ·omega
def EC (c:Cf) (k:Nat) (l:List Int) (e:Dk):List Int×Dk:=
 (l++[qJ c e k,nx (ad (ad (ad (ad e)))) (qP c (qJ c e k)+(nx (ad (ad (ad e))) 12).tdiv 11),nx (ad (ad e)) 3,nx (ad (ad e)) 3+nx (ad (ad (ad (ad (ad e))))) 50],ad (ad (ad (ad (ad (ad e))))))
def aF (c:Cf) (l:List Int) (d:Dk):Nat->List Int×Dk
 |0=>(l,d)
 |i+1=>EC c i (aF c l d i).1 (aF c l d i).2
def RA (l:List Int):Prop:=∀x∈l,0<=x/\x<=4294967295
theorem RA.app {a b:List Int} (h1:RA a) (h2:RA b):RA (a++b):=λx hx=>(zYl.1 hx).elim (h1 x) (h2 x)
theorem RA.cons {x:Int} {b:List Int} (h1:0<=x/\x<=4294967295) (h2:RA b):RA (x::b):=λy hy=>(zZi.1 hy).elim (λe=>e▸h1) (h2 y)
theorem RA.nil:RA []:=λx hx=>by cases hx
theorem AK {c:Cf} (hc:CfW c) (l:List Int) (hl:RA l) (d:Dk):∀i,(aF c l d i).1.length=l.length+i*4/\rem (aF c l d i).2<=rem d/\RA (aF c l d i).1
 |0=>⟨rfl,zX6 _,hl⟩
 |i+1=>by
  have ih:=AK hc l hl d i
  show(EC c i _ _).1.length=_/\rem (EC c i _ _).2<=_/\RA (EC c i _ _).1
  generalize (aF c l d i).2=e at *;have r1:=wM e;have r2:=wM (ad e);have r3:=wM (ad (ad e));have r4:=wM (ad (ad (ad e)));have r5:=wM (ad (ad (ad (ad e))));have r6:=wM (ad (ad (ad (ad (ad e)))));have j1:=zV9 hc e i;have j2:=zWa hc j1.1;have w3:=yF (ad (ad e)) 3 zB;have w4:=yF (ad (ad (ad e))) 12 zB;have w6:=yF (ad (ad (ad (ad (ad e))))) 50 zB;obtain⟨v4,u4,_⟩:=JK _ w4;have w5:=yF (ad (ad (ad (ad e)))) (qP c (qJ c e i)+(nx (ad (ad (ad e))) 12).tdiv 11) zB;refine⟨by simp only[EC,zX3,zYd,zZa];omega,by simp only[EC];omega,?_⟩;exact ih.2.2.app (.cons zB (.cons zB (.cons zB (.cons zB .nil))))
theorem zM3 (c:Cf) (hc:CfW c) (l:List Int) (hl:l.length<=1000) (hn:RA l) (d:Dk):zN 96 [.ptr 1000 0 0,wP c,.ref 107 0 (l.map iA).length] [(1000,dU d),(107,.arr 1 (l.map iA) false)] (.ref 107 0 ((aF c l (ad d) (1+(nx d 2).toNat)).1.map iA).length) [(1000,dU (aF c l (ad d) (1+(nx d 2).toNat)).2),(107,.arr 1 ((aF c l (ad d) (1+(nx d 2).toNat)).1.map iA) true)]:=by
 have c1:=yH d 2 zB zB;have b1:=yF d 2 zB;generalize nx d 2=n at *;generalize ad d=d1 at *;obtain⟨N,hN⟩:∃N:Nat,1+n.toNat=N:=⟨_,rfl⟩;have hN2:1+n=(N:Int):=by omega
 rw[hN];have hjs:=hc.1;have hjl:(c.js.map wH).length=c.js.length:=zX2 ..;unfold wP zD;refine eM call96 λF hF=>?_
 refine zU c1 ?_;refine uL 107 rfl ?_;refine zP (N) [1000,107,4] [4] [0,4,15] [2,16,0,4,15] rfl (λi T U=>⟨(2,.ref 107 0 ((aF c l d1 i).1.map iA).length)::(16,iA i)::T,(1000,dU (aF c l d1 i).2)::(107,.arr 1 ((aF c l d1 i).1.map iA) true)::U⟩) ?_;(conv=>whnf);refine⟨by rfl,?_,?_⟩
 ·intro i hi;have hl:=(AK hc l hn d1 i).1;have eS:aF c l d1 (i+1)=EC c i (aF c l d1 i).1 (aF c l d1 i).2:=rfl;unfold EC at eS;generalize (aF c l d1 i).1=p at *;generalize (aF c l d1 i).2=e at *;have hi2:(i:Int)<=1:=by omega
  have n1:=yH e 3 zB zB;have n2:=yH (ad e) 12 zB zB;have n3:=yH (ad (ad e)) 3 zB zB;have n4:=yH (ad (ad (ad e))) 12 zB zB;have w1:=yF e 3 zB;have w2:=yF (ad e) 12 zB;have w3:=yF (ad (ad e)) 3 zB;have w4:=yF (ad (ad (ad e))) 12 zB;obtain⟨v2,u2,i2⟩:=JK _ w2;obtain⟨v4,u4,i4⟩:=JK _ w4;have jb:=zV9 hc e i;have pb:=zWa hc jb.1;have n5:=yH (ad (ad (ad (ad e)))) (qP c (qJ c e i)+(nx (ad (ad (ad e))) 12).tdiv 11) zB zB;have n6:=yH (ad (ad (ad (ad (ad e))))) 50 zB zB;have w6:=yF (ad (ad (ad (ad (ad e))))) 50 zB;generalize hx5:nx (ad (ad (ad (ad e)))) (qP c (qJ c e i)+(nx (ad (ad (ad e))) 12).tdiv 11)=x5 at *;clear hx5;have hat:=λh=>yM wH c.js (qJ c e i) jb.1 h
  have hat2:=λh=>hc.at (c:=c) (j:=qJ c e i) jb.1 h
  have hm:1<=max 1 (((c.js.map wH).length:Int)+(nx (ad e) 12).tdiv 11)/\max 1 (((c.js.map wH).length:Int)+(nx (ad e) 12).tdiv 11)<=1000:=by omega
  have tb:=zH5 (nx e 3+i) _ zB hm.1 hm.2;unfold qP at n5 pb;unfold qJ at n5 eS jb hat hat2 pb;rw[eS];clear eS hc;generalize nx (ad (ad (ad (ad (ad e))))) 50=x6 at *;generalize nx (ad (ad (ad e))) 12=x4 at *;generalize nx (ad (ad e)) 3=x3 at *;generalize nx (ad e) 12=x2 at *;generalize nx e 3=x1 at *;generalize ad e=e1 at *;generalize ad e1=e2 at *;generalize ad e2=e3 at *;generalize ad e3=e4 at *;generalize ad e4=e5 at *;generalize ad e5=e6 at *;obtain⟨hm1,hm2⟩:=hm;obtain⟨tb1,tb2,tb3⟩:=tb;by_cases hj:Int.tmod (x1+i) (max 1 (((c.js.map wH).length:Int)+x2.tdiv 11))<((c.js.map wH).length:Int)
  ·rw[zX1 hj]at n5 pb;have hy:=hat zB;have hz:=hat2 hj;clear hat hat2;generalize c.js.getD (Int.tmod (x1+i) (max 1 (((c.js.map wH).length:Int)+x2.tdiv 11))).toNat default=J at *;have hpl:(J.ph.map wU).length=J.ph.length:=zX2 ..;unfold wH zD at hy;generalize J.ph.map wU=P at *;generalize J.cf.map iA=Cz at *;refine yQ (zt6 n1 n2 n3 n4 n5 n6) ?_
   show restr _ _ _=_
   rw[zYc];rfl
  ·rw[zX0 hj]at n5 pb;clear hat hat2;refine yQ (zt6 n1 n2 n3 n4 n5 n6) ?_
   show restr _ _ _=_
   rw[zYc];rfl
 ·(refine WW ?_)
  exact zL [1000,107] rfl rfl rfl rfl
def AL (g:Int) (d:Dk):List Int×Dk:=
 if nx d 9=7 then(g::nx (ad d) 4::dS (2000+10*g+nx (ad (ad d)) 3),ad (ad (ad d)))
 else if nx d 9=8 then(nx (ad d) 3::0::dS (1000+nx (ad (ad d)) 3),ad (ad (ad d)))
 else(g::0::dS (1000+g),ad d)
theorem zSs (g:Int) (hg:0<=g/\g<256) (d:Dk):BY (AL g d).1/\rem (AL g d).2<=rem d:=by
 have r1:=wM d;have r2:=wM (ad d);have r3:=wM (ad (ad d));have b1:=yF (ad d) 4 zB;have b2:=yF (ad d) 3 zB;unfold AL;split
 ·exact⟨JY hg zB (YA _),by dsimp only;omega⟩
 ·split
  ·exact⟨JY zB zB (YA _),by dsimp only;omega⟩
  ·exact⟨JY hg zB (YA _),by dsimp only;omega⟩
def zSt (q:Int):Int:=if q=1 then 4 else if q=3 then 7 else 6
theorem zM4 (q:Int) (h:0<=q/\q<4):([AV.s (.int .i64 6),AV.s (.int .i64 4),AV.s (.int .i64 6),AV.s (.int .i64 7)]:List AV)[q.toNat]? =some (AV.s (.int .i64 (zSt q))):=by
 have:q=0∨q=1∨q=2∨q=3:=by omega
 rcases this with rfl|rfl|rfl|rfl<;>rfl
def zDu (k:Int) (d:Dk):Int×Dk:=if nx d 2=0 then(zSt (nx (ad d) 4),ad (ad d))else(k,ad d)
theorem zSu (k:Int) (hk:1<=k/\k<=12) (d:Dk):(1<=(zDu k d).1/\(zDu k d).1<=12)/\rem (zDu k d).2<=rem d:=by
 have r1:=wM d;have r2:=wM (ad d);unfold zDu zSt;split
 ·refine⟨?_,by dsimp only;omega⟩;dsimp only;split
  ·omega
  ·split<;>omega
 ·exact⟨hk,by dsimp only;omega⟩
def ED (l:List Int) (d:Dk):List Int×Dk:=(l++[nx d 3,nx d 3+nx (ad d) 40],ad (ad d))
def XV (l:List Int) (d:Dk):Nat->List Int×Dk
 |0=>(l,d)
 |i+1=>ED (XV l d i).1 (XV l d i).2
theorem AM (l:List Int) (hl:RA l) (d:Dk):∀i,(XV l d i).1.length=l.length+i*2/\rem (XV l d i).2<=rem d/\RA (XV l d i).1
 |0=>⟨rfl,zX6 _,hl⟩
 |i+1=>by
  have ih:=AM l hl d i
  show(ED _ _).1.length=_/\rem (ED _ _).2<=_/\RA (ED _ _).1
  generalize (XV l d i).2=e at *;have r1:=wM e;have r2:=wM (ad e);have w1:=yF e 3 zB;have w2:=yF (ad e) 40 zB;refine⟨by simp only[ED,zX3,zYd,zZa];omega,by simp only[ED];omega,?_⟩;exact ih.2.2.app (.cons zB (.cons zB .nil))
def zDv (q:Int):Int:=if q=0 then 63 else if q=1 then 1 else if q=2 then 3 else if q=3 then 47 else 64
def zDw (q:Int):Int:=if q=0 then 0 else if q=1 then 5 else if q=2 then 30 else 700
theorem zM5 (q:Int) (h:0<=q/\q<5):([AV.s (.int .i64 63),AV.s (.int .i64 1),AV.s (.int .i64 3),AV.s (.int .i64 47),AV.s (.int .i64 64)]:List AV)[q.toNat]? =some (AV.s (.int .i64 (zDv q))):=by
 have:q=0∨q=1∨q=2∨q=3∨q=4:=by omega
 rcases this with rfl|rfl|rfl|rfl|rfl<;>rfl
theorem zM6 (q:Int) (h:0<=q/\q<4):([AV.s (.int .i64 0),AV.s (.int .i64 5),AV.s (.int .i64 30),AV.s (.int .i64 700)]:List AV)[q.toNat]? =some (AV.s (.int .i64 (zDw q))):=by
 have:q=0∨q=1∨q=2∨q=3:=by omega
 rcases this with rfl|rfl|rfl|rfl<;>rfl
def zDx (cf:Cf) (k c:Int) (d:Dk):List Int×Dk:=
 if k=2 then([zDv (nx d 5),nx (ad d) 5,zDw (nx (ad (ad d)) 4)],ad (ad (ad d)))
 else if k=3∨k=8∨k=5∨k=10∨k=11 then([nx d 4],ad d)
 else if k=4 then([nx d 4,c],ad d)
 else if k=6 then aF cf [nx d 4,nx (ad d) 4,1+nx (ad (ad d)) (60-1+1)] (ad (ad (ad (ad d)))) (1+(nx (ad (ad (ad d))) 2).toNat)
 else if k=7 then XV [nx d 4] (ad (ad d)) (1+(nx (ad d) 2).toNat)
 else([],d)
theorem zH6 (g:Int) (d:Dk):(AL g d).1.length=10:=by
 unfold AL;split
 ·simp[jB]
 ·split<;>simp[jB]
theorem zSv {cf:Cf} (hc:CfW cf) (k c:Int) (h0:0<=c/\c<=10) (hk:1<=k/\k<=12) (d:Dk):rem (zDx cf k c d).2<=rem d/\RA (zDx cf k c d).1/\∃n:Nat,n<=2/\(uP k≠0->1<=n)/\(zDx cf k c d).1.length=jK k+n*uP k:=by
 have r1:=wM d;have r2:=wM (ad d);have r3:=wM (ad (ad d));have r4:=wM (ad (ad (ad d)));have w1:=yF d 4 zB;have w2:=yF (ad d) 4 zB;have w3:=yF (ad (ad d)) (60-1+1) zB;have w4:=yF (ad (ad (ad d))) 2 zB;have w5:=yF (ad d) 2 zB;have w6:=yF (ad d) 5 zB;have g1:0<=zDv (nx d 5)/\zDv (nx d 5)<=64:=by unfold zDv;repeat' split;all_goals omega
 have g2:0<=zDw (nx (ad (ad d)) 4)/\zDw (nx (ad (ad d)) 4)<=700:=by unfold zDw;repeat' split;all_goals omega
 unfold zDx;split
 ·rename_i h;subst h;exact⟨by dsimp only;omega,.cons zB (.cons zB (.cons zB .nil)),0,zB,λh=>absurd rfl h,rfl⟩
 split
 ·rename_i h
  refine⟨by dsimp only;omega,.cons zB .nil,0,zB,λh2=>?_,?_⟩<;>rcases h with rfl|rfl|rfl|rfl|rfl
  all_goals first|rfl|exact absurd rfl h2
 split
 ·rename_i h;subst h;exact⟨by dsimp only;omega,.cons zB (.cons zB .nil),0,zB,λh=>absurd rfl h,rfl⟩
 split
 ·rename_i h;subst h;obtain⟨p1,p2,p3⟩:=AK hc [nx d 4,nx (ad d) 4,1+nx (ad (ad d)) (60-1+1)] (.cons zB (.cons zB (.cons zB .nil))) (ad (ad (ad (ad d)))) (1+(nx (ad (ad (ad d))) 2).toNat);exact⟨zB,p3,_,zB,λ_=>by omega,p1⟩
 split
 ·rename_i h;subst h;obtain⟨p1,p2,p3⟩:=AM [nx d 4] (.cons zB .nil) (ad (ad d)) (1+(nx (ad d) 2).toNat);exact⟨zB,p3,_,zB,λ_=>by omega,p1⟩
 ·rename_i h1 h2 h3 h4 h5;have:k=1∨k=9∨k=12:=by omega
  refine⟨zX6 _,.nil,0,zB,λh2=>?_,?_⟩<;>rcases this with rfl|rfl|rfl
  all_goals first|rfl|exact absurd rfl h2
structure MgP (m:Ms):Prop where
 t:BY m.tok
 l:m.tok.length=10
 k:1<=m.kind/\m.kind<=12
 n:RA m.args
 c:∃n:Nat,n<=2/\(uP m.kind≠0->1<=n)/\m.args.length=jK m.kind+n*uP m.kind
 d:m.data=[]
def qcl (cm:Bool) (d:Dk):Int×Dk:=if cm=true then(nx (ad d) 2,ad (ad d))else(nx d 4,ad d)
theorem zWb (cm:Bool) (d:Dk):(0<=(qcl cm d).1/\(qcl cm d).1<=10)/\rem (qcl cm d).2<=rem d:=by
 have r1:=wM d;have r2:=wM (ad d);have w1:=yF d 4 zB;have w2:=yF (ad d) 2 zB;unfold qcl
 split<;>(refine⟨?_,?_⟩<;>dsimp only<;>omega)
theorem TY (c:Cf) (hc:CfW c) (g:Int) (hg:0<=g/\g<256) (cm:Bool) (d:Dk):∃(m:Ms) (d':Dk),MgP m/\rem d'<=rem d/\zN 48 [.ptr 1000 0 0,wP c,iA g,bA cm] [(1000,dU d)] (yE m) [(1000,dU d')]:=by
 have c1:=yH d 12 zB zB;have b1:=yF d 12 zB;have r1:=wM d;have cs0:=dF (1000+g);have cb0:=ZC g 0 (dS (1000+g)) (by rw[jB];omega) hg.1 hg.2 zB zB;generalize hx:nx d 12=x at *;generalize ad d=d1 at *;have hT:=zSs g hg d1;have hTl:=zH6 g d1;generalize hTe:AL g d1=v at *;obtain⟨tk0,d2⟩:=v;dsimp only at hT hTl;have hK:=zSu (1+x) zB d2;generalize hKe:zDu (1+x) d2=v at *;obtain⟨k,d3⟩:=v;dsimp only at hK;have hC:=zWb cm d3;generalize hCe:qcl cm d3=v at *;obtain⟨cl,d4⟩:=v;dsimp only at hC;have hA:=zSv hc k cl hC.1 hK.1 d4;generalize hAe:zDx c k cl d4=v at *;obtain⟨args,d5⟩:=v;dsimp only at hA;refine⟨⟨k,tk0,args,[]⟩,d5,⟨hT.1,hTl,hK.1,hA.2.1,hA.2.2,rfl⟩,by have:=hT.2;have:=hK.2;have:=hC.2;have:=hA.1;omega,?_⟩;clear hTl;have n9:=yH d1 9 zB zB;have cqf:=zM3 c hc;unfold wP at *;rw[show zD wH c.js= .sl false (c.js.map wH)from rfl,show zD vC c.ags= .sl false (c.ags.map vC)from rfl]at *; generalize c.js.map wH=JS at *;generalize c.ags.map vC=AGS at *;refine eM call48 λF hF=>?_
 (have zc1:=c1;have zc2:=n9;have zc3:=cs0;have zc4:=cb0;(repeat' (first|refine WZB ?_|refine xO (λhc=>?_) (λhc=>?_)|refine wB (λhc=>?_)|(refine zE ?_;first|refine SM ?_)|fail))<;>clear zc1 zc2 zc3 zc4)
 refine UJ [1000,5,8,9] [0,2,3,5,8,9] ⟨[(0,.ptr 1000 0 0),(2,iA g),(3,bA cm),(5,.ptr 5 0 0),(8,.ptr 8 0 0),(9,.ptr 9 0 0)],[(1000,dU d2),(5,.box [.sl false JS,.sl false AGS,iA c.per,iA c.cap,iA c.hold,iA c.lock]),(8,.box [iA 0,.s (.slice none 0 0),.s (.slice none 0 0),.s (.slice none 0 0)]),(9,.box [iA (1+x),zD yA tk0,.s (.slice none 0 0),.s (.slice none 0 0)])]⟩ rfl ?_ ?_
 ·unfold AL at hTe;by_cases h7:nx d1 9=7
  ·rw[zX1 h7]at hTe;cases hTe;have n1:=yH (ad d1) 4 zB zB;have n2:=yH (ad (ad d1)) 3 zB zB;have w1:=yF (ad d1) 4 zB;have w2:=yF (ad (ad d1)) 3 zB;have cs:=dF (2000+10*g+nx (ad (ad d1)) 3);have cb:=ZC g (nx (ad d1) 4) (dS (2000+10*g+nx (ad (ad d1)) 3)) (by rw[jB];omega) hg.1 hg.2 zB zB;clear hT hKe;refine yQ (aB n1 n2 cs cb) ?_;exact⟨rfl,rfl⟩
  rw[zX0 h7]at hTe;by_cases h8:nx d1 9=8
  ·rw[zX1 h8]at hTe;cases hTe;have n1:=yH (ad d1) 3 zB zB;have n2:=yH (ad (ad d1)) 3 zB zB;have w1:=yF (ad d1) 3 zB;have w2:=yF (ad (ad d1)) 3 zB;have cs:=dF (1000+nx (ad (ad d1)) 3);have cb:=ZC (nx (ad d1) 3) 0 (dS (1000+nx (ad (ad d1)) 3)) (by rw[jB];omega) zB zB zB zB;clear hT hKe;refine yQ (aB n1 n2 cs cb) ?_;exact⟨rfl,rfl⟩
  ·rw[zX0 h8]at hTe;cases hTe;clear hT hKe;refine WW ?_;exact⟨rfl,rfl⟩
 clear hTe n9 c1 cs0 cb0;have n2:=yH d2 2 zB zB
 (have zc1:=n2;(repeat' (first|refine WZB ?_|refine xO (λhc=>?_) (λhc=>?_)|refine wB (λhc=>?_)|(refine zE ?_;first|refine SM ?_)|fail))<;>clear zc1)
 refine UJ [1000,5,8,9] [0,2,3,5,8,9] ⟨[(0,.ptr 1000 0 0),(2,iA g),(3,bA cm),(5,.ptr 5 0 0),(8,.ptr 8 0 0),(9,.ptr 9 0 0)],[(1000,dU d3),(5,.box [.sl false JS,.sl false AGS,iA c.per,iA c.cap,iA c.hold,iA c.lock]),(8,.box [iA 0,.s (.slice none 0 0),.s (.slice none 0 0),.s (.slice none 0 0)]),(9,.box [iA k,zD yA tk0,.s (.slice none 0 0),.s (.slice none 0 0)])]⟩ rfl ?_ ?_
 ·unfold zDu at hKe;have n3:=yH (ad d2) 4 zB zB;have w3:=yF (ad d2) 4 zB;have hy:=zM4 _ w3;have hl4:([AV.s (.int .i64 6),AV.s (.int .i64 4),AV.s (.int .i64 6),AV.s (.int .i64 7)]:List AV).length=4:=rfl;clear hAe hCe hK;by_cases h0:nx d2 2=0
  ·rw[zX1 h0]at hKe;cases hKe;refine zU n3 (I2 (λhc=>?_) (λhc=>?_))
   all_goals first|(exfalso;omega;done)|exact⟨rfl,rfl⟩
  ·rw[zX0 h0]at hKe;cases hKe;refine zU n3 (I2 (λhc=>?_) (λhc=>?_))
   all_goals first|(exfalso;omega;done)|exact⟨rfl,rfl⟩
 clear hKe n2;have c3:=yH d3 4 zB zB
 (have zc1:=c3;(repeat' (first|refine WZB ?_|refine xO (λhc=>?_) (λhc=>?_)|refine wB (λhc=>?_)|(refine zE ?_;first|refine SM ?_)|fail))<;>clear zc1)
 refine UJ [1000,5,8,9] [0,2,3,5,8,9,10] ⟨[(0,.ptr 1000 0 0),(2,iA g),(3,bA cm),(5,.ptr 5 0 0),(8,.ptr 8 0 0),(9,.ptr 9 0 0),(10,iA cl)],[(1000,dU d4),(5,.box [.sl false JS,.sl false AGS,iA c.per,iA c.cap,iA c.hold,iA c.lock]),(8,.box [iA 0,.s (.slice none 0 0),.s (.slice none 0 0),.s (.slice none 0 0)]),(9,.box [iA k,zD yA tk0,.s (.slice none 0 0),.s (.slice none 0 0)])]⟩ rfl ?_ ?_
 ·unfold qcl at hCe;clear hAe;have n2:=yH (ad d3) 2 zB zB
  cases cm with
  |true=>
   rw[zX1 rfl]at hCe;cases hCe;refine zU n2 ?_;exact⟨rfl,rfl⟩
  |false=>
   rw[zX0 zYk]at hCe;cases hCe;refine WW ?_;exact⟨rfl,rfl⟩
 clear hCe c3
 (repeat' (first|refine WZC ?_|refine xO (λhc=>?_) (λhc=>?_)|refine wB (λhc=>?_)|(refine zE ?_;first|refine SM ?_)|fail))
 have b4:=yF d4 4 zB;unfold zDx at hAe;by_cases k2:k=2
 ·rw[zX1 k2]at hAe;cases hAe;have n1:=yH d4 5 zB zB;have n2:=yH (ad d4) 5 zB zB;have n3:=yH (ad (ad d4)) 4 zB zB;have w1:=yF d4 5 zB;have w3:=yF (ad (ad d4)) 4 zB;have h1:=zM5 _ w1;have h3:=zM6 _ w3;have hl5:([AV.s (.int .i64 63),AV.s (.int .i64 1),AV.s (.int .i64 3),AV.s (.int .i64 47),AV.s (.int .i64 64)]:List AV).length=5:=rfl;have hl4:([AV.s (.int .i64 0),AV.s (.int .i64 5),AV.s (.int .i64 30),AV.s (.int .i64 700)]:List AV).length=4:=rfl;generalize zDv (nx d4 5)=y1 at *;generalize zDw (nx (ad (ad d4)) 4)=y3 at *;clear hA hK hC hT;refine yQ (fB n1 n2 n3) ?_;exact zI [1000] rfl rfl rfl rfl
 rw[zX0 k2]at hAe;by_cases k3:k=3∨k=8∨k=5∨k=10∨k=11
 ·rw[zX1 k3]at hAe;cases hAe;have n1:=yH d4 4 zB zB;clear hA hK hC hT
  rcases k3 with h|h|h|h|h<;>((refine zU n1 ?_);exact zI [1000] rfl rfl rfl rfl)
 rw[zX0 k3]at hAe;by_cases k4:k=4
 ·rw[zX1 k4]at hAe;cases hAe;have n1:=yH d4 4 zB zB;clear hA hK hC hT;refine zU n1 ?_;exact zI [1000] rfl rfl rfl rfl
 rw[zX0 k4]at hAe;by_cases k6:k=6
 ·rw[zX1 k6]at hAe;have n1:=yH d4 4 zB zB;have n2:=yH (ad d4) 4 zB zB;have n3:=kU (ad (ad d4)) 1 60 zB zB zB;have w1:=yF d4 4 zB;have w2:=yF (ad d4) 4 zB;have w3:=yF (ad (ad d4)) (60-1+1) zB;have cq:=cqf [nx d4 4,nx (ad d4) 4,1+nx (ad (ad d4)) (60-1+1)] zS (.cons zB (.cons zB (.cons zB .nil))) (ad (ad (ad d4)));rw[hAe]at cq;clear cqf;clear hA hK hC hT hAe;generalize 1+nx (ad (ad d4)) (60-1+1)=x3 at *;generalize nx (ad d4) 4=x2 at *;generalize nx d4 4=x1 at *;refine yQ (aB n1 n2 n3 cq) ?_;exact zI [1000] rfl rfl (zY0 (λz=>AV.agg [iA k,zD yA tk0,.sl false z,zD yA []]) (zX7 (l:=args.map iA))) rfl
 rw[zX0 k6]at hAe;by_cases k7:k=7
 ·rw[zX1 k7]at hAe;have n1:=yH d4 4 zB zB;have n2:=yH (ad d4) 2 zB zB;have w2:=yF (ad d4) 2 zB;have w1:=yF d4 4 zB;have hnx:RA [nx d4 4]:= .cons zB .nil;clear w1;clear hA hK hC hT;generalize nx d4 4=x1 at *;generalize nx (ad d4) 2=n at *;generalize ad d4=e4 at *;generalize ad e4=e5 at *;obtain⟨N,hN⟩:∃N:Nat,1+n.toNat=N:=⟨_,rfl⟩;have hN2:1+n=(N:Int):=by omega
  rw[hN]at hAe;refine yQ (wZ n1 n2) ?_;refine uL 114 rfl ?_;refine zP (N) [9,1000,114,8] [8] [0,8,9] [11,0,8,9] rfl (λi T U=>⟨(11,iA ((N:Int)-i))::T,(9,.box [iA k,zD yA tk0,.ref 114 0 ((XV [x1] e5 i).1.map iA).length,.s (.slice none 0 0)])::(1000,dU (XV [x1] e5 i).2)::(114,.arr 1 ((XV [x1] e5 i).1.map iA) true)::U⟩) ?_;(conv=>whnf);refine⟨by(rw[show(N:Int)-(0:Nat)=1+n by omega];rfl),?_,?_⟩
  ·intro i hi;have hl:=(AM [x1] hnx e5 i).1;have eS:XV [x1] e5 (i+1)=ED (XV [x1] e5 i).1 (XV [x1] e5 i).2:=rfl;unfold ED at eS;rw[show((N:Int)-((i+1:Nat):Int))=(N:Int)-i-1 by omega];generalize (XV [x1] e5 i).1=p at *;generalize (XV [x1] e5 i).2=e at *;have hk1:1<=(N:Int)-i:=by omega
   have hk2:(N:Int)-i<=10:=by omega
   have hp:p.length<=100:=by simp at hl;omega
   generalize (N:Int)-i=q at *;have n1:=yH e 3 zB zB;have n2:=yH (ad e) 40 zB zB;have w1:=yF e 3 zB;have w2:=yF (ad e) 40 zB;generalize nx (ad e) 40=y2 at *;generalize nx e 3=y1 at *;generalize ad e=e1 at *;generalize ad e1=e2 at *;rw[eS];refine yQ (wZ n1 n2) ?_
   show restr _ _ _=_
   rw[zYc];rfl
  ·rw[show(N:Int)-(N:Int)=0 by omega,hAe];refine WW ?_;exact zI [1000] rfl rfl (zY0 (λz=>AV.agg [iA k,zD yA tk0,.sl false z,zD yA []]) (zX7 (l:=args.map iA))) rfl
 ·rw[zX0 k7]at hAe;cases hAe;clear hA hK hC hT;refine WW ?_;exact zI [1000] rfl rfl rfl rfl
section
variable (c:Cf) (d:xQ) (s now:Int) (tk0:List Int) (sl:Int)
theorem zH7:yR [wP c,zK d,iA s,yE ⟨1,tk0,[],[]⟩,iA sl,iA now] [] (hT d (PS d now) (-1) 0) []:=yG
theorem zSw (k:Int) (ar:List Int) (a:Int) (ar1:List Int) (har:ar=a::ar1) (hk:k=2∨k=3∨k=4∨k=5) (d':xQ) (p:Ms) (e:Int) (k4:yR [zK d,yE ⟨k,tk0,ar,[]⟩,iA sl,iA now] [] (.tup [zK d',yE p,iA e]) []):
 yR [wP c,zK d,iA s,yE ⟨k,tk0,ar,[]⟩,iA sl,iA now] [] (hT d' p (-1) e) []:=yG
theorem zH8 (ar:List Int) (a:Int) (ar1:List Int) (har:ar=a::ar1) (h0:0<=sl) (h1:sl<(d.rg.tk.length:Int)) (d':xQ) (e:Int) (k4:yR [wP c,zK d,yE ⟨6,tk0,ar,[]⟩,iA (d.rg.tk.getD sl.toNat default).cls,iA now] [] (.tup [zK d',iA e]) []):
 yR [wP c,zK d,iA s,yE ⟨6,tk0,ar,[]⟩,iA sl,iA now] [] (hT d' (gD 6 a) (-1) e) []:=yG
theorem zH9 (ar:List Int) (a:Int) (ar1:List Int) (har:ar=a::ar1) (d':xQ) (e:Int) (k4:yR [zK d,yE ⟨7,tk0,ar,[]⟩,iA now] [] (.tup [zK d',iA e]) []):
 yR [wP c,zK d,iA s,yE ⟨7,tk0,ar,[]⟩,iA sl,iA now] [] (hT d' (gD 7 a) (-1) e) []:=yG
theorem zSx (a:Int) (l:List Rq) (e:Int) (k4:yR [zD yK d.rq,iA a] [] (.tup [zD yK l,iA e]) []):
 yR [wP c,zK d,iA s,yE ⟨8,tk0,[a],[]⟩,iA sl,iA now] [] (hT (dkQ d (if e=0 then l else d.rq)) (gD 8 a) (-1) e) []:=yG
theorem zM7 (k4:yR [zK d] [] (yE (aA d)) []):yR [wP c,zK d,iA s,yE ⟨12,tk0,[],[]⟩,iA sl,iA now] [] (hT d (aA d) (-1) 0) []:=yG
theorem zM8 (a:Int) (ha:(c.js.length:Int)<=a):yR [wP c,zK d,iA s,yE ⟨11,tk0,[a],[]⟩,iA sl,iA now] [] (hT d (gD 11 a) (-1) 8) []:=yG
theorem zM9 (a:Int) (ha:a<(c.js.length:Int)):yR [wP c,zK d,iA s,yE ⟨11,tk0,[a],[]⟩,iA sl,iA now] [] (hT d (gD 11 a) a 0) []:=yG
theorem zNa (a:Int) (ha:1<a):yR [wP c,zK d,iA s,yE ⟨10,tk0,[a],[]⟩,iA sl,iA now] [] (hT d (gD 10 a) (-1) 8) []:=yG
theorem zNb (a:Int) (ha:a<=1) (hs:¬(0<=s/\s<(d.au.length:Int))):yR [wP c,zK d,iA s,yE ⟨10,tk0,[a],[]⟩,iA sl,iA now] [] (hT d (gD 10 a) (-1) 0) []:=yG
theorem zNc (hb:eE d):yR [wP c,zK d,iA s,yE ⟨9,tk0,[],[]⟩,iA sl,iA now] [] (hT d (PU d) (-1) 0) []:=yG
end
def UY (d:xQ):AV:=wI d.rg (zD yK d.rq) (zD kH d.dr) (.ref 1004 0 (d.au.map bA).length)
def BE (l:List Bool):xN:= .arr 1 (l.map bA) false
def hTO (d:xQ) (p:Ms) (k e:Int):AV:= .tup [UY d,yE p,iA k,iA e]
theorem zIa (l:List Bool) (h1:1<=l.length) (hl:l.length<=1073741824):zN 154 [zD bA l] [] (.ref 1004 0 (l.map bA).length) [(1004,BE l)]:=by
 have hll:=zA bA l;unfold BE;refine eM call154 λF hF=>?_
 refine xA 0 rfl (λcap hx=>?_) ?_
 ·have:l=[]:=by simpa using hx
  subst this;simp at h1
 ·repeat' (first|(refine zE ?_;first|refine vN tok rfl rfl ?_|(refine wW ?_;refine xI (yX tok (.inl ⟨rfl,rfl⟩) rfl rfl rfl rfl) rfl ?_)|(refine yS ?_;refine uN (nw:=[1004]) (yL tok 1004 (xs:=[]) rfl rfl rfl rfl rfl rfl rfl rfl rfl) rfl rfl rfl ?_)|(refine yV ?_;refine wO tok rfl rfl rfl rfl rfl rfl rfl (xT _ _ (λ_=>rfl)) rfl rfl rfl zB rfl ?_)|refine qF ?_)|(first|refine xS ?_|refine xD ?_|refine vD rfl ?_|refine zX rfl ?_|refine zQ rfl ?_|refine xK rfl (λhc=>?_) (λhc=>?_)|refine yY ?_|refine yU ?_|refine xE ?_|refine yT ?_))
  exact zL [1004] rfl rfl rfl rfl
theorem PM (d:xQ) (hb:eE d) (h1:1<=d.au.length):zN 102 [zK d] [] (UY d) [(1004,BE d.au)]:=by
 have k1:=JT d.rg hb.rg;have hq:=hb.q;have hdn:=hb.n;have hau:=hb.a;have k2:=XY d.rq zB;have k3:=PP d.dr zB;have k4:=zIa d.au h1 zB;have hlq:=zA yK d.rq;have hld:=zA kH d.dr;unfold UY zK wI;unfold BE at *;unfold uX at k1;refine eM call102 λF hF=>?_
 refine yQ (wZ k1 k2) ?_;refine zP ((d.rq.map yK).length) [1001,1,2] [1,2] [1,2,15] [16,1,2,15] rfl (λi T U=>⟨(16,iA i)::T,(1001,.arr 5 (kY i (d.rq.map yK)) false)::U⟩) ?_;(conv=>whnf);refine⟨by rfl,?_,?_⟩
 ·intro i hi;have hi':i<d.rq.length:=by omega
  have hy:(kY i (d.rq.map yK))[i]? =some (yK (d.rq.getD i default)):=zM yK d.rq i hi';have e:=kO yK d.rq i hi';have c2:=cU (d.rq.getD i default).legs (hb.g (d.rq.getD i default) aI);generalize (d.rq.getD i default)=t at *;generalize kY i (d.rq.map yK)=xs at *;generalize kY (i+1) (d.rq.map yK)=ys at *;subst e;refine zU c2 ?_;rfl
 ·(refine zU k3 ?_)
  refine zP ((d.dr.map kH).length) [1002,1,2,1001] [1,2,1001] [1,2,38] [39,1,2,38] rfl (λi T U=>⟨(39,iA i)::T,(1002,.arr 1 (kY i (d.dr.map kH)) false)::U⟩) ?_;(conv=>whnf);refine⟨by rfl,?_,?_⟩
  ·intro i hi;have hi':i<d.dr.length:=by omega
   have hy:(kY i (d.dr.map kH))[i]? =some (kH (d.dr.getD i default)):=zM kH d.dr i hi';have e:=kO kH d.dr i hi';have c2:=vB (d.dr.getD i default) (by have:=hb.e (d.dr.getD i default) aI;omega);generalize (d.dr.getD i default)=t at *;generalize kY i (d.dr.map kH)=xs at *;generalize kY (i+1) (d.dr.map kH)=ys at *;subst e;refine zU c2 ?_;rfl
  ·(refine zU k4 ?_)
   refine zI [1004] rfl rfl ?_ rfl
   show wI d.rg (.sl false ((d.rq.map yK).take (d.rq.map yK).length)) (.sl false ((d.dr.map kH).take (d.dr.map kH).length)) (.ref 1004 0 (d.au.map bA).length)=_
   rw[zX7,zX7];rfl
theorem AN (d:xQ) (hb:eE d):yR [zK d] [] (UY d) [(1004,BE d.au)]:=yG
theorem zNd (c:Cf) (d:xQ) (s now:Int) (pa tk0:List Int) (a:Int) (h0:0<=a) (h1:a<=1) (k2:zN 80 [iA 10,zD yA pa] [] (.tup [yE ⟨10,tk0,[a],[]⟩,iA 0]) []) (r:Rg) (sl:Int)
  (k3:zN 213 [uX d.rg,yE ⟨10,tk0,[a],[]⟩,iA now] [] (.tup [uX r,iA sl,iA 0]) []) (hs:0<=s/\s<(d.au.length:Int)):
  zN 192 [wP c,UY d,iA s,vE ⟨0,10,pa⟩,iA now] [(1004,BE d.au)] (hTO ⟨r,d.rq,d.dr,d.au.set s.toNat (a==1)⟩ (gD 10 a) (-1) 0) [(1004,BE (d.au.set s.toNat (a==1)))]:=by
 have k1:=fS 10;have k5:=JZ 10 a;have hla:=zA bA d.au;have hya:=zM bA d.au s.toNat zB;unfold gD yE at k5;rw[show yE ⟨10,tk0,[a],[]⟩= .agg [iA 10,zD yA tk0,.sl false [iA a],.sl false []]from rfl]at k2 k3;unfold uX at k3;have hls:(d.au.set s.toNat (a==1)).map bA=(d.au.map bA).set s.toNat (bA (a==1)):=zZ9;unfold wP hTO UY wI vE gD yE BE;dsimp only;rw[hls,zZm];generalize d.au.getD s.toNat default=b0 at *;generalize d.au.map bA=xs at*
 obtain rfl|rfl:a=0∨a=1:=by omega
 all_goals
  refine eM call192 λF hF=>?_
  refine LO (aB k1 k2 k3 k5) ?_;exact zI [1004] rfl rfl rfl rfl
theorem zNe (c:Cf) (d:xQ) (s now:Int) (tk0:List Int) (sl:Int) (a:Int) (h0:0<=a) (h1:a<=1) (hs:0<=s/\s<(d.au.length:Int)):
 yR [wP c,UY d,iA s,yE ⟨10,tk0,[a],[]⟩,iA sl,iA now] [(1004,BE d.au)] (hTO ⟨d.rg,d.rq,d.dr,d.au.set s.toNat (a==1)⟩ (gD 10 a) (-1) 0) [(1004,BE (d.au.set s.toNat (a==1)))]:=yG
end Av
end Go.Proofs.YtmamjhmoegjapaaGreat
