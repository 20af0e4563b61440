/- Part 20. -/
import Derived.Test.YtmamjhmoegjapaaGreatQ19
namespace Go.Proofs.YtmamjhmoegjapaaGreat
namespace Av
open Tryz
set_option linter.all false
set_option maxRecDepth 4000
set_option maxHeartbeats 4000000
theorem zF9 (l:List Rq) (now:Int) (hv:aC l):zN 159 [zD yK l,iA now] [] (zD yK (mkQ l now)) []:=by
 have h4:=hv.n4;have hb:∀r∈l,1<=r.legs.length/\r.legs.length<=1000:=λr hr=>by have:=hv.lg3 hr;omega
 match l,h4,hb with
 | [],_,_=>
  have kc:=WX;refine eM call159 λF hF=>?_
  refine zU kc ?_;refine uK 1 [] [13,11,12,1,5] rfl ?_;refine xB (st0:=⟨[(13,iA 0),(11,.s (.slice none 0 0)),(12,iA 0),(1,iA now),(5,.s (.slice none 0 0))],[]⟩) rfl ?_;refine WW ?_;exact zK
 | [a],_,hb=>exact zMj a (hb a zS).1 (hb a zS).2 now
 | [a,b],_,hb=>exact zMk a b (hb a zS).1 (hb a zS).2 (hb b zS).1 (hb b zS).2 now
 | [a,b,c],_,hb=>exact zMl a b c (hb a zS).1 (hb a zS).2 (hb b zS).1 (hb b zS).2 (hb c zS).1 (hb c zS).2 now
 | [a,b,c,d],_,hb=>exact zMm a b c d (hb a zS).1 (hb a zS).2 (hb b zS).1 (hb b zS).2 (hb c zS).1 (hb c zS).2 (hb d zS).1 (hb d zS).2 now
 |_::_::_::_::_::_,h,_=>simp at h
theorem zGa (g:Lg) (now:Int) (n0:0<=now) (n1:now<=1073741824):(aV g now).jn=g.jn/\(aV g now).ph=g.ph/\(KY g=true->KY (aV g now)=true):=by
 unfold aV;split
 ·split
  ·refine⟨rfl,rfl,λh=>?_⟩;unfold KY at *;rw[zXi]at *; dsimp only;omega
  ·exact⟨rfl,rfl,id⟩
 ·refine⟨rfl,rfl,λh=>?_⟩;unfold KY at *;rw[zXi]at *; dsimp only;omega
theorem zA3 {now:Int} (n0:0<=now) (n1:now<=1073741824):∀(gs pre pre':List Lg),pre'.map (·.jn)=pre.map (·.jn)->fQ pre gs=true->fQ pre' (gs.map λg=>aV g now)=true
 | [],_,_,_,_=>rfl
 |x::post,pre,pre',hp,h=>by
  obtain⟨e1,_,e3⟩:=zGa x now n0 n1;have ha:∀(l:List Lg),(l.any λy=>y.jn==x.jn)=(l.map (·.jn)).any λn=>n==x.jn:=λl=>by rw[List.any_map];rfl
  rw[fQ,zXo,zXo]at h;rw[zYi,fQ,e3 h.1,e1,ha,hp,<-ha,h.2.1,zX1,zX1];exact zA3 n0 n1 post (pre++[x]) (pre'++[aV x now]) (by rw[zXf,zXf,hp];simp[e1]) h.2.2
theorem zU8 {l:List Rq} (hv:aC l) (now:Int) (n0:0<=now) (n1:now<=1073741824):aC (mkQ l now):=by
 refine⟨λr hr=>?_,?_,by unfold mkQ;rw[zXa];exact hv.n4⟩
 ·obtain⟨x,hx,rfl⟩:=zYo.1 hr;have h:=hv.ok x hx;refine⟨h.i0,h.i1,h.v0,h.v1,h.c0,h.c1,h.t0,h.t1,?_⟩;have h1:=h.lg;rw[vgF,zXo]at h1;unfold vgF mkR;dsimp only;rw[zXo,zXa];exact⟨h1.1,zA3 n0 n1 x.legs [] [] rfl h1.2⟩
 ·unfold mkQ;rw[List.pairwise_map];exact hv.so
def prA (p:Int×Int):AV:= .agg [iA p.1,iA p.2]
def uY (n:Int):List (Int×Int):=if n=0 then [(0,0),(0,0)]else if n=1 then [(0,0),(1,0),(0,1),(1,1)]else if n=2 then [(0,0),(1,0),(0,0)]
 else if n=3 then [(0,0),(0,0),(1,0),(1,0),(0,1),(0,1),(1,1),(1,1)]else if n=4 then [(1,0),(0,1),(0,2)]else [(0,0)]
theorem zGb (n:Int):zN 87 [iA n] [] (zD prA (uY n)) []:=by
 by_cases h0:n=0
 ·subst h0;refine eM call87 λF hF=>?_
  (repeat' (first|refine ZV ?_|refine xQ (λhc=>?_) (λhc=>?_)|fail))
  exact zK
 by_cases h1:n=1
 ·subst h1;refine eM call87 λF hF=>?_
  (repeat' (first|refine ZV ?_|refine xQ (λhc=>?_) (λhc=>?_)|fail))
  exact zK
 by_cases h2:n=2
 ·subst h2;refine eM call87 λF hF=>?_
  (repeat' (first|refine ZV ?_|refine xQ (λhc=>?_) (λhc=>?_)|fail))
  exact zK
 by_cases h3:n=3
 ·subst h3;refine eM call87 λF hF=>?_
  (repeat' (first|refine ZV ?_|refine xQ (λhc=>?_) (λhc=>?_)|fail))
  exact zK
 by_cases h4:n=4
 ·subst h4;refine eM call87 λF hF=>?_
  (repeat' (first|refine ZV ?_|refine xQ (λhc=>?_) (λhc=>?_)|fail))
  exact zK
 rw[show uY n=[(0,0)] by simp[uY,h0,h1,h2,h3,h4]];refine eM call87 λF hF=>?_
 (repeat' (first|refine ZV ?_|refine xQ (λhc=>?_) (λhc=>?_)|fail))
 exact zK
instance:Inhabited (Int×Int):=⟨(0,0)⟩
def VX (d:Dk) (s:Int×Int):Ph:=
 if nx (ad (ad (ad d))) 3=2 then⟨s.1,s.2,1+nx d (3-1+1),max (1+nx d (3-1+1)) (1+nx (ad (ad (ad (ad d)))) (2-1+1)+(1+nx (ad (ad (ad (ad (ad d))))) (2-1+1)))+nx (ad (ad (ad (ad (ad (ad d)))))) 4,1+nx (ad d) (2-1+1),nx (ad (ad d)) 3,1+nx (ad (ad (ad (ad d)))) (2-1+1),1+nx (ad (ad (ad (ad (ad d))))) (2-1+1)⟩
 else⟨s.1,s.2,1+nx d (3-1+1),max (1+nx d (3-1+1)) (0+0)+nx (ad (ad (ad (ad d)))) 4,1+nx (ad d) (2-1+1),nx (ad (ad d)) 3,0,0⟩
def phD (d:Dk):Dk:=if nx (ad (ad (ad d))) 3=2 then ad (ad (ad (ad (ad (ad (ad d))))))else ad (ad (ad (ad (ad d))))
def MF (d:Dk) (l:List (Int×Int)):Nat->List Ph×Dk
 |0=>([],d)
 |i+1=>((MF d l i).1++[VX (MF d l i).2 (l.getD i default)],phD (MF d l i).2)
theorem WJ (d:Dk) (l:List (Int×Int)):∀i,(MF d l i).1.length=i
 |0=>rfl
 |i+1=>by simp[MF,WJ d l i]
def cnd (ps:List Ph) (ex:Bool) (i k:Nat):Bool:=i != k&&((ps.getD i default).ring==(ps.getD k default).ring||(ps.getD i default).group != (ps.getD k default).group||ex&&((i:Int)+k).tmod 2==1)
def YD (ps:List Ph) (ex:Bool) (i:Nat):Nat->Int
 |0=>0
 |k+1=>if cnd ps ex i k=true then YD ps ex i k+2 ^ k else YD ps ex i k
theorem SZ (ps:List Ph) (ex:Bool) (i:Nat):∀k,0<=YD ps ex i k/\YD ps ex i k<2 ^ k
 |0=>by simp[YD]
 |k+1=>by
  have:=SZ ps ex i k;have e:(2:Int) ^ (k+1)=2 ^ k*2:=yCh 2 k;unfold YD
  split<;>omega
def gB (ps:List Ph) (ex:Bool) (n:Nat):List Int:=(List.range n).map λi=>YD ps ex i ps.length
def YY (d:Dk):List Ph×Dk:=MF (ad (ad d)) (uY (nx d 6)) (uY (nx d 6)).length
def jnF (d:Dk):Jn:=⟨(YY d).1,gB (YY d).1 (nx (YY d).2 4==3) (YY d).1.length,nx (ad d) 3⟩
def jnD (d:Dk):Dk:=ad (YY d).2
theorem QF (n:Int):1<=(uY n).length/\(uY n).length<=8:=by
 unfold uY
 (repeat' split)<;>simp
theorem zWq (k:Nat) (h:k<8):IntKind.i64.wrap (1*2 ^ (min ((k:Int)).toNat IntKind.i64.bits))=2 ^ k/\(2:Int) ^ k<=128:=by
 obtain rfl|rfl|rfl|rfl|rfl|rfl|rfl|rfl:k=0∨k=1∨k=2∨k=3∨k=4∨k=5∨k=6∨k=7:=by omega
 all_goals decide
theorem BB (d:Dk):zN 38 [.ptr 1000 0 0] [(1000,dX d)] (wP (jnF d)) [(1000,dX (jnD d))]:=by
 have hb:=yE d 6 zB;have hsl:=QF (nx d 6);have sc:=zGb (nx d 6);have ej:jnF d=⟨(YY d).1,gB (YY d).1 (nx (YY d).2 4==3) (YY d).1.length,nx (ad d) 3⟩:=rfl;have ed:jnD d=ad (YY d).2:=rfl;have ep:YY d=MF (ad (ad d)) (uY (nx d 6)) (uY (nx d 6)).length:=rfl;rw[ej,ed];generalize YY d=jp at *;generalize uY (nx d 6)=l at *;have hll:(l.map prA).length=l.length:=by simp
 refine eM call38 λF hF=>?_
 (repeat' (first|refine ZV ?_|refine xQ (λhc=>?_) (λhc=>?_)|(refine zE ?_;refine wB ?_;(first|(refine uI 87 ?_;first|refine xK (zI (sc) rfl rfl rfl rfl rfl) rfl ?_|refine uG (zI (sc) rfl rfl rfl rfl rfl) rfl rfl rfl ?_|refine aD (zI (sc) rfl rfl rfl rfl rfl) rfl rfl rfl ?_)|(refine uI 22 ?_;first|refine xK (zI (yI _ _ zB zB) rfl rfl rfl rfl rfl) rfl ?_|refine uG (zI (yI _ _ zB zB) rfl rfl rfl rfl rfl) rfl rfl rfl ?_|refine aD (zI (yI _ _ zB zB) rfl rfl rfl rfl rfl) rfl rfl rfl ?_)))|fail))
 refine vT 4 0 1001 8 rfl rfl rfl rfl rfl ?_
 refine wV (λn st=>∃i:Nat,n+i=l.length/\st=⟨[(0,.ptr 1000 0 0),(2,.ptr 2 0 0),(4,.ptr 4 0 0),(20,zD prA l),(21,iA l.length),(22,iA i)],
   [(1000,dX (MF (ad (ad d)) l i).2),(2,.box [.s (.slice none 0 0),.s (.slice none 0 0),iA 0]),(4,.box [.ref 1001 0 ((MF (ad (ad d)) l i).1.map wY).length,.s (.slice none 0 0),iA (nx (ad d) 3)]),(1001,.arr 8 ((MF (ad (ad d)) l i).1.map wY) true)]⟩)
  l.length [1000,2,4,1001] [0,2,4,20,21,22] rfl ⟨0,rfl,by rw[<-hll];rfl⟩ ?_
 rintro n st ⟨i,hi,rfl⟩;by_cases hlt:i<l.length
 ·have hy:=yM prA l i zB zB;rw[show((i:Int)).toNat=i from rfl]at hy;have hm:(MF (ad (ad d)) l (i+1)).1.map wY=(MF (ad (ad d)) l i).1.map wY++[wY (VX (MF (ad (ad d)) l i).2 (l.getD i default))]:=zXf;have hd:(MF (ad (ad d)) l (i+1)).2=phD (MF (ad (ad d)) l i).2:=rfl;have hle:=WJ (ad (ad d)) l i;generalize l.getD i default=p at *;obtain⟨p1,p2⟩:=p;generalize hq':MF (ad (ad d)) l (i+1)=q' at hm hd;generalize MF (ad (ad d)) l i=q at *;obtain⟨ql,qd⟩:=q;dsimp only at hm hd hle⊢;have b0:=yE qd (3-1+1) zB;have b1:=yE (ad (ad (ad (ad qd)))) 4 zB;have b2:=yE (ad (ad (ad (ad qd)))) (2-1+1) zB;have b3:=yE (ad (ad (ad (ad (ad qd))))) (2-1+1) zB;have b4:=yE (ad (ad (ad (ad (ad (ad qd)))))) 4 zB;by_cases hz:nx (ad (ad (ad qd))) 3=2
  ·rw[show VX qd (p1,p2)=⟨p1,p2,1+nx qd (3-1+1),max (1+nx qd (3-1+1)) (1+nx (ad (ad (ad (ad qd)))) (2-1+1)+(1+nx (ad (ad (ad (ad (ad qd))))) (2-1+1)))+nx (ad (ad (ad (ad (ad (ad qd)))))) 4,1+nx (ad qd) (2-1+1),nx (ad (ad qd)) 3,1+nx (ad (ad (ad (ad qd)))) (2-1+1),1+nx (ad (ad (ad (ad (ad qd))))) (2-1+1)⟩ by unfold VX;rw[zW9 hz]]at hm;rw[show phD qd=ad (ad (ad (ad (ad (ad (ad qd)))))) by unfold phD;rw[zW9 hz]]at hd
   (repeat' (first|refine ZV ?_|refine xQ (λhc=>?_) (λhc=>?_)|(refine zE ?_;refine wB ?_;(first|(refine uI 37 ?_;first|refine xK (zI (kN _ _ _ zB zB zB) rfl rfl rfl rfl rfl) rfl ?_|refine uG (zI (kN _ _ _ zB zB zB) rfl rfl rfl rfl rfl) rfl rfl rfl ?_|refine aD (zI (kN _ _ _ zB zB zB) rfl rfl rfl rfl rfl) rfl rfl rfl ?_)|(refine uI 22 ?_;first|refine xK (zI (yI _ _ zB zB) rfl rfl rfl rfl rfl) rfl ?_|refine uG (zI (yI _ _ zB zB) rfl rfl rfl rfl rfl) rfl rfl rfl ?_|refine aD (zI (yI _ _ zB zB) rfl rfl rfl rfl rfl) rfl rfl rfl ?_)))|fail))
   exact⟨n-1,zB,i+1,zB,by rw[hq',hm,hd];rfl⟩
  ·rw[show VX qd (p1,p2)=⟨p1,p2,1+nx qd (3-1+1),max (1+nx qd (3-1+1)) (0+0)+nx (ad (ad (ad (ad qd)))) 4,1+nx (ad qd) (2-1+1),nx (ad (ad qd)) 3,0,0⟩ by unfold VX;rw[zW8 hz]]at hm;rw[show phD qd=ad (ad (ad (ad (ad qd)))) by unfold phD;rw[zW8 hz]]at hd
   (repeat' (first|refine ZV ?_|refine xQ (λhc=>?_) (λhc=>?_)|(refine zE ?_;refine wB ?_;(first|(refine uI 37 ?_;first|refine xK (zI (kN _ _ _ zB zB zB) rfl rfl rfl rfl rfl) rfl ?_|refine uG (zI (kN _ _ _ zB zB zB) rfl rfl rfl rfl rfl) rfl rfl rfl ?_|refine aD (zI (kN _ _ _ zB zB zB) rfl rfl rfl rfl rfl) rfl rfl rfl ?_)|(refine uI 22 ?_;first|refine xK (zI (yI _ _ zB zB) rfl rfl rfl rfl rfl) rfl ?_|refine uG (zI (yI _ _ zB zB) rfl rfl rfl rfl rfl) rfl rfl rfl ?_|refine aD (zI (yI _ _ zB zB) rfl rfl rfl rfl rfl) rfl rfl rfl ?_)))|fail))
   exact⟨n-1,zB,i+1,zB,by rw[hq',hm,hd];rfl⟩
 obtain rfl:i=l.length:=by omega
 have hpl:jp.1.length=l.length:=by rw[ep];exact WJ _ _ _
 rw[<-ep];clear ep ej ed sc hll hi hlt;obtain⟨ps,dj⟩:=jp;dsimp only at hpl⊢;have hlp:(ps.map wY).length=ps.length:=by simp
 generalize nx (ad d) 3=js
 (repeat' (first|refine ZV ?_|refine xQ (λhc=>?_) (λhc=>?_)|(refine zE ?_;refine wB ?_;(first|(refine uI 22 ?_;first|refine xK (zI (yI _ _ zB zB) rfl rfl rfl rfl rfl) rfl ?_|refine uG (zI (yI _ _ zB zB) rfl rfl rfl rfl rfl) rfl rfl rfl ?_|refine aD (zI (yI _ _ zB zB) rfl rfl rfl rfl rfl) rfl rfl rfl ?_)))|fail))
 generalize nx dj 4=n4
 refine jE (st':=⟨[(0,.ptr 1000 0 0),(2,.ptr 2 0 0),(4,.ptr 4 0 0),(8,bA (n4==3)),(69,zD wY ps),(70,iA ps.length),(71,iA 0)],
   [(1000,dX (ad dj)),(2,.box [.s (.slice none 0 0),.s (.slice none 0 0),iA 0]),(4,.box [zD wY ps,.s (.slice none 0 0),iA js])]⟩) [1000,2,4] [0,2,4,8,69,70,71] rfl (by
  have e1:zD wY ps= .sl false (List.take (ps.map wY).length (List.drop 0 (ps.map wY))):=by
   rw[zYf,zXe];rfl
  rw[e1,<-hlp]
  rfl) ?_
 generalize (n4==3)=ex;generalize ad dj=dk;refine vT 4 1 1002 1 rfl rfl rfl rfl rfl ?_
 refine wV (λn st=>∃i:Nat,n+i=ps.length/\st=⟨[(0,.ptr 1000 0 0),(2,.ptr 2 0 0),(4,.ptr 4 0 0),(8,bA ex),(69,zD wY ps),(70,iA ps.length),(71,iA i)],
   [(1000,dX dk),(2,.box [.s (.slice none 0 0),.s (.slice none 0 0),iA 0]),(4,.box [zD wY ps,.ref 1002 0 ((gB ps ex i).map iA).length,iA js]),(1002,.arr 1 ((gB ps ex i).map iA) true)]⟩)
  ps.length [1000,2,4,1002] [0,2,4,8,69,70,71] rfl ⟨0,rfl,rfl⟩ ?_
 clear n;rintro n st ⟨i,hi,rfl⟩;by_cases hlt:i<ps.length
 ·have hy:=yM wY ps i zB zB;rw[show((i:Int)).toNat=i from rfl]at hy;have ht:(gB ps ex (i+1)).map iA=(gB ps ex i).map iA++[iA (YD ps ex i ps.length)]:=by unfold gB;rw[zZp];simp
  have hrl:(gB ps ex i).length=i:=by simp[gB]
  obtain⟨p,hp⟩:∃p,ps.getD i default=p:=⟨_,rfl⟩;rw[hp]at hy;obtain⟨rows,hrows⟩:∃r,gB ps ex i=r:=⟨_,rfl⟩;rw[hrows]at ht hrl⊢
  (repeat' (first|refine ZV ?_|refine xQ (λhc=>?_) (λhc=>?_)|fail))
  refine wV (λn st=>∃k:Nat,n+k=ps.length/\st=⟨[(0,.ptr 1000 0 0),(2,.ptr 2 0 0),(4,.ptr 4 0 0),(8,bA ex),(9,iA i),(10,.ptr 10 0 0),(11,iA (YD ps ex i k)),(69,zD wY ps),(70,iA ps.length),(71,iA i),(77,zD wY ps),(78,iA ps.length),(79,iA k)],
    [(1000,dX dk),(2,.box [.s (.slice none 0 0),.s (.slice none 0 0),iA 0]),(4,.box [zD wY ps,.ref 1002 0 (rows.map iA).length,iA js]),(10,.box [iA p.ring,iA p.group,iA p.ming,iA p.maxg,iA p.yel,iA p.red,iA p.walk,iA p.clear]),(1002,.arr 1 (rows.map iA) true)]⟩)
   ps.length [1000,2,4,10,1002] [0,2,4,8,9,10,11,69,70,71,77,78,79] rfl ⟨0,rfl,by rw[<-hlp];rfl⟩ ?_
  rintro n2 st ⟨k,hk,rfl⟩;by_cases hlt2:k<ps.length
  ·have hy2:=yM wY ps k zB zB;rw[show((k:Int)).toNat=k from rfl]at hy2
   have hn:YD ps ex i (k+1)=if cnd ps ex i k=true then YD ps ex i k+2 ^ k else YD ps ex i k:=rfl
   have hc:cnd ps ex i k=(i != k&&(p.ring==(ps.getD k default).ring||p.group != (ps.getD k default).group||ex&&((i:Int)+k).tmod 2==1)):=by rw[<-hp];rfl
   obtain⟨hw,hw2⟩:=zWq k zB;obtain⟨hr0,hr1⟩:=SZ ps ex i k;have hr2:0<=(2:Int) ^ k:=by omega
   rw[show(2:Int) ^ k=p2 k from rfl]at hn hr1 hr2 hw2;clear hw;generalize ps.getD k default=q at *;by_cases h0:i=k
   ·rw[zW8 (by rw[hc];simp[h0])]at hn;clear hc;subst h0
    (repeat' (first|refine ZV ?_|refine xQ (λhc=>?_) (λhc=>?_)|fail))
    exact⟨n2-1,zB,i+1,zB,by rw[hn];rfl⟩
   by_cases h1:p.ring=q.ring
   ·rw[zW9 (by rw[hc];simp[h0,h1])]at hn;clear hc
    (repeat' (first|refine ZV ?_|refine xQ (λhc=>?_) (λhc=>?_)|fail))
    exact⟨n2-1,zB,k+1,zB,by rw[hn];rfl⟩
   by_cases h2:p.group=q.group
   ·cases ex with
    |false=>
     rw[zW8 (by rw[hc];simp[h0,h1,h2])]at hn;clear hc
     (repeat' (first|refine ZV ?_|refine xQ (λhc=>?_) (λhc=>?_)|fail))
     exact⟨n2-1,zB,k+1,zB,by rw[hn];rfl⟩
    | true=>
     by_cases h3:((i:Int)+k).tmod 2=1
     ·rw[zW9 (by rw[hc];simp[h0,h1,h2,h3])]at hn;clear hc
      (repeat' (first|refine ZV ?_|refine xQ (λhc=>?_) (λhc=>?_)|fail))
      exact⟨n2-1,zB,k+1,zB,by rw[hn];rfl⟩
     ·rw[zW8 (by rw[hc];simp[h0,h1,h2,h3])]at hn;clear hc
      (repeat' (first|refine ZV ?_|refine xQ (λhc=>?_) (λhc=>?_)|fail))
      exact⟨n2-1,zB,k+1,zB,by rw[hn];rfl⟩
   ·rw[zW9 (by rw[hc];simp[h0,h1,h2])]at hn;clear hc
    (repeat' (first|refine ZV ?_|refine xQ (λhc=>?_) (λhc=>?_)|fail))
    exact⟨n2-1,zB,k+1,zB,by rw[hn];rfl⟩
  ·obtain rfl:k=ps.length:=by omega
   have hr:=SZ ps ex i ps.length
   (repeat' (first|refine ZV ?_|refine xQ (λhc=>?_) (λhc=>?_)|fail))
   exact⟨n-1,zB,i+1,zB,by rw[ht];rfl⟩
 obtain rfl:i=ps.length:=by omega
 (repeat' (first|refine ZV ?_|refine xQ (λhc=>?_) (λhc=>?_)|fail))
 exact zL [1000] rfl rfl (zX7 (λx=>AV.agg [zD wY ps,AV.sl false x,iA js]) zXe) rfl
def ad4 (d:Dk):Dk:=ad (ad (ad (ad d)))
def OL (d:Dk):Nat->List Jn×Dk
 |0=>([],d)
 |i+1=>((OL d i).1++[jnF (OL d i).2],jnD (OL d i).2)
def VY (d:Dk) (rights:Int):Nat->List Ag×Dk
 |0=>([],d)
 |i+1=>((VY d rights i).1++[agF (VY d rights i).2 i rights],ad (ad7 (VY d rights i).2))
theorem RA (d:Dk):∀i,(OL d i).1.length=i
 |0=>rfl
 |i+1=>by simp[OL,RA d i]
theorem dO (d:Dk) (rights:Int):∀i,(VY d rights i).1.length=i
 |0=>rfl
 |i+1=>by simp[VY,dO d rights i]
theorem zRh (d:Dk) (rights:Int) (i:Nat):(VY d rights (i+1)).2=ad (ad7 (VY d rights i).2):=by simp only[VY]
theorem zGc (d:Dk) (rights:Int) (i:Nat):(VY d rights (i+1)).1=(VY d rights i).1++[agF (VY d rights i).2 i rights]:=by simp only[VY]
def cfN (d:Dk):Nat:=(1+nx (ad4 d) 2).toNat
def cfJ (d:Dk):List Jn×Dk:=OL (ad (ad4 d)) (cfN d)
def cfM (d:Dk):Nat:=(1+nx (cfJ d).2 3).toNat
def cfG (d:Dk) (rights:Int):List Ag×Dk:=VY (ad (cfJ d).2) rights (cfM d)
def QG (d:Dk) (rights:Int):Cf:=⟨(cfJ d).1,(cfG d rights).1,1+nx d (4-1+1),nx (ad d) 4,1+nx (ad (ad d)) (3-1+1),nx (ad (ad (ad d))) 5⟩
def cfD (d:Dk) (rights:Int):Dk:=(cfG d rights).2
theorem GN (d:Dk) (rights:Int):zN 12 [.ptr 1000 0 0,iA rights] [(1000,dX d)] (wT (QG d rights)) [(1000,dX (cfD d rights))]:=by
 have hn:=yE (ad4 d) 2 zB;have hm:=yE (cfJ d).2 3 zB;have en:1+nx (ad4 d) 2=(cfN d:Int):=(yCk zB).symm;have em:1+nx (cfJ d).2 3=(cfM d:Int):=(yCk zB).symm;have ej:cfJ d=OL (ad (ad4 d)) (cfN d):=rfl;have eg:cfG d rights=VY (ad (cfJ d).2) rights (cfM d):=rfl;have ef:QG d rights=⟨(cfJ d).1,(cfG d rights).1,1+nx d (4-1+1),nx (ad d) 4,1+nx (ad (ad d)) (3-1+1),nx (ad (ad (ad d))) 5⟩:=rfl;have ed:cfD d rights=(cfG d rights).2:=rfl;rw[ef,ed];unfold ad4 at *;generalize cfJ d=jj at *;generalize cfG d rights=gg at *;generalize cfN d=N at *;generalize cfM d=M at *;have jc:=λi=>BB (OL (ad (ad (ad (ad (ad d))))) i).2
 refine eM call12 λF hF=>?_
 (repeat' (first|refine ZV ?_|refine xQ (λhc=>?_) (λhc=>?_)|(refine zE ?_;refine wB ?_;(first|(refine uI 37 ?_;first|refine xK (zI (kN _ _ _ zB zB zB) rfl rfl rfl rfl rfl) rfl ?_|refine uG (zI (kN _ _ _ zB zB zB) rfl rfl rfl rfl rfl) rfl rfl rfl ?_|refine aD (zI (kN _ _ _ zB zB zB) rfl rfl rfl rfl rfl) rfl rfl rfl ?_)|(refine uI 22 ?_;first|refine xK (zI (yI _ _ zB zB) rfl rfl rfl rfl rfl) rfl ?_|refine uG (zI (yI _ _ zB zB) rfl rfl rfl rfl rfl) rfl rfl rfl ?_|refine aD (zI (yI _ _ zB zB) rfl rfl rfl rfl rfl) rfl rfl rfl ?_)))|fail))
 generalize nx d (4-1+1)=c1 at *;generalize nx (ad d) 4=c2 at *;generalize nx (ad (ad d)) (3-1+1)=c3 at *;generalize nx (ad (ad (ad d))) 5=c4 at *;generalize nx (ad (ad (ad (ad d)))) 2=n0 at *;generalize ad (ad (ad (ad (ad d))))=d5 at *;refine vT 5 0 1001 3 rfl rfl rfl rfl rfl ?_
 refine wV (λn st=>∃i:Nat,n+i=N/\st=⟨[(0,.ptr 1000 0 0),(1,iA rights),(4,.ptr 4 0 0),(5,.ptr 5 0 0),(6,iA (1+n0-i))],
   [(1000,dX (OL d5 i).2),(4,.box [.s (.slice none 0 0),.s (.slice none 0 0),iA 0,iA 0,iA 0,iA 0]),(5,.box [.ref 1001 0 ((OL d5 i).1.map wP).length,.s (.slice none 0 0),iA (1+c1),iA c2,iA (1+c3),iA c4]),(1001,.arr 3 ((OL d5 i).1.map wP) true)]⟩)
  N [1000,4,5,1001] [0,1,4,5,6] rfl ⟨0,rfl,by rw[show 1+n0-(0:Nat)=1+n0 by omega];rfl⟩ ?_
 rintro n st ⟨i,hi,rfl⟩;by_cases hlt:i<N
 ·have hm2:(OL d5 (i+1)).1.map wP=(OL d5 i).1.map wP++[wP (jnF (OL d5 i).2)]:=zXf;have hd2:(OL d5 (i+1)).2=jnD (OL d5 i).2:=rfl;have c:=jc i;have hle:=RA d5 i;generalize hq':OL d5 (i+1)=q' at hm2 hd2;generalize OL d5 i=q at *;obtain⟨ql,qd⟩:=q;dsimp only at hm2 hd2 hle c⊢;generalize jnF qd=jf at *;generalize jnD qd=jd at *;refine zU c ?_;exact⟨n-1,zB,i+1,zB,by rw[hq',hm2,hd2,show 1+n0-((i+1:Nat):Int)=1+n0-i-1 by omega];rfl⟩
 obtain rfl:i=N:=by omega
 have hjl:jj.1.length=i:=by rw[ej];exact RA _ _
 rw[<-ej];clear ej jc ef ed;obtain⟨js,dj⟩:=jj;dsimp only at *;have hlp:(js.map wP).length=js.length:=by simp
 have hal:=dO (ad dj) rights M;have ac:=λk (hk:k<M)=>zHz (VY (ad dj) rights k).2 k rights zB zB
 rw[<-eg]at hal
 (repeat' (first|refine ZV ?_|refine xQ (λhc=>?_) (λhc=>?_)|(refine zE ?_;refine wB ?_;(first|(refine uI 22 ?_;first|refine xK (zI (yI _ _ zB zB) rfl rfl rfl rfl rfl) rfl ?_|refine uG (zI (yI _ _ zB zB) rfl rfl rfl rfl rfl) rfl rfl rfl ?_|refine aD (zI (yI _ _ zB zB) rfl rfl rfl rfl rfl) rfl rfl rfl ?_)))|fail))
 generalize nx dj 3=n3 at *;generalize ad dj=dk at*
 refine jE (st':=⟨[(0,.ptr 1000 0 0),(1,iA rights),(4,.ptr 4 0 0),(5,.ptr 5 0 0),(33,iA (1+n3)),(34,iA 0)],
   [(1000,dX dk),(4,.box [.s (.slice none 0 0),.s (.slice none 0 0),iA 0,iA 0,iA 0,iA 0]),(5,.box [zD wP js,.s (.slice none 0 0),iA (1+c1),iA c2,iA (1+c3),iA c4])]⟩) [1000,4,5] [0,1,4,5,33,34] rfl (by
  have e1:zD wP js= .sl false (List.take (js.map wP).length (List.drop 0 (js.map wP))):=by
   rw[zYf,zXe];rfl
  rw[e1]
  rfl) ?_
 refine vT 5 1 1002 8 rfl rfl rfl rfl rfl ?_
 refine wV (λn st=>∃k:Nat,n+k=M/\st=⟨[(0,.ptr 1000 0 0),(1,iA rights),(4,.ptr 4 0 0),(5,.ptr 5 0 0),(33,iA (1+n3)),(34,iA k)],
   [(1000,dX (VY dk rights k).2),(4,.box [.s (.slice none 0 0),.s (.slice none 0 0),iA 0,iA 0,iA 0,iA 0]),(5,.box [zD wP js,.ref 1002 0 ((VY dk rights k).1.map vH).length,iA (1+c1),iA c2,iA (1+c3),iA c4]),(1002,.arr 8 ((VY dk rights k).1.map vH) true)]⟩)
  M [1000,4,5,1002] [0,1,4,5,33,34] rfl ⟨0,rfl,rfl⟩ ?_
 clear n hi hlt;rintro n st ⟨k,hk,rfl⟩;by_cases hlt:k<M
 ·have hm2:(VY dk rights (k+1)).1.map vH=(VY dk rights k).1.map vH++[vH (agF (VY dk rights k).2 k rights)]:=by rw[zGc];exact zXf
  have hd2:(VY dk rights (k+1)).2=ad (ad7 (VY dk rights k).2):=zRh dk rights k;have c:=ac k hlt;have hle:=dO dk rights k;clear ac;generalize hq':VY dk rights (k+1)=q' at hm2 hd2;generalize VY dk rights k=q at *;obtain⟨ql,qd⟩:=q;dsimp only at hm2 hd2 hle c⊢;generalize agF qd k rights=jf at *;generalize ad (ad7 qd)=jd at *;refine zU c ?_;exact⟨n-1,zB,k+1,zB,by rw[hq',hm2,hd2];rfl⟩
 obtain rfl:k=M:=by omega
 rw[<-eg];clear eg ac;refine WW ?_;exact zL [1000] rfl rfl (zX7 (λx=>AV.agg [zD wP js,AV.sl false x,iA (1+c1),iA c2,iA (1+c3),iA c4]) zXe) rfl
def CfW (c:Cf):Prop:=c.js.length<=4/\∀j∈c.js,1<=j.ph.length/\j.ph.length<=8
theorem CfW.at {c:Cf} (h:CfW c) {j:Int} (h0:0<=j) (h1:j<((c.js.map wP).length:Int)):1<=(c.js.getD j.toNat default).ph.length/\(c.js.getD j.toNat default).ph.length<=8:=by
 rw[zXa]at h1;refine h.2 _ ?_;rw[zXh,zXr zB,zZg];exact zZy _
def qJ (c:Cf) (e:Dk) (k:Nat):Int:=Int.tmod (nx e 3+k) (max 1 (((c.js.map wP).length:Int)+(nx (ad e) 12).tdiv 11))
def qP (c:Cf) (j:Int):Int:=if j<((c.js.map wP).length:Int)then(((c.js.getD j.toNat default).ph.map wY).length:Int)else 2
theorem LW (x:Int) (h:0<=x/\x<12):0<=x.tdiv 11/\x.tdiv 11<=1/\YI .i64 (x.tdiv 11):=by
 have:x.tdiv 11=x/11:=zY0 h.1;rw[this];refine⟨zB,zB,by unfold YI;omega⟩
theorem zGd (a b:Int) (h0:0<=a) (h1:1<=b) (h2:b<=1000):0<=a.tmod b/\a.tmod b<=1000/\YI .i64 (a.tmod b):=by
 have:=yC2 b h0;have h3:a.tmod b<b:=yCr a zB;exact⟨this,zB,by unfold YI;omega⟩
theorem zU9 {c:Cf} (h:CfW c) (e:Dk) (k:Nat):0<=qJ c e k/\qJ c e k<=1000:=by
 have w1:=yE e 3 zB;have w2:=yE (ad e) 12 zB;obtain⟨v2,u2,i2⟩:=LW _ w2;have h1:=h.1;have h2:(c.js.map wP).length=c.js.length:=zXa ..;have:=zGd (nx e 3+k) (max 1 (((c.js.map wP).length:Int)+(nx (ad e) 12).tdiv 11)) zB zB zB;exact⟨this.1,this.2.1⟩
theorem zVa {c:Cf} (h:CfW c) {j:Int} (h0:0<=j):1<=qP c j/\qP c j<=8:=by
 unfold qP;split
 ·rename_i h1;have:=h.at h0 h1;rw[zXa];omega
 ·omega
def GO (c:Cf) (k:Nat) (l:List Int) (e:Dk):List Int×Dk:=
 (l++[qJ c e k,nx (ad (ad (ad (ad e)))) (qP c (qJ c e k)+(nx (ad (ad (ad e))) 12).tdiv 11),nx (ad (ad e)) 3,nx (ad (ad e)) 3+nx (ad (ad (ad (ad (ad e))))) 50],ad (ad (ad (ad (ad (ad e))))))
def bV (c:Cf) (l:List Int) (d:Dk):Nat->List Int×Dk
 |0=>(l,d)
 |i+1=>GO c i (bV c l d i).1 (bV c l d i).2
def VZ (l:List Int):Prop:=∀x∈l,0<=x/\x<=4294967295
theorem VZ.app {a b:List Int} (h1:VZ a) (h2:VZ b):VZ (a++b):=λx hx=>(zXs.1 hx).elim (h1 x) (h2 x)
theorem VZ.cons {x:Int} {b:List Int} (h1:0<=x/\x<=4294967295) (h2:VZ b):VZ (x::b):=λy hy=>(zYq.1 hy).elim (λe=>e▸h1) (h2 y)
theorem VZ.nil:VZ []:=λx hx=>by cases hx
theorem BC {c:Cf} (hc:CfW c) (l:List Int) (hl:VZ l) (d:Dk):∀i,(bV c l d i).1.length=l.length+i*4/\rem (bV c l d i).2<=rem d/\VZ (bV c l d i).1
 |0=>⟨rfl,zXc _,hl⟩
 |i+1=>by
  have ih:=BC hc l hl d i
  show(GO c i _ _).1.length=_/\rem (GO c i _ _).2<=_/\VZ (GO c i _ _).1
  generalize (bV c l d i).2=e at *;have r1:=wM e;have r2:=wM (ad e);have r3:=wM (ad (ad e));have r4:=wM (ad (ad (ad e)));have r5:=wM (ad (ad (ad (ad e))));have r6:=wM (ad (ad (ad (ad (ad e)))));have j1:=zU9 hc e i;have j2:=zVa hc j1.1;have w3:=yE (ad (ad e)) 3 zB;have w4:=yE (ad (ad (ad e))) 12 zB;have w6:=yE (ad (ad (ad (ad (ad e))))) 50 zB;obtain⟨v4,u4,_⟩:=LW _ w4;have w5:=yE (ad (ad (ad (ad e)))) (qP c (qJ c e i)+(nx (ad (ad (ad e))) 12).tdiv 11) zB;refine⟨by simp only[GO,zXb,zXl,zYa];omega,by simp only[GO];omega,?_⟩;exact ih.2.2.app (.cons zB (.cons zB (.cons zB (.cons zB .nil))))
theorem zLw (c:Cf) (hc:CfW c) (l:List Int) (hl:l.length<=1000) (hn:VZ l) (d:Dk):zN 96 [.ptr 1000 0 0,wT c,.ref 107 0 (l.map iA).length] [(1000,dX d),(107,.arr 1 (l.map iA) false)] (.ref 107 0 ((bV c l (ad d) (1+(nx d 2).toNat)).1.map iA).length) [(1000,dX (bV c l (ad d) (1+(nx d 2).toNat)).2),(107,.arr 1 ((bV c l (ad d) (1+(nx d 2).toNat)).1.map iA) true)]:=by
 have c1:=yI d 2 zB zB;have b1:=yE d 2 zB;generalize nx d 2=n at *;generalize ad d=d1 at *;obtain⟨N,hN⟩:∃N:Nat,1+n.toNat=N:=⟨_,rfl⟩;have hN2:1+n=(N:Int):=by omega
 rw[hN];have hjs:=hc.1;have hjl:(c.js.map wP).length=c.js.length:=zXa ..;unfold wT zD;refine eM call96 λF hF=>?_
 refine zU c1 ?_;refine vW 107 rfl ?_;refine zP (N) [1000,107,4] [4] [0,4,15] [2,16,0,4,15] rfl (λi T U=>⟨(2,.ref 107 0 ((bV c l d1 i).1.map iA).length)::(16,iA i)::T,(1000,dX (bV c l d1 i).2)::(107,.arr 1 ((bV c l d1 i).1.map iA) true)::U⟩) ?_;(conv=>whnf);refine⟨by rfl,?_,?_⟩
 ·intro i hi;have hl:=(BC hc l hn d1 i).1;have eS:bV c l d1 (i+1)=GO c i (bV c l d1 i).1 (bV c l d1 i).2:=rfl;unfold GO at eS;generalize (bV c l d1 i).1=p at *;generalize (bV c l d1 i).2=e at *;have hi2:(i:Int)<=1:=by omega
  have n1:=yI e 3 zB zB;have n2:=yI (ad e) 12 zB zB;have n3:=yI (ad (ad e)) 3 zB zB;have n4:=yI (ad (ad (ad e))) 12 zB zB;have w1:=yE e 3 zB;have w2:=yE (ad e) 12 zB;have w3:=yE (ad (ad e)) 3 zB;have w4:=yE (ad (ad (ad e))) 12 zB;obtain⟨v2,u2,i2⟩:=LW _ w2;obtain⟨v4,u4,i4⟩:=LW _ w4;have jb:=zU9 hc e i;have pb:=zVa hc jb.1;have n5:=yI (ad (ad (ad (ad e)))) (qP c (qJ c e i)+(nx (ad (ad (ad e))) 12).tdiv 11) zB zB;have n6:=yI (ad (ad (ad (ad (ad e))))) 50 zB zB;have w6:=yE (ad (ad (ad (ad (ad e))))) 50 zB;generalize hx5:nx (ad (ad (ad (ad e)))) (qP c (qJ c e i)+(nx (ad (ad (ad e))) 12).tdiv 11)=x5 at *;clear hx5;have hat:=λh=>yM wP c.js (qJ c e i) jb.1 h
  have hat2:=λh=>hc.at (c:=c) (j:=qJ c e i) jb.1 h
  have hm:1<=max 1 (((c.js.map wP).length:Int)+(nx (ad e) 12).tdiv 11)/\max 1 (((c.js.map wP).length:Int)+(nx (ad e) 12).tdiv 11)<=1000:=by omega
  have tb:=zGd (nx e 3+i) _ zB hm.1 hm.2;unfold qP at n5 pb;unfold qJ at n5 eS jb hat hat2 pb;rw[eS];clear eS hc;generalize nx (ad (ad (ad (ad (ad e))))) 50=x6 at *;generalize nx (ad (ad (ad e))) 12=x4 at *;generalize nx (ad (ad e)) 3=x3 at *;generalize nx (ad e) 12=x2 at *;generalize nx e 3=x1 at *;generalize ad e=e1 at *;generalize ad e1=e2 at *;generalize ad e2=e3 at *;generalize ad e3=e4 at *;generalize ad e4=e5 at *;generalize ad e5=e6 at *;obtain⟨hm1,hm2⟩:=hm;obtain⟨tb1,tb2,tb3⟩:=tb;by_cases hj:Int.tmod (x1+i) (max 1 (((c.js.map wP).length:Int)+x2.tdiv 11))<((c.js.map wP).length:Int)
  ·rw[zW9 hj]at n5 pb;have hy:=hat zB;have hz:=hat2 hj;clear hat hat2;generalize c.js.getD (Int.tmod (x1+i) (max 1 (((c.js.map wP).length:Int)+x2.tdiv 11))).toNat default=J at *;have hpl:(J.ph.map wY).length=J.ph.length:=zXa ..;unfold wP zD at hy;generalize J.ph.map wY=P at *;generalize J.cf.map iA=Cz at *;refine yO (zt6 n1 n2 n3 n4 n5 n6) ?_
   show restr _ _ _=_
   rw[zXf];rfl
  ·rw[zW8 hj]at n5 pb;clear hat hat2;refine yO (zt6 n1 n2 n3 n4 n5 n6) ?_
   show restr _ _ _=_
   rw[zXf];rfl
 ·(refine WW ?_)
  exact zL [1000,107] rfl rfl rfl rfl
def BD (g:Int) (d:Dk):List Int×Dk:=
 if nx d 9=7 then(g::nx (ad d) 4::dK (2000+10*g+nx (ad (ad d)) 3),ad (ad (ad d)))
 else if nx d 9=8 then(nx (ad d) 3::0::dK (1000+nx (ad (ad d)) 3),ad (ad (ad d)))
 else(g::0::dK (1000+g),ad d)
theorem zRi (g:Int) (hg:0<=g/\g<256) (d:Dk):BY (BD g d).1/\rem (BD g d).2<=rem d:=by
 have r1:=wM d;have r2:=wM (ad d);have r3:=wM (ad (ad d));have b1:=yE (ad d) 4 zB;have b2:=yE (ad d) 3 zB;unfold BD;split
 ·exact⟨KL hg zB (ZR _),by dsimp only;omega⟩
 ·split
  ·exact⟨KL zB zB (ZR _),by dsimp only;omega⟩
  ·exact⟨KL hg zB (ZR _),by dsimp only;omega⟩
def zRj (q:Int):Int:=if q=1 then 4 else if q=3 then 7 else 6
theorem zLx (q:Int) (h:0<=q/\q<4):([AV.s (.int .i64 6),AV.s (.int .i64 4),AV.s (.int .i64 6),AV.s (.int .i64 7)]:List AV)[q.toNat]? =some (AV.s (.int .i64 (zRj q))):=by
 have:q=0∨q=1∨q=2∨q=3:=by omega
 rcases this with rfl|rfl|rfl|rfl<;>rfl
def zCv (k:Int) (d:Dk):Int×Dk:=if nx d 2=0 then(zRj (nx (ad d) 4),ad (ad d))else(k,ad d)
theorem zRk (k:Int) (hk:1<=k/\k<=12) (d:Dk):(1<=(zCv k d).1/\(zCv k d).1<=12)/\rem (zCv k d).2<=rem d:=by
 have r1:=wM d;have r2:=wM (ad d);unfold zCv zRj;split
 ·refine⟨?_,by dsimp only;omega⟩;dsimp only;split
  ·omega
  ·split<;>omega
 ·exact⟨hk,by dsimp only;omega⟩
def GP (l:List Int) (d:Dk):List Int×Dk:=(l++[nx d 3,nx d 3+nx (ad d) 40],ad (ad d))
def YZ (l:List Int) (d:Dk):Nat->List Int×Dk
 |0=>(l,d)
 |i+1=>GP (YZ l d i).1 (YZ l d i).2
theorem BE (l:List Int) (hl:VZ l) (d:Dk):∀i,(YZ l d i).1.length=l.length+i*2/\rem (YZ l d i).2<=rem d/\VZ (YZ l d i).1
 |0=>⟨rfl,zXc _,hl⟩
 |i+1=>by
  have ih:=BE l hl d i
  show(GP _ _).1.length=_/\rem (GP _ _).2<=_/\VZ (GP _ _).1
  generalize (YZ l d i).2=e at *;have r1:=wM e;have r2:=wM (ad e);have w1:=yE e 3 zB;have w2:=yE (ad e) 40 zB;refine⟨by simp only[GP,zXb,zXl,zYa];omega,by simp only[GP];omega,?_⟩;exact ih.2.2.app (.cons zB (.cons zB .nil))
def zCw (q:Int):Int:=if q=0 then 63 else if q=1 then 1 else if q=2 then 3 else if q=3 then 47 else 64
def zCx (q:Int):Int:=if q=0 then 0 else if q=1 then 5 else if q=2 then 30 else 700
theorem zLy (q:Int) (h:0<=q/\q<5):([AV.s (.int .i64 63),AV.s (.int .i64 1),AV.s (.int .i64 3),AV.s (.int .i64 47),AV.s (.int .i64 64)]:List AV)[q.toNat]? =some (AV.s (.int .i64 (zCw q))):=by
 have:q=0∨q=1∨q=2∨q=3∨q=4:=by omega
 rcases this with rfl|rfl|rfl|rfl|rfl<;>rfl
theorem zLz (q:Int) (h:0<=q/\q<4):([AV.s (.int .i64 0),AV.s (.int .i64 5),AV.s (.int .i64 30),AV.s (.int .i64 700)]:List AV)[q.toNat]? =some (AV.s (.int .i64 (zCx q))):=by
 have:q=0∨q=1∨q=2∨q=3:=by omega
 rcases this with rfl|rfl|rfl|rfl<;>rfl
def zCy (cf:Cf) (k c:Int) (d:Dk):List Int×Dk:=
 if k=2 then([zCw (nx d 5),nx (ad d) 5,zCx (nx (ad (ad d)) 4)],ad (ad (ad d)))
 else if k=3∨k=8∨k=5∨k=10∨k=11 then([nx d 4],ad d)
 else if k=4 then([nx d 4,c],ad d)
 else if k=6 then bV cf [nx d 4,nx (ad d) 4,1+nx (ad (ad d)) (60-1+1)] (ad (ad (ad (ad d)))) (1+(nx (ad (ad (ad d))) 2).toNat)
 else if k=7 then YZ [nx d 4] (ad (ad d)) (1+(nx (ad d) 2).toNat)
 else([],d)
theorem zGe (g:Int) (d:Dk):(BD g d).1.length=10:=by
 unfold BD;split
 ·simp[kU]
 ·split<;>simp[kU]
theorem zRl {cf:Cf} (hc:CfW cf) (k c:Int) (h0:0<=c/\c<=10) (hk:1<=k/\k<=12) (d:Dk):rem (zCy cf k c d).2<=rem d/\VZ (zCy cf k c d).1/\∃n:Nat,n<=2/\(uH k≠0->1<=n)/\(zCy cf k c d).1.length=jB k+n*uH k:=by
 have r1:=wM d;have r2:=wM (ad d);have r3:=wM (ad (ad d));have r4:=wM (ad (ad (ad d)));have w1:=yE d 4 zB;have w2:=yE (ad d) 4 zB;have w3:=yE (ad (ad d)) (60-1+1) zB;have w4:=yE (ad (ad (ad d))) 2 zB;have w5:=yE (ad d) 2 zB;have w6:=yE (ad d) 5 zB;have g1:0<=zCw (nx d 5)/\zCw (nx d 5)<=64:=by unfold zCw;repeat' split;all_goals omega
 have g2:0<=zCx (nx (ad (ad d)) 4)/\zCx (nx (ad (ad d)) 4)<=700:=by unfold zCx;repeat' split;all_goals omega
 unfold zCy;split
 ·rename_i h;subst h;exact⟨by dsimp only;omega,.cons zB (.cons zB (.cons zB .nil)),0,zB,λh=>absurd rfl h,rfl⟩
 split
 ·rename_i h
  refine⟨by dsimp only;omega,.cons zB .nil,0,zB,λh2=>?_,?_⟩<;>rcases h with rfl|rfl|rfl|rfl|rfl
  all_goals first|rfl|exact absurd rfl h2
 split
 ·rename_i h;subst h;exact⟨by dsimp only;omega,.cons zB (.cons zB .nil),0,zB,λh=>absurd rfl h,rfl⟩
 split
 ·rename_i h;subst h;obtain⟨p1,p2,p3⟩:=BC hc [nx d 4,nx (ad d) 4,1+nx (ad (ad d)) (60-1+1)] (.cons zB (.cons zB (.cons zB .nil))) (ad (ad (ad (ad d)))) (1+(nx (ad (ad (ad d))) 2).toNat);exact⟨zB,p3,_,zB,λ_=>by omega,p1⟩
 split
 ·rename_i h;subst h;obtain⟨p1,p2,p3⟩:=BE [nx d 4] (.cons zB .nil) (ad (ad d)) (1+(nx (ad d) 2).toNat);exact⟨zB,p3,_,zB,λ_=>by omega,p1⟩
 ·rename_i h1 h2 h3 h4 h5;have:k=1∨k=9∨k=12:=by omega
  refine⟨zXc _,.nil,0,zB,λh2=>?_,?_⟩<;>rcases this with rfl|rfl|rfl
  all_goals first|rfl|exact absurd rfl h2
structure MgP (m:Ms):Prop where
 t:BY m.tok
 l:m.tok.length=10
 k:1<=m.kind/\m.kind<=12
 n:VZ m.args
 c:∃n:Nat,n<=2/\(uH m.kind≠0->1<=n)/\m.args.length=jB m.kind+n*uH m.kind
 d:m.data=[]
def qcl (cm:Bool) (d:Dk):Int×Dk:=if cm=true then(nx (ad d) 2,ad (ad d))else(nx d 4,ad d)
theorem zVb (cm:Bool) (d:Dk):(0<=(qcl cm d).1/\(qcl cm d).1<=10)/\rem (qcl cm d).2<=rem d:=by
 have r1:=wM d;have r2:=wM (ad d);have w1:=yE d 4 zB;have w2:=yE (ad d) 2 zB;unfold qcl
 split<;>(refine⟨?_,?_⟩<;>dsimp only<;>omega)
theorem TH (c:Cf) (hc:CfW c) (g:Int) (hg:0<=g/\g<256) (cm:Bool) (d:Dk):∃(m:Ms) (d':Dk),MgP m/\rem d'<=rem d/\zN 48 [.ptr 1000 0 0,wT c,iA g,bA cm] [(1000,dX d)] (zY m) [(1000,dX d')]:=by
 have c1:=yI d 12 zB zB;have b1:=yE d 12 zB;have r1:=wM d;have cs0:=eV (1000+g);have cb0:=aR g 0 (dK (1000+g)) (by rw[kU];omega) hg.1 hg.2 zB zB;generalize hx:nx d 12=x at *;generalize ad d=d1 at *;have hT:=zRi g hg d1;have hTl:=zGe g d1;generalize hTe:BD g d1=v at *;obtain⟨tk0,d2⟩:=v;dsimp only at hT hTl;have hK:=zRk (1+x) zB d2;generalize hKe:zCv (1+x) d2=v at *;obtain⟨k,d3⟩:=v;dsimp only at hK;have hC:=zVb cm d3;generalize hCe:qcl cm d3=v at *;obtain⟨cl,d4⟩:=v;dsimp only at hC;have hA:=zRl hc k cl hC.1 hK.1 d4;generalize hAe:zCy c k cl d4=v at *;obtain⟨args,d5⟩:=v;dsimp only at hA;refine⟨⟨k,tk0,args,[]⟩,d5,⟨hT.1,hTl,hK.1,hA.2.1,hA.2.2,rfl⟩,by have:=hT.2;have:=hK.2;have:=hC.2;have:=hA.1;omega,?_⟩;clear hTl;have n9:=yI d1 9 zB zB;have cqf:=zLw c hc;unfold wT at *;rw[show zD wP c.js= .sl false (c.js.map wP)from rfl,show zD vH c.ags= .sl false (c.ags.map vH)from rfl]at *; generalize c.js.map wP=JS at *;generalize c.ags.map vH=AGS at *;refine eM call48 λF hF=>?_
 (have zc1:=c1;have zc2:=n9;have zc3:=cs0;have zc4:=cb0;(repeat' (first|refine WZB ?_|refine xQ (λhc=>?_) (λhc=>?_)|refine wD (λhc=>?_)|(refine zE ?_;first|refine SM ?_)|fail))<;>clear zc1 zc2 zc3 zc4)
 refine VQ [1000,5,8,9] [0,2,3,5,8,9] ⟨[(0,.ptr 1000 0 0),(2,iA g),(3,bA cm),(5,.ptr 5 0 0),(8,.ptr 8 0 0),(9,.ptr 9 0 0)],[(1000,dX d2),(5,.box [.sl false JS,.sl false AGS,iA c.per,iA c.cap,iA c.hold,iA c.lock]),(8,.box [iA 0,.s (.slice none 0 0),.s (.slice none 0 0),.s (.slice none 0 0)]),(9,.box [iA (1+x),zD yA tk0,.s (.slice none 0 0),.s (.slice none 0 0)])]⟩ rfl ?_ ?_
 ·unfold BD at hTe;by_cases h7:nx d1 9=7
  ·rw[zW9 h7]at hTe;cases hTe;have n1:=yI (ad d1) 4 zB zB;have n2:=yI (ad (ad d1)) 3 zB zB;have w1:=yE (ad d1) 4 zB;have w2:=yE (ad (ad d1)) 3 zB;have cs:=eV (2000+10*g+nx (ad (ad d1)) 3);have cb:=aR g (nx (ad d1) 4) (dK (2000+10*g+nx (ad (ad d1)) 3)) (by rw[kU];omega) hg.1 hg.2 zB zB;clear hT hKe;refine yO (aB n1 n2 cs cb) ?_;exact⟨rfl,rfl⟩
  rw[zW8 h7]at hTe;by_cases h8:nx d1 9=8
  ·rw[zW9 h8]at hTe;cases hTe;have n1:=yI (ad d1) 3 zB zB;have n2:=yI (ad (ad d1)) 3 zB zB;have w1:=yE (ad d1) 3 zB;have w2:=yE (ad (ad d1)) 3 zB;have cs:=eV (1000+nx (ad (ad d1)) 3);have cb:=aR (nx (ad d1) 3) 0 (dK (1000+nx (ad (ad d1)) 3)) (by rw[kU];omega) zB zB zB zB;clear hT hKe;refine yO (aB n1 n2 cs cb) ?_;exact⟨rfl,rfl⟩
  ·rw[zW8 h8]at hTe;cases hTe;clear hT hKe;refine WW ?_;exact⟨rfl,rfl⟩
 clear hTe n9 c1 cs0 cb0;have n2:=yI d2 2 zB zB
 (have zc1:=n2;(repeat' (first|refine WZB ?_|refine xQ (λhc=>?_) (λhc=>?_)|refine wD (λhc=>?_)|(refine zE ?_;first|refine SM ?_)|fail))<;>clear zc1)
 refine VQ [1000,5,8,9] [0,2,3,5,8,9] ⟨[(0,.ptr 1000 0 0),(2,iA g),(3,bA cm),(5,.ptr 5 0 0),(8,.ptr 8 0 0),(9,.ptr 9 0 0)],[(1000,dX d3),(5,.box [.sl false JS,.sl false AGS,iA c.per,iA c.cap,iA c.hold,iA c.lock]),(8,.box [iA 0,.s (.slice none 0 0),.s (.slice none 0 0),.s (.slice none 0 0)]),(9,.box [iA k,zD yA tk0,.s (.slice none 0 0),.s (.slice none 0 0)])]⟩ rfl ?_ ?_
 ·unfold zCv at hKe;have n3:=yI (ad d2) 4 zB zB;have w3:=yE (ad d2) 4 zB;have hy:=zLx _ w3;have hl4:([AV.s (.int .i64 6),AV.s (.int .i64 4),AV.s (.int .i64 6),AV.s (.int .i64 7)]:List AV).length=4:=rfl;clear hAe hCe hK;by_cases h0:nx d2 2=0
  ·rw[zW9 h0]at hKe;cases hKe;refine zU n3 (I2 (λhc=>?_) (λhc=>?_))
   all_goals first|(exfalso;omega;done)|exact⟨rfl,rfl⟩
  ·rw[zW8 h0]at hKe;cases hKe;refine zU n3 (I2 (λhc=>?_) (λhc=>?_))
   all_goals first|(exfalso;omega;done)|exact⟨rfl,rfl⟩
 clear hKe n2;have c3:=yI d3 4 zB zB
 (have zc1:=c3;(repeat' (first|refine WZB ?_|refine xQ (λhc=>?_) (λhc=>?_)|refine wD (λhc=>?_)|(refine zE ?_;first|refine SM ?_)|fail))<;>clear zc1)
 refine VQ [1000,5,8,9] [0,2,3,5,8,9,10] ⟨[(0,.ptr 1000 0 0),(2,iA g),(3,bA cm),(5,.ptr 5 0 0),(8,.ptr 8 0 0),(9,.ptr 9 0 0),(10,iA cl)],[(1000,dX d4),(5,.box [.sl false JS,.sl false AGS,iA c.per,iA c.cap,iA c.hold,iA c.lock]),(8,.box [iA 0,.s (.slice none 0 0),.s (.slice none 0 0),.s (.slice none 0 0)]),(9,.box [iA k,zD yA tk0,.s (.slice none 0 0),.s (.slice none 0 0)])]⟩ rfl ?_ ?_
 ·unfold qcl at hCe;clear hAe;have n2:=yI (ad d3) 2 zB zB
  cases cm with
  |true=>
   rw[zW9 rfl]at hCe;cases hCe;refine zU n2 ?_;exact⟨rfl,rfl⟩
  |false=>
   rw[zW8 zXx]at hCe;cases hCe;refine WW ?_;exact⟨rfl,rfl⟩
 clear hCe c3
 (repeat' (first|refine WZC ?_|refine xQ (λhc=>?_) (λhc=>?_)|refine wD (λhc=>?_)|(refine zE ?_;first|refine SM ?_)|fail))
 have b4:=yE d4 4 zB;unfold zCy at hAe;by_cases k2:k=2
 ·rw[zW9 k2]at hAe;cases hAe;have n1:=yI d4 5 zB zB;have n2:=yI (ad d4) 5 zB zB;have n3:=yI (ad (ad d4)) 4 zB zB;have w1:=yE d4 5 zB;have w3:=yE (ad (ad d4)) 4 zB;have h1:=zLy _ w1;have h3:=zLz _ w3;have hl5:([AV.s (.int .i64 63),AV.s (.int .i64 1),AV.s (.int .i64 3),AV.s (.int .i64 47),AV.s (.int .i64 64)]:List AV).length=5:=rfl;have hl4:([AV.s (.int .i64 0),AV.s (.int .i64 5),AV.s (.int .i64 30),AV.s (.int .i64 700)]:List AV).length=4:=rfl;generalize zCw (nx d4 5)=y1 at *;generalize zCx (nx (ad (ad d4)) 4)=y3 at *;clear hA hK hC hT;refine yO (gU n1 n2 n3) ?_;exact zH [1000] rfl rfl rfl rfl
 rw[zW8 k2]at hAe;by_cases k3:k=3∨k=8∨k=5∨k=10∨k=11
 ·rw[zW9 k3]at hAe;cases hAe;have n1:=yI d4 4 zB zB;clear hA hK hC hT
  rcases k3 with h|h|h|h|h<;>((refine zU n1 ?_);exact zH [1000] rfl rfl rfl rfl)
 rw[zW8 k3]at hAe;by_cases k4:k=4
 ·rw[zW9 k4]at hAe;cases hAe;have n1:=yI d4 4 zB zB;clear hA hK hC hT;refine zU n1 ?_;exact zH [1000] rfl rfl rfl rfl
 rw[zW8 k4]at hAe;by_cases k6:k=6
 ·rw[zW9 k6]at hAe;have n1:=yI d4 4 zB zB;have n2:=yI (ad d4) 4 zB zB;have n3:=kN (ad (ad d4)) 1 60 zB zB zB;have w1:=yE d4 4 zB;have w2:=yE (ad d4) 4 zB;have w3:=yE (ad (ad d4)) (60-1+1) zB;have cq:=cqf [nx d4 4,nx (ad d4) 4,1+nx (ad (ad d4)) (60-1+1)] zS (.cons zB (.cons zB (.cons zB .nil))) (ad (ad (ad d4)));rw[hAe]at cq;clear cqf;clear hA hK hC hT hAe;generalize 1+nx (ad (ad d4)) (60-1+1)=x3 at *;generalize nx (ad d4) 4=x2 at *;generalize nx d4 4=x1 at *;refine yO (aB n1 n2 n3 cq) ?_;exact zH [1000] rfl rfl (zX7 (λz=>AV.agg [iA k,zD yA tk0,.sl false z,zD yA []]) (zXe (l:=args.map iA))) rfl
 rw[zW8 k6]at hAe;by_cases k7:k=7
 ·rw[zW9 k7]at hAe;have n1:=yI d4 4 zB zB;have n2:=yI (ad d4) 2 zB zB;have w2:=yE (ad d4) 2 zB;have w1:=yE d4 4 zB;have hnx:VZ [nx d4 4]:= .cons zB .nil;clear w1;clear hA hK hC hT;generalize nx d4 4=x1 at *;generalize nx (ad d4) 2=n at *;generalize ad d4=e4 at *;generalize ad e4=e5 at *;obtain⟨N,hN⟩:∃N:Nat,1+n.toNat=N:=⟨_,rfl⟩;have hN2:1+n=(N:Int):=by omega
  rw[hN]at hAe;refine yO (wW n1 n2) ?_;refine vW 114 rfl ?_;refine zP (N) [9,1000,114,8] [8] [0,8,9] [11,0,8,9] rfl (λi T U=>⟨(11,iA ((N:Int)-i))::T,(9,.box [iA k,zD yA tk0,.ref 114 0 ((YZ [x1] e5 i).1.map iA).length,.s (.slice none 0 0)])::(1000,dX (YZ [x1] e5 i).2)::(114,.arr 1 ((YZ [x1] e5 i).1.map iA) true)::U⟩) ?_;(conv=>whnf);refine⟨by(rw[show(N:Int)-(0:Nat)=1+n by omega];rfl),?_,?_⟩
  ·intro i hi;have hl:=(BE [x1] hnx e5 i).1;have eS:YZ [x1] e5 (i+1)=GP (YZ [x1] e5 i).1 (YZ [x1] e5 i).2:=rfl;unfold GP at eS;rw[show((N:Int)-((i+1:Nat):Int))=(N:Int)-i-1 by omega];generalize (YZ [x1] e5 i).1=p at *;generalize (YZ [x1] e5 i).2=e at *;have hk1:1<=(N:Int)-i:=by omega
   have hk2:(N:Int)-i<=10:=by omega
   have hp:p.length<=100:=by simp at hl;omega
   generalize (N:Int)-i=q at *;have n1:=yI e 3 zB zB;have n2:=yI (ad e) 40 zB zB;have w1:=yE e 3 zB;have w2:=yE (ad e) 40 zB;generalize nx (ad e) 40=y2 at *;generalize nx e 3=y1 at *;generalize ad e=e1 at *;generalize ad e1=e2 at *;rw[eS];refine yO (wW n1 n2) ?_
   show restr _ _ _=_
   rw[zXf];rfl
  ·rw[show(N:Int)-(N:Int)=0 by omega,hAe];refine WW ?_;exact zH [1000] rfl rfl (zX7 (λz=>AV.agg [iA k,zD yA tk0,.sl false z,zD yA []]) (zXe (l:=args.map iA))) rfl
 ·rw[zW8 k7]at hAe;cases hAe;clear hA hK hC hT;refine WW ?_;exact zH [1000] rfl rfl rfl rfl
section
variable (c:Cf) (d:xP) (s now:Int) (tk0:List Int) (sl:Int)
theorem zGf:yR [wT c,zJ d,iA s,zY ⟨1,tk0,[],[]⟩,iA sl,iA now] [] (hT d (QN d now) (-1) 0) []:=yG
theorem zRm (k:Int) (ar:List Int) (a:Int) (ar1:List Int) (har:ar=a::ar1) (hk:k=2∨k=3∨k=4∨k=5) (d':xP) (p:Ms) (e:Int) (k4:yR [zJ d,zY ⟨k,tk0,ar,[]⟩,iA sl,iA now] [] (.tup [zJ d',zY p,iA e]) []):
 yR [wT c,zJ d,iA s,zY ⟨k,tk0,ar,[]⟩,iA sl,iA now] [] (hT d' p (-1) e) []:=yG
theorem zGg (ar:List Int) (a:Int) (ar1:List Int) (har:ar=a::ar1) (h0:0<=sl) (h1:sl<(d.rg.tk.length:Int)) (d':xP) (e:Int) (k4:yR [wT c,zJ d,zY ⟨6,tk0,ar,[]⟩,iA (d.rg.tk.getD sl.toNat default).cls,iA now] [] (.tup [zJ d',iA e]) []):
 yR [wT c,zJ d,iA s,zY ⟨6,tk0,ar,[]⟩,iA sl,iA now] [] (hT d' (hG 6 a) (-1) e) []:=yG
theorem zGh (ar:List Int) (a:Int) (ar1:List Int) (har:ar=a::ar1) (d':xP) (e:Int) (k4:yR [zJ d,zY ⟨7,tk0,ar,[]⟩,iA now] [] (.tup [zJ d',iA e]) []):
 yR [wT c,zJ d,iA s,zY ⟨7,tk0,ar,[]⟩,iA sl,iA now] [] (hT d' (hG 7 a) (-1) e) []:=yG
theorem zRn (a:Int) (l:List Rq) (e:Int) (k4:yR [zD yK d.rq,iA a] [] (.tup [zD yK l,iA e]) []):
 yR [wT c,zJ d,iA s,zY ⟨8,tk0,[a],[]⟩,iA sl,iA now] [] (hT (dkQ d (if e=0 then l else d.rq)) (hG 8 a) (-1) e) []:=yG
theorem zL0 (k4:yR [zJ d] [] (zY (bR d)) []):yR [wT c,zJ d,iA s,zY ⟨12,tk0,[],[]⟩,iA sl,iA now] [] (hT d (bR d) (-1) 0) []:=yG
theorem zL1 (a:Int) (ha:(c.js.length:Int)<=a):yR [wT c,zJ d,iA s,zY ⟨11,tk0,[a],[]⟩,iA sl,iA now] [] (hT d (hG 11 a) (-1) 8) []:=yG
theorem zL2 (a:Int) (ha:a<(c.js.length:Int)):yR [wT c,zJ d,iA s,zY ⟨11,tk0,[a],[]⟩,iA sl,iA now] [] (hT d (hG 11 a) a 0) []:=yG
theorem zL3 (a:Int) (ha:1<a):yR [wT c,zJ d,iA s,zY ⟨10,tk0,[a],[]⟩,iA sl,iA now] [] (hT d (hG 10 a) (-1) 8) []:=yG
theorem zL4 (a:Int) (ha:a<=1) (hs:¬(0<=s/\s<(d.au.length:Int))):yR [wT c,zJ d,iA s,zY ⟨10,tk0,[a],[]⟩,iA sl,iA now] [] (hT d (hG 10 a) (-1) 0) []:=yG
theorem zL5 (hb:eU d):yR [wT c,zJ d,iA s,zY ⟨9,tk0,[],[]⟩,iA sl,iA now] [] (hT d (QO d) (-1) 0) []:=yG
end
def UI (d:xP):AV:=wL d.rg (zD yK d.rq) (zD kL d.dr) (.ref 1004 0 (d.au.map bA).length)
def DY (l:List Bool):xN:= .arr 1 (l.map bA) false
def hTO (d:xP) (p:Ms) (k e:Int):AV:= .tup [UI d,zY p,iA k,iA e]
theorem zGi (l:List Bool) (h1:1<=l.length) (hl:l.length<=1073741824):zN 154 [zD bA l] [] (.ref 1004 0 (l.map bA).length) [(1004,DY l)]:=by
 have hll:=zA bA l;unfold DY;refine eM call154 λF hF=>?_
 refine yY 0 rfl (λcap hx=>?_) ?_
 ·have:l=[]:=by simpa using hx
  subst this;simp at h1
 ·repeat' (first|(refine zE ?_;first|refine vK tok rfl rfl ?_|(refine wZ ?_;refine xK (yW tok (.inl ⟨rfl,rfl⟩) rfl rfl rfl rfl) rfl ?_)|(refine yT ?_;refine uG (nw:=[1004]) (yJ tok 1004 (xs:=[]) rfl rfl rfl rfl rfl rfl rfl rfl rfl) rfl rfl rfl ?_)|(refine yV ?_;refine wO tok rfl rfl rfl rfl rfl rfl rfl (xH _ _ (λ_=>rfl)) rfl rfl rfl zB rfl ?_)|refine qC ?_)|(first|refine xS ?_|refine yZ ?_|refine vA rfl ?_|refine zX rfl ?_|refine zQ rfl ?_|refine xJ rfl (λhc=>?_) (λhc=>?_)|refine yX ?_|refine yU ?_|refine xA ?_|refine yS ?_))
  exact zL [1004] rfl rfl rfl rfl
theorem QH (d:xP) (hb:eU d) (h1:1<=d.au.length):zN 102 [zJ d] [] (UI d) [(1004,DY d.au)]:=by
 have k1:=KG d.rg hb.rg;have hq:=hb.q;have hdn:=hb.n;have hau:=hb.a;have k2:=XC d.rq zB;have k3:=QK d.dr zB;have k4:=zGi d.au h1 zB;have hlq:=zA yK d.rq;have hld:=zA kL d.dr;unfold UI zJ wL;unfold DY at *;unfold uW at k1;refine eM call102 λF hF=>?_
 refine yO (wW k1 k2) ?_;refine zP ((d.rq.map yK).length) [1001,1,2] [1,2] [1,2,15] [16,1,2,15] rfl (λi T U=>⟨(16,iA i)::T,(1001,.arr 5 (kS i (d.rq.map yK)) false)::U⟩) ?_;(conv=>whnf);refine⟨by rfl,?_,?_⟩
 ·intro i hi;have hi':i<d.rq.length:=by omega
  have hy:(kS i (d.rq.map yK))[i]? =some (yK (d.rq.getD i default)):=zM yK d.rq i hi';have e:=kG yK d.rq i hi';have c2:=cM (d.rq.getD i default).legs (hb.g (d.rq.getD i default) bY);generalize (d.rq.getD i default)=t at *;generalize kS i (d.rq.map yK)=xs at *;generalize kS (i+1) (d.rq.map yK)=ys at *;subst e;refine zU c2 ?_;rfl
 ·(refine zU k3 ?_)
  refine zP ((d.dr.map kL).length) [1002,1,2,1001] [1,2,1001] [1,2,38] [39,1,2,38] rfl (λi T U=>⟨(39,iA i)::T,(1002,.arr 1 (kS i (d.dr.map kL)) false)::U⟩) ?_;(conv=>whnf);refine⟨by rfl,?_,?_⟩
  ·intro i hi;have hi':i<d.dr.length:=by omega
   have hy:(kS i (d.dr.map kL))[i]? =some (kL (d.dr.getD i default)):=zM kL d.dr i hi';have e:=kG kL d.dr i hi';have c2:=wA (d.dr.getD i default) (by have:=hb.e (d.dr.getD i default) bY;omega);generalize (d.dr.getD i default)=t at *;generalize kS i (d.dr.map kL)=xs at *;generalize kS (i+1) (d.dr.map kL)=ys at *;subst e;refine zU c2 ?_;rfl
  ·(refine zU k4 ?_)
   refine zH [1004] rfl rfl ?_ rfl
   show wL d.rg (.sl false ((d.rq.map yK).take (d.rq.map yK).length)) (.sl false ((d.dr.map kL).take (d.dr.map kL).length)) (.ref 1004 0 (d.au.map bA).length)=_
   rw[zXe,zXe];rfl
theorem BF (d:xP) (hb:eU d):yR [zJ d] [] (UI d) [(1004,DY d.au)]:=yG
theorem zL6 (c:Cf) (d:xP) (s now:Int) (pa tk0:List Int) (a:Int) (h0:0<=a) (h1:a<=1) (k2:zN 80 [iA 10,zD yA pa] [] (.tup [zY ⟨10,tk0,[a],[]⟩,iA 0]) []) (r:Rg) (sl:Int)
  (k3:zN 213 [uW d.rg,zY ⟨10,tk0,[a],[]⟩,iA now] [] (.tup [uW r,iA sl,iA 0]) []) (hs:0<=s/\s<(d.au.length:Int)):
  zN 192 [wT c,UI d,iA s,wI ⟨0,10,pa⟩,iA now] [(1004,DY d.au)] (hTO ⟨r,d.rq,d.dr,d.au.set s.toNat (a==1)⟩ (hG 10 a) (-1) 0) [(1004,DY (d.au.set s.toNat (a==1)))]:=by
 have k1:=fI 10;have k5:=KM 10 a;have hla:=zA bA d.au;have hya:=zM bA d.au s.toNat zB;unfold hG zY at k5;rw[show zY ⟨10,tk0,[a],[]⟩= .agg [iA 10,zD yA tk0,.sl false [iA a],.sl false []]from rfl]at k2 k3;unfold uW at k3;have hls:(d.au.set s.toNat (a==1)).map bA=(d.au.map bA).set s.toNat (bA (a==1)):=zZh;unfold wT hTO UI wL wI hG zY DY;dsimp only;rw[hls,zY3];generalize d.au.getD s.toNat default=b0 at *;generalize d.au.map bA=xs at*
 obtain rfl|rfl:a=0∨a=1:=by omega
 all_goals
  refine eM call192 λF hF=>?_
  refine WLc (aB k1 k2 k3 k5) ?_;exact zH [1004] rfl rfl rfl rfl
theorem zL7 (c:Cf) (d:xP) (s now:Int) (tk0:List Int) (sl:Int) (a:Int) (h0:0<=a) (h1:a<=1) (hs:0<=s/\s<(d.au.length:Int)):
 yR [wT c,UI d,iA s,zY ⟨10,tk0,[a],[]⟩,iA sl,iA now] [(1004,DY d.au)] (hTO ⟨d.rg,d.rq,d.dr,d.au.set s.toNat (a==1)⟩ (hG 10 a) (-1) 0) [(1004,DY (d.au.set s.toNat (a==1)))]:=yG
end Av
end Go.Proofs.YtmamjhmoegjapaaGreat
