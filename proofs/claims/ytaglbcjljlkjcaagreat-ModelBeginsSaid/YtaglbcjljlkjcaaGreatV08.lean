/- Part 8. -/
import Derived.Test.YtaglbcjljlkjcaaGreatV07
namespace Go.Proofs.YtaglbcjljlkjcaaGreat.Av
open Tryz
set_option linter.all false
set_option maxRecDepth 4000
set_option maxHeartbeats 2000000
open List renaming length->ln,take->pg,drop->pi
open Inhabited renaming default->dd
variable {c:Cf}
def rb (y u:Nat):AV:= .agg [iA y,iA u,iA (if u=0 then 0 else 1),iA (if u=0 then 0 else 3),iA 0]
def ib (k:Int) (u:1<=k) (h1:k<=12):zO 141 [iA k] [] (rb (uD k) (wK k)) []:=by
 obtain rfl|rfl|rfl|rfl|rfl|rfl|rfl|rfl|rfl|rfl|rfl|rfl:k=1\/k=2\/k=3\/k=4\/k=5\/k=6\/k=7\/k=8\/k=9\/k=10\/k=11\/k=12:=by omega
 all_goals (refine eM call141 λF hF=>?_)
 all_goals (refine WW ?_)
 all_goals exact zI
def aV (u y:Nat) (c:Int):Nat->List Int->List Int
 |_,[]=>[]
 |i,x::r=>(if i=u/\y≠0 then [c]else [])++(jI x++aV u y c (i+1) r)
def eP (u y:Nat) (c:Int) (m:Ms):List Int:=(m.tok++aV u y c 0 m.args)++((if y≠0/\m.args.length=u then [0]else [])++m.data)
theorem xe:∀(f:Nat) (n:Int),1<=(Tb f n).length/\(Tb f n).length<=f+1
 |0,n=>by simp[Tb]
 |f+1,n=>by
  have:=xe f (n/128);rw[Tb];split
  .simp
  .rw[zAp];omega
theorem jZ (n:Int):1<=(jI n).length/\(jI n).length<=5:=xe 4 n
theorem YS (k:Int) (h0:1<=k) (h1:k<=12) (m:Ms) (c:Nat) (hk:m.kind=k) (ht:ln m.tok=10) (hd:ln m.data<=100000) (ha:∀x∈m.args,0<=x/\x<=4294967295) (hn:ln m.args<=1000) (hc:wK k≠0->ln m.args=uD k+c*wK k) (ap:c<=3):
  zO 70 [yO m] [] (zE yA (eP (uD k) (wK k) c m)) []:=by
 subst hk;have G:=ib m.kind h0 h1
 have hg:wK m.kind<=4:=by
  unfold wK
  repeat' split
  all_goals omega
 generalize uD m.kind=B,wK m.kind=y at *;unfold rb at G;have ax:=zA yA m.tok;have X:=zA iA m.args;have au:=zA yA m.data;unfold eP;generalize hT:m.tok++aV B y c 0 m.args=ac;refine eM call70 λF hF=>?_
 (have gt:=G;(repeat' (first|refine qU ?_|apply yY|apply xN|intro hc|(apply zG;first|(apply yI;refine xB 1001 tok Z Z Z Z Z Z (yG _ _ (λ_=>rfl)) Z Z Z zB Z Z Z ?_))|fail))<;>clear gt)
 refine vY 1001 Z ?_;refine kU (m.args) [1001,1,3] [1,3] [1,3,16,17] [4,18,1,3,16,17] Z (λi gd T U zs=>∃u:List Int,(ln u<=10+6*i/\∀post,m.args=gd++post->u++aV B y c i post=ac)/\zs=⟨(4,.ref 1001 0 (u.map yA).length)::(18,iA i)::T,(1001,.arr 1 (u.map yA) true)::U⟩) (Lp ?_ ?_ ?_)
 .exact⟨m.tok,⟨zB,λpost h=>by rw[<-hT,h];rfl⟩,rfl⟩
 .rintro i gd x post st hx hi ⟨u,⟨q0,q1⟩,rfl⟩;have hy:=zY iA hx hi;have ag:=zX hx hi;have M:=ha x (yQ hx);have L:=zA yA u;have he:=jZ x;have V:=Mw x M.1 M.2;have av:=zA yA (jI x)
  have z:∀p,m.args=gd++[x]++p->p=post:=λp h=>by
   rw[hx,zA2]at h;simpa using h.symm
  have A:=q1 _ hx;clear q1 hT hx;by_cases E:i=B/\y≠0
  .obtain⟨rfl,C⟩:=E;have I:=hc C
   have hq:(((m.args.map iA).length:Int)-(i:Int)).tdiv (y:Int)=(c:Int):=by
    rw[X,I,show(((i+c*y:Nat):Int)-(i:Int))=(c:Int)*(y:Int) by rw[Int.natCast_add,zFh];omega];exact Int.mul_tdiv_cancel _ zB
   have ar:bZ .i64 ((((m.args.map iA).length:Int)-(i:Int)).tdiv (y:Int)):=by rw[hq];exact⟨zB,zB⟩
   have e:aV i y c i (x::post)=[(c:Int)]++(jI x++aV i y c (i+1) post):=by rw[aV,Os ⟨rfl,C⟩]
   rw[e]at A;clear e I hc;generalize jI x=R at *;refine yB (xH G V) ?_;refine⟨u++[(c:Int)]++R,⟨by simp;omega,λp h=>by rw[z p h,<-A];simp⟩,?_⟩;rw[zAd,zAd,<-hq];rfl
  .have e:aV B y c i (x::post)=jI x++aV B y c (i+1) post:=by rw[aV,hW E];rfl
   rw[e]at A;clear e hc;generalize jI x=R at *;by_cases W:i=B
   .have C:y=0:=by
     by_cases h:y=0
     .exact h
     .exact absurd ⟨W,h⟩ E
    refine yB (xH G V) ?_;refine⟨u++R,⟨by simp;omega,λp h=>by rw[z p h,<-A];simp⟩,?_⟩;rw[zAd];rfl
   ·(refine yB (xH G V) ?_)
    refine⟨u++R,⟨by simp;omega,λp h=>by rw[z p h,<-A];simp⟩,?_⟩;rw[zAd];rfl
 .rintro st ⟨u,⟨q0,q1⟩,rfl⟩;have e:=q1 [] yE;rw[show aV B y c (ln m.args) []=[]from rfl,zA6]at e;subst e;have L:=zA yA u;clear q1 hT hc;by_cases S:y≠0/\m.args.length=B
  .rw[Os S];obtain⟨O,Y⟩:=S;refine WW ?_;refine zH [] Z Z ?_ Z
   show AV.sl false ((u.map yA++[yA 0]++m.data.map yA).take (u.map yA++[yA 0]++m.data.map yA).length)=_
   rw[zAa];unfold zE;rw[zAd,zAd,zA2];rfl
  .rw[hW S];by_cases O:y=0
   ·(refine WW ?_)
    refine zH [] Z Z ?_ Z
    show AV.sl false ((u.map yA++m.data.map yA).take (u.map yA++m.data.map yA).length)=_
    rw[zAa];unfold zE;rw[zAd];rfl
   .have Y:ln m.args≠B:=λh=>S ⟨O,h⟩
    refine WW ?_;refine zH [] Z Z ?_ Z
    show AV.sl false ((u.map yA++m.data.map yA).take (u.map yA++m.data.map yA).length)=_
    rw[zAa];unfold zE;rw[zAd];rfl
def C7 (p:Int×Int):AV:= .agg [iA p.1,iA p.2]
def qK (n:Int):List (Int×Int):=if n=0 then [(0,0),(0,0)]else if n=1 then [(0,0),(1,0),(0,1),(1,1)]else if n=2 then [(0,0),(1,0),(0,0)]
 else if n=3 then [(0,0),(0,0),(1,0),(1,0),(0,1),(0,1),(1,1),(1,1)]else if n=4 then [(1,0),(0,1),(0,2)]else [(0,0)]
def Ml (n:Int):zO 161 [iA n] [] (zE C7 (qK n)) []:=by
 by_cases u:n=0
 .subst u;refine eM call161 λF hF=>?_
  (repeat' (first|refine aK ?_|refine yY (λhc=>?_) λhc=>?_|fail))
  exact zI
 by_cases h1:n=1
 .subst h1;refine eM call161 λF hF=>?_
  (repeat' (first|refine aK ?_|refine yY (λhc=>?_) λhc=>?_|fail))
  exact zI
 by_cases h2:n=2
 .subst h2;refine eM call161 λF hF=>?_
  (repeat' (first|refine aK ?_|refine yY (λhc=>?_) λhc=>?_|fail))
  exact zI
 by_cases y:n=3
 .subst y;refine eM call161 λF hF=>?_
  (repeat' (first|refine aK ?_|refine yY (λhc=>?_) λhc=>?_|fail))
  exact zI
 by_cases z:n=4
 .subst z;refine eM call161 λF hF=>?_
  (repeat' (first|refine aK ?_|refine yY (λhc=>?_) λhc=>?_|fail))
  exact zI
 rw[show qK n=[(0,0)] by simp[qK,u,h1,h2,y,z]];refine eM call161 λF hF=>?_
 (repeat' (first|refine aK ?_|refine yY (λhc=>?_) λhc=>?_|fail))
 exact zI
instance:Inhabited (Int×Int):=⟨(0,0)⟩
def UU (d:Dk) (s:Int×Int):Ph:=
 if nx (ad (ad (ad d))) 3=2 then⟨s.1,s.2,1+nx d (3-1+1),max (1+nx d (3-1+1)) (1+nx (ad (ad (ad (ad d)))) (2-1+1)+(1+nx (ad (ad (ad (ad (ad d))))) (2-1+1)))+nx (ad (ad (ad (ad (ad (ad d)))))) 4,1+nx (ad d) (2-1+1),nx (ad (ad d)) 3,1+nx (ad (ad (ad (ad d)))) (2-1+1),1+nx (ad (ad (ad (ad (ad d))))) (2-1+1)⟩
 else⟨s.1,s.2,1+nx d (3-1+1),max (1+nx d (3-1+1)) (0+0)+nx (ad (ad (ad (ad d)))) 4,1+nx (ad d) (2-1+1),nx (ad (ad d)) 3,0,0⟩
def L3 (d:Dk):Dk:=if nx (ad (ad (ad d))) 3=2 then ad (ad (ad (ad (ad (ad (ad d))))))else ad (ad (ad (ad (ad d))))
def JQ (d:Dk) (l:List (Int×Int)):Nat->List Ph×Dk
 |0=>([],d)
 |i+1=>((JQ d l i).1++[UU (JQ d l i).2 (l.getD i dd)],L3 (JQ d l i).2)
theorem UV (d:Dk) (l:List (Int×Int)):∀i,(JQ d l i).1.length=i
 |0=>rfl
 |i+1=>by simp[JQ,UV d l i]
def uq (u:List Ph) (y:Bool) (i k:Nat):Bool:=i != k&&((u.getD i dd).ring==(u.getD k dd).ring||(u.getD i dd).group != (u.getD k dd).group||y&&((i:Int)+k).tmod 2==1)
def XG (y:List Ph) (u:Bool) (i:Nat):Nat->Int
 |0=>0
 |k+1=>if uq y u i k=true then XG y u i k+2 ^ k else XG y u i k
theorem OB (y:List Ph) (u:Bool) (i:Nat):∀k,0<=XG y u i k/\XG y u i k<2 ^ k
 |0=>by simp[XG]
 |k+1=>by
  have:=OB y u i k;have e:(2:Int) ^ (k+1)=2 ^ k*2:=zFc 2 k;unfold XG
  split<;>omega
def gS (u:List Ph) (y:Bool) (n:Nat):List Int:=(List.range n).map λi=>XG u y i (ln u)
def VQ (d:Dk):List Ph×Dk:=JQ (ad (ad d)) (qK (nx d 6)) (qK (nx d 6)).length
def MG (d:Dk):Jn:=⟨(VQ d).1,gS (VQ d).1 (nx (VQ d).2 4==3) (VQ d).1.length,nx (ad d) 3⟩
def F5 (d:Dk):Dk:=ad (VQ d).2
def MH (n:Int):1<=(qK n).length/\(qK n).length<=8:=by
 unfold qK
 (repeat' split)<;>simp
def A8 (k:Nat) (h:k<8):IntKind.i64.wrap (1*2 ^ (min ((k:Int)).toNat IntKind.i64.bits))=2 ^ k/\(2:Int) ^ k<=128:=by
 obtain rfl|rfl|rfl|rfl|rfl|rfl|rfl|rfl:k=0\/k=1\/k=2\/k=3\/k=4\/k=5\/k=6\/k=7:=by omega
 all_goals decide
theorem Zb (d:Dk):zO 91 [.ptr 1000 0 0] [(1000,cB d)] (xC (MG d)) [(1000,cB (F5 d))]:=by
 have hb:=yN d 6 zB;have a1:=MH (nx d 6);have X:=Ml (nx d 6);have ej:MG d=⟨(VQ d).1,gS (VQ d).1 (nx (VQ d).2 4==3) (VQ d).1.length,nx (ad d) 3⟩:=rfl;have ed:F5 d=ad (VQ d).2:=rfl;have ep:VQ d=JQ (ad (ad d)) (qK (nx d 6)) (qK (nx d 6)).length:=rfl;rw[ej,ed];generalize VQ d=jp,qK (nx d 6)=l at *;have L:(l.map C7).length=ln l:=by simp
 refine eM call91 λF hF=>?_
 (repeat' (first|refine aK ?_|refine yY (λhc=>?_) λhc=>?_|(apply zG;apply xJ;(first|(refine vF 161 ?_;first|refine wO (zK (X) Z Z Z Z Z) Z ?_|refine qH (zK (X) Z Z Z Z Z) Z Z Z ?_|refine bX (zK (X) Z Z Z Z Z) Z Z Z ?_)|(refine vF 16 ?_;first|refine wO (zK (yR _ _ zB zB) Z Z Z Z Z) Z ?_|refine qH (zK (yR _ _ zB zB) Z Z Z Z Z) Z Z Z ?_|refine bX (zK (yR _ _ zB zB) Z Z Z Z Z) Z Z Z ?_)))|fail))
 refine uY 4 0 1001 8 Z Z Z Z Z ?_
 refine wH (λn st=>∃i:Nat,n+i=ln l/\st=⟨[(0,.ptr 1000 0 0),(2,.ptr 2 0 0),(4,.ptr 4 0 0),(20,zE C7 l),(21,iA (ln l)),(22,iA i)],
   [(1000,cB (JQ (ad (ad d)) l i).2),(2,.box [.s (.slice none 0 0),.s (.slice none 0 0),iA 0]),(4,.box [.ref 1001 0 ((JQ (ad (ad d)) l i).1.map yU).length,.s (.slice none 0 0),iA (nx (ad d) 3)]),(1001,.arr 8 ((JQ (ad (ad d)) l i).1.map yU) true)]⟩)
  (ln l) [1000,2,4,1001] [0,2,4,20,21,22] Z ⟨0,rfl,by rw[<-L];rfl⟩ ?_
 rintro n st ⟨i,hi,rfl⟩;by_cases O:i<ln l
 .have S:=yC C7 l i zB zB;rw[show((i:Int)).toNat=i from Z]at S;have G:(JQ (ad (ad d)) l (i+1)).1.map yU=(JQ (ad (ad d)) l i).1.map yU++[yU (UU (JQ (ad (ad d)) l i).2 (l.getD i dd))]:=zAd;have hd:(JQ (ad (ad d)) l (i+1)).2=L3 (JQ (ad (ad d)) l i).2:=rfl;have ac:=UV (ad (ad d)) l i;generalize l.getD i dd=p at *;obtain⟨W,p2⟩:=p;generalize R:JQ (ad (ad d)) l (i+1)=q' at G hd;generalize JQ (ad (ad d)) l i=q at *;obtain⟨ql,y⟩:=q;dsimp only at G hd ac⊢;have b0:=yN y (3-1+1) zB;have b1:=yN (ad (ad (ad (ad y)))) 4 zB;have b2:=yN (ad (ad (ad (ad y)))) (2-1+1) zB;have b3:=yN (ad (ad (ad (ad (ad y))))) (2-1+1) zB;have b4:=yN (ad (ad (ad (ad (ad (ad y)))))) 4 zB;by_cases U:nx (ad (ad (ad y))) 3=2
  .rw[show UU y (W,p2)=⟨W,p2,1+nx y (3-1+1),max (1+nx y (3-1+1)) (1+nx (ad (ad (ad (ad y)))) (2-1+1)+(1+nx (ad (ad (ad (ad (ad y))))) (2-1+1)))+nx (ad (ad (ad (ad (ad (ad y)))))) 4,1+nx (ad y) (2-1+1),nx (ad (ad y)) 3,1+nx (ad (ad (ad (ad y)))) (2-1+1),1+nx (ad (ad (ad (ad (ad y))))) (2-1+1)⟩ by unfold UU;rw[Os U]]at G;rw[show L3 y=ad (ad (ad (ad (ad (ad (ad y)))))) by unfold L3;rw[Os U]]at hd
   (repeat' (first|refine aK ?_|refine yY (λhc=>?_) λhc=>?_|(apply zG;apply xJ;(first|(refine vF 68 ?_;first|refine wO (zK (jD _ _ _ zB zB zB) Z Z Z Z Z) Z ?_|refine qH (zK (jD _ _ _ zB zB zB) Z Z Z Z Z) Z Z Z ?_|refine bX (zK (jD _ _ _ zB zB zB) Z Z Z Z Z) Z Z Z ?_)|(refine vF 16 ?_;first|refine wO (zK (yR _ _ zB zB) Z Z Z Z Z) Z ?_|refine qH (zK (yR _ _ zB zB) Z Z Z Z Z) Z Z Z ?_|refine bX (zK (yR _ _ zB zB) Z Z Z Z Z) Z Z Z ?_)))|fail))
   exact⟨n-1,zB,i+1,zB,by rw[R,G,hd];rfl⟩
  .rw[show UU y (W,p2)=⟨W,p2,1+nx y (3-1+1),max (1+nx y (3-1+1)) (0+0)+nx (ad (ad (ad (ad y)))) 4,1+nx (ad y) (2-1+1),nx (ad (ad y)) 3,0,0⟩ by unfold UU;rw[hW U]]at G;rw[show L3 y=ad (ad (ad (ad (ad y)))) by unfold L3;rw[hW U]]at hd
   (repeat' (first|refine aK ?_|refine yY (λhc=>?_) λhc=>?_|(apply zG;apply xJ;(first|(refine vF 68 ?_;first|refine wO (zK (jD _ _ _ zB zB zB) Z Z Z Z Z) Z ?_|refine qH (zK (jD _ _ _ zB zB zB) Z Z Z Z Z) Z Z Z ?_|refine bX (zK (jD _ _ _ zB zB zB) Z Z Z Z Z) Z Z Z ?_)|(refine vF 16 ?_;first|refine wO (zK (yR _ _ zB zB) Z Z Z Z Z) Z ?_|refine qH (zK (yR _ _ zB zB) Z Z Z Z Z) Z Z Z ?_|refine bX (zK (yR _ _ zB zB) Z Z Z Z Z) Z Z Z ?_)))|fail))
   exact⟨n-1,zB,i+1,zB,by rw[R,G,hd];rfl⟩
 obtain rfl:i=ln l:=by omega
 have ag:jp.1.length=ln l:=by rw[ep];exact UV _ _ _
 rw[<-ep];clear ep ej ed X L hi O;obtain⟨u,Y⟩:=jp;dsimp only at ag⊢;have M:(u.map yU).length=ln u:=by simp
 generalize nx (ad d) 3=V
 (repeat' (first|refine aK ?_|refine yY (λhc=>?_) λhc=>?_|(apply zG;apply xJ;(first|(refine vF 16 ?_;first|refine wO (zK (yR _ _ zB zB) Z Z Z Z Z) Z ?_|refine qH (zK (yR _ _ zB zB) Z Z Z Z Z) Z Z Z ?_|refine bX (zK (yR _ _ zB zB) Z Z Z Z Z) Z Z Z ?_)))|fail))
 generalize nx Y 4=n4
 refine kX (st':=⟨[(0,.ptr 1000 0 0),(2,.ptr 2 0 0),(4,.ptr 4 0 0),(8,bA (n4==3)),(69,zE yU u),(70,iA (ln u)),(71,iA 0)],
   [(1000,cB (ad Y)),(2,.box [.s (.slice none 0 0),.s (.slice none 0 0),iA 0]),(4,.box [zE yU u,.s (.slice none 0 0),iA V])]⟩) [1000,2,4] [0,2,4,8,69,70,71] Z (by
  have e1:zE yU u= .sl false (pg (u.map yU).length (pi 0 (u.map yU))):=by
   rw[zAr,zAa];rfl
  rw[e1,<-M]
  rfl) ?_
 generalize (n4==3)=z;generalize ad Y=dk;refine uY 4 1 1002 1 Z Z Z Z Z ?_
 refine wH (λn st=>∃i:Nat,n+i=ln u/\st=⟨[(0,.ptr 1000 0 0),(2,.ptr 2 0 0),(4,.ptr 4 0 0),(8,bA z),(69,zE yU u),(70,iA (ln u)),(71,iA i)],
   [(1000,cB dk),(2,.box [.s (.slice none 0 0),.s (.slice none 0 0),iA 0]),(4,.box [zE yU u,.ref 1002 0 ((gS u z i).map iA).length,iA V]),(1002,.arr 1 ((gS u z i).map iA) true)]⟩)
  (ln u) [1000,2,4,1002] [0,2,4,8,69,70,71] Z ⟨0,rfl,rfl⟩ ?_
 clear n;rintro n st ⟨i,hi,rfl⟩;by_cases O:i<ln u
 .have S:=yC yU u i zB zB;rw[show((i:Int)).toNat=i from Z]at S;have ht:(gS u z (i+1)).map iA=(gS u z i).map iA++[iA (XG u z i (ln u))]:=by unfold gS;rw[zB4];simp
  have ar:(gS u z i).length=i:=by simp[gS]
  obtain⟨p,hp⟩:∃p,u.getD i dd=p:=⟨_,rfl⟩;rw[hp]at S;obtain⟨B,E⟩:∃r,gS u z i=r:=⟨_,rfl⟩;rw[E]at ht ar⊢
  (repeat' (first|refine aK ?_|refine yY (λhc=>?_) λhc=>?_|fail))
  refine wH (λn st=>∃k:Nat,n+k=ln u/\st=⟨[(0,.ptr 1000 0 0),(2,.ptr 2 0 0),(4,.ptr 4 0 0),(8,bA z),(9,iA i),(10,.ptr 10 0 0),(11,iA (XG u z i k)),(69,zE yU u),(70,iA (ln u)),(71,iA i),(77,zE yU u),(78,iA (ln u)),(79,iA k)],
    [(1000,cB dk),(2,.box [.s (.slice none 0 0),.s (.slice none 0 0),iA 0]),(4,.box [zE yU u,.ref 1002 0 (B.map iA).length,iA V]),(10,.box [iA p.ring,iA p.group,iA p.ming,iA p.maxg,iA p.yel,iA p.red,iA p.walk,iA p.clear]),(1002,.arr 1 (B.map iA) true)]⟩)
   (ln u) [1000,2,4,10,1002] [0,2,4,8,9,10,11,69,70,71,77,78,79] Z ⟨0,rfl,by rw[<-M];rfl⟩ ?_
  rintro I st ⟨k,hk,rfl⟩;by_cases ax:k<ln u
  .have av:=yC yU u k zB zB;rw[show((k:Int)).toNat=k from Z]at av
   have A:XG u z i (k+1)=if uq u z i k=true then XG u z i k+2 ^ k else XG u z i k:=rfl
   have hc:uq u z i k=(i != k&&(p.ring==(u.getD k dd).ring||p.group != (u.getD k dd).group||z&&((i:Int)+k).tmod 2==1)):=by rw[<-hp];rfl
   obtain⟨hw,au⟩:=A8 k zB;obtain⟨az,hr1⟩:=OB u z i k;have ap:0<=(2:Int) ^ k:=by omega
   rw[show(2:Int) ^ k=p2 k from Z]at A hr1 ap au;clear hw;generalize u.getD k dd=q at *;by_cases C:i=k
   .rw[hW (by rw[hc];simp[C])]at A;clear hc;subst C
    (repeat' (first|refine aK ?_|refine yY (λhc=>?_) λhc=>?_|fail))
    exact⟨I-1,zB,i+1,zB,by rw[A];rfl⟩
   by_cases h1:p.ring=q.ring
   .rw[Os (by rw[hc];simp[C,h1])]at A;clear hc
    (repeat' (first|refine aK ?_|refine yY (λhc=>?_) λhc=>?_|fail))
    exact⟨I-1,zB,k+1,zB,by rw[A];rfl⟩
   by_cases h2:p.group=q.group
   .cases z with
    |false=>
     rw[hW (by rw[hc];simp[C,h1,h2])]at A;clear hc
     (repeat' (first|refine aK ?_|refine yY (λhc=>?_) λhc=>?_|fail))
     exact⟨I-1,zB,k+1,zB,by rw[A];rfl⟩
    | true=>
     by_cases h3:((i:Int)+k).tmod 2=1
     .rw[Os (by rw[hc];simp[C,h1,h2,h3])]at A;clear hc
      (repeat' (first|refine aK ?_|refine yY (λhc=>?_) λhc=>?_|fail))
      exact⟨I-1,zB,k+1,zB,by rw[A];rfl⟩
     .rw[hW (by rw[hc];simp[C,h1,h2,h3])]at A;clear hc
      (repeat' (first|refine aK ?_|refine yY (λhc=>?_) λhc=>?_|fail))
      exact⟨I-1,zB,k+1,zB,by rw[A];rfl⟩
   .rw[Os (by rw[hc];simp[C,h1,h2])]at A;clear hc
    (repeat' (first|refine aK ?_|refine yY (λhc=>?_) λhc=>?_|fail))
    exact⟨I-1,zB,k+1,zB,by rw[A];rfl⟩
  .obtain rfl:k=ln u:=by omega
   have hr:=OB u z i (ln u)
   (repeat' (first|refine aK ?_|refine yY (λhc=>?_) λhc=>?_|fail))
   exact⟨n-1,zB,i+1,zB,by rw[ht];rfl⟩
 obtain rfl:i=ln u:=by omega
 (repeat' (first|refine aK ?_|refine yY (λhc=>?_) λhc=>?_|fail))
 exact zV [1000] Z Z (zAt (λx=>AV.agg [zE yU u,AV.sl false x,iA V]) zAa) Z
def Qw (d:Dk):Dk:=ad (ad (ad (ad d)))
def LM (d:Dk):Nat->List Jn×Dk
 |0=>([],d)
 |i+1=>((LM d i).1++[MG (LM d i).2],F5 (LM d i).2)
def TR (d:Dk) (u:Int):Nat->List Ag×Dk
 |0=>([],d)
 |i+1=>((TR d u i).1++[wn (TR d u i).2 i u],ad (nq (TR d u i).2))
theorem OC (d:Dk):∀i,(LM d i).1.length=i
 |0=>rfl
 |i+1=>by simp[LM,OC d i]
theorem cO (d:Dk) (u:Int):∀i,(TR d u i).1.length=i
 |0=>rfl
 |i+1=>by simp[TR,cO d u i]
def oz (d:Dk) (u:Int) (i:Nat):(TR d u (i+1)).2=ad (nq (TR d u i).2):=by simp only[TR]
def Ll (d:Dk) (u:Int) (i:Nat):(TR d u (i+1)).1=(TR d u i).1++[wn (TR d u i).2 i u]:=by simp only[TR]
def J3 (d:Dk):Nat:=(1+nx (Qw d) 2).toNat
def tg (d:Dk):List Jn×Dk:=LM (ad (Qw d)) (J3 d)
def nz (d:Dk):Nat:=(1+nx (tg d).2 3).toNat
def mz (d:Dk) (u:Int):List Ag×Dk:=TR (ad (tg d).2) u (nz d)
def GF (d:Dk) (u:Int):Cf:=⟨(tg d).1,(mz d u).1,1+nx d (4-1+1),nx (ad d) 4,1+nx (ad (ad d)) (3-1+1),nx (ad (ad (ad d))) 5⟩
def w9 (d:Dk) (u:Int):Dk:=(mz d u).2
theorem Kl (d:Dk) (u:Int):zO 40 [.ptr 1000 0 0,iA u] [(1000,cB d)] (vL (GF d u)) [(1000,cB (w9 d u))]:=by
 have hn:=yN (Qw d) 2 zB;have hm:=yN (tg d).2 3 zB;have en:1+nx (Qw d) 2=(J3 d:Int):=(zDz zB).symm;have em:1+nx (tg d).2 3=(nz d:Int):=(zDz zB).symm;have ej:tg d=LM (ad (Qw d)) (J3 d):=rfl;have Y:mz d u=TR (ad (tg d).2) u (nz d):=rfl;have ef:GF d u=⟨(tg d).1,(mz d u).1,1+nx d (4-1+1),nx (ad d) 4,1+nx (ad (ad d)) (3-1+1),nx (ad (ad (ad d))) 5⟩:=rfl;have ed:w9 d u=(mz d u).2:=rfl;rw[ef,ed];unfold Qw at *;generalize tg d=jj,mz d u=gg,J3 d=N,nz d=M at *;have jc:=λi=>Zb (LM (ad (ad (ad (ad (ad d))))) i).2
 refine eM call40 λF hF=>?_
 (repeat' (first|refine aK ?_|refine yY (λhc=>?_) λhc=>?_|(apply zG;apply xJ;(first|(refine vF 68 ?_;first|refine wO (zK (jD _ _ _ zB zB zB) Z Z Z Z Z) Z ?_|refine qH (zK (jD _ _ _ zB zB zB) Z Z Z Z Z) Z Z Z ?_|refine bX (zK (jD _ _ _ zB zB zB) Z Z Z Z Z) Z Z Z ?_)|(refine vF 16 ?_;first|refine wO (zK (yR _ _ zB zB) Z Z Z Z Z) Z ?_|refine qH (zK (yR _ _ zB zB) Z Z Z Z Z) Z Z Z ?_|refine bX (zK (yR _ _ zB zB) Z Z Z Z Z) Z Z Z ?_)))|fail))
 generalize nx d (4-1+1)=R,nx (ad d) 4=S,nx (ad (ad d)) (3-1+1)=U,nx (ad (ad (ad d))) 5=V,nx (ad (ad (ad (ad d)))) 2=L,ad (ad (ad (ad (ad d))))=B at *;refine uY 5 0 1001 3 Z Z Z Z Z ?_
 refine wH (λn st=>∃i:Nat,n+i=N/\st=⟨[(0,.ptr 1000 0 0),(1,iA u),(4,.ptr 4 0 0),(5,.ptr 5 0 0),(6,iA (1+L-i))],
   [(1000,cB (LM B i).2),(4,.box [.s (.slice none 0 0),.s (.slice none 0 0),iA 0,iA 0,iA 0,iA 0]),(5,.box [.ref 1001 0 ((LM B i).1.map xC).length,.s (.slice none 0 0),iA (1+R),iA S,iA (1+U),iA V]),(1001,.arr 3 ((LM B i).1.map xC) true)]⟩)
  N [1000,4,5,1001] [0,1,4,5,6] Z ⟨0,rfl,by rw[show 1+L-(0:Nat)=1+L by omega];rfl⟩ ?_
 rintro n st ⟨i,hi,rfl⟩;by_cases G:i<N
 .have z:(LM B (i+1)).1.map xC=(LM B i).1.map xC++[xC (MG (LM B i).2)]:=zAd;have y:(LM B (i+1)).2=F5 (LM B i).2:=rfl;have c:=jc i;have E:=OC B i;generalize I:LM B (i+1)=q' at z y;generalize LM B i=q at *;obtain⟨ql,O⟩:=q;dsimp only at z y E c⊢;generalize MG O=jf,F5 O=jd at *;refine zP c ?_;exact⟨n-1,zB,i+1,zB,by rw[I,z,y,show 1+L-((i+1:Nat):Int)=1+L-i-1 by omega];rfl⟩
 obtain rfl:i=N:=by omega
 have ap:jj.1.length=i:=by rw[ej];exact OC _ _
 rw[<-ej];clear ej jc ef ed;obtain⟨C,W⟩:=jj;dsimp only at *;have ar:(C.map xC).length=ln C:=by simp
 have ag:=cO (ad W) u M;have X:=λk (hk:k<M)=>vn (TR (ad W) u k).2 k u zB zB
 rw[<-Y]at ag
 (repeat' (first|refine aK ?_|refine yY (λhc=>?_) λhc=>?_|(apply zG;apply xJ;(first|(refine vF 16 ?_;first|refine wO (zK (yR _ _ zB zB) Z Z Z Z Z) Z ?_|refine qH (zK (yR _ _ zB zB) Z Z Z Z Z) Z Z Z ?_|refine bX (zK (yR _ _ zB zB) Z Z Z Z Z) Z Z Z ?_)))|fail))
 generalize nx W 3=n3,ad W=A at *
 refine kX (st':=⟨[(0,.ptr 1000 0 0),(1,iA u),(4,.ptr 4 0 0),(5,.ptr 5 0 0),(33,iA (1+n3)),(34,iA 0)],
   [(1000,cB A),(4,.box [.s (.slice none 0 0),.s (.slice none 0 0),iA 0,iA 0,iA 0,iA 0]),(5,.box [zE xC C,.s (.slice none 0 0),iA (1+R),iA S,iA (1+U),iA V])]⟩) [1000,4,5] [0,1,4,5,33,34] Z (by
  have e1:zE xC C= .sl false (pg (C.map xC).length (pi 0 (C.map xC))):=by
   rw[zAr,zAa];rfl
  rw[e1]
  rfl) ?_
 refine uY 5 1 1002 8 Z Z Z Z Z ?_
 refine wH (λn st=>∃k:Nat,n+k=M/\st=⟨[(0,.ptr 1000 0 0),(1,iA u),(4,.ptr 4 0 0),(5,.ptr 5 0 0),(33,iA (1+n3)),(34,iA k)],
   [(1000,cB (TR A u k).2),(4,.box [.s (.slice none 0 0),.s (.slice none 0 0),iA 0,iA 0,iA 0,iA 0]),(5,.box [zE xC C,.ref 1002 0 ((TR A u k).1.map wP).length,iA (1+R),iA S,iA (1+U),iA V]),(1002,.arr 8 ((TR A u k).1.map wP) true)]⟩)
  M [1000,4,5,1002] [0,1,4,5,33,34] Z ⟨0,rfl,rfl⟩ ?_
 clear n hi G;rintro n st ⟨k,hk,rfl⟩;by_cases G:k<M
 .have z:(TR A u (k+1)).1.map wP=(TR A u k).1.map wP++[wP (wn (TR A u k).2 k u)]:=by rw[Ll];exact zAd
  have y:(TR A u (k+1)).2=ad (nq (TR A u k).2):=oz A u k;have c:=X k G;have E:=cO A u k;clear X;generalize I:TR A u (k+1)=q' at z y;generalize TR A u k=q at *;obtain⟨ql,O⟩:=q;dsimp only at z y E c⊢;generalize wn O k u=jf,ad (nq O)=jd at *;refine zP c ?_;exact⟨n-1,zB,k+1,zB,by rw[I,z,y];rfl⟩
 obtain rfl:k=M:=by omega
 rw[<-Y];clear Y X;refine WW ?_;exact zV [1000] Z Z (zAt (λx=>AV.agg [zE xC C,AV.sl false x,iA (1+R),iA S,iA (1+U),iA V]) zAa) Z
def FW (c:Cf):Prop:=ln c.js<=4/\∀j∈c.js,1<=ln j.ph/\j.ph.length<=8
theorem FW.at (h:FW c) {j:Int} (u:0<=j) (h1:j<((c.js.map xC).length:Int)):1<=(c.js.getD j.toNat dd).ph.length/\(c.js.getD j.toNat dd).ph.length<=8:=by grind [FW,xC]
def qJ (c:Cf) (e:Dk) (k:Nat):Int:=Int.tmod (nx e 3+k) (max 1 (((c.js.map xC).length:Int)+(nx (ad e) 12).tdiv 11))
def qP (c:Cf) (j:Int):Int:=if j<((c.js.map xC).length:Int)then(((c.js.getD j.toNat dd).ph.map yU).length:Int)else 2
theorem GG (x:Int) (h:0<=x/\x<12):0<=x.tdiv 11/\x.tdiv 11<=1/\bZ .i64 (x.tdiv 11):=by grind [bZ]
theorem Jl (a b:Int) (u:0<=a) (h1:1<=b) (h2:b<=1000):0<=a.tmod b/\a.tmod b<=1000/\bZ .i64 (a.tmod b):=by
 have:=zFi b u;have y:a.tmod b<b:=zE0 a zB
 grind [bZ]
def D5 (h:FW c) (e:Dk) (k:Nat):0<=qJ c e k/\qJ c e k<=1000:=by
 have A:=yN e 3 zB;have w2:=yN (ad e) 12 zB;obtain⟨z,y,u⟩:=GG _ w2;have h1:=h.1;have h2:(c.js.map xC).length=ln c.js:=f7 ..;have:=Jl (nx e 3+k) (max 1 (((c.js.map xC).length:Int)+(nx (ad e) 12).tdiv 11)) zB zB zB
 grind [FW,Dk,qJ]
def C5 (h:FW c) {j:Int} (u:0<=j):1<=qP c j/\qP c j<=8:=by grind [FW,qP]
def CW (c:Cf) (k:Nat) (l:List Int) (e:Dk):List Int×Dk:=
 (l++[qJ c e k,nx (ad (ad (ad (ad e)))) (qP c (qJ c e k)+(nx (ad (ad (ad e))) 12).tdiv 11),nx (ad (ad e)) 3,nx (ad (ad e)) 3+nx (ad (ad (ad (ad (ad e))))) 50],ad (ad (ad (ad (ad (ad e))))))
def aW (c:Cf) (l:List Int) (d:Dk):Nat->List Int×Dk
 |0=>(l,d)
 |i+1=>CW c i (aW c l d i).1 (aW c l d i).2
def SY (l:List Int):Prop:=∀x∈l,0<=x/\x<=4294967295
theorem SY.app {a b:List Int} (h1:SY a) (h2:SY b):SY (a++b):=λx hx=>(zAy.1 hx).elim (h1 x) (h2 x)
theorem SY.cons {x:Int} {b:List Int} (h1:0<=x/\x<=4294967295) (h2:SY b):SY (x::b):=λy u=>(zBx.1 u).elim (λe=>e▸h1) (h2 y)
theorem SY.nil:SY []:=λx hx=>by cases hx
theorem Yb (hc:FW c) (l:List Int) (hl:SY l) (d:Dk):∀i,(aW c l d i).1.length=ln l+i*4/\rem (aW c l d i).2<=rem d/\SY (aW c l d i).1
 |0=>⟨rfl,zAe _,hl⟩
 |i+1=>by
  have u:=Yb hc l hl d i
  show(CW c i _ _).1.length=_/\rem (CW c i _ _).2<=_/\SY (CW c i _ _).1
  generalize (aW c l d i).2=e at *;have z:=wX e;have A:=wX (ad e);have B:=wX (ad (ad e));have C:=wX (ad (ad (ad e)));have E:=wX (ad (ad (ad (ad e))));have G:=wX (ad (ad (ad (ad (ad e)))));have j1:=D5 hc e i;have j2:=C5 hc j1.1;have M:=yN (ad (ad e)) 3 zB;have y:=yN (ad (ad (ad e))) 12 zB;have R:=yN (ad (ad (ad (ad (ad e))))) 50 zB;obtain⟨L,I,_⟩:=GG _ y;have O:=yN (ad (ad (ad (ad e)))) (qP c (qJ c e i)+(nx (ad (ad (ad e))) 12).tdiv 11) zB;refine⟨by simp only[CW,zAf,zAp,zBq];omega,by simp only[CW];omega,?_⟩;exact u.2.2.app (.cons zB (.cons zB (.cons zB (.cons zB .nil))))
theorem yt (c:Cf) (hc:FW c) (l:List Int) (hl:ln l<=1000) (hn:SY l) (d:Dk):zO 67 [.ptr 1000 0 0,vL c,.ref 107 0 (l.map iA).length] [(1000,cB d),(107,.arr 1 (l.map iA) false)] (.ref 107 0 ((aW c l (ad d) (1+(nx d 2).toNat)).1.map iA).length) [(1000,cB (aW c l (ad d) (1+(nx d 2).toNat)).2),(107,.arr 1 ((aW c l (ad d) (1+(nx d 2).toNat)).1.map iA) true)]:=by
 have X:=yR d 2 zB zB;have b1:=yN d 2 zB;generalize nx d 2=n,ad d=y at *;obtain⟨N,hN⟩:∃N:Nat,1+n.toNat=N:=⟨_,rfl⟩;have ac:1+n=(N:Int):=by omega
 rw[hN];have ar:=hc.1;have ap:(c.js.map xC).length=ln c.js:=f7 ..;unfold vL zE;refine eM call67 λF hF=>?_
 refine zP X ?_;refine vY 107 Z ?_;refine zM (N) [1000,107,4] [4] [0,4,15] [2,16,0,4,15] Z (λi T U=>⟨(2,.ref 107 0 ((aW c l y i).1.map iA).length)::(16,iA i)::T,(1000,cB (aW c l y i).2)::(107,.arr 1 ((aW c l y i).1.map iA) true)::U⟩) (Lq ?_ ?_)
 .intro i hi;have hl:=(Yb hc l hn y i).1;have B:aW c l y (i+1)=CW c i (aW c l y i).1 (aW c l y i).2:=rfl;unfold CW at B;generalize (aW c l y i).1=p at *;generalize (aW c l y i).2=e at *;have ag:(i:Int)<=1:=by omega
  have L:=yR e 3 zB zB;have M:=yR (ad e) 12 zB zB;have O:=yR (ad (ad e)) 3 zB zB;have R:=yR (ad (ad (ad e))) 12 zB zB;have w1:=yN e 3 zB;have w2:=yN (ad e) 12 zB;have w3:=yN (ad (ad e)) 3 zB;have w4:=yN (ad (ad (ad e))) 12 zB;obtain⟨v2,u2,i2⟩:=GG _ w2;obtain⟨v4,u4,i4⟩:=GG _ w4;have C:=D5 hc e i;have E:=C5 hc C.1;have A:=yR (ad (ad (ad (ad e)))) (qP c (qJ c e i)+(nx (ad (ad (ad e))) 12).tdiv 11) zB zB;have S:=yR (ad (ad (ad (ad (ad e))))) 50 zB zB;have w6:=yN (ad (ad (ad (ad (ad e))))) 50 zB;generalize I:nx (ad (ad (ad (ad e)))) (qP c (qJ c e i)+(nx (ad (ad (ad e))) 12).tdiv 11)=x5 at *;clear I;have z:=λh=>yC xC c.js (qJ c e i) C.1 h
  have u:=λh=>hc.at (c:=c) (j:=qJ c e i) C.1 h
  have G:1<=max 1 (((c.js.map xC).length:Int)+(nx (ad e) 12).tdiv 11)/\max 1 (((c.js.map xC).length:Int)+(nx (ad e) 12).tdiv 11)<=1000:=by omega
  have tb:=Jl (nx e 3+i) _ zB G.1 G.2;unfold qP at A E;unfold qJ at A B C z u E;rw[B];clear B hc;generalize nx (ad (ad (ad (ad (ad e))))) 50=x6,nx (ad (ad (ad e))) 12=x4,nx (ad (ad e)) 3=x3,nx (ad e) 12=W,nx e 3=V at *;generalize ad e=e1 at *;generalize ad e1=Y at *;generalize ad Y=e3 at *;generalize ad e3=e4 at *;generalize ad e4=e5 at *;generalize ad e5=e6 at *;obtain⟨au,av⟩:=G;obtain⟨az,a1,a2⟩:=tb;by_cases hj:Int.tmod (V+i) (max 1 (((c.js.map xC).length:Int)+W.tdiv 11))<((c.js.map xC).length:Int)
  .rw[Os hj]at A E;have hy:=z zB;have hz:=u hj;clear z u;generalize c.js.getD (Int.tmod (V+i) (max 1 (((c.js.map xC).length:Int)+W.tdiv 11))).toNat dd=J at *;have ax:(J.ph.map yU).length=ln J.ph:=f7 ..;unfold xC zE at hy;generalize J.ph.map yU=P at *;generalize J.cf.map iA=Cz at *;refine yB (BJ L M O R A S) ?_
   show restr _ _ _=_
   rw[zAd];rfl
  .rw[hW hj]at A E;clear z u;refine yB (BJ L M O R A S) ?_
   show restr _ _ _=_
   rw[zAd];rfl
 ·(refine WW ?_)
  exact zV [1000,107] Z Z Z Z
def Xb (g:Int) (d:Dk):List Int×Dk:=
 if nx d 9=7 then(g::nx (ad d) 4::eV (2000+10*g+nx (ad (ad d)) 3),ad (ad (ad d)))
 else if nx d 9=8 then(nx (ad d) 3::0::eV (1000+nx (ad (ad d)) 3),ad (ad (ad d)))
 else(g::0::eV (1000+g),ad d)
theorem lz (g:Int) (u:0<=g/\g<256) (d:Dk):BY (Xb g d).1/\rem (Xb g d).2<=rem d:=by grind [Dk,BY,Xb,rem,wX,ad,yN,ym,UX]
def xt (q:Int):Int:=if q=1 then 4 else if q=3 then 7 else 6
theorem vt (q:Int) (h:0<=q/\q<4):([AV.s (.int .i64 6),AV.s (.int .i64 4),AV.s (.int .i64 6),AV.s (.int .i64 7)]:List AV)[q.toNat]? =some (AV.s (.int .i64 (xt q))):=by grind [xt]
def ig (k:Int) (d:Dk):Int×Dk:=if nx d 2=0 then(xt (nx (ad d) 4),ad (ad d))else(k,ad d)
theorem rz (k:Int) (hk:1<=k/\k<=12) (d:Dk):(1<=(ig k d).1/\(ig k d).1<=12)/\rem (ig k d).2<=rem d:=by grind [Dk,ig,rem,wX,ad,xt]
def CX (l:List Int) (d:Dk):List Int×Dk:=(l++[nx d 3,nx d 3+nx (ad d) 40],ad (ad d))
def WX (l:List Int) (d:Dk):Nat->List Int×Dk
 |0=>(l,d)
 |i+1=>CX (WX l d i).1 (WX l d i).2
theorem Wb (l:List Int) (hl:SY l) (d:Dk):∀i,(WX l d i).1.length=ln l+i*2/\rem (WX l d i).2<=rem d/\SY (WX l d i).1
 |0=>⟨rfl,zAe _,hl⟩
 |i+1=>by
  have u:=Wb l hl d i
  show(CX _ _).1.length=_/\rem (CX _ _).2<=_/\SY (CX _ _).1
  generalize (WX l d i).2=e at *;have y:=wX e;have z:=wX (ad e);have A:=yN e 3 zB;have w2:=yN (ad e) 40 zB;refine⟨by simp only[CX,zAf,zAp,zBq];omega,by simp only[CX];omega,?_⟩;exact u.2.2.app (.cons zB (.cons zB .nil))
def Zg (q:Int):Int:=if q=0 then 63 else if q=1 then 1 else if q=2 then 3 else if q=3 then 47 else 64
def Vb (q:Int):Int:=if q=0 then 0 else if q=1 then 5 else if q=2 then 30 else 700
def ut (q:Int) (h:0<=q/\q<5):([AV.s (.int .i64 63),AV.s (.int .i64 1),AV.s (.int .i64 3),AV.s (.int .i64 47),AV.s (.int .i64 64)]:List AV)[q.toNat]? =some (AV.s (.int .i64 (Zg q))):=by
 have:q=0\/q=1\/q=2\/q=3\/q=4:=by omega
 rcases this with rfl|rfl|rfl|rfl|rfl<;>rfl
theorem qt (q:Int) (h:0<=q/\q<4):([AV.s (.int .i64 0),AV.s (.int .i64 5),AV.s (.int .i64 30),AV.s (.int .i64 700)]:List AV)[q.toNat]? =some (AV.s (.int .i64 (Vb q))):=by grind [Vb]
def Ub (u:Cf) (k c:Int) (d:Dk):List Int×Dk:=
 if k=2 then([Zg (nx d 5),nx (ad d) 5,Vb (nx (ad (ad d)) 4)],ad (ad (ad d)))
 else if k=3\/k=8\/k=5\/k=10\/k=11 then([nx d 4],ad d)
 else if k=4 then([nx d 4,c],ad d)
 else if k=6 then aW u [nx d 4,nx (ad d) 4,1+nx (ad (ad d)) (60-1+1)] (ad (ad (ad (ad d)))) (1+(nx (ad (ad (ad d))) 2).toNat)
 else if k=7 then WX [nx d 4] (ad (ad d)) (1+(nx (ad d) 2).toNat)
 else([],d)
theorem Il (g:Int) (d:Dk):(Xb g d).1.length=10:=by grind [Dk,Xb,jT]
def iz {u:Cf} (hc:FW u) (k c:Int) (C:0<=c/\c<=10) (hk:1<=k/\k<=12) (d:Dk):rem (Ub u k c d).2<=rem d/\SY (Ub u k c d).1/\∃n:Nat,n<=2/\(wK k≠0->1<=n)/\(Ub u k c d).1.length=uD k+n*wK k:=by
 have L:=wX d;have M:=wX (ad d);have O:=wX (ad (ad d));have R:=wX (ad (ad (ad d)));have S:=yN d 4 zB;have w2:=yN (ad d) 4 zB;have U:=yN (ad (ad d)) (60-1+1) zB;have V:=yN (ad (ad (ad d))) 2 zB;have W:=yN (ad d) 2 zB;have X:=yN (ad d) 5 zB;have A:0<=Zg (nx d 5)/\Zg (nx d 5)<=64:=by unfold Zg;repeat' split;all_goals omega
 have B:0<=Vb (nx (ad (ad d)) 4)/\Vb (nx (ad (ad d)) 4)<=700:=by unfold Vb;repeat' split;all_goals omega
 unfold Ub;split
 .rename_i h;subst h;exact⟨by dsimp only;omega,.cons zB (.cons zB (.cons zB .nil)),0,zB,λh=>absurd Z h,rfl⟩
 split
 .rename_i h
  refine⟨by dsimp only;omega,.cons zB .nil,0,zB,λh2=>?_,?_⟩<;>rcases h with rfl|rfl|rfl|rfl|rfl
  all_goals first|rfl|exact absurd Z h2
 split
 .rename_i h;subst h;exact⟨by dsimp only;omega,.cons zB (.cons zB .nil),0,zB,λh=>absurd Z h,rfl⟩
 split
 .grind [FW,Dk,rem,Ub,SY,wK,uD,p2,Yb,nx,ad]
 split
 .rename_i h;subst h;obtain⟨y,p2,z⟩:=Wb [nx d 4] (.cons zB .nil) (ad (ad d)) (1+(nx (ad d) 2).toNat);exact⟨zB,z,_,zB,λ_=>by omega,y⟩
 .rename_i h1 h2 E G I;have:k=1\/k=9\/k=12:=by omega
  refine⟨zAe _,.nil,0,zB,λh2=>?_,?_⟩<;>rcases this with rfl|rfl|rfl
  all_goals first|rfl|exact absurd Z h2
structure Zz (m:Ms):Prop where
 t:BY m.tok
 l:m.tok.length=10
 k:1<=m.kind/\m.kind<=12
 n:SY m.args
 c:∃n:Nat,n<=2/\(wK m.kind≠0->1<=n)/\m.args.length=uD m.kind+n*wK m.kind
 d:m.data=[]
def F3 (u:Bool) (d:Dk):Int×Dk:=if u=true then(nx (ad d) 2,ad (ad d))else(nx d 4,ad d)
theorem B5 (u:Bool) (d:Dk):(0<=(F3 u d).1/\(F3 u d).1<=10)/\rem (F3 u d).2<=rem d:=by
 have y:=wX d;have z:=wX (ad d);have A:=yN d 4 zB;have w2:=yN (ad d) 2 zB
 grind [Dk,F3,rem]
theorem QJ (c:Cf) (hc:FW c) (g:Int) (hg:0<=g/\g<256) (X:Bool) (d:Dk):∃(m:Ms) (d':Dk),Zz m/\rem d'<=rem d/\zO 20 [.ptr 1000 0 0,vL c,iA g,bA X] [(1000,cB d)] (yO m) [(1000,cB d')]:=by
 have c1:=yR d 12 zB zB;have b1:=yN d 12 zB;have r1:=wX d;have ar:=fO (1000+g);have ag:=ZX g 0 (eV (1000+g)) (by rw[jT];omega) hg.1 hg.2 zB zB;generalize hx:nx d 12=x at *;generalize ad d=A at *;have hT:=lz g hg A;have ac:=Il g A;generalize C:Xb g A=v at *;obtain⟨L,Y⟩:=v;dsimp only at hT ac;have M:=rz (1+x) zB Y;generalize B:ig (1+x) Y=v at *;obtain⟨k,d3⟩:=v;dsimp only at M;have V:=B5 X d3;generalize G:F3 X d3=v at *;obtain⟨cl,y⟩:=v;dsimp only at V;have O:=iz hc k cl V.1 M.1 y;generalize u:Ub c k cl y=v at *;obtain⟨args,d5⟩:=v;dsimp only at O;refine⟨⟨k,L,args,[]⟩,d5,⟨hT.1,ac,M.1,O.2.1,O.2.2,rfl⟩,by have:=hT.2;have:=M.2;have:=V.2;have:=O.1;omega,?_⟩;clear ac;have n9:=yR A 9 zB zB;have ap:=yt c hc;unfold vL at *;rw[show zE xC c.js= .sl false (c.js.map xC)from Z,show zE wP c.ags= .sl false (c.ags.map wP)from Z]at *; generalize c.js.map xC=JS,c.ags.map wP=W at *;refine eM call20 λF hF=>?_
 (have gt:=c1;have gv:=n9;have ic:=ar;have io:=ag;(repeat' (first|refine Ch ?_|apply yY|apply xN|intro hc|(apply zG;first|refine SM ?_)|fail))<;>clear gt gv ic io)
 refine dV [1000,5,8,9] [0,2,3,5,8,9] ⟨[(0,.ptr 1000 0 0),(2,iA g),(3,bA X),(5,.ptr 5 0 0),(8,.ptr 8 0 0),(9,.ptr 9 0 0)],[(1000,cB Y),(5,.box [.sl false JS,.sl false W,iA c.per,iA c.cap,iA c.hold,iA c.lock]),(8,.box [iA 0,.s (.slice none 0 0),.s (.slice none 0 0),.s (.slice none 0 0)]),(9,.box [iA (1+x),zE yA L,.s (.slice none 0 0),.s (.slice none 0 0)])]⟩ rfl ?_ ?_
 .unfold Xb at C;by_cases h7:nx A 9=7
  .rw[Os h7]at C;cases C;have I:=yR (ad A) 4 zB zB;have E:=yR (ad (ad A)) 3 zB zB;have w1:=yN (ad A) 4 zB;have w2:=yN (ad (ad A)) 3 zB;have cs:=fO (2000+10*g+nx (ad (ad A)) 3);have cb:=ZX g (nx (ad A) 4) (eV (2000+10*g+nx (ad (ad A)) 3)) (by rw[jT];omega) hg.1 hg.2 zB zB;clear hT B;refine yB (cX I E cs cb) ?_;exact⟨rfl,rfl⟩
  rw[hW h7]at C;by_cases h8:nx A 9=8
  .rw[Os h8]at C;cases C;have I:=yR (ad A) 3 zB zB;have E:=yR (ad (ad A)) 3 zB zB;have w1:=yN (ad A) 3 zB;have w2:=yN (ad (ad A)) 3 zB;have cs:=fO (1000+nx (ad (ad A)) 3);have cb:=ZX (nx (ad A) 3) 0 (eV (1000+nx (ad (ad A)) 3)) (by rw[jT];omega) zB zB zB zB;clear hT B;refine yB (cX I E cs cb) ?_;exact⟨rfl,rfl⟩
  .rw[hW h8]at C;cases C;clear hT B;refine WW ?_;exact⟨rfl,rfl⟩
 clear C n9 c1 ar ag;have E:=yR Y 2 zB zB
 (have gt:=E;(repeat' (first|refine Ch ?_|apply yY|apply xN|intro hc|(apply zG;first|refine SM ?_)|fail))<;>clear gt)
 refine dV [1000,5,8,9] [0,2,3,5,8,9] ⟨[(0,.ptr 1000 0 0),(2,iA g),(3,bA X),(5,.ptr 5 0 0),(8,.ptr 8 0 0),(9,.ptr 9 0 0)],[(1000,cB d3),(5,.box [.sl false JS,.sl false W,iA c.per,iA c.cap,iA c.hold,iA c.lock]),(8,.box [iA 0,.s (.slice none 0 0),.s (.slice none 0 0),.s (.slice none 0 0)]),(9,.box [iA k,zE yA L,.s (.slice none 0 0),.s (.slice none 0 0)])]⟩ rfl ?_ ?_
 .unfold ig at B;have n3:=yR (ad Y) 4 zB zB;have w3:=yN (ad Y) 4 zB;have hy:=vt _ w3;have au:([AV.s (.int .i64 6),AV.s (.int .i64 4),AV.s (.int .i64 6),AV.s (.int .i64 7)]:List AV).length=4:=rfl;clear u G M;by_cases h0:nx Y 2=0
  .rw[Os h0]at B;cases B;refine zP n3 (I2 (λhc=>?_) λhc=>?_)
   all_goals first|(exfalso;omega;done)|exact⟨rfl,rfl⟩
  .rw[hW h0]at B;cases B;refine zP n3 (I2 (λhc=>?_) λhc=>?_)
   all_goals first|(exfalso;omega;done)|exact⟨rfl,rfl⟩
 clear B E;have c3:=yR d3 4 zB zB
 (have gt:=c3;(repeat' (first|refine Ch ?_|apply yY|apply xN|intro hc|(apply zG;first|refine SM ?_)|fail))<;>clear gt)
 refine dV [1000,5,8,9] [0,2,3,5,8,9,10] ⟨[(0,.ptr 1000 0 0),(2,iA g),(3,bA X),(5,.ptr 5 0 0),(8,.ptr 8 0 0),(9,.ptr 9 0 0),(10,iA cl)],[(1000,cB y),(5,.box [.sl false JS,.sl false W,iA c.per,iA c.cap,iA c.hold,iA c.lock]),(8,.box [iA 0,.s (.slice none 0 0),.s (.slice none 0 0),.s (.slice none 0 0)]),(9,.box [iA k,zE yA L,.s (.slice none 0 0),.s (.slice none 0 0)])]⟩ rfl ?_ ?_
 .unfold F3 at G;clear u;have E:=yR (ad d3) 2 zB zB
  cases X with
  |true=>
   rw[Os Z]at G;cases G;refine zP E ?_;exact⟨rfl,rfl⟩
  |false=>
   rw[hW zAs]at G;cases G;refine WW ?_;exact⟨rfl,rfl⟩
 clear G c3
 (repeat' (first|refine A7 ?_|apply yY|apply xN|intro hc|(apply zG;first|refine SM ?_)|fail))
 have b4:=yN y 4 zB;unfold Ub at u;by_cases k2:k=2
 .rw[Os k2]at u;cases u;have I:=yR y 5 zB zB;have E:=yR (ad y) 5 zB zB;have n3:=yR (ad (ad y)) 4 zB zB;have w1:=yN y 5 zB;have w3:=yN (ad (ad y)) 4 zB;have h1:=ut _ w1;have h3:=qt _ w3;have a2:([AV.s (.int .i64 63),AV.s (.int .i64 1),AV.s (.int .i64 3),AV.s (.int .i64 47),AV.s (.int .i64 64)]:List AV).length=5:=rfl;have au:([AV.s (.int .i64 0),AV.s (.int .i64 5),AV.s (.int .i64 30),AV.s (.int .i64 700)]:List AV).length=4:=rfl;generalize Zg (nx y 5)=y1,Vb (nx (ad (ad y)) 4)=y3 at *;clear O M V hT;refine yB (qS I E n3) ?_;exact zH [1000] Z Z Z Z
 rw[hW k2]at u;by_cases k3:k=3\/k=8\/k=5\/k=10\/k=11
 .rw[Os k3]at u;cases u;have I:=yR y 4 zB zB;clear O M V hT
  rcases k3 with h|h|h|h|h<;>((refine zP I ?_);exact zH [1000] Z Z Z Z)
 rw[hW k3]at u;by_cases k4:k=4
 .rw[Os k4]at u;cases u;have I:=yR y 4 zB zB;clear O M V hT;refine zP I ?_;exact zH [1000] Z Z Z Z
 rw[hW k4]at u;by_cases k6:k=6
 .rw[Os k6]at u;have I:=yR y 4 zB zB;have E:=yR (ad y) 4 zB zB;have n3:=jD (ad (ad y)) 1 60 zB zB zB;have w1:=yN y 4 zB;have w2:=yN (ad y) 4 zB;have w3:=yN (ad (ad y)) (60-1+1) zB;have cq:=ap [nx y 4,nx (ad y) 4,1+nx (ad (ad y)) (60-1+1)] yE (.cons zB (.cons zB (.cons zB .nil))) (ad (ad (ad y)));rw[u]at cq;clear ap;clear O M V hT u;generalize 1+nx (ad (ad y)) (60-1+1)=x3,nx (ad y) 4=x2,nx y 4=R at *;refine yB (cX I E n3 cq) ?_;exact zH [1000] Z Z (zAt (λz=>AV.agg [iA k,zE yA L,.sl false z,zE yA []]) (zAa (l:=args.map iA))) Z
 rw[hW k6]at u;by_cases k7:k=7
 .rw[Os k7]at u;have I:=yR y 4 zB zB;have E:=yR (ad y) 2 zB zB;have w2:=yN (ad y) 2 zB;have w1:=yN y 4 zB;have av:SY [nx y 4]:= .cons zB .nil;clear w1;clear O M V hT;generalize nx y 4=R at *;generalize nx (ad y) 2=n at *;generalize ad y=e4 at *;generalize ad e4=S at *;obtain⟨N,hN⟩:∃N:Nat,1+n.toNat=N:=⟨_,rfl⟩;have ax:1+n=(N:Int):=by omega
  rw[hN]at u;refine yB (xH I E) ?_;refine vY 114 Z ?_;refine zM (N) [9,1000,114,8] [8] [0,8,9] [11,0,8,9] Z (λi T U=>⟨(11,iA ((N:Int)-i))::T,(9,.box [iA k,zE yA L,.ref 114 0 ((WX [R] S i).1.map iA).length,.s (.slice none 0 0)])::(1000,cB (WX [R] S i).2)::(114,.arr 1 ((WX [R] S i).1.map iA) true)::U⟩) ?_;(conv=>whnf);refine⟨by(rw[show(N:Int)-(0:Nat)=1+n by omega];rfl),?_,?_⟩
  .intro i hi;have hl:=(Wb [R] av S i).1;have eS:WX [R] S (i+1)=CX (WX [R] S i).1 (WX [R] S i).2:=rfl;unfold CX at eS;rw[show((N:Int)-((i+1:Nat):Int))=(N:Int)-i-1 by omega];generalize (WX [R] S i).1=p at *;generalize (WX [R] S i).2=e at *;have az:1<=(N:Int)-i:=by omega
   have a1:(N:Int)-i<=10:=by omega
   have hp:ln p<=100:=by simp at hl;omega
   generalize (N:Int)-i=q at *;have I:=yR e 3 zB zB;have E:=yR (ad e) 40 zB zB;have w1:=yN e 3 zB;have w2:=yN (ad e) 40 zB;generalize nx (ad e) 40=y2,nx e 3=y1 at *;generalize ad e=e1 at *;generalize ad e1=e2 at *;rw[eS];refine yB (xH I E) ?_
   show restr _ _ _=_
   rw[zAd];rfl
  .rw[show(N:Int)-(N:Int)=0 by omega,u];refine WW ?_;exact zH [1000] Z Z (zAt (λz=>AV.agg [iA k,zE yA L,.sl false z,zE yA []]) (zAa (l:=args.map iA))) Z
 .rw[hW k7]at u;cases u;clear O M V hT;refine WW ?_;exact zH [1000] Z Z Z Z
def cP (k:Int):zO 142 [iA k] [] (bA (decide (1<=k/\k<=12))) []:=by
 cases hb:decide (1<=k/\k<=12)with
 |false=>(rw[zAz]at hb;(refine eM call142 λF hF=>?_);((refine WW (I2 (λhc=>?_) λhc=>?_)));all_goals (first|exact zI|exact JY|exact LN))
 |true=>(rw[zAg]at hb;(refine eM call142 λF hF=>?_);((refine WW ?_));all_goals (first|exact zI|exact JY|exact LN))
theorem GH (u y:Nat) (c:Int):∀(l:List Int) (i:Nat),(aV u y c i l).length<=6*ln l
 | [],i=>by simp[aV]
 |x::r,i=>by
  have h1:=GH u y c r (i+1);have h2:=jZ x;rw[aV,zAf,zAf,zAp]
  have z:(if i=u/\y≠0 then [c]else []).length<=1:=by split<;>simp
  omega
def qq (u c:Nat) (d:List Int):Bool:=decide (ln d=0/\(u=0\/1<=c))
theorem GI (k:Int):wK k=0\/wK k=2\/wK k=4:=by grind [wK]
theorem GJ (k:Int):uD k<=3:=by grind [uD]
theorem MI (k:Int) (B:1<=k) (h1:k<=12) (m:Ms) (c:Nat) (hk:m.kind=k) (ht:ln m.tok=10) (hd:ln m.data<=100000) (C:∀x∈m.args,0<=x/\x<=4294967295) (hc:ln m.args=uD k+c*wK k) (G:c<=3):
  zO 69 [yO m] [] (bA (qq (wK k) c m.data)) []:=by
 have u:=ib k B h1;have y:=cP k;have hf:=GJ k;rw[zAc ⟨B,h1⟩]at y;have R:=YS k B h1 m c hk ht hd C (by have:=GI k;rcases this with h|h|h<;>rw[h]at hc<;>omega) (λ_=>hc) G
 have ar:(eP (uD k) (wK k) c m).length<=10+(6*ln m.args+(1+ln m.data)):=by
  have h1:=GH (uD k) (wK k) c m.args 0
  have h3:(if wK k≠0/\m.args.length=uD k then [(0:Int)]else []).length<=1:=by split<;>simp
  unfold eP;rw[zAf,zAf,zAf];omega
 have ag:=zA yA (eP (uD k) (wK k) c m);have S:=GI k;subst hk;generalize eP (uD m.kind) (wK m.kind) c m=pl at *;generalize uD m.kind=z at *;generalize wK m.kind=V at *;unfold rb at u;have ap:=zA yA m.tok;have Y:=zA iA m.args;have ac:=zA yA m.data
 cases hb:qq V c m.data with
 | true=>
  unfold qq at hb;rw[zAg]at hb;obtain⟨W,X⟩:=hb
  rcases S with rfl|rfl|rfl
  .rw[Os Z,Os Z]at u;refine eM call69 λF hF=>?_
   refine yB (xH u y) ?_;refine zU (m.args) [1] [1] [1,97,98] [99,1,97,98] Z (λi gd T U=>⟨(99,iA i)::T,U⟩) (Lq ?_ ?_)
   .intro i gd x post hx hi;have hy:=zY iA hx hi;have A:=zX hx hi;have O:=C x (yQ hx);clear hx;refine WW ?_;rfl
   .exact nl R
  all_goals
   rw[hW xG,hW xG]at u;have L:(((m.args.map iA).length:Int)-(z:Int)).tmod ((2:Nat):Int)=0:=by rw[zBi zB];omega
   have M:(((m.args.map iA).length:Int)-(z:Int)).tmod ((4:Nat):Int)=(((m.args.map iA).length:Int)-(z:Int)) % 4:=zBi zB;refine eM call69 λF hF=>?_
   refine yB (xH u y) ?_;refine zU (m.args) [1] [1] [1,97,98] [99,1,97,98] Z (λi gd T U=>⟨(99,iA i)::T,U⟩) (Lq ?_ ?_)
   .intro i gd x post hx hi;have hy:=zY iA hx hi;have A:=zX hx hi;have O:=C x (yQ hx);clear hx;refine WW ?_;rfl
   .exact nl R
 | false=>
  unfold qq at hb;rw[zAz]at hb
  rcases S with rfl|rfl|rfl
  .rw[Os Z,Os Z]at u;have I:ln m.data≠0:=λh=>hb ⟨h,.inl Z⟩
   refine eM call69 λF hF=>?_
   exact ng (xH u y)
  all_goals
   rw[hW xG,hW xG]at u;have L:(((m.args.map iA).length:Int)-(z:Int)).tmod ((2:Nat):Int)=0:=by rw[zBi zB];omega
   have M:(((m.args.map iA).length:Int)-(z:Int)).tmod ((4:Nat):Int)=(((m.args.map iA).length:Int)-(z:Int)) % 4:=zBi zB;by_cases E:1<=c
   .have I:ln m.data≠0:=λh=>hb ⟨h,.inr E⟩
    refine eM call69 λF hF=>?_
    exact ng (xH u y)
   ·(refine eM call69 λF hF=>?_)
    exact ng (xH u y)
