/- Part 23. -/
import Derived.Test.YtmamjhmoegjapaaGreatP22
import Derived.Test.YtmamjhmoegjapaaGreatP20
namespace Go.Proofs.YtmamjhmoegjapaaGreat
namespace Av
open Tryz
set_option linter.unusedSimpArgs false
set_option linter.unusedVariables false
set_option maxRecDepth 4000
set_option maxHeartbeats 4000000
structure Vw where
 fl:Bool
 ov:Bool
 co:List Int
 cn:List Int
instance:Inhabited Vw:=⟨⟨false,false,[],[]⟩⟩
def vM (v:Vw):AV:= .agg [bA v.fl,bA v.ov,zD iA v.co,zD iA v.cn]
structure VwB (v:Vw):Prop where
 n:v.co.length<=8
 m:v.cn.length<=8
 c:∀c∈v.co,0<=c/\c<=2
def XP (n:Int):Int:=IntKind.u8.wrap n
def hdF (a b:Bool):Int:=(if a=true then 1 else 0)+(if b=true then 2 else 0)
def kM (l:List Int):Nat->Int
 |0=>0
 |i+1=>kM l i+l.getD i 0*p2 (2*(i:Int))
def vwF (v:Vw):List Int:=[hdF v.fl v.ov,uB (kM v.co v.co.length) 8,XP (kM v.co v.co.length)]++v.cn.map XP
def NQ (l:List Vw):List Int:=(l.map vwF).flatten
theorem zHc (i:Nat):p2 (2*((i+1:Nat):Int))=p2 (2*(i:Int))*4:=by
 unfold p2;rw[show(2*((i+1:Nat):Int)).toNat=(2*(i:Int)).toNat+2 by omega,Int.pow_add];rfl
theorem XQ (i:Nat) (h:i<=8):1<=p2 (2*(i:Int))/\p2 (2*(i:Int))<=65536:=by
 have:i=0∨i=1∨i=2∨i=3∨i=4∨i=5∨i=6∨i=7∨i=8:=by omega
 rcases this with rfl|rfl|rfl|rfl|rfl|rfl|rfl|rfl|rfl<;>decide
theorem JG {l:List Int} (h:∀c∈l,0<=c/\c<=2):∀i,i<=l.length->i<=8->0<=kM l i/\kM l i<p2 (2*(i:Int))
 |0,_,_=>by simp[kM,p2]
 | i+1,h1,h2=>by
  have ih:=JG h i zB zB
  have hm:l.getD i 0∈l:=by
   rw[zX5,zYi zB];exact yAn _
  have hc:=h _ hm;have hp:=XQ i zB;rw[zHc,kM];generalize l.getD i 0=c at *;generalize p2 (2*(i:Int))=w at *;have:c=0∨c=1∨c=2:=by omega
  rcases this with rfl|rfl|rfl<;>omega
theorem zVi {n:Int} (h0:0<=n) (h1:n<65536):0<=uB n 8/\uB n 8<=255:=by
 unfold uB;rw[show(2:Int) ^ (8:Int).toNat=256 from rfl,yBh _ zB];omega
theorem zHd (pre:List Vw) (v:Vw):(NQ (pre++[v])).map yA=(NQ pre).map yA++[yA (hdF v.fl v.ov),yA (uB (kM v.co v.co.length) 8),yA (XP (kM v.co v.co.length))]++v.cn.map (λn=>yA (XP n)):=by
 unfold NQ vwF;simp
theorem VJ {l:List Vw} (h:∀v∈l,VwB v):(NQ l).length<=11*l.length:=by
 unfold NQ
 induction l with
 |nil=>simp
 |cons v l ih=>
  have h1:=ih λx hx=>h x ST
  have h2:=(h v zS).m;rw[zZl,yA5,zX3,zYd];unfold vwF;rw[zX3,zX2];simp only[zYd,zZa];unfold vwF at h1;omega
theorem zHe (l:List Vw) (hn:l.length<=1000) (hb:∀v∈l,VwB v):zN 82 [zD vM l] [] (.ref 1001 0 ((NQ l).map yA).length) [(1001,.arr 1 ((NQ l).map yA) true)]:=by
 have hl:=zA vM l;have hfin:=VJ hb;refine eM call82 λF hF=>?_
 refine WW ?_;refine xC 3 1001 1 rfl rfl rfl ?_;refine zY (l) [1001] [] [13,14] [3,15,13,14] rfl (λi pre T U=>⟨(3,.ref 1001 0 ((NQ pre).map yA).length)::(15,iA i)::T,(1001,.arr 1 ((NQ pre).map yA) true)::U⟩) ?_;(conv=>whnf);refine⟨by rfl,?_,?_⟩
 ·intro i pre v post hx hi;have hy:=yI vM hx hi;have hlt:=yB hx hi;have hv:=hb v (xX hx);have hpl:=VJ (l:=pre) (λw hw=>hb w (by rw[hx];simp[hw]));have hxl:((NQ pre).map yA).length<=11000:=by rw[zX2];omega
  rw[zHd];clear hx hpl hfin;generalize (NQ pre).map yA=xs at *;have hc1:=zA iA v.co;have hc2:=zA iA v.cn;have hbd:=λk hk=>JG hv.c k hk (zY8 hk hv.n)
  have hn8:=hv.n;have hm8:=hv.m;obtain⟨fl,ov,co,cn⟩:=v;dsimp only at *;rw[show vM ⟨fl,ov,co,cn⟩= .agg [bA fl,bA ov,zD iA co,zD iA cn]from rfl]at hy;have hlast:=hbd co.length (zX6 _);have hpl8:=XQ co.length hn8;have hs8:=zVi (n:=kM co co.length) hlast.1 zB
  cases fl<;>cases ov
  ·(refine WW ?_)
   refine zY (co) [5,1001] [5,1001] [3,5,6,13,14,15,28,29] [7,8,30,3,5,6,13,14,15,28,29] rfl (λi pre T U=>⟨(7,iA (kM co i))::(8,iA (p2 (2*(i:Int))))::(30,iA i)::T,U⟩) ?_;(conv=>whnf);refine⟨by rfl,?_,?_⟩
   ·intro k pre2 c post2 hx2 hk;have hy2:=yI iA hx2 hk;have hlt2:=yB hx2 hk;have hcm:=hv.c c (xX hx2);have hg:co.getD k 0=c:=by rw[hx2,<-hk];simp[List.getD]
    have hb1:=hbd k zB;have hp1:=XQ k zB;have e1:kM co (k+1)=kM co k+c*p2 (2*(k:Int)):=by rw[kM,hg]
    rw[e1,zHc];clear hx2 hbd hlast hpl8 hs8 e1 hv;generalize kM co k=s at *;generalize p2 (2*(k:Int))=w at *;have:c=0∨c=1∨c=2:=by omega
    rcases this with rfl|rfl|rfl
    all_goals
     refine WW ?_;rfl
   ·clear hbd hv;generalize kM co co.length=s at *;refine WW ?_;refine zY (cn) [1001] [] [13,14,15,53,54] [3,55,13,14,15,53,54] rfl (λi pre T U=>⟨(3,.ref 1001 0 (xs++[yA (hdF false false),yA (uB s 8),yA (XP s)]++pre.map (λn=>yA (XP n))).length)::(55,iA i)::T,(1001,.arr 1 (xs++[yA (hdF false false),yA (uB s 8),yA (XP s)]++pre.map (λn=>yA (XP n))) true)::U⟩) ?_;(conv=>whnf);refine⟨by(simp only[yAl,zY5];rfl),?_,?_⟩
    ·intro k pre2 c post2 hx2 hk;have hy2:=yI iA hx2 hk;have hlt2:=yB hx2 hk;have hpk:(pre2.map (λn=>yA (XP n))).length=k:=by rw[zX2];exact hk
     rw[zYc,zZl,yAl,<-zYv];clear hx2;generalize pre2.map (λn=>yA (XP n))=zs2 at *;refine WW ?_;rfl
    ·(refine WW ?_)
     rfl
  ·(refine WW ?_)
   refine zY (co) [5,1001] [5,1001] [3,5,6,13,14,15,28,29] [7,8,30,3,5,6,13,14,15,28,29] rfl (λi pre T U=>⟨(7,iA (kM co i))::(8,iA (p2 (2*(i:Int))))::(30,iA i)::T,U⟩) ?_;(conv=>whnf);refine⟨by rfl,?_,?_⟩
   ·intro k pre2 c post2 hx2 hk;have hy2:=yI iA hx2 hk;have hlt2:=yB hx2 hk;have hcm:=hv.c c (xX hx2);have hg:co.getD k 0=c:=by rw[hx2,<-hk];simp[List.getD]
    have hb1:=hbd k zB;have hp1:=XQ k zB;have e1:kM co (k+1)=kM co k+c*p2 (2*(k:Int)):=by rw[kM,hg]
    rw[e1,zHc];clear hx2 hbd hlast hpl8 hs8 e1 hv;generalize kM co k=s at *;generalize p2 (2*(k:Int))=w at *;have:c=0∨c=1∨c=2:=by omega
    rcases this with rfl|rfl|rfl
    all_goals
     refine WW ?_;rfl
   ·clear hbd hv;generalize kM co co.length=s at *;refine WW ?_;refine zY (cn) [1001] [] [13,14,15,53,54] [3,55,13,14,15,53,54] rfl (λi pre T U=>⟨(3,.ref 1001 0 (xs++[yA (hdF false true),yA (uB s 8),yA (XP s)]++pre.map (λn=>yA (XP n))).length)::(55,iA i)::T,(1001,.arr 1 (xs++[yA (hdF false true),yA (uB s 8),yA (XP s)]++pre.map (λn=>yA (XP n))) true)::U⟩) ?_;(conv=>whnf);refine⟨by(simp only[yAl,zY5];rfl),?_,?_⟩
    ·intro k pre2 c post2 hx2 hk;have hy2:=yI iA hx2 hk;have hlt2:=yB hx2 hk;have hpk:(pre2.map (λn=>yA (XP n))).length=k:=by rw[zX2];exact hk
     rw[zYc,zZl,yAl,<-zYv];clear hx2;generalize pre2.map (λn=>yA (XP n))=zs2 at *;refine WW ?_;rfl
    ·(refine WW ?_)
     rfl
  ·(refine WW ?_)
   refine zY (co) [5,1001] [5,1001] [3,5,6,13,14,15,28,29] [7,8,30,3,5,6,13,14,15,28,29] rfl (λi pre T U=>⟨(7,iA (kM co i))::(8,iA (p2 (2*(i:Int))))::(30,iA i)::T,U⟩) ?_;(conv=>whnf);refine⟨by rfl,?_,?_⟩
   ·intro k pre2 c post2 hx2 hk;have hy2:=yI iA hx2 hk;have hlt2:=yB hx2 hk;have hcm:=hv.c c (xX hx2);have hg:co.getD k 0=c:=by rw[hx2,<-hk];simp[List.getD]
    have hb1:=hbd k zB;have hp1:=XQ k zB;have e1:kM co (k+1)=kM co k+c*p2 (2*(k:Int)):=by rw[kM,hg]
    rw[e1,zHc];clear hx2 hbd hlast hpl8 hs8 e1 hv;generalize kM co k=s at *;generalize p2 (2*(k:Int))=w at *;have:c=0∨c=1∨c=2:=by omega
    rcases this with rfl|rfl|rfl
    all_goals
     refine WW ?_;rfl
   ·clear hbd hv;generalize kM co co.length=s at *;refine WW ?_;refine zY (cn) [1001] [] [13,14,15,53,54] [3,55,13,14,15,53,54] rfl (λi pre T U=>⟨(3,.ref 1001 0 (xs++[yA (hdF true false),yA (uB s 8),yA (XP s)]++pre.map (λn=>yA (XP n))).length)::(55,iA i)::T,(1001,.arr 1 (xs++[yA (hdF true false),yA (uB s 8),yA (XP s)]++pre.map (λn=>yA (XP n))) true)::U⟩) ?_;(conv=>whnf);refine⟨by(simp only[yAl,zY5];rfl),?_,?_⟩
    ·intro k pre2 c post2 hx2 hk;have hy2:=yI iA hx2 hk;have hlt2:=yB hx2 hk;have hpk:(pre2.map (λn=>yA (XP n))).length=k:=by rw[zX2];exact hk
     rw[zYc,zZl,yAl,<-zYv];clear hx2;generalize pre2.map (λn=>yA (XP n))=zs2 at *;refine WW ?_;rfl
    ·(refine WW ?_)
     rfl
  ·(refine WW ?_)
   refine zY (co) [5,1001] [5,1001] [3,5,6,13,14,15,28,29] [7,8,30,3,5,6,13,14,15,28,29] rfl (λi pre T U=>⟨(7,iA (kM co i))::(8,iA (p2 (2*(i:Int))))::(30,iA i)::T,U⟩) ?_;(conv=>whnf);refine⟨by rfl,?_,?_⟩
   ·intro k pre2 c post2 hx2 hk;have hy2:=yI iA hx2 hk;have hlt2:=yB hx2 hk;have hcm:=hv.c c (xX hx2);have hg:co.getD k 0=c:=by rw[hx2,<-hk];simp[List.getD]
    have hb1:=hbd k zB;have hp1:=XQ k zB;have e1:kM co (k+1)=kM co k+c*p2 (2*(k:Int)):=by rw[kM,hg]
    rw[e1,zHc];clear hx2 hbd hlast hpl8 hs8 e1 hv;generalize kM co k=s at *;generalize p2 (2*(k:Int))=w at *;have:c=0∨c=1∨c=2:=by omega
    rcases this with rfl|rfl|rfl
    all_goals
     refine WW ?_;rfl
   ·clear hbd hv;generalize kM co co.length=s at *;refine WW ?_;refine zY (cn) [1001] [] [13,14,15,53,54] [3,55,13,14,15,53,54] rfl (λi pre T U=>⟨(3,.ref 1001 0 (xs++[yA (hdF true true),yA (uB s 8),yA (XP s)]++pre.map (λn=>yA (XP n))).length)::(55,iA i)::T,(1001,.arr 1 (xs++[yA (hdF true true),yA (uB s 8),yA (XP s)]++pre.map (λn=>yA (XP n))) true)::U⟩) ?_;(conv=>whnf);refine⟨by(simp only[yAl,zY5];rfl),?_,?_⟩
    ·intro k pre2 c post2 hx2 hk;have hy2:=yI iA hx2 hk;have hlt2:=yB hx2 hk;have hpk:(pre2.map (λn=>yA (XP n))).length=k:=by rw[zX2];exact hk
     rw[zYc,zZl,yAl,<-zYv];clear hx2;generalize pre2.map (λn=>yA (XP n))=zs2 at *;refine WW ?_;rfl
    ·(refine WW ?_)
     rfl
 ·(refine WW ?_)
  exact zL [1001] rfl rfl rfl rfl
def cdW (g:Lg) (w:Vw):Int:=if 0<=g.ph/\g.ph<(w.co.length:Int)then(if w.ov=true/\w.fl=false/\w.co.getD g.ph.toNat default=1 then 3 else 2)else 1
def cdF (g:Lg) (v:List Vw) (now:Int):Int:=if liB g now=true/\0<=g.jn/\g.jn<(v.length:Int)then cdW g (v.getD g.jn.toNat default)else 1
theorem zHf (g:Lg) (v:List Vw) (now:Int):1<=cdF g v now/\cdF g v now<=3:=by
 unfold cdF cdW
 repeat' split
 all_goals omega
theorem zHg (g:Lg) (v:List Vw) (now:Int) {Q:Int->Prop} (q1:liB g now=false->Q 1) (q2:liB g now=true->g.jn<0->Q 1) (q3:liB g now=true->0<=g.jn->(v.length:Int)<=g.jn->Q 1)
  (q4:∀w,liB g now=true->0<=g.jn->g.jn<(v.length:Int)->(v.map vM)[g.jn.toNat]? =some (vM w)->g.ph<0->Q 1)
  (q5:∀w,liB g now=true->0<=g.jn->g.jn<(v.length:Int)->(v.map vM)[g.jn.toNat]? =some (vM w)->0<=g.ph->(w.co.length:Int)<=g.ph->Q 1)
  (q6:∀w c,liB g now=true->0<=g.jn->g.jn<(v.length:Int)->(v.map vM)[g.jn.toNat]? =some (vM w)->0<=g.ph->g.ph<(w.co.length:Int)->(w.co.map iA)[g.ph.toNat]? =some (iA c)->Q (if w.ov=true/\w.fl=false/\c=1 then 3 else 2)):Q (cdF g v now):=by
 unfold cdF
 cases hl:liB g now with
 |false=>rw[zX0 (λh=>by cases h.1)];exact q1 hl
 |true=>
  by_cases j0:g.jn<0
  ·rw[zX0 (λh=>by omega)];exact q2 hl j0
  by_cases j1:(v.length:Int)<=g.jn
  ·rw[zX0 (λh=>by omega)];exact q3 hl zB j1
  have hy:=yM vM v g.jn zB zB;rw[zX1 ⟨rfl,zB,zB⟩];generalize v.getD g.jn.toNat default=w at *;unfold cdW;by_cases p0:g.ph<0
  ·rw[zX0 (λh=>by omega)];exact q4 w hl zB zB hy p0
  by_cases p1:(w.co.length:Int)<=g.ph
  ·rw[zX0 (λh=>by omega)];exact q5 w hl zB zB hy zB p1
  have hy2:=yM iA w.co g.ph zB zB;rw[zX1 ⟨zB,zB⟩];exact q6 w _ hl zB zB hy zB zB hy2
theorem zSd (g:Lg) (v:List Vw) (now:Int) (hn:v.length<=1000) (hb:∀w∈v,w.co.length<=1000):zN 202 [xU g,zD vM v,iA now] [] (iA (cdF g v now)) []:=by
 have cl:=zJ8 g now;have hvl:=zA vM v;have hb:∀w,(v.map vM)[g.jn.toNat]? =some (vM w)->(w.co.map iA).length=w.co.length:=λw _=>zA iA w.co
 unfold xU at *;refine zHg (Q:=λr=>zN 202 [.agg [iA g.jn,iA g.ph,iA g.fr,iA g.to,iA g.sc],zD vM v,iA now] [] (iA r) []) g v now (λh1=>?_) (λh1 h2=>?_) (λh1 h2 h3=>?_) (λw h1 h2 h3 hy h4=>?_) (λw h1 h2 h3 hy h4 h5=>?_) (λw c h1 h2 h3 hy h4 h5 hy2=>?_)
 ·rw[h1]at cl;refine eM call202 λF hF=>?_
  refine zU cl ?_;exact zJ
 ·rw[h1]at cl;refine eM call202 λF hF=>?_
  refine zU cl ?_;exact zJ
 ·rw[h1]at cl;refine eM call202 λF hF=>?_
  refine zU cl ?_;exact zJ
 ·rw[h1]at cl;unfold vM at hy;refine eM call202 λF hF=>?_
  refine zU cl ?_;exact zJ
 ·rw[h1]at cl;have hwl:=hb w hy;unfold vM zD at hy;refine eM call202 λF hF=>?_
  refine zU cl ?_;exact zJ
 ·rw[h1]at cl;have hwl:=hb w hy;clear hb;obtain⟨fl,ov,co,cn⟩:=w;rw[show vM ⟨fl,ov,co,cn⟩= .agg [bA fl,bA ov,zD iA co,zD iA cn]from rfl]at hy;dsimp only at *;cases ov
  ·(refine eM call202 λF hF=>?_)
   refine zU cl ?_;exact zJ
  cases fl
  case true=>
   refine eM call202 λF hF=>?_
   refine zU cl ?_;exact zJ
  by_cases hc1:c=1
  ·rw[zX1 ⟨rfl,rfl,hc1⟩];refine eM call202 λF hF=>?_
   refine zU cl ?_;exact zJ
  ·rw[zX0 (λh=>hc1 h.2.2)];refine eM call202 λF hF=>?_
   refine zU cl ?_;exact zJ
def cqF (l:List Rq) (v:List Vw) (now:Int) (i:Nat):Int:=if i/3<l.length/\i % 3<(l.getD (i/3) default).legs.length then cdF ((l.getD (i/3) default).legs.getD (i % 3) default) v now else 0
def cqL (l:List Rq) (v:List Vw) (now:Int) (n:Nat):List Int:=(List.range n).map (cqF l v now)
def FT (l:List Rq) (v:List Vw) (now:Int) (N i:Nat):List Int:=(List.range N).map λj=>if j<i then cqF l v now j else 0
theorem zBv (l:List Rq) (v:List Vw) (now:Int) (N i:Nat):(FT l v now N i).length=N:=by simp[FT]
theorem zHh (l:List Rq) (v:List Vw) (now:Int) (N:Nat):(FT l v now N 0).map yA=List.replicate N (yA 0):=by
 apply zZf;intro j;unfold FT;rw[zX4,zX4,zZs];by_cases hj:j<N
 ·rw[zYx hj,zX1 hj];simp
 ·rw[zYt wQ,zX0 hj];rfl
theorem AC (l:List Rq) (v:List Vw) (now:Int) (N k j:Nat):((FT l v now N k).map yA)[j]? =if j<N then some (yA (if j<k then cqF l v now j else 0))else none:=by
 unfold FT;rw[zX4,zX4];by_cases hj:j<N
 ·rw[zYx hj,zX1 hj];rfl
 ·rw[zYt wQ,zX0 hj];rfl
theorem zHi (l:List Rq) (v:List Vw) (now:Int) (N i:Nat) (hi:i<N):(FT l v now N (i+1)).map yA=((FT l v now N i).map yA).set i (yA (cqF l v now i)):=by
 apply zZf;intro j;rw[zZ7,AC,AC,zX2,zBv];by_cases he:i=j
 ·subst he;rw[zX1 hi,zX1 rfl,zX1 hi,zX1 (Nat.lt_succ_self i)]
 ·rw[zX0 he];by_cases hj:j<N
  ·rw[zX1 hj,zX1 hj];by_cases h2:j<i
   ·rw[zX1 zB,zX1 h2]
   ·rw[zX0 zB,zX0 h2]
  ·rw[zX0 hj,zX0 hj]
theorem zMp (l:List Rq) (v:List Vw) (now:Int) (N:Nat):FT l v now N N=cqL l v now N:=by
 unfold FT cqL;apply yBf;intro j hj;rw[zX1 (zYr.1 hj)]
theorem zMq (l:List Rq) (q:Nat) (v:List Vw) (now:Int) (hq:q<=1000) (hl:l.length<=1000) (hlg:∀r∈l,r.legs.length<=1000) (hn:v.length<=1000) (hb:∀w∈v,w.co.length<=1000):
  zN 165 [zD yK l,iA q,zD vM v,iA now] [] (zD yA (cqL l v now (q*3))) []:=by
 have hll:=zA yK l;by_cases h0:q=0
 ·subst h0;refine eM call165 λF hF=>?_
  refine WW ?_;exact zJ
 have e0:=zHh l v now (q*3);have hvl:=zA vM v;refine eM call165 λF hF=>?_
 refine WW ?_;have hN9:q*3<=3000:=by omega
 generalize q*3=N at *;refine zP (N) [21] [] [0,2,3,9,23] [24,0,2,3,9,23] rfl (λi T U=>⟨(24,iA i)::T,(21,.arr 1 ((FT l v now N i).map yA) false)::U⟩) ?_;(conv=>whnf);refine⟨by(rw[e0];rfl),?_,?_⟩
 ·intro i hi;have hr:(i:Int).tdiv 3=((i/3:Nat):Int):=by rw[zZt zB];omega
  have hk:(i:Int).tmod 3=((i % 3:Nat):Int):=by rw[zZu zB];omega
  have hin:XC .i64 ((i:Int).tdiv 3):=⟨by show -9223372036854775808<=_;omega,by show _<=9223372036854775807;omega⟩;have hnl:((FT l v now N i).map yA).length=N:=by rw[zX2,zBv]
  have e:=zHi l v now N i hi;rw[e];have hyx:((FT l v now N i).map yA)[i]? =some (yA (if i<i then cqF l v now i else 0)):=by rw[AC,zX1 hi]
  have hset:∀y:AV,(((FT l v now N i).map yA).set i y)[i]? =some y:=λy=>zZo zB
  by_cases hr1:i/3<l.length
  ·have hy:(l.map yK)[((i:Int).tdiv 3).toNat]? =some (yK (l.getD (i/3) default)):=by rw[hr];exact zM yK l _ hr1
   have hxl:(l.getD (i/3) default).legs.length<=1000:=hlg _ (by rw[zX5,zYi hr1];exact yAn _);have hxm:=zA xU (l.getD (i/3) default).legs
   have ec:cqF l v now i=if i % 3<(l.getD (i/3) default).legs.length then cdF ((l.getD (i/3) default).legs.getD (i % 3) default) v now else 0:=by
    unfold cqF;by_cases h:i % 3<(l.getD (i/3) default).legs.length
    ·rw[zX1 ⟨hr1,h⟩,zX1 h]
    ·rw[zX0 (λh9=>h h9.2),zX0 h]
   rw[ec];clear e ec e0;generalize l.getD (i/3) default=x at *;unfold yK zD at hy;by_cases hk1:i % 3<x.legs.length
   ·have hy2:(x.legs.map xU)[((i:Int).tmod 3).toNat]? =some (xU (x.legs.getD (i % 3) default)):=by rw[hk];exact zM xU x.legs _ hk1
    have cc:=zSd (x.legs.getD (i % 3) default) v now hn hb;have hcb:=zHf (x.legs.getD (i % 3) default) v now;rw[zX1 hk1];generalize cdF (x.legs.getD (i % 3) default) v now=c at *;generalize x.legs.getD (i % 3) default=g at *;generalize (FT l v now N i).map yA=xs at*
    (have zc1:=cc;(repeat' (first|refine WTR ?_|refine xO (λhc=>?_) (λhc=>?_)|refine wB (λhc=>?_)|(refine zE ?_;first|(refine bR ?_;refine zA2 tok rfl rfl rfl (hset _) rfl rfl rfl rfl rfl rfl rfl rfl ?_)|refine SM ?_)|refine SB ?_|fail))<;>clear zc1)
    refine zY0 (St.mk _) ?_
    show [(21,xN.arr 1 ((xs.set i _).set i _) _)]=_
    rw[yB1];rfl
   ·rw[zX0 hk1];generalize (FT l v now N i).map yA=xs at *;refine WW ?_;rfl
  ·have ec:cqF l v now i=0:=by unfold cqF;rw[zX0 (λh=>hr1 h.1)]
   rw[ec];clear e ec e0;generalize (FT l v now N i).map yA=xs at *;refine WW ?_;rfl
 ·rw[zMp];refine WW ?_;refine zI [] rfl rfl ?_ rfl;exact zY0 (AV.sl false) (zYb (by simp[cqL]))
def stM (now:Int) (v:List Vw) (b:List Int):Ms:=⟨17,[],[now],NQ v++b⟩
theorem zSf (now:Int) (v:List Vw) (b:List Int) (hn:v.length<=1000) (hb:∀w∈v,VwB w) (hl:b.length<=10000):zN 166 [iA now,zD vM v,zD yA b] [] (yE (stM now v b)) []:=by
 have kr:=zHe v hn hb;have h1:=VJ hb;have hrl:=zA yA (NQ v);have hbl:=zA yA b;rw[show yE (stM now v b)= .agg [iA 17,.sl false [],.sl false [iA now],.sl false ((NQ v).map yA++b.map yA)] by unfold stM yE zD;rw[zYc];rfl];generalize (NQ v).map yA=xs at *;refine eM call166 λF hF=>?_
 refine WLo kr ?_;refine zI [] rfl rfl ?_ rfl;exact zY0 (λz=>AV.agg [iA 17,AV.sl false [],AV.sl false [iA now],AV.sl false z]) zX7
def UW (d:xQ) (v:List Vw) (now:Int):Ms:=stM now v (cqL d.rq v now (d.rg.ag.req.toNat*3))
theorem zHj (d:xQ) (hd:eE d) (hq:0<=d.rg.ag.req/\d.rg.ag.req<=4) (v:List Vw) (now:Int) (hn:v.length<=1000) (hb:∀w∈v,VwB w):zN 116 [zK d,zD vM v,iA now] [] (yE (UW d v now)) []:=by
 have c1:=zMq d.rq d.rg.ag.req.toNat v now zB hd.q hd.g hn (λw hw=>zY8 (hb w hw).n yZ);rw[show((d.rg.ag.req.toNat:Nat):Int)=d.rg.ag.req by omega]at c1;have c2:=zSf now v (cqL d.rq v now (d.rg.ag.req.toNat*3)) hn hb (by simp[cqL];omega);unfold UW;generalize cqL d.rq v now (d.rg.ag.req.toNat*3)=cs at *;unfold yE at *;unfold zK wI;generalize NQ v=rc at *;refine eM call116 λF hF=>?_
 refine yQ (wZ c1 c2) ?_;exact zJ
def vwZ (n:Nat):Vw:=⟨true,false,List.replicate n 0,List.replicate n 0⟩
theorem zVj {n:Nat} (h:n<=8):VwB (vwZ n):=⟨by simp[vwZ];exact h,by simp[vwZ];exact h,λc hc=>by
 have:=(yB6.1 hc).2
 omega⟩
structure Li where
 lamp:Int
 tk:Int
structure Ct where
 li:List Li
 gr:Int
 nx:List Int
 wt:Int
instance:Inhabited Li:=⟨⟨0,0⟩⟩
def vF (l:Li):AV:= .agg [iA l.lamp,iA l.tk]
def ctA (c:Ct):AV:= .agg [zD vF c.li,iA c.gr,zD iA c.nx,iA c.wt]
def fO (rows:List Int) (p q:Int):Bool:=decide (0<=p/\0<=q/\p<rows.length/\q<rows.length)&&(jU (uB (rows.getD p.toNat default) q) 1==1)
def lnF (p:Ph):Int:=max p.ming (p.walk+p.clear)
def LD (p:Ph) (l:Li) (lv:Bool):Li:=
 if l.lamp=1 then(if lv=true/\lnF p<=l.tk+1 then⟨2,0⟩else⟨1,min (l.tk+1) 1073741824⟩)
 else if l.lamp=2 then(if l.tk+1<p.yel then⟨2,l.tk+1⟩else if p.red=0 then⟨0,0⟩else⟨3,0⟩)
 else if l.lamp=3 then(if l.tk+1<p.red then⟨3,l.tk+1⟩else⟨0,0⟩)
 else l
def RS (p:Ph) (l:Li):Bool:=if l.lamp=0 then decide (l.tk=0)else if l.lamp=1 then decide (0<=l.tk/\l.tk<=1073741824)else if l.lamp=2 then decide (0<=l.tk/\l.tk<p.yel)else if l.lamp=3 then decide (0<=l.tk/\l.tk<p.red)else false
def yW (j:Jn) (p:Nat):Ph:=j.ph.getD p default
def xY (c:Ct) (p:Nat):Li:=c.li.getD p default
def InO (j:Jn) (r g p:Int):Prop:=0<=p/\p<j.ph.length/\(yW j p.toNat).ring=r/\(yW j p.toNat).group=g
def grN (ps:List Ph):Nat->Int
 |0=>0
 |i+1=>max (grN ps i) ((ps.getD i default).group+1)
def YX (j:Jn):Int:=grN j.ph j.ph.length
theorem zHk (ps:List Ph) (n:Nat):∀i,i<n->(ps.getD i default).group+1<=grN ps n:=by
 induction n with
 |zero=>intro i h;exact absurd h (yAi _)
 |succ n ih=>
  intro i h;unfold grN;by_cases e:i=n
  ·subst e;omega
  ·have:=ih i zB;omega
def rpN (j:Jn) (r:Int) (i:Nat):List Nat:=(List.range i).filter λp=>(yW j p).ring==r
def NR (j:Jn) (r:Int):List Nat:=rpN j r j.ph.length
theorem bG {j:Jn} {r:Int} {p:Nat}:p∈NR j r↔p<j.ph.length/\(yW j p).ring=r:=by
 unfold NR rpN;rw[yA7,zYr,zZg]
def bC (j:Jn) (r g f:Int):Int:=match (NR j r).find? (λp:Nat=>decide (f<=(p:Int))&&(yW j p).group==g)with
 |some p=>p
 |none=> -1
theorem PD (j:Jn) (r g f:Int):bC j r g f= -1∨InO j r g (bC j r g f)/\f<=bC j r g f:=by
 unfold bC;split
 ·rename_i p h;have h1:=yDr h;have h2:=bG.1 (yCm h);simp only[zYh,zZg,zX9]at h1;exact .inr ⟨⟨zB,zB,h2.2,h1.2⟩,h1.1⟩
 ·exact .inl rfl
def BB (j:Jn) (c:Ct) (g:Int):Ct:=⟨c.li,g,[bC j 0 g 0,bC j 1 g 0],c.wt⟩
def WX (j:Jn) (c:Ct) (p:Int):Bool:=(List.range c.li.length).any λq=>(xY c q).lamp != 0&&fO j.cf p q
def b1F (c:Ct) (p:Nat):Ct:=⟨c.li.set p ⟨1,0⟩,c.gr,c.nx,c.wt⟩
def JH (j:Jn) (c:Ct) (p:Nat):Ct:=if c.gr=(yW j p).group then b1F c p else BB j (b1F c p) (yW j p).group
def jD (j:Jn) (c:Ct) (p:Nat):Ct:=
 if WX j c p=true then c
 else⟨(JH j c p).li,(JH j c p).gr,(JH j c p).nx.set (yW j p).ring.toNat (bC j (yW j p).ring (yW j p).group (p+1)),(JH j c p).wt⟩
def BC (j:Jn) (c:Ct) (r:Int):Bool:=(NR j r).all λp=>(xY c p).lamp==0
def cmF (j:Jn) (x r t:Int):Int:=match (NR j r).find? (λp:Nat=>!fO j.cf p t&&decide (x≠ -1/\x<=(p:Int)))with
 |some p=>p
 |none=>match (NR j r).find? (λp:Nat=>!fO j.cf p t)with
  |some p=>p
  |none=> -1
def YY (j:Jn) (c:Ct) (r:Int) (t:Nat):Int:=if r=(yW j t).ring then t else cmF j (c.nx.getD r.toNat default) r t
def dP (j:Jn) (t:Nat) (c:Ct) (r:Int):Ct:=if BC j c r=true then(if YY j c r t= -1 then c else jD j c (YY j c r t).toNat)else c
def arF (c:Ct):Bool:=c.li.all λl=>l.lamp==0
def cyO (c:Ct):Bool:=arF c&&c.nx.all λp=>p== -1
def dQ (j:Jn) (c:Ct) (r:Int):Ct:=if BC j c r=true/\c.nx.getD r.toNat default≠ -1 then jD j c (c.nx.getD r.toNat default).toNat else c
def cyF (j:Jn) (c:Ct):Ct:=dQ j (dQ j (if cyO c=true then BB j c ((c.gr+1) % YX j)else c) 0) 1
def PE (j:Jn) (t:Int):Bool:=decide (0<=t/\t<j.ph.length)
def AD (j:Jn) (c:Ct) (t:Int) (p:Nat):Bool:=
 if PE j t=true then decide ((p:Int)≠t)&&(decide ((yW j p).maxg<=(xY c p).tk+1)||fO j.cf p t)else decide ((yW j p).maxg<=(xY c p).tk+1)
def XR (j:Jn) (c:Ct) (t:Int):List Li:=(List.range j.ph.length).map λp=>LD (yW j p) (xY c p) (AD j c t p)
def NS (j:Jn) (c:Ct) (t:Int):Ct:=
 if 0<c.wt then⟨c.li,c.gr,c.nx,c.wt-1⟩
 else if PE j t=true then dP j t.toNat (dP j t.toNat ⟨XR j c t,c.gr,c.nx,c.wt⟩ 0) 1
 else cyF j ⟨XR j c t,c.gr,c.nx,c.wt⟩
structure JV (j:Jn):Prop where
 n:1<=j.ph.length/\j.ph.length<=8
 c:j.cf.length=j.ph.length
 row:∀i,i<j.ph.length->0<=j.cf.getD i default/\j.cf.getD i default<2 ^ j.ph.length
 ir:∀p:Nat,p<j.ph.length->fO j.cf p p=false
 sy:∀p q:Nat,p<j.ph.length->q<j.ph.length->fO j.cf p q=fO j.cf q p
 ap:∀p q:Nat,p<j.ph.length->q<j.ph.length->p≠q->(yW j p).ring=(yW j q).ring∨(yW j p).group≠(yW j q).group->fO j.cf p q=true
 rg:∀p:Nat,p<j.ph.length->0<=(yW j p).ring/\(yW j p).ring<=1
 gp:∀p:Nat,p<j.ph.length->0<=(yW j p).group/\(yW j p).group<=3
 ti:∀p:Nat,p<j.ph.length->1<=(yW j p).ming/\(yW j p).ming<=(yW j p).maxg/\(yW j p).maxg<=60/\1<=(yW j p).yel/\(yW j p).yel<=60/\0<=(yW j p).red/\(yW j p).red<=60/\0<=(yW j p).walk/\(yW j p).walk<=60/\0<=(yW j p).clear/\(yW j p).clear<=60/\(yW j p).walk+(yW j p).clear<=(yW j p).maxg/\((yW j p).walk=0↔(yW j p).clear=0)
 lo:∀p:Nat,p<j.ph.length->∀g:Int,0<=g->g<(yW j p).group->∃q:Nat,q<j.ph.length/\(yW j q).group=g
 st:0<=j.st/\j.st<=60
structure CV (j:Jn) (c:Ct):Prop where
 n:c.li.length=j.ph.length
 k:∀p,p<j.ph.length->RS (yW j p) (xY c p)=true
 x:∀p q:Nat,p<j.ph.length->q<j.ph.length->p≠q->(xY c p).lamp≠0->(xY c q).lamp≠0->fO j.cf p q=false
 g:0<=c.gr/\c.gr<YX j
 m:c.nx.length=2
 v:∀r:Nat,r<2->c.nx.getD r default= -1∨InO j r c.gr (c.nx.getD r default)
 w:0<=c.wt/\c.wt<=j.st
 z:c.wt=0∨∀p,p<j.ph.length->(xY c p).lamp=0
theorem RT {j:Jn} (J:JV j):1<=YX j:=by
 have h1:=zHk j.ph j.ph.length 0 zCw;have h2:=J.gp 0 zCw;unfold yW at h2;unfold YX;omega
theorem zQd (j:Jn) (c:Ct) (g:Int):∀r:Nat,r<2->(BB j c g).nx.getD r default= -1∨InO j r g ((BB j c g).nx.getD r default):=by
 intro r hr;have:r=0∨r=1:=by omega
 rcases this with rfl|rfl
 ·rcases PD j 0 g 0 with h|h
  ·exact .inl h
  ·exact .inr h.1
 ·rcases PD j 1 g 0 with h|h
  ·exact .inl h
  ·exact .inr h.1
theorem zBw {j:Jn} {c:Ct} (C:CV j c) {g:Int} (hg:0<=g/\g<YX j):CV j (BB j c g):=
 ⟨C.n,C.k,C.x,hg,rfl,zQd j c g,C.w,C.z⟩
theorem zBx (c:Ct) (p q:Nat) (l:Li) (gr:Int) (nx:List Int) (wt:Int) (hp:p<c.li.length):xY ⟨c.li.set p l,gr,nx,wt⟩ q=if q=p then l else xY c q:=by
 unfold xY;simp only[zX5,zZ7];split
 ·rename_i h;subst h;simp[hp]
 ·rename_i h;rw[zX0 (λe=>h e.symm)]
theorem zVk {j:Jn} (J:JV j) {c:Ct} (C:CV j c) (h0:c.wt=0) {p:Nat} (hp:p<j.ph.length) (hk:WX j c p=false):CV j (b1F c p):=by
 have hl:=C.n
 have hs:∀q,xY (b1F c p) q=if q=p then⟨1,0⟩else xY c q:=λq=>zBx c p q _ _ _ _ zB
 unfold WX at hk;rw[yAx]at hk
 have hc:∀q:Nat,q<j.ph.length->(xY c q).lamp≠0->fO j.cf p q=false:=λq hq hn=>by
  have:=hk q (zYr.2 zB);simp only[zYh,not_and,yAs]at this;exact this CE
 refine⟨by unfold b1F;simpa using hl,λq hq=>?_,λq r hq hr hqr h1 h2=>?_,C.g,C.m,C.v,C.w,.inl h0⟩
 ·rw[hs];split
  ·rfl
  ·exact C.k q hq
 ·rw[hs]at h1 h2;by_cases e1:q=p
  ·subst e1;rw[zX0 (λe=>hqr e.symm)]at h2;exact hc r hr h2
  ·rw[zX0 e1]at h1;by_cases e2:r=p
   ·subst e2;rw[J.sy q r hq hr];exact hc q hq h1
   ·rw[zX0 e2]at h2;exact C.x q r hq hr hqr h1 h2
theorem zVl {j:Jn} (J:JV j) {c:Ct} (C:CV j c) (h0:c.wt=0) {p:Nat} (hp:p<j.ph.length) (hk:WX j c p=false):CV j (JH j c p)/\(JH j c p).gr=(yW j p).group/\(JH j c p).wt=0:=by
 have h1:=zVk J C h0 hp hk;unfold JH;split
 ·rename_i h;exact⟨h1,h,h0⟩
 ·have hg:=J.gp p hp;have:=zHk j.ph j.ph.length p hp;exact⟨zBw h1 ⟨hg.1,by unfold YX;unfold yW;omega⟩,rfl,h0⟩
theorem zQe {j:Jn} (J:JV j) {c:Ct} (C:CV j c) (h0:c.wt=0) {p:Nat} (hp:p<j.ph.length):CV j (jD j c p)/\(jD j c p).wt=0:=by
 unfold jD;split
 ·exact⟨C,h0⟩
 ·rename_i hk;obtain⟨B,hg,hw⟩:=zVl J C h0 hp (by simpa using hk);have hr:=J.rg p hp;refine⟨⟨B.n,B.k,B.x,B.g,by rw[zZm];exact B.m,λr hr2=>?_,B.w,B.z⟩,hw⟩;have hs:=PD j (yW j p).ring (yW j p).group (p+1);generalize bC j (yW j p).ring (yW j p).group (p+1)=f at *;dsimp only
  have e:((JH j c p).nx.set (yW j p).ring.toNat f).getD r default=if r=(yW j p).ring.toNat then f else(JH j c p).nx.getD r default:=by
   simp only[zX5,zZ7];split
   ·rename_i h;subst h;rw[zX1 rfl,B.m,zX1 hr2];rfl
   ·rename_i h;rw[zX0 (λe=>h e.symm)]
  rw[e];split
  ·rename_i h
   rcases hs with hs|hs
   ·exact .inl hs
   ·refine .inr ?_;rw[hg,show(r:Int)=(yW j p).ring by omega];exact hs.1
  ·exact B.v r hr2
theorem FU (j:Jn) (x r t:Int):cmF j x r t= -1∨∃p:Nat,cmF j x r t=p/\p<j.ph.length/\(yW j p).ring=r/\fO j.cf p t=false:=by
 unfold cmF;split
 ·rename_i p h;have h1:=yDr h;have h2:=bG.1 (yCm h);simp only[zYh,yAb]at h1;exact .inr ⟨p,rfl,h2.1,h2.2,h1.1⟩
 ·split
  ·rename_i p h;have h1:=yDr h;have h2:=bG.1 (yCm h);rw[yAb]at h1;exact .inr ⟨p,rfl,h2.1,h2.2,h1⟩
  ·exact .inl rfl
theorem FV {j:Jn} {c:Ct} {r:Int} {t:Nat} (ht:t<j.ph.length):YY j c r t= -1∨∃p:Nat,YY j c r t=p/\p<j.ph.length/\(yW j p).ring=r:=by
 unfold YY;split
 ·rename_i h;exact .inr ⟨t,rfl,ht,h.symm⟩
 ·rcases FU j (c.nx.getD r.toNat default) r t with h|⟨p,h1,h2,h3,_⟩
  ·exact .inl h
  ·exact .inr ⟨p,h1,h2,h3⟩
theorem zBy {j:Jn} (J:JV j) {c:Ct} (C:CV j c) (h0:c.wt=0) {t:Nat} (ht:t<j.ph.length) (r:Int):CV j (dP j t c r)/\(dP j t c r).wt=0:=by
 unfold dP;split
 ·split
  ·exact⟨C,h0⟩
  ·rename_i h
   rcases FV (j:=j) (c:=c) (r:=r) ht with h1|⟨p,h1,h2,_⟩
   ·exact absurd h1 h
   ·rw[h1,zZh];exact zQe J C h0 h2
 ·exact⟨C,h0⟩
theorem PF {j:Jn} (J:JV j) {c:Ct} (C:CV j c) (h0:c.wt=0) {r:Nat} (hr:r<2):CV j (dQ j c r)/\(dQ j c r).wt=0:=by
 unfold dQ;split
 ·rename_i h;rw[zZh]at h⊢
  rcases C.v r hr with h1|h1
  ·exact absurd h1 h.2
  ·exact zQe J C h0 (by have:=h1.2.1;have:=h1.1;omega)
 ·exact⟨C,h0⟩
theorem zVm {j:Jn} (J:JV j) {c:Ct} (C:CV j c) (h0:c.wt=0):CV j (cyF j c):=by
 have h1:CV j (if cyO c=true then BB j c ((c.gr+1) % YX j)else c)/\(if cyO c=true then BB j c ((c.gr+1) % YX j)else c).wt=0:=by
  split
  ·have:=RT J;exact⟨zBw C ⟨yBd _ zB,yA2 _ zB⟩,h0⟩
  ·exact⟨C,h0⟩
 have h2:=PF J h1.1 h1.2 (r:=0) zB;exact(PF J h2.1 h2.2 (r:=1) zB).1
theorem zXg {p:Ph} {l:Li} {lv:Bool} (hy:1<=p.yel) (hr:0<=p.red) (h:RS p l=true):RS p (LD p l lv)=true/\((LD p l lv).lamp≠0->l.lamp≠0):=by
 unfold RS at h;unfold LD;by_cases h1:l.lamp=1
 ·rw[zX1 h1];rw[zX0 zB,zX1 h1,zX9]at h;split
  ·refine⟨by unfold RS;simp;omega,λ_=>by omega⟩
  ·refine⟨by unfold RS;simp;omega,λ_=>by omega⟩
 by_cases h2:l.lamp=2
 ·rw[zX0 h1,zX1 h2];rw[zX0 zB,zX0 h1,zX1 h2,zX9]at h;split
  ·refine⟨by unfold RS;simp;omega,λ_=>by omega⟩
  ·split
   ·refine⟨by unfold RS;simp,λh=>absurd rfl h⟩
   ·refine⟨by unfold RS;simp;omega,λ_=>by omega⟩
 by_cases h3:l.lamp=3
 ·rw[zX0 h1,zX0 h2,zX1 h3];rw[zX0 zB,zX0 h1,zX0 h2,zX1 h3,zX9]at h;split
  ·refine⟨by unfold RS;simp;omega,λ_=>by omega⟩
  ·refine⟨by unfold RS;simp,λh=>absurd rfl h⟩
 ·rw[zX0 h1,zX0 h2,zX0 h3];exact⟨by unfold RS;exact h,λh=>h⟩
theorem zBz {j:Jn} {c:Ct} (t gr:Int) (nx:List Int) (wt:Int) (p:Nat) (hp:p<j.ph.length):xY ⟨XR j c t,gr,nx,wt⟩ p=LD (yW j p) (xY c p) (AD j c t p):=by
 show(XR j c t).getD p default=_
 unfold XR;simp only[zX5,zX4,zYx hp];rfl
theorem zHl {j:Jn} (J:JV j) {c:Ct} (C:CV j c) (h0:c.wt=0) (t:Int):CV j ⟨XR j c t,c.gr,c.nx,c.wt⟩:=by
 have hs:=λp hp=>zXg (lv:=AD j c t p) (by have:=J.ti p hp;omega) (by have:=J.ti p hp;omega) (C.k p hp)
 refine⟨by simp[XR],λp hp=>?_,λp q hp hq hpq h1 h2=>?_,C.g,C.m,C.v,C.w,.inl h0⟩
 ·rw[zBz _ _ _ _ _ hp];exact(hs p hp).1
 ·rw[zBz _ _ _ _ _ hp]at h1;rw[zBz _ _ _ _ _ hq]at h2;exact C.x p q hp hq hpq ((hs p hp).2 h1) ((hs q hq).2 h2)
theorem zQf {j:Jn} (J:JV j) {c:Ct} (C:CV j c) (t:Int):CV j (NS j c t):=by
 unfold NS;split
 ·rename_i h;have hz:=C.z;have hw:=C.w;refine⟨C.n,C.k,C.x,C.g,C.m,C.v,by dsimp only;omega,?_⟩
  rcases hz with hz|hz
  ·omega
  ·exact .inr hz
 ·have h0:c.wt=0:=by have:=C.w;omega
  have L:=zHl J C h0 t;split
  ·rename_i h;unfold PE at h;rw[zX9]at h;have h1:=zBy J L h0 (t:=t.toNat) zB 0;exact(zBy J h1.1 h1.2 (t:=t.toNat) zB 1).1
  ·exact zVm J L h0
theorem jV (rows:List Int) (hn:rows.length<=40) (p q:Int):zN 204 [zD iA rows,iA p,iA q] [] (bA (fO rows p q)) []:=by
 have hl:=zA iA rows;unfold fO;by_cases h1:0<=p
 case neg=>
  rw[zYa (λh=>h1 h.1)];refine eM call204 λF hF=>?_
  refine WW ?_;exact zJ
 by_cases h2:0<=q
 case neg=>
  rw[zYa (λh=>h2 h.2.1)];refine eM call204 λF hF=>?_
  refine WW ?_;exact zJ
 by_cases h3:p<rows.length
 case neg=>
  rw[zYa (λh=>h3 h.2.2.1)];refine eM call204 λF hF=>?_
  refine WW ?_;exact zJ
 by_cases h4:q<rows.length
 case neg=>
  rw[zYa (λh=>h4 h.2.2.2)];refine eM call204 λF hF=>?_
  refine WW ?_;exact zJ
 rw[zX8 ⟨h1,h2,h3,h4⟩,zYp];have hy:=yM iA rows p h1 h3;generalize rows.getD p.toNat default=x at *;by_cases h5:jU (uB x q) 1=1
 ·rw[show(jU (uB x q) 1==1)=true by rw[zZg];exact h5];refine eM call204 λF hF=>?_
  refine WW ?_;exact zJ
 ·rw[show(jU (uB x q) 1==1)=false by rw[zY9];exact h5];refine eM call204 λF hF=>?_
  refine WW ?_;exact zJ
def PhB (p:Ph):Prop:=0<=p.walk/\p.walk<=60/\0<=p.clear/\p.clear<=60
theorem zB0 (p:Ph) (h:PhB p):zN 182 [wU p] [] (iA (lnF p)) []:=by
 obtain⟨h1,h2,h3,h4⟩:=h;refine eM call182 λF hF=>?_
 refine WW ?_;exact zJ
theorem zMr (p:Ph) (h:PhB p) (l:Li) (ht: -1000000000000<=l.tk/\l.tk<=1000000000000) (lv:Bool):zN 227 [wU p,vF l,bA lv] [] (vF (LD p l lv)) []:=by
 have c:=zB0 p h;unfold LD;by_cases h1:l.lamp=1
 ·rw[zX1 h1];generalize lnF p=n at*
  cases lv with
  |false=>
   rw[zX0 (λh=>by cases h.1)];refine eM call227 λF hF=>?_
   refine WW ?_;exact zJ
  |true=>
  by_cases h2:n<=l.tk+1
  ·rw[zX1 ⟨rfl,h2⟩];refine eM call227 λF hF=>?_
   refine zU c ?_;exact zJ
  ·rw[zX0 (λh=>h2 h.2)];refine eM call227 λF hF=>?_
   refine zU c ?_;exact zJ
 rw[zX0 h1];by_cases h2:l.lamp=2
 ·rw[zX1 h2];by_cases h3:l.tk+1<p.yel
  ·rw[zX1 h3];refine eM call227 λF hF=>?_
   refine WW ?_;exact zJ
  rw[zX0 h3];by_cases h4:p.red=0
  ·rw[zX1 h4];refine eM call227 λF hF=>?_
   refine WW ?_;exact zJ
  ·rw[zX0 h4];refine eM call227 λF hF=>?_
   refine WW ?_;exact zJ
 rw[zX0 h2];by_cases h3:l.lamp=3
 ·rw[zX1 h3];by_cases h4:l.tk+1<p.red
  ·rw[zX1 h4];refine eM call227 λF hF=>?_
   refine WW ?_;exact zJ
  ·rw[zX0 h4];refine eM call227 λF hF=>?_
   refine WW ?_;exact zJ
 ·rw[zX0 h3];refine eM call227 λF hF=>?_
  refine WW ?_;exact zJ
theorem zHm (p:Ph) (l:Li):zN 245 [wU p,vF l] [] (bA (RS p l)) []:=by
 unfold RS;by_cases h0:l.lamp=0
 ·rw[zX1 h0];by_cases h:l.tk=0
  ·rw[zX8 h];refine eM call245 λF hF=>?_
   refine WW ?_;exact zJ
  ·rw[zYa h];refine eM call245 λF hF=>?_
   refine WW ?_;exact zJ
 rw[zX0 h0];by_cases h1:l.lamp=1
 ·rw[zX1 h1];by_cases h:0<=l.tk
  ·by_cases h':l.tk<=1073741824
   ·rw[zX8 ⟨h,h'⟩];refine eM call245 λF hF=>?_
    refine WW ?_;exact zJ
   ·rw[zYa (λk=>h' k.2)];refine eM call245 λF hF=>?_
    refine WW ?_;exact zJ
  ·rw[zYa (λk=>h k.1)];refine eM call245 λF hF=>?_
   refine WW ?_;exact zJ
 rw[zX0 h1];by_cases h2:l.lamp=2
 ·rw[zX1 h2];by_cases h:0<=l.tk
  ·by_cases h':l.tk<p.yel
   ·rw[zX8 ⟨h,h'⟩];refine eM call245 λF hF=>?_
    refine WW ?_;exact zJ
   ·rw[zYa (λk=>h' k.2)];refine eM call245 λF hF=>?_
    refine WW ?_;exact zJ
  ·rw[zYa (λk=>h k.1)];refine eM call245 λF hF=>?_
   refine WW ?_;exact zJ
 rw[zX0 h2];by_cases h3:l.lamp=3
 ·rw[zX1 h3];by_cases h:0<=l.tk
  ·by_cases h':l.tk<p.red
   ·rw[zX8 ⟨h,h'⟩];refine eM call245 λF hF=>?_
    refine WW ?_;exact zJ
   ·rw[zYa (λk=>h' k.2)];refine eM call245 λF hF=>?_
    refine WW ?_;exact zJ
  ·rw[zYa (λk=>h k.1)];refine eM call245 λF hF=>?_
   refine WW ?_;exact zJ
 ·rw[zX0 h3];refine eM call245 λF hF=>?_
  refine WW ?_;exact zJ
theorem FW (j:Jn) (r:Int) (i:Nat):rpN j r (i+1)=if(yW j i).ring=r then rpN j r i++[i]else rpN j r i:=by
 unfold rpN;rw[yAh,yBq];by_cases h:(yW j i).ring=r
 ·rw[zX1 h];simp[h]
 ·rw[zX0 h];simp[h]
theorem zB1 (j:Jn) (r:Int):∀n i,i<=n->∃l,rpN j r n=rpN j r i++l
 |0,i,h=>⟨[],by rw[Nat.le_zero.1 h];simp⟩
 | n+1,i,h=>by
  by_cases e:i=n+1
  ·exact⟨[],by rw[e];simp⟩
  ·obtain⟨l,hl⟩:=zB1 j r n i zB;rw[FW];split
   ·exact⟨l++[n],by rw[hl,zYv]⟩
   ·exact⟨l,hl⟩
def zDp (j:Jn) (r:Int):List (Nat×xN):=[(1003,.box [zD wU j.ph,zD iA j.cf,iA j.st]),(1004,.box [iA r])]
theorem zHn (j:Jn) (r:Int):zN 231 [wH j,iA r] [] (.fn 255 [.ptr 1003 0 0,.ptr 1004 0 0]) (zDp j r):=by
 refine eM call231 λF hF=>?_
 repeat' (first|(refine zE ?_;first|refine uN (jF (v:=AV.agg _) 1003 rfl rfl) rfl rfl rfl ?_|refine uN (jF (v:=AV.s _) 1004 rfl rfl) rfl rfl rfl ?_|refine vN tok rfl rfl ?_|refine qF ?_)|(first|refine xS ?_|refine xD ?_|refine vD rfl ?_|refine zX rfl ?_|refine zQ rfl ?_|refine xK rfl (λhc=>?_) (λhc=>?_)|refine yY ?_|refine yU ?_|refine xE ?_|refine yT ?_))
 exact zL [1003,1004] rfl rfl rfl rfl
theorem AE (j:Jn) (hn:j.ph.length<=1000) (r:Int):YN prog 255 [.ptr 1003 0 0,.ptr 1004 0 0] (zDp j r) ((NR j r).map λp:Nat=>[iA (p:Int)]):=by
 have hl:=zA wU j.ph;refine bY func255 rfl (λargs w=>call255 args w) rfl rfl rfl (λF y hro hit hY=>?_);unfold zDp;refine WW ?_;refine zP (j.ph.length) [1003,1004] [1003,1004] [0,2,7,8] [9,1000000,0,2,7,8] rfl (λi T U=>⟨(9,iA i)::(1000000,.gh (rpN j r i).length)::T,U⟩) ?_;(conv=>whnf);refine⟨by rfl,?_,?_⟩
 ·intro i hi;have hy:=zM wU j.ph i hi;have es:=FW j r i
  change (j.ph.map wU)[i]? =some (wU (yW j i))at hy
  by_cases hr:(yW j i).ring=r
  ·rw[zX1 hr]at es;obtain⟨l2,hpre⟩:=zB1 j r j.ph.length (i+1) zB;rw[es]at hpre⊢
   have hys:((NR j r).map λp:Nat=>[iA (p:Int)])[(rpN j r i).length]? =some [iA (i:Int)]:=by
    unfold NR;rw[hpre,zX4,zYw zS,zYs (zX6 _),yAe];rfl
   have hlen:=(zYq.1 hys).1;rw[zX3];generalize ((NR j r).map λp:Nat=>[iA (p:Int)])=xs at *;generalize (rpN j r i).length=k at *;generalize yW j i=t at*
   (repeat' (first|refine qB ?_|refine xO (λhc=>?_) (λhc=>?_)|refine wB (λhc=>?_)|(refine zE ?_;refine wD ?_;first|(refine ZP ?_;refine QJ hit hY rfl rfl hys rfl rfl rfl ?_ ?_))|(refine zE ?_;first|refine SM ?_)|fail))
   ·rfl
   ·exact bB rfl (.inr zB)
  ·rw[zX0 hr]at es;rw[es];generalize (rpN j r i).length=k at *;generalize yW j i=t at *;refine WW ?_;rfl
 ·have e:(rpN j r j.ph.length).length=((NR j r).map λp:Nat=>[iA (p:Int)]).length:=by rw[zX2];rfl
  refine WW ?_;exact ZQ rfl (.inl e)
end Av
end Go.Proofs.YtmamjhmoegjapaaGreat
