/- Part 16. -/
import Derived.Test.YteajjdidebfcjaaGreatV15
namespace Go.Proofs.YteajjdidebfcjaaGreat
namespace Av
open Tryz
set_option linter.all false
set_option maxRecDepth 4000
set_option maxHeartbeats 4000000
structure Vw where
 fl:Bool
 ov:Bool
 co:List Int
 cn:List Int
instance:Inhabited Vw:=⟨⟨false,false,[],[]⟩⟩
def vW (v:Vw):AV:= .agg [bA v.fl,bA v.ov,zD iA v.co,zD iA v.cn]
structure BL (v:Vw):Prop where
 n:v.co.length<=8
 m:v.cn.length<=8
 c:∀c∈v.co,0<=c/\c<=2
def WK (n:Int):Int:=IntKind.u8.wrap n
def hdF (a b:Bool):Int:=(if a=true then 1 else 0)+(if b=true then 2 else 0)
def jC (l:List Int):Nat->Int
 |0=>0
 |i+1=>jC l i+l.getD i 0*p2 (2*(i:Int))
def vwF (v:Vw):List Int:=[hdF v.fl v.ov,qG (jC v.co v.co.length) 8,WK (jC v.co v.co.length)]++v.cn.map WK
def WM (l:List Vw):List Int:=(l.map vwF).flatten
def zHm (i:Nat):p2 (2*((i+1:Nat):Int))=p2 (2*(i:Int))*4:=by
 unfold p2;rw[show(2*((i+1:Nat):Int)).toNat=(2*(i:Int)).toNat+2 by omega,Int.pow_add];rfl
def WN (i:Nat) (h:i<=8):1<=p2 (2*(i:Int))/\p2 (2*(i:Int))<=65536:=by
 have:i=0∨i=1∨i=2∨i=3∨i=4∨i=5∨i=6∨i=7∨i=8:=by omega
 rcases this with rfl|rfl|rfl|rfl|rfl|rfl|rfl|rfl|rfl<;>decide
theorem JQ {l:List Int} (h:∀c∈l,0<=c/\c<=2):∀i,i<=l.length->i<=8->0<=jC l i/\jC l i<p2 (2*(i:Int))
 |0,_,_=>by simp[jC,p2]
 | i+1,h1,h2=>by
  have ih:=JQ h i zB zB
  have hm:l.getD i 0∈l:=by
   rw[zYc,zYk zB];exact yAr _
  have hc:=h _ hm;have hp:=WN i zB;rw[zHm,jC];generalize l.getD i 0=c at *;generalize p2 (2*(i:Int))=w at *;have:c=0∨c=1∨c=2:=by omega
  rcases this with rfl|rfl|rfl<;>omega
def zVk {n:Int} (h0:0<=n) (h1:n<65536):0<=qG n 8/\qG n 8<=255:=by
 unfold qG;rw[show(2:Int) ^ (8:Int).toNat=256 from Z,zZ1 _ zB];omega
def zHn (pre:List Vw) (v:Vw):(WM (pre++[v])).map yA=(WM pre).map yA++[yA (hdF v.fl v.ov),yA (qG (jC v.co v.co.length) 8),yA (WK (jC v.co v.co.length))]++v.cn.map (λn=>yA (WK n)):=by
 unfold WM vwF;simp
def UG {l:List Vw} (h:∀v∈l,BL v):(WM l).length<=11*l.length:=by
 unfold WM
 induction l with
 |nil=>simp
 |cons v l ih=>
  have h1:=ih λx hx=>h x OU
  have h2:=(h v zW).m;rw[zZj,yAt,zX4,zYh];unfold vwF;rw[zX4,zX5];simp only[zYh,zZc];unfold vwF at h1;omega
theorem zHo (l:List Vw) (hn:l.length<=1000) (hb:∀v∈l,BL v):zO 178 [zD vW l] [] (.ref 1001 0 ((WM l).map yA).length) [(1001,.arr 1 ((WM l).map yA) true)]:=by
 have hl:=zA vW l;have hfin:=UG hb;refine eM call178 λF hF=>?_
 refine WW ?_;refine xA 3 1001 1 Z Z Z ?_;refine yT (l) [1001] [] [13,14] [3,15,13,14] Z (λi pre T U=>⟨(3,.ref 1001 0 ((WM pre).map yA).length)::(15,iA i)::T,(1001,.arr 1 ((WM pre).map yA) true)::U⟩) ?_;(conv=>whnf);refine⟨by rfl,?_,?_⟩
 ·intro i pre v post hx hi;have hy:=xQ vW hx hi;have hlt:=yW hx hi;have hv:=hb v (vF hx);have hpl:=UG (l:=pre) (λw hw=>hb w (by rw[hx];simp[hw]));have hxl:((WM pre).map yA).length<=11000:=by rw[zX5];omega
  rw[zHn];clear hx hpl hfin;generalize (WM pre).map yA=xs at *;have hc1:=zA iA v.co;have hc2:=zA iA v.cn;have hbd:=λk hk=>JQ hv.c k hk (zY9 hk hv.n)
  have hn8:=hv.n;have hm8:=hv.m;obtain⟨fl,ov,co,cn⟩:=v;dsimp only at *;rw[show vW ⟨fl,ov,co,cn⟩= .agg [bA fl,bA ov,zD iA co,zD iA cn]from Z]at hy;have hlast:=hbd co.length (zX7 _);have hpl8:=WN co.length hn8;have hs8:=zVk (n:=jC co co.length) hlast.1 zB
  cases fl<;>cases ov
  ·(refine WW ?_)
   refine yT (co) [5,1001] [5,1001] [3,5,6,13,14,15,28,29] [7,8,30,3,5,6,13,14,15,28,29] Z (λi pre T U=>⟨(7,iA (jC co i))::(8,iA (p2 (2*(i:Int))))::(30,iA i)::T,U⟩) ?_;(conv=>whnf);refine⟨by rfl,?_,?_⟩
   ·intro k pre2 c post2 hx2 hk;have hy2:=xQ iA hx2 hk;have hlt2:=yW hx2 hk;have hcm:=hv.c c (vF hx2);have hg:co.getD k 0=c:=by rw[hx2,<-hk];simp[List.getD]
    have hb1:=hbd k zB;have hp1:=WN k zB;have e1:jC co (k+1)=jC co k+c*p2 (2*(k:Int)):=by rw[jC,hg]
    rw[e1,zHm];clear hx2 hbd hlast hpl8 hs8 e1 hv;generalize jC co k=s at *;generalize p2 (2*(k:Int))=w at *;have:c=0∨c=1∨c=2:=by omega
    rcases this with rfl|rfl|rfl
    all_goals
     refine WW ?_;rfl
   ·clear hbd hv;generalize jC co co.length=s at *;refine WW ?_;refine yT (cn) [1001] [] [13,14,15,53,54] [3,55,13,14,15,53,54] Z (λi pre T U=>⟨(3,.ref 1001 0 (xs++[yA (hdF false false),yA (qG s 8),yA (WK s)]++pre.map (λn=>yA (WK n))).length)::(55,iA i)::T,(1001,.arr 1 (xs++[yA (hdF false false),yA (qG s 8),yA (WK s)]++pre.map (λn=>yA (WK n))) true)::U⟩) ?_;(conv=>whnf);refine⟨by(simp only[yAl,zY4];rfl),?_,?_⟩
    ·intro k pre2 c post2 hx2 hk;have hy2:=xQ iA hx2 hk;have hlt2:=yW hx2 hk;have hpk:(pre2.map (λn=>yA (WK n))).length=k:=by rw[zX5];exact hk
     rw[zYd,zZj,yAl,<-zYw];clear hx2;generalize pre2.map (λn=>yA (WK n))=zs2 at *;refine WW ?_;rfl
    ·(refine WW ?_)
     rfl
  ·(refine WW ?_)
   refine yT (co) [5,1001] [5,1001] [3,5,6,13,14,15,28,29] [7,8,30,3,5,6,13,14,15,28,29] Z (λi pre T U=>⟨(7,iA (jC co i))::(8,iA (p2 (2*(i:Int))))::(30,iA i)::T,U⟩) ?_;(conv=>whnf);refine⟨by rfl,?_,?_⟩
   ·intro k pre2 c post2 hx2 hk;have hy2:=xQ iA hx2 hk;have hlt2:=yW hx2 hk;have hcm:=hv.c c (vF hx2);have hg:co.getD k 0=c:=by rw[hx2,<-hk];simp[List.getD]
    have hb1:=hbd k zB;have hp1:=WN k zB;have e1:jC co (k+1)=jC co k+c*p2 (2*(k:Int)):=by rw[jC,hg]
    rw[e1,zHm];clear hx2 hbd hlast hpl8 hs8 e1 hv;generalize jC co k=s at *;generalize p2 (2*(k:Int))=w at *;have:c=0∨c=1∨c=2:=by omega
    rcases this with rfl|rfl|rfl
    all_goals
     refine WW ?_;rfl
   ·clear hbd hv;generalize jC co co.length=s at *;refine WW ?_;refine yT (cn) [1001] [] [13,14,15,53,54] [3,55,13,14,15,53,54] Z (λi pre T U=>⟨(3,.ref 1001 0 (xs++[yA (hdF false true),yA (qG s 8),yA (WK s)]++pre.map (λn=>yA (WK n))).length)::(55,iA i)::T,(1001,.arr 1 (xs++[yA (hdF false true),yA (qG s 8),yA (WK s)]++pre.map (λn=>yA (WK n))) true)::U⟩) ?_;(conv=>whnf);refine⟨by(simp only[yAl,zY4];rfl),?_,?_⟩
    ·intro k pre2 c post2 hx2 hk;have hy2:=xQ iA hx2 hk;have hlt2:=yW hx2 hk;have hpk:(pre2.map (λn=>yA (WK n))).length=k:=by rw[zX5];exact hk
     rw[zYd,zZj,yAl,<-zYw];clear hx2;generalize pre2.map (λn=>yA (WK n))=zs2 at *;refine WW ?_;rfl
    ·(refine WW ?_)
     rfl
  ·(refine WW ?_)
   refine yT (co) [5,1001] [5,1001] [3,5,6,13,14,15,28,29] [7,8,30,3,5,6,13,14,15,28,29] Z (λi pre T U=>⟨(7,iA (jC co i))::(8,iA (p2 (2*(i:Int))))::(30,iA i)::T,U⟩) ?_;(conv=>whnf);refine⟨by rfl,?_,?_⟩
   ·intro k pre2 c post2 hx2 hk;have hy2:=xQ iA hx2 hk;have hlt2:=yW hx2 hk;have hcm:=hv.c c (vF hx2);have hg:co.getD k 0=c:=by rw[hx2,<-hk];simp[List.getD]
    have hb1:=hbd k zB;have hp1:=WN k zB;have e1:jC co (k+1)=jC co k+c*p2 (2*(k:Int)):=by rw[jC,hg]
    rw[e1,zHm];clear hx2 hbd hlast hpl8 hs8 e1 hv;generalize jC co k=s at *;generalize p2 (2*(k:Int))=w at *;have:c=0∨c=1∨c=2:=by omega
    rcases this with rfl|rfl|rfl
    all_goals
     refine WW ?_;rfl
   ·clear hbd hv;generalize jC co co.length=s at *;refine WW ?_;refine yT (cn) [1001] [] [13,14,15,53,54] [3,55,13,14,15,53,54] Z (λi pre T U=>⟨(3,.ref 1001 0 (xs++[yA (hdF true false),yA (qG s 8),yA (WK s)]++pre.map (λn=>yA (WK n))).length)::(55,iA i)::T,(1001,.arr 1 (xs++[yA (hdF true false),yA (qG s 8),yA (WK s)]++pre.map (λn=>yA (WK n))) true)::U⟩) ?_;(conv=>whnf);refine⟨by(simp only[yAl,zY4];rfl),?_,?_⟩
    ·intro k pre2 c post2 hx2 hk;have hy2:=xQ iA hx2 hk;have hlt2:=yW hx2 hk;have hpk:(pre2.map (λn=>yA (WK n))).length=k:=by rw[zX5];exact hk
     rw[zYd,zZj,yAl,<-zYw];clear hx2;generalize pre2.map (λn=>yA (WK n))=zs2 at *;refine WW ?_;rfl
    ·(refine WW ?_)
     rfl
  ·(refine WW ?_)
   refine yT (co) [5,1001] [5,1001] [3,5,6,13,14,15,28,29] [7,8,30,3,5,6,13,14,15,28,29] Z (λi pre T U=>⟨(7,iA (jC co i))::(8,iA (p2 (2*(i:Int))))::(30,iA i)::T,U⟩) ?_;(conv=>whnf);refine⟨by rfl,?_,?_⟩
   ·intro k pre2 c post2 hx2 hk;have hy2:=xQ iA hx2 hk;have hlt2:=yW hx2 hk;have hcm:=hv.c c (vF hx2);have hg:co.getD k 0=c:=by rw[hx2,<-hk];simp[List.getD]
    have hb1:=hbd k zB;have hp1:=WN k zB;have e1:jC co (k+1)=jC co k+c*p2 (2*(k:Int)):=by rw[jC,hg]
    rw[e1,zHm];clear hx2 hbd hlast hpl8 hs8 e1 hv;generalize jC co k=s at *;generalize p2 (2*(k:Int))=w at *;have:c=0∨c=1∨c=2:=by omega
    rcases this with rfl|rfl|rfl
    all_goals
     refine WW ?_;rfl
   ·clear hbd hv;generalize jC co co.length=s at *;refine WW ?_;refine yT (cn) [1001] [] [13,14,15,53,54] [3,55,13,14,15,53,54] Z (λi pre T U=>⟨(3,.ref 1001 0 (xs++[yA (hdF true true),yA (qG s 8),yA (WK s)]++pre.map (λn=>yA (WK n))).length)::(55,iA i)::T,(1001,.arr 1 (xs++[yA (hdF true true),yA (qG s 8),yA (WK s)]++pre.map (λn=>yA (WK n))) true)::U⟩) ?_;(conv=>whnf);refine⟨by(simp only[yAl,zY4];rfl),?_,?_⟩
    ·intro k pre2 c post2 hx2 hk;have hy2:=xQ iA hx2 hk;have hlt2:=yW hx2 hk;have hpk:(pre2.map (λn=>yA (WK n))).length=k:=by rw[zX5];exact hk
     rw[zYd,zZj,yAl,<-zYw];clear hx2;generalize pre2.map (λn=>yA (WK n))=zs2 at *;refine WW ?_;rfl
    ·(refine WW ?_)
     rfl
 ·(refine WW ?_)
  exact zL [1001] Z Z Z Z
def cdW (g:Lg) (w:Vw):Int:=if 0<=g.ph/\g.ph<(w.co.length:Int)then(if w.ov=true/\w.fl=false/\w.co.getD g.ph.toNat default=1 then 3 else 2)else 1
def cdF (g:Lg) (v:List Vw) (now:Int):Int:=if liB g now=true/\0<=g.jn/\g.jn<(v.length:Int)then cdW g (v.getD g.jn.toNat default)else 1
def zHp (g:Lg) (v:List Vw) (now:Int):1<=cdF g v now/\cdF g v now<=3:=by
 unfold cdF cdW
 repeat' split
 all_goals omega
def zHq (g:Lg) (v:List Vw) (now:Int) {Q:Int->Prop} (q1:liB g now=false->Q 1) (q2:liB g now=true->g.jn<0->Q 1) (q3:liB g now=true->0<=g.jn->(v.length:Int)<=g.jn->Q 1)
  (q4:∀w,liB g now=true->0<=g.jn->g.jn<(v.length:Int)->(v.map vW)[g.jn.toNat]? =some (vW w)->g.ph<0->Q 1)
  (q5:∀w,liB g now=true->0<=g.jn->g.jn<(v.length:Int)->(v.map vW)[g.jn.toNat]? =some (vW w)->0<=g.ph->(w.co.length:Int)<=g.ph->Q 1)
  (q6:∀w c,liB g now=true->0<=g.jn->g.jn<(v.length:Int)->(v.map vW)[g.jn.toNat]? =some (vW w)->0<=g.ph->g.ph<(w.co.length:Int)->(w.co.map iA)[g.ph.toNat]? =some (iA c)->Q (if w.ov=true/\w.fl=false/\c=1 then 3 else 2)):Q (cdF g v now):=by
 unfold cdF
 cases hl:liB g now with
 |false=>rw[zX2 (λh=>by cases h.1)];exact q1 hl
 |true=>
  by_cases j0:g.jn<0
  ·rw[zX2 (λh=>by omega)];exact q2 hl j0
  by_cases j1:(v.length:Int)<=g.jn
  ·rw[zX2 (λh=>by omega)];exact q3 hl zB j1
  have hy:=yN vW v g.jn zB zB;rw[zX3 ⟨rfl,zB,zB⟩];generalize v.getD g.jn.toNat default=w at *;unfold cdW;by_cases p0:g.ph<0
  ·rw[zX2 (λh=>by omega)];exact q4 w hl zB zB hy p0
  by_cases p1:(w.co.length:Int)<=g.ph
  ·rw[zX2 (λh=>by omega)];exact q5 w hl zB zB hy zB p1
  have hy2:=yN iA w.co g.ph zB zB;rw[zX3 ⟨zB,zB⟩];exact q6 w _ hl zB zB hy zB zB hy2
def zSm (g:Lg) (v:List Vw) (now:Int) (hn:v.length<=1000) (hb:∀w∈v,w.co.length<=1000):zO 88 [xW g,zD vW v,iA now] [] (iA (cdF g v now)) []:=by
 have cl:=zI7 g now;have hvl:=zA vW v;have hb:∀w,(v.map vW)[g.jn.toNat]? =some (vW w)->(w.co.map iA).length=w.co.length:=λw _=>zA iA w.co
 unfold xW at *;refine zHq (Q:=λr=>zO 88 [.agg [iA g.jn,iA g.ph,iA g.fr,iA g.to,iA g.sc],zD vW v,iA now] [] (iA r) []) g v now (λh1=>?_) (λh1 h2=>?_) (λh1 h2 h3=>?_) (λw h1 h2 h3 hy h4=>?_) (λw h1 h2 h3 hy h4 h5=>?_) (λw c h1 h2 h3 hy h4 h5 hy2=>?_)
 ·rw[h1]at cl;refine eM call88 λF hF=>?_
  refine zY cl ?_;exact zJ
 ·rw[h1]at cl;refine eM call88 λF hF=>?_
  refine zY cl ?_;exact zJ
 ·rw[h1]at cl;refine eM call88 λF hF=>?_
  refine zY cl ?_;exact zJ
 ·rw[h1]at cl;unfold vW at hy;refine eM call88 λF hF=>?_
  refine zY cl ?_;exact zJ
 ·rw[h1]at cl;have hwl:=hb w hy;unfold vW zD at hy;refine eM call88 λF hF=>?_
  refine zY cl ?_;exact zJ
 ·rw[h1]at cl;have hwl:=hb w hy;clear hb;obtain⟨fl,ov,co,cn⟩:=w;rw[show vW ⟨fl,ov,co,cn⟩= .agg [bA fl,bA ov,zD iA co,zD iA cn]from Z]at hy;dsimp only at *;cases ov
  ·(refine eM call88 λF hF=>?_)
   refine zY cl ?_;exact zJ
  cases fl
  case true=>
   refine eM call88 λF hF=>?_
   refine zY cl ?_;exact zJ
  by_cases hc1:c=1
  ·rw[zX3 ⟨rfl,rfl,hc1⟩];refine eM call88 λF hF=>?_
   refine zY cl ?_;exact zJ
  ·rw[zX2 (λh=>hc1 h.2.2)];refine eM call88 λF hF=>?_
   refine zY cl ?_;exact zJ
def cqF (l:List Rq) (v:List Vw) (now:Int) (i:Nat):Int:=if i/3<l.length/\i % 3<(l.getD (i/3) default).legs.length then cdF ((l.getD (i/3) default).legs.getD (i % 3) default) v now else 0
def cqL (l:List Rq) (v:List Vw) (now:Int) (n:Nat):List Int:=(List.range n).map (cqF l v now)
def FS (l:List Rq) (v:List Vw) (now:Int) (N i:Nat):List Int:=(List.range N).map λj=>if j<i then cqF l v now j else 0
def zCc (l:List Rq) (v:List Vw) (now:Int) (N i:Nat):(FS l v now N i).length=N:=by simp[FS]
def zHr (l:List Rq) (v:List Vw) (now:Int) (N:Nat):(FS l v now N 0).map yA=List.replicate N (yA 0):=by
 apply zZf;intro j;unfold FS;rw[zX8,zX8,zZ0];by_cases hj:j<N
 ·rw[zY5 hj,zX3 hj];simp
 ·rw[zYx xX,zX2 hj];rfl
def AO (l:List Rq) (v:List Vw) (now:Int) (N k j:Nat):((FS l v now N k).map yA)[j]? =if j<N then some (yA (if j<k then cqF l v now j else 0))else none:=by
 unfold FS;rw[zX8,zX8];by_cases hj:j<N
 ·rw[zY5 hj,zX3 hj];rfl
 ·rw[zYx xX,zX2 hj];rfl
def zHs (l:List Rq) (v:List Vw) (now:Int) (N i:Nat) (hi:i<N):(FS l v now N (i+1)).map yA=((FS l v now N i).map yA).set i (yA (cqF l v now i)):=by
 apply zZf;intro j;rw[yAb,AO,AO,zX5,zCc];by_cases he:i=j
 ·subst he;rw[zX3 hi,zX3 Z,zX3 hi,zX3 (Nat.lt_succ_self i)]
 ·rw[zX2 he];by_cases hj:j<N
  ·rw[zX3 hj,zX3 hj];by_cases h2:j<i
   ·rw[zX3 zB,zX3 h2]
   ·rw[zX2 zB,zX2 h2]
  ·rw[zX2 hj,zX2 hj]
def zM8 (l:List Rq) (v:List Vw) (now:Int) (N:Nat):FS l v now N N=cqL l v now N:=by
 unfold FS cqL;apply yA3;intro j hj;rw[zX3 (zYs.1 hj)]
theorem zM9 (l:List Rq) (q:Nat) (v:List Vw) (now:Int) (hq:q<=1000) (hl:l.length<=1000) (hlg:∀r∈l,r.legs.length<=1000) (hn:v.length<=1000) (hb:∀w∈v,w.co.length<=1000):
  zO 132 [zD yL l,iA q,zD vW v,iA now] [] (zD yA (cqL l v now (q*3))) []:=by
 have hll:=zA yL l;by_cases h0:q=0
 ·subst h0;refine eM call132 λF hF=>?_
  refine WW ?_;exact zJ
 have e0:=zHr l v now (q*3);have hvl:=zA vW v;refine eM call132 λF hF=>?_
 refine WW ?_;have hN9:q*3<=3000:=by omega
 generalize q*3=N at *;refine zS (N) [21] [] [0,2,3,9,23] [24,0,2,3,9,23] Z (λi T U=>⟨(24,iA i)::T,(21,.arr 1 ((FS l v now N i).map yA) false)::U⟩) ?_;(conv=>whnf);refine⟨by(rw[e0];rfl),?_,?_⟩
 ·intro i hi;have hr:(i:Int).tdiv 3=((i/3:Nat):Int):=by rw[zZw zB];omega
  have hk:(i:Int).tmod 3=((i % 3:Nat):Int):=by rw[zZq zB];omega
  have hin:YH .i64 ((i:Int).tdiv 3):=⟨by show -9223372036854775808<=_;omega,by show _<=9223372036854775807;omega⟩;have hnl:((FS l v now N i).map yA).length=N:=by rw[zX5,zCc]
  have e:=zHs l v now N i hi;rw[e];have hyx:((FS l v now N i).map yA)[i]? =some (yA (if i<i then cqF l v now i else 0)):=by rw[AO,zX3 hi]
  have hset:∀y:AV,(((FS l v now N i).map yA).set i y)[i]? =some y:=λy=>zZu zB
  by_cases hr1:i/3<l.length
  ·have hy:(l.map yL)[((i:Int).tdiv 3).toNat]? =some (yL (l.getD (i/3) default)):=by rw[hr];exact zM yL l _ hr1
   have hxl:(l.getD (i/3) default).legs.length<=1000:=hlg _ (by rw[zYc,zYk hr1];exact yAr _);have hxm:=zA xW (l.getD (i/3) default).legs
   have ec:cqF l v now i=if i % 3<(l.getD (i/3) default).legs.length then cdF ((l.getD (i/3) default).legs.getD (i % 3) default) v now else 0:=by
    unfold cqF;by_cases h:i % 3<(l.getD (i/3) default).legs.length
    ·rw[zX3 ⟨hr1,h⟩,zX3 h]
    ·rw[zX2 (λh9=>h h9.2),zX2 h]
   rw[ec];clear e ec e0;generalize l.getD (i/3) default=x at *;unfold yL zD at hy;by_cases hk1:i % 3<x.legs.length
   ·have hy2:(x.legs.map xW)[((i:Int).tmod 3).toNat]? =some (xW (x.legs.getD (i % 3) default)):=by rw[hk];exact zM xW x.legs _ hk1
    have cc:=zSm (x.legs.getD (i % 3) default) v now hn hb;have hcb:=zHp (x.legs.getD (i % 3) default) v now;rw[zX3 hk1];generalize cdF (x.legs.getD (i % 3) default) v now=c at *;generalize x.legs.getD (i % 3) default=g at *;generalize (FS l v now N i).map yA=xs at*
    (have zc1:=cc;(repeat' (first|refine WTR ?_|apply xL|apply wB|intro hc|(refine zE ?_;first|(refine gC ?_;refine cH tok Z Z Z (hset _) Z Z Z Z Z Z Z Z ?_)|refine SM ?_)|refine SB ?_|fail))<;>clear zc1)
    refine zY3 (St.mk _) ?_
    show [(21,xN.arr 1 ((xs.set i _).set i _) _)]=_
    rw[yCy];rfl
   ·rw[zX2 hk1];generalize (FS l v now N i).map yA=xs at *;refine WW ?_;rfl
  ·have ec:cqF l v now i=0:=by unfold cqF;rw[zX2 (λh=>hr1 h.1)]
   rw[ec];clear e ec e0;generalize (FS l v now N i).map yA=xs at *;refine WW ?_;rfl
 ·rw[zM8];refine WW ?_;refine zI [] Z Z ?_ Z;exact zY3 (AV.sl false) (zYe (by simp[cqL]))
def stM (now:Int) (v:List Vw) (b:List Int):Ms:=⟨17,[],[now],WM v++b⟩
def zSn (now:Int) (v:List Vw) (b:List Int) (hn:v.length<=1000) (hb:∀w∈v,BL w) (hl:b.length<=10000):zO 133 [iA now,zD vW v,zD yA b] [] (yF (stM now v b)) []:=by
 have kr:=zHo v hn hb;have h1:=UG hb;have hrl:=zA yA (WM v);have hbl:=zA yA b;rw[show yF (stM now v b)= .agg [iA 17,.sl false [],.sl false [iA now],.sl false ((WM v).map yA++b.map yA)] by unfold stM yF zD;rw[zYd];rfl];generalize (WM v).map yA=xs at *;refine eM call133 λF hF=>?_
 refine WLo kr ?_;refine zI [] Z Z ?_ Z;exact zY3 (λz=>AV.agg [iA 17,AV.sl false [],AV.sl false [iA now],AV.sl false z]) zX6
def cD (d:xI) (v:List Vw) (now:Int):Ms:=stM now v (cqL d.rq v now (d.rg.ag.req.toNat*3))
def FT (d:xI) (hd:cO d) (hq:0<=d.rg.ag.req/\d.rg.ag.req<=4) (v:List Vw) (now:Int) (hn:v.length<=1000) (hb:∀w∈v,BL w):zO 96 [zK d,zD vW v,iA now] [] (yF (cD d v now)) []:=by
 have c1:=zM9 d.rq d.rg.ag.req.toNat v now zB hd.q hd.g hn (λw hw=>zY9 (hb w hw).n zV);rw[show((d.rg.ag.req.toNat:Nat):Int)=d.rg.ag.req by omega]at c1;have c2:=zSn now v (cqL d.rq v now (d.rg.ag.req.toNat*3)) hn hb (by simp[cqL];omega);unfold cD;generalize cqL d.rq v now (d.rg.ag.req.toNat*3)=cs at *;unfold yF at *;unfold zK wI;generalize WM v=rc at *;refine eM call96 λF hF=>?_
 refine yR (wZ c1 c2) ?_;exact zJ
def vwZ (n:Nat):Vw:=⟨true,false,List.replicate n 0,List.replicate n 0⟩
def zVl {n:Nat} (h:n<=8):BL (vwZ n):=⟨by simp[vwZ];exact h,by simp[vwZ];exact h,λc hc=>by
 have:=(yDh.1 hc).2
 omega⟩
structure Li where
 lamp:Int
 tk:Int
structure Ct where
 li:List Li
 gr:Int
 nx:List Int
 wt:Int
instance:Inhabited Li:=⟨⟨0,0⟩⟩
def vT (l:Li):AV:= .agg [iA l.lamp,iA l.tk]
def ctA (c:Ct):AV:= .agg [zD vT c.li,iA c.gr,zD iA c.nx,iA c.wt]
def dV (rows:List Int) (p q:Int):Bool:=decide (0<=p/\0<=q/\p<rows.length/\q<rows.length)&&(fH (qG (rows.getD p.toNat default) q) 1==1)
def lnF (p:Ph):Int:=max p.ming (p.walk+p.clear)
def lpF (p:Ph) (l:Li) (lv:Bool):Li:=
 if l.lamp=1 then(if lv=true/\lnF p<=l.tk+1 then⟨2,0⟩else⟨1,min (l.tk+1) 1073741824⟩)
 else if l.lamp=2 then(if l.tk+1<p.yel then⟨2,l.tk+1⟩else if p.red=0 then⟨0,0⟩else⟨3,0⟩)
 else if l.lamp=3 then(if l.tk+1<p.red then⟨3,l.tk+1⟩else⟨0,0⟩)
 else l
def ML (p:Ph) (l:Li):Bool:=if l.lamp=0 then decide (l.tk=0)else if l.lamp=1 then decide (0<=l.tk/\l.tk<=1073741824)else if l.lamp=2 then decide (0<=l.tk/\l.tk<p.yel)else if l.lamp=3 then decide (0<=l.tk/\l.tk<p.red)else false
def xD (j:Jn) (p:Nat):Ph:=j.ph.getD p default
def vN (c:Ct) (p:Nat):Li:=c.li.getD p default
def InO (j:Jn) (r g p:Int):Prop:=0<=p/\p<j.ph.length/\(xD j p.toNat).ring=r/\(xD j p.toNat).group=g
def grN (ps:List Ph):Nat->Int
 |0=>0
 |i+1=>max (grN ps i) ((ps.getD i default).group+1)
def UH (j:Jn):Int:=grN j.ph j.ph.length
def zHt (ps:List Ph) (n:Nat):∀i,i<n->(ps.getD i default).group+1<=grN ps n:=by
 induction n with
 |zero=>intro i h;exact absurd h (yAp _)
 |succ n ih=>
  intro i h;unfold grN;by_cases e:i=n
  ·subst e;omega
  ·have:=ih i zB;omega
def rpN (j:Jn) (r:Int) (i:Nat):List Nat:=(List.range i).filter λp=>(xD j p).ring==r
def MB (j:Jn) (r:Int):List Nat:=rpN j r j.ph.length
def YX {j:Jn} {r:Int} {p:Nat}:p∈MB j r↔p<j.ph.length/\(xD j p).ring=r:=by
 unfold MB rpN;rw[yBn,zYs,zZb]
def aG (j:Jn) (r g f:Int):Int:=match (MB j r).find? (λp:Nat=>decide (f<=(p:Int))&&(xD j p).group==g)with
 |some p=>p
 |none=> -1
def OB (j:Jn) (r g f:Int):aG j r g f= -1∨InO j r g (aG j r g f)/\f<=aG j r g f:=by
 unfold aG;split
 ·rename_i p h;have h1:=yDv h;have h2:=YX.1 (yCu h);simp only[zYg,zZb,zX9]at h1;exact .inr ⟨⟨zB,zB,h2.2,h1.2⟩,h1.1⟩
 ·exact .inl Z
def etF (j:Jn) (c:Ct) (g:Int):Ct:=⟨c.li,g,[aG j 0 g 0,aG j 1 g 0],c.wt⟩
def VW (j:Jn) (c:Ct) (p:Int):Bool:=(List.range c.li.length).any λq=>(vN c q).lamp != 0&&dV j.cf p q
def b1F (c:Ct) (p:Nat):Ct:=⟨c.li.set p ⟨1,0⟩,c.gr,c.nx,c.wt⟩
def FU (j:Jn) (c:Ct) (p:Nat):Ct:=if c.gr=(xD j p).group then b1F c p else etF j (b1F c p) (xD j p).group
def gI (j:Jn) (c:Ct) (p:Nat):Ct:=
 if VW j c p=true then c
 else⟨(FU j c p).li,(FU j c p).gr,(FU j c p).nx.set (xD j p).ring.toNat (aG j (xD j p).ring (xD j p).group (p+1)),(FU j c p).wt⟩
def dkF (j:Jn) (c:Ct) (r:Int):Bool:=(MB j r).all λp=>(vN c p).lamp==0
def cmF (j:Jn) (x r t:Int):Int:=match (MB j r).find? (λp:Nat=>!dV j.cf p t&&decide (x≠ -1/\x<=(p:Int)))with
 |some p=>p
 |none=>match (MB j r).find? (λp:Nat=>!dV j.cf p t)with
  |some p=>p
  |none=> -1
def XS (j:Jn) (c:Ct) (r:Int) (t:Nat):Int:=if r=(xD j t).ring then t else cmF j (c.nx.getD r.toNat default) r t
def bG (j:Jn) (t:Nat) (c:Ct) (r:Int):Ct:=if dkF j c r=true then(if XS j c r t= -1 then c else gI j c (XS j c r t).toNat)else c
def arF (c:Ct):Bool:=c.li.all λl=>l.lamp==0
def cyO (c:Ct):Bool:=arF c&&c.nx.all λp=>p== -1
def bH (j:Jn) (c:Ct) (r:Int):Ct:=if dkF j c r=true/\c.nx.getD r.toNat default≠ -1 then gI j c (c.nx.getD r.toNat default).toNat else c
def cyF (j:Jn) (c:Ct):Ct:=bH j (bH j (if cyO c=true then etF j c ((c.gr+1) % UH j)else c) 0) 1
def MM (j:Jn) (t:Int):Bool:=decide (0<=t/\t<j.ph.length)
def lvS (j:Jn) (c:Ct) (t:Int) (p:Nat):Bool:=
 if MM j t=true then decide ((p:Int)≠t)&&(decide ((xD j p).maxg<=(vN c p).tk+1)||dV j.cf p t)else decide ((xD j p).maxg<=(vN c p).tk+1)
def LN (j:Jn) (c:Ct) (t:Int):List Li:=(List.range j.ph.length).map λp=>lpF (xD j p) (vN c p) (lvS j c t p)
def stF (j:Jn) (c:Ct) (t:Int):Ct:=
 if 0<c.wt then⟨c.li,c.gr,c.nx,c.wt-1⟩
 else if MM j t=true then bG j t.toNat (bG j t.toNat ⟨LN j c t,c.gr,c.nx,c.wt⟩ 0) 1
 else cyF j ⟨LN j c t,c.gr,c.nx,c.wt⟩
structure JV (j:Jn):Prop where
 n:1<=j.ph.length/\j.ph.length<=8
 c:j.cf.length=j.ph.length
 row:∀i,i<j.ph.length->0<=j.cf.getD i default/\j.cf.getD i default<2 ^ j.ph.length
 ir:∀p:Nat,p<j.ph.length->dV j.cf p p=false
 sy:∀p q:Nat,p<j.ph.length->q<j.ph.length->dV j.cf p q=dV j.cf q p
 ap:∀p q:Nat,p<j.ph.length->q<j.ph.length->p≠q->(xD j p).ring=(xD j q).ring∨(xD j p).group≠(xD j q).group->dV j.cf p q=true
 rg:∀p:Nat,p<j.ph.length->0<=(xD j p).ring/\(xD j p).ring<=1
 gp:∀p:Nat,p<j.ph.length->0<=(xD j p).group/\(xD j p).group<=3
 ti:∀p:Nat,p<j.ph.length->1<=(xD j p).ming/\(xD j p).ming<=(xD j p).maxg/\(xD j p).maxg<=60/\1<=(xD j p).yel/\(xD j p).yel<=60/\0<=(xD j p).red/\(xD j p).red<=60/\0<=(xD j p).walk/\(xD j p).walk<=60/\0<=(xD j p).clear/\(xD j p).clear<=60/\(xD j p).walk+(xD j p).clear<=(xD j p).maxg/\((xD j p).walk=0↔(xD j p).clear=0)
 lo:∀p:Nat,p<j.ph.length->∀g:Int,0<=g->g<(xD j p).group->∃q:Nat,q<j.ph.length/\(xD j q).group=g
 st:0<=j.st/\j.st<=60
structure CV (j:Jn) (c:Ct):Prop where
 n:c.li.length=j.ph.length
 k:∀p,p<j.ph.length->ML (xD j p) (vN c p)=true
 x:∀p q:Nat,p<j.ph.length->q<j.ph.length->p≠q->(vN c p).lamp≠0->(vN c q).lamp≠0->dV j.cf p q=false
 g:0<=c.gr/\c.gr<UH j
 m:c.nx.length=2
 v:∀r:Nat,r<2->c.nx.getD r default= -1∨InO j r c.gr (c.nx.getD r default)
 w:0<=c.wt/\c.wt<=j.st
 z:c.wt=0∨∀p,p<j.ph.length->(vN c p).lamp=0
def JR {j:Jn} (J:JV j):1<=UH j:=by
 have h1:=zHt j.ph j.ph.length 0 zC7;have h2:=J.gp 0 zC7;unfold xD at h2;unfold UH;omega
def zQg (j:Jn) (c:Ct) (g:Int):∀r:Nat,r<2->(etF j c g).nx.getD r default= -1∨InO j r g ((etF j c g).nx.getD r default):=by
 intro r hr;have:r=0∨r=1:=by omega
 rcases this with rfl|rfl
 ·rcases OB j 0 g 0 with h|h
  ·exact .inl h
  ·exact .inr h.1
 ·rcases OB j 1 g 0 with h|h
  ·exact .inl h
  ·exact .inr h.1
def zHu {j:Jn} {c:Ct} (C:CV j c) {g:Int} (hg:0<=g/\g<UH j):CV j (etF j c g):=
 ⟨C.n,C.k,C.x,hg,rfl,zQg j c g,C.w,C.z⟩
def zNa (c:Ct) (p q:Nat) (l:Li) (gr:Int) (nx:List Int) (wt:Int) (hp:p<c.li.length):vN ⟨c.li.set p l,gr,nx,wt⟩ q=if q=p then l else vN c q:=by
 unfold vN;simp only[zYc,yAb];split
 ·rename_i h;subst h;simp[hp]
 ·rename_i h;rw[zX2 (λe=>h e.symm)]
def zVm {j:Jn} (J:JV j) {c:Ct} (C:CV j c) (h0:c.wt=0) {p:Nat} (hp:p<j.ph.length) (hk:VW j c p=false):CV j (b1F c p):=by
 have hl:=C.n
 have hs:∀q,vN (b1F c p) q=if q=p then⟨1,0⟩else vN c q:=λq=>zNa c p q _ _ _ _ zB
 unfold VW at hk;rw[yA5]at hk
 have hc:∀q:Nat,q<j.ph.length->(vN c q).lamp≠0->dV j.cf p q=false:=λq hq hn=>by
  have:=hk q (zYs.2 zB);simp only[zYg,not_and,zZ4]at this;exact this DK
 refine⟨by unfold b1F;simpa using hl,λq hq=>?_,λq r hq hr hqr h1 h2=>?_,C.g,C.m,C.v,C.w,.inl h0⟩
 ·rw[hs];split
  ·rfl
  ·exact C.k q hq
 ·rw[hs]at h1 h2;by_cases e1:q=p
  ·subst e1;rw[zX2 (λe=>hqr e.symm)]at h2;exact hc r hr h2
  ·rw[zX2 e1]at h1;by_cases e2:r=p
   ·subst e2;rw[J.sy q r hq hr];exact hc q hq h1
   ·rw[zX2 e2]at h2;exact C.x q r hq hr hqr h1 h2
def zVn {j:Jn} (J:JV j) {c:Ct} (C:CV j c) (h0:c.wt=0) {p:Nat} (hp:p<j.ph.length) (hk:VW j c p=false):CV j (FU j c p)/\(FU j c p).gr=(xD j p).group/\(FU j c p).wt=0:=by
 have h1:=zVm J C h0 hp hk;unfold FU;split
 ·rename_i h;exact⟨h1,h,h0⟩
 ·have hg:=J.gp p hp;have:=zHt j.ph j.ph.length p hp;exact⟨zHu h1 ⟨hg.1,by unfold UH;unfold xD;omega⟩,rfl,h0⟩
def zQh {j:Jn} (J:JV j) {c:Ct} (C:CV j c) (h0:c.wt=0) {p:Nat} (hp:p<j.ph.length):CV j (gI j c p)/\(gI j c p).wt=0:=by
 unfold gI;split
 ·exact⟨C,h0⟩
 ·rename_i hk;obtain⟨B,hg,hw⟩:=zVn J C h0 hp (by simpa using hk);have hr:=J.rg p hp;refine⟨⟨B.n,B.k,B.x,B.g,by rw[zZx];exact B.m,λr hr2=>?_,B.w,B.z⟩,hw⟩;have hs:=OB j (xD j p).ring (xD j p).group (p+1);generalize aG j (xD j p).ring (xD j p).group (p+1)=f at *;dsimp only
  have e:((FU j c p).nx.set (xD j p).ring.toNat f).getD r default=if r=(xD j p).ring.toNat then f else(FU j c p).nx.getD r default:=by
   simp only[zYc,yAb];split
   ·rename_i h;subst h;rw[zX3 Z,B.m,zX3 hr2];rfl
   ·rename_i h;rw[zX2 (λe=>h e.symm)]
  rw[e];split
  ·rename_i h
   rcases hs with hs|hs
   ·exact .inl hs
   ·refine .inr ?_;rw[hg,show(r:Int)=(xD j p).ring by omega];exact hs.1
  ·exact B.v r hr2
def FV (j:Jn) (x r t:Int):cmF j x r t= -1∨∃p:Nat,cmF j x r t=p/\p<j.ph.length/\(xD j p).ring=r/\dV j.cf p t=false:=by
 unfold cmF;split
 ·rename_i p h;have h1:=yDv h;have h2:=YX.1 (yCu h);simp only[zYg,yAn]at h1;exact .inr ⟨p,rfl,h2.1,h2.2,h1.1⟩
 ·split
  ·rename_i p h;have h1:=yDv h;have h2:=YX.1 (yCu h);rw[yAn]at h1;exact .inr ⟨p,rfl,h2.1,h2.2,h1⟩
  ·exact .inl Z
def zHv {j:Jn} {c:Ct} {r:Int} {t:Nat} (ht:t<j.ph.length):XS j c r t= -1∨∃p:Nat,XS j c r t=p/\p<j.ph.length/\(xD j p).ring=r:=by
 unfold XS;split
 ·rename_i h;exact .inr ⟨t,rfl,ht,h.symm⟩
 ·rcases FV j (c.nx.getD r.toNat default) r t with h|⟨p,h1,h2,h3,_⟩
  ·exact .inl h
  ·exact .inr ⟨p,h1,h2,h3⟩
def zHw {j:Jn} (J:JV j) {c:Ct} (C:CV j c) (h0:c.wt=0) {t:Nat} (ht:t<j.ph.length) (r:Int):CV j (bG j t c r)/\(bG j t c r).wt=0:=by
 unfold bG;split
 ·split
  ·exact⟨C,h0⟩
  ·rename_i h
   rcases zHv (j:=j) (c:=c) (r:=r) ht with h1|⟨p,h1,h2,_⟩
   ·exact absurd h1 h
   ·rw[h1,zZp];exact zQh J C h0 h2
 ·exact⟨C,h0⟩
def JS {j:Jn} (J:JV j) {c:Ct} (C:CV j c) (h0:c.wt=0) {r:Nat} (hr:r<2):CV j (bH j c r)/\(bH j c r).wt=0:=by
 unfold bH;split
 ·rename_i h;rw[zZp]at h⊢
  rcases C.v r hr with h1|h1
  ·exact absurd h1 h.2
  ·exact zQh J C h0 (by have:=h1.2.1;have:=h1.1;omega)
 ·exact⟨C,h0⟩
def zVo {j:Jn} (J:JV j) {c:Ct} (C:CV j c) (h0:c.wt=0):CV j (cyF j c):=by
 have h1:CV j (if cyO c=true then etF j c ((c.gr+1) % UH j)else c)/\(if cyO c=true then etF j c ((c.gr+1) % UH j)else c).wt=0:=by
  split
  ·have:=JR J;exact⟨zHu C ⟨yB6 _ zB,yBu _ zB⟩,h0⟩
  ·exact⟨C,h0⟩
 have h2:=JS J h1.1 h1.2 (r:=0) zB;exact(JS J h2.1 h2.2 (r:=1) zB).1
def zXd {p:Ph} {l:Li} {lv:Bool} (hy:1<=p.yel) (hr:0<=p.red) (h:ML p l=true):ML p (lpF p l lv)=true/\((lpF p l lv).lamp≠0->l.lamp≠0):=by
 unfold ML at h;unfold lpF;by_cases h1:l.lamp=1
 ·rw[zX3 h1];rw[zX2 zB,zX3 h1,zX9]at h;split
  ·refine⟨by unfold ML;simp;omega,λ_=>by omega⟩
  ·refine⟨by unfold ML;simp;omega,λ_=>by omega⟩
 by_cases h2:l.lamp=2
 ·rw[zX2 h1,zX3 h2];rw[zX2 zB,zX2 h1,zX3 h2,zX9]at h;split
  ·refine⟨by unfold ML;simp;omega,λ_=>by omega⟩
  ·split
   ·refine⟨by unfold ML;simp,λh=>absurd Z h⟩
   ·refine⟨by unfold ML;simp;omega,λ_=>by omega⟩
 by_cases h3:l.lamp=3
 ·rw[zX2 h1,zX2 h2,zX3 h3];rw[zX2 zB,zX2 h1,zX2 h2,zX3 h3,zX9]at h;split
  ·refine⟨by unfold ML;simp;omega,λ_=>by omega⟩
  ·refine⟨by unfold ML;simp,λh=>absurd Z h⟩
 ·rw[zX2 h1,zX2 h2,zX2 h3];exact⟨by unfold ML;exact h,λh=>h⟩
def zHx {j:Jn} {c:Ct} (t gr:Int) (nx:List Int) (wt:Int) (p:Nat) (hp:p<j.ph.length):vN ⟨LN j c t,gr,nx,wt⟩ p=lpF (xD j p) (vN c p) (lvS j c t p):=by
 show(LN j c t).getD p default=_
 unfold LN;simp only[zYc,zX8,zY5 hp];rfl
def zQi {j:Jn} (J:JV j) {c:Ct} (C:CV j c) (h0:c.wt=0) (t:Int):CV j ⟨LN j c t,c.gr,c.nx,c.wt⟩:=by
 have hs:=λp hp=>zXd (lv:=lvS j c t p) (by have:=J.ti p hp;omega) (by have:=J.ti p hp;omega) (C.k p hp)
 refine⟨by simp[LN],λp hp=>?_,λp q hp hq hpq h1 h2=>?_,C.g,C.m,C.v,C.w,.inl h0⟩
 ·rw[zHx _ _ _ _ _ hp];exact(hs p hp).1
 ·rw[zHx _ _ _ _ _ hp]at h1;rw[zHx _ _ _ _ _ hq]at h2;exact C.x p q hp hq hpq ((hs p hp).2 h1) ((hs q hq).2 h2)
def zQj {j:Jn} (J:JV j) {c:Ct} (C:CV j c) (t:Int):CV j (stF j c t):=by
 unfold stF;split
 ·rename_i h;have hz:=C.z;have hw:=C.w;refine⟨C.n,C.k,C.x,C.g,C.m,C.v,by dsimp only;omega,?_⟩
  rcases hz with hz|hz
  ·omega
  ·exact .inr hz
 ·have h0:c.wt=0:=by have:=C.w;omega
  have L:=zQi J C h0 t;split
  ·rename_i h;unfold MM at h;rw[zX9]at h;have h1:=zHw J L h0 (t:=t.toNat) zB 0;exact(zHw J h1.1 h1.2 (t:=t.toNat) zB 1).1
  ·exact zVo J L h0
def gJ (rows:List Int) (hn:rows.length<=40) (p q:Int):zO 210 [zD iA rows,iA p,iA q] [] (bA (dV rows p q)) []:=by
 have hl:=zA iA rows;unfold dV;by_cases h1:0<=p
 case neg=>
  rw[zYb (λh=>h1 h.1)];refine eM call210 λF hF=>?_
  refine WW ?_;exact zJ
 by_cases h2:0<=q
 case neg=>
  rw[zYb (λh=>h2 h.2.1)];refine eM call210 λF hF=>?_
  refine WW ?_;exact zJ
 by_cases h3:p<rows.length
 case neg=>
  rw[zYb (λh=>h3 h.2.2.1)];refine eM call210 λF hF=>?_
  refine WW ?_;exact zJ
 by_cases h4:q<rows.length
 case neg=>
  rw[zYb (λh=>h4 h.2.2.2)];refine eM call210 λF hF=>?_
  refine WW ?_;exact zJ
 rw[zYa ⟨h1,h2,h3,h4⟩,zYr];have hy:=yN iA rows p h1 h3;generalize rows.getD p.toNat default=x at *;by_cases h5:fH (qG x q) 1=1
 ·rw[show(fH (qG x q) 1==1)=true by rw[zZb];exact h5];refine eM call210 λF hF=>?_
  refine WW ?_;exact zJ
 ·rw[show(fH (qG x q) 1==1)=false by rw[zY6];exact h5];refine eM call210 λF hF=>?_
  refine WW ?_;exact zJ
def PhB (p:Ph):Prop:=0<=p.walk/\p.walk<=60/\0<=p.clear/\p.clear<=60
def zCd (p:Ph) (h:PhB p):zO 109 [vK p] [] (iA (lnF p)) []:=by
 obtain⟨h1,h2,h3,h4⟩:=h;refine eM call109 λF hF=>?_
 refine WW ?_;exact zJ
def zNb (p:Ph) (h:PhB p) (l:Li) (ht: -1000000000000<=l.tk/\l.tk<=1000000000000) (lv:Bool):zO 256 [vK p,vT l,bA lv] [] (vT (lpF p l lv)) []:=by
 have c:=zCd p h;unfold lpF;by_cases h1:l.lamp=1
 ·rw[zX3 h1];generalize lnF p=n at*
  cases lv with
  |false=>
   rw[zX2 (λh=>by cases h.1)];refine eM call256 λF hF=>?_
   refine WW ?_;exact zJ
  |true=>
  by_cases h2:n<=l.tk+1
  ·rw[zX3 ⟨rfl,h2⟩];refine eM call256 λF hF=>?_
   refine zY c ?_;exact zJ
  ·rw[zX2 (λh=>h2 h.2)];refine eM call256 λF hF=>?_
   refine zY c ?_;exact zJ
 rw[zX2 h1];by_cases h2:l.lamp=2
 ·rw[zX3 h2];by_cases h3:l.tk+1<p.yel
  ·rw[zX3 h3];refine eM call256 λF hF=>?_
   refine WW ?_;exact zJ
  rw[zX2 h3];by_cases h4:p.red=0
  ·rw[zX3 h4];refine eM call256 λF hF=>?_
   refine WW ?_;exact zJ
  ·rw[zX2 h4];refine eM call256 λF hF=>?_
   refine WW ?_;exact zJ
 rw[zX2 h2];by_cases h3:l.lamp=3
 ·rw[zX3 h3];by_cases h4:l.tk+1<p.red
  ·rw[zX3 h4];refine eM call256 λF hF=>?_
   refine WW ?_;exact zJ
  ·rw[zX2 h4];refine eM call256 λF hF=>?_
   refine WW ?_;exact zJ
 ·rw[zX2 h3];refine eM call256 λF hF=>?_
  refine WW ?_;exact zJ
def zHy (p:Ph) (l:Li):zO 281 [vK p,vT l] [] (bA (ML p l)) []:=by
 unfold ML;by_cases h0:l.lamp=0
 ·rw[zX3 h0];by_cases h:l.tk=0
  ·rw[zYa h];refine eM call281 λF hF=>?_
   refine WW ?_;exact zJ
  ·rw[zYb h];refine eM call281 λF hF=>?_
   refine WW ?_;exact zJ
 rw[zX2 h0];by_cases h1:l.lamp=1
 ·rw[zX3 h1];by_cases h:0<=l.tk
  ·by_cases h':l.tk<=1073741824
   ·rw[zYa ⟨h,h'⟩];refine eM call281 λF hF=>?_
    refine WW ?_;exact zJ
   ·rw[zYb (λk=>h' k.2)];refine eM call281 λF hF=>?_
    refine WW ?_;exact zJ
  ·rw[zYb (λk=>h k.1)];refine eM call281 λF hF=>?_
   refine WW ?_;exact zJ
 rw[zX2 h1];by_cases h2:l.lamp=2
 ·rw[zX3 h2];by_cases h:0<=l.tk
  ·by_cases h':l.tk<p.yel
   ·rw[zYa ⟨h,h'⟩];refine eM call281 λF hF=>?_
    refine WW ?_;exact zJ
   ·rw[zYb (λk=>h' k.2)];refine eM call281 λF hF=>?_
    refine WW ?_;exact zJ
  ·rw[zYb (λk=>h k.1)];refine eM call281 λF hF=>?_
   refine WW ?_;exact zJ
 rw[zX2 h2];by_cases h3:l.lamp=3
 ·rw[zX3 h3];by_cases h:0<=l.tk
  ·by_cases h':l.tk<p.red
   ·rw[zYa ⟨h,h'⟩];refine eM call281 λF hF=>?_
    refine WW ?_;exact zJ
   ·rw[zYb (λk=>h' k.2)];refine eM call281 λF hF=>?_
    refine WW ?_;exact zJ
  ·rw[zYb (λk=>h k.1)];refine eM call281 λF hF=>?_
   refine WW ?_;exact zJ
 ·rw[zX2 h3];refine eM call281 λF hF=>?_
  refine WW ?_;exact zJ
def FW (j:Jn) (r:Int) (i:Nat):rpN j r (i+1)=if(xD j i).ring=r then rpN j r i++[i]else rpN j r i:=by
 unfold rpN;rw[yAw,yBv];by_cases h:(xD j i).ring=r
 ·rw[zX3 h];simp[h]
 ·rw[zX2 h];simp[h]
theorem zCe (j:Jn) (r:Int):∀n i,i<=n->∃l,rpN j r n=rpN j r i++l
 |0,i,h=>⟨[],by rw[Nat.le_zero.1 h];simp⟩
 | n+1,i,h=>by
  by_cases e:i=n+1
  ·exact⟨[],by rw[e];simp⟩
  ·obtain⟨l,hl⟩:=zCe j r n i zB;rw[FW];split
   ·exact⟨l++[n],by rw[hl,zYw]⟩
   ·exact⟨l,hl⟩
def zEf (j:Jn) (r:Int):List (Nat×xN):=[(1003,.box [zD vK j.ph,zD iA j.cf,iA j.st]),(1004,.box [iA r])]
def zHz (j:Jn) (r:Int):zO 227 [vC j,iA r] [] (.fn 250 [.ptr 1003 0 0,.ptr 1004 0 0]) (zEf j r):=by
 refine eM call227 λF hF=>?_
 repeat' (first|(refine zE ?_;first|refine qE (jM (v:=AV.agg _) 1003 Z Z) Z Z Z ?_|refine qE (jM (v:=AV.s _) 1004 Z Z) Z Z Z ?_|refine wL tok Z Z ?_|refine uI ?_)|(first|refine xS ?_|refine xC ?_|refine vQ Z ?_|refine yC Z ?_|refine zU Z ?_|refine xH Z (λhc=>?_) λhc=>?_|refine yZ ?_|refine yU ?_|refine xB ?_|refine yQ ?_))
 exact zL [1003,1004] Z Z Z Z
def AP (j:Jn) (hn:j.ph.length<=1000) (r:Int):aP prog 250 [.ptr 1003 0 0,.ptr 1004 0 0] (zEf j r) ((MB j r).map λp:Nat=>[iA (p:Int)]):=by
 have hl:=zA vK j.ph;refine cI func250 Z (λargs w=>call250 args w) Z Z Z (λF y hro hit hY=>?_);unfold zEf;refine WW ?_;refine zS (j.ph.length) [1003,1004] [1003,1004] [0,2,7,8] [9,1000000,0,2,7,8] Z (λi T U=>⟨(9,iA i)::(1000000,.gh (rpN j r i).length)::T,U⟩) ?_;(conv=>whnf);refine⟨by rfl,?_,?_⟩
 ·intro i hi;have hy:=zM vK j.ph i hi;have es:=FW j r i
  change (j.ph.map vK)[i]? =some (vK (xD j i))at hy
  by_cases hr:(xD j i).ring=r
  ·rw[zX3 hr]at es;obtain⟨l2,hpre⟩:=zCe j r j.ph.length (i+1) zB;rw[es]at hpre⊢
   have hys:((MB j r).map λp:Nat=>[iA (p:Int)])[(rpN j r i).length]? =some [iA (i:Int)]:=by
    unfold MB;rw[hpre,zX8,zY0 zW,zYt (zX7 _),yAa];rfl
   have hlen:=(zYu.1 hys).1;rw[zX4];generalize ((MB j r).map λp:Nat=>[iA (p:Int)])=xs at *;generalize (rpN j r i).length=k at *;generalize xD j i=t at*
   (repeat' (first|refine uJ ?_|apply xL|apply wB|intro hc|(refine zE ?_;refine xJ ?_;first|(refine LU ?_;refine UU hit hY Z Z hys Z Z Z ?_ ?_))|(refine zE ?_;first|refine SM ?_)|fail))
   ·rfl
   ·exact gN Z (.inr zB)
  ·rw[zX2 hr]at es;rw[es];generalize (rpN j r i).length=k at *;generalize xD j i=t at *;refine WW ?_;rfl
 ·have e:(rpN j r j.ph.length).length=((MB j r).map λp:Nat=>[iA (p:Int)]).length:=by rw[zX5];rfl
  refine WW ?_;exact bB Z (.inl e)
end Av
end Go.Proofs.YteajjdidebfcjaaGreat
