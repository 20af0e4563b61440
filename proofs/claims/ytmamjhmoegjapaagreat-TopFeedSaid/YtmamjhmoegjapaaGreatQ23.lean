/- Part 23. -/
import Derived.Test.YtmamjhmoegjapaaGreatQ22
namespace Go.Proofs.YtmamjhmoegjapaaGreat
namespace Av
open Tryz
set_option linter.all false
set_option maxRecDepth 4000
set_option maxHeartbeats 4000000
structure Vw where
 fl:Bool
 ov:Bool
 co:List Int
 cn:List Int
instance:Inhabited Vw:=⟨⟨false,false,[],[]⟩⟩
def vL (v:Vw):AV:= .agg [bA v.fl,bA v.ov,zD iA v.co,zD iA v.cn]
structure DX (v:Vw):Prop where
 n:v.co.length<=8
 m:v.cn.length<=8
 c:∀c∈v.co,0<=c/\c<=2
def gC (n:Int):Int:=IntKind.u8.wrap n
def LS (a b:Bool):Int:=(if a=true then 1 else 0)+(if b=true then 2 else 0)
def vC (l:List Int):Nat->Int
 |0=>0
 |i+1=>vC l i+l.getD i 0*p2 (2*(i:Int))
def vwF (v:Vw):List Int:=[LS v.fl v.ov,vR (vC v.co v.co.length) 8,gC (vC v.co v.co.length)]++v.cn.map gC
def ZM (l:List Vw):List Int:=(l.map vwF).flatten
theorem zFi (i:Nat):p2 (2*((i+1:Nat):Int))=p2 (2*(i:Int))*4:=by
 unfold p2;rw[show(2*((i+1:Nat):Int)).toNat=(2*(i:Int)).toNat+2 by omega,Int.pow_add];rfl
theorem gD (i:Nat) (h:i<=8):1<=p2 (2*(i:Int))/\p2 (2*(i:Int))<=65536:=by
 have:i=0∨i=1∨i=2∨i=3∨i=4∨i=5∨i=6∨i=7∨i=8:=by omega
 rcases this with rfl|rfl|rfl|rfl|rfl|rfl|rfl|rfl|rfl<;>decide
theorem SY {l:List Int} (h:∀c∈l,0<=c/\c<=2):∀i,i<=l.length->i<=8->0<=vC l i/\vC l i<p2 (2*(i:Int))
 |0,_,_=>by simp[vC,p2]
 | i+1,h1,h2=>by
  have ih:=SY h i zB zB
  have hm:l.getD i 0∈l:=by
   rw[zXh,zXr zB];exact zZy _
  have hc:=h _ hm;have hp:=gD i zB;rw[zFi,vC];generalize l.getD i 0=c at *;generalize p2 (2*(i:Int))=w at *;have:c=0∨c=1∨c=2:=by omega
  rcases this with rfl|rfl|rfl<;>omega
theorem zQ3 {n:Int} (h0:0<=n) (h1:n<65536):0<=vR n 8/\vR n 8<=255:=by
 unfold vR;rw[show(2:Int) ^ (8:Int).toNat=256 from rfl,zZm _ zB];omega
theorem GD (pre:List Vw) (v:Vw):(ZM (pre++[v])).map yA=(ZM pre).map yA++[yA (LS v.fl v.ov),yA (vR (vC v.co v.co.length) 8),yA (gC (vC v.co v.co.length))]++v.cn.map (λn=>yA (gC n)):=by
 unfold ZM vwF;simp
theorem cV {l:List Vw} (h:∀v∈l,DX v):(ZM l).length<=11*l.length:=by
 unfold ZM
 induction l with
 |nil=>simp
 |cons v l ih=>
  have h1:=ih λx hx=>h x VK
  have h2:=(h v zS).m;rw[zYi,zZ9,zXb,zXl];unfold vwF;rw[zXb,zXa];simp only[zXl,zYa];unfold vwF at h1;omega
theorem zFj (l:List Vw) (hn:l.length<=1000) (hb:∀v∈l,DX v):zN 82 [zD vL l] [] (.ref 1001 0 ((ZM l).map yA).length) [(1001,.arr 1 ((ZM l).map yA) true)]:=by
 have hl:=zA vL l;have hfin:=cV hb;refine eM call82 λF hF=>?_
 refine WW ?_;refine xG 3 1001 1 rfl rfl rfl ?_;refine yB (l) [1001] [] [13,14] [3,15,13,14] rfl (λi pre T U=>⟨(3,.ref 1001 0 ((ZM pre).map yA).length)::(15,iA i)::T,(1001,.arr 1 ((ZM pre).map yA) true)::U⟩) ?_;(conv=>whnf);refine⟨by rfl,?_,?_⟩
 ·intro i pre v post hx hi;have hy:=yP vL hx hi;have hlt:=yF hx hi;have hv:=hb v (xV hx);have hpl:=cV (l:=pre) (λw hw=>hb w (by rw[hx];simp[hw]));have hxl:((ZM pre).map yA).length<=11000:=by rw[zXa];omega
  rw[GD];clear hx hpl hfin;generalize (ZM pre).map yA=xs at *;have hc1:=zA iA v.co;have hc2:=zA iA v.cn;have hbd:=λk hk=>SY hv.c k hk (zYg hk hv.n)
  have hn8:=hv.n;have hm8:=hv.m;obtain⟨fl,ov,co,cn⟩:=v;dsimp only at *;rw[show vL ⟨fl,ov,co,cn⟩= .agg [bA fl,bA ov,zD iA co,zD iA cn]from rfl]at hy;have hlast:=hbd co.length (zXc _);have hpl8:=gD co.length hn8;have hs8:=zQ3 (n:=vC co co.length) hlast.1 zB
  cases fl<;>cases ov
  ·(refine WW ?_)
   refine yB (co) [5,1001] [5,1001] [3,5,6,13,14,15,28,29] [7,8,30,3,5,6,13,14,15,28,29] rfl (λi pre T U=>⟨(7,iA (vC co i))::(8,iA (p2 (2*(i:Int))))::(30,iA i)::T,U⟩) ?_;(conv=>whnf);refine⟨by rfl,?_,?_⟩
   ·intro k pre2 c post2 hx2 hk;have hy2:=yP iA hx2 hk;have hlt2:=yF hx2 hk;have hcm:=hv.c c (xV hx2);have hg:co.getD k 0=c:=by rw[hx2,<-hk];simp[List.getD]
    have hb1:=hbd k zB;have hp1:=gD k zB;have e1:vC co (k+1)=vC co k+c*p2 (2*(k:Int)):=by rw[vC,hg]
    rw[e1,zFi];clear hx2 hbd hlast hpl8 hs8 e1 hv;generalize vC co k=s at *;generalize p2 (2*(k:Int))=w at *;have:c=0∨c=1∨c=2:=by omega
    rcases this with rfl|rfl|rfl
    all_goals
     refine WW ?_;rfl
   ·clear hbd hv;generalize vC co co.length=s at *;refine WW ?_;refine yB (cn) [1001] [] [13,14,15,53,54] [3,55,13,14,15,53,54] rfl (λi pre T U=>⟨(3,.ref 1001 0 (xs++[yA (LS false false),yA (vR s 8),yA (gC s)]++pre.map (λn=>yA (gC n))).length)::(55,iA i)::T,(1001,.arr 1 (xs++[yA (LS false false),yA (vR s 8),yA (gC s)]++pre.map (λn=>yA (gC n))) true)::U⟩) ?_;(conv=>whnf);refine⟨by(simp only[zY6,zX8];rfl),?_,?_⟩
    ·intro k pre2 c post2 hx2 hk;have hy2:=yP iA hx2 hk;have hlt2:=yF hx2 hk;have hpk:(pre2.map (λn=>yA (gC n))).length=k:=by rw[zXa];exact hk
     rw[zXf,zYi,zY6,<-zXy];clear hx2;generalize pre2.map (λn=>yA (gC n))=zs2 at *;refine WW ?_;rfl
    ·(refine WW ?_)
     rfl
  ·(refine WW ?_)
   refine yB (co) [5,1001] [5,1001] [3,5,6,13,14,15,28,29] [7,8,30,3,5,6,13,14,15,28,29] rfl (λi pre T U=>⟨(7,iA (vC co i))::(8,iA (p2 (2*(i:Int))))::(30,iA i)::T,U⟩) ?_;(conv=>whnf);refine⟨by rfl,?_,?_⟩
   ·intro k pre2 c post2 hx2 hk;have hy2:=yP iA hx2 hk;have hlt2:=yF hx2 hk;have hcm:=hv.c c (xV hx2);have hg:co.getD k 0=c:=by rw[hx2,<-hk];simp[List.getD]
    have hb1:=hbd k zB;have hp1:=gD k zB;have e1:vC co (k+1)=vC co k+c*p2 (2*(k:Int)):=by rw[vC,hg]
    rw[e1,zFi];clear hx2 hbd hlast hpl8 hs8 e1 hv;generalize vC co k=s at *;generalize p2 (2*(k:Int))=w at *;have:c=0∨c=1∨c=2:=by omega
    rcases this with rfl|rfl|rfl
    all_goals
     refine WW ?_;rfl
   ·clear hbd hv;generalize vC co co.length=s at *;refine WW ?_;refine yB (cn) [1001] [] [13,14,15,53,54] [3,55,13,14,15,53,54] rfl (λi pre T U=>⟨(3,.ref 1001 0 (xs++[yA (LS false true),yA (vR s 8),yA (gC s)]++pre.map (λn=>yA (gC n))).length)::(55,iA i)::T,(1001,.arr 1 (xs++[yA (LS false true),yA (vR s 8),yA (gC s)]++pre.map (λn=>yA (gC n))) true)::U⟩) ?_;(conv=>whnf);refine⟨by(simp only[zY6,zX8];rfl),?_,?_⟩
    ·intro k pre2 c post2 hx2 hk;have hy2:=yP iA hx2 hk;have hlt2:=yF hx2 hk;have hpk:(pre2.map (λn=>yA (gC n))).length=k:=by rw[zXa];exact hk
     rw[zXf,zYi,zY6,<-zXy];clear hx2;generalize pre2.map (λn=>yA (gC n))=zs2 at *;refine WW ?_;rfl
    ·(refine WW ?_)
     rfl
  ·(refine WW ?_)
   refine yB (co) [5,1001] [5,1001] [3,5,6,13,14,15,28,29] [7,8,30,3,5,6,13,14,15,28,29] rfl (λi pre T U=>⟨(7,iA (vC co i))::(8,iA (p2 (2*(i:Int))))::(30,iA i)::T,U⟩) ?_;(conv=>whnf);refine⟨by rfl,?_,?_⟩
   ·intro k pre2 c post2 hx2 hk;have hy2:=yP iA hx2 hk;have hlt2:=yF hx2 hk;have hcm:=hv.c c (xV hx2);have hg:co.getD k 0=c:=by rw[hx2,<-hk];simp[List.getD]
    have hb1:=hbd k zB;have hp1:=gD k zB;have e1:vC co (k+1)=vC co k+c*p2 (2*(k:Int)):=by rw[vC,hg]
    rw[e1,zFi];clear hx2 hbd hlast hpl8 hs8 e1 hv;generalize vC co k=s at *;generalize p2 (2*(k:Int))=w at *;have:c=0∨c=1∨c=2:=by omega
    rcases this with rfl|rfl|rfl
    all_goals
     refine WW ?_;rfl
   ·clear hbd hv;generalize vC co co.length=s at *;refine WW ?_;refine yB (cn) [1001] [] [13,14,15,53,54] [3,55,13,14,15,53,54] rfl (λi pre T U=>⟨(3,.ref 1001 0 (xs++[yA (LS true false),yA (vR s 8),yA (gC s)]++pre.map (λn=>yA (gC n))).length)::(55,iA i)::T,(1001,.arr 1 (xs++[yA (LS true false),yA (vR s 8),yA (gC s)]++pre.map (λn=>yA (gC n))) true)::U⟩) ?_;(conv=>whnf);refine⟨by(simp only[zY6,zX8];rfl),?_,?_⟩
    ·intro k pre2 c post2 hx2 hk;have hy2:=yP iA hx2 hk;have hlt2:=yF hx2 hk;have hpk:(pre2.map (λn=>yA (gC n))).length=k:=by rw[zXa];exact hk
     rw[zXf,zYi,zY6,<-zXy];clear hx2;generalize pre2.map (λn=>yA (gC n))=zs2 at *;refine WW ?_;rfl
    ·(refine WW ?_)
     rfl
  ·(refine WW ?_)
   refine yB (co) [5,1001] [5,1001] [3,5,6,13,14,15,28,29] [7,8,30,3,5,6,13,14,15,28,29] rfl (λi pre T U=>⟨(7,iA (vC co i))::(8,iA (p2 (2*(i:Int))))::(30,iA i)::T,U⟩) ?_;(conv=>whnf);refine⟨by rfl,?_,?_⟩
   ·intro k pre2 c post2 hx2 hk;have hy2:=yP iA hx2 hk;have hlt2:=yF hx2 hk;have hcm:=hv.c c (xV hx2);have hg:co.getD k 0=c:=by rw[hx2,<-hk];simp[List.getD]
    have hb1:=hbd k zB;have hp1:=gD k zB;have e1:vC co (k+1)=vC co k+c*p2 (2*(k:Int)):=by rw[vC,hg]
    rw[e1,zFi];clear hx2 hbd hlast hpl8 hs8 e1 hv;generalize vC co k=s at *;generalize p2 (2*(k:Int))=w at *;have:c=0∨c=1∨c=2:=by omega
    rcases this with rfl|rfl|rfl
    all_goals
     refine WW ?_;rfl
   ·clear hbd hv;generalize vC co co.length=s at *;refine WW ?_;refine yB (cn) [1001] [] [13,14,15,53,54] [3,55,13,14,15,53,54] rfl (λi pre T U=>⟨(3,.ref 1001 0 (xs++[yA (LS true true),yA (vR s 8),yA (gC s)]++pre.map (λn=>yA (gC n))).length)::(55,iA i)::T,(1001,.arr 1 (xs++[yA (LS true true),yA (vR s 8),yA (gC s)]++pre.map (λn=>yA (gC n))) true)::U⟩) ?_;(conv=>whnf);refine⟨by(simp only[zY6,zX8];rfl),?_,?_⟩
    ·intro k pre2 c post2 hx2 hk;have hy2:=yP iA hx2 hk;have hlt2:=yF hx2 hk;have hpk:(pre2.map (λn=>yA (gC n))).length=k:=by rw[zXa];exact hk
     rw[zXf,zYi,zY6,<-zXy];clear hx2;generalize pre2.map (λn=>yA (gC n))=zs2 at *;refine WW ?_;rfl
    ·(refine WW ?_)
     rfl
 ·(refine WW ?_)
  exact zL [1001] rfl rfl rfl rfl
theorem TG {c:Int} {k:Nat} (hk:k<8) (hc:0<=c/\c<=2):IntKind.i64.wrap (c*2 ^ (min (2*(k:Int)).toNat IntKind.i64.bits))=c*p2 (2*(k:Int)):=by
 have hb:IntKind.i64.bits=64:=rfl;have h1:=gD k zB;rw[hb,show min (2*(k:Int)).toNat 64=(2*(k:Int)).toNat by omega];have h2:c=0∨c=1∨c=2:=by omega
 unfold p2 at h1;refine qT (k:= .i64) ⟨?_,?_⟩
 ·show -9223372036854775808<=_
  rcases h2 with rfl|rfl|rfl<;>omega
 ·show _<=9223372036854775807
  rcases h2 with rfl|rfl|rfl<;>omega
theorem zLi (l:List Vw) (hn:l.length<=1000) (hb:∀v∈l,DX v):zN 33 [zD vL l] [] (.ref 1001 0 ((ZM l).map yA).length) [(1001,.arr 1 ((ZM l).map yA) true)]:=by
 have hl:=zA vL l;have hfin:=cV hb;refine eM call33 λF hF=>?_
 refine WW ?_;refine xG 3 1001 1 rfl rfl rfl ?_;refine yB (l) [1001] [] [12,13] [3,14,12,13] rfl (λi pre T U=>⟨(3,.ref 1001 0 ((ZM pre).map yA).length)::(14,iA i)::T,(1001,.arr 1 ((ZM pre).map yA) true)::U⟩) ?_;(conv=>whnf);refine⟨by rfl,?_,?_⟩
 ·intro i pre v post hx hi;have hy:=yP vL hx hi;have hlt:=yF hx hi;have hv:=hb v (xV hx);have hpl:=cV (l:=pre) (λw hw=>hb w (by rw[hx];simp[hw]));have hxl:((ZM pre).map yA).length<=11000:=by rw[zXa];omega
  rw[GD];clear hx hpl hfin;generalize (ZM pre).map yA=xs at *;have hc1:=zA iA v.co;have hc2:=zA iA v.cn;have hbd:=λk hk=>SY hv.c k hk (zYg hk hv.n)
  have hn8:=hv.n;have hm8:=hv.m;obtain⟨fl,ov,co,cn⟩:=v;dsimp only at *;rw[show vL ⟨fl,ov,co,cn⟩= .agg [bA fl,bA ov,zD iA co,zD iA cn]from rfl]at hy;have hlast:=hbd co.length (zXc _);have hpl8:=gD co.length hn8;have hs8:=zQ3 (n:=vC co co.length) hlast.1 zB
  cases fl<;>cases ov
  ·(refine WW ?_)
   refine yB (co) [5,1001] [5,1001] [3,5,6,12,13,14,27,28] [7,29,3,5,6,12,13,14,27,28] rfl (λi pre T U=>⟨(7,iA (vC co i))::(29,iA i)::T,U⟩) ?_;(conv=>whnf);refine⟨by rfl,?_,?_⟩
   ·intro k pre2 c post2 hx2 hk;have hy2:=yP iA hx2 hk;have hlt2:=yF hx2 hk;have hcm:=hv.c c (xV hx2);have hg:co.getD k 0=c:=by rw[hx2,<-hk];simp[List.getD]
    have hb1:=hbd k zB;have hp1:=gD k zB;have e1:vC co (k+1)=vC co k+c*p2 (2*(k:Int)):=by rw[vC,hg]
    rw[e1];have hw0:=TG (c:=0) (k:=k) zB zB;have hw2:=TG (c:=2) (k:=k) zB zB;clear hx2 hbd hlast hpl8 hs8 e1 hv;generalize vC co k=s at *;have:c=0∨c=1∨c=2:=by omega
    rcases this with rfl|rfl|rfl
    ·(refine WW ?_)
     rw[hw0];rfl
    ·(refine WW ?_)
     rw[yCp];rfl
    ·(refine WW ?_)
     rw[hw2];rfl
   ·clear hbd hv;generalize vC co co.length=s at *;refine WW ?_;refine yB (cn) [1001] [] [12,13,14,52,53] [3,54,12,13,14,52,53] rfl (λi pre T U=>⟨(3,.ref 1001 0 (xs++[yA (LS false false),yA (vR s 8),yA (gC s)]++pre.map (λn=>yA (gC n))).length)::(54,iA i)::T,(1001,.arr 1 (xs++[yA (LS false false),yA (vR s 8),yA (gC s)]++pre.map (λn=>yA (gC n))) true)::U⟩) ?_;(conv=>whnf);refine⟨by(simp only[zY6,zX8];rfl),?_,?_⟩
    ·intro k pre2 c post2 hx2 hk;have hy2:=yP iA hx2 hk;have hlt2:=yF hx2 hk;have hpk:(pre2.map (λn=>yA (gC n))).length=k:=by rw[zXa];exact hk
     rw[zXf,zYi,zY6,<-zXy];clear hx2;generalize pre2.map (λn=>yA (gC n))=zs2 at *;refine WW ?_;rfl
    ·(refine WW ?_)
     rfl
  ·(refine WW ?_)
   refine yB (co) [5,1001] [5,1001] [3,5,6,12,13,14,27,28] [7,29,3,5,6,12,13,14,27,28] rfl (λi pre T U=>⟨(7,iA (vC co i))::(29,iA i)::T,U⟩) ?_;(conv=>whnf);refine⟨by rfl,?_,?_⟩
   ·intro k pre2 c post2 hx2 hk;have hy2:=yP iA hx2 hk;have hlt2:=yF hx2 hk;have hcm:=hv.c c (xV hx2);have hg:co.getD k 0=c:=by rw[hx2,<-hk];simp[List.getD]
    have hb1:=hbd k zB;have hp1:=gD k zB;have e1:vC co (k+1)=vC co k+c*p2 (2*(k:Int)):=by rw[vC,hg]
    rw[e1];have hw0:=TG (c:=0) (k:=k) zB zB;have hw2:=TG (c:=2) (k:=k) zB zB;clear hx2 hbd hlast hpl8 hs8 e1 hv;generalize vC co k=s at *;have:c=0∨c=1∨c=2:=by omega
    rcases this with rfl|rfl|rfl
    ·(refine WW ?_)
     rw[hw0];rfl
    ·(refine WW ?_)
     rw[yCp];rfl
    ·(refine WW ?_)
     rw[hw2];rfl
   ·clear hbd hv;generalize vC co co.length=s at *;refine WW ?_;refine yB (cn) [1001] [] [12,13,14,52,53] [3,54,12,13,14,52,53] rfl (λi pre T U=>⟨(3,.ref 1001 0 (xs++[yA (LS false true),yA (vR s 8),yA (gC s)]++pre.map (λn=>yA (gC n))).length)::(54,iA i)::T,(1001,.arr 1 (xs++[yA (LS false true),yA (vR s 8),yA (gC s)]++pre.map (λn=>yA (gC n))) true)::U⟩) ?_;(conv=>whnf);refine⟨by(simp only[zY6,zX8];rfl),?_,?_⟩
    ·intro k pre2 c post2 hx2 hk;have hy2:=yP iA hx2 hk;have hlt2:=yF hx2 hk;have hpk:(pre2.map (λn=>yA (gC n))).length=k:=by rw[zXa];exact hk
     rw[zXf,zYi,zY6,<-zXy];clear hx2;generalize pre2.map (λn=>yA (gC n))=zs2 at *;refine WW ?_;rfl
    ·(refine WW ?_)
     rfl
  ·(refine WW ?_)
   refine yB (co) [5,1001] [5,1001] [3,5,6,12,13,14,27,28] [7,29,3,5,6,12,13,14,27,28] rfl (λi pre T U=>⟨(7,iA (vC co i))::(29,iA i)::T,U⟩) ?_;(conv=>whnf);refine⟨by rfl,?_,?_⟩
   ·intro k pre2 c post2 hx2 hk;have hy2:=yP iA hx2 hk;have hlt2:=yF hx2 hk;have hcm:=hv.c c (xV hx2);have hg:co.getD k 0=c:=by rw[hx2,<-hk];simp[List.getD]
    have hb1:=hbd k zB;have hp1:=gD k zB;have e1:vC co (k+1)=vC co k+c*p2 (2*(k:Int)):=by rw[vC,hg]
    rw[e1];have hw0:=TG (c:=0) (k:=k) zB zB;have hw2:=TG (c:=2) (k:=k) zB zB;clear hx2 hbd hlast hpl8 hs8 e1 hv;generalize vC co k=s at *;have:c=0∨c=1∨c=2:=by omega
    rcases this with rfl|rfl|rfl
    ·(refine WW ?_)
     rw[hw0];rfl
    ·(refine WW ?_)
     rw[yCp];rfl
    ·(refine WW ?_)
     rw[hw2];rfl
   ·clear hbd hv;generalize vC co co.length=s at *;refine WW ?_;refine yB (cn) [1001] [] [12,13,14,52,53] [3,54,12,13,14,52,53] rfl (λi pre T U=>⟨(3,.ref 1001 0 (xs++[yA (LS true false),yA (vR s 8),yA (gC s)]++pre.map (λn=>yA (gC n))).length)::(54,iA i)::T,(1001,.arr 1 (xs++[yA (LS true false),yA (vR s 8),yA (gC s)]++pre.map (λn=>yA (gC n))) true)::U⟩) ?_;(conv=>whnf);refine⟨by(simp only[zY6,zX8];rfl),?_,?_⟩
    ·intro k pre2 c post2 hx2 hk;have hy2:=yP iA hx2 hk;have hlt2:=yF hx2 hk;have hpk:(pre2.map (λn=>yA (gC n))).length=k:=by rw[zXa];exact hk
     rw[zXf,zYi,zY6,<-zXy];clear hx2;generalize pre2.map (λn=>yA (gC n))=zs2 at *;refine WW ?_;rfl
    ·(refine WW ?_)
     rfl
  ·(refine WW ?_)
   refine yB (co) [5,1001] [5,1001] [3,5,6,12,13,14,27,28] [7,29,3,5,6,12,13,14,27,28] rfl (λi pre T U=>⟨(7,iA (vC co i))::(29,iA i)::T,U⟩) ?_;(conv=>whnf);refine⟨by rfl,?_,?_⟩
   ·intro k pre2 c post2 hx2 hk;have hy2:=yP iA hx2 hk;have hlt2:=yF hx2 hk;have hcm:=hv.c c (xV hx2);have hg:co.getD k 0=c:=by rw[hx2,<-hk];simp[List.getD]
    have hb1:=hbd k zB;have hp1:=gD k zB;have e1:vC co (k+1)=vC co k+c*p2 (2*(k:Int)):=by rw[vC,hg]
    rw[e1];have hw0:=TG (c:=0) (k:=k) zB zB;have hw2:=TG (c:=2) (k:=k) zB zB;clear hx2 hbd hlast hpl8 hs8 e1 hv;generalize vC co k=s at *;have:c=0∨c=1∨c=2:=by omega
    rcases this with rfl|rfl|rfl
    ·(refine WW ?_)
     rw[hw0];rfl
    ·(refine WW ?_)
     rw[yCp];rfl
    ·(refine WW ?_)
     rw[hw2];rfl
   ·clear hbd hv;generalize vC co co.length=s at *;refine WW ?_;refine yB (cn) [1001] [] [12,13,14,52,53] [3,54,12,13,14,52,53] rfl (λi pre T U=>⟨(3,.ref 1001 0 (xs++[yA (LS true true),yA (vR s 8),yA (gC s)]++pre.map (λn=>yA (gC n))).length)::(54,iA i)::T,(1001,.arr 1 (xs++[yA (LS true true),yA (vR s 8),yA (gC s)]++pre.map (λn=>yA (gC n))) true)::U⟩) ?_;(conv=>whnf);refine⟨by(simp only[zY6,zX8];rfl),?_,?_⟩
    ·intro k pre2 c post2 hx2 hk;have hy2:=yP iA hx2 hk;have hlt2:=yF hx2 hk;have hpk:(pre2.map (λn=>yA (gC n))).length=k:=by rw[zXa];exact hk
     rw[zXf,zYi,zY6,<-zXy];clear hx2;generalize pre2.map (λn=>yA (gC n))=zs2 at *;refine WW ?_;rfl
    ·(refine WW ?_)
     rfl
 ·(refine WW ?_)
  exact zL [1001] rfl rfl rfl rfl
def cdW (g:Lg) (w:Vw):Int:=if 0<=g.ph/\g.ph<(w.co.length:Int)then(if w.ov=true/\w.fl=false/\w.co.getD g.ph.toNat default=1 then 3 else 2)else 1
def cdF (g:Lg) (v:List Vw) (now:Int):Int:=if liB g now=true/\0<=g.jn/\g.jn<(v.length:Int)then cdW g (v.getD g.jn.toNat default)else 1
theorem zFk (g:Lg) (v:List Vw) (now:Int):1<=cdF g v now/\cdF g v now<=3:=by
 unfold cdF cdW
 repeat' split
 all_goals omega
theorem zFl (g:Lg) (v:List Vw) (now:Int) {Q:Int->Prop} (q1:liB g now=false->Q 1) (q2:liB g now=true->g.jn<0->Q 1) (q3:liB g now=true->0<=g.jn->(v.length:Int)<=g.jn->Q 1)
  (q4:∀w,liB g now=true->0<=g.jn->g.jn<(v.length:Int)->(v.map vL)[g.jn.toNat]? =some (vL w)->g.ph<0->Q 1)
  (q5:∀w,liB g now=true->0<=g.jn->g.jn<(v.length:Int)->(v.map vL)[g.jn.toNat]? =some (vL w)->0<=g.ph->(w.co.length:Int)<=g.ph->Q 1)
  (q6:∀w c,liB g now=true->0<=g.jn->g.jn<(v.length:Int)->(v.map vL)[g.jn.toNat]? =some (vL w)->0<=g.ph->g.ph<(w.co.length:Int)->(w.co.map iA)[g.ph.toNat]? =some (iA c)->Q (if w.ov=true/\w.fl=false/\c=1 then 3 else 2)):Q (cdF g v now):=by
 unfold cdF
 cases hl:liB g now with
 |false=>rw[zW8 (λh=>by cases h.1)];exact q1 hl
 |true=>
  by_cases j0:g.jn<0
  ·rw[zW8 (λh=>by omega)];exact q2 hl j0
  by_cases j1:(v.length:Int)<=g.jn
  ·rw[zW8 (λh=>by omega)];exact q3 hl zB j1
  have hy:=yM vL v g.jn zB zB;rw[zW9 ⟨rfl,zB,zB⟩];generalize v.getD g.jn.toNat default=w at *;unfold cdW;by_cases p0:g.ph<0
  ·rw[zW8 (λh=>by omega)];exact q4 w hl zB zB hy p0
  by_cases p1:(w.co.length:Int)<=g.ph
  ·rw[zW8 (λh=>by omega)];exact q5 w hl zB zB hy zB p1
  have hy2:=yM iA w.co g.ph zB zB;rw[zW9 ⟨zB,zB⟩];exact q6 w _ hl zB zB hy zB zB hy2
theorem zQ4 (g:Lg) (v:List Vw) (now:Int) (hn:v.length<=1000) (hb:∀w∈v,w.co.length<=1000):zN 202 [xU g,zD vL v,iA now] [] (iA (cdF g v now)) []:=by
 have cl:=zIg g now;have hvl:=zA vL v;have hb:∀w,(v.map vL)[g.jn.toNat]? =some (vL w)->(w.co.map iA).length=w.co.length:=λw _=>zA iA w.co
 unfold xU at *;refine zFl (Q:=λr=>zN 202 [.agg [iA g.jn,iA g.ph,iA g.fr,iA g.to,iA g.sc],zD vL v,iA now] [] (iA r) []) g v now (λh1=>?_) (λh1 h2=>?_) (λh1 h2 h3=>?_) (λw h1 h2 h3 hy h4=>?_) (λw h1 h2 h3 hy h4 h5=>?_) (λw c h1 h2 h3 hy h4 h5 hy2=>?_)
 ·rw[h1]at cl;refine eM call202 λF hF=>?_
  refine zU cl ?_;exact zK
 ·rw[h1]at cl;refine eM call202 λF hF=>?_
  refine zU cl ?_;exact zK
 ·rw[h1]at cl;refine eM call202 λF hF=>?_
  refine zU cl ?_;exact zK
 ·rw[h1]at cl;unfold vL at hy;refine eM call202 λF hF=>?_
  refine zU cl ?_;exact zK
 ·rw[h1]at cl;have hwl:=hb w hy;unfold vL zD at hy;refine eM call202 λF hF=>?_
  refine zU cl ?_;exact zK
 ·rw[h1]at cl;have hwl:=hb w hy;clear hb;obtain⟨fl,ov,co,cn⟩:=w;rw[show vL ⟨fl,ov,co,cn⟩= .agg [bA fl,bA ov,zD iA co,zD iA cn]from rfl]at hy;dsimp only at *;cases ov
  ·(refine eM call202 λF hF=>?_)
   refine zU cl ?_;exact zK
  cases fl
  case true=>
   refine eM call202 λF hF=>?_
   refine zU cl ?_;exact zK
  by_cases hc1:c=1
  ·rw[zW9 ⟨rfl,rfl,hc1⟩];refine eM call202 λF hF=>?_
   refine zU cl ?_;exact zK
  ·rw[zW8 (λh=>hc1 h.2.2)];refine eM call202 λF hF=>?_
   refine zU cl ?_;exact zK
def cqF (l:List Rq) (v:List Vw) (now:Int) (i:Nat):Int:=if i/3<l.length/\i % 3<(l.getD (i/3) default).legs.length then cdF ((l.getD (i/3) default).legs.getD (i % 3) default) v now else 0
def cqL (l:List Rq) (v:List Vw) (now:Int) (n:Nat):List Int:=(List.range n).map (cqF l v now)
def GE (l:List Rq) (v:List Vw) (now:Int) (N i:Nat):List Int:=(List.range N).map λj=>if j<i then cqF l v now j else 0
theorem zAw (l:List Rq) (v:List Vw) (now:Int) (N i:Nat):(GE l v now N i).length=N:=by simp[GE]
theorem zFm (l:List Rq) (v:List Vw) (now:Int) (N:Nat):(GE l v now N 0).map yA=List.replicate N (yA 0):=by
 apply zYp;intro j;unfold GE;rw[zXd,zXd,zY4];by_cases hj:j<N
 ·rw[zX6 hj,zW9 hj];simp
 ·rw[zX0 wQ,zW8 hj];rfl
theorem CU (l:List Rq) (v:List Vw) (now:Int) (N k j:Nat):((GE l v now N k).map yA)[j]? =if j<N then some (yA (if j<k then cqF l v now j else 0))else none:=by
 unfold GE;rw[zXd,zXd];by_cases hj:j<N
 ·rw[zX6 hj,zW9 hj];rfl
 ·rw[zX0 wQ,zW8 hj];rfl
theorem zFn (l:List Rq) (v:List Vw) (now:Int) (N i:Nat) (hi:i<N):(GE l v now N (i+1)).map yA=((GE l v now N i).map yA).set i (yA (cqF l v now i)):=by
 apply zYp;intro j;rw[zZi,CU,CU,zXa,zAw];by_cases he:i=j
 ·subst he;rw[zW9 hi,zW9 rfl,zW9 hi,zW9 (Nat.lt_succ_self i)]
 ·rw[zW8 he];by_cases hj:j<N
  ·rw[zW9 hj,zW9 hj];by_cases h2:j<i
   ·rw[zW9 zB,zW9 h2]
   ·rw[zW8 zB,zW8 h2]
  ·rw[zW8 hj,zW8 hj]
theorem zLj (l:List Rq) (v:List Vw) (now:Int) (N:Nat):GE l v now N N=cqL l v now N:=by
 unfold GE cqL;apply yAp;intro j hj;rw[zW9 (zXz.1 hj)]
theorem zLk (l:List Rq) (q:Nat) (v:List Vw) (now:Int) (hq:q<=1000) (hl:l.length<=1000) (hlg:∀r∈l,r.legs.length<=1000) (hn:v.length<=1000) (hb:∀w∈v,w.co.length<=1000):
  zN 165 [zD yK l,iA q,zD vL v,iA now] [] (zD yA (cqL l v now (q*3))) []:=by
 have hll:=zA yK l;by_cases h0:q=0
 ·subst h0;refine eM call165 λF hF=>?_
  refine WW ?_;exact zK
 have e0:=zFm l v now (q*3);have hvl:=zA vL v;refine eM call165 λF hF=>?_
 refine WW ?_;have hN9:q*3<=3000:=by omega
 generalize q*3=N at *;refine zP (N) [21] [] [0,2,3,9,23] [24,0,2,3,9,23] rfl (λi T U=>⟨(24,iA i)::T,(21,.arr 1 ((GE l v now N i).map yA) false)::U⟩) ?_;(conv=>whnf);refine⟨by(rw[e0];rfl),?_,?_⟩
 ·intro i hi;have hr:(i:Int).tdiv 3=((i/3:Nat):Int):=by rw[zY0 zB];omega
  have hk:(i:Int).tmod 3=((i % 3:Nat):Int):=by rw[zYn zB];omega
  have hin:YI .i64 ((i:Int).tdiv 3):=⟨by show -9223372036854775808<=_;omega,by show _<=9223372036854775807;omega⟩;have hnl:((GE l v now N i).map yA).length=N:=by rw[zXa,zAw]
  have e:=zFn l v now N i hi;rw[e];have hyx:((GE l v now N i).map yA)[i]? =some (yA (if i<i then cqF l v now i else 0)):=by rw[CU,zW9 hi]
  have hset:∀y:AV,(((GE l v now N i).map yA).set i y)[i]? =some y:=λy=>zYw zB
  by_cases hr1:i/3<l.length
  ·have hy:(l.map yK)[((i:Int).tdiv 3).toNat]? =some (yK (l.getD (i/3) default)):=by rw[hr];exact zM yK l _ hr1
   have hxl:(l.getD (i/3) default).legs.length<=1000:=hlg _ (by rw[zXh,zXr hr1];exact zZy _);have hxm:=zA xU (l.getD (i/3) default).legs
   have ec:cqF l v now i=if i % 3<(l.getD (i/3) default).legs.length then cdF ((l.getD (i/3) default).legs.getD (i % 3) default) v now else 0:=by
    unfold cqF;by_cases h:i % 3<(l.getD (i/3) default).legs.length
    ·rw[zW9 ⟨hr1,h⟩,zW9 h]
    ·rw[zW8 (λh9=>h h9.2),zW8 h]
   rw[ec];clear e ec e0;generalize l.getD (i/3) default=x at *;unfold yK zD at hy;by_cases hk1:i % 3<x.legs.length
   ·have hy2:(x.legs.map xU)[((i:Int).tmod 3).toNat]? =some (xU (x.legs.getD (i % 3) default)):=by rw[hk];exact zM xU x.legs _ hk1
    have cc:=zQ4 (x.legs.getD (i % 3) default) v now hn hb;have hcb:=zFk (x.legs.getD (i % 3) default) v now;rw[zW9 hk1];generalize cdF (x.legs.getD (i % 3) default) v now=c at *;generalize x.legs.getD (i % 3) default=g at *;generalize (GE l v now N i).map yA=xs at*
    (have zc1:=cc;(repeat' (first|refine WTR ?_|refine xQ (λhc=>?_) (λhc=>?_)|refine wD (λhc=>?_)|(refine zE ?_;first|(refine bI ?_;refine AZ tok rfl rfl rfl (hset _) rfl rfl rfl rfl rfl rfl rfl rfl ?_)|refine SM ?_)|refine SB ?_|fail))<;>clear zc1)
    refine zX7 (St.mk _) ?_
    show [(21,xN.arr 1 ((xs.set i _).set i _) _)]=_
    rw[yB1];rfl
   ·rw[zW8 hk1];generalize (GE l v now N i).map yA=xs at *;refine WW ?_;rfl
  ·have ec:cqF l v now i=0:=by unfold cqF;rw[zW8 (λh=>hr1 h.1)]
   rw[ec];clear e ec e0;generalize (GE l v now N i).map yA=xs at *;refine WW ?_;rfl
 ·rw[zLj];refine WW ?_;refine zH [] rfl rfl ?_ rfl;exact zX7 (AV.sl false) (zXk (by simp[cqL]))
def stM (now:Int) (v:List Vw) (b:List Int):Ms:=⟨17,[],[now],ZM v++b⟩
theorem zQ5 (now:Int) (v:List Vw) (b:List Int) (hn:v.length<=1000) (hb:∀w∈v,DX w) (hl:b.length<=10000):zN 166 [iA now,zD vL v,zD yA b] [] (zY (stM now v b)) []:=by
 have kr:=zFj v hn hb;have h1:=cV hb;have hrl:=zA yA (ZM v);have hbl:=zA yA b;rw[show zY (stM now v b)= .agg [iA 17,.sl false [],.sl false [iA now],.sl false ((ZM v).map yA++b.map yA)] by unfold stM zY zD;rw[zXf];rfl];generalize (ZM v).map yA=xs at *;refine eM call166 λF hF=>?_
 refine WLo kr ?_;refine zH [] rfl rfl ?_ rfl;exact zX7 (λz=>AV.agg [iA 17,AV.sl false [],AV.sl false [iA now],AV.sl false z]) zXe
def OV (d:xP) (v:List Vw) (now:Int):Ms:=stM now v (cqL d.rq v now (d.rg.ag.req.toNat*3))
theorem zFo (d:xP) (hd:eU d) (hq:0<=d.rg.ag.req/\d.rg.ag.req<=4) (v:List Vw) (now:Int) (hn:v.length<=1000) (hb:∀w∈v,DX w):zN 116 [zJ d,zD vL v,iA now] [] (zY (OV d v now)) []:=by
 have c1:=zLk d.rq d.rg.ag.req.toNat v now zB hd.q hd.g hn (λw hw=>zYg (hb w hw).n xL);rw[show((d.rg.ag.req.toNat:Nat):Int)=d.rg.ag.req by omega]at c1;have c2:=zQ5 now v (cqL d.rq v now (d.rg.ag.req.toNat*3)) hn hb (by simp[cqL];omega);unfold OV;generalize cqL d.rq v now (d.rg.ag.req.toNat*3)=cs at *;unfold zY at *;unfold zJ wL;generalize ZM v=rc at *;refine eM call116 λF hF=>?_
 refine yO (wW c1 c2) ?_;exact zK
def vwZ (n:Nat):Vw:=⟨true,false,List.replicate n 0,List.replicate n 0⟩
theorem zUj {n:Nat} (h:n<=8):DX (vwZ n):=⟨by simp[vwZ];exact h,by simp[vwZ];exact h,λc hc=>by
 have:=(yBi.1 hc).2
 omega⟩
structure Li where
 lamp:Int
 tk:Int
structure Ct where
 li:List Li
 gr:Int
 nx:List Int
 wt:Int
instance:Inhabited Li:=⟨⟨0,0⟩⟩
def vG (l:Li):AV:= .agg [iA l.lamp,iA l.tk]
def ctA (c:Ct):AV:= .agg [zD vG c.li,iA c.gr,zD iA c.nx,iA c.wt]
def fX (rows:List Int) (p q:Int):Bool:=decide (0<=p/\0<=q/\p<rows.length/\q<rows.length)&&(fV (vR (rows.getD p.toNat default) q) 1==1)
def lnF (p:Ph):Int:=max p.ming (p.walk+p.clear)
def lpF (p:Ph) (l:Li) (lv:Bool):Li:=
 if l.lamp=1 then(if lv=true/\lnF p<=l.tk+1 then⟨2,0⟩else⟨1,min (l.tk+1) 1073741824⟩)
 else if l.lamp=2 then(if l.tk+1<p.yel then⟨2,l.tk+1⟩else if p.red=0 then⟨0,0⟩else⟨3,0⟩)
 else if l.lamp=3 then(if l.tk+1<p.red then⟨3,l.tk+1⟩else⟨0,0⟩)
 else l
def OW (p:Ph) (l:Li):Bool:=if l.lamp=0 then decide (l.tk=0)else if l.lamp=1 then decide (0<=l.tk/\l.tk<=1073741824)else if l.lamp=2 then decide (0<=l.tk/\l.tk<p.yel)else if l.lamp=3 then decide (0<=l.tk/\l.tk<p.red)else false
def xC (j:Jn) (p:Nat):Ph:=j.ph.getD p default
def vD (c:Ct) (p:Nat):Li:=c.li.getD p default
def InO (j:Jn) (r g p:Int):Prop:=0<=p/\p<j.ph.length/\(xC j p.toNat).ring=r/\(xC j p.toNat).group=g
def grN (ps:List Ph):Nat->Int
 |0=>0
 |i+1=>max (grN ps i) ((ps.getD i default).group+1)
def WH (j:Jn):Int:=grN j.ph j.ph.length
theorem zFp (ps:List Ph) (n:Nat):∀i,i<n->(ps.getD i default).group+1<=grN ps n:=by
 induction n with
 |zero=>intro i h;exact absurd h (zZq _)
 |succ n ih=>
  intro i h;unfold grN;by_cases e:i=n
  ·subst e;omega
  ·have:=ih i zB;omega
def rpN (j:Jn) (r:Int) (i:Nat):List Nat:=(List.range i).filter λp=>(xC j p).ring==r
def OK (j:Jn) (r:Int):List Nat:=rpN j r j.ph.length
theorem ZN {j:Jn} {r:Int} {p:Nat}:p∈OK j r↔p<j.ph.length/\(xC j p).ring=r:=by
 unfold OK rpN;rw[yAj,zXz,zYr]
def cU (j:Jn) (r g f:Int):Int:=match (OK j r).find? (λp:Nat=>decide (f<=(p:Int))&&(xC j p).group==g)with
 |some p=>p
 |none=> -1
theorem RZ (j:Jn) (r g f:Int):cU j r g f= -1∨InO j r g (cU j r g f)/\f<=cU j r g f:=by
 unfold cU;split
 ·rename_i p h;have h1:=yC4 h;have h2:=ZN.1 (yBy h);simp only[zXo,zYr,zXi]at h1;exact .inr ⟨⟨zB,zB,h2.2,h1.2⟩,h1.1⟩
 ·exact .inl rfl
def etF (j:Jn) (c:Ct) (g:Int):Ct:=⟨c.li,g,[cU j 0 g 0,cU j 1 g 0],c.wt⟩
def XW (j:Jn) (c:Ct) (p:Int):Bool:=(List.range c.li.length).any λq=>(vD c q).lamp != 0&&fX j.cf p q
def b1F (c:Ct) (p:Nat):Ct:=⟨c.li.set p ⟨1,0⟩,c.gr,c.nx,c.wt⟩
def GF (j:Jn) (c:Ct) (p:Nat):Ct:=if c.gr=(xC j p).group then b1F c p else etF j (b1F c p) (xC j p).group
def jN (j:Jn) (c:Ct) (p:Nat):Ct:=
 if XW j c p=true then c
 else⟨(GF j c p).li,(GF j c p).gr,(GF j c p).nx.set (xC j p).ring.toNat (cU j (xC j p).ring (xC j p).group (p+1)),(GF j c p).wt⟩
def dkF (j:Jn) (c:Ct) (r:Int):Bool:=(OK j r).all λp=>(vD c p).lamp==0
def cmF (j:Jn) (x r t:Int):Int:=match (OK j r).find? (λp:Nat=>!fX j.cf p t&&decide (x≠ -1/\x<=(p:Int)))with
 |some p=>p
 |none=>match (OK j r).find? (λp:Nat=>!fX j.cf p t)with
  |some p=>p
  |none=> -1
def YL (j:Jn) (c:Ct) (r:Int) (t:Nat):Int:=if r=(xC j t).ring then t else cmF j (c.nx.getD r.toNat default) r t
def dS (j:Jn) (t:Nat) (c:Ct) (r:Int):Ct:=if dkF j c r=true then(if YL j c r t= -1 then c else jN j c (YL j c r t).toNat)else c
def arF (c:Ct):Bool:=c.li.all λl=>l.lamp==0
def cyO (c:Ct):Bool:=arF c&&c.nx.all λp=>p== -1
def dT (j:Jn) (c:Ct) (r:Int):Ct:=if dkF j c r=true/\c.nx.getD r.toNat default≠ -1 then jN j c (c.nx.getD r.toNat default).toNat else c
def cyF (j:Jn) (c:Ct):Ct:=dT j (dT j (if cyO c=true then etF j c ((c.gr+1) % WH j)else c) 0) 1
def OX (j:Jn) (t:Int):Bool:=decide (0<=t/\t<j.ph.length)
def lvS (j:Jn) (c:Ct) (t:Int) (p:Nat):Bool:=
 if OX j t=true then decide ((p:Int)≠t)&&(decide ((xC j p).maxg<=(vD c p).tk+1)||fX j.cf p t)else decide ((xC j p).maxg<=(vD c p).tk+1)
def MC (j:Jn) (c:Ct) (t:Int):List Li:=(List.range j.ph.length).map λp=>lpF (xC j p) (vD c p) (lvS j c t p)
def stF (j:Jn) (c:Ct) (t:Int):Ct:=
 if 0<c.wt then⟨c.li,c.gr,c.nx,c.wt-1⟩
 else if OX j t=true then dS j t.toNat (dS j t.toNat ⟨MC j c t,c.gr,c.nx,c.wt⟩ 0) 1
 else cyF j ⟨MC j c t,c.gr,c.nx,c.wt⟩
structure JV (j:Jn):Prop where
 n:1<=j.ph.length/\j.ph.length<=8
 c:j.cf.length=j.ph.length
 row:∀i,i<j.ph.length->0<=j.cf.getD i default/\j.cf.getD i default<2 ^ j.ph.length
 ir:∀p:Nat,p<j.ph.length->fX j.cf p p=false
 sy:∀p q:Nat,p<j.ph.length->q<j.ph.length->fX j.cf p q=fX j.cf q p
 ap:∀p q:Nat,p<j.ph.length->q<j.ph.length->p≠q->(xC j p).ring=(xC j q).ring∨(xC j p).group≠(xC j q).group->fX j.cf p q=true
 rg:∀p:Nat,p<j.ph.length->0<=(xC j p).ring/\(xC j p).ring<=1
 gp:∀p:Nat,p<j.ph.length->0<=(xC j p).group/\(xC j p).group<=3
 ti:∀p:Nat,p<j.ph.length->1<=(xC j p).ming/\(xC j p).ming<=(xC j p).maxg/\(xC j p).maxg<=60/\1<=(xC j p).yel/\(xC j p).yel<=60/\0<=(xC j p).red/\(xC j p).red<=60/\0<=(xC j p).walk/\(xC j p).walk<=60/\0<=(xC j p).clear/\(xC j p).clear<=60/\(xC j p).walk+(xC j p).clear<=(xC j p).maxg/\((xC j p).walk=0↔(xC j p).clear=0)
 lo:∀p:Nat,p<j.ph.length->∀g:Int,0<=g->g<(xC j p).group->∃q:Nat,q<j.ph.length/\(xC j q).group=g
 st:0<=j.st/\j.st<=60
structure CV (j:Jn) (c:Ct):Prop where
 n:c.li.length=j.ph.length
 k:∀p,p<j.ph.length->OW (xC j p) (vD c p)=true
 x:∀p q:Nat,p<j.ph.length->q<j.ph.length->p≠q->(vD c p).lamp≠0->(vD c q).lamp≠0->fX j.cf p q=false
 g:0<=c.gr/\c.gr<WH j
 m:c.nx.length=2
 v:∀r:Nat,r<2->c.nx.getD r default= -1∨InO j r c.gr (c.nx.getD r default)
 w:0<=c.wt/\c.wt<=j.st
 z:c.wt=0∨∀p,p<j.ph.length->(vD c p).lamp=0
theorem LT {j:Jn} (J:JV j):1<=WH j:=by
 have h1:=zFp j.ph j.ph.length 0 zBr;have h2:=J.gp 0 zBr;unfold xC at h2;unfold WH;omega
theorem zPa (j:Jn) (c:Ct) (g:Int):∀r:Nat,r<2->(etF j c g).nx.getD r default= -1∨InO j r g ((etF j c g).nx.getD r default):=by
 intro r hr;have:r=0∨r=1:=by omega
 rcases this with rfl|rfl
 ·rcases RZ j 0 g 0 with h|h
  ·exact .inl h
  ·exact .inr h.1
 ·rcases RZ j 1 g 0 with h|h
  ·exact .inl h
  ·exact .inr h.1
theorem zFq {j:Jn} {c:Ct} (C:CV j c) {g:Int} (hg:0<=g/\g<WH j):CV j (etF j c g):=
 ⟨C.n,C.k,C.x,hg,rfl,zPa j c g,C.w,C.z⟩
theorem zLl (c:Ct) (p q:Nat) (l:Li) (gr:Int) (nx:List Int) (wt:Int) (hp:p<c.li.length):vD ⟨c.li.set p l,gr,nx,wt⟩ q=if q=p then l else vD c q:=by
 unfold vD;simp only[zXh,zZi];split
 ·rename_i h;subst h;simp[hp]
 ·rename_i h;rw[zW8 (λe=>h e.symm)]
theorem zUk {j:Jn} (J:JV j) {c:Ct} (C:CV j c) (h0:c.wt=0) {p:Nat} (hp:p<j.ph.length) (hk:XW j c p=false):CV j (b1F c p):=by
 have hl:=C.n
 have hs:∀q,vD (b1F c p) q=if q=p then⟨1,0⟩else vD c q:=λq=>zLl c p q _ _ _ _ zB
 unfold XW at hk;rw[zZ8]at hk
 have hc:∀q:Nat,q<j.ph.length->(vD c q).lamp≠0->fX j.cf p q=false:=λq hq hn=>by
  have:=hk q (zXz.2 zB);simp only[zXo,not_and,zZ4]at this;exact this EP
 refine⟨by unfold b1F;simpa using hl,λq hq=>?_,λq r hq hr hqr h1 h2=>?_,C.g,C.m,C.v,C.w,.inl h0⟩
 ·rw[hs];split
  ·rfl
  ·exact C.k q hq
 ·rw[hs]at h1 h2;by_cases e1:q=p
  ·subst e1;rw[zW8 (λe=>hqr e.symm)]at h2;exact hc r hr h2
  ·rw[zW8 e1]at h1;by_cases e2:r=p
   ·subst e2;rw[J.sy q r hq hr];exact hc q hq h1
   ·rw[zW8 e2]at h2;exact C.x q r hq hr hqr h1 h2
theorem zUl {j:Jn} (J:JV j) {c:Ct} (C:CV j c) (h0:c.wt=0) {p:Nat} (hp:p<j.ph.length) (hk:XW j c p=false):CV j (GF j c p)/\(GF j c p).gr=(xC j p).group/\(GF j c p).wt=0:=by
 have h1:=zUk J C h0 hp hk;unfold GF;split
 ·rename_i h;exact⟨h1,h,h0⟩
 ·have hg:=J.gp p hp;have:=zFp j.ph j.ph.length p hp;exact⟨zFq h1 ⟨hg.1,by unfold WH;unfold xC;omega⟩,rfl,h0⟩
theorem zPb {j:Jn} (J:JV j) {c:Ct} (C:CV j c) (h0:c.wt=0) {p:Nat} (hp:p<j.ph.length):CV j (jN j c p)/\(jN j c p).wt=0:=by
 unfold jN;split
 ·exact⟨C,h0⟩
 ·rename_i hk;obtain⟨B,hg,hw⟩:=zUl J C h0 hp (by simpa using hk);have hr:=J.rg p hp;refine⟨⟨B.n,B.k,B.x,B.g,by rw[zY3];exact B.m,λr hr2=>?_,B.w,B.z⟩,hw⟩;have hs:=RZ j (xC j p).ring (xC j p).group (p+1);generalize cU j (xC j p).ring (xC j p).group (p+1)=f at *;dsimp only
  have e:((GF j c p).nx.set (xC j p).ring.toNat f).getD r default=if r=(xC j p).ring.toNat then f else(GF j c p).nx.getD r default:=by
   simp only[zXh,zZi];split
   ·rename_i h;subst h;rw[zW9 rfl,B.m,zW9 hr2];rfl
   ·rename_i h;rw[zW8 (λe=>h e.symm)]
  rw[e];split
  ·rename_i h
   rcases hs with hs|hs
   ·exact .inl hs
   ·refine .inr ?_;rw[hg,show(r:Int)=(xC j p).ring by omega];exact hs.1
  ·exact B.v r hr2
theorem GG (j:Jn) (x r t:Int):cmF j x r t= -1∨∃p:Nat,cmF j x r t=p/\p<j.ph.length/\(xC j p).ring=r/\fX j.cf p t=false:=by
 unfold cmF;split
 ·rename_i p h;have h1:=yC4 h;have h2:=ZN.1 (yBy h);simp only[zXo,zZl]at h1;exact .inr ⟨p,rfl,h2.1,h2.2,h1.1⟩
 ·split
  ·rename_i p h;have h1:=yC4 h;have h2:=ZN.1 (yBy h);rw[zZl]at h1;exact .inr ⟨p,rfl,h2.1,h2.2,h1⟩
  ·exact .inl rfl
theorem zFr {j:Jn} {c:Ct} {r:Int} {t:Nat} (ht:t<j.ph.length):YL j c r t= -1∨∃p:Nat,YL j c r t=p/\p<j.ph.length/\(xC j p).ring=r:=by
 unfold YL;split
 ·rename_i h;exact .inr ⟨t,rfl,ht,h.symm⟩
 ·rcases GG j (c.nx.getD r.toNat default) r t with h|⟨p,h1,h2,h3,_⟩
  ·exact .inl h
  ·exact .inr ⟨p,h1,h2,h3⟩
theorem zFs {j:Jn} (J:JV j) {c:Ct} (C:CV j c) (h0:c.wt=0) {t:Nat} (ht:t<j.ph.length) (r:Int):CV j (dS j t c r)/\(dS j t c r).wt=0:=by
 unfold dS;split
 ·split
  ·exact⟨C,h0⟩
  ·rename_i h
   rcases zFr (j:=j) (c:=c) (r:=r) ht with h1|⟨p,h1,h2,_⟩
   ·exact absurd h1 h
   ·rw[h1,zYs];exact zPb J C h0 h2
 ·exact⟨C,h0⟩
theorem LU {j:Jn} (J:JV j) {c:Ct} (C:CV j c) (h0:c.wt=0) {r:Nat} (hr:r<2):CV j (dT j c r)/\(dT j c r).wt=0:=by
 unfold dT;split
 ·rename_i h;rw[zYs]at h⊢
  rcases C.v r hr with h1|h1
  ·exact absurd h1 h.2
  ·exact zPb J C h0 (by have:=h1.2.1;have:=h1.1;omega)
 ·exact⟨C,h0⟩
theorem zUm {j:Jn} (J:JV j) {c:Ct} (C:CV j c) (h0:c.wt=0):CV j (cyF j c):=by
 have h1:CV j (if cyO c=true then etF j c ((c.gr+1) % WH j)else c)/\(if cyO c=true then etF j c ((c.gr+1) % WH j)else c).wt=0:=by
  split
  ·have:=LT J;exact⟨zFq C ⟨yA2 _ zB,yAs _ zB⟩,h0⟩
  ·exact⟨C,h0⟩
 have h2:=LU J h1.1 h1.2 (r:=0) zB;exact(LU J h2.1 h2.2 (r:=1) zB).1
theorem zWg {p:Ph} {l:Li} {lv:Bool} (hy:1<=p.yel) (hr:0<=p.red) (h:OW p l=true):OW p (lpF p l lv)=true/\((lpF p l lv).lamp≠0->l.lamp≠0):=by
 unfold OW at h;unfold lpF;by_cases h1:l.lamp=1
 ·rw[zW9 h1];rw[zW8 zB,zW9 h1,zXi]at h;split
  ·refine⟨by unfold OW;simp;omega,λ_=>by omega⟩
  ·refine⟨by unfold OW;simp;omega,λ_=>by omega⟩
 by_cases h2:l.lamp=2
 ·rw[zW8 h1,zW9 h2];rw[zW8 zB,zW8 h1,zW9 h2,zXi]at h;split
  ·refine⟨by unfold OW;simp;omega,λ_=>by omega⟩
  ·split
   ·refine⟨by unfold OW;simp,λh=>absurd rfl h⟩
   ·refine⟨by unfold OW;simp;omega,λ_=>by omega⟩
 by_cases h3:l.lamp=3
 ·rw[zW8 h1,zW8 h2,zW9 h3];rw[zW8 zB,zW8 h1,zW8 h2,zW9 h3,zXi]at h;split
  ·refine⟨by unfold OW;simp;omega,λ_=>by omega⟩
  ·refine⟨by unfold OW;simp,λh=>absurd rfl h⟩
 ·rw[zW8 h1,zW8 h2,zW8 h3];exact⟨by unfold OW;exact h,λh=>h⟩
theorem zFt {j:Jn} {c:Ct} (t gr:Int) (nx:List Int) (wt:Int) (p:Nat) (hp:p<j.ph.length):vD ⟨MC j c t,gr,nx,wt⟩ p=lpF (xC j p) (vD c p) (lvS j c t p):=by
 show(MC j c t).getD p default=_
 unfold MC;simp only[zXh,zXd,zX6 hp];rfl
theorem zPc {j:Jn} (J:JV j) {c:Ct} (C:CV j c) (h0:c.wt=0) (t:Int):CV j ⟨MC j c t,c.gr,c.nx,c.wt⟩:=by
 have hs:=λp hp=>zWg (lv:=lvS j c t p) (by have:=J.ti p hp;omega) (by have:=J.ti p hp;omega) (C.k p hp)
 refine⟨by simp[MC],λp hp=>?_,λp q hp hq hpq h1 h2=>?_,C.g,C.m,C.v,C.w,.inl h0⟩
 ·rw[zFt _ _ _ _ _ hp];exact(hs p hp).1
 ·rw[zFt _ _ _ _ _ hp]at h1;rw[zFt _ _ _ _ _ hq]at h2;exact C.x p q hp hq hpq ((hs p hp).2 h1) ((hs q hq).2 h2)
theorem zPd {j:Jn} (J:JV j) {c:Ct} (C:CV j c) (t:Int):CV j (stF j c t):=by
 unfold stF;split
 ·rename_i h;have hz:=C.z;have hw:=C.w;refine⟨C.n,C.k,C.x,C.g,C.m,C.v,by dsimp only;omega,?_⟩
  rcases hz with hz|hz
  ·omega
  ·exact .inr hz
 ·have h0:c.wt=0:=by have:=C.w;omega
  have L:=zPc J C h0 t;split
  ·rename_i h;unfold OX at h;rw[zXi]at h;have h1:=zFs J L h0 (t:=t.toNat) zB 0;exact(zFs J h1.1 h1.2 (t:=t.toNat) zB 1).1
  ·exact zUm J L h0
theorem jO (rows:List Int) (hn:rows.length<=40) (p q:Int):zN 204 [zD iA rows,iA p,iA q] [] (bA (fX rows p q)) []:=by
 have hl:=zA iA rows;unfold fX;by_cases h1:0<=p
 case neg=>
  rw[zXj (λh=>h1 h.1)];refine eM call204 λF hF=>?_
  refine WW ?_;exact zK
 by_cases h2:0<=q
 case neg=>
  rw[zXj (λh=>h2 h.2.1)];refine eM call204 λF hF=>?_
  refine WW ?_;exact zK
 by_cases h3:p<rows.length
 case neg=>
  rw[zXj (λh=>h3 h.2.2.1)];refine eM call204 λF hF=>?_
  refine WW ?_;exact zK
 by_cases h4:q<rows.length
 case neg=>
  rw[zXj (λh=>h4 h.2.2.2)];refine eM call204 λF hF=>?_
  refine WW ?_;exact zK
 rw[zXg ⟨h1,h2,h3,h4⟩,zX1];have hy:=yM iA rows p h1 h3;generalize rows.getD p.toNat default=x at *;by_cases h5:fV (vR x q) 1=1
 ·rw[show(fV (vR x q) 1==1)=true by rw[zYr];exact h5];refine eM call204 λF hF=>?_
  refine WW ?_;exact zK
 ·rw[show(fV (vR x q) 1==1)=false by rw[zYm];exact h5];refine eM call204 λF hF=>?_
  refine WW ?_;exact zK
def PhB (p:Ph):Prop:=0<=p.walk/\p.walk<=60/\0<=p.clear/\p.clear<=60
theorem zAx (p:Ph) (h:PhB p):zN 182 [wY p] [] (iA (lnF p)) []:=by
 obtain⟨h1,h2,h3,h4⟩:=h;refine eM call182 λF hF=>?_
 refine WW ?_;exact zK
theorem zLm (p:Ph) (h:PhB p) (l:Li) (ht: -1000000000000<=l.tk/\l.tk<=1000000000000) (lv:Bool):zN 227 [wY p,vG l,bA lv] [] (vG (lpF p l lv)) []:=by
 have c:=zAx p h;unfold lpF;by_cases h1:l.lamp=1
 ·rw[zW9 h1];generalize lnF p=n at*
  cases lv with
  |false=>
   rw[zW8 (λh=>by cases h.1)];refine eM call227 λF hF=>?_
   refine WW ?_;exact zK
  |true=>
  by_cases h2:n<=l.tk+1
  ·rw[zW9 ⟨rfl,h2⟩];refine eM call227 λF hF=>?_
   refine zU c ?_;exact zK
  ·rw[zW8 (λh=>h2 h.2)];refine eM call227 λF hF=>?_
   refine zU c ?_;exact zK
 rw[zW8 h1];by_cases h2:l.lamp=2
 ·rw[zW9 h2];by_cases h3:l.tk+1<p.yel
  ·rw[zW9 h3];refine eM call227 λF hF=>?_
   refine WW ?_;exact zK
  rw[zW8 h3];by_cases h4:p.red=0
  ·rw[zW9 h4];refine eM call227 λF hF=>?_
   refine WW ?_;exact zK
  ·rw[zW8 h4];refine eM call227 λF hF=>?_
   refine WW ?_;exact zK
 rw[zW8 h2];by_cases h3:l.lamp=3
 ·rw[zW9 h3];by_cases h4:l.tk+1<p.red
  ·rw[zW9 h4];refine eM call227 λF hF=>?_
   refine WW ?_;exact zK
  ·rw[zW8 h4];refine eM call227 λF hF=>?_
   refine WW ?_;exact zK
 ·rw[zW8 h3];refine eM call227 λF hF=>?_
  refine WW ?_;exact zK
theorem zFu (p:Ph) (l:Li):zN 245 [wY p,vG l] [] (bA (OW p l)) []:=by
 unfold OW;by_cases h0:l.lamp=0
 ·rw[zW9 h0];by_cases h:l.tk=0
  ·rw[zXg h];refine eM call245 λF hF=>?_
   refine WW ?_;exact zK
  ·rw[zXj h];refine eM call245 λF hF=>?_
   refine WW ?_;exact zK
 rw[zW8 h0];by_cases h1:l.lamp=1
 ·rw[zW9 h1];by_cases h:0<=l.tk
  ·by_cases h':l.tk<=1073741824
   ·rw[zXg ⟨h,h'⟩];refine eM call245 λF hF=>?_
    refine WW ?_;exact zK
   ·rw[zXj (λk=>h' k.2)];refine eM call245 λF hF=>?_
    refine WW ?_;exact zK
  ·rw[zXj (λk=>h k.1)];refine eM call245 λF hF=>?_
   refine WW ?_;exact zK
 rw[zW8 h1];by_cases h2:l.lamp=2
 ·rw[zW9 h2];by_cases h:0<=l.tk
  ·by_cases h':l.tk<p.yel
   ·rw[zXg ⟨h,h'⟩];refine eM call245 λF hF=>?_
    refine WW ?_;exact zK
   ·rw[zXj (λk=>h' k.2)];refine eM call245 λF hF=>?_
    refine WW ?_;exact zK
  ·rw[zXj (λk=>h k.1)];refine eM call245 λF hF=>?_
   refine WW ?_;exact zK
 rw[zW8 h2];by_cases h3:l.lamp=3
 ·rw[zW9 h3];by_cases h:0<=l.tk
  ·by_cases h':l.tk<p.red
   ·rw[zXg ⟨h,h'⟩];refine eM call245 λF hF=>?_
    refine WW ?_;exact zK
   ·rw[zXj (λk=>h' k.2)];refine eM call245 λF hF=>?_
    refine WW ?_;exact zK
  ·rw[zXj (λk=>h k.1)];refine eM call245 λF hF=>?_
   refine WW ?_;exact zK
 ·rw[zW8 h3];refine eM call245 λF hF=>?_
  refine WW ?_;exact zK
theorem GH (j:Jn) (r:Int) (i:Nat):rpN j r (i+1)=if(xC j i).ring=r then rpN j r i++[i]else rpN j r i:=by
 unfold rpN;rw[zZp,yAz];by_cases h:(xC j i).ring=r
 ·rw[zW9 h];simp[h]
 ·rw[zW8 h];simp[h]
theorem zAy (j:Jn) (r:Int):∀n i,i<=n->∃l,rpN j r n=rpN j r i++l
 |0,i,h=>⟨[],by rw[Nat.le_zero.1 h];simp⟩
 | n+1,i,h=>by
  by_cases e:i=n+1
  ·exact⟨[],by rw[e];simp⟩
  ·obtain⟨l,hl⟩:=zAy j r n i zB;rw[GH];split
   ·exact⟨l++[n],by rw[hl,zXy]⟩
   ·exact⟨l,hl⟩
def zCq (j:Jn) (r:Int):List (Nat×xN):=[(1003,.box [zD wY j.ph,zD iA j.cf,iA j.st]),(1004,.box [iA r])]
theorem zFv (j:Jn) (r:Int):zN 231 [wP j,iA r] [] (.fn 255 [.ptr 1003 0 0,.ptr 1004 0 0]) (zCq j r):=by
 refine eM call231 λF hF=>?_
 repeat' (first|(refine zE ?_;first|refine uG (kX (v:=AV.agg _) 1003 rfl rfl) rfl rfl rfl ?_|refine uG (kX (v:=AV.s _) 1004 rfl rfl) rfl rfl rfl ?_|refine vK tok rfl rfl ?_|refine qC ?_)|(first|refine xS ?_|refine yZ ?_|refine vA rfl ?_|refine zX rfl ?_|refine zQ rfl ?_|refine xJ rfl (λhc=>?_) (λhc=>?_)|refine yX ?_|refine yU ?_|refine xA ?_|refine yS ?_))
 exact zL [1003,1004] rfl rfl rfl rfl
theorem CW (j:Jn) (hn:j.ph.length<=1000) (r:Int):YA prog 255 [.ptr 1003 0 0,.ptr 1004 0 0] (zCq j r) ((OK j r).map λp:Nat=>[iA (p:Int)]):=by
 have hl:=zA wY j.ph;refine bP func255 rfl (λargs w=>call255 args w) rfl rfl rfl (λF y hro hit hY=>?_);unfold zCq;refine WW ?_;refine zP (j.ph.length) [1003,1004] [1003,1004] [0,2,7,8] [9,1000000,0,2,7,8] rfl (λi T U=>⟨(9,iA i)::(1000000,.gh (rpN j r i).length)::T,U⟩) ?_;(conv=>whnf);refine⟨by rfl,?_,?_⟩
 ·intro i hi;have hy:=zM wY j.ph i hi;have es:=GH j r i
  change (j.ph.map wY)[i]? =some (wY (xC j i))at hy
  by_cases hr:(xC j i).ring=r
  ·rw[zW9 hr]at es;obtain⟨l2,hpre⟩:=zAy j r j.ph.length (i+1) zB;rw[es]at hpre⊢
   have hys:((OK j r).map λp:Nat=>[iA (p:Int)])[(rpN j r i).length]? =some [iA (i:Int)]:=by
    unfold OK;rw[hpre,zXd,zX3 zS,zX2 (zXc _),zZo];rfl
   have hlen:=(zXv.1 hys).1;rw[zXb];generalize ((OK j r).map λp:Nat=>[iA (p:Int)])=xs at *;generalize (rpN j r i).length=k at *;generalize xC j i=t at*
   (repeat' (first|refine qA ?_|refine xQ (λhc=>?_) (λhc=>?_)|refine wD (λhc=>?_)|(refine zE ?_;refine wB ?_;first|(refine ZE ?_;refine RO hit hY rfl rfl hys rfl rfl rfl ?_ ?_))|(refine zE ?_;first|refine SM ?_)|fail))
   ·rfl
   ·exact cS rfl (.inr zB)
  ·rw[zW8 hr]at es;rw[es];generalize (rpN j r i).length=k at *;generalize xC j i=t at *;refine WW ?_;rfl
 ·have e:(rpN j r j.ph.length).length=((OK j r).map λp:Nat=>[iA (p:Int)]).length:=by rw[zXa];rfl
  refine WW ?_;exact ZF rfl (.inl e)
end Av
end Go.Proofs.YtmamjhmoegjapaaGreat
