/- Part 17. -/
import Derived.Test.YtaglbcjljlkjcaaGreatV16
namespace Go.Proofs.YtaglbcjljlkjcaaGreat.Av
open Tryz
set_option linter.all false
set_option maxRecDepth 4000
set_option maxHeartbeats 4000000
open List renaming length->ln,replicate->pg,range->pi,take->py,drop->p5,getD->qd
open Inhabited renaming default->dd
variable {j:Jn}{p:Nat}
structure Vw where
 fl:Bool
 ov:Bool
 co:List Int
 cn:List Int
instance:Inhabited Vw:=⟨⟨false,false,[],[]⟩⟩
def wE (v:Vw):AV:= .agg [bA v.fl,bA v.ov,zE iA v.co,zE iA v.cn]
structure CK (v:Vw):Prop where
 n:v.co.length<=8
 m:v.cn.length<=8
 c:∀c∈v.co,0<=c/\c<=2
def gW (n:Int):Int:=IntKind.u8.wrap n
def GA (a b:Bool):Int:=(if a=true then 1 else 0)+(if b=true then 2 else 0)
def vG (l:List Int):Nat->Int
 |0=>0
 |i+1=>vG l i+l.getD i 0*p2 (2*(i:Int))
def F7 (v:Vw):List Int:=[GA v.fl v.ov,wY (vG v.co (ln v.co)) 8,gW (vG v.co (ln v.co))]++v.cn.map gW
def XF (l:List Vw):List Int:=(l.map F7).flatten
def Jk (i:Nat):p2 (2*((i+1:Nat):Int))=p2 (2*(i:Int))*4:=by
 unfold p2;rw[show(2*((i+1:Nat):Int)).toNat=(2*(i:Int)).toNat+2 by omega,Int.pow_add];rfl
def gX (i:Nat) (h:i<=8):1<=p2 (2*(i:Int))/\p2 (2*(i:Int))<=65536:=by
 have:i=0\/i=1\/i=2\/i=3\/i=4\/i=5\/i=6\/i=7\/i=8:=by omega
 rcases this with rfl|rfl|rfl|rfl|rfl|rfl|rfl|rfl|rfl<;>decide
theorem PZ {l:List Int} (h:∀c∈l,0<=c/\c<=2):∀i,i<=ln l->i<=8->0<=vG l i/\vG l i<p2 (2*(i:Int))
 |0,_,_=>by simp[vG,p2]
 | i+1,h1,h2=>by
  have z:=PZ h i zB zB
  have u:l.getD i 0∈l:=by
   rw[zAk,zAu zB];exact zDy _
  have hc:=h _ u;have y:=gX i zB;rw[Jk,vG];generalize l.getD i 0=c,p2 (2*(i:Int))=w at *;have:c=0\/c=1\/c=2:=by omega
  rcases this with rfl|rfl|rfl<;>omega
theorem xz {n:Int} (u:0<=n) (h1:n<65536):0<=wY n 8/\wY n 8<=255:=by grind [wY]
def CM (gd:List Vw) (v:Vw):(XF (gd++[v])).map yA=(XF gd).map yA++[yA (GA v.fl v.ov),yA (wY (vG v.co (ln v.co)) 8),yA (gW (vG v.co (ln v.co)))]++v.cn.map (λn=>yA (gW n)):=by
 unfold XF F7;simp
theorem cM {l:List Vw} (h:∀v∈l,CK v):(XF l).length<=11*ln l:=by
 unfold XF
 induction l with
 |nil=>simp
 |cons v l u=>
  have h1:=u λx hx=>h x (by simp[hx])
  have h2:=(h v yE).m
  grind [XF,List.flatten_cons,List.length_append,List.length_cons,F7,List.length_map,List.length_nil]
theorem Ik (l:List Vw) (hn:ln l<=1000) (hb:∀v∈l,CK v):zO 124 [zE wE l] [] (.ref 1001 0 ((XF l).map yA).length) [(1001,.arr 1 ((XF l).map yA) true)]:=by
 have hl:=zA wE l;have X:=cM hb;refine eM call124 λF hF=>?_
 refine WW ?_;refine zW 3 1001 1 Z Z Z ?_;refine zU (l) [1001] [] [13,14] [3,15,13,14] Z (λi gd T U=>⟨(3,.ref 1001 0 ((XF gd).map yA).length)::(15,iA i)::T,(1001,.arr 1 ((XF gd).map yA) true)::U⟩) (Lq ?_ ?_)
 .intro i gd v post hx hi;have hy:=zY wE hx hi;have ar:=zX hx hi;have hv:=hb v (yQ hx);have ac:=cM (l:=gd) (λw hw=>hb w (by rw[hx];simp[hw]));have av:((XF gd).map yA).length<=11000:=by rw[f7];omega
  rw[CM];clear hx ac X;generalize (XF gd).map yA=xs at *;have ag:=zA iA v.co;have ap:=zA iA v.cn;have B:=λk hk=>PZ hv.c k hk (zBf hk hv.n)
  have Y:=hv.n;have au:=hv.m;obtain⟨fl,ov,z,W⟩:=v;dsimp only at *;rw[show wE ⟨fl,ov,z,W⟩= .agg [bA fl,bA ov,zE iA z,zE iA W]from Z]at hy;have C:=B (ln z) (zAe _);have I:=gX (ln z) Y;have L:=xz (n:=vG z (ln z)) C.1 zB
  cases fl<;>cases ov
  ·(refine WW ?_)
   refine zU (z) [5,1001] [5,1001] [3,5,6,13,14,15,28,29] [7,8,30,3,5,6,13,14,15,28,29] Z (λi gd T U=>⟨(7,iA (vG z i))::(8,iA (p2 (2*(i:Int))))::(30,iA i)::T,U⟩) (Lq ?_ ?_)
   .intro k y c A u hk;have G:=zY iA u hk;have E:=zX u hk;have O:=hv.c c (yQ u);have R:z.getD k 0=c:=by rw[u,<-hk];simp[qd]
    have M:=B k zB;have S:=gX k zB;have e1:vG z (k+1)=vG z k+c*p2 (2*(k:Int)):=by rw[vG,R]
    rw[e1,Jk];clear u B C I L e1 hv;generalize vG z k=s,p2 (2*(k:Int))=w at *;have:c=0\/c=1\/c=2:=by omega
    rcases this with rfl|rfl|rfl
    all_goals
     refine WW ?_;rfl
   .clear B hv;generalize vG z (ln z)=s at *;refine WW ?_;refine zU (W) [1001] [] [13,14,15,53,54] [3,55,13,14,15,53,54] Z (λi gd T U=>⟨(3,.ref 1001 0 (xs++[yA (GA false false),yA (wY s 8),yA (gW s)]++gd.map (λn=>yA (gW n))).length)::(55,iA i)::T,(1001,.arr 1 (xs++[yA (GA false false),yA (wY s 8),yA (gW s)]++gd.map (λn=>yA (gW n))) true)::U⟩) ?_;(conv=>whnf);refine⟨by(simp only[zBs,zA6];rfl),?_,?_⟩
    .intro k y c A u hk;have G:=zY iA u hk;have E:=zX u hk;have V:(y.map (λn=>yA (gW n))).length=k:=by rw[f7];exact hk
     rw[zAd,zBc,zBs,<-zA2];clear u;generalize y.map (λn=>yA (gW n))=zs2 at *;refine WW ?_;rfl
    ·(refine WW ?_)
     rfl
  ·(refine WW ?_)
   refine zU (z) [5,1001] [5,1001] [3,5,6,13,14,15,28,29] [7,8,30,3,5,6,13,14,15,28,29] Z (λi gd T U=>⟨(7,iA (vG z i))::(8,iA (p2 (2*(i:Int))))::(30,iA i)::T,U⟩) (Lq ?_ ?_)
   .intro k y c A u hk;have G:=zY iA u hk;have E:=zX u hk;have O:=hv.c c (yQ u);have R:z.getD k 0=c:=by rw[u,<-hk];simp[qd]
    have M:=B k zB;have S:=gX k zB;have e1:vG z (k+1)=vG z k+c*p2 (2*(k:Int)):=by rw[vG,R]
    rw[e1,Jk];clear u B C I L e1 hv;generalize vG z k=s,p2 (2*(k:Int))=w at *;have:c=0\/c=1\/c=2:=by omega
    rcases this with rfl|rfl|rfl
    all_goals
     refine WW ?_;rfl
   .clear B hv;generalize vG z (ln z)=s at *;refine WW ?_;refine zU (W) [1001] [] [13,14,15,53,54] [3,55,13,14,15,53,54] Z (λi gd T U=>⟨(3,.ref 1001 0 (xs++[yA (GA false true),yA (wY s 8),yA (gW s)]++gd.map (λn=>yA (gW n))).length)::(55,iA i)::T,(1001,.arr 1 (xs++[yA (GA false true),yA (wY s 8),yA (gW s)]++gd.map (λn=>yA (gW n))) true)::U⟩) ?_;(conv=>whnf);refine⟨by(simp only[zBs,zA6];rfl),?_,?_⟩
    .intro k y c A u hk;have G:=zY iA u hk;have E:=zX u hk;have V:(y.map (λn=>yA (gW n))).length=k:=by rw[f7];exact hk
     rw[zAd,zBc,zBs,<-zA2];clear u;generalize y.map (λn=>yA (gW n))=zs2 at *;refine WW ?_;rfl
    ·(refine WW ?_)
     rfl
  ·(refine WW ?_)
   refine zU (z) [5,1001] [5,1001] [3,5,6,13,14,15,28,29] [7,8,30,3,5,6,13,14,15,28,29] Z (λi gd T U=>⟨(7,iA (vG z i))::(8,iA (p2 (2*(i:Int))))::(30,iA i)::T,U⟩) (Lq ?_ ?_)
   .intro k y c A u hk;have G:=zY iA u hk;have E:=zX u hk;have O:=hv.c c (yQ u);have R:z.getD k 0=c:=by rw[u,<-hk];simp[qd]
    have M:=B k zB;have S:=gX k zB;have e1:vG z (k+1)=vG z k+c*p2 (2*(k:Int)):=by rw[vG,R]
    rw[e1,Jk];clear u B C I L e1 hv;generalize vG z k=s,p2 (2*(k:Int))=w at *;have:c=0\/c=1\/c=2:=by omega
    rcases this with rfl|rfl|rfl
    all_goals
     refine WW ?_;rfl
   .clear B hv;generalize vG z (ln z)=s at *;refine WW ?_;refine zU (W) [1001] [] [13,14,15,53,54] [3,55,13,14,15,53,54] Z (λi gd T U=>⟨(3,.ref 1001 0 (xs++[yA (GA true false),yA (wY s 8),yA (gW s)]++gd.map (λn=>yA (gW n))).length)::(55,iA i)::T,(1001,.arr 1 (xs++[yA (GA true false),yA (wY s 8),yA (gW s)]++gd.map (λn=>yA (gW n))) true)::U⟩) ?_;(conv=>whnf);refine⟨by(simp only[zBs,zA6];rfl),?_,?_⟩
    .intro k y c A u hk;have G:=zY iA u hk;have E:=zX u hk;have V:(y.map (λn=>yA (gW n))).length=k:=by rw[f7];exact hk
     rw[zAd,zBc,zBs,<-zA2];clear u;generalize y.map (λn=>yA (gW n))=zs2 at *;refine WW ?_;rfl
    ·(refine WW ?_)
     rfl
  ·(refine WW ?_)
   refine zU (z) [5,1001] [5,1001] [3,5,6,13,14,15,28,29] [7,8,30,3,5,6,13,14,15,28,29] Z (λi gd T U=>⟨(7,iA (vG z i))::(8,iA (p2 (2*(i:Int))))::(30,iA i)::T,U⟩) (Lq ?_ ?_)
   .intro k y c A u hk;have G:=zY iA u hk;have E:=zX u hk;have O:=hv.c c (yQ u);have R:z.getD k 0=c:=by rw[u,<-hk];simp[qd]
    have M:=B k zB;have S:=gX k zB;have e1:vG z (k+1)=vG z k+c*p2 (2*(k:Int)):=by rw[vG,R]
    rw[e1,Jk];clear u B C I L e1 hv;generalize vG z k=s,p2 (2*(k:Int))=w at *;have:c=0\/c=1\/c=2:=by omega
    rcases this with rfl|rfl|rfl
    all_goals
     refine WW ?_;rfl
   .clear B hv;generalize vG z (ln z)=s at *;refine WW ?_;refine zU (W) [1001] [] [13,14,15,53,54] [3,55,13,14,15,53,54] Z (λi gd T U=>⟨(3,.ref 1001 0 (xs++[yA (GA true true),yA (wY s 8),yA (gW s)]++gd.map (λn=>yA (gW n))).length)::(55,iA i)::T,(1001,.arr 1 (xs++[yA (GA true true),yA (wY s 8),yA (gW s)]++gd.map (λn=>yA (gW n))) true)::U⟩) ?_;(conv=>whnf);refine⟨by(simp only[zBs,zA6];rfl),?_,?_⟩
    .intro k y c A u hk;have G:=zY iA u hk;have E:=zX u hk;have V:(y.map (λn=>yA (gW n))).length=k:=by rw[f7];exact hk
     rw[zAd,zBc,zBs,<-zA2];clear u;generalize y.map (λn=>yA (gW n))=zs2 at *;refine WW ?_;rfl
    ·(refine WW ?_)
     rfl
 ·(refine WW ?_)
  exact zV [1001] Z Z Z Z
def QG {c:Int} {k:Nat} (hk:k<8) (hc:0<=c/\c<=2):IntKind.i64.wrap (c*2 ^ (min (2*(k:Int)).toNat IntKind.i64.bits))=c*p2 (2*(k:Int)):=by
 have hb:IntKind.i64.bits=64:=rfl;have h1:=gX k zB;rw[hb,show min (2*(k:Int)).toNat 64=(2*(k:Int)).toNat by omega];have h2:c=0\/c=1\/c=2:=by omega
 unfold p2 at h1;refine jX (k:= .i64) ⟨?_,?_⟩
 .show -9223372036854775808<=_
  rcases h2 with rfl|rfl|rfl<;>omega
 .show _<=9223372036854775807
  rcases h2 with rfl|rfl|rfl<;>omega
theorem Fd (l:List Vw) (hn:ln l<=1000) (hb:∀v∈l,CK v):zO 137 [zE wE l] [] (.ref 1001 0 ((XF l).map yA).length) [(1001,.arr 1 ((XF l).map yA) true)]:=by
 have hl:=zA wE l;have ac:=cM hb;refine eM call137 λF hF=>?_
 refine WW ?_;refine zW 3 1001 1 Z Z Z ?_;refine zU (l) [1001] [] [12,13] [3,14,12,13] Z (λi gd T U=>⟨(3,.ref 1001 0 ((XF gd).map yA).length)::(14,iA i)::T,(1001,.arr 1 ((XF gd).map yA) true)::U⟩) (Lq ?_ ?_)
 .intro i gd v post hx hi;have hy:=zY wE hx hi;have av:=zX hx hi;have hv:=hb v (yQ hx);have ap:=cM (l:=gd) (λw hw=>hb w (by rw[hx];simp[hw]));have az:((XF gd).map yA).length<=11000:=by rw[f7];omega
  rw[CM];clear hx ap ac;generalize (XF gd).map yA=xs at *;have ar:=zA iA v.co;have au:=zA iA v.cn;have B:=λk hk=>PZ hv.c k hk (zBf hk hv.n)
  have ag:=hv.n;have ax:=hv.m;obtain⟨fl,ov,z,Y⟩:=v;dsimp only at *;rw[show wE ⟨fl,ov,z,Y⟩= .agg [bA fl,bA ov,zE iA z,zE iA Y]from Z]at hy;have C:=B (ln z) (zAe _);have M:=gX (ln z) ag;have O:=xz (n:=vG z (ln z)) C.1 zB
  cases fl<;>cases ov
  ·(refine WW ?_)
   refine zU (z) [5,1001] [5,1001] [3,5,6,12,13,14,27,28] [7,29,3,5,6,12,13,14,27,28] Z (λi gd T U=>⟨(7,iA (vG z i))::(29,iA i)::T,U⟩) (Lq ?_ ?_)
   .intro k y c A u hk;have L:=zY iA u hk;have E:=zX u hk;have S:=hv.c c (yQ u);have V:z.getD k 0=c:=by rw[u,<-hk];simp[qd]
    have R:=B k zB;have W:=gX k zB;have e1:vG z (k+1)=vG z k+c*p2 (2*(k:Int)):=by rw[vG,V]
    rw[e1];have G:=QG (c:=0) (k:=k) zB zB;have I:=QG (c:=2) (k:=k) zB zB;clear u B C M O e1 hv;generalize vG z k=s at *;have:c=0\/c=1\/c=2:=by omega
    rcases this with rfl|rfl|rfl
    ·(refine WW ?_)
     rw[G];rfl
    ·(refine WW ?_)
     rw[zEw];rfl
    ·(refine WW ?_)
     rw[I];rfl
   .clear B hv;generalize vG z (ln z)=s at *;refine WW ?_;refine zU (Y) [1001] [] [12,13,14,52,53] [3,54,12,13,14,52,53] Z (λi gd T U=>⟨(3,.ref 1001 0 (xs++[yA (GA false false),yA (wY s 8),yA (gW s)]++gd.map (λn=>yA (gW n))).length)::(54,iA i)::T,(1001,.arr 1 (xs++[yA (GA false false),yA (wY s 8),yA (gW s)]++gd.map (λn=>yA (gW n))) true)::U⟩) ?_;(conv=>whnf);refine⟨by(simp only[zBs,zA6];rfl),?_,?_⟩
    .intro k y c A u hk;have L:=zY iA u hk;have E:=zX u hk;have X:(y.map (λn=>yA (gW n))).length=k:=by rw[f7];exact hk
     rw[zAd,zBc,zBs,<-zA2];clear u;generalize y.map (λn=>yA (gW n))=zs2 at *;refine WW ?_;rfl
    ·(refine WW ?_)
     rfl
  ·(refine WW ?_)
   refine zU (z) [5,1001] [5,1001] [3,5,6,12,13,14,27,28] [7,29,3,5,6,12,13,14,27,28] Z (λi gd T U=>⟨(7,iA (vG z i))::(29,iA i)::T,U⟩) (Lq ?_ ?_)
   .intro k y c A u hk;have L:=zY iA u hk;have E:=zX u hk;have S:=hv.c c (yQ u);have V:z.getD k 0=c:=by rw[u,<-hk];simp[qd]
    have R:=B k zB;have W:=gX k zB;have e1:vG z (k+1)=vG z k+c*p2 (2*(k:Int)):=by rw[vG,V]
    rw[e1];have G:=QG (c:=0) (k:=k) zB zB;have I:=QG (c:=2) (k:=k) zB zB;clear u B C M O e1 hv;generalize vG z k=s at *;have:c=0\/c=1\/c=2:=by omega
    rcases this with rfl|rfl|rfl
    ·(refine WW ?_)
     rw[G];rfl
    ·(refine WW ?_)
     rw[zEw];rfl
    ·(refine WW ?_)
     rw[I];rfl
   .clear B hv;generalize vG z (ln z)=s at *;refine WW ?_;refine zU (Y) [1001] [] [12,13,14,52,53] [3,54,12,13,14,52,53] Z (λi gd T U=>⟨(3,.ref 1001 0 (xs++[yA (GA false true),yA (wY s 8),yA (gW s)]++gd.map (λn=>yA (gW n))).length)::(54,iA i)::T,(1001,.arr 1 (xs++[yA (GA false true),yA (wY s 8),yA (gW s)]++gd.map (λn=>yA (gW n))) true)::U⟩) ?_;(conv=>whnf);refine⟨by(simp only[zBs,zA6];rfl),?_,?_⟩
    .intro k y c A u hk;have L:=zY iA u hk;have E:=zX u hk;have X:(y.map (λn=>yA (gW n))).length=k:=by rw[f7];exact hk
     rw[zAd,zBc,zBs,<-zA2];clear u;generalize y.map (λn=>yA (gW n))=zs2 at *;refine WW ?_;rfl
    ·(refine WW ?_)
     rfl
  ·(refine WW ?_)
   refine zU (z) [5,1001] [5,1001] [3,5,6,12,13,14,27,28] [7,29,3,5,6,12,13,14,27,28] Z (λi gd T U=>⟨(7,iA (vG z i))::(29,iA i)::T,U⟩) (Lq ?_ ?_)
   .intro k y c A u hk;have L:=zY iA u hk;have E:=zX u hk;have S:=hv.c c (yQ u);have V:z.getD k 0=c:=by rw[u,<-hk];simp[qd]
    have R:=B k zB;have W:=gX k zB;have e1:vG z (k+1)=vG z k+c*p2 (2*(k:Int)):=by rw[vG,V]
    rw[e1];have G:=QG (c:=0) (k:=k) zB zB;have I:=QG (c:=2) (k:=k) zB zB;clear u B C M O e1 hv;generalize vG z k=s at *;have:c=0\/c=1\/c=2:=by omega
    rcases this with rfl|rfl|rfl
    ·(refine WW ?_)
     rw[G];rfl
    ·(refine WW ?_)
     rw[zEw];rfl
    ·(refine WW ?_)
     rw[I];rfl
   .clear B hv;generalize vG z (ln z)=s at *;refine WW ?_;refine zU (Y) [1001] [] [12,13,14,52,53] [3,54,12,13,14,52,53] Z (λi gd T U=>⟨(3,.ref 1001 0 (xs++[yA (GA true false),yA (wY s 8),yA (gW s)]++gd.map (λn=>yA (gW n))).length)::(54,iA i)::T,(1001,.arr 1 (xs++[yA (GA true false),yA (wY s 8),yA (gW s)]++gd.map (λn=>yA (gW n))) true)::U⟩) ?_;(conv=>whnf);refine⟨by(simp only[zBs,zA6];rfl),?_,?_⟩
    .intro k y c A u hk;have L:=zY iA u hk;have E:=zX u hk;have X:(y.map (λn=>yA (gW n))).length=k:=by rw[f7];exact hk
     rw[zAd,zBc,zBs,<-zA2];clear u;generalize y.map (λn=>yA (gW n))=zs2 at *;refine WW ?_;rfl
    ·(refine WW ?_)
     rfl
  ·(refine WW ?_)
   refine zU (z) [5,1001] [5,1001] [3,5,6,12,13,14,27,28] [7,29,3,5,6,12,13,14,27,28] Z (λi gd T U=>⟨(7,iA (vG z i))::(29,iA i)::T,U⟩) (Lq ?_ ?_)
   .intro k y c A u hk;have L:=zY iA u hk;have E:=zX u hk;have S:=hv.c c (yQ u);have V:z.getD k 0=c:=by rw[u,<-hk];simp[qd]
    have R:=B k zB;have W:=gX k zB;have e1:vG z (k+1)=vG z k+c*p2 (2*(k:Int)):=by rw[vG,V]
    rw[e1];have G:=QG (c:=0) (k:=k) zB zB;have I:=QG (c:=2) (k:=k) zB zB;clear u B C M O e1 hv;generalize vG z k=s at *;have:c=0\/c=1\/c=2:=by omega
    rcases this with rfl|rfl|rfl
    ·(refine WW ?_)
     rw[G];rfl
    ·(refine WW ?_)
     rw[zEw];rfl
    ·(refine WW ?_)
     rw[I];rfl
   .clear B hv;generalize vG z (ln z)=s at *;refine WW ?_;refine zU (Y) [1001] [] [12,13,14,52,53] [3,54,12,13,14,52,53] Z (λi gd T U=>⟨(3,.ref 1001 0 (xs++[yA (GA true true),yA (wY s 8),yA (gW s)]++gd.map (λn=>yA (gW n))).length)::(54,iA i)::T,(1001,.arr 1 (xs++[yA (GA true true),yA (wY s 8),yA (gW s)]++gd.map (λn=>yA (gW n))) true)::U⟩) ?_;(conv=>whnf);refine⟨by(simp only[zBs,zA6];rfl),?_,?_⟩
    .intro k y c A u hk;have L:=zY iA u hk;have E:=zX u hk;have X:(y.map (λn=>yA (gW n))).length=k:=by rw[f7];exact hk
     rw[zAd,zBc,zBs,<-zA2];clear u;generalize y.map (λn=>yA (gW n))=zs2 at *;refine WW ?_;rfl
    ·(refine WW ?_)
     rfl
 ·(refine WW ?_)
  exact zV [1001] Z Z Z Z
def G8 (g:Lg) (w:Vw):Int:=if 0<=g.ph/\g.ph<(ln w.co:Int)then(if w.ov=true/\w.fl=false/\w.co.getD g.ph.toNat dd=1 then 3 else 2)else 1
def jg (g:Lg) (v:List Vw) (ga:Int):Int:=if BK g ga=true/\0<=g.jn/\g.jn<(ln v:Int)then G8 g (v.getD g.jn.toNat dd)else 1
theorem qb (g:Lg) (v:List Vw) (ga:Int):1<=jg g v ga/\jg g v ga<=3:=by grind [jg,G8]
theorem CN (g:Lg) (v:List Vw) (ga:Int) {Q:Int->Prop} (u:BK g ga=false->Q 1) (B:BK g ga=true->g.jn<0->Q 1) (C:BK g ga=true->0<=g.jn->(ln v:Int)<=g.jn->Q 1)
  (q4:∀w,BK g ga=true->0<=g.jn->g.jn<(ln v:Int)->(v.map wE)[g.jn.toNat]? =some (wE w)->g.ph<0->Q 1)
  (E:∀w,BK g ga=true->0<=g.jn->g.jn<(ln v:Int)->(v.map wE)[g.jn.toNat]? =some (wE w)->0<=g.ph->(ln w.co:Int)<=g.ph->Q 1)
  (G:∀w c,BK g ga=true->0<=g.jn->g.jn<(ln v:Int)->(v.map wE)[g.jn.toNat]? =some (wE w)->0<=g.ph->g.ph<(ln w.co:Int)->(w.co.map iA)[g.ph.toNat]? =some (iA c)->Q (if w.ov=true/\w.fl=false/\c=1 then 3 else 2)):Q (jg g v ga):=by
 unfold jg
 cases hl:BK g ga with
 |false=>rw[hW (λh=>by cases h.1)];exact u hl
 |true=>
  by_cases j0:g.jn<0
  .grind
  by_cases j1:(ln v:Int)<=g.jn
  .grind
  have y:=yC wE v g.jn zB zB;rw[Os ⟨rfl,zB,zB⟩];generalize v.getD g.jn.toNat dd=w at *;unfold G8;by_cases z:g.ph<0
  .grind
  by_cases A:(ln w.co:Int)<=g.ph
  .grind
  simp_all [BK,q4,wE,iA,jg]
def wz (g:Lg) (v:List Vw) (ga:Int) (R:ln v<=1000) (hb:∀w∈v,ln w.co<=1000):zO 232 [xK g,zE wE v,iA ga] [] (iA (jg g v ga)) []:=by
 have u:=o0 g ga;have M:=zA wE v;have hb:∀w,(v.map wE)[g.jn.toNat]? =some (wE w)->(w.co.map iA).length=ln w.co:=λw _=>zA iA w.co
 unfold xK at *;refine CN (Q:=λr=>zO 232 [.agg [iA g.jn,iA g.ph,iA g.fr,iA g.to,iA g.sc],zE wE v,iA ga] [] (iA r) []) g v ga (λh1=>?_) (λh1 h2=>?_) (λh1 h2 A=>?_) (λw h1 h2 A y I=>?_) (λw h1 h2 A y I L=>?_) (λw c h1 h2 A y I L O=>?_)
 .rw[h1]at u;refine eM call232 λF hF=>?_
  exact nl u
 .rw[h1]at u;refine eM call232 λF hF=>?_
  exact nl u
 .rw[h1]at u;refine eM call232 λF hF=>?_
  exact nl u
 .rw[h1]at u;unfold wE at y;refine eM call232 λF hF=>?_
  exact nl u
 .rw[h1]at u;have B:=hb w y;unfold wE zE at y;refine eM call232 λF hF=>?_
  exact nl u
 .rw[h1]at u;have B:=hb w y;clear hb;obtain⟨fl,C,G,E⟩:=w;rw[show wE ⟨fl,C,G,E⟩= .agg [bA fl,bA C,zE iA G,zE iA E]from Z]at y;dsimp only at *;cases C
  ·(refine eM call232 λF hF=>?_)
   exact nl u
  cases fl
  case true=>
   refine eM call232 λF hF=>?_
   exact nl u
  by_cases z:c=1
  .rw[Os ⟨rfl,rfl,z⟩];refine eM call232 λF hF=>?_
   exact nl u
  .rw[hW (λh=>z h.2.2)];refine eM call232 λF hF=>?_
   exact nl u
def Us (g:Lg) (v:List Vw) (ga:Int) (R:ln v<=1000) (hb:∀w∈v,ln w.co<=1000):zO 200 [xK g,zE wE v,iA ga] [] (iA (jg g v ga)) []:=by
 have u:=Ye g ga;have M:=zA wE v;have hb:∀w,(v.map wE)[g.jn.toNat]? =some (wE w)->(w.co.map iA).length=ln w.co:=λw _=>zA iA w.co
 unfold xK at *;refine CN (Q:=λr=>zO 200 [.agg [iA g.jn,iA g.ph,iA g.fr,iA g.to,iA g.sc],zE wE v,iA ga] [] (iA r) []) g v ga (λh1=>?_) (λh1 h2=>?_) (λh1 h2 A=>?_) (λw h1 h2 A y I=>?_) (λw h1 h2 A y I L=>?_) (λw c h1 h2 A y I L O=>?_)
 .rw[h1]at u;refine eM call200 λF hF=>?_
  exact nl u
 .rw[h1]at u;refine eM call200 λF hF=>?_
  exact nl u
 .rw[h1]at u;refine eM call200 λF hF=>?_
  exact nl u
 .rw[h1]at u;unfold wE at y;refine eM call200 λF hF=>?_
  exact nl u
 .rw[h1]at u;have B:=hb w y;unfold wE zE at y;refine eM call200 λF hF=>?_
  exact nl u
 .rw[h1]at u;have B:=hb w y;clear hb;obtain⟨fl,C,G,E⟩:=w;rw[show wE ⟨fl,C,G,E⟩= .agg [bA fl,bA C,zE iA G,zE iA E]from Z]at y;dsimp only at *;cases C
  ·(refine eM call200 λF hF=>?_)
   exact nl u
  cases fl
  case true=>
   refine eM call200 λF hF=>?_
   exact nl u
  by_cases z:c=1
  .rw[Os ⟨rfl,rfl,z⟩];refine eM call200 λF hF=>?_
   exact nl u
  .rw[hW (λh=>z h.2.2)];refine eM call200 λF hF=>?_
   exact nl u
def fb (l:List Rq) (v:List Vw) (ga:Int) (i:Nat):Int:=if i/3<ln l/\i % 3<(l.getD (i/3) dd).legs.length then jg ((l.getD (i/3) dd).legs.getD (i % 3) dd) v ga else 0
def UR (l:List Rq) (v:List Vw) (ga:Int) (n:Nat):List Int:=(pi n).map (fb l v ga)
def CO (l:List Rq) (v:List Vw) (ga:Int) (N i:Nat):List Int:=(pi N).map λj=>if j<i then fb l v ga j else 0
def Ed (l:List Rq) (v:List Vw) (ga:Int) (N i:Nat):(CO l v ga N i).length=N:=by simp[CO]
def Hk (l:List Rq) (v:List Vw) (ga:Int) (N:Nat):(CO l v ga N 0).map yA=pg N (yA 0):=by
 apply zBe;intro j;unfold CO;rw[zAh,zAh,zC5];by_cases hj:j<N
 .rw[zB2 hj,Os hj];simp
 .rw[zBj qM,hW hj];rfl
def ab (l:List Rq) (v:List Vw) (ga:Int) (N k j:Nat):((CO l v ga N k).map yA)[j]? =if j<N then some (yA (if j<k then fb l v ga j else 0))else none:=by
 unfold CO;rw[zAh,zAh];by_cases hj:j<N
 .rw[zB2 hj,Os hj];rfl
 .rw[zBj qM,hW hj];rfl
def Gk (l:List Rq) (v:List Vw) (ga:Int) (N i:Nat) (hi:i<N):(CO l v ga N (i+1)).map yA=((CO l v ga N i).map yA).set i (yA (fb l v ga i)):=by
 apply zBe;intro j;rw[zDu,ab,ab,f7,Ed];by_cases u:i=j
 .subst u;rw[Os hi,Os Z,Os hi,Os (Nat.lt_succ_self i)]
 .rw[hW u];by_cases hj:j<N
  .rw[Os hj,Os hj];by_cases h2:j<i
   .rw[Os zB,Os h2]
   .rw[hW zB,hW h2]
  .rw[hW hj,hW hj]
def Ts (l:List Rq) (v:List Vw) (ga:Int) (N:Nat):CO l v ga N N=UR l v ga N:=by
 unfold CO UR;apply List.map_congr_left;intro j hj;rw[Os (zAw.1 hj)]
def Fk (l:List Rq) (v:List Vw) (ga:Int) (n:Nat):(UR l v ga (n+1)).map yA=(UR l v ga n).map yA++[yA (fb l v ga n)]:=by
 unfold UR;rw[zB4];simp
theorem Rs (l:List Rq) (q:Nat) (v:List Vw) (ga:Int) (hq:q<=1000) (hl:ln l<=1000) (C:∀r∈l,ln r.legs<=1000) (S:ln v<=1000) (hb:∀w∈v,ln w.co<=1000):
  zO 182 [zE yS l,iA q,zE wE v,iA ga] [] (zE yA (UR l v ga (q*3))) []:=by
 have R:=zA yS l;by_cases G:q=0
 .subst G;refine eM call182 λF hF=>?_
  exact mx
 have B:=Hk l v ga (q*3);have X:=zA wE v;refine eM call182 λF hF=>?_
 refine WW ?_;have L:q*3<=3000:=by omega
 generalize q*3=N at *;refine zM (N) [21] [] [0,2,3,9,23] [24,0,2,3,9,23] Z (λi T U=>⟨(24,iA i)::T,(21,.arr 1 ((CO l v ga N i).map yA) false)::U⟩) ?_;(conv=>whnf);refine⟨by(rw[B];rfl),?_,?_⟩
 .intro i hi;have W:(i:Int).tdiv 3=((i/3:Nat):Int):=by rw[zCc zB];omega
  have hk:(i:Int).tmod 3=((i % 3:Nat):Int):=by rw[zBi zB];omega
  have O:bZ .i64 ((i:Int).tdiv 3):=⟨by show -9223372036854775808<=_;omega,by show _<=9223372036854775807;omega⟩;have V:((CO l v ga N i).map yA).length=N:=by rw[f7,Ed]
  have e:=Gk l v ga N i hi;rw[e];have ap:((CO l v ga N i).map yA)[i]? =some (yA (if i<i then fb l v ga i else 0)):=by rw[ab,Os hi]
  have A:∀y:AV,(((CO l v ga N i).map yA).set i y)[i]? =some y:=λy=>zBy zB
  by_cases hr1:i/3<ln l
  .have hy:(l.map yS)[((i:Int).tdiv 3).toNat]? =some (yS (l.getD (i/3) dd)):=by rw[W];exact zJ yS l _ hr1
   have Y:(l.getD (i/3) dd).legs.length<=1000:=C _ bw;have ac:=zA xK (l.getD (i/3) dd).legs
   have z:fb l v ga i=if i % 3<(l.getD (i/3) dd).legs.length then jg ((l.getD (i/3) dd).legs.getD (i % 3) dd) v ga else 0:=by
    unfold fb;by_cases h:i % 3<(l.getD (i/3) dd).legs.length
    .rw[Os ⟨hr1,h⟩,Os h]
    .rw[hW (λI=>h I.2),hW h]
   rw[z];clear e z B;generalize l.getD (i/3) dd=x at *;unfold yS zE at hy;by_cases u:i % 3<ln x.legs
   .have ag:(x.legs.map xK)[((i:Int).tmod 3).toNat]? =some (xK (x.legs.getD (i % 3) dd)):=by rw[hk];exact zJ xK x.legs _ u
    have E:=wz (x.legs.getD (i % 3) dd) v ga S hb;have M:=qb (x.legs.getD (i % 3) dd) v ga;rw[Os u];generalize jg (x.legs.getD (i % 3) dd) v ga=c at *;generalize x.legs.getD (i % 3) dd=g at *;generalize (CO l v ga N i).map yA=xs at*
    (have gt:=E;(repeat' (first|refine WTR ?_|apply yY|apply xN|intro hc|(apply zG;first|(apply cS;refine qn tok Z Z Z (A _) Z Z Z Z Z Z Z Z ?_)|refine SM ?_)|refine SB ?_|fail))<;>clear gt)
    refine zAt (St.mk _) ?_
    show [(21,xM.arr 1 ((xs.set i _).set i _) _)]=_
    rw[zEp];rfl
   .rw[hW u];generalize (CO l v ga N i).map yA=xs at *;refine WW ?_;rfl
  .have z:fb l v ga i=0:=by unfold fb;rw[hW (λh=>hr1 h.1)]
   rw[z];clear e z B;generalize (CO l v ga N i).map yA=xs at *;refine WW ?_;rfl
 .rw[Ts];refine WW ?_;refine zH [] Z Z ?_ Z;exact zAt (AV.sl false) (zAl (by simp[UR]))
def Ek (l:List Rq) (q:Nat) (v:List Vw) (ga:Int) (V:q<=1000) (hl:ln l<=1000) (z:∀r∈l,ln r.legs<=1000) (L:ln v<=1000) (hb:∀w∈v,ln w.co<=1000):
  zO 139 [zE yS l,iA q,zE wE v,iA ga] [] (zE yA (UR l v ga (q*3))) []:=by
 have G:=zA yS l;refine eM call139 λF hF=>?_
 refine WW ?_;refine zW 9 1001 1 Z Z Z ?_;refine zM (q) [1001] [] [0,2,3,13] [9,14,0,2,3,13] Z (λi T U=>⟨(9,.ref 1001 0 ((UR l v ga (i*3)).map yA).length)::(14,iA i)::T,(1001,.arr 1 ((UR l v ga (i*3)).map yA) true)::U⟩) (Lq ?_ ?_)
 .intro r W;refine WW ?_;refine zM (3) [1001] [] [0,2,3,10,13,14] [9,17,0,2,3,10,13,14] Z (λi T U=>⟨(9,.ref 1001 0 ((UR l v ga (r*3+i)).map yA).length)::(17,iA i)::T,(1001,.arr 1 ((UR l v ga (r*3+i)).map yA) true)::U⟩) (Lq ?_ ?_)
  .intro k hk;have e:=Fk l v ga (r*3+k);have M:((UR l v ga (r*3+k)).map yA).length<=4000:=by simp[UR];omega
   rw[show r*3+(k+1)=r*3+k+1 from Z,e];have e3:(r*3+k)/3=r:=by omega
   have B:(r*3+k) % 3=k:=by omega
   by_cases hr1:r<ln l
   .have R:=zJ yS l r hr1;have I:(l.getD r dd).legs.length<=1000:=z _ bw
    have y:fb l v ga (r*3+k)=if k<(l.getD r dd).legs.length then jg ((l.getD r dd).legs.getD k dd) v ga else 0:=by
     unfold fb;rw[e3,B];by_cases h:k<(l.getD r dd).legs.length
     .rw[Os ⟨hr1,h⟩,Os h]
     .rw[hW (λC=>h C.2),hW h]
    rw[y];clear e y;generalize l.getD r dd=x at *;have O:=zA xK x.legs;unfold yS zE at R;by_cases u:k<ln x.legs
    .have S:=zJ xK x.legs k u;have A:=Us (x.legs.getD k dd) v ga L hb;have E:=qb (x.legs.getD k dd) v ga;rw[Os u];generalize jg (x.legs.getD k dd) v ga=c at *;generalize x.legs.getD k dd=g at *;generalize (UR l v ga (r*3+k)).map yA=xs at *;refine zP A ?_;rfl
    .rw[hW u];generalize (UR l v ga (r*3+k)).map yA=xs at *;refine WW ?_;rfl
   .have y:fb l v ga (r*3+k)=0:=by unfold fb;rw[hW (λh=>hr1 zB)]
    rw[y];clear e y;generalize (UR l v ga (r*3+k)).map yA=xs at *;refine WW ?_;rfl
  .rw[show r*3+3=(r+1)*3 by omega];refine WW ?_;rfl
 ·(refine WW ?_)
  refine zH [] Z Z ?_ Z;exact zAt (AV.sl false) zAa
def Qs (ga:Int) (v:List Vw) (b:List Int):Ms:=⟨17,[],[ga],XF v++b⟩
def vz (ga:Int) (v:List Vw) (b:List Int) (y:ln v<=1000) (hb:∀w∈v,CK w) (hl:ln b<=10000):zO 183 [iA ga,zE wE v,zE yA b] [] (yO (Qs ga v b)) []:=by
 have B:=Ik v y hb;have h1:=cM hb;have A:=zA yA (XF v);have u:=zA yA b;rw[show yO (Qs ga v b)= .agg [iA 17,.sl false [],.sl false [iA ga],.sl false ((XF v).map yA++b.map yA)] by unfold Qs yO zE;rw[zAd];rfl];generalize (XF v).map yA=xs at *;refine eM call183 λF hF=>?_
 refine VR B ?_;refine zH [] Z Z ?_ Z;exact zAt (λz=>AV.agg [iA 17,AV.sl false [],AV.sl false [iA ga],AV.sl false z]) zAa
def Ps (ga:Int) (v:List Vw) (b:List Int) (y:ln v<=1000) (hb:∀w∈v,CK w) (hl:ln b<=10000):zO 138 [iA ga,zE wE v,zE yA b] [] (yO (Qs ga v b)) []:=by
 have B:=Fd v y hb;have h1:=cM hb;have A:=zA yA (XF v);have u:=zA yA b;rw[show yO (Qs ga v b)= .agg [iA 17,.sl false [],.sl false [iA ga],.sl false ((XF v).map yA++b.map yA)] by unfold Qs yO zE;rw[zAd];rfl];generalize (XF v).map yA=xs at *;refine eM call138 λF hF=>?_
 refine VR B ?_;refine zH [] Z Z ?_ Z;exact zAt (λz=>AV.agg [iA 17,AV.sl false [],AV.sl false [iA ga],AV.sl false z]) zAa
def LW (d:xU) (v:List Vw) (ga:Int):Ms:=Qs ga v (UR d.rq v ga (d.rg.ag.req.toNat*3))
def Ck (d:xU) (hd:cY d) (B:0<=d.rg.ag.req/\d.rg.ag.req<=4) (v:List Vw) (ga:Int) (y:ln v<=1000) (hb:∀w∈v,CK w):zO 120 [zN d,zE wE v,iA ga] [] (yO (LW d v ga)) []:=by
 have u:=Rs d.rq d.rg.ag.req.toNat v ga zB hd.q hd.g y (λw A=>zBf (hb w A).n xG);rw[show((d.rg.ag.req.toNat:Nat):Int)=d.rg.ag.req by omega]at u;have z:=vz ga v (UR d.rq v ga (d.rg.ag.req.toNat*3)) y hb (by simp[UR];omega);unfold LW;generalize UR d.rq v ga (d.rg.ag.req.toNat*3)=cs at *;unfold yO at *;unfold zN wG;generalize XF v=C at *;refine eM call120 λF hF=>?_
 exact ng (xH u z)
def fg (d:xU) (hd:cY d) (B:0<=d.rg.ag.req/\d.rg.ag.req<=4) (v:List Vw) (ga:Int) (y:ln v<=1000) (hb:∀w∈v,CK w):zO 61 [zN d,zE wE v,iA ga] [] (yO (LW d v ga)) []:=by
 have u:=Ek d.rq d.rg.ag.req.toNat v ga zB hd.q hd.g y (λw A=>zBf (hb w A).n xG);rw[show((d.rg.ag.req.toNat:Nat):Int)=d.rg.ag.req by omega]at u;have z:=Ps ga v (UR d.rq v ga (d.rg.ag.req.toNat*3)) y hb (by simp[UR];omega);unfold LW;generalize UR d.rq v ga (d.rg.ag.req.toNat*3)=cs at *;unfold yO at *;unfold zN wG;generalize XF v=C at *;refine eM call61 λF hF=>?_
 exact ng (xH u z)
def WU (n:Nat):Vw:=⟨true,false,pg n 0,pg n 0⟩
def m5 {n:Nat} (h:n<=8):CK (WU n):=⟨by simp[WU];exact h,by simp[WU];exact h,λc hc=>by
 have:=(zD1.1 hc).2
 omega⟩
def Ns (j:Jn) (h:ln j.ph<=8):zO 76 [xC j] [] (wE (WU (ln j.ph))) []:=by
 have hl:=zA yU j.ph;have u:∀n,(pg n (0:Int)).map iA=pg n (iA 0):=λn=>by simp
 rw[show wE (WU (ln j.ph))= .agg [bA true,bA false,.sl false (pg (ln j.ph) (iA 0)),.sl false (pg (ln j.ph) (iA 0))] by unfold WU wE zE;rw[u]];rw[<-hl];unfold xC zE;generalize j.ph.map yU=P at *;refine eM call76 λF hF=>?_
 refine WW ?_;refine zH [] Z Z ?_ Z
 show AV.agg [bA true,bA false,.sl false (py (ln P) (p5 0 (pg (ln P) (iA 0)))),.sl false (py (ln P) (p5 0 (pg (ln P) (iA 0))))]=_
 rw[zAr,zAl yE]
structure Li where
 lamp:Int
 tk:Int
structure Ct where
 li:List Li
 gr:Int
 nx:List Int
 wt:Int
variable {c:Ct}
instance:Inhabited Li:=⟨⟨0,0⟩⟩
def yX (l:Li):AV:= .agg [iA l.lamp,iA l.tk]
def LK (c:Ct):AV:= .agg [zE yX c.li,iA c.gr,zE iA c.nx,iA c.wt]
def vM (u:List Int) (p q:Int):Bool:=decide (0<=p/\0<=q/\p<ln u/\q<ln u)&&(uX (wY (u.getD p.toNat dd) q) 1==1)
def Dd (p:Ph):Int:=max p.ming (p.walk+p.clear)
def CP (p:Ph) (l:Li) (lv:Bool):Li:=
 if l.lamp=1 then(if lv=true/\Dd p<=l.tk+1 then⟨2,0⟩else⟨1,min (l.tk+1) 1073741824⟩)
 else if l.lamp=2 then(if l.tk+1<p.yel then⟨2,l.tk+1⟩else if p.red=0 then⟨0,0⟩else⟨3,0⟩)
 else if l.lamp=3 then(if l.tk+1<p.red then⟨3,l.tk+1⟩else⟨0,0⟩)
 else l
def AW (p:Ph) (l:Li):Bool:=if l.lamp=0 then decide (l.tk=0)else if l.lamp=1 then decide (0<=l.tk/\l.tk<=1073741824)else if l.lamp=2 then decide (0<=l.tk/\l.tk<p.yel)else if l.lamp=3 then decide (0<=l.tk/\l.tk<p.red)else false
def zS (j:Jn) (p:Nat):Ph:=j.ph.getD p dd
def xI (c:Ct) (p:Nat):Li:=c.li.getD p dd
def CQ (j:Jn) (r g p:Int):Prop:=0<=p/\p<ln j.ph/\(zS j p.toNat).ring=r/\(zS j p.toNat).group=g
def AX (u:List Ph):Nat->Int
 |0=>0
 |i+1=>max (AX u i) ((u.getD i dd).group+1)
def gF (j:Jn):Int:=AX j.ph (ln j.ph)
theorem Ak (u:List Ph) (n:Nat):∀i,i<n->(u.getD i dd).group+1<=AX u n:=by
 induction n with
 |zero=>intro i h;exact absurd h (zBa _)
 |succ n y=>
  grind [AX]
def LL (j:Jn) (r:Int) (i:Nat):List Nat:=(pi i).filter λp=>(zS j p).ring==r
def PA (j:Jn) (r:Int):List Nat:=LL j r (ln j.ph)
theorem cN {r:Int} :p∈PA j r↔p<ln j.ph/\(zS j p).ring=r:=by grind [PA,zS,LL]
def kS (j:Jn) (r g f:Int):Int:=match (PA j r).find? (λp:Nat=>decide (f<=(p:Int))&&(zS j p).group==g)with
 |some p=>p
 |none=> -1
theorem CR (j:Jn) (r g f:Int):kS j r g f= -1\/CQ j r g (kS j r g f)/\f<=kS j r g f:=by
 unfold kS;split
 .rename_i p h;have h1:=List.find?_some h;have h2:=cN.1 (zE9 h)
  grind [kS,CQ]
 .exact .inl Z
def QH (j:Jn) (c:Ct) (g:Int):Ct:=⟨c.li,g,[kS j 0 g 0,kS j 1 g 0],c.wt⟩
def dG (j:Jn) (c:Ct) (p:Int):Bool:=(pi (ln c.li)).any λq=>(xI c q).lamp != 0&&vM j.cf p q
def CS (c:Ct) (p:Nat):Ct:=⟨c.li.set p ⟨1,0⟩,c.gr,c.nx,c.wt⟩
def MF (j:Jn) (c:Ct) (p:Nat):Ct:=if c.gr=(zS j p).group then CS c p else QH j (CS c p) (zS j p).group
def vV (j:Jn) (c:Ct) (p:Nat):Ct:=
 if dG j c p=true then c
 else⟨(MF j c p).li,(MF j c p).gr,(MF j c p).nx.set (zS j p).ring.toNat (kS j (zS j p).ring (zS j p).group (p+1)),(MF j c p).wt⟩
def WV (j:Jn) (c:Ct) (r:Int):Bool:=(PA j r).all λp=>(xI c p).lamp==0
def FV (j:Jn) (x r t:Int):Int:=match (PA j r).find? (λp:Nat=>!vM j.cf p t&&decide (x≠ -1/\x<=(p:Int)))with
 |some p=>p
 |none=>match (PA j r).find? (λp:Nat=>!vM j.cf p t)with
  |some p=>p
  |none=> -1
def aR (j:Jn) (c:Ct) (r:Int) (t:Nat):Int:=if r=(zS j t).ring then t else FV j (c.nx.getD r.toNat dd) r t
def kK (j:Jn) (t:Nat) (c:Ct) (r:Int):Ct:=if WV j c r=true then(if aR j c r t= -1 then c else vV j c (aR j c r t).toNat)else c
def AY (c:Ct):Bool:=c.li.all λl=>l.lamp==0
def Fh (c:Ct):Bool:=AY c&&c.nx.all λp=>p== -1
def vH (j:Jn) (c:Ct) (r:Int):Ct:=if WV j c r=true/\c.nx.getD r.toNat dd≠ -1 then vV j c (c.nx.getD r.toNat dd).toNat else c
def AZ (j:Jn) (c:Ct):Ct:=vH j (vH j (if Fh c=true then QH j c ((c.gr+1) % gF j)else c) 0) 1
def ZO (j:Jn) (t:Int):Bool:=decide (0<=t/\t<ln j.ph)
def GB (j:Jn) (c:Ct) (t:Int) (p:Nat):Bool:=
 if ZO j t=true then decide ((p:Int)≠t)&&(decide ((zS j p).maxg<=(xI c p).tk+1)||vM j.cf p t)else decide ((zS j p).maxg<=(xI c p).tk+1)
def US (j:Jn) (c:Ct) (t:Int):List Li:=(pi (ln j.ph)).map λp=>CP (zS j p) (xI c p) (GB j c t p)
def GC (j:Jn) (c:Ct) (t:Int):Ct:=
 if 0<c.wt then⟨c.li,c.gr,c.nx,c.wt-1⟩
 else if ZO j t=true then kK j t.toNat (kK j t.toNat ⟨US j c t,c.gr,c.nx,c.wt⟩ 0) 1
 else AZ j ⟨US j c t,c.gr,c.nx,c.wt⟩
structure JV (j:Jn):Prop where
 n:1<=j.ph.length/\j.ph.length<=8
 c:j.cf.length=j.ph.length
 row:∀i,i<j.ph.length->0<=j.cf.getD i default/\j.cf.getD i default<2 ^ j.ph.length
 ir:∀p:Nat,p<j.ph.length->vM j.cf p p=false
 sy:∀p q:Nat,p<j.ph.length->q<j.ph.length->vM j.cf p q=vM j.cf q p
 ap:∀p q:Nat,p<j.ph.length->q<j.ph.length->p≠q->(zS j p).ring=(zS j q).ring\/(zS j p).group≠(zS j q).group->vM j.cf p q=true
 rg:∀p:Nat,p<j.ph.length->0<=(zS j p).ring/\(zS j p).ring<=1
 gp:∀p:Nat,p<j.ph.length->0<=(zS j p).group/\(zS j p).group<=3
 ti:∀p:Nat,p<j.ph.length->1<=(zS j p).ming/\(zS j p).ming<=(zS j p).maxg/\(zS j p).maxg<=60/\1<=(zS j p).yel/\(zS j p).yel<=60/\0<=(zS j p).red/\(zS j p).red<=60/\0<=(zS j p).walk/\(zS j p).walk<=60/\0<=(zS j p).clear/\(zS j p).clear<=60/\(zS j p).walk+(zS j p).clear<=(zS j p).maxg/\((zS j p).walk=0↔(zS j p).clear=0)
 lo:∀p:Nat,p<j.ph.length->∀g:Int,0<=g->g<(zS j p).group->∃q:Nat,q<j.ph.length/\(zS j q).group=g
 st:0<=j.st/\j.st<=60
structure CV (j:Jn) (c:Ct):Prop where
 n:c.li.length=j.ph.length
 k:∀p,p<j.ph.length->AW (zS j p) (xI c p)=true
 x:∀p q:Nat,p<j.ph.length->q<j.ph.length->p≠q->(xI c p).lamp≠0->(xI c q).lamp≠0->vM j.cf p q=false
 g:0<=c.gr/\c.gr<gF j
 m:c.nx.length=2
 v:∀r:Nat,r<2->c.nx.getD r default= -1\/CQ j r c.gr (c.nx.getD r default)
 w:0<=c.wt/\c.wt<=j.st
 z:c.wt=0\/∀p,p<j.ph.length->(xI c p).lamp=0
theorem OA (J:JV j):1<=gF j:=by
 have h1:=Ak j.ph (ln j.ph) 0 JC;have h2:=J.gp 0 JC
 grind [gF,zS]
theorem Uw (j:Jn) (c:Ct) (g:Int):∀r:Nat,r<2->(QH j c g).nx.getD r dd= -1\/CQ j r g ((QH j c g).nx.getD r dd):=by
 intro r u;have:r=0\/r=1:=by omega
 grind [QH,CQ,CR]
def CT (C:CV j c) {g:Int} (u:0<=g/\g<gF j):CV j (QH j c g):=
 ⟨C.n,C.k,C.x,u,rfl,Uw j c g,C.w,C.z⟩
theorem Ls (c:Ct) (p q:Nat) (l:Li) (u:Int) (nx:List Int) (y:Int) (z:p<ln c.li):xI ⟨c.li.set p l,u,nx,y⟩ q=if q=p then l else xI c q:=by grind [nx,xI]
def Z5 (J:JV j) (C:CV j c) (E:c.wt=0) (I:p<ln j.ph) (hk:dG j c p=false):CV j (CS c p):=by
 have hl:=C.n
 have B:∀q,xI (CS c p) q=if q=p then⟨1,0⟩else xI c q:=λq=>Ls c p q _ _ _ _ zB
 unfold dG at hk;rw[zCs]at hk
 have hc:∀q:Nat,q<ln j.ph->(xI c q).lamp≠0->vM j.cf p q=false:=λq u G=>by
  grind
 refine⟨by unfold CS;simpa using hl,λq u=>?_,λq r u A y h1 h2=>?_,C.g,C.m,C.v,C.w,.inl E⟩
 .rw[B];split
  .rfl
  .exact C.k q u
 .rw[B]at h1 h2;by_cases e1:q=p
  .grind
  .rw[hW e1]at h1;by_cases z:r=p
   .subst z;rw[J.sy q r u A];exact hc q u h1
   .rw[hW z]at h2;exact C.x q r u A y h1 h2
def Y5 (J:JV j) (C:CV j c) (u:c.wt=0) (y:p<ln j.ph) (hk:dG j c p=false):CV j (MF j c p)/\(MF j c p).gr=(zS j p).group/\(MF j c p).wt=0:=by
 have h1:=Z5 J C u y hk;unfold MF;split
 .rename_i h;exact⟨h1,h,u⟩
 .have z:=J.gp p y;have:=Ak j.ph (ln j.ph) p y;exact⟨CT h1 ⟨z.1,by unfold gF;unfold zS;omega⟩,rfl,u⟩
theorem Tw (J:JV j) (C:CV j c) (y:c.wt=0) (A:p<ln j.ph):CV j (vV j c p)/\(vV j c p).wt=0:=by
 unfold vV;split
 .exact⟨C,y⟩
 .rename_i hk;obtain⟨B,G,E⟩:=Y5 J C y A (by simpa using hk);have I:=J.rg p A;refine⟨⟨B.n,B.k,B.x,B.g,by rw[zBn];exact B.m,λr u=>?_,B.w,B.z⟩,E⟩;have L:=CR j (zS j p).ring (zS j p).group (p+1);generalize kS j (zS j p).ring (zS j p).group (p+1)=f at *;dsimp only
  have e:((MF j c p).nx.set (zS j p).ring.toNat f).getD r dd=if r=(zS j p).ring.toNat then f else(MF j c p).nx.getD r dd:=by
   simp only[zAk,zDu];split
   .rename_i h;subst h;rw[Os Z,B.m,Os u];rfl
   all_goals grind
  rw[e];split
  .grind
  .exact B.v r u
theorem CU (j:Jn) (x r t:Int):FV j x r t= -1\/∃p:Nat,FV j x r t=p/\p<ln j.ph/\(zS j p).ring=r/\vM j.cf p t=false:=by
 unfold FV;split
 .rename_i p h;have h1:=List.find?_some h;have h2:=cN.1 (zE9 h)
  grind
 all_goals grind [FV,zS,vM,cN,List.mem_of_find?_eq_some,Bool.not_eq_true']
theorem jl {r:Int} {t:Nat} (u:t<ln j.ph):aR j c r t= -1\/∃p:Nat,aR j c r t=p/\p<ln j.ph/\(zS j p).ring=r:=by grind [aR,zS,CU]
theorem al (J:JV j) (C:CV j c) (u:c.wt=0) {t:Nat} (y:t<ln j.ph) (r:Int):CV j (kK j t c r)/\(kK j t c r).wt=0:=by grind [kK,jl,Int.toNat_natCast,Tw]
theorem ZP (J:JV j) (C:CV j c) (u:c.wt=0) {r:Nat} (y:r<2):CV j (vH j c r)/\(vH j c r).wt=0:=by
 unfold vH;split
 .rename_i h;rw[zAv]at h⊢
  rcases C.v r y with h1|h1
  .grind
  .exact Tw J C u (by have:=h1.2.1;have:=h1.1;omega)
 .exact⟨C,u⟩
theorem X5 (J:JV j) (C:CV j c) (u:c.wt=0):CV j (AZ j c):=by
 have h1:CV j (if Fh c=true then QH j c ((c.gr+1) % gF j)else c)/\(if Fh c=true then QH j c ((c.gr+1) % gF j)else c).wt=0:=by
  split
  .have:=OA J;exact⟨CT C ⟨zCx _ zB,zCq _ zB⟩,u⟩
  .exact⟨C,u⟩
 have h2:=ZP J h1.1 h1.2 (r:=0) zB;exact(ZP J h2.1 h2.2 (r:=1) zB).1
theorem F8 {p:Ph} {l:Li} {lv:Bool} (y:1<=p.yel) (u:0<=p.red) (h:AW p l=true):AW p (CP p l lv)=true/\((CP p l lv).lamp≠0->l.lamp≠0):=by grind [AW,CP]
theorem ol (t u:Int) (nx:List Int) (y:Int) (p:Nat) (z:p<ln j.ph):xI ⟨US j c t,u,nx,y⟩ p=CP (zS j p) (xI c p) (GB j c t p):=by grind [nx,xI,US,CP,zS,GB]
theorem ml (J:JV j) (C:CV j c) (B:c.wt=0) (t:Int):CV j ⟨US j c t,c.gr,c.nx,c.wt⟩:=by
 have A:=λp u=>F8 (lv:=GB j c t p) (by have:=J.ti p u;omega) (by have:=J.ti p u;omega) (C.k p u)
 refine⟨by simp[US],λp u=>?_,λp q u z y h1 h2=>?_,C.g,C.m,C.v,C.w,.inl B⟩
 .grind [US,ol]
 .rw[ol _ _ _ _ _ u]at h1;rw[ol _ _ _ _ _ z]at h2;exact C.x p q u z y ((A p u).2 h1) ((A q z).2 h2)
theorem Zl (J:JV j) (C:CV j c) (t:Int):CV j (GC j c t):=by
 unfold GC;split
 .rename_i h;have u:=C.z;have A:=C.w;refine⟨C.n,C.k,C.x,C.g,C.m,C.v,by dsimp only;omega,?_⟩
  rcases u with u|u
  .omega
  .exact .inr u
 .have y:c.wt=0:=by have:=C.w;omega
  grind [GC,ml,ZO,al,X5]
def gB (u:List Int) (B:ln u<=40) (p q:Int):zO 257 [zE iA u,iA p,iA q] [] (bA (vM u p q)) []:=by
 have hl:=zA iA u;unfold vM;by_cases h1:0<=p
 case neg=>
  rw[zAb (λh=>h1 h.1)];refine eM call257 λF hF=>?_
  exact mx
 by_cases h2:0<=q
 case neg=>
  rw[zAb (λh=>h2 h.2.1)];refine eM call257 λF hF=>?_
  exact mx
 by_cases y:p<ln u
 case neg=>
  rw[zAb (λh=>y h.2.2.1)];refine eM call257 λF hF=>?_
  exact mx
 by_cases z:q<ln u
 case neg=>
  rw[zAb (λh=>z h.2.2.2)];refine eM call257 λF hF=>?_
  exact mx
 rw[zAc ⟨h1,h2,y,z⟩,zAj];have C:=yC iA u p h1 y;generalize u.getD p.toNat dd=x at *;by_cases A:uX (wY x q) 1=1
 .rw[show(uX (wY x q) 1==1)=true by rw[zBv];exact A];refine eM call257 λF hF=>?_
  exact mx
 .rw[show(uX (wY x q) 1==1)=false by rw[zBd];exact A];refine eM call257 λF hF=>?_
  exact mx
def Sw (p:Ph):Prop:=0<=p.walk/\p.walk<=60/\0<=p.clear/\p.clear<=60
def Cd (p:Ph) (h:Sw p):zO 209 [yU p] [] (iA (Dd p)) []:=by
 obtain⟨h1,h2,u,y⟩:=h;refine eM call209 λF hF=>?_
 exact mx
def Js (p:Ph) (h:Sw p) (l:Li) (z: -1000000000000<=l.tk/\l.tk<=1000000000000) (lv:Bool):zO 282 [yU p,yX l,bA lv] [] (yX (CP p l lv)) []:=by
 have c:=Cd p h;unfold CP;by_cases h1:l.lamp=1
 .rw[Os h1];generalize Dd p=n at*
  cases lv with
  |false=>
   rw[hW (λh=>by cases h.1)];refine eM call282 λF hF=>?_
   exact mx
  |true=>
  by_cases h2:n<=l.tk+1
  .rw[Os ⟨rfl,h2⟩];refine eM call282 λF hF=>?_
   exact nl c
  .rw[hW (λh=>h2 h.2)];refine eM call282 λF hF=>?_
   exact nl c
 rw[hW h1];by_cases h2:l.lamp=2
 .rw[Os h2];by_cases u:l.tk+1<p.yel
  .rw[Os u];refine eM call282 λF hF=>?_
   exact mx
  rw[hW u];by_cases y:p.red=0
  .rw[Os y];refine eM call282 λF hF=>?_
   exact mx
  .rw[hW y];refine eM call282 λF hF=>?_
   exact mx
 rw[hW h2];by_cases u:l.lamp=3
 .rw[Os u];by_cases y:l.tk+1<p.red
  .rw[Os y];refine eM call282 λF hF=>?_
   exact mx
  .rw[hW y];refine eM call282 λF hF=>?_
   exact mx
 .rw[hW u];refine eM call282 λF hF=>?_
  exact mx
def Yl (p:Ph) (l:Li):zO 316 [yU p,yX l] [] (bA (AW p l)) []:=by
 unfold AW;by_cases u:l.lamp=0
 .rw[Os u];by_cases h:l.tk=0
  .rw[zAc h];refine eM call316 λF hF=>?_
   exact mx
  .rw[zAb h];refine eM call316 λF hF=>?_
   exact mx
 rw[hW u];by_cases h1:l.lamp=1
 .rw[Os h1];by_cases h:0<=l.tk
  .by_cases h':l.tk<=1073741824
   .rw[zAc ⟨h,h'⟩];refine eM call316 λF hF=>?_
    exact mx
   .rw[zAb (λk=>h' k.2)];refine eM call316 λF hF=>?_
    exact mx
  .rw[zAb (λk=>h k.1)];refine eM call316 λF hF=>?_
   exact mx
 rw[hW h1];by_cases h2:l.lamp=2
 .rw[Os h2];by_cases h:0<=l.tk
  .by_cases h':l.tk<p.yel
   .rw[zAc ⟨h,h'⟩];refine eM call316 λF hF=>?_
    exact mx
   .rw[zAb (λk=>h' k.2)];refine eM call316 λF hF=>?_
    exact mx
  .rw[zAb (λk=>h k.1)];refine eM call316 λF hF=>?_
   exact mx
 rw[hW h2];by_cases y:l.lamp=3
 .rw[Os y];by_cases h:0<=l.tk
  .by_cases h':l.tk<p.red
   .rw[zAc ⟨h,h'⟩];refine eM call316 λF hF=>?_
    exact mx
   .rw[zAb (λk=>h' k.2)];refine eM call316 λF hF=>?_
    exact mx
  .rw[zAb (λk=>h k.1)];refine eM call316 λF hF=>?_
   exact mx
 .rw[hW y];refine eM call316 λF hF=>?_
  exact mx
theorem UT (j:Jn) (r:Int) (i:Nat):LL j r (i+1)=if(zS j i).ring=r then LL j r i++[i]else LL j r i:=by grind [LL,zS,List.range_succ]
theorem GD (j:Jn) (r:Int):∀n i,i<=n->∃l,LL j r n=LL j r i++l
 |0,i,h=>⟨[],by rw[Nat.le_zero.1 h];simp⟩
 | n+1,i,h=>by
  by_cases e:i=n+1
  .exact⟨[],by rw[e];simp⟩
  .obtain⟨l,hl⟩:=GD j r n i zB;rw[UT];split
   .exact⟨l++[n],by rw[hl,zA2]⟩
   .exact⟨l,hl⟩
def bg (j:Jn) (r:Int):List (Nat×xM):=[(1003,.box [zE yU j.ph,zE iA j.cf,iA j.st]),(1004,.box [iA r])]
def Xl (j:Jn) (r:Int):zO 299 [xC j,iA r] [] (.fn 339 [.ptr 1003 0 0,.ptr 1004 0 0]) (bg j r):=by
 refine eM call299 λF hF=>?_
 repeat' (first|(apply zG;first|refine qH (eK (v:=AV.agg _) 1003 Z Z) Z Z Z ?_|refine qH (eK (v:=AV.s _) 1004 Z Z) Z Z Z ?_|refine vT tok Z Z ?_|apply qV)|(first|apply wF|apply wB|refine uW Z ?_|refine yT Z ?_|refine yH Z ?_|refine wL Z (λhc=>?_) λhc=>?_|apply xO|apply xP|apply wA|apply xE))
 exact zV [1003,1004] Z Z Z Z
def nb (j:Jn) (M:ln j.ph<=1000) (r:Int):TF prog 339 [.ptr 1003 0 0,.ptr 1004 0 0] (bg j r) ((PA j r).map λp:Nat=>[iA (p:Int)]):=by
 have hl:=zA yU j.ph;refine VJ func339 Z (λargs w=>call339 args w) Z Z Z (λF y I B G=>?_);unfold bg;refine WW ?_;refine zM (ln j.ph) [1003,1004] [1003,1004] [0,2,7,8] [9,1000000,0,2,7,8] Z (λi T U=>⟨(9,iA i)::(1000000,.gh (LL j r i).length)::T,U⟩) (Lq ?_ ?_)
 .intro i hi;have L:=zJ yU j.ph i hi;have A:=UT j r i
  change (j.ph.map yU)[i]? =some (yU (zS j i))at L
  by_cases E:(zS j i).ring=r
  .rw[Os E]at A;obtain⟨O,u⟩:=GD j r (ln j.ph) (i+1) zB;rw[A]at u⊢
   have z:((PA j r).map λp:Nat=>[iA (p:Int)])[(LL j r i).length]? =some [iA (i:Int)]:=by
    unfold PA;rw[u,zAh,zA9 yE,zBb (zAe _),zCz];rfl
   have C:=(zAx.1 z).1;rw[zAf];generalize ((PA j r).map λp:Nat=>[iA (p:Int)])=xs,(LL j r i).length=k,zS j i=t at *
   (repeat' (first|refine qU ?_|apply yY|apply xN|intro hc|(apply zG;apply xJ;first|(apply We;refine FB B G Z Z z Z Z Z ?_ ?_))|(apply zG;first|refine SM ?_)|fail))
   .rfl
   .exact TG Z (.inr zB)
  .rw[hW E]at A;rw[A];generalize (LL j r i).length=k,zS j i=t at *;refine WW ?_;rfl
 .have e:(LL j r (ln j.ph)).length=((PA j r).map λp:Nat=>[iA (p:Int)]).length:=by rw[f7];rfl
  refine WW ?_;exact ZY Z (.inl e)
