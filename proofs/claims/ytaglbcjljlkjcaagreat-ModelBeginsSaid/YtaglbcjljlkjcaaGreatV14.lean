/- Part 14. -/
import Derived.Test.YtaglbcjljlkjcaaGreatV13
namespace Go.Proofs.YtaglbcjljlkjcaaGreat.Av
open Tryz
set_option linter.all false
set_option maxRecDepth 4000
set_option maxHeartbeats 4000000
section
variable (c:Cf) (d:xU) (s ga:Int) (tk0:List Int) (sl:Int)
def Ln:zO 193 [vL c,zN d,iA s,yO ⟨1,tk0,[],[]⟩,iA sl,iA ga] [] (hT d (bc d ga) (-1) 0) []:=by
 rw[show yO ⟨1,tk0,[],[]⟩= .agg [iA 1,zE yA tk0,.sl false [],.sl false []]from Z];unfold vL hT bc zN wG yO;refine eM call193 λF hF=>?_
 exact ny
def G0 (k:Int) (y:List Int) (a:Int) (u:List Int) (z:y=a::u) (hk:k=2\/k=3\/k=4\/k=5) (A:xU) (p:Ms) (e:Int) (B:zO 242 [zN d,yO ⟨k,tk0,y,[]⟩,iA sl,iA ga] [] (.tup [zN A,yO p,iA e]) []):
  zO 193 [vL c,zN d,iA s,yO ⟨k,tk0,y,[]⟩,iA sl,iA ga] [] (hT A p (-1) e) []:=by
 subst z;rw[show yO ⟨k,tk0,a::u,[]⟩= .agg [iA k,zE yA tk0,.sl false (iA a::u.map iA),.sl false []]from Z]at *; have hl:(iA a::u.map iA).length=u.length+1:=by rw[zAp,f7]
 unfold zN wG yO at B;unfold vL hT zN wG yO
 rcases hk with rfl|rfl|rfl|rfl
 all_goals
  refine eM call193 λF hF=>?_
  exact pb B
def Kn (y:List Int) (a:Int) (u:List Int) (z:y=a::u) (E:0<=sl) (h1:sl<(d.rg.tk.length:Int)) (B:xU) (e:Int) (C:zO 243 [vL c,zN d,yO ⟨6,tk0,y,[]⟩,iA (d.rg.tk.getD sl.toNat default).cls,iA ga] [] (.tup [zN B,iA e]) []):
  zO 193 [vL c,zN d,iA s,yO ⟨6,tk0,y,[]⟩,iA sl,iA ga] [] (hT B (dW 6 a) (-1) e) []:=by
 subst z;rw[show yO ⟨6,tk0,a::u,[]⟩= .agg [iA 6,zE yA tk0,.sl false (iA a::u.map iA),.sl false []]from Z]at *; have hl:(iA a::u.map iA).length=u.length+1:=by rw[zAp,f7]
 have G:=zA yK d.rg.tk;have A:=yC yK d.rg.tk sl E h1;generalize (d.rg.tk.getD sl.toNat default)=t at *;rw[show yK t= .agg [bA t.used,zE yA t.sec,iA t.par,iA t.rights,iA t.cls,iA t.til]from Z]at A;unfold vL zN wG at C;unfold vL hT dW zN wG yO;refine eM call193 λF hF=>?_
 exact pb C
def Hn (y:List Int) (a:Int) (u:List Int) (z:y=a::u) (A:xU) (e:Int) (B:zO 244 [zN d,yO ⟨7,tk0,y,[]⟩,iA ga] [] (.tup [zN A,iA e]) []):
  zO 193 [vL c,zN d,iA s,yO ⟨7,tk0,y,[]⟩,iA sl,iA ga] [] (hT A (dW 7 a) (-1) e) []:=by
 subst z;rw[show yO ⟨7,tk0,a::u,[]⟩= .agg [iA 7,zE yA tk0,.sl false (iA a::u.map iA),.sl false []]from Z]at *; have hl:(iA a::u.map iA).length=u.length+1:=by rw[zAp,f7]
 unfold zN wG at B;unfold vL hT dW zN wG yO;refine eM call193 λF hF=>?_
 exact pb B
def F0 (a:Int) (l:List Rq) (e:Int) (y:zO 245 [zE yS d.rq,iA a] [] (.tup [zE yS l,iA e]) []):
  zO 193 [vL c,zN d,iA s,yO ⟨8,tk0,[a],[]⟩,iA sl,iA ga] [] (hT (Ah d (if e=0 then l else d.rq)) (dW 8 a) (-1) e) []:=by
 rw[show yO ⟨8,tk0,[a],[]⟩= .agg [iA 8,zE yA tk0,.sl false [iA a],.sl false []]from Z];unfold vL Ah hT dW zN wG yO;by_cases u:e=0
 .subst u;rw[Os Z];refine eM call193 λF hF=>?_
  exact pb y
 .rw[hW u];refine eM call193 λF hF=>?_
  exact pb y
def Qu (u:zO 246 [zN d] [] (yO (XW d)) []):zO 193 [vL c,zN d,iA s,yO ⟨12,tk0,[],[]⟩,iA sl,iA ga] [] (hT d (XW d) (-1) 0) []:=by
 rw[show yO ⟨12,tk0,[],[]⟩= .agg [iA 12,zE yA tk0,.sl false [],.sl false []]from Z];generalize XW d=p at *;unfold zN wG yO at u;unfold vL hT zN wG yO;refine eM call193 λF hF=>?_
 exact pb u
def Pu (a:Int) (y:(c.js.length:Int)<=a):zO 193 [vL c,zN d,iA s,yO ⟨11,tk0,[a],[]⟩,iA sl,iA ga] [] (hT d (dW 11 a) (-1) 8) []:=by
 have u:=zA xC c.js;rw[show yO ⟨11,tk0,[a],[]⟩= .agg [iA 11,zE yA tk0,.sl false [iA a],.sl false []]from Z];unfold vL hT dW zN wG yO;refine eM call193 λF hF=>?_
 exact ny
def Ou (a:Int) (y:a<(c.js.length:Int)):zO 193 [vL c,zN d,iA s,yO ⟨11,tk0,[a],[]⟩,iA sl,iA ga] [] (hT d (dW 11 a) a 0) []:=by
 have u:=zA xC c.js;rw[show yO ⟨11,tk0,[a],[]⟩= .agg [iA 11,zE yA tk0,.sl false [iA a],.sl false []]from Z];unfold vL hT dW zN wG yO;refine eM call193 λF hF=>?_
 exact ny
def Nu (a:Int) (u:1<a):zO 193 [vL c,zN d,iA s,yO ⟨10,tk0,[a],[]⟩,iA sl,iA ga] [] (hT d (dW 10 a) (-1) 8) []:=by
 rw[show yO ⟨10,tk0,[a],[]⟩= .agg [iA 10,zE yA tk0,.sl false [iA a],.sl false []]from Z];unfold vL hT dW zN wG yO;refine eM call193 λF hF=>?_
 exact ny
def Mu (a:Int) (z:a<=1) (A:¬(0<=s/\s<(d.au.length:Int))):zO 193 [vL c,zN d,iA s,yO ⟨10,tk0,[a],[]⟩,iA sl,iA ga] [] (hT d (dW 10 a) (-1) 0) []:=by
 have u:=zA bA d.au;rw[show yO ⟨10,tk0,[a],[]⟩= .agg [iA 10,zE yA tk0,.sl false [iA a],.sl false []]from Z];unfold vL hT dW zN wG yO;by_cases h2:0<=s
 .have y:(d.au.length:Int)<=s:=by omega
  refine eM call193 λF hF=>?_
  exact ny
 ·(refine eM call193 λF hF=>?_)
  exact ny
def Lu (hb:cY d):zO 193 [vL c,zN d,iA s,yO ⟨9,tk0,[],[]⟩,iA sl,iA ga] [] (hT d (BU d) (-1) 0) []:=by
 have B:=hb.q;have A:=zA yS d.rq;rw[show yO ⟨9,tk0,[],[]⟩= .agg [iA 9,zE yA tk0,.sl false [],.sl false []]from Z];unfold vL hT BU zN wG yO;refine eM call193 λF hF=>?_
 refine WL ?_;refine zW 21 1001 1 Z Z Z ?_;refine zU (d.rq) [1001,7,12,13,17] [7,12,13,17] [7,12,13,17,18,105,106] [21,107,7,12,13,17,18,105,106] Z (λi gd T U=>⟨(21,.ref 1001 0 ((dX gd).map iA).length)::(107,iA i)::T,(1001,.arr 1 ((dX gd).map iA) true)::U⟩) (Lq ?_ ?_)
 .intro i gd x post hx hi;have C:=zY yS hx hi;have u:=zX hx hi;have y:=RL gd;have z:=zA iA (dX gd);have e:=pc gd x;clear hx;rw[e];generalize (dX gd).map iA=xs at *;refine WW ?_;rfl
 ·(refine WD ?_)
  refine vJ [6,7,9,12,13,17] [6,7,9,12,13,14,15,16,17,18,21] Z ?_
  (conv=>whnf)
  simp only[zAr,zAa];exact ny
end
def BS (d:xU):AV:=wG d.rg (zE yS d.rq) (zE uE d.dr) (.ref 1004 0 (d.au.map bA).length)
def Bw (l:List Bool):xM:= .arr 1 (l.map bA) false
def k8 (d:xU) (p:Ms) (k e:Int):AV:= .tup [BS d,yO p,iA k,iA e]
def MW (d:xU) (hb:cY d):zO 125 [zN d] [] (BS d) [(1004,Bw d.au)]:=by
 have u:=fC d.rg hb.rg;have L:=fD d.rq hb.q hb.g;have M:=hb.q;have z:=hb.n;have y:=hb.a;have C:=zA yS d.rq;have B:=zA uE d.dr;have A:=zA bA d.au;unfold BS zN wG;unfold Bw;unfold kD at u;refine eM call125 λF hF=>?_
 (have gt:=u;have gv:=L;(repeat' (first|refine qU ?_|apply yY|apply xN|intro hc|(apply zG;first|(apply yI;refine xB 1004 tok Z Z Z Z Z Z (yG _ _ (λ_=>rfl)) Z Z Z zB Z Z Z ?_))|fail))<;>clear gt gv)
 refine zW 4 1001 1 Z Z Z ?_;refine zU (d.dr) [1001,2,3,1004] [2,3,1004] [2,3,18,19] [4,20,2,3,18,19] Z (λi gd T U=>⟨(4,.ref 1001 0 (gd.map uE).length)::(20,iA i)::T,(1001,.arr 1 (gd.map uE) true)::U⟩) (Lq ?_ ?_)
 .intro i gd x post hx hi;have R:=zY uE hx hi;have E:=zX hx hi;have G:(gd.map uE).length=i:=by rw[f7,hi]
  have O:=hb.e x (yQ hx);have I:=zA yA x;have e:(gd++[x]).map uE=gd.map uE++[uE x]:=by simp
  clear hx;rw[e];generalize gd.map uE=xs,d.dr.map uE=S at *;refine WL ?_;rfl
 ·(refine WL ?_)
  refine zH [1004] Z Z ?_ Z
  show wG d.rg (zE yS d.rq) (.sl false ((d.dr.map uE).take (d.dr.map uE).length)) (.ref 1004 0 (d.au.map bA).length)=_
  rw[zAa];rfl
def Ku (c:Cf) (d:xU) (s ga:Int) (u:List Int) (B:Int) (a:Int) (E:0<=a) (h1:a<=1) (G:0<=s/\s<(d.au.length:Int)):
  zO 193 [vL c,BS d,iA s,yO ⟨10,u,[a],[]⟩,iA B,iA ga] [(1004,Bw d.au)] (k8 ⟨d.rg,d.rq,d.dr,d.au.set s.toNat (a==1)⟩ (dW 10 a) (-1) 0) [(1004,Bw (d.au.set s.toNat (a==1)))]:=by
 have z:=zA bA d.au;have A:=zJ bA d.au s.toNat zB;rw[show yO ⟨10,u,[a],[]⟩= .agg [iA 10,zE yA u,.sl false [iA a],.sl false []]from Z];have y:(d.au.set s.toNat (a==1)).map bA=(d.au.map bA).set s.toNat (bA (a==1)):=zBt;unfold vL k8 BS wG dW yO Bw;dsimp only;rw[y,zBn];generalize d.au.getD s.toNat default=C,d.au.map bA=xs at *
 obtain rfl|rfl:a=0\/a=1:=by omega
 all_goals
  refine eM call193 λF hF=>?_
  refine WL ?_;exact zH [1004] Z Z Z Z
