/- Part 17. -/
import Derived.Test.YtaglbcjljlkjcaaGreatT16
namespace Go.Proofs.YtaglbcjljlkjcaaGreat.Av
open Tryz
set_option linter.all false
set_option maxRecDepth 4000
set_option maxHeartbeats 4000000
open List renaming length->ln
open Inhabited renaming default->dd
section
variable (c:Cf) (d:wD) (s f3:Int) (tk0:List Int) (sl:Int)
def Tq:zM 193 [wH c,zN d,iA s,zX ⟨1,tk0,[],[]⟩,iA sl,iA f3] [] (hT d (RU d f3) (-1) 0) []:=by
 rw[show zX ⟨1,tk0,[],[]⟩= .agg [iA 1,zE yA tk0,.sl false [],.sl false []]from Z];unfold wH hT RU zN xD zX;refine eM call193 λF hF=>?_
 exact ng
def N5 (k:Int) (z:List Int) (a:Int) (u:List Int) (A:z=a::u) (hk:k=2\/k=3\/k=4\/k=5) (B:wD) (p:Ms) (e:Int) (C:zM 242 [zN d,zX ⟨k,tk0,z,[]⟩,iA sl,iA f3] [] (.tup [zN B,zX p,iA e]) []):
  zM 193 [wH c,zN d,iA s,zX ⟨k,tk0,z,[]⟩,iA sl,iA f3] [] (hT B p (-1) e) []:=by
 subst A;rw[show zX ⟨k,tk0,a::u,[]⟩= .agg [iA k,zE yA tk0,.sl false (iA a::u.map iA),.sl false []]from Z]at *; have hl:(iA a::u.map iA).length=ln u+1:=by rw[zBj,zA5]
 unfold zN xD zX at C;unfold wH hT zN xD zX
 rcases hk with rfl|rfl|rfl|rfl
 all_goals
  refine eM call193 λF hF=>?_
  exact ny C
def Sq (z:List Int) (a:Int) (u:List Int) (A:z=a::u) (G:0<=sl) (h1:sl<(ln d.rg.tk:Int)) (C:wD) (e:Int) (E:zM 243 [wH c,zN d,zX ⟨6,tk0,z,[]⟩,iA (d.rg.tk.getD sl.toNat dd).cls,iA f3] [] (.tup [zN C,iA e]) []):
  zM 193 [wH c,zN d,iA s,zX ⟨6,tk0,z,[]⟩,iA sl,iA f3] [] (hT C (jD 6 a) (-1) e) []:=by
 subst A;rw[show zX ⟨6,tk0,a::u,[]⟩= .agg [iA 6,zE yA tk0,.sl false (iA a::u.map iA),.sl false []]from Z]at *; have hl:(iA a::u.map iA).length=ln u+1:=by rw[zBj,zA5]
 have I:=zA yN d.rg.tk;have B:=yF yN d.rg.tk sl G h1;generalize (d.rg.tk.getD sl.toNat dd)=t at *;rw[show yN t= .agg [bA t.used,zE yA t.sec,iA t.par,iA t.rights,iA t.cls,iA t.til]from Z]at B;unfold wH zN xD at E;unfold wH hT jD zN xD zX;refine eM call193 λF hF=>?_
 exact ny E
def Qq (z:List Int) (a:Int) (u:List Int) (A:z=a::u) (B:wD) (e:Int) (C:zM 244 [zN d,zX ⟨7,tk0,z,[]⟩,iA f3] [] (.tup [zN B,iA e]) []):
  zM 193 [wH c,zN d,iA s,zX ⟨7,tk0,z,[]⟩,iA sl,iA f3] [] (hT B (jD 7 a) (-1) e) []:=by
 subst A;rw[show zX ⟨7,tk0,a::u,[]⟩= .agg [iA 7,zE yA tk0,.sl false (iA a::u.map iA),.sl false []]from Z]at *; have hl:(iA a::u.map iA).length=ln u+1:=by rw[zBj,zA5]
 unfold zN xD at C;unfold wH hT jD zN xD zX;refine eM call193 λF hF=>?_
 exact ny C
def M5 (a:Int) (l:List Rq) (e:Int) (z:zM 245 [zE zY d.rq,iA a] [] (.tup [zE zY l,iA e]) []):
  zM 193 [wH c,zN d,iA s,zX ⟨8,tk0,[a],[]⟩,iA sl,iA f3] [] (hT (mg d (if e=0 then l else d.rq)) (jD 8 a) (-1) e) []:=by
 rw[show zX ⟨8,tk0,[a],[]⟩= .agg [iA 8,zE yA tk0,.sl false [iA a],.sl false []]from Z];unfold wH mg hT jD zN xD zX;by_cases u:e=0
 .subst u;rw[zA4 Z];refine eM call193 λF hF=>?_
  exact ny z
 .rw[Os u];refine eM call193 λF hF=>?_
  exact ny z
def Qw (u:zM 246 [zN d] [] (zX (aC d)) []):zM 193 [wH c,zN d,iA s,zX ⟨12,tk0,[],[]⟩,iA sl,iA f3] [] (hT d (aC d) (-1) 0) []:=by
 rw[show zX ⟨12,tk0,[],[]⟩= .agg [iA 12,zE yA tk0,.sl false [],.sl false []]from Z];generalize aC d=p at *;unfold zN xD zX at u;unfold wH hT zN xD zX;refine eM call193 λF hF=>?_
 exact ny u
def Ow (a:Int) (z:(ln c.js:Int)<=a):zM 193 [wH c,zN d,iA s,zX ⟨11,tk0,[a],[]⟩,iA sl,iA f3] [] (hT d (jD 11 a) (-1) 8) []:=by
 have u:=zA wK c.js;rw[show zX ⟨11,tk0,[a],[]⟩= .agg [iA 11,zE yA tk0,.sl false [iA a],.sl false []]from Z];unfold wH hT jD zN xD zX;refine eM call193 λF hF=>?_
 exact ng
def Nw (a:Int) (z:a<(ln c.js:Int)):zM 193 [wH c,zN d,iA s,zX ⟨11,tk0,[a],[]⟩,iA sl,iA f3] [] (hT d (jD 11 a) a 0) []:=by
 have u:=zA wK c.js;rw[show zX ⟨11,tk0,[a],[]⟩= .agg [iA 11,zE yA tk0,.sl false [iA a],.sl false []]from Z];unfold wH hT jD zN xD zX;refine eM call193 λF hF=>?_
 exact ng
def Mw (a:Int) (u:1<a):zM 193 [wH c,zN d,iA s,zX ⟨10,tk0,[a],[]⟩,iA sl,iA f3] [] (hT d (jD 10 a) (-1) 8) []:=by
 rw[show zX ⟨10,tk0,[a],[]⟩= .agg [iA 10,zE yA tk0,.sl false [iA a],.sl false []]from Z];unfold wH hT jD zN xD zX;refine eM call193 λF hF=>?_
 exact ng
def Lw (a:Int) (A:a<=1) (B:¬(0<=s/\s<(ln d.au:Int))):zM 193 [wH c,zN d,iA s,zX ⟨10,tk0,[a],[]⟩,iA sl,iA f3] [] (hT d (jD 10 a) (-1) 0) []:=by
 have u:=zA bA d.au;rw[show zX ⟨10,tk0,[a],[]⟩= .agg [iA 10,zE yA tk0,.sl false [iA a],.sl false []]from Z];unfold wH hT jD zN xD zX;by_cases h2:0<=s
 .have z:(ln d.au:Int)<=s:=by omega
  refine eM call193 λF hF=>?_
  exact ng
 ·(refine eM call193 λF hF=>?_)
  exact ng
def Kw (hb:dH d):zM 193 [wH c,zN d,iA s,zX ⟨9,tk0,[],[]⟩,iA sl,iA f3] [] (hT d (QI d) (-1) 0) []:=by
 have E:=hb.q;have C:=zA zY d.rq;rw[show zX ⟨9,tk0,[],[]⟩= .agg [iA 9,zE yA tk0,.sl false [],.sl false []]from Z];unfold wH hT QI zN xD zX;refine eM call193 λF hF=>?_
 refine WL ?_;refine zS 21 1001 1 Z Z Z ?_;refine zQ (d.rq) [1001,7,12,13,17] [7,12,13,17] [7,12,13,17,18,105,106] [21,107,7,12,13,17,18,105,106] Z (λi f4 T U=>⟨(21,.ref 1001 0 ((gB f4).map iA).length)::(107,iA i)::T,(1001,.arr 1 ((gB f4).map iA) true)::U⟩) (Lq ?_ ?_)
 .intro i f4 x post u hi;have G:=zZ zY u hi;have z:=zV u hi;have A:=XL f4;have B:=zA iA (gB f4);have e:=LE f4 x;clear u;rw[e];generalize (gB f4).map iA=xs at *;refine WW ?_;rfl
 ·(refine WD ?_)
  refine wL [6,7,9,12,13,17] [6,7,9,12,13,14,15,16,17,18,21] Z ?_
  (conv=>whnf)
  simp only[zBr,zA8];exact ng
end
def XW (d:wD):AV:=xD d.rg (zE zY d.rq) (zE qM d.dr) (.ref 1004 0 (d.au.map bA).length)
def DB (l:List Bool):xW:= .arr 1 (l.map bA) false
def uz (d:wD) (p:Ms) (k e:Int):AV:= .tup [XW d,zX p,iA k,iA e]
def Pq (l:List Bool) (h1:1<=ln l) (hl:ln l<=1073741824):zM 171 [zE bA l] [] (.ref 1004 0 (l.map bA).length) [(1004,DB l)]:=by
 have u:=zA bA l;unfold DB;refine eM call171 λF hF=>?_
 refine xI 0 Z (λcap z=>?_) ?_
 .have:l=[]:=by simpa using z
  subst this;simp at h1
 .repeat' (first|(apply zG;first|refine uN tok Z Z ?_|(apply wR;refine wJ (xY tok (.inl ⟨rfl,rfl⟩) Z Z Z Z) Z ?_)|(apply yI;refine uX (nw:=[1004]) (yX tok 1004 (xs:=[]) Z Z Z Z Z Z Z Z Z) Z Z Z ?_)|(apply yD;refine vD tok Z Z Z Z Z Z Z (yM _ _ (λ_=>rfl)) Z Z Z zB Z ?_)|apply kP)|(first|apply xZ|apply xR|refine uD Z ?_|refine yR Z ?_|refine yE Z ?_|refine wA Z (λhc=>?_) λhc=>?_|apply xJ|apply xL|apply xQ|apply xB))
  exact zP [1004] Z Z Z Z
def LJ (d:wD) (hb:dH d) (h1:1<=ln d.au):zM 106 [zN d] [] (XW d) [(1004,DB d.au)]:=by
 have z:=bg d.rg hb.rg;have O:=hb.q;have B:=hb.n;have A:=hb.a;have I:=MZ d.rq zB;have L:=LA d.dr zB;have M:=Pq d.au h1 zB;have E:=zA zY d.rq;have C:=zA qM d.dr;unfold XW zN xD;unfold DB at *;unfold uR at z;refine eM call106 λF hF=>?_
 refine yH (xU z I) ?_;refine zO ((d.rq.map zY).length) [1001,1,2] [1,2] [1,2,15] [16,1,2,15] Z (λi T U=>⟨(16,iA i)::T,(1001,.arr 5 (dV i (d.rq.map zY)) false)::U⟩) (Lq ?_ ?_)
 .intro i hi;have hi':i<ln d.rq:=by omega
  have G:(dV i (d.rq.map zY))[i]? =some (zY (d.rq.getD i dd)):=zJ zY d.rq i hi';have e:=cG zY d.rq i hi';have u:=XH (d.rq.getD i dd).legs (hb.g (d.rq.getD i dd) QP);generalize (d.rq.getD i dd)=t,dV i (d.rq.map zY)=xs,dV (i+1) (d.rq.map zY)=ys at *;subst e;refine zU u ?_;rfl
 ·(refine zU L ?_)
  refine zO ((d.dr.map qM).length) [1002,1,2,1001] [1,2,1001] [1,2,38] [39,1,2,38] Z (λi T U=>⟨(39,iA i)::T,(1002,.arr 1 (dV i (d.dr.map qM)) false)::U⟩) (Lq ?_ ?_)
  .intro i hi;have hi':i<ln d.dr:=by omega
   have G:(dV i (d.dr.map qM))[i]? =some (qM (d.dr.getD i dd)):=zJ qM d.dr i hi';have e:=cG qM d.dr i hi';have u:=kU (d.dr.getD i dd) (by have:=hb.e (d.dr.getD i dd) QP;omega);generalize (d.dr.getD i dd)=t,dV i (d.dr.map qM)=xs,dV (i+1) (d.dr.map qM)=ys at *;subst e;refine zU u ?_;rfl
  ·(refine zU M ?_)
   refine zI [1004] Z Z ?_ Z
   show xD d.rg (.sl false ((d.rq.map zY).take (d.rq.map zY).length)) (.sl false ((d.dr.map qM).take (d.dr.map qM).length)) (.ref 1004 0 (d.au.map bA).length)=_
   rw[zA8,zA8];rfl
def LK (d:wD) (hb:dH d):zM 125 [zN d] [] (XW d) [(1004,DB d.au)]:=by
 have z:=eI d.rg hb.rg;have O:=eK d.rq hb.q hb.g;have R:=hb.q;have B:=hb.n;have A:=hb.a;have G:=zA zY d.rq;have E:=zA qM d.dr;have C:=zA bA d.au;unfold XW zN xD;unfold DB;unfold uR at z;refine eM call125 λF hF=>?_
 (have ga:=z;have ge:=O;(repeat' (first|refine uQ ?_|apply yW|apply xG|intro hc|(apply zG;first|(apply yD;refine xH 1004 tok Z Z Z Z Z Z (yM _ _ (λ_=>rfl)) Z Z Z zB Z Z Z ?_))|fail))<;>clear ga ge)
 refine zS 4 1001 1 Z Z Z ?_;refine zQ (d.dr) [1001,2,3,1004] [2,3,1004] [2,3,18,19] [4,20,2,3,18,19] Z (λi f4 T U=>⟨(4,.ref 1001 0 (f4.map qM).length)::(20,iA i)::T,(1001,.arr 1 (f4.map qM) true)::U⟩) (Lq ?_ ?_)
 .intro i f4 x post u hi;have V:=zZ qM u hi;have I:=zV u hi;have L:(f4.map qM).length=i:=by rw[zA5,hi]
  have S:=hb.e x (yU u);have M:=zA yA x;have e:(f4++[x]).map qM=f4.map qM++[qM x]:=by simp
  clear u;rw[e];generalize f4.map qM=xs,d.dr.map qM=W at *;refine WL ?_;rfl
 ·(refine WL ?_)
  refine zI [1004] Z Z ?_ Z
  show xD d.rg (zE zY d.rq) (.sl false ((d.dr.map qM).take (d.dr.map qM).length)) (.ref 1004 0 (d.au.map bA).length)=_
  rw[zA8];rfl
def Jw (c:Cf) (d:wD) (s f3:Int) (E u:List Int) (a:Int) (R:0<=a) (h1:a<=1) (B:zM 267 [iA 10,zE yA E] [] (.tup [zX ⟨10,u,[a],[]⟩,iA 0]) []) (r:Rg) (M:Int)
  (A:zM 268 [uR d.rg,zX ⟨10,u,[a],[]⟩,iA f3] [] (.tup [uR r,iA M,iA 0]) []) (S:0<=s/\s<(ln d.au:Int)):
  zM 224 [wH c,XW d,iA s,vQ ⟨0,10,E⟩,iA f3] [(1004,DB d.au)] (uz ⟨r,d.rq,d.dr,d.au.set s.toNat (a==1)⟩ (jD 10 a) (-1) 0) [(1004,DB (d.au.set s.toNat (a==1)))]:=by
 have L:=dI 10;have C:=FX 10 a;have G:=zA bA d.au;have I:=zJ bA d.au s.toNat zB;unfold jD zX at C;rw[show zX ⟨10,u,[a],[]⟩= .agg [iA 10,zE yA u,.sl false [iA a],.sl false []]from Z]at B A;unfold uR at A;have z:(d.au.set s.toNat (a==1)).map bA=(d.au.map bA).set s.toNat (bA (a==1)):=zCs;unfold wH uz XW xD vQ jD zX DB;dsimp only;rw[z,zCj];generalize d.au.getD s.toNat dd=O,d.au.map bA=xs at *
 obtain rfl|rfl:a=0\/a=1:=by omega
 all_goals
  refine eM call224 λF hF=>?_
  refine QG (cL L B A C) ?_;exact zI [1004] Z Z Z Z
def Iw (c:Cf) (d:wD) (s f3:Int) (u:List Int) (C:Int) (a:Int) (G:0<=a) (h1:a<=1) (I:0<=s/\s<(ln d.au:Int)):
  zM 193 [wH c,XW d,iA s,zX ⟨10,u,[a],[]⟩,iA C,iA f3] [(1004,DB d.au)] (uz ⟨d.rg,d.rq,d.dr,d.au.set s.toNat (a==1)⟩ (jD 10 a) (-1) 0) [(1004,DB (d.au.set s.toNat (a==1)))]:=by
 have A:=zA bA d.au;have B:=zJ bA d.au s.toNat zB;rw[show zX ⟨10,u,[a],[]⟩= .agg [iA 10,zE yA u,.sl false [iA a],.sl false []]from Z];have z:(d.au.set s.toNat (a==1)).map bA=(d.au.map bA).set s.toNat (bA (a==1)):=zCs;unfold wH uz XW xD jD zX DB;dsimp only;rw[z,zCj];generalize d.au.getD s.toNat dd=E,d.au.map bA=xs at *
 obtain rfl|rfl:a=0\/a=1:=by omega
 all_goals
  refine eM call193 λF hF=>?_
  refine WL ?_;exact zI [1004] Z Z Z Z
