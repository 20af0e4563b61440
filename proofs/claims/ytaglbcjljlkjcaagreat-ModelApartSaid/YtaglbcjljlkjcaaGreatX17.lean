/- Part 17. -/
import Derived.Test.YtaglbcjljlkjcaaGreatX16
namespace Go.Proofs.YtaglbcjljlkjcaaGreat.Av
open Tryz
set_option linter.all false
set_option maxRecDepth 4000
set_option maxHeartbeats 4000000
open List renaming length->ln
open Inhabited renaming default->dd
section
variable (c:Cf) (d:wE) (s f3:Int) (tk0:List Int) (sl:Int)
def Pq:zO 193 [wD c,zM d,iA s,zX ⟨1,tk0,[],[]⟩,iA sl,iA f3] [] (hT d (RV d f3) (-1) 0) []:=by
 rw[show zX ⟨1,tk0,[],[]⟩= .agg [iA 1,zE yA tk0,.sl false [],.sl false []]from Z];unfold wD hT RV zM xD zX;refine eM call193 λF hF=>?_
 exact nl
def O5 (k:Int) (z:List Int) (a:Int) (u:List Int) (A:z=a::u) (hk:k=2\/k=3\/k=4\/k=5) (B:wE) (p:Ms) (e:Int) (C:zO 242 [zM d,zX ⟨k,tk0,z,[]⟩,iA sl,iA f3] [] (.tup [zM B,zX p,iA e]) []):
  zO 193 [wD c,zM d,iA s,zX ⟨k,tk0,z,[]⟩,iA sl,iA f3] [] (hT B p (-1) e) []:=by
 subst A;rw[show zX ⟨k,tk0,a::u,[]⟩= .agg [iA k,zE yA tk0,.sl false (iA a::u.map iA),.sl false []]from Z]at *; have hl:(iA a::u.map iA).length=ln u+1:=by rw[zBl,zA6]
 unfold zM xD zX at C;unfold wD hT zM xD zX
 rcases hk with rfl|rfl|rfl|rfl
 all_goals
  refine eM call193 λF hF=>?_
  exact oj C
def Oq (z:List Int) (a:Int) (u:List Int) (A:z=a::u) (G:0<=sl) (h1:sl<(ln d.rg.tk:Int)) (C:wE) (e:Int) (E:zO 243 [wD c,zM d,zX ⟨6,tk0,z,[]⟩,iA (d.rg.tk.getD sl.toNat dd).cls,iA f3] [] (.tup [zM C,iA e]) []):
  zO 193 [wD c,zM d,iA s,zX ⟨6,tk0,z,[]⟩,iA sl,iA f3] [] (hT C (jD 6 a) (-1) e) []:=by
 subst A;rw[show zX ⟨6,tk0,a::u,[]⟩= .agg [iA 6,zE yA tk0,.sl false (iA a::u.map iA),.sl false []]from Z]at *; have hl:(iA a::u.map iA).length=ln u+1:=by rw[zBl,zA6]
 have I:=zA yN d.rg.tk;have B:=yF yN d.rg.tk sl G h1;generalize (d.rg.tk.getD sl.toNat dd)=t at *;rw[show yN t= .agg [bA t.used,zE yA t.sec,iA t.par,iA t.rights,iA t.cls,iA t.til]from Z]at B;unfold wD zM xD at E;unfold wD hT jD zM xD zX;refine eM call193 λF hF=>?_
 exact oj E
def Nq (z:List Int) (a:Int) (u:List Int) (A:z=a::u) (B:wE) (e:Int) (C:zO 244 [zM d,zX ⟨7,tk0,z,[]⟩,iA f3] [] (.tup [zM B,iA e]) []):
  zO 193 [wD c,zM d,iA s,zX ⟨7,tk0,z,[]⟩,iA sl,iA f3] [] (hT B (jD 7 a) (-1) e) []:=by
 subst A;rw[show zX ⟨7,tk0,a::u,[]⟩= .agg [iA 7,zE yA tk0,.sl false (iA a::u.map iA),.sl false []]from Z]at *; have hl:(iA a::u.map iA).length=ln u+1:=by rw[zBl,zA6]
 unfold zM xD at C;unfold wD hT jD zM xD zX;refine eM call193 λF hF=>?_
 exact oj C
def N5 (a:Int) (l:List Rq) (e:Int) (z:zO 245 [zE zY d.rq,iA a] [] (.tup [zE zY l,iA e]) []):
  zO 193 [wD c,zM d,iA s,zX ⟨8,tk0,[a],[]⟩,iA sl,iA f3] [] (hT (mg d (if e=0 then l else d.rq)) (jD 8 a) (-1) e) []:=by
 rw[show zX ⟨8,tk0,[a],[]⟩= .agg [iA 8,zE yA tk0,.sl false [iA a],.sl false []]from Z];unfold wD mg hT jD zM xD zX;by_cases u:e=0
 .subst u;rw[zA5 Z];refine eM call193 λF hF=>?_
  exact oj z
 .rw[Os u];refine eM call193 λF hF=>?_
  exact oj z
def Mw (u:zO 246 [zM d] [] (zX (aD d)) []):zO 193 [wD c,zM d,iA s,zX ⟨12,tk0,[],[]⟩,iA sl,iA f3] [] (hT d (aD d) (-1) 0) []:=by
 rw[show zX ⟨12,tk0,[],[]⟩= .agg [iA 12,zE yA tk0,.sl false [],.sl false []]from Z];generalize aD d=p at *;unfold zM xD zX at u;unfold wD hT zM xD zX;refine eM call193 λF hF=>?_
 exact oj u
def Lw (a:Int) (z:(ln c.js:Int)<=a):zO 193 [wD c,zM d,iA s,zX ⟨11,tk0,[a],[]⟩,iA sl,iA f3] [] (hT d (jD 11 a) (-1) 8) []:=by
 have u:=zA wK c.js;rw[show zX ⟨11,tk0,[a],[]⟩= .agg [iA 11,zE yA tk0,.sl false [iA a],.sl false []]from Z];unfold wD hT jD zM xD zX;refine eM call193 λF hF=>?_
 exact nl
def Kw (a:Int) (z:a<(ln c.js:Int)):zO 193 [wD c,zM d,iA s,zX ⟨11,tk0,[a],[]⟩,iA sl,iA f3] [] (hT d (jD 11 a) a 0) []:=by
 have u:=zA wK c.js;rw[show zX ⟨11,tk0,[a],[]⟩= .agg [iA 11,zE yA tk0,.sl false [iA a],.sl false []]from Z];unfold wD hT jD zM xD zX;refine eM call193 λF hF=>?_
 exact nl
def Jw (a:Int) (u:1<a):zO 193 [wD c,zM d,iA s,zX ⟨10,tk0,[a],[]⟩,iA sl,iA f3] [] (hT d (jD 10 a) (-1) 8) []:=by
 rw[show zX ⟨10,tk0,[a],[]⟩= .agg [iA 10,zE yA tk0,.sl false [iA a],.sl false []]from Z];unfold wD hT jD zM xD zX;refine eM call193 λF hF=>?_
 exact nl
def Iw (a:Int) (A:a<=1) (B:¬(0<=s/\s<(ln d.au:Int))):zO 193 [wD c,zM d,iA s,zX ⟨10,tk0,[a],[]⟩,iA sl,iA f3] [] (hT d (jD 10 a) (-1) 0) []:=by
 have u:=zA bA d.au;rw[show zX ⟨10,tk0,[a],[]⟩= .agg [iA 10,zE yA tk0,.sl false [iA a],.sl false []]from Z];unfold wD hT jD zM xD zX;by_cases h2:0<=s
 .have z:(ln d.au:Int)<=s:=by omega
  refine eM call193 λF hF=>?_
  exact nl
 ·(refine eM call193 λF hF=>?_)
  exact nl
def Hw (hb:dH d):zO 193 [wD c,zM d,iA s,zX ⟨9,tk0,[],[]⟩,iA sl,iA f3] [] (hT d (QL d) (-1) 0) []:=by
 have E:=hb.q;have C:=zA zY d.rq;rw[show zX ⟨9,tk0,[],[]⟩= .agg [iA 9,zE yA tk0,.sl false [],.sl false []]from Z];unfold wD hT QL zM xD zX;refine eM call193 λF hF=>?_
 refine WL ?_;refine zQ 21 1001 1 Z Z Z ?_;refine zU (d.rq) [1001,7,12,13,17] [7,12,13,17] [7,12,13,17,18,105,106] [21,107,7,12,13,17,18,105,106] Z (λi f4 T U=>⟨(21,.ref 1001 0 ((gC f4).map iA).length)::(107,iA i)::T,(1001,.arr 1 ((gC f4).map iA) true)::U⟩) (Lq ?_ ?_)
 .intro i f4 x post u hi;have G:=yG zY u hi;have z:=zW u hi;have A:=XJ f4;have B:=zA iA (gC f4);have e:=LJ f4 x;clear u;rw[e];generalize (gC f4).map iA=xs at *;refine WW ?_;rfl
 ·(refine WD ?_)
  refine wB [6,7,9,12,13,17] [6,7,9,12,13,14,15,16,17,18,21] Z ?_
  (conv=>whnf)
  simp only[zBr,zA8];exact nl
end
def XS (d:wE):AV:=xD d.rg (zE zY d.rq) (zE qO d.dr) (.ref 1004 0 (d.au.map bA).length)
def DF (l:List Bool):xV:= .arr 1 (l.map bA) false
def kz (d:wE) (p:Ms) (k e:Int):AV:= .tup [XS d,zX p,iA k,iA e]
def Mq (l:List Bool) (h1:1<=ln l) (hl:ln l<=1073741824):zO 171 [zE bA l] [] (.ref 1004 0 (l.map bA).length) [(1004,DF l)]:=by
 have u:=zA bA l;unfold DF;refine eM call171 λF hF=>?_
 refine xI 0 Z (λcap z=>?_) ?_
 .have:l=[]:=by simpa using z
  subst this;simp at h1
 .repeat' (first|(apply zG;first|refine uN tok Z Z ?_|(apply wT;refine wJ (xX tok (.inl ⟨rfl,rfl⟩) Z Z Z Z) Z ?_)|(apply yI;refine qA (nw:=[1004]) (yV tok 1004 (xs:=[]) Z Z Z Z Z Z Z Z Z) Z Z Z ?_)|(apply yE;refine vC tok Z Z Z Z Z Z Z (yM _ _ (λ_=>rfl)) Z Z Z zB Z ?_)|apply kR)|(first|apply xY|apply xR|refine uD Z ?_|refine yR Z ?_|refine yC Z ?_|refine wA Z (λhc=>?_) λhc=>?_|apply xJ|apply xL|apply xO|apply xC))
  exact zP [1004] Z Z Z Z
def LP (d:wE) (hb:dH d) (h1:1<=ln d.au):zO 106 [zM d] [] (XS d) [(1004,DF d.au)]:=by
 have z:=bg d.rg hb.rg;have O:=hb.q;have B:=hb.n;have A:=hb.a;have I:=LE d.rq zB;have L:=LF d.dr zB;have M:=Mq d.au h1 zB;have E:=zA zY d.rq;have C:=zA qO d.dr;unfold XS zM xD;unfold DF at *;unfold uR at z;refine eM call106 λF hF=>?_
 refine yJ (xW z I) ?_;refine zN ((d.rq.map zY).length) [1001,1,2] [1,2] [1,2,15] [16,1,2,15] Z (λi T U=>⟨(16,iA i)::T,(1001,.arr 5 (dV i (d.rq.map zY)) false)::U⟩) (Lq ?_ ?_)
 .intro i hi;have hi':i<ln d.rq:=by omega
  have G:(dV i (d.rq.map zY))[i]? =some (zY (d.rq.getD i dd)):=zJ zY d.rq i hi';have e:=cH zY d.rq i hi';have u:=XF (d.rq.getD i dd).legs (hb.g (d.rq.getD i dd) QZ);generalize (d.rq.getD i dd)=t,dV i (d.rq.map zY)=xs,dV (i+1) (d.rq.map zY)=ys at *;subst e;refine zS u ?_;rfl
 ·(refine zS L ?_)
  refine zN ((d.dr.map qO).length) [1002,1,2,1001] [1,2,1001] [1,2,38] [39,1,2,38] Z (λi T U=>⟨(39,iA i)::T,(1002,.arr 1 (dV i (d.dr.map qO)) false)::U⟩) (Lq ?_ ?_)
  .intro i hi;have hi':i<ln d.dr:=by omega
   have G:(dV i (d.dr.map qO))[i]? =some (qO (d.dr.getD i dd)):=zJ qO d.dr i hi';have e:=cH qO d.dr i hi';have u:=kU (d.dr.getD i dd) (by have:=hb.e (d.dr.getD i dd) QZ;omega);generalize (d.dr.getD i dd)=t,dV i (d.dr.map qO)=xs,dV (i+1) (d.dr.map qO)=ys at *;subst e;refine zS u ?_;rfl
  ·(refine zS M ?_)
   refine zI [1004] Z Z ?_ Z
   show xD d.rg (.sl false ((d.rq.map zY).take (d.rq.map zY).length)) (.sl false ((d.dr.map qO).take (d.dr.map qO).length)) (.ref 1004 0 (d.au.map bA).length)=_
   rw[zA8,zA8];rfl
def LQ (d:wE) (hb:dH d):zO 125 [zM d] [] (XS d) [(1004,DF d.au)]:=by
 have z:=eI d.rg hb.rg;have O:=eK d.rq hb.q hb.g;have R:=hb.q;have B:=hb.n;have A:=hb.a;have G:=zA zY d.rq;have E:=zA qO d.dr;have C:=zA bA d.au;unfold XS zM xD;unfold DF;unfold uR at z;refine eM call125 λF hF=>?_
 (have ga:=z;have ge:=O;(repeat' (first|refine uT ?_|apply yW|apply xH|intro hc|(apply zG;first|(apply yE;refine xE 1004 tok Z Z Z Z Z Z (yM _ _ (λ_=>rfl)) Z Z Z zB Z Z Z ?_))|fail))<;>clear ga ge)
 refine zQ 4 1001 1 Z Z Z ?_;refine zU (d.dr) [1001,2,3,1004] [2,3,1004] [2,3,18,19] [4,20,2,3,18,19] Z (λi f4 T U=>⟨(4,.ref 1001 0 (f4.map qO).length)::(20,iA i)::T,(1001,.arr 1 (f4.map qO) true)::U⟩) (Lq ?_ ?_)
 .intro i f4 x post u hi;have V:=yG qO u hi;have I:=zW u hi;have L:(f4.map qO).length=i:=by rw[zA6,hi]
  have S:=hb.e x (yY u);have M:=zA yA x;have e:(f4++[x]).map qO=f4.map qO++[qO x]:=by simp
  clear u;rw[e];generalize f4.map qO=xs,d.dr.map qO=W at *;refine WL ?_;rfl
 ·(refine WL ?_)
  refine zI [1004] Z Z ?_ Z
  show xD d.rg (zE zY d.rq) (.sl false ((d.dr.map qO).take (d.dr.map qO).length)) (.ref 1004 0 (d.au.map bA).length)=_
  rw[zA8];rfl
def Gw (c:Cf) (d:wE) (s f3:Int) (E u:List Int) (a:Int) (R:0<=a) (h1:a<=1) (B:zO 267 [iA 10,zE yA E] [] (.tup [zX ⟨10,u,[a],[]⟩,iA 0]) []) (r:Rg) (M:Int)
  (A:zO 268 [uR d.rg,zX ⟨10,u,[a],[]⟩,iA f3] [] (.tup [uR r,iA M,iA 0]) []) (S:0<=s/\s<(ln d.au:Int)):
  zO 224 [wD c,XS d,iA s,vE ⟨0,10,E⟩,iA f3] [(1004,DF d.au)] (kz ⟨r,d.rq,d.dr,d.au.set s.toNat (a==1)⟩ (jD 10 a) (-1) 0) [(1004,DF (d.au.set s.toNat (a==1)))]:=by
 have L:=dI 10;have C:=EG 10 a;have G:=zA bA d.au;have I:=zJ bA d.au s.toNat zB;unfold jD zX at C;rw[show zX ⟨10,u,[a],[]⟩= .agg [iA 10,zE yA u,.sl false [iA a],.sl false []]from Z]at B A;unfold uR at A;have z:(d.au.set s.toNat (a==1)).map bA=(d.au.map bA).set s.toNat (bA (a==1)):=zCs;unfold wD kz XS xD vE jD zX DF;dsimp only;rw[z,zCk];generalize d.au.getD s.toNat dd=O,d.au.map bA=xs at *
 obtain rfl|rfl:a=0\/a=1:=by omega
 all_goals
  refine eM call224 λF hF=>?_
  refine QE (cM L B A C) ?_;exact zI [1004] Z Z Z Z
def Fw (c:Cf) (d:wE) (s f3:Int) (u:List Int) (C:Int) (a:Int) (G:0<=a) (h1:a<=1) (I:0<=s/\s<(ln d.au:Int)):
  zO 193 [wD c,XS d,iA s,zX ⟨10,u,[a],[]⟩,iA C,iA f3] [(1004,DF d.au)] (kz ⟨d.rg,d.rq,d.dr,d.au.set s.toNat (a==1)⟩ (jD 10 a) (-1) 0) [(1004,DF (d.au.set s.toNat (a==1)))]:=by
 have A:=zA bA d.au;have B:=zJ bA d.au s.toNat zB;rw[show zX ⟨10,u,[a],[]⟩= .agg [iA 10,zE yA u,.sl false [iA a],.sl false []]from Z];have z:(d.au.set s.toNat (a==1)).map bA=(d.au.map bA).set s.toNat (bA (a==1)):=zCs;unfold wD kz XS xD jD zX DF;dsimp only;rw[z,zCk];generalize d.au.getD s.toNat dd=E,d.au.map bA=xs at *
 obtain rfl|rfl:a=0\/a=1:=by omega
 all_goals
  refine eM call193 λF hF=>?_
  refine WL ?_;exact zI [1004] Z Z Z Z
