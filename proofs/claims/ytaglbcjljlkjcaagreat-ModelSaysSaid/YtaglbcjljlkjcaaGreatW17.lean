/- Part 17. -/
import Derived.Test.YtaglbcjljlkjcaaGreatW16
namespace Go.Proofs.YtaglbcjljlkjcaaGreat.Av
open Tryz
set_option linter.all false
set_option maxRecDepth 4000
set_option maxHeartbeats 4000000
open List renaming length->ln
open Inhabited renaming default->dd
section
variable (c:Cf) (d:wC) (s f3:Int) (tk0:List Int) (sl:Int)
def Xq:zN 193 [wE c,zM d,iA s,zW ⟨1,tk0,[],[]⟩,iA sl,iA f3] [] (hT d (RM d f3) (-1) 0) []:=by
 rw[show zW ⟨1,tk0,[],[]⟩= .agg [iA 1,zE yA tk0,.sl false [],.sl false []]from Z];unfold wE hT RM zM xD zW;refine eM call193 λF hF=>?_
 exact nl
def C4 (k:Int) (z:List Int) (a:Int) (u:List Int) (A:z=a::u) (hk:k=2\/k=3\/k=4\/k=5) (B:wC) (p:Ms) (e:Int) (C:zN 242 [zM d,zW ⟨k,tk0,z,[]⟩,iA sl,iA f3] [] (.tup [zM B,zW p,iA e]) []):
  zN 193 [wE c,zM d,iA s,zW ⟨k,tk0,z,[]⟩,iA sl,iA f3] [] (hT B p (-1) e) []:=by
 subst A;rw[show zW ⟨k,tk0,a::u,[]⟩= .agg [iA k,zE yA tk0,.sl false (iA a::u.map iA),.sl false []]from Z]at *; have hl:(iA a::u.map iA).length=ln u+1:=by rw[zA6,zAr]
 unfold zM xD zW at C;unfold wE hT zM xD zW
 rcases hk with rfl|rfl|rfl|rfl
 all_goals
  refine eM call193 λF hF=>?_
  exact oj C
def Wq (z:List Int) (a:Int) (u:List Int) (A:z=a::u) (G:0<=sl) (h1:sl<(ln d.rg.tk:Int)) (C:wC) (e:Int) (E:zN 243 [wE c,zM d,zW ⟨6,tk0,z,[]⟩,iA (d.rg.tk.getD sl.toNat dd).cls,iA f3] [] (.tup [zM C,iA e]) []):
  zN 193 [wE c,zM d,iA s,zW ⟨6,tk0,z,[]⟩,iA sl,iA f3] [] (hT C (jD 6 a) (-1) e) []:=by
 subst A;rw[show zW ⟨6,tk0,a::u,[]⟩= .agg [iA 6,zE yA tk0,.sl false (iA a::u.map iA),.sl false []]from Z]at *; have hl:(iA a::u.map iA).length=ln u+1:=by rw[zA6,zAr]
 have I:=zA yP d.rg.tk;have B:=yE yP d.rg.tk sl G h1;generalize (d.rg.tk.getD sl.toNat dd)=t at *;rw[show yP t= .agg [bA t.used,zE yA t.sec,iA t.par,iA t.rights,iA t.cls,iA t.til]from Z]at B;unfold wE zM xD at E;unfold wE hT jD zM xD zW;refine eM call193 λF hF=>?_
 exact oj E
def Vq (z:List Int) (a:Int) (u:List Int) (A:z=a::u) (B:wC) (e:Int) (C:zN 244 [zM d,zW ⟨7,tk0,z,[]⟩,iA f3] [] (.tup [zM B,iA e]) []):
  zN 193 [wE c,zM d,iA s,zW ⟨7,tk0,z,[]⟩,iA sl,iA f3] [] (hT B (jD 7 a) (-1) e) []:=by
 subst A;rw[show zW ⟨7,tk0,a::u,[]⟩= .agg [iA 7,zE yA tk0,.sl false (iA a::u.map iA),.sl false []]from Z]at *; have hl:(iA a::u.map iA).length=ln u+1:=by rw[zA6,zAr]
 unfold zM xD at C;unfold wE hT jD zM xD zW;refine eM call193 λF hF=>?_
 exact oj C
def B4 (a:Int) (l:List Rq) (e:Int) (z:zN 245 [zE zY d.rq,iA a] [] (.tup [zE zY l,iA e]) []):
  zN 193 [wE c,zM d,iA s,zW ⟨8,tk0,[a],[]⟩,iA sl,iA f3] [] (hT (Ef d (if e=0 then l else d.rq)) (jD 8 a) (-1) e) []:=by
 rw[show zW ⟨8,tk0,[a],[]⟩= .agg [iA 8,zE yA tk0,.sl false [iA a],.sl false []]from Z];unfold wE Ef hT jD zM xD zW;by_cases u:e=0
 .subst u;rw[f5 Z];refine eM call193 λF hF=>?_
  exact oj z
 .rw[Os u];refine eM call193 λF hF=>?_
  exact oj z
def sw (u:zN 246 [zM d] [] (zW (bY d)) []):zN 193 [wE c,zM d,iA s,zW ⟨12,tk0,[],[]⟩,iA sl,iA f3] [] (hT d (bY d) (-1) 0) []:=by
 rw[show zW ⟨12,tk0,[],[]⟩= .agg [iA 12,zE yA tk0,.sl false [],.sl false []]from Z];generalize bY d=p at *;unfold zM xD zW at u;unfold wE hT zM xD zW;refine eM call193 λF hF=>?_
 exact oj u
def iw (a:Int) (z:(ln c.js:Int)<=a):zN 193 [wE c,zM d,iA s,zW ⟨11,tk0,[a],[]⟩,iA sl,iA f3] [] (hT d (jD 11 a) (-1) 8) []:=by
 have u:=zA wJ c.js;rw[show zW ⟨11,tk0,[a],[]⟩= .agg [iA 11,zE yA tk0,.sl false [iA a],.sl false []]from Z];unfold wE hT jD zM xD zW;refine eM call193 λF hF=>?_
 exact nl
def Zw (a:Int) (z:a<(ln c.js:Int)):zN 193 [wE c,zM d,iA s,zW ⟨11,tk0,[a],[]⟩,iA sl,iA f3] [] (hT d (jD 11 a) a 0) []:=by
 have u:=zA wJ c.js;rw[show zW ⟨11,tk0,[a],[]⟩= .agg [iA 11,zE yA tk0,.sl false [iA a],.sl false []]from Z];unfold wE hT jD zM xD zW;refine eM call193 λF hF=>?_
 exact nl
def Yw (a:Int) (u:1<a):zN 193 [wE c,zM d,iA s,zW ⟨10,tk0,[a],[]⟩,iA sl,iA f3] [] (hT d (jD 10 a) (-1) 8) []:=by
 rw[show zW ⟨10,tk0,[a],[]⟩= .agg [iA 10,zE yA tk0,.sl false [iA a],.sl false []]from Z];unfold wE hT jD zM xD zW;refine eM call193 λF hF=>?_
 exact nl
def Xw (a:Int) (A:a<=1) (B:¬(0<=s/\s<(ln d.au:Int))):zN 193 [wE c,zM d,iA s,zW ⟨10,tk0,[a],[]⟩,iA sl,iA f3] [] (hT d (jD 10 a) (-1) 0) []:=by
 have u:=zA bA d.au;rw[show zW ⟨10,tk0,[a],[]⟩= .agg [iA 10,zE yA tk0,.sl false [iA a],.sl false []]from Z];unfold wE hT jD zM xD zW;by_cases h2:0<=s
 .have z:(ln d.au:Int)<=s:=by omega
  refine eM call193 λF hF=>?_
  exact nl
 ·(refine eM call193 λF hF=>?_)
  exact nl
def Ww (hb:dN d):zN 193 [wE c,zM d,iA s,zW ⟨9,tk0,[],[]⟩,iA sl,iA f3] [] (hT d (QD d) (-1) 0) []:=by
 have C:=hb.q;have B:=zA zY d.rq;rw[show zW ⟨9,tk0,[],[]⟩= .agg [iA 9,zE yA tk0,.sl false [],.sl false []]from Z];unfold wE hT QD zM xD zW;refine eM call193 λF hF=>?_
 refine WL ?_;refine zQ 21 1001 1 Z Z Z ?_;refine zU (d.rq) [1001,7,12,13,17] [7,12,13,17] [7,12,13,17,18,105,106] [21,107,7,12,13,17,18,105,106] Z (λi f4 T U=>⟨(21,.ref 1001 0 ((gA f4).map iA).length)::(107,iA i)::T,(1001,.arr 1 ((gA f4).map iA) true)::U⟩) (Lq ?_ ?_)
 .intro i f4 x post hx hi;have E:=yJ zY hx hi;have u:=zX hx hi;have z:=XI f4;have A:=zA iA (gA f4);have e:=MU f4 x;clear hx;rw[e];generalize (gA f4).map iA=xs at *;refine WW ?_;rfl
 ·(refine WD ?_)
  refine wI [6,7,9,12,13,17] [6,7,9,12,13,14,15,16,17,18,21] Z ?_
  (conv=>whnf)
  simp only[zBd,zAt];exact nl
end
def XT (d:wC):AV:=xD d.rg (zE zY d.rq) (zE qQ d.dr) (.ref 1004 0 (d.au.map bA).length)
def ER (l:List Bool):xW:= .arr 1 (l.map bA) false
def Ly (d:wC) (p:Ms) (k e:Int):AV:= .tup [XT d,zW p,iA k,iA e]
def Uq (l:List Bool) (h1:1<=ln l) (hl:ln l<=1073741824):zN 171 [zE bA l] [] (.ref 1004 0 (l.map bA).length) [(1004,ER l)]:=by
 have u:=zA bA l;unfold ER;refine eM call171 λF hF=>?_
 refine xH 0 Z (λcap hx=>?_) ?_
 .have:l=[]:=by simpa using hx
  subst this;simp at h1
 .repeat' (first|(apply zG;first|refine uL tok Z Z ?_|(apply wV;refine wM (xX tok (.inl ⟨rfl,rfl⟩) Z Z Z Z) Z ?_)|(apply yH;refine uU (nw:=[1004]) (yV tok 1004 (xs:=[]) Z Z Z Z Z Z Z Z Z) Z Z Z ?_)|(apply yC;refine vA tok Z Z Z Z Z Z Z (yM _ _ (λ_=>rfl)) Z Z Z zB Z ?_)|apply kP)|(first|apply xY|apply xR|refine vZ Z ?_|refine yR Z ?_|refine yD Z ?_|refine xZ Z (λhc=>?_) λhc=>?_|apply xJ|apply xL|apply xQ|apply xC))
  exact zP [1004] Z Z Z Z
def LD (d:wC) (hb:dN d) (h1:1<=ln d.au):zN 106 [zM d] [] (XT d) [(1004,ER d.au)]:=by
 have z:=Gf d.rg hb.rg;have O:=hb.q;have B:=hb.n;have A:=hb.a;have I:=MP d.rq zB;have L:=MQ d.dr zB;have M:=Uq d.au h1 zB;have E:=zA zY d.rq;have C:=zA qQ d.dr;unfold XT zM xD;unfold ER at *;unfold uQ at z;refine eM call106 λF hF=>?_
 refine yG (xV z I) ?_;refine zO ((d.rq.map zY).length) [1001,1,2] [1,2] [1,2,15] [16,1,2,15] Z (λi T U=>⟨(16,iA i)::T,(1001,.arr 5 (dR i (d.rq.map zY)) false)::U⟩) (Lq ?_ ?_)
 .intro i hi;have hi':i<ln d.rq:=by omega
  have G:(dR i (d.rq.map zY))[i]? =some (zY (d.rq.getD i dd)):=zJ zY d.rq i hi';have e:=cB zY d.rq i hi';have u:=XD (d.rq.getD i dd).legs (hb.g (d.rq.getD i dd) QK);generalize (d.rq.getD i dd)=t,dR i (d.rq.map zY)=xs,dR (i+1) (d.rq.map zY)=ys at *;subst e;refine zS u ?_;rfl
 ·(refine zS L ?_)
  refine zO ((d.dr.map qQ).length) [1002,1,2,1001] [1,2,1001] [1,2,38] [39,1,2,38] Z (λi T U=>⟨(39,iA i)::T,(1002,.arr 1 (dR i (d.dr.map qQ)) false)::U⟩) (Lq ?_ ?_)
  .intro i hi;have hi':i<ln d.dr:=by omega
   have G:(dR i (d.dr.map qQ))[i]? =some (qQ (d.dr.getD i dd)):=zJ qQ d.dr i hi';have e:=cB qQ d.dr i hi';have u:=kS (d.dr.getD i dd) (by have:=hb.e (d.dr.getD i dd) QK;omega);generalize (d.dr.getD i dd)=t,dR i (d.dr.map qQ)=xs,dR (i+1) (d.dr.map qQ)=ys at *;subst e;refine zS u ?_;rfl
  ·(refine zS M ?_)
   refine zH [1004] Z Z ?_ Z
   show xD d.rg (.sl false ((d.rq.map zY).take (d.rq.map zY).length)) (.sl false ((d.dr.map qQ).take (d.dr.map qQ).length)) (.ref 1004 0 (d.au.map bA).length)=_
   rw[zAt,zAt];rfl
def LE (d:wC) (hb:dN d):zN 125 [zM d] [] (XT d) [(1004,ER d.au)]:=by
 have u:=eI d.rg hb.rg;have M:=fZ d.rq hb.q hb.g;have O:=hb.q;have A:=hb.n;have z:=hb.a;have E:=zA zY d.rq;have C:=zA qQ d.dr;have B:=zA bA d.au;unfold XT zM xD;unfold ER;unfold uQ at u;refine eM call125 λF hF=>?_
 (have ga:=u;have ge:=M;(repeat' (first|refine uT ?_|apply yW|apply xI|intro hc|(apply zG;first|(apply yC;refine xG 1004 tok Z Z Z Z Z Z (yM _ _ (λ_=>rfl)) Z Z Z zB Z Z Z ?_))|fail))<;>clear ga ge)
 refine zQ 4 1001 1 Z Z Z ?_;refine zU (d.dr) [1001,2,3,1004] [2,3,1004] [2,3,18,19] [4,20,2,3,18,19] Z (λi f4 T U=>⟨(4,.ref 1001 0 (f4.map qQ).length)::(20,iA i)::T,(1001,.arr 1 (f4.map qQ) true)::U⟩) (Lq ?_ ?_)
 .intro i f4 x post hx hi;have S:=yJ qQ hx hi;have G:=zX hx hi;have I:(f4.map qQ).length=i:=by rw[zAr,hi]
  have R:=hb.e x (xA hx);have L:=zA yA x;have e:(f4++[x]).map qQ=f4.map qQ++[qQ x]:=by simp
  clear hx;rw[e];generalize f4.map qQ=xs,d.dr.map qQ=V at *;refine WL ?_;rfl
 ·(refine WL ?_)
  refine zH [1004] Z Z ?_ Z
  show xD d.rg (zE zY d.rq) (.sl false ((d.dr.map qQ).take (d.dr.map qQ).length)) (.ref 1004 0 (d.au.map bA).length)=_
  rw[zAt];rfl
def Uw (c:Cf) (d:wC) (s f3:Int) (E u:List Int) (a:Int) (R:0<=a) (h1:a<=1) (B:zN 267 [iA 10,zE yA E] [] (.tup [zW ⟨10,u,[a],[]⟩,iA 0]) []) (r:Rg) (M:Int)
  (A:zN 268 [uQ d.rg,zW ⟨10,u,[a],[]⟩,iA f3] [] (.tup [uQ r,iA M,iA 0]) []) (S:0<=s/\s<(ln d.au:Int)):
  zN 224 [wE c,XT d,iA s,vH ⟨0,10,E⟩,iA f3] [(1004,ER d.au)] (Ly ⟨r,d.rq,d.dr,d.au.set s.toNat (a==1)⟩ (jD 10 a) (-1) 0) [(1004,ER (d.au.set s.toNat (a==1)))]:=by
 have L:=dF 10;have C:=FG 10 a;have G:=zA bA d.au;have I:=zJ bA d.au s.toNat zB;unfold jD zW at C;rw[show zW ⟨10,u,[a],[]⟩= .agg [iA 10,zE yA u,.sl false [iA a],.sl false []]from Z]at B A;unfold uQ at A;have z:(d.au.set s.toNat (a==1)).map bA=(d.au.map bA).set s.toNat (bA (a==1)):=zCe;unfold wE Ly XT xD vH jD zW ER;dsimp only;rw[z,zB5];generalize d.au.getD s.toNat dd=O,d.au.map bA=xs at *
 obtain rfl|rfl:a=0\/a=1:=by omega
 all_goals
  refine eM call224 λF hF=>?_
  refine RE (cD L B A C) ?_;exact zH [1004] Z Z Z Z
def Tw (c:Cf) (d:wC) (s f3:Int) (u:List Int) (C:Int) (a:Int) (G:0<=a) (h1:a<=1) (I:0<=s/\s<(ln d.au:Int)):
  zN 193 [wE c,XT d,iA s,zW ⟨10,u,[a],[]⟩,iA C,iA f3] [(1004,ER d.au)] (Ly ⟨d.rg,d.rq,d.dr,d.au.set s.toNat (a==1)⟩ (jD 10 a) (-1) 0) [(1004,ER (d.au.set s.toNat (a==1)))]:=by
 have A:=zA bA d.au;have B:=zJ bA d.au s.toNat zB;rw[show zW ⟨10,u,[a],[]⟩= .agg [iA 10,zE yA u,.sl false [iA a],.sl false []]from Z];have z:(d.au.set s.toNat (a==1)).map bA=(d.au.map bA).set s.toNat (bA (a==1)):=zCe;unfold wE Ly XT xD jD zW ER;dsimp only;rw[z,zB5];generalize d.au.getD s.toNat dd=E,d.au.map bA=xs at *
 obtain rfl|rfl:a=0\/a=1:=by omega
 all_goals
  refine eM call193 λF hF=>?_
  refine WL ?_;exact zH [1004] Z Z Z Z
