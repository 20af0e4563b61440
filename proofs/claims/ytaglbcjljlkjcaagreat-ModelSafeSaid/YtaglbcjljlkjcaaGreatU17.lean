/- Part 17. -/
import Derived.Test.YtaglbcjljlkjcaaGreatU16
namespace Go.Proofs.YtaglbcjljlkjcaaGreat.Av
open Tryz
set_option linter.all false
set_option maxRecDepth 4000
set_option maxHeartbeats 4000000
open List renaming length->ln
open Inhabited renaming default->dd
section
variable (c:Cf) (d:wC) (s f4:Int) (tk0:List Int) (sl:Int)
def Tq:zN 193 [wH c,zM d,iA s,zX ⟨1,tk0,[],[]⟩,iA sl,iA f4] [] (hT d (RP d f4) (-1) 0) []:=by
 rw[show zX ⟨1,tk0,[],[]⟩= .agg [iA 1,zE yA tk0,.sl false [],.sl false []]from Z];unfold wH hT RP zM xD zX;refine eM call193 λF hF=>?_
 exact nm
def B4 (k:Int) (z:List Int) (a:Int) (u:List Int) (A:z=a::u) (hk:k=2\/k=3\/k=4\/k=5) (B:wC) (p:Ms) (e:Int) (C:zN 242 [zM d,zX ⟨k,tk0,z,[]⟩,iA sl,iA f4] [] (.tup [zM B,zX p,iA e]) []):
  zN 193 [wH c,zM d,iA s,zX ⟨k,tk0,z,[]⟩,iA sl,iA f4] [] (hT B p (-1) e) []:=by
 subst A;rw[show zX ⟨k,tk0,a::u,[]⟩= .agg [iA k,zE yA tk0,.sl false (iA a::u.map iA),.sl false []]from Z]at *; have hl:(iA a::u.map iA).length=ln u+1:=by rw[zA8,zAt]
 unfold zM xD zX at C;unfold wH hT zM xD zX
 rcases hk with rfl|rfl|rfl|rfl
 all_goals
  refine eM call193 λF hF=>?_
  exact pb C
def Sq (z:List Int) (a:Int) (u:List Int) (A:z=a::u) (G:0<=sl) (h1:sl<(ln d.rg.tk:Int)) (C:wC) (e:Int) (E:zN 243 [wH c,zM d,zX ⟨6,tk0,z,[]⟩,iA (d.rg.tk.getD sl.toNat dd).cls,iA f4] [] (.tup [zM C,iA e]) []):
  zN 193 [wH c,zM d,iA s,zX ⟨6,tk0,z,[]⟩,iA sl,iA f4] [] (hT C (jD 6 a) (-1) e) []:=by
 subst A;rw[show zX ⟨6,tk0,a::u,[]⟩= .agg [iA 6,zE yA tk0,.sl false (iA a::u.map iA),.sl false []]from Z]at *; have hl:(iA a::u.map iA).length=ln u+1:=by rw[zA8,zAt]
 have I:=zA yP d.rg.tk;have B:=yE yP d.rg.tk sl G h1;generalize (d.rg.tk.getD sl.toNat dd)=t at *;rw[show yP t= .agg [bA t.used,zE yA t.sec,iA t.par,iA t.rights,iA t.cls,iA t.til]from Z]at B;unfold wH zM xD at E;unfold wH hT jD zM xD zX;refine eM call193 λF hF=>?_
 exact pb E
def Qq (z:List Int) (a:Int) (u:List Int) (A:z=a::u) (B:wC) (e:Int) (C:zN 244 [zM d,zX ⟨7,tk0,z,[]⟩,iA f4] [] (.tup [zM B,iA e]) []):
  zN 193 [wH c,zM d,iA s,zX ⟨7,tk0,z,[]⟩,iA sl,iA f4] [] (hT B (jD 7 a) (-1) e) []:=by
 subst A;rw[show zX ⟨7,tk0,a::u,[]⟩= .agg [iA 7,zE yA tk0,.sl false (iA a::u.map iA),.sl false []]from Z]at *; have hl:(iA a::u.map iA).length=ln u+1:=by rw[zA8,zAt]
 unfold zM xD at C;unfold wH hT jD zM xD zX;refine eM call193 λF hF=>?_
 exact pb C
def A4 (a:Int) (l:List Rq) (e:Int) (z:zN 245 [zE zY d.rq,iA a] [] (.tup [zE zY l,iA e]) []):
  zN 193 [wH c,zM d,iA s,zX ⟨8,tk0,[a],[]⟩,iA sl,iA f4] [] (hT (Df d (if e=0 then l else d.rq)) (jD 8 a) (-1) e) []:=by
 rw[show zX ⟨8,tk0,[a],[]⟩= .agg [iA 8,zE yA tk0,.sl false [iA a],.sl false []]from Z];unfold wH Df hT jD zM xD zX;by_cases u:e=0
 .subst u;rw[zAs Z];refine eM call193 λF hF=>?_
  exact pb z
 .rw[Os u];refine eM call193 λF hF=>?_
  exact pb z
def sw (u:zN 246 [zM d] [] (zX (aA d)) []):zN 193 [wH c,zM d,iA s,zX ⟨12,tk0,[],[]⟩,iA sl,iA f4] [] (hT d (aA d) (-1) 0) []:=by
 rw[show zX ⟨12,tk0,[],[]⟩= .agg [iA 12,zE yA tk0,.sl false [],.sl false []]from Z];generalize aA d=p at *;unfold zM xD zX at u;unfold wH hT zM xD zX;refine eM call193 λF hF=>?_
 exact pb u
def iw (a:Int) (z:(ln c.js:Int)<=a):zN 193 [wH c,zM d,iA s,zX ⟨11,tk0,[a],[]⟩,iA sl,iA f4] [] (hT d (jD 11 a) (-1) 8) []:=by
 have u:=zA wD c.js;rw[show zX ⟨11,tk0,[a],[]⟩= .agg [iA 11,zE yA tk0,.sl false [iA a],.sl false []]from Z];unfold wH hT jD zM xD zX;refine eM call193 λF hF=>?_
 exact nm
def Zw (a:Int) (z:a<(ln c.js:Int)):zN 193 [wH c,zM d,iA s,zX ⟨11,tk0,[a],[]⟩,iA sl,iA f4] [] (hT d (jD 11 a) a 0) []:=by
 have u:=zA wD c.js;rw[show zX ⟨11,tk0,[a],[]⟩= .agg [iA 11,zE yA tk0,.sl false [iA a],.sl false []]from Z];unfold wH hT jD zM xD zX;refine eM call193 λF hF=>?_
 exact nm
def Yw (a:Int) (u:1<a):zN 193 [wH c,zM d,iA s,zX ⟨10,tk0,[a],[]⟩,iA sl,iA f4] [] (hT d (jD 10 a) (-1) 8) []:=by
 rw[show zX ⟨10,tk0,[a],[]⟩= .agg [iA 10,zE yA tk0,.sl false [iA a],.sl false []]from Z];unfold wH hT jD zM xD zX;refine eM call193 λF hF=>?_
 exact nm
def Xw (a:Int) (A:a<=1) (B:¬(0<=s/\s<(ln d.au:Int))):zN 193 [wH c,zM d,iA s,zX ⟨10,tk0,[a],[]⟩,iA sl,iA f4] [] (hT d (jD 10 a) (-1) 0) []:=by
 have u:=zA bA d.au;rw[show zX ⟨10,tk0,[a],[]⟩= .agg [iA 10,zE yA tk0,.sl false [iA a],.sl false []]from Z];unfold wH hT jD zM xD zX;by_cases h2:0<=s
 .have z:(ln d.au:Int)<=s:=by omega
  refine eM call193 λF hF=>?_
  exact nm
 ·(refine eM call193 λF hF=>?_)
  exact nm
def Ww (hb:dN d):zN 193 [wH c,zM d,iA s,zX ⟨9,tk0,[],[]⟩,iA sl,iA f4] [] (hT d (QF d) (-1) 0) []:=by
 have E:=hb.q;have C:=zA zY d.rq;rw[show zX ⟨9,tk0,[],[]⟩= .agg [iA 9,zE yA tk0,.sl false [],.sl false []]from Z];unfold wH hT QF zM xD zX;refine eM call193 λF hF=>?_
 refine WL ?_;refine zQ 21 1001 1 Z Z Z ?_;refine zU (d.rq) [1001,7,12,13,17] [7,12,13,17] [7,12,13,17,18,105,106] [21,107,7,12,13,17,18,105,106] Z (λi ga T U=>⟨(21,.ref 1001 0 ((gC ga).map iA).length)::(107,iA i)::T,(1001,.arr 1 ((gC ga).map iA) true)::U⟩) (Lq ?_ ?_)
 .intro i ga x post u hi;have G:=yJ zY u hi;have z:=zW u hi;have A:=XH ga;have B:=zA iA (gC ga);have e:=LC ga x;clear u;rw[e];generalize (gC ga).map iA=xs at *;refine WW ?_;rfl
 ·(refine WD ?_)
  refine wJ [6,7,9,12,13,17] [6,7,9,12,13,14,15,16,17,18,21] Z ?_
  (conv=>whnf)
  simp only[zBf,zAv];exact nm
end
def XU (d:wC):AV:=xD d.rg (zE zY d.rq) (zE qO d.dr) (.ref 1004 0 (d.au.map bA).length)
def EU (l:List Bool):xW:= .arr 1 (l.map bA) false
def Ky (d:wC) (p:Ms) (k e:Int):AV:= .tup [XU d,zX p,iA k,iA e]
def Pq (l:List Bool) (h1:1<=ln l) (hl:ln l<=1073741824):zN 171 [zE bA l] [] (.ref 1004 0 (l.map bA).length) [(1004,EU l)]:=by
 have u:=zA bA l;unfold EU;refine eM call171 λF hF=>?_
 refine xI 0 Z (λcap z=>?_) ?_
 .have:l=[]:=by simpa using z
  subst this;simp at h1
 .repeat' (first|(apply zG;first|refine uM tok Z Z ?_|(apply wY;refine wM (xY tok (.inl ⟨rfl,rfl⟩) Z Z Z Z) Z ?_)|(apply yH;refine uT (nw:=[1004]) (yV tok 1004 (xs:=[]) Z Z Z Z Z Z Z Z Z) Z Z Z ?_)|(apply yC;refine vB tok Z Z Z Z Z Z Z (yM _ _ (λ_=>rfl)) Z Z Z zB Z ?_)|apply kQ)|(first|apply xX|apply xT|refine vZ Z ?_|refine yS Z ?_|refine yD Z ?_|refine xZ Z (λhc=>?_) λhc=>?_|apply xJ|apply xL|apply xS|apply xB))
  exact zP [1004] Z Z Z Z
def LK (d:wC) (hb:dN d) (h1:1<=ln d.au):zN 106 [zM d] [] (XU d) [(1004,EU d.au)]:=by
 have z:=Ff d.rg hb.rg;have O:=hb.q;have B:=hb.n;have A:=hb.a;have I:=MX d.rq zB;have L:=MY d.dr zB;have M:=Pq d.au h1 zB;have E:=zA zY d.rq;have C:=zA qO d.dr;unfold XU zM xD;unfold EU at *;unfold uQ at z;refine eM call106 λF hF=>?_
 refine yF (xQ z I) ?_;refine zO ((d.rq.map zY).length) [1001,1,2] [1,2] [1,2,15] [16,1,2,15] Z (λi T U=>⟨(16,iA i)::T,(1001,.arr 5 (dR i (d.rq.map zY)) false)::U⟩) (Lq ?_ ?_)
 .intro i hi;have hi':i<ln d.rq:=by omega
  have G:(dR i (d.rq.map zY))[i]? =some (zY (d.rq.getD i dd)):=zJ zY d.rq i hi';have e:=cB zY d.rq i hi';have u:=XC (d.rq.getD i dd).legs (hb.g (d.rq.getD i dd) QM);generalize (d.rq.getD i dd)=t,dR i (d.rq.map zY)=xs,dR (i+1) (d.rq.map zY)=ys at *;subst e;refine zS u ?_;rfl
 ·(refine zS L ?_)
  refine zO ((d.dr.map qO).length) [1002,1,2,1001] [1,2,1001] [1,2,38] [39,1,2,38] Z (λi T U=>⟨(39,iA i)::T,(1002,.arr 1 (dR i (d.dr.map qO)) false)::U⟩) (Lq ?_ ?_)
  .intro i hi;have hi':i<ln d.dr:=by omega
   have G:(dR i (d.dr.map qO))[i]? =some (qO (d.dr.getD i dd)):=zJ qO d.dr i hi';have e:=cB qO d.dr i hi';have u:=kT (d.dr.getD i dd) (by have:=hb.e (d.dr.getD i dd) QM;omega);generalize (d.dr.getD i dd)=t,dR i (d.dr.map qO)=xs,dR (i+1) (d.dr.map qO)=ys at *;subst e;refine zS u ?_;rfl
  ·(refine zS M ?_)
   refine zI [1004] Z Z ?_ Z
   show xD d.rg (.sl false ((d.rq.map zY).take (d.rq.map zY).length)) (.sl false ((d.dr.map qO).take (d.dr.map qO).length)) (.ref 1004 0 (d.au.map bA).length)=_
   rw[zAv,zAv];rfl
def LL (d:wC) (hb:dN d):zN 125 [zM d] [] (XU d) [(1004,EU d.au)]:=by
 have z:=eI d.rg hb.rg;have O:=eE d.rq hb.q hb.g;have S:=hb.q;have B:=hb.n;have A:=hb.a;have G:=zA zY d.rq;have E:=zA qO d.dr;have C:=zA bA d.au;unfold XU zM xD;unfold EU;unfold uQ at z;refine eM call125 λF hF=>?_
 (have gd:=z;have gn:=O;(repeat' (first|refine uS ?_|apply yW|apply xH|intro hc|(apply zG;first|(apply yC;refine xG 1004 tok Z Z Z Z Z Z (yM _ _ (λ_=>rfl)) Z Z Z zB Z Z Z ?_))|fail))<;>clear gd gn)
 refine zQ 4 1001 1 Z Z Z ?_;refine zU (d.dr) [1001,2,3,1004] [2,3,1004] [2,3,18,19] [4,20,2,3,18,19] Z (λi ga T U=>⟨(4,.ref 1001 0 (ga.map qO).length)::(20,iA i)::T,(1001,.arr 1 (ga.map qO) true)::U⟩) (Lq ?_ ?_)
 .intro i ga x post u hi;have W:=yJ qO u hi;have I:=zW u hi;have L:(ga.map qO).length=i:=by rw[zAt,hi]
  have V:=hb.e x (xA u);have M:=zA yA x;have e:(ga++[x]).map qO=ga.map qO++[qO x]:=by simp
  clear u;rw[e];generalize ga.map qO=xs,d.dr.map qO=Y at *;refine WL ?_;rfl
 ·(refine WL ?_)
  refine zI [1004] Z Z ?_ Z
  show xD d.rg (zE zY d.rq) (.sl false ((d.dr.map qO).take (d.dr.map qO).length)) (.ref 1004 0 (d.au.map bA).length)=_
  rw[zAv];rfl
def Uw (c:Cf) (d:wC) (s f4:Int) (E u:List Int) (a:Int) (S:0<=a) (h1:a<=1) (B:zN 267 [iA 10,zE yA E] [] (.tup [zX ⟨10,u,[a],[]⟩,iA 0]) []) (r:Rg) (M:Int)
  (A:zN 268 [uQ d.rg,zX ⟨10,u,[a],[]⟩,iA f4] [] (.tup [uQ r,iA M,iA 0]) []) (U:0<=s/\s<(ln d.au:Int)):
  zN 224 [wH c,XU d,iA s,vO ⟨0,10,E⟩,iA f4] [(1004,EU d.au)] (Ky ⟨r,d.rq,d.dr,d.au.set s.toNat (a==1)⟩ (jD 10 a) (-1) 0) [(1004,EU (d.au.set s.toNat (a==1)))]:=by
 have L:=dE 10;have C:=FK 10 a;have G:=zA bA d.au;have I:=zJ bA d.au s.toNat zB;unfold jD zX at C;rw[show zX ⟨10,u,[a],[]⟩= .agg [iA 10,zE yA u,.sl false [iA a],.sl false []]from Z]at B A;unfold uQ at A;have z:(d.au.set s.toNat (a==1)).map bA=(d.au.map bA).set s.toNat (bA (a==1)):=zCe;unfold wH Ky XU xD vO jD zX EU;dsimp only;rw[z,zB9];generalize d.au.getD s.toNat dd=O,d.au.map bA=xs at *
 obtain rfl|rfl:a=0\/a=1:=by omega
 all_goals
  refine eM call224 λF hF=>?_
  refine RH (cI L B A C) ?_;exact zI [1004] Z Z Z Z
def Tw (c:Cf) (d:wC) (s f4:Int) (u:List Int) (C:Int) (a:Int) (G:0<=a) (h1:a<=1) (I:0<=s/\s<(ln d.au:Int)):
  zN 193 [wH c,XU d,iA s,zX ⟨10,u,[a],[]⟩,iA C,iA f4] [(1004,EU d.au)] (Ky ⟨d.rg,d.rq,d.dr,d.au.set s.toNat (a==1)⟩ (jD 10 a) (-1) 0) [(1004,EU (d.au.set s.toNat (a==1)))]:=by
 have A:=zA bA d.au;have B:=zJ bA d.au s.toNat zB;rw[show zX ⟨10,u,[a],[]⟩= .agg [iA 10,zE yA u,.sl false [iA a],.sl false []]from Z];have z:(d.au.set s.toNat (a==1)).map bA=(d.au.map bA).set s.toNat (bA (a==1)):=zCe;unfold wH Ky XU xD jD zX EU;dsimp only;rw[z,zB9];generalize d.au.getD s.toNat dd=E,d.au.map bA=xs at *
 obtain rfl|rfl:a=0\/a=1:=by omega
 all_goals
  refine eM call193 λF hF=>?_
  refine WL ?_;exact zI [1004] Z Z Z Z
