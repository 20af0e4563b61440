/- Part 29. -/
import Derived.Test.YtaglbcjljlkjcaaGreatU28
namespace Go.Proofs.YtaglbcjljlkjcaaGreat.Av
open Tryz
set_option linter.all false
set_option maxRecDepth 4000
set_option maxHeartbeats 8000000
open List renaming length->ln,take->pi,getD->py
open Inhabited renaming default->dd
def bG (y:Cy) (j p:Int):Cy:=if(0<=j/\j<(ln y.c.js:Int))/\0<=p/\p<((y.c.js.getD j.toNat dd).ph.length:Int)then⟨y.c,false,y.f4,y.ds,y.sg,y.sv,y.st.set j.toNat p,y.vw⟩else y
def zr {y:Cy} (h:LR y) (j p:Int):LR (bG y j p):=by
 unfold bG;split
 .exact⟨h.v,rfl,h.n0,h.dl,h.di,h.dg,h.sc,h.gl,h.sl,by dsimp only;rw[zB9];exact h.tl,h.wl,h.wb,h.j⟩
 .exact h
def drD (d:wC) (x:List Int):wC:=⟨d.rg,d.rq,d.dr++[x],d.au⟩
def TZ (y:Cy) (a:Int) (x:List Int):Cy:=if(0<=a/\a<(ln y.ds:Int))/\x.length=8/\(y.ds.getD a.toNat dd).dr.length<8 then⟨y.c,false,y.f4,y.ds.set a.toNat (drD (y.ds.getD a.toNat dd) x),y.sg,y.sv,y.st,y.vw⟩else y
def D8 {y:Cy} (h:LR y) {a:Int} {d:List Int} (hd:BY d):LR (TZ y a d):=by
 unfold TZ;split
 case isFalse=>exact h
 rename_i hc;obtain⟨⟨a0,E⟩,G,I⟩:=hc;have A:a.toNat<ln y.ds:=by omega
 generalize a.toNat=n at *;have u:=h.di _ (yK y.ds n A);refine⟨h.v,rfl,h.n0,by dsimp only;rw[zB9];exact h.dl,λz B=>?_,λi hi=>?_,λz B=>?_,h.gl,h.sl,h.tl,h.wl,h.wb,h.j⟩
 .rcases zDu B with B|rfl
  .exact h.di z B
  .refine⟨u.b,u.v,u.q,u.lg,u.a,u.n,u.t8,u.br,u.bb,u.bl,u.au,?_,λx C=>?_,u.vh⟩
   .grind [BY,TZ,drD,List.length_append,List.length_cons,List.length_nil]
   .rcases zBe.1 C with C|C
    .exact u.dr x C
    all_goals grind
 .dsimp only at hi⊢;rw[zB9]at hi;rw[KT _ _ _ _ hi];split
  .rename_i e;rw[<-e];exact h.dg n A
  .exact h.dg i hi
 .rcases zDu B with B|rfl
  .exact h.sc z B
  .exact h.sc (y.ds.getD n dd) (yK y.ds n A)
def Ai (y:Cy) (h:LR y) (j p:Int):∃C:Cy,LR C/\C=bG y j p/\zN 27 [qA y,iA j,iA p] [] (qA C) []:=by
 have hb:=h.b;have z:=h.rf;have M:=zA wD y.c.js;have S:=zA iA y.st;have I:=h.tl;have B:qA y= .agg [zE wD y.c.js,zE uF y.c.ags,iA y.c.per,iA y.c.cap,iA y.c.hold,iA y.c.lock,bA false,iA y.f4,zE zM y.ds,zE wU y.sg,zE wP y.sv,zE iA y.st,zE vG y.vw]:=by rw[<-z];rfl
 by_cases hj:0<=j/\j<(ln y.c.js:Int)
 case neg=>
  refine⟨y,h,by unfold bG;rw[Os (λh=>hj h.1)],?_⟩;have u:=OW y hb;rw[B]at u⊢;by_cases L:j<0
  all_goals
   (refine eM call27 λF hF=>?_)
   exact nl u
 obtain⟨j0,j1⟩:=hj;have A:=yE wD y.c.js j j0 j1;have O:=zA xN (y.c.js.getD j.toNat dd).ph;by_cases G:0<=p/\p<((y.c.js.getD j.toNat dd).ph.length:Int)
 case neg=>
  refine⟨y,h,by unfold bG;rw[Os (λh=>G h.2)],?_⟩;have u:=OW y hb;rw[B]at u⊢;generalize y.c.js.getD j.toNat dd=V at *;unfold wD at A;by_cases L:p<0
  all_goals
   (refine eM call27 λF hF=>?_)
   exact nl u
 obtain⟨W,Y⟩:=G;refine⟨_,zr h j p,rfl,?_⟩;rw[show bG y j p=⟨y.c,false,y.f4,y.ds,y.sg,y.sv,y.st.set j.toNat p,y.vw⟩ by unfold bG;rw[zAs ⟨⟨j0,j1⟩,W,Y⟩]];have u:=OV y hb;unfold LV LW aF at u;rw[B,z]at u;rw[B];have E:(y.st.set j.toNat p).map iA=(y.st.map iA).set j.toNat (iA p):=zCe ..;rw[show qA ⟨y.c,false,y.f4,y.ds,y.sg,y.sv,y.st.set j.toNat p,y.vw⟩= .agg [zE wD y.c.js,zE uF y.c.ags,iA y.c.per,iA y.c.cap,iA y.c.hold,iA y.c.lock,bA false,iA y.f4,zE zM y.ds,zE wU y.sg,zE wP y.sv,.sl false ((y.st.map iA).set j.toNat (iA p)),zE vG y.vw] by rw[<-E];rfl];clear E;have U:=yE iA y.st j j0 zB;generalize y.c.js.getD j.toNat dd=V at *;unfold wD at A;refine eM call27 λF hF=>?_
 refine zS u ?_;refine zI [] Z Z ?_ Z
 show AV.agg [_,_,_,_,_,_,_,_,.sl false (pi (y.ds.map zM).length (y.ds.map zM)),.sl false (pi (y.sg.map wU).length (y.sg.map wU)),.sl false (pi (y.sv.map wP).length (y.sv.map wP)),.sl false (pi (y.st.map iA).length ((y.st.map iA).set j.toNat (iA p))),_]=_
 rw[zAv,zAv,zAv,zA2 jl];rfl
theorem XK (y:Cy) (h:Q6 y):zN 53 [qA y] [] (LV y) (LW y):=by
 have E:=zA zM y.ds;have G:=zA wU y.sg;have I:=zA wP y.sv;have L:=zA iA y.st;have M:=zA vG y.vw;have hd:=h.d;have O:=h.g;have S:=h.s;have V:=h.t;have hv:=h.v;unfold qA LV aF LW;refine eM call53 λF hF=>?_
 (repeat' (first|refine uS ?_|apply yW|apply xH|intro hc|(apply zG;first|(apply yC;first|refine xG 1014 tok Z Z Z Z Z Z (yM _ _ (λ_=>rfl)) Z Z Z zB Z Z Z ?_|refine xG 1016 tok Z Z Z Z Z Z (yM _ _ (λ_=>rfl)) Z Z Z zB Z Z Z ?_))|fail))
 refine zQ 4 1011 17 Z Z Z ?_;refine zU (y.ds) [1011,1,2,3,1014,1016] [1,2,3,1014,1016] [1,2,3,27,28] [4,29,1,2,3,27,28] Z (λi ga T U=>⟨(4,.ref 1011 0 (ga.map zM).length)::(29,iA i)::T,(1011,.arr 17 (ga.map zM) true)::U⟩) (Lq ?_ ?_)
 .intro i ga x post u hi;have C:=yJ zM u hi;have z:=zW u hi;have A:(ga.map zM).length=i:=by rw[zAt,hi]
  have B:=kN x (h.db x (xA u));have e:(ga++[x]).map zM=ga.map zM++[zM x]:=by simp
  clear u;rw[e];generalize ga.map zM=xs at *;unfold zM xD at*
  (have gd:=B;(repeat' (first|refine jZ ?_|apply yW|apply xH|intro hc|(apply zG;first|(apply yH;refine vD tok Z Z ?_))|refine SB ?_|fail))<;>clear gd)
  rfl
 .refine kE 1011 [4] Z Z Z Z Z ?_;refine WW ?_;refine zQ 7 1012 5 Z Z Z ?_;refine zU (y.sg) [1012,1,2,3,1011,1014,1016] [1,2,3,1011,1014,1016] [1,2,3,4,40,41] [7,42,1,2,3,4,40,41] Z (λi ga T U=>⟨(7,.ref 1012 0 (ga.map wU).length)::(42,iA i)::T,(1012,.arr 5 (ga.map wU) true)::U⟩) (Lq ?_ ?_)
  .intro i ga x post u hi;have C:=yJ wU u hi;have z:=zW u hi;have A:(ga.map wU).length=i:=by rw[zAt,hi]
   have hb:=h.gb x (xA u);have B:=PO x zB zB;have e:(ga++[x]).map wU=ga.map wU++[wU x]:=by simp
   clear u;rw[e];generalize ga.map wU=xs at *;unfold wU at*
   (have gd:=B;(repeat' (first|refine jZ ?_|apply yW|apply xH|intro hc|(apply zG;first|(apply yH;refine vD tok Z Z ?_))|refine SB ?_|fail))<;>clear gd)
   rfl
  .refine kE 1012 [7] Z Z Z Z Z ?_;refine WW ?_;refine zQ 10 1013 3 Z Z Z ?_;refine zU (y.sv) [1013,2,3,1011,1012,1014,1016] [2,3,1011,1012,1014,1016] [2,3,4,7,53,54] [10,55,2,3,4,7,53,54] Z (λi ga T U=>⟨(10,.ref 1013 0 (ga.map wP).length)::(55,iA i)::T,(1013,.arr 3 (ga.map wP) true)::U⟩) (Lq ?_ ?_)
   .intro i ga x post u hi;have C:=yJ wP u hi;have z:=zW u hi;have A:(ga.map wP).length=i:=by rw[zAt,hi]
    have hb:=h.sb x (xA u);have B:=NU x ⟨zB⟩;have e:(ga++[x]).map wP=ga.map wP++[wP x]:=by simp
    clear u;rw[e];generalize ga.map wP=xs at *;unfold wP at*
    (have gd:=B;(repeat' (first|refine jZ ?_|apply yW|apply xH|intro hc|(apply zG;first|(apply yH;refine vD tok Z Z ?_))|refine SB ?_|fail))<;>clear gd)
    rfl
   .refine kE 1013 [10] Z Z Z Z Z ?_;refine WW ?_;refine zI [1011,1012,1013,1014] Z Z ?_ Z
    show AV.agg [zE wD y.c.js,zE uF y.c.ags,iA y.c.per,iA y.c.cap,iA y.c.hold,iA y.c.lock,bA y.rf,iA y.f4,.ref 1011 0 (y.ds.map zM).length,.ref 1012 0 (y.sg.map wU).length,.ref 1013 0 (y.sv.map wP).length,.ref 1014 0 (y.st.map iA).length,.sl false (pi (y.vw.map vG).length (y.vw.map vG))]=_
    rw[zAv];rfl
def aB (y:Cy) (h:Q6 y):zN 53 [qA y] [] (qA y) []:=ae (XK y h)
def yr (y:Cy) (h:LR y) (j p:Int):zN 17 [qA y,iA j,iA p] [] (qA (bG y j p)) []:=by
 have hb:=h.b;have z:=h.rf;have L:=zA wD y.c.js;have O:=zA iA y.st;have G:=h.tl;have B:=cN z;by_cases hj:0<=j/\j<(ln y.c.js:Int)
 case neg=>
  rw[show bG y j p=y by unfold bG;rw[Os (λh=>hj h.1)]];have u:=aB y hb;rw[B]at u⊢;by_cases I:j<0
  all_goals
   refine eM call17 λF hF=>?_
   exact nl u
 obtain⟨j0,j1⟩:=hj;have A:=yE wD y.c.js j j0 j1;have M:=zA xN (y.c.js.getD j.toNat dd).ph;by_cases E:0<=p/\p<((y.c.js.getD j.toNat dd).ph.length:Int)
 case neg=>
  rw[show bG y j p=y by unfold bG;rw[Os (λh=>E h.2)]];have u:=aB y hb;rw[B]at u⊢;generalize y.c.js.getD j.toNat dd=U at *;unfold wD at A;by_cases I:p<0
  all_goals
   refine eM call17 λF hF=>?_
   exact nl u
 obtain⟨V,W⟩:=E;rw[show bG y j p=⟨y.c,false,y.f4,y.ds,y.sg,y.sv,y.st.set j.toNat p,y.vw⟩ by unfold bG;rw[zAs ⟨⟨j0,j1⟩,V,W⟩]];have u:=XK y hb;unfold LV LW aF at u;rw[B,z]at u;rw[B];have C:(y.st.set j.toNat p).map iA=(y.st.map iA).set j.toNat (iA p):=zCe ..;rw[show qA ⟨y.c,false,y.f4,y.ds,y.sg,y.sv,y.st.set j.toNat p,y.vw⟩= .agg [zE wD y.c.js,zE uF y.c.ags,iA y.c.per,iA y.c.cap,iA y.c.hold,iA y.c.lock,bA false,iA y.f4,zE zM y.ds,zE wU y.sg,zE wP y.sv,.sl false ((y.st.map iA).set j.toNat (iA p)),zE vG y.vw] by rw[<-C];rfl];clear C;have S:=yE iA y.st j j0 zB;generalize y.c.js.getD j.toNat dd=U at *;unfold wD at A;refine eM call17 λF hF=>?_
 refine zS u ?_;refine zI [] Z Z ?_ Z
 show AV.agg [_,_,_,_,_,_,_,_,.sl false (pi (y.ds.map zM).length (y.ds.map zM)),.sl false (pi (y.sg.map wU).length (y.sg.map wU)),.sl false (pi (y.sv.map wP).length (y.sv.map wP)),.sl false (pi (y.st.map iA).length ((y.st.map iA).set j.toNat (iA p))),_]=_
 rw[zAv,zAv,zAv,zA2 jl];rfl
theorem xx (y:Cy) (h:LR y) (a:Int) (d:List Int) (S:ln d<=1000000):zN 37 [qA y,iA a,zE yA d] [] (qA (TZ y a d)) []:=by
 have hb:=h.b;have A:=h.rf;have U:=zA zM y.ds;have V:=zA yA d;have C:=cN A;by_cases M:0<=a/\a<(ln y.ds:Int)
 case neg=>
  rw[show TZ y a d=y by unfold TZ;rw[Os (λh=>M h.1)]];have u:=aB y hb;rw[C]at u⊢;by_cases h0:a<0
  all_goals
   refine eM call37 λF hF=>?_
   exact nl u
 obtain⟨a0,I⟩:=M;have z:=yE zM y.ds a a0 I;have O:=h.di _ (yK y.ds a.toNat zB);have W:=O.dn;by_cases E:ln d=8/\(y.ds.getD a.toNat dd).dr.length<8
 case neg=>
  rw[show TZ y a d=y by unfold TZ;rw[Os (λh=>E h.2)]];have u:=aB y hb;rw[C]at u⊢;generalize y.ds.getD a.toNat dd=x at *;have G:=zA qO x.dr;unfold zM xD at z;by_cases h9:ln d=8
  all_goals
   refine eM call37 λF hF=>?_
   exact nl u
 obtain⟨E,Y⟩:=E;rw[show TZ y a d=⟨y.c,false,y.f4,y.ds.set a.toNat ⟨(y.ds.getD a.toNat dd).rg,(y.ds.getD a.toNat dd).rq,(y.ds.getD a.toNat dd).dr++[d],(y.ds.getD a.toNat dd).au⟩,y.sg,y.sv,y.st,y.vw⟩ by unfold TZ;rw[zAs ⟨⟨a0,I⟩,E,Y⟩];rfl];have u:=XK y hb;unfold LV LW aF at u;rw[C,A]at u;rw[C];generalize y.ds.getD a.toNat dd=x at *;have G:=zA qO x.dr;have B:(x.dr++[d]).map qO=x.dr.map qO++[.sl false (d.map yA)]:=by rw[zA0];rfl
 have L:(y.ds.set a.toNat ⟨x.rg,x.rq,x.dr++[d],x.au⟩).map zM=(y.ds.map zM).set a.toNat (xD x.rg (zE zY x.rq) (.sl false (x.dr.map qO++[.sl false (d.map yA)])) (zE bA x.au)):=by rw[zCe,<-B];rfl
 rw[show qA ⟨y.c,false,y.f4,y.ds.set a.toNat ⟨x.rg,x.rq,x.dr++[d],x.au⟩,y.sg,y.sv,y.st,y.vw⟩= .agg [zE wD y.c.js,zE uF y.c.ags,iA y.c.per,iA y.c.cap,iA y.c.hold,iA y.c.lock,bA false,iA y.f4,.sl false ((y.ds.map zM).set a.toNat (xD x.rg (zE zY x.rq) (.sl false (x.dr.map qO++[.sl false (d.map yA)])) (zE bA x.au))),zE wU y.sg,zE wP y.sv,zE iA y.st,zE vG y.vw] by rw[<-L];rfl];clear L;clear B;unfold zM xD at z;unfold xD;refine eM call37 λF hF=>?_
 (have gd:=u;(repeat' (first|refine jZ ?_|apply yW|apply xH|intro hc|(apply zG;first|(apply Qn;refine wM (bM Z Z z) Z ?_)|(apply yH;refine vD tok Z Z ?_)|(apply yC;first|refine xG 1005 tok Z Z Z Z Z Z (yM _ _ (λ_=>rfl)) Z Z Z zB Z Z Z ?_|refine kZ tok Z Z Z Z Z Z (yM _ _ (λ_=>rfl)) Z Z Z zB Z ?_))|refine SB ?_|fail))<;>clear gd)
 refine vV [6,7,1011,1012,1013,1014] [6,7,48,50] Z ?_
 (conv=>whnf)
 simp only[zBf,zAv];refine WW ?_;refine zI [] Z Z ?_ Z
 show AV.agg [_,_,_,_,_,_,_,_,.sl false (pi (y.ds.map zM).length ((y.ds.map zM).set a.toNat _)),.sl false (pi (y.sg.map wU).length (y.sg.map wU)),.sl false (pi (y.sv.map wP).length (y.sv.map wP)),.sl false (pi (y.st.map iA).length (y.st.map iA)),_]=_
 rw[zAv,zAv,zAv,zA2 jl];rfl
theorem xr (f g A:Int) (u:List Int) (E:0<=f):∀i,i<=ln u->IY f g A u i=if(i:Int)<=f\/g<=0 then((u.take i).map jT).flatten else((u.take f.toNat).map jT).flatten++(jT A++(((u.drop f.toNat).take (i-f.toNat)).map jT).flatten)
 |0,_=>by rw[zAs zB];rfl
 | i +1,hi=>by
  have z:=xr f g A u E i zB
  have e:u.take (i+1)=u.take i++[u.getD i dd]:=by
   rw[zA5,zBq zB,zDn,zDl zB]
  unfold IY;by_cases B:g<=0
  .rw[Os zB,z,zAs (.inr B),zAs (.inr B),e,zA0,zEe];simp
  .by_cases h1:(i:Int)<f
   .rw[Os zB,z,zAs zB,zAs zB,e,zA0,zEe];simp
   .rw[Os (show¬(((i+1:Nat):Int)<=f\/g<=0) by omega)]
    have C:(u.drop f.toNat).take (i+1-f.toNat)=(u.drop f.toNat).take (i-f.toNat)++[u.getD i dd]:=by
     rw[show i+1-f.toNat=(i-f.toNat)+1 by omega,zDl CF,List.getElem_drop,zA5,zBq zB,zDn]
     congr 3
     omega
    rw[C,zA0,zEe];by_cases h2:(i:Int)=f
    .subst h2;rw[zAs ⟨rfl,zB⟩,z,zAs zB];simp
    .rw[Os zB,z,Os zB];simp
def T5 (f g z:Int) (u:List Int) (B:0<=f) (E:f<=ln u):OR f g z u (ln u)=((u.take f.toNat).map jT).flatten++((if 0<g then jT z else [])++((u.drop f.toNat).map jT).flatten):=by
 have C:=xr f g z u B (ln u) (zAy _);have A:(u.drop f.toNat).take (ln u-f.toNat)=u.drop f.toNat:=zA2 (by rw[zBr];exact zAy _);rw[A,zAv]at C
 grind [OR,jT,List.flatten_append,List.take_append_drop,List.take_of_length_le,List.drop_eq_nil_of_le]
def u32_in {n:Int} (h:0<=n/\n<4294967296):IntKind.u32.wrap n=n:=by
 unfold IntKind.wrap;simp[IntKind.signed,IntKind.bits];omega
def Xg (a c:Nat) (u:a<4294967296) (hc:c<4294967296):Nr (a:Int) (c:Int)=((a ||| c:Nat):Int):=by
 unfold Nr
 have h1:(BitVec.ofInt IntKind.u32.bits (a:Int) ||| BitVec.ofInt IntKind.u32.bits (c:Int)).toNat=a ||| c:=by
  rw[zF9,zDy,zDy,zDw,zDw,zDm (show a<2 ^ IntKind.u32.bits from u),zDm (show c<2 ^ IntKind.u32.bits from hc)]
 rw[h1]
 have h2:a ||| c<2 ^ 32:=zF0 u hc
 exact u32_in ⟨zB,zB⟩
def SA {n x:Int} (z:0<=n/\n<16777216) (A:0<=x/\x<256):Nr (IntKind.u32.wrap (n*2 ^ (min (8:Int).toNat IntKind.u32.bits))) x=n*256+x:=by
 rw[show n*2 ^ (min (8:Int).toNat IntKind.u32.bits)=n*256 from Z,u32_in zB];obtain⟨a,rfl⟩:=zCo z.1;obtain⟨c,rfl⟩:=zCo A.1;have h2:=Xg (a*256) c zB zB;have u:=zEd (show c<2 ^ 8 by omega) a;rw[zF8]at u;rw[show((a:Int)*256)=((a*256:Nat):Int) by omega,h2,<-u];omega
def wr (y:Int):IntKind.u8.wrap y=y % 256:=by
 unfold IntKind.wrap;simp[IntKind.signed,IntKind.bits]
def C8 (k:Int) (h:13<=k/\k<=21):zN 141 [iA k] [] (.agg [iA (jR k).1,iA (jR k).2.1,iA (jR k).2.2.1,iA (jR k).2.2.2.1,iA (jR k).2.2.2.2]) []:=by
 have:k=13\/k=14\/k=15\/k=16\/k=17\/k=18\/k=19\/k=20\/k=21:=by omega
 rcases this with rfl|rfl|rfl|rfl|rfl|rfl|rfl|rfl|rfl
 all_goals
  refine eM call141 λF hF=>?_
  exact mx
theorem EG (k:Int) (B z:Nat) (lo hi sd:Int) (V:zN 141 [iA k] [] (.agg [iA (B:Int),iA (z:Int),iA lo,iA hi,iA sd]) []) (hg:z<=4) (m:Ms) (c:Nat) (hk:m.kind=k) (ht:ln m.tok<=10) (hd:ln m.data<=100000) (ha:∀x∈m.args,0<=x/\x<=4294967295) (hn:ln m.args<=1000) (hc:z≠0->ln m.args=B+c*z) (av:c<=16):
  zN 70 [zX m] [] (zE yA (dK B z c m)) []:=by
 subst hk;have a2:=zA yA m.tok;have ag:=zA iA m.args;have az:=zA yA m.data;unfold dK;generalize hT:m.tok++ZA B z c 0 m.args=ar;refine eM call70 λF hF=>?_
 (have gd:=V;(repeat' (first|refine uS ?_|apply yW|apply xH|intro hc|(apply zG;first|(apply yC;refine xG 1001 tok Z Z Z Z Z Z (yM _ _ (λ_=>rfl)) Z Z Z zB Z Z Z ?_))|fail))<;>clear gd)
 refine vP 1001 Z ?_;refine uW (m.args) [1001,1,3] [1,3] [1,3,16,17] [4,18,1,3,16,17] Z (λi ga T U zs=>∃u:List Int,(ln u<=10+6*i/\∀post,m.args=ga++post->u++ZA B z c i post=ar)/\zs=⟨(4,.ref 1001 0 (u.map yA).length)::(18,iA i)::T,(1001,.arr 1 (u.map yA) true)::U⟩) (Lp ?_ ?_ ?_)
 .exact⟨m.tok,⟨zB,λpost h=>by rw[<-hT,h];rfl⟩,rfl⟩
 .rintro i ga x post st I hi ⟨u,⟨q0,q1⟩,rfl⟩;have hy:=yJ iA I hi;have au:=zW I hi;have O:=ha x (xA I);have M:=zA yA u;have he:=gE x;have c2:=Cx x O.1 O.2;have a1:=zA yA (jT x)
  have A:∀p,m.args=ga++[x]++p->p=post:=λp h=>by
   rw[I,zBl]at h;simpa using h.symm
  have C:=q1 _ I;clear q1 hT I;by_cases G:i=B/\z≠0
  .obtain⟨rfl,E⟩:=G;have L:=hc E
   have hq:(((m.args.map iA).length:Int)-(i:Int)).tdiv (z:Int)=(c:Int):=by
    rw[ag,L,show(((i+c*z:Nat):Int)-(i:Int))=(c:Int)*(z:Int) by rw[Int.natCast_add,zFc];omega];exact Int.mul_tdiv_cancel _ zB
   have ax:aD .i64 ((((m.args.map iA).length:Int)-(i:Int)).tdiv (z:Int)):=by rw[hq];exact⟨zB,zB⟩
   have e:ZA i z c i (x::post)=[(c:Int)]++(jT x++ZA i z c (i+1) post):=by rw[ZA,zAs ⟨rfl,E⟩]
   rw[e]at C;clear e L hc;generalize jT x=W at *;refine yF (xQ V c2) ?_;refine⟨u++[(c:Int)]++W,⟨by simp;omega,λp h=>by rw[A p h,<-C];simp⟩,?_⟩;rw[zA0,zA0,<-hq];rfl
  .have e:ZA B z c i (x::post)=jT x++ZA B z c (i+1) post:=by rw[ZA,Os G];rfl
   rw[e]at C;clear e hc;generalize jT x=W at *;by_cases ac:i=B
   .have E:z=0:=by
     by_cases h:z=0
     .exact h
     .exact absurd ⟨ac,h⟩ G
    refine yF (xQ V c2) ?_;refine⟨u++W,⟨by simp;omega,λp h=>by rw[A p h,<-C];simp⟩,?_⟩;rw[zA0];rfl
   ·(refine yF (xQ V c2) ?_)
    refine⟨u++W,⟨by simp;omega,λp h=>by rw[A p h,<-C];simp⟩,?_⟩;rw[zA0];rfl
 .rintro st ⟨u,⟨q0,q1⟩,rfl⟩;have e:=q1 [] zV;rw[show ZA B z c (ln m.args) []=[]from rfl,zBo]at e;subst e;have M:=zA yA u;clear q1 hT hc;by_cases Y:z≠0/\m.args.length=B
  .rw[zAs Y];obtain⟨S,ap⟩:=Y;refine WW ?_;refine zI [] Z Z ?_ Z
   show AV.sl false ((u.map yA++[yA 0]++m.data.map yA).take (u.map yA++[yA 0]++m.data.map yA).length)=_
   rw[zAv];unfold zE;rw[zA0,zA0,zBl];rfl
  .rw[Os Y];by_cases S:z=0
   ·(refine WW ?_)
    refine zI [] Z Z ?_ Z
    show AV.sl false ((u.map yA++m.data.map yA).take (u.map yA++m.data.map yA).length)=_
    rw[zAv];unfold zE;rw[zA0];rfl
   .have ap:ln m.args≠B:=λh=>Y ⟨S,h⟩
    refine WW ?_;refine zI [] Z Z ?_ Z
    show AV.sl false ((u.map yA++m.data.map yA).take (u.map yA++m.data.map yA).length)=_
    rw[zAv];unfold zE;rw[zA0];rfl
theorem Wg (u z:Nat) (c:Int):∀(l:List Int) (i:Nat),(ZA u z c i l).length=((l.map jT).flatten).length+(if i<=u/\u<i+ln l/\z≠0 then 1 else 0)
 | [],i=>by
  rw[Os (by rintro⟨h1,h2,_⟩;simp at h2;omega)];rfl
 | x::l,i=>by
  have A:=Wg u z c l (i+1);rw[ZA,zAx,zAx,A,zCc,zDq,zAx,zA8];by_cases h1:i=u/\z≠0
  .rw[zAs h1,Os zB,zAs zB];simp only[zA8,zBz];omega
  .rw[Os h1];by_cases h2:i+1<=u/\u<i+1+ln l/\z≠0
   .rw[zAs h2,zAs zB];simp only[zBz];omega
   .rw[Os h2,Os zB];simp only[zBz];omega
def vr {k:Int} {u A:List Int} (h:J5 k u A) (B C c:Nat):(dK B C c ⟨k,[],u,A⟩).length<=200:=by
 have E:=h.z
 grind [dK,Wg,List.length_append,List.length_cons,List.length_nil]
theorem xe {k:Int} {u B:List Int} (h:J5 k u B):zN 69 [zX ⟨k,[],u,B⟩] [] (bA true) []:=by
 have E:=C8 k h.kk;have c2:=cX k;have hk:=h.kk;rw[zAu zB]at c2;have hz:=h.z;have I:=h.n;have hl:=h.l;have au:=zA iA u;have av:=zA yA B;have ap:ln B<=200:=by omega
 have hd:=h.d;have O:=vr h;have G:k=13\/k=14\/k=15\/k=16\/k=17\/k=18\/k=19\/k=20\/k=21:=by omega
 rcases h.g with⟨g1,M⟩|⟨g1,gr,M,g3,g4,g5⟩
 .have ag:(jR k).2.2.2.2= -1\/0<=(jR k).2.2.2.2:=by omega
  generalize (jR k).2.2.1=lo,(jR k).2.2.2.1=hi at *;rw[g1,<-M]at E;have S:=EG k (ln u) 0 lo hi _ E zB ⟨k,[],u,B⟩ 0 Z zV NJ I NJ (λh=>absurd Z h) zB;have O:=O (ln u) 0 0;generalize dK (ln u) 0 0 ⟨k,[],u,B⟩=Y at *;have V:=zA yA Y;generalize (jR k).2.2.2.2=sd at *;clear G g1 hz h;unfold zX at *;dsimp only at*
  rcases ag with hs|hs
  all_goals
   refine eM call69 λF hF=>?_
   refine yF (xQ E c2) ?_;refine zU (u) [1] [1] [1,97,98] [99,1,97,98] Z (λi ga T U=>⟨(99,iA i)::T,U⟩) (Lq ?_ ?_)
   .intro i ga x post A hi;have hy:=yJ iA A hi;have L:=zW A hi;have W:=I x (xA A);clear A I;refine WW ?_;rfl
   .exact nl S
 .have ac:k=18\/k=19:=by
   rcases G with rfl|rfl|rfl|rfl|rfl|rfl|rfl|rfl|rfl<;>first|exact .inl Z|exact .inr Z|(exfalso;revert g1;decide)
  obtain⟨C,rfl⟩:∃C:Nat,gr=(C:Int):=⟨gr.toNat,zB⟩
  rcases ac with rfl|rfl
  .have M:(ln u:Int)=1+3*(C:Int):=M;have g5:(C:Int)<=16:=g5;have E:zN 141 [iA 18] [] (.agg [iA 1,iA 3,iA 0,iA 16,iA 0]) []:=E;have hd:(ln B:Int)=0:=hd.elim (λh=>absurd h yY) id;have S:=EG 18 1 3 0 16 0 E zB ⟨18,[],u,B⟩ C Z zV NJ I NJ (λ_=>by dsimp only;omega) zB;have O:=O 1 3 C;generalize dK 1 3 C ⟨18,[],u,B⟩=Y at *;have V:=zA yA Y;have hm:(((u.map iA).length:Int)-1).tmod 3=0:=by rw[zB3 zB];omega
   clear G hz h;unfold zX at *;dsimp only at *;refine eM call69 λF hF=>?_
   refine yF (xQ E c2) ?_;refine zU (u) [1] [1] [1,97,98] [99,1,97,98] Z (λi ga T U=>⟨(99,iA i)::T,U⟩) (Lq ?_ ?_)
   .intro i ga x post A hi;have hy:=yJ iA A hi;have L:=zW A hi;have W:=I x (xA A);clear A I;refine WW ?_;rfl
   .exact nl S
  .have M:(ln u:Int)=0+2*(C:Int):=M;have g5:(C:Int)<=4:=g5;have E:zN 141 [iA 19] [] (.agg [iA 0,iA 2,iA 0,iA 4,iA 0]) []:=E;have hd:(ln B:Int)=0:=hd.elim (λh=>absurd h yY) id;have S:=EG 19 0 2 0 4 0 E zB ⟨19,[],u,B⟩ C Z zV NJ I NJ (λ_=>by dsimp only;omega) zB;have O:=O 0 2 C;generalize dK 0 2 C ⟨19,[],u,B⟩=Y at *;have V:=zA yA Y;have hm:(((u.map iA).length:Int)-0).tmod 2=0:=by rw[zB3 zB];omega
   clear G hz h;unfold zX at *;dsimp only at *;refine eM call69 λF hF=>?_
   refine yF (xQ E c2) ?_;refine zU (u) [1] [1] [1,97,98] [99,1,97,98] Z (λi ga T U=>⟨(99,iA i)::T,U⟩) (Lq ?_ ?_)
   .intro i ga x post A hi;have hy:=yJ iA A hi;have L:=zW A hi;have W:=I x (xA A);clear A I;refine WW ?_;rfl
   .exact nl S
def RX (u j:Int) (x:Rq) (g:Lg):List Cl:=if g.jn=j/\g.sc≠ -1 then [⟨u,x.id,g.ph,x.cls,g.sc⟩]else []
def cG (u j:Int) (x:Rq) (l:List Lg):List Cl:=(l.map (RX u j x)).flatten
def zj (u j:Int) (x:Rq) (l:List Lg) (g:Lg):cG u j x (l++[g])=cG u j x l++RX u j x g:=by simp[cG]
theorem SD {u j:Int} {x:Rq}:∀{l:List Lg},(∀g∈l,g.jn≠j)->cG u j x l=[]
 | [],_=>rfl
 |g::l,h=>by
  show RX u j x g++cG u j x l=[]
  rw[SD λy z=>h y (by simp[z])];unfold RX;rw[Os (λe=>h g zV e.1)];rfl
theorem Qa (u j:Int) (x:Rq):∀l:List Lg,(cG u j x l).length<=ln l
 | []=>zAy _
 |g::l=>by
  have z:=Qa u j x l;have e:cG u j x (g::l)=RX u j x g++cG u j x l:=rfl
  have h1:(RX u j x g).length<=1:=by unfold RX;split<;>simp
  rw[e,zAx,zA8];omega
theorem Vg:∀{post q:List Lg} {x:Lg},kV q post=true->x∈q->∀y∈post,y.jn≠x.jn
 |y::post,q,x,h,A,z,u=>by
  unfold kV at h;simp only[zA4,zDb]at h;obtain⟨_,h1,h2⟩:=h
  rcases zCh.1 u with rfl|u
  .intro e;have:=zDc.1 h1 x A;rw[e]at this;simp at this
  .exact Vg h2 (List.mem_append_left _ A) z u
theorem IU:∀(ga:List Lg) {u post:List Lg} {x:Lg},kV u (ga++x::post)=true->∀y∈post,y.jn≠x.jn
 | [],u,post,x,h=>by
  rw[zD3]at h;unfold kV at h;simp only[zA4]at h;exact Vg h.2.2 zV
 |a::ga,u,post,x,h=>by
  rw[zD8]at h;unfold kV at h;simp only[zA4]at h;exact IU ga h.2.2
def ur {A j:Int} {x:Rq} (h:kV [] x.legs=true):cG A j x x.legs=OX A j x:=by
 unfold OX;generalize hl:x.legs=l at *;by_cases G:∃g∈l,g.jn=j
 case neg=>
  have I:∀g∈l,g.jn≠j:=λg u e=>G ⟨g,u,e⟩
  rw[SD I,bU (λy z=>by simpa using I y z),zAs yY]
 obtain⟨ga,g,post,e,L,u⟩:∃ga g post,l=ga++g::post/\(∀y∈ga,y.jn≠j)/\g.jn=j:=by
  clear h hl
  induction l with
  |nil=>obtain⟨g,u,_⟩:=G;cases u
  | cons a l V=>
   by_cases C:a.jn=j
   .exact⟨[],a,l,rfl,(λy z=>(by cases z)),C⟩
   .obtain⟨g,u,e⟩:=G
    rcases zCh.1 u with rfl|u
    .exact absurd e C
    obtain⟨ga,S,post,e1,M,e3⟩:=V ⟨g,u,e⟩;exact⟨a::ga,S,post,(by rw[e1];rfl),(λy z=>(zCh.1 z).elim (λh=>h▸C) (M y)),e3⟩
 have U:=IU ga (e▸h);have hi:=OA (p:=λr:Lg=>r.jn==j) e (λy z=>by simpa using L y z) (by simpa using u);rw[hi,Os zB,zBh];have E:l.getD (ln ga) dd=g:=by rw[e];simp[py]
 rw[E];have O:cG A j x l=cG A j x ga++(RX A j x g++cG A j x post):=by rw[e];simp[cG]
 rw[O,SD L,SD (λy z=>by rw[<-u];exact U y z),zD3,zBo];unfold RX;by_cases B:g.sc= -1
 .rw[zAs B,Os (λh=>h.2 B)]
 .rw[Os B,zAs ⟨u,B⟩]
def Pa (l:List Rq) (z j:Int) (hn:ln l<=1000) (hb:∀r∈l,ln r.legs<=1000) (hv:∀r∈l,kV [] r.legs=true):zN 90 [zE zY l,iA z,iA j] [] (zE kD (fI z j l)) []:=by
 have hl:=zA zY l;refine eM call90 λF hF=>?_
 refine WW ?_;refine zQ 7 1001 5 Z Z Z ?_;refine zU (l) [1001] [] [1,2,12,13] [7,14,1,2,12,13] Z (λi ga T U=>⟨(7,.ref 1001 0 ((fI z j ga).map kD).length)::(14,iA i)::T,(1001,.arr 5 ((fI z j ga).map kD) true)::U⟩) (Lq ?_ ?_)
 .intro i ga x post B hi;have hy:=yJ zY B hi;have S:=zW B hi;have hq:=dU z j ga;have W:ln ga<=ln l:=by rw[B];simp
  have ap:(x.legs.map yO).length=ln x.legs:=zAt ..;have ac:=hb x (xA B);have C:=Qa z j x;rw[KX,<-ur (hv x (xA B))];clear B;generalize fI z j ga=X at *;unfold zY at hy;have I:X++cG z j x []=X:=by simp[cG]
  refine WW ?_;refine zU (x.legs) [1001,9] [9] [1,2,9,12,13,14,19,20] [7,21,1,2,9,12,13,14,19,20] Z (λi ga T U=>⟨(7,.ref 1001 0 ((X++cG z j x ga).map kD).length)::(21,iA i)::T,(1001,.arr 5 ((X++cG z j x ga).map kD) true)::U⟩) ?_;(conv=>whnf);refine⟨by(rw[I];rfl),?_,?_⟩
  .intro k u g G A hk;have E:=yJ yO A hk;have L:=zW A hk;have V:ln u<=ln x.legs:=by rw[A];simp
   have O:=C u;have M:((X++cG z j x u).map kD).length=ln X+(cG z j x u).length:=by simp
   have e1:(X++cG z j x (u++[g])).map kD=(X++cG z j x u).map kD++(RX z j x g).map kD:=by rw[zj,<-zBl,zA0]
   rw[e1];clear A C e1 I;generalize (X++cG z j x u).map kD=Y,(cG z j x u).length=n2 at *;unfold yO at E;by_cases h1:g.jn=j
   .by_cases h2:g.sc= -1
    .rw[show RX z j x g=[]from Os (λh=>h.2 h2),zCm,zBo];refine WW ?_;rfl
    .rw[show RX z j x g=[⟨z,x.id,g.ph,x.cls,g.sc⟩]from zAs ⟨h1,h2⟩];refine WW ?_;rfl
   .rw[show RX z j x g=[]from Os (λh=>h1 h.1),zCm,zBo];refine WW ?_;rfl
  ·(refine WW ?_)
   rfl
 ·(refine WW ?_)
  exact zI [] Z Z (zBd (AV.sl false) zAv) Z
def LP (u:List wC):Prop:=∀i,i<ln u->(u.getD i dd).rg.num=(i:Int)
def Oa (c:Cf) (rf:Bool) (f4:Int) (u:List wC) (j:Int) (hd:ln u<=1000) (hb:∀d∈u,dN d) (hv:∀d∈u,∀r∈d.rq,kV [] r.legs=true) (hN:LP u) (A B C:List AV) (a b e:Nat) (V:List Vw):
  zN 39 [aF c rf f4 (zE zM u) (.ref 1012 0 a) (.ref 1013 0 b) (.ref 1014 0 e) (zE vG V),iA j] [(1012,.arr 5 A false),(1013,.arr 3 B false),(1014,.arr 1 C false)] (zE kD (jK j u)) [(1012,.arr 5 A false),(1013,.arr 3 B false),(1014,.arr 1 C false)]:=by
 have hl:=zA zM u;unfold aF;refine eM call39 λF hF=>?_
 refine WW ?_;refine zQ 5 1001 5 Z Z Z ?_;refine zU (u) [1001,1012,1013,1014] [1012,1013,1014] [1,9,10] [5,11,1,9,10] Z (λi ga T U=>⟨(5,.ref 1001 0 ((jK j ga).map kD).length)::(11,iA i)::T,(1001,.arr 5 ((jK j ga).map kD) true)::U⟩) (Lq ?_ ?_)
 .intro i ga x post z hi;have hy:=yJ zM z hi;have I:=zW z hi;have E:=hb x (xA z)
  have G:x.rg.num=(i:Int):=by
   have:=hN i I
   rwa [show u.getD i dd=x by rw[z,<-hi];simp[py]]at this
  have O:=Pa x.rq x.rg.num j E.q E.g (hv x (xA z));have hq:=OY j ga (λd hd=>(hb d (by rw[z];simp[hd])).q);have W:((jK j ga).map kD).length=(jK j ga).length:=zAt ..;have L:=dU x.rg.num j x.rq;have M:((fI x.rg.num j x.rq).map kD).length=(fI x.rg.num j x.rq).length:=zAt ..;have S:ln ga<=ln u:=by rw[z];simp
  have ac:=E.q;rw[KY,zA0];clear z;generalize (jK j ga).map kD=X at *;unfold zE at O;rw[G]at O L M⊢;generalize fI (i:Int) j x.rq=Y at *;unfold zM xD at hy;refine zS O ?_;rfl
 ·(refine WW ?_)
  exact zI [1012,1013,1014] Z Z (zBd (AV.sl false) zAv) Z
def Na (m:Ms) (h1:ln m.tok<=1000) (h2:ln m.args<=1000) (z:ln m.data<=1000):zN 128 [zX m] [] (zX m) []:=by
 have e1:=zA yA m.tok;have u:=zA iA m.args;have e3:=zA yA m.data;unfold zX;refine eM call128 λF hF=>?_
 exact nm
def we (xs:List AV) (G:ln xs<=2000) (m:Ms) (h:YP m):zN 59 [.ref 1053 0 (ln xs),zX m] [(1053,.arr 4 xs true)] (.ref 1053 0 (xs++[zX m]).length) [(1053,.arr 4 (xs++[zX m]) true)]:=by
 obtain⟨u,S⟩:=h;have hd:=S.z;have A:=Na m (by rw[u];simp) (by have:=S.l;omega) zB;obtain⟨k,I,C,E⟩:=m;dsimp only at *;subst u;have B:=xe S;clear hd S;unfold zX at *;dsimp only at *;refine eM call59 λF hF=>?_
 (have gd:=B;have gn:=A;(repeat' (first|refine jZ ?_|apply yW|apply xH|intro hc|(apply zG;first|(apply yH;refine vD tok Z Z ?_))|refine SB ?_|fail))<;>clear gd gn)
 exact zP [1053] Z Z Z Z
def wx (m:Ms) (h:YP m):zN 59 [.s (.slice none 0 0),zX m] [] (zE zX [m]) []:=by
 obtain⟨u,S⟩:=h;have hd:=S.z;have A:=Na m (by rw[u];simp) (by have:=S.l;omega) zB;obtain⟨k,G,C,E⟩:=m;dsimp only at *;subst u;have B:=xe S;clear hd S;unfold zX at *;dsimp only at *;refine eM call59 λF hF=>?_
 exact ny (xQ B A)
def vx (f4:Int) (v:List Vw) (u:ln v<=1000) (hb:∀w∈v,ma w):zN 60 [iA f4,zE vG v] [] (zX (QI f4 v)) []:=by
 have k:=qg v u hb;unfold QI zX;dsimp only;generalize XS v=r at *;refine eM call60 λF hF=>?_
 refine VX k ?_;refine zI [] Z Z ?_ Z
 show AV.agg [iA 21,zE yA [],zE iA [f4],.sl false (pi (r.map yA).length (r.map yA))]=_
 rw[zAv];rfl
def qr (f4:Int) (l:List En) (L:ln l<=100000):zN 62 [iA f4,zE kF l] [] (zX (xj f4 l)) []:=by
 have hl:=zA kF l;have A:((f4::((([]:List En).take 16).map fH).flatten).map iA)=[iA f4]:=rfl
 have u:∀p:List En,((f4::((p.take 16).map fH).flatten).map iA).length=1+3*(p.take 16).length:=λp=>by
  rw[zAt,zA8];generalize p.take 16=q
  induction q with
  |nil=>rfl
  |cons a q M=>rw[zCc,zDq,zAx,zA8];show 3+_+1=_;omega
 unfold xj zX;dsimp only;refine eM call62 λF hF=>?_
 refine WW ?_;refine vP 9 Z ?_;refine zU (l) [9,4] [4] [4,10,11] [5,12,4,10,11] Z (λi ga T U=>⟨(5,.ref 9 0 ((f4::((ga.take 16).map fH).flatten).map iA).length)::(12,iA i)::T,(9,.arr 1 ((f4::((ga.take 16).map fH).flatten).map iA) true)::U⟩) (Lq ?_ ?_)
 .intro i ga x post z hi;have G:=yJ kF z hi;have C:=zW z hi;have E:=u ga;have B:(ga.take 16).length<=16:=by rw[zBi];omega
  clear z A u;unfold kF OK at G;by_cases I:i<16
  .have e1:(f4::(((ga++[x]).take 16).map fH).flatten).map iA=(f4::((ga.take 16).map fH).flatten).map iA++[iA x.ag,iA x.ki,iA x.co]:=by
    rw[zA2 (l:=ga++[x]) Px,zA2 (l:=ga) zB];simp[fH]
   rw[e1];generalize (f4::((ga.take 16).map fH).flatten).map iA=Y at *;refine WW ?_;rfl
  .have e1:(ga++[x]).take 16=ga.take 16:=by rw[zC2 zB]
   rw[e1];generalize (f4::((ga.take 16).map fH).flatten).map iA=Y at *;refine WW ?_;rfl
 ·(refine WW ?_)
  refine zI [] Z Z ?_ Z
  show AV.agg [iA 18,zE yA [],.sl false (pi ((f4::((l.take 16).map fH).flatten).map iA).length ((f4::((l.take 16).map fH).flatten).map iA)),zE yA []]=_
  rw[zAv];rfl
def jr (g:Cf) (j:Jn) (J:JV j) (s:Sg) (C:CV j s.c) (v:Sv) (l:List Cl) (k f4:Int) (H:Lr g v l f4) (I: -1000000<=(uR g v l f4).gr/\(uR g v l f4).gr<=1000000):zN 58 [wH g,wD j,wU s,wP v,zE kD l,iA k,iA f4] [] (.tup [wU (Fa g j s v l k f4).1,wP (Fa g j s v l k f4).2]) []:=by
 have hJ:=J.n;have hn:=C.n;have hm:=C.m;have hb:Le v:=⟨by have:=H.sl;omega⟩;have B:Le (uR g v l f4):=⟨by rw[YW];have:=H.sl;omega⟩;have O:=PO s zB zB;have S:=Db v hb f4;have E:=Yh g v l f4 H;have G:=Il j J s C (uR g v l f4).ph k;have U:=Db (uR g v l f4) B f4;have L:=Sl (uR g v l f4) B (Jz (Ie j s (uR g v l f4).ph k) (uR g v l f4)) I;have X:=Ez J C (uR g v l f4).ph k;have W:=X.n;unfold Fa;generalize qT v f4=v0,uR g v l f4=z at *;generalize qT z f4=v2 at *;generalize Ie j s z.ph k=x at *;have u:Jz x z=(decide (0<=z.ph/\z.ph<ln x.c.li)&&((xR x.c z.ph.toNat).lamp==1)):=rfl;generalize Jz x z=b at *;generalize gM z b=v3 at *;clear H I X C hb B;obtain⟨sc,sl⟩:=s;obtain⟨A,xl⟩:=x;dsimp only at *;have V:=zA xE A.li
 cases sl with
 |true=>
  rw[zAs Z];refine eM call58 λF hF=>?_
  exact ng (xQ O S)
 |false=>
 rw[Os zA9]
 cases xl with
 |true=>
  rw[zAs Z];refine eM call58 λF hF=>?_
  exact ng (qC E G U)
 |false=>
 rw[Os zA9];dsimp only;rw[show wU ⟨A,false⟩= .agg [zE xE A.li,iA A.gr,zE iA A.nx,iA A.wt,bA false]from Z]at *; by_cases h1:0<=z.ph
 case neg=>
  rw[zAu (λh=>h1 h.1),zBt]at u;subst u;refine eM call58 λF hF=>?_
  exact ng (qC E G L)
 by_cases h2:z.ph<ln A.li
 case neg=>
  rw[zAu (λh=>h2 h.2),zBt]at u;subst u;refine eM call58 λF hF=>?_
  exact ng (qC E G L)
 rw[zAw ⟨h1,h2⟩,zA3]at u;have Y:=yE xE A.li z.ph h1 h2
 change (A.li.map xE)[z.ph.toNat]? =some (xE (xR A z.ph.toNat))at Y
 generalize xR A z.ph.toNat=a at *;by_cases M:a.lamp=1
 .rw[show(a.lamp==1)=true by rw[zB8];exact M]at u;subst u;refine eM call58 λF hF=>?_
  exact ng (qC E G L)
 .rw[show(a.lamp==1)=false by rw[zBn];exact M]at u;subst u;refine eM call58 λF hF=>?_
  exact ng (qC E G L)
