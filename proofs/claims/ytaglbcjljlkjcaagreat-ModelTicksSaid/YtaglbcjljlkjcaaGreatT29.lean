/- Part 29. -/
import Derived.Test.YtaglbcjljlkjcaaGreatT28
namespace Go.Proofs.YtaglbcjljlkjcaaGreat.Av
open Tryz
set_option linter.all false
set_option maxRecDepth 4000
set_option maxHeartbeats 8000000
open List renaming length->ln,take->oj,getD->pb
open Inhabited renaming default->dd
def YN (y:Cy) (j p:Int):Cy:=if(0<=j/\j<(ln y.c.js:Int))/\0<=p/\p<((y.c.js.getD j.toNat dd).ph.length:Int)then⟨y.c,false,y.f3,y.ds,y.sg,y.sv,y.st.set j.toNat p,y.vw⟩else y
def gz {y:Cy} (h:KR y) (j p:Int):KR (YN y j p):=by
 unfold YN;split
 .exact⟨h.v,rfl,h.n0,h.dl,h.di,h.dg,h.sc,h.gl,h.sl,by dsimp only;rw[zCj];exact h.tl,h.wl,h.wb,h.j⟩
 .exact h
def drD (d:wD) (x:List Int):wD:=⟨d.rg,d.rq,d.dr++[x],d.au⟩
def SD (y:Cy) (a:Int) (x:List Int):Cy:=if(0<=a/\a<(ln y.ds:Int))/\x.length=8/\(y.ds.getD a.toNat dd).dr.length<8 then⟨y.c,false,y.f3,y.ds.set a.toNat (drD (y.ds.getD a.toNat dd) x),y.sg,y.sv,y.st,y.vw⟩else y
def W9 {y:Cy} (h:KR y) {a:Int} {d:List Int} (hd:BY d):KR (SD y a d):=by
 unfold SD;split
 case isFalse=>exact h
 rename_i hc;obtain⟨⟨a0,E⟩,G,I⟩:=hc;have A:a.toNat<ln y.ds:=by omega
 generalize a.toNat=n at *;have u:=h.di _ (yL y.ds n A);refine⟨h.v,rfl,h.n0,by dsimp only;rw[zCj];exact h.dl,λz B=>?_,λi hi=>?_,λz B=>?_,h.gl,h.sl,h.tl,h.wl,h.wb,h.j⟩
 .rcases zD7 B with B|rfl
  .exact h.di z B
  .refine⟨u.b,u.v,u.q,u.lg,u.a,u.n,u.t8,u.br,u.bb,u.bl,u.au,?_,λx C=>?_,u.vh⟩
   .grind [BY,SD,drD,List.length_append,List.length_cons,List.length_nil]
   .rcases zBq.1 C with C|C
    .exact u.dr x C
    all_goals grind
 .dsimp only at hi⊢;rw[zCj]at hi;rw[KS _ _ _ _ hi];split
  .rename_i e;rw[<-e];exact h.dg n A
  .exact h.dg i hi
 .rcases zD7 B with B|rfl
  .exact h.sc z B
  .exact h.sc (y.ds.getD n dd) (yL y.ds n A)
theorem XN (y:Cy) (h:T6 y):zM 53 [qO y] [] (HG y) (HI y):=by
 have E:=zA zN y.ds;have G:=zA wZ y.sg;have I:=zA wU y.sv;have L:=zA iA y.st;have M:=zA vO y.vw;have hd:=h.d;have O:=h.g;have R:=h.s;have S:=h.t;have hv:=h.v;unfold qO HG aH HI;refine eM call53 λF hF=>?_
 (repeat' (first|refine uQ ?_|apply yW|apply xG|intro hc|(apply zG;first|(apply yD;first|refine xH 1014 tok Z Z Z Z Z Z (yM _ _ (λ_=>rfl)) Z Z Z zB Z Z Z ?_|refine xH 1016 tok Z Z Z Z Z Z (yM _ _ (λ_=>rfl)) Z Z Z zB Z Z Z ?_))|fail))
 refine zS 4 1011 17 Z Z Z ?_;refine zQ (y.ds) [1011,1,2,3,1014,1016] [1,2,3,1014,1016] [1,2,3,27,28] [4,29,1,2,3,27,28] Z (λi f4 T U=>⟨(4,.ref 1011 0 (f4.map zN).length)::(29,iA i)::T,(1011,.arr 17 (f4.map zN) true)::U⟩) (Lq ?_ ?_)
 .intro i f4 x post u hi;have C:=zZ zN u hi;have z:=zV u hi;have A:(f4.map zN).length=i:=by rw[zA5,hi]
  have B:=kN x (h.db x (yU u));have e:(f4++[x]).map zN=f4.map zN++[zN x]:=by simp
  clear u;rw[e];generalize f4.map zN=xs at *;unfold zN xD at*
  (have ga:=B;(repeat' (first|refine jX ?_|apply yW|apply xG|intro hc|(apply zG;first|(apply yI;refine vE tok Z Z ?_))|refine SB ?_|fail))<;>clear ga)
  rfl
 .refine kE 1011 [4] Z Z Z Z Z ?_;refine WW ?_;refine zS 7 1012 5 Z Z Z ?_;refine zQ (y.sg) [1012,1,2,3,1011,1014,1016] [1,2,3,1011,1014,1016] [1,2,3,4,40,41] [7,42,1,2,3,4,40,41] Z (λi f4 T U=>⟨(7,.ref 1012 0 (f4.map wZ).length)::(42,iA i)::T,(1012,.arr 5 (f4.map wZ) true)::U⟩) (Lq ?_ ?_)
  .intro i f4 x post u hi;have C:=zZ wZ u hi;have z:=zV u hi;have A:(f4.map wZ).length=i:=by rw[zA5,hi]
   have hb:=h.gb x (yU u);have B:=PQ x zB zB;have e:(f4++[x]).map wZ=f4.map wZ++[wZ x]:=by simp
   clear u;rw[e];generalize f4.map wZ=xs at *;unfold wZ at*
   (have ga:=B;(repeat' (first|refine jX ?_|apply yW|apply xG|intro hc|(apply zG;first|(apply yI;refine vE tok Z Z ?_))|refine SB ?_|fail))<;>clear ga)
   rfl
  .refine kE 1012 [7] Z Z Z Z Z ?_;refine WW ?_;refine zS 10 1013 3 Z Z Z ?_;refine zQ (y.sv) [1013,2,3,1011,1012,1014,1016] [2,3,1011,1012,1014,1016] [2,3,4,7,53,54] [10,55,2,3,4,7,53,54] Z (λi f4 T U=>⟨(10,.ref 1013 0 (f4.map wU).length)::(55,iA i)::T,(1013,.arr 3 (f4.map wU) true)::U⟩) (Lq ?_ ?_)
   .intro i f4 x post u hi;have C:=zZ wU u hi;have z:=zV u hi;have A:(f4.map wU).length=i:=by rw[zA5,hi]
    have hb:=h.sb x (yU u);have B:=NU x ⟨zB⟩;have e:(f4++[x]).map wU=f4.map wU++[wU x]:=by simp
    clear u;rw[e];generalize f4.map wU=xs at *;unfold wU at*
    (have ga:=B;(repeat' (first|refine jX ?_|apply yW|apply xG|intro hc|(apply zG;first|(apply yI;refine vE tok Z Z ?_))|refine SB ?_|fail))<;>clear ga)
    rfl
   .refine kE 1013 [10] Z Z Z Z Z ?_;refine WW ?_;refine zI [1011,1012,1013,1014] Z Z ?_ Z
    show AV.agg [zE wK y.c.js,zE uK y.c.ags,iA y.c.per,iA y.c.cap,iA y.c.hold,iA y.c.lock,bA y.rf,iA y.f3,.ref 1011 0 (y.ds.map zN).length,.ref 1012 0 (y.sg.map wZ).length,.ref 1013 0 (y.sv.map wU).length,.ref 1014 0 (y.st.map iA).length,.sl false (oj (y.vw.map vO).length (y.vw.map vO))]=_
    rw[zA8];rfl
def aD (y:Cy) (h:T6 y):zM 53 [qO y] [] (qO y) []:=Ve (XN y h)
def Ia (y:Cy) (h:KR y) (j p:Int):zM 17 [qO y,iA j,iA p] [] (qO (YN y j p)) []:=by
 have hb:=h.b;have z:=h.rf;have L:=zA wK y.c.js;have O:=zA iA y.st;have G:=h.tl;have B:=bJ z;by_cases hj:0<=j/\j<(ln y.c.js:Int)
 case neg=>
  rw[show YN y j p=y by unfold YN;rw[Os (λh=>hj h.1)]];have u:=aD y hb;rw[B]at u⊢;by_cases I:j<0
  all_goals
   refine eM call17 λF hF=>?_
   exact mx u
 obtain⟨j0,j1⟩:=hj;have A:=yF wK y.c.js j j0 j1;have M:=zA xN (y.c.js.getD j.toNat dd).ph;by_cases E:0<=p/\p<((y.c.js.getD j.toNat dd).ph.length:Int)
 case neg=>
  rw[show YN y j p=y by unfold YN;rw[Os (λh=>E h.2)]];have u:=aD y hb;rw[B]at u⊢;generalize y.c.js.getD j.toNat dd=S at *;unfold wK at A;by_cases I:p<0
  all_goals
   refine eM call17 λF hF=>?_
   exact mx u
 obtain⟨U,V⟩:=E;rw[show YN y j p=⟨y.c,false,y.f3,y.ds,y.sg,y.sv,y.st.set j.toNat p,y.vw⟩ by unfold YN;rw[zA4 ⟨⟨j0,j1⟩,U,V⟩]];have u:=XN y hb;unfold HG HI aH at u;rw[B,z]at u;rw[B];have C:(y.st.set j.toNat p).map iA=(y.st.map iA).set j.toNat (iA p):=zCs ..;rw[show qO ⟨y.c,false,y.f3,y.ds,y.sg,y.sv,y.st.set j.toNat p,y.vw⟩= .agg [zE wK y.c.js,zE uK y.c.ags,iA y.c.per,iA y.c.cap,iA y.c.hold,iA y.c.lock,bA false,iA y.f3,zE zN y.ds,zE wZ y.sg,zE wU y.sv,.sl false ((y.st.map iA).set j.toNat (iA p)),zE vO y.vw] by rw[<-C];rfl];clear C;have R:=yF iA y.st j j0 zB;generalize y.c.js.getD j.toNat dd=S at *;unfold wK at A;refine eM call17 λF hF=>?_
 refine zU u ?_;refine zI [] Z Z ?_ Z
 show AV.agg [_,_,_,_,_,_,_,_,.sl false (oj (y.ds.map zN).length (y.ds.map zN)),.sl false (oj (y.sg.map wZ).length (y.sg.map wZ)),.sl false (oj (y.sv.map wU).length (y.sv.map wU)),.sl false (oj (y.st.map iA).length ((y.st.map iA).set j.toNat (iA p))),_]=_
 rw[zA8,zA8,zA8,zBf (by rw[zCj];exact zBa _)];rfl
theorem Zx (y:Cy) (h:KR y) (a:Int) (d:List Int) (R:ln d<=1000000):zM 37 [qO y,iA a,zE yA d] [] (qO (SD y a d)) []:=by
 have hb:=h.b;have A:=h.rf;have S:=zA zN y.ds;have U:=zA yA d;have C:=bJ A;by_cases M:0<=a/\a<(ln y.ds:Int)
 case neg=>
  rw[show SD y a d=y by unfold SD;rw[Os (λh=>M h.1)]];have u:=aD y hb;rw[C]at u⊢;by_cases Y:a<0
  all_goals
   refine eM call37 λF hF=>?_
   exact mx u
 obtain⟨a0,I⟩:=M;have z:=yF zN y.ds a a0 I;have O:=h.di _ (yL y.ds a.toNat zB);have V:=O.dn;by_cases E:ln d=8/\(y.ds.getD a.toNat dd).dr.length<8
 case neg=>
  rw[show SD y a d=y by unfold SD;rw[Os (λh=>E h.2)]];have u:=aD y hb;rw[C]at u⊢;generalize y.ds.getD a.toNat dd=x at *;have G:=zA qM x.dr;unfold zN xD at z;by_cases h9:ln d=8
  all_goals
   refine eM call37 λF hF=>?_
   exact mx u
 obtain⟨E,W⟩:=E;rw[show SD y a d=⟨y.c,false,y.f3,y.ds.set a.toNat ⟨(y.ds.getD a.toNat dd).rg,(y.ds.getD a.toNat dd).rq,(y.ds.getD a.toNat dd).dr++[d],(y.ds.getD a.toNat dd).au⟩,y.sg,y.sv,y.st,y.vw⟩ by unfold SD;rw[zA4 ⟨⟨a0,I⟩,E,W⟩];rfl];have u:=XN y hb;unfold HG HI aH at u;rw[C,A]at u;rw[C];generalize y.ds.getD a.toNat dd=x at *;have G:=zA qM x.dr;have B:(x.dr++[d]).map qM=x.dr.map qM++[.sl false (d.map yA)]:=by rw[zBc];rfl
 have L:(y.ds.set a.toNat ⟨x.rg,x.rq,x.dr++[d],x.au⟩).map zN=(y.ds.map zN).set a.toNat (xD x.rg (zE zY x.rq) (.sl false (x.dr.map qM++[.sl false (d.map yA)])) (zE bA x.au)):=by rw[zCs,<-B];rfl
 rw[show qO ⟨y.c,false,y.f3,y.ds.set a.toNat ⟨x.rg,x.rq,x.dr++[d],x.au⟩,y.sg,y.sv,y.st,y.vw⟩= .agg [zE wK y.c.js,zE uK y.c.ags,iA y.c.per,iA y.c.cap,iA y.c.hold,iA y.c.lock,bA false,iA y.f3,.sl false ((y.ds.map zN).set a.toNat (xD x.rg (zE zY x.rq) (.sl false (x.dr.map qM++[.sl false (d.map yA)])) (zE bA x.au))),zE wZ y.sg,zE wU y.sv,zE iA y.st,zE vO y.vw] by rw[<-L];rfl];clear L;clear B;unfold zN xD at z;unfold xD;refine eM call37 λF hF=>?_
 (have ga:=u;(repeat' (first|refine jX ?_|apply yW|apply xG|intro hc|(apply zG;first|(apply Am;refine wJ (bO Z Z z) Z ?_)|(apply yI;refine vE tok Z Z ?_)|(apply yD;first|refine xH 1005 tok Z Z Z Z Z Z (yM _ _ (λ_=>rfl)) Z Z Z zB Z Z Z ?_|refine kX tok Z Z Z Z Z Z (yM _ _ (λ_=>rfl)) Z Z Z zB Z ?_))|refine SB ?_|fail))<;>clear ga)
 refine vX [6,7,1011,1012,1013,1014] [6,7,48,50] Z ?_
 (conv=>whnf)
 simp only[zBr,zA8];refine WW ?_;refine zI [] Z Z ?_ Z
 show AV.agg [_,_,_,_,_,_,_,_,.sl false (oj (y.ds.map zN).length ((y.ds.map zN).set a.toNat _)),.sl false (oj (y.sg.map wZ).length (y.sg.map wZ)),.sl false (oj (y.sv.map wU).length (y.sv.map wU)),.sl false (oj (y.st.map iA).length (y.st.map iA)),_]=_
 rw[zA8,zA8,zA8,zBf (by rw[zCj];exact zBa _)];rfl
theorem Aq (f g A:Int) (u:List Int) (E:0<=f):∀i,i<=ln u->HE f g A u i=if(i:Int)<=f\/g<=0 then((u.take i).map jS).flatten else((u.take f.toNat).map jS).flatten++(jS A++(((u.drop f.toNat).take (i-f.toNat)).map jS).flatten)
 |0,_=>by rw[zA4 zB];rfl
 | i +1,hi=>by
  have z:=Aq f g A u E i zB
  have e:u.take (i+1)=u.take i++[u.getD i dd]:=by
   rw[zBk,zB2 zB,zDz,zDx zB]
  unfold HE;by_cases B:g<=0
  .rw[Os zB,z,zA4 (.inr B),zA4 (.inr B),e,zBc,zEq];simp
  .by_cases h1:(i:Int)<f
   .rw[Os zB,z,zA4 zB,zA4 zB,e,zBc,zEq];simp
   .rw[Os (show¬(((i+1:Nat):Int)<=f\/g<=0) by omega)]
    have C:(u.drop f.toNat).take (i+1-f.toNat)=(u.drop f.toNat).take (i-f.toNat)++[u.getD i dd]:=by
     rw[show i+1-f.toNat=(i-f.toNat)+1 by omega,zDx CM,List.getElem_drop,zBk,zB2 zB,zDz]
     congr 3
     omega
    rw[C,zBc,zEq];by_cases h2:(i:Int)=f
    .subst h2;rw[zA4 ⟨rfl,zB⟩,z,zA4 zB];simp
    .rw[Os zB,z,Os zB];simp
def j6 (f g z:Int) (u:List Int) (B:0<=f) (E:f<=ln u):OS f g z u (ln u)=((u.take f.toNat).map jS).flatten++((if 0<g then jS z else [])++((u.drop f.toNat).map jS).flatten):=by
 have C:=Aq f g z u B (ln u) (zBa _);have A:(u.drop f.toNat).take (ln u-f.toNat)=u.drop f.toNat:=zBf (by rw[zB5];exact zBa _);rw[A,zA8]at C
 grind [OS,jS,List.flatten_append,List.take_append_drop,List.take_of_length_le,List.drop_eq_nil_of_le]
def u32_in {n:Int} (h:0<=n/\n<4294967296):IntKind.u32.wrap n=n:=by
 unfold IntKind.wrap;simp[IntKind.signed,IntKind.bits];omega
def Og (a c:Nat) (u:a<4294967296) (hc:c<4294967296):Ur (a:Int) (c:Int)=((a ||| c:Nat):Int):=by
 unfold Ur
 have h1:(BitVec.ofInt IntKind.u32.bits (a:Int) ||| BitVec.ofInt IntKind.u32.bits (c:Int)).toNat=a ||| c:=by
  rw[zGm,zEc,zEc,zEa,zEa,zDy (show a<2 ^ IntKind.u32.bits from u),zDy (show c<2 ^ IntKind.u32.bits from hc)]
 rw[h1]
 have h2:a ||| c<2 ^ 32:=zGe u hc
 exact u32_in ⟨zB,zB⟩
def SH {n x:Int} (z:0<=n/\n<16777216) (A:0<=x/\x<256):Ur (IntKind.u32.wrap (n*2 ^ (min (8:Int).toNat IntKind.u32.bits))) x=n*256+x:=by
 rw[show n*2 ^ (min (8:Int).toNat IntKind.u32.bits)=n*256 from Z,u32_in zB];obtain⟨a,rfl⟩:=zCy z.1;obtain⟨c,rfl⟩:=zCy A.1;have h2:=Og (a*256) c zB zB;have u:=zEp (show c<2 ^ 8 by omega) a;rw[zGl]at u;rw[show((a:Int)*256)=((a*256:Nat):Int) by omega,h2,<-u];omega
def zr (y:Int):IntKind.u8.wrap y=y % 256:=by
 unfold IntKind.wrap;simp[IntKind.signed,IntKind.bits]
def V9 (k:Int) (h:13<=k/\k<=21):zM 141 [iA k] [] (.agg [iA (jQ k).1,iA (jQ k).2.1,iA (jQ k).2.2.1,iA (jQ k).2.2.2.1,iA (jQ k).2.2.2.2]) []:=by
 have:k=13\/k=14\/k=15\/k=16\/k=17\/k=18\/k=19\/k=20\/k=21:=by omega
 rcases this with rfl|rfl|rfl|rfl|rfl|rfl|rfl|rfl|rfl
 all_goals
  refine eM call141 λF hF=>?_
  exact ly
theorem EN (k:Int) (B z:Nat) (lo hi sd:Int) (S:zM 141 [iA k] [] (.agg [iA (B:Int),iA (z:Int),iA lo,iA hi,iA sd]) []) (hg:z<=4) (m:Ms) (c:Nat) (hk:m.kind=k) (ht:ln m.tok<=10) (hd:ln m.data<=100000) (ha:∀x∈m.args,0<=x/\x<=4294967295) (hn:ln m.args<=1000) (hc:z≠0->ln m.args=B+c*z) (av:c<=16):
  zM 70 [zX m] [] (zE yA (dO B z c m)) []:=by
 subst hk;have a2:=zA yA m.tok;have ag:=zA iA m.args;have az:=zA yA m.data;unfold dO;generalize hT:m.tok++ZC B z c 0 m.args=ar;refine eM call70 λF hF=>?_
 (have ga:=S;(repeat' (first|refine uQ ?_|apply yW|apply xG|intro hc|(apply zG;first|(apply yD;refine xH 1001 tok Z Z Z Z Z Z (yM _ _ (λ_=>rfl)) Z Z Z zB Z Z Z ?_))|fail))<;>clear ga)
 refine vS 1001 Z ?_;refine uS (m.args) [1001,1,3] [1,3] [1,3,16,17] [4,18,1,3,16,17] Z (λi f4 T U zs=>∃u:List Int,(ln u<=10+6*i/\∀post,m.args=f4++post->u++ZC B z c i post=ar)/\zs=⟨(4,.ref 1001 0 (u.map yA).length)::(18,iA i)::T,(1001,.arr 1 (u.map yA) true)::U⟩) (Lp ?_ ?_ ?_)
 .exact⟨m.tok,⟨zB,λpost h=>by rw[<-hT,h];rfl⟩,rfl⟩
 .rintro i f4 x post st I hi ⟨u,⟨q0,q1⟩,rfl⟩;have hy:=zZ iA I hi;have au:=zV I hi;have O:=ha x (yU I);have M:=zA yA u;have he:=gD x;have Y:=oy x O.1 O.2;have a1:=zA yA (jS x)
  have A:∀p,m.args=f4++[x]++p->p=post:=λp h=>by
   rw[I,zBx]at h;simpa using h.symm
  have C:=q1 _ I;clear q1 hT I;by_cases G:i=B/\z≠0
  .obtain⟨rfl,E⟩:=G;have L:=hc E
   have hq:(((m.args.map iA).length:Int)-(i:Int)).tdiv (z:Int)=(c:Int):=by
    rw[ag,L,show(((i+c*z:Nat):Int)-(i:Int))=(c:Int)*(z:Int) by rw[Int.natCast_add,zFr];omega];exact Int.mul_tdiv_cancel _ zB
   have ax:bI .i64 ((((m.args.map iA).length:Int)-(i:Int)).tdiv (z:Int)):=by rw[hq];exact⟨zB,zB⟩
   have e:ZC i z c i (x::post)=[(c:Int)]++(jS x++ZC i z c (i+1) post):=by rw[ZC,zA4 ⟨rfl,E⟩]
   rw[e]at C;clear e L hc;generalize jS x=V at *;refine yH (xU S Y) ?_;refine⟨u++[(c:Int)]++V,⟨by simp;omega,λp h=>by rw[A p h,<-C];simp⟩,?_⟩;rw[zBc,zBc,<-hq];rfl
  .have e:ZC B z c i (x::post)=jS x++ZC B z c (i+1) post:=by rw[ZC,Os G];rfl
   rw[e]at C;clear e hc;generalize jS x=V at *;by_cases ac:i=B
   .have E:z=0:=by
     by_cases h:z=0
     .exact h
     .exact absurd ⟨ac,h⟩ G
    refine yH (xU S Y) ?_;refine⟨u++V,⟨by simp;omega,λp h=>by rw[A p h,<-C];simp⟩,?_⟩;rw[zBc];rfl
   ·(refine yH (xU S Y) ?_)
    refine⟨u++V,⟨by simp;omega,λp h=>by rw[A p h,<-C];simp⟩,?_⟩;rw[zBc];rfl
 .rintro st ⟨u,⟨q0,q1⟩,rfl⟩;have e:=q1 [] zW;rw[show ZC B z c (ln m.args) []=[]from rfl,zB1]at e;subst e;have M:=zA yA u;clear q1 hT hc;by_cases W:z≠0/\m.args.length=B
  .rw[zA4 W];obtain⟨R,ap⟩:=W;refine WW ?_;refine zI [] Z Z ?_ Z
   show AV.sl false ((u.map yA++[yA 0]++m.data.map yA).take (u.map yA++[yA 0]++m.data.map yA).length)=_
   rw[zA8];unfold zE;rw[zBc,zBc,zBx];rfl
  .rw[Os W];by_cases R:z=0
   ·(refine WW ?_)
    refine zI [] Z Z ?_ Z
    show AV.sl false ((u.map yA++m.data.map yA).take (u.map yA++m.data.map yA).length)=_
    rw[zA8];unfold zE;rw[zBc];rfl
   .have ap:ln m.args≠B:=λh=>W ⟨R,h⟩
    refine WW ?_;refine zI [] Z Z ?_ Z
    show AV.sl false ((u.map yA++m.data.map yA).take (u.map yA++m.data.map yA).length)=_
    rw[zA8];unfold zE;rw[zBc];rfl
theorem Ng (u z:Nat) (c:Int):∀(l:List Int) (i:Nat),(ZC u z c i l).length=((l.map jS).flatten).length+(if i<=u/\u<i+ln l/\z≠0 then 1 else 0)
 | [],i=>by
  rw[Os (by rintro⟨h1,h2,_⟩;simp at h2;omega)];rfl
 | x::l,i=>by
  have A:=Ng u z c l (i+1);rw[ZC,zA9,zA9,A,zCn,zD2,zA9,zBj];by_cases h1:i=u/\z≠0
  .rw[zA4 h1,Os zB,zA4 zB];simp only[zBj,zCb];omega
  .rw[Os h1];by_cases h2:i+1<=u/\u<i+1+ln l/\z≠0
   .rw[zA4 h2,zA4 zB];simp only[zCb];omega
   .rw[Os h2,Os zB];simp only[zCb];omega
def yr {k:Int} {u A:List Int} (h:U6 k u A) (B C c:Nat):(dO B C c ⟨k,[],u,A⟩).length<=200:=by
 have E:=h.z
 grind [dO,Ng,List.length_append,List.length_cons,List.length_nil]
theorem oe {k:Int} {u B:List Int} (h:U6 k u B):zM 69 [zX ⟨k,[],u,B⟩] [] (bA true) []:=by
 have E:=V9 k h.kk;have Y:=cY k;have hk:=h.kk;rw[zA6 zB]at Y;have hz:=h.z;have I:=h.n;have hl:=h.l;have au:=zA iA u;have av:=zA yA B;have ap:ln B<=200:=by omega
 have hd:=h.d;have O:=yr h;have G:k=13\/k=14\/k=15\/k=16\/k=17\/k=18\/k=19\/k=20\/k=21:=by omega
 rcases h.g with⟨g1,M⟩|⟨g1,gr,M,g3,g4,g5⟩
 .have ag:(jQ k).2.2.2.2= -1\/0<=(jQ k).2.2.2.2:=by omega
  generalize (jQ k).2.2.1=lo,(jQ k).2.2.2.1=hi at *;rw[g1,<-M]at E;have R:=EN k (ln u) 0 lo hi _ E zB ⟨k,[],u,B⟩ 0 Z zW NH I NH (λh=>absurd Z h) zB;have O:=O (ln u) 0 0;generalize dO (ln u) 0 0 ⟨k,[],u,B⟩=W at *;have S:=zA yA W;generalize (jQ k).2.2.2.2=sd at *;clear G g1 hz h;unfold zX at *;dsimp only at*
  rcases ag with hs|hs
  all_goals
   refine eM call69 λF hF=>?_
   refine yH (xU E Y) ?_;refine zQ (u) [1] [1] [1,97,98] [99,1,97,98] Z (λi f4 T U=>⟨(99,iA i)::T,U⟩) (Lq ?_ ?_)
   .intro i f4 x post A hi;have hy:=zZ iA A hi;have L:=zV A hi;have V:=I x (yU A);clear A I;refine WW ?_;rfl
   .exact mx R
 .have ac:k=18\/k=19:=by
   rcases G with rfl|rfl|rfl|rfl|rfl|rfl|rfl|rfl|rfl<;>first|exact .inl Z|exact .inr Z|(exfalso;revert g1;decide)
  obtain⟨C,rfl⟩:∃C:Nat,gr=(C:Int):=⟨gr.toNat,zB⟩
  rcases ac with rfl|rfl
  .have M:(ln u:Int)=1+3*(C:Int):=M;have g5:(C:Int)<=16:=g5;have E:zM 141 [iA 18] [] (.agg [iA 1,iA 3,iA 0,iA 16,iA 0]) []:=E;have hd:(ln B:Int)=0:=hd.elim (λh=>absurd h xA) id;have R:=EN 18 1 3 0 16 0 E zB ⟨18,[],u,B⟩ C Z zW NH I NH (λ_=>by dsimp only;omega) zB;have O:=O 1 3 C;generalize dO 1 3 C ⟨18,[],u,B⟩=W at *;have S:=zA yA W;have hm:(((u.map iA).length:Int)-1).tmod 3=0:=by rw[zCf zB];omega
   clear G hz h;unfold zX at *;dsimp only at *;refine eM call69 λF hF=>?_
   refine yH (xU E Y) ?_;refine zQ (u) [1] [1] [1,97,98] [99,1,97,98] Z (λi f4 T U=>⟨(99,iA i)::T,U⟩) (Lq ?_ ?_)
   .intro i f4 x post A hi;have hy:=zZ iA A hi;have L:=zV A hi;have V:=I x (yU A);clear A I;refine WW ?_;rfl
   .exact mx R
  .have M:(ln u:Int)=0+2*(C:Int):=M;have g5:(C:Int)<=4:=g5;have E:zM 141 [iA 19] [] (.agg [iA 0,iA 2,iA 0,iA 4,iA 0]) []:=E;have hd:(ln B:Int)=0:=hd.elim (λh=>absurd h xA) id;have R:=EN 19 0 2 0 4 0 E zB ⟨19,[],u,B⟩ C Z zW NH I NH (λ_=>by dsimp only;omega) zB;have O:=O 0 2 C;generalize dO 0 2 C ⟨19,[],u,B⟩=W at *;have S:=zA yA W;have hm:(((u.map iA).length:Int)-0).tmod 2=0:=by rw[zCf zB];omega
   clear G hz h;unfold zX at *;dsimp only at *;refine eM call69 λF hF=>?_
   refine yH (xU E Y) ?_;refine zQ (u) [1] [1] [1,97,98] [99,1,97,98] Z (λi f4 T U=>⟨(99,iA i)::T,U⟩) (Lq ?_ ?_)
   .intro i f4 x post A hi;have hy:=zZ iA A hi;have L:=zV A hi;have V:=I x (yU A);clear A I;refine WW ?_;rfl
   .exact mx R
def RZ (u j:Int) (x:Rq) (g:Lg):List Cl:=if g.jn=j/\g.sc≠ -1 then [⟨u,x.id,g.ph,x.cls,g.sc⟩]else []
def cJ (u j:Int) (x:Rq) (l:List Lg):List Cl:=(l.map (RZ u j x)).flatten
def qj (u j:Int) (x:Rq) (l:List Lg) (g:Lg):cJ u j x (l++[g])=cJ u j x l++RZ u j x g:=by simp[cJ]
theorem SI {u j:Int} {x:Rq}:∀{l:List Lg},(∀g∈l,g.jn≠j)->cJ u j x l=[]
 | [],_=>rfl
 |g::l,h=>by
  show RZ u j x g++cJ u j x l=[]
  rw[SI λy z=>h y (by simp[z])];unfold RZ;rw[Os (λe=>h g zW e.1)];rfl
theorem Ha (u j:Int) (x:Rq):∀l:List Lg,(cJ u j x l).length<=ln l
 | []=>zBa _
 |g::l=>by
  have z:=Ha u j x l;have e:cJ u j x (g::l)=RZ u j x g++cJ u j x l:=rfl
  have h1:(RZ u j x g).length<=1:=by unfold RZ;split<;>simp
  rw[e,zA9,zBj];omega
theorem Mg:∀{post q:List Lg} {x:Lg},kS q post=true->x∈q->∀y∈post,y.jn≠x.jn
 |y::post,q,x,h,A,z,u=>by
  unfold kS at h;simp only[zBe,zDm]at h;obtain⟨_,h1,h2⟩:=h
  rcases zCt.1 u with rfl|u
  .intro e;have:=zDn.1 h1 x A;rw[e]at this;simp at this
  .exact Mg h2 (List.mem_append_left _ A) z u
theorem IZ:∀(f4:List Lg) {u post:List Lg} {x:Lg},kS u (f4++x::post)=true->∀y∈post,y.jn≠x.jn
 | [],u,post,x,h=>by
  rw[zEf]at h;unfold kS at h;simp only[zBe]at h;exact Mg h.2.2 zW
 |a::f4,u,post,x,h=>by
  rw[zEk]at h;unfold kS at h;simp only[zBe]at h;exact IZ f4 h.2.2
def xr {A j:Int} {x:Rq} (h:kS [] x.legs=true):cJ A j x x.legs=OW A j x:=by
 unfold OW;generalize hl:x.legs=l at *;by_cases G:∃g∈l,g.jn=j
 case neg=>
  have I:∀g∈l,g.jn≠j:=λg u e=>G ⟨g,u,e⟩
  rw[SI I,bW (λy z=>by simpa using I y z),zA4 xA]
 obtain⟨f4,g,post,e,L,u⟩:∃f4 g post,l=f4++g::post/\(∀y∈f4,y.jn≠j)/\g.jn=j:=by
  clear h hl
  induction l with
  |nil=>obtain⟨g,u,_⟩:=G;cases u
  | cons a l U=>
   by_cases C:a.jn=j
   .exact⟨[],a,l,rfl,(λy z=>(by cases z)),C⟩
   .obtain⟨g,u,e⟩:=G
    rcases zCt.1 u with rfl|u
    .exact absurd e C
    obtain⟨f4,R,post,e1,M,e3⟩:=U ⟨g,u,e⟩;exact⟨a::f4,R,post,(by rw[e1];rfl),(λy z=>(zCt.1 z).elim (λh=>h▸C) (M y)),e3⟩
 have S:=IZ f4 (e▸h);have hi:=OE (p:=λr:Lg=>r.jn==j) e (λy z=>by simpa using L y z) (by simpa using u);rw[hi,Os zB,zBu];have E:l.getD (ln f4) dd=g:=by rw[e];simp[pb]
 rw[E];have O:cJ A j x l=cJ A j x f4++(RZ A j x g++cJ A j x post):=by rw[e];simp[cJ]
 rw[O,SI L,SI (λy z=>by rw[<-u];exact S y z),zEf,zB1];unfold RZ;by_cases B:g.sc= -1
 .rw[zA4 B,Os (λh=>h.2 B)]
 .rw[Os B,zA4 ⟨u,B⟩]
def Ga (l:List Rq) (z j:Int) (hn:ln l<=1000) (hb:∀r∈l,ln r.legs<=1000) (hv:∀r∈l,kS [] r.legs=true):zM 90 [zE zY l,iA z,iA j] [] (zE kD (fK z j l)) []:=by
 have hl:=zA zY l;refine eM call90 λF hF=>?_
 refine WW ?_;refine zS 7 1001 5 Z Z Z ?_;refine zQ (l) [1001] [] [1,2,12,13] [7,14,1,2,12,13] Z (λi f4 T U=>⟨(7,.ref 1001 0 ((fK z j f4).map kD).length)::(14,iA i)::T,(1001,.arr 5 ((fK z j f4).map kD) true)::U⟩) (Lq ?_ ?_)
 .intro i f4 x post B hi;have hy:=zZ zY B hi;have R:=zV B hi;have hq:=dX z j f4;have V:ln f4<=ln l:=by rw[B];simp
  have ac:(x.legs.map yO).length=ln x.legs:=zA5 ..;have W:=hb x (yU B);have C:=Ha z j x;rw[KX,<-xr (hv x (yU B))];clear B;generalize fK z j f4=X at *;unfold zY at hy;have I:X++cJ z j x []=X:=by simp[cJ]
  refine WW ?_;refine zQ (x.legs) [1001,9] [9] [1,2,9,12,13,14,19,20] [7,21,1,2,9,12,13,14,19,20] Z (λi f4 T U=>⟨(7,.ref 1001 0 ((X++cJ z j x f4).map kD).length)::(21,iA i)::T,(1001,.arr 5 ((X++cJ z j x f4).map kD) true)::U⟩) ?_;(conv=>whnf);refine⟨by(rw[I];rfl),?_,?_⟩
  .intro k u g G A hk;have E:=zZ yO A hk;have L:=zV A hk;have S:ln u<=ln x.legs:=by rw[A];simp
   have O:=C u;have M:((X++cJ z j x u).map kD).length=ln X+(cJ z j x u).length:=by simp
   have e1:(X++cJ z j x (u++[g])).map kD=(X++cJ z j x u).map kD++(RZ z j x g).map kD:=by rw[qj,<-zBx,zBc]
   rw[e1];clear A C e1 I;generalize (X++cJ z j x u).map kD=Y,(cJ z j x u).length=n2 at *;unfold yO at E;by_cases h1:g.jn=j
   .by_cases h2:g.sc= -1
    .rw[show RZ z j x g=[]from Os (λh=>h.2 h2),zCx,zB1];refine WW ?_;rfl
    .rw[show RZ z j x g=[⟨z,x.id,g.ph,x.cls,g.sc⟩]from zA4 ⟨h1,h2⟩];refine WW ?_;rfl
   .rw[show RZ z j x g=[]from Os (λh=>h1 h.1),zCx,zB1];refine WW ?_;rfl
  ·(refine WW ?_)
   rfl
 ·(refine WW ?_)
  exact zI [] Z Z (zBp (AV.sl false) zA8) Z
def LO (u:List wD):Prop:=∀i,i<ln u->(u.getD i dd).rg.num=(i:Int)
def Fa (c:Cf) (rf:Bool) (f3:Int) (u:List wD) (j:Int) (hd:ln u<=1000) (hb:∀d∈u,dH d) (hv:∀d∈u,∀r∈d.rq,kS [] r.legs=true) (hN:LO u) (A B C:List AV) (a b e:Nat) (V:List Vw):
  zM 39 [aH c rf f3 (zE zN u) (.ref 1012 0 a) (.ref 1013 0 b) (.ref 1014 0 e) (zE vO V),iA j] [(1012,.arr 5 A false),(1013,.arr 3 B false),(1014,.arr 1 C false)] (zE kD (jK j u)) [(1012,.arr 5 A false),(1013,.arr 3 B false),(1014,.arr 1 C false)]:=by
 have hl:=zA zN u;unfold aH;refine eM call39 λF hF=>?_
 refine WW ?_;refine zS 5 1001 5 Z Z Z ?_;refine zQ (u) [1001,1012,1013,1014] [1012,1013,1014] [1,9,10] [5,11,1,9,10] Z (λi f4 T U=>⟨(5,.ref 1001 0 ((jK j f4).map kD).length)::(11,iA i)::T,(1001,.arr 5 ((jK j f4).map kD) true)::U⟩) (Lq ?_ ?_)
 .intro i f4 x post z hi;have hy:=zZ zN z hi;have I:=zV z hi;have E:=hb x (yU z)
  have G:x.rg.num=(i:Int):=by
   have:=hN i I
   rwa [show u.getD i dd=x by rw[z,<-hi];simp[pb]]at this
  have O:=Ga x.rq x.rg.num j E.q E.g (hv x (yU z));have hq:=OX j f4 (λd hd=>(hb d (by rw[z];simp[hd])).q);have S:((jK j f4).map kD).length=(jK j f4).length:=zA5 ..;have L:=dX x.rg.num j x.rq;have M:((fK x.rg.num j x.rq).map kD).length=(fK x.rg.num j x.rq).length:=zA5 ..;have R:ln f4<=ln u:=by rw[z];simp
  have W:=E.q;rw[KY,zBc];clear z;generalize (jK j f4).map kD=X at *;unfold zE at O;rw[G]at O L M⊢;generalize fK (i:Int) j x.rq=Y at *;unfold zN xD at hy;refine zU O ?_;rfl
 ·(refine WW ?_)
  exact zI [1012,1013,1014] Z Z (zBp (AV.sl false) zA8) Z
def Ea (m:Ms) (h1:ln m.tok<=1000) (h2:ln m.args<=1000) (z:ln m.data<=1000):zM 128 [zX m] [] (zX m) []:=by
 have e1:=zA yA m.tok;have u:=zA iA m.args;have e3:=zA yA m.data;unfold zX;refine eM call128 λF hF=>?_
 exact ng
def me (xs:List AV) (G:ln xs<=2000) (m:Ms) (h:ZB m):zM 59 [.ref 1053 0 (ln xs),zX m] [(1053,.arr 4 xs true)] (.ref 1053 0 (xs++[zX m]).length) [(1053,.arr 4 (xs++[zX m]) true)]:=by
 obtain⟨u,S⟩:=h;have hd:=S.z;have A:=Ea m (by rw[u];simp) (by have:=S.l;omega) zB;obtain⟨k,I,C,E⟩:=m;dsimp only at *;subst u;have B:=oe S;clear hd S;unfold zX at *;dsimp only at *;refine eM call59 λF hF=>?_
 (have ga:=B;have ge:=A;(repeat' (first|refine jX ?_|apply yW|apply xG|intro hc|(apply zG;first|(apply yI;refine vE tok Z Z ?_))|refine SB ?_|fail))<;>clear ga ge)
 exact zP [1053] Z Z Z Z
def Yx (m:Ms) (h:ZB m):zM 59 [.s (.slice none 0 0),zX m] [] (zE zX [m]) []:=by
 obtain⟨u,S⟩:=h;have hd:=S.z;have A:=Ea m (by rw[u];simp) (by have:=S.l;omega) zB;obtain⟨k,G,C,E⟩:=m;dsimp only at *;subst u;have B:=oe S;clear hd S;unfold zX at *;dsimp only at *;refine eM call59 λF hF=>?_
 exact nl (xU B A)
def Xx (f3:Int) (v:List Vw) (u:ln v<=1000) (hb:∀w∈v,Ua w):zM 60 [iA f3,zE vO v] [] (zX (QL f3 v)) []:=by
 have k:=ig v u hb;unfold QL zX;dsimp only;generalize XU v=r at *;refine eM call60 λF hF=>?_
 refine UA k ?_;refine zI [] Z Z ?_ Z
 show AV.agg [iA 21,zE yA [],zE iA [f3],.sl false (oj (r.map yA).length (r.map yA))]=_
 rw[zA8];rfl
def wr (f3:Int) (l:List En) (L:ln l<=100000):zM 62 [iA f3,zE kF l] [] (zX (bj f3 l)) []:=by
 have hl:=zA kF l;have A:((f3::((([]:List En).take 16).map fJ).flatten).map iA)=[iA f3]:=rfl
 have u:∀p:List En,((f3::((p.take 16).map fJ).flatten).map iA).length=1+3*(p.take 16).length:=λp=>by
  rw[zA5,zBj];generalize p.take 16=q
  induction q with
  |nil=>rfl
  |cons a q M=>rw[zCn,zD2,zA9,zBj];show 3+_+1=_;omega
 unfold bj zX;dsimp only;refine eM call62 λF hF=>?_
 refine WW ?_;refine vS 9 Z ?_;refine zQ (l) [9,4] [4] [4,10,11] [5,12,4,10,11] Z (λi f4 T U=>⟨(5,.ref 9 0 ((f3::((f4.take 16).map fJ).flatten).map iA).length)::(12,iA i)::T,(9,.arr 1 ((f3::((f4.take 16).map fJ).flatten).map iA) true)::U⟩) (Lq ?_ ?_)
 .intro i f4 x post z hi;have G:=zZ kF z hi;have C:=zV z hi;have E:=u f4;have B:(f4.take 16).length<=16:=by rw[zBt];omega
  clear z A u;unfold kF OM at G;by_cases I:i<16
  .have e1:(f3::(((f4++[x]).take 16).map fJ).flatten).map iA=(f3::((f4.take 16).map fJ).flatten).map iA++[iA x.ag,iA x.ki,iA x.co]:=by
    rw[zBf (l:=f4++[x]) Ax,zBf (l:=f4) zB];simp[fJ]
   rw[e1];generalize (f3::((f4.take 16).map fJ).flatten).map iA=Y at *;refine WW ?_;rfl
  .have e1:(f4++[x]).take 16=f4.take 16:=by rw[zDe zB]
   rw[e1];generalize (f3::((f4.take 16).map fJ).flatten).map iA=Y at *;refine WW ?_;rfl
 ·(refine WW ?_)
  refine zI [] Z Z ?_ Z
  show AV.agg [iA 18,zE yA [],.sl false (oj ((f3::((l.take 16).map fJ).flatten).map iA).length ((f3::((l.take 16).map fJ).flatten).map iA)),zE yA []]=_
  rw[zA8];rfl
def vr (g:Cf) (j:Jn) (J:JV j) (s:Sg) (C:CV j s.c) (v:Sv) (l:List Cl) (k f3:Int) (H:Rr g v l f3) (I: -1000000<=(uW g v l f3).gr/\(uW g v l f3).gr<=1000000):zM 58 [wH g,wK j,wZ s,wU v,zE kD l,iA k,iA f3] [] (.tup [wZ (rb g j s v l k f3).1,wU (rb g j s v l k f3).2]) []:=by
 have hJ:=J.n;have hn:=C.n;have hm:=C.m;have hb:mb v:=⟨by have:=H.sl;omega⟩;have B:mb (uW g v l f3):=⟨by rw[YY];have:=H.sl;omega⟩;have O:=PQ s zB zB;have R:=pc v hb f3;have E:=Qh g v l f3 H;have G:=Gl j J s C (uW g v l f3).ph k;have S:=pc (uW g v l f3) B f3;have L:=Ql (uW g v l f3) B (M0 (Ae j s (uW g v l f3).ph k) (uW g v l f3)) I;have X:=E0 J C (uW g v l f3).ph k;have V:=X.n;unfold rb;generalize qV v f3=v0,uW g v l f3=z at *;generalize qV z f3=v2 at *;generalize Ae j s z.ph k=x at *;have u:M0 x z=(decide (0<=z.ph/\z.ph<ln x.c.li)&&((xT x.c z.ph.toNat).lamp==1)):=rfl;generalize M0 x z=b at *;generalize gM z b=v3 at *;clear H I X C hb B;obtain⟨sc,Y⟩:=s;obtain⟨A,xl⟩:=x;dsimp only at *;have U:=zA xE A.li
 cases Y with
 |true=>
  rw[zA4 Z];refine eM call58 λF hF=>?_
  exact mt (xU O R)
 |false=>
 rw[Os zBl]
 cases xl with
 |true=>
  rw[zA4 Z];refine eM call58 λF hF=>?_
  exact mt (qL E G S)
 |false=>
 rw[Os zBl];dsimp only;rw[show wZ ⟨A,false⟩= .agg [zE xE A.li,iA A.gr,zE iA A.nx,iA A.wt,bA false]from Z]at *; by_cases h1:0<=z.ph
 case neg=>
  rw[zA6 (λh=>h1 h.1),zB7]at u;subst u;refine eM call58 λF hF=>?_
  exact mt (qL E G L)
 by_cases h2:z.ph<ln A.li
 case neg=>
  rw[zA6 (λh=>h2 h.2),zB7]at u;subst u;refine eM call58 λF hF=>?_
  exact mt (qL E G L)
 rw[zA7 ⟨h1,h2⟩,zBg]at u;have W:=yF xE A.li z.ph h1 h2
 change (A.li.map xE)[z.ph.toNat]? =some (xE (xT A z.ph.toNat))at W
 generalize xT A z.ph.toNat=a at *;by_cases M:a.lamp=1
 .rw[show(a.lamp==1)=true by rw[zCm];exact M]at u;subst u;refine eM call58 λF hF=>?_
  exact mt (qL E G L)
 .rw[show(a.lamp==1)=false by rw[zB0];exact M]at u;subst u;refine eM call58 λF hF=>?_
  exact mt (qL E G L)
