/- Part 29. -/
import Derived.Test.YtaglbcjljlkjcaaGreatW28
namespace Go.Proofs.YtaglbcjljlkjcaaGreat.Av
open Tryz
set_option linter.all false
set_option maxRecDepth 4000
set_option maxHeartbeats 8000000
open List renaming length->ln,take->pb,getD->pi
open Inhabited renaming default->dd
def RU (y:Cy) (j p:Int):Cy:=if(0<=j/\j<(ln y.c.js:Int))/\0<=p/\p<((y.c.js.getD j.toNat dd).ph.length:Int)then⟨y.c,false,y.f3,y.ds,y.sg,y.sv,y.st.set j.toNat p,y.vw⟩else y
def E8 {y:Cy} (h:KJ y) (j p:Int):KJ (RU y j p):=by
 unfold RU;split
 .exact⟨h.v,rfl,h.n0,h.dl,h.di,h.dg,h.sc,h.gl,h.sl,by dsimp only;rw[zB5];exact h.tl,h.wl,h.wb,h.j⟩
 .exact h
def drD (d:wC) (x:List Int):wC:=⟨d.rg,d.rq,d.dr++[x],d.au⟩
def TY (y:Cy) (a:Int) (x:List Int):Cy:=if(0<=a/\a<(ln y.ds:Int))/\x.length=8/\(y.ds.getD a.toNat dd).dr.length<8 then⟨y.c,false,y.f3,y.ds.set a.toNat (drD (y.ds.getD a.toNat dd) x),y.sg,y.sv,y.st,y.vw⟩else y
def D8 {y:Cy} (h:KJ y) {a:Int} {d:List Int} (hd:BY d):KJ (TY y a d):=by
 unfold TY;split
 case isFalse=>exact h
 rename_i hc;obtain⟨⟨a0,C⟩,E,G⟩:=hc;have A:a.toNat<ln y.ds:=by omega
 generalize a.toNat=n at *;have u:=h.di _ (yK y.ds n A);refine⟨h.v,rfl,h.n0,by dsimp only;rw[zB5];exact h.dl,λz B=>?_,λi hi=>?_,λz B=>?_,h.gl,h.sl,h.tl,h.wl,h.wb,h.j⟩
 .rcases zDt B with B|rfl
  .exact h.di z B
  .refine⟨u.b,u.v,u.q,u.lg,u.a,u.n,u.t8,u.br,u.bb,u.bl,u.au,?_,λx hx=>?_,u.vh⟩
   .grind [BY,TY,drD,List.length_append,List.length_cons,List.length_nil]
   .rcases zBc.1 hx with hx|hx
    .exact u.dr x hx
    all_goals grind
 .dsimp only at hi⊢;rw[zB5]at hi;rw[KL _ _ _ _ hi];split
  .rename_i e;rw[<-e];exact h.dg n A
  .exact h.dg i hi
 .rcases zDt B with B|rfl
  .exact h.sc z B
  .exact h.sc (y.ds.getD n dd) (yK y.ds n A)
theorem XL (y:Cy) (h:P6 y):zN 53 [qY y] [] (IU y) (IV y):=by
 have C:=zA zM y.ds;have E:=zA vE y.sg;have G:=zA wW y.sv;have I:=zA iA y.st;have L:=zA vR y.vw;have hd:=h.d;have M:=h.g;have O:=h.s;have R:=h.t;have hv:=h.v;unfold qY IU aY IV;refine eM call53 λF hF=>?_
 (repeat' (first|refine uT ?_|apply yW|apply xI|intro hc|(apply zG;first|(apply yC;first|refine xG 1014 tok Z Z Z Z Z Z (yM _ _ (λ_=>rfl)) Z Z Z zB Z Z Z ?_|refine xG 1016 tok Z Z Z Z Z Z (yM _ _ (λ_=>rfl)) Z Z Z zB Z Z Z ?_))|fail))
 refine zQ 4 1011 17 Z Z Z ?_;refine zU (y.ds) [1011,1,2,3,1014,1016] [1,2,3,1014,1016] [1,2,3,27,28] [4,29,1,2,3,27,28] Z (λi f4 T U=>⟨(4,.ref 1011 0 (f4.map zM).length)::(29,iA i)::T,(1011,.arr 17 (f4.map zM) true)::U⟩) (Lq ?_ ?_)
 .intro i f4 x post hx hi;have B:=yJ zM hx hi;have u:=zX hx hi;have z:(f4.map zM).length=i:=by rw[zAr,hi]
  have A:=kN x (h.db x (xA hx));have e:(f4++[x]).map zM=f4.map zM++[zM x]:=by simp
  clear hx;rw[e];generalize f4.map zM=xs at *;unfold zM xD at*
  (have ga:=A;(repeat' (first|refine jX ?_|apply yW|apply xI|intro hc|(apply zG;first|(apply yH;refine vC tok Z Z ?_))|refine SB ?_|fail))<;>clear ga)
  rfl
 .refine kF 1011 [4] Z Z Z Z Z ?_;refine WW ?_;refine zQ 7 1012 5 Z Z Z ?_;refine zU (y.sg) [1012,1,2,3,1011,1014,1016] [1,2,3,1011,1014,1016] [1,2,3,4,40,41] [7,42,1,2,3,4,40,41] Z (λi f4 T U=>⟨(7,.ref 1012 0 (f4.map vE).length)::(42,iA i)::T,(1012,.arr 5 (f4.map vE) true)::U⟩) (Lq ?_ ?_)
  .intro i f4 x post hx hi;have B:=yJ vE hx hi;have u:=zX hx hi;have z:(f4.map vE).length=i:=by rw[zAr,hi]
   have hb:=h.gb x (xA hx);have A:=PL x zB zB;have e:(f4++[x]).map vE=f4.map vE++[vE x]:=by simp
   clear hx;rw[e];generalize f4.map vE=xs at *;unfold vE at*
   (have ga:=A;(repeat' (first|refine jX ?_|apply yW|apply xI|intro hc|(apply zG;first|(apply yH;refine vC tok Z Z ?_))|refine SB ?_|fail))<;>clear ga)
   rfl
  .refine kF 1012 [7] Z Z Z Z Z ?_;refine WW ?_;refine zQ 10 1013 3 Z Z Z ?_;refine zU (y.sv) [1013,2,3,1011,1012,1014,1016] [2,3,1011,1012,1014,1016] [2,3,4,7,53,54] [10,55,2,3,4,7,53,54] Z (λi f4 T U=>⟨(10,.ref 1013 0 (f4.map wW).length)::(55,iA i)::T,(1013,.arr 3 (f4.map wW) true)::U⟩) (Lq ?_ ?_)
   .intro i f4 x post hx hi;have B:=yJ wW hx hi;have u:=zX hx hi;have z:(f4.map wW).length=i:=by rw[zAr,hi]
    have hb:=h.sb x (xA hx);have A:=NL x ⟨zB⟩;have e:(f4++[x]).map wW=f4.map wW++[wW x]:=by simp
    clear hx;rw[e];generalize f4.map wW=xs at *;unfold wW at*
    (have ga:=A;(repeat' (first|refine jX ?_|apply yW|apply xI|intro hc|(apply zG;first|(apply yH;refine vC tok Z Z ?_))|refine SB ?_|fail))<;>clear ga)
    rfl
   .refine kF 1013 [10] Z Z Z Z Z ?_;refine WW ?_;refine zH [1011,1012,1013,1014] Z Z ?_ Z
    show AV.agg [zE wJ y.c.js,zE uI y.c.ags,iA y.c.per,iA y.c.cap,iA y.c.hold,iA y.c.lock,bA y.rf,iA y.f3,.ref 1011 0 (y.ds.map zM).length,.ref 1012 0 (y.sg.map vE).length,.ref 1013 0 (y.sv.map wW).length,.ref 1014 0 (y.st.map iA).length,.sl false (pb (y.vw.map vR).length (y.vw.map vR))]=_
    rw[zAt];rfl
def bZ (y:Cy) (h:P6 y):zN 53 [qY y] [] (qY y) []:=de (XL y h)
def Fq (y:Cy) (h:KJ y) (j p:Int):zN 17 [qY y,iA j,iA p] [] (qY (RU y j p)) []:=by
 have hb:=h.b;have z:=h.rf;have L:=zA wJ y.c.js;have O:=zA iA y.st;have G:=h.tl;have B:=aR z;by_cases hj:0<=j/\j<(ln y.c.js:Int)
 case neg=>
  rw[show RU y j p=y by unfold RU;rw[Os (λh=>hj h.1)]];have u:=bZ y hb;rw[B]at u⊢;by_cases I:j<0
  all_goals
   refine eM call17 λF hF=>?_
   exact ng u
 obtain⟨j0,j1⟩:=hj;have A:=yE wJ y.c.js j j0 j1;have M:=zA xN (y.c.js.getD j.toNat dd).ph;by_cases E:0<=p/\p<((y.c.js.getD j.toNat dd).ph.length:Int)
 case neg=>
  rw[show RU y j p=y by unfold RU;rw[Os (λh=>E h.2)]];have u:=bZ y hb;rw[B]at u⊢;generalize y.c.js.getD j.toNat dd=S at *;unfold wJ at A;by_cases I:p<0
  all_goals
   refine eM call17 λF hF=>?_
   exact ng u
 obtain⟨U,V⟩:=E;rw[show RU y j p=⟨y.c,false,y.f3,y.ds,y.sg,y.sv,y.st.set j.toNat p,y.vw⟩ by unfold RU;rw[f5 ⟨⟨j0,j1⟩,U,V⟩]];have u:=XL y hb;unfold IU IV aY at u;rw[B,z]at u;rw[B];have C:(y.st.set j.toNat p).map iA=(y.st.map iA).set j.toNat (iA p):=zCe ..;rw[show qY ⟨y.c,false,y.f3,y.ds,y.sg,y.sv,y.st.set j.toNat p,y.vw⟩= .agg [zE wJ y.c.js,zE uI y.c.ags,iA y.c.per,iA y.c.cap,iA y.c.hold,iA y.c.lock,bA false,iA y.f3,zE zM y.ds,zE vE y.sg,zE wW y.sv,.sl false ((y.st.map iA).set j.toNat (iA p)),zE vR y.vw] by rw[<-C];rfl];clear C;have R:=yE iA y.st j j0 zB;generalize y.c.js.getD j.toNat dd=S at *;unfold wJ at A;refine eM call17 λF hF=>?_
 refine zS u ?_;refine zH [] Z Z ?_ Z
 show AV.agg [_,_,_,_,_,_,_,_,.sl false (pb (y.ds.map zM).length (y.ds.map zM)),.sl false (pb (y.sg.map vE).length (y.sg.map vE)),.sl false (pb (y.sv.map wW).length (y.sv.map wW)),.sl false (pb (y.st.map iA).length ((y.st.map iA).set j.toNat (iA p))),_]=_
 rw[zAt,zAt,zAt,zA1 (by rw[zB5];exact zAw _)];rfl
theorem yx (y:Cy) (h:KJ y) (a:Int) (d:List Int) (R:ln d<=1000000):zN 37 [qY y,iA a,zE yA d] [] (qY (TY y a d)) []:=by
 have hb:=h.b;have A:=h.rf;have S:=zA zM y.ds;have U:=zA yA d;have C:=aR A;by_cases M:0<=a/\a<(ln y.ds:Int)
 case neg=>
  rw[show TY y a d=y by unfold TY;rw[Os (λh=>M h.1)]];have u:=bZ y hb;rw[C]at u⊢;by_cases Y:a<0
  all_goals
   refine eM call37 λF hF=>?_
   exact ng u
 obtain⟨a0,I⟩:=M;have z:=yE zM y.ds a a0 I;have O:=h.di _ (yK y.ds a.toNat zB);have V:=O.dn;by_cases E:ln d=8/\(y.ds.getD a.toNat dd).dr.length<8
 case neg=>
  rw[show TY y a d=y by unfold TY;rw[Os (λh=>E h.2)]];have u:=bZ y hb;rw[C]at u⊢;generalize y.ds.getD a.toNat dd=x at *;have G:=zA qQ x.dr;unfold zM xD at z;by_cases h9:ln d=8
  all_goals
   refine eM call37 λF hF=>?_
   exact ng u
 obtain⟨E,W⟩:=E;rw[show TY y a d=⟨y.c,false,y.f3,y.ds.set a.toNat ⟨(y.ds.getD a.toNat dd).rg,(y.ds.getD a.toNat dd).rq,(y.ds.getD a.toNat dd).dr++[d],(y.ds.getD a.toNat dd).au⟩,y.sg,y.sv,y.st,y.vw⟩ by unfold TY;rw[f5 ⟨⟨a0,I⟩,E,W⟩];rfl];have u:=XL y hb;unfold IU IV aY at u;rw[C,A]at u;rw[C];generalize y.ds.getD a.toNat dd=x at *;have G:=zA qQ x.dr;have B:(x.dr++[d]).map qQ=x.dr.map qQ++[.sl false (d.map yA)]:=by rw[zAy];rfl
 have L:(y.ds.set a.toNat ⟨x.rg,x.rq,x.dr++[d],x.au⟩).map zM=(y.ds.map zM).set a.toNat (xD x.rg (zE zY x.rq) (.sl false (x.dr.map qQ++[.sl false (d.map yA)])) (zE bA x.au)):=by rw[zCe,<-B];rfl
 rw[show qY ⟨y.c,false,y.f3,y.ds.set a.toNat ⟨x.rg,x.rq,x.dr++[d],x.au⟩,y.sg,y.sv,y.st,y.vw⟩= .agg [zE wJ y.c.js,zE uI y.c.ags,iA y.c.per,iA y.c.cap,iA y.c.hold,iA y.c.lock,bA false,iA y.f3,.sl false ((y.ds.map zM).set a.toNat (xD x.rg (zE zY x.rq) (.sl false (x.dr.map qQ++[.sl false (d.map yA)])) (zE bA x.au))),zE vE y.sg,zE wW y.sv,zE iA y.st,zE vR y.vw] by rw[<-L];rfl];clear L;clear B;unfold zM xD at z;unfold xD;refine eM call37 λF hF=>?_
 (have ga:=u;(repeat' (first|refine jX ?_|apply yW|apply xI|intro hc|(apply zG;first|(apply Vn;refine wM (bK Z Z z) Z ?_)|(apply yH;refine vC tok Z Z ?_)|(apply yC;first|refine xG 1005 tok Z Z Z Z Z Z (yM _ _ (λ_=>rfl)) Z Z Z zB Z Z Z ?_|refine kX tok Z Z Z Z Z Z (yM _ _ (λ_=>rfl)) Z Z Z zB Z ?_))|refine SB ?_|fail))<;>clear ga)
 refine vU [6,7,1011,1012,1013,1014] [6,7,48,50] Z ?_
 (conv=>whnf)
 simp only[zBd,zAt];refine WW ?_;refine zH [] Z Z ?_ Z
 show AV.agg [_,_,_,_,_,_,_,_,.sl false (pb (y.ds.map zM).length ((y.ds.map zM).set a.toNat _)),.sl false (pb (y.sg.map vE).length (y.sg.map vE)),.sl false (pb (y.sv.map wW).length (y.sv.map wW)),.sl false (pb (y.st.map iA).length (y.st.map iA)),_]=_
 rw[zAt,zAt,zAt,zA1 (by rw[zB5];exact zAw _)];rfl
theorem Dq (f g A:Int) (u:List Int) (E:0<=f):∀i,i<=ln u->IS f g A u i=if(i:Int)<=f\/g<=0 then((u.take i).map jR).flatten else((u.take f.toNat).map jR).flatten++(jR A++(((u.drop f.toNat).take (i-f.toNat)).map jR).flatten)
 |0,_=>by rw[f5 zB];rfl
 | i +1,hi=>by
  have z:=Dq f g A u E i zB
  have e:u.take (i+1)=u.take i++[u.getD i dd]:=by
   rw[zA0,zBk zB,zDm,zDk zB]
  unfold IS;by_cases B:g<=0
  .rw[Os zB,z,f5 (.inr B),f5 (.inr B),e,zAy,zEc];simp
  .by_cases h1:(i:Int)<f
   .rw[Os zB,z,f5 zB,f5 zB,e,zAy,zEc];simp
   .rw[Os (show¬(((i+1:Nat):Int)<=f\/g<=0) by omega)]
    have C:(u.drop f.toNat).take (i+1-f.toNat)=(u.drop f.toNat).take (i-f.toNat)++[u.getD i dd]:=by
     rw[show i+1-f.toNat=(i-f.toNat)+1 by omega,zDk CG,List.getElem_drop,zA0,zBk zB,zDm]
     congr 3
     omega
    rw[C,zAy,zEc];by_cases h2:(i:Int)=f
    .subst h2;rw[f5 ⟨rfl,zB⟩,z,f5 zB];simp
    .rw[Os zB,z,Os zB];simp
def U5 (f g z:Int) (u:List Int) (B:0<=f) (E:f<=ln u):OM f g z u (ln u)=((u.take f.toNat).map jR).flatten++((if 0<g then jR z else [])++((u.drop f.toNat).map jR).flatten):=by
 have C:=Dq f g z u B (ln u) (zAw _);have A:(u.drop f.toNat).take (ln u-f.toNat)=u.drop f.toNat:=zA1 (by rw[zBr];exact zAw _);rw[A,zAt]at C
 grind [OM,jR,List.flatten_append,List.take_append_drop,List.take_of_length_le,List.drop_eq_nil_of_le]
def u32_in {n:Int} (h:0<=n/\n<4294967296):IntKind.u32.wrap n=n:=by
 unfold IntKind.wrap;simp[IntKind.signed,IntKind.bits];omega
def Zg (a c:Nat) (u:a<4294967296) (hc:c<4294967296):Ur (a:Int) (c:Int)=((a ||| c:Nat):Int):=by
 unfold Ur
 have h1:(BitVec.ofInt IntKind.u32.bits (a:Int) ||| BitVec.ofInt IntKind.u32.bits (c:Int)).toNat=a ||| c:=by
  rw[zF7,zDw,zDw,zDv,zDv,zDl (show a<2 ^ IntKind.u32.bits from u),zDl (show c<2 ^ IntKind.u32.bits from hc)]
 rw[h1]
 have h2:a ||| c<2 ^ 32:=zFy u hc
 exact u32_in ⟨zB,zB⟩
def TZ {n x:Int} (z:0<=n/\n<16777216) (hx:0<=x/\x<256):Ur (IntKind.u32.wrap (n*2 ^ (min (8:Int).toNat IntKind.u32.bits))) x=n*256+x:=by
 rw[show n*2 ^ (min (8:Int).toNat IntKind.u32.bits)=n*256 from Z,u32_in zB];obtain⟨a,rfl⟩:=zCl z.1;obtain⟨c,rfl⟩:=zCl hx.1;have h2:=Zg (a*256) c zB zB;have u:=zEb (show c<2 ^ 8 by omega) a;rw[zF6]at u;rw[show((a:Int)*256)=((a*256:Nat):Int) by omega,h2,<-u];omega
def Cq (y:Int):IntKind.u8.wrap y=y % 256:=by
 unfold IntKind.wrap;simp[IntKind.signed,IntKind.bits]
def C8 (k:Int) (h:13<=k/\k<=21):zN 141 [iA k] [] (.agg [iA (jP k).1,iA (jP k).2.1,iA (jP k).2.2.1,iA (jP k).2.2.2.1,iA (jP k).2.2.2.2]) []:=by
 have:k=13\/k=14\/k=15\/k=16\/k=17\/k=18\/k=19\/k=20\/k=21:=by omega
 rcases this with rfl|rfl|rfl|rfl|rfl|rfl|rfl|rfl|rfl
 all_goals
  refine eM call141 λF hF=>?_
  exact ly
theorem EC (k:Int) (B z:Nat) (lo hi sd:Int) (R:zN 141 [iA k] [] (.agg [iA (B:Int),iA (z:Int),iA lo,iA hi,iA sd]) []) (hg:z<=4) (m:Ms) (c:Nat) (hk:m.kind=k) (ht:ln m.tok<=10) (hd:ln m.data<=100000) (ha:∀x∈m.args,0<=x/\x<=4294967295) (hn:ln m.args<=1000) (hc:z≠0->ln m.args=B+c*z) (au:c<=16):
  zN 70 [zW m] [] (zE yA (dK B z c m)) []:=by
 subst hk;have a1:=zA yA m.tok;have ac:=zA iA m.args;have ax:=zA yA m.data;unfold dK;generalize hT:m.tok++aZ B z c 0 m.args=ap;refine eM call70 λF hF=>?_
 (have ga:=R;(repeat' (first|refine uT ?_|apply yW|apply xI|intro hc|(apply zG;first|(apply yC;refine xG 1001 tok Z Z Z Z Z Z (yM _ _ (λ_=>rfl)) Z Z Z zB Z Z Z ?_))|fail))<;>clear ga)
 refine vO 1001 Z ?_;refine uX (m.args) [1001,1,3] [1,3] [1,3,16,17] [4,18,1,3,16,17] Z (λi f4 T U zs=>∃u:List Int,(ln u<=10+6*i/\∀post,m.args=f4++post->u++aZ B z c i post=ap)/\zs=⟨(4,.ref 1001 0 (u.map yA).length)::(18,iA i)::T,(1001,.arr 1 (u.map yA) true)::U⟩) (Lp ?_ ?_ ?_)
 .exact⟨m.tok,⟨zB,λpost h=>by rw[<-hT,h];rfl⟩,rfl⟩
 .rintro i f4 x post st hx hi ⟨u,⟨q0,q1⟩,rfl⟩;have hy:=yJ iA hx hi;have ar:=zX hx hi;have M:=ha x (xA hx);have L:=zA yA u;have he:=gC x;have W:=Dx x M.1 M.2;have az:=zA yA (jR x)
  have A:∀p,m.args=f4++[x]++p->p=post:=λp h=>by
   rw[hx,zBh]at h;simpa using h.symm
  have C:=q1 _ hx;clear q1 hT hx;by_cases G:i=B/\z≠0
  .obtain⟨rfl,E⟩:=G;have I:=hc E
   have hq:(((m.args.map iA).length:Int)-(i:Int)).tdiv (z:Int)=(c:Int):=by
    rw[ac,I,show(((i+c*z:Nat):Int)-(i:Int))=(c:Int)*(z:Int) by rw[Int.natCast_add,zFb];omega];exact Int.mul_tdiv_cancel _ zB
   have av:aB .i64 ((((m.args.map iA).length:Int)-(i:Int)).tdiv (z:Int)):=by rw[hq];exact⟨zB,zB⟩
   have e:aZ i z c i (x::post)=[(c:Int)]++(jR x++aZ i z c (i+1) post):=by rw[aZ,f5 ⟨rfl,E⟩]
   rw[e]at C;clear e I hc;generalize jR x=S at *;refine yG (xV R W) ?_;refine⟨u++[(c:Int)]++S,⟨by simp;omega,λp h=>by rw[A p h,<-C];simp⟩,?_⟩;rw[zAy,zAy,<-hq];rfl
  .have e:aZ B z c i (x::post)=jR x++aZ B z c (i+1) post:=by rw[aZ,Os G];rfl
   rw[e]at C;clear e hc;generalize jR x=S at *;by_cases Y:i=B
   .have E:z=0:=by
     by_cases h:z=0
     .exact h
     .exact absurd ⟨Y,h⟩ G
    refine yG (xV R W) ?_;refine⟨u++S,⟨by simp;omega,λp h=>by rw[A p h,<-C];simp⟩,?_⟩;rw[zAy];rfl
   ·(refine yG (xV R W) ?_)
    refine⟨u++S,⟨by simp;omega,λp h=>by rw[A p h,<-C];simp⟩,?_⟩;rw[zAy];rfl
 .rintro st ⟨u,⟨q0,q1⟩,rfl⟩;have e:=q1 [] zV;rw[show aZ B z c (ln m.args) []=[]from rfl,zBn]at e;subst e;have L:=zA yA u;clear q1 hT hc;by_cases V:z≠0/\m.args.length=B
  .rw[f5 V];obtain⟨O,ag⟩:=V;refine WW ?_;refine zH [] Z Z ?_ Z
   show AV.sl false ((u.map yA++[yA 0]++m.data.map yA).take (u.map yA++[yA 0]++m.data.map yA).length)=_
   rw[zAt];unfold zE;rw[zAy,zAy,zBh];rfl
  .rw[Os V];by_cases O:z=0
   ·(refine WW ?_)
    refine zH [] Z Z ?_ Z
    show AV.sl false ((u.map yA++m.data.map yA).take (u.map yA++m.data.map yA).length)=_
    rw[zAt];unfold zE;rw[zAy];rfl
   .have ag:ln m.args≠B:=λh=>V ⟨O,h⟩
    refine WW ?_;refine zH [] Z Z ?_ Z
    show AV.sl false ((u.map yA++m.data.map yA).take (u.map yA++m.data.map yA).length)=_
    rw[zAt];unfold zE;rw[zAy];rfl
theorem Yg (u z:Nat) (c:Int):∀(l:List Int) (i:Nat),(aZ u z c i l).length=((l.map jR).flatten).length+(if i<=u/\u<i+ln l/\z≠0 then 1 else 0)
 | [],i=>by
  rw[Os (by rintro⟨h1,h2,_⟩;simp at h2;omega)];rfl
 | x::l,i=>by
  have A:=Yg u z c l (i+1);rw[aZ,zAv,zAv,A,zCb,zDp,zAv,zA6];by_cases h1:i=u/\z≠0
  .rw[f5 h1,Os zB,f5 zB];simp only[zA6,zBx];omega
  .rw[Os h1];by_cases h2:i+1<=u/\u<i+1+ln l/\z≠0
   .rw[f5 h2,f5 zB];simp only[zBx];omega
   .rw[Os h2,Os zB];simp only[zBx];omega
def Bq {k:Int} {u A:List Int} (h:K5 k u A) (B C c:Nat):(dK B C c ⟨k,[],u,A⟩).length<=200:=by
 have E:=h.z
 grind [dK,Yg,List.length_append,List.length_cons,List.length_nil]
theorem we {k:Int} {u A:List Int} (h:K5 k u A):zN 69 [zW ⟨k,[],u,A⟩] [] (bA true) []:=by
 have C:=C8 k h.kk;have W:=cV k;have hk:=h.kk;rw[zAs zB]at W;have hz:=h.z;have G:=h.n;have hl:=h.l;have au:=zA iA u;have av:=zA yA A;have ap:ln A<=200:=by omega
 have hd:=h.d;have M:=Bq h;have E:k=13\/k=14\/k=15\/k=16\/k=17\/k=18\/k=19\/k=20\/k=21:=by omega
 rcases h.g with⟨Y,L⟩|⟨Y,gr,L,g3,g4,g5⟩
 .have ag:(jP k).2.2.2.2= -1\/0<=(jP k).2.2.2.2:=by omega
  generalize (jP k).2.2.1=lo,(jP k).2.2.2.1=hi at *;rw[Y,<-L]at C;have O:=EC k (ln u) 0 lo hi _ C zB ⟨k,[],u,A⟩ 0 Z zV NB G NB (λh=>absurd Z h) zB;have M:=M (ln u) 0 0;generalize dK (ln u) 0 0 ⟨k,[],u,A⟩=V at *;have R:=zA yA V;generalize (jP k).2.2.2.2=sd at *;clear E Y hz h;unfold zW at *;dsimp only at*
  rcases ag with hs|hs
  all_goals
   refine eM call69 λF hF=>?_
   refine yG (xV C W) ?_;refine zU (u) [1] [1] [1,97,98] [99,1,97,98] Z (λi f4 T U=>⟨(99,iA i)::T,U⟩) (Lq ?_ ?_)
   .intro i f4 x post hx hi;have hy:=yJ iA hx hi;have I:=zX hx hi;have S:=G x (xA hx);clear hx G;refine WW ?_;rfl
   .exact ng O
 .have ac:k=18\/k=19:=by
   rcases E with rfl|rfl|rfl|rfl|rfl|rfl|rfl|rfl|rfl<;>first|exact .inl Z|exact .inr Z|(exfalso;revert Y;decide)
  obtain⟨B,rfl⟩:∃B:Nat,gr=(B:Int):=⟨gr.toNat,zB⟩
  rcases ac with rfl|rfl
  .have L:(ln u:Int)=1+3*(B:Int):=L;have g5:(B:Int)<=16:=g5;have C:zN 141 [iA 18] [] (.agg [iA 1,iA 3,iA 0,iA 16,iA 0]) []:=C;have hd:(ln A:Int)=0:=hd.elim (λh=>absurd h yY) id;have O:=EC 18 1 3 0 16 0 C zB ⟨18,[],u,A⟩ B Z zV NB G NB (λ_=>by dsimp only;omega) zB;have M:=M 1 3 B;generalize dK 1 3 B ⟨18,[],u,A⟩=V at *;have R:=zA yA V;have hm:(((u.map iA).length:Int)-1).tmod 3=0:=by rw[zB1 zB];omega
   clear E hz h;unfold zW at *;dsimp only at *;refine eM call69 λF hF=>?_
   refine yG (xV C W) ?_;refine zU (u) [1] [1] [1,97,98] [99,1,97,98] Z (λi f4 T U=>⟨(99,iA i)::T,U⟩) (Lq ?_ ?_)
   .intro i f4 x post hx hi;have hy:=yJ iA hx hi;have I:=zX hx hi;have S:=G x (xA hx);clear hx G;refine WW ?_;rfl
   .exact ng O
  .have L:(ln u:Int)=0+2*(B:Int):=L;have g5:(B:Int)<=4:=g5;have C:zN 141 [iA 19] [] (.agg [iA 0,iA 2,iA 0,iA 4,iA 0]) []:=C;have hd:(ln A:Int)=0:=hd.elim (λh=>absurd h yY) id;have O:=EC 19 0 2 0 4 0 C zB ⟨19,[],u,A⟩ B Z zV NB G NB (λ_=>by dsimp only;omega) zB;have M:=M 0 2 B;generalize dK 0 2 B ⟨19,[],u,A⟩=V at *;have R:=zA yA V;have hm:(((u.map iA).length:Int)-0).tmod 2=0:=by rw[zB1 zB];omega
   clear E hz h;unfold zW at *;dsimp only at *;refine eM call69 λF hF=>?_
   refine yG (xV C W) ?_;refine zU (u) [1] [1] [1,97,98] [99,1,97,98] Z (λi f4 T U=>⟨(99,iA i)::T,U⟩) (Lq ?_ ?_)
   .intro i f4 x post hx hi;have hy:=yJ iA hx hi;have I:=zX hx hi;have S:=G x (xA hx);clear hx G;refine WW ?_;rfl
   .exact ng O
def RV (u j:Int) (x:Rq) (g:Lg):List Cl:=if g.jn=j/\g.sc≠ -1 then [⟨u,x.id,g.ph,x.cls,g.sc⟩]else []
def cH (u j:Int) (x:Rq) (l:List Lg):List Cl:=(l.map (RV u j x)).flatten
def Bi (u j:Int) (x:Rq) (l:List Lg) (g:Lg):cH u j x (l++[g])=cH u j x l++RV u j x g:=by simp[cH]
theorem SA {u j:Int} {x:Rq}:∀{l:List Lg},(∀g∈l,g.jn≠j)->cH u j x l=[]
 | [],_=>rfl
 |g::l,h=>by
  show RV u j x g++cH u j x l=[]
  rw[SA λy z=>h y (by simp[z])];unfold RV;rw[Os (λe=>h g zV e.1)];rfl
theorem Na (u j:Int) (x:Rq):∀l:List Lg,(cH u j x l).length<=ln l
 | []=>zAw _
 |g::l=>by
  have z:=Na u j x l;have e:cH u j x (g::l)=RV u j x g++cH u j x l:=rfl
  have h1:(RV u j x g).length<=1:=by unfold RV;split<;>simp
  rw[e,zAv,zA6];omega
theorem Xg:∀{post q:List Lg} {x:Lg},kU q post=true->x∈q->∀y∈post,y.jn≠x.jn
 |y::post,q,x,h,hx,z,u=>by
  unfold kU at h;simp only[zA2,zC9]at h;obtain⟨_,h1,h2⟩:=h
  rcases zCf.1 u with rfl|u
  .intro e;have:=zDa.1 h1 x hx;rw[e]at this;simp at this
  .exact Xg h2 (List.mem_append_left _ hx) z u
theorem IN:∀(f4:List Lg) {u post:List Lg} {x:Lg},kU u (f4++x::post)=true->∀y∈post,y.jn≠x.jn
 | [],u,post,x,h=>by
  rw[zD1]at h;unfold kU at h;simp only[zA2]at h;exact Xg h.2.2 zV
 |a::f4,u,post,x,h=>by
  rw[zD6]at h;unfold kU at h;simp only[zA2]at h;exact IN f4 h.2.2
def Aq {A j:Int} {x:Rq} (h:kU [] x.legs=true):cH A j x x.legs=OP A j x:=by
 unfold OP;generalize hl:x.legs=l at *;by_cases G:∃g∈l,g.jn=j
 case neg=>
  have I:∀g∈l,g.jn≠j:=λg u e=>G ⟨g,u,e⟩
  rw[SA I,bS (λy z=>by simpa using I y z),f5 yY]
 obtain⟨f4,g,post,e,L,u⟩:∃f4 g post,l=f4++g::post/\(∀y∈f4,y.jn≠j)/\g.jn=j:=by
  clear h hl
  induction l with
  |nil=>obtain⟨g,u,_⟩:=G;cases u
  | cons a l U=>
   by_cases C:a.jn=j
   .exact⟨[],a,l,rfl,(λy z=>(by cases z)),C⟩
   .obtain⟨g,u,e⟩:=G
    rcases zCf.1 u with rfl|u
    .exact absurd e C
    obtain⟨f4,R,post,e1,M,e3⟩:=U ⟨g,u,e⟩;exact⟨a::f4,R,post,(by rw[e1];rfl),(λy z=>(zCf.1 z).elim (λh=>h▸C) (M y)),e3⟩
 have S:=IN f4 (e▸h);have hi:=PW (p:=λr:Lg=>r.jn==j) e (λy z=>by simpa using L y z) (by simpa using u);rw[hi,Os zB,zBf];have E:l.getD (ln f4) dd=g:=by rw[e];simp[pi]
 rw[E];have O:cH A j x l=cH A j x f4++(RV A j x g++cH A j x post):=by rw[e];simp[cH]
 rw[O,SA L,SA (λy z=>by rw[<-u];exact S y z),zD1,zBn];unfold RV;by_cases B:g.sc= -1
 .rw[f5 B,Os (λh=>h.2 B)]
 .rw[Os B,f5 ⟨u,B⟩]
def Ma (l:List Rq) (z j:Int) (hn:ln l<=1000) (hb:∀r∈l,ln r.legs<=1000) (hv:∀r∈l,kU [] r.legs=true):zN 90 [zE zY l,iA z,iA j] [] (zE kE (fH z j l)) []:=by
 have hl:=zA zY l;refine eM call90 λF hF=>?_
 refine WW ?_;refine zQ 7 1001 5 Z Z Z ?_;refine zU (l) [1001] [] [1,2,12,13] [7,14,1,2,12,13] Z (λi f4 T U=>⟨(7,.ref 1001 0 ((fH z j f4).map kE).length)::(14,iA i)::T,(1001,.arr 5 ((fH z j f4).map kE) true)::U⟩) (Lq ?_ ?_)
 .intro i f4 x post hx hi;have hy:=yJ zY hx hi;have O:=zX hx hi;have hq:=dU z j f4;have S:ln f4<=ln l:=by rw[hx];simp
  have W:(x.legs.map yO).length=ln x.legs:=zAr ..;have V:=hb x (xA hx);have B:=Na z j x;rw[KQ,<-Aq (hv x (xA hx))];clear hx;generalize fH z j f4=X at *;unfold zY at hy;have G:X++cH z j x []=X:=by simp[cH]
  refine WW ?_;refine zU (x.legs) [1001,9] [9] [1,2,9,12,13,14,19,20] [7,21,1,2,9,12,13,14,19,20] Z (λi f4 T U=>⟨(7,.ref 1001 0 ((X++cH z j x f4).map kE).length)::(21,iA i)::T,(1001,.arr 5 ((X++cH z j x f4).map kE) true)::U⟩) ?_;(conv=>whnf);refine⟨by(rw[G];rfl),?_,?_⟩
  .intro k u g E A hk;have C:=yJ yO A hk;have I:=zX A hk;have R:ln u<=ln x.legs:=by rw[A];simp
   have M:=B u;have L:((X++cH z j x u).map kE).length=ln X+(cH z j x u).length:=by simp
   have e1:(X++cH z j x (u++[g])).map kE=(X++cH z j x u).map kE++(RV z j x g).map kE:=by rw[Bi,<-zBh,zAy]
   rw[e1];clear A B e1 G;generalize (X++cH z j x u).map kE=Y,(cH z j x u).length=n2 at *;unfold yO at C;by_cases h1:g.jn=j
   .by_cases h2:g.sc= -1
    .rw[show RV z j x g=[]from Os (λh=>h.2 h2),zCj,zBn];refine WW ?_;rfl
    .rw[show RV z j x g=[⟨z,x.id,g.ph,x.cls,g.sc⟩]from f5 ⟨h1,h2⟩];refine WW ?_;rfl
   .rw[show RV z j x g=[]from Os (λh=>h1 h.1),zCj,zBn];refine WW ?_;rfl
  ·(refine WW ?_)
   rfl
 ·(refine WW ?_)
  exact zH [] Z Z (zBb (AV.sl false) zAt) Z
def KI (u:List wC):Prop:=∀i,i<ln u->(u.getD i dd).rg.num=(i:Int)
def La (c:Cf) (rf:Bool) (f3:Int) (u:List wC) (j:Int) (hd:ln u<=1000) (hb:∀d∈u,dN d) (hv:∀d∈u,∀r∈d.rq,kU [] r.legs=true) (hN:KI u) (A B C:List AV) (a b e:Nat) (V:List Vw):
  zN 39 [aY c rf f3 (zE zM u) (.ref 1012 0 a) (.ref 1013 0 b) (.ref 1014 0 e) (zE vR V),iA j] [(1012,.arr 5 A false),(1013,.arr 3 B false),(1014,.arr 1 C false)] (zE kE (jJ j u)) [(1012,.arr 5 A false),(1013,.arr 3 B false),(1014,.arr 1 C false)]:=by
 have hl:=zA zM u;unfold aY;refine eM call39 λF hF=>?_
 refine WW ?_;refine zQ 5 1001 5 Z Z Z ?_;refine zU (u) [1001,1012,1013,1014] [1012,1013,1014] [1,9,10] [5,11,1,9,10] Z (λi f4 T U=>⟨(5,.ref 1001 0 ((jJ j f4).map kE).length)::(11,iA i)::T,(1001,.arr 5 ((jJ j f4).map kE) true)::U⟩) (Lq ?_ ?_)
 .intro i f4 x post hx hi;have W:=yJ zM hx hi;have G:=zX hx hi;have z:=hb x (xA hx)
  have E:x.rg.num=(i:Int):=by
   have:=hN i G
   rwa [show u.getD i dd=x by rw[hx,<-hi];simp[pi]]at this
  have M:=Ma x.rq x.rg.num j z.q z.g (hv x (xA hx));have hq:=OQ j f4 (λd hd=>(hb d (by rw[hx];simp[hd])).q);have R:((jJ j f4).map kE).length=(jJ j f4).length:=zAr ..;have I:=dU x.rg.num j x.rq;have L:((fH x.rg.num j x.rq).map kE).length=(fH x.rg.num j x.rq).length:=zAr ..;have O:ln f4<=ln u:=by rw[hx];simp
  have S:=z.q;rw[KR,zAy];clear hx;generalize (jJ j f4).map kE=X at *;unfold zE at M;rw[E]at M I L⊢;generalize fH (i:Int) j x.rq=Y at *;unfold zM xD at W;refine zS M ?_;rfl
 ·(refine WW ?_)
  exact zH [1012,1013,1014] Z Z (zBb (AV.sl false) zAt) Z
def Ka (m:Ms) (h1:ln m.tok<=1000) (h2:ln m.args<=1000) (z:ln m.data<=1000):zN 128 [zW m] [] (zW m) []:=by
 have e1:=zA yA m.tok;have u:=zA iA m.args;have e3:=zA yA m.data;unfold zW;refine eM call128 λF hF=>?_
 exact nl
def ue (xs:List AV) (G:ln xs<=2000) (m:Ms) (h:YO m):zN 59 [.ref 1053 0 (ln xs),zW m] [(1053,.arr 4 xs true)] (.ref 1053 0 (xs++[zW m]).length) [(1053,.arr 4 (xs++[zW m]) true)]:=by
 obtain⟨u,S⟩:=h;have hd:=S.z;have A:=Ka m (by rw[u];simp) (by have:=S.l;omega) zB;obtain⟨k,I,C,E⟩:=m;dsimp only at *;subst u;have B:=we S;clear hd S;unfold zW at *;dsimp only at *;refine eM call59 λF hF=>?_
 (have ga:=B;have ge:=A;(repeat' (first|refine jX ?_|apply yW|apply xI|intro hc|(apply zG;first|(apply yH;refine vC tok Z Z ?_))|refine SB ?_|fail))<;>clear ga ge)
 exact zP [1053] Z Z Z Z
def xx (m:Ms) (h:YO m):zN 59 [.s (.slice none 0 0),zW m] [] (zE zW [m]) []:=by
 obtain⟨u,S⟩:=h;have hd:=S.z;have A:=Ka m (by rw[u];simp) (by have:=S.l;omega) zB;obtain⟨k,G,C,E⟩:=m;dsimp only at *;subst u;have B:=we S;clear hd S;unfold zW at *;dsimp only at *;refine eM call59 λF hF=>?_
 exact nm (xV B A)
def wx (f3:Int) (v:List Vw) (u:ln v<=1000) (hb:∀w∈v,ia w):zN 60 [iA f3,zE vR v] [] (zW (QG f3 v)) []:=by
 have k:=ug v u hb;unfold QG zW;dsimp only;generalize YF v=r at *;refine eM call60 λF hF=>?_
 refine WH k ?_;refine zH [] Z Z ?_ Z
 show AV.agg [iA 21,zE yA [],zE iA [f3],.sl false (pb (r.map yA).length (r.map yA))]=_
 rw[zAt];rfl
def zr (f3:Int) (l:List En) (I:ln l<=100000):zN 62 [iA f3,zE kG l] [] (zW (Qg f3 l)) []:=by
 have hl:=zA kG l;have z:((f3::((([]:List En).take 16).map fG).flatten).map iA)=[iA f3]:=rfl
 have u:∀p:List En,((f3::((p.take 16).map fG).flatten).map iA).length=1+3*(p.take 16).length:=λp=>by
  rw[zAr,zA6];generalize p.take 16=q
  induction q with
  |nil=>rfl
  |cons a q L=>rw[zCb,zDp,zAv,zA6];show 3+_+1=_;omega
 unfold Qg zW;dsimp only;refine eM call62 λF hF=>?_
 refine WW ?_;refine vO 9 Z ?_;refine zU (l) [9,4] [4] [4,10,11] [5,12,4,10,11] Z (λi f4 T U=>⟨(5,.ref 9 0 ((f3::((f4.take 16).map fG).flatten).map iA).length)::(12,iA i)::T,(9,.arr 1 ((f3::((f4.take 16).map fG).flatten).map iA) true)::U⟩) (Lq ?_ ?_)
 .intro i f4 x post hx hi;have E:=yJ kG hx hi;have B:=zX hx hi;have C:=u f4;have A:(f4.take 16).length<=16:=by rw[zBg];omega
  clear hx z u;unfold kG OG at E;by_cases G:i<16
  .have e1:(f3::(((f4++[x]).take 16).map fG).flatten).map iA=(f3::((f4.take 16).map fG).flatten).map iA++[iA x.ag,iA x.ki,iA x.co]:=by
    rw[zA1 (l:=f4++[x]) Hk,zA1 (l:=f4) zB];simp[fG]
   rw[e1];generalize (f3::((f4.take 16).map fG).flatten).map iA=Y at *;refine WW ?_;rfl
  .have e1:(f4++[x]).take 16=f4.take 16:=by rw[zC0 zB]
   rw[e1];generalize (f3::((f4.take 16).map fG).flatten).map iA=Y at *;refine WW ?_;rfl
 ·(refine WW ?_)
  refine zH [] Z Z ?_ Z
  show AV.agg [iA 18,zE yA [],.sl false (pb ((f3::((l.take 16).map fG).flatten).map iA).length ((f3::((l.take 16).map fG).flatten).map iA)),zE yA []]=_
  rw[zAt];rfl
def yr (g:Cf) (j:Jn) (J:JV j) (s:Sg) (C:CV j s.c) (v:Sv) (l:List Cl) (k f3:Int) (H:Rr g v l f3) (I: -1000000<=(uR g v l f3).gr/\(uR g v l f3).gr<=1000000):zN 58 [wE g,wJ j,vE s,wW v,zE kE l,iA k,iA f3] [] (.tup [vE (Ca g j s v l k f3).1,wW (Ca g j s v l k f3).2]) []:=by
 have hJ:=J.n;have hn:=C.n;have hm:=C.m;have hb:Oe v:=⟨by have:=H.sl;omega⟩;have B:Oe (uR g v l f3):=⟨by rw[YX];have:=H.sl;omega⟩;have O:=PL s zB zB;have R:=Db v hb f3;have E:=Zh g v l f3 H;have G:=Ll j J s C (uR g v l f3).ph k;have S:=Db (uR g v l f3) B f3;have L:=Vl (uR g v l f3) B (Jz (Ke j s (uR g v l f3).ph k) (uR g v l f3)) I;have X:=Ez J C (uR g v l f3).ph k;have V:=X.n;unfold Ca;generalize qV v f3=v0,uR g v l f3=z at *;generalize qV z f3=v2 at *;generalize Ke j s z.ph k=x at *;have u:Jz x z=(decide (0<=z.ph/\z.ph<ln x.c.li)&&((xS x.c z.ph.toNat).lamp==1)):=rfl;generalize Jz x z=b at *;generalize gL z b=v3 at *;clear H I X C hb B;obtain⟨sc,Y⟩:=s;obtain⟨A,xl⟩:=x;dsimp only at *;have U:=zA xE A.li
 cases Y with
 |true=>
  rw[f5 Z];refine eM call58 λF hF=>?_
  exact mx (xV O R)
 |false=>
 rw[Os zA7]
 cases xl with
 |true=>
  rw[f5 Z];refine eM call58 λF hF=>?_
  exact mx (qM E G S)
 |false=>
 rw[Os zA7];dsimp only;rw[show vE ⟨A,false⟩= .agg [zE xE A.li,iA A.gr,zE iA A.nx,iA A.wt,bA false]from Z]at *; by_cases h1:0<=z.ph
 case neg=>
  rw[zAs (λh=>h1 h.1),zBt]at u;subst u;refine eM call58 λF hF=>?_
  exact mx (qM E G L)
 by_cases h2:z.ph<ln A.li
 case neg=>
  rw[zAs (λh=>h2 h.2),zBt]at u;subst u;refine eM call58 λF hF=>?_
  exact mx (qM E G L)
 rw[zAu ⟨h1,h2⟩,zA3]at u;have W:=yE xE A.li z.ph h1 h2
 change (A.li.map xE)[z.ph.toNat]? =some (xE (xS A z.ph.toNat))at W
 generalize xS A z.ph.toNat=a at *;by_cases M:a.lamp=1
 .rw[show(a.lamp==1)=true by rw[zB8];exact M]at u;subst u;refine eM call58 λF hF=>?_
  exact mx (qM E G L)
 .rw[show(a.lamp==1)=false by rw[zBm];exact M]at u;subst u;refine eM call58 λF hF=>?_
  exact mx (qM E G L)
