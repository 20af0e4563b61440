/- Part 27. -/
import Derived.Test.YtaglbcjljlkjcaaGreatT26
namespace Go.Proofs.YtaglbcjljlkjcaaGreat.Av
open Tryz
set_option linter.all false
set_option maxRecDepth 4000
set_option maxHeartbeats 8000000
open List renaming length->ln,replicate->oj,range->pb,take->pi
open Inhabited renaming default->dd
variable {c:Cf}{k n f3:Int}{ar da:List Int}{l:List Rq}{α:Type}{d:wD}
def HE (f g u:Int) (ar:List Int):Nat->List Int
 |0=>[]
 |i+1=>(if(i:Int)=f/\0<g then HE f g u ar i++jS u else HE f g u ar i)++jS (ar.getD i dd)
def OS (f g u:Int) (ar:List Int) (i:Nat):List Int:=if(i:Int)=f/\0<g then HE f g u ar i++jS u else HE f g u ar i
theorem DK (h:n<128):(jS n).length=1:=by unfold jS;rw[VM h];rfl
theorem u7 (h:n<16384):(jS n).length<=2:=by grind [jS,DK,FA,VM]
theorem HF (f g u:Int) (ar:List Int):∀i,(HE f g u ar i).length<=10*i
 |0=>zBa _
 |i+1=>by
  have:=HF f g u ar i;have h1:=gD u;have h2:=gD (ar.getD i dd);unfold HE
  split<;>simp only[zA9]<;>omega
theorem Qs (f g u:Int) (ar:List Int) (i:Nat):(OS f g u ar i).length<=10*i+5:=by grind [OS,HF,gD,List.length_append]
theorem Gj {f g z:Int} (A:0<=z/\z<=4294967295) (B:RW ar):∀i,i<=ln ar->BY (HE f g z ar i)
 |0,_=>λx u=>by cases u
 | i+1,hi=>by
  have C:=Gj (f:=f) (g:=g) A B i zB;have h1:=EH A.1 A.2;have h2:=B (ar.getD i dd) (yL ar i zB);have E:=EH h2.1 h2.2;unfold HE;intro x u
  rcases zBq.1 u with u|u
  .split at u
   .exact(zBq.1 u).elim (C x) (h1 x)
   .exact C x u
  .exact E x u
theorem Wz {f g u:Int} (A:0<=u/\u<=4294967295) (z:RW ar) (i:Nat) (hi:i<=ln ar):BY (OS f g u ar i):=by grind [RW,BY,OS,Gj,EH]
theorem Vz (k f g lo hi sd u:Int) (ar da:List Int) (c1:zM 233 [iA k] [] (.tup [XR ⟨0,f,g,lo,hi,sd⟩,bA true]) []) (c2:zM 234 [XR ⟨0,f,g,lo,hi,sd⟩,iA ((ar.map iA).length:Int)] [] (.tup [iA u,bA true]) [])
  (hd:sd= -1\/(ln da:Int)=sd) (ha:RW ar) (av:ln ar<=100) (Y:0<=u/\u<=4294967295) (hz:(OS f g u ar (ln ar)++da).length<=200):
  zM 185 [zX ⟨k,[],ar,da⟩] [] (.tup [zE yA (OS f g u ar (ln ar)++da),iA 0]) []:=by
 have c3:=QH [] zW;have a3:=zA iA ar;have a4:=zA yA da;have cg:=L7 u Y.1 Y.2;have a5:=zA yA (jS u);have a8:=gD u;have S:=HF f g u ar;have R:=Qs f g u ar;have L:HE f g u ar 0=[]:=rfl
 have M:∀i:Nat,OS f g u ar i=if(i:Int)=f/\0<g then HE f g u ar i++jS u else HE f g u ar i:=λ_=>rfl
 have O:∀i:Nat,HE f g u ar (i+1)=OS f g u ar i++jS (ar.getD i dd):=λ_=>rfl
 have au:(OS f g u ar (ln ar)).length+ln da<=200:=by rw[zA9]at hz;exact hz
 have hz:((OS f g u ar (ln ar)).map yA++da.map yA).length<=200:=by rw[zA9]at hz;simp;omega
 have a1:ln da<=200:=by omega
 rw[show zE yA (OS f g u ar (ln ar)++da)= .sl false (pi ((OS f g u ar (ln ar)).map yA++da.map yA).length (List.drop 0 ((OS f g u ar (ln ar)).map yA++da.map yA))) by rw[zBr,zA8];unfold zE;rw[zBc]];rw[show zX ⟨k,[],ar,da⟩= .agg [iA k,zE yA [],zE iA ar,zE yA da]from Z];rw[show XR ⟨0,f,g,lo,hi,sd⟩= .agg [iA 0,iA f,iA g,iA lo,iA hi,iA sd]from Z]at *; generalize OS f g u ar=pg,HE f g u ar=I at *;clear au
 rcases hd with h2|h2
 all_goals
  refine eM call185 λF hF=>?_
  refine yH (qL c1 c2 c3) ?_
 all_goals
  refine vS 1001 Z ?_;refine yV (ln ar+1) [1001,1,4] [1,4] [1,4,6,64] [7,65,1,4,6,64] Z (λi T U zs=>(i<=ln ar)/\zs=⟨(7,.ref 1001 0 ((I i).map yA).length)::(65,iA i)::T,(1001,.arr 1 ((I i).map yA) true)::U⟩) (Lp ?_ ?_ ?_)
  .refine⟨zBn _,?_⟩;rw[L];rfl
  .rintro i st' hi ⟨hik,rfl⟩;have az:=S i;have ax:=R i;have Y:=M i;have a6:=zA yA (I i);have a2:=zA yA (pg i)
   have z:(pg i).map yA=if(i:Int)=f/\0<g then(I i).map yA++(jS u).map yA else(I i).map yA:=by
    rw[Y];split
    .rw[zBc]
    .rfl
   by_cases ap:i=ln ar
   .subst ap;clear O Y S R M L c1 c2 c3;generalize (I (ln ar)).map yA=A at *;generalize (pg (ln ar)).map yA=B at *;generalize jS u=W at *;by_cases C:(ln ar:Int)=f
    .by_cases G:0<g
     .rw[zA4 ⟨C,G⟩]at z;subst z;exact mx cg
     .rw[Os (λh=>G h.2)]at z;subst z;exact ly
    .rw[Os (λh=>C h.1)]at z;subst z;exact ly
   have ag:=ha (ar.getD i dd) (yL ar i zB);have cv:=L7 (ar.getD i dd) ag.1 ag.2;have hy:=zJ iA ar i zB;have hS:=O i;have a7:=zA yA (jS (ar.getD i dd));have a9:=gD (ar.getD i dd);have ac:(I (i+1)).map yA=(pg i).map yA++(jS (ar.getD i dd)).map yA:=by rw[hS,zBc]
   rw[ac];clear hS Y S R M O L ac c1 c2 c3 hz ha;generalize (pg (ln ar)).map yA=E,(I i).map yA=A,(pg i).map yA=B,jS (ar.getD i dd)=V at *;generalize ar.getD i dd=a at *;generalize jS u=W at *;by_cases C:(i:Int)=f
   .by_cases G:0<g
    .rw[zA4 ⟨C,G⟩]at z;subst z;refine yH (xU cg cv) ?_;exact⟨zB,rfl⟩
    .rw[Os (λh=>G h.2)]at z;subst z;refine zU cv ?_;exact⟨zB,rfl⟩
   .rw[Os (λh=>C h.1)]at z;subst z;refine zU cv ?_;exact⟨zB,rfl⟩
  .rintro st' ⟨hik,rfl⟩;exfalso;omega
def jQ (k:Int):Int×Int×Int×Int×Int:=if k=16 then(1,0,0,0,10)else if k=17\/k=21 then(1,0,0,0,-1)else if k=18 then(1,3,0,16,0)else if k=19 then(0,2,0,4,0)else if k=20 then(4,0,0,0,0)else(2,0,0,0,0)
def Ps (k:Int) (h:13<=k/\k<=21):zM 233 [iA k] [] (.tup [XR ⟨0,(jQ k).1,(jQ k).2.1,(jQ k).2.2.1,(jQ k).2.2.2.1,(jQ k).2.2.2.2⟩,bA true]) []:=by
 have:k=13\/k=14\/k=15\/k=16\/k=17\/k=18\/k=19\/k=20\/k=21:=by omega
 rcases this with rfl|rfl|rfl|rfl|rfl|rfl|rfl|rfl|rfl
 all_goals
  refine eM call233 λF hF=>?_
  exact ly
def Fj (f g lo hi A n u:Int) (O:0<=n/\n<=100) (M:0<=f/\f<=4) (h:(g=0/\n=f/\u=0)\/((g=2\/g=3)/\n=f+g*u/\0<=u/\lo<=u/\u<=hi)):zM 234 [XR ⟨0,f,g,lo,hi,A⟩,iA n] [] (.tup [iA u,bA true]) []:=by
 rw[show XR ⟨0,f,g,lo,hi,A⟩= .agg [iA 0,iA f,iA g,iA lo,iA hi,iA A]from Z]
 rcases h with⟨rfl,rfl,rfl⟩|⟨rfl|rfl,B,L,h1,h2⟩
 ·(refine eM call234 λF hF=>?_)
  exact ly
 .have z:u=(n-f).tdiv 2:=by
   rw[zC2 zB];omega
  have G:(n-f).tmod 2=0:=by
   rw[zCf zB];omega
  have I:bI .i64 ((n-f).tdiv 2):=by
   unfold bI;have e1:IntKind.i64.min= -9223372036854775808:=by decide
   have C:IntKind.i64.max=9223372036854775807:=by decide
   omega
  have E:¬n-f<0:=by omega
  subst z;clear B;refine eM call234 λF hF=>?_
  exact ly
 .have z:u=(n-f).tdiv 3:=by
   rw[zC2 zB];omega
  have G:(n-f).tmod 3=0:=by
   rw[zCf zB];omega
  have I:bI .i64 ((n-f).tdiv 3):=by
   unfold bI;have e1:IntKind.i64.min= -9223372036854775808:=by decide
   have C:IntKind.i64.max=9223372036854775807:=by decide
   omega
  have E:¬n-f<0:=by omega
  subst z;clear B;refine eM call234 λF hF=>?_
  exact ly
structure U6 (k:Int) (ar da:List Int):Prop where
 kk:13<=k/\k<=21
 n:RW ar
 l:ar.length<=60
 b:BY da
 d:(jQ k).2.2.2.2= -1\/(da.length:Int)=(jQ k).2.2.2.2
 g:((jQ k).2.1=0/\(ar.length:Int)=(jQ k).1)\/(((jQ k).2.1=2\/(jQ k).2.1=3)/\∃gr:Int,(ar.length:Int)=(jQ k).1+(jQ k).2.1*gr/\0<=gr/\(jQ k).2.2.1<=gr/\gr<=(jQ k).2.2.2.1)
 z:(((ar.map jS).flatten).length+1)+da.length<=200
theorem We (f g z:Int) (u:z<128) (ar:List Int):∀i,i<=ln ar->(HE f g z ar i).length<=(((ar.take i).map jS).flatten).length+(if f<i then 1 else 0)
 |0,_=>by simp[HE]
 | i+1,hi=>by
  have A:=We f g z u ar i zB;have h1:=DK u
  have e:ar.take (i+1)=ar.take i++[ar.getD i dd]:=by
   rw[zBk,zB2 zB,zDz,zDx zB]
  rw[e,zBc,zEq];unfold HE;simp only[zA9,zCn,zCx,zD2,List.flatten_nil,zB1,zCb];split
  .rename_i h2;rw[zA9,h1,zA4 zB];rw[Os zB]at A;omega
  .by_cases B:f<i
   .rw[zA4 B]at A;rw[zA4 zB];omega
   .rw[Os B]at A
    split<;>omega
theorem Ns (f g u:Int) (z:u<128) (ar:List Int):(OS f g u ar (ln ar)).length<=((ar.map jS).flatten).length+1:=by
 have A:=We f g u z ar (ln ar) (zBa _)
 grind [OS,jS,DK,List.take_length,List.length_append]
theorem Ls (f g u:Int) (ar:List Int) (h:ar≠[]):1<=(OS f g u ar (ln ar)).length:=by
 have h1:0<ln ar:=List.length_pos_iff.2 h;obtain⟨n,z⟩:∃n,ln ar=n+1:=⟨ln ar-1,zB⟩
 grind [OS,HE,List.length_append,gD]
def C9 (k:Int) (ar da p:List Int):Prop:=∃u:Int,(0<=u/\u<=100)/\(((jQ k).2.1=0/\(ln ar:Int)=(jQ k).1/\u=0)\/(((jQ k).2.1=2\/(jQ k).2.1=3)/\(ln ar:Int)=(jQ k).1+(jQ k).2.1*u/\0<=u/\(jQ k).2.2.1<=u/\u<=(jQ k).2.2.2.1))/\p=OS (jQ k).1 (jQ k).2.1 u ar (ln ar)++da
def Ej (h:U6 k ar da):∃p,(BY p/\C9 k ar da p)/\(ln p<=200/\(ar≠[]->1<=ln p))/\zM 185 [zX ⟨k,[],ar,da⟩] [] (.tup [zE yA p,iA 0]) []:=by
 have hl:=zA iA ar
 have E:(0<=(jQ k).1/\(jQ k).1<=4)/\(jQ k).2.2.2.1<=16:=by
  have hk:=h.kk;have:k=13\/k=14\/k=15\/k=16\/k=17\/k=18\/k=19\/k=20\/k=21:=by omega
  clear hk h
  rcases this with rfl|rfl|rfl|rfl|rfl|rfl|rfl|rfl|rfl<;>decide
 obtain⟨E,hh⟩:=E
 obtain⟨u,G,S,A⟩:∃u:Int,(0<=u/\u<=100)/\True/\(((jQ k).2.1=0/\((ar.map iA).length:Int)=(jQ k).1/\u=0)\/(((jQ k).2.1=2\/(jQ k).2.1=3)/\((ar.map iA).length:Int)=(jQ k).1+(jQ k).2.1*u/\0<=u/\(jQ k).2.2.1<=u/\u<=(jQ k).2.2.2.1)):=by
  rw[hl]
  rcases h.g with⟨B,C⟩|⟨B,u,C,L,M,O⟩
  .exact⟨0,zB,trivial,.inl ⟨B,C,rfl⟩⟩
  .exact⟨u,zB,trivial,.inr ⟨B,C,L,M,O⟩⟩
 have I:=Fj _ _ (jQ k).2.2.1 (jQ k).2.2.2.1 (jQ k).2.2.2.2 ((ar.map iA).length:Int) u (by have:=h.l;omega) E A;have V:=Ns (jQ k).1 (jQ k).2.1 u zB ar;have W:=h.z;refine⟨OS (jQ k).1 (jQ k).2.1 u ar (ln ar)++da,⟨?_,u,G,by rw[hl]at A;exact A,rfl⟩,?_,Vz k _ _ _ _ _ u ar da (Ps k h.kk) I h.d h.n (by have:=h.l;omega) zB (by rw[zA9];omega)⟩
 .intro x U;exact(zBq.1 U).elim (Wz zB h.n (ln ar) (zBa _) x) (h.b x)
 .refine⟨by rw[zA9];omega,λR=>?_⟩;have:=Ls (jQ k).1 (jQ k).2.1 u ar R;rw[zA9];omega
def Uz (h:U6 k ar da):zM 123 [zX ⟨k,[],ar,da⟩] [] (bA true) []:=by
 obtain⟨p,_,_,c⟩:=Ej h;rw[show zX ⟨k,[],ar,da⟩= .agg [iA k,zE yA [],zE iA ar,zE yA da]from Z]at *; refine eM call123 λF hF=>?_
 exact mx c
def ZG (h:U6 k ar da):∃p,(BY p/\C9 k ar da p)/\(ln p<=200/\(ar≠[]->1<=ln p))/\JC [zX ⟨k,[],ar,da⟩] [] (.tup [zE yA (Kb k p),iA 0]) []:=by
 obtain⟨p,h1,⟨h2,u⟩,c⟩:=Ej h;have hk:=h.kk;have z:=Pz k p zB zB h1.1 h2;refine⟨p,h1,⟨h2,u⟩,?_⟩;generalize Kb k p=q at *;rw[show zX ⟨k,[],ar,da⟩= .agg [iA k,zE yA [],zE iA ar,zE yA da]from Z]at *; exact Vk
section
def ZB (m:Ms):Prop:=m.tok=[]/\U6 m.kind m.args m.data
structure Js (i:It):Prop where
 y:BY i.pay
 n:i.pay.length<=100000
 k:0<=i.kind/\i.kind<=255
 c:0<=i.code/\i.code<=100
def DL (i:In):Prop:=ln i.its<=1000/\∀x∈i.its,Js x
theorem DL.b {i:In} (h:DL i):Fy i:=⟨h.1,λx u=>⟨(h.2 x u).y,(h.2 x u).n⟩⟩
structure Dj (e:En):Prop where
 a:0<=e.ag/\e.ag<4
 k:0<=e.ki/\e.ki<=255
 c:0<=e.co/\e.co<=100
theorem dS (l:List Int):((l.map jS).flatten).length<=5*ln l:=by
 induction l with
 |nil=>simp
 |cons a l u=>
  grind [jS,gD,List.flatten_cons,List.length_append,List.length_cons]
theorem B9 (k a b:Int) (hk:k=13\/k=14\/k=15) (u:0<=a/\a<=4294967295) (hb:0<=b/\b<=4294967295):ZB ⟨k,[],[a,b],[]⟩:=by
 have h:=dS [a,b];refine⟨rfl,?_⟩;dsimp only
 have A:jQ k=(2,0,0,0,0):=by rcases hk with rfl|rfl|rfl<;>rfl
 refine⟨zB,.cons u (.cons hb .nil),by simp,λx z=>(by cases z),?_,?_,by simp only[zBj,zCb]at *; omega⟩
 all_goals grind
theorem Tz (z:qC c d):RW (gB d.rq):=by
 have A:=z.v.ok;generalize d.rq=l at *;intro x u;unfold gB at u;obtain⟨y,C,u⟩:=zFb.1 u;obtain⟨r,B,rfl⟩:=zCo.1 C;have h:=A r B;have E:=h.i0;have h1:=h.i1;have h2:=h.t0;have G:=h.t1
 grind
theorem A9 (u:qC c d) {s:Int} (n0:0<=f3) (n1:f3<=1073741824) {i:It} (A:Js i) {h:Hd} (B:wz c d s i f3 h):ZB h.p:=by
 have W:=u.n;by_cases E:h.e=0
 .obtain⟨a,_,M⟩:=B.yes E
  rcases M with⟨_,e,_⟩|⟨_,e,_⟩|⟨_,e,_⟩|⟨_,k,C,hk,⟨hs,O⟩,e⟩|⟨_,x,R,S,e⟩
  .rw[e];exact B9 13 _ _ (.inl Z) zB zB
  .have U:=u.v.n4;have hb:=Tz u;have hl:=XL d.rq;have G:=dS (gB d.rq);rw[e];refine⟨rfl,by dsimp only[QI];omega,hb,by dsimp only[QI];omega,λx z=>(by cases z),.inr Z,.inr ⟨.inl Z,(ln d.rq:Int),?_,zB,by show(0:Int)<=_;omega,by show _<=(4:Int);omega⟩,?_⟩
   .show((gB d.rq).length:Int)=0+2*(ln d.rq:Int)
    omega
   .show(((gB d.rq).map jS).flatten).length+1+0<=200
    omega
  .have I:=u.t8;have hv:=u.vh;have Y:=u.q;have V:=u.a.q;have hl:=u.bl;have hb:=u.a.b;have L:RT d.rg.tk<=8:=by rw[<-I];exact zCv _ _
   rw[e];have G:=dS (aC d).args;refine⟨rfl,by dsimp only[aC];omega,.cons zB (.cons zB (.cons zB (.cons zB .nil))),by simp[aC],λx z=>(by cases z),.inr Z,.inl ⟨rfl,rfl⟩,?_⟩
   grind [ZB,aC,jS]
  .rw[e];have G:=dS [(k:Int)];refine⟨rfl,by dsimp only;omega,.cons zB .nil,by simp,?_,.inr ?_,.inl ⟨rfl,rfl⟩,?_⟩
   .intro x z;simp only[zCt]at z
    rcases z with rfl|rfl|z
    .omega
    .omega
    .exact O x z
   .show((d.rg.num::(k:Int)::C).length:Int)=10
    grind
   all_goals grind
  .rw[e];exact B9 14 _ _ (.inr (.inl Z)) (by have:=A.k;omega) ⟨R,S⟩
 .have hb:=B.eb A.c;rw[(B.no E).2.1];exact B9 15 _ _ (.inr (.inr Z)) (by have:=A.k;omega) zB
def zAa {s:Int} {i:It} {h:Hd} (z:wz c d s i f3 h):h.p.kind≠17:=by
 by_cases A:h.e=0
 .obtain⟨a,_,B⟩:=z.yes A
  rcases B with⟨_,e,_⟩|⟨_,e,_⟩|⟨_,e,_⟩|⟨_,k,C,hk,⟨E,G⟩,e⟩|⟨_,x,I,L,e⟩
  all_goals (rw[e];intro u;revert u;first|decide|(intro u;cases u))
 .obtain⟨_,e,_⟩:=z.no A;rw[e];intro u;cases u
def KU (f3:Int) (l:List Rq):Prop:=∀r∈l,∀g∈r.legs,g.sc<=f3
theorem KU.mono {a b:Int} (h:KU a l) (u:a<=b):KU b l:=λr A g z=>Int.le_trans (h r A g z) u
theorem KU.of (C:0<=f3) {u:List Rq} (h:KU f3 l) (B:WN l u):KU f3 u:=λr A g z=>by
 rcases B r A g z with h1|⟨r0,h1,_,g0,h2,_,_,h3⟩
 .omega
 .rw[<-h3];exact h r0 h1 g0 h2
theorem KU.mk (G:0<=f3) (h:KU f3 l):KU f3 (EW l f3):=λr B g A=>by
 unfold EW at B;obtain⟨E,z,rfl⟩:=zCo.1 B;unfold mkR at A;obtain⟨C,u,rfl⟩:=zCo.1 A;unfold fE;have:=h E z C u;split
 .split
  .exact zDf _
  .exact this
 .show(-1:Int)<=f3
  omega
theorem Cj {s:Nat} (M:0<=f3) (O:f3<=1073741824) {u:List It} (I:∀x∈u,Js x) {f:Nat->TS} (z:∀e∈(f 0).en,Dj e) (E:(f 0).rs=[])
 (L:∀k,k<ln u->Q8 c (s:Int) f3 (u.getD k dd) (f k) (f (k+1))) (hd:∀k,EZ c d (f k).d):∀k,k<=ln u->(∀m∈(f k).rs,ZB m/\m.kind≠17)/\(∀e∈(f k).en,Dj e)/\(∀j:Nat,j≠s->(f k).d.au[j]? =(f 0).d.au[j]?)/\WN (f 0).d.rq (f k).d.rq
 |0,_=>⟨λm A=>(by rw[E]at A;cases A),z,λ_ _=>rfl,WN.refl _⟩
 | k+1,hk=>by
  obtain⟨S,U,V,W⟩:=Cj M O I z E L hd k zB;obtain⟨h,_,C,hb⟩:=L k zB;have G:=(hd k).i;have B:=I _ (yL u k zB);have R:=G.n;rw[hb];refine⟨λm A=>?_,λe z=>?_,λj hj=>?_,W.trans C.sc⟩
  .rcases zBq.1 A with A|A
   .exact S m A
   .rw[zBz.1 A];exact⟨A9 G M O B C,zAa C⟩
  .rcases zBq.1 z with z|z
   .exact U e z
   .rw[zBz.1 z];exact⟨R,B.k,C.eb B.c⟩
  .dsimp only;rw[C.ax j zB,V j hj]
structure DR where
 d:wD
 R:List (List Ms)
 en:List En
 ks:List Int
def Bj (r:DR):AV:=sw r.d r.R r.en r.ks
structure S9 (c:Cf) (f3:Int) (d:wD) (ins:List In) (r:DR):Prop where
 i:qC c r.d
 ag:r.d.rg.ag=d.rg.ag
 num:r.d.rg.num=d.rg.num
 rn:r.R.length=d.au.length
 rl:∀s,s<d.au.length->(r.R.getD s []).length=(dJ ins s).length
 rv:∀l∈r.R,l.length<=1000/\∀m∈l,ZB m
 rk:∀l∈r.R,∀m∈l,m.kind≠17
 el:r.en.length<=2000
 en:∀e∈r.en,Dj e
 kl:r.ks.length<=2000
 ks:∀x∈r.ks,0<=x/\x<(c.js.length:Int)
 sc:KU f3 d.rq->KU f3 r.d.rq
 au:∀s,s<d.au.length->dJ ins s=[]->r.d.au[s]? =some (QK ins s (d.au.getD s default))
 na:U4 d.rg.tk->U4 r.d.rg.tk/\r.d.au=Gi ins d.au
theorem j7 {u:List In} (h:∀i∈u,DL i) (s:Nat):∀x∈dJ u s,Js x:=by grind [DL,dJ,yL]
theorem Aj (S:0<=f3) (U:f3<=1073741824) {u:List In} (A:∀i∈u,DL i) {d:wD} {z:Nat->SS} (I:z 0=⟨d,[],[],[]⟩) (L:∀s,EZ c d (z s).d/\pw c f3 u s (z s) (z (s+1))):
  ∀s,(z s).R.length=s/\(∀j,j<s->((z s).R.getD j []).length=(dJ u j).length)/\(∀l∈(z s).R,ln l<=1000/\∀m∈l,ZB m/\m.kind≠17)/\(∀e∈(z s).en,Dj e)/\(∀j,(s<=j\/dJ u j=[])->(z s).d.au[j]? =d.au[j]?)/\WN d.rq (z s).d.rq
 |0=>by rw[I];exact⟨rfl,λj hj=>absurd hj (zC0 _),λl hl=>(by cases hl),λe C=>(by cases C),λ_ _=>rfl,WN.refl _⟩
 | s+1=>by
  obtain⟨M,i1,i2,i3,O,i5⟩:=Aj S U A I L s;obtain⟨f,B,W,G,Y⟩:=(L s).2;have ac:=(IX (λi hi=>(A i hi).b) s).1;obtain⟨r1,r2,r3,V⟩:=Cj S U (j7 A s) (d:=(z s).d) (f:=f) (by rw[B];exact i3) (by rw[B]) W (λk=>(G k).1) _ (zBa _);rw[Y];dsimp only;have E:=(G (dJ u s).length).2.1;refine⟨by rw[zA9,zDa,M],λj hj=>?_,λl hl=>?_,r2,λj hj=>?_,i5.trans (by rw[B]at V;exact V)⟩
  .rw[zBk];by_cases h:j=s
   .subst h;rw[zCa zB,M,zEb];exact E
   .rw[zB8 zB,<-zBk];exact i1 j zB
  .rcases zBq.1 hl with hl|hl
   .exact i2 l hl
   .rw[zBz.1 hl];exact⟨zB,r1⟩
  .by_cases h:j=s
   .subst h;have C:dJ u j=[]:=hj.elim (λh=>absurd h zB) id;rw[C,zCb,B];exact O j (.inl (zBa _))
   .rw[r3 j h,B];exact O j (hj.imp (λh=>by omega) id)
theorem zk (m:List In) (k s:Nat):(m++oj k dd).getD s dd=m.getD s dd:=by grind
theorem Is (m:List In) (k s:Nat):dJ (m++oj k dd) s=dJ m s:=by
 unfold dJ;rw[zk];by_cases h:s<ln m
 .simp[h,show s<ln m+k by omega]
 .rw[show m.getD s dd=dd by grind,Os (λh=>by cases h.2),Os (λh=>by cases h.2)]
theorem Hs (m:List In) (k:Nat) (l:List Bool):Gi (m++oj k dd) l=Gi m l:=by
 unfold Gi
 congr 1
 funext s b
 unfold QK;rw[zk];by_cases h:s<ln m
 .simp[h,show s<ln m+k by omega]
 .rw[show m.getD s dd=dd by grind,Os (λh=>by cases h.2),Os (λh=>by cases h.2)]
def Gs (m:List In) (k:Nat) (d:wD):mq d (m++oj k dd)=mq d m:=by
 unfold mq;rw[Hs]
def Fs (c:Cf) (f3:Int) (m:List In) (k s:Nat) (a b:SS):pw c f3 (m++oj k dd) s a b=pw c f3 m s a b:=by
 unfold pw;rw[Is]
def yk (c:Cf) (d:wD) (G:qC c d) (u:List In) (V:ln u=ln d.au) (L:∀i∈u,DL i) (f3:Int) (C:0<=f3) (I:f3<=1073741824):
  ∃r:DR,S9 c f3 d u r/\zM 115 [wH c,zN d,zE uT u,iA f3] [] (Bj r) []/\∀m k,u=m++oj k dd->zM 56 [wH c,zN d,zE uT m,iA f3] [] (Bj r) []:=by
 have A:∀i∈u,Fy i:=λi hi=>(L i hi).b
 have U:ln d.au=1\/d.au.length=2:=by have:=G.au;have:=G.a.e;omega
 obtain⟨z,S,E⟩:=mw c f3 C I u A (mq d u) (P8 G u);have B:=Aj C I L S (λs=>⟨(E s).1,(E s).2.2⟩) (ln d.au);obtain⟨hT,⟨_,e2,e3,Y⟩,_⟩:=E (ln d.au);refine⟨⟨lw (z (ln d.au)).d f3,(z (ln d.au)).R,(z (ln d.au)).en,(z (ln d.au)).ks⟩,⟨O8 hT.i f3 C I,hT.a,hT.n,B.1,B.2.1,λl h=>⟨(B.2.2.1 l h).1,λm W=>((B.2.2.1 l h).2 m W).1⟩,λl h m W=>((B.2.2.1 l h).2 m W).2,by dsimp only;omega,B.2.2.2.1,by dsimp only;omega,Y,λh9=>KU.mk C (KU.of C h9 B.2.2.2.2.2),λs O he=>?_,hT.t⟩,?_,λm k e=>?_⟩
 .show(z (ln d.au)).d.au[s]? =_
  rw[B.2.2.2.2.1 s (.inr he)]
  show(Gi u d.au)[s]? =_
  unfold Gi;rw[vY,zA4 O,zA4 O]
 .show zM 115 [wH c,zN d,zE uT u,iA f3] [] (sw (lw (z (ln d.au)).d f3) (z (ln d.au)).R (z (ln d.au)).en (z (ln d.au)).ks) []
  rcases U with M|M
  .rw[M];exact Mi G u zB A f3 C I z S M zB E
  .rw[M];exact Ki G u zB A f3 C I z S M zB E
 .subst e;simp only[Gs,Fs]at S E;exact iw G m (by rw[zA9]at V;omega) (λi hi=>A i WB) f3 C I z S E
open Classical in
noncomputable def ZH (c:Cf) (d:wD) (u:List In) (f3:Int):DR:=if h:∃r:DR,S9 c f3 d u r/\zM 115 [wH c,zN d,zE uT u,iA f3] [] (Bj r) []/\∀m k,u=m++oj k dd->zM 56 [wH c,zN d,zE uT m,iA f3] [] (Bj r) []then h.choose else⟨dd,[],[],[]⟩
def Cg (c:Cf) (d:wD) (B:qC c d) (u:List In) (z:ln u=ln d.au) (A:∀i∈u,DL i) (f3:Int) (C:0<=f3) (E:f3<=1073741824):
  S9 c f3 d u (ZH c d u f3)/\zM 115 [wH c,zN d,zE uT u,iA f3] [] (Bj (ZH c d u f3)) []/\∀m k,u=m++oj k dd->zM 56 [wH c,zN d,zE uT m,iA f3] [] (Bj (ZH c d u f3)) []:=by
 have h:=yk c d B u z A f3 C E;unfold ZH;rw[zGg h];exact h.choose_spec
theorem eP (c:Cf) (d:wD) (u:List In) (f3:Int):(ZH c d u f3).en.length<=2000/\(ZH c d u f3).ks.length<=2000:=by
 unfold ZH;split
 .rename_i h;have:=h.choose_spec.1;exact⟨this.el,this.kl⟩
 all_goals grind
end
def Nb (u:List In) (b k:Nat):List In:=(pb k).map λj=>u.getD (b+j) dd
def xk (u:List In) (b k:Nat):Nb u b (k+1)=Nb u b k++[u.getD (b+k) dd]:=by simp[Nb,zC6]
def aj (c:Cf) (u:List In) (a:Nat):List In:=Nb u (jE c.ags a).toNat (c.ags.getD a dd).ses.toNat
def Lx (r:DR):AV:=zE jC r.R
def PI (f3:Int) (u:List wD) (i:Nat):List wD:=ZA (λ_ d=>XV d f3) u i
def eQ (f3:Int) (u:List wD) (z:Nat->DR) (i:Nat):List wD:=(pb (ln u)).map λk=>if k<i then(z k).d else XV (u.getD k dd) f3
def pj (n:Nat) (u:Nat->DR) (i:Nat):List AV:=(pb n).map λk=>if k<i then Lx (u k)else .s (.slice none 0 0)
def XX (u:Nat->DR) (i:Nat):List En:=((pb i).map λk=>(u k).en).flatten
def dF (u:Nat->DR) (i:Nat):List Int:=((pb i).map λk=>(u k).ks).flatten
def OT (u:Nat->DR) (i:Nat):XX u (i+1)=XX u i++(u i).en:=by simp[XX,zC6]
def OU (u:Nat->DR) (i:Nat):dF u (i+1)=dF u i++(u i).ks:=by simp[dF,zC6]
theorem UC {u:Nat->DR} (h:∀i,(u i).en.length<=2000):∀i,(XX u i).length<=2000*i
 |0=>zBn _
 |i+1=>by
  have:=UC h i;have:=h i;rw[OT,zA9];omega
theorem UD {u:Nat->DR} (h:∀i,(u i).ks.length<=2000):∀i,(dF u i).length<=2000*i
 |0=>zBn _
 |i+1=>by
  have:=UD h i;have:=h i;rw[OU,zA9];omega
theorem YQ (n i:Nat) (f g:Nat->α) (hi:i<n):((pb n).map λk=>if k<i+1 then f k else g k)=((pb n).map λk=>if k<i then f k else g k).set i (f i):=by apply zCe<;>grind [List.length_map,List.length_range,List.getElem?_range,List.getElem?_eq_none]
theorem UE (n i:Nat) (f g:Nat->α) (hi:i<n):((pb n).map λk=>if k<i then f k else g k)[i]? =some (g i):=by grind
theorem Bg (n:Nat) (f g:Nat->α):((pb n).map λk=>if k<n then f k else g k)=(pb n).map f:=by grind [List.map_congr_left]
theorem OV {l:List Ag} (h:LV l) {i j:Nat} (u:i<=j) (hj:j<=ln l):jE l i<=jE l j:=by
 induction j with
 |zero=>rw[show i=0 by omega];exact zDf _
 |succ j z=>
  grind [LV,jE]
theorem zh (c:Cf) (S:LV c.ags) (f3:Int) (n0:0<=f3) (n1:f3<=1073741824) (u:List wD) (a7:ln u=ln c.ags) (hI:∀i,i<ln u->qC c (u.getD i dd)) (E:List In) (b3:(ln E:Int)<=jE c.ags (ln c.ags))
  (z:Nat->DR) (au:∀i,(z i).en.length<=2000) (av:∀i,(z i).ks.length<=2000) (hr:∀i,i<ln u->zM 115 [wH c,zN (XV (u.getD i dd) f3),zE uT (aj c E i),iA f3] [] (Bj (z i)) [])
  (A B C:List AV) (a2 a3 a4:Nat) (vw:List Vw):
  zM 46 [aH c false f3 (.ref 1011 0 (u.map zN).length) (.ref 1012 0 a2) (.ref 1013 0 a3) (.ref 1014 0 a4) (zE vO vw),zE uT E] [(1011,.arr 17 (u.map zN) false),(1012,.arr 5 A false),(1013,.arr 3 B false),(1014,.arr 1 C false)]
   (.tup [.sl false ((pb (ln u)).map λk=>Lx (z k)),zE kF (XX z (ln u)),zE iA (dF z (ln u))]) [(1011,.arr 17 ((eQ f3 u z (ln u)).map zN) false),(1012,.arr 5 A false),(1013,.arr 3 B false),(1014,.arr 1 C false)]:=by
 have a8:=zA zN u;have a1:=zA uK c.ags;have b6:=S.1;have a5:∀i,(PI f3 u i).length=ln u:=λi=>vC _ _ _
 have a6:∀i,((PI f3 u i).map zN).length=ln u:=λi=>by rw[zA5,a5]
 have L:PI f3 u 0=u:=qN _ _;unfold aH;refine eM call46 λF hF=>?_
 refine WW ?_;refine zO (ln u) [1011,2,3,1012,1013,1014] [2,3,1012,1013,1014] [2,3,21,57] [22,2,3,21,57] Z (λi T U=>⟨(22,iA i)::T,(1011,.arr 17 ((PI f3 u i).map zN) false)::U⟩) ?_;(conv=>whnf);refine⟨by(rw[L];rfl),?_,?_⟩
 .intro i hi
  have hy:((PI f3 u i).map zN)[i]? =some (zN (u.getD i dd)):=by
   rw[zBd];unfold PI;rw[vY,zA4 hi,Os (zD1 i)];rfl
  have e:(PI f3 u (i+1)).map zN=((PI f3 u i).map zN).set i (zN (XV (u.getD i dd) f3)):=by unfold PI;rw[vP _ _ _ _ hi]
  have kb:=qq (hI i hi) f3;have bd:=a6 i;rw[e];clear e hr hI L;generalize XV (u.getD i dd) f3=d2 at *;generalize u.getD i dd=d1 at *;generalize (PI f3 u i).map zN=X at *;refine zU kb ?_;rfl
 .have ag:(PI f3 u (ln u)).map zN=(eQ f3 u z 0).map zN:=by
   congr 1
   unfold eQ;apply zCe;intro j;unfold PI;rw[vY,zBd];by_cases hj:j<ln u
   .rw[zA4 hj,zA4 hj,zC3 hj];simp
   .rw[Os hj,zCi qB];rfl
  rw[ag];refine WW ?_;have ax:min (ln u:Int) (ln c.ags:Int)=(ln u:Int):=by rw[a7];exact zGt _
  rw[a8,a1,ax]
  have az:pj (ln u) z 0=oj (ln u) (.s (.slice none 0 0)):=by
   unfold pj;apply zCe;intro j;rw[zBd,zDo];by_cases hj:j<ln u
   .rw[zC3 hj,zA4 hj];simp
   .rw[Os hj,zCi qB];rfl
  have ba:∀i,(pj (ln u) z i).length=ln u:=λi=>by unfold pj;rw[zA5,zCp]
  have bb:∀i,((eQ f3 u z i).map zN).length=ln u:=λi=>by unfold eQ;rw[zA5,zA5,zCp]
  refine zS 9 1042 3 Z Z Z ?_;refine zS 10 1043 1 Z Z Z ?_;refine zO (ln u) [41,1011,1042,1043,2,3,1012,1013,1014] [2,3,1012,1013,1014] [2,3,8,49,57] [9,10,50,2,3,8,49,57] Z (λi T U=>⟨(9,.ref 1042 0 ((XX z i).map kF).length)::(10,.ref 1043 0 ((dF z i).map iA).length)::(50,iA i)::T,(41,.arr 1 (pj (ln u) z i) false)::(1011,.arr 17 ((eQ f3 u z i).map zN) false)::(1042,.arr 3 ((XX z i).map kF) true)::(1043,.arr 1 ((dF z i).map iA) true)::U⟩) ?_;(conv=>whnf);refine⟨by(rw[az];rfl),?_,?_⟩
  .intro i hi;have a9:i<ln c.ags:=by omega
   have hy:((eQ f3 u z i).map zN)[i]? =some (zN (XV (u.getD i dd) f3)):=by
    rw[zBd];unfold eQ;rw[UE _ _ _ _ hi];rfl
   have e1:(eQ f3 u z (i+1)).map zN=((eQ f3 u z i).map zN).set i (zN (z i).d):=by
    unfold eQ;rw[YQ _ _ _ _ hi,zCs]
   have e2:pj (ln u) z (i+1)=(pj (ln u) z i).set i (Lx (z i)):=by
    unfold pj;rw[YQ _ _ _ _ hi]
   have b8:(pj (ln u) z i)[i]? =some (.s (.slice none 0 0)):=by
    unfold pj;exact UE _ _ _ _ hi
   have bd:=bb i;have bz:=ba i;have b1:=UC au i;have b4:=UD av i;have bk:=au i;have bu:=av i;have b2:=zA kF (XX z i);have b5:=zA iA (dF z i);have bl:=zA kF (z i).en;have bx:=zA iA (z i).ks;have ks:=Se c i;have I:=hr i hi;have ht:=Xk c S i a9;rw[e1,e2,OT,OU,zBc,zBc];clear e1 e2 hr hI L az ag;unfold Bj sw at I
   change zM 115 [_,_,_,_] [] (.tup [_,Lx (z i),_,_]) []at I
   generalize XV (u.getD i dd) f3=D1,(z i).d=D2 at *;rw[show Lx (z i)= .sl false ((z i).R.map jC)from Z]at *; generalize (z i).R.map jC=R2,(eQ f3 u z i).map zN=X,pj (ln u) z i=Y,(XX z i).map kF=V,(dF z i).map iA=W at *;rw[show zE kF (z i).en= .sl false ((z i).en.map kF)from Z,show zE iA (z i).ks= .sl false ((z i).ks.map iA)from Z]at I;unfold zE at I;unfold zN xD at hy I⊢;unfold jh at ks ht;unfold wH at ks I;refine zU ks ?_;obtain⟨G,ap⟩:∃G:Nat,jE c.ags i=(G:Int):=⟨(jE c.ags i).toNat,by have:=qS S i zB;omega⟩;obtain⟨N,hN⟩:∃N:Nat,(c.ags.getD i dd).ses=(N:Int):=⟨(c.ags.getD i dd).ses.toNat,by have:=S.at (i:=i) zB;omega⟩;have b0:=qS S i zB;have ac:=S.at (i:=i) zB;have hL:HN c i=(pb N).map λk=>[Yk i k (G+k)]:=by unfold HN;rw[ap,hN];rfl
   rw[show aj c E i=Nb E G N by unfold aj;rw[ap,hN];rfl]at I;rw[hN]at ac;have br:=zA uT E;refine gJ 12 0 1041 2 Z Z Z Z Z ?_
   refine qQ hF ht Z [2,3,12,41,1011,1012,1013,1014,1041,1042,1043] [2,3,8,9,10,11,12,49,50] Z Z Z Z Z Z Z Z Z (λk ys h=>?_) (λk=>[(2,.box [zE wK c.js,zE uK c.ags,iA c.per,iA c.cap,iA c.hold,iA c.lock,bA false,iA f3,.ref 1011 0 (ln u),.ref 1012 0 a2,.ref 1013 0 a3,.ref 1014 0 a4,zE vO vw]),(3,.box [zE uT E]),(12,.box [.ref 1041 0 ((Nb E G k).map uT).length]),(41,.arr 1 Y false),(1011,.arr 17 X false),(1012,.arr 5 A false),(1013,.arr 3 B false),(1014,.arr 1 C false),(1041,.arr 2 ((Nb E G k).map uT) true),(1042,.arr 3 V true),(1043,.arr 1 W true)]) (λ_=>True)
    (T:=[(2,.ptr 2 0 0),(3,.ptr 3 0 0),(8,.ref 41 0 (ln u)),(9,.ref 1042 0 (ln V)),(10,.ref 1043 0 (ln W)),(11,iA i),(12,.ptr 12 0 0),(49,iA (ln u)),(50,iA i)]) Z trivial (λk ys y M hI F1 h1 h2=>?_) (λhI=>?_)
   .rw[hL,zBd,zBo]at h;obtain⟨x,_,rfl⟩:=h;rfl
   .have hk:k<N:=by
     have:=(zBw.1 M).1;rw[hL,zA5,zCp]at this;exact this
    rw[hL,zBd,zC3 hk]at M;obtain rfl:=zEg M;have b7:((Nb E G k).map uT).length=k:=by unfold Nb;rw[zA5,zA5,zCp]
    rw[xk,zBc];generalize (Nb E G k).map uT=O at *;by_cases hq:G+k<ln E
    .have bf:=zJ uT E (G+k) hq;generalize E.getD (G+k) dd=x at *;rw[show [x].map uT=[.agg [bA x.opn,zE vQ x.its]]from Z];unfold uT at bf;refine WW ?_;refine⟨rfl,λF2 g1 g2=>?_⟩;refine WW ?_;exact⟨rfl,trivial⟩
    .rw[show [E.getD (G+k) dd].map uT=[.agg [bA false,.sl false []]] by rw[zBk,zCi zB];rfl];refine WW ?_;refine⟨rfl,λF2 g1 g2=>?_⟩
     (repeat' (first|refine jX ?_|apply yW|apply xG|intro hc|(apply zG;first|(apply yI;refine ZW 69 Z Z Z ?_;refine vE tok Z Z ?_))|refine SB ?_|fail))
     exact⟨rfl,trivial⟩
   .rw[show(HN c i).length=N by rw[hL,zA5,zCp]];generalize Nb E G N=O at*
    show uG _ _ _ _ ⟨_,_⟩ _
    refine wL [2,3,12,41,1011,1012,1013,1014,1042,1043] [2,3,8,9,10,11,12,49,50] Z ?_
    (conv=>whnf)
    simp only[zBr,zA8];clear ks ht hL hN ac;refine zU I ?_;rfl
  .rw[pj,Bg];refine WW ?_;refine zI [1011,1012,1013,1014] Z Z ?_ Z
   show AV.tup [.sl false (pi (ln u) (List.map (λk=>Lx (z k)) (pb (ln u)))),.sl false (pi ((XX z (ln u)).map kF).length ((XX z (ln u)).map kF)),.sl false (pi ((dF z (ln u)).map iA).length ((dF z (ln u)).map iA))]=_
   rw[zBf (by rw[zA5,zCp];exact zBa _),zA8,zA8];rfl
structure JI (j:Jn) (s:Sg) (v:Sv) (f3:Int):Prop where
 c:CV j s.c
 n:v.en.length=j.ph.length
 e:∀e∈v.en,-1<=e/\e<=f3
 g:0<=v.gr/\v.gr<=60
theorem Mb (g:Cf) (s:Sv) (l:List Cl) (f3:Int) (h:0<=s.gr/\s.gr<=60):0<=(uW g s l f3).gr/\(uW g s l f3).gr<=60:=by
 unfold uW;split
 .grind
 .unfold fP;split
  .exact⟨zDf _,(by decide:(0:Int)<=60)⟩
  .exact h
theorem zAb {j:Jn} (J:JV j) {s:Sg} {v:Sv} (u:0<=f3) (H:JI j s v f3) (g:Cf) (l:List Cl) (k:Int):JI j (rb g j s v l k f3).1 (rb g j s v l k f3).2 f3:=by
 refine⟨L0 J H.c g v l k f3,?_,?_,?_⟩
 .unfold rb;split
  .exact(RD _ _).trans H.n
  .split
   .exact(RD _ _).trans ((YY ..).trans H.n)
   .dsimp only;unfold gM;split
    all_goals exact(YY ..).trans H.n
 .have hd:=Jl g v l f3 u H.e;unfold rb;split
  .exact NY _ _ u H.e
  all_goals grind [rb,NY,gM]
 .have hd:=Mb g v l f3 H.g;unfold rb;split
  .exact⟨zDf _,(by decide:(0:Int)<=60)⟩
  .split
   .exact⟨zDf _,(by decide:(0:Int)<=60)⟩
   all_goals grind [rb,gM]
theorem vk:∀(l f4:List Lg),kS f4 l=true->∀g∈l,QY g=true
 | [],_,_,g,u=>by cases u
 |x::l,f4,h,g,u=>by
  unfold kS at h;simp only[zBe]at h
  rcases zCt.1 u with rfl|u
  .exact h.1
  .exact vk l _ h.2.2 g u
def uk {P:Program} {st:St} {C E G:Nat} {x y z:Operand} {k:IntKind} {m l:Int} (M:yY (zK st.tm) x= .s (.int k m)) (O:yY (zK st.tm) y= .s (.int k n)) (R:yY (zK st.tm) z= .s (.int k l)):wY P st (.call ⟨.builtin .min, #[x,y,z], #[C,E,G]⟩) (.s (.int k (min (min m n) l))) [] [] []:=
 yZ λS X tm h w β a B A Y U u=>by
  obtain⟨d0,o0,y0,p0,V,W⟩:=S;dsimp only at B;subst B;have h1:=vT u A (x:=x) kQ M;have h2:=vT u A (x:=y) kQ O;have L:=vT u A (x:=z) kQ R;refine⟨.int k (min (min m n) l),?_,.fz _ _ (.s _)⟩;have e1:(if n<m then n else m)=min m n:=by omega
  have I:(if l<min m n then l else min m n)=min (min m n) l:=by omega
  simp[execOp,resolve,invoke,builtin,Builtin.min_,Builtin.min2,h1,h2,L,e1,I]
def DM {P:Program} {st:St} {op:Op} {v:AV} {d:List (Nat×xW)} {r nw:List Nat} (G:wY P st op v d r nw) (E:(xC d).all (r.contains ·)=true) (A:(xC d).map (zD st.h)=(xC d).map (zD d)):wY P st op v [] r nw:=
 ⟨λX I h B hh C=>by
  have h1:=G.run X I h B hh C
  have e:over d h=over [] h:=funext λk=>by
   unfold over
   cases hk:zD d k with
   |none=>rfl
   |some e=>
    have u:=uI hk;obtain⟨i,hi⟩:=zEn u;have e1:=zBp (·[i]?) A;have z:zD st.h k=zD d k:=by simpa [hi]using e1
    have e3:=hh k (by have:=zBi.1 E k u;simpa using this)
    show some e=h k
    rw[e3,z,hk]
  rwa [e]at h1⟩
theorem qk {A j:Int} {x:Rq} {c:Cl} (h:c∈OW A j x) (u:RqO x) (C:0<=f3) (B:∀g∈x.legs,g.sc<=f3):(0<=c.k/\c.k<=3)/\(0<=c.si/\c.si<=f3):=by
 unfold OW at h;split at h
 .cases h
 .split at h
  .cases h
  .rename_i h1;rw[zBz]at h;subst h;dsimp only;refine⟨⟨u.c0,u.c1⟩,?_⟩;by_cases hi:(TM (λr:Lg=>r.jn==j) x.legs).toNat<ln x.legs
   .have z:=yL x.legs _ hi;have hl:=u.lg;unfold AH at hl;rw[zBe]at hl;have:=B _ z;have hv:=vk _ _ hl.2 _ z
    grind [OW,TM,QY]
   .rw[zBk,zCi zB]
    show(0:Int)<=0/\(0:Int)<=f3
    omega
def DN {j:Int} {z:List wD} (C:∀d∈z,qC c d) (G:0<=f3) (E:∀d∈z,KU f3 d.rq):∀x∈jK j z,(0<=x.k/\x.k<=3)/\(0<=x.si/\x.si<=f3):=λx u=>by
 unfold jK at u;obtain⟨y,A,u⟩:=zFb.1 u;obtain⟨d,hd,rfl⟩:=zCo.1 A;unfold fK at u;obtain⟨y,A,u⟩:=zFb.1 u;obtain⟨r,B,rfl⟩:=zCo.1 A;exact qk u ((C d hd).v.ok r B) G (E d hd r B)
theorem ST (j:Int):∀l:List wD,(∀d∈l,ln d.rq<=4)->(jK j l).length<=4*ln l
 | [],_=>zBa _
 |d::l,h=>by
  have h1:=dX d.rg.num j d.rq;have h2:=ST j l (λx u=>h x (by simp[u]));have z:=h d zW;have e:jK j (d::l)=fK d.rg.num j d.rq++jK j l:=rfl;rw[e,zA9,zBj];omega
def ZI (c:Cf) (z:List Sg) (sv:List Sv) (st:List Int) (u:List wD) (f3:Int) (k:Nat):Sg×Sv:=rb c (c.js.getD k dd) (z.getD k dd) (sv.getD k dd) (jK (k:Int) u) (st.getD k dd) f3
def YR (D:Nat->Sg×Sv) (l:List Sg) (i:Nat):List Sg:=ZA (λk _=>(D k).1) l i
def YS (D:Nat->Sg×Sv) (l:List Sv) (i:Nat):List Sv:=ZA (λk _=>(D k).2) l i
def XY (l:List Int) (i:Nat):List Int:=ZA (λ_ _=> -1) l i
def yh (u:List Jn) (D:Nat->Sg×Sv) (n i:Nat):List AV:=(pb n).map λk=>if k<i then vO (LQ (u.getD k dd) (D k).1 (D k).2)else .agg [bA false,bA false,.s (.slice none 0 0),.s (.slice none 0 0)]
def R9 (c:Cf) (f3:Int) (z:List wD) (v:AV) (u:List Sg) (sv:List Sv) (st:List Int):List (Nat×xW):=
 [(2,.box [zE wK c.js,zE uK c.ags,iA c.per,iA c.cap,iA c.hold,iA c.lock,bA false,iA f3,zE zN z,.ref 1012 0 (u.map wZ).length,.ref 1013 0 (sv.map wU).length,.ref 1014 0 (st.map iA).length,v]),(1012,.arr 5 (u.map wZ) false),(1013,.arr 3 (sv.map wU) false),(1014,.arr 1 (st.map iA) false)]
theorem jk (c:Cf) (hv:Hb c) (f3:Int) (n0:0<=f3) (n1:f3<=1000000000) (z:List wD) (a5:ln z<=4) (V:∀d∈z,qC c d) (hs:∀d∈z,KU f3 d.rq) (u:List Sg) (sv:List Sv) (st:List Int) (vw:List Vw)
  (hg:ln u=ln c.js) (M:ln sv=ln c.js) (L:ln st=ln c.js) (hj:∀k,k<ln c.js->JI (c.js.getD k dd) (u.getD k dd) (sv.getD k dd) f3):
  zM 48 [.ptr 2 0 0] (R9 c f3 z (zE vO vw) u sv st) (.tup [])
   (R9 c f3 z (.ref 1015 0 (ln c.js)) (YR (ZI c u sv st z f3) u (ln c.js)) (YS (ZI c u sv st z f3) sv (ln c.js)) (XY st (ln c.js))++[(1015,.arr 4 (yh c.js (ZI c u sv st z f3) (ln c.js) (ln c.js)) false)]):=by
 have ag:=zA wK c.js;have ac:=zA wZ u;have au:=zA wU sv;have ap:=zA iA st;have a6:=hv.j;unfold R9;refine eM call48 λF hF=>?_
 (repeat' (first|refine uQ ?_|apply yW|apply xG|intro hc|(apply zG;first|(apply zG;refine wJ (uk Z Z Z) Z ?_)|(apply fS;refine bG 1015 tok Z Z Z Z Z Z Z Z Z Z Z Z Z zB zB Z Z Z ?_))|fail))
 rw[ag,ac,au,hg,M,zGt,zGt]
 (repeat' (first|refine uQ ?_|apply yW|apply xG|intro hc|(apply zG;first|(apply fS;refine bG 1015 tok Z Z Z Z Z Z Z Z Z Z Z Z Z zB zB Z Z Z ?_))|fail))
 have O:∀D,yh c.js D (ln c.js) 0=oj (ln c.js) (.agg [bA false,bA false,.s (.slice none 0 0),.s (.slice none 0 0)]):=λD=>by
  unfold yh;apply zCe;intro j;rw[zBd,zDo];by_cases hj:j<ln c.js
  .rw[zC3 hj,zA4 hj];simp
  .rw[Os hj,zCi qB];rfl
 have hC:=ST;have E:∀D,YR D u 0=u:=λD=>qN _ _
 have I:∀D,YS D sv 0=sv:=λD=>qN _ _
 have G:XY st 0=st:=qN _ _;have A:∀D i,((YR D u i).map wZ).length=ln c.js:=λD i=>by unfold YR;rw[zA5,vC,hg]
 have C:∀D i,((YS D sv i).map wU).length=ln c.js:=λD i=>by unfold YS;rw[zA5,vC,M]
 have B:∀i,((XY st i).map iA).length=ln c.js:=λi=>by unfold XY;rw[zA5,vC,L]
 have R:∀D i,(yh c.js D (ln c.js) i).length=ln c.js:=λD i=>by unfold yh;rw[zA5,zCp]
 rw[ap,L,A,C,B];refine zO (ln c.js) [1012,1013,1014,1015,2] [2] [0,28] [29,0,28] Z (λi T U=>⟨(29,iA i)::T,(1012,.arr 5 ((YR (ZI c u sv st z f3) u i).map wZ) false)::(1013,.arr 3 ((YS (ZI c u sv st z f3) sv i).map wU) false)::(1014,.arr 1 ((XY st i).map iA) false)::(1015,.arr 4 (yh c.js (ZI c u sv st z f3) (ln c.js) i) false)::U⟩) ?_;(conv=>whnf);refine⟨by(rw[E,I,G,O];rfl),?_,?_⟩
 .intro i hi;have ba:=zJ wK c.js i hi;have a9:((YR (ZI c u sv st z f3) u i).map wZ)[i]? =some (wZ (u.getD i dd)):=by rw[zBd];unfold YR;rw[vY,zA4 zB,Os (zD1 i)];rfl
  have bf:((YS (ZI c u sv st z f3) sv i).map wU)[i]? =some (wU (sv.getD i dd)):=by rw[zBd];unfold YS;rw[vY,zA4 zB,Os (zD1 i)];rfl
  have bb:((XY st i).map iA)[i]? =some (iA (st.getD i dd)):=by rw[zBd];unfold XY;rw[vY,zA4 zB,Os (zD1 i)];rfl
  have bk:(yh c.js (ZI c u sv st z f3) (ln c.js) i)[i]? =some (.agg [bA false,bA false,.s (.slice none 0 0),.s (.slice none 0 0)]):=UE _ _ _ _ hi;have eg:(YR (ZI c u sv st z f3) u (i+1)).map wZ=((YR (ZI c u sv st z f3) u i).map wZ).set i (wZ (ZI c u sv st z f3 i).1):=by unfold YR;rw[vP _ _ _ _ zB]
  have ev:(YS (ZI c u sv st z f3) sv (i+1)).map wU=((YS (ZI c u sv st z f3) sv i).map wU).set i (wU (ZI c u sv st z f3 i).2):=by unfold YS;rw[vP _ _ _ _ zB]
  have ek:(XY st (i+1)).map iA=((XY st i).map iA).set i (iA (-1)):=by unfold XY;rw[vP _ _ _ _ zB]
  have ew:yh c.js (ZI c u sv st z f3) (ln c.js) (i+1)=(yh c.js (ZI c u sv st z f3) (ln c.js) i).set i (vO (LQ (c.js.getD i dd) (ZI c u sv st z f3 i).1 (ZI c u sv st z f3 i).2)):=YQ _ _ _ _ hi;have J:=hv.jv _ (yL c.js i hi);have H:=hj i hi;have cl:(jK (i:Int) z).length<=4*ln z:=hC i z λd hd=>(V d hd).v.n4
  have S:=DN (j:=(i:Int)) V n0 hs;have hp:=hv.p;have a4:=hv.cp;have a3:=J.n;have a2:=H.n;have HD:Rr c (sv.getD i dd) (jK (i:Int) z) f3:=⟨hp.1,zB,zB,n0,n1,H.e,λx hx=>(S x hx).1,λx hx=>(S x hx).2,zB,zB⟩
  have kd:zM 117 [wH c,wK (c.js.getD i dd),wZ (u.getD i dd),wU (sv.getD i dd),zE kD (jK (i:Int) z),iA (st.getD i dd),iA f3] [] (.tup [wZ (ZI c u sv st z f3 i).1,wU (ZI c u sv st z f3 i).2]) []:=
   Mt c _ J _ H.c _ _ _ f3 HD (by have:=Mb c (sv.getD i dd) (jK (i:Int) z) f3 H.g;omega)
  have ko:=Sz (c.js.getD i dd) J (ZI c u sv st z f3 i).1 (L0 J H.c _ _ _ _ _) (ZI c u sv st z f3 i).2;have kc:=qh c false f3 z i zB (λd hd=>(V d hd).bd) ((YR (ZI c u sv st z f3) u i).map wZ) ((YS (ZI c u sv st z f3) sv i).map wU) (((XY st i).map iA).set i (iA (-1))) (yh c.js (ZI c u sv st z f3) (ln c.js) i) (ln c.js) (ln c.js) (ln c.js) (ln c.js);have av:=A (ZI c u sv st z f3) i;have az:=C (ZI c u sv st z f3) i;have ax:=B i;have a1:=R (ZI c u sv st z f3) i;rw[eg,ev,ek,ew];clear eg ev ek ew E I G O HD S hC A C B R hj H J;generalize (YR (ZI c u sv st z f3) u i).map wZ=X,(YS (ZI c u sv st z f3) sv i).map wU=Y,(XY st i).map iA=Z',yh c.js (ZI c u sv st z f3) (ln c.js) i=W,ZI c u sv st z f3 i=p at *;generalize LQ (c.js.getD i dd) p.1 p.2=w at *;generalize jK (i:Int) z=l,u.getD i dd=s,sv.getD i dd=v,st.getD i dd=k,c.js.getD i dd=j at *;have a7:(X.set i (wZ p.1))[i]? =some (wZ p.1):=zB6 zB;have a8:(Y.set i (wU p.2))[i]? =some (wU p.2):=zB6 zB
  (have ga:=kd;have ge:=ko;(repeat' (first|refine uQ ?_|apply yW|apply xG|intro hc|(apply zG;first|(refine vH 38 ?_;refine wJ (DM (zL kc Z Z Z Z Z) Z Z) Z ?_))|fail))<;>clear ga ge)
  rfl
 ·(refine WW ?_)
  exact uZ [2,1012,1013,1014,1015] Z Z Z Z
