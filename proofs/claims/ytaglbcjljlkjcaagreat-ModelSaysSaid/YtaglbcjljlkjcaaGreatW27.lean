/- Part 27. -/
import Derived.Test.YtaglbcjljlkjcaaGreatW26
namespace Go.Proofs.YtaglbcjljlkjcaaGreat.Av
open Tryz
set_option linter.all false
set_option maxRecDepth 4000
set_option maxHeartbeats 8000000
open List renaming length->ln,replicate->pb,range->pi,take->py
open Inhabited renaming default->dd
variable {c:Cf}{h:Hd}{k n f3 s:Int}{i:It}{ins:List In}{ar da:List Int}{l:List Rq}{α:Type}{d:wC}
def IS (f g u:Int) (ar:List Int):Nat->List Int
 |0=>[]
 |i+1=>(if(i:Int)=f/\0<g then IS f g u ar i++jR u else IS f g u ar i)++jR (ar.getD i dd)
def OM (f g u:Int) (ar:List Int) (i:Nat):List Int:=if(i:Int)=f/\0<g then IS f g u ar i++jR u else IS f g u ar i
theorem DA (h:n<128):(jR n).length=1:=by unfold jR;rw[VJ h];rfl
theorem S6 (h:n<16384):(jR n).length<=2:=by grind [jR,DA,GO,VJ]
theorem IT (f g u:Int) (ar:List Int):∀i,(IS f g u ar i).length<=10*i
 |0=>zAw _
 |i+1=>by
  have:=IT f g u ar i;have h1:=gC u;have h2:=gC (ar.getD i dd);unfold IS
  split<;>simp only[zAv]<;>omega
theorem Rs (f g u:Int) (ar:List Int) (i:Nat):(OM f g u ar i).length<=10*i+5:=by grind [OM,IT,gC,List.length_append]
theorem Qj {f g u:Int} (z:0<=u/\u<=4294967295) (A:RO ar):∀i,i<=ln ar->BY (IS f g u ar i)
 |0,_=>λx hx=>by cases hx
 | i+1,hi=>by
  have B:=Qj (f:=f) (g:=g) z A i zB;have h1:=FX z.1 z.2;have h2:=A (ar.getD i dd) (yK ar i zB);have C:=FX h2.1 h2.2;unfold IS;intro x hx
  rcases zBc.1 hx with hx|hx
  .split at hx
   .exact(zBc.1 hx).elim (B x) (h1 x)
   .exact B x hx
  .exact C x hx
theorem uz {f g u:Int} (A:0<=u/\u<=4294967295) (z:RO ar) (i:Nat) (hi:i<=ln ar):BY (OM f g u ar i):=by grind [RO,BY,OM,Qj,FX]
theorem qz (k f g lo hi sd u:Int) (ar da:List Int) (c1:zN 233 [iA k] [] (.tup [XQ ⟨0,f,g,lo,hi,sd⟩,bA true]) []) (c2:zN 234 [XQ ⟨0,f,g,lo,hi,sd⟩,iA ((ar.map iA).length:Int)] [] (.tup [iA u,bA true]) [])
  (hd:sd= -1\/(ln da:Int)=sd) (ha:RO ar) (av:ln ar<=100) (Y:0<=u/\u<=4294967295) (hz:(OM f g u ar (ln ar)++da).length<=200):
  zN 185 [zW ⟨k,[],ar,da⟩] [] (.tup [zE yA (OM f g u ar (ln ar)++da),iA 0]) []:=by
 have c3:=QC [] zV;have a3:=zA iA ar;have a4:=zA yA da;have cg:=n7 u Y.1 Y.2;have a5:=zA yA (jR u);have a8:=gC u;have S:=IT f g u ar;have R:=Rs f g u ar;have L:IS f g u ar 0=[]:=rfl
 have M:∀i:Nat,OM f g u ar i=if(i:Int)=f/\0<g then IS f g u ar i++jR u else IS f g u ar i:=λ_=>rfl
 have O:∀i:Nat,IS f g u ar (i+1)=OM f g u ar i++jR (ar.getD i dd):=λ_=>rfl
 have au:(OM f g u ar (ln ar)).length+ln da<=200:=by rw[zAv]at hz;exact hz
 have hz:((OM f g u ar (ln ar)).map yA++da.map yA).length<=200:=by rw[zAv]at hz;simp;omega
 have a1:ln da<=200:=by omega
 rw[show zE yA (OM f g u ar (ln ar)++da)= .sl false (py ((OM f g u ar (ln ar)).map yA++da.map yA).length (List.drop 0 ((OM f g u ar (ln ar)).map yA++da.map yA))) by rw[zBd,zAt];unfold zE;rw[zAy]];rw[show zW ⟨k,[],ar,da⟩= .agg [iA k,zE yA [],zE iA ar,zE yA da]from Z];rw[show XQ ⟨0,f,g,lo,hi,sd⟩= .agg [iA 0,iA f,iA g,iA lo,iA hi,iA sd]from Z]at *; generalize OM f g u ar=pg,IS f g u ar=I at *;clear au
 rcases hd with h2|h2
 all_goals
  refine eM call185 λF hF=>?_
  refine yG (qM c1 c2 c3) ?_
 all_goals
  refine vO 1001 Z ?_;refine yU (ln ar+1) [1001,1,4] [1,4] [1,4,6,64] [7,65,1,4,6,64] Z (λi T U zs=>(i<=ln ar)/\zs=⟨(7,.ref 1001 0 ((I i).map yA).length)::(65,iA i)::T,(1001,.arr 1 ((I i).map yA) true)::U⟩) (Lp ?_ ?_ ?_)
  .refine⟨zA9 _,?_⟩;rw[L];rfl
  .rintro i st' hi ⟨hik,rfl⟩;have az:=S i;have ax:=R i;have Y:=M i;have a6:=zA yA (I i);have a2:=zA yA (pg i)
   have z:(pg i).map yA=if(i:Int)=f/\0<g then(I i).map yA++(jR u).map yA else(I i).map yA:=by
    rw[Y];split
    .rw[zAy]
    .rfl
   by_cases ap:i=ln ar
   .subst ap;clear O Y S R M L c1 c2 c3;generalize (I (ln ar)).map yA=A at *;generalize (pg (ln ar)).map yA=B at *;generalize jR u=W at *;by_cases C:(ln ar:Int)=f
    .by_cases G:0<g
     .rw[f5 ⟨C,G⟩]at z;subst z;exact ng cg
     .rw[Os (λh=>G h.2)]at z;subst z;exact ly
    .rw[Os (λh=>C h.1)]at z;subst z;exact ly
   have ag:=ha (ar.getD i dd) (yK ar i zB);have cv:=n7 (ar.getD i dd) ag.1 ag.2;have hy:=zJ iA ar i zB;have hS:=O i;have a7:=zA yA (jR (ar.getD i dd));have a9:=gC (ar.getD i dd);have ac:(I (i+1)).map yA=(pg i).map yA++(jR (ar.getD i dd)).map yA:=by rw[hS,zAy]
   rw[ac];clear hS Y S R M O L ac c1 c2 c3 hz ha;generalize (pg (ln ar)).map yA=E,(I i).map yA=A,(pg i).map yA=B,jR (ar.getD i dd)=V at *;generalize ar.getD i dd=a at *;generalize jR u=W at *;by_cases C:(i:Int)=f
   .by_cases G:0<g
    .rw[f5 ⟨C,G⟩]at z;subst z;refine yG (xV cg cv) ?_;exact⟨zB,rfl⟩
    .rw[Os (λh=>G h.2)]at z;subst z;refine zS cv ?_;exact⟨zB,rfl⟩
   .rw[Os (λh=>C h.1)]at z;subst z;refine zS cv ?_;exact⟨zB,rfl⟩
  .rintro st' ⟨hik,rfl⟩;exfalso;omega
def jP (k:Int):Int×Int×Int×Int×Int:=if k=16 then(1,0,0,0,10)else if k=17\/k=21 then(1,0,0,0,-1)else if k=18 then(1,3,0,16,0)else if k=19 then(0,2,0,4,0)else if k=20 then(4,0,0,0,0)else(2,0,0,0,0)
def Qs (k:Int) (h:13<=k/\k<=21):zN 233 [iA k] [] (.tup [XQ ⟨0,(jP k).1,(jP k).2.1,(jP k).2.2.1,(jP k).2.2.2.1,(jP k).2.2.2.2⟩,bA true]) []:=by
 have:k=13\/k=14\/k=15\/k=16\/k=17\/k=18\/k=19\/k=20\/k=21:=by omega
 rcases this with rfl|rfl|rfl|rfl|rfl|rfl|rfl|rfl|rfl
 all_goals
  refine eM call233 λF hF=>?_
  exact ly
def Pj (f g lo hi A n u:Int) (O:0<=n/\n<=100) (M:0<=f/\f<=4) (h:(g=0/\n=f/\u=0)\/((g=2\/g=3)/\n=f+g*u/\0<=u/\lo<=u/\u<=hi)):zN 234 [XQ ⟨0,f,g,lo,hi,A⟩,iA n] [] (.tup [iA u,bA true]) []:=by
 rw[show XQ ⟨0,f,g,lo,hi,A⟩= .agg [iA 0,iA f,iA g,iA lo,iA hi,iA A]from Z]
 rcases h with⟨rfl,rfl,rfl⟩|⟨rfl|rfl,B,L,h1,h2⟩
 ·(refine eM call234 λF hF=>?_)
  exact ly
 .have z:u=(n-f).tdiv 2:=by
   rw[zCv zB];omega
  have G:(n-f).tmod 2=0:=by
   rw[zB1 zB];omega
  have I:aB .i64 ((n-f).tdiv 2):=by
   unfold aB;have e1:IntKind.i64.min= -9223372036854775808:=by decide
   have C:IntKind.i64.max=9223372036854775807:=by decide
   omega
  have E:¬n-f<0:=by omega
  subst z;clear B;refine eM call234 λF hF=>?_
  exact ly
 .have z:u=(n-f).tdiv 3:=by
   rw[zCv zB];omega
  have G:(n-f).tmod 3=0:=by
   rw[zB1 zB];omega
  have I:aB .i64 ((n-f).tdiv 3):=by
   unfold aB;have e1:IntKind.i64.min= -9223372036854775808:=by decide
   have C:IntKind.i64.max=9223372036854775807:=by decide
   omega
  have E:¬n-f<0:=by omega
  subst z;clear B;refine eM call234 λF hF=>?_
  exact ly
structure K5 (k:Int) (ar da:List Int):Prop where
 kk:13<=k/\k<=21
 n:RO ar
 l:ar.length<=60
 b:BY da
 d:(jP k).2.2.2.2= -1\/(da.length:Int)=(jP k).2.2.2.2
 g:((jP k).2.1=0/\(ar.length:Int)=(jP k).1)\/(((jP k).2.1=2\/(jP k).2.1=3)/\∃gr:Int,(ar.length:Int)=(jP k).1+(jP k).2.1*gr/\0<=gr/\(jP k).2.2.1<=gr/\gr<=(jP k).2.2.2.1)
 z:(((ar.map jR).flatten).length+1)+da.length<=200
theorem ee (f g z:Int) (u:z<128) (ar:List Int):∀i,i<=ln ar->(IS f g z ar i).length<=(((ar.take i).map jR).flatten).length+(if f<i then 1 else 0)
 |0,_=>by simp[IS]
 | i+1,hi=>by
  have A:=ee f g z u ar i zB;have h1:=DA u
  have e:ar.take (i+1)=ar.take i++[ar.getD i dd]:=by
   rw[zA0,zBk zB,zDm,zDk zB]
  rw[e,zAy,zEc];unfold IS;simp only[zAv,zCb,zCj,zDp,List.flatten_nil,zBn,zBx];split
  .rename_i h2;rw[zAv,h1,f5 zB];rw[Os zB]at A;omega
  .by_cases B:f<i
   .rw[f5 B]at A;rw[f5 zB];omega
   .rw[Os B]at A
    split<;>omega
theorem Ps (f g u:Int) (z:u<128) (ar:List Int):(OM f g u ar (ln ar)).length<=((ar.map jR).flatten).length+1:=by
 have A:=ee f g u z ar (ln ar) (zAw _)
 grind [OM,jR,DA,List.take_length,List.length_append]
theorem Ns (f g u:Int) (ar:List Int) (h:ar≠[]):1<=(OM f g u ar (ln ar)).length:=by
 have h1:0<ln ar:=List.length_pos_iff.2 h;obtain⟨n,z⟩:∃n,ln ar=n+1:=⟨ln ar-1,zB⟩
 grind [OM,IS,List.length_append,gC]
def V9 (k:Int) (ar da p:List Int):Prop:=∃u:Int,(0<=u/\u<=100)/\(((jP k).2.1=0/\(ln ar:Int)=(jP k).1/\u=0)\/(((jP k).2.1=2\/(jP k).2.1=3)/\(ln ar:Int)=(jP k).1+(jP k).2.1*u/\0<=u/\(jP k).2.2.1<=u/\u<=(jP k).2.2.2.1))/\p=OM (jP k).1 (jP k).2.1 u ar (ln ar)++da
def Oj (h:K5 k ar da):∃p,(BY p/\V9 k ar da p)/\(ln p<=200/\(ar≠[]->1<=ln p))/\zN 185 [zW ⟨k,[],ar,da⟩] [] (.tup [zE yA p,iA 0]) []:=by
 have hl:=zA iA ar
 have E:(0<=(jP k).1/\(jP k).1<=4)/\(jP k).2.2.2.1<=16:=by
  have hk:=h.kk;have:k=13\/k=14\/k=15\/k=16\/k=17\/k=18\/k=19\/k=20\/k=21:=by omega
  clear hk h
  rcases this with rfl|rfl|rfl|rfl|rfl|rfl|rfl|rfl|rfl<;>decide
 obtain⟨E,hh⟩:=E
 obtain⟨u,G,S,A⟩:∃u:Int,(0<=u/\u<=100)/\True/\(((jP k).2.1=0/\((ar.map iA).length:Int)=(jP k).1/\u=0)\/(((jP k).2.1=2\/(jP k).2.1=3)/\((ar.map iA).length:Int)=(jP k).1+(jP k).2.1*u/\0<=u/\(jP k).2.2.1<=u/\u<=(jP k).2.2.2.1)):=by
  rw[hl]
  rcases h.g with⟨B,C⟩|⟨B,u,C,L,M,O⟩
  .exact⟨0,zB,trivial,.inl ⟨B,C,rfl⟩⟩
  .exact⟨u,zB,trivial,.inr ⟨B,C,L,M,O⟩⟩
 have I:=Pj _ _ (jP k).2.2.1 (jP k).2.2.2.1 (jP k).2.2.2.2 ((ar.map iA).length:Int) u (by have:=h.l;omega) E A;have U:=Ps (jP k).1 (jP k).2.1 u zB ar;have V:=h.z;refine⟨OM (jP k).1 (jP k).2.1 u ar (ln ar)++da,⟨?_,u,G,by rw[hl]at A;exact A,rfl⟩,?_,qz k _ _ _ _ _ u ar da (Qs k h.kk) I h.d h.n (by have:=h.l;omega) zB (by rw[zAv];omega)⟩
 .intro x hx;exact(zBc.1 hx).elim (uz zB h.n (ln ar) (zAw _) x) (h.b x)
 .refine⟨by rw[zAv];omega,λR=>?_⟩;have:=Ns (jP k).1 (jP k).2.1 u ar R;rw[zAv];omega
def kz (h:K5 k ar da):zN 123 [zW ⟨k,[],ar,da⟩] [] (bA true) []:=by
 obtain⟨p,_,_,c⟩:=Oj h;rw[show zW ⟨k,[],ar,da⟩= .agg [iA k,zE yA [],zE iA ar,zE yA da]from Z]at *; refine eM call123 λF hF=>?_
 exact ng c
def ZD (h:K5 k ar da):∃p,(BY p/\V9 k ar da p)/\(ln p<=200/\(ar≠[]->1<=ln p))/\KT [zW ⟨k,[],ar,da⟩] [] (.tup [zE yA (Tb k p),iA 0]) []:=by
 obtain⟨p,h1,⟨h2,u⟩,c⟩:=Oj h;have hk:=h.kk;have z:=pz k p zB zB h1.1 h2;refine⟨p,h1,⟨h2,u⟩,?_⟩;generalize Tb k p=q at *;rw[show zW ⟨k,[],ar,da⟩= .agg [iA k,zE yA [],zE iA ar,zE yA da]from Z]at *; exact ak
section
def YO (m:Ms):Prop:=m.tok=[]/\K5 m.kind m.args m.data
structure Ls (i:It):Prop where
 y:BY i.pay
 n:i.pay.length<=100000
 k:0<=i.kind/\i.kind<=255
 c:0<=i.code/\i.code<=100
def Ga (i:In):Prop:=ln i.its<=1000/\∀x∈i.its,Ls x
theorem Ga.b {i:In} (h:Ga i):Sy i:=⟨h.1,λx hx=>⟨(h.2 x hx).y,(h.2 x hx).n⟩⟩
structure Nj (e:En):Prop where
 a:0<=e.ag/\e.ag<4
 k:0<=e.ki/\e.ki<=255
 c:0<=e.co/\e.co<=100
theorem dP (l:List Int):((l.map jR).flatten).length<=5*ln l:=by
 induction l with
 |nil=>simp
 |cons a l u=>
  grind [jR,gC,List.flatten_cons,List.length_append,List.length_cons]
theorem U9 (k a b:Int) (hk:k=13\/k=14\/k=15) (u:0<=a/\a<=4294967295) (hb:0<=b/\b<=4294967295):YO ⟨k,[],[a,b],[]⟩:=by
 have h:=dP [a,b];refine⟨rfl,?_⟩;dsimp only
 have z:jP k=(2,0,0,0,0):=by rcases hk with rfl|rfl|rfl<;>rfl
 refine⟨zB,.cons u (.cons hb .nil),by simp,λx hx=>(by cases hx),?_,?_,by simp only[zA6,zBx]at *; omega⟩
 all_goals grind
theorem jz (u:qB c d):RO (gA d.rq):=by
 have z:=u.v.ok;generalize d.rq=l at *;intro x hx;unfold gA at hx;obtain⟨y,B,hx⟩:=zEw.1 hx;obtain⟨r,A,rfl⟩:=zCa.1 B;have h:=z r A;have C:=h.i0;have h1:=h.i1;have h2:=h.t0;have E:=h.t1
 grind
theorem T9 (u:qB c d) (n0:0<=f3) (n1:f3<=1073741824) (z:Ls i) (A:lw c d s i f3 h):YO h.p:=by
 have V:=u.n;by_cases C:h.e=0
 .obtain⟨a,_,L⟩:=A.yes C
  rcases L with⟨_,e,_⟩|⟨_,e,_⟩|⟨_,e,_⟩|⟨_,k,B,hk,⟨Y,M⟩,e⟩|⟨_,x,O,R,e⟩
  .rw[e];exact U9 13 _ _ (.inl Z) zB zB
  .have S:=u.v.n4;have hb:=jz u;have hl:=XI d.rq;have E:=dP (gA d.rq);rw[e];refine⟨rfl,by dsimp only[QD];omega,hb,by dsimp only[QD];omega,λx hx=>(by cases hx),.inr Z,.inr ⟨.inl Z,(ln d.rq:Int),?_,zB,by show(0:Int)<=_;omega,by show _<=(4:Int);omega⟩,?_⟩
   .show((gA d.rq).length:Int)=0+2*(ln d.rq:Int)
    omega
   .show(((gA d.rq).map jR).flatten).length+1+0<=200
    omega
  .have G:=u.t8;have hv:=u.vh;have W:=u.q;have U:=u.a.q;have hl:=u.bl;have hb:=u.a.b;have I:RL d.rg.tk<=8:=by rw[<-G];exact zCh _ _
   rw[e];have E:=dP (bY d).args;refine⟨rfl,by dsimp only[bY];omega,.cons zB (.cons zB (.cons zB (.cons zB .nil))),by simp[bY],λx hx=>(by cases hx),.inr Z,.inl ⟨rfl,rfl⟩,?_⟩
   grind [YO,bY,jR]
  .rw[e];have E:=dP [(k:Int)];refine⟨rfl,by dsimp only;omega,.cons zB .nil,by simp,?_,.inr ?_,.inl ⟨rfl,rfl⟩,?_⟩
   .intro x hx;simp only[zCf]at hx
    rcases hx with rfl|rfl|hx
    .omega
    .omega
    .exact M x hx
   .show((d.rg.num::(k:Int)::B).length:Int)=10
    grind
   all_goals grind
  .rw[e];exact U9 14 _ _ (.inr (.inl Z)) (by have:=z.k;omega) ⟨O,R⟩
 .have hb:=A.eb z.c;rw[(A.no C).2.1];exact U9 15 _ _ (.inr (.inr Z)) (by have:=z.k;omega) zB
def S9 (z:lw c d s i f3 h):h.p.kind≠17:=by
 by_cases A:h.e=0
 .obtain⟨a,_,B⟩:=z.yes A
  rcases B with⟨_,e,_⟩|⟨_,e,_⟩|⟨_,e,_⟩|⟨_,k,C,hk,⟨E,G⟩,e⟩|⟨_,x,I,L,e⟩
  all_goals (rw[e];intro u;revert u;first|decide|(intro u;cases u))
 .obtain⟨_,e,_⟩:=z.no A;rw[e];intro u;cases u
def KN (f3:Int) (l:List Rq):Prop:=∀r∈l,∀g∈r.legs,g.sc<=f3
theorem KN.mono {a b:Int} (h:KN a l) (u:a<=b):KN b l:=λr A g z=>Int.le_trans (h r A g z) u
theorem KN.of (C:0<=f3) {u:List Rq} (h:KN f3 l) (B:WJ l u):KN f3 u:=λr A g z=>by
 rcases B r A g z with h1|⟨r0,h1,_,g0,h2,_,_,h3⟩
 .omega
 .rw[<-h3];exact h r0 h1 g0 h2
theorem KN.mk (G:0<=f3) (h:KN f3 l):KN f3 (EN l f3):=λr B g A=>by
 unfold EN at B;obtain⟨E,z,rfl⟩:=zCa.1 B;unfold mkR at A;obtain⟨C,u,rfl⟩:=zCa.1 A;unfold fA;have:=h E z C u;split
 .split
  .exact zC1 _
  .exact this
 .show(-1:Int)<=f3
  omega
theorem Mj {s:Nat} (M:0<=f3) (O:f3<=1073741824) {u:List It} (I:∀x∈u,Ls x) {f:Nat->TS} (z:∀e∈(f 0).en,Nj e) (E:(f 0).rs=[])
 (L:∀k,k<ln u->o6 c (s:Int) f3 (u.getD k dd) (f k) (f (k+1))) (hd:∀k,EP c d (f k).d):∀k,k<=ln u->(∀m∈(f k).rs,YO m/\m.kind≠17)/\(∀e∈(f k).en,Nj e)/\(∀j:Nat,j≠s->(f k).d.au[j]? =(f 0).d.au[j]?)/\WJ (f 0).d.rq (f k).d.rq
 |0,_=>⟨λm A=>(by rw[E]at A;cases A),z,λ_ _=>rfl,WJ.refl _⟩
 | k+1,hk=>by
  obtain⟨S,U,V,W⟩:=Mj M O I z E L hd k zB;obtain⟨h,_,C,hb⟩:=L k zB;have G:=(hd k).i;have B:=I _ (yK u k zB);have R:=G.n;rw[hb];refine⟨λm A=>?_,λe z=>?_,λj hj=>?_,W.trans C.sc⟩
  .rcases zBc.1 A with A|A
   .exact S m A
   .rw[zBl.1 A];exact⟨T9 G M O B C,S9 C⟩
  .rcases zBc.1 z with z|z
   .exact U e z
   .rw[zBl.1 z];exact⟨R,B.k,C.eb B.c⟩
  .dsimp only;rw[C.ax j zB,V j hj]
instance:Inhabited Ms:=⟨⟨0,[],[],[]⟩⟩
def J5 (i:It) (m:Ms):Prop:=m.kind=14\/m.kind=15->∃v,m.args=[i.kind,v]
def R6 (z:lw c d s i f3 h):J5 i h.p:=λu=>by
 by_cases A:h.e=0
 .obtain⟨a,_,B⟩:=z.yes A
  rcases B with⟨_,e,_⟩|⟨_,e,_⟩|⟨_,e,_⟩|⟨_,k,C,hk,⟨E,G⟩,e⟩|⟨_,x,I,L,e⟩
  case inr.inr.inr.inr=>rw[e];exact⟨x,rfl⟩
  all_goals (rw[e]at u;rcases u with u|u<;>cases u)
 .obtain⟨_,e,_⟩:=z.no A;rw[e];exact⟨h.e,rfl⟩
theorem Lj {s:Nat} {u:List It} {f:Nat->TS} (hl:∀k,(f k).rs.length=k) (A:∀k,k<ln u->o6 c (s:Int) f3 (u.getD k dd) (f k) (f (k+1))):∀k,k<=ln u->∀p,p<k->J5 (u.getD p dd) ((f k).rs.getD p dd)
 |0,_,p,C=>by omega
 |k+1,hk,p,C=>by
  obtain⟨h,_,B,hb⟩:=A k zB;have z:=hl k;rw[hb];dsimp only;by_cases e:p=k
  .subst e;rw[zA0 (l:=_++_),zBq zB,z,zC7];exact R6 B
  .rw[zA0 (l:=_++_),zBp zB,<-zA0];exact Lj hl A k zB p zB
theorem Kj {u:Nat->SS} (z:∀s,(u s).R.length=s/\Dr c f3 ins s (u s) (u (s+1))):∀s j,j<s->∀p,p<(fE ins j).length->J5 ((fE ins j).getD p dd) (((u s).R.getD j []).getD p dd)
 |0,j,hj,_,_=>by omega
 |s+1,j,hj,p,A=>by
  obtain⟨f,G,B,C,E⟩:=(z s).2;have hl:=(z s).1;rw[E];dsimp only;by_cases e:j=s
  .subst e;rw[zA0 (l:=_++_),zBq zB,hl,zC7];exact Lj (λk=>(C k).2.1) B _ (zAw _) p A
  .rw[zA0 (l:=_++_),zBp zB,<-zA0];exact Kj z s j zB p A
structure DR where
 d:wC
 R:List (List Ms)
 en:List En
 ks:List Int
def Jj (r:DR):AV:=uw r.d r.R r.en r.ks
structure w9 (c:Cf) (f3:Int) (d:wC) (ins:List In) (r:DR):Prop where
 i:qB c r.d
 ag:r.d.rg.ag=d.rg.ag
 num:r.d.rg.num=d.rg.num
 rn:r.R.length=d.au.length
 rl:∀s,s<d.au.length->(r.R.getD s []).length=(fE ins s).length
 rv:∀l∈r.R,l.length<=1000/\∀m∈l,YO m
 rk:∀l∈r.R,∀m∈l,m.kind≠17
 el:r.en.length<=2000
 en:∀e∈r.en,Nj e
 kl:r.ks.length<=2000
 ks:∀x∈r.ks,0<=x/\x<(c.js.length:Int)
 sc:KN f3 d.rq->KN f3 r.d.rq
 au:∀s,s<d.au.length->fE ins s=[]->r.d.au[s]? =some (QF ins s (d.au.getD s default))
 na:O2 d.rg.tk->O2 r.d.rg.tk/\r.d.au=Pi ins d.au
 ra:∀s,s<d.au.length->∀p,p<(fE ins s).length->J5 ((fE ins s).getD p default) ((r.R.getD s []).getD p default)
theorem Q6 (h:∀i∈ins,Ga i) (s:Nat):∀x∈fE ins s,Ls x:=by grind [Ga,fE,yK]
theorem Ij (O:0<=f3) (S:f3<=1073741824) (z:∀i∈ins,Ga i) {d:wC} {u:Nat->SS} (G:u 0=⟨d,[],[],[]⟩) (I:∀s,EP c d (u s).d/\Dr c f3 ins s (u s) (u (s+1))):
  ∀s,(u s).R.length=s/\(∀j,j<s->((u s).R.getD j []).length=(fE ins j).length)/\(∀l∈(u s).R,ln l<=1000/\∀m∈l,YO m/\m.kind≠17)/\(∀e∈(u s).en,Nj e)/\(∀j,(s<=j\/fE ins j=[])->(u s).d.au[j]? =d.au[j]?)/\WJ d.rq (u s).d.rq
 |0=>by rw[G];exact⟨rfl,λj hj=>absurd hj (zCm _),λl hl=>(by cases hl),λe B=>(by cases B),λ_ _=>rfl,WJ.refl _⟩
 | s+1=>by
  obtain⟨L,i1,i2,i3,M,i5⟩:=Ij O S z G I s;obtain⟨f,A,V,E,W⟩:=(I s).2;have Y:=(IL (λi hi=>(z i hi).b) s).1;obtain⟨r1,r2,r3,U⟩:=Mj O S (Q6 z s) (d:=(u s).d) (f:=f) (by rw[A];exact i3) (by rw[A]) V (λk=>(E k).1) _ (zAw _);rw[W];dsimp only;have C:=(E (fE ins s).length).2.1;refine⟨by rw[zAv,zCr,L],λj hj=>?_,λl hl=>?_,r2,λj hj=>?_,i5.trans (by rw[A]at U;exact U)⟩
  .rw[zA0];by_cases h:j=s
   .subst h;rw[zBq zB,L,zC7];exact C
   .rw[zBp zB,<-zA0];exact i1 j zB
  .rcases zBc.1 hl with hl|hl
   .exact i2 l hl
   .rw[zBl.1 hl];exact⟨zB,r1⟩
  .by_cases h:j=s
   .subst h;have B:fE ins j=[]:=hj.elim (λh=>absurd h zB) id;rw[B,zBx,A];exact M j (.inl (zAw _))
   .rw[r3 j h,A];exact M j (hj.imp (λh=>by omega) id)
theorem Hj (m:List In) (k s:Nat):(m++pb k dd).getD s dd=m.getD s dd:=by grind
theorem Js (m:List In) (k s:Nat):fE (m++pb k dd) s=fE m s:=by
 unfold fE;rw[Hj];by_cases h:s<ln m
 .simp[h,show s<ln m+k by omega]
 .rw[show m.getD s dd=dd by grind,Os (λh=>by cases h.2),Os (λh=>by cases h.2)]
theorem Is (m:List In) (k:Nat) (l:List Bool):Pi (m++pb k dd) l=Pi m l:=by
 unfold Pi
 congr 1
 funext s b
 unfold QF;rw[Hj];by_cases h:s<ln m
 .simp[h,show s<ln m+k by omega]
 .rw[show m.getD s dd=dd by grind,Os (λh=>by cases h.2),Os (λh=>by cases h.2)]
def Hs (m:List In) (k:Nat) (d:wC):dq d (m++pb k dd)=dq d m:=by
 unfold dq;rw[Is]
def Gs (c:Cf) (f3:Int) (m:List In) (k s:Nat) (a b:SS):Dr c f3 (m++pb k dd) s a b=Dr c f3 m s a b:=by
 unfold Dr;rw[Js]
def Gj (c:Cf) (d:wC) (E:qB c d) (ins:List In) (U:ln ins=ln d.au) (I:∀i∈ins,Ga i) (f3:Int) (C:0<=f3) (G:f3<=1073741824):
  ∃r:DR,w9 c f3 d ins r/\zN 115 [wE c,zM d,zE uS ins,iA f3] [] (Jj r) []/\∀m k,ins=m++pb k dd->zN 56 [wE c,zM d,zE uS m,iA f3] [] (Jj r) []:=by
 have A:∀i∈ins,Sy i:=λi hi=>(I i hi).b
 have S:ln d.au=1\/d.au.length=2:=by have:=E.au;have:=E.a.e;omega
 obtain⟨u,O,B⟩:=xw c f3 C G ins A (dq d ins) (j8 E ins);have z:=Ij C G I O (λs=>⟨(B s).1,(B s).2.2⟩) (ln d.au);obtain⟨hT,⟨_,e2,e3,W⟩,_⟩:=B (ln d.au);refine⟨⟨ww (u (ln d.au)).d f3,(u (ln d.au)).R,(u (ln d.au)).en,(u (ln d.au)).ks⟩,⟨f8 hT.i f3 C G,hT.a,hT.n,z.1,z.2.1,λl h=>⟨(z.2.2.1 l h).1,λm V=>((z.2.2.1 l h).2 m V).1⟩,λl h m V=>((z.2.2.1 l h).2 m V).2,by dsimp only;omega,z.2.2.2.1,by dsimp only;omega,W,λY=>KN.mk C (KN.of C Y z.2.2.2.2.2),λs M he=>?_,hT.t,λs z p hp=>Kj (λs=>⟨(B s).2.1.1,(B s).2.2⟩) _ s z p hp⟩,?_,λm k e=>?_⟩
 .show(u (ln d.au)).d.au[s]? =_
  rw[z.2.2.2.2.1 s (.inr he)]
  show(Pi ins d.au)[s]? =_
  unfold Pi;rw[vV,f5 M,f5 M]
 .show zN 115 [wE c,zM d,zE uS ins,iA f3] [] (uw (ww (u (ln d.au)).d f3) (u (ln d.au)).R (u (ln d.au)).en (u (ln d.au)).ks) []
  rcases S with L|L
  .rw[L];exact Ui E ins zB A f3 C G u O L zB B
  .rw[L];exact Ti E ins zB A f3 C G u O L zB B
 .subst e;simp only[Hs,Gs]at O B;exact qw E m (by rw[zAv]at U;omega) (λi hi=>A i XX) f3 C G u O B
open Classical in
noncomputable def ZE (c:Cf) (d:wC) (ins:List In) (f3:Int):DR:=if h:∃r:DR,w9 c f3 d ins r/\zN 115 [wE c,zM d,zE uS ins,iA f3] [] (Jj r) []/\∀m k,ins=m++pb k dd->zN 56 [wE c,zM d,zE uS m,iA f3] [] (Jj r) []then h.choose else⟨dd,[],[],[]⟩
def Kg (c:Cf) (d:wC) (A:qB c d) (ins:List In) (u:ln ins=ln d.au) (z:∀i∈ins,Ga i) (f3:Int) (B:0<=f3) (C:f3<=1073741824):
  w9 c f3 d ins (ZE c d ins f3)/\zN 115 [wE c,zM d,zE uS ins,iA f3] [] (Jj (ZE c d ins f3)) []/\∀m k,ins=m++pb k dd->zN 56 [wE c,zM d,zE uS m,iA f3] [] (Jj (ZE c d ins f3)) []:=by
 have h:=Gj c d A ins u z f3 B C;unfold ZE;rw[zF1 h];exact h.choose_spec
theorem bF (c:Cf) (d:wC) (ins:List In) (f3:Int):(ZE c d ins f3).en.length<=2000/\(ZE c d ins f3).ks.length<=2000:=by
 unfold ZE;split
 .rename_i h;have:=h.choose_spec.1;exact⟨this.el,this.kl⟩
 all_goals grind
end
def DB (ins:List In) (b k:Nat):List In:=(pi k).map λj=>ins.getD (b+j) dd
def Fj (ins:List In) (b k:Nat):DB ins b (k+1)=DB ins b k++[ins.getD (b+k) dd]:=by simp[DB,zCs]
def DC (c:Cf) (ins:List In) (a:Nat):List In:=DB ins (qS c.ags a).toNat (c.ags.getD a dd).ses.toNat
def Yx (r:DR):AV:=zE kY r.R
def PD (f3:Int) (u:List wC) (i:Nat):List wC:=aX (λ_ d=>YH d f3) u i
def eW (f3:Int) (u:List wC) (z:Nat->DR) (i:Nat):List wC:=(pi (ln u)).map λk=>if k<i then(z k).d else YH (u.getD k dd) f3
def zj (n:Nat) (u:Nat->DR) (i:Nat):List AV:=(pi n).map λk=>if k<i then Yx (u k)else .s (.slice none 0 0)
def XM (u:Nat->DR) (i:Nat):List En:=((pi i).map λk=>(u k).en).flatten
def dD (u:Nat->DR) (i:Nat):List Int:=((pi i).map λk=>(u k).ks).flatten
def ON (u:Nat->DR) (i:Nat):XM u (i+1)=XM u i++(u i).en:=by simp[XM,zCs]
def OO (u:Nat->DR) (i:Nat):dD u (i+1)=dD u i++(u i).ks:=by simp[dD,zCs]
theorem VZ {u:Nat->DR} (h:∀i,(u i).en.length<=2000):∀i,(XM u i).length<=2000*i
 |0=>zA9 _
 |i+1=>by
  have:=VZ h i;have:=h i;rw[ON,zAv];omega
theorem UA {u:Nat->DR} (h:∀i,(u i).ks.length<=2000):∀i,(dD u i).length<=2000*i
 |0=>zA9 _
 |i+1=>by
  have:=UA h i;have:=h i;rw[OO,zAv];omega
theorem YP (n i:Nat) (f g:Nat->α) (hi:i<n):((pi n).map λk=>if k<i+1 then f k else g k)=((pi n).map λk=>if k<i then f k else g k).set i (f i):=by apply zB0<;>grind [List.length_map,List.length_range,List.getElem?_range,List.getElem?_eq_none]
theorem UB (n i:Nat) (f g:Nat->α) (hi:i<n):((pi n).map λk=>if k<i then f k else g k)[i]? =some (g i):=by grind
theorem Jg (n:Nat) (f g:Nat->α):((pi n).map λk=>if k<n then f k else g k)=(pi n).map f:=by grind [List.map_congr_left]
theorem UC {l:List Ag} (h:LL l) {i j:Nat} (u:i<=j) (hj:j<=ln l):qS l i<=qS l j:=by
 induction j with
 |zero=>rw[show i=0 by omega];exact zC1 _
 |succ j z=>
  grind [LL,qS]
theorem Ig (c:Cf) (M:LL c.ags) (f3:Int) (n0:0<=f3) (n1:f3<=1073741824) (u:List wC) (a7:ln u=ln c.ags) (W:∀i,i<ln u->qB c (u.getD i dd)) (ins:List In) (b3:(ln ins:Int)<=qS c.ags (ln c.ags))
  (z:Nat->DR) (au:∀i,(z i).en.length<=2000) (av:∀i,(z i).ks.length<=2000) (hr:∀i,i<ln u->zN 115 [wE c,zM (YH (u.getD i dd) f3),zE uS (DC c ins i),iA f3] [] (Jj (z i)) [])
  (A B C:List AV) (a2 a3 a4:Nat) (vw:List Vw):
  zN 46 [aY c false f3 (.ref 1011 0 (u.map zM).length) (.ref 1012 0 a2) (.ref 1013 0 a3) (.ref 1014 0 a4) (zE vR vw),zE uS ins] [(1011,.arr 17 (u.map zM) false),(1012,.arr 5 A false),(1013,.arr 3 B false),(1014,.arr 1 C false)]
   (.tup [.sl false ((pi (ln u)).map λk=>Yx (z k)),zE kG (XM z (ln u)),zE iA (dD z (ln u))]) [(1011,.arr 17 ((eW f3 u z (ln u)).map zM) false),(1012,.arr 5 A false),(1013,.arr 3 B false),(1014,.arr 1 C false)]:=by
 have a8:=zA zM u;have a1:=zA uI c.ags;have b6:=M.1;have a5:∀i,(PD f3 u i).length=ln u:=λi=>wZ _ _ _
 have a6:∀i,((PD f3 u i).map zM).length=ln u:=λi=>by rw[zAr,a5]
 have I:PD f3 u 0=u:=qN _ _;unfold aY;refine eM call46 λF hF=>?_
 refine WW ?_;refine zO (ln u) [1011,2,3,1012,1013,1014] [2,3,1012,1013,1014] [2,3,21,57] [22,2,3,21,57] Z (λi T U=>⟨(22,iA i)::T,(1011,.arr 17 ((PD f3 u i).map zM) false)::U⟩) ?_;(conv=>whnf);refine⟨by(rw[I];rfl),?_,?_⟩
 .intro i hi
  have hy:((PD f3 u i).map zM)[i]? =some (zM (u.getD i dd)):=by
   rw[zAz];unfold PD;rw[vV,f5 hi,Os (zDo i)];rfl
  have e:(PD f3 u (i+1)).map zM=((PD f3 u i).map zM).set i (zM (YH (u.getD i dd) f3)):=by unfold PD;rw[vN _ _ _ _ hi]
  have kb:=xq (W i hi) f3;have bd:=a6 i;rw[e];clear e hr W I;generalize YH (u.getD i dd) f3=d2 at *;generalize u.getD i dd=d1 at *;generalize (PD f3 u i).map zM=X at *;refine zS kb ?_;rfl
 .have ag:(PD f3 u (ln u)).map zM=(eW f3 u z 0).map zM:=by
   congr 1
   unfold eW;apply zB0;intro j;unfold PD;rw[vV,zAz];by_cases hj:j<ln u
   .rw[f5 hj,f5 hj,zCk hj];simp
   .rw[Os hj,zB4 qA];rfl
  rw[ag];refine WW ?_;have ax:min (ln u:Int) (ln c.ags:Int)=(ln u:Int):=by rw[a7];exact zGe _
  rw[a8,a1,ax]
  have az:zj (ln u) z 0=pb (ln u) (.s (.slice none 0 0)):=by
   unfold zj;apply zB0;intro j;rw[zAz,zDb];by_cases hj:j<ln u
   .rw[zCk hj,f5 hj];simp
   .rw[Os hj,zB4 qA];rfl
  have ba:∀i,(zj (ln u) z i).length=ln u:=λi=>by unfold zj;rw[zAr,zB9]
  have bb:∀i,((eW f3 u z i).map zM).length=ln u:=λi=>by unfold eW;rw[zAr,zAr,zB9]
  refine zQ 9 1042 3 Z Z Z ?_;refine zQ 10 1043 1 Z Z Z ?_;refine zO (ln u) [41,1011,1042,1043,2,3,1012,1013,1014] [2,3,1012,1013,1014] [2,3,8,49,57] [9,10,50,2,3,8,49,57] Z (λi T U=>⟨(9,.ref 1042 0 ((XM z i).map kG).length)::(10,.ref 1043 0 ((dD z i).map iA).length)::(50,iA i)::T,(41,.arr 1 (zj (ln u) z i) false)::(1011,.arr 17 ((eW f3 u z i).map zM) false)::(1042,.arr 3 ((XM z i).map kG) true)::(1043,.arr 1 ((dD z i).map iA) true)::U⟩) ?_;(conv=>whnf);refine⟨by(rw[az];rfl),?_,?_⟩
  .intro i hi;have a9:i<ln c.ags:=by omega
   have hy:((eW f3 u z i).map zM)[i]? =some (zM (YH (u.getD i dd) f3)):=by
    rw[zAz];unfold eW;rw[UB _ _ _ _ hi];rfl
   have e1:(eW f3 u z (i+1)).map zM=((eW f3 u z i).map zM).set i (zM (z i).d):=by
    unfold eW;rw[YP _ _ _ _ hi,zCe]
   have e2:zj (ln u) z (i+1)=(zj (ln u) z i).set i (Yx (z i)):=by
    unfold zj;rw[YP _ _ _ _ hi]
   have b9:(zj (ln u) z i)[i]? =some (.s (.slice none 0 0)):=by
    unfold zj;exact UB _ _ _ _ hi
   have bd:=bb i;have bz:=ba i;have b1:=VZ au i;have b4:=UA av i;have bk:=au i;have bu:=av i;have b2:=zA kG (XM z i);have b5:=zA iA (dD z i);have bl:=zA kG (z i).en;have bx:=zA iA (z i).ks;have ks:=pe c i;have G:=hr i hi;have ht:=gk c M i a9;rw[e1,e2,ON,OO,zAy,zAy];clear e1 e2 hr W I az ag;unfold Jj uw at G
   change zN 115 [_,_,_,_] [] (.tup [_,Yx (z i),_,_]) []at G
   generalize YH (u.getD i dd) f3=D1,(z i).d=D2 at *;rw[show Yx (z i)= .sl false ((z i).R.map kY)from Z]at *; generalize (z i).R.map kY=R2,(eW f3 u z i).map zM=X,zj (ln u) z i=Y,(XM z i).map kG=S,(dD z i).map iA=V at *;rw[show zE kG (z i).en= .sl false ((z i).en.map kG)from Z,show zE iA (z i).ks= .sl false ((z i).ks.map iA)from Z]at G;unfold zE at G;unfold zM xD at hy G⊢;unfold Cg at ks ht;unfold wE at ks G;refine zS ks ?_;obtain⟨E,ap⟩:∃E:Nat,qS c.ags i=(E:Int):=⟨(qS c.ags i).toNat,by have:=qD M i zB;omega⟩;obtain⟨N,hN⟩:∃N:Nat,(c.ags.getD i dd).ses=(N:Int):=⟨(c.ags.getD i dd).ses.toNat,by have:=M.at (i:=i) zB;omega⟩;have b0:=qD M i zB;have ac:=M.at (i:=i) zB;have hL:IZ c i=(pi N).map λk=>[jk i k (E+k)]:=by unfold IZ;rw[ap,hN];rfl
   rw[show DC c ins i=DB ins E N by unfold DC;rw[ap,hN];rfl]at G;rw[hN]at ac;have br:=zA uS ins;refine gI 12 0 1041 2 Z Z Z Z Z ?_
   refine qO hF ht Z [2,3,12,41,1011,1012,1013,1014,1041,1042,1043] [2,3,8,9,10,11,12,49,50] Z Z Z Z Z Z Z Z Z (λk ys h=>?_) (λk=>[(2,.box [zE wJ c.js,zE uI c.ags,iA c.per,iA c.cap,iA c.hold,iA c.lock,bA false,iA f3,.ref 1011 0 (ln u),.ref 1012 0 a2,.ref 1013 0 a3,.ref 1014 0 a4,zE vR vw]),(3,.box [zE uS ins]),(12,.box [.ref 1041 0 ((DB ins E k).map uS).length]),(41,.arr 1 Y false),(1011,.arr 17 X false),(1012,.arr 5 A false),(1013,.arr 3 B false),(1014,.arr 1 C false),(1041,.arr 2 ((DB ins E k).map uS) true),(1042,.arr 3 S true),(1043,.arr 1 V true)]) (λ_=>True)
    (T:=[(2,.ptr 2 0 0),(3,.ptr 3 0 0),(8,.ref 41 0 (ln u)),(9,.ref 1042 0 (ln S)),(10,.ref 1043 0 (ln V)),(11,iA i),(12,.ptr 12 0 0),(49,iA (ln u)),(50,iA i)]) Z trivial (λk ys y L W F1 h1 h2=>?_) (λW=>?_)
   .rw[hL,zAz,zBa]at h;obtain⟨x,_,rfl⟩:=h;rfl
   .have hk:k<N:=by
     have:=(zBj.1 L).1;rw[hL,zAr,zB9]at this;exact this
    rw[hL,zAz,zCk hk]at L;obtain rfl:=zD2 L;have b7:((DB ins E k).map uS).length=k:=by unfold DB;rw[zAr,zAr,zB9]
    rw[Fj,zAy];generalize (DB ins E k).map uS=O at *;by_cases hq:E+k<ln ins
    .have bf:=zJ uS ins (E+k) hq;generalize ins.getD (E+k) dd=x at *;rw[show [x].map uS=[.agg [bA x.opn,zE vH x.its]]from Z];unfold uS at bf;refine WW ?_;refine⟨rfl,λF2 g1 g2=>?_⟩;refine WW ?_;exact⟨rfl,trivial⟩
    .rw[show [ins.getD (E+k) dd].map uS=[.agg [bA false,.sl false []]] by rw[zA0,zB4 zB];rfl];refine WW ?_;refine⟨rfl,λF2 g1 g2=>?_⟩
     (repeat' (first|refine jX ?_|apply yW|apply xI|intro hc|(apply zG;first|(apply yH;refine ZU 69 Z Z Z ?_;refine vC tok Z Z ?_))|refine SB ?_|fail))
     exact⟨rfl,trivial⟩
   .rw[show(IZ c i).length=N by rw[hL,zAr,zB9]];generalize DB ins E N=O at*
    show uD _ _ _ _ ⟨_,_⟩ _
    refine wI [2,3,12,41,1011,1012,1013,1014,1042,1043] [2,3,8,9,10,11,12,49,50] Z ?_
    (conv=>whnf)
    simp only[zBd,zAt];clear ks ht hL hN ac;refine zS G ?_;rfl
  .rw[zj,Jg];refine WW ?_;refine zH [1011,1012,1013,1014] Z Z ?_ Z
   show AV.tup [.sl false (py (ln u) (List.map (λk=>Yx (z k)) (pi (ln u)))),.sl false (py ((XM z (ln u)).map kG).length ((XM z (ln u)).map kG)),.sl false (py ((dD z (ln u)).map iA).length ((dD z (ln u)).map iA))]=_
   rw[zA1 (by rw[zAr,zB9];exact zAw _),zAt,zAt];rfl
structure JI (j:Jn) (s:Sg) (v:Sv) (f3:Int):Prop where
 c:CV j s.c
 n:v.en.length=j.ph.length
 e:∀e∈v.en,-1<=e/\e<=f3
 g:0<=v.gr/\v.gr<=60
theorem Vb (g:Cf) (s:Sv) (l:List Cl) (f3:Int) (h:0<=s.gr/\s.gr<=60):0<=(uR g s l f3).gr/\(uR g s l f3).gr<=60:=by
 unfold uR;split
 .grind
 .unfold fM;split
  .exact⟨zC1 _,(by decide:(0:Int)<=60)⟩
  .exact h
theorem R9 {j:Jn} (J:JV j) {s:Sg} {v:Sv} (u:0<=f3) (H:JI j s v f3) (g:Cf) (l:List Cl) (k:Int):JI j (Ca g j s v l k f3).1 (Ca g j s v l k f3).2 f3:=by
 refine⟨Iz J H.c g v l k f3,?_,?_,?_⟩
 .unfold Ca;split
  .exact(SW _ _).trans H.n
  .split
   .exact(SW _ _).trans ((YX ..).trans H.n)
   .dsimp only;unfold gL;split
    all_goals exact(YX ..).trans H.n
 .have hd:=Ol g v l f3 u H.e;unfold Ca;split
  .exact NQ _ _ u H.e
  all_goals grind [Ca,NQ,gL]
 .have hd:=Vb g v l f3 H.g;unfold Ca;split
  .exact⟨zC1 _,(by decide:(0:Int)<=60)⟩
  .split
   .exact⟨zC1 _,(by decide:(0:Int)<=60)⟩
   all_goals grind [Ca,gL]
theorem Ej:∀(l f4:List Lg),kU f4 l=true->∀g∈l,QV g=true
 | [],_,_,g,u=>by cases u
 |x::l,f4,h,g,u=>by
  unfold kU at h;simp only[zA2]at h
  rcases zCf.1 u with rfl|u
  .exact h.1
  .exact Ej l _ h.2.2 g u
def Dj {P:Program} {st:St} {C E G:Nat} {x y z:Operand} {k:IntKind} {m l:Int} (hx:yX (zK st.tm) x= .s (.int k m)) (M:yX (zK st.tm) y= .s (.int k n)) (O:yX (zK st.tm) z= .s (.int k l)):wX P st (.call ⟨.builtin .min, #[x,y,z], #[C,E,G]⟩) (.s (.int k (min (min m n) l))) [] [] []:=
 yZ λR X tm h w β a B A W S u=>by
  obtain⟨d0,o0,y0,Y,U,V⟩:=R;dsimp only at B;subst B;have h1:=vP u A (x:=x) kQ hx;have h2:=vP u A (x:=y) kQ M;have L:=vP u A (x:=z) kQ O;refine⟨.int k (min (min m n) l),?_,.fz _ _ (.s _)⟩;have e1:(if n<m then n else m)=min m n:=by omega
  have I:(if l<min m n then l else min m n)=min (min m n) l:=by omega
  simp[execOp,resolve,invoke,builtin,Builtin.min_,Builtin.min2,h1,h2,L,e1,I]
def DD {P:Program} {st:St} {op:Op} {v:AV} {d:List (Nat×xW)} {r nw:List Nat} (G:wX P st op v d r nw) (E:(xB d).all (r.contains ·)=true) (A:(xB d).map (zD st.h)=(xB d).map (zD d)):wX P st op v [] r nw:=
 ⟨λX I h B hh C=>by
  have h1:=G.run X I h B hh C
  have e:over d h=over [] h:=funext λk=>by
   unfold over
   cases hk:zD d k with
   |none=>rfl
   |some e=>
    have u:=uF hk;obtain⟨i,hi⟩:=zD9 u;have e1:=zBb (·[i]?) A;have z:zD st.h k=zD d k:=by simpa [hi]using e1
    have e3:=hh k (by have:=zA5.1 E k u;simpa using this)
    show some e=h k
    rw[e3,z,hk]
  rwa [e]at h1⟩
theorem Cj {z j:Int} {x:Rq} {c:Cl} (h:c∈OP z j x) (hx:RqO x) (B:0<=f3) (A:∀g∈x.legs,g.sc<=f3):(0<=c.k/\c.k<=3)/\(0<=c.si/\c.si<=f3):=by
 unfold OP at h;split at h
 .cases h
 .split at h
  .cases h
  .rename_i h1;rw[zBl]at h;subst h;dsimp only;refine⟨⟨hx.c0,hx.c1⟩,?_⟩;by_cases hi:(TF (λr:Lg=>r.jn==j) x.legs).toNat<ln x.legs
   .have u:=yK x.legs _ hi;have hl:=hx.lg;unfold AL at hl;rw[zA2]at hl;have:=A _ u;have hv:=Ej _ _ hl.2 _ u
    grind [OP,TF,QV]
   .rw[zA0,zB4 zB]
    show(0:Int)<=0/\(0:Int)<=f3
    omega
def DE {j:Int} {u:List wC} (B:∀d∈u,qB c d) (E:0<=f3) (C:∀d∈u,KN f3 d.rq):∀x∈jJ j u,(0<=x.k/\x.k<=3)/\(0<=x.si/\x.si<=f3):=λx hx=>by
 unfold jJ at hx;obtain⟨y,z,hx⟩:=zEw.1 hx;obtain⟨d,hd,rfl⟩:=zCa.1 z;unfold fH at hx;obtain⟨y,z,hx⟩:=zEw.1 hx;obtain⟨r,A,rfl⟩:=zCa.1 z;exact Cj hx ((B d hd).v.ok r A) E (C d hd r A)
theorem SF (j:Int):∀l:List wC,(∀d∈l,ln d.rq<=4)->(jJ j l).length<=4*ln l
 | [],_=>zAw _
 |d::l,h=>by
  have h1:=dU d.rg.num j d.rq;have h2:=SF j l (λx hx=>h x (by simp[hx]));have u:=h d zV;have e:jJ j (d::l)=fH d.rg.num j d.rq++jJ j l:=rfl;rw[e,zAv,zA6];omega
def ZF (c:Cf) (z:List Sg) (sv:List Sv) (st:List Int) (u:List wC) (f3:Int) (k:Nat):Sg×Sv:=Ca c (c.js.getD k dd) (z.getD k dd) (sv.getD k dd) (jJ (k:Int) u) (st.getD k dd) f3
def YQ (D:Nat->Sg×Sv) (l:List Sg) (i:Nat):List Sg:=aX (λk _=>(D k).1) l i
def YR (D:Nat->Sg×Sv) (l:List Sv) (i:Nat):List Sv:=aX (λk _=>(D k).2) l i
def XU (l:List Int) (i:Nat):List Int:=aX (λ_ _=> -1) l i
def Hg (u:List Jn) (D:Nat->Sg×Sv) (n i:Nat):List AV:=(pi n).map λk=>if k<i then vR (LK (u.getD k dd) (D k).1 (D k).2)else .agg [bA false,bA false,.s (.slice none 0 0),.s (.slice none 0 0)]
def u9 (c:Cf) (f3:Int) (z:List wC) (v:AV) (u:List Sg) (sv:List Sv) (st:List Int):List (Nat×xW):=
 [(2,.box [zE wJ c.js,zE uI c.ags,iA c.per,iA c.cap,iA c.hold,iA c.lock,bA false,iA f3,zE zM z,.ref 1012 0 (u.map vE).length,.ref 1013 0 (sv.map wW).length,.ref 1014 0 (st.map iA).length,v]),(1012,.arr 5 (u.map vE) false),(1013,.arr 3 (sv.map wW) false),(1014,.arr 1 (st.map iA) false)]
theorem Bj (c:Cf) (hv:Qb c) (f3:Int) (n0:0<=f3) (n1:f3<=1000000000) (z:List wC) (a5:ln z<=4) (V:∀d∈z,qB c d) (hs:∀d∈z,KN f3 d.rq) (u:List Sg) (sv:List Sv) (st:List Int) (vw:List Vw)
  (hg:ln u=ln c.js) (M:ln sv=ln c.js) (L:ln st=ln c.js) (hj:∀k,k<ln c.js->JI (c.js.getD k dd) (u.getD k dd) (sv.getD k dd) f3):
  zN 48 [.ptr 2 0 0] (u9 c f3 z (zE vR vw) u sv st) (.tup [])
   (u9 c f3 z (.ref 1015 0 (ln c.js)) (YQ (ZF c u sv st z f3) u (ln c.js)) (YR (ZF c u sv st z f3) sv (ln c.js)) (XU st (ln c.js))++[(1015,.arr 4 (Hg c.js (ZF c u sv st z f3) (ln c.js) (ln c.js)) false)]):=by
 have ag:=zA wJ c.js;have ac:=zA vE u;have au:=zA wW sv;have ap:=zA iA st;have a6:=hv.j;unfold u9;refine eM call48 λF hF=>?_
 (repeat' (first|refine uT ?_|apply yW|apply xI|intro hc|(apply zG;first|(apply zG;refine wM (Dj Z Z Z) Z ?_)|(apply fP;refine bD 1015 tok Z Z Z Z Z Z Z Z Z Z Z Z Z zB zB Z Z Z ?_))|fail))
 rw[ag,ac,au,hg,M,zGe,zGe]
 (repeat' (first|refine uT ?_|apply yW|apply xI|intro hc|(apply zG;first|(apply fP;refine bD 1015 tok Z Z Z Z Z Z Z Z Z Z Z Z Z zB zB Z Z Z ?_))|fail))
 have O:∀D,Hg c.js D (ln c.js) 0=pb (ln c.js) (.agg [bA false,bA false,.s (.slice none 0 0),.s (.slice none 0 0)]):=λD=>by
  unfold Hg;apply zB0;intro j;rw[zAz,zDb];by_cases hj:j<ln c.js
  .rw[zCk hj,f5 hj];simp
  .rw[Os hj,zB4 qA];rfl
 have hC:=SF;have E:∀D,YQ D u 0=u:=λD=>qN _ _
 have I:∀D,YR D sv 0=sv:=λD=>qN _ _
 have G:XU st 0=st:=qN _ _;have A:∀D i,((YQ D u i).map vE).length=ln c.js:=λD i=>by unfold YQ;rw[zAr,wZ,hg]
 have C:∀D i,((YR D sv i).map wW).length=ln c.js:=λD i=>by unfold YR;rw[zAr,wZ,M]
 have B:∀i,((XU st i).map iA).length=ln c.js:=λi=>by unfold XU;rw[zAr,wZ,L]
 have R:∀D i,(Hg c.js D (ln c.js) i).length=ln c.js:=λD i=>by unfold Hg;rw[zAr,zB9]
 rw[ap,L,A,C,B];refine zO (ln c.js) [1012,1013,1014,1015,2] [2] [0,28] [29,0,28] Z (λi T U=>⟨(29,iA i)::T,(1012,.arr 5 ((YQ (ZF c u sv st z f3) u i).map vE) false)::(1013,.arr 3 ((YR (ZF c u sv st z f3) sv i).map wW) false)::(1014,.arr 1 ((XU st i).map iA) false)::(1015,.arr 4 (Hg c.js (ZF c u sv st z f3) (ln c.js) i) false)::U⟩) ?_;(conv=>whnf);refine⟨by(rw[E,I,G,O];rfl),?_,?_⟩
 .intro i hi;have ba:=zJ wJ c.js i hi;have a9:((YQ (ZF c u sv st z f3) u i).map vE)[i]? =some (vE (u.getD i dd)):=by rw[zAz];unfold YQ;rw[vV,f5 zB,Os (zDo i)];rfl
  have bf:((YR (ZF c u sv st z f3) sv i).map wW)[i]? =some (wW (sv.getD i dd)):=by rw[zAz];unfold YR;rw[vV,f5 zB,Os (zDo i)];rfl
  have bb:((XU st i).map iA)[i]? =some (iA (st.getD i dd)):=by rw[zAz];unfold XU;rw[vV,f5 zB,Os (zDo i)];rfl
  have bk:(Hg c.js (ZF c u sv st z f3) (ln c.js) i)[i]? =some (.agg [bA false,bA false,.s (.slice none 0 0),.s (.slice none 0 0)]):=UB _ _ _ _ hi;have eg:(YQ (ZF c u sv st z f3) u (i+1)).map vE=((YQ (ZF c u sv st z f3) u i).map vE).set i (vE (ZF c u sv st z f3 i).1):=by unfold YQ;rw[vN _ _ _ _ zB]
  have ev:(YR (ZF c u sv st z f3) sv (i+1)).map wW=((YR (ZF c u sv st z f3) sv i).map wW).set i (wW (ZF c u sv st z f3 i).2):=by unfold YR;rw[vN _ _ _ _ zB]
  have ek:(XU st (i+1)).map iA=((XU st i).map iA).set i (iA (-1)):=by unfold XU;rw[vN _ _ _ _ zB]
  have ew:Hg c.js (ZF c u sv st z f3) (ln c.js) (i+1)=(Hg c.js (ZF c u sv st z f3) (ln c.js) i).set i (vR (LK (c.js.getD i dd) (ZF c u sv st z f3 i).1 (ZF c u sv st z f3 i).2)):=YP _ _ _ _ hi;have J:=hv.jv _ (yK c.js i hi);have H:=hj i hi;have cl:(jJ (i:Int) z).length<=4*ln z:=hC i z λd hd=>(V d hd).v.n4
  have S:=DE (j:=(i:Int)) V n0 hs;have hp:=hv.p;have a4:=hv.cp;have a3:=J.n;have a2:=H.n;have HD:Rr c (sv.getD i dd) (jJ (i:Int) z) f3:=⟨hp.1,zB,zB,n0,n1,H.e,λx hx=>(S x hx).1,λx hx=>(S x hx).2,zB,zB⟩
  have kd:zN 117 [wE c,wJ (c.js.getD i dd),vE (u.getD i dd),wW (sv.getD i dd),zE kE (jJ (i:Int) z),iA (st.getD i dd),iA f3] [] (.tup [vE (ZF c u sv st z f3 i).1,wW (ZF c u sv st z f3 i).2]) []:=
   Nt c _ J _ H.c _ _ _ f3 HD (by have:=Vb c (sv.getD i dd) (jJ (i:Int) z) f3 H.g;omega)
  have ko:=gz (c.js.getD i dd) J (ZF c u sv st z f3 i).1 (Iz J H.c _ _ _ _ _) (ZF c u sv st z f3 i).2;have kc:=Dg c false f3 z i zB (λd hd=>(V d hd).bd) ((YQ (ZF c u sv st z f3) u i).map vE) ((YR (ZF c u sv st z f3) sv i).map wW) (((XU st i).map iA).set i (iA (-1))) (Hg c.js (ZF c u sv st z f3) (ln c.js) i) (ln c.js) (ln c.js) (ln c.js) (ln c.js);have av:=A (ZF c u sv st z f3) i;have az:=C (ZF c u sv st z f3) i;have ax:=B i;have a1:=R (ZF c u sv st z f3) i;rw[eg,ev,ek,ew];clear eg ev ek ew E I G O HD S hC A C B R hj H J;generalize (YQ (ZF c u sv st z f3) u i).map vE=X,(YR (ZF c u sv st z f3) sv i).map wW=Y,(XU st i).map iA=Z',Hg c.js (ZF c u sv st z f3) (ln c.js) i=W,ZF c u sv st z f3 i=p at *;generalize LK (c.js.getD i dd) p.1 p.2=w at *;generalize jJ (i:Int) z=l,u.getD i dd=s,sv.getD i dd=v,st.getD i dd=k,c.js.getD i dd=j at *;have a7:(X.set i (vE p.1))[i]? =some (vE p.1):=zBs zB;have a8:(Y.set i (wW p.2))[i]? =some (wW p.2):=zBs zB
  (have ga:=kd;have ge:=ko;(repeat' (first|refine uT ?_|apply yW|apply xI|intro hc|(apply zG;first|(refine vG 38 ?_;refine wM (DD (zL kc Z Z Z Z Z) Z Z) Z ?_))|fail))<;>clear ga ge)
  rfl
 ·(refine WW ?_)
  exact uW [2,1012,1013,1014,1015] Z Z Z Z
