/- Part 27. -/
import Derived.Test.YtaglbcjljlkjcaaGreatU26
namespace Go.Proofs.YtaglbcjljlkjcaaGreat.Av
open Tryz
set_option linter.all false
set_option maxRecDepth 4000
set_option maxHeartbeats 8000000
open List renaming length->ln,replicate->pi,range->py,take->p5
open Inhabited renaming default->dd
variable {c:Cf}{k n f4:Int}{ar da:List Int}{l:List Rq}{α:Type}{d:wC}
def IY (f g u:Int) (ar:List Int):Nat->List Int
 |0=>[]
 |i+1=>(if(i:Int)=f/\0<g then IY f g u ar i++jT u else IY f g u ar i)++jT (ar.getD i dd)
def OR (f g u:Int) (ar:List Int) (i:Nat):List Int:=if(i:Int)=f/\0<g then IY f g u ar i++jT u else IY f g u ar i
theorem DD (h:n<128):(jT n).length=1:=by unfold jT;rw[VK h];rfl
theorem S6 (h:n<16384):(jT n).length<=2:=by grind [jT,DD,GT,VK]
theorem IZ (f g u:Int) (ar:List Int):∀i,(IY f g u ar i).length<=10*i
 |0=>zAy _
 |i+1=>by
  have:=IZ f g u ar i;have h1:=gE u;have h2:=gE (ar.getD i dd);unfold IY
  split<;>simp only[zAx]<;>omega
theorem Rs (f g u:Int) (ar:List Int) (i:Nat):(OR f g u ar i).length<=10*i+5:=by grind [OR,IZ,gE,List.length_append]
theorem Lj {f g z:Int} (A:0<=z/\z<=4294967295) (B:RR ar):∀i,i<=ln ar->BY (IY f g z ar i)
 |0,_=>λx u=>by cases u
 | i+1,hi=>by
  have C:=Lj (f:=f) (g:=g) A B i zB;have h1:=EB A.1 A.2;have h2:=B (ar.getD i dd) (yK ar i zB);have E:=EB h2.1 h2.2;unfold IY;intro x u
  rcases zBe.1 u with u|u
  .split at u
   .exact(zBe.1 u).elim (C x) (h1 x)
   .exact C x u
  .exact E x u
theorem uz {f g u:Int} (A:0<=u/\u<=4294967295) (z:RR ar) (i:Nat) (hi:i<=ln ar):BY (OR f g u ar i):=by grind [RR,BY,OR,Lj,EB]
theorem qz (k f g lo hi sd u:Int) (ar da:List Int) (c1:zN 233 [iA k] [] (.tup [XP ⟨0,f,g,lo,hi,sd⟩,bA true]) []) (c2:zN 234 [XP ⟨0,f,g,lo,hi,sd⟩,iA ((ar.map iA).length:Int)] [] (.tup [iA u,bA true]) [])
  (hd:sd= -1\/(ln da:Int)=sd) (ha:RR ar) (av:ln ar<=100) (hg:0<=u/\u<=4294967295) (hz:(OR f g u ar (ln ar)++da).length<=200):
  zN 185 [zX ⟨k,[],ar,da⟩] [] (.tup [zE yA (OR f g u ar (ln ar)++da),iA 0]) []:=by
 have c3:=QE [] zV;have a3:=zA iA ar;have a4:=zA yA da;have cg:=d7 u hg.1 hg.2;have a5:=zA yA (jT u);have a8:=gE u;have Y:=IZ f g u ar;have S:=Rs f g u ar;have L:IY f g u ar 0=[]:=rfl
 have M:∀i:Nat,OR f g u ar i=if(i:Int)=f/\0<g then IY f g u ar i++jT u else IY f g u ar i:=λ_=>rfl
 have O:∀i:Nat,IY f g u ar (i+1)=OR f g u ar i++jT (ar.getD i dd):=λ_=>rfl
 have au:(OR f g u ar (ln ar)).length+ln da<=200:=by rw[zAx]at hz;exact hz
 have hz:((OR f g u ar (ln ar)).map yA++da.map yA).length<=200:=by rw[zAx]at hz;simp;omega
 have a1:ln da<=200:=by omega
 rw[show zE yA (OR f g u ar (ln ar)++da)= .sl false (p5 ((OR f g u ar (ln ar)).map yA++da.map yA).length (List.drop 0 ((OR f g u ar (ln ar)).map yA++da.map yA))) by rw[zBf,zAv];unfold zE;rw[zA0]];rw[show zX ⟨k,[],ar,da⟩= .agg [iA k,zE yA [],zE iA ar,zE yA da]from Z];rw[show XP ⟨0,f,g,lo,hi,sd⟩= .agg [iA 0,iA f,iA g,iA lo,iA hi,iA sd]from Z]at *; generalize OR f g u ar=pg,IY f g u ar=I at *;clear au
 rcases hd with h2|h2
 all_goals
  refine eM call185 λF hF=>?_
  refine yF (qC c1 c2 c3) ?_
 all_goals
  refine vP 1001 Z ?_;refine yU (ln ar+1) [1001,1,4] [1,4] [1,4,6,64] [7,65,1,4,6,64] Z (λi T U zs=>(i<=ln ar)/\zs=⟨(7,.ref 1001 0 ((I i).map yA).length)::(65,iA i)::T,(1001,.arr 1 ((I i).map yA) true)::U⟩) (Lp ?_ ?_ ?_)
  .refine⟨zBb _,?_⟩;rw[L];rfl
  .rintro i st' hi ⟨hik,rfl⟩;have az:=Y i;have ax:=S i;have hg:=M i;have a6:=zA yA (I i);have a2:=zA yA (pg i)
   have z:(pg i).map yA=if(i:Int)=f/\0<g then(I i).map yA++(jT u).map yA else(I i).map yA:=by
    rw[hg];split
    .rw[zA0]
    .rfl
   by_cases ap:i=ln ar
   .subst ap;clear O hg Y S M L c1 c2 c3;generalize (I (ln ar)).map yA=A at *;generalize (pg (ln ar)).map yA=B at *;generalize jT u=W at *;by_cases C:(ln ar:Int)=f
    .by_cases G:0<g
     .rw[zAs ⟨C,G⟩]at z;subst z;exact nl cg
     .rw[Os (λh=>G h.2)]at z;subst z;exact mx
    .rw[Os (λh=>C h.1)]at z;subst z;exact mx
   have ag:=ha (ar.getD i dd) (yK ar i zB);have cv:=d7 (ar.getD i dd) ag.1 ag.2;have hy:=zJ iA ar i zB;have hS:=O i;have a7:=zA yA (jT (ar.getD i dd));have a9:=gE (ar.getD i dd);have ac:(I (i+1)).map yA=(pg i).map yA++(jT (ar.getD i dd)).map yA:=by rw[hS,zA0]
   rw[ac];clear hS hg Y S M O L ac c1 c2 c3 hz ha;generalize (pg (ln ar)).map yA=E,(I i).map yA=A,(pg i).map yA=B,jT (ar.getD i dd)=V at *;generalize ar.getD i dd=a at *;generalize jT u=W at *;by_cases C:(i:Int)=f
   .by_cases G:0<g
    .rw[zAs ⟨C,G⟩]at z;subst z;refine yF (xQ cg cv) ?_;exact⟨zB,rfl⟩
    .rw[Os (λh=>G h.2)]at z;subst z;refine zS cv ?_;exact⟨zB,rfl⟩
   .rw[Os (λh=>C h.1)]at z;subst z;refine zS cv ?_;exact⟨zB,rfl⟩
  .rintro st' ⟨hik,rfl⟩;exfalso;omega
def jR (k:Int):Int×Int×Int×Int×Int:=if k=16 then(1,0,0,0,10)else if k=17\/k=21 then(1,0,0,0,-1)else if k=18 then(1,3,0,16,0)else if k=19 then(0,2,0,4,0)else if k=20 then(4,0,0,0,0)else(2,0,0,0,0)
def Qs (k:Int) (h:13<=k/\k<=21):zN 233 [iA k] [] (.tup [XP ⟨0,(jR k).1,(jR k).2.1,(jR k).2.2.1,(jR k).2.2.2.1,(jR k).2.2.2.2⟩,bA true]) []:=by
 have:k=13\/k=14\/k=15\/k=16\/k=17\/k=18\/k=19\/k=20\/k=21:=by omega
 rcases this with rfl|rfl|rfl|rfl|rfl|rfl|rfl|rfl|rfl
 all_goals
  refine eM call233 λF hF=>?_
  exact mx
def Kj (f g lo hi A n u:Int) (O:0<=n/\n<=100) (M:0<=f/\f<=4) (h:(g=0/\n=f/\u=0)\/((g=2\/g=3)/\n=f+g*u/\0<=u/\lo<=u/\u<=hi)):zN 234 [XP ⟨0,f,g,lo,hi,A⟩,iA n] [] (.tup [iA u,bA true]) []:=by
 rw[show XP ⟨0,f,g,lo,hi,A⟩= .agg [iA 0,iA f,iA g,iA lo,iA hi,iA A]from Z]
 rcases h with⟨rfl,rfl,rfl⟩|⟨rfl|rfl,B,L,h1,h2⟩
 ·(refine eM call234 λF hF=>?_)
  exact mx
 .have z:u=(n-f).tdiv 2:=by
   rw[zCw zB];omega
  have G:(n-f).tmod 2=0:=by
   rw[zB3 zB];omega
  have I:aD .i64 ((n-f).tdiv 2):=by
   unfold aD;have e1:IntKind.i64.min= -9223372036854775808:=by decide
   have C:IntKind.i64.max=9223372036854775807:=by decide
   omega
  have E:¬n-f<0:=by omega
  subst z;clear B;refine eM call234 λF hF=>?_
  exact mx
 .have z:u=(n-f).tdiv 3:=by
   rw[zCw zB];omega
  have G:(n-f).tmod 3=0:=by
   rw[zB3 zB];omega
  have I:aD .i64 ((n-f).tdiv 3):=by
   unfold aD;have e1:IntKind.i64.min= -9223372036854775808:=by decide
   have C:IntKind.i64.max=9223372036854775807:=by decide
   omega
  have E:¬n-f<0:=by omega
  subst z;clear B;refine eM call234 λF hF=>?_
  exact mx
structure J5 (k:Int) (ar da:List Int):Prop where
 kk:13<=k/\k<=21
 n:RR ar
 l:ar.length<=60
 b:BY da
 d:(jR k).2.2.2.2= -1\/(da.length:Int)=(jR k).2.2.2.2
 g:((jR k).2.1=0/\(ar.length:Int)=(jR k).1)\/(((jR k).2.1=2\/(jR k).2.1=3)/\∃gr:Int,(ar.length:Int)=(jR k).1+(jR k).2.1*gr/\0<=gr/\(jR k).2.2.1<=gr/\gr<=(jR k).2.2.2.1)
 z:(((ar.map jT).flatten).length+1)+da.length<=200
theorem be (f g z:Int) (u:z<128) (ar:List Int):∀i,i<=ln ar->(IY f g z ar i).length<=(((ar.take i).map jT).flatten).length+(if f<i then 1 else 0)
 |0,_=>by simp[IY]
 | i+1,hi=>by
  have A:=be f g z u ar i zB;have h1:=DD u
  have e:ar.take (i+1)=ar.take i++[ar.getD i dd]:=by
   rw[zA5,zBq zB,zDn,zDl zB]
  rw[e,zA0,zEe];unfold IY;simp only[zAx,zCc,zCm,zDq,List.flatten_nil,zBo,zBz];split
  .rename_i h2;rw[zAx,h1,zAs zB];rw[Os zB]at A;omega
  .by_cases B:f<i
   .rw[zAs B]at A;rw[zAs zB];omega
   .rw[Os B]at A
    split<;>omega
theorem Ps (f g u:Int) (z:u<128) (ar:List Int):(OR f g u ar (ln ar)).length<=((ar.map jT).flatten).length+1:=by
 have A:=be f g u z ar (ln ar) (zAy _)
 grind [OR,jT,DD,List.take_length,List.length_append]
theorem Ns (f g u:Int) (ar:List Int) (h:ar≠[]):1<=(OR f g u ar (ln ar)).length:=by
 have h1:0<ln ar:=List.length_pos_iff.2 h;obtain⟨n,z⟩:∃n,ln ar=n+1:=⟨ln ar-1,zB⟩
 grind [OR,IY,List.length_append,gE]
def V9 (k:Int) (ar da p:List Int):Prop:=∃u:Int,(0<=u/\u<=100)/\(((jR k).2.1=0/\(ln ar:Int)=(jR k).1/\u=0)\/(((jR k).2.1=2\/(jR k).2.1=3)/\(ln ar:Int)=(jR k).1+(jR k).2.1*u/\0<=u/\(jR k).2.2.1<=u/\u<=(jR k).2.2.2.1))/\p=OR (jR k).1 (jR k).2.1 u ar (ln ar)++da
def Jj (h:J5 k ar da):∃p,(BY p/\V9 k ar da p)/\(ln p<=200/\(ar≠[]->1<=ln p))/\zN 185 [zX ⟨k,[],ar,da⟩] [] (.tup [zE yA p,iA 0]) []:=by
 have hl:=zA iA ar
 have E:(0<=(jR k).1/\(jR k).1<=4)/\(jR k).2.2.2.1<=16:=by
  have hk:=h.kk;have:k=13\/k=14\/k=15\/k=16\/k=17\/k=18\/k=19\/k=20\/k=21:=by omega
  clear hk h
  rcases this with rfl|rfl|rfl|rfl|rfl|rfl|rfl|rfl|rfl<;>decide
 obtain⟨E,hh⟩:=E
 obtain⟨u,G,U,A⟩:∃u:Int,(0<=u/\u<=100)/\True/\(((jR k).2.1=0/\((ar.map iA).length:Int)=(jR k).1/\u=0)\/(((jR k).2.1=2\/(jR k).2.1=3)/\((ar.map iA).length:Int)=(jR k).1+(jR k).2.1*u/\0<=u/\(jR k).2.2.1<=u/\u<=(jR k).2.2.2.1)):=by
  rw[hl]
  rcases h.g with⟨B,C⟩|⟨B,u,C,L,M,O⟩
  .exact⟨0,zB,trivial,.inl ⟨B,C,rfl⟩⟩
  .exact⟨u,zB,trivial,.inr ⟨B,C,L,M,O⟩⟩
 have I:=Kj _ _ (jR k).2.2.1 (jR k).2.2.2.1 (jR k).2.2.2.2 ((ar.map iA).length:Int) u (by have:=h.l;omega) E A;have W:=Ps (jR k).1 (jR k).2.1 u zB ar;have Y:=h.z;refine⟨OR (jR k).1 (jR k).2.1 u ar (ln ar)++da,⟨?_,u,G,by rw[hl]at A;exact A,rfl⟩,?_,qz k _ _ _ _ _ u ar da (Qs k h.kk) I h.d h.n (by have:=h.l;omega) zB (by rw[zAx];omega)⟩
 .intro x V;exact(zBe.1 V).elim (uz zB h.n (ln ar) (zAy _) x) (h.b x)
 .refine⟨by rw[zAx];omega,λS=>?_⟩;have:=Ns (jR k).1 (jR k).2.1 u ar S;rw[zAx];omega
def kz (h:J5 k ar da):zN 123 [zX ⟨k,[],ar,da⟩] [] (bA true) []:=by
 obtain⟨p,_,_,c⟩:=Jj h;rw[show zX ⟨k,[],ar,da⟩= .agg [iA k,zE yA [],zE iA ar,zE yA da]from Z]at *; refine eM call123 λF hF=>?_
 exact nl c
def ZE (h:J5 k ar da):∃p,(BY p/\V9 k ar da p)/\(ln p<=200/\(ar≠[]->1<=ln p))/\JC [zX ⟨k,[],ar,da⟩] [] (.tup [zE yA (Tb k p),iA 0]) []:=by
 obtain⟨p,h1,⟨h2,u⟩,c⟩:=Jj h;have hk:=h.kk;have z:=pz k p zB zB h1.1 h2;refine⟨p,h1,⟨h2,u⟩,?_⟩;generalize Tb k p=q at *;rw[show zX ⟨k,[],ar,da⟩= .agg [iA k,zE yA [],zE iA ar,zE yA da]from Z]at *; exact Zk
section
def YP (m:Ms):Prop:=m.tok=[]/\J5 m.kind m.args m.data
structure Ls (i:It):Prop where
 y:BY i.pay
 n:i.pay.length<=100000
 k:0<=i.kind/\i.kind<=255
 c:0<=i.code/\i.code<=100
def Ja (i:In):Prop:=ln i.its<=1000/\∀x∈i.its,Ls x
theorem Ja.b {i:In} (h:Ja i):Sy i:=⟨h.1,λx u=>⟨(h.2 x u).y,(h.2 x u).n⟩⟩
structure Ij (e:En):Prop where
 a:0<=e.ag/\e.ag<4
 k:0<=e.ki/\e.ki<=255
 c:0<=e.co/\e.co<=100
theorem dP (l:List Int):((l.map jT).flatten).length<=5*ln l:=by
 induction l with
 |nil=>simp
 |cons a l u=>
  grind [jT,gE,List.flatten_cons,List.length_append,List.length_cons]
theorem U9 (k a b:Int) (hk:k=13\/k=14\/k=15) (u:0<=a/\a<=4294967295) (hb:0<=b/\b<=4294967295):YP ⟨k,[],[a,b],[]⟩:=by
 have h:=dP [a,b];refine⟨rfl,?_⟩;dsimp only
 have A:jR k=(2,0,0,0,0):=by rcases hk with rfl|rfl|rfl<;>rfl
 refine⟨zB,.cons u (.cons hb .nil),by simp,λx z=>(by cases z),?_,?_,by simp only[zA8,zBz]at *; omega⟩
 all_goals grind
theorem jz (z:qD c d):RR (gC d.rq):=by
 have A:=z.v.ok;generalize d.rq=l at *;intro x u;unfold gC at u;obtain⟨y,C,u⟩:=zEy.1 u;obtain⟨r,B,rfl⟩:=zCb.1 C;have h:=A r B;have E:=h.i0;have h1:=h.i1;have h2:=h.t0;have G:=h.t1
 grind
theorem T9 (u:qD c d) {s:Int} (n0:0<=f4) (n1:f4<=1073741824) {i:It} (A:Ls i) {h:Hd} (B:My c d s i f4 h):YP h.p:=by
 have Y:=u.n;by_cases E:h.e=0
 .obtain⟨a,_,M⟩:=B.yes E
  rcases M with⟨_,e,_⟩|⟨_,e,_⟩|⟨_,e,_⟩|⟨_,k,C,hk,⟨hs,O⟩,e⟩|⟨_,x,S,U,e⟩
  .rw[e];exact U9 13 _ _ (.inl Z) zB zB
  .have V:=u.v.n4;have hb:=jz u;have hl:=XH d.rq;have G:=dP (gC d.rq);rw[e];refine⟨rfl,by dsimp only[QF];omega,hb,by dsimp only[QF];omega,λx z=>(by cases z),.inr Z,.inr ⟨.inl Z,(ln d.rq:Int),?_,zB,by show(0:Int)<=_;omega,by show _<=(4:Int);omega⟩,?_⟩
   .show((gC d.rq).length:Int)=0+2*(ln d.rq:Int)
    omega
   .show(((gC d.rq).map jT).flatten).length+1+0<=200
    omega
  .have I:=u.t8;have hv:=u.vh;have hq:=u.q;have W:=u.a.q;have hl:=u.bl;have hb:=u.a.b;have L:RO d.rg.tk<=8:=by rw[<-I];exact zCj _ _
   rw[e];have G:=dP (aA d).args;refine⟨rfl,by dsimp only[aA];omega,.cons zB (.cons zB (.cons zB (.cons zB .nil))),by simp[aA],λx z=>(by cases z),.inr Z,.inl ⟨rfl,rfl⟩,?_⟩
   grind [YP,aA,jT]
  .rw[e];have G:=dP [(k:Int)];refine⟨rfl,by dsimp only;omega,.cons zB .nil,by simp,?_,.inr ?_,.inl ⟨rfl,rfl⟩,?_⟩
   .intro x z;simp only[zCh]at z
    rcases z with rfl|rfl|z
    .omega
    .omega
    .exact O x z
   .show((d.rg.num::(k:Int)::C).length:Int)=10
    grind
   all_goals grind
  .rw[e];exact U9 14 _ _ (.inr (.inl Z)) (by have:=A.k;omega) ⟨S,U⟩
 .have hb:=B.eb A.c;rw[(B.no E).2.1];exact U9 15 _ _ (.inr (.inr Z)) (by have:=A.k;omega) zB
def S9 {s:Int} {i:It} {h:Hd} (z:My c d s i f4 h):h.p.kind≠17:=by
 by_cases A:h.e=0
 .obtain⟨a,_,B⟩:=z.yes A
  rcases B with⟨_,e,_⟩|⟨_,e,_⟩|⟨_,e,_⟩|⟨_,k,C,hk,⟨E,G⟩,e⟩|⟨_,x,I,L,e⟩
  all_goals (rw[e];intro u;revert u;first|decide|(intro u;cases u))
 .obtain⟨_,e,_⟩:=z.no A;rw[e];intro u;cases u
def KV (f4:Int) (l:List Rq):Prop:=∀r∈l,∀g∈r.legs,g.sc<=f4
theorem KV.mono {a b:Int} (h:KV a l) (u:a<=b):KV b l:=λr A g z=>Int.le_trans (h r A g z) u
theorem KV.of (C:0<=f4) {u:List Rq} (h:KV f4 l) (B:WK l u):KV f4 u:=λr A g z=>by
 rcases B r A g z with h1|⟨r0,h1,_,g0,h2,_,_,h3⟩
 .omega
 .rw[<-h3];exact h r0 h1 g0 h2
theorem KV.mk (G:0<=f4) (h:KV f4 l):KV f4 (EQ l f4):=λr B g A=>by
 unfold EQ at B;obtain⟨E,z,rfl⟩:=zCb.1 B;unfold mkR at A;obtain⟨C,u,rfl⟩:=zCb.1 A;unfold fB;have:=h E z C u;split
 .split
  .exact zC3 _
  .exact this
 .show(-1:Int)<=f4
  omega
theorem Hj {s:Nat} (M:0<=f4) (O:f4<=1073741824) {u:List It} (I:∀x∈u,Ls x) {f:Nat->TS} (z:∀e∈(f 0).en,Ij e) (E:(f 0).rs=[])
 (L:∀k,k<ln u->v8 c (s:Int) f4 (u.getD k dd) (f k) (f (k+1))) (hd:∀k,ES c d (f k).d):∀k,k<=ln u->(∀m∈(f k).rs,YP m/\m.kind≠17)/\(∀e∈(f k).en,Ij e)/\(∀j:Nat,j≠s->(f k).d.au[j]? =(f 0).d.au[j]?)/\WK (f 0).d.rq (f k).d.rq
 |0,_=>⟨λm A=>(by rw[E]at A;cases A),z,λ_ _=>rfl,WK.refl _⟩
 | k+1,hk=>by
  obtain⟨U,V,W,Y⟩:=Hj M O I z E L hd k zB;obtain⟨h,_,C,hb⟩:=L k zB;have G:=(hd k).i;have B:=I _ (yK u k zB);have S:=G.n;rw[hb];refine⟨λm A=>?_,λe z=>?_,λj hj=>?_,Y.trans C.sc⟩
  .rcases zBe.1 A with A|A
   .exact U m A
   .rw[zBm.1 A];exact⟨T9 G M O B C,S9 C⟩
  .rcases zBe.1 z with z|z
   .exact V e z
   .rw[zBm.1 z];exact⟨S,B.k,C.eb B.c⟩
  .dsimp only;rw[C.ax j zB,W j hj]
structure DR where
 d:wC
 R:List (List Ms)
 en:List En
 ks:List Int
def Gj (r:DR):AV:=qw r.d r.R r.en r.ks
structure w9 (c:Cf) (f4:Int) (d:wC) (ins:List In) (r:DR):Prop where
 i:qD c r.d
 ag:r.d.rg.ag=d.rg.ag
 num:r.d.rg.num=d.rg.num
 rn:r.R.length=d.au.length
 rl:∀s,s<d.au.length->(r.R.getD s []).length=(dF ins s).length
 rv:∀l∈r.R,l.length<=1000/\∀m∈l,YP m
 rk:∀l∈r.R,∀m∈l,m.kind≠17
 el:r.en.length<=2000
 en:∀e∈r.en,Ij e
 kl:r.ks.length<=2000
 ks:∀x∈r.ks,0<=x/\x<(c.js.length:Int)
 sc:KV f4 d.rq->KV f4 r.d.rq
 au:∀s,s<d.au.length->dF ins s=[]->r.d.au[s]? =some (QH ins s (d.au.getD s default))
 na:O2 d.rg.tk->O2 r.d.rg.tk/\r.d.au=Oi ins d.au
theorem R6 {u:List In} (h:∀i∈u,Ja i) (s:Nat):∀x∈dF u s,Ls x:=by grind [Ja,dF,yK]
theorem Fj (S:0<=f4) (U:f4<=1073741824) {u:List In} (A:∀i∈u,Ja i) {d:wC} {z:Nat->SS} (I:z 0=⟨d,[],[],[]⟩) (L:∀s,ES c d (z s).d/\xw c f4 u s (z s) (z (s+1))):
  ∀s,(z s).R.length=s/\(∀j,j<s->((z s).R.getD j []).length=(dF u j).length)/\(∀l∈(z s).R,ln l<=1000/\∀m∈l,YP m/\m.kind≠17)/\(∀e∈(z s).en,Ij e)/\(∀j,(s<=j\/dF u j=[])->(z s).d.au[j]? =d.au[j]?)/\WK d.rq (z s).d.rq
 |0=>by rw[I];exact⟨rfl,λj hj=>absurd hj (zCp _),λl hl=>(by cases hl),λe C=>(by cases C),λ_ _=>rfl,WK.refl _⟩
 | s+1=>by
  obtain⟨M,i1,i2,i3,O,i5⟩:=Fj S U A I L s;obtain⟨f,B,W,G,Y⟩:=(L s).2;have ac:=(IS (λi hi=>(A i hi).b) s).1;obtain⟨r1,r2,r3,V⟩:=Hj S U (R6 A s) (d:=(z s).d) (f:=f) (by rw[B];exact i3) (by rw[B]) W (λk=>(G k).1) _ (zAy _);rw[Y];dsimp only;have E:=(G (dF u s).length).2.1;refine⟨by rw[zAx,zCx,M],λj hj=>?_,λl hl=>?_,r2,λj hj=>?_,i5.trans (by rw[B]at V;exact V)⟩
  .rw[zA5];by_cases h:j=s
   .subst h;rw[zBy zB,M,zDx];exact E
   .rw[zBw zB,<-zA5];exact i1 j zB
  .rcases zBe.1 hl with hl|hl
   .exact i2 l hl
   .rw[zBm.1 hl];exact⟨zB,r1⟩
  .by_cases h:j=s
   .subst h;have C:dF u j=[]:=hj.elim (λh=>absurd h zB) id;rw[C,zBz,B];exact O j (.inl (zAy _))
   .rw[r3 j h,B];exact O j (hj.imp (λh=>by omega) id)
theorem Ej (m:List In) (k s:Nat):(m++pi k dd).getD s dd=m.getD s dd:=by grind
theorem Js (m:List In) (k s:Nat):dF (m++pi k dd) s=dF m s:=by
 unfold dF;rw[Ej];by_cases h:s<ln m
 .simp[h,show s<ln m+k by omega]
 .rw[show m.getD s dd=dd by grind,Os (λh=>by cases h.2),Os (λh=>by cases h.2)]
theorem Is (m:List In) (k:Nat) (l:List Bool):Oi (m++pi k dd) l=Oi m l:=by
 unfold Oi
 congr 1
 funext s b
 unfold QH;rw[Ej];by_cases h:s<ln m
 .simp[h,show s<ln m+k by omega]
 .rw[show m.getD s dd=dd by grind,Os (λh=>by cases h.2),Os (λh=>by cases h.2)]
def Hs (m:List In) (k:Nat) (d:wC):mq d (m++pi k dd)=mq d m:=by
 unfold mq;rw[Is]
def Gs (c:Cf) (f4:Int) (m:List In) (k s:Nat) (a b:SS):xw c f4 (m++pi k dd) s a b=xw c f4 m s a b:=by
 unfold xw;rw[Js]
def Dj (c:Cf) (d:wC) (G:qD c d) (u:List In) (V:ln u=ln d.au) (L:∀i∈u,Ja i) (f4:Int) (C:0<=f4) (I:f4<=1073741824):
  ∃r:DR,w9 c f4 d u r/\zN 115 [wH c,zM d,zE uZ u,iA f4] [] (Gj r) []/\∀m k,u=m++pi k dd->zN 56 [wH c,zM d,zE uZ m,iA f4] [] (Gj r) []:=by
 have A:∀i∈u,Sy i:=λi hi=>(L i hi).b
 have U:ln d.au=1\/d.au.length=2:=by have:=G.au;have:=G.a.e;omega
 obtain⟨z,S,E⟩:=ww c f4 C I u A (mq d u) (k8 G u);have B:=Fj C I L S (λs=>⟨(E s).1,(E s).2.2⟩) (ln d.au);obtain⟨hT,⟨_,e2,e3,Y⟩,_⟩:=E (ln d.au);refine⟨⟨uw (z (ln d.au)).d f4,(z (ln d.au)).R,(z (ln d.au)).en,(z (ln d.au)).ks⟩,⟨j8 hT.i f4 C I,hT.a,hT.n,B.1,B.2.1,λl h=>⟨(B.2.2.1 l h).1,λm W=>((B.2.2.1 l h).2 m W).1⟩,λl h m W=>((B.2.2.1 l h).2 m W).2,by dsimp only;omega,B.2.2.2.1,by dsimp only;omega,Y,λh9=>KV.mk C (KV.of C h9 B.2.2.2.2.2),λs O he=>?_,hT.t⟩,?_,λm k e=>?_⟩
 .show(z (ln d.au)).d.au[s]? =_
  rw[B.2.2.2.2.1 s (.inr he)]
  show(Oi u d.au)[s]? =_
  unfold Oi;rw[vS,zAs O,zAs O]
 .show zN 115 [wH c,zM d,zE uZ u,iA f4] [] (qw (uw (z (ln d.au)).d f4) (z (ln d.au)).R (z (ln d.au)).en (z (ln d.au)).ks) []
  rcases U with M|M
  .rw[M];exact Ti G u zB A f4 C I z S M zB E
  .rw[M];exact Si G u zB A f4 C I z S M zB E
 .subst e;simp only[Hs,Gs]at S E;exact kw G m (by rw[zAx]at V;omega) (λi hi=>A i XZ) f4 C I z S E
open Classical in
noncomputable def ZF (c:Cf) (d:wC) (u:List In) (f4:Int):DR:=if h:∃r:DR,w9 c f4 d u r/\zN 115 [wH c,zM d,zE uZ u,iA f4] [] (Gj r) []/\∀m k,u=m++pi k dd->zN 56 [wH c,zM d,zE uZ m,iA f4] [] (Gj r) []then h.choose else⟨dd,[],[],[]⟩
def Jg (c:Cf) (d:wC) (B:qD c d) (u:List In) (z:ln u=ln d.au) (A:∀i∈u,Ja i) (f4:Int) (C:0<=f4) (E:f4<=1073741824):
  w9 c f4 d u (ZF c d u f4)/\zN 115 [wH c,zM d,zE uZ u,iA f4] [] (Gj (ZF c d u f4)) []/\∀m k,u=m++pi k dd->zN 56 [wH c,zM d,zE uZ m,iA f4] [] (Gj (ZF c d u f4)) []:=by
 have h:=Dj c d B u z A f4 C E;unfold ZF;rw[zF3 h];exact h.choose_spec
theorem bH (c:Cf) (d:wC) (u:List In) (f4:Int):(ZF c d u f4).en.length<=2000/\(ZF c d u f4).ks.length<=2000:=by
 unfold ZF;split
 .rename_i h;have:=h.choose_spec.1;exact⟨this.el,this.kl⟩
 all_goals grind
end
def Wb (u:List In) (b k:Nat):List In:=(py k).map λj=>u.getD (b+j) dd
def Cj (u:List In) (b k:Nat):Wb u b (k+1)=Wb u b k++[u.getD (b+k) dd]:=by simp[Wb,zCt]
def wj (c:Cf) (u:List In) (a:Nat):List In:=Wb u (jJ c.ags a).toNat (c.ags.getD a dd).ses.toNat
def Yx (r:DR):AV:=zE jI r.R
def PF (f4:Int) (u:List wC) (i:Nat):List wC:=aZ (λ_ d=>XT d f4) u i
def eK (f4:Int) (u:List wC) (z:Nat->DR) (i:Nat):List wC:=(py (ln u)).map λk=>if k<i then(z k).d else XT (u.getD k dd) f4
def vj (n:Nat) (u:Nat->DR) (i:Nat):List AV:=(py n).map λk=>if k<i then Yx (u k)else .s (.slice none 0 0)
def XV (u:Nat->DR) (i:Nat):List En:=((py i).map λk=>(u k).en).flatten
def eO (u:Nat->DR) (i:Nat):List Int:=((py i).map λk=>(u k).ks).flatten
def OS (u:Nat->DR) (i:Nat):XV u (i+1)=XV u i++(u i).en:=by simp[XV,zCt]
def OT (u:Nat->DR) (i:Nat):eO u (i+1)=eO u i++(u i).ks:=by simp[eO,zCt]
theorem UA {u:Nat->DR} (h:∀i,(u i).en.length<=2000):∀i,(XV u i).length<=2000*i
 |0=>zBb _
 |i+1=>by
  have:=UA h i;have:=h i;rw[OS,zAx];omega
theorem UB {u:Nat->DR} (h:∀i,(u i).ks.length<=2000):∀i,(eO u i).length<=2000*i
 |0=>zBb _
 |i+1=>by
  have:=UB h i;have:=h i;rw[OT,zAx];omega
theorem YQ (n i:Nat) (f g:Nat->α) (hi:i<n):((py n).map λk=>if k<i+1 then f k else g k)=((py n).map λk=>if k<i then f k else g k).set i (f i):=by apply zB2<;>grind [List.length_map,List.length_range,List.getElem?_range,List.getElem?_eq_none]
theorem UC (n i:Nat) (f g:Nat->α) (hi:i<n):((py n).map λk=>if k<i then f k else g k)[i]? =some (g i):=by grind
theorem Ig (n:Nat) (f g:Nat->α):((py n).map λk=>if k<n then f k else g k)=(py n).map f:=by grind [List.map_congr_left]
theorem OU {l:List Ag} (h:LX l) {i j:Nat} (u:i<=j) (hj:j<=ln l):jJ l i<=jJ l j:=by
 induction j with
 |zero=>rw[show i=0 by omega];exact zC3 _
 |succ j z=>
  grind [LX,jJ]
theorem Hg (c:Cf) (S:LX c.ags) (f4:Int) (n0:0<=f4) (n1:f4<=1073741824) (u:List wC) (a7:ln u=ln c.ags) (hI:∀i,i<ln u->qD c (u.getD i dd)) (E:List In) (b3:(ln E:Int)<=jJ c.ags (ln c.ags))
  (z:Nat->DR) (au:∀i,(z i).en.length<=2000) (av:∀i,(z i).ks.length<=2000) (hr:∀i,i<ln u->zN 115 [wH c,zM (XT (u.getD i dd) f4),zE uZ (wj c E i),iA f4] [] (Gj (z i)) [])
  (A B C:List AV) (a2 a3 a4:Nat) (vw:List Vw):
  zN 46 [aF c false f4 (.ref 1011 0 (u.map zM).length) (.ref 1012 0 a2) (.ref 1013 0 a3) (.ref 1014 0 a4) (zE vG vw),zE uZ E] [(1011,.arr 17 (u.map zM) false),(1012,.arr 5 A false),(1013,.arr 3 B false),(1014,.arr 1 C false)]
   (.tup [.sl false ((py (ln u)).map λk=>Yx (z k)),zE kF (XV z (ln u)),zE iA (eO z (ln u))]) [(1011,.arr 17 ((eK f4 u z (ln u)).map zM) false),(1012,.arr 5 A false),(1013,.arr 3 B false),(1014,.arr 1 C false)]:=by
 have a8:=zA zM u;have a1:=zA uF c.ags;have b6:=S.1;have a5:∀i,(PF f4 u i).length=ln u:=λi=>wT _ _ _
 have a6:∀i,((PF f4 u i).map zM).length=ln u:=λi=>by rw[zAt,a5]
 have L:PF f4 u 0=u:=qM _ _;unfold aF;refine eM call46 λF hF=>?_
 refine WW ?_;refine zO (ln u) [1011,2,3,1012,1013,1014] [2,3,1012,1013,1014] [2,3,21,57] [22,2,3,21,57] Z (λi T U=>⟨(22,iA i)::T,(1011,.arr 17 ((PF f4 u i).map zM) false)::U⟩) ?_;(conv=>whnf);refine⟨by(rw[L];rfl),?_,?_⟩
 .intro i hi
  have hy:((PF f4 u i).map zM)[i]? =some (zM (u.getD i dd)):=by
   rw[zA1];unfold PF;rw[vS,zAs hi,Os (zDp i)];rfl
  have e:(PF f4 u (i+1)).map zM=((PF f4 u i).map zM).set i (zM (XT (u.getD i dd) f4)):=by unfold PF;rw[vN _ _ _ _ hi]
  have kb:=qq (hI i hi) f4;have bd:=a6 i;rw[e];clear e hr hI L;generalize XT (u.getD i dd) f4=d2 at *;generalize u.getD i dd=d1 at *;generalize (PF f4 u i).map zM=X at *;refine zS kb ?_;rfl
 .have ag:(PF f4 u (ln u)).map zM=(eK f4 u z 0).map zM:=by
   congr 1
   unfold eK;apply zB2;intro j;unfold PF;rw[vS,zA1];by_cases hj:j<ln u
   .rw[zAs hj,zAs hj,zCn hj];simp
   .rw[Os hj,zB6 qB];rfl
  rw[ag];refine WW ?_;have ax:min (ln u:Int) (ln c.ags:Int)=(ln u:Int):=by rw[a7];exact zGg _
  rw[a8,a1,ax]
  have az:vj (ln u) z 0=pi (ln u) (.s (.slice none 0 0)):=by
   unfold vj;apply zB2;intro j;rw[zA1,zC9];by_cases hj:j<ln u
   .rw[zCn hj,zAs hj];simp
   .rw[Os hj,zB6 qB];rfl
  have ba:∀i,(vj (ln u) z i).length=ln u:=λi=>by unfold vj;rw[zAt,zCd]
  have bb:∀i,((eK f4 u z i).map zM).length=ln u:=λi=>by unfold eK;rw[zAt,zAt,zCd]
  refine zQ 9 1042 3 Z Z Z ?_;refine zQ 10 1043 1 Z Z Z ?_;refine zO (ln u) [41,1011,1042,1043,2,3,1012,1013,1014] [2,3,1012,1013,1014] [2,3,8,49,57] [9,10,50,2,3,8,49,57] Z (λi T U=>⟨(9,.ref 1042 0 ((XV z i).map kF).length)::(10,.ref 1043 0 ((eO z i).map iA).length)::(50,iA i)::T,(41,.arr 1 (vj (ln u) z i) false)::(1011,.arr 17 ((eK f4 u z i).map zM) false)::(1042,.arr 3 ((XV z i).map kF) true)::(1043,.arr 1 ((eO z i).map iA) true)::U⟩) ?_;(conv=>whnf);refine⟨by(rw[az];rfl),?_,?_⟩
  .intro i hi;have a9:i<ln c.ags:=by omega
   have hy:((eK f4 u z i).map zM)[i]? =some (zM (XT (u.getD i dd) f4)):=by
    rw[zA1];unfold eK;rw[UC _ _ _ _ hi];rfl
   have e1:(eK f4 u z (i+1)).map zM=((eK f4 u z i).map zM).set i (zM (z i).d):=by
    unfold eK;rw[YQ _ _ _ _ hi,zCe]
   have e2:vj (ln u) z (i+1)=(vj (ln u) z i).set i (Yx (z i)):=by
    unfold vj;rw[YQ _ _ _ _ hi]
   have b9:(vj (ln u) z i)[i]? =some (.s (.slice none 0 0)):=by
    unfold vj;exact UC _ _ _ _ hi
   have bd:=bb i;have bz:=ba i;have b1:=UA au i;have b4:=UB av i;have bk:=au i;have bu:=av i;have b2:=zA kF (XV z i);have b5:=zA iA (eO z i);have bl:=zA kF (z i).en;have bx:=zA iA (z i).ks;have ks:=me c i;have I:=hr i hi;have ht:=sk c S i a9;rw[e1,e2,OS,OT,zA0,zA0];clear e1 e2 hr hI L az ag;unfold Gj qw at I
   change zN 115 [_,_,_,_] [] (.tup [_,Yx (z i),_,_]) []at I
   generalize XT (u.getD i dd) f4=D1,(z i).d=D2 at *;rw[show Yx (z i)= .sl false ((z i).R.map jI)from Z]at *; generalize (z i).R.map jI=R2,(eK f4 u z i).map zM=X,vj (ln u) z i=Y,(XV z i).map kF=V,(eO z i).map iA=W at *;rw[show zE kF (z i).en= .sl false ((z i).en.map kF)from Z,show zE iA (z i).ks= .sl false ((z i).ks.map iA)from Z]at I;unfold zE at I;unfold zM xD at hy I⊢;unfold Bg at ks ht;unfold wH at ks I;refine zS ks ?_;obtain⟨G,ap⟩:∃G:Nat,jJ c.ags i=(G:Int):=⟨(jJ c.ags i).toNat,by have:=kG S i zB;omega⟩;obtain⟨N,hN⟩:∃N:Nat,(c.ags.getD i dd).ses=(N:Int):=⟨(c.ags.getD i dd).ses.toNat,by have:=S.at (i:=i) zB;omega⟩;have b0:=kG S i zB;have ac:=S.at (i:=i) zB;have hL:HE c i=(py N).map λk=>[nk i k (G+k)]:=by unfold HE;rw[ap,hN];rfl
   rw[show wj c E i=Wb E G N by unfold wj;rw[ap,hN];rfl]at I;rw[hN]at ac;have br:=zA uZ E;refine gJ 12 0 1041 2 Z Z Z Z Z ?_
   refine qN hF ht Z [2,3,12,41,1011,1012,1013,1014,1041,1042,1043] [2,3,8,9,10,11,12,49,50] Z Z Z Z Z Z Z Z Z (λk ys h=>?_) (λk=>[(2,.box [zE wD c.js,zE uF c.ags,iA c.per,iA c.cap,iA c.hold,iA c.lock,bA false,iA f4,.ref 1011 0 (ln u),.ref 1012 0 a2,.ref 1013 0 a3,.ref 1014 0 a4,zE vG vw]),(3,.box [zE uZ E]),(12,.box [.ref 1041 0 ((Wb E G k).map uZ).length]),(41,.arr 1 Y false),(1011,.arr 17 X false),(1012,.arr 5 A false),(1013,.arr 3 B false),(1014,.arr 1 C false),(1041,.arr 2 ((Wb E G k).map uZ) true),(1042,.arr 3 V true),(1043,.arr 1 W true)]) (λ_=>True)
    (T:=[(2,.ptr 2 0 0),(3,.ptr 3 0 0),(8,.ref 41 0 (ln u)),(9,.ref 1042 0 (ln V)),(10,.ref 1043 0 (ln W)),(11,iA i),(12,.ptr 12 0 0),(49,iA (ln u)),(50,iA i)]) Z trivial (λk ys y M hI F1 h1 h2=>?_) (λhI=>?_)
   .rw[hL,zA1,zBc]at h;obtain⟨x,_,rfl⟩:=h;rfl
   .have hk:k<N:=by
     have:=(zBk.1 M).1;rw[hL,zAt,zCd]at this;exact this
    rw[hL,zA1,zCn hk]at M;obtain rfl:=zD4 M;have b7:((Wb E G k).map uZ).length=k:=by unfold Wb;rw[zAt,zAt,zCd]
    rw[Cj,zA0];generalize (Wb E G k).map uZ=O at *;by_cases hq:G+k<ln E
    .have bf:=zJ uZ E (G+k) hq;generalize E.getD (G+k) dd=x at *;rw[show [x].map uZ=[.agg [bA x.opn,zE vO x.its]]from Z];unfold uZ at bf;refine WW ?_;refine⟨rfl,λF2 g1 g2=>?_⟩;refine WW ?_;exact⟨rfl,trivial⟩
    .rw[show [E.getD (G+k) dd].map uZ=[.agg [bA false,.sl false []]] by rw[zA5,zB6 zB];rfl];refine WW ?_;refine⟨rfl,λF2 g1 g2=>?_⟩
     (repeat' (first|refine jZ ?_|apply yW|apply xH|intro hc|(apply zG;first|(apply yH;refine ZX 69 Z Z Z ?_;refine vD tok Z Z ?_))|refine SB ?_|fail))
     exact⟨rfl,trivial⟩
   .rw[show(HE c i).length=N by rw[hL,zAt,zCd]];generalize Wb E G N=O at*
    show uE _ _ _ _ ⟨_,_⟩ _
    refine wJ [2,3,12,41,1011,1012,1013,1014,1042,1043] [2,3,8,9,10,11,12,49,50] Z ?_
    (conv=>whnf)
    simp only[zBf,zAv];clear ks ht hL hN ac;refine zS I ?_;rfl
  .rw[vj,Ig];refine WW ?_;refine zI [1011,1012,1013,1014] Z Z ?_ Z
   show AV.tup [.sl false (p5 (ln u) (List.map (λk=>Yx (z k)) (py (ln u)))),.sl false (p5 ((XV z (ln u)).map kF).length ((XV z (ln u)).map kF)),.sl false (p5 ((eO z (ln u)).map iA).length ((eO z (ln u)).map iA))]=_
   rw[zA2 (by rw[zAt,zCd];exact zAy _),zAv,zAv];rfl
structure JI (j:Jn) (s:Sg) (v:Sv) (f4:Int):Prop where
 c:CV j s.c
 n:v.en.length=j.ph.length
 e:∀e∈v.en,-1<=e/\e<=f4
 g:0<=v.gr/\v.gr<=60
theorem Vb (g:Cf) (s:Sv) (l:List Cl) (f4:Int) (h:0<=s.gr/\s.gr<=60):0<=(uR g s l f4).gr/\(uR g s l f4).gr<=60:=by
 unfold uR;split
 .grind
 .unfold fN;split
  .exact⟨zC3 _,(by decide:(0:Int)<=60)⟩
  .exact h
theorem R9 {j:Jn} (J:JV j) {s:Sg} {v:Sv} (u:0<=f4) (H:JI j s v f4) (g:Cf) (l:List Cl) (k:Int):JI j (Fa g j s v l k f4).1 (Fa g j s v l k f4).2 f4:=by
 refine⟨Iz J H.c g v l k f4,?_,?_,?_⟩
 .unfold Fa;split
  .exact(RA _ _).trans H.n
  .split
   .exact(RA _ _).trans ((YW ..).trans H.n)
   .dsimp only;unfold gM;split
    all_goals exact(YW ..).trans H.n
 .have hd:=Ll g v l f4 u H.e;unfold Fa;split
  .exact NY _ _ u H.e
  all_goals grind [Fa,NY,gM]
 .have hd:=Vb g v l f4 H.g;unfold Fa;split
  .exact⟨zC3 _,(by decide:(0:Int)<=60)⟩
  .split
   .exact⟨zC3 _,(by decide:(0:Int)<=60)⟩
   all_goals grind [Fa,gM]
theorem Bj:∀(l ga:List Lg),kV ga l=true->∀g∈l,QX g=true
 | [],_,_,g,u=>by cases u
 |x::l,ga,h,g,u=>by
  unfold kV at h;simp only[zA4]at h
  rcases zCh.1 u with rfl|u
  .exact h.1
  .exact Bj l _ h.2.2 g u
def Aj {P:Program} {st:St} {C E G:Nat} {x y z:Operand} {k:IntKind} {m l:Int} (M:yX (zK st.tm) x= .s (.int k m)) (O:yX (zK st.tm) y= .s (.int k n)) (S:yX (zK st.tm) z= .s (.int k l)):wZ P st (.call ⟨.builtin .min, #[x,y,z], #[C,E,G]⟩) (.s (.int k (min (min m n) l))) [] [] []:=
 yZ λU X tm h w β a B A hr V u=>by
  obtain⟨d0,o0,y0,p0,W,Y⟩:=U;dsimp only at B;subst B;have h1:=vR u A (x:=x) kR M;have h2:=vR u A (x:=y) kR O;have L:=vR u A (x:=z) kR S;refine⟨.int k (min (min m n) l),?_,.fz _ _ (.s _)⟩;have e1:(if n<m then n else m)=min m n:=by omega
  have I:(if l<min m n then l else min m n)=min (min m n) l:=by omega
  simp[execOp,resolve,invoke,builtin,Builtin.min_,Builtin.min2,h1,h2,L,e1,I]
def DE {P:Program} {st:St} {op:Op} {v:AV} {d:List (Nat×xW)} {r nw:List Nat} (G:wZ P st op v d r nw) (E:(xC d).all (r.contains ·)=true) (A:(xC d).map (zD st.h)=(xC d).map (zD d)):wZ P st op v [] r nw:=
 ⟨λX I h B hh C=>by
  have h1:=G.run X I h B hh C
  have e:over d h=over [] h:=funext λk=>by
   unfold over
   cases hk:zD d k with
   |none=>rfl
   |some e=>
    have u:=uH hk;obtain⟨i,hi⟩:=zEb u;have e1:=zBd (·[i]?) A;have z:zD st.h k=zD d k:=by simpa [hi]using e1
    have e3:=hh k (by have:=zA7.1 E k u;simpa using this)
    show some e=h k
    rw[e3,z,hk]
  rwa [e]at h1⟩
theorem zk {A j:Int} {x:Rq} {c:Cl} (h:c∈OX A j x) (u:RqO x) (C:0<=f4) (B:∀g∈x.legs,g.sc<=f4):(0<=c.k/\c.k<=3)/\(0<=c.si/\c.si<=f4):=by
 unfold OX at h;split at h
 .cases h
 .split at h
  .cases h
  .rename_i h1;rw[zBm]at h;subst h;dsimp only;refine⟨⟨u.c0,u.c1⟩,?_⟩;by_cases hi:(TF (λr:Lg=>r.jn==j) x.legs).toNat<ln x.legs
   .have z:=yK x.legs _ hi;have hl:=u.lg;unfold AK at hl;rw[zA4]at hl;have:=B _ z;have hv:=Bj _ _ hl.2 _ z
    grind [OX,TF,QX]
   .rw[zA5,zB6 zB]
    show(0:Int)<=0/\(0:Int)<=f4
    omega
def DF {j:Int} {z:List wC} (C:∀d∈z,qD c d) (G:0<=f4) (E:∀d∈z,KV f4 d.rq):∀x∈jK j z,(0<=x.k/\x.k<=3)/\(0<=x.si/\x.si<=f4):=λx u=>by
 unfold jK at u;obtain⟨y,A,u⟩:=zEy.1 u;obtain⟨d,hd,rfl⟩:=zCb.1 A;unfold fI at u;obtain⟨y,A,u⟩:=zEy.1 u;obtain⟨r,B,rfl⟩:=zCb.1 A;exact zk u ((C d hd).v.ok r B) G (E d hd r B)
theorem SJ (j:Int):∀l:List wC,(∀d∈l,ln d.rq<=4)->(jK j l).length<=4*ln l
 | [],_=>zAy _
 |d::l,h=>by
  have h1:=dU d.rg.num j d.rq;have h2:=SJ j l (λx u=>h x (by simp[u]));have z:=h d zV;have e:jK j (d::l)=fI d.rg.num j d.rq++jK j l:=rfl;rw[e,zAx,zA8];omega
def ZG (c:Cf) (z:List Sg) (sv:List Sv) (st:List Int) (u:List wC) (f4:Int) (k:Nat):Sg×Sv:=Fa c (c.js.getD k dd) (z.getD k dd) (sv.getD k dd) (jK (k:Int) u) (st.getD k dd) f4
def ZH (D:Nat->Sg×Sv) (l:List Sg) (i:Nat):List Sg:=aZ (λk _=>(D k).1) l i
def ZI (D:Nat->Sg×Sv) (l:List Sv) (i:Nat):List Sv:=aZ (λk _=>(D k).2) l i
def XW (l:List Int) (i:Nat):List Int:=aZ (λ_ _=> -1) l i
def Gg (u:List Jn) (D:Nat->Sg×Sv) (n i:Nat):List AV:=(py n).map λk=>if k<i then vG (XL (u.getD k dd) (D k).1 (D k).2)else .agg [bA false,bA false,.s (.slice none 0 0),.s (.slice none 0 0)]
def u9 (c:Cf) (f4:Int) (z:List wC) (v:AV) (u:List Sg) (sv:List Sv) (st:List Int):List (Nat×xW):=
 [(2,.box [zE wD c.js,zE uF c.ags,iA c.per,iA c.cap,iA c.hold,iA c.lock,bA false,iA f4,zE zM z,.ref 1012 0 (u.map wU).length,.ref 1013 0 (sv.map wP).length,.ref 1014 0 (st.map iA).length,v]),(1012,.arr 5 (u.map wU) false),(1013,.arr 3 (sv.map wP) false),(1014,.arr 1 (st.map iA) false)]
theorem yk (c:Cf) (hv:Qb c) (f4:Int) (n0:0<=f4) (n1:f4<=1000000000) (z:List wC) (a5:ln z<=4) (hI:∀d∈z,qD c d) (hs:∀d∈z,KV f4 d.rq) (u:List Sg) (sv:List Sv) (st:List Int) (vw:List Vw)
  (hg:ln u=ln c.js) (M:ln sv=ln c.js) (L:ln st=ln c.js) (hj:∀k,k<ln c.js->JI (c.js.getD k dd) (u.getD k dd) (sv.getD k dd) f4):
  zN 48 [.ptr 2 0 0] (u9 c f4 z (zE vG vw) u sv st) (.tup [])
   (u9 c f4 z (.ref 1015 0 (ln c.js)) (ZH (ZG c u sv st z f4) u (ln c.js)) (ZI (ZG c u sv st z f4) sv (ln c.js)) (XW st (ln c.js))++[(1015,.arr 4 (Gg c.js (ZG c u sv st z f4) (ln c.js) (ln c.js)) false)]):=by
 have ag:=zA wD c.js;have ac:=zA wU u;have au:=zA wP sv;have ap:=zA iA st;have a6:=hv.j;unfold u9;refine eM call48 λF hF=>?_
 (repeat' (first|refine uS ?_|apply yW|apply xH|intro hc|(apply zG;first|(apply zG;refine wM (Aj Z Z Z) Z ?_)|(apply fQ;refine bE 1015 tok Z Z Z Z Z Z Z Z Z Z Z Z Z zB zB Z Z Z ?_))|fail))
 rw[ag,ac,au,hg,M,zGg,zGg]
 (repeat' (first|refine uS ?_|apply yW|apply xH|intro hc|(apply zG;first|(apply fQ;refine bE 1015 tok Z Z Z Z Z Z Z Z Z Z Z Z Z zB zB Z Z Z ?_))|fail))
 have O:∀D,Gg c.js D (ln c.js) 0=pi (ln c.js) (.agg [bA false,bA false,.s (.slice none 0 0),.s (.slice none 0 0)]):=λD=>by
  unfold Gg;apply zB2;intro j;rw[zA1,zC9];by_cases hj:j<ln c.js
  .rw[zCn hj,zAs hj];simp
  .rw[Os hj,zB6 qB];rfl
 have hC:=SJ;have E:∀D,ZH D u 0=u:=λD=>qM _ _
 have I:∀D,ZI D sv 0=sv:=λD=>qM _ _
 have G:XW st 0=st:=qM _ _;have A:∀D i,((ZH D u i).map wU).length=ln c.js:=λD i=>by unfold ZH;rw[zAt,wT,hg]
 have C:∀D i,((ZI D sv i).map wP).length=ln c.js:=λD i=>by unfold ZI;rw[zAt,wT,M]
 have B:∀i,((XW st i).map iA).length=ln c.js:=λi=>by unfold XW;rw[zAt,wT,L]
 have S:∀D i,(Gg c.js D (ln c.js) i).length=ln c.js:=λD i=>by unfold Gg;rw[zAt,zCd]
 rw[ap,L,A,C,B];refine zO (ln c.js) [1012,1013,1014,1015,2] [2] [0,28] [29,0,28] Z (λi T U=>⟨(29,iA i)::T,(1012,.arr 5 ((ZH (ZG c u sv st z f4) u i).map wU) false)::(1013,.arr 3 ((ZI (ZG c u sv st z f4) sv i).map wP) false)::(1014,.arr 1 ((XW st i).map iA) false)::(1015,.arr 4 (Gg c.js (ZG c u sv st z f4) (ln c.js) i) false)::U⟩) ?_;(conv=>whnf);refine⟨by(rw[E,I,G,O];rfl),?_,?_⟩
 .intro i hi;have ba:=zJ wD c.js i hi;have a9:((ZH (ZG c u sv st z f4) u i).map wU)[i]? =some (wU (u.getD i dd)):=by rw[zA1];unfold ZH;rw[vS,zAs zB,Os (zDp i)];rfl
  have bf:((ZI (ZG c u sv st z f4) sv i).map wP)[i]? =some (wP (sv.getD i dd)):=by rw[zA1];unfold ZI;rw[vS,zAs zB,Os (zDp i)];rfl
  have bb:((XW st i).map iA)[i]? =some (iA (st.getD i dd)):=by rw[zA1];unfold XW;rw[vS,zAs zB,Os (zDp i)];rfl
  have bk:(Gg c.js (ZG c u sv st z f4) (ln c.js) i)[i]? =some (.agg [bA false,bA false,.s (.slice none 0 0),.s (.slice none 0 0)]):=UC _ _ _ _ hi;have eg:(ZH (ZG c u sv st z f4) u (i+1)).map wU=((ZH (ZG c u sv st z f4) u i).map wU).set i (wU (ZG c u sv st z f4 i).1):=by unfold ZH;rw[vN _ _ _ _ zB]
  have ev:(ZI (ZG c u sv st z f4) sv (i+1)).map wP=((ZI (ZG c u sv st z f4) sv i).map wP).set i (wP (ZG c u sv st z f4 i).2):=by unfold ZI;rw[vN _ _ _ _ zB]
  have ek:(XW st (i+1)).map iA=((XW st i).map iA).set i (iA (-1)):=by unfold XW;rw[vN _ _ _ _ zB]
  have ew:Gg c.js (ZG c u sv st z f4) (ln c.js) (i+1)=(Gg c.js (ZG c u sv st z f4) (ln c.js) i).set i (vG (XL (c.js.getD i dd) (ZG c u sv st z f4 i).1 (ZG c u sv st z f4 i).2)):=YQ _ _ _ _ hi;have J:=hv.jv _ (yK c.js i hi);have H:=hj i hi;have cl:(jK (i:Int) z).length<=4*ln z:=hC i z λd hd=>(hI d hd).v.n4
  have V:=DF (j:=(i:Int)) hI n0 hs;have hp:=hv.p;have a4:=hv.cp;have a3:=J.n;have a2:=H.n;have HD:Lr c (sv.getD i dd) (jK (i:Int) z) f4:=⟨hp.1,zB,zB,n0,n1,H.e,λx hx=>(V x hx).1,λx hx=>(V x hx).2,zB,zB⟩
  have kd:zN 117 [wH c,wD (c.js.getD i dd),wU (u.getD i dd),wP (sv.getD i dd),zE kD (jK (i:Int) z),iA (st.getD i dd),iA f4] [] (.tup [wU (ZG c u sv st z f4 i).1,wP (ZG c u sv st z f4 i).2]) []:=
   Nt c _ J _ H.c _ _ _ f4 HD (by have:=Vb c (sv.getD i dd) (jK (i:Int) z) f4 H.g;omega)
  have ko:=gz (c.js.getD i dd) J (ZG c u sv st z f4 i).1 (Iz J H.c _ _ _ _ _) (ZG c u sv st z f4 i).2;have kc:=Cg c false f4 z i zB (λd hd=>(hI d hd).bd) ((ZH (ZG c u sv st z f4) u i).map wU) ((ZI (ZG c u sv st z f4) sv i).map wP) (((XW st i).map iA).set i (iA (-1))) (Gg c.js (ZG c u sv st z f4) (ln c.js) i) (ln c.js) (ln c.js) (ln c.js) (ln c.js);have av:=A (ZG c u sv st z f4) i;have az:=C (ZG c u sv st z f4) i;have ax:=B i;have a1:=S (ZG c u sv st z f4) i;rw[eg,ev,ek,ew];clear eg ev ek ew E I G O HD V hC A C B S hj H J;generalize (ZH (ZG c u sv st z f4) u i).map wU=X,(ZI (ZG c u sv st z f4) sv i).map wP=Y,(XW st i).map iA=Z',Gg c.js (ZG c u sv st z f4) (ln c.js) i=W,ZG c u sv st z f4 i=p at *;generalize XL (c.js.getD i dd) p.1 p.2=w at *;generalize jK (i:Int) z=l,u.getD i dd=s,sv.getD i dd=v,st.getD i dd=k,c.js.getD i dd=j at *;have a7:(X.set i (wU p.1))[i]? =some (wU p.1):=zBs zB;have a8:(Y.set i (wP p.2))[i]? =some (wP p.2):=zBs zB
  (have gd:=kd;have gn:=ko;(repeat' (first|refine uS ?_|apply yW|apply xH|intro hc|(apply zG;first|(refine vH 38 ?_;refine wM (DE (zL kc Z Z Z Z Z) Z Z) Z ?_))|fail))<;>clear gd gn)
  rfl
 ·(refine WW ?_)
  exact uV [2,1012,1013,1014,1015] Z Z Z Z
