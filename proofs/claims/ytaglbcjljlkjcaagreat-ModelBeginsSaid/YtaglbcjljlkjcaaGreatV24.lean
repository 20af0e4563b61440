/- Part 24. -/
import Derived.Test.YtaglbcjljlkjcaaGreatV23
namespace Go.Proofs.YtaglbcjljlkjcaaGreat.Av
open Tryz
set_option linter.all false
set_option maxRecDepth 4000
set_option maxHeartbeats 8000000
open List renaming length->ln,replicate->pg,range->pi,take->py
open Inhabited renaming default->dd
variable {c:Cf}{k n ga:Int}{ar da:List Int}{l:List Rq}{α:Type}{d:xU}
def IN (f g u:Int) (ar:List Int):Nat->List Int
 |0=>[]
 |i+1=>(if(i:Int)=f/\0<g then IN f g u ar i++jI u else IN f g u ar i)++jI (ar.getD i dd)
def OU (f g u:Int) (ar:List Int) (i:Nat):List Int:=if(i:Int)=f/\0<g then IN f g u ar i++jI u else IN f g u ar i
theorem EH (h:n<128):(jI n).length=1:=by unfold jI;rw[VB h];rfl
theorem L4 (h:n<16384):(jI n).length<=2:=by grind [jI,EH,GP,VB]
theorem IO (f g u:Int) (ar:List Int):∀i,(IN f g u ar i).length<=10*i
 |0=>zAe _
 |i+1=>by
  have:=IO f g u ar i;have h1:=jZ u;have h2:=jZ (ar.getD i dd);unfold IN
  split<;>simp only[zAf]<;>omega
theorem Pq (f g u:Int) (ar:List Int) (i:Nat):(OU f g u ar i).length<=10*i+5:=by grind [OU,IO,jZ,List.length_append]
theorem Yi {f g u:Int} (y:0<=u/\u<=4294967295) (z:SY ar):∀i,i<=ln ar->BY (IN f g u ar i)
 |0,_=>λx hx=>by cases hx
 | i+1,hi=>by
  have A:=Yi (f:=f) (g:=g) y z i zB;have h1:=GE y.1 y.2;have h2:=z (ar.getD i dd) (zQ ar i zB);have B:=GE h2.1 h2.2;unfold IN;intro x hx
  rcases zAy.1 hx with hx|hx
  .split at hx
   .exact(zAy.1 hx).elim (A x) (h1 x)
   .exact A x hx
  .exact B x hx
theorem Rx {f g u:Int} (z:0<=u/\u<=4294967295) (y:SY ar) (i:Nat) (hi:i<=ln ar):BY (OU f g u ar i):=by grind [SY,BY,OU,Yi,GE]
theorem Qx (k f g lo hi Y u:Int) (ar da:List Int) (c1:zO 233 [iA k] [] (.tup [XI ⟨0,f,g,lo,hi,Y⟩,bA true]) []) (c2:zO 234 [XI ⟨0,f,g,lo,hi,Y⟩,iA ((ar.map iA).length:Int)] [] (.tup [iA u,bA true]) [])
  (hd:Y= -1\/(ln da:Int)=Y) (ha:SY ar) (av:ln ar<=100) (S:0<=u/\u<=4294967295) (hz:(OU f g u ar (ln ar)++da).length<=200):
  zO 185 [yO ⟨k,[],ar,da⟩] [] (.tup [zE yA (OU f g u ar (ln ar)++da),iA 0]) []:=by
 have c3:=QN [] yE;have a3:=zA iA ar;have a4:=zA yA da;have cg:=o6 u S.1 S.2;have a5:=zA yA (jI u);have a8:=jZ u;have R:=IO f g u ar;have O:=Pq f g u ar;have I:IN f g u ar 0=[]:=rfl
 have L:∀i:Nat,OU f g u ar i=if(i:Int)=f/\0<g then IN f g u ar i++jI u else IN f g u ar i:=λ_=>rfl
 have M:∀i:Nat,IN f g u ar (i+1)=OU f g u ar i++jI (ar.getD i dd):=λ_=>rfl
 have au:(OU f g u ar (ln ar)).length+ln da<=200:=by rw[zAf]at hz;exact hz
 have hz:((OU f g u ar (ln ar)).map yA++da.map yA).length<=200:=by rw[zAf]at hz;simp;omega
 have a1:ln da<=200:=by omega
 rw[show zE yA (OU f g u ar (ln ar)++da)= .sl false (py ((OU f g u ar (ln ar)).map yA++da.map yA).length (List.drop 0 ((OU f g u ar (ln ar)).map yA++da.map yA))) by rw[zAr,zAa];unfold zE;rw[zAd]];rw[show yO ⟨k,[],ar,da⟩= .agg [iA k,zE yA [],zE iA ar,zE yA da]from Z];rw[show XI ⟨0,f,g,lo,hi,Y⟩= .agg [iA 0,iA f,iA g,iA lo,iA hi,iA Y]from Z]at *; generalize OU f g u ar=X,IN f g u ar=G at *;clear au
 rcases hd with h2|h2
 all_goals
  refine eM call185 λF hF=>?_
  refine yB (qS c1 c2 c3) ?_
 all_goals
  refine vY 1001 Z ?_;refine zZ (ln ar+1) [1001,1,4] [1,4] [1,4,6,64] [7,65,1,4,6,64] Z (λi T U zs=>(i<=ln ar)/\zs=⟨(7,.ref 1001 0 ((G i).map yA).length)::(65,iA i)::T,(1001,.arr 1 ((G i).map yA) true)::U⟩) (Lp ?_ ?_ ?_)
  .refine⟨zAn _,?_⟩;rw[I];rfl
  .rintro i st' hi ⟨hik,rfl⟩;have az:=R i;have ax:=O i;have S:=L i;have a6:=zA yA (G i);have a2:=zA yA (X i)
   have y:(X i).map yA=if(i:Int)=f/\0<g then(G i).map yA++(jI u).map yA else(G i).map yA:=by
    rw[S];split
    .rw[zAd]
    .rfl
   by_cases ap:i=ln ar
   .subst ap;clear M S R O L I c1 c2 c3;generalize (G (ln ar)).map yA=A at *;generalize (X (ln ar)).map yA=B at *;generalize jI u=W at *;by_cases z:(ln ar:Int)=f
    .by_cases C:0<g
     .rw[Os ⟨z,C⟩]at y;subst y;exact nl cg
     .rw[hW (λh=>C h.2)]at y;subst y;exact mx
    .rw[hW (λh=>z h.1)]at y;subst y;exact mx
   have ag:=ha (ar.getD i dd) (zQ ar i zB);have cv:=o6 (ar.getD i dd) ag.1 ag.2;have hy:=zJ iA ar i zB;have hS:=M i;have a7:=zA yA (jI (ar.getD i dd));have a9:=jZ (ar.getD i dd);have ac:(G (i+1)).map yA=(X i).map yA++(jI (ar.getD i dd)).map yA:=by rw[hS,zAd]
   rw[ac];clear hS S R O L M I ac c1 c2 c3 hz ha;generalize (X (ln ar)).map yA=E,(G i).map yA=A,(X i).map yA=B,jI (ar.getD i dd)=V at *;generalize ar.getD i dd=a at *;generalize jI u=W at *;by_cases z:(i:Int)=f
   .by_cases C:0<g
    .rw[Os ⟨z,C⟩]at y;subst y;refine yB (xH cg cv) ?_;exact⟨zB,rfl⟩
    .rw[hW (λh=>C h.2)]at y;subst y;refine zP cv ?_;exact⟨zB,rfl⟩
   .rw[hW (λh=>z h.1)]at y;subst y;refine zP cv ?_;exact⟨zB,rfl⟩
  .rintro st' ⟨hik,rfl⟩;exfalso;omega
def jG (k:Int):Int×Int×Int×Int×Int:=if k=16 then(1,0,0,0,10)else if k=17\/k=21 then(1,0,0,0,-1)else if k=18 then(1,3,0,16,0)else if k=19 then(0,2,0,4,0)else if k=20 then(4,0,0,0,0)else(2,0,0,0,0)
def Oq (k:Int) (h:13<=k/\k<=21):zO 233 [iA k] [] (.tup [XI ⟨0,(jG k).1,(jG k).2.1,(jG k).2.2.1,(jG k).2.2.2.1,(jG k).2.2.2.2⟩,bA true]) []:=by
 have:k=13\/k=14\/k=15\/k=16\/k=17\/k=18\/k=19\/k=20\/k=21:=by omega
 rcases this with rfl|rfl|rfl|rfl|rfl|rfl|rfl|rfl|rfl
 all_goals
  refine eM call233 λF hF=>?_
  exact mx
def Wi (f g lo hi z n u:Int) (M:0<=n/\n<=100) (L:0<=f/\f<=4) (h:(g=0/\n=f/\u=0)\/((g=2\/g=3)/\n=f+g*u/\0<=u/\lo<=u/\u<=hi)):zO 234 [XI ⟨0,f,g,lo,hi,z⟩,iA n] [] (.tup [iA u,bA true]) []:=by
 rw[show XI ⟨0,f,g,lo,hi,z⟩= .agg [iA 0,iA f,iA g,iA lo,iA hi,iA z]from Z]
 rcases h with⟨rfl,rfl,rfl⟩|⟨rfl|rfl,A,I,h1,h2⟩
 ·(refine eM call234 λF hF=>?_)
  exact mx
 .have y:u=(n-f).tdiv 2:=by
   rw[zCc zB];omega
  have E:(n-f).tmod 2=0:=by
   rw[zBi zB];omega
  have G:bZ .i64 ((n-f).tdiv 2):=by
   unfold bZ;have e1:IntKind.i64.min= -9223372036854775808:=by decide
   have B:IntKind.i64.max=9223372036854775807:=by decide
   omega
  have C:¬n-f<0:=by omega
  subst y;clear A;refine eM call234 λF hF=>?_
  exact mx
 .have y:u=(n-f).tdiv 3:=by
   rw[zCc zB];omega
  have E:(n-f).tmod 3=0:=by
   rw[zBi zB];omega
  have G:bZ .i64 ((n-f).tdiv 3):=by
   unfold bZ;have e1:IntKind.i64.min= -9223372036854775808:=by decide
   have B:IntKind.i64.max=9223372036854775807:=by decide
   omega
  have C:¬n-f<0:=by omega
  subst y;clear A;refine eM call234 λF hF=>?_
  exact mx
structure R3 (k:Int) (ar da:List Int):Prop where
 kk:13<=k/\k<=21
 n:SY ar
 l:ar.length<=60
 b:BY da
 d:(jG k).2.2.2.2= -1\/(da.length:Int)=(jG k).2.2.2.2
 g:((jG k).2.1=0/\(ar.length:Int)=(jG k).1)\/(((jG k).2.1=2\/(jG k).2.1=3)/\∃gr:Int,(ar.length:Int)=(jG k).1+(jG k).2.1*gr/\0<=gr/\(jG k).2.2.1<=gr/\gr<=(jG k).2.2.2.1)
 z:(((ar.map jI).flatten).length+1)+da.length<=200
theorem Gc (f g y:Int) (u:y<128) (ar:List Int):∀i,i<=ln ar->(IN f g y ar i).length<=(((ar.take i).map jI).flatten).length+(if f<i then 1 else 0)
 |0,_=>by simp[IN]
 | i+1,hi=>by
  have z:=Gc f g y u ar i zB;have h1:=EH u
  have e:ar.take (i+1)=ar.take i++[ar.getD i dd]:=by
   rw[zAk,zAu zB,zCo,zCd zB]
  rw[e,zAd,zDl];unfold IN;simp only[zAf,zBc,zBs,zC0,List.flatten_nil,zA6,zBq];split
  .rename_i h2;rw[zAf,h1,Os zB];rw[hW zB]at z;omega
  .by_cases A:f<i
   .rw[Os A]at z;rw[Os zB];omega
   .rw[hW A]at z
    split<;>omega
theorem Nq (f g u:Int) (y:u<128) (ar:List Int):(OU f g u ar (ln ar)).length<=((ar.map jI).flatten).length+1:=by
 have z:=Gc f g u y ar (ln ar) (zAe _)
 grind [OU,jI,EH,List.take_length,List.length_append]
theorem Mq (f g u:Int) (ar:List Int) (h:ar≠[]):1<=(OU f g u ar (ln ar)).length:=by
 have h1:0<ln ar:=List.length_pos_iff.2 h;obtain⟨n,y⟩:∃n,ln ar=n+1:=⟨ln ar-1,zB⟩
 grind [OU,IN,List.length_append,jZ]
def Y8 (k:Int) (ar da p:List Int):Prop:=∃u:Int,(0<=u/\u<=100)/\(((jG k).2.1=0/\(ln ar:Int)=(jG k).1/\u=0)\/(((jG k).2.1=2\/(jG k).2.1=3)/\(ln ar:Int)=(jG k).1+(jG k).2.1*u/\0<=u/\(jG k).2.2.1<=u/\u<=(jG k).2.2.2.1))/\p=OU (jG k).1 (jG k).2.1 u ar (ln ar)++da
def Vi (h:R3 k ar da):∃p,(BY p/\Y8 k ar da p)/\(ln p<=200/\(ar≠[]->1<=ln p))/\zO 185 [yO ⟨k,[],ar,da⟩] [] (.tup [zE yA p,iA 0]) []:=by
 have hl:=zA iA ar
 have C:(0<=(jG k).1/\(jG k).1<=4)/\(jG k).2.2.2.1<=16:=by
  have hk:=h.kk;have:k=13\/k=14\/k=15\/k=16\/k=17\/k=18\/k=19\/k=20\/k=21:=by omega
  clear hk h
  rcases this with rfl|rfl|rfl|rfl|rfl|rfl|rfl|rfl|rfl<;>decide
 obtain⟨C,hh⟩:=C
 obtain⟨u,E,R,y⟩:∃u:Int,(0<=u/\u<=100)/\True/\(((jG k).2.1=0/\((ar.map iA).length:Int)=(jG k).1/\u=0)\/(((jG k).2.1=2\/(jG k).2.1=3)/\((ar.map iA).length:Int)=(jG k).1+(jG k).2.1*u/\0<=u/\(jG k).2.2.1<=u/\u<=(jG k).2.2.2.1)):=by
  rw[hl]
  rcases h.g with⟨A,B⟩|⟨A,u,B,I,L,M⟩
  .exact⟨0,zB,trivial,.inl ⟨A,B,rfl⟩⟩
  .exact⟨u,zB,trivial,.inr ⟨A,B,I,L,M⟩⟩
 have G:=Wi _ _ (jG k).2.2.1 (jG k).2.2.2.1 (jG k).2.2.2.2 ((ar.map iA).length:Int) u (by have:=h.l;omega) C y;have S:=Nq (jG k).1 (jG k).2.1 u zB ar;have U:=h.z;refine⟨OU (jG k).1 (jG k).2.1 u ar (ln ar)++da,⟨?_,u,E,by rw[hl]at y;exact y,rfl⟩,?_,Qx k _ _ _ _ _ u ar da (Oq k h.kk) G h.d h.n (by have:=h.l;omega) zB (by rw[zAf];omega)⟩
 .intro x hx;exact(zAy.1 hx).elim (Rx zB h.n (ln ar) (zAe _) x) (h.b x)
 .refine⟨by rw[zAf];omega,λO=>?_⟩;have:=Mq (jG k).1 (jG k).2.1 u ar O;rw[zAf];omega
def Px (h:R3 k ar da):zO 123 [yO ⟨k,[],ar,da⟩] [] (bA true) []:=by
 obtain⟨p,_,_,c⟩:=Vi h;rw[show yO ⟨k,[],ar,da⟩= .agg [iA k,zE yA [],zE iA ar,zE yA da]from Z]at *; refine eM call123 λF hF=>?_
 exact nl c
def ZC (h:R3 k ar da):∃p,(BY p/\Y8 k ar da p)/\(ln p<=200/\(ar≠[]->1<=ln p))/\KU [yO ⟨k,[],ar,da⟩] [] (.tup [zE yA (ta k p),iA 0]) []:=by
 obtain⟨p,h1,⟨h2,u⟩,c⟩:=Vi h;have hk:=h.kk;have y:=Jx k p zB zB h1.1 h2;refine⟨p,h1,⟨h2,u⟩,?_⟩;generalize ta k p=q at *;rw[show yO ⟨k,[],ar,da⟩= .agg [iA k,zE yA [],zE iA ar,zE yA da]from Z]at *; exact wj
section
def YE (m:Ms):Prop:=m.tok=[]/\R3 m.kind m.args m.data
structure Ox (i:It):Prop where
 y:BY i.pay
 n:i.pay.length<=100000
 k:0<=i.kind/\i.kind<=255
 c:0<=i.code/\i.code<=100
def Ep (i:In):Prop:=ln i.its<=1000/\∀x∈i.its,Ox x
theorem Ep.b {i:In} (h:Ep i):M3 i:=⟨h.1,λx hx=>⟨(h.2 x hx).y,(h.2 x hx).n⟩⟩
structure Ui (e:En):Prop where
 a:0<=e.ag/\e.ag<4
 k:0<=e.ki/\e.ki<=255
 c:0<=e.co/\e.co<=100
theorem dD (l:List Int):((l.map jI).flatten).length<=5*ln l:=by
 induction l with
 |nil=>simp
 |cons a l u=>
  grind [jI,jZ,List.flatten_cons,List.length_append,List.length_cons]
theorem X8 (k a b:Int) (hk:k=13\/k=14\/k=15) (u:0<=a/\a<=4294967295) (hb:0<=b/\b<=4294967295):YE ⟨k,[],[a,b],[]⟩:=by
 have h:=dD [a,b];refine⟨rfl,?_⟩;dsimp only
 have y:jG k=(2,0,0,0,0):=by rcases hk with rfl|rfl|rfl<;>rfl
 refine⟨zB,.cons u (.cons hb .nil),by simp,λx hx=>(by cases hx),?_,?_,by simp only[zAp,zBq]at *; omega⟩
 all_goals grind
theorem Nx (u:qB c d):SY (dX d.rq):=by
 have z:=u.v.ok;generalize d.rq=l at *;intro x hx;unfold dX at hx;obtain⟨y,B,hx⟩:=zD9.1 hx;obtain⟨r,A,rfl⟩:=zBm.1 B;have h:=z r A;have C:=h.i0;have h1:=h.i1;have h2:=h.t0;have E:=h.t1
 grind
theorem W8 (u:qB c d) {s:Int} (X:0<=ga) (Y:ga<=1073741824) {i:It} (y:Ox i) {h:Hd} (z:Dw c d s i ga h):YE h.p:=by
 have U:=u.n;by_cases B:h.e=0
 .obtain⟨a,_,I⟩:=z.yes B
  rcases I with⟨_,e,_⟩|⟨_,e,_⟩|⟨_,e,_⟩|⟨_,k,A,hk,⟨W,L⟩,e⟩|⟨_,x,M,O,e⟩
  .rw[e];exact X8 13 _ _ (.inl Z) zB zB
  .have R:=u.v.n4;have hb:=Nx u;have hl:=RL d.rq;have C:=dD (dX d.rq);rw[e];refine⟨rfl,by dsimp only[BU];omega,hb,by dsimp only[BU];omega,λx hx=>(by cases hx),.inr Z,.inr ⟨.inl Z,(ln d.rq:Int),?_,zB,by show(0:Int)<=_;omega,by show _<=(4:Int);omega⟩,?_⟩
   .show((dX d.rq).length:Int)=0+2*(ln d.rq:Int)
    omega
   .show(((dX d.rq).map jI).flatten).length+1+0<=200
    omega
  .have E:=u.t8;have hv:=u.vh;have V:=u.q;have S:=u.a.q;have hl:=u.bl;have hb:=u.a.b;have G:FE d.rg.tk<=8:=by rw[<-E];exact zBz _ _
   rw[e];have C:=dD (XW d).args;refine⟨rfl,by dsimp only[XW];omega,.cons zB (.cons zB (.cons zB (.cons zB .nil))),by simp[XW],λx hx=>(by cases hx),.inr Z,.inl ⟨rfl,rfl⟩,?_⟩
   grind [YE,XW,jI]
  .rw[e];have C:=dD [(k:Int)];refine⟨rfl,by dsimp only;omega,.cons zB .nil,by simp,?_,.inr ?_,.inl ⟨rfl,rfl⟩,?_⟩
   .intro x hx;simp only[zBx]at hx
    rcases hx with rfl|rfl|hx
    .omega
    .omega
    .exact L x hx
   .show((d.rg.num::(k:Int)::A).length:Int)=10
    grind
   all_goals grind
  .rw[e];exact X8 14 _ _ (.inr (.inl Z)) (by have:=y.k;omega) ⟨M,O⟩
 .have hb:=z.eb y.c;rw[(z.no B).2.1];exact X8 15 _ _ (.inr (.inr Z)) (by have:=y.k;omega) zB
def V8 {s:Int} {i:It} {h:Hd} (y:Dw c d s i ga h):h.p.kind≠17:=by
 by_cases z:h.e=0
 .obtain⟨a,_,A⟩:=y.yes z
  rcases A with⟨_,e,_⟩|⟨_,e,_⟩|⟨_,e,_⟩|⟨_,k,B,hk,⟨C,E⟩,e⟩|⟨_,x,G,I,e⟩
  all_goals (rw[e];intro u;revert u;first|decide|(intro u;cases u))
 .obtain⟨_,e,_⟩:=y.no z;rw[e];intro u;cases u
def KN (ga:Int) (l:List Rq):Prop:=∀r∈l,∀g∈r.legs,g.sc<=ga
theorem KN.mono {a b:Int} (h:KN a l) (u:a<=b):KN b l:=λr z g y=>Int.le_trans (h r z g y) u
theorem KN.of (B:0<=ga) {u:List Rq} (h:KN ga l) (A:XV l u):KN ga u:=λr z g y=>by
 rcases A r z g y with h1|⟨r0,h1,_,g0,h2,_,_,h3⟩
 .omega
 .rw[<-h3];exact h r0 h1 g0 h2
theorem KN.mk (E:0<=ga) (h:KN ga l):KN ga (Kg l ga):=λr A g z=>by
 unfold Kg at A;obtain⟨C,y,rfl⟩:=zBm.1 A;unfold j9 at z;obtain⟨B,u,rfl⟩:=zBm.1 z;unfold ZB;have:=h C y B u;split
 .split
  .exact zCi _
  .exact this
 .show(-1:Int)<=ga
  omega
theorem Ti {s:Nat} (L:0<=ga) (M:ga<=1073741824) {u:List It} (G:∀x∈u,Ox x) {f:Nat->TS} (y:∀e∈(f 0).en,Ui e) (C:(f 0).rs=[])
 (I:∀k,k<ln u->L5 c (s:Int) ga (u.getD k dd) (f k) (f (k+1))) (hd:∀k,za c d (f k).d):∀k,k<=ln u->(∀m∈(f k).rs,YE m/\m.kind≠17)/\(∀e∈(f k).en,Ui e)/\(∀j:Nat,j≠s->(f k).d.au[j]? =(f 0).d.au[j]?)/\XV (f 0).d.rq (f k).d.rq
 |0,_=>⟨λm z=>(by rw[C]at z;cases z),y,λ_ _=>rfl,XV.refl _⟩
 | k+1,hk=>by
  obtain⟨R,S,U,V⟩:=Ti L M G y C I hd k zB;obtain⟨h,_,B,hb⟩:=I k zB;have E:=(hd k).i;have A:=G _ (zQ u k zB);have O:=E.n;rw[hb];refine⟨λm z=>?_,λe y=>?_,λj hj=>?_,V.trans B.sc⟩
  .rcases zAy.1 z with z|z
   .exact R m z
   .rw[zA8.1 z];exact⟨W8 E L M A B,V8 B⟩
  .rcases zAy.1 y with y|y
   .exact S e y
   .rw[zA8.1 y];exact⟨O,A.k,B.eb A.c⟩
  .dsimp only;rw[B.ax j zB,U j hj]
structure DR where
 d:xU
 R:List (List Ms)
 en:List En
 ks:List Int
def Mx (r:DR):AV:=D7 r.d r.R r.en r.ks
structure I7 (c:Cf) (ga:Int) (d:xU) (ins:List In) (r:DR):Prop where
 i:qB c r.d
 ag:r.d.rg.ag=d.rg.ag
 num:r.d.rg.num=d.rg.num
 rn:r.R.length=d.au.length
 rl:∀s,s<d.au.length->(r.R.getD s []).length=(SW ins s).length
 rv:∀l∈r.R,l.length<=1000/\∀m∈l,YE m
 rk:∀l∈r.R,∀m∈l,m.kind≠17
 el:r.en.length<=2000
 en:∀e∈r.en,Ui e
 kl:r.ks.length<=2000
 ks:∀x∈r.ks,0<=x/\x<(c.js.length:Int)
 sc:KN ga d.rq->KN ga r.d.rq
 au:∀s,s<d.au.length->SW ins s=[]->r.d.au[s]? =some (vq ins s (d.au.getD s default))
 na:J1 d.rg.tk->J1 r.d.rg.tk/\r.d.au=Cs ins d.au
theorem K4 {u:List In} (h:∀i∈u,Ep i) (s:Nat):∀x∈SW u s,Ox x:=by grind [Ep,SW,zQ]
theorem Si (O:0<=ga) (S:ga<=1073741824) {u:List In} (z:∀i∈u,Ep i) {d:xU} {y:Nat->SS} (G:y 0=⟨d,[],[],[]⟩) (I:∀s,za c d (y s).d/\cz c ga u s (y s) (y (s+1))):
  ∀s,(y s).R.length=s/\(∀j,j<s->((y s).R.getD j []).length=(SW u j).length)/\(∀l∈(y s).R,ln l<=1000/\∀m∈l,YE m/\m.kind≠17)/\(∀e∈(y s).en,Ui e)/\(∀j,(s<=j\/SW u j=[])->(y s).d.au[j]? =d.au[j]?)/\XV d.rq (y s).d.rq
 |0=>by rw[G];exact⟨rfl,λj hj=>absurd hj (zBa _),λl hl=>(by cases hl),λe B=>(by cases B),λ_ _=>rfl,XV.refl _⟩
 | s+1=>by
  obtain⟨L,Y,i2,i3,M,i5⟩:=Si O S z G I s;obtain⟨f,A,V,E,W⟩:=(I s).2;have X:=(Nl (λi hi=>(z i hi).b) s).1;obtain⟨r1,r2,r3,U⟩:=Ti O S (K4 z s) (d:=(y s).d) (f:=f) (by rw[A];exact i3) (by rw[A]) V (λk=>(E k).1) _ (zAe _);rw[W];dsimp only;have C:=(E (SW u s).length).2.1;refine⟨by rw[zAf,zCf,L],λj hj=>?_,λl hl=>?_,r2,λj hj=>?_,i5.trans (by rw[A]at U;exact U)⟩
  .rw[zAk];by_cases h:j=s
   .subst h;rw[zBb zB,L,zCz];exact C
   .rw[zA9 zB,<-zAk];exact Y j zB
  .rcases zAy.1 hl with hl|hl
   .exact i2 l hl
   .rw[zA8.1 hl];exact⟨zB,r1⟩
  .by_cases h:j=s
   .subst h;have B:SW u j=[]:=hj.elim (λh=>absurd h zB) id;rw[B,zBq,A];exact M j (.inl (zAe _))
   .rw[r3 j h,A];exact M j (hj.imp (λh=>by omega) id)
theorem Ri (m:List In) (k s:Nat):(m++pg k dd).getD s dd=m.getD s dd:=by grind
theorem Kq (m:List In) (k s:Nat):SW (m++pg k dd) s=SW m s:=by
 unfold SW;rw[Ri];by_cases h:s<ln m
 .simp[h,show s<ln m+k by omega]
 .rw[show m.getD s dd=dd by grind,hW (λh=>by cases h.2),hW (λh=>by cases h.2)]
theorem Jq (m:List In) (k:Nat) (l:List Bool):Cs (m++pg k dd) l=Cs m l:=by
 unfold Cs
 congr 1
 funext s b
 unfold vq;rw[Ri];by_cases h:s<ln m
 .simp[h,show s<ln m+k by omega]
 .rw[show m.getD s dd=dd by grind,hW (λh=>by cases h.2),hW (λh=>by cases h.2)]
def Iq (m:List In) (k:Nat) (d:xU):pz d (m++pg k dd)=pz d m:=by
 unfold pz;rw[Jq]
def Hq (c:Cf) (ga:Int) (m:List In) (k s:Nat) (a b:SS):cz c ga (m++pg k dd) s a b=cz c ga m s a b:=by
 unfold cz;rw[Kq]
def Qi (c:Cf) (d:xU) (I:qB c d) (u:List In) (M:ln u=ln d.au) (C:∀i∈u,Ep i) (ga:Int) (z:0<=ga) (L:ga<=1073741824):
  ∃r:DR,I7 c ga d u r/\True/\∀m k,u=m++pg k dd->zO 56 [vL c,zN d,zE fZ m,iA ga] [] (Mx r) []:=by
 have B:∀i∈u,M3 i:=λi hi=>(C i hi).b
 have W:ln d.au=1\/d.au.length=2:=by have:=I.au;have:=I.a.e;omega
 obtain⟨A,S,G⟩:=Es c ga z L u B (pz d u) (K5 I u);have y:=Si z L C S (λs=>⟨(G s).1,(G s).2.2⟩) (ln d.au);obtain⟨hT,⟨_,Y,e3,U⟩,_⟩:=G (ln d.au);refine⟨⟨E7 (A (ln d.au)).d ga,(A (ln d.au)).R,(A (ln d.au)).en,(A (ln d.au)).ks⟩,⟨J5 hT.i ga z L,hT.a,hT.n,y.1,y.2.1,λl h=>⟨(y.2.2.1 l h).1,λm O=>((y.2.2.1 l h).2 m O).1⟩,λl h m O=>((y.2.2.1 l h).2 m O).2,by dsimp only;omega,y.2.2.2.1,by dsimp only;omega,U,λV=>KN.mk z (KN.of z V y.2.2.2.2.2),λs E X=>?_,hT.t⟩,?_,λm k e=>?_⟩
 .show(A (ln d.au)).d.au[s]? =_
  rw[y.2.2.2.2.1 s (.inr X)]
  show(Cs u d.au)[s]? =_
  unfold Cs;rw[uJ,Os E,Os E]
 .trivial
 .subst e;simp only[Iq,Hq]at S G;exact zt I m (by rw[zAf]at M;omega) (λi hi=>B i (by simp[hi])) ga z L A S G
open Classical in
noncomputable def XX (c:Cf) (d:xU) (u:List In) (ga:Int):DR:=if h:∃r:DR,I7 c ga d u r/\True/\∀m k,u=m++pg k dd->zO 56 [vL c,zN d,zE fZ m,iA ga] [] (Mx r) []then h.choose else⟨dd,[],[],[]⟩
def af (c:Cf) (d:xU) (A:qB c d) (u:List In) (y:ln u=ln d.au) (z:∀i∈u,Ep i) (ga:Int) (B:0<=ga) (C:ga<=1073741824):
  I7 c ga d u (XX c d u ga)/\True/\∀m k,u=m++pg k dd->zO 56 [vL c,zN d,zE fZ m,iA ga] [] (Mx (XX c d u ga)) []:=by
 have h:=Qi c d A u y z ga B C;unfold XX;rw[zFa h];exact h.choose_spec
theorem VV (c:Cf) (d:xU) (u:List In) (ga:Int):(XX c d u ga).en.length<=2000/\(XX c d u ga).ks.length<=2000:=by
 unfold XX;split
 .rename_i h;have:=h.choose_spec.1;exact⟨this.el,this.kl⟩
 all_goals grind
end
def oa (u:List In) (b k:Nat):List In:=(pi k).map λj=>u.getD (b+j) dd
def Pi (u:List In) (b k:Nat):oa u b (k+1)=oa u b k++[u.getD (b+k) dd]:=by simp[oa,zB4]
def Oi (c:Cf) (u:List In) (a:Nat):List In:=oa u (jP c.ags a).toNat (c.ags.getD a dd).ses.toNat
def yw (r:DR):AV:=zE jC r.R
def PK (ga:Int) (u:List xU) (i:Nat):List xU:=QI (λ_ d=>XT d ga) u i
def fQ (ga:Int) (u:List xU) (y:Nat->DR) (i:Nat):List xU:=(pi (ln u)).map λk=>if k<i then(y k).d else XT (u.getD k dd) ga
def Mh (n:Nat) (u:Nat->DR) (i:Nat):List AV:=(pi n).map λk=>if k<i then yw (u k)else .s (.slice none 0 0)
def XJ (u:Nat->DR) (i:Nat):List En:=((pi i).map λk=>(u k).en).flatten
def fU (u:Nat->DR) (i:Nat):List Int:=((pi i).map λk=>(u k).ks).flatten
def OV (u:Nat->DR) (i:Nat):XJ u (i+1)=XJ u i++(u i).en:=by simp[XJ,zB4]
def OW (u:Nat->DR) (i:Nat):fU u (i+1)=fU u i++(u i).ks:=by simp[fU,zB4]
theorem VW {u:Nat->DR} (h:∀i,(u i).en.length<=2000):∀i,(XJ u i).length<=2000*i
 |0=>zAn _
 |i+1=>by
  have:=VW h i;have:=h i;rw[OV,zAf];omega
theorem VX {u:Nat->DR} (h:∀i,(u i).ks.length<=2000):∀i,(fU u i).length<=2000*i
 |0=>zAn _
 |i+1=>by
  have:=VX h i;have:=h i;rw[OW,zAf];omega
theorem YF (n i:Nat) (f g:Nat->α) (hi:i<n):((pi n).map λk=>if k<i+1 then f k else g k)=((pi n).map λk=>if k<i then f k else g k).set i (f i):=by apply zBe<;>grind [List.length_map,List.length_range,List.getElem?_range,List.getElem?_eq_none]
theorem VY (n i:Nat) (f g:Nat->α) (hi:i<n):((pi n).map λk=>if k<i then f k else g k)[i]? =some (g i):=by grind
theorem pf (n:Nat) (f g:Nat->α):((pi n).map λk=>if k<n then f k else g k)=(pi n).map f:=by grind [List.map_congr_left]
theorem OX {l:List Ag} (h:LP l) {i j:Nat} (u:i<=j) (hj:j<=ln l):jP l i<=jP l j:=by
 induction j with
 |zero=>rw[show i=0 by omega];exact zCi _
 |succ j y=>
  grind [LP,jP]
theorem nf (c:Cf) (S:LP c.ags) (ga:Int) (n0:0<=ga) (n1:ga<=1073741824) (u:List xU) (a7:ln u=ln c.ags) (hI:∀i,i<ln u->qB c (u.getD i dd)) (E:List In) (b4:(ln E:Int)<=jP c.ags (ln c.ags))
  (z:Nat->DR) (au:∀i,(z i).en.length<=2000) (av:∀i,(z i).ks.length<=2000) (hr:∀i,i<ln u->zO 115 [vL c,zN (XT (u.getD i dd) ga),zE fZ (Oi c E i),iA ga] [] (Mx (z i)) [])
  (A B C:List AV) (a2 a3 a4:Nat) (vw:List Vw):
  zO 46 [eJ c false ga (.ref 1011 0 (u.map zN).length) (.ref 1012 0 a2) (.ref 1013 0 a3) (.ref 1014 0 a4) (zE wE vw),zE fZ E] [(1011,.arr 17 (u.map zN) false),(1012,.arr 5 A false),(1013,.arr 3 B false),(1014,.arr 1 C false)]
   (.tup [.sl false ((pi (ln u)).map λk=>yw (z k)),zE bM (XJ z (ln u)),zE iA (fU z (ln u))]) [(1011,.arr 17 ((fQ ga u z (ln u)).map zN) false),(1012,.arr 5 A false),(1013,.arr 3 B false),(1014,.arr 1 C false)]:=by
 have a8:=zA zN u;have a1:=zA wP c.ags;have b7:=S.1;have a5:∀i,(PK ga u i).length=ln u:=λi=>vI _ _ _
 have a6:∀i,((PK ga u i).map zN).length=ln u:=λi=>by rw[f7,a5]
 have L:PK ga u 0=u:=kC _ _;unfold eJ;refine eM call46 λF hF=>?_
 refine WW ?_;refine zM (ln u) [1011,2,3,1012,1013,1014] [2,3,1012,1013,1014] [2,3,21,57] [22,2,3,21,57] Z (λi T U=>⟨(22,iA i)::T,(1011,.arr 17 ((PK ga u i).map zN) false)::U⟩) ?_;(conv=>whnf);refine⟨by(rw[L];rfl),?_,?_⟩
 .intro i hi
  have hy:((PK ga u i).map zN)[i]? =some (zN (u.getD i dd)):=by
   rw[zAh];unfold PK;rw[uJ,Os hi,hW (zDa i)];rfl
  have e:(PK ga u (i+1)).map zN=((PK ga u i).map zN).set i (zN (XT (u.getD i dd) ga)):=by unfold PK;rw[uC _ _ _ _ hi]
  have kb:=Ul (hI i hi) ga;have bf:=a6 i;rw[e];clear e hr hI L;generalize XT (u.getD i dd) ga=d2 at *;generalize u.getD i dd=d1 at *;generalize (PK ga u i).map zN=X at *;refine zP kb ?_;rfl
 .have ag:(PK ga u (ln u)).map zN=(fQ ga u z 0).map zN:=by
   congr 1
   unfold fQ;apply zBe;intro j;unfold PK;rw[uJ,zAh];by_cases hj:j<ln u
   .rw[Os hj,Os hj,zB2 hj];simp
   .rw[hW hj,zBj qM];rfl
  rw[ag];refine WW ?_;have ax:min (ln u:Int) (ln c.ags:Int)=(ln u:Int):=by rw[a7];exact zFq _
  rw[a8,a1,ax]
  have az:Mh (ln u) z 0=pg (ln u) (.s (.slice none 0 0)):=by
   unfold Mh;apply zBe;intro j;rw[zAh,zC5];by_cases hj:j<ln u
   .rw[zB2 hj,Os hj];simp
   .rw[hW hj,zBj qM];rfl
  have bb:∀i,(Mh (ln u) z i).length=ln u:=λi=>by unfold Mh;rw[f7,zBp]
  have bd:∀i,((fQ ga u z i).map zN).length=ln u:=λi=>by unfold fQ;rw[f7,f7,zBp]
  refine zW 9 1042 3 Z Z Z ?_;refine zW 10 1043 1 Z Z Z ?_;refine zM (ln u) [41,1011,1042,1043,2,3,1012,1013,1014] [2,3,1012,1013,1014] [2,3,8,49,57] [9,10,50,2,3,8,49,57] Z (λi T U=>⟨(9,.ref 1042 0 ((XJ z i).map bM).length)::(10,.ref 1043 0 ((fU z i).map iA).length)::(50,iA i)::T,(41,.arr 1 (Mh (ln u) z i) false)::(1011,.arr 17 ((fQ ga u z i).map zN) false)::(1042,.arr 3 ((XJ z i).map bM) true)::(1043,.arr 1 ((fU z i).map iA) true)::U⟩) ?_;(conv=>whnf);refine⟨by(rw[az];rfl),?_,?_⟩
  .intro i hi;have a9:i<ln c.ags:=by omega
   have hy:((fQ ga u z i).map zN)[i]? =some (zN (XT (u.getD i dd) ga)):=by
    rw[zAh];unfold fQ;rw[VY _ _ _ _ hi];rfl
   have e1:(fQ ga u z (i+1)).map zN=((fQ ga u z i).map zN).set i (zN (z i).d):=by
    unfold fQ;rw[YF _ _ _ _ hi,zBt]
   have e2:Mh (ln u) z (i+1)=(Mh (ln u) z i).set i (yw (z i)):=by
    unfold Mh;rw[YF _ _ _ _ hi]
   have b9:(Mh (ln u) z i)[i]? =some (.s (.slice none 0 0)):=by
    unfold Mh;exact VY _ _ _ _ hi
   have bf:=bd i;have b0:=bb i;have b2:=VW au i;have b5:=VX av i;have bl:=au i;have bx:=av i;have b3:=zA bM (XJ z i);have b6:=zA iA (fU z i);have br:=zA bM (z i).en;have bz:=zA iA (z i).ks;have ks:=Cc c i;have I:=hr i hi;have ht:=xj c S i a9;rw[e1,e2,OV,OW,zAd,zAd];clear e1 e2 hr hI L az ag;unfold Mx D7 at I
   change zO 115 [_,_,_,_] [] (.tup [_,yw (z i),_,_]) []at I
   generalize XT (u.getD i dd) ga=D1,(z i).d=D2 at *;rw[show yw (z i)= .sl false ((z i).R.map jC)from Z]at *; generalize (z i).R.map jC=R2,(fQ ga u z i).map zN=X,Mh (ln u) z i=Y,(XJ z i).map bM=V,(fU z i).map iA=W at *;rw[show zE bM (z i).en= .sl false ((z i).en.map bM)from Z,show zE iA (z i).ks= .sl false ((z i).ks.map iA)from Z]at I;unfold zE at I;unfold zN wG at hy I⊢;unfold Vf at ks ht;unfold vL at ks I;refine zP ks ?_;obtain⟨G,ap⟩:∃G:Nat,jP c.ags i=(G:Int):=⟨(jP c.ags i).toNat,by have:=kG S i zB;omega⟩;obtain⟨N,hN⟩:∃N:Nat,(c.ags.getD i dd).ses=(N:Int):=⟨(c.ags.getD i dd).ses.toNat,by have:=S.at (i:=i) zB;omega⟩;have b1:=kG S i zB;have ac:=S.at (i:=i) zB;have hL:IR c i=(pi N).map λk=>[yj i k (G+k)]:=by unfold IR;rw[ap,hN];rfl
   rw[show Oi c E i=oa E G N by unfold Oi;rw[ap,hN];rfl]at I;rw[hN]at ac;have bu:=zA fZ E;refine uY 12 0 1041 2 Z Z Z Z Z ?_
   refine qF hF ht Z [2,3,12,41,1011,1012,1013,1014,1041,1042,1043] [2,3,8,9,10,11,12,49,50] Z Z Z Z Z Z Z Z Z (λk ys h=>?_) (λk=>[(2,.box [zE xC c.js,zE wP c.ags,iA c.per,iA c.cap,iA c.hold,iA c.lock,bA false,iA ga,.ref 1011 0 (ln u),.ref 1012 0 a2,.ref 1013 0 a3,.ref 1014 0 a4,zE wE vw]),(3,.box [zE fZ E]),(12,.box [.ref 1041 0 ((oa E G k).map fZ).length]),(41,.arr 1 Y false),(1011,.arr 17 X false),(1012,.arr 5 A false),(1013,.arr 3 B false),(1014,.arr 1 C false),(1041,.arr 2 ((oa E G k).map fZ) true),(1042,.arr 3 V true),(1043,.arr 1 W true)]) (λ_=>True)
    (T:=[(2,.ptr 2 0 0),(3,.ptr 3 0 0),(8,.ref 41 0 (ln u)),(9,.ref 1042 0 (ln V)),(10,.ref 1043 0 (ln W)),(11,iA i),(12,.ptr 12 0 0),(49,iA (ln u)),(50,iA i)]) Z trivial (λk ys y M hI F1 h1 h2=>?_) (λhI=>?_)
   .rw[hL,zAh,zAo]at h;obtain⟨x,_,rfl⟩:=h;rfl
   .have hk:k<N:=by
     have:=(zAx.1 M).1;rw[hL,f7,zBp]at this;exact this
    rw[hL,zAh,zB2 hk]at M;obtain rfl:=zD2 M;have b8:((oa E G k).map fZ).length=k:=by unfold oa;rw[f7,f7,zBp]
    rw[Pi,zAd];generalize (oa E G k).map fZ=O at *;by_cases hq:G+k<ln E
    .have bk:=zJ fZ E (G+k) hq;generalize E.getD (G+k) dd=x at *;rw[show [x].map fZ=[.agg [bA x.opn,zE cF x.its]]from Z];unfold fZ at bk;refine WW ?_;refine⟨rfl,λF2 g1 g2=>?_⟩;refine WW ?_;exact⟨rfl,trivial⟩
    .rw[show [E.getD (G+k) dd].map fZ=[.agg [bA false,.sl false []]] by rw[zAk,zBj zB];rfl];refine WW ?_;refine⟨rfl,λF2 g1 g2=>?_⟩
     (repeat' (first|refine gM ?_|apply yY|apply xN|intro hc|(apply zG;first|(apply yL;refine XH 69 Z Z Z ?_;refine wQ tok Z Z ?_))|refine SB ?_|fail))
     exact⟨rfl,trivial⟩
   .rw[show(IR c i).length=N by rw[hL,f7,zBp]];generalize oa E G N=O at*
    show uG _ _ _ _ ⟨_,_⟩ _
    refine vJ [2,3,12,41,1011,1012,1013,1014,1042,1043] [2,3,8,9,10,11,12,49,50] Z ?_
    (conv=>whnf)
    simp only[zAr,zAa];clear ks ht hL hN ac;refine zP I ?_;rfl
  .rw[Mh,pf];refine WW ?_;refine zH [1011,1012,1013,1014] Z Z ?_ Z
   show AV.tup [.sl false (py (ln u) (List.map (λk=>yw (z k)) (pi (ln u)))),.sl false (py ((XJ z (ln u)).map bM).length ((XJ z (ln u)).map bM)),.sl false (py ((fU z (ln u)).map iA).length ((fU z (ln u)).map iA))]=_
   rw[zAl (by rw[f7,zBp];exact zAe _),zAa,zAa];rfl
structure JI (j:Jn) (s:Sg) (v:Sv) (ga:Int):Prop where
 c:CV j s.c
 n:v.en.length=j.ph.length
 e:∀e∈v.en,-1<=e/\e<=ga
 g:0<=v.gr/\v.gr<=60
theorem ma (g:Cf) (s:Sv) (l:List Cl) (ga:Int) (h:0<=s.gr/\s.gr<=60):0<=(uM g s l ga).gr/\(uM g s l ga).gr<=60:=by
 unfold uM;split
 .grind
 .unfold gV;split
  .exact⟨zCi _,(by decide:(0:Int)<=60)⟩
  .exact h
theorem U8 {j:Jn} (J:JV j) {s:Sg} {v:Sv} (u:0<=ga) (H:JI j s v ga) (g:Cf) (l:List Cl) (k:Int):JI j (AU g j s v l k ga).1 (AU g j s v l k ga).2 ga:=by
 refine⟨Xy J H.c g v l k ga,?_,?_,?_⟩
 .unfold AU;split
  .exact(SO _ _).trans H.n
  .split
   .exact(SO _ _).trans ((YP ..).trans H.n)
   .dsimp only;unfold gE;split
    all_goals exact(YP ..).trans H.n
 .have hd:=Aj g v l ga u H.e;unfold AU;split
  .exact NZ _ _ u H.e
  all_goals grind [AU,NZ,gE]
 .have hd:=ma g v l ga H.g;unfold AU;split
  .exact⟨zCi _,(by decide:(0:Int)<=60)⟩
  .split
   .exact⟨zCi _,(by decide:(0:Int)<=60)⟩
   all_goals grind [AU,gE]
theorem Ni:∀(l gd:List Lg),kT gd l=true->∀g∈l,GX g=true
 | [],_,_,g,u=>by cases u
 |x::l,gd,h,g,u=>by
  unfold kT at h;simp only[zAi]at h
  rcases zBx.1 u with rfl|u
  .exact h.1
  .exact Ni l _ h.2.2 g u
def Mi {P:Program} {st:St} {C E G:Nat} {x y z:Operand} {k:IntKind} {m l:Int} (hx:yW (zL st.tm) x= .s (.int k m)) (M:yW (zL st.tm) y= .s (.int k n)) (O:yW (zL st.tm) z= .s (.int k l)):wZ P st (.call ⟨.builtin .min, #[x,y,z], #[C,E,G]⟩) (.s (.int k (min (min m n) l))) [] [] []:=
 yZ λR X tm h w β a B A W S u=>by
  obtain⟨d0,o0,y0,Y,U,V⟩:=R;dsimp only at B;subst B;have h1:=vP u A (x:=x) gR hx;have h2:=vP u A (x:=y) gR M;have L:=vP u A (x:=z) gR O;refine⟨.int k (min (min m n) l),?_,.fz _ _ (.s _)⟩;have e1:(if n<m then n else m)=min m n:=by omega
  have I:(if l<min m n then l else min m n)=min (min m n) l:=by omega
  simp[execOp,resolve,invoke,builtin,Builtin.min_,Builtin.min2,h1,h2,L,e1,I]
def EJ {P:Program} {st:St} {op:Op} {v:AV} {d:List (Nat×xM)} {r nw:List Nat} (E:wZ P st op v d r nw) (C:(yV d).all (r.contains ·)=true) (z:(yV d).map (zD st.h)=(yV d).map (zD d)):wZ P st op v [] r nw:=
 ⟨λX G h A hh B=>by
  have h1:=E.run X G h A hh B
  have e:over d h=over [] h:=funext λk=>by
   unfold over
   cases hk:zD d k with
   |none=>rfl
   |some e=>
    have u:=vW hk;obtain⟨i,hi⟩:=zDg u;have e1:=zAt (·[i]?) z;have y:zD st.h k=zD d k:=by simpa [hi]using e1
    have e3:=hh k (by have:=zAm.1 C k u;simpa using this)
    show some e=h k
    rw[e3,y,hk]
  rwa [e]at h1⟩
theorem Ki {y j:Int} {x:Rq} {c:Cl} (h:c∈NA y j x) (hx:RqO x) (A:0<=ga) (z:∀g∈x.legs,g.sc<=ga):(0<=c.k/\c.k<=3)/\(0<=c.si/\c.si<=ga):=by
 unfold NA at h;split at h
 .cases h
 .split at h
  .cases h
  .rename_i h1;rw[zA8]at h;subst h;dsimp only;refine⟨⟨hx.c0,hx.c1⟩,?_⟩;by_cases hi:(OF (λr:Lg=>r.jn==j) x.legs).toNat<ln x.legs
   .have u:=zQ x.legs _ hi;have hl:=hx.lg;unfold Gb at hl;rw[zAi]at hl;have:=z _ u;have hv:=Ni _ _ hl.2 _ u
    grind [NA,OF,GX]
   .rw[zAk,zBj zB]
    show(0:Int)<=0/\(0:Int)<=ga
    omega
def EK {j:Int} {u:List xU} (B:∀d∈u,qB c d) (E:0<=ga) (C:∀d∈u,KN ga d.rq):∀x∈uO j u,(0<=x.k/\x.k<=3)/\(0<=x.si/\x.si<=ga):=λx hx=>by
 unfold uO at hx;obtain⟨y,z,hx⟩:=zD9.1 hx;obtain⟨d,hd,rfl⟩:=zBm.1 z;unfold jL at hx;obtain⟨y,z,hx⟩:=zD9.1 hx;obtain⟨r,A,rfl⟩:=zBm.1 z;exact Ki hx ((B d hd).v.ok r A) E (C d hd r A)
theorem TU (j:Int):∀l:List xU,(∀d∈l,ln d.rq<=4)->(uO j l).length<=4*ln l
 | [],_=>zAe _
 |d::l,h=>by
  have h1:=gG d.rg.num j d.rq;have h2:=TU j l (λx hx=>h x (by simp[hx]));have u:=h d yE;have e:uO j (d::l)=jL d.rg.num j d.rq++uO j l:=rfl;rw[e,zAf,zAp];omega
def ZD (c:Cf) (y:List Sg) (sv:List Sv) (st:List Int) (u:List xU) (ga:Int) (k:Nat):Sg×Sv:=AU c (c.js.getD k dd) (y.getD k dd) (sv.getD k dd) (uO (k:Int) u) (st.getD k dd) ga
def YH (D:Nat->Sg×Sv) (l:List Sg) (i:Nat):List Sg:=QI (λk _=>(D k).1) l i
def YI (D:Nat->Sg×Sv) (l:List Sv) (i:Nat):List Sv:=QI (λk _=>(D k).2) l i
def XK (l:List Int) (i:Nat):List Int:=QI (λ_ _=> -1) l i
def mf (u:List Jn) (D:Nat->Sg×Sv) (n i:Nat):List AV:=(pi n).map λk=>if k<i then wE (VP (u.getD k dd) (D k).1 (D k).2)else .agg [bA false,bA false,.s (.slice none 0 0),.s (.slice none 0 0)]
def H7 (c:Cf) (ga:Int) (y:List xU) (v:AV) (u:List Sg) (sv:List Sv) (st:List Int):List (Nat×xM):=
 [(2,.box [zE xC c.js,zE wP c.ags,iA c.per,iA c.cap,iA c.hold,iA c.lock,bA false,iA ga,zE zN y,.ref 1012 0 (u.map wD).length,.ref 1013 0 (sv.map xZ).length,.ref 1014 0 (st.map iA).length,v]),(1012,.arr 5 (u.map wD) false),(1013,.arr 3 (sv.map xZ) false),(1014,.arr 1 (st.map iA) false)]
theorem Ji (c:Cf) (hv:TW c) (ga:Int) (n0:0<=ga) (n1:ga<=1000000000) (y:List xU) (a4:ln y<=4) (S:∀d∈y,qB c d) (hs:∀d∈y,KN ga d.rq) (u:List Sg) (sv:List Sv) (st:List Int) (vw:List Vw)
  (hg:ln u=ln c.js) (L:ln sv=ln c.js) (I:ln st=ln c.js) (hj:∀k,k<ln c.js->JI (c.js.getD k dd) (u.getD k dd) (sv.getD k dd) ga):
  zO 48 [.ptr 2 0 0] (H7 c ga y (zE wE vw) u sv st) (.tup [])
   (H7 c ga y (.ref 1015 0 (ln c.js)) (YH (ZD c u sv st y ga) u (ln c.js)) (YI (ZD c u sv st y ga) sv (ln c.js)) (XK st (ln c.js))++[(1015,.arr 4 (mf c.js (ZD c u sv st y ga) (ln c.js) (ln c.js)) false)]):=by
 have ac:=zA xC c.js;have V:=zA wD u;have ap:=zA xZ sv;have ag:=zA iA st;have a5:=hv.j;unfold H7;refine eM call48 λF hF=>?_
 (repeat' (first|refine qU ?_|apply yY|apply xN|intro hc|(apply zG;first|(apply zG;refine wO (Mi Z Z Z) Z ?_)|(apply fY;refine aO 1015 tok Z Z Z Z Z Z Z Z Z Z Z Z Z zB zB Z Z Z ?_))|fail))
 rw[ac,V,ap,hg,L,zFq,zFq]
 (repeat' (first|refine qU ?_|apply yY|apply xN|intro hc|(apply zG;first|(apply fY;refine aO 1015 tok Z Z Z Z Z Z Z Z Z Z Z Z Z zB zB Z Z Z ?_))|fail))
 have M:∀D,mf c.js D (ln c.js) 0=pg (ln c.js) (.agg [bA false,bA false,.s (.slice none 0 0),.s (.slice none 0 0)]):=λD=>by
  unfold mf;apply zBe;intro j;rw[zAh,zC5];by_cases hj:j<ln c.js
  .rw[zB2 hj,Os hj];simp
  .rw[hW hj,zBj qM];rfl
 have hC:=TU;have C:∀D,YH D u 0=u:=λD=>kC _ _
 have G:∀D,YI D sv 0=sv:=λD=>kC _ _
 have E:XK st 0=st:=kC _ _;have z:∀D i,((YH D u i).map wD).length=ln c.js:=λD i=>by unfold YH;rw[f7,vI,hg]
 have B:∀D i,((YI D sv i).map xZ).length=ln c.js:=λD i=>by unfold YI;rw[f7,vI,L]
 have A:∀i,((XK st i).map iA).length=ln c.js:=λi=>by unfold XK;rw[f7,vI,I]
 have O:∀D i,(mf c.js D (ln c.js) i).length=ln c.js:=λD i=>by unfold mf;rw[f7,zBp]
 rw[ag,I,z,B,A];refine zM (ln c.js) [1012,1013,1014,1015,2] [2] [0,28] [29,0,28] Z (λi T U=>⟨(29,iA i)::T,(1012,.arr 5 ((YH (ZD c u sv st y ga) u i).map wD) false)::(1013,.arr 3 ((YI (ZD c u sv st y ga) sv i).map xZ) false)::(1014,.arr 1 ((XK st i).map iA) false)::(1015,.arr 4 (mf c.js (ZD c u sv st y ga) (ln c.js) i) false)::U⟩) ?_;(conv=>whnf);refine⟨by(rw[C,G,E,M];rfl),?_,?_⟩
 .intro i hi;have a9:=zJ xC c.js i hi;have a8:((YH (ZD c u sv st y ga) u i).map wD)[i]? =some (wD (u.getD i dd)):=by rw[zAh];unfold YH;rw[uJ,Os zB,hW (zDa i)];rfl
  have bf:((YI (ZD c u sv st y ga) sv i).map xZ)[i]? =some (xZ (sv.getD i dd)):=by rw[zAh];unfold YI;rw[uJ,Os zB,hW (zDa i)];rfl
  have bb:((XK st i).map iA)[i]? =some (iA (st.getD i dd)):=by rw[zAh];unfold XK;rw[uJ,Os zB,hW (zDa i)];rfl
  have bk:(mf c.js (ZD c u sv st y ga) (ln c.js) i)[i]? =some (.agg [bA false,bA false,.s (.slice none 0 0),.s (.slice none 0 0)]):=VY _ _ _ _ hi;have eg:(YH (ZD c u sv st y ga) u (i+1)).map wD=((YH (ZD c u sv st y ga) u i).map wD).set i (wD (ZD c u sv st y ga i).1):=by unfold YH;rw[uC _ _ _ _ zB]
  have ev:(YI (ZD c u sv st y ga) sv (i+1)).map xZ=((YI (ZD c u sv st y ga) sv i).map xZ).set i (xZ (ZD c u sv st y ga i).2):=by unfold YI;rw[uC _ _ _ _ zB]
  have ek:(XK st (i+1)).map iA=((XK st i).map iA).set i (iA (-1)):=by unfold XK;rw[uC _ _ _ _ zB]
  have ew:mf c.js (ZD c u sv st y ga) (ln c.js) (i+1)=(mf c.js (ZD c u sv st y ga) (ln c.js) i).set i (wE (VP (c.js.getD i dd) (ZD c u sv st y ga i).1 (ZD c u sv st y ga i).2)):=YF _ _ _ _ hi;have J:=hv.jv _ (zQ c.js i hi);have H:=hj i hi;have cl:(uO (i:Int) y).length<=4*ln y:=hC i y λd hd=>(S d hd).v.n4
  have R:=EK (j:=(i:Int)) S n0 hs;have hp:=hv.p;have a3:=hv.cp;have a2:=J.n;have a1:=H.n;have HD:Ap c (sv.getD i dd) (uO (i:Int) y) ga:=⟨hp.1,zB,zB,n0,n1,H.e,λx hx=>(R x hx).1,λx hx=>(R x hx).2,zB,zB⟩
  have kd:zO 117 [vL c,xC (c.js.getD i dd),wD (u.getD i dd),xZ (sv.getD i dd),zE uK (uO (i:Int) y),iA (st.getD i dd),iA ga] [] (.tup [wD (ZD c u sv st y ga i).1,xZ (ZD c u sv st y ga i).2]) []:=
   Mr c _ J _ H.c _ _ _ ga HD (by have:=ma c (sv.getD i dd) (uO (i:Int) y) ga H.g;omega)
  have ko:=Hi (c.js.getD i dd) J (ZD c u sv st y ga i).1 (Xy J H.c _ _ _ _ _) (ZD c u sv st y ga i).2;have kc:=Wf c false ga y i zB (λd hd=>(S d hd).bd) ((YH (ZD c u sv st y ga) u i).map wD) ((YI (ZD c u sv st y ga) sv i).map xZ) (((XK st i).map iA).set i (iA (-1))) (mf c.js (ZD c u sv st y ga) (ln c.js) i) (ln c.js) (ln c.js) (ln c.js) (ln c.js);have au:=z (ZD c u sv st y ga) i;have ax:=B (ZD c u sv st y ga) i;have av:=A i;have az:=O (ZD c u sv st y ga) i;rw[eg,ev,ek,ew];clear eg ev ek ew C G E M HD R hC z B A O hj H J;generalize (YH (ZD c u sv st y ga) u i).map wD=X,(YI (ZD c u sv st y ga) sv i).map xZ=Y,(XK st i).map iA=Z',mf c.js (ZD c u sv st y ga) (ln c.js) i=W,ZD c u sv st y ga i=p at *;generalize VP (c.js.getD i dd) p.1 p.2=w at *;generalize uO (i:Int) y=l,u.getD i dd=s,sv.getD i dd=v,st.getD i dd=k,c.js.getD i dd=j at *;have a6:(X.set i (wD p.1))[i]? =some (wD p.1):=zBy zB;have a7:(Y.set i (xZ p.2))[i]? =some (xZ p.2):=zBy zB
  (have gt:=kd;have gv:=ko;(repeat' (first|refine qU ?_|apply yY|apply xN|intro hc|(apply zG;first|(refine vF 38 ?_;refine wO (EJ (zK kc Z Z Z Z Z) Z Z) Z ?_))|fail))<;>clear gt gv)
  rfl
 ·(refine WW ?_)
  exact uQ [2,1012,1013,1014,1015] Z Z Z Z
