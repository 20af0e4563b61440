/- Part 13. -/
import Derived.Test.YtdjfiebpnmieoaaGreatC12
import Derived.Scope
namespace Go.Proofs.YtdjfiebpnmieoaaGreat.Av
open Tryz
set_option linter.all false
set_option maxRecDepth 4000
set_option maxHeartbeats 2000000
open List renaming length->ln,replicate->nm,getD->ny
open Inhabited renaming default->dd
variable {c:Code}{l:List Vh}
def wv (k:Int) (f:Nat):Prop:=(k=2/\f=3)\/(k=3/\f=1)\/(k=4/\f=2)\/(k=5/\f=1)
def D7 (m:Ms) (f:Nat):Prop:=ln m.tok=10/\m.data=[]/\m.args.length=f/\∀i,i<f->Pj (m.args.getD i dd)=true
def dp (m:Ms) (A:M2 m):∃b:Bool,zO 127 [yC m] [] (bA b) []/\∀f,wv m.kind f->(b=true↔D7 m f):=by
 obtain⟨xs,e,z,c,h⟩:=Np m A
 rcases z with rfl|rfl
 .refine⟨true,?_,λf u=>⟨λ_=>(h f u).1 Z,λ_=>rfl⟩⟩;clear h;refine eM call127 λF hF=>?_
  exact lk c
 .refine⟨false,?_,λf u=>⟨λh1=>absurd h1 zAp,λh1=>absurd ((h f u).2 h1) yX⟩⟩;clear h;refine eM call127 λF hF=>?_
  exact lk c
def ub:Nat->Int->List Int
 |0,n=>[n]
 |z+1,n=>if 128<=n then(n % 128+128)::ub z (n/128)else [n]
theorem MU:∀z n,(ub z n).length<=z+1
 |0,n=>zAg _
 |z+1,n=>by
  unfold ub;split
  .have:=MU z (n/128);simp only[zAm];omega
  .simp
def vv (z:Nat) (n:Int) (h:n<128):ub z n=[n]:=by
 cases z with
 |zero=>rfl
 |succ z=>unfold ub;rw[Of zB]
def bp:Nat->Int->Int
 |0,_=>0
 |z+1,n=>if 128<=n then 1+bp z (n/128)else 0
theorem DL:∀z n,0<=bp z n/\bp z n<=z
 |0,n=>⟨zCn _,zCn _⟩
 |z+1,n=>by
  unfold bp;split
  .have:=DL z (n/128);omega
  .omega
def uv (z:Nat) (n:Int) (h:n<128):bp z n=0:=by
 cases z with
 |zero=>rfl
 |succ z=>unfold bp;rw[Of zB]
def np (x:Int) (u:0<=x) (h1:x<=4294967295):x.tdiv 128=x/128/\UJ .i64 (x.tdiv 128):=by grind [UJ]
def qv (n:Int) (h1:0<=n) (h2:n<=4294967295):∃k:Int,1<=k/\zO 325 [iA n] [] (iA k) []:=by
 refine⟨1+bp 5 n,by have:=DL 5 n;omega,?_⟩;have G:=DL 5 n;refine eM call325 λF hF=>?_
 refine WW ?_;refine gE (5) [] [] [] [0,3] Z (λA T U I=>∃(x:Int) (k:Int),(0<=x/\x<=4294967295/\x<P7 A*128/\k+bp A x=1+bp 5 n/\1<=k)/\I=⟨(0,iA x)::(3,iA k)::T,U⟩) ?_;(conv=>whnf);refine⟨?_,?_⟩
 .exact⟨n,1,⟨h1,h2,by show n<34359738368*128;omega,rfl,zCn _⟩,rfl⟩
 .rintro A st ⟨x,k,⟨b1,b1',b2,b3,b4⟩,rfl⟩;by_cases hx:128<=x
  .have M:A≠0:=λe=>by
    subst e;have:P7 0=1:=rfl;omega
   obtain⟨z,rfl⟩:∃z,A=z+1:=⟨A-1,zB⟩;obtain⟨e,L⟩:=np x b1 b1';have C:P7 (z+1)=128*P7 z:=rfl
   have B:bp (z+1) x=1+bp z (x/128):=by
    show(if 128<=x then _ else _)=_
    rw[Os hx]
   rw[B,<-e]at b3;have u:0<=x.tdiv 128/\x.tdiv 128<=4294967295/\x.tdiv 128<P7 z*128:=by rw[e];rw[C]at b2;omega
   have E:=DL z (x.tdiv 128);clear B C e b2;refine WW ?_;exact⟨z,zB,x.tdiv 128,k+1,⟨u.1,u.2.1,u.2.2,zB,zB⟩,rfl⟩
  .rw[uv A x zB,Int.add_zero]at b3;rw[<-b3];exact lc
def Z2 (n:Int) (h1:0<=n) (h2:n<=4294967295):zO 276 [iA n] [] (.tup [zD yA (ub 5 n),iA 0]) []:=by
 obtain⟨k,hk,c⟩:=qv n h1 h2;refine eM call276 λF hF=>?_
 refine zQ c ?_;refine zS 4 1001 1 Z Z Z ?_;refine gE (5) [1001] [] [] [0,4] Z (λB T U V=>∃(u:List Int) (x:Int),(0<=x/\x<=4294967295/\x<P7 B*128/\u++ub B x=ub 5 n/\u.length<=100)/\V=⟨(0,iA x)::(4,.ref 1001 0 (u.map yA).length)::T,(1001,.arr 1 (u.map yA) true)::U⟩) ?_;(conv=>whnf);refine⟨?_,?_⟩
 .exact⟨[],n,⟨h1,h2,by show n<34359738368*128;omega,rfl,by simp⟩,rfl⟩
 .rintro B st ⟨u,x,⟨b1,b1',b2,b3,b4⟩,rfl⟩;have R:=zA yA u;by_cases hx:128<=x
  .have hz:B≠0:=λe=>by
    subst e;have:P7 0=1:=rfl;omega
   obtain⟨z,rfl⟩:∃z,B=z+1:=⟨B-1,zB⟩;obtain⟨e,Y⟩:=np x b1 b1';have C:=zBm (a:=x) (b:=128) b1;have M:P7 (z+1)=128*P7 z:=rfl
   have L:ub (z+1) x=(x % 128+128)::ub z (x/128):=by
    show(if 128<=x then _ else _)=_
    rw[Os hx]
   rw[L]at b3;have I:(u++[x.tmod 128+128]).map yA=u.map yA++[yA (x.tmod 128+128)]:=by simp
   have E:u++[x.tmod 128+128]++ub z (x.tdiv 128)=ub 5 n:=by rw[e,C,zA0];exact b3
   have S:0<=x.tmod 128/\x.tmod 128<=127:=by rw[C];omega
   have A:0<=x.tdiv 128/\x.tdiv 128<=4294967295/\x.tdiv 128<P7 z*128:=by rw[e];rw[M]at b2;omega
   have G:ln u+1<=100:=by
    have O:=zAv List.length b3;have W:=MU 5 n;simp only[zAh,zAm]at O;omega
   clear L b3 M e C;refine WW ?_;exact⟨z,zB,u++[x.tmod 128+128],x.tdiv 128,⟨A.1,A.2.1,A.2.2,E,by simpa using G⟩,by rw[I];rfl⟩
  .rw[vv B x zB]at b3;rw[<-b3];have I:zD yA (u++[x])= .sl false ((u.map yA++[yA (x)]).take (u.map yA++[yA (x)]).length):=by rw[zAb];unfold zD;rw[zAf];rfl
   rw[I];exact lc
def dv (tok args:List Int):Nat->List Int
 |0=>tok
 |i+1=>dv tok args i++ub 5 (args.getD i dd)
theorem Ig (tok args:List Int):∀i,(dv tok args i).length<=ln tok+6*i
 |0=>by show (ln tok)<=_;omega
 |i+1=>by
  have:=Ig tok args i;have h2:=MU 5 (args.getD i dd);unfold dv;simp only[zAh];omega
def A8 (f:Int):AV:= .agg [iA f,iA 0,iA 0,iA 0,iA 0]
def mp (k:Int) (f:Nat) (u:wv k f):zO 246 [iA k] [] (A8 f) []:=by
 rcases u with⟨rfl,rfl⟩|⟨rfl,rfl⟩|⟨rfl,rfl⟩|⟨rfl,rfl⟩
 all_goals
  refine eM call246 λF hF=>?_
  exact lc
def bv (k:Int) (h1:1<=k) (h2:k<=12):zO 236 [iA k] [] (bA true) []:=by
 refine eM call236 λF hF=>?_
 exact lc
def pv (m:Ms) (f:Nat) (S:wv m.kind f) (h:D7 m f):∃xs:List AV,ln xs<=200/\zO 232 [yC m] [] (.sl false xs) []:=by
 obtain⟨h1,h2,h3,O⟩:=h;have M:=mp m.kind f S;have ac:f<=3/\1<=f:=by unfold wv at S;omega
 obtain⟨Y,z,u,da⟩:=m;dsimp only at *;subst h2;have G:=Ig z u;refine⟨((dv z u f).map yA++[]).take ((dv z u f).map yA++[]).length,by have:=G f;simp;omega,?_⟩;have au:=zA yA z;have ap:=zA iA u;have C:dv z u 0=z:=rfl;have E:∀i:Nat,dv z u (i+1)=dv z u i++ub 5 (u.getD i dd):=λ_=>rfl
 generalize dv z u=B at *;rw[show yC ⟨Y,z,u,[]⟩= .agg [iA Y,zD yA z,zD iA u,zD yA []]from Z];rw[show A8 f= .agg [iA f,iA 0,iA 0,iA 0,iA 0]from Z]at M;clear S;refine eM call232 λF hF=>?_
 (have gd:=M;(repeat' (first|refine uD ?_|apply yZ|apply xM|intro hc|(apply zG;first|(apply yG;refine wA 1001 tok Z Z Z Z Z Z (zZ _ _ (λ_=>rfl)) Z Z Z zB Z Z Z ?_))|fail))<;>clear gd)
 refine uG 1001 Z ?_;refine yW (ln u) [1001,1,3] [1,3] [1,3,16,17] [4,18,1,3,16,17] Z (λi T U zs=>(i<=ln u)/\zs=⟨(4,.ref 1001 0 ((B i).map yA).length)::(18,iA i)::T,(1001,.arr 1 ((B i).map yA) true)::U⟩) (Lp ?_ ?_ ?_)
 .refine⟨zAr _,?_⟩;rw[C];rfl
 .rintro i st' hi ⟨hik,rfl⟩;have L:=O i zB;unfold Pj at L;rw[zAe]at L;have cv:=Z2 (u.getD i dd) L.1 L.2;have hy:=zJ iA u i hi;have R:=G i;have W:=zA yA (B i);have av:=zA yA (ub 5 (u.getD i dd));have ax:=MU 5 (u.getD i dd);have I:(B (i+1)).map yA=(B i).map yA++(ub 5 (u.getD i dd)).map yA:=by rw[E,zAf]
  rw[I];clear E G C I M L O;generalize (B i).map yA=A,ub 5 (u.getD i dd)=V at *;generalize u.getD i dd=a at *;refine zQ cv ?_;exact⟨zB,rfl⟩
 .rintro st' ⟨hik,rfl⟩;subst h3;have R:=G (ln u);have W:=zA yA (B (ln u));clear E G C O M;generalize (B (ln u)).map yA=A at *;have ag:(([]:List Int).map yA).length=0:=rfl;exact lc
def Gi (m:Ms) (O:M2 m) (f:Nat) (M:wv m.kind f):∃b:Bool,zO 205 [yC m] [] (bA b) []/\(b=true↔D7 m f):=by
 have C:=mp m.kind f M;have hk:2<=m.kind/\m.kind<=5:=by unfold wv at M;omega
 have G:=bv m.kind zB zB;have E:=pv m f M;have b1:=O.t;have b2:=O.a;have b3:=O.d;have ar:=zA yA m.tok;have ag:=zA iA m.args;have ap:=zA yA m.data;have Y:f<=3/\1<=f:=by unfold wv at M;omega
 rw[show A8 f= .agg [iA f,iA 0,iA 0,iA 0,iA 0]from Z]at C;by_cases h1:ln m.tok=10
 case neg=>
  refine⟨false,?_,λh=>absurd h zAp,λh=>absurd h.1 h1⟩;clear E;refine eM call205 λF hF=>?_
  exact ld (xV C G)
 by_cases h2:ln m.args=f
 case neg=>
  refine⟨false,?_,λh=>absurd h zAp,λh=>absurd h.2.2.1 h2⟩;clear E;refine eM call205 λF hF=>?_
  exact ld (xV C G)
 by_cases L:ln m.data=0
 case neg=>
  refine⟨false,?_,λh=>absurd h zAp,λh=>absurd (by rw[h.2.1];rfl) L⟩;clear E;refine eM call205 λF hF=>?_
  exact ld (xV C G)
 have L:=zBa L
 rcases Pp m.args (ln m.args) (zAg _)with⟨k,ac,u,I⟩|z
 .refine⟨false,?_,λh=>absurd h zAp,λh=>?_⟩
  case refine_2=>
   have:=h.2.2.2 k zB;rw[u]at this;cases this
  clear E;refine eM call205 λF hF=>?_
  refine yJ (xV C G) ?_;refine yW (ln m.args) [1] [1] [1,97,98] [99,1,97,98] Z (λi T U zs=>(i<=k)/\zs=⟨(99,iA i)::T,U⟩) (Lp ?_ ?_ ?_)
  .exact⟨zAr _,rfl⟩
  .rintro i st' hi ⟨hik,rfl⟩;have hy:=zJ iA m.args i hi;by_cases e:i=k
   .subst e;unfold Pj at u;rw[zAk]at u;generalize m.args.getD i dd=a at *;by_cases W:0<=a
    .have g2:¬a<=4294967295:=λh=>u ⟨W,h⟩
     clear u;exact lc
    .clear u;exact lc
   .have A:=I i zB;unfold Pj at A;rw[zAe]at A;obtain⟨R,S⟩:=A;clear u I;generalize m.args.getD i dd=a at *;refine WW ?_;exact⟨zB,rfl⟩
  .rintro st' ⟨hik,rfl⟩;exfalso;omega
 .have B:D7 m f:=⟨h1,L,h2,λi hi=>z i zB⟩;obtain⟨xs,hx,V⟩:=E B;refine⟨true,?_,λ_=>B,λ_=>rfl⟩;clear B E;rw[show yC m= .agg [iA m.kind,zD yA m.tok,zD iA m.args,zD yA m.data]from Z]at *; refine eM call205 λF hF=>?_
  refine yJ (xV C G) ?_;refine zN (ln m.args) [1] [1] [1,97,98] [99,1,97,98] Z (λi T U=>⟨(99,iA i)::T,U⟩) (Lq ?_ ?_)
  .intro i hi;have hy:=zJ iA m.args i hi;have A:=z i hi;unfold Pj at A;rw[zAe]at A;obtain⟨R,S⟩:=A;clear z;generalize m.args.getD i dd=a at *;refine WW ?_;rfl
  .exact lk V
def qb (l:List Vh) (id:Int):∃k,k<=ln l/\(∀i,i<k->(l.getD i dd).id<id)/\(k<ln l->¬(l.getD k dd).id<id):=by
 induction l with
 |nil=>exact⟨0,zAg _,λi h=>absurd h (zB7 _),λh=>absurd h zW⟩
 | cons x l u=>
  obtain⟨k,h1,h2,z⟩:=u;by_cases hx:x.id<id
  .refine⟨k+1,by simpa using h1,λi hi=>?_,λhk=>?_⟩
   .cases i with
    |zero=>exact hx
    |succ i=>exact h2 i zB
   all_goals grind
  .exact⟨0,zAr _,λi h=>absurd h (zB7 _),λ_=>hx⟩
def zy :IA l=true↔l.length<=8/\∀i,i<ln l->(0<=(l.getD i dd).id/\(l.getD i dd).id<=4294967295/\0<=(l.getD i dd).cls/\(l.getD i dd).cls<=3)/\(0<i->(l.getD (i-1) dd).id<(l.getD i dd).id):=by
 unfold IA;simp only[zAn,zAe,zAq,zA3]
 grind [IA,ZO]
def fQ (n a b:Int):zO 75 [iA n,iA a,iA b] [] (bA (uQ n a b)) []:=by
 (cases hb:uQ n a b with|false=>((refine eM call75 λF hF=>?_);((refine WW (I2 (λhc=>?_) λhc=>?_)));all_goals (first|exact zI|(simp only[uQ,zAk]at hb;first|exact KP|exact MO)))|true=>(simp only[uQ,zAe]at hb;(refine eM call75 λF hF=>?_);((refine WW ?_));all_goals (first|exact zI|exact KP|exact MO)))
def yy (a:Ag):Bool:=a.lim.all λn=>uQ n 0 8
def Ei (a:Ag):Bool:=decide ((ln a.sec:Int)=8/\(ln a.lim:Int)=4)&&(yy a&&(uQ a.rights 0 63&&(uQ a.cls 0 3&&(uQ a.req 0 4&&(uQ a.ses 1 2&&(uQ a.burst 0 1000&&uQ a.rate 0 a.burst))))))
def xy {a:Ag} (h:∀s:Nat,s<ln a.lim->uQ (a.lim.getD s dd) 0 8=true):yy a=true:=by grind [uQ,yy,List.all_eq_true,List.getElem_of_mem,List.getD]
def wy {a:Ag} {i:Nat} (hi:i<ln a.lim) (h:uQ (a.lim.getD i dd) 0 8=false):yy a=false:=by grind [uQ,yy]
def nv (a:Ag):Ei a=true↔Hv a:=by
 unfold Ei yy uQ;simp only[zAn,zAe,zAq];constructor
 .rintro⟨⟨h1,h2⟩,u,z,A,B,C,E,G⟩;exact⟨h1,h2,u,z,A,B,C,E,G⟩
 .rintro⟨h1,h2,u,z,A,B,C,E,G⟩
  grind
def Ci (a:Ag):zO 71 [vX a] [] (bA (Ei a)) []:=by
 have hs:=zA yA a.sec;have hl:=zA iA a.lim;have u:=uZ a.rights 0 63;have z:=uZ a.cls 0 3;have A:=uZ a.req 0 4;have C:=uZ a.ses 1 2;have I:=uZ a.burst 0 1000;have L:=uZ a.rate 0 a.burst;by_cases h1:(ln a.sec:Int)=8/\(ln a.lim:Int)=4
 case neg=>
  have e:Ei a=false:=by unfold Ei;rw[zAc h1];rfl
  rw[e];by_cases V:(ln a.sec:Int)=8
  all_goals
   (refine eM call71 λF hF=>?_)
   exact lc
 obtain⟨h1,h2⟩:=h1
 have e:Ei a=(yy a&&(uQ a.rights 0 63&&(uQ a.cls 0 3&&(uQ a.req 0 4&&(uQ a.ses 1 2&&(uQ a.burst 0 1000&&uQ a.rate 0 a.burst)))))):=by
  unfold Ei;rw[zAd ⟨h1,h2⟩,zAo]
 rw[e];refine eM call71 λF hF=>?_
 refine WW ?_;refine yW (ln a.lim) [1] [1] [1,16,17] [18,1,16,17] Z (λi T U S=>(∀s:Nat,s<i->uQ (a.lim.getD s dd) 0 8=true)/\S=⟨(18,iA i)::T,U⟩) (Lp ?_ ?_ ?_)
 .exact⟨λs hs=>absurd hs (zB7 _),rfl⟩
 .rintro i st hi ⟨hp,rfl⟩;have W:=zJ iA a.lim i hi;have c:=uZ (a.lim.getD i dd) 0 8
  cases B:uQ (a.lim.getD i dd) 0 8 with
  | true=>
   rw[B]at c
   have E:∀s:Nat,s<i+1->uQ (a.lim.getD s dd) 0 8=true:=λs hs=>by
    by_cases G:s=i
    .subst G;assumption
    .exact hp s zB
   clear B hp;generalize hx:a.lim.getD i dd=x at *;clear hx;refine zQ c ?_;exact⟨E,rfl⟩
  |false=>
   rw[B]at c;rw[wy hi B,zA7];generalize a.lim.getD i dd=x at *;exact lk c
 .rintro st ⟨hp,rfl⟩;rw[xy hp,zAo];clear hp;generalize uQ a.rights 0 63=q1 at *;generalize uQ a.cls 0 3=M at *;generalize uQ a.req 0 4=O at *;generalize uQ a.ses 1 2=q4 at *;generalize uQ a.burst 0 1000=R at *;generalize uQ a.rate 0 a.burst=Y at *;cases q1
  .exact lk u
  cases M
  .exact ld (xV u z)
  cases O
  .exact ld (kC u z A)
  cases q4
  .exact ld (aB u z A C)
  cases R
  .exact ld (KO u z A C I)
  .exact ld (Ld u z A C I L)
def QV (l:List Vh) (hn:ln l<=1000000):zO 382 [zD vE l] [] (bA (IA l)) []:=by
 have hl:=zA vE l;by_cases S:(ln l:Int)<=8
 case neg=>
  have e:IA l=false:=by unfold IA;rw[zAc S,zCa]
  rw[e];refine eM call382 λF hF=>?_
  exact lc
 refine eM call382 λF hF=>?_
 refine WW ?_;refine yW (ln l) [] [] [0,8,9] [10,0,8,9] Z (λi T U zs=>(∀s:Nat,s<i->ZO l s=true)/\zs=⟨(10,iA i)::T,U⟩) (Lp ?_ ?_ ?_)
 .exact⟨λs hs=>absurd hs (zB7 _),rfl⟩
 .rintro i st hi ⟨hp,rfl⟩
  have z:ZO l i=true->∀s:Nat,s<i+1->ZO l s=true:=λh s hs=>by
   by_cases R:s=i
   .subst R;exact h
   .exact hp s zB
  have A:=λh=>Hp (l:=l) hi h
  have hy:=zJ vE l i hi;have u:ZO l i=_:=rfl
  conv at u=>rhs;unfold ZO
  by_cases C:0<i
  .have B:=yF vE l ((i:Int)-1) zB zB;rw[show((i:Int)-1).toNat=i-1 by omega]at B;have Y:(l.map vE)[((i:Int)-1).toNat]? =some (vE (l.getD (i-1) dd)):=by rw[show((i:Int)-1).toNat=i-1 by omega];exact B
   clear B;generalize l.getD i dd=t,l.getD (i-1) dd=p,ZO l i=tk at *;by_cases h1:0<=t.id/\t.id<=4294967295/\0<=t.cls/\t.cls<=3/\p.id<t.id
   .obtain⟨h1,h2,M,O,W⟩:=h1;rw[zAd ⟨h1,h2,M,O,λ_=>W⟩]at u;refine WW ?_;exact⟨z u,rfl⟩
   .rw[zAc (λh=>h1 ⟨h.1,h.2.1,h.2.2.1,h.2.2.2.1,h.2.2.2.2 C⟩)]at u;rw[A u]
    by_cases E:0<=t.id<;>by_cases G:t.id<=4294967295<;>by_cases I:0<=t.cls<;>by_cases L:t.cls<=3<;>by_cases V:p.id<t.id<;>first|(exfalso;exact h1 ⟨E,G,I,L,V⟩)|(exfalso;omega;done)|(clear h1;((refine WW ?_));exact zI)
  .obtain rfl:i=0:=by omega
   generalize l.getD 0 dd=t,ZO l 0=tk at *;by_cases h1:0<=t.id/\t.id<=4294967295/\0<=t.cls/\t.cls<=3
   .obtain⟨h1,h2,M,O⟩:=h1;rw[zAd ⟨h1,h2,M,O,λh=>absurd h C⟩]at u;refine WW ?_;exact⟨z u,rfl⟩
   .rw[zAc (λh=>h1 ⟨h.1,h.2.1,h.2.2.1,h.2.2.2.1⟩)]at u;rw[A u]
    by_cases E:0<=t.id<;>by_cases G:t.id<=4294967295<;>by_cases I:0<=t.cls<;>by_cases L:t.cls<=3<;>first|(exfalso;exact h1 ⟨E,G,I,L⟩)|(exfalso;omega;done)|(clear h1;((refine WW ?_));exact zI)
 .rintro st ⟨hp,rfl⟩;have e:((List.range (ln l)).all λi=>ZO l i)=true:=zAq.2 λi hi=>hp i (zA3.1 hi)
  unfold IA;rw[e,zAo];rw[zAd S];exact lc
def GW (a:Ag):zO 77 [vX a] [] (bA (Ei a)) []:=by
 have hs:=zA yA a.sec;have hl:=zA iA a.lim;have u:=fQ a.rights 0 63;have z:=fQ a.cls 0 3;have A:=fQ a.req 0 4;have B:=fQ a.ses 1 2;have E:=fQ a.burst 0 1000;have L:=fQ a.rate 0 a.burst;have e:Ei a=(decide ((ln a.sec:Int)=8/\(ln a.lim:Int)=4)&&(yy a&&(uQ a.rights 0 63&&(uQ a.cls 0 3&&(uQ a.req 0 4&&(uQ a.ses 1 2&&(uQ a.burst 0 1000&&uQ a.rate 0 a.burst))))))):=rfl;rw[e];generalize uQ a.rights 0 63=q1,uQ a.cls 0 3=M,uQ a.req 0 4=O,uQ a.ses 1 2=q4,uQ a.burst 0 1000=R,uQ a.rate 0 a.burst=W at *;clear e;by_cases h1:(ln a.sec:Int)=8
 case neg=>
  rw[zAc (λh=>h1 h.1),zA7];refine eM call77 λF hF=>?_
  exact lc
 cases q1 with
 |false=>
  rw[zA7,zCa,zCa];refine eM call77 λF hF=>?_
  exact lk u
 |true=>
 cases M with
 |false=>
  rw[zA7,zCa,zCa,zCa];refine eM call77 λF hF=>?_
  exact ld (xV u z)
 |true=>
 by_cases h2:(ln a.lim:Int)=4
 case neg=>
  rw[zAc (λh=>h2 h.2),zA7];refine eM call77 λF hF=>?_
  exact ld (xV u z)
 rw[zAd ⟨h1,h2⟩,zAo,zAo,zAo];refine eM call77 λF hF=>?_
 refine yJ (xV u z) ?_;refine yW (ln a.lim) [1] [1] [1,28,29] [30,1,28,29] Z (λi T U S=>(∀s:Nat,s<i->uQ (a.lim.getD s dd) 0 8=true)/\S=⟨(30,iA i)::T,U⟩) (Lp ?_ ?_ ?_)
 .exact⟨λs hs=>absurd hs (zB7 _),rfl⟩
 .rintro i st hi ⟨hp,rfl⟩;have V:=zJ iA a.lim i hi;have c:=fQ (a.lim.getD i dd) 0 8;clear u z A B E L
  cases C:uQ (a.lim.getD i dd) 0 8 with
  | true=>
   rw[C]at c
   have G:∀s:Nat,s<i+1->uQ (a.lim.getD s dd) 0 8=true:=λs hs=>by
    by_cases I:s=i
    .subst I;assumption
    .exact hp s zB
   clear C hp;generalize hx:a.lim.getD i dd=x at *;clear hx;refine zQ c ?_;exact⟨G,rfl⟩
  |false=>
   rw[C]at c;rw[wy hi C,zA7];generalize a.lim.getD i dd=x at *;exact lk c
 .rintro st ⟨hp,rfl⟩;rw[xy hp,zAo];clear hp u z;cases O
  .exact lk A
  cases q4
  .exact ld (xV A B)
  cases R
  .exact ld (kC A B E)
  .exact ld (aB A B E L)
def sp (r:Rg):Bool:=decide (0<=r.num/\r.num<4)&&(Ei r.ag&&(NU r.tk&&(IA r.vh&&(Am r.bk&&decide (r.bk.rate=r.ag.rate/\r.bk.burst=r.ag.burst)))))
def WK (r:Rg) (hv:ln r.vh<=1000000):zO 345 [qD r] [] (bA (sp r)) []:=by
 have u:=Ci r.ag;have z:=PA r.tk;have A:=QV r.vh hv;have B:=yn r.bk;unfold sp;generalize Ei r.ag=q1,NU r.tk=G,IA r.vh=I,Am r.bk=q4 at *;by_cases h1:0<=r.num
 case neg=>
  rw[zAc (λh=>h1 h.1)];refine eM call345 λF hF=>?_
  exact lc
 by_cases h2:r.num<4
 case neg=>
  rw[zAc (λh=>h2 h.2)];refine eM call345 λF hF=>?_
  exact lc
 rw[zAd ⟨h1,h2⟩]
 cases q1 with
 |false=>
  refine eM call345 λF hF=>?_
  exact lk u
 |true=>
 cases G with
 |false=>
  refine eM call345 λF hF=>?_
  exact ld (xV u z)
 |true=>
 cases I with
 |false=>
  refine eM call345 λF hF=>?_
  exact ld (kC u z A)
 |true=>
 cases q4 with
 |false=>
  refine eM call345 λF hF=>?_
  exact ld (aB u z A B)
 |true=>
 by_cases C:r.bk.rate=r.ag.rate
 case neg=>
  rw[zAc (λh=>C h.1)];refine eM call345 λF hF=>?_
  exact ld (aB u z A B)
 by_cases E:r.bk.burst=r.ag.burst
 .rw[zAd ⟨C,E⟩];refine eM call345 λF hF=>?_
  refine yJ (aB u z A B) ?_
  all_goals (first|exact zI|exact MO)
 .rw[zAc (λh=>E h.2)];refine eM call345 λF hF=>?_
  refine yJ (aB u z A B) ?_
  all_goals (first|exact zI|exact MO)
def ZM (r:Rg) (hv:ln r.vh<=1000000):zO 367 [qD r] [] (bA (sp r)) []:=by
 have u:=GW r.ag;have z:=OH r.tk;have A:=OE r.vh hv;have B:=bi r.bk;unfold sp;rw[uh];generalize Ei r.ag=q1,YS r.tk=G,IA r.vh=I,Am r.bk=q4 at *;by_cases h1:0<=r.num
 case neg=>
  rw[zAc (λh=>h1 h.1)];refine eM call367 λF hF=>?_
  exact lc
 by_cases h2:r.num<4
 case neg=>
  rw[zAc (λh=>h2 h.2)];refine eM call367 λF hF=>?_
  exact lc
 rw[zAd ⟨h1,h2⟩]
 cases q1 with
 |false=>
  refine eM call367 λF hF=>?_
  exact lk u
 |true=>
 cases G with
 |false=>
  refine eM call367 λF hF=>?_
  exact ld (xV u z)
 |true=>
 cases I with
 |false=>
  refine eM call367 λF hF=>?_
  exact ld (kC u z A)
 |true=>
 cases q4 with
 |false=>
  refine eM call367 λF hF=>?_
  exact ld (aB u z A B)
 |true=>
 by_cases C:r.bk.rate=r.ag.rate
 case neg=>
  rw[zAc (λh=>C h.1)];refine eM call367 λF hF=>?_
  exact ld (aB u z A B)
 by_cases E:r.bk.burst=r.ag.burst
 .rw[zAd ⟨C,E⟩];refine eM call367 λF hF=>?_
  refine yJ (aB u z A B) ?_
  all_goals (first|exact zI|exact MO)
 .rw[zAc (λh=>E h.2)];refine eM call367 λF hF=>?_
  refine yJ (aB u z A B) ?_
  all_goals (first|exact zI|exact MO)
def JT (l:List Vh) (id:Int) (I:ln l<=1000000) (k:Nat) (L:k<=ln l) (C:∀i,i<k->(l.getD i dd).id<id) (E:k<ln l->¬(l.getD k dd).id<id):zO 388 [zD vE l,iA id] [] (iA k) []:=by
 have A:=zA vE l;refine eM call388 λF hF=>?_
 refine WW ?_;refine yW (ln l+1) [] [] [0,1] [5,0,1] Z (λi T U G=>(i<=k)/\G=⟨(5,iA i)::T,U⟩) (Lp ?_ ?_ ?_)
 .exact⟨zAr _,rfl⟩
 .rintro i st hi ⟨hik,rfl⟩;by_cases z:i<k
  .have B:=zJ vE l i zB;have hh:=C i z;generalize l.getD i dd=x at *;refine WW ?_;exact⟨zB,rfl⟩
  .obtain rfl:i=k:=by omega
   by_cases u:i<ln l
   .have B:=zJ vE l i u;have hh:=E u;generalize l.getD i dd=x at *;exact lc
   .exact lc
 .rintro st ⟨hik,rfl⟩;exfalso;omega
def ab (l:List Vh) (c:Int) (A:ln l<=1000000):zO 411 [zD vE l,iA c] [] (iA (qO l c)) []:=by
 have hl:=zA vE l;refine eM call411 λF hF=>?_
 refine WW ?_;refine zU (l) [] [] [1,8,9] [5,10,1,8,9] Z (λi ga T U=>⟨(5,iA (qO ga c))::(10,iA i)::T,U⟩) (Lq ?_ ?_)
 .intro i ga x post hx hi;have B:=yI vE hx hi;have z:=zV hx hi;have u:qO ga c<=i:=by rw[<-hi];exact zBy _ _
  have e:qO (ga++[x]) c=qO ga c+(if x.cls=c then 1 else 0):=by
   unfold qO;rw[zFf,zAh];by_cases h:x.cls=c
   all_goals simp[h]
  clear hx;by_cases h:x.cls=c
  .rw[Os h]at e;rw[e];generalize qO ga c=m at *;refine WW ?_;rfl
  .rw[Of h,zC8]at e;rw[e];generalize qO ga c=m at *;refine WW ?_;rfl
 .exact lc
def pb (a:Ag) (c:Int) (u:0<=c) (h1:c<ln a.lim):zO 412 [vX a,iA c] [] (iA (a.lim.getD c.toNat dd)) []:=by
 have z:=zA iA a.lim;have A:=yF iA a.lim c u h1;refine eM call412 λF hF=>?_
 exact lc
def vy (a:Ag) (c:Int):Ag:=⟨a.sec,a.rights,c,a.lim,a.req,a.ses,a.rate,a.burst⟩
theorem tp (hv:IA l=true):∀j,j<ln l->∀i,i<j->(l.getD i dd).id<(l.getD j dd).id
 |0,_,i,hi=>absurd hi (zB7 _)
 |j+1,hj,i,hi=>by
  have h1:=((zy.1 hv).2 (j+1) hj).2 zB;rw[Nat.add_sub_cancel]at h1;by_cases h:i=j
  .subst h;exact h1
  .have:=tp hv j zB i zB;omega
def OC {id:Int} (hv:IA l=true) {k:Nat} (B:k<=ln l) (C:∀i,i<k->(l.getD i dd).id<id) (E:k<ln l->¬(l.getD k dd).id<id):UM l id=true↔k<ln l/\(l.getD k dd).id=id:=by
 constructor
 .intro h;obtain⟨x,hx,u⟩:=zBz.1 h;obtain⟨i,hi,rfl⟩:=zCw hx;rw[zBl]at u;have z:l.getD i dd=l[i]:=by simp[ny,hi]
  rw[<-z]at u;by_cases h1:i<k
  .grind
  .have hk:k<ln l:=by omega
   by_cases h2:i=k
   .grind
   .have A:=tp hv i hi k zB
    grind
 all_goals grind [IA,UM]
theorem mb (l:List Vh) (V:ln l<=1000000) (a:Ag) (ac:(ln a.lim:Int)=4) (ar:a.cls<=3) (v:Vh) (hv:IA l=true) (h1:0<=v.id) (h2:v.id<=4294967295) (h3:0<=v.cls) (h4:v.cls<=a.cls) (I:UM l v.id=false) (h5:(qO l v.cls:Int)<a.lim.getD v.cls.toNat dd) (h6:ln l<8)
  (k:Nat) (k1:k<=ln l) (W:∀i,i<k->(l.getD i dd).id<v.id) (Y:k<ln l->¬(l.getD k dd).id<v.id):zO 387 [zD vE l,vX a,vE v] [] (.tup [zD vE (l.take k++v::l.drop k),iA 0]) []:=by
 have ax:=zA vE l;have av:=zA iA a.lim;have O:=QV l V;have c3:=JT l v.id V k k1 W Y;have c4:=ab l v.cls V;have c5:=pb a v.cls h3 zB
 have G:k<ln l->(l.getD k dd).id≠v.id:=λhk e=>by
  rw[(OC hv k1 W Y).2 ⟨hk,e⟩]at I;cases I
 rw[hv]at O;clear hv I W Y
 have au:(qO l v.cls:Int)<=1000000:=by
  have:qO l v.cls<=ln l:=zBy _ _;omega
 generalize (qO l v.cls:Int)=cn,a.lim.getD v.cls.toNat dd=az at *;have U:((l.take (k:Int).toNat).map vE).length=k:=by simp;omega
 have S:((l.drop (k:Int).toNat).map vE).length=ln l-k:=by simp
 obtain⟨N,hN⟩:∃N,N=ln l+1:=⟨_,rfl⟩;have L:((l.map vE).length:Int)+1=(N:Int):=by omega
 obtain⟨E,A,ag⟩:∃E,E=(l.take k).map vE++nm (ln l+1-k) (AV.agg [.s (.int .i64 0),.s (.int .i64 0)])/\E.length=ln l+1:=⟨_,rfl,by simp;omega⟩
 have C:(nm N (AV.agg [.s (.int .i64 0),.s (.int .i64 0)])).take 0++(l.take (k:Int).toNat).map vE++(nm N (AV.agg [.s (.int .i64 0),.s (.int .i64 0)])).drop (0+((l.take (k:Int).toNat).map vE).length)=E:=by
  rw[A,U,hN];simp
 have ap:E[(k:Int).toNat]? =some (AV.agg [.s (.int .i64 0),.s (.int .i64 0)]):=by
  rw[A,zBc uH];rw[zCj,Os uH]
 have u:(E.set (k:Int).toNat (.agg [iA v.id,iA v.cls])).take ((k:Int)+1).toNat++(l.drop (k:Int).toNat).map vE++(E.set (k:Int).toNat (.agg [iA v.id,iA v.cls])).drop (((k:Int)+1).toNat+((l.drop (k:Int).toNat).map vE).length)=(l.take k++v::l.drop k).map vE:=by
  have e1:E.set (k:Int).toNat (.agg [iA v.id,iA v.cls])=(l.take k++[v]).map vE++nm (ln l-k) (AV.agg [.s (.int .i64 0),.s (.int .i64 0)]):=by
   rw[A,zDe _ _ uH,show (ln l)+1-k=(ln l-k)+1 by omega,zD3];rw[show(k:Int).toNat-((l.take k).map vE).length=0 by simp;omega];simp[vE]
  have R:((l.take k++[v]).map vE).length=k+1:=by simp;omega
  have e2:((l.take k++[v]).map vE++nm (ln l-k) (AV.agg [.s (.int .i64 0),.s (.int .i64 0)])).drop (k+1+(ln l-k))=[]:=zFv (by rw[zAh,R,zB6];exact zAg _);rw[e1,S,show((k:Int)+1).toNat=k+1 by omega,zCd zB,zAj zB,e2];simp
 clear A;obtain⟨M,B⟩:∃M,M=(l.take k++v::l.drop k).map vE:=⟨_,rfl⟩;have hz3l:ln M=ln l+1:=by rw[B];simp;omega
 rw[<-B]at u;rw[show zD vE (l.take k++v::l.drop k)= .sl false M by rw[B];rfl];clear B;rw[show vE v= .agg [iA v.id,iA v.cls]from Z]at *; by_cases hk:k<ln l
 .have hy:=zJ vE l k hk;have G:=G hk;generalize l.getD k dd=x at *;refine eM call387 λF hF=>?_
  (have gd:=O;have gn:=c3;have gt:=c4;have gv:=c5;(repeat' (first|refine uD ?_|apply yZ|apply xM|intro hc|(apply zG;first|(apply eJ;refine Pn tok Z Z Z Z Z Z Z Z Z Z Z Z L zB zB Z Z Z ?_)|(refine Bx tok Z Z Z Z Z Z Z (zZ _ _ (λ_=>rfl)) Z zB (by first|exact C|exact u) Z ?_)|(apply jN;refine YP tok Z Z Z Z Z Z Z zB zB Z ?_))|fail))<;>clear gd gn gt gv)
  exact zH [] Z Z (zAv (λz=>AV.tup [AV.sl false z,iA 0]) Ex) Z
 .clear G;refine eM call387 λF hF=>?_
  (have gd:=O;have gn:=c3;have gt:=c4;have gv:=c5;(repeat' (first|refine uD ?_|apply yZ|apply xM|intro hc|(apply zG;first|(apply eJ;refine Pn tok Z Z Z Z Z Z Z Z Z Z Z Z L zB zB Z Z Z ?_)|(refine Bx tok Z Z Z Z Z Z Z (zZ _ _ (λ_=>rfl)) Z zB (by first|exact C|exact u) Z ?_)|(apply jN;refine YP tok Z Z Z Z Z Z Z zB zB Z ?_))|fail))<;>clear gd gn gt gv)
  exact zH [] Z Z (zAv (λz=>AV.tup [AV.sl false z,iA 0]) Ex) Z
theorem HC (l:List Vh) (V:ln l<=1000000) (a:Ag) (A:Int) (ag:(ln a.lim:Int)=4) (az:a.cls<=3) (v:Vh):∃(l':List Vh) (e:Int),((0<=e/\e<=100)/\(e≠0->l'=[]))/\(ln l'<=ln l+1/\l'.length<=8)/\zO 387 [zD vE l,vX (vy a (min a.cls A)),vE v] [] (.tup [zD vE l',iA e]) []/\zO 371 [zD vE l,vX a,vE v,iA A] [] (.tup [zD vE l',iA e]) []:=by
 have a5:=zA vE l;have a4:=zA iA a.lim;have p2:=QV l V;have R:=Dg l v.id V;have S:=OE l V;have c3:=Ip l v.cls V;have p4:=ab l v.cls V;have ar:min a.cls A<=3:=by omega
 have a1:min a.cls A<=a.cls:=by omega
 obtain⟨k,k1,L,M⟩:=qb l v.id;have B:=λhv=>OC (l:=l) (id:=v.id) hv k1 L M
 have Y:=JT l v.id V k k1 L M;have u:=λhv h1 h2 I h4 W h5 h6=>mb l V (vy a (min a.cls A)) ag ar v hv h1 h2 I h4 W h5 h6 k k1 L M
 have a2:qO l v.cls<=1000000:=by
  have:qO l v.cls<=ln l:=zBy _ _;omega
 have O:=λI h4=>pb (vy a (min a.cls A)) v.cls I h4
 rw[show(vy a (min a.cls A)).lim=a.lim from Z]at u O;rw[show(vy a (min a.cls A)).cls=min a.cls A from Z]at u;have ap:vX (vy a (min a.cls A))= .agg [zD yA a.sec,iA a.rights,iA (min a.cls A),zD iA a.lim,iA a.req,iA a.ses,iA a.rate,iA a.burst]:=rfl;rw[ap]at *; generalize hf:cO l v.id=fv at *;generalize W:UM l v.id=tw at *;generalize av:IA l=ok at *;generalize qO l v.cls=cn at *;cases ok
 .refine⟨[],1,⟨zB,λ_=>rfl⟩,⟨zAr _,zAr _⟩,?_,?_⟩
  .clear B u O;refine eM call387 λF hF=>?_
   exact lk p2
  .clear B u O;refine eM call371 λF hF=>?_
   exact ly (xV R S)
 by_cases h1:0<=v.id/\v.id<=4294967295
 case neg=>
  refine⟨[],8,⟨zB,λ_=>rfl⟩,⟨zAr _,zAr _⟩,?_,?_⟩
  .clear B u O
   by_cases g1:0<=v.id<;>((refine eM call387 λF hF=>?_);((refine zQ p2 ?_));exact zI)
  .clear B u O
   by_cases g1:0<=v.id<;>((refine eM call371 λF hF=>?_);((refine MN (xV R S) ?_));exact zI)
 obtain⟨h1,h2⟩:=h1;generalize E:min a.cls A=mm at *;by_cases I:0<=v.cls/\v.cls<=mm
 case neg=>
  refine⟨[],17,⟨zB,λ_=>rfl⟩,⟨zAr _,zAr _⟩,?_,?_⟩
  .clear B u O
   by_cases g1:0<=v.cls<;>((refine eM call387 λF hF=>?_);((refine zQ p2 ?_));exact zI)
  .clear B u O;subst E
   by_cases g1:0<=v.cls<;>((refine eM call371 λF hF=>?_);((refine MN (xV R S) ?_));exact zI)
 obtain⟨I,h4⟩:=I;have B:=B Z;have G:=O I zB;clear O;cases tw
 case true=>
  obtain⟨hk,a3⟩:=B.1 Z;have hy:=zJ vE l k hk;refine⟨[],11,⟨zB,λ_=>rfl⟩,⟨zAr _,zAr _⟩,?_,?_⟩
  .clear u B L M;generalize l.getD k dd=x at *;refine eM call387 λF hF=>?_
   exact ld (xV p2 Y)
  .clear B u;subst E;refine eM call371 λF hF=>?_
   exact ly (xV R S)
 have C:∀hk:k<ln l,(l.getD k dd).id≠v.id:=λhk e=>by
  have:=B.2 ⟨hk,e⟩;cases this
 clear B;have a6:=yF iA a.lim v.cls I zB;have u:=u Z h1 h2 I h4 Z;generalize a.lim.getD v.cls.toNat dd=ax at *;by_cases h5:ax<=cn
 .refine⟨[],14,⟨zB,λ_=>rfl⟩,⟨zAr _,zAr _⟩,?_,?_⟩
  .clear u L M;by_cases hk:k<ln l
   .have hy:=zJ vE l k hk;have C:=C hk;generalize l.getD k dd=x at *;refine eM call387 λF hF=>?_
    exact ld (aB p2 Y p4 G)
   .clear C;refine eM call387 λF hF=>?_
    exact ld (aB p2 Y p4 G)
  .clear u C L M;subst E;refine eM call371 λF hF=>?_
   exact ly (kC R S c3)
 by_cases h6:ln l<8
 case neg=>
  refine⟨[],10,⟨zB,λ_=>rfl⟩,⟨zAr _,zAr _⟩,?_,?_⟩
  .clear u L M;by_cases hk:k<ln l
   .have hy:=zJ vE l k hk;have C:=C hk;generalize l.getD k dd=x at *;refine eM call387 λF hF=>?_
    exact ld (aB p2 Y p4 G)
   .clear C;refine eM call387 λF hF=>?_
    exact ld (aB p2 Y p4 G)
  .clear u C L M;subst E;refine eM call371 λF hF=>?_
   exact ly (kC R S c3)
 refine⟨l.take k++v::l.drop k,0,⟨zB,λh=>absurd Z h⟩,⟨by simp;omega,by simp;omega⟩,u zB h6,?_⟩;clear av W u C p2 Y p4 G;subst E;refine eM call371 λF hF=>?_
 refine MN (kC R S c3) ?_;refine yW (ln l+1) [6] [6] [0,6] [12,0,6] Z (λi T U zs=>(i<=k)/\zs=⟨(12,iA i)::T,U⟩) (Lp ?_ ?_ ?_)
 .exact⟨zAr _,rfl⟩
 .rintro i st hi ⟨hik,rfl⟩;by_cases au:i<k
  .have hy:=zJ vE l i zB;have hh:=L i au;generalize l.getD i dd=x at *;refine WW ?_;exact⟨zB,rfl⟩
  .obtain rfl:i=k:=by omega
   by_cases ac:i<ln l
   .have hy:=zJ vE l i ac;have hh:=M ac;generalize l.getD i dd=x at*
    (repeat' (first|refine dZ ?_|apply yZ|apply xM|intro hc|(apply zG;first|(apply yG;refine wA 1001 tok Z Z Z Z Z Z (zZ _ _ (λ_=>rfl)) Z Z Z uH Z Z Z ?_)|(apply yR;refine kD tok Z Z ?_))|refine SB ?_|fail))
    exact zH [] Z Z (zAv (λz=>AV.tup [AV.sl false z,iA 0]) (by rw[zAu,zAb];simp[zDg,zC4,vE,iA])) Z
   ·(repeat' (first|refine dZ ?_|apply yZ|apply xM|intro hc|(apply zG;first|(apply yG;refine wA 1001 tok Z Z Z Z Z Z (zZ _ _ (λ_=>rfl)) Z Z Z uH Z Z Z ?_)|(apply yR;refine kD tok Z Z ?_))|refine SB ?_|fail))
    exact zH [] Z Z (zAv (λz=>AV.tup [AV.sl false z,iA 0]) (by rw[zAu,zAb];simp[zDg,zC4,vE,iA])) Z
 .rintro st ⟨hik,rfl⟩;exfalso;omega
section
variable {b:Frame} {a:Act} {k:List Item} {cs:List Frame} {w:World} {P:Program}
def fR :step P (lone (b.atR a (.code (.scope c)::k)) cs w)= .next (lone (b.atR a (.code c:: .inScope c::k)) cs w):=
 step_lone_go (by simp[stepG,stepG.exec,Frame.atR])
def HE :step P (lone (b.atR a (.inScope c::k)) cs w)= .next (lone (b.atR a k) cs w):=
 step_lone_go (by simp[stepG,stepG.exec,Frame.atR])
end
section
variable {F:Fence} {n:Nat} {P:Program} {Q:Exit->Act->World->Prop} {a:Act} {w:World}
def pe (h:c.wpIn F n P (Exit.noGoto Q) a w):(Code.scope c).wpIn F n P Q a w:=by
 intro b k cs I hb E;have z:(lone (b.atR a (.code (.scope c)::k)) cs w).fenced P F:=fenced_calm hb E Z;obtain⟨e,B,C,A,u⟩:=h b (.inScope c::k) cs I hb E
 cases e with
 |normal=>exact⟨.normal,B,C,A,.head z fR (StepsIn.trans u (.one (fenced_calm hb E Z) HE))⟩
 | exit id=>
  have hx:exitTo id (.inScope c::k)=exitTo id k:=by simp[exitTo]
  exact⟨.exit id,B,C,A,λL hk=> .head z fR (u.1 L (by rw[hx];exact hk)),
   λG hk=>let ⟨k₁,h1,h2⟩:=u.2 G (by rw[hx];exact hk);⟨k₁,h1,.head z fR h2⟩⟩
 |goto l=>exact A.elim
 |ret=>exact⟨_,B,C,A,.of_steps (.one z fR) u⟩
 |panic M=>exact⟨_,B,C,A,.of_steps (.one z fR) u⟩
 |outgrown=>exact⟨_,B,C,A,.of_steps (.one z fR) u⟩
end
section
variable {P:Program} {K0:List Nat} {F:Fr K0} {m:Nat} {Q:Exit->St->Prop} {st:St}
def noG (Q:Exit->St->Prop):Exit->St->Prop
 | .goto _,_=>False
 |e,s=>Q e s
def vU (h:uR P F m c st (noG Q)):uR P F m (.scope c) st Q:=⟨λa w H=>
 pe (Code.wpIn_mono (λe a' w' ⟨s,h1,h2⟩=>by
  cases e with
  |goto l=>exact h1.elim
  |_=>exact⟨s,h1,h2⟩) (h.run a w H))⟩
def eK (K A:List Nat) (st0 u z:St) (C:K0.all (K.contains ·)=true) (E:restr K A st=st0)
 (B:uR P F m c st0 (λe s=>match e with| .normal=>restr K A s=u|e=>Q e s))
 (h1:uR P F m c u (λe s=>match e with| .normal=>restr K A s=z|e=>Q e s))
 (h2:uR P F m c z (λe s=>match e with| .normal=>False|e=>Q e s)):uR P F m (.loop c) st Q:=by
 refine wF (λn s=>(n=2/\s=st0)\/(n=1/\s=u)\/(n=0/\s=z)) 2 K A C (.inl ⟨rfl,E⟩) ?_;rintro n s (⟨rfl,rfl⟩|⟨rfl,rfl⟩|⟨rfl,rfl⟩)
 .refine⟨λa w H=>Code.wpIn_mono (λe a' w' ⟨s,q1,q2⟩=>?_) (B.run a w H)⟩
  cases e with
  |normal=>exact⟨s,⟨1,zB,.inr (.inl ⟨rfl,q1⟩)⟩,q2⟩
  |_=>exact⟨s,q1,q2⟩
 all_goals grind
def vV {l:Nat} (h:Q .normal st):uR P F m (.label l) st Q:=⟨λ_ _ H=>wpIn_label ⟨st,h,H⟩⟩
end
def Y2 (N:Nat) (h1:1<=N) (h2:N<=1000000):zO 413 [.s (.slice none 0 0),iA N] [] (.ref 1001 0 0) [(1001,.arr 2 [] true)]:=by
 have z:(N:Int)-(0-0)=(N:Int):=by omega
 have u:(N:Int)-(0-((0:Nat):Int))=(N:Int):=by omega
 refine eM call413 λF hF=>?_
 (repeat' (first|refine WS ?_|refine SG (I2 (λhc=>?_) λhc=>?_)|refine SG λhc=>?_|(apply zG;first|(refine yE (JP tok Z Z Z) Z ?_)|(apply jN;refine yE (ee tok Z Z Z Z Z) Z ?_)|(refine Fu tok Z Z Z Z Z Z Z Z Z Z Z Z Z Z (by first|exact z|exact u) h1 zB Z Z Z ?_)|(apply jN;refine Gu tok Z Z Z Z Z Z Z Z ?_))|(first|refine Mi 0 22 1001 Z Z Z ?_|first|refine SR ?_|refine SK (I2 (λhc=>?_) λhc=>?_)|refine SK λhc=>?_|fail)|fail))
 exact zP [1001] Z Z Z Z
def mv:zO 413 [.s (.slice none 0 0),iA 0] [] (.s (.slice none 0 0)) []:=by
 refine eM call413 λF hF=>?_
 (repeat' (first|refine uD ?_|apply yZ|apply xM|intro hc|(apply zG;first|(refine yE (JP tok Z Z Z) Z ?_))|fail))
 exact zP [] Z Z Z Z
theorem ip (a b:List Vh) (S:ln a<=1000) (hb:ln b<=1000):zO 389 [.sl false [zD vE a,zD vE b]] [] (zD vE (a++b)) []:=by
 have L:=zA vE a;have M:=zA vE b;rw[show zD vE (a++b)= .sl false (a.map vE++b.map vE) by unfold zD;rw[zAf]];have E:zD vE a= .sl false (a.map vE):=rfl;have G:zD vE b= .sl false (b.map vE):=rfl;rw[E,G];have z:∀y,(a.map vE)[0]? =some y->ln y.cells=2:=zZ _ _ (λ_=>rfl);have C:∀y,(b.map vE)[0]? =some y->ln y.cells=2:=zZ _ _ (λ_=>rfl);generalize a.map vE=A,b.map vE=B at *;clear E G;have O:([AV.sl false A,.sl false B]:List AV)[(0:Int).toNat]? =some (.sl false A):=rfl;have R:([AV.sl false A,.sl false B]:List AV)[(0+1:Int).toNat]? =some (.sl false B):=rfl;have I:([AV.sl false A,.sl false B]:List AV).length=2:=rfl;generalize [AV.sl false A,.sl false B]=X at *;refine eM call389 λF hF=>?_
 refine WW ?_;refine eK [] [3,11,0,9,10] ⟨[(3,iA 0),(11,iA 0),(0,.sl false X),(9,.sl false X),(10,iA (ln X))],[]⟩ ⟨[(3,iA (0+(ln A:Int))),(11,iA (0+1)),(0,.sl false X),(9,.sl false X),(10,iA (ln X))],[]⟩ ⟨[(3,iA (0+(ln A:Int)+(ln B:Int))),(11,iA (0+1+1)),(0,.sl false X),(9,.sl false X),(10,iA (ln X))],[]⟩ rfl Z ?_ ?_ ?_
 ·(refine WW ?_)
  rfl
 ·(refine WW ?_)
  rfl
 by_cases hN:ln A+ln B=0
 .have u:=mv;rw[show iA 0=iA (0+(ln A:Int)+(ln B:Int)) by rw[show(0:Int)+(ln A:Int)+(ln B:Int)=0 by omega]]at u
  (repeat' (first|refine uD ?_|apply yZ|apply xM|intro hc|(apply zG;apply xO;(refine vG 413 ?_;first|refine yE (gG u Z Z Z Z Z) Z ?_|refine qB (gG u Z Z Z Z Z) Z Z Z ?_|refine ZR (gG u Z Z Z Z Z) Z Z Z ?_))|(apply zG;first|refine SM ?_)|fail))
  refine zS 6 1001 2 Z Z Z ?_;refine eK [1001] [6,27,25,26] ⟨[(6,.ref 1001 0 0),(27,iA 0),(25,.sl false X),(26,iA (ln X))],[(1001,.arr 2 [] true)]⟩ ⟨[(6,.ref 1001 0 (ln A)),(27,iA (0+1)),(25,.sl false X),(26,iA (ln X))],[(1001,.arr 2 A false)]⟩ ⟨[(6,.ref 1001 0 (A++B).length),(27,iA (0+1+1)),(25,.sl false X),(26,iA (ln X))],[(1001,.arr 2 (A++B) true)]⟩ rfl Z ?_ ?_ ?_
  ·(repeat' (first|refine uD ?_|apply yZ|apply xM|intro hc|(apply zG;first|(apply yG;first|refine xW tok Z Z Z Z Z Z Z z Z Z Z zB Z ?_|refine jX tok Z Z Z Z Z Z Z Z Z Z Z C zB Z ?_))|fail))
   rfl
  ·(repeat' (first|refine uD ?_|apply yZ|apply xM|intro hc|(apply zG;first|(apply yG;first|refine xW tok Z Z Z Z Z Z Z z Z Z Z zB Z ?_|refine jX tok Z Z Z Z Z Z Z Z Z Z Z C zB Z ?_))|fail))
   rfl
  ·(refine WW ?_)
   exact zH [] Z Z (zAv (AV.sl false) Uo) Z
 .have u:=Y2 (ln A+ln B) zB zB;rw[show((ln A+ln B:Nat):Int)=0+(ln A:Int)+(ln B:Int) by omega]at u
  (repeat' (first|refine uD ?_|apply yZ|apply xM|intro hc|(apply zG;apply xO;(refine vG 413 ?_;first|refine yE (gG u Z Z Z Z Z) Z ?_|refine qB (gG u Z Z Z Z Z) Z Z Z ?_|refine ZR (gG u Z Z Z Z Z) Z Z Z ?_))|(apply zG;first|refine SM ?_)|fail))
  refine eK [1001] [6,27,25,26] ⟨[(6,.ref 1001 0 0),(27,iA 0),(25,.sl false X),(26,iA (ln X))],[(1001,.arr 2 [] true)]⟩ ⟨[(6,.ref 1001 0 (ln A)),(27,iA (0+1)),(25,.sl false X),(26,iA (ln X))],[(1001,.arr 2 A false)]⟩ ⟨[(6,.ref 1001 0 (A++B).length),(27,iA (0+1+1)),(25,.sl false X),(26,iA (ln X))],[(1001,.arr 2 (A++B) true)]⟩ rfl Z ?_ ?_ ?_
  ·(repeat' (first|refine uD ?_|apply yZ|apply xM|intro hc|(apply zG;first|(apply yG;first|refine xW tok Z Z Z Z Z Z Z z Z Z Z zB Z ?_|refine jX tok Z Z Z Z Z Z Z Z Z Z Z C zB Z ?_))|fail))
   rfl
  ·(repeat' (first|refine uD ?_|apply yZ|apply xM|intro hc|(apply zG;first|(apply yG;first|refine xW tok Z Z Z Z Z Z Z z Z Z Z zB Z ?_|refine jX tok Z Z Z Z Z Z Z Z Z Z Z C zB Z ?_))|fail))
   rfl
  ·(refine WW ?_)
   exact zH [] Z Z (zAv (AV.sl false) Uo) Z
def MV (l:List Vh) (id:Int):List Vh:=l.filter λv=>decide (v.id≠id)
def Zp (l:List Vh) (x:Vh) (id:Int):MV (l++[x]) id=MV l id++(if x.id=id then []else [x]):=by grind [MV]
def Yp (l:List Vh) (id:Int):(MV l id).length<=ln l:=zBy _ _
def Xp {id:Int} (h:UM l id=false):MV l id=l:=by grind [UM,MV,List.filter_eq_self,List.any_eq_false]
def Wp {id:Int} (hv:IA l=true) {k:Nat} (hk:k<ln l) (z:(l.getD k dd).id=id):MV l id=l.take k++l.drop (k+1):=by
 have B:l.getD k dd=l[k]:=by simp[ny,hk]
 have e1:l=l.take k++l[k]::l.drop (k+1):=by rw[List.getElem_cons_drop,zDs]
 have u:=tp hv
 have h1:MV (l.take k) id=l.take k:=by
  refine List.filter_eq_self.2 λx hx=>zAd λe=>?_
  obtain⟨i,hi,rfl⟩:=zCw hx;simp only[zAw]at hi;have q1:=u k hk i zB;have A:l.getD i dd=l[i]:=by simp[ny,show i<ln l by omega]
  rw[List.getElem_take]at e;rw[A,e,z]at q1;omega
 have h2:MV (l.drop (k+1)) id=l.drop (k+1):=by
  refine List.filter_eq_self.2 λx hx=>zAd λe=>?_
  obtain⟨i,hi,rfl⟩:=zCw hx;simp only[zA8]at hi;have q1:=u (k+1+i) zB k zB;have A:l.getD (k+1+i) dd=l[k+1+i]:=by simp[ny,show k+1+i<ln l by omega]
  rw[List.getElem_drop]at e;rw[A,e,z]at q1;omega
 conv=>lhs;rw[e1]
 unfold MV at h1 h2⊢;rw[zFf,List.filter_cons,Of (by rw[<-B,z];simp),h1,h2]
def Bi (l:List Vh) (G:ln l<=1000000) (id:Int):zO 372 [zD vE l,iA id] [] (if IA l=true then(if(MV l id).length=ln l then .tup [.sl false [],iA 12]else .tup [zD vE (MV l id),iA 0])else .tup [.sl false [],iA 1]) []:=by
 have C:=zA vE l;have u:=OE l G
 cases hv:IA l with
 |false=>
  rw[hv]at u;rw[Of zAp];refine eM call372 λF hF=>?_
  exact mx u
 |true=>
 rw[hv]at u;rw[Os Z];have A:=Yp l id;have B:=zA vE (MV l id);refine eM call372 λF hF=>?_
 refine TQ u ?_;refine zS 6 1001 2 Z Z Z ?_;refine zU (l) [1001] [] [0,1,12,13] [6,14,0,1,12,13] Z (λi ga T U=>⟨(6,.ref 1001 0 ((MV ga id).map vE).length)::(14,iA i)::T,(1001,.arr 2 ((MV ga id).map vE) true)::U⟩) (Lq ?_ ?_)
 .intro i ga x post hx hi;have I:=yI vE hx hi;have E:=zV hx hi;have A:=Yp ga id;have B:=zA vE (MV ga id);have e:(MV (ga++[x]) id).map vE=(MV ga id).map vE++(if x.id=id then []else [x]).map vE:=by rw[Zp,zAf]
  rw[e];clear hx e;generalize (MV ga id).map vE=R at *;by_cases h:x.id=id
  .rw[Os h];refine WW ?_;rw[zBt,zA2];rfl
  .rw[Of h];refine WW ?_;rfl
 .by_cases h:(MV l id).length=ln l
  .rw[Os h];exact lc
  .rw[Of h];refine WW ?_;exact zH [] Z Z (zAv (λz=>AV.tup [AV.sl false z,iA 0]) Uo) Z
def tb (l:List Vh) (U:ln l<=1000) (id:Int):∃(B:List Vh) (e:Int),((0<=e/\e<=100)/\(e≠0->B=[]))/\B.length<=ln l/\zO 351 [zD vE l,iA id] [] (.tup [zD vE B,iA e]) []/\zO 372 [zD vE l,iA id] [] (.tup [zD vE B,iA e]) []:=by
 have R:=zA vE l;have p2:=QV l zB;have c:=Bi l zB id;obtain⟨k,M,C,E⟩:=qb l id;have I:=JT l id zB k M C E
 cases hv:IA l with
 |false=>
  rw[hv]at p2 c;rw[Of zAp]at c;refine⟨[],1,⟨zB,λ_=>rfl⟩,by simp,?_,c⟩;refine eM call351 λF hF=>?_
  exact mx p2
 |true=>
 have u:=OC (id:=id) hv M C E;rw[hv]at p2 c;rw[Os Z]at c
 cases hh:UM l id with
 | false=>
  rw[Os (by rw[Xp hh])]at c;refine⟨[],12,⟨zB,λ_=>rfl⟩,by simp,?_,c⟩
  have z:∀hk:k<ln l,(l.getD k dd).id≠id:=λhk e=>by
   rw[u.2 ⟨hk,e⟩]at hh;cases hh
  clear u C E c;by_cases hk:k<ln l
  .have S:=zJ vE l k hk;have z:=z hk;generalize l.getD k dd=x at *;refine eM call351 λF hF=>?_
   exact ly (xV p2 I)
  .clear z;refine eM call351 λF hF=>?_
   exact ly (xV p2 I)
 |true=>
  obtain⟨hk,O⟩:=u.1 hh;have G:=Wp hv hk O;have A:(MV l id).length=ln l-1:=by rw[G];simp;omega
  rw[Of zB]at c;refine⟨MV l id,0,⟨zB,λh=>absurd Z h⟩,zB,?_,c⟩;have L:=ip (l.take (k:Int).toNat) (l.drop ((k:Int)+1).toNat) uH uH;rw[show l.take (k:Int).toNat++l.drop ((k:Int)+1).toNat=MV l id by rw[G];congr 1]at L;have S:=zJ vE l k hk;clear u C E c G A;generalize MV l id=B,l.getD k dd=x at *;refine eM call351 λF hF=>?_
  exact ly (kC p2 I L)
