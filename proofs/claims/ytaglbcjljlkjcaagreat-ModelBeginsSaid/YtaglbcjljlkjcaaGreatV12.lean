/- Part 12. -/
import Derived.Test.YtaglbcjljlkjcaaGreatV11
namespace Go.Proofs.YtaglbcjljlkjcaaGreat.Av
open Tryz
set_option linter.all false
set_option maxRecDepth 4000
set_option maxHeartbeats 4000000
open List renaming length->ln,replicate->pg
open Inhabited renaming default->dd
variable {l:List Int}
def S1 {l:List Tk} (h:PB l=true):JW l/\l.length=8:=by
 rw[je]at h;have T:=(Vz l).1 h;refine⟨⟨by have:=T.n;omega,λt z=>?_⟩,T.n⟩;obtain⟨i,hi,rfl⟩:=zCj z;have u:i<8:=by have:=T.n;omega
 have e:l.getD i dd=l[i]:=by simp[List.getD,hi]
 cases y:(l.getD i dd).used with
 |false=>
  have:=T.f i u y
  grind [PB,LX]
 |true=>
  have:=(T.s i u y).1
  grind [PB,jq,CY]
def O1 {l:List Tk} (hb:JW l) (k:Nat) (e:Int) (t:Tk) (u:ln t.sec<=1000000):JW (FY l k e t):=by
 unfold FY;split
 .refine⟨by rw[zBn];exact hb.n,λx hx=>?_⟩
  rcases zC1 hx with h|rfl
  .exact hb.s x h
  .exact u
 .exact XA
structure GvB (r:Rg):Prop where
 num:0<=r.num/\r.num<4
 b:GT r
 tv:PB r.tk=true
 n8:r.tk.length=8
 lim:(r.ag.lim.length:Int)=4
 cls:0<=r.ag.cls/\r.ag.cls<=3
 vl:r.vh.length<=8
def vo {r:Rg} (h:Uo r=true):GvB r:=by
 unfold Uo at h;simp only[zAi,zAg]at h;obtain⟨h1,h2,y,A,M,O⟩:=h;obtain⟨B,C⟩:=S1 y;have hv:=(zx.1 A).1;unfold LO at h2;simp only[zAi,zAg]at h2;obtain⟨⟨E,z⟩,G,I,u,L⟩:=h2;unfold xY at u;rw[zAg]at u;exact⟨h1,⟨B,zB,zB,zB⟩,y,C,z,u,hv⟩
def O9:Rg:=⟨0,⟨[],0,0,[],0,0,0,0⟩,[],[],⟨0,0,0⟩⟩
def fh:Ms:=⟨0,[],[],[]⟩
def uo (e:Int):AV:= .tup [kD O9,yO fh,bA false,iA e]
def G6:GT O9:=⟨XA,zAn _,zAn _,zAn _⟩
def gC (e:Int):uo e= .tup [.agg [iA 0,.sl false [],iA 0,iA 0,.sl false [],iA 0,iA 0,iA 0,iA 0,.sl false [],.sl false [],iA 0,iA 0,iA 0],.agg [iA 0,.sl false [],.sl false [],.sl false []],bA false,iA e]:=rfl
def VK (r:Rg) (m:Ms) (s ga:Int) (u:List Int) (A b B:Bool) (y:zO 343 [kD r] [] (bA A) []) (z:zO 123 [yO m] [] (bA b) []) (C:zO 344 [zE yK r.tk,iA s] [] (bA B) []) (h:A=false\/b=false\/B=false\/(¬(ln u:Int)=0/\¬(ln u:Int)=8)) (G:ln u<=1000):
  zO 307 [kD r,yO m,iA s,iA ga,zE yA u] [] (uo 1) []:=by
 rw[gC];have E:=zA yA u;cases A
 ·(refine eM call307 λF hF=>?_)
  exact nl y
 cases b
 ·(refine eM call307 λF hF=>?_)
  exact ng (xH y z)
 cases B
 ·(refine eM call307 λF hF=>?_)
  exact ng (qS y z C)
 .rcases h with h|h|h|⟨h1,h2⟩
  .cases h
  .cases h
  .cases h
  ·(refine eM call307 λF hF=>?_)
   exact ng (qS y z C)
def qo (r:Rg) (m:Ms) (s ga:Int) (y:List Int) (u:zO 328 [kD r] [] (bA false) []):
  zO 289 [kD r,yO m,iA s,iA ga,zE yA y] [] (uo 1) []:=by
 rw[gC];by_cases h2:m.kind=2
 ·(refine eM call289 λF hF=>?_)
  exact nl u
 by_cases z:m.kind=3
 ·(refine eM call289 λF hF=>?_)
  exact nl u
 by_cases A:m.kind=4
 ·(refine eM call289 λF hF=>?_)
  exact nl u
 by_cases B:m.kind=5
 all_goals
  (refine eM call289 λF hF=>?_)
  exact nl u
def jo (r:Rg) (m:Ms) (s ga:Int) (u:List Int) (y:zO 328 [kD r] [] (bA true) []) (h2:¬m.kind=2) (z:¬m.kind=3) (A:¬m.kind=4) (B:¬m.kind=5):
  zO 289 [kD r,yO m,iA s,iA ga,zE yA u] [] (uo 1) []:=by
 rw[gC];refine eM call289 λF hF=>?_
 exact nl y
def LB (r:Rg) (m:Ms) (s ga:Int) (u:List Int) (W:ln r.tk=8) (b:Bool) (y:zO 328 [kD r] [] (bA true) []) (z:zO 69 [yO m] [] (bA b) []) (hk:m.kind=2\/m.kind=3\/m.kind=4\/m.kind=5)
  (h:b=false\/jQ r.tk s=false\/(¬(ln u:Int)=0/\¬(ln u:Int)=8)) (S:ln u<=1000):zO 289 [kD r,yO m,iA s,iA ga,zE yA u] [] (uo 1) []:=by
 rw[gC];have O:=zA yA u;have R:=zA yK r.tk;cases b
 .clear h
  rcases hk with hk|hk|hk|hk
  all_goals
   refine eM call289 λF hF=>?_
   exact ng (xH y z)
 by_cases B:0<=s
 case neg=>
  clear h
  rcases hk with hk|hk|hk|hk
  all_goals
   refine eM call289 λF hF=>?_
   exact ng (xH y z)
 by_cases V:s<8
 case neg=>
  clear h
  rcases hk with hk|hk|hk|hk
  all_goals
   refine eM call289 λF hF=>?_
   exact ng (xH y z)
 have U:=yC yK r.tk s B zB;have C:jQ r.tk s=(r.tk.getD s.toNat dd).used:=by unfold jQ;rw[zAc ⟨B,zB⟩,zAj]
 rw[C]at h;clear C;generalize r.tk.getD s.toNat dd=x at *;obtain⟨A,E,G,I,L,M⟩:=x;dsimp only at h;rw[show yK ⟨A,E,G,I,L,M⟩= .agg [bA A,zE yA E,iA G,iA I,iA L,iA M]from Z]at U;cases A
 .clear h
  rcases hk with hk|hk|hk|hk
  all_goals
   refine eM call289 λF hF=>?_
   exact ng (xH y z)
 .rcases h with h|h|⟨g1,g2⟩
  .cases h
  .cases h
  .rcases hk with hk|hk|hk|hk
   all_goals
    refine eM call289 λF hF=>?_
    exact ng (xH y z)
def LC (k a:Int):zO 329 [iA k,iA a] [] (yO ⟨14,[],[k,a],[]⟩) []:=by
 refine eM call329 λF hF=>?_
 exact ny
def F6 (r:Rg) (l:List Vh):Rg:=⟨r.num,r.ag,r.tk,l,r.bk⟩
def DoP (r:Rg) (m:Ms) (y:List Int) (z:Rg) (p:Ms) (u:Bool) (e:Int):Prop:=
 (e≠0->u=false/\0<=e/\e<=100)/\(e=0->(∃o,ln o=8/\f8 r.tk o/\z=qx r o/\((u=false/\p=⟨14,[],[3,m.args.getD 0 0],[]⟩/\m.kind=3)\/(u=true/\y.length=8/\m.kind=2/\∃k:Nat,k<8/\p=⟨16,[],[(k:Int)],r.num::(k:Int)::y⟩)))\/
  (∃o,ln o<=8/\z=F6 r o/\u=false/\(m.kind=4\/m.kind=5)/\p=⟨14,[],[m.kind,m.args.getD 0 0],[]⟩))
def ZZ (r:Rg) (m:Ms) (s ga:Int) (y:List Int):Prop:=∃(z:Rg) (p:Ms) (u:Bool) (e:Int),GT z/\N1 p/\DoP r m y z p u e/\
 zO 307 [kD r,yO m,iA s,iA ga,zE yA y] [] (.tup [kD z,yO p,bA u,iA e]) []/\
 zO 289 [kD r,yO m,iA s,iA ga,zE yA y] [] (.tup [kD z,yO p,bA u,iA e]) []
def E6:N1 fh:=⟨zAn _,zAn _,zAn _⟩
theorem ZZ.bad {r:Rg} {m:Ms} {s ga:Int} {u:List Int} (e:Int) (y:e≠0) (h1:zO 307 [kD r,yO m,iA s,iA ga,zE yA u] [] (uo e) []) (h2:zO 289 [kD r,yO m,iA s,iA ga,zE yA u] [] (uo e) []) (hb:0<=e/\e<=100:=by omega):ZZ r m s ga u:=
 ⟨O9,fh,false,e,G6,E6,⟨λ_=>⟨rfl,hb⟩,λh=>absurd h y⟩,h1,h2⟩
theorem do3 (r:Rg) (A:Uo r=true) (y:List Int) (a s ga:Int) (z:List Int) (B:jQ r.tk s=true) (u:(ln z:Int)=0\/(ln z:Int)=8)
  (m1:zO 123 [yO ⟨3,y,[a],[]⟩] [] (bA true) []) (m2:zO 69 [yO ⟨3,y,[a],[]⟩] [] (bA true) []):ZZ r ⟨3,y,[a],[]⟩ s ga z:=by
 have H:=vo A;have G:=YA r XN;have R:=bS r XN;rw[A]at G R;have I:=TM r.tk s;rw[B]at I;have U:=bN r H.b;have X:=fC r H.b;have L:=jx ⟨3,y,[a],[]⟩ a Z;have S:=LC 3 a;rw[show yO ⟨14,[],[(⟨3,y,[a],[]⟩:Ms).kind,a],[]⟩= .agg [iA 14,.sl false [],.sl false [iA 3,iA a],.sl false []]from Z]at L;rw[show yO ⟨14,[],[3,a],[]⟩= .agg [iA 14,.sl false [],.sl false [iA 3,iA a],.sl false []]from Z]at S;obtain⟨o,e,_,ho,E,V,Y⟩:=AG r.tk H.b.tk a;have ag:=zA yA z;have ap:=zA yK r.tk;have ac:([a].map iA).length=1:=rfl
 have C:(r.tk.getD s.toNat dd).used=true/\0<=s/\s<8:=by
  unfold jQ at B;rw[zAi,zAg]at B;exact⟨B.2,B.1.1,by have:=H.n8;omega⟩
 have O:=H.n8;have hy:=yC yK r.tk s C.2.1 zB;have M:GT (qx r o):=⟨ho,H.b.s,H.b.l,H.b.v⟩;obtain⟨C,ar,au⟩:=C;clear B H A;generalize r.tk.getD s.toNat dd=x at *;obtain⟨xu,x1,x2,x3,x4,x5⟩:=x;dsimp only at C;subst C;rw[show yK ⟨true,x1,x2,x3,x4,x5⟩= .agg [bA true,zE yA x1,iA x2,iA x3,iA x4,iA x5]from Z]at hy;by_cases W:e=0
 .subst W;refine⟨qx r o,⟨14,[],[3,a],[]⟩,false,0,M,⟨zAn _,by simp,zAn _⟩,⟨λh=>absurd Z h,λ_=> .inl ⟨o,by rw[(E Z).1,O],(E Z).2,rfl,.inl ⟨rfl,rfl,rfl⟩⟩⟩,?_,?_⟩
  .rw[show yO ⟨14,[],[3,a],[]⟩= .agg [iA 14,.sl false [],.sl false [iA 3,iA a],.sl false []]from Z]
   rcases u with u|u
   all_goals
    refine eM call307 λF hF=>?_
    exact ng (BJ G m1 I U V L)
  .rw[show yO ⟨14,[],[3,a],[]⟩= .agg [iA 14,.sl false [],.sl false [iA 3,iA a],.sl false []]from Z]
   rcases u with u|u
   all_goals
    refine eM call289 λF hF=>?_
    exact ng (KE R m2 X S Y)
 .refine .bad e W ?_ ?_
  .rw[gC]
   rcases u with u|u
   all_goals
    refine eM call307 λF hF=>?_
    exact ng (BJ G m1 I U V L)
  .rw[gC]
   rcases u with u|u
   all_goals
    refine eM call289 λF hF=>?_
    exact ng (KE R m2 X S Y)
theorem do5 (r:Rg) (A:Uo r=true) (y:List Int) (a s ga:Int) (z:List Int) (B:jQ r.tk s=true) (u:(ln z:Int)=0\/(ln z:Int)=8)
  (Y:zO 123 [yO ⟨5,y,[a],[]⟩] [] (bA true) []) (m2:zO 69 [yO ⟨5,y,[a],[]⟩] [] (bA true) []):ZZ r ⟨5,y,[a],[]⟩ s ga z:=by
 have H:=vo A;have E:=YA r XN;have O:=bS r XN;rw[A]at E O;have G:=TM r.tk s;rw[B]at G;have S:=bN r H.b;have W:=fC r H.b;have I:=jx ⟨5,y,[a],[]⟩ a Z;have R:=LC 5 a;rw[show yO ⟨14,[],[(⟨5,y,[a],[]⟩:Ms).kind,a],[]⟩= .agg [iA 14,.sl false [],.sl false [iA 5,iA a],.sl false []]from Z]at I;rw[show yO ⟨14,[],[5,a],[]⟩= .agg [iA 14,.sl false [],.sl false [iA 5,iA a],.sl false []]from Z]at R;obtain⟨o,e,⟨ac,_⟩,ho,U,X⟩:=AE r.vh XN a;have ap:=zA yA z;have ar:=zA yK r.tk;have ag:([a].map iA).length=1:=rfl
 have C:(r.tk.getD s.toNat dd).used=true/\0<=s/\s<8:=by
  unfold jQ at B;rw[zAi,zAg]at B;exact⟨B.2,B.1.1,by have:=H.n8;omega⟩
 have au:=H.n8;have hy:=yC yK r.tk s C.2.1 zB;have M:ln o<=8:=by have:=H.vl;omega
 have L:GT (F6 r o):=⟨H.b.tk,H.b.s,H.b.l,by have:=H.vl;show (ln o)<=_;omega⟩;obtain⟨C,av,ax⟩:=C;clear B H A;generalize r.tk.getD s.toNat dd=x at *;obtain⟨xu,x1,x2,x3,x4,x5⟩:=x;dsimp only at C;subst C;rw[show yK ⟨true,x1,x2,x3,x4,x5⟩= .agg [bA true,zE yA x1,iA x2,iA x3,iA x4,iA x5]from Z]at hy;by_cases V:e=0
 .subst V;refine⟨F6 r o,⟨14,[],[5,a],[]⟩,false,0,L,⟨zAn _,by simp,zAn _⟩,⟨λh=>absurd Z h,λ_=> .inr ⟨o,M,rfl,rfl,.inr Z,rfl⟩⟩,?_,?_⟩
  .rw[show yO ⟨14,[],[5,a],[]⟩= .agg [iA 14,.sl false [],.sl false [iA 5,iA a],.sl false []]from Z]
   rcases u with u|u
   all_goals
    refine eM call307 λF hF=>?_
    exact ng (BJ E Y G S U I)
  .rw[show yO ⟨14,[],[5,a],[]⟩= .agg [iA 14,.sl false [],.sl false [iA 5,iA a],.sl false []]from Z]
   rcases u with u|u
   all_goals
    refine eM call289 λF hF=>?_
    exact ng (KE O m2 W R X)
 .refine .bad e V ?_ ?_
  .rw[gC]
   rcases u with u|u
   all_goals
    refine eM call307 λF hF=>?_
    exact ng (BJ E Y G S U I)
  .rw[gC]
   rcases u with u|u
   all_goals
    refine eM call289 λF hF=>?_
    exact ng (KE O m2 W R X)
def BV (r:Rg) (a b s:Int) (R:ln r.tk=8) (G:0<=s) (O:s<8) (o:List Vh) (e:Int) (c:zO 378 [zE vB r.vh,wP (vx r.ag (min r.ag.cls (r.tk.getD s.toNat dd).cls)),vB ⟨a,b⟩] [] (.tup [zE vB o,iA e]) []):
  zO 348 [kD r,zE iA [a,b],iA s] [] (.tup [zE vB o,iA e]) []:=by
 have L:=zA yK r.tk;have I:([a,b].map iA).length=2:=rfl;have M:=yC yK r.tk s G zB;generalize r.tk.getD s.toNat dd=x at *;obtain⟨E,z,A,B,u,C⟩:=x;rw[show yK ⟨E,z,A,B,u,C⟩= .agg [bA E,zE yA z,iA A,iA B,iA u,iA C]from Z]at M;rw[show(⟨E,z,A,B,u,C⟩:Tk).cls=u from Z]at c;have y:wP (vx r.ag (min r.ag.cls u))= .agg [zE yA r.ag.sec,iA r.ag.rights,iA (min r.ag.cls u),zE iA r.ag.lim,iA r.ag.req,iA r.ag.ses,iA r.ag.rate,iA r.ag.burst]:=rfl;rw[y]at c;rw[show vB ⟨a,b⟩= .agg [iA a,iA b]from Z]at c;refine eM call348 λF hF=>?_
 exact nl c
theorem do4 (r:Rg) (A:Uo r=true) (z:List Int) (a b s ga:Int) (y:List Int) (B:jQ r.tk s=true) (u:(ln y:Int)=0\/(ln y:Int)=8)
  (m1:zO 123 [yO ⟨4,z,[a,b],[]⟩] [] (bA true) []) (m2:zO 69 [yO ⟨4,z,[a,b],[]⟩] [] (bA true) []):ZZ r ⟨4,z,[a,b],[]⟩ s ga y:=by
 have H:=vo A;have G:=YA r XN;have W:=bS r XN;rw[A]at G W;have I:=TM r.tk s;rw[B]at I;have c4:=bN r H.b;have k4:=fC r H.b
 have L:zO 347 [yO ⟨4,z,[a,b],[]⟩] [] (yO ⟨14,[],[4,a],[]⟩) []:=by
  have O:([a,b].map iA).length=2:=rfl;refine eM call347 λF hF=>?_
  exact ny
 have Y:=LC 4 a;rw[show yO ⟨14,[],[4,a],[]⟩= .agg [iA 14,.sl false [],.sl false [iA 4,iA a],.sl false []]from Z]at L Y;obtain⟨o,e,⟨ac,_⟩,⟨ho,au⟩,cv,X⟩:=KH r.vh XN r.ag (r.tk.getD s.toNat dd).cls H.lim H.cls.2 ⟨a,b⟩;have ap:=zA yA y;have ar:=zA yK r.tk;have O:([a,b].map iA).length=2:=rfl
 have C:(r.tk.getD s.toNat dd).used=true/\0<=s/\s<8:=by
  unfold jQ at B;rw[zAi,zAg]at B;exact⟨B.2,B.1.1,by have:=H.n8;omega⟩
 have R:=H.n8;have hy:=yC yK r.tk s C.2.1 zB;have S:ln o<=8:=by have:=H.vl;omega
 have M:GT (F6 r o):=⟨H.b.tk,H.b.s,H.b.l,by have:=H.vl;show (ln o)<=_;omega⟩;obtain⟨C,U,V⟩:=C;have c5:=BV r a b s R U V o e cv;clear B H A cv;generalize r.tk.getD s.toNat dd=x at *;obtain⟨xu,x1,x2,x3,E,x5⟩:=x;dsimp only at C;subst C;rw[show yK ⟨true,x1,x2,x3,E,x5⟩= .agg [bA true,zE yA x1,iA x2,iA x3,iA E,iA x5]from Z]at hy;rw[show(⟨true,x1,x2,x3,E,x5⟩:Tk).cls=E from Z,show vB ⟨a,b⟩= .agg [iA a,iA b]from Z,show wP r.ag= .agg [zE yA r.ag.sec,iA r.ag.rights,iA r.ag.cls,zE iA r.ag.lim,iA r.ag.req,iA r.ag.ses,iA r.ag.rate,iA r.ag.burst]from Z]at X;by_cases he:e=0
 .subst he;refine⟨F6 r o,⟨14,[],[4,a],[]⟩,false,0,M,⟨zAn _,by simp,zAn _⟩,⟨λh=>absurd Z h,λ_=> .inr ⟨o,S,rfl,rfl,.inl Z,rfl⟩⟩,?_,?_⟩
  .rw[show yO ⟨14,[],[4,a],[]⟩= .agg [iA 14,.sl false [],.sl false [iA 4,iA a],.sl false []]from Z]
   rcases u with u|u
   all_goals
    refine eM call307 λF hF=>?_
    exact ng (BJ G m1 I c4 c5 L)
  .rw[show yO ⟨14,[],[4,a],[]⟩= .agg [iA 14,.sl false [],.sl false [iA 4,iA a],.sl false []]from Z]
   rcases u with u|u
   all_goals
    refine eM call289 λF hF=>?_
    exact ng (KE W m2 k4 Y X)
 .refine .bad e he ?_ ?_
  .rw[gC]
   rcases u with u|u
   all_goals
    refine eM call307 λF hF=>?_
    exact ng (BJ G m1 I c4 c5 L)
  .rw[gC]
   rcases u with u|u
   all_goals
    refine eM call289 λF hF=>?_
    exact ng (KE W m2 k4 Y X)
def dh:AV:= .agg [iA 0,.s (.slice none 0 0),.s (.slice none 0 0),.s (.slice none 0 0)]
def tc (r:Rg) (s R c u ga e:Int) (C:¬e=0) (k:Nat) (y:List Int)
  (z:zO 375 [zE yK r.tk,iA s,iA R,iA c,iA u,zE yA (pg 8 0),iA ga] [] (.tup [.sl false [],iA k,iA e]) []):
  zO 345 [.ptr 14 0 0,zE iA [R,c,u],iA s,iA ga,zE yA y] [(14,VL r)] (.tup [dh,iA e]) [(14,VL r)]:=by
 have B:=zA yA y;have A:([R,c,u].map iA).length=3:=rfl;unfold VL dh;rw[show zE yA (pg 8 0)= .sl false (pg 8 (AV.s (.int .u8 0)))from Z]at z;refine eM call345 λF hF=>?_
 (repeat' (first|refine Az ?_|apply yY|apply xN|intro hc|(apply zG;first|refine SM ?_)|fail))
 refine kX (st':=⟨[(0,.ptr 14 0 0),(1,zE iA [R,c,u]),(2,iA s),(3,iA ga),(4,zE yA y),(10,.ptr 10 0 0),(11,iA 0),(12,.sl false (pg 8 (AV.s (.int .u8 0))))],[(14,.box [iA r.num,zE yA r.ag.sec,iA r.ag.rights,iA r.ag.cls,zE iA r.ag.lim,iA r.ag.req,iA r.ag.ses,iA r.ag.rate,iA r.ag.burst,zE yK r.tk,zE vB r.vh,iA r.bk.level,iA r.bk.rate,iA r.bk.burst]),(10,.box [iA 0,.s (.slice none 0 0),.s (.slice none 0 0),.s (.slice none 0 0)])]⟩) [14,10] [0,1,2,3,4,10,11,12] Z Z ?_;refine zP z ?_;exact zV [14] Z Z Z Z
def Zc (r:Rg) (s R c u ga:Int) (k:Nat) (B:List Tk)
  (y:zO 375 [zE yK r.tk,iA s,iA R,iA c,iA u,zE yA (pg 8 0),iA ga] [] (.tup [zE yK B,iA k,iA 0]) []):
  zO 345 [.ptr 14 0 0,zE iA [R,c,u],iA s,iA ga,zE yA []] [(14,VL r)] (.tup [dh,iA 18]) [(14,VL r)]:=by
 have A:(([]:List Int).map yA).length=0:=rfl;have z:([R,c,u].map iA).length=3:=rfl;unfold VL dh;rw[show zE yA (pg 8 0)= .sl false (pg 8 (AV.s (.int .u8 0)))from Z]at y;refine eM call345 λF hF=>?_
 (repeat' (first|refine Az ?_|apply yY|apply xN|intro hc|(apply zG;first|refine SM ?_)|fail))
 refine kX (st':=⟨[(0,.ptr 14 0 0),(1,zE iA [R,c,u]),(2,iA s),(3,iA ga),(4,zE yA []),(10,.ptr 10 0 0),(11,iA 0),(12,.sl false (pg 8 (AV.s (.int .u8 0))))],[(14,.box [iA r.num,zE yA r.ag.sec,iA r.ag.rights,iA r.ag.cls,zE iA r.ag.lim,iA r.ag.req,iA r.ag.ses,iA r.ag.rate,iA r.ag.burst,zE yK r.tk,zE vB r.vh,iA r.bk.level,iA r.bk.rate,iA r.bk.burst]),(10,.box [iA 0,.s (.slice none 0 0),.s (.slice none 0 0),.s (.slice none 0 0)])]⟩) [14,10] [0,1,2,3,4,10,11,12] Z Z ?_;refine zP y ?_;exact zV [14] Z Z Z Z
def Yc (r:Rg) (O:0<=r.num/\r.num<4) (s R c u ga:Int) (y:List Int) (S:(ln y:Int)=8) (k:Nat) (G:k<8) (M A:List Tk)
  (z:zO 375 [zE yK r.tk,iA s,iA R,iA c,iA u,zE yA (pg 8 0),iA ga] [] (.tup [zE yK M,iA k,iA 0]) [])
  (C:zO 375 [zE yK r.tk,iA s,iA R,iA c,iA u,zE yA y,iA ga] [] (.tup [zE yK A,iA k,iA 0]) []):
  zO 345 [.ptr 14 0 0,zE iA [R,c,u],iA s,iA ga,zE yA y] [(14,VL r)] (.tup [.agg [iA 16,.s (.slice none 0 0),.sl false [iA k],zE yA (r.num::(k:Int)::y)],iA 0]) [(14,VL (qx r A))]:=by
 have E:=yo r.num k y zB zB zB zB zB;have L:=zA yA y;have I:([R,c,u].map iA).length=3:=rfl;unfold VL qx;dsimp only;generalize r.num::(k:Int)::y=B at *;rw[show zE yA (pg 8 0)= .sl false (pg 8 (AV.s (.int .u8 0)))from Z]at z;refine eM call345 λF hF=>?_
 (repeat' (first|refine Az ?_|apply yY|apply xN|intro hc|(apply zG;first|refine SM ?_)|fail))
 refine kX (st':=⟨[(0,.ptr 14 0 0),(1,zE iA [R,c,u]),(2,iA s),(3,iA ga),(4,zE yA y),(10,.ptr 10 0 0),(11,iA 0),(12,.sl false (pg 8 (AV.s (.int .u8 0))))],[(14,.box [iA r.num,zE yA r.ag.sec,iA r.ag.rights,iA r.ag.cls,zE iA r.ag.lim,iA r.ag.req,iA r.ag.ses,iA r.ag.rate,iA r.ag.burst,zE yK r.tk,zE vB r.vh,iA r.bk.level,iA r.bk.rate,iA r.bk.burst]),(10,.box [iA 0,.s (.slice none 0 0),.s (.slice none 0 0),.s (.slice none 0 0)])]⟩) [14,10] [0,1,2,3,4,10,11,12] Z Z ?_;refine yB (qS z C E) ?_;exact zV [14] Z Z Z Z
def BW (r:Rg) (n8:ln r.tk=8) (y:List Int) (R c u s ga:Int) (I:0<=s) (L:s<8) (W:List Int) (X Y x4 x5:Int) (hy:(r.tk.map yK)[s.toNat]? =some (.agg [bA true,zE yA W,iA X,iA Y,iA x4,iA x5])) (k:Nat) (e f:Int) (A:(e=0/\f=18)\/(¬e=0/\f=e)) (U:List Tk)
  (M:zO 328 [kD r] [] (bA true) []) (V:zO 69 [yO ⟨2,y,[R,c,u],[]⟩] [] (bA true) []) (O:zO 186 [kD r] [] (kD r) [])
  (e1:zO 330 [zE yK r.tk,iA s,iA R,iA c,iA u,zE yA (pg 8 0),iA ga] [] (.tup [zE yK U,iA k,iA e]) []) (S:zO 66 [iA r.num,iA k,zE yA []] [] (zE yA (r.num::(k:Int)::[])) []):
  zO 289 [kD r,yO ⟨2,y,[R,c,u],[]⟩,iA s,iA ga,zE yA []] [] (uo f) []:=by
 rw[gC];have z:=LC 2 R;rw[show yO ⟨14,[],[2,R],[]⟩= .agg [iA 14,.sl false [],.sl false [iA 2,iA R],.sl false []]from Z]at z;have C:(([]:List Int).map yA).length=0:=rfl;have E:=zA yK r.tk;have B:([R,c,u].map iA).length=3:=rfl;have G:(pg 8 (AV.s (.int .u8 0))).length=8:=rfl;rw[show zE yA (pg 8 0)= .sl false (pg 8 (AV.s (.int .u8 0)))from Z]at e1;refine eM call289 λF hF=>?_
 (have gt:=M;have gv:=V;have ic:=O;(repeat' (first|refine Az ?_|apply yY|apply xN|intro hc|(apply zG;first|refine SM ?_)|fail))<;>clear gt gv ic)
 refine uW Z ?_
 (have gt:=z;(repeat' (first|refine WS ?_|refine SG (I2 (λhc=>?_) λhc=>?_)|refine SG λhc=>?_|(apply zG;first|refine SM ?_)|(first|first|refine SX ?_|fail|apply xE)|fail))<;>clear gt)
 refine kX (st':=⟨[(2,iA s),(3,iA ga),(4,zE yA []),(5,.ptr 5 0 0),(6,.ptr 6 0 0),(10,.ptr 10 0 0),(11,.ptr 11 0 0),(12,bA false),(13,iA 0),(15,.ptr 15 0 0),(16,.ptr 16 0 0),(17,iA 0),(18,.sl false (pg 8 (AV.s (.int .u8 0))))],[(15,VL r),(16,.box [iA 14,.sl false [],.sl false [iA 2,iA R],.sl false []]),(10,.box [iA 0,.s (.slice none 0 0),iA 0,iA 0,.s (.slice none 0 0),iA 0,iA 0,iA 0,iA 0,.s (.slice none 0 0),.s (.slice none 0 0),iA 0,iA 0,iA 0]),(11,.box [iA 0,.s (.slice none 0 0),.s (.slice none 0 0),.s (.slice none 0 0)]),(5,VL r),(6,.box [iA 2,zE yA y,zE iA [R,c,u],zE yA []])]⟩) [15,16,10,11,5,6] [2,3,4,5,6,10,11,12,13,15,16,17,18] Z Z ?_;unfold VL
 rcases A with⟨rfl,rfl⟩|⟨he,rfl⟩
 all_goals
  exact ng (xH e1 S)
def BX (r:Rg) (n8:ln r.tk=8) (z:List Int) (R c y s ga:Int) (u:List Int) (X:(ln u:Int)=8) (V:0<=s) (W:s<8) (Y:List Int) (x2 x3 x4 x5:Int) (hy:(r.tk.map yK)[s.toNat]? =some (.agg [bA true,zE yA Y,iA x2,iA x3,iA x4,iA x5])) (k:Nat) (e:Int) (I:List Tk)
  (C:zO 328 [kD r] [] (bA true) []) (L:zO 69 [yO ⟨2,z,[R,c,y],[]⟩] [] (bA true) []) (E:zO 186 [kD r] [] (kD r) [])
  (e1:zO 330 [zE yK r.tk,iA s,iA R,iA c,iA y,zE yA u,iA ga] [] (.tup [zE yK I,iA k,iA e]) []) (G:zO 66 [iA r.num,iA k,zE yA u] [] (zE yA (r.num::(k:Int)::u)) []):
  zO 289 [kD r,yO ⟨2,z,[R,c,y],[]⟩,iA s,iA ga,zE yA u] [] (if e=0 then .tup [kD (qx r I),yO ⟨16,[],[(k:Int)],r.num::(k:Int)::u⟩,bA true,iA 0]else uo e) []:=by
 have B:=LC 2 R;rw[show yO ⟨14,[],[2,R],[]⟩= .agg [iA 14,.sl false [],.sl false [iA 2,iA R],.sl false []]from Z]at B;have S:=zA yA u;have U:=zA yK r.tk;have O:([R,c,y].map iA).length=3:=rfl;rw[show yO ⟨16,[],[(k:Int)],r.num::(k:Int)::u⟩= .agg [iA 16,.sl false [],.sl false [iA (k:Int)],zE yA (r.num::(k:Int)::u)]from Z];generalize r.num::(k:Int)::u=M at *;by_cases A:e=0
 .rw[Os A];subst A;refine eM call289 λF hF=>?_
  exact ng (BJ C L E B e1 G)
 .rw[hW A,gC];refine eM call289 λF hF=>?_
  exact ng (BJ C L E B e1 G)
def Du:∀a b:_root_.Fin 64,(uX a.val b.val==(a.val:Int))=true->(uX b.val 16==(16:Int))=false->(uX a.val 16==(16:Int))=false:=by decide +kernel
def D6 {a b:Int} (h:Pb a b=true) (k:Ft b 10=false):Ft a 10=false:=by
 unfold Pb MN at h;simp only[zAi,zAg]at h;obtain⟨⟨⟨a0,z⟩,u,y⟩,h⟩:=h;obtain⟨m,rfl⟩:=zB7 a0;obtain⟨n,rfl⟩:=zB7 u;have e:LY 10=16:=by decide
 unfold Ft MN at k⊢;rw[e]at k⊢;rw[zAc ⟨u,y⟩,zAj]at k;rw[Du ⟨m,zB⟩ ⟨n,zB⟩ h k,zB3]
theorem do2 (r:Rg) (V:Uo r=true) (B:List Int) (R c u s ga:Int) (z:List Int) (S:jQ r.tk s=true) (A:(ln z:Int)=0\/(ln z:Int)=8)
  (m1:zO 123 [yO ⟨2,B,[R,c,u],[]⟩] [] (bA true) []) (m2:zO 69 [yO ⟨2,B,[R,c,u],[]⟩] [] (bA true) []):ZZ r ⟨2,B,[R,c,u],[]⟩ s ga z:=by
 have H:=vo V;have c1:=YA r XN;have k1:=bS r XN;rw[V]at c1 k1;have c3:=TM r.tk s;rw[S]at c3;have c4:=bN r H.b;have k4:=fC r H.b;obtain⟨k,e,_,hk,ag,X⟩:=AF r.tk H.b.tk s R c u ga;have E:=H.n8
 have ac:k<8:=by rcases hk with h|h<;>omega
 have av:e=0->∀y au,f8 r.tk (FY r.tk k e ⟨true,y,s,R,c,au⟩):=λI y au=>λh t W S=>by
  obtain⟨_,p0,p1,_,p2,p3⟩:=ag I;unfold FY at W;rw[Os I]at W
  rcases zC1 W with W|rfl
  .exact h t W S
  .exact D6 p2 (h _ (zQ r.tk s.toNat zB) p3)
 clear ag;have kb:=ZX r.num k z zB H.num.1 (by have:=H.num;omega) zB zB;have ar:=H.num;have a1:=zA yA z;have a2:=zA yK r.tk;have az:([R,c,u].map iA).length=3:=rfl
 have hU:(r.tk.getD s.toNat dd).used=true/\0<=s/\s<8:=by
  unfold jQ at S;rw[zAi,zAg]at S;exact⟨S.2,S.1.1,zB⟩
 have hy:=yC yK r.tk s hU.2.1 zB;have G:∀t:Tk,ln t.sec<=1000000->GT (qx r (FY r.tk k e t)):=λt W=>⟨O1 H.b.tk k e t W,H.b.s,H.b.l,H.b.v⟩
 obtain⟨hU,L,M⟩:=hU;clear S H V hk;generalize r.tk.getD s.toNat dd=x at *;obtain⟨xu,Y,x2,x3,x4,x5⟩:=x;dsimp only at hU;subst hU;rw[show yK ⟨true,Y,x2,x3,x4,x5⟩= .agg [bA true,zE yA Y,iA x2,iA x3,iA x4,iA x5]from Z]at hy;obtain⟨d1,e1⟩:=X (pg 8 0) Z;by_cases I:e=0
 .subst I
  rcases A with A|A
  ·
   have A:=zA5 (show (ln z)=0 by omega);subst A;have C:=BW r E B R c u s ga L M Y x2 x3 x4 x5 hy k 0 18 (.inl ⟨rfl,rfl⟩) _ k1 m2 k4 e1 kb;refine .bad 18 xG ?_ C;clear C;generalize FY r.tk k 0 ⟨true,pg 8 0,s,R,c,qa u ga⟩=l1 at *;have O:=Zc r s R c u ga k l1 d1;unfold VL dh at O;clear X G;rw[gC];refine eM call307 λF hF=>?_
   exact ng (KE c1 m1 c3 c4 O)
  .obtain⟨d2,e2⟩:=X z A;have C:=BX r E B R c u s ga z A L M Y x2 x3 x4 x5 hy k 0 _ k1 m2 k4 e2 kb;rw[Os Z]at C;refine⟨qx r (FY r.tk k 0 ⟨true,z,s,R,c,qa u ga⟩),⟨16,[],[(k:Int)],r.num::(k:Int)::z⟩,true,0,G _ (by show (ln z)<=_;omega),⟨zAn _,by simp,by simp;omega⟩,⟨λh=>absurd Z h,λ_=> .inl ⟨_,by rw[FY,Os Z,zBn];exact E,av Z _ _,rfl,.inr ⟨rfl,zB,rfl,k,ac,rfl⟩⟩⟩,?_,C⟩;clear C;generalize FY r.tk k 0 ⟨true,pg 8 0,s,R,c,qa u ga⟩=l1 at *;generalize FY r.tk k 0 ⟨true,z,s,R,c,qa u ga⟩=l2 at *;have O:=Yc r ar s R c u ga z A k ac l1 l2 d1 d2;unfold VL at O;clear X G;rw[show yO ⟨16,[],[(k:Int)],r.num::(k:Int)::z⟩= .agg [iA 16,.sl false [],.sl false [iA (k:Int)],zE yA (r.num::(k:Int)::z)]from Z];generalize r.num::(k:Int)::z=ax at *;refine eM call307 λF hF=>?_
   exact ng (KE c1 m1 c3 c4 O)
 .have ap:∀t,FY r.tk k e t=[]:=λt=>by unfold FY;rw[hW I]
  have U:=d1;rw[ap]at U;have O:=tc r s R c u ga e I k z U;unfold VL dh at O
  have C:zO 289 [kD r,yO ⟨2,B,[R,c,u],[]⟩,iA s,iA ga,zE yA z] [] (uo e) []:=by
   rcases A with A|A
   .have A:=zA5 (show (ln z)=0 by omega);subst A;exact BW r E B R c u s ga L M Y x2 x3 x4 x5 hy k e e (.inr ⟨I,rfl⟩) _ k1 m2 k4 e1 kb
   .obtain⟨d2,e2⟩:=X z A;have C:=BX r E B R c u s ga z A L M Y x2 x3 x4 x5 hy k e _ k1 m2 k4 e2 kb;rw[hW I]at C;exact C
  refine .bad e I ?_ C;clear C X G ap e1 d1 U;rw[gC]
  rcases A with A|A
  all_goals
   refine eM call307 λF hF=>?_
   exact ng (KE c1 m1 c3 c4 O)
def eo (r:Rg) (m:Ms) (s ga:Int) (u:List Int) (z:zO 343 [kD r] [] (bA true) []) (A:zO 123 [yO m] [] (bA true) []) (B:zO 344 [zE yK r.tk,iA s] [] (bA true) []) (C:zO 219 [kD r] [] (kD r) []) (y:(ln u:Int)=0\/(ln u:Int)=8)
  (h2:¬m.kind=2) (G:¬m.kind=3) (I:¬m.kind=4) (L:¬m.kind=5):zO 307 [kD r,yO m,iA s,iA ga,zE yA u] [] (uo 1) []:=by
 rw[gC];have E:=zA yA u
 rcases y with y|y
 all_goals
  refine eM call307 λF hF=>?_
  exact ng (cX z A B C)
theorem len1 (h:ln l=1):∃a,l=[a]:=by
 match l,h with
 | [a],_=>exact⟨a,rfl⟩
theorem N9 (h:ln l=2):∃a b,l=[a,b]:=by
 match l,h with
 | [a,b],_=>exact⟨a,b,rfl⟩
theorem M9 (h:ln l=3):∃a b c,l=[a,b,c]:=by
 match l,h with
 | [a,b,c],_=>exact⟨a,b,c,rfl⟩
theorem Cu (r:Rg) (hv:ln r.vh<=1000) (m:Ms) (X:N1 m) (s ga:Int) (u:List Int) (A:ln u<=1000):ZZ r m s ga u:=by
 have z:=YA r zB;have E:=bS r zB;obtain⟨b,C,hb⟩:=Yo m X;have B:=TM r.tk s
 cases O:Uo r with
 |false=>
  rw[O]at z E;exact .bad 1 xG (VK r m s ga u false b _ z C B (.inl Z) A) (qo r m s ga u E)
 |true=>
 have H:=vo O;rw[O]at z E;by_cases hk:m.kind=2\/m.kind=3\/m.kind=4\/m.kind=5
 case neg=>
  have h2:¬m.kind=2:=λh=>hk (.inl h)
  have U:¬m.kind=3:=λh=>hk (.inr (.inl h))
  have V:¬m.kind=4:=λh=>hk (.inr (.inr (.inl h)))
  have W:¬m.kind=5:=λh=>hk (.inr (.inr (.inr h)))
  refine .bad 1 xG ?_ (jo r m s ga u E h2 U V W)
  cases b with
  |false=>exact VK r m s ga u true false _ z C B (.inr (.inl Z)) A
  |true=>
  cases G:jQ r.tk s with
  |false=>exact VK r m s ga u true true _ z C B (.inr (.inr (.inl G))) A
  |true=>
  rw[G]at B;by_cases y:(ln u:Int)=0\/(ln u:Int)=8
  .exact eo r m s ga u z C B (bN r H.b) y h2 U V W
  .exact VK r m s ga u true true true z C B (.inr (.inr (.inr ⟨λh=>y (.inl h),λh=>y (.inr h)⟩))) A
 obtain⟨f,I⟩:∃f,zv m.kind f:=by
  unfold zv
  grind
 obtain⟨S,R,ac⟩:=bh m X f I
 have M:S=b:=by
  grind
 subst M;have h1:=hb f I
 cases S with
 |false=>exact .bad 1 xG (VK r m s ga u true false _ z C B (.inr (.inl Z)) A) (LB r m s ga u H.n8 false E R hk (.inl Z) A)
 |true=>
 cases G:jQ r.tk s with
 |false=>exact .bad 1 xG (VK r m s ga u true true _ z C B (.inr (.inr (.inl G))) A) (LB r m s ga u H.n8 true E R hk (.inr (.inl G)) A)
 |true=>
 by_cases y:(ln u:Int)=0\/(ln u:Int)=8
 case neg=>
  have Y:¬(ln u:Int)=0/\¬(ln u:Int)=8:=⟨λh=>y (.inl h),λh=>y (.inr h)⟩;exact .bad 1 xG (VK r m s ga u true true _ z C B (.inr (.inr (.inr Y))) A) (LB r m s ga u H.n8 true E R hk (.inr (.inr Y)) A)
 obtain⟨_,hd,L,_⟩:=h1.1 Z;obtain⟨mk,ag,ar,da⟩:=m;dsimp only at hd L I;subst hd
 rcases I with⟨rfl,rfl⟩|⟨rfl,rfl⟩|⟨rfl,rfl⟩|⟨rfl,rfl⟩
 all_goals grind [ZZ,M9,do2,len1,do3,N9,do4,do5]
