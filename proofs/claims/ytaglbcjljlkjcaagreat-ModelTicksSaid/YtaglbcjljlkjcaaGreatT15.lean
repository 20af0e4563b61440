/- Part 15. -/
import Derived.Test.YtaglbcjljlkjcaaGreatT14
namespace Go.Proofs.YtaglbcjljlkjcaaGreat.Av
open Tryz
set_option linter.all false
set_option maxRecDepth 4000
set_option maxHeartbeats 4000000
open List renaming length->ln,replicate->oj
open Inhabited renaming default->dd
variable {l:List Int}
def J5 {l:List Tk} (h:PB l=true):IL l/\l.length=8:=by
 rw[Ef]at h;have T:=(L3 l).1 h;refine⟨⟨by have:=T.n;omega,λt A=>?_⟩,T.n⟩;obtain⟨i,hi,rfl⟩:=zDl A;have u:i<8:=by have:=T.n;omega
 have e:l.getD i dd=l[i]:=by simp[List.getD,hi]
 cases z:(l.getD i dd).used with
 |false=>
  have:=T.f i u z
  grind [PB,KG]
 |true=>
  have:=(T.s i u z).1
  grind [PB,Jr,AO]
def G5 {l:List Tk} (hb:IL l) (k:Nat) (e:Int) (t:Tk) (u:ln t.sec<=1000000):IL (EY l k e t):=by
 unfold EY;split
 .refine⟨by rw[zCj];exact hb.n,λx z=>?_⟩
  rcases zD7 z with h|rfl
  .exact hb.s x h
  .exact u
 .exact XK
structure GvB (r:Rg):Prop where
 num:0<=r.num/\r.num<4
 b:IM r
 tv:PB r.tk=true
 n8:r.tk.length=8
 lim:(r.ag.lim.length:Int)=4
 cls:0<=r.ag.cls/\r.ag.cls<=3
 vl:r.vh.length<=8
def Oq {r:Rg} (h:Vp r=true):GvB r:=by
 unfold Vp at h;simp only[zBe,zBb]at h;obtain⟨h1,h2,z,B,O,R⟩:=h;obtain⟨C,E⟩:=J5 z;have hv:=(My.1 B).1;unfold Wi at h2;simp only[zBe,zBb]at h2;obtain⟨⟨G,A⟩,I,L,u,M⟩:=h2;unfold uH at u;rw[zBb]at u;exact⟨h1,⟨C,zB,zB,zB⟩,z,E,A,u,hv⟩
def rg0:Rg:=⟨0,⟨[],0,0,[],0,0,0,0⟩,[],[],⟨0,0,0⟩⟩
def ON:Ms:=⟨0,[],[],[]⟩
def Nq (e:Int):AV:= .tup [uR rg0,zX ON,bA false,iA e]
def D8:IM rg0:=⟨XK,zBn _,zBn _,zBn _⟩
def gI (e:Int):Nq e= .tup [.agg [iA 0,.sl false [],iA 0,iA 0,.sl false [],iA 0,iA 0,iA 0,iA 0,.sl false [],.sl false [],iA 0,iA 0,iA 0],.agg [iA 0,.sl false [],.sl false [],.sl false []],bA false,iA e]:=rfl
def VV (r:Rg) (m:Ms) (s f3:Int) (u:List Int) (B b C:Bool) (z:zM 343 [uR r] [] (bA B) []) (A:zM 123 [zX m] [] (bA b) []) (E:zM 344 [zE yN r.tk,iA s] [] (bA C) []) (h:B=false\/b=false\/C=false\/(¬(ln u:Int)=0/\¬(ln u:Int)=8)) (I:ln u<=1000):
  zM 307 [uR r,zX m,iA s,iA f3,zE yA u] [] (Nq 1) []:=by
 rw[gI];have G:=zA yA u;cases B
 ·(refine eM call307 λF hF=>?_)
  exact mx z
 cases b
 ·(refine eM call307 λF hF=>?_)
  exact mt (xU z A)
 cases C
 ·(refine eM call307 λF hF=>?_)
  exact mt (qL z A E)
 .rcases h with h|h|h|⟨h1,h2⟩
  .cases h
  .cases h
  .cases h
  ·(refine eM call307 λF hF=>?_)
   exact mt (qL z A E)
def Mq (r:Rg) (m:Ms) (s f3:Int) (z:List Int) (u:zM 328 [uR r] [] (bA false) []):
  zM 289 [uR r,zX m,iA s,iA f3,zE yA z] [] (Nq 1) []:=by
 rw[gI];by_cases h2:m.kind=2
 ·(refine eM call289 λF hF=>?_)
  exact mx u
 by_cases A:m.kind=3
 ·(refine eM call289 λF hF=>?_)
  exact mx u
 by_cases B:m.kind=4
 ·(refine eM call289 λF hF=>?_)
  exact mx u
 by_cases C:m.kind=5
 all_goals
  (refine eM call289 λF hF=>?_)
  exact mx u
def Kq (r:Rg) (m:Ms) (s f3:Int) (u:List Int) (z:zM 328 [uR r] [] (bA true) []) (h2:¬m.kind=2) (A:¬m.kind=3) (B:¬m.kind=4) (C:¬m.kind=5):
  zM 289 [uR r,zX m,iA s,iA f3,zE yA u] [] (Nq 1) []:=by
 rw[gI];refine eM call289 λF hF=>?_
 exact mx z
def LM (r:Rg) (m:Ms) (s f3:Int) (u:List Int) (Y:ln r.tk=8) (b:Bool) (z:zM 328 [uR r] [] (bA true) []) (A:zM 69 [zX m] [] (bA b) []) (hk:m.kind=2\/m.kind=3\/m.kind=4\/m.kind=5)
  (h:b=false\/jZ r.tk s=false\/(¬(ln u:Int)=0/\¬(ln u:Int)=8)) (U:ln u<=1000):zM 289 [uR r,zX m,iA s,iA f3,zE yA u] [] (Nq 1) []:=by
 rw[gI];have R:=zA yA u;have S:=zA yN r.tk;cases b
 .clear h
  rcases hk with hk|hk|hk|hk
  all_goals
   refine eM call289 λF hF=>?_
   exact mt (xU z A)
 by_cases C:0<=s
 case neg=>
  clear h
  rcases hk with hk|hk|hk|hk
  all_goals
   refine eM call289 λF hF=>?_
   exact mt (xU z A)
 by_cases W:s<8
 case neg=>
  clear h
  rcases hk with hk|hk|hk|hk
  all_goals
   refine eM call289 λF hF=>?_
   exact mt (xU z A)
 have V:=yF yN r.tk s C zB;have E:jZ r.tk s=(r.tk.getD s.toNat dd).used:=by unfold jZ;rw[zA7 ⟨C,zB⟩,zBg]
 rw[E]at h;clear E;generalize r.tk.getD s.toNat dd=x at *;obtain⟨B,G,I,L,M,O⟩:=x;dsimp only at h;rw[show yN ⟨B,G,I,L,M,O⟩= .agg [bA B,zE yA G,iA I,iA L,iA M,iA O]from Z]at V;cases B
 .clear h
  rcases hk with hk|hk|hk|hk
  all_goals
   refine eM call289 λF hF=>?_
   exact mt (xU z A)
 .rcases h with h|h|⟨g1,g2⟩
  .cases h
  .cases h
  .rcases hk with hk|hk|hk|hk
   all_goals
    refine eM call289 λF hF=>?_
    exact mt (xU z A)
def LN (k a:Int):zM 329 [iA k,iA a] [] (zX ⟨14,[],[k,a],[]⟩) []:=by
 refine eM call329 λF hF=>?_
 exact ng
def C8 (r:Rg) (l:List Vh):Rg:=⟨r.num,r.ag,r.tk,l,r.bk⟩
def DoP (r:Rg) (m:Ms) (z:List Int) (A:Rg) (p:Ms) (u:Bool) (e:Int):Prop:=
 (e≠0->u=false/\0<=e/\e<=100)/\(e=0->(∃o,ln o=8/\M9 r.tk o/\A=Py r o/\((u=false/\p=⟨14,[],[3,m.args.getD 0 0],[]⟩/\m.kind=3)\/(u=true/\z.length=8/\m.kind=2/\∃k:Nat,k<8/\p=⟨16,[],[(k:Int)],r.num::(k:Int)::z⟩)))\/
  (∃o,ln o<=8/\A=C8 r o/\u=false/\(m.kind=4\/m.kind=5)/\p=⟨14,[],[m.kind,m.args.getD 0 0],[]⟩))
def YM (r:Rg) (m:Ms) (s f3:Int) (z:List Int):Prop:=∃(A:Rg) (p:Ms) (u:Bool) (e:Int),IM A/\Gr p/\DoP r m z A p u e/\
 zM 307 [uR r,zX m,iA s,iA f3,zE yA z] [] (.tup [uR A,zX p,bA u,iA e]) []/\
 zM 289 [uR r,zX m,iA s,iA f3,zE yA z] [] (.tup [uR A,zX p,bA u,iA e]) []
def B8:Gr ON:=⟨zBn _,zBn _,zBn _⟩
theorem YM.bad {r:Rg} {m:Ms} {s f3:Int} {u:List Int} (e:Int) (z:e≠0) (h1:zM 307 [uR r,zX m,iA s,iA f3,zE yA u] [] (Nq e) []) (h2:zM 289 [uR r,zX m,iA s,iA f3,zE yA u] [] (Nq e) []) (hb:0<=e/\e<=100:=by omega):YM r m s f3 u:=
 ⟨rg0,ON,false,e,D8,B8,⟨λ_=>⟨rfl,hb⟩,λh=>absurd h z⟩,h1,h2⟩
theorem do3 (r:Rg) (B:Vp r=true) (z:List Int) (a s f3:Int) (A:List Int) (C:jZ r.tk s=true) (u:(ln A:Int)=0\/(ln A:Int)=8)
  (m1:zM 123 [zX ⟨3,z,[a],[]⟩] [] (bA true) []) (m2:zM 69 [zX ⟨3,z,[a],[]⟩] [] (bA true) []):YM r ⟨3,z,[a],[]⟩ s f3 A:=by
 have H:=Oq B;have I:=YH r WE;have S:=aA r WE;rw[B]at I S;have L:=TY r.tk s;rw[C]at L;have V:=cH r H.b;have k4:=eI r H.b;have M:=Oy ⟨3,z,[a],[]⟩ a Z;have U:=LN 3 a;rw[show zX ⟨14,[],[(⟨3,z,[a],[]⟩:Ms).kind,a],[]⟩= .agg [iA 14,.sl false [],.sl false [iA 3,iA a],.sl false []]from Z]at M;rw[show zX ⟨14,[],[3,a],[]⟩= .agg [iA 14,.sl false [],.sl false [iA 3,iA a],.sl false []]from Z]at U;obtain⟨o,e,_,ho,G,W,k5⟩:=oa r.tk H.b.tk a;have ag:=zA yA A;have ap:=zA yN r.tk;have ac:([a].map iA).length=1:=rfl
 have E:(r.tk.getD s.toNat dd).used=true/\0<=s/\s<8:=by
  unfold jZ at C;rw[zBe,zBb]at C;exact⟨C.2,C.1.1,by have:=H.n8;omega⟩
 have R:=H.n8;have hy:=yF yN r.tk s E.2.1 zB;have O:IM (Py r o):=⟨ho,H.b.s,H.b.l,H.b.v⟩;obtain⟨E,ar,au⟩:=E;clear C H B;generalize r.tk.getD s.toNat dd=x at *;obtain⟨xu,x1,x2,x3,x4,x5⟩:=x;dsimp only at E;subst E;rw[show yN ⟨true,x1,x2,x3,x4,x5⟩= .agg [bA true,zE yA x1,iA x2,iA x3,iA x4,iA x5]from Z]at hy;by_cases Y:e=0
 .subst Y;refine⟨Py r o,⟨14,[],[3,a],[]⟩,false,0,O,⟨zBn _,by simp,zBn _⟩,⟨λh=>absurd Z h,λ_=> .inl ⟨o,by rw[(G Z).1,R],(G Z).2,rfl,.inl ⟨rfl,rfl,rfl⟩⟩⟩,?_,?_⟩
  .rw[show zX ⟨14,[],[3,a],[]⟩= .agg [iA 14,.sl false [],.sl false [iA 3,iA a],.sl false []]from Z]
   rcases u with u|u
   all_goals
    refine eM call307 λF hF=>?_
    exact mt (Wb I m1 L V W M)
  .rw[show zX ⟨14,[],[3,a],[]⟩= .agg [iA 14,.sl false [],.sl false [iA 3,iA a],.sl false []]from Z]
   rcases u with u|u
   all_goals
    refine eM call289 λF hF=>?_
    exact mt (PZ S m2 k4 U k5)
 .refine .bad e Y ?_ ?_
  .rw[gI]
   rcases u with u|u
   all_goals
    refine eM call307 λF hF=>?_
    exact mt (Wb I m1 L V W M)
  .rw[gI]
   rcases u with u|u
   all_goals
    refine eM call289 λF hF=>?_
    exact mt (PZ S m2 k4 U k5)
theorem do5 (r:Rg) (B:Vp r=true) (z:List Int) (a s f3:Int) (A:List Int) (C:jZ r.tk s=true) (u:(ln A:Int)=0\/(ln A:Int)=8)
  (m1:zM 123 [zX ⟨5,z,[a],[]⟩] [] (bA true) []) (m2:zM 69 [zX ⟨5,z,[a],[]⟩] [] (bA true) []):YM r ⟨5,z,[a],[]⟩ s f3 A:=by
 have H:=Oq B;have G:=YH r WE;have R:=aA r WE;rw[B]at G R;have I:=TY r.tk s;rw[C]at I;have U:=cH r H.b;have Y:=eI r H.b;have L:=Oy ⟨5,z,[a],[]⟩ a Z;have S:=LN 5 a;rw[show zX ⟨14,[],[(⟨5,z,[a],[]⟩:Ms).kind,a],[]⟩= .agg [iA 14,.sl false [],.sl false [iA 5,iA a],.sl false []]from Z]at L;rw[show zX ⟨14,[],[5,a],[]⟩= .agg [iA 14,.sl false [],.sl false [iA 5,iA a],.sl false []]from Z]at S;obtain⟨o,e,⟨ac,_⟩,ho,V,k5⟩:=ja r.vh WE a;have ap:=zA yA A;have ar:=zA yN r.tk;have ag:([a].map iA).length=1:=rfl
 have E:(r.tk.getD s.toNat dd).used=true/\0<=s/\s<8:=by
  unfold jZ at C;rw[zBe,zBb]at C;exact⟨C.2,C.1.1,by have:=H.n8;omega⟩
 have au:=H.n8;have hy:=yF yN r.tk s E.2.1 zB;have O:ln o<=8:=by have:=H.vl;omega
 have M:IM (C8 r o):=⟨H.b.tk,H.b.s,H.b.l,by have:=H.vl;show (ln o)<=_;omega⟩;obtain⟨E,av,ax⟩:=E;clear C H B;generalize r.tk.getD s.toNat dd=x at *;obtain⟨xu,x1,x2,x3,x4,x5⟩:=x;dsimp only at E;subst E;rw[show yN ⟨true,x1,x2,x3,x4,x5⟩= .agg [bA true,zE yA x1,iA x2,iA x3,iA x4,iA x5]from Z]at hy;by_cases W:e=0
 .subst W;refine⟨C8 r o,⟨14,[],[5,a],[]⟩,false,0,M,⟨zBn _,by simp,zBn _⟩,⟨λh=>absurd Z h,λ_=> .inr ⟨o,O,rfl,rfl,.inr Z,rfl⟩⟩,?_,?_⟩
  .rw[show zX ⟨14,[],[5,a],[]⟩= .agg [iA 14,.sl false [],.sl false [iA 5,iA a],.sl false []]from Z]
   rcases u with u|u
   all_goals
    refine eM call307 λF hF=>?_
    exact mt (Wb G m1 I U V L)
  .rw[show zX ⟨14,[],[5,a],[]⟩= .agg [iA 14,.sl false [],.sl false [iA 5,iA a],.sl false []]from Z]
   rcases u with u|u
   all_goals
    refine eM call289 λF hF=>?_
    exact mt (PZ R m2 Y S k5)
 .refine .bad e W ?_ ?_
  .rw[gI]
   rcases u with u|u
   all_goals
    refine eM call307 λF hF=>?_
    exact mt (Wb G m1 I U V L)
  .rw[gI]
   rcases u with u|u
   all_goals
    refine eM call289 λF hF=>?_
    exact mt (PZ R m2 Y S k5)
def Ma (r:Rg) (a b s:Int) (S:ln r.tk=8) (I:0<=s) (R:s<8) (o:List Vh) (e:Int) (c:zM 378 [zE vA r.vh,uK (Ry r.ag (min r.ag.cls (r.tk.getD s.toNat dd).cls)),vA ⟨a,b⟩] [] (.tup [zE vA o,iA e]) []):
  zM 348 [uR r,zE iA [a,b],iA s] [] (.tup [zE vA o,iA e]) []:=by
 have M:=zA yN r.tk;have L:([a,b].map iA).length=2:=rfl;have O:=yF yN r.tk s I zB;generalize r.tk.getD s.toNat dd=x at *;obtain⟨G,A,B,C,u,E⟩:=x;rw[show yN ⟨G,A,B,C,u,E⟩= .agg [bA G,zE yA A,iA B,iA C,iA u,iA E]from Z]at O;rw[show(⟨G,A,B,C,u,E⟩:Tk).cls=u from Z]at c;have z:uK (Ry r.ag (min r.ag.cls u))= .agg [zE yA r.ag.sec,iA r.ag.rights,iA (min r.ag.cls u),zE iA r.ag.lim,iA r.ag.req,iA r.ag.ses,iA r.ag.rate,iA r.ag.burst]:=rfl;rw[z]at c;rw[show vA ⟨a,b⟩= .agg [iA a,iA b]from Z]at c;refine eM call348 λF hF=>?_
 exact mx c
theorem do4 (r:Rg) (B:Vp r=true) (A:List Int) (a b s f3:Int) (z:List Int) (C:jZ r.tk s=true) (u:(ln z:Int)=0\/(ln z:Int)=8)
  (m1:zM 123 [zX ⟨4,A,[a,b],[]⟩] [] (bA true) []) (m2:zM 69 [zX ⟨4,A,[a,b],[]⟩] [] (bA true) []):YM r ⟨4,A,[a,b],[]⟩ s f3 z:=by
 have H:=Oq B;have I:=YH r WE;have Y:=aA r WE;rw[B]at I Y;have L:=TY r.tk s;rw[C]at L;have c4:=cH r H.b;have k4:=eI r H.b
 have M:zM 347 [zX ⟨4,A,[a,b],[]⟩] [] (zX ⟨14,[],[4,a],[]⟩) []:=by
  have R:([a,b].map iA).length=2:=rfl;refine eM call347 λF hF=>?_
  exact ng
 have k6:=LN 4 a;rw[show zX ⟨14,[],[4,a],[]⟩= .agg [iA 14,.sl false [],.sl false [iA 4,iA a],.sl false []]from Z]at M k6;obtain⟨o,e,⟨ac,_⟩,⟨ho,au⟩,cv,k5⟩:=KO r.vh WE r.ag (r.tk.getD s.toNat dd).cls H.lim H.cls.2 ⟨a,b⟩;have ap:=zA yA z;have ar:=zA yN r.tk;have R:([a,b].map iA).length=2:=rfl
 have E:(r.tk.getD s.toNat dd).used=true/\0<=s/\s<8:=by
  unfold jZ at C;rw[zBe,zBb]at C;exact⟨C.2,C.1.1,by have:=H.n8;omega⟩
 have S:=H.n8;have hy:=yF yN r.tk s E.2.1 zB;have U:ln o<=8:=by have:=H.vl;omega
 have O:IM (C8 r o):=⟨H.b.tk,H.b.s,H.b.l,by have:=H.vl;show (ln o)<=_;omega⟩;obtain⟨E,V,W⟩:=E;have c5:=Ma r a b s S V W o e cv;clear C H B cv;generalize r.tk.getD s.toNat dd=x at *;obtain⟨xu,x1,x2,x3,G,x5⟩:=x;dsimp only at E;subst E;rw[show yN ⟨true,x1,x2,x3,G,x5⟩= .agg [bA true,zE yA x1,iA x2,iA x3,iA G,iA x5]from Z]at hy;rw[show(⟨true,x1,x2,x3,G,x5⟩:Tk).cls=G from Z,show vA ⟨a,b⟩= .agg [iA a,iA b]from Z,show uK r.ag= .agg [zE yA r.ag.sec,iA r.ag.rights,iA r.ag.cls,zE iA r.ag.lim,iA r.ag.req,iA r.ag.ses,iA r.ag.rate,iA r.ag.burst]from Z]at k5;by_cases he:e=0
 .subst he;refine⟨C8 r o,⟨14,[],[4,a],[]⟩,false,0,O,⟨zBn _,by simp,zBn _⟩,⟨λh=>absurd Z h,λ_=> .inr ⟨o,U,rfl,rfl,.inl Z,rfl⟩⟩,?_,?_⟩
  .rw[show zX ⟨14,[],[4,a],[]⟩= .agg [iA 14,.sl false [],.sl false [iA 4,iA a],.sl false []]from Z]
   rcases u with u|u
   all_goals
    refine eM call307 λF hF=>?_
    exact mt (Wb I m1 L c4 c5 M)
  .rw[show zX ⟨14,[],[4,a],[]⟩= .agg [iA 14,.sl false [],.sl false [iA 4,iA a],.sl false []]from Z]
   rcases u with u|u
   all_goals
    refine eM call289 λF hF=>?_
    exact mt (PZ Y m2 k4 k6 k5)
 .refine .bad e he ?_ ?_
  .rw[gI]
   rcases u with u|u
   all_goals
    refine eM call307 λF hF=>?_
    exact mt (Wb I m1 L c4 c5 M)
  .rw[gI]
   rcases u with u|u
   all_goals
    refine eM call289 λF hF=>?_
    exact mt (PZ Y m2 k4 k6 k5)
def Bi:AV:= .agg [iA 0,.s (.slice none 0 0),.s (.slice none 0 0),.s (.slice none 0 0)]
def ee (r:Rg) (s R c u f3 e:Int) (E:¬e=0) (k:Nat) (z:List Int)
  (A:zM 375 [zE yN r.tk,iA s,iA R,iA c,iA u,zE yA (oj 8 0),iA f3] [] (.tup [.sl false [],iA k,iA e]) []):
  zM 345 [.ptr 14 0 0,zE iA [R,c,u],iA s,iA f3,zE yA z] [(14,VS r)] (.tup [Bi,iA e]) [(14,VS r)]:=by
 have C:=zA yA z;have B:([R,c,u].map iA).length=3:=rfl;unfold VS Bi;rw[show zE yA (oj 8 0)= .sl false (oj 8 (AV.s (.int .u8 0)))from Z]at A;refine eM call345 λF hF=>?_
 (repeat' (first|refine O2 ?_|apply yW|apply xG|intro hc|(apply zG;first|refine SM ?_)|fail))
 refine kW (st':=⟨[(0,.ptr 14 0 0),(1,zE iA [R,c,u]),(2,iA s),(3,iA f3),(4,zE yA z),(10,.ptr 10 0 0),(11,iA 0),(12,.sl false (oj 8 (AV.s (.int .u8 0))))],[(14,.box [iA r.num,zE yA r.ag.sec,iA r.ag.rights,iA r.ag.cls,zE iA r.ag.lim,iA r.ag.req,iA r.ag.ses,iA r.ag.rate,iA r.ag.burst,zE yN r.tk,zE vA r.vh,iA r.bk.level,iA r.bk.rate,iA r.bk.burst]),(10,.box [iA 0,.s (.slice none 0 0),.s (.slice none 0 0),.s (.slice none 0 0)])]⟩) [14,10] [0,1,2,3,4,10,11,12] Z Z ?_;refine zU A ?_;exact zP [14] Z Z Z Z
def de (r:Rg) (s R c u f3:Int) (k:Nat) (C:List Tk)
  (z:zM 375 [zE yN r.tk,iA s,iA R,iA c,iA u,zE yA (oj 8 0),iA f3] [] (.tup [zE yN C,iA k,iA 0]) []):
  zM 345 [.ptr 14 0 0,zE iA [R,c,u],iA s,iA f3,zE yA []] [(14,VS r)] (.tup [Bi,iA 18]) [(14,VS r)]:=by
 have B:(([]:List Int).map yA).length=0:=rfl;have A:([R,c,u].map iA).length=3:=rfl;unfold VS Bi;rw[show zE yA (oj 8 0)= .sl false (oj 8 (AV.s (.int .u8 0)))from Z]at z;refine eM call345 λF hF=>?_
 (repeat' (first|refine O2 ?_|apply yW|apply xG|intro hc|(apply zG;first|refine SM ?_)|fail))
 refine kW (st':=⟨[(0,.ptr 14 0 0),(1,zE iA [R,c,u]),(2,iA s),(3,iA f3),(4,zE yA []),(10,.ptr 10 0 0),(11,iA 0),(12,.sl false (oj 8 (AV.s (.int .u8 0))))],[(14,.box [iA r.num,zE yA r.ag.sec,iA r.ag.rights,iA r.ag.cls,zE iA r.ag.lim,iA r.ag.req,iA r.ag.ses,iA r.ag.rate,iA r.ag.burst,zE yN r.tk,zE vA r.vh,iA r.bk.level,iA r.bk.rate,iA r.bk.burst]),(10,.box [iA 0,.s (.slice none 0 0),.s (.slice none 0 0),.s (.slice none 0 0)])]⟩) [14,10] [0,1,2,3,4,10,11,12] Z Z ?_;refine zU z ?_;exact zP [14] Z Z Z Z
def be (r:Rg) (S:0<=r.num/\r.num<4) (s R c u f3:Int) (z:List Int) (U:(ln z:Int)=8) (k:Nat) (I:k<8) (O B:List Tk)
  (A:zM 375 [zE yN r.tk,iA s,iA R,iA c,iA u,zE yA (oj 8 0),iA f3] [] (.tup [zE yN O,iA k,iA 0]) [])
  (E:zM 375 [zE yN r.tk,iA s,iA R,iA c,iA u,zE yA z,iA f3] [] (.tup [zE yN B,iA k,iA 0]) []):
  zM 345 [.ptr 14 0 0,zE iA [R,c,u],iA s,iA f3,zE yA z] [(14,VS r)] (.tup [.agg [iA 16,.s (.slice none 0 0),.sl false [iA k],zE yA (r.num::(k:Int)::z)],iA 0]) [(14,VS (Py r B))]:=by
 have G:=Pp r.num k z zB zB zB zB zB;have M:=zA yA z;have L:([R,c,u].map iA).length=3:=rfl;unfold VS Py;dsimp only;generalize r.num::(k:Int)::z=C at *;rw[show zE yA (oj 8 0)= .sl false (oj 8 (AV.s (.int .u8 0)))from Z]at A;refine eM call345 λF hF=>?_
 (repeat' (first|refine O2 ?_|apply yW|apply xG|intro hc|(apply zG;first|refine SM ?_)|fail))
 refine kW (st':=⟨[(0,.ptr 14 0 0),(1,zE iA [R,c,u]),(2,iA s),(3,iA f3),(4,zE yA z),(10,.ptr 10 0 0),(11,iA 0),(12,.sl false (oj 8 (AV.s (.int .u8 0))))],[(14,.box [iA r.num,zE yA r.ag.sec,iA r.ag.rights,iA r.ag.cls,zE iA r.ag.lim,iA r.ag.req,iA r.ag.ses,iA r.ag.rate,iA r.ag.burst,zE yN r.tk,zE vA r.vh,iA r.bk.level,iA r.bk.rate,iA r.bk.burst]),(10,.box [iA 0,.s (.slice none 0 0),.s (.slice none 0 0),.s (.slice none 0 0)])]⟩) [14,10] [0,1,2,3,4,10,11,12] Z Z ?_;refine yH (qL A E G) ?_;exact zP [14] Z Z Z Z
def La (r:Rg) (n8:ln r.tk=8) (z:List Int) (R c u s f3:Int) (L:0<=s) (M:s<8) (Y:List Int) (x2 x3 x4 x5:Int) (hy:(r.tk.map yN)[s.toNat]? =some (.agg [bA true,zE yA Y,iA x2,iA x3,iA x4,iA x5])) (k:Nat) (e f:Int) (B:(e=0/\f=18)\/(¬e=0/\f=e)) (V:List Tk)
  (O:zM 328 [uR r] [] (bA true) []) (W:zM 69 [zX ⟨2,z,[R,c,u],[]⟩] [] (bA true) []) (S:zM 186 [uR r] [] (uR r) [])
  (e1:zM 330 [zE yN r.tk,iA s,iA R,iA c,iA u,zE yA (oj 8 0),iA f3] [] (.tup [zE yN V,iA k,iA e]) []) (U:zM 66 [iA r.num,iA k,zE yA []] [] (zE yA (r.num::(k:Int)::[])) []):
  zM 289 [uR r,zX ⟨2,z,[R,c,u],[]⟩,iA s,iA f3,zE yA []] [] (Nq f) []:=by
 rw[gI];have A:=LN 2 R;rw[show zX ⟨14,[],[2,R],[]⟩= .agg [iA 14,.sl false [],.sl false [iA 2,iA R],.sl false []]from Z]at A;have E:(([]:List Int).map yA).length=0:=rfl;have G:=zA yN r.tk;have C:([R,c,u].map iA).length=3:=rfl;have I:(oj 8 (AV.s (.int .u8 0))).length=8:=rfl;rw[show zE yA (oj 8 0)= .sl false (oj 8 (AV.s (.int .u8 0)))from Z]at e1;refine eM call289 λF hF=>?_
 (have ga:=O;have ge:=W;have gn:=S;(repeat' (first|refine O2 ?_|apply yW|apply xG|intro hc|(apply zG;first|refine SM ?_)|fail))<;>clear ga ge gn)
 refine uD Z ?_
 (have ga:=A;(repeat' (first|refine WS ?_|refine SG (I2 (λhc=>?_) λhc=>?_)|refine SG λhc=>?_|(apply zG;first|refine SM ?_)|(first|first|refine SX ?_|fail|apply xB)|fail))<;>clear ga)
 refine kW (st':=⟨[(2,iA s),(3,iA f3),(4,zE yA []),(5,.ptr 5 0 0),(6,.ptr 6 0 0),(10,.ptr 10 0 0),(11,.ptr 11 0 0),(12,bA false),(13,iA 0),(15,.ptr 15 0 0),(16,.ptr 16 0 0),(17,iA 0),(18,.sl false (oj 8 (AV.s (.int .u8 0))))],[(15,VS r),(16,.box [iA 14,.sl false [],.sl false [iA 2,iA R],.sl false []]),(10,.box [iA 0,.s (.slice none 0 0),iA 0,iA 0,.s (.slice none 0 0),iA 0,iA 0,iA 0,iA 0,.s (.slice none 0 0),.s (.slice none 0 0),iA 0,iA 0,iA 0]),(11,.box [iA 0,.s (.slice none 0 0),.s (.slice none 0 0),.s (.slice none 0 0)]),(5,VS r),(6,.box [iA 2,zE yA z,zE iA [R,c,u],zE yA []])]⟩) [15,16,10,11,5,6] [2,3,4,5,6,10,11,12,13,15,16,17,18] Z Z ?_;unfold VS
 rcases B with⟨rfl,rfl⟩|⟨he,rfl⟩
 all_goals
  exact mt (xU e1 U)
def Ka (r:Rg) (n8:ln r.tk=8) (A:List Int) (R c z s f3:Int) (u:List Int) (ac:(ln u:Int)=8) (W:0<=s) (Y:s<8) (x1:List Int) (x2 x3 x4 x5:Int) (hy:(r.tk.map yN)[s.toNat]? =some (.agg [bA true,zE yA x1,iA x2,iA x3,iA x4,iA x5])) (k:Nat) (e:Int) (L:List Tk)
  (E:zM 328 [uR r] [] (bA true) []) (M:zM 69 [zX ⟨2,A,[R,c,z],[]⟩] [] (bA true) []) (G:zM 186 [uR r] [] (uR r) [])
  (e1:zM 330 [zE yN r.tk,iA s,iA R,iA c,iA z,zE yA u,iA f3] [] (.tup [zE yN L,iA k,iA e]) []) (I:zM 66 [iA r.num,iA k,zE yA u] [] (zE yA (r.num::(k:Int)::u)) []):
  zM 289 [uR r,zX ⟨2,A,[R,c,z],[]⟩,iA s,iA f3,zE yA u] [] (if e=0 then .tup [uR (Py r L),zX ⟨16,[],[(k:Int)],r.num::(k:Int)::u⟩,bA true,iA 0]else Nq e) []:=by
 have C:=LN 2 R;rw[show zX ⟨14,[],[2,R],[]⟩= .agg [iA 14,.sl false [],.sl false [iA 2,iA R],.sl false []]from Z]at C;have U:=zA yA u;have V:=zA yN r.tk;have S:([R,c,z].map iA).length=3:=rfl;rw[show zX ⟨16,[],[(k:Int)],r.num::(k:Int)::u⟩= .agg [iA 16,.sl false [],.sl false [iA (k:Int)],zE yA (r.num::(k:Int)::u)]from Z];generalize r.num::(k:Int)::u=O at *;by_cases B:e=0
 .rw[zA4 B];subst B;refine eM call289 λF hF=>?_
  exact mt (Wb E M G C e1 I)
 .rw[Os B,gI];refine eM call289 λF hF=>?_
  exact mt (Wb E M G C e1 I)
def yx:∀a b:_root_.Fin 64,(jJ a.val b.val==(a.val:Int))=true->(jJ b.val 16==(16:Int))=false->(jJ a.val 16==(16:Int))=false:=by decide +kernel
def A8 {a b:Int} (h:md a b=true) (k:Wj b 10=false):Wj a 10=false:=by
 unfold md OD at h;simp only[zBe,zBb]at h;obtain⟨⟨⟨a0,A⟩,u,z⟩,h⟩:=h;obtain⟨m,rfl⟩:=zCy a0;obtain⟨n,rfl⟩:=zCy u;have e:MS 10=16:=by decide
 unfold Wj OD at k⊢;rw[e]at k⊢;rw[zA7 ⟨u,z⟩,zBg]at k;rw[yx ⟨m,zB⟩ ⟨n,zB⟩ h k,zC4]
theorem do2 (r:Rg) (V:Vp r=true) (B:List Int) (R c u s f3:Int) (z:List Int) (S:jZ r.tk s=true) (A:(ln z:Int)=0\/(ln z:Int)=8)
  (m1:zM 123 [zX ⟨2,B,[R,c,u],[]⟩] [] (bA true) []) (m2:zM 69 [zX ⟨2,B,[R,c,u],[]⟩] [] (bA true) []):YM r ⟨2,B,[R,c,u],[]⟩ s f3 z:=by
 have H:=Oq V;have c1:=YH r WE;have k1:=aA r WE;rw[V]at c1 k1;have c3:=TY r.tk s;rw[S]at c3;have c4:=cH r H.b;have k4:=eI r H.b;obtain⟨k,e,_,hk,ag,Y⟩:=aa r.tk H.b.tk s R c u f3;have E:=H.n8
 have ac:k<8:=by rcases hk with h|h<;>omega
 have av:e=0->∀y au,M9 r.tk (EY r.tk k e ⟨true,y,s,R,c,au⟩):=λI y au=>λh t W S=>by
  obtain⟨_,p0,p1,_,p2,p3⟩:=ag I;unfold EY at W;rw[zA4 I]at W
  rcases zD7 W with W|rfl
  .exact h t W S
  .exact A8 p2 (h _ (yL r.tk s.toNat zB) p3)
 clear ag;have kb:=YA r.num k z zB H.num.1 (by have:=H.num;omega) zB zB;have ar:=H.num;have a1:=zA yA z;have a2:=zA yN r.tk;have az:([R,c,u].map iA).length=3:=rfl
 have hU:(r.tk.getD s.toNat dd).used=true/\0<=s/\s<8:=by
  unfold jZ at S;rw[zBe,zBb]at S;exact⟨S.2,S.1.1,zB⟩
 have hy:=yF yN r.tk s hU.2.1 zB;have G:∀t:Tk,ln t.sec<=1000000->IM (Py r (EY r.tk k e t)):=λt W=>⟨G5 H.b.tk k e t W,H.b.s,H.b.l,H.b.v⟩
 obtain⟨hU,L,M⟩:=hU;clear S H V hk;generalize r.tk.getD s.toNat dd=x at *;obtain⟨xu,x1,x2,x3,x4,x5⟩:=x;dsimp only at hU;subst hU;rw[show yN ⟨true,x1,x2,x3,x4,x5⟩= .agg [bA true,zE yA x1,iA x2,iA x3,iA x4,iA x5]from Z]at hy;obtain⟨d1,e1⟩:=Y (oj 8 0) Z;by_cases I:e=0
 .subst I
  rcases A with A|A
  ·
   have A:=zB4 (show (ln z)=0 by omega);subst A;have C:=La r E B R c u s f3 L M x1 x2 x3 x4 x5 hy k 0 18 (.inl ⟨rfl,rfl⟩) _ k1 m2 k4 e1 kb;refine .bad 18 xA ?_ C;clear C;generalize EY r.tk k 0 ⟨true,oj 8 0,s,R,c,Sb u f3⟩=l1 at *;have O:=de r s R c u f3 k l1 d1;unfold VS Bi at O;clear Y G;rw[gI];refine eM call307 λF hF=>?_
   exact mt (PZ c1 m1 c3 c4 O)
  .obtain⟨d2,e2⟩:=Y z A;have C:=Ka r E B R c u s f3 z A L M x1 x2 x3 x4 x5 hy k 0 _ k1 m2 k4 e2 kb;rw[zA4 Z]at C;refine⟨Py r (EY r.tk k 0 ⟨true,z,s,R,c,Sb u f3⟩),⟨16,[],[(k:Int)],r.num::(k:Int)::z⟩,true,0,G _ (by show (ln z)<=_;omega),⟨zBn _,by simp,by simp;omega⟩,⟨λh=>absurd Z h,λ_=> .inl ⟨_,by rw[EY,zA4 Z,zCj];exact E,av Z _ _,rfl,.inr ⟨rfl,zB,rfl,k,ac,rfl⟩⟩⟩,?_,C⟩;clear C;generalize EY r.tk k 0 ⟨true,oj 8 0,s,R,c,Sb u f3⟩=l1 at *;generalize EY r.tk k 0 ⟨true,z,s,R,c,Sb u f3⟩=l2 at *;have O:=be r ar s R c u f3 z A k ac l1 l2 d1 d2;unfold VS at O;clear Y G;rw[show zX ⟨16,[],[(k:Int)],r.num::(k:Int)::z⟩= .agg [iA 16,.sl false [],.sl false [iA (k:Int)],zE yA (r.num::(k:Int)::z)]from Z];generalize r.num::(k:Int)::z=ax at *;refine eM call307 λF hF=>?_
   exact mt (PZ c1 m1 c3 c4 O)
 .have ap:∀t,EY r.tk k e t=[]:=λt=>by unfold EY;rw[Os I]
  have U:=d1;rw[ap]at U;have O:=ee r s R c u f3 e I k z U;unfold VS Bi at O
  have C:zM 289 [uR r,zX ⟨2,B,[R,c,u],[]⟩,iA s,iA f3,zE yA z] [] (Nq e) []:=by
   rcases A with A|A
   .have A:=zB4 (show (ln z)=0 by omega);subst A;exact La r E B R c u s f3 L M x1 x2 x3 x4 x5 hy k e e (.inr ⟨I,rfl⟩) _ k1 m2 k4 e1 kb
   .obtain⟨d2,e2⟩:=Y z A;have C:=Ka r E B R c u s f3 z A L M x1 x2 x3 x4 x5 hy k e _ k1 m2 k4 e2 kb;rw[Os I]at C;exact C
  refine .bad e I ?_ C;clear C Y G ap e1 d1 U;rw[gI]
  rcases A with A|A
  all_goals
   refine eM call307 λF hF=>?_
   exact mt (PZ c1 m1 c3 c4 O)
def Jq (r:Rg) (m:Ms) (s f3:Int) (u:List Int) (A:zM 343 [uR r] [] (bA true) []) (B:zM 123 [zX m] [] (bA true) []) (C:zM 344 [zE yN r.tk,iA s] [] (bA true) []) (E:zM 219 [uR r] [] (uR r) []) (z:(ln u:Int)=0\/(ln u:Int)=8)
  (h2:¬m.kind=2) (I:¬m.kind=3) (L:¬m.kind=4) (M:¬m.kind=5):zM 307 [uR r,zX m,iA s,iA f3,zE yA u] [] (Nq 1) []:=by
 rw[gI];have G:=zA yA u
 rcases z with z|z
 all_goals
  refine eM call307 λF hF=>?_
  exact mt (cL A B C E)
theorem Iq (h:ln l=1):∃a,l=[a]:=by
 match l,h with
 | [a],_=>exact⟨a,rfl⟩
theorem zA0 (h:ln l=2):∃a b,l=[a,b]:=by
 match l,h with
 | [a,b],_=>exact⟨a,b,rfl⟩
theorem zA1 (h:ln l=3):∃a b c,l=[a,b,c]:=by
 match l,h with
 | [a,b,c],_=>exact⟨a,b,c,rfl⟩
theorem xx (r:Rg) (hv:ln r.vh<=1000) (m:Ms) (hm:Gr m) (s f3:Int) (u:List Int) (B:ln u<=1000):YM r m s f3 u:=by
 have A:=YH r zB;have G:=aA r zB;obtain⟨b,E,hb⟩:=Zp m hm;have C:=TY r.tk s
 cases R:Vp r with
 |false=>
  rw[R]at A G;exact .bad 1 xA (VV r m s f3 u false b _ A E C (.inl Z) B) (Mq r m s f3 u G)
 |true=>
 have H:=Oq R;rw[R]at A G;by_cases hk:m.kind=2\/m.kind=3\/m.kind=4\/m.kind=5
 case neg=>
  have h2:¬m.kind=2:=λh=>hk (.inl h)
  have V:¬m.kind=3:=λh=>hk (.inr (.inl h))
  have W:¬m.kind=4:=λh=>hk (.inr (.inr (.inl h)))
  have Y:¬m.kind=5:=λh=>hk (.inr (.inr (.inr h)))
  refine .bad 1 xA ?_ (Kq r m s f3 u G h2 V W Y)
  cases b with
  |false=>exact VV r m s f3 u true false _ A E C (.inr (.inl Z)) B
  |true=>
  cases I:jZ r.tk s with
  |false=>exact VV r m s f3 u true true _ A E C (.inr (.inr (.inl I))) B
  |true=>
  rw[I]at C;by_cases z:(ln u:Int)=0\/(ln u:Int)=8
  .exact Jq r m s f3 u A E C (cH r H.b) z h2 V W Y
  .exact VV r m s f3 u true true true A E C (.inr (.inr (.inr ⟨λh=>z (.inl h),λh=>z (.inr h)⟩))) B
 obtain⟨f,L⟩:∃f,Rv m.kind f:=by
  unfold Rv
  grind
 obtain⟨U,S,ac⟩:=Yi m hm f L
 have O:U=b:=by
  grind
 subst O;have h1:=hb f L
 cases U with
 |false=>exact .bad 1 xA (VV r m s f3 u true false _ A E C (.inr (.inl Z)) B) (LM r m s f3 u H.n8 false G S hk (.inl Z) B)
 |true=>
 cases I:jZ r.tk s with
 |false=>exact .bad 1 xA (VV r m s f3 u true true _ A E C (.inr (.inr (.inl I))) B) (LM r m s f3 u H.n8 true G S hk (.inr (.inl I)) B)
 |true=>
 by_cases z:(ln u:Int)=0\/(ln u:Int)=8
 case neg=>
  have hq:¬(ln u:Int)=0/\¬(ln u:Int)=8:=⟨λh=>z (.inl h),λh=>z (.inr h)⟩;exact .bad 1 xA (VV r m s f3 u true true _ A E C (.inr (.inr (.inr hq))) B) (LM r m s f3 u H.n8 true G S hk (.inr (.inr hq)) B)
 obtain⟨_,hd,M,_⟩:=h1.1 Z;obtain⟨mk,ag,ar,da⟩:=m;dsimp only at hd M L;subst hd
 rcases L with⟨rfl,rfl⟩|⟨rfl,rfl⟩|⟨rfl,rfl⟩|⟨rfl,rfl⟩
 all_goals grind [YM,zA1,do2,Iq,do3,zA0,do4,do5]
def wx (m:Ms) (B:Gr m):zM 24 [zX m,zX m] [] (bA true) []:=by
 have C:=B.a;have z:=zA iA m.args;refine eM call24 λF hF=>?_
 refine WW (I3 (λhc=>?_) (λhc hc=>?_) (λhc hc=>?_))
 all_goals (try (exfalso;first|(simp[xS]at hc;done)|(revert hc;simp[xS];done)))
 refine zQ (m.args) [3] [3] [3,40,41] [42,3,40,41] Z (λi f4 T U=>⟨(42,iA i)::T,U⟩) (Lq ?_ ?_)
 .intro i f4 x post u hi;have E:=zZ iA u hi;have A:=zV u hi;clear u;refine WW ?_
  all_goals (first|rfl|(exfalso;first|(simp[xS]at hc;done)|(revert hc;simp[xS];done)))
 .exact ly
