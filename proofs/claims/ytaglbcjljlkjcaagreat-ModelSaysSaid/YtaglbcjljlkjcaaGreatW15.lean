/- Part 15. -/
import Derived.Test.YtaglbcjljlkjcaaGreatW14
namespace Go.Proofs.YtaglbcjljlkjcaaGreat.Av
open Tryz
set_option linter.all false
set_option maxRecDepth 4000
set_option maxHeartbeats 4000000
open List renaming length->ln,replicate->pb
open Inhabited renaming default->dd
variable {l:List Int}
def u5 {l:List Tk} (h:QZ l=true):JU l/\l.length=8:=by
 rw[vg]at h;have T:=(V4 l).1 h;refine⟨⟨by have:=T.n;omega,λt A=>?_⟩,T.n⟩;obtain⟨i,hi,rfl⟩:=zC8 A;have u:i<8:=by have:=T.n;omega
 have e:l.getD i dd=l[i]:=by simp[List.getD,hi]
 cases z:(l.getD i dd).used with
 |false=>
  have:=T.f i u z
  grind [QZ,KH]
 |true=>
  have:=(T.s i u z).1
  grind [QZ,Er,sa]
def j5 {l:List Tk} (hb:JU l) (k:Nat) (e:Int) (t:Tk) (u:ln t.sec<=1000000):JU (EO l k e t):=by
 unfold EO;split
 .refine⟨by rw[zB5];exact hb.n,λx hx=>?_⟩
  rcases zDt hx with h|rfl
  .exact hb.s x h
  .exact u
 .exact XH
structure GvB (r:Rg):Prop where
 num:0<=r.num/\r.num<4
 b:GR r
 tv:QZ r.tk=true
 n8:r.tk.length=8
 lim:(r.ag.lim.length:Int)=4
 cls:0<=r.ag.cls/\r.ag.cls<=3
 vl:r.vh.length<=8
def Tq {r:Rg} (h:Io r=true):GvB r:=by
 unfold Io at h;simp only[zA2,zAx]at h;obtain⟨h1,h2,z,B,O,R⟩:=h;obtain⟨C,E⟩:=u5 z;have hv:=(ay.1 B).1;unfold qi at h2;simp only[zA2,zAx]at h2;obtain⟨⟨G,A⟩,I,L,u,M⟩:=h2;unfold uE at u;rw[zAx]at u;exact⟨h1,⟨C,zB,zB,zB⟩,z,E,A,u,hv⟩
def rg0:Rg:=⟨0,⟨[],0,0,[],0,0,0,0⟩,[],[],⟨0,0,0⟩⟩
def OH:Ms:=⟨0,[],[],[]⟩
def Sq (e:Int):AV:= .tup [uQ rg0,zW OH,bA false,iA e]
def W8:GR rg0:=⟨XH,zA9 _,zA9 _,zA9 _⟩
def gH (e:Int):Sq e= .tup [.agg [iA 0,.sl false [],iA 0,iA 0,.sl false [],iA 0,iA 0,iA 0,iA 0,.sl false [],.sl false [],iA 0,iA 0,iA 0],.agg [iA 0,.sl false [],.sl false [],.sl false []],bA false,iA e]:=rfl
def VS (r:Rg) (m:Ms) (s f3:Int) (u:List Int) (B b C:Bool) (z:zN 343 [uQ r] [] (bA B) []) (A:zN 123 [zW m] [] (bA b) []) (E:zN 344 [zE yP r.tk,iA s] [] (bA C) []) (h:B=false\/b=false\/C=false\/(¬(ln u:Int)=0/\¬(ln u:Int)=8)) (I:ln u<=1000):
  zN 307 [uQ r,zW m,iA s,iA f3,zE yA u] [] (Sq 1) []:=by
 rw[gH];have G:=zA yA u;cases B
 ·(refine eM call307 λF hF=>?_)
  exact ng z
 cases b
 ·(refine eM call307 λF hF=>?_)
  exact mx (xV z A)
 cases C
 ·(refine eM call307 λF hF=>?_)
  exact mx (qM z A E)
 .rcases h with h|h|h|⟨h1,h2⟩
  .cases h
  .cases h
  .cases h
  ·(refine eM call307 λF hF=>?_)
   exact mx (qM z A E)
def Qq (r:Rg) (m:Ms) (s f3:Int) (z:List Int) (u:zN 328 [uQ r] [] (bA false) []):
  zN 289 [uQ r,zW m,iA s,iA f3,zE yA z] [] (Sq 1) []:=by
 rw[gH];by_cases h2:m.kind=2
 ·(refine eM call289 λF hF=>?_)
  exact ng u
 by_cases A:m.kind=3
 ·(refine eM call289 λF hF=>?_)
  exact ng u
 by_cases B:m.kind=4
 ·(refine eM call289 λF hF=>?_)
  exact ng u
 by_cases C:m.kind=5
 all_goals
  (refine eM call289 λF hF=>?_)
  exact ng u
def Pq (r:Rg) (m:Ms) (s f3:Int) (u:List Int) (z:zN 328 [uQ r] [] (bA true) []) (h2:¬m.kind=2) (A:¬m.kind=3) (B:¬m.kind=4) (C:¬m.kind=5):
  zN 289 [uQ r,zW m,iA s,iA f3,zE yA u] [] (Sq 1) []:=by
 rw[gH];refine eM call289 λF hF=>?_
 exact ng z
def LG (r:Rg) (m:Ms) (s f3:Int) (u:List Int) (Y:ln r.tk=8) (b:Bool) (z:zN 328 [uQ r] [] (bA true) []) (A:zN 69 [zW m] [] (bA b) []) (hk:m.kind=2\/m.kind=3\/m.kind=4\/m.kind=5)
  (h:b=false\/jW r.tk s=false\/(¬(ln u:Int)=0/\¬(ln u:Int)=8)) (U:ln u<=1000):zN 289 [uQ r,zW m,iA s,iA f3,zE yA u] [] (Sq 1) []:=by
 rw[gH];have R:=zA yA u;have S:=zA yP r.tk;cases b
 .clear h
  rcases hk with hk|hk|hk|hk
  all_goals
   refine eM call289 λF hF=>?_
   exact mx (xV z A)
 by_cases C:0<=s
 case neg=>
  clear h
  rcases hk with hk|hk|hk|hk
  all_goals
   refine eM call289 λF hF=>?_
   exact mx (xV z A)
 by_cases W:s<8
 case neg=>
  clear h
  rcases hk with hk|hk|hk|hk
  all_goals
   refine eM call289 λF hF=>?_
   exact mx (xV z A)
 have V:=yE yP r.tk s C zB;have E:jW r.tk s=(r.tk.getD s.toNat dd).used:=by unfold jW;rw[zAu ⟨C,zB⟩,zA3]
 rw[E]at h;clear E;generalize r.tk.getD s.toNat dd=x at *;obtain⟨B,G,I,L,M,O⟩:=x;dsimp only at h;rw[show yP ⟨B,G,I,L,M,O⟩= .agg [bA B,zE yA G,iA I,iA L,iA M,iA O]from Z]at V;cases B
 .clear h
  rcases hk with hk|hk|hk|hk
  all_goals
   refine eM call289 λF hF=>?_
   exact mx (xV z A)
 .rcases h with h|h|⟨g1,g2⟩
  .cases h
  .cases h
  .rcases hk with hk|hk|hk|hk
   all_goals
    refine eM call289 λF hF=>?_
    exact mx (xV z A)
def LH (k a:Int):zN 329 [iA k,iA a] [] (zW ⟨14,[],[k,a],[]⟩) []:=by
 refine eM call329 λF hF=>?_
 exact nl
def V8 (r:Rg) (l:List Vh):Rg:=⟨r.num,r.ag,r.tk,l,r.bk⟩
def DoP (r:Rg) (m:Ms) (z:List Int) (A:Rg) (p:Ms) (u:Bool) (e:Int):Prop:=
 (e≠0->u=false/\0<=e/\e<=100)/\(e=0->(∃o,ln o=8/\o9 r.tk o/\A=gy r o/\((u=false/\p=⟨14,[],[3,m.args.getD 0 0],[]⟩/\m.kind=3)\/(u=true/\z.length=8/\m.kind=2/\∃k:Nat,k<8/\p=⟨16,[],[(k:Int)],r.num::(k:Int)::z⟩)))\/
  (∃o,ln o<=8/\A=V8 r o/\u=false/\(m.kind=4\/m.kind=5)/\p=⟨14,[],[m.kind,m.args.getD 0 0],[]⟩))
def YL (r:Rg) (m:Ms) (s f3:Int) (z:List Int):Prop:=∃(A:Rg) (p:Ms) (u:Bool) (e:Int),GR A/\B2 p/\DoP r m z A p u e/\
 zN 307 [uQ r,zW m,iA s,iA f3,zE yA z] [] (.tup [uQ A,zW p,bA u,iA e]) []/\
 zN 289 [uQ r,zW m,iA s,iA f3,zE yA z] [] (.tup [uQ A,zW p,bA u,iA e]) []
def U8:B2 OH:=⟨zA9 _,zA9 _,zA9 _⟩
theorem YL.bad {r:Rg} {m:Ms} {s f3:Int} {u:List Int} (e:Int) (z:e≠0) (h1:zN 307 [uQ r,zW m,iA s,iA f3,zE yA u] [] (Sq e) []) (h2:zN 289 [uQ r,zW m,iA s,iA f3,zE yA u] [] (Sq e) []) (hb:0<=e/\e<=100:=by omega):YL r m s f3 u:=
 ⟨rg0,OH,false,e,W8,U8,⟨λ_=>⟨rfl,hb⟩,λh=>absurd h z⟩,h1,h2⟩
theorem do3 (r:Rg) (B:Io r=true) (z:List Int) (a s f3:Int) (A:List Int) (C:jW r.tk s=true) (u:(ln A:Int)=0\/(ln A:Int)=8)
  (m1:zN 123 [zW ⟨3,z,[a],[]⟩] [] (bA true) []) (m2:zN 69 [zW ⟨3,z,[a],[]⟩] [] (bA true) []):YL r ⟨3,z,[a],[]⟩ s f3 A:=by
 have H:=Tq B;have I:=ZV r XZ;have S:=bW r XZ;rw[B]at I S;have L:=TQ r.tk s;rw[C]at L;have V:=cC r H.b;have k4:=eI r H.b;have M:=dy ⟨3,z,[a],[]⟩ a Z;have U:=LH 3 a;rw[show zW ⟨14,[],[(⟨3,z,[a],[]⟩:Ms).kind,a],[]⟩= .agg [iA 14,.sl false [],.sl false [iA 3,iA a],.sl false []]from Z]at M;rw[show zW ⟨14,[],[3,a],[]⟩= .agg [iA 14,.sl false [],.sl false [iA 3,iA a],.sl false []]from Z]at U;obtain⟨o,e,_,ho,G,W,k5⟩:=AZ r.tk H.b.tk a;have ag:=zA yA A;have ap:=zA yP r.tk;have ac:([a].map iA).length=1:=rfl
 have E:(r.tk.getD s.toNat dd).used=true/\0<=s/\s<8:=by
  unfold jW at C;rw[zA2,zAx]at C;exact⟨C.2,C.1.1,by have:=H.n8;omega⟩
 have R:=H.n8;have hy:=yE yP r.tk s E.2.1 zB;have O:GR (gy r o):=⟨ho,H.b.s,H.b.l,H.b.v⟩;obtain⟨E,ar,au⟩:=E;clear C H B;generalize r.tk.getD s.toNat dd=x at *;obtain⟨xu,x1,x2,x3,x4,x5⟩:=x;dsimp only at E;subst E;rw[show yP ⟨true,x1,x2,x3,x4,x5⟩= .agg [bA true,zE yA x1,iA x2,iA x3,iA x4,iA x5]from Z]at hy;by_cases Y:e=0
 .subst Y;refine⟨gy r o,⟨14,[],[3,a],[]⟩,false,0,O,⟨zA9 _,by simp,zA9 _⟩,⟨λh=>absurd Z h,λ_=> .inl ⟨o,by rw[(G Z).1,R],(G Z).2,rfl,.inl ⟨rfl,rfl,rfl⟩⟩⟩,?_,?_⟩
  .rw[show zW ⟨14,[],[3,a],[]⟩= .agg [iA 14,.sl false [],.sl false [iA 3,iA a],.sl false []]from Z]
   rcases u with u|u
   all_goals
    refine eM call307 λF hF=>?_
    exact mx (mb I m1 L V W M)
  .rw[show zW ⟨14,[],[3,a],[]⟩= .agg [iA 14,.sl false [],.sl false [iA 3,iA a],.sl false []]from Z]
   rcases u with u|u
   all_goals
    refine eM call289 λF hF=>?_
    exact mx (MG S m2 k4 U k5)
 .refine .bad e Y ?_ ?_
  .rw[gH]
   rcases u with u|u
   all_goals
    refine eM call307 λF hF=>?_
    exact mx (mb I m1 L V W M)
  .rw[gH]
   rcases u with u|u
   all_goals
    refine eM call289 λF hF=>?_
    exact mx (MG S m2 k4 U k5)
theorem do5 (r:Rg) (B:Io r=true) (z:List Int) (a s f3:Int) (A:List Int) (C:jW r.tk s=true) (u:(ln A:Int)=0\/(ln A:Int)=8)
  (m1:zN 123 [zW ⟨5,z,[a],[]⟩] [] (bA true) []) (m2:zN 69 [zW ⟨5,z,[a],[]⟩] [] (bA true) []):YL r ⟨5,z,[a],[]⟩ s f3 A:=by
 have H:=Tq B;have G:=ZV r XZ;have R:=bW r XZ;rw[B]at G R;have I:=TQ r.tk s;rw[C]at I;have U:=cC r H.b;have Y:=eI r H.b;have L:=dy ⟨5,z,[a],[]⟩ a Z;have S:=LH 5 a;rw[show zW ⟨14,[],[(⟨5,z,[a],[]⟩:Ms).kind,a],[]⟩= .agg [iA 14,.sl false [],.sl false [iA 5,iA a],.sl false []]from Z]at L;rw[show zW ⟨14,[],[5,a],[]⟩= .agg [iA 14,.sl false [],.sl false [iA 5,iA a],.sl false []]from Z]at S;obtain⟨o,e,⟨ac,_⟩,ho,V,k5⟩:=AX r.vh XZ a;have ap:=zA yA A;have ar:=zA yP r.tk;have ag:([a].map iA).length=1:=rfl
 have E:(r.tk.getD s.toNat dd).used=true/\0<=s/\s<8:=by
  unfold jW at C;rw[zA2,zAx]at C;exact⟨C.2,C.1.1,by have:=H.n8;omega⟩
 have au:=H.n8;have hy:=yE yP r.tk s E.2.1 zB;have O:ln o<=8:=by have:=H.vl;omega
 have M:GR (V8 r o):=⟨H.b.tk,H.b.s,H.b.l,by have:=H.vl;show (ln o)<=_;omega⟩;obtain⟨E,av,ax⟩:=E;clear C H B;generalize r.tk.getD s.toNat dd=x at *;obtain⟨xu,x1,x2,x3,x4,x5⟩:=x;dsimp only at E;subst E;rw[show yP ⟨true,x1,x2,x3,x4,x5⟩= .agg [bA true,zE yA x1,iA x2,iA x3,iA x4,iA x5]from Z]at hy;by_cases W:e=0
 .subst W;refine⟨V8 r o,⟨14,[],[5,a],[]⟩,false,0,M,⟨zA9 _,by simp,zA9 _⟩,⟨λh=>absurd Z h,λ_=> .inr ⟨o,O,rfl,rfl,.inr Z,rfl⟩⟩,?_,?_⟩
  .rw[show zW ⟨14,[],[5,a],[]⟩= .agg [iA 14,.sl false [],.sl false [iA 5,iA a],.sl false []]from Z]
   rcases u with u|u
   all_goals
    refine eM call307 λF hF=>?_
    exact mx (mb G m1 I U V L)
  .rw[show zW ⟨14,[],[5,a],[]⟩= .agg [iA 14,.sl false [],.sl false [iA 5,iA a],.sl false []]from Z]
   rcases u with u|u
   all_goals
    refine eM call289 λF hF=>?_
    exact mx (MG R m2 Y S k5)
 .refine .bad e W ?_ ?_
  .rw[gH]
   rcases u with u|u
   all_goals
    refine eM call307 λF hF=>?_
    exact mx (mb G m1 I U V L)
  .rw[gH]
   rcases u with u|u
   all_goals
    refine eM call289 λF hF=>?_
    exact mx (MG R m2 Y S k5)
def Sa (r:Rg) (a b s:Int) (S:ln r.tk=8) (I:0<=s) (R:s<8) (o:List Vh) (e:Int) (c:zN 378 [zE vB r.vh,uI (uy r.ag (min r.ag.cls (r.tk.getD s.toNat dd).cls)),vB ⟨a,b⟩] [] (.tup [zE vB o,iA e]) []):
  zN 348 [uQ r,zE iA [a,b],iA s] [] (.tup [zE vB o,iA e]) []:=by
 have M:=zA yP r.tk;have L:([a,b].map iA).length=2:=rfl;have O:=yE yP r.tk s I zB;generalize r.tk.getD s.toNat dd=x at *;obtain⟨G,A,B,C,u,E⟩:=x;rw[show yP ⟨G,A,B,C,u,E⟩= .agg [bA G,zE yA A,iA B,iA C,iA u,iA E]from Z]at O;rw[show(⟨G,A,B,C,u,E⟩:Tk).cls=u from Z]at c;have z:uI (uy r.ag (min r.ag.cls u))= .agg [zE yA r.ag.sec,iA r.ag.rights,iA (min r.ag.cls u),zE iA r.ag.lim,iA r.ag.req,iA r.ag.ses,iA r.ag.rate,iA r.ag.burst]:=rfl;rw[z]at c;rw[show vB ⟨a,b⟩= .agg [iA a,iA b]from Z]at c;refine eM call348 λF hF=>?_
 exact ng c
theorem do4 (r:Rg) (B:Io r=true) (A:List Int) (a b s f3:Int) (z:List Int) (C:jW r.tk s=true) (u:(ln z:Int)=0\/(ln z:Int)=8)
  (m1:zN 123 [zW ⟨4,A,[a,b],[]⟩] [] (bA true) []) (m2:zN 69 [zW ⟨4,A,[a,b],[]⟩] [] (bA true) []):YL r ⟨4,A,[a,b],[]⟩ s f3 z:=by
 have H:=Tq B;have I:=ZV r XZ;have Y:=bW r XZ;rw[B]at I Y;have L:=TQ r.tk s;rw[C]at L;have c4:=cC r H.b;have k4:=eI r H.b
 have M:zN 347 [zW ⟨4,A,[a,b],[]⟩] [] (zW ⟨14,[],[4,a],[]⟩) []:=by
  have R:([a,b].map iA).length=2:=rfl;refine eM call347 λF hF=>?_
  exact nl
 have k6:=LH 4 a;rw[show zW ⟨14,[],[4,a],[]⟩= .agg [iA 14,.sl false [],.sl false [iA 4,iA a],.sl false []]from Z]at M k6;obtain⟨o,e,⟨ac,_⟩,⟨ho,au⟩,cv,k5⟩:=KE r.vh XZ r.ag (r.tk.getD s.toNat dd).cls H.lim H.cls.2 ⟨a,b⟩;have ap:=zA yA z;have ar:=zA yP r.tk;have R:([a,b].map iA).length=2:=rfl
 have E:(r.tk.getD s.toNat dd).used=true/\0<=s/\s<8:=by
  unfold jW at C;rw[zA2,zAx]at C;exact⟨C.2,C.1.1,by have:=H.n8;omega⟩
 have S:=H.n8;have hy:=yE yP r.tk s E.2.1 zB;have U:ln o<=8:=by have:=H.vl;omega
 have O:GR (V8 r o):=⟨H.b.tk,H.b.s,H.b.l,by have:=H.vl;show (ln o)<=_;omega⟩;obtain⟨E,V,W⟩:=E;have c5:=Sa r a b s S V W o e cv;clear C H B cv;generalize r.tk.getD s.toNat dd=x at *;obtain⟨xu,x1,x2,x3,G,x5⟩:=x;dsimp only at E;subst E;rw[show yP ⟨true,x1,x2,x3,G,x5⟩= .agg [bA true,zE yA x1,iA x2,iA x3,iA G,iA x5]from Z]at hy;rw[show(⟨true,x1,x2,x3,G,x5⟩:Tk).cls=G from Z,show vB ⟨a,b⟩= .agg [iA a,iA b]from Z,show uI r.ag= .agg [zE yA r.ag.sec,iA r.ag.rights,iA r.ag.cls,zE iA r.ag.lim,iA r.ag.req,iA r.ag.ses,iA r.ag.rate,iA r.ag.burst]from Z]at k5;by_cases he:e=0
 .subst he;refine⟨V8 r o,⟨14,[],[4,a],[]⟩,false,0,O,⟨zA9 _,by simp,zA9 _⟩,⟨λh=>absurd Z h,λ_=> .inr ⟨o,U,rfl,rfl,.inl Z,rfl⟩⟩,?_,?_⟩
  .rw[show zW ⟨14,[],[4,a],[]⟩= .agg [iA 14,.sl false [],.sl false [iA 4,iA a],.sl false []]from Z]
   rcases u with u|u
   all_goals
    refine eM call307 λF hF=>?_
    exact mx (mb I m1 L c4 c5 M)
  .rw[show zW ⟨14,[],[4,a],[]⟩= .agg [iA 14,.sl false [],.sl false [iA 4,iA a],.sl false []]from Z]
   rcases u with u|u
   all_goals
    refine eM call289 λF hF=>?_
    exact mx (MG Y m2 k4 k6 k5)
 .refine .bad e he ?_ ?_
  .rw[gH]
   rcases u with u|u
   all_goals
    refine eM call307 λF hF=>?_
    exact mx (mb I m1 L c4 c5 M)
  .rw[gH]
   rcases u with u|u
   all_goals
    refine eM call289 λF hF=>?_
    exact mx (MG Y m2 k4 k6 k5)
def Mi:AV:= .agg [iA 0,.s (.slice none 0 0),.s (.slice none 0 0),.s (.slice none 0 0)]
def Ad (r:Rg) (s R c u f3 e:Int) (E:¬e=0) (k:Nat) (z:List Int)
  (A:zN 375 [zE yP r.tk,iA s,iA R,iA c,iA u,zE yA (pb 8 0),iA f3] [] (.tup [.sl false [],iA k,iA e]) []):
  zN 345 [.ptr 14 0 0,zE iA [R,c,u],iA s,iA f3,zE yA z] [(14,VP r)] (.tup [Mi,iA e]) [(14,VP r)]:=by
 have C:=zA yA z;have B:([R,c,u].map iA).length=3:=rfl;unfold VP Mi;rw[show zE yA (pb 8 0)= .sl false (pb 8 (AV.s (.int .u8 0)))from Z]at A;refine eM call345 λF hF=>?_
 (repeat' (first|refine J1 ?_|apply yW|apply xI|intro hc|(apply zG;first|refine SM ?_)|fail))
 refine kW (st':=⟨[(0,.ptr 14 0 0),(1,zE iA [R,c,u]),(2,iA s),(3,iA f3),(4,zE yA z),(10,.ptr 10 0 0),(11,iA 0),(12,.sl false (pb 8 (AV.s (.int .u8 0))))],[(14,.box [iA r.num,zE yA r.ag.sec,iA r.ag.rights,iA r.ag.cls,zE iA r.ag.lim,iA r.ag.req,iA r.ag.ses,iA r.ag.rate,iA r.ag.burst,zE yP r.tk,zE vB r.vh,iA r.bk.level,iA r.bk.rate,iA r.bk.burst]),(10,.box [iA 0,.s (.slice none 0 0),.s (.slice none 0 0),.s (.slice none 0 0)])]⟩) [14,10] [0,1,2,3,4,10,11,12] Z Z ?_;refine zS A ?_;exact zP [14] Z Z Z Z
def ze (r:Rg) (s R c u f3:Int) (k:Nat) (C:List Tk)
  (z:zN 375 [zE yP r.tk,iA s,iA R,iA c,iA u,zE yA (pb 8 0),iA f3] [] (.tup [zE yP C,iA k,iA 0]) []):
  zN 345 [.ptr 14 0 0,zE iA [R,c,u],iA s,iA f3,zE yA []] [(14,VP r)] (.tup [Mi,iA 18]) [(14,VP r)]:=by
 have B:(([]:List Int).map yA).length=0:=rfl;have A:([R,c,u].map iA).length=3:=rfl;unfold VP Mi;rw[show zE yA (pb 8 0)= .sl false (pb 8 (AV.s (.int .u8 0)))from Z]at z;refine eM call345 λF hF=>?_
 (repeat' (first|refine J1 ?_|apply yW|apply xI|intro hc|(apply zG;first|refine SM ?_)|fail))
 refine kW (st':=⟨[(0,.ptr 14 0 0),(1,zE iA [R,c,u]),(2,iA s),(3,iA f3),(4,zE yA []),(10,.ptr 10 0 0),(11,iA 0),(12,.sl false (pb 8 (AV.s (.int .u8 0))))],[(14,.box [iA r.num,zE yA r.ag.sec,iA r.ag.rights,iA r.ag.cls,zE iA r.ag.lim,iA r.ag.req,iA r.ag.ses,iA r.ag.rate,iA r.ag.burst,zE yP r.tk,zE vB r.vh,iA r.bk.level,iA r.bk.rate,iA r.bk.burst]),(10,.box [iA 0,.s (.slice none 0 0),.s (.slice none 0 0),.s (.slice none 0 0)])]⟩) [14,10] [0,1,2,3,4,10,11,12] Z Z ?_;refine zS z ?_;exact zP [14] Z Z Z Z
def ye (r:Rg) (S:0<=r.num/\r.num<4) (s R c u f3:Int) (z:List Int) (U:(ln z:Int)=8) (k:Nat) (I:k<8) (O B:List Tk)
  (A:zN 375 [zE yP r.tk,iA s,iA R,iA c,iA u,zE yA (pb 8 0),iA f3] [] (.tup [zE yP O,iA k,iA 0]) [])
  (E:zN 375 [zE yP r.tk,iA s,iA R,iA c,iA u,zE yA z,iA f3] [] (.tup [zE yP B,iA k,iA 0]) []):
  zN 345 [.ptr 14 0 0,zE iA [R,c,u],iA s,iA f3,zE yA z] [(14,VP r)] (.tup [.agg [iA 16,.s (.slice none 0 0),.sl false [iA k],zE yA (r.num::(k:Int)::z)],iA 0]) [(14,VP (gy r B))]:=by
 have G:=Ao r.num k z zB zB zB zB zB;have M:=zA yA z;have L:([R,c,u].map iA).length=3:=rfl;unfold VP gy;dsimp only;generalize r.num::(k:Int)::z=C at *;rw[show zE yA (pb 8 0)= .sl false (pb 8 (AV.s (.int .u8 0)))from Z]at A;refine eM call345 λF hF=>?_
 (repeat' (first|refine J1 ?_|apply yW|apply xI|intro hc|(apply zG;first|refine SM ?_)|fail))
 refine kW (st':=⟨[(0,.ptr 14 0 0),(1,zE iA [R,c,u]),(2,iA s),(3,iA f3),(4,zE yA z),(10,.ptr 10 0 0),(11,iA 0),(12,.sl false (pb 8 (AV.s (.int .u8 0))))],[(14,.box [iA r.num,zE yA r.ag.sec,iA r.ag.rights,iA r.ag.cls,zE iA r.ag.lim,iA r.ag.req,iA r.ag.ses,iA r.ag.rate,iA r.ag.burst,zE yP r.tk,zE vB r.vh,iA r.bk.level,iA r.bk.rate,iA r.bk.burst]),(10,.box [iA 0,.s (.slice none 0 0),.s (.slice none 0 0),.s (.slice none 0 0)])]⟩) [14,10] [0,1,2,3,4,10,11,12] Z Z ?_;refine yG (qM A E G) ?_;exact zP [14] Z Z Z Z
def Qa (r:Rg) (n8:ln r.tk=8) (z:List Int) (R c u s f3:Int) (L:0<=s) (M:s<8) (Y:List Int) (x2 x3 x4 x5:Int) (hy:(r.tk.map yP)[s.toNat]? =some (.agg [bA true,zE yA Y,iA x2,iA x3,iA x4,iA x5])) (k:Nat) (e f:Int) (B:(e=0/\f=18)\/(¬e=0/\f=e)) (V:List Tk)
  (O:zN 328 [uQ r] [] (bA true) []) (W:zN 69 [zW ⟨2,z,[R,c,u],[]⟩] [] (bA true) []) (S:zN 186 [uQ r] [] (uQ r) [])
  (e1:zN 330 [zE yP r.tk,iA s,iA R,iA c,iA u,zE yA (pb 8 0),iA f3] [] (.tup [zE yP V,iA k,iA e]) []) (U:zN 66 [iA r.num,iA k,zE yA []] [] (zE yA (r.num::(k:Int)::[])) []):
  zN 289 [uQ r,zW ⟨2,z,[R,c,u],[]⟩,iA s,iA f3,zE yA []] [] (Sq f) []:=by
 rw[gH];have A:=LH 2 R;rw[show zW ⟨14,[],[2,R],[]⟩= .agg [iA 14,.sl false [],.sl false [iA 2,iA R],.sl false []]from Z]at A;have E:(([]:List Int).map yA).length=0:=rfl;have G:=zA yP r.tk;have C:([R,c,u].map iA).length=3:=rfl;have I:(pb 8 (AV.s (.int .u8 0))).length=8:=rfl;rw[show zE yA (pb 8 0)= .sl false (pb 8 (AV.s (.int .u8 0)))from Z]at e1;refine eM call289 λF hF=>?_
 (have ga:=O;have ge:=W;have gn:=S;(repeat' (first|refine J1 ?_|apply yW|apply xI|intro hc|(apply zG;first|refine SM ?_)|fail))<;>clear ga ge gn)
 refine vZ Z ?_
 (have ga:=A;(repeat' (first|refine WS ?_|refine SG (I2 (λhc=>?_) λhc=>?_)|refine SG λhc=>?_|(apply zG;first|refine SM ?_)|(first|first|refine SX ?_|fail|apply xC)|fail))<;>clear ga)
 refine kW (st':=⟨[(2,iA s),(3,iA f3),(4,zE yA []),(5,.ptr 5 0 0),(6,.ptr 6 0 0),(10,.ptr 10 0 0),(11,.ptr 11 0 0),(12,bA false),(13,iA 0),(15,.ptr 15 0 0),(16,.ptr 16 0 0),(17,iA 0),(18,.sl false (pb 8 (AV.s (.int .u8 0))))],[(15,VP r),(16,.box [iA 14,.sl false [],.sl false [iA 2,iA R],.sl false []]),(10,.box [iA 0,.s (.slice none 0 0),iA 0,iA 0,.s (.slice none 0 0),iA 0,iA 0,iA 0,iA 0,.s (.slice none 0 0),.s (.slice none 0 0),iA 0,iA 0,iA 0]),(11,.box [iA 0,.s (.slice none 0 0),.s (.slice none 0 0),.s (.slice none 0 0)]),(5,VP r),(6,.box [iA 2,zE yA z,zE iA [R,c,u],zE yA []])]⟩) [15,16,10,11,5,6] [2,3,4,5,6,10,11,12,13,15,16,17,18] Z Z ?_;unfold VP
 rcases B with⟨rfl,rfl⟩|⟨he,rfl⟩
 all_goals
  exact mx (xV e1 U)
def Pa (r:Rg) (n8:ln r.tk=8) (A:List Int) (R c z s f3:Int) (u:List Int) (ac:(ln u:Int)=8) (W:0<=s) (Y:s<8) (x1:List Int) (x2 x3 x4 x5:Int) (hy:(r.tk.map yP)[s.toNat]? =some (.agg [bA true,zE yA x1,iA x2,iA x3,iA x4,iA x5])) (k:Nat) (e:Int) (L:List Tk)
  (E:zN 328 [uQ r] [] (bA true) []) (M:zN 69 [zW ⟨2,A,[R,c,z],[]⟩] [] (bA true) []) (G:zN 186 [uQ r] [] (uQ r) [])
  (e1:zN 330 [zE yP r.tk,iA s,iA R,iA c,iA z,zE yA u,iA f3] [] (.tup [zE yP L,iA k,iA e]) []) (I:zN 66 [iA r.num,iA k,zE yA u] [] (zE yA (r.num::(k:Int)::u)) []):
  zN 289 [uQ r,zW ⟨2,A,[R,c,z],[]⟩,iA s,iA f3,zE yA u] [] (if e=0 then .tup [uQ (gy r L),zW ⟨16,[],[(k:Int)],r.num::(k:Int)::u⟩,bA true,iA 0]else Sq e) []:=by
 have C:=LH 2 R;rw[show zW ⟨14,[],[2,R],[]⟩= .agg [iA 14,.sl false [],.sl false [iA 2,iA R],.sl false []]from Z]at C;have U:=zA yA u;have V:=zA yP r.tk;have S:([R,c,z].map iA).length=3:=rfl;rw[show zW ⟨16,[],[(k:Int)],r.num::(k:Int)::u⟩= .agg [iA 16,.sl false [],.sl false [iA (k:Int)],zE yA (r.num::(k:Int)::u)]from Z];generalize r.num::(k:Int)::u=O at *;by_cases B:e=0
 .rw[f5 B];subst B;refine eM call289 λF hF=>?_
  exact mx (mb E M G C e1 I)
 .rw[Os B,gH];refine eM call289 λF hF=>?_
  exact mx (mb E M G C e1 I)
def Iw:∀a b:_root_.Fin 64,(jI a.val b.val==(a.val:Int))=true->(jI b.val 16==(16:Int))=false->(jI a.val 16==(16:Int))=false:=by decide +kernel
def T8 {a b:Int} (h:Rc a b=true) (k:bj b 10=false):bj a 10=false:=by
 unfold Rc PV at h;simp only[zA2,zAx]at h;obtain⟨⟨⟨a0,A⟩,u,z⟩,h⟩:=h;obtain⟨m,rfl⟩:=zCl a0;obtain⟨n,rfl⟩:=zCl u;have e:MC 10=16:=by decide
 unfold bj PV at k⊢;rw[e]at k⊢;rw[zAu ⟨u,z⟩,zA3]at k;rw[Iw ⟨m,zB⟩ ⟨n,zB⟩ h k,zCp]
theorem do2 (r:Rg) (V:Io r=true) (B:List Int) (R c u s f3:Int) (z:List Int) (S:jW r.tk s=true) (A:(ln z:Int)=0\/(ln z:Int)=8)
  (m1:zN 123 [zW ⟨2,B,[R,c,u],[]⟩] [] (bA true) []) (m2:zN 69 [zW ⟨2,B,[R,c,u],[]⟩] [] (bA true) []):YL r ⟨2,B,[R,c,u],[]⟩ s f3 z:=by
 have H:=Tq V;have c1:=ZV r XZ;have k1:=bW r XZ;rw[V]at c1 k1;have c3:=TQ r.tk s;rw[S]at c3;have c4:=cC r H.b;have k4:=eI r H.b;obtain⟨k,e,_,hk,ag,Y⟩:=AY r.tk H.b.tk s R c u f3;have E:=H.n8
 have ac:k<8:=by rcases hk with h|h<;>omega
 have av:e=0->∀y au,o9 r.tk (EO r.tk k e ⟨true,y,s,R,c,au⟩):=λI y au=>λh t W S=>by
  obtain⟨_,p0,p1,_,p2,p3⟩:=ag I;unfold EO at W;rw[f5 I]at W
  rcases zDt W with W|rfl
  .exact h t W S
  .exact T8 p2 (h _ (yK r.tk s.toNat zB) p3)
 clear ag;have kb:=YA r.num k z zB H.num.1 (by have:=H.num;omega) zB zB;have ar:=H.num;have a1:=zA yA z;have a2:=zA yP r.tk;have az:([R,c,u].map iA).length=3:=rfl
 have hU:(r.tk.getD s.toNat dd).used=true/\0<=s/\s<8:=by
  unfold jW at S;rw[zA2,zAx]at S;exact⟨S.2,S.1.1,zB⟩
 have hy:=yE yP r.tk s hU.2.1 zB;have G:∀t:Tk,ln t.sec<=1000000->GR (gy r (EO r.tk k e t)):=λt W=>⟨j5 H.b.tk k e t W,H.b.s,H.b.l,H.b.v⟩
 obtain⟨hU,L,M⟩:=hU;clear S H V hk;generalize r.tk.getD s.toNat dd=x at *;obtain⟨xu,x1,x2,x3,x4,x5⟩:=x;dsimp only at hU;subst hU;rw[show yP ⟨true,x1,x2,x3,x4,x5⟩= .agg [bA true,zE yA x1,iA x2,iA x3,iA x4,iA x5]from Z]at hy;obtain⟨d1,e1⟩:=Y (pb 8 0) Z;by_cases I:e=0
 .subst I
  rcases A with A|A
  ·
   have A:=zBv (show (ln z)=0 by omega);subst A;have C:=Qa r E B R c u s f3 L M x1 x2 x3 x4 x5 hy k 0 18 (.inl ⟨rfl,rfl⟩) _ k1 m2 k4 e1 kb;refine .bad 18 yY ?_ C;clear C;generalize EO r.tk k 0 ⟨true,pb 8 0,s,R,c,rb u f3⟩=l1 at *;have O:=ze r s R c u f3 k l1 d1;unfold VP Mi at O;clear Y G;rw[gH];refine eM call307 λF hF=>?_
   exact mx (MG c1 m1 c3 c4 O)
  .obtain⟨d2,e2⟩:=Y z A;have C:=Pa r E B R c u s f3 z A L M x1 x2 x3 x4 x5 hy k 0 _ k1 m2 k4 e2 kb;rw[f5 Z]at C;refine⟨gy r (EO r.tk k 0 ⟨true,z,s,R,c,rb u f3⟩),⟨16,[],[(k:Int)],r.num::(k:Int)::z⟩,true,0,G _ (by show (ln z)<=_;omega),⟨zA9 _,by simp,by simp;omega⟩,⟨λh=>absurd Z h,λ_=> .inl ⟨_,by rw[EO,f5 Z,zB5];exact E,av Z _ _,rfl,.inr ⟨rfl,zB,rfl,k,ac,rfl⟩⟩⟩,?_,C⟩;clear C;generalize EO r.tk k 0 ⟨true,pb 8 0,s,R,c,rb u f3⟩=l1 at *;generalize EO r.tk k 0 ⟨true,z,s,R,c,rb u f3⟩=l2 at *;have O:=ye r ar s R c u f3 z A k ac l1 l2 d1 d2;unfold VP at O;clear Y G;rw[show zW ⟨16,[],[(k:Int)],r.num::(k:Int)::z⟩= .agg [iA 16,.sl false [],.sl false [iA (k:Int)],zE yA (r.num::(k:Int)::z)]from Z];generalize r.num::(k:Int)::z=ax at *;refine eM call307 λF hF=>?_
   exact mx (MG c1 m1 c3 c4 O)
 .have ap:∀t,EO r.tk k e t=[]:=λt=>by unfold EO;rw[Os I]
  have U:=d1;rw[ap]at U;have O:=Ad r s R c u f3 e I k z U;unfold VP Mi at O
  have C:zN 289 [uQ r,zW ⟨2,B,[R,c,u],[]⟩,iA s,iA f3,zE yA z] [] (Sq e) []:=by
   rcases A with A|A
   .have A:=zBv (show (ln z)=0 by omega);subst A;exact Qa r E B R c u s f3 L M x1 x2 x3 x4 x5 hy k e e (.inr ⟨I,rfl⟩) _ k1 m2 k4 e1 kb
   .obtain⟨d2,e2⟩:=Y z A;have C:=Pa r E B R c u s f3 z A L M x1 x2 x3 x4 x5 hy k e _ k1 m2 k4 e2 kb;rw[Os I]at C;exact C
  refine .bad e I ?_ C;clear C Y G ap e1 d1 U;rw[gH]
  rcases A with A|A
  all_goals
   refine eM call307 λF hF=>?_
   exact mx (MG c1 m1 c3 c4 O)
def Oq (r:Rg) (m:Ms) (s f3:Int) (u:List Int) (A:zN 343 [uQ r] [] (bA true) []) (B:zN 123 [zW m] [] (bA true) []) (C:zN 344 [zE yP r.tk,iA s] [] (bA true) []) (E:zN 219 [uQ r] [] (uQ r) []) (z:(ln u:Int)=0\/(ln u:Int)=8)
  (h2:¬m.kind=2) (I:¬m.kind=3) (L:¬m.kind=4) (M:¬m.kind=5):zN 307 [uQ r,zW m,iA s,iA f3,zE yA u] [] (Sq 1) []:=by
 rw[gH];have G:=zA yA u
 rcases z with z|z
 all_goals
  refine eM call307 λF hF=>?_
  exact mx (cD A B C E)
theorem Nq (h:ln l=1):∃a,l=[a]:=by
 match l,h with
 | [a],_=>exact⟨a,rfl⟩
theorem zAn (h:ln l=2):∃a b,l=[a,b]:=by
 match l,h with
 | [a,b],_=>exact⟨a,b,rfl⟩
theorem zAo (h:ln l=3):∃a b c,l=[a,b,c]:=by
 match l,h with
 | [a,b,c],_=>exact⟨a,b,c,rfl⟩
theorem Hw (r:Rg) (hv:ln r.vh<=1000) (m:Ms) (hm:B2 m) (s f3:Int) (u:List Int) (B:ln u<=1000):YL r m s f3 u:=by
 have A:=ZV r zB;have G:=bW r zB;obtain⟨b,E,hb⟩:=Mo m hm;have C:=TQ r.tk s
 cases R:Io r with
 |false=>
  rw[R]at A G;exact .bad 1 yY (VS r m s f3 u false b _ A E C (.inl Z) B) (Qq r m s f3 u G)
 |true=>
 have H:=Tq R;rw[R]at A G;by_cases hk:m.kind=2\/m.kind=3\/m.kind=4\/m.kind=5
 case neg=>
  have h2:¬m.kind=2:=λh=>hk (.inl h)
  have V:¬m.kind=3:=λh=>hk (.inr (.inl h))
  have W:¬m.kind=4:=λh=>hk (.inr (.inr (.inl h)))
  have Y:¬m.kind=5:=λh=>hk (.inr (.inr (.inr h)))
  refine .bad 1 yY ?_ (Pq r m s f3 u G h2 V W Y)
  cases b with
  |false=>exact VS r m s f3 u true false _ A E C (.inr (.inl Z)) B
  |true=>
  cases I:jW r.tk s with
  |false=>exact VS r m s f3 u true true _ A E C (.inr (.inr (.inl I))) B
  |true=>
  rw[I]at C;by_cases z:(ln u:Int)=0\/(ln u:Int)=8
  .exact Oq r m s f3 u A E C (cC r H.b) z h2 V W Y
  .exact VS r m s f3 u true true true A E C (.inr (.inr (.inr ⟨λh=>z (.inl h),λh=>z (.inr h)⟩))) B
 obtain⟨f,L⟩:∃f,zv m.kind f:=by
  unfold zv
  grind
 obtain⟨U,S,ac⟩:=ui m hm f L
 have O:U=b:=by
  grind
 subst O;have h1:=hb f L
 cases U with
 |false=>exact .bad 1 yY (VS r m s f3 u true false _ A E C (.inr (.inl Z)) B) (LG r m s f3 u H.n8 false G S hk (.inl Z) B)
 |true=>
 cases I:jW r.tk s with
 |false=>exact .bad 1 yY (VS r m s f3 u true true _ A E C (.inr (.inr (.inl I))) B) (LG r m s f3 u H.n8 true G S hk (.inr (.inl I)) B)
 |true=>
 by_cases z:(ln u:Int)=0\/(ln u:Int)=8
 case neg=>
  have hq:¬(ln u:Int)=0/\¬(ln u:Int)=8:=⟨λh=>z (.inl h),λh=>z (.inr h)⟩;exact .bad 1 yY (VS r m s f3 u true true _ A E C (.inr (.inr (.inr hq))) B) (LG r m s f3 u H.n8 true G S hk (.inr (.inr hq)) B)
 obtain⟨_,hd,M,_⟩:=h1.1 Z;obtain⟨mk,ag,ar,da⟩:=m;dsimp only at hd M L;subst hd
 rcases L with⟨rfl,rfl⟩|⟨rfl,rfl⟩|⟨rfl,rfl⟩|⟨rfl,rfl⟩
 all_goals grind [YL,zAo,do2,Nq,do3,zAn,do4,do5]
