/- Part 15. -/
import Derived.Test.YtaglbcjljlkjcaaGreatX14
namespace Go.Proofs.YtaglbcjljlkjcaaGreat.Av
open Tryz
set_option linter.all false
set_option maxRecDepth 4000
set_option maxHeartbeats 4000000
open List renaming length->ln,replicate->pb
open Inhabited renaming default->dd
variable {l:List Int}
def K5 {l:List Tk} (h:PG l=true):IP l/\l.length=8:=by
 rw[Ef]at h;have T:=(L3 l).1 h;refine⟨⟨by have:=T.n;omega,λt A=>?_⟩,T.n⟩;obtain⟨i,hi,rfl⟩:=zDn A;have u:i<8:=by have:=T.n;omega
 have e:l.getD i dd=l[i]:=by simp[List.getD,hi]
 cases z:(l.getD i dd).used with
 |false=>
  have:=T.f i u z
  grind [PG,KJ]
 |true=>
  have:=(T.s i u z).1
  grind [PG,Gr,AN]
def J5 {l:List Tk} (hb:IP l) (k:Nat) (e:Int) (t:Tk) (u:ln t.sec<=1000000):IP (DC l k e t):=by
 unfold DC;split
 .refine⟨by rw[zCk];exact hb.n,λx z=>?_⟩
  rcases zDm z with h|rfl
  .exact hb.s x h
  .exact u
 .exact XI
structure GvB (r:Rg):Prop where
 num:0<=r.num/\r.num<4
 b:IQ r
 tv:PG r.tk=true
 n8:r.tk.length=8
 lim:(r.ag.lim.length:Int)=4
 cls:0<=r.ag.cls/\r.ag.cls<=3
 vl:r.vh.length<=8
def Kq {r:Rg} (h:Sp r=true):GvB r:=by
 unfold Sp at h;simp only[zBg,zBc]at h;obtain⟨h1,h2,z,B,O,R⟩:=h;obtain⟨C,E⟩:=K5 z;have hv:=(Ky.1 B).1;unfold Ui at h2;simp only[zBg,zBc]at h2;obtain⟨⟨G,A⟩,I,L,u,M⟩:=h2;unfold uH at u;rw[zBc]at u;exact⟨h1,⟨C,zB,zB,zB⟩,z,E,A,u,hv⟩
def rg0:Rg:=⟨0,⟨[],0,0,[],0,0,0,0⟩,[],[],⟨0,0,0⟩⟩
def OR:Ms:=⟨0,[],[],[]⟩
def Jq (e:Int):AV:= .tup [uR rg0,zX OR,bA false,iA e]
def C8:IQ rg0:=⟨XI,zBn _,zBn _,zBn _⟩
def gJ (e:Int):Jq e= .tup [.agg [iA 0,.sl false [],iA 0,iA 0,.sl false [],iA 0,iA 0,iA 0,iA 0,.sl false [],.sl false [],iA 0,iA 0,iA 0],.agg [iA 0,.sl false [],.sl false [],.sl false []],bA false,iA e]:=rfl
def VU (r:Rg) (m:Ms) (s f3:Int) (u:List Int) (B b C:Bool) (z:zO 343 [uR r] [] (bA B) []) (A:zO 123 [zX m] [] (bA b) []) (E:zO 344 [zE yN r.tk,iA s] [] (bA C) []) (h:B=false\/b=false\/C=false\/(¬(ln u:Int)=0/\¬(ln u:Int)=8)) (I:ln u<=1000):
  zO 307 [uR r,zX m,iA s,iA f3,zE yA u] [] (Jq 1) []:=by
 rw[gJ];have G:=zA yA u;cases B
 ·(refine eM call307 λF hF=>?_)
  exact ng z
 cases b
 ·(refine eM call307 λF hF=>?_)
  exact mx (xW z A)
 cases C
 ·(refine eM call307 λF hF=>?_)
  exact mx (qM z A E)
 .rcases h with h|h|h|⟨h1,h2⟩
  .cases h
  .cases h
  .cases h
  ·(refine eM call307 λF hF=>?_)
   exact mx (qM z A E)
def Iq (r:Rg) (m:Ms) (s f3:Int) (z:List Int) (u:zO 328 [uR r] [] (bA false) []):
  zO 289 [uR r,zX m,iA s,iA f3,zE yA z] [] (Jq 1) []:=by
 rw[gJ];by_cases h2:m.kind=2
 ·(refine eM call289 λF hF=>?_)
  exact ng u
 by_cases A:m.kind=3
 ·(refine eM call289 λF hF=>?_)
  exact ng u
 by_cases B:m.kind=4
 ·(refine eM call289 λF hF=>?_)
  exact ng u
 by_cases C:m.kind=5
 all_goals
  (refine eM call289 λF hF=>?_)
  exact ng u
def Hq (r:Rg) (m:Ms) (s f3:Int) (u:List Int) (z:zO 328 [uR r] [] (bA true) []) (h2:¬m.kind=2) (A:¬m.kind=3) (B:¬m.kind=4) (C:¬m.kind=5):
  zO 289 [uR r,zX m,iA s,iA f3,zE yA u] [] (Jq 1) []:=by
 rw[gJ];refine eM call289 λF hF=>?_
 exact ng z
def LS (r:Rg) (m:Ms) (s f3:Int) (u:List Int) (Y:ln r.tk=8) (b:Bool) (z:zO 328 [uR r] [] (bA true) []) (A:zO 69 [zX m] [] (bA b) []) (hk:m.kind=2\/m.kind=3\/m.kind=4\/m.kind=5)
  (h:b=false\/jZ r.tk s=false\/(¬(ln u:Int)=0/\¬(ln u:Int)=8)) (U:ln u<=1000):zO 289 [uR r,zX m,iA s,iA f3,zE yA u] [] (Jq 1) []:=by
 rw[gJ];have R:=zA yA u;have S:=zA yN r.tk;cases b
 .clear h
  rcases hk with hk|hk|hk|hk
  all_goals
   refine eM call289 λF hF=>?_
   exact mx (xW z A)
 by_cases C:0<=s
 case neg=>
  clear h
  rcases hk with hk|hk|hk|hk
  all_goals
   refine eM call289 λF hF=>?_
   exact mx (xW z A)
 by_cases W:s<8
 case neg=>
  clear h
  rcases hk with hk|hk|hk|hk
  all_goals
   refine eM call289 λF hF=>?_
   exact mx (xW z A)
 have V:=yF yN r.tk s C zB;have E:jZ r.tk s=(r.tk.getD s.toNat dd).used:=by unfold jZ;rw[zA9 ⟨C,zB⟩,zBh]
 rw[E]at h;clear E;generalize r.tk.getD s.toNat dd=x at *;obtain⟨B,G,I,L,M,O⟩:=x;dsimp only at h;rw[show yN ⟨B,G,I,L,M,O⟩= .agg [bA B,zE yA G,iA I,iA L,iA M,iA O]from Z]at V;cases B
 .clear h
  rcases hk with hk|hk|hk|hk
  all_goals
   refine eM call289 λF hF=>?_
   exact mx (xW z A)
 .rcases h with h|h|⟨g1,g2⟩
  .cases h
  .cases h
  .rcases hk with hk|hk|hk|hk
   all_goals
    refine eM call289 λF hF=>?_
    exact mx (xW z A)
def LT (k a:Int):zO 329 [iA k,iA a] [] (zX ⟨14,[],[k,a],[]⟩) []:=by
 refine eM call329 λF hF=>?_
 exact nl
def B8 (r:Rg) (l:List Vh):Rg:=⟨r.num,r.ag,r.tk,l,r.bk⟩
def DoP (r:Rg) (m:Ms) (z:List Int) (A:Rg) (p:Ms) (u:Bool) (e:Int):Prop:=
 (e≠0->u=false/\0<=e/\e<=100)/\(e=0->(∃o,ln o=8/\G9 r.tk o/\A=Ny r o/\((u=false/\p=⟨14,[],[3,m.args.getD 0 0],[]⟩/\m.kind=3)\/(u=true/\z.length=8/\m.kind=2/\∃k:Nat,k<8/\p=⟨16,[],[(k:Int)],r.num::(k:Int)::z⟩)))\/
  (∃o,ln o<=8/\A=B8 r o/\u=false/\(m.kind=4\/m.kind=5)/\p=⟨14,[],[m.kind,m.args.getD 0 0],[]⟩))
def YM (r:Rg) (m:Ms) (s f3:Int) (z:List Int):Prop:=∃(A:Rg) (p:Ms) (u:Bool) (e:Int),IQ A/\Pv p/\DoP r m z A p u e/\
 zO 307 [uR r,zX m,iA s,iA f3,zE yA z] [] (.tup [uR A,zX p,bA u,iA e]) []/\
 zO 289 [uR r,zX m,iA s,iA f3,zE yA z] [] (.tup [uR A,zX p,bA u,iA e]) []
def A8:Pv OR:=⟨zBn _,zBn _,zBn _⟩
theorem YM.bad {r:Rg} {m:Ms} {s f3:Int} {u:List Int} (e:Int) (z:e≠0) (h1:zO 307 [uR r,zX m,iA s,iA f3,zE yA u] [] (Jq e) []) (h2:zO 289 [uR r,zX m,iA s,iA f3,zE yA u] [] (Jq e) []) (hb:0<=e/\e<=100:=by omega):YM r m s f3 u:=
 ⟨rg0,OR,false,e,C8,A8,⟨λ_=>⟨rfl,hb⟩,λh=>absurd h z⟩,h1,h2⟩
theorem do3 (r:Rg) (B:Sp r=true) (z:List Int) (a s f3:Int) (A:List Int) (C:jZ r.tk s=true) (u:(ln A:Int)=0\/(ln A:Int)=8)
  (m1:zO 123 [zX ⟨3,z,[a],[]⟩] [] (bA true) []) (m2:zO 69 [zX ⟨3,z,[a],[]⟩] [] (bA true) []):YM r ⟨3,z,[a],[]⟩ s f3 A:=by
 have H:=Kq B;have I:=YH r WB;have S:=aB r WB;rw[B]at I S;have L:=TZ r.tk s;rw[C]at L;have V:=cI r H.b;have k4:=eI r H.b;have M:=My ⟨3,z,[a],[]⟩ a Z;have U:=LT 3 a;rw[show zX ⟨14,[],[(⟨3,z,[a],[]⟩:Ms).kind,a],[]⟩= .agg [iA 14,.sl false [],.sl false [iA 3,iA a],.sl false []]from Z]at M;rw[show zX ⟨14,[],[3,a],[]⟩= .agg [iA 14,.sl false [],.sl false [iA 3,iA a],.sl false []]from Z]at U;obtain⟨o,e,_,ho,G,W,k5⟩:=aa r.tk H.b.tk a;have ag:=zA yA A;have ap:=zA yN r.tk;have ac:([a].map iA).length=1:=rfl
 have E:(r.tk.getD s.toNat dd).used=true/\0<=s/\s<8:=by
  unfold jZ at C;rw[zBg,zBc]at C;exact⟨C.2,C.1.1,by have:=H.n8;omega⟩
 have R:=H.n8;have hy:=yF yN r.tk s E.2.1 zB;have O:IQ (Ny r o):=⟨ho,H.b.s,H.b.l,H.b.v⟩;obtain⟨E,ar,au⟩:=E;clear C H B;generalize r.tk.getD s.toNat dd=x at *;obtain⟨xu,x1,x2,x3,x4,x5⟩:=x;dsimp only at E;subst E;rw[show yN ⟨true,x1,x2,x3,x4,x5⟩= .agg [bA true,zE yA x1,iA x2,iA x3,iA x4,iA x5]from Z]at hy;by_cases Y:e=0
 .subst Y;refine⟨Ny r o,⟨14,[],[3,a],[]⟩,false,0,O,⟨zBn _,by simp,zBn _⟩,⟨λh=>absurd Z h,λ_=> .inl ⟨o,by rw[(G Z).1,R],(G Z).2,rfl,.inl ⟨rfl,rfl,rfl⟩⟩⟩,?_,?_⟩
  .rw[show zX ⟨14,[],[3,a],[]⟩= .agg [iA 14,.sl false [],.sl false [iA 3,iA a],.sl false []]from Z]
   rcases u with u|u
   all_goals
    refine eM call307 λF hF=>?_
    exact mx (Zb I m1 L V W M)
  .rw[show zX ⟨14,[],[3,a],[]⟩= .agg [iA 14,.sl false [],.sl false [iA 3,iA a],.sl false []]from Z]
   rcases u with u|u
   all_goals
    refine eM call289 λF hF=>?_
    exact mx (NV S m2 k4 U k5)
 .refine .bad e Y ?_ ?_
  .rw[gJ]
   rcases u with u|u
   all_goals
    refine eM call307 λF hF=>?_
    exact mx (Zb I m1 L V W M)
  .rw[gJ]
   rcases u with u|u
   all_goals
    refine eM call289 λF hF=>?_
    exact mx (NV S m2 k4 U k5)
theorem do5 (r:Rg) (B:Sp r=true) (z:List Int) (a s f3:Int) (A:List Int) (C:jZ r.tk s=true) (u:(ln A:Int)=0\/(ln A:Int)=8)
  (m1:zO 123 [zX ⟨5,z,[a],[]⟩] [] (bA true) []) (m2:zO 69 [zX ⟨5,z,[a],[]⟩] [] (bA true) []):YM r ⟨5,z,[a],[]⟩ s f3 A:=by
 have H:=Kq B;have G:=YH r WB;have R:=aB r WB;rw[B]at G R;have I:=TZ r.tk s;rw[C]at I;have U:=cI r H.b;have Y:=eI r H.b;have L:=My ⟨5,z,[a],[]⟩ a Z;have S:=LT 5 a;rw[show zX ⟨14,[],[(⟨5,z,[a],[]⟩:Ms).kind,a],[]⟩= .agg [iA 14,.sl false [],.sl false [iA 5,iA a],.sl false []]from Z]at L;rw[show zX ⟨14,[],[5,a],[]⟩= .agg [iA 14,.sl false [],.sl false [iA 5,iA a],.sl false []]from Z]at S;obtain⟨o,e,⟨ac,_⟩,ho,V,k5⟩:=qa r.vh WB a;have ap:=zA yA A;have ar:=zA yN r.tk;have ag:([a].map iA).length=1:=rfl
 have E:(r.tk.getD s.toNat dd).used=true/\0<=s/\s<8:=by
  unfold jZ at C;rw[zBg,zBc]at C;exact⟨C.2,C.1.1,by have:=H.n8;omega⟩
 have au:=H.n8;have hy:=yF yN r.tk s E.2.1 zB;have O:ln o<=8:=by have:=H.vl;omega
 have M:IQ (B8 r o):=⟨H.b.tk,H.b.s,H.b.l,by have:=H.vl;show (ln o)<=_;omega⟩;obtain⟨E,av,ax⟩:=E;clear C H B;generalize r.tk.getD s.toNat dd=x at *;obtain⟨xu,x1,x2,x3,x4,x5⟩:=x;dsimp only at E;subst E;rw[show yN ⟨true,x1,x2,x3,x4,x5⟩= .agg [bA true,zE yA x1,iA x2,iA x3,iA x4,iA x5]from Z]at hy;by_cases W:e=0
 .subst W;refine⟨B8 r o,⟨14,[],[5,a],[]⟩,false,0,M,⟨zBn _,by simp,zBn _⟩,⟨λh=>absurd Z h,λ_=> .inr ⟨o,O,rfl,rfl,.inr Z,rfl⟩⟩,?_,?_⟩
  .rw[show zX ⟨14,[],[5,a],[]⟩= .agg [iA 14,.sl false [],.sl false [iA 5,iA a],.sl false []]from Z]
   rcases u with u|u
   all_goals
    refine eM call307 λF hF=>?_
    exact mx (Zb G m1 I U V L)
  .rw[show zX ⟨14,[],[5,a],[]⟩= .agg [iA 14,.sl false [],.sl false [iA 5,iA a],.sl false []]from Z]
   rcases u with u|u
   all_goals
    refine eM call289 λF hF=>?_
    exact mx (NV R m2 Y S k5)
 .refine .bad e W ?_ ?_
  .rw[gJ]
   rcases u with u|u
   all_goals
    refine eM call307 λF hF=>?_
    exact mx (Zb G m1 I U V L)
  .rw[gJ]
   rcases u with u|u
   all_goals
    refine eM call289 λF hF=>?_
    exact mx (NV R m2 Y S k5)
def Ma (r:Rg) (a b s:Int) (S:ln r.tk=8) (I:0<=s) (R:s<8) (o:List Vh) (e:Int) (c:zO 378 [zE wX r.vh,vP (Py r.ag (min r.ag.cls (r.tk.getD s.toNat dd).cls)),wX ⟨a,b⟩] [] (.tup [zE wX o,iA e]) []):
  zO 348 [uR r,zE iA [a,b],iA s] [] (.tup [zE wX o,iA e]) []:=by
 have M:=zA yN r.tk;have L:([a,b].map iA).length=2:=rfl;have O:=yF yN r.tk s I zB;generalize r.tk.getD s.toNat dd=x at *;obtain⟨G,A,B,C,u,E⟩:=x;rw[show yN ⟨G,A,B,C,u,E⟩= .agg [bA G,zE yA A,iA B,iA C,iA u,iA E]from Z]at O;rw[show(⟨G,A,B,C,u,E⟩:Tk).cls=u from Z]at c;have z:vP (Py r.ag (min r.ag.cls u))= .agg [zE yA r.ag.sec,iA r.ag.rights,iA (min r.ag.cls u),zE iA r.ag.lim,iA r.ag.req,iA r.ag.ses,iA r.ag.rate,iA r.ag.burst]:=rfl;rw[z]at c;rw[show wX ⟨a,b⟩= .agg [iA a,iA b]from Z]at c;refine eM call348 λF hF=>?_
 exact ng c
theorem do4 (r:Rg) (B:Sp r=true) (A:List Int) (a b s f3:Int) (z:List Int) (C:jZ r.tk s=true) (u:(ln z:Int)=0\/(ln z:Int)=8)
  (m1:zO 123 [zX ⟨4,A,[a,b],[]⟩] [] (bA true) []) (m2:zO 69 [zX ⟨4,A,[a,b],[]⟩] [] (bA true) []):YM r ⟨4,A,[a,b],[]⟩ s f3 z:=by
 have H:=Kq B;have I:=YH r WB;have Y:=aB r WB;rw[B]at I Y;have L:=TZ r.tk s;rw[C]at L;have c4:=cI r H.b;have k4:=eI r H.b
 have M:zO 347 [zX ⟨4,A,[a,b],[]⟩] [] (zX ⟨14,[],[4,a],[]⟩) []:=by
  have R:([a,b].map iA).length=2:=rfl;refine eM call347 λF hF=>?_
  exact nl
 have k6:=LT 4 a;rw[show zX ⟨14,[],[4,a],[]⟩= .agg [iA 14,.sl false [],.sl false [iA 4,iA a],.sl false []]from Z]at M k6;obtain⟨o,e,⟨ac,_⟩,⟨ho,au⟩,cv,k5⟩:=KR r.vh WB r.ag (r.tk.getD s.toNat dd).cls H.lim H.cls.2 ⟨a,b⟩;have ap:=zA yA z;have ar:=zA yN r.tk;have R:([a,b].map iA).length=2:=rfl
 have E:(r.tk.getD s.toNat dd).used=true/\0<=s/\s<8:=by
  unfold jZ at C;rw[zBg,zBc]at C;exact⟨C.2,C.1.1,by have:=H.n8;omega⟩
 have S:=H.n8;have hy:=yF yN r.tk s E.2.1 zB;have U:ln o<=8:=by have:=H.vl;omega
 have O:IQ (B8 r o):=⟨H.b.tk,H.b.s,H.b.l,by have:=H.vl;show (ln o)<=_;omega⟩;obtain⟨E,V,W⟩:=E;have c5:=Ma r a b s S V W o e cv;clear C H B cv;generalize r.tk.getD s.toNat dd=x at *;obtain⟨xu,x1,x2,x3,G,x5⟩:=x;dsimp only at E;subst E;rw[show yN ⟨true,x1,x2,x3,G,x5⟩= .agg [bA true,zE yA x1,iA x2,iA x3,iA G,iA x5]from Z]at hy;rw[show(⟨true,x1,x2,x3,G,x5⟩:Tk).cls=G from Z,show wX ⟨a,b⟩= .agg [iA a,iA b]from Z,show vP r.ag= .agg [zE yA r.ag.sec,iA r.ag.rights,iA r.ag.cls,zE iA r.ag.lim,iA r.ag.req,iA r.ag.ses,iA r.ag.rate,iA r.ag.burst]from Z]at k5;by_cases he:e=0
 .subst he;refine⟨B8 r o,⟨14,[],[4,a],[]⟩,false,0,O,⟨zBn _,by simp,zBn _⟩,⟨λh=>absurd Z h,λ_=> .inr ⟨o,U,rfl,rfl,.inl Z,rfl⟩⟩,?_,?_⟩
  .rw[show zX ⟨14,[],[4,a],[]⟩= .agg [iA 14,.sl false [],.sl false [iA 4,iA a],.sl false []]from Z]
   rcases u with u|u
   all_goals
    refine eM call307 λF hF=>?_
    exact mx (Zb I m1 L c4 c5 M)
  .rw[show zX ⟨14,[],[4,a],[]⟩= .agg [iA 14,.sl false [],.sl false [iA 4,iA a],.sl false []]from Z]
   rcases u with u|u
   all_goals
    refine eM call289 λF hF=>?_
    exact mx (NV Y m2 k4 k6 k5)
 .refine .bad e he ?_ ?_
  .rw[gJ]
   rcases u with u|u
   all_goals
    refine eM call307 λF hF=>?_
    exact mx (Zb I m1 L c4 c5 M)
  .rw[gJ]
   rcases u with u|u
   all_goals
    refine eM call289 λF hF=>?_
    exact mx (NV Y m2 k4 k6 k5)
def Ai:AV:= .agg [iA 0,.s (.slice none 0 0),.s (.slice none 0 0),.s (.slice none 0 0)]
def ee (r:Rg) (s R c u f3 e:Int) (E:¬e=0) (k:Nat) (z:List Int)
  (A:zO 375 [zE yN r.tk,iA s,iA R,iA c,iA u,zE yA (pb 8 0),iA f3] [] (.tup [.sl false [],iA k,iA e]) []):
  zO 345 [.ptr 14 0 0,zE iA [R,c,u],iA s,iA f3,zE yA z] [(14,VP r)] (.tup [Ai,iA e]) [(14,VP r)]:=by
 have C:=zA yA z;have B:([R,c,u].map iA).length=3:=rfl;unfold VP Ai;rw[show zE yA (pb 8 0)= .sl false (pb 8 (AV.s (.int .u8 0)))from Z]at A;refine eM call345 λF hF=>?_
 (repeat' (first|refine I1 ?_|apply yW|apply xH|intro hc|(apply zG;first|refine SM ?_)|fail))
 refine kY (st':=⟨[(0,.ptr 14 0 0),(1,zE iA [R,c,u]),(2,iA s),(3,iA f3),(4,zE yA z),(10,.ptr 10 0 0),(11,iA 0),(12,.sl false (pb 8 (AV.s (.int .u8 0))))],[(14,.box [iA r.num,zE yA r.ag.sec,iA r.ag.rights,iA r.ag.cls,zE iA r.ag.lim,iA r.ag.req,iA r.ag.ses,iA r.ag.rate,iA r.ag.burst,zE yN r.tk,zE wX r.vh,iA r.bk.level,iA r.bk.rate,iA r.bk.burst]),(10,.box [iA 0,.s (.slice none 0 0),.s (.slice none 0 0),.s (.slice none 0 0)])]⟩) [14,10] [0,1,2,3,4,10,11,12] Z Z ?_;refine zS A ?_;exact zP [14] Z Z Z Z
def de (r:Rg) (s R c u f3:Int) (k:Nat) (C:List Tk)
  (z:zO 375 [zE yN r.tk,iA s,iA R,iA c,iA u,zE yA (pb 8 0),iA f3] [] (.tup [zE yN C,iA k,iA 0]) []):
  zO 345 [.ptr 14 0 0,zE iA [R,c,u],iA s,iA f3,zE yA []] [(14,VP r)] (.tup [Ai,iA 18]) [(14,VP r)]:=by
 have B:(([]:List Int).map yA).length=0:=rfl;have A:([R,c,u].map iA).length=3:=rfl;unfold VP Ai;rw[show zE yA (pb 8 0)= .sl false (pb 8 (AV.s (.int .u8 0)))from Z]at z;refine eM call345 λF hF=>?_
 (repeat' (first|refine I1 ?_|apply yW|apply xH|intro hc|(apply zG;first|refine SM ?_)|fail))
 refine kY (st':=⟨[(0,.ptr 14 0 0),(1,zE iA [R,c,u]),(2,iA s),(3,iA f3),(4,zE yA []),(10,.ptr 10 0 0),(11,iA 0),(12,.sl false (pb 8 (AV.s (.int .u8 0))))],[(14,.box [iA r.num,zE yA r.ag.sec,iA r.ag.rights,iA r.ag.cls,zE iA r.ag.lim,iA r.ag.req,iA r.ag.ses,iA r.ag.rate,iA r.ag.burst,zE yN r.tk,zE wX r.vh,iA r.bk.level,iA r.bk.rate,iA r.bk.burst]),(10,.box [iA 0,.s (.slice none 0 0),.s (.slice none 0 0),.s (.slice none 0 0)])]⟩) [14,10] [0,1,2,3,4,10,11,12] Z Z ?_;refine zS z ?_;exact zP [14] Z Z Z Z
def be (r:Rg) (S:0<=r.num/\r.num<4) (s R c u f3:Int) (z:List Int) (U:(ln z:Int)=8) (k:Nat) (I:k<8) (O B:List Tk)
  (A:zO 375 [zE yN r.tk,iA s,iA R,iA c,iA u,zE yA (pb 8 0),iA f3] [] (.tup [zE yN O,iA k,iA 0]) [])
  (E:zO 375 [zE yN r.tk,iA s,iA R,iA c,iA u,zE yA z,iA f3] [] (.tup [zE yN B,iA k,iA 0]) []):
  zO 345 [.ptr 14 0 0,zE iA [R,c,u],iA s,iA f3,zE yA z] [(14,VP r)] (.tup [.agg [iA 16,.s (.slice none 0 0),.sl false [iA k],zE yA (r.num::(k:Int)::z)],iA 0]) [(14,VP (Ny r B))]:=by
 have G:=Kp r.num k z zB zB zB zB zB;have M:=zA yA z;have L:([R,c,u].map iA).length=3:=rfl;unfold VP Ny;dsimp only;generalize r.num::(k:Int)::z=C at *;rw[show zE yA (pb 8 0)= .sl false (pb 8 (AV.s (.int .u8 0)))from Z]at A;refine eM call345 λF hF=>?_
 (repeat' (first|refine I1 ?_|apply yW|apply xH|intro hc|(apply zG;first|refine SM ?_)|fail))
 refine kY (st':=⟨[(0,.ptr 14 0 0),(1,zE iA [R,c,u]),(2,iA s),(3,iA f3),(4,zE yA z),(10,.ptr 10 0 0),(11,iA 0),(12,.sl false (pb 8 (AV.s (.int .u8 0))))],[(14,.box [iA r.num,zE yA r.ag.sec,iA r.ag.rights,iA r.ag.cls,zE iA r.ag.lim,iA r.ag.req,iA r.ag.ses,iA r.ag.rate,iA r.ag.burst,zE yN r.tk,zE wX r.vh,iA r.bk.level,iA r.bk.rate,iA r.bk.burst]),(10,.box [iA 0,.s (.slice none 0 0),.s (.slice none 0 0),.s (.slice none 0 0)])]⟩) [14,10] [0,1,2,3,4,10,11,12] Z Z ?_;refine yJ (qM A E G) ?_;exact zP [14] Z Z Z Z
def La (r:Rg) (n8:ln r.tk=8) (z:List Int) (R c u s f3:Int) (L:0<=s) (M:s<8) (Y:List Int) (x2 x3 x4 x5:Int) (hy:(r.tk.map yN)[s.toNat]? =some (.agg [bA true,zE yA Y,iA x2,iA x3,iA x4,iA x5])) (k:Nat) (e f:Int) (B:(e=0/\f=18)\/(¬e=0/\f=e)) (V:List Tk)
  (O:zO 328 [uR r] [] (bA true) []) (W:zO 69 [zX ⟨2,z,[R,c,u],[]⟩] [] (bA true) []) (S:zO 186 [uR r] [] (uR r) [])
  (e1:zO 330 [zE yN r.tk,iA s,iA R,iA c,iA u,zE yA (pb 8 0),iA f3] [] (.tup [zE yN V,iA k,iA e]) []) (U:zO 66 [iA r.num,iA k,zE yA []] [] (zE yA (r.num::(k:Int)::[])) []):
  zO 289 [uR r,zX ⟨2,z,[R,c,u],[]⟩,iA s,iA f3,zE yA []] [] (Jq f) []:=by
 rw[gJ];have A:=LT 2 R;rw[show zX ⟨14,[],[2,R],[]⟩= .agg [iA 14,.sl false [],.sl false [iA 2,iA R],.sl false []]from Z]at A;have E:(([]:List Int).map yA).length=0:=rfl;have G:=zA yN r.tk;have C:([R,c,u].map iA).length=3:=rfl;have I:(pb 8 (AV.s (.int .u8 0))).length=8:=rfl;rw[show zE yA (pb 8 0)= .sl false (pb 8 (AV.s (.int .u8 0)))from Z]at e1;refine eM call289 λF hF=>?_
 (have ga:=O;have ge:=W;have gn:=S;(repeat' (first|refine I1 ?_|apply yW|apply xH|intro hc|(apply zG;first|refine SM ?_)|fail))<;>clear ga ge gn)
 refine uD Z ?_
 (have ga:=A;(repeat' (first|refine WS ?_|refine SG (I2 (λhc=>?_) λhc=>?_)|refine SG λhc=>?_|(apply zG;first|refine SM ?_)|(first|first|refine SX ?_|fail|apply xC)|fail))<;>clear ga)
 refine kY (st':=⟨[(2,iA s),(3,iA f3),(4,zE yA []),(5,.ptr 5 0 0),(6,.ptr 6 0 0),(10,.ptr 10 0 0),(11,.ptr 11 0 0),(12,bA false),(13,iA 0),(15,.ptr 15 0 0),(16,.ptr 16 0 0),(17,iA 0),(18,.sl false (pb 8 (AV.s (.int .u8 0))))],[(15,VP r),(16,.box [iA 14,.sl false [],.sl false [iA 2,iA R],.sl false []]),(10,.box [iA 0,.s (.slice none 0 0),iA 0,iA 0,.s (.slice none 0 0),iA 0,iA 0,iA 0,iA 0,.s (.slice none 0 0),.s (.slice none 0 0),iA 0,iA 0,iA 0]),(11,.box [iA 0,.s (.slice none 0 0),.s (.slice none 0 0),.s (.slice none 0 0)]),(5,VP r),(6,.box [iA 2,zE yA z,zE iA [R,c,u],zE yA []])]⟩) [15,16,10,11,5,6] [2,3,4,5,6,10,11,12,13,15,16,17,18] Z Z ?_;unfold VP
 rcases B with⟨rfl,rfl⟩|⟨he,rfl⟩
 all_goals
  exact mx (xW e1 U)
def Ka (r:Rg) (n8:ln r.tk=8) (A:List Int) (R c z s f3:Int) (u:List Int) (ac:(ln u:Int)=8) (W:0<=s) (Y:s<8) (x1:List Int) (x2 x3 x4 x5:Int) (hy:(r.tk.map yN)[s.toNat]? =some (.agg [bA true,zE yA x1,iA x2,iA x3,iA x4,iA x5])) (k:Nat) (e:Int) (L:List Tk)
  (E:zO 328 [uR r] [] (bA true) []) (M:zO 69 [zX ⟨2,A,[R,c,z],[]⟩] [] (bA true) []) (G:zO 186 [uR r] [] (uR r) [])
  (e1:zO 330 [zE yN r.tk,iA s,iA R,iA c,iA z,zE yA u,iA f3] [] (.tup [zE yN L,iA k,iA e]) []) (I:zO 66 [iA r.num,iA k,zE yA u] [] (zE yA (r.num::(k:Int)::u)) []):
  zO 289 [uR r,zX ⟨2,A,[R,c,z],[]⟩,iA s,iA f3,zE yA u] [] (if e=0 then .tup [uR (Ny r L),zX ⟨16,[],[(k:Int)],r.num::(k:Int)::u⟩,bA true,iA 0]else Jq e) []:=by
 have C:=LT 2 R;rw[show zX ⟨14,[],[2,R],[]⟩= .agg [iA 14,.sl false [],.sl false [iA 2,iA R],.sl false []]from Z]at C;have U:=zA yA u;have V:=zA yN r.tk;have S:([R,c,z].map iA).length=3:=rfl;rw[show zX ⟨16,[],[(k:Int)],r.num::(k:Int)::u⟩= .agg [iA 16,.sl false [],.sl false [iA (k:Int)],zE yA (r.num::(k:Int)::u)]from Z];generalize r.num::(k:Int)::u=O at *;by_cases B:e=0
 .rw[zA5 B];subst B;refine eM call289 λF hF=>?_
  exact mx (Zb E M G C e1 I)
 .rw[Os B,gJ];refine eM call289 λF hF=>?_
  exact mx (Zb E M G C e1 I)
def vx:∀a b:_root_.Fin 64,(jF a.val b.val==(a.val:Int))=true->(jF b.val 16==(16:Int))=false->(jF a.val 16==(16:Int))=false:=by decide +kernel
def w9 {a b:Int} (h:od a b=true) (k:ji b 10=false):ji a 10=false:=by
 unfold od OH at h;simp only[zBg,zBc]at h;obtain⟨⟨⟨a0,A⟩,u,z⟩,h⟩:=h;obtain⟨m,rfl⟩:=zCz a0;obtain⟨n,rfl⟩:=zCz u;have e:MX 10=16:=by decide
 unfold ji OH at k⊢;rw[e]at k⊢;rw[zA9 ⟨u,z⟩,zBh]at k;rw[vx ⟨m,zB⟩ ⟨n,zB⟩ h k,zC6]
theorem do2 (r:Rg) (V:Sp r=true) (B:List Int) (R c u s f3:Int) (z:List Int) (S:jZ r.tk s=true) (A:(ln z:Int)=0\/(ln z:Int)=8)
  (m1:zO 123 [zX ⟨2,B,[R,c,u],[]⟩] [] (bA true) []) (m2:zO 69 [zX ⟨2,B,[R,c,u],[]⟩] [] (bA true) []):YM r ⟨2,B,[R,c,u],[]⟩ s f3 z:=by
 have H:=Kq V;have c1:=YH r WB;have k1:=aB r WB;rw[V]at c1 k1;have c3:=TZ r.tk s;rw[S]at c3;have c4:=cI r H.b;have k4:=eI r H.b;obtain⟨k,e,_,hk,ag,Y⟩:=ja r.tk H.b.tk s R c u f3;have E:=H.n8
 have ac:k<8:=by rcases hk with h|h<;>omega
 have av:e=0->∀y au,G9 r.tk (DC r.tk k e ⟨true,y,s,R,c,au⟩):=λI y au=>λh t W S=>by
  obtain⟨_,p0,p1,_,p2,p3⟩:=ag I;unfold DC at W;rw[zA5 I]at W
  rcases zDm W with W|rfl
  .exact h t W S
  .exact w9 p2 (h _ (yB r.tk s.toNat zB) p3)
 clear ag;have kb:=YA r.num k z zB H.num.1 (by have:=H.num;omega) zB zB;have ar:=H.num;have a1:=zA yA z;have a2:=zA yN r.tk;have az:([R,c,u].map iA).length=3:=rfl
 have hU:(r.tk.getD s.toNat dd).used=true/\0<=s/\s<8:=by
  unfold jZ at S;rw[zBg,zBc]at S;exact⟨S.2,S.1.1,zB⟩
 have hy:=yF yN r.tk s hU.2.1 zB;have G:∀t:Tk,ln t.sec<=1000000->IQ (Ny r (DC r.tk k e t)):=λt W=>⟨J5 H.b.tk k e t W,H.b.s,H.b.l,H.b.v⟩
 obtain⟨hU,L,M⟩:=hU;clear S H V hk;generalize r.tk.getD s.toNat dd=x at *;obtain⟨xu,x1,x2,x3,x4,x5⟩:=x;dsimp only at hU;subst hU;rw[show yN ⟨true,x1,x2,x3,x4,x5⟩= .agg [bA true,zE yA x1,iA x2,iA x3,iA x4,iA x5]from Z]at hy;obtain⟨d1,e1⟩:=Y (pb 8 0) Z;by_cases I:e=0
 .subst I
  rcases A with A|A
  ·
   have A:=zB5 (show (ln z)=0 by omega);subst A;have C:=La r E B R c u s f3 L M x1 x2 x3 x4 x5 hy k 0 18 (.inl ⟨rfl,rfl⟩) _ k1 m2 k4 e1 kb;refine .bad 18 xA ?_ C;clear C;generalize DC r.tk k 0 ⟨true,pb 8 0,s,R,c,Tb u f3⟩=l1 at *;have O:=de r s R c u f3 k l1 d1;unfold VP Ai at O;clear Y G;rw[gJ];refine eM call307 λF hF=>?_
   exact mx (NV c1 m1 c3 c4 O)
  .obtain⟨d2,e2⟩:=Y z A;have C:=Ka r E B R c u s f3 z A L M x1 x2 x3 x4 x5 hy k 0 _ k1 m2 k4 e2 kb;rw[zA5 Z]at C;refine⟨Ny r (DC r.tk k 0 ⟨true,z,s,R,c,Tb u f3⟩),⟨16,[],[(k:Int)],r.num::(k:Int)::z⟩,true,0,G _ (by show (ln z)<=_;omega),⟨zBn _,by simp,by simp;omega⟩,⟨λh=>absurd Z h,λ_=> .inl ⟨_,by rw[DC,zA5 Z,zCk];exact E,av Z _ _,rfl,.inr ⟨rfl,zB,rfl,k,ac,rfl⟩⟩⟩,?_,C⟩;clear C;generalize DC r.tk k 0 ⟨true,pb 8 0,s,R,c,Tb u f3⟩=l1 at *;generalize DC r.tk k 0 ⟨true,z,s,R,c,Tb u f3⟩=l2 at *;have O:=be r ar s R c u f3 z A k ac l1 l2 d1 d2;unfold VP at O;clear Y G;rw[show zX ⟨16,[],[(k:Int)],r.num::(k:Int)::z⟩= .agg [iA 16,.sl false [],.sl false [iA (k:Int)],zE yA (r.num::(k:Int)::z)]from Z];generalize r.num::(k:Int)::z=ax at *;refine eM call307 λF hF=>?_
   exact mx (NV c1 m1 c3 c4 O)
 .have ap:∀t,DC r.tk k e t=[]:=λt=>by unfold DC;rw[Os I]
  have U:=d1;rw[ap]at U;have O:=ee r s R c u f3 e I k z U;unfold VP Ai at O
  have C:zO 289 [uR r,zX ⟨2,B,[R,c,u],[]⟩,iA s,iA f3,zE yA z] [] (Jq e) []:=by
   rcases A with A|A
   .have A:=zB5 (show (ln z)=0 by omega);subst A;exact La r E B R c u s f3 L M x1 x2 x3 x4 x5 hy k e e (.inr ⟨I,rfl⟩) _ k1 m2 k4 e1 kb
   .obtain⟨d2,e2⟩:=Y z A;have C:=Ka r E B R c u s f3 z A L M x1 x2 x3 x4 x5 hy k e _ k1 m2 k4 e2 kb;rw[Os I]at C;exact C
  refine .bad e I ?_ C;clear C Y G ap e1 d1 U;rw[gJ]
  rcases A with A|A
  all_goals
   refine eM call307 λF hF=>?_
   exact mx (NV c1 m1 c3 c4 O)
def Gq (r:Rg) (m:Ms) (s f3:Int) (u:List Int) (A:zO 343 [uR r] [] (bA true) []) (B:zO 123 [zX m] [] (bA true) []) (C:zO 344 [zE yN r.tk,iA s] [] (bA true) []) (E:zO 219 [uR r] [] (uR r) []) (z:(ln u:Int)=0\/(ln u:Int)=8)
  (h2:¬m.kind=2) (I:¬m.kind=3) (L:¬m.kind=4) (M:¬m.kind=5):zO 307 [uR r,zX m,iA s,iA f3,zE yA u] [] (Jq 1) []:=by
 rw[gJ];have G:=zA yA u
 rcases z with z|z
 all_goals
  refine eM call307 λF hF=>?_
  exact mx (cM A B C E)
theorem len1 (h:ln l=1):∃a,l=[a]:=by
 match l,h with
 | [a],_=>exact⟨a,rfl⟩
theorem zA1 (h:ln l=2):∃a b,l=[a,b]:=by
 match l,h with
 | [a,b],_=>exact⟨a,b,rfl⟩
theorem zA2 (h:ln l=3):∃a b c,l=[a,b,c]:=by
 match l,h with
 | [a,b,c],_=>exact⟨a,b,c,rfl⟩
theorem ux (r:Rg) (hv:ln r.vh<=1000) (m:Ms) (hm:Pv m) (s f3:Int) (u:List Int) (B:ln u<=1000):YM r m s f3 u:=by
 have A:=YH r zB;have G:=aB r zB;obtain⟨b,E,hb⟩:=Wp m hm;have C:=TZ r.tk s
 cases R:Sp r with
 |false=>
  rw[R]at A G;exact .bad 1 xA (VU r m s f3 u false b _ A E C (.inl Z) B) (Iq r m s f3 u G)
 |true=>
 have H:=Kq R;rw[R]at A G;by_cases hk:m.kind=2\/m.kind=3\/m.kind=4\/m.kind=5
 case neg=>
  have h2:¬m.kind=2:=λh=>hk (.inl h)
  have V:¬m.kind=3:=λh=>hk (.inr (.inl h))
  have W:¬m.kind=4:=λh=>hk (.inr (.inr (.inl h)))
  have Y:¬m.kind=5:=λh=>hk (.inr (.inr (.inr h)))
  refine .bad 1 xA ?_ (Hq r m s f3 u G h2 V W Y)
  cases b with
  |false=>exact VU r m s f3 u true false _ A E C (.inr (.inl Z)) B
  |true=>
  cases I:jZ r.tk s with
  |false=>exact VU r m s f3 u true true _ A E C (.inr (.inr (.inl I))) B
  |true=>
  rw[I]at C;by_cases z:(ln u:Int)=0\/(ln u:Int)=8
  .exact Gq r m s f3 u A E C (cI r H.b) z h2 V W Y
  .exact VU r m s f3 u true true true A E C (.inr (.inr (.inr ⟨λh=>z (.inl h),λh=>z (.inr h)⟩))) B
 obtain⟨f,L⟩:∃f,Ov m.kind f:=by
  unfold Ov
  grind
 obtain⟨U,S,ac⟩:=Vi m hm f L
 have O:U=b:=by
  grind
 subst O;have h1:=hb f L
 cases U with
 |false=>exact .bad 1 xA (VU r m s f3 u true false _ A E C (.inr (.inl Z)) B) (LS r m s f3 u H.n8 false G S hk (.inl Z) B)
 |true=>
 cases I:jZ r.tk s with
 |false=>exact .bad 1 xA (VU r m s f3 u true true _ A E C (.inr (.inr (.inl I))) B) (LS r m s f3 u H.n8 true G S hk (.inr (.inl I)) B)
 |true=>
 by_cases z:(ln u:Int)=0\/(ln u:Int)=8
 case neg=>
  have hq:¬(ln u:Int)=0/\¬(ln u:Int)=8:=⟨λh=>z (.inl h),λh=>z (.inr h)⟩;exact .bad 1 xA (VU r m s f3 u true true _ A E C (.inr (.inr (.inr hq))) B) (LS r m s f3 u H.n8 true G S hk (.inr (.inr hq)) B)
 obtain⟨_,hd,M,_⟩:=h1.1 Z;obtain⟨mk,ag,ar,da⟩:=m;dsimp only at hd M L;subst hd
 rcases L with⟨rfl,rfl⟩|⟨rfl,rfl⟩|⟨rfl,rfl⟩|⟨rfl,rfl⟩
 all_goals grind [YM,zA2,do2,len1,do3,zA1,do4,do5]
def qx (m:Ms) (B:Pv m):zO 24 [zX m,zX m] [] (bA true) []:=by
 have C:=B.a;have z:=zA iA m.args;refine eM call24 λF hF=>?_
 refine WW (I3 (λhc=>?_) (λhc hc=>?_) (λhc hc=>?_))
 all_goals (try (exfalso;first|(simp[wR]at hc;done)|(revert hc;simp[wR];done)))
 refine zU (m.args) [3] [3] [3,40,41] [42,3,40,41] Z (λi f4 T U=>⟨(42,iA i)::T,U⟩) (Lq ?_ ?_)
 .intro i f4 x post u hi;have E:=yG iA u hi;have A:=zW u hi;clear u;refine WW ?_
  all_goals (first|rfl|(exfalso;first|(simp[wR]at hc;done)|(revert hc;simp[wR];done)))
 .exact ly
