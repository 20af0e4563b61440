/- Part 13. -/
import Derived.Test.YtaglbcjljlkjcaaGreatU12
namespace Go.Proofs.YtaglbcjljlkjcaaGreat.Av
open Tryz
set_option linter.all false
set_option maxRecDepth 4000
set_option maxHeartbeats 4000000
open List renaming length->ln
open Inhabited renaming default->dd
structure ay where
 t:Int
 f:Int
 g:Int
 lo:Int
 hi:Int
 da:Int
def XP (s:ay):AV:= .agg [iA s.t,iA s.f,iA s.g,iA s.lo,iA s.hi,iA s.da]
structure zAb (k:Int) (s:ay) (ok:Bool):Prop where
 t:0<=s.t/\s.t<=10
 f:0<=s.f/\s.f<=4
 g:s.g=0\/s.g=2\/s.g=3\/s.g=4
 da: -1<=s.da/\s.da<=10
 k2:k=2->s=⟨10,3,0,0,0,0⟩/\ok=true
 k3:k=3->s=⟨10,1,0,0,0,0⟩/\ok=true
 k4:k=4->s=⟨10,2,0,0,0,0⟩/\ok=true
 k5:k=5->s=⟨10,1,0,0,0,0⟩/\ok=true
theorem Bu (k:Int):∃(s:ay) (ok:Bool),zAb k s ok/\zN 233 [iA k] [] (.tup [XP s,bA ok]) []:=by
 by_cases h1:k=1
 .subst h1;refine⟨⟨10,0,0,0,0,0⟩,true,⟨by decide,by decide,by decide,by decide,λh=>absurd h zB,λh=>absurd h zB,λh=>absurd h zB,λh=>absurd h zB⟩,?_⟩;unfold XP;refine eM call233 λF hF=>?_
  exact mx
 by_cases h2:k=2
 .subst h2;refine⟨⟨10,3,0,0,0,0⟩,true,⟨by decide,by decide,by decide,by decide,λ_=>⟨rfl,rfl⟩,λh=>absurd h zB,λh=>absurd h zB,λh=>absurd h zB⟩,?_⟩;unfold XP;refine eM call233 λF hF=>?_
  exact mx
 by_cases V:k=3
 .subst V;refine⟨⟨10,1,0,0,0,0⟩,true,⟨by decide,by decide,by decide,by decide,λh=>absurd h zB,λ_=>⟨rfl,rfl⟩,λh=>absurd h zB,λh=>absurd h zB⟩,?_⟩;unfold XP;refine eM call233 λF hF=>?_
  exact mx
 by_cases W:k=4
 .subst W;refine⟨⟨10,2,0,0,0,0⟩,true,⟨by decide,by decide,by decide,by decide,λh=>absurd h zB,λh=>absurd h zB,λ_=>⟨rfl,rfl⟩,λh=>absurd h zB⟩,?_⟩;unfold XP;refine eM call233 λF hF=>?_
  exact mx
 by_cases Y:k=5
 .subst Y;refine⟨⟨10,1,0,0,0,0⟩,true,⟨by decide,by decide,by decide,by decide,λh=>absurd h zB,λh=>absurd h zB,λh=>absurd h zB,λ_=>⟨rfl,rfl⟩⟩,?_⟩;unfold XP;refine eM call233 λF hF=>?_
  exact mx
 by_cases h6:k=6
 .subst h6;refine⟨⟨10,3,4,1,3,0⟩,true,⟨by decide,by decide,by decide,by decide,λh=>absurd h zB,λh=>absurd h zB,λh=>absurd h zB,λh=>absurd h zB⟩,?_⟩;unfold XP;refine eM call233 λF hF=>?_
  exact mx
 by_cases h7:k=7
 .subst h7;refine⟨⟨10,1,2,1,3,0⟩,true,⟨by decide,by decide,by decide,by decide,λh=>absurd h zB,λh=>absurd h zB,λh=>absurd h zB,λh=>absurd h zB⟩,?_⟩;unfold XP;refine eM call233 λF hF=>?_
  exact mx
 by_cases h8:k=8
 .subst h8;refine⟨⟨10,1,0,0,0,0⟩,true,⟨by decide,by decide,by decide,by decide,λh=>absurd h zB,λh=>absurd h zB,λh=>absurd h zB,λh=>absurd h zB⟩,?_⟩;unfold XP;refine eM call233 λF hF=>?_
  exact mx
 by_cases h9:k=9
 .subst h9;refine⟨⟨10,0,0,0,0,0⟩,true,⟨by decide,by decide,by decide,by decide,λh=>absurd h zB,λh=>absurd h zB,λh=>absurd h zB,λh=>absurd h zB⟩,?_⟩;unfold XP;refine eM call233 λF hF=>?_
  exact mx
 by_cases u:k=10
 .subst u;refine⟨⟨10,1,0,0,0,0⟩,true,⟨by decide,by decide,by decide,by decide,λh=>absurd h zB,λh=>absurd h zB,λh=>absurd h zB,λh=>absurd h zB⟩,?_⟩;unfold XP;refine eM call233 λF hF=>?_
  exact mx
 by_cases z:k=11
 .subst z;refine⟨⟨10,1,0,0,0,0⟩,true,⟨by decide,by decide,by decide,by decide,λh=>absurd h zB,λh=>absurd h zB,λh=>absurd h zB,λh=>absurd h zB⟩,?_⟩;unfold XP;refine eM call233 λF hF=>?_
  exact mx
 by_cases A:k=12
 .subst A;refine⟨⟨10,0,0,0,0,0⟩,true,⟨by decide,by decide,by decide,by decide,λh=>absurd h zB,λh=>absurd h zB,λh=>absurd h zB,λh=>absurd h zB⟩,?_⟩;unfold XP;refine eM call233 λF hF=>?_
  exact mx
 by_cases B:k=13
 .subst B;refine⟨⟨0,2,0,0,0,0⟩,true,⟨by decide,by decide,by decide,by decide,λh=>absurd h zB,λh=>absurd h zB,λh=>absurd h zB,λh=>absurd h zB⟩,?_⟩;unfold XP;refine eM call233 λF hF=>?_
  exact mx
 by_cases C:k=14
 .subst C;refine⟨⟨0,2,0,0,0,0⟩,true,⟨by decide,by decide,by decide,by decide,λh=>absurd h zB,λh=>absurd h zB,λh=>absurd h zB,λh=>absurd h zB⟩,?_⟩;unfold XP;refine eM call233 λF hF=>?_
  exact mx
 by_cases E:k=15
 .subst E;refine⟨⟨0,2,0,0,0,0⟩,true,⟨by decide,by decide,by decide,by decide,λh=>absurd h zB,λh=>absurd h zB,λh=>absurd h zB,λh=>absurd h zB⟩,?_⟩;unfold XP;refine eM call233 λF hF=>?_
  exact mx
 by_cases G:k=16
 .subst G;refine⟨⟨0,1,0,0,0,10⟩,true,⟨by decide,by decide,by decide,by decide,λh=>absurd h zB,λh=>absurd h zB,λh=>absurd h zB,λh=>absurd h zB⟩,?_⟩;unfold XP;refine eM call233 λF hF=>?_
  exact mx
 by_cases I:k=17
 .subst I;refine⟨⟨0,1,0,0,0,-1⟩,true,⟨by decide,by decide,by decide,by decide,λh=>absurd h zB,λh=>absurd h zB,λh=>absurd h zB,λh=>absurd h zB⟩,?_⟩;unfold XP;refine eM call233 λF hF=>?_
  exact mx
 by_cases L:k=18
 .subst L;refine⟨⟨0,1,3,0,16,0⟩,true,⟨by decide,by decide,by decide,by decide,λh=>absurd h zB,λh=>absurd h zB,λh=>absurd h zB,λh=>absurd h zB⟩,?_⟩;unfold XP;refine eM call233 λF hF=>?_
  exact mx
 by_cases M:k=19
 .subst M;refine⟨⟨0,0,2,0,4,0⟩,true,⟨by decide,by decide,by decide,by decide,λh=>absurd h zB,λh=>absurd h zB,λh=>absurd h zB,λh=>absurd h zB⟩,?_⟩;unfold XP;refine eM call233 λF hF=>?_
  exact mx
 by_cases O:k=20
 .subst O;refine⟨⟨0,4,0,0,0,0⟩,true,⟨by decide,by decide,by decide,by decide,λh=>absurd h zB,λh=>absurd h zB,λh=>absurd h zB,λh=>absurd h zB⟩,?_⟩;unfold XP;refine eM call233 λF hF=>?_
  exact mx
 by_cases S:k=21
 .subst S;refine⟨⟨0,1,0,0,0,-1⟩,true,⟨by decide,by decide,by decide,by decide,λh=>absurd h zB,λh=>absurd h zB,λh=>absurd h zB,λh=>absurd h zB⟩,?_⟩;unfold XP;refine eM call233 λF hF=>?_
  exact mx
 by_cases U:k=22
 .subst U;refine⟨⟨0,1,0,0,0,0⟩,true,⟨by decide,by decide,by decide,by decide,λh=>absurd h zB,λh=>absurd h zB,λh=>absurd h zB,λh=>absurd h zB⟩,?_⟩;unfold XP;refine eM call233 λF hF=>?_
  exact mx
 refine⟨⟨0,0,0,0,0,0⟩,false,⟨by decide,by decide,by decide,by decide,λh=>absurd h h2,λh=>absurd h V,λh=>absurd h W,λh=>absurd h Y⟩,?_⟩;unfold XP;refine eM call233 λF hF=>?_
 exact mx
theorem Ko (s:ay) (L:s.g=0\/s.g=2\/s.g=3\/s.g=4) (M:0<=s.f/\s.f<=4) (n:Int) (O:0<=n/\n<=1000000):∃(z:Int) (I:Bool),(-1000000<=z/\z<=1000000)/\(s.g=0->z=0/\I=decide (n=s.f))/\zN 234 [XP s,iA n] [] (.tup [iA z,bA I]) []:=by
 obtain⟨t,f,g,lo,hi,A⟩:=s;dsimp only at *;rw[show XP ⟨t,f,g,lo,hi,A⟩= .agg [iA t,iA f,iA g,iA lo,iA hi,iA A]from Z]
 rcases L with rfl|rfl|rfl|rfl
 .by_cases h:n=f
  .refine⟨0,true,zB,λ_=>⟨rfl,(zAw h).symm⟩,?_⟩;refine eM call234 λF hF=>?_
   exact mx
  .refine⟨0,false,zB,λ_=>⟨rfl,(zAu h).symm⟩,?_⟩;refine eM call234 λF hF=>?_
   exact mx
 .by_cases h1:n-f<0
  .refine⟨0,false,zB,λh=>absurd h yY,?_⟩;refine eM call234 λF hF=>?_
   exact mx
  have hb:0<=(n-f).tdiv 2/\(n-f).tdiv 2<=1000000:=by
   rw[zCw zB];omega
  have G:aD .i64 ((n-f).tdiv 2):=by
   unfold aD;have e1:IntKind.i64.min= -9223372036854775808:=by decide
   have B:IntKind.i64.max=9223372036854775807:=by decide
   omega
  by_cases h2:(n-f).tmod 2=0
  case neg=>
   refine⟨0,false,zB,λh=>absurd h yY,?_⟩;refine eM call234 λF hF=>?_
   exact mx
  generalize u:(n-f).tmod 2=m at *;by_cases C:lo<=(n-f).tdiv 2
  case neg=>
   refine⟨(n-f).tdiv 2,false,zB,λh=>absurd h yY,?_⟩;subst u;refine eM call234 λF hF=>?_
   exact mx
  by_cases E:(n-f).tdiv 2<=hi
  .refine⟨(n-f).tdiv 2,true,zB,λh=>absurd h yY,?_⟩;subst u;refine eM call234 λF hF=>?_
   exact mx
  .refine⟨(n-f).tdiv 2,false,zB,λh=>absurd h yY,?_⟩;subst u;refine eM call234 λF hF=>?_
   exact mx
 .by_cases h1:n-f<0
  .refine⟨0,false,zB,λh=>absurd h yY,?_⟩;refine eM call234 λF hF=>?_
   exact mx
  have hb:0<=(n-f).tdiv 3/\(n-f).tdiv 3<=1000000:=by
   rw[zCw zB];omega
  have G:aD .i64 ((n-f).tdiv 3):=by
   unfold aD;have e1:IntKind.i64.min= -9223372036854775808:=by decide
   have B:IntKind.i64.max=9223372036854775807:=by decide
   omega
  by_cases h2:(n-f).tmod 3=0
  case neg=>
   refine⟨0,false,zB,λh=>absurd h yY,?_⟩;refine eM call234 λF hF=>?_
   exact mx
  generalize u:(n-f).tmod 3=m at *;by_cases C:lo<=(n-f).tdiv 3
  case neg=>
   refine⟨(n-f).tdiv 3,false,zB,λh=>absurd h yY,?_⟩;subst u;refine eM call234 λF hF=>?_
   exact mx
  by_cases E:(n-f).tdiv 3<=hi
  .refine⟨(n-f).tdiv 3,true,zB,λh=>absurd h yY,?_⟩;subst u;refine eM call234 λF hF=>?_
   exact mx
  .refine⟨(n-f).tdiv 3,false,zB,λh=>absurd h yY,?_⟩;subst u;refine eM call234 λF hF=>?_
   exact mx
 .by_cases h1:n-f<0
  .refine⟨0,false,zB,λh=>absurd h yY,?_⟩;refine eM call234 λF hF=>?_
   exact mx
  have hb:0<=(n-f).tdiv 4/\(n-f).tdiv 4<=1000000:=by
   rw[zCw zB];omega
  have G:aD .i64 ((n-f).tdiv 4):=by
   unfold aD;have e1:IntKind.i64.min= -9223372036854775808:=by decide
   have B:IntKind.i64.max=9223372036854775807:=by decide
   omega
  by_cases h2:(n-f).tmod 4=0
  case neg=>
   refine⟨0,false,zB,λh=>absurd h yY,?_⟩;refine eM call234 λF hF=>?_
   exact mx
  generalize u:(n-f).tmod 4=m at *;by_cases C:lo<=(n-f).tdiv 4
  case neg=>
   refine⟨(n-f).tdiv 4,false,zB,λh=>absurd h yY,?_⟩;subst u;refine eM call234 λF hF=>?_
   exact mx
  by_cases E:(n-f).tdiv 4<=hi
  .refine⟨(n-f).tdiv 4,true,zB,λh=>absurd h yY,?_⟩;subst u;refine eM call234 λF hF=>?_
   exact mx
  .refine⟨(n-f).tdiv 4,false,zB,λh=>absurd h yY,?_⟩;subst u;refine eM call234 λF hF=>?_
   exact mx
def QE (l:List Int) (hl:ln l<=1073741824):zN 88 [zE yA l] [] (.ref 1001 0 (l.map yA).length) [(1001,.arr 1 (l.map yA) false)]:=by
 have u:=zA yA l;refine eM call88 λF hF=>?_
 refine xI 0 Z (λcap z=>?_) ?_
 .have:l=[]:=by simpa using z
  subst this
  (repeat' (first|refine Xf ?_|apply yW|apply xH|intro hc|fail))
  refine qH 2 1001 1 Z Z Z (xL ?_);exact zP [1001] Z Z Z Z
 .repeat' (first|(apply zG;first|refine uM tok Z Z ?_|(apply wY;refine wM (xY tok (.inl ⟨rfl,rfl⟩) Z Z Z Z) Z ?_)|(apply yH;refine uT (nw:=[1001]) (yV tok 1001 (xs:=[]) Z Z Z Z Z Z Z Z Z) Z Z Z ?_)|(apply yC;refine vB tok Z Z Z Z Z Z Z (yM _ _ (λ_=>rfl)) Z Z Z zB Z ?_)|apply kQ)|(first|apply xX|apply xT|refine vZ Z ?_|refine yS Z ?_|refine yD Z ?_|refine xZ Z (λhc=>?_) λhc=>?_|apply xJ|apply xL|apply xS|apply xB))
  exact zP [1001] Z Z Z Z
def sj (n:Int):Bool:=decide (0<=n/\n<=4294967295)
def Hf (n:Int):dp n=if sj n=true then 0 else 8:=by grind [dp,sj]
def Jo (s:ay) (u:Int) (tok args:List Int):Nat->List Int
 |0=>tok
 |i+1=>(if(i:Int)=s.f/\0<s.g then Jo s u tok args i++RQ u else Jo s u tok args i)++RQ (args.getD i dd)
def V7 (s:ay) (u:Int) (tok args:List Int) (i:Nat):List Int:=if(i:Int)=s.f/\0<s.g then Jo s u tok args i++RQ u else Jo s u tok args i
theorem FI (s:ay) (u:Int) (tok args:List Int):∀i,(Jo s u tok args i).length<=ln tok+12*i
 |0=>by show (ln tok)<=_;omega
 |i+1=>by
  have:=FI s u tok args i;have h1:=aT u;have h2:=aT (args.getD i dd);unfold Jo
  split<;>simp only[zAx]<;>omega
def Au (s:ay) (u:Int) (tok args:List Int) (i:Nat):(V7 s u tok args i).length<=ln tok+12*i+6:=by grind [V7,FI,aT,List.length_append]
theorem Io (args:List Int):∀n,n<=ln args->(∃k,k<n/\sj (args.getD k dd)=false/\∀i,i<k->sj (args.getD i dd)=true)\/(∀i,i<n->sj (args.getD i dd)=true)
 |0,_=> .inr λi hi=>absurd hi (zCp _)
 | n+1,z=>by
  rcases Io args n zB with⟨k,h1,h2,u⟩|h
  .exact .inl ⟨k,zB,h2,u⟩
  .cases hb:sj (args.getD n dd)with
   |true=>
    refine .inr λi hi=>?_
    by_cases e:i=n
    .subst e;exact hb
    .exact h i zB
   |false=>exact .inl ⟨n,zB,hb,h⟩
structure A2 (m:Ms):Prop where
 t:m.tok.length<=1000
 a:m.args.length<=1000
 d:m.data.length<=1000
theorem Ho (m:Ms) (hm:A2 m):∃(xs:List AV) (e:Int),(e=0\/e=6)/\zN 185 [zX m] [] (.tup [.sl false xs,iA e]) []/\(∀f:Nat,(m.kind=2/\f=3)\/(m.kind=3/\f=1)\/(m.kind=4/\f=2)\/(m.kind=5/\f=1)->(e=0↔(ln m.tok=10/\m.data=[]/\m.args.length=f/\∀i,i<f->sj (m.args.getD i dd)=true))):=by
 obtain⟨s,ok,hs,c1⟩:=Bu m.kind;obtain⟨gr,bl,bs,av,c2⟩:=Ko s hs.g hs.f ((m.args.map iA).length:Int) (by have:=hm.a;simp;omega);have c3:=QE m.tok (by have:=hm.t;omega);have b1:=hm.t;have b2:=hm.a;have b3:=hm.d;have b4:=zA yA m.tok;have bx:=zA iA m.args;have bz:=zA yA m.data
 have hq:∀f:Nat,(m.kind=2/\f=3)\/(m.kind=3/\f=1)\/(m.kind=4/\f=2)\/(m.kind=5/\f=1)->s.t=10/\s.f=f/\s.g=0/\s.da=0/\ok=true:=λf hf=>by
  rcases hf with⟨h,rfl⟩|⟨h,rfl⟩|⟨h,rfl⟩|⟨h,rfl⟩
  .obtain⟨e1,e2⟩:=hs.k2 h;subst e1;exact⟨rfl,rfl,rfl,rfl,e2⟩
  .obtain⟨e1,e2⟩:=hs.k3 h;subst e1;exact⟨rfl,rfl,rfl,rfl,e2⟩
  .obtain⟨e1,e2⟩:=hs.k4 h;subst e1;exact⟨rfl,rfl,rfl,rfl,e2⟩
  .obtain⟨e1,e2⟩:=hs.k5 h;subst e1;exact⟨rfl,rfl,rfl,rfl,e2⟩
 have b9:=hs.t;have b6:=hs.f;have b7:=hs.g;have b5:=hs.da;clear hs;obtain⟨mk,tk,u,da⟩:=m;dsimp only at *;rw[show zX ⟨mk,tk,u,da⟩= .agg [iA mk,zE yA tk,zE iA u,zE yA da]from Z];have S:=FI s gr tk u;have L:=Au s gr tk u;have ap:Jo s gr tk u 0=tk:=rfl
 have M:∀i:Nat,V7 s gr tk u i=if(i:Int)=s.f/\0<s.g then Jo s gr tk u i++RQ gr else Jo s gr tk u i:=λ_=>rfl
 have O:∀i:Nat,Jo s gr tk u (i+1)=V7 s gr tk u i++RQ (u.getD i dd):=λ_=>rfl
 generalize V7 s gr tk u=pg,Jo s gr tk u=Y at *;obtain⟨st,sf,sg,bd,bb,au⟩:=s;dsimp only at *;rw[show XP ⟨st,sf,sg,bd,bb,au⟩= .agg [iA st,iA sf,iA sg,iA bd,iA bb,iA au]from Z]at*
 cases ok with
 |false=>
  refine⟨[],6,.inr Z,?_,λf hf=>⟨λh=>absurd h yY,λh=>absurd (hq f hf).2.2.2.2 yY⟩⟩;clear S L M O hq;refine eM call185 λF hF=>?_
  exact nl c1
 |true=>
 by_cases h1:(ln tk:Int)=st
 case neg=>
  refine⟨[],6,.inr Z,?_,λf hf=>⟨λh=>absurd h yY,λh=>absurd (show(ln tk:Int)=st by have:=(hq f hf).1;omega) h1⟩⟩;clear S L M O hq;refine eM call185 λF hF=>?_
  exact nl c1
 by_cases h2:au= -1\/(ln da:Int)=au
 case neg=>
  have br:¬au= -1:=λh=>h2 (.inl h)
  have bf:¬(ln da:Int)=au:=λh=>h2 (.inr h)
  refine⟨[],6,.inr Z,?_,λf hf=>⟨λh=>absurd h yY,λh=>absurd (show(ln da:Int)=au by have:=(hq f hf).2.2.2.1;rw[h.2.1];simp;omega) bf⟩⟩;clear S L M O hq h2;refine eM call185 λF hF=>?_
  exact nl c1
 cases bl with
 | false=>
  refine⟨[],6,.inr Z,?_,λf hf=>⟨λh=>absurd h yY,λh=>?_⟩⟩
  case refine_2=>
   obtain⟨q1,q2,q3,q4,_⟩:=hq f hf;have h5:=(av q3).2;rw[zAw (show((u.map iA).length:Int)=sf by omega)]at h5;cases h5
  clear S L M O hq
  rcases h2 with h2|h2
  all_goals
   (refine eM call185 λF hF=>?_)
   exact ng (xQ c1 c2)
 |true=>
 by_cases h3:(ln da:Int)<=200
 case neg=>
  refine⟨[],6,.inr Z,?_,λf hf=>⟨λh=>absurd h yY,λh=>absurd (show(ln da:Int)<=200 by rw[h.2.1];simp) h3⟩⟩;clear S L M O hq
  rcases h2 with h2|h2
  all_goals
   (refine eM call185 λF hF=>?_)
   exact ng (xQ c1 c2)
 have cg:=FM gr;have b0:=zA yA (RQ gr);have ca:=aT gr
 rcases Io u (ln u) (zAy _)with⟨k,bu,a2,a7⟩|ac
 .refine⟨[],6,.inr Z,?_,λf hf=>⟨λh=>absurd h yY,λh=>?_⟩⟩
  case refine_2=>
   have:=h.2.2.2 k zB;rw[a2]at this;cases this
  clear hq av;have C:∀i,i<k->dp (u.getD i dd)=0:=λi hi=>by rw[Hf,a7 i hi,zAs Z]
  have ax:dp (u.getD k dd)=8:=by rw[Hf,a2,Os zA9]
  clear a2 a7
  rcases h2 with h2|h2
  all_goals
   refine eM call185 λF hF=>?_
   refine yF (qC c1 c2 c3) ?_
  all_goals
   refine vP 1001 Z ?_;refine yU (ln u+1) [1001,1,4] [1,4] [1,4,6,64] [7,65,1,4,6,64] Z (λi T U zs=>(i<=k)/\zs=⟨(7,.ref 1001 0 ((Y i).map yA).length)::(65,iA i)::T,(1001,.arr 1 ((Y i).map yA) true)::U⟩) (Lp ?_ ?_ ?_)
   .refine⟨zBb _,?_⟩;rw[ap];rfl
   .rintro i st' hi ⟨hik,rfl⟩;have cv:=FM (u.getD i dd);have hy:=zJ iA u i zB;have a5:=S i;have a4:=L i;have hg:=M i;have hS:=O i;have a8:=zA yA (Y i);have a9:=zA yA (RQ (u.getD i dd));have ba:=aT (u.getD i dd)
    have a3:(i<k/\dp (u.getD i dd)=0)\/(i=k/\dp (u.getD i dd)=8):=by
     by_cases e:i=k
     .subst e;exact .inr ⟨rfl,ax⟩
     .exact .inl ⟨zB,C i zB⟩
    have ag:(Y (i+1)).map yA=(pg i).map yA++(RQ (u.getD i dd)).map yA:=by rw[hS,zA0]
    have z:(pg i).map yA=if(i:Int)=sf/\0<sg then(Y i).map yA++(RQ gr).map yA else(Y i).map yA:=by
     rw[hg];split
     .rw[zA0]
     .rfl
    rw[ag];clear hS hg S L M O ap ag c1 c2 c3 C ax;generalize (Y i).map yA=A,(pg i).map yA=B,RQ (u.getD i dd)=V,dp (u.getD i dd)=ve at *;generalize u.getD i dd=a at *;generalize RQ gr=W at *;by_cases G:(i:Int)=sf
    .by_cases I:0<sg
     .rw[zAs ⟨G,I⟩]at z;subst z
      rcases a3 with⟨az,rfl⟩|⟨az,rfl⟩
      ·(refine yF (xQ cg cv) ?_)
       exact⟨zB,rfl⟩
      .exact ng (xQ cg cv)
     .rw[Os (λh=>I h.2)]at z;subst z
      rcases a3 with⟨az,rfl⟩|⟨az,rfl⟩
      ·(refine zS cv ?_)
       exact⟨zB,rfl⟩
      .exact nl cv
    .rw[Os (λh=>G h.1)]at z;subst z
     rcases a3 with⟨az,rfl⟩|⟨az,rfl⟩
     ·(refine zS cv ?_)
      exact⟨zB,rfl⟩
     .exact nl cv
   .rintro st' ⟨hik,rfl⟩;exfalso;omega
 .have a6:=L (ln u);by_cases hz:((pg (ln u)).map yA++da.map yA).length<=200
  case neg=>
   refine⟨[],6,.inr Z,?_,λf hf=>⟨λh=>absurd h yY,λh=>?_⟩⟩
   case refine_2=>
    exfalso;apply hz;have e1:=h.1;have e2:=h.2.1;have e3:=h.2.2.1;have e4:f<=3:=by omega
    rw[zAx,zAt,zAt,e2];simp only[zBz];omega
   clear hq av;have C:∀i,i<ln u->dp (u.getD i dd)=0:=λi hi=>by rw[Hf,ac i hi,zAs Z]
   clear ac
   rcases h2 with h2|h2
   all_goals
    refine eM call185 λF hF=>?_
    refine yF (qC c1 c2 c3) ?_
   all_goals
    refine vP 1001 Z ?_;refine yU (ln u+1) [1001,1,4] [1,4] [1,4,6,64] [7,65,1,4,6,64] Z (λi T U zs=>(i<=ln u)/\zs=⟨(7,.ref 1001 0 ((Y i).map yA).length)::(65,iA i)::T,(1001,.arr 1 ((Y i).map yA) true)::U⟩) (Lp ?_ ?_ ?_)
    .refine⟨zBb _,?_⟩;rw[ap];rfl
    .rintro i st' hi ⟨hik,rfl⟩;have a5:=S i;have a4:=L i;have hg:=M i;have a8:=zA yA (Y i);have bk:=zA yA (pg i)
     have z:(pg i).map yA=if(i:Int)=sf/\0<sg then(Y i).map yA++(RQ gr).map yA else(Y i).map yA:=by
      rw[hg];split
      .rw[zA0]
      .rfl
     by_cases a1:i=ln u
     .subst a1;clear O hg S L M ap c1 c2 c3 C;generalize (Y (ln u)).map yA=A at *;generalize (pg (ln u)).map yA=B at *;generalize RQ gr=W at *;by_cases G:(ln u:Int)=sf
      .by_cases I:0<sg
       .rw[zAs ⟨G,I⟩]at z;subst z;exact nl cg
       .rw[Os (λh=>I h.2)]at z;subst z;exact mx
      .rw[Os (λh=>G h.1)]at z;subst z;exact mx
     have cv:=FM (u.getD i dd);rw[C i zB]at cv;have hy:=zJ iA u i zB;have hS:=O i;have a9:=zA yA (RQ (u.getD i dd));have ba:=aT (u.getD i dd);have ag:(Y (i+1)).map yA=(pg i).map yA++(RQ (u.getD i dd)).map yA:=by rw[hS,zA0]
     rw[ag];clear hS hg S L M O ap ag c1 c2 c3 C hz a6;generalize (pg (ln u)).map yA=E,(Y i).map yA=A,(pg i).map yA=B,RQ (u.getD i dd)=V at *;generalize u.getD i dd=a at *;generalize RQ gr=W at *;by_cases G:(i:Int)=sf
     .by_cases I:0<sg
      .rw[zAs ⟨G,I⟩]at z;subst z;refine yF (xQ cg cv) ?_;exact⟨zB,rfl⟩
      .rw[Os (λh=>I h.2)]at z;subst z;refine zS cv ?_;exact⟨zB,rfl⟩
     .rw[Os (λh=>G h.1)]at z;subst z;refine zS cv ?_;exact⟨zB,rfl⟩
    .rintro st' ⟨hik,rfl⟩;exfalso;omega
  refine⟨((pg (ln u)).map yA++da.map yA).take ((pg (ln u)).map yA++da.map yA).length,0,.inl Z,?_,λf hf=>⟨λ_=>?_,λ_=>rfl⟩⟩
  case refine_2=>
   obtain⟨q1,q2,q3,q4,_⟩:=hq f hf;have h5:=zEl (av q3).2.symm;refine⟨zB,zBv zB,zB,λi hi=>ac i zB⟩
  clear hq av;have C:∀i,i<ln u->dp (u.getD i dd)=0:=λi hi=>by rw[Hf,ac i hi,zAs Z]
  clear ac
  rcases h2 with h2|h2
  all_goals
   refine eM call185 λF hF=>?_
   refine yF (qC c1 c2 c3) ?_
  all_goals
   refine vP 1001 Z ?_;refine yU (ln u+1) [1001,1,4] [1,4] [1,4,6,64] [7,65,1,4,6,64] Z (λi T U zs=>(i<=ln u)/\zs=⟨(7,.ref 1001 0 ((Y i).map yA).length)::(65,iA i)::T,(1001,.arr 1 ((Y i).map yA) true)::U⟩) (Lp ?_ ?_ ?_)
   .refine⟨zBb _,?_⟩;rw[ap];rfl
   .rintro i st' hi ⟨hik,rfl⟩;have a5:=S i;have a4:=L i;have hg:=M i;have a8:=zA yA (Y i);have bk:=zA yA (pg i)
    have z:(pg i).map yA=if(i:Int)=sf/\0<sg then(Y i).map yA++(RQ gr).map yA else(Y i).map yA:=by
     rw[hg];split
     .rw[zA0]
     .rfl
    by_cases a1:i=ln u
    .subst a1;clear O hg S L M ap c1 c2 c3 C;generalize (Y (ln u)).map yA=A at *;generalize (pg (ln u)).map yA=B at *;generalize RQ gr=W at *;by_cases G:(ln u:Int)=sf
     .by_cases I:0<sg
      .rw[zAs ⟨G,I⟩]at z;subst z;exact nl cg
      .rw[Os (λh=>I h.2)]at z;subst z;exact mx
     .rw[Os (λh=>G h.1)]at z;subst z;exact mx
    have cv:=FM (u.getD i dd);rw[C i zB]at cv;have hy:=zJ iA u i zB;have hS:=O i;have a9:=zA yA (RQ (u.getD i dd));have ba:=aT (u.getD i dd);have ag:(Y (i+1)).map yA=(pg i).map yA++(RQ (u.getD i dd)).map yA:=by rw[hS,zA0]
    rw[ag];clear hS hg S L M O ap ag c1 c2 c3 C hz a6;generalize (pg (ln u)).map yA=E,(Y i).map yA=A,(pg i).map yA=B,RQ (u.getD i dd)=V at *;generalize u.getD i dd=a at *;generalize RQ gr=W at *;by_cases G:(i:Int)=sf
    .by_cases I:0<sg
     .rw[zAs ⟨G,I⟩]at z;subst z;refine yF (xQ cg cv) ?_;exact⟨zB,rfl⟩
     .rw[Os (λh=>I h.2)]at z;subst z;refine zS cv ?_;exact⟨zB,rfl⟩
    .rw[Os (λh=>G h.1)]at z;subst z;refine zS cv ?_;exact⟨zB,rfl⟩
   .rintro st' ⟨hik,rfl⟩;exfalso;omega
def zv (k:Int) (f:Nat):Prop:=(k=2/\f=3)\/(k=3/\f=1)\/(k=4/\f=2)\/(k=5/\f=1)
def m9 (m:Ms) (f:Nat):Prop:=ln m.tok=10/\m.data=[]/\m.args.length=f/\∀i,i<f->sj (m.args.getD i dd)=true
def Fo (m:Ms) (A:A2 m):∃b:Bool,zN 123 [zX m] [] (bA b) []/\∀f,zv m.kind f->(b=true↔m9 m f):=by
 obtain⟨xs,e,z,c,h⟩:=Ho m A
 rcases z with rfl|rfl
 .refine⟨true,?_,λf u=>⟨λ_=>(h f u).1 Z,λ_=>rfl⟩⟩;clear h;refine eM call123 λF hF=>?_
  exact nl c
 .refine⟨false,?_,λf u=>⟨λh1=>absurd h1 zA9,λh1=>absurd ((h f u).2 h1) yY⟩⟩;clear h;refine eM call123 λF hF=>?_
  exact nl c
def AY:Nat->Int->List Int
 |0,n=>[n]
 |z+1,n=>if 128<=n then(n % 128+128)::AY z (n/128)else [n]
theorem OF:∀z n,(AY z n).length<=z+1
 |0,n=>zAy _
 |z+1,n=>by
  unfold AY;split
  .have:=OF z (n/128);simp only[zA8];omega
  .simp
def yv (z:Nat) (n:Int) (h:n<128):AY z n=[n]:=by
 cases z with
 |zero=>rfl
 |succ z=>unfold AY;rw[Os zB]
def Eo:Nat->Int->Int
 |0,_=>0
 |z+1,n=>if 128<=n then 1+Eo z (n/128)else 0
theorem FJ:∀z n,0<=Eo z n/\Eo z n<=z
 |0,n=>⟨zC3 _,zC3 _⟩
 |z+1,n=>by
  unfold Eo;split
  .have:=FJ z (n/128);omega
  .omega
def wv (z:Nat) (n:Int) (h:n<128):Eo z n=0:=by
 cases z with
 |zero=>rfl
 |succ z=>unfold Eo;rw[Os zB]
def Co (x:Int) (u:0<=x) (h1:x<=4294967295):x.tdiv 128=x/128/\aD .i64 (x.tdiv 128):=by grind [aD]
def vv (n:Int) (h1:0<=n) (h2:n<=4294967295):∃k:Int,1<=k/\zN 201 [iA n] [] (iA k) []:=by
 refine⟨1+Eo 5 n,by have:=FJ 5 n;omega,?_⟩;have G:=FJ 5 n;refine eM call201 λF hF=>?_
 refine WW ?_;refine jQ (5) [] [] [] [0,3] Z (λA T U L=>∃(x:Int) (k:Int),(0<=x/\x<=4294967295/\x<P7 A*128/\k+Eo A x=1+Eo 5 n/\1<=k)/\L=⟨(0,iA x)::(3,iA k)::T,U⟩) ?_;(conv=>whnf);refine⟨?_,?_⟩
 .exact⟨n,1,⟨h1,h2,by show n<34359738368*128;omega,rfl,zC3 _⟩,rfl⟩
 .rintro A st ⟨x,k,⟨b1,b1',b2,b3,b4⟩,rfl⟩;by_cases I:128<=x
  .have O:A≠0:=λe=>by
    subst e;have:P7 0=1:=rfl;omega
   obtain⟨z,rfl⟩:∃z,A=z+1:=⟨A-1,zB⟩;obtain⟨e,M⟩:=Co x b1 b1';have C:P7 (z+1)=128*P7 z:=rfl
   have B:Eo (z+1) x=1+Eo z (x/128):=by
    show(if 128<=x then _ else _)=_
    rw[zAs I]
   rw[B,<-e]at b3;have u:0<=x.tdiv 128/\x.tdiv 128<=4294967295/\x.tdiv 128<P7 z*128:=by rw[e];rw[C]at b2;omega
   have E:=FJ z (x.tdiv 128);clear B C e b2;refine WW ?_;exact⟨z,zB,x.tdiv 128,k+1,⟨u.1,u.2.1,u.2.2,zB,zB⟩,rfl⟩
  .rw[wv A x zB,Int.add_zero]at b3;rw[<-b3];exact mx
def j3 (n:Int) (h1:0<=n) (h2:n<=4294967295):zN 143 [iA n] [] (.tup [zE yA (AY 5 n),iA 0]) []:=by
 obtain⟨k,hk,c⟩:=vv n h1 h2;refine eM call143 λF hF=>?_
 refine zS c ?_;refine zQ 4 1001 1 Z Z Z ?_;refine jQ (5) [1001] [] [] [0,4] Z (λB T U Y=>∃(u:List Int) (x:Int),(0<=x/\x<=4294967295/\x<P7 B*128/\u++AY B x=AY 5 n/\u.length<=100)/\Y=⟨(0,iA x)::(4,.ref 1001 0 (u.map yA).length)::T,(1001,.arr 1 (u.map yA) true)::U⟩) ?_;(conv=>whnf);refine⟨?_,?_⟩
 .exact⟨[],n,⟨h1,h2,by show n<34359738368*128;omega,rfl,by simp⟩,rfl⟩
 .rintro B st ⟨u,x,⟨b1,b1',b2,b3,b4⟩,rfl⟩;have S:=zA yA u;by_cases W:128<=x
  .have hz:B≠0:=λe=>by
    subst e;have:P7 0=1:=rfl;omega
   obtain⟨z,rfl⟩:∃z,B=z+1:=⟨B-1,zB⟩;obtain⟨e,hq⟩:=Co x b1 b1';have C:=zB3 (a:=x) (b:=128) b1;have M:P7 (z+1)=128*P7 z:=rfl
   have L:AY (z+1) x=(x % 128+128)::AY z (x/128):=by
    show(if 128<=x then _ else _)=_
    rw[zAs W]
   rw[L]at b3;have I:(u++[x.tmod 128+128]).map yA=u.map yA++[yA (x.tmod 128+128)]:=by simp
   have E:u++[x.tmod 128+128]++AY z (x.tdiv 128)=AY 5 n:=by rw[e,C,zBl];exact b3
   have V:0<=x.tmod 128/\x.tmod 128<=127:=by rw[C];omega
   have A:0<=x.tdiv 128/\x.tdiv 128<=4294967295/\x.tdiv 128<P7 z*128:=by rw[e];rw[M]at b2;omega
   have G:ln u+1<=100:=by
    have O:=zBd List.length b3;have h7:=OF 5 n;simp only[zAx,zA8]at O;omega
   clear L b3 M e C;refine WW ?_;exact⟨z,zB,u++[x.tmod 128+128],x.tdiv 128,⟨A.1,A.2.1,A.2.2,E,by simpa using G⟩,by rw[I];rfl⟩
  .rw[yv B x zB]at b3;rw[<-b3];have I:zE yA (u++[x])= .sl false ((u.map yA++[yA (x)]).take (u.map yA++[yA (x)]).length):=by rw[zAv];unfold zE;rw[zA0];rfl
   rw[I];exact mx
def uv (tok args:List Int):Nat->List Int
 |0=>tok
 |i+1=>uv tok args i++AY 5 (args.getD i dd)
theorem Gf (tok args:List Int):∀i,(uv tok args i).length<=ln tok+6*i
 |0=>by show (ln tok)<=_;omega
 |i+1=>by
  have:=Gf tok args i;have h2:=OF 5 (args.getD i dd);unfold uv;simp only[zAx];omega
def r5A (f:Int):AV:= .agg [iA f,iA 0,iA 0,iA 0,iA 0]
def Bo (k:Int) (f:Nat) (u:zv k f):zN 141 [iA k] [] (r5A f) []:=by
 rcases u with⟨rfl,rfl⟩|⟨rfl,rfl⟩|⟨rfl,rfl⟩|⟨rfl,rfl⟩
 all_goals
  refine eM call141 λF hF=>?_
  exact mx
def qv (k:Int) (h1:1<=k) (h2:k<=12):zN 142 [iA k] [] (bA true) []:=by
 refine eM call142 λF hF=>?_
 exact mx
def dv (m:Ms) (f:Nat) (W:zv m.kind f) (h:m9 m f):∃xs:List AV,ln xs<=200/\zN 70 [zX m] [] (.sl false xs) []:=by
 obtain⟨h1,h2,h3,O⟩:=h;have M:=Bo m.kind f W;have ac:f<=3/\1<=f:=by unfold zv at W;omega
 obtain⟨mk,z,u,da⟩:=m;dsimp only at *;subst h2;have G:=Gf z u;refine⟨((uv z u f).map yA++[]).take ((uv z u f).map yA++[]).length,by have:=G f;simp;omega,?_⟩;have au:=zA yA z;have ap:=zA iA u;have C:uv z u 0=z:=rfl;have E:∀i:Nat,uv z u (i+1)=uv z u i++AY 5 (u.getD i dd):=λ_=>rfl
 generalize uv z u=B at *;rw[show zX ⟨mk,z,u,[]⟩= .agg [iA mk,zE yA z,zE iA u,zE yA []]from Z];rw[show r5A f= .agg [iA f,iA 0,iA 0,iA 0,iA 0]from Z]at M;clear W;refine eM call70 λF hF=>?_
 (have gd:=M;(repeat' (first|refine uS ?_|apply yW|apply xH|intro hc|(apply zG;first|(apply yC;refine xG 1001 tok Z Z Z Z Z Z (yM _ _ (λ_=>rfl)) Z Z Z zB Z Z Z ?_))|fail))<;>clear gd)
 refine vP 1001 Z ?_;refine yU (ln u) [1001,1,3] [1,3] [1,3,16,17] [4,18,1,3,16,17] Z (λi T U zs=>(i<=ln u)/\zs=⟨(4,.ref 1001 0 ((B i).map yA).length)::(18,iA i)::T,(1001,.arr 1 ((B i).map yA) true)::U⟩) (Lp ?_ ?_ ?_)
 .refine⟨zBb _,?_⟩;rw[C];rfl
 .rintro i st' hi ⟨hik,rfl⟩;have L:=O i zB;unfold sj at L;rw[zAz]at L;have cv:=j3 (u.getD i dd) L.1 L.2;have hy:=zJ iA u i hi;have S:=G i;have Y:=zA yA (B i);have av:=zA yA (AY 5 (u.getD i dd));have ax:=OF 5 (u.getD i dd);have I:(B (i+1)).map yA=(B i).map yA++(AY 5 (u.getD i dd)).map yA:=by rw[E,zA0]
  rw[I];clear E G C I M L O;generalize (B i).map yA=A,AY 5 (u.getD i dd)=V at *;generalize u.getD i dd=a at *;refine zS cv ?_;exact⟨zB,rfl⟩
 .rintro st' ⟨hik,rfl⟩;subst h3;have S:=G (ln u);have Y:=zA yA (B (ln u));clear E G C O M;generalize (B (ln u)).map yA=A at *;have ag:(([]:List Int).map yA).length=0:=rfl;exact mx
def qi (m:Ms) (O:A2 m) (f:Nat) (M:zv m.kind f):∃b:Bool,zN 69 [zX m] [] (bA b) []/\(b=true↔m9 m f):=by
 have C:=Bo m.kind f M;have hk:2<=m.kind/\m.kind<=5:=by unfold zv at M;omega
 have G:=qv m.kind zB zB;have E:=dv m f M;have b1:=O.t;have b2:=O.a;have b3:=O.d;have au:=zA yA m.tok;have ap:=zA iA m.args;have ar:=zA yA m.data;have ac:f<=3/\1<=f:=by unfold zv at M;omega
 rw[show r5A f= .agg [iA f,iA 0,iA 0,iA 0,iA 0]from Z]at C;by_cases h1:ln m.tok=10
 case neg=>
  refine⟨false,?_,λh=>absurd h zA9,λh=>absurd h.1 h1⟩;clear E;refine eM call69 λF hF=>?_
  exact ng (xQ C G)
 by_cases h2:ln m.args=f
 case neg=>
  refine⟨false,?_,λh=>absurd h zA9,λh=>absurd h.2.2.1 h2⟩;clear E;refine eM call69 λF hF=>?_
  exact ng (xQ C G)
 by_cases L:ln m.data=0
 case neg=>
  refine⟨false,?_,λh=>absurd h zA9,λh=>absurd (by rw[h.2.1];rfl) L⟩;clear E;refine eM call69 λF hF=>?_
  exact ng (xQ C G)
 have L:=zBv L
 rcases Io m.args (ln m.args) (zAy _)with⟨k,ag,u,I⟩|z
 .refine⟨false,?_,λh=>absurd h zA9,λh=>?_⟩
  case refine_2=>
   have:=h.2.2.2 k zB;rw[u]at this;cases this
  clear E;refine eM call69 λF hF=>?_
  refine yF (xQ C G) ?_;refine yU (ln m.args) [1] [1] [1,97,98] [99,1,97,98] Z (λi T U zs=>(i<=k)/\zs=⟨(99,iA i)::T,U⟩) (Lp ?_ ?_ ?_)
  .exact⟨zBb _,rfl⟩
  .rintro i st' hi ⟨hik,rfl⟩;have hy:=zJ iA m.args i hi;by_cases e:i=k
   .subst e;unfold sj at u;rw[zA6]at u;generalize m.args.getD i dd=a at *;by_cases Y:0<=a
    .have g2:¬a<=4294967295:=λh=>u ⟨Y,h⟩
     clear u;exact mx
    .clear u;exact mx
   .have A:=I i zB;unfold sj at A;rw[zAz]at A;obtain⟨S,V⟩:=A;clear u I;generalize m.args.getD i dd=a at *;refine WW ?_;exact⟨zB,rfl⟩
  .rintro st' ⟨hik,rfl⟩;exfalso;omega
 .have B:m9 m f:=⟨h1,L,h2,λi hi=>z i zB⟩;obtain⟨xs,hx,W⟩:=E B;refine⟨true,?_,λ_=>B,λ_=>rfl⟩;clear B E;rw[show zX m= .agg [iA m.kind,zE yA m.tok,zE iA m.args,zE yA m.data]from Z]at *; refine eM call69 λF hF=>?_
  refine yF (xQ C G) ?_;refine zO (ln m.args) [1] [1] [1,97,98] [99,1,97,98] Z (λi T U=>⟨(99,iA i)::T,U⟩) (Lq ?_ ?_)
  .intro i hi;have hy:=zJ iA m.args i hi;have A:=z i hi;unfold sj at A;rw[zAz]at A;obtain⟨S,V⟩:=A;clear z;generalize m.args.getD i dd=a at *;refine WW ?_;rfl
  .exact nl W
def AZ (l:List Vh) (id:Int):∃k,k<=ln l/\(∀i,i<k->(l.getD i dd).id<id)/\(k<ln l->¬(l.getD k dd).id<id):=by
 induction l with
 |nil=>exact⟨0,zAy _,λi h=>absurd h (zCp _),λh=>absurd h zV⟩
 | cons x l z=>
  obtain⟨k,h1,h2,A⟩:=z;by_cases u:x.id<id
  .refine⟨k+1,by simpa using h1,λi hi=>?_,λhk=>?_⟩
   .cases i with
    |zero=>exact u
    |succ i=>exact h2 i zB
   all_goals grind
  .exact⟨0,zBb _,λi h=>absurd h (zCp _),λ_=>u⟩
def oy {l:List Vh}:LB l=true↔l.length<=8/\∀i,i<ln l->(0<=(l.getD i dd).id/\(l.getD i dd).id<=4294967295/\0<=(l.getD i dd).cls/\(l.getD i dd).cls<=3)/\(0<i->(l.getD (i-1) dd).id<(l.getD i dd).id):=by
 unfold LB;simp only[zA4,zAz,zA7,zBj]
 grind [LB,bZ]
def gL (n a b:Int):zN 154 [iA n,iA a,iA b] [] (bA (uG n a b)) []:=by
 (cases hb:uG n a b with|false=>((refine eM call154 λF hF=>?_);((refine WW (I2 (λhc=>?_) λhc=>?_)));all_goals (first|exact zH|(simp only[uG,zA6]at hb;first|exact MP|exact OB)))|true=>(simp only[uG,zAz]at hb;(refine eM call154 λF hF=>?_);((refine WW ?_));all_goals (first|exact zH|exact MP|exact OB)))
def my (a:Ag):Bool:=a.lim.all λn=>uG n 0 8
def ji (a:Ag):Bool:=decide ((ln a.sec:Int)=8/\(ln a.lim:Int)=4)&&(my a&&(uG a.rights 0 63&&(uG a.cls 0 3&&(uG a.req 0 4&&(uG a.ses 1 2&&(uG a.burst 0 1000&&uG a.rate 0 a.burst))))))
def ry {a:Ag} (h:∀s:Nat,s<ln a.lim->uG (a.lim.getD s dd) 0 8=true):my a=true:=by grind [uG,my,List.all_eq_true,List.getElem_of_mem,List.getD]
def iy {a:Ag} {i:Nat} (hi:i<ln a.lim) (h:uG (a.lim.getD i dd) 0 8=false):my a=false:=by grind [uG,my]
def bv (a:Ag):ji a=true↔Ty a:=by
 unfold ji my uG;simp only[zA4,zAz,zA7];constructor
 .rintro⟨⟨h1,h2⟩,u,z,A,B,C,E,G⟩;exact⟨h1,h2,u,z,A,B,C,E,G⟩
 .rintro⟨h1,h2,u,z,A,B,C,E,G⟩
  grind
def gi (a:Ag):zN 150 [uF a] [] (bA (ji a)) []:=by
 have G:=zA yA a.sec;have hl:=zA iA a.lim;have u:=fT a.rights 0 63;have z:=fT a.cls 0 3;have A:=fT a.req 0 4;have C:=fT a.ses 1 2;have L:=fT a.burst 0 1000;have M:=fT a.rate 0 a.burst;by_cases h1:(ln a.sec:Int)=8/\(ln a.lim:Int)=4
 case neg=>
  have e:ji a=false:=by unfold ji;rw[zAu h1];rfl
  rw[e];by_cases g1:(ln a.sec:Int)=8
  all_goals
   (refine eM call150 λF hF=>?_)
   exact mx
 obtain⟨h1,h2⟩:=h1
 have e:ji a=(my a&&(uG a.rights 0 63&&(uG a.cls 0 3&&(uG a.req 0 4&&(uG a.ses 1 2&&(uG a.burst 0 1000&&uG a.rate 0 a.burst)))))):=by
  unfold ji;rw[zAw ⟨h1,h2⟩,zA3]
 rw[e];refine eM call150 λF hF=>?_
 refine WW ?_;refine yU (ln a.lim) [1] [1] [1,16,17] [18,1,16,17] Z (λi T U Y=>(∀s:Nat,s<i->uG (a.lim.getD s dd) 0 8=true)/\Y=⟨(18,iA i)::T,U⟩) (Lp ?_ ?_ ?_)
 .exact⟨λs G=>absurd G (zCp _),rfl⟩
 .rintro i st hi ⟨hp,rfl⟩;have hy:=zJ iA a.lim i hi;have c:=fT (a.lim.getD i dd) 0 8
  cases B:uG (a.lim.getD i dd) 0 8 with
  | true=>
   rw[B]at c
   have E:∀s:Nat,s<i+1->uG (a.lim.getD s dd) 0 8=true:=λs G=>by
    by_cases I:s=i
    .subst I;assumption
    .exact hp s zB
   clear B hp;generalize O:a.lim.getD i dd=x at *;clear O;refine zS c ?_;exact⟨E,rfl⟩
  |false=>
   rw[B]at c;rw[iy hi B,zBt];generalize a.lim.getD i dd=x at *;exact nl c
 .rintro st ⟨hp,rfl⟩;rw[ry hp,zA3];clear hp;generalize uG a.rights 0 63=q1 at *;generalize uG a.cls 0 3=S at *;generalize uG a.req 0 4=V at *;generalize uG a.ses 1 2=q4 at *;generalize uG a.burst 0 1000=W at *;generalize uG a.rate 0 a.burst=q6 at *;cases q1
  .exact nl u
  cases S
  .exact ng (xQ u z)
  cases V
  .exact ng (qC u z A)
  cases q4
  .exact ng (cI u z A C)
  cases W
  .exact ng (MO u z A C L)
  .exact ng (qb u z A C L M)
def TP (l:List Vh) (hn:ln l<=1000000):zN 373 [zE vC l] [] (bA (LB l)) []:=by
 have hl:=zA vC l;by_cases V:(ln l:Int)<=8
 case neg=>
  have e:LB l=false:=by unfold LB;rw[zAu V,zCs]
  rw[e];refine eM call373 λF hF=>?_
  exact mx
 refine eM call373 λF hF=>?_
 refine WW ?_;refine yU (ln l) [] [] [0,8,9] [10,0,8,9] Z (λi T U zs=>(∀s:Nat,s<i->bZ l s=true)/\zs=⟨(10,iA i)::T,U⟩) (Lp ?_ ?_ ?_)
 .exact⟨λs W=>absurd W (zCp _),rfl⟩
 .rintro i st hi ⟨hp,rfl⟩
  have z:bZ l i=true->∀s:Nat,s<i+1->bZ l s=true:=λh s W=>by
   by_cases S:s=i
   .subst S;exact h
   .exact hp s zB
  have A:=λh=>xp (l:=l) hi h
  have hy:=zJ vC l i hi;have u:bZ l i=_:=rfl
  conv at u=>rhs;unfold bZ
  by_cases C:0<i
  .have B:=yE vC l ((i:Int)-1) zB zB;rw[show((i:Int)-1).toNat=i-1 by omega]at B;have ac:(l.map vC)[((i:Int)-1).toNat]? =some (vC (l.getD (i-1) dd)):=by rw[show((i:Int)-1).toNat=i-1 by omega];exact B
   clear B;generalize l.getD i dd=t,l.getD (i-1) dd=p,bZ l i=tk at *;by_cases h1:0<=t.id/\t.id<=4294967295/\0<=t.cls/\t.cls<=3/\p.id<t.id
   .obtain⟨h1,h2,M,O,h5⟩:=h1;rw[zAw ⟨h1,h2,M,O,λ_=>h5⟩]at u;refine WW ?_;exact⟨z u,rfl⟩
   .rw[zAu (λh=>h1 ⟨h.1,h.2.1,h.2.2.1,h.2.2.2.1,h.2.2.2.2 C⟩)]at u;rw[A u]
    by_cases E:0<=t.id<;>by_cases G:t.id<=4294967295<;>by_cases I:0<=t.cls<;>by_cases L:t.cls<=3<;>by_cases Y:p.id<t.id<;>first|(exfalso;exact h1 ⟨E,G,I,L,Y⟩)|(exfalso;omega;done)|(clear h1;((refine WW ?_));exact zH)
  .obtain rfl:i=0:=by omega
   generalize l.getD 0 dd=t,bZ l 0=tk at *;by_cases h1:0<=t.id/\t.id<=4294967295/\0<=t.cls/\t.cls<=3
   .obtain⟨h1,h2,M,O⟩:=h1;rw[zAw ⟨h1,h2,M,O,λh=>absurd h C⟩]at u;refine WW ?_;exact⟨z u,rfl⟩
   .rw[zAu (λh=>h1 ⟨h.1,h.2.1,h.2.2.1,h.2.2.2.1⟩)]at u;rw[A u]
    by_cases E:0<=t.id<;>by_cases G:t.id<=4294967295<;>by_cases I:0<=t.cls<;>by_cases L:t.cls<=3<;>first|(exfalso;exact h1 ⟨E,G,I,L⟩)|(exfalso;omega;done)|(clear h1;((refine WW ?_));exact zH)
 .rintro st ⟨hp,rfl⟩;have e:((List.range (ln l)).all λi=>bZ l i)=true:=zA7.2 λi hi=>hp i (zBj.1 hi)
  unfold LB;rw[e,zA3];rw[zAw V];exact mx
def IK (a:Ag):zN 156 [uF a] [] (bA (ji a)) []:=by
 have I:=zA yA a.sec;have hl:=zA iA a.lim;have u:=gL a.rights 0 63;have z:=gL a.cls 0 3;have A:=gL a.req 0 4;have B:=gL a.ses 1 2;have E:=gL a.burst 0 1000;have M:=gL a.rate 0 a.burst;have e:ji a=(decide ((ln a.sec:Int)=8/\(ln a.lim:Int)=4)&&(my a&&(uG a.rights 0 63&&(uG a.cls 0 3&&(uG a.req 0 4&&(uG a.ses 1 2&&(uG a.burst 0 1000&&uG a.rate 0 a.burst))))))):=rfl;rw[e];generalize uG a.rights 0 63=q1,uG a.cls 0 3=S,uG a.req 0 4=V,uG a.ses 1 2=q4,uG a.burst 0 1000=W,uG a.rate 0 a.burst=q6 at *;clear e;by_cases h1:(ln a.sec:Int)=8
 case neg=>
  rw[zAu (λh=>h1 h.1),zBt];refine eM call156 λF hF=>?_
  exact mx
 cases q1 with
 |false=>
  rw[zBt,zCs,zCs];refine eM call156 λF hF=>?_
  exact nl u
 |true=>
 cases S with
 |false=>
  rw[zBt,zCs,zCs,zCs];refine eM call156 λF hF=>?_
  exact ng (xQ u z)
 |true=>
 by_cases h2:(ln a.lim:Int)=4
 case neg=>
  rw[zAu (λh=>h2 h.2),zBt];refine eM call156 λF hF=>?_
  exact ng (xQ u z)
 rw[zAw ⟨h1,h2⟩,zA3,zA3,zA3];refine eM call156 λF hF=>?_
 refine yF (xQ u z) ?_;refine yU (ln a.lim) [1] [1] [1,28,29] [30,1,28,29] Z (λi T U Y=>(∀s:Nat,s<i->uG (a.lim.getD s dd) 0 8=true)/\Y=⟨(30,iA i)::T,U⟩) (Lp ?_ ?_ ?_)
 .exact⟨λs I=>absurd I (zCp _),rfl⟩
 .rintro i st hi ⟨hp,rfl⟩;have hy:=zJ iA a.lim i hi;have c:=gL (a.lim.getD i dd) 0 8;clear u z A B E M
  cases C:uG (a.lim.getD i dd) 0 8 with
  | true=>
   rw[C]at c
   have G:∀s:Nat,s<i+1->uG (a.lim.getD s dd) 0 8=true:=λs I=>by
    by_cases L:s=i
    .subst L;assumption
    .exact hp s zB
   clear C hp;generalize O:a.lim.getD i dd=x at *;clear O;refine zS c ?_;exact⟨G,rfl⟩
  |false=>
   rw[C]at c;rw[iy hi C,zBt];generalize a.lim.getD i dd=x at *;exact nl c
 .rintro st ⟨hp,rfl⟩;rw[ry hp,zA3];clear hp u z;cases V
  .exact nl A
  cases q4
  .exact ng (xQ A B)
  cases W
  .exact ng (qC A B E)
  .exact ng (cI A B E M)
def Ao (r:Rg):Bool:=decide (0<=r.num/\r.num<4)&&(ji r.ag&&(PB r.tk&&(LB r.vh&&(wn r.bk&&decide (r.bk.rate=r.ag.rate/\r.bk.burst=r.ag.burst)))))
def ZZ (r:Rg) (hv:ln r.vh<=1000000):zN 343 [uQ r] [] (bA (Ao r)) []:=by
 have u:=gi r.ag;have z:=TW r.tk;have A:=TP r.vh hv;have B:=vn r.bk;unfold Ao;generalize ji r.ag=q1,PB r.tk=G,LB r.vh=I,wn r.bk=q4 at *;by_cases h1:0<=r.num
 case neg=>
  rw[zAu (λh=>h1 h.1)];refine eM call343 λF hF=>?_
  exact mx
 by_cases h2:r.num<4
 case neg=>
  rw[zAu (λh=>h2 h.2)];refine eM call343 λF hF=>?_
  exact mx
 rw[zAw ⟨h1,h2⟩]
 cases q1 with
 |false=>
  refine eM call343 λF hF=>?_
  exact nl u
 |true=>
 cases G with
 |false=>
  refine eM call343 λF hF=>?_
  exact ng (xQ u z)
 |true=>
 cases I with
 |false=>
  refine eM call343 λF hF=>?_
  exact ng (qC u z A)
 |true=>
 cases q4 with
 |false=>
  refine eM call343 λF hF=>?_
  exact ng (cI u z A B)
 |true=>
 by_cases C:r.bk.rate=r.ag.rate
 case neg=>
  rw[zAu (λh=>C h.1)];refine eM call343 λF hF=>?_
  exact ng (cI u z A B)
 by_cases E:r.bk.burst=r.ag.burst
 .rw[zAw ⟨C,E⟩];refine eM call343 λF hF=>?_
  refine yF (cI u z A B) ?_
  all_goals (first|exact zH|exact OB)
 .rw[zAu (λh=>E h.2)];refine eM call343 λF hF=>?_
  refine yF (cI u z A B) ?_
  all_goals (first|exact zH|exact OB)
def bY (r:Rg) (hv:ln r.vh<=1000000):zN 328 [uQ r] [] (bA (Ao r)) []:=by
 have u:=IK r.ag;have z:=RS r.tk;have A:=RN r.vh hv;have B:=Hh r.bk;unfold Ao;rw[ug];generalize ji r.ag=q1,aU r.tk=G,LB r.vh=I,wn r.bk=q4 at *;by_cases h1:0<=r.num
 case neg=>
  rw[zAu (λh=>h1 h.1)];refine eM call328 λF hF=>?_
  exact mx
 by_cases h2:r.num<4
 case neg=>
  rw[zAu (λh=>h2 h.2)];refine eM call328 λF hF=>?_
  exact mx
 rw[zAw ⟨h1,h2⟩]
 cases q1 with
 |false=>
  refine eM call328 λF hF=>?_
  exact nl u
 |true=>
 cases G with
 |false=>
  refine eM call328 λF hF=>?_
  exact ng (xQ u z)
 |true=>
 cases I with
 |false=>
  refine eM call328 λF hF=>?_
  exact ng (qC u z A)
 |true=>
 cases q4 with
 |false=>
  refine eM call328 λF hF=>?_
  exact ng (cI u z A B)
 |true=>
 by_cases C:r.bk.rate=r.ag.rate
 case neg=>
  rw[zAu (λh=>C h.1)];refine eM call328 λF hF=>?_
  exact ng (cI u z A B)
 by_cases E:r.bk.burst=r.ag.burst
 .rw[zAw ⟨C,E⟩];refine eM call328 λF hF=>?_
  refine yF (cI u z A B) ?_
  all_goals (first|exact zH|exact OB)
 .rw[zAu (λh=>E h.2)];refine eM call328 λF hF=>?_
  refine yF (cI u z A B) ?_
  all_goals (first|exact zH|exact OB)
