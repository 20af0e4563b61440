/- Part 10. -/
import Derived.Test.YtaglbcjljlkjcaaGreatV09
namespace Go.Proofs.YtaglbcjljlkjcaaGreat.Av
open Tryz
set_option linter.all false
set_option maxRecDepth 4000
set_option maxHeartbeats 4000000
open List renaming length->ln
open Inhabited renaming default->dd
structure Aw where
 t:Int
 f:Int
 g:Int
 lo:Int
 hi:Int
 da:Int
def XI (s:Aw):AV:= .agg [iA s.t,iA s.f,iA s.g,iA s.lo,iA s.hi,iA s.da]
structure L9 (k:Int) (s:Aw) (ok:Bool):Prop where
 t:0<=s.t/\s.t<=10
 f:0<=s.f/\s.f<=4
 g:s.g=0\/s.g=2\/s.g=3\/s.g=4
 da: -1<=s.da/\s.da<=10
 k2:k=2->s=⟨10,3,0,0,0,0⟩/\ok=true
 k3:k=3->s=⟨10,1,0,0,0,0⟩/\ok=true
 k4:k=4->s=⟨10,2,0,0,0,0⟩/\ok=true
 k5:k=5->s=⟨10,1,0,0,0,0⟩/\ok=true
theorem Bu (k:Int):∃(s:Aw) (W:Bool),L9 k s W/\zO 233 [iA k] [] (.tup [XI s,bA W]) []:=by
 by_cases h1:k=1
 .subst h1;refine⟨⟨10,0,0,0,0,0⟩,true,⟨by decide,by decide,by decide,by decide,λh=>absurd h zB,λh=>absurd h zB,λh=>absurd h zB,λh=>absurd h zB⟩,?_⟩;unfold XI;refine eM call233 λF hF=>?_
  exact mx
 by_cases h2:k=2
 .subst h2;refine⟨⟨10,3,0,0,0,0⟩,true,⟨by decide,by decide,by decide,by decide,λ_=>⟨rfl,rfl⟩,λh=>absurd h zB,λh=>absurd h zB,λh=>absurd h zB⟩,?_⟩;unfold XI;refine eM call233 λF hF=>?_
  exact mx
 by_cases S:k=3
 .subst S;refine⟨⟨10,1,0,0,0,0⟩,true,⟨by decide,by decide,by decide,by decide,λh=>absurd h zB,λ_=>⟨rfl,rfl⟩,λh=>absurd h zB,λh=>absurd h zB⟩,?_⟩;unfold XI;refine eM call233 λF hF=>?_
  exact mx
 by_cases U:k=4
 .subst U;refine⟨⟨10,2,0,0,0,0⟩,true,⟨by decide,by decide,by decide,by decide,λh=>absurd h zB,λh=>absurd h zB,λ_=>⟨rfl,rfl⟩,λh=>absurd h zB⟩,?_⟩;unfold XI;refine eM call233 λF hF=>?_
  exact mx
 by_cases V:k=5
 .subst V;refine⟨⟨10,1,0,0,0,0⟩,true,⟨by decide,by decide,by decide,by decide,λh=>absurd h zB,λh=>absurd h zB,λh=>absurd h zB,λ_=>⟨rfl,rfl⟩⟩,?_⟩;unfold XI;refine eM call233 λF hF=>?_
  exact mx
 by_cases X:k=6
 .subst X;refine⟨⟨10,3,4,1,3,0⟩,true,⟨by decide,by decide,by decide,by decide,λh=>absurd h zB,λh=>absurd h zB,λh=>absurd h zB,λh=>absurd h zB⟩,?_⟩;unfold XI;refine eM call233 λF hF=>?_
  exact mx
 by_cases Y:k=7
 .subst Y;refine⟨⟨10,1,2,1,3,0⟩,true,⟨by decide,by decide,by decide,by decide,λh=>absurd h zB,λh=>absurd h zB,λh=>absurd h zB,λh=>absurd h zB⟩,?_⟩;unfold XI;refine eM call233 λF hF=>?_
  exact mx
 by_cases h8:k=8
 .subst h8;refine⟨⟨10,1,0,0,0,0⟩,true,⟨by decide,by decide,by decide,by decide,λh=>absurd h zB,λh=>absurd h zB,λh=>absurd h zB,λh=>absurd h zB⟩,?_⟩;unfold XI;refine eM call233 λF hF=>?_
  exact mx
 by_cases h9:k=9
 .subst h9;refine⟨⟨10,0,0,0,0,0⟩,true,⟨by decide,by decide,by decide,by decide,λh=>absurd h zB,λh=>absurd h zB,λh=>absurd h zB,λh=>absurd h zB⟩,?_⟩;unfold XI;refine eM call233 λF hF=>?_
  exact mx
 by_cases u:k=10
 .subst u;refine⟨⟨10,1,0,0,0,0⟩,true,⟨by decide,by decide,by decide,by decide,λh=>absurd h zB,λh=>absurd h zB,λh=>absurd h zB,λh=>absurd h zB⟩,?_⟩;unfold XI;refine eM call233 λF hF=>?_
  exact mx
 by_cases y:k=11
 .subst y;refine⟨⟨10,1,0,0,0,0⟩,true,⟨by decide,by decide,by decide,by decide,λh=>absurd h zB,λh=>absurd h zB,λh=>absurd h zB,λh=>absurd h zB⟩,?_⟩;unfold XI;refine eM call233 λF hF=>?_
  exact mx
 by_cases z:k=12
 .subst z;refine⟨⟨10,0,0,0,0,0⟩,true,⟨by decide,by decide,by decide,by decide,λh=>absurd h zB,λh=>absurd h zB,λh=>absurd h zB,λh=>absurd h zB⟩,?_⟩;unfold XI;refine eM call233 λF hF=>?_
  exact mx
 by_cases A:k=13
 .subst A;refine⟨⟨0,2,0,0,0,0⟩,true,⟨by decide,by decide,by decide,by decide,λh=>absurd h zB,λh=>absurd h zB,λh=>absurd h zB,λh=>absurd h zB⟩,?_⟩;unfold XI;refine eM call233 λF hF=>?_
  exact mx
 by_cases B:k=14
 .subst B;refine⟨⟨0,2,0,0,0,0⟩,true,⟨by decide,by decide,by decide,by decide,λh=>absurd h zB,λh=>absurd h zB,λh=>absurd h zB,λh=>absurd h zB⟩,?_⟩;unfold XI;refine eM call233 λF hF=>?_
  exact mx
 by_cases C:k=15
 .subst C;refine⟨⟨0,2,0,0,0,0⟩,true,⟨by decide,by decide,by decide,by decide,λh=>absurd h zB,λh=>absurd h zB,λh=>absurd h zB,λh=>absurd h zB⟩,?_⟩;unfold XI;refine eM call233 λF hF=>?_
  exact mx
 by_cases E:k=16
 .subst E;refine⟨⟨0,1,0,0,0,10⟩,true,⟨by decide,by decide,by decide,by decide,λh=>absurd h zB,λh=>absurd h zB,λh=>absurd h zB,λh=>absurd h zB⟩,?_⟩;unfold XI;refine eM call233 λF hF=>?_
  exact mx
 by_cases G:k=17
 .subst G;refine⟨⟨0,1,0,0,0,-1⟩,true,⟨by decide,by decide,by decide,by decide,λh=>absurd h zB,λh=>absurd h zB,λh=>absurd h zB,λh=>absurd h zB⟩,?_⟩;unfold XI;refine eM call233 λF hF=>?_
  exact mx
 by_cases I:k=18
 .subst I;refine⟨⟨0,1,3,0,16,0⟩,true,⟨by decide,by decide,by decide,by decide,λh=>absurd h zB,λh=>absurd h zB,λh=>absurd h zB,λh=>absurd h zB⟩,?_⟩;unfold XI;refine eM call233 λF hF=>?_
  exact mx
 by_cases L:k=19
 .subst L;refine⟨⟨0,0,2,0,4,0⟩,true,⟨by decide,by decide,by decide,by decide,λh=>absurd h zB,λh=>absurd h zB,λh=>absurd h zB,λh=>absurd h zB⟩,?_⟩;unfold XI;refine eM call233 λF hF=>?_
  exact mx
 by_cases M:k=20
 .subst M;refine⟨⟨0,4,0,0,0,0⟩,true,⟨by decide,by decide,by decide,by decide,λh=>absurd h zB,λh=>absurd h zB,λh=>absurd h zB,λh=>absurd h zB⟩,?_⟩;unfold XI;refine eM call233 λF hF=>?_
  exact mx
 by_cases O:k=21
 .subst O;refine⟨⟨0,1,0,0,0,-1⟩,true,⟨by decide,by decide,by decide,by decide,λh=>absurd h zB,λh=>absurd h zB,λh=>absurd h zB,λh=>absurd h zB⟩,?_⟩;unfold XI;refine eM call233 λF hF=>?_
  exact mx
 by_cases R:k=22
 .subst R;refine⟨⟨0,1,0,0,0,0⟩,true,⟨by decide,by decide,by decide,by decide,λh=>absurd h zB,λh=>absurd h zB,λh=>absurd h zB,λh=>absurd h zB⟩,?_⟩;unfold XI;refine eM call233 λF hF=>?_
  exact mx
 refine⟨⟨0,0,0,0,0,0⟩,false,⟨by decide,by decide,by decide,by decide,λh=>absurd h h2,λh=>absurd h S,λh=>absurd h U,λh=>absurd h V⟩,?_⟩;unfold XI;refine eM call233 λF hF=>?_
 exact mx
theorem bo (s:Aw) (I:s.g=0\/s.g=2\/s.g=3\/s.g=4) (L:0<=s.f/\s.f<=4) (n:Int) (M:0<=n/\n<=1000000):∃(y:Int) (G:Bool),(-1000000<=y/\y<=1000000)/\(s.g=0->y=0/\G=decide (n=s.f))/\zO 234 [XI s,iA n] [] (.tup [iA y,bA G]) []:=by
 obtain⟨t,f,g,lo,hi,z⟩:=s;dsimp only at *;rw[show XI ⟨t,f,g,lo,hi,z⟩= .agg [iA t,iA f,iA g,iA lo,iA hi,iA z]from Z]
 rcases I with rfl|rfl|rfl|rfl
 .by_cases h:n=f
  .refine⟨0,true,zB,λ_=>⟨rfl,(zAc h).symm⟩,?_⟩;refine eM call234 λF hF=>?_
   exact mx
  .refine⟨0,false,zB,λ_=>⟨rfl,(zAb h).symm⟩,?_⟩;refine eM call234 λF hF=>?_
   exact mx
 .by_cases h1:n-f<0
  .refine⟨0,false,zB,λh=>absurd h xG,?_⟩;refine eM call234 λF hF=>?_
   exact mx
  have hb:0<=(n-f).tdiv 2/\(n-f).tdiv 2<=1000000:=by
   rw[zCc zB];omega
  have E:bZ .i64 ((n-f).tdiv 2):=by
   unfold bZ;have e1:IntKind.i64.min= -9223372036854775808:=by decide
   have A:IntKind.i64.max=9223372036854775807:=by decide
   omega
  by_cases h2:(n-f).tmod 2=0
  case neg=>
   refine⟨0,false,zB,λh=>absurd h xG,?_⟩;refine eM call234 λF hF=>?_
   exact mx
  generalize u:(n-f).tmod 2=m at *;by_cases B:lo<=(n-f).tdiv 2
  case neg=>
   refine⟨(n-f).tdiv 2,false,zB,λh=>absurd h xG,?_⟩;subst u;refine eM call234 λF hF=>?_
   exact mx
  by_cases C:(n-f).tdiv 2<=hi
  .refine⟨(n-f).tdiv 2,true,zB,λh=>absurd h xG,?_⟩;subst u;refine eM call234 λF hF=>?_
   exact mx
  .refine⟨(n-f).tdiv 2,false,zB,λh=>absurd h xG,?_⟩;subst u;refine eM call234 λF hF=>?_
   exact mx
 .by_cases h1:n-f<0
  .refine⟨0,false,zB,λh=>absurd h xG,?_⟩;refine eM call234 λF hF=>?_
   exact mx
  have hb:0<=(n-f).tdiv 3/\(n-f).tdiv 3<=1000000:=by
   rw[zCc zB];omega
  have E:bZ .i64 ((n-f).tdiv 3):=by
   unfold bZ;have e1:IntKind.i64.min= -9223372036854775808:=by decide
   have A:IntKind.i64.max=9223372036854775807:=by decide
   omega
  by_cases h2:(n-f).tmod 3=0
  case neg=>
   refine⟨0,false,zB,λh=>absurd h xG,?_⟩;refine eM call234 λF hF=>?_
   exact mx
  generalize u:(n-f).tmod 3=m at *;by_cases B:lo<=(n-f).tdiv 3
  case neg=>
   refine⟨(n-f).tdiv 3,false,zB,λh=>absurd h xG,?_⟩;subst u;refine eM call234 λF hF=>?_
   exact mx
  by_cases C:(n-f).tdiv 3<=hi
  .refine⟨(n-f).tdiv 3,true,zB,λh=>absurd h xG,?_⟩;subst u;refine eM call234 λF hF=>?_
   exact mx
  .refine⟨(n-f).tdiv 3,false,zB,λh=>absurd h xG,?_⟩;subst u;refine eM call234 λF hF=>?_
   exact mx
 .by_cases h1:n-f<0
  .refine⟨0,false,zB,λh=>absurd h xG,?_⟩;refine eM call234 λF hF=>?_
   exact mx
  have hb:0<=(n-f).tdiv 4/\(n-f).tdiv 4<=1000000:=by
   rw[zCc zB];omega
  have E:bZ .i64 ((n-f).tdiv 4):=by
   unfold bZ;have e1:IntKind.i64.min= -9223372036854775808:=by decide
   have A:IntKind.i64.max=9223372036854775807:=by decide
   omega
  by_cases h2:(n-f).tmod 4=0
  case neg=>
   refine⟨0,false,zB,λh=>absurd h xG,?_⟩;refine eM call234 λF hF=>?_
   exact mx
  generalize u:(n-f).tmod 4=m at *;by_cases B:lo<=(n-f).tdiv 4
  case neg=>
   refine⟨(n-f).tdiv 4,false,zB,λh=>absurd h xG,?_⟩;subst u;refine eM call234 λF hF=>?_
   exact mx
  by_cases C:(n-f).tdiv 4<=hi
  .refine⟨(n-f).tdiv 4,true,zB,λh=>absurd h xG,?_⟩;subst u;refine eM call234 λF hF=>?_
   exact mx
  .refine⟨(n-f).tdiv 4,false,zB,λh=>absurd h xG,?_⟩;subst u;refine eM call234 λF hF=>?_
   exact mx
def QN (l:List Int) (hl:ln l<=1073741824):zO 88 [zE yA l] [] (.ref 1001 0 (l.map yA).length) [(1001,.arr 1 (l.map yA) false)]:=by
 have u:=zA yA l;refine eM call88 λF hF=>?_
 refine xW 0 Z (λcap hx=>?_) ?_
 .have:l=[]:=by simpa using hx
  subst this
  (repeat' (first|refine Ze ?_|apply yY|apply xN|intro hc|fail))
  refine uN 2 1001 1 Z Z Z (xP ?_);exact zV [1001] Z Z Z Z
 .repeat' (first|(apply zG;first|refine vT tok Z Z ?_|(apply vE;refine wO (xQ tok (.inl ⟨rfl,rfl⟩) Z Z Z Z) Z ?_)|(apply yL;refine qH (nw:=[1001]) (xD tok 1001 (xs:=[]) Z Z Z Z Z Z Z Z Z) Z Z Z ?_)|(apply yI;refine wU tok Z Z Z Z Z Z Z (yG _ _ (λ_=>rfl)) Z Z Z zB Z ?_)|apply qV)|(first|apply wF|apply wB|refine uW Z ?_|refine yT Z ?_|refine yH Z ?_|refine wL Z (λhc=>?_) λhc=>?_|apply xO|apply xP|apply wA|apply xE))
  exact zV [1001] Z Z Z Z
def yi (n:Int):Bool:=decide (0<=n/\n<=4294967295)
def Le (n:Int):wo n=if yi n=true then 0 else 8:=by grind [wo,yi]
def ao (s:Aw) (u:Int) (tok args:List Int):Nat->List Int
 |0=>tok
 |i+1=>(if(i:Int)=s.f/\0<s.g then ao s u tok args i++RN u else ao s u tok args i)++RN (args.getD i dd)
def C6 (s:Aw) (u:Int) (tok args:List Int) (i:Nat):List Int:=if(i:Int)=s.f/\0<s.g then ao s u tok args i++RN u else ao s u tok args i
theorem FI (s:Aw) (u:Int) (tok args:List Int):∀i,(ao s u tok args i).length<=ln tok+12*i
 |0=>by show (ln tok)<=_;omega
 |i+1=>by
  have:=FI s u tok args i;have h1:=aP u;have h2:=aP (args.getD i dd);unfold ao
  split<;>simp only[zAf]<;>omega
def Au (s:Aw) (u:Int) (tok args:List Int) (i:Nat):(C6 s u tok args i).length<=ln tok+12*i+6:=by grind [C6,FI,aP,List.length_append]
theorem mo (args:List Int):∀n,n<=ln args->(∃k,k<n/\yi (args.getD k dd)=false/\∀i,i<k->yi (args.getD i dd)=true)\/(∀i,i<n->yi (args.getD i dd)=true)
 |0,_=> .inr λi hi=>absurd hi (zBa _)
 | n+1,y=>by
  rcases mo args n zB with⟨k,h1,h2,u⟩|h
  .exact .inl ⟨k,zB,h2,u⟩
  .cases hb:yi (args.getD n dd)with
   |true=>
    refine .inr λi hi=>?_
    by_cases e:i=n
    .subst e;exact hb
    .exact h i zB
   |false=>exact .inl ⟨n,zB,hb,h⟩
structure N1 (m:Ms):Prop where
 t:m.tok.length<=1000
 a:m.args.length<=1000
 d:m.data.length<=1000
theorem Zo (m:Ms) (hm:N1 m):∃(xs:List AV) (e:Int),(e=0\/e=6)/\zO 185 [yO m] [] (.tup [.sl false xs,iA e]) []/\(∀f:Nat,(m.kind=2/\f=3)\/(m.kind=3/\f=1)\/(m.kind=4/\f=2)\/(m.kind=5/\f=1)->(e=0↔(ln m.tok=10/\m.data=[]/\m.args.length=f/\∀i,i<f->yi (m.args.getD i dd)=true))):=by
 obtain⟨s,ok,hs,c1⟩:=Bu m.kind;obtain⟨S,bl,bs,au,c2⟩:=bo s hs.g hs.f ((m.args.map iA).length:Int) (by have:=hm.a;simp;omega);have c3:=QN m.tok (by have:=hm.t;omega);have b1:=hm.t;have b2:=hm.a;have b3:=hm.d;have b4:=zA yA m.tok;have bx:=zA iA m.args;have bz:=zA yA m.data
 have hq:∀f:Nat,(m.kind=2/\f=3)\/(m.kind=3/\f=1)\/(m.kind=4/\f=2)\/(m.kind=5/\f=1)->s.t=10/\s.f=f/\s.g=0/\s.da=0/\ok=true:=λf hf=>by
  rcases hf with⟨h,rfl⟩|⟨h,rfl⟩|⟨h,rfl⟩|⟨h,rfl⟩
  .obtain⟨e1,e2⟩:=hs.k2 h;subst e1;exact⟨rfl,rfl,rfl,rfl,e2⟩
  .obtain⟨e1,e2⟩:=hs.k3 h;subst e1;exact⟨rfl,rfl,rfl,rfl,e2⟩
  .obtain⟨e1,e2⟩:=hs.k4 h;subst e1;exact⟨rfl,rfl,rfl,rfl,e2⟩
  .obtain⟨e1,e2⟩:=hs.k5 h;subst e1;exact⟨rfl,rfl,rfl,rfl,e2⟩
 have b8:=hs.t;have b6:=hs.f;have b7:=hs.g;have b5:=hs.da;clear hs;obtain⟨mk,tk,u,da⟩:=m;dsimp only at *;rw[show yO ⟨mk,tk,u,da⟩= .agg [iA mk,zE yA tk,zE iA u,zE yA da]from Z];have O:=FI s S tk u;have I:=Au s S tk u;have ag:ao s S tk u 0=tk:=rfl
 have L:∀i:Nat,C6 s S tk u i=if(i:Int)=s.f/\0<s.g then ao s S tk u i++RN S else ao s S tk u i:=λ_=>rfl
 have M:∀i:Nat,ao s S tk u (i+1)=C6 s S tk u i++RN (u.getD i dd):=λ_=>rfl
 generalize C6 s S tk u=X,ao s S tk u=R at *;obtain⟨st,sf,sg,bd,bb,ap⟩:=s;dsimp only at *;rw[show XI ⟨st,sf,sg,bd,bb,ap⟩= .agg [iA st,iA sf,iA sg,iA bd,iA bb,iA ap]from Z]at*
 cases ok with
 |false=>
  refine⟨[],6,.inr Z,?_,λf hf=>⟨λh=>absurd h xG,λh=>absurd (hq f hf).2.2.2.2 xG⟩⟩;clear O I L M hq;refine eM call185 λF hF=>?_
  exact nl c1
 |true=>
 by_cases h1:(ln tk:Int)=st
 case neg=>
  refine⟨[],6,.inr Z,?_,λf hf=>⟨λh=>absurd h xG,λh=>absurd (show(ln tk:Int)=st by have:=(hq f hf).1;omega) h1⟩⟩;clear O I L M hq;refine eM call185 λF hF=>?_
  exact nl c1
 by_cases h2:ap= -1\/(ln da:Int)=ap
 case neg=>
  have br:¬ap= -1:=λh=>h2 (.inl h)
  have bf:¬(ln da:Int)=ap:=λh=>h2 (.inr h)
  refine⟨[],6,.inr Z,?_,λf hf=>⟨λh=>absurd h xG,λh=>absurd (show(ln da:Int)=ap by have:=(hq f hf).2.2.2.1;rw[h.2.1];simp;omega) bf⟩⟩;clear O I L M hq h2;refine eM call185 λF hF=>?_
  exact nl c1
 cases bl with
 | false=>
  refine⟨[],6,.inr Z,?_,λf hf=>⟨λh=>absurd h xG,λh=>?_⟩⟩
  case refine_2=>
   obtain⟨q1,q2,q3,q4,_⟩:=hq f hf;have h5:=(au q3).2;rw[zAc (show((u.map iA).length:Int)=sf by omega)]at h5;cases h5
  clear O I L M hq
  rcases h2 with h2|h2
  all_goals
   (refine eM call185 λF hF=>?_)
   exact ng (xH c1 c2)
 |true=>
 by_cases h3:(ln da:Int)<=200
 case neg=>
  refine⟨[],6,.inr Z,?_,λf hf=>⟨λh=>absurd h xG,λh=>absurd (show(ln da:Int)<=200 by rw[h.2.1];simp) h3⟩⟩;clear O I L M hq
  rcases h2 with h2|h2
  all_goals
   (refine eM call185 λF hF=>?_)
   exact ng (xH c1 c2)
 have cg:=FH S;have b0:=zA yA (RN S);have b9:=aP S
 rcases mo u (ln u) (zAe _)with⟨k,bu,a1,a6⟩|Y
 .refine⟨[],6,.inr Z,?_,λf hf=>⟨λh=>absurd h xG,λh=>?_⟩⟩
  case refine_2=>
   have:=h.2.2.2 k zB;rw[a1]at this;cases this
  clear hq au;have z:∀i,i<k->wo (u.getD i dd)=0:=λi hi=>by rw[Le,a6 i hi,Os Z]
  have av:wo (u.getD k dd)=8:=by rw[Le,a1,hW zAs]
  clear a1 a6
  rcases h2 with h2|h2
  all_goals
   refine eM call185 λF hF=>?_
   refine yB (qS c1 c2 c3) ?_
  all_goals
   refine vY 1001 Z ?_;refine zZ (ln u+1) [1001,1,4] [1,4] [1,4,6,64] [7,65,1,4,6,64] Z (λi T U zs=>(i<=k)/\zs=⟨(7,.ref 1001 0 ((R i).map yA).length)::(65,iA i)::T,(1001,.arr 1 ((R i).map yA) true)::U⟩) (Lp ?_ ?_ ?_)
   .refine⟨zAn _,?_⟩;rw[ag];rfl
   .rintro i st' hi ⟨hik,rfl⟩;have cv:=FH (u.getD i dd);have hy:=zJ iA u i zB;have a4:=O i;have a3:=I i;have hg:=L i;have hS:=M i;have a7:=zA yA (R i);have a8:=zA yA (RN (u.getD i dd));have a9:=aP (u.getD i dd)
    have a2:(i<k/\wo (u.getD i dd)=0)\/(i=k/\wo (u.getD i dd)=8):=by
     by_cases e:i=k
     .subst e;exact .inr ⟨rfl,av⟩
     .exact .inl ⟨zB,z i zB⟩
    have ac:(R (i+1)).map yA=(X i).map yA++(RN (u.getD i dd)).map yA:=by rw[hS,zAd]
    have y:(X i).map yA=if(i:Int)=sf/\0<sg then(R i).map yA++(RN S).map yA else(R i).map yA:=by
     rw[hg];split
     .rw[zAd]
     .rfl
    rw[ac];clear hS hg O I L M ag ac c1 c2 c3 z av;generalize (R i).map yA=A,(X i).map yA=B,RN (u.getD i dd)=V,wo (u.getD i dd)=ve at *;generalize u.getD i dd=a at *;generalize RN S=W at *;by_cases C:(i:Int)=sf
    .by_cases G:0<sg
     .rw[Os ⟨C,G⟩]at y;subst y
      rcases a2 with⟨ax,rfl⟩|⟨ax,rfl⟩
      ·(refine yB (xH cg cv) ?_)
       exact⟨zB,rfl⟩
      .exact ng (xH cg cv)
     .rw[hW (λh=>G h.2)]at y;subst y
      rcases a2 with⟨ax,rfl⟩|⟨ax,rfl⟩
      ·(refine zP cv ?_)
       exact⟨zB,rfl⟩
      .exact nl cv
    .rw[hW (λh=>C h.1)]at y;subst y
     rcases a2 with⟨ax,rfl⟩|⟨ax,rfl⟩
     ·(refine zP cv ?_)
      exact⟨zB,rfl⟩
     .exact nl cv
   .rintro st' ⟨hik,rfl⟩;exfalso;omega
 .have a5:=I (ln u);by_cases hz:((X (ln u)).map yA++da.map yA).length<=200
  case neg=>
   refine⟨[],6,.inr Z,?_,λf hf=>⟨λh=>absurd h xG,λh=>?_⟩⟩
   case refine_2=>
    exfalso;apply hz;have e1:=h.1;have e2:=h.2.1;have e3:=h.2.2.1;have e4:f<=3:=by omega
    rw[zAf,f7,f7,e2];simp only[zBq];omega
   clear hq au;have z:∀i,i<ln u->wo (u.getD i dd)=0:=λi hi=>by rw[Le,Y i hi,Os Z]
   clear Y
   rcases h2 with h2|h2
   all_goals
    refine eM call185 λF hF=>?_
    refine yB (qS c1 c2 c3) ?_
   all_goals
    refine vY 1001 Z ?_;refine zZ (ln u+1) [1001,1,4] [1,4] [1,4,6,64] [7,65,1,4,6,64] Z (λi T U zs=>(i<=ln u)/\zs=⟨(7,.ref 1001 0 ((R i).map yA).length)::(65,iA i)::T,(1001,.arr 1 ((R i).map yA) true)::U⟩) (Lp ?_ ?_ ?_)
    .refine⟨zAn _,?_⟩;rw[ag];rfl
    .rintro i st' hi ⟨hik,rfl⟩;have a4:=O i;have a3:=I i;have hg:=L i;have a7:=zA yA (R i);have bk:=zA yA (X i)
     have y:(X i).map yA=if(i:Int)=sf/\0<sg then(R i).map yA++(RN S).map yA else(R i).map yA:=by
      rw[hg];split
      .rw[zAd]
      .rfl
     by_cases az:i=ln u
     .subst az;clear M hg O I L ag c1 c2 c3 z;generalize (R (ln u)).map yA=A at *;generalize (X (ln u)).map yA=B at *;generalize RN S=W at *;by_cases C:(ln u:Int)=sf
      .by_cases G:0<sg
       .rw[Os ⟨C,G⟩]at y;subst y;exact nl cg
       .rw[hW (λh=>G h.2)]at y;subst y;exact mx
      .rw[hW (λh=>C h.1)]at y;subst y;exact mx
     have cv:=FH (u.getD i dd);rw[z i zB]at cv;have hy:=zJ iA u i zB;have hS:=M i;have a8:=zA yA (RN (u.getD i dd));have a9:=aP (u.getD i dd);have ac:(R (i+1)).map yA=(X i).map yA++(RN (u.getD i dd)).map yA:=by rw[hS,zAd]
     rw[ac];clear hS hg O I L M ag ac c1 c2 c3 z hz a5;generalize (X (ln u)).map yA=E,(R i).map yA=A,(X i).map yA=B,RN (u.getD i dd)=V at *;generalize u.getD i dd=a at *;generalize RN S=W at *;by_cases C:(i:Int)=sf
     .by_cases G:0<sg
      .rw[Os ⟨C,G⟩]at y;subst y;refine yB (xH cg cv) ?_;exact⟨zB,rfl⟩
      .rw[hW (λh=>G h.2)]at y;subst y;refine zP cv ?_;exact⟨zB,rfl⟩
     .rw[hW (λh=>C h.1)]at y;subst y;refine zP cv ?_;exact⟨zB,rfl⟩
    .rintro st' ⟨hik,rfl⟩;exfalso;omega
  refine⟨((X (ln u)).map yA++da.map yA).take ((X (ln u)).map yA++da.map yA).length,0,.inl Z,?_,λf hf=>⟨λ_=>?_,λ_=>rfl⟩⟩
  case refine_2=>
   obtain⟨q1,q2,q3,q4,_⟩:=hq f hf;have h5:=zD5 (au q3).2.symm;refine⟨zB,zA5 zB,zB,λi hi=>Y i zB⟩
  clear hq au;have z:∀i,i<ln u->wo (u.getD i dd)=0:=λi hi=>by rw[Le,Y i hi,Os Z]
  clear Y
  rcases h2 with h2|h2
  all_goals
   refine eM call185 λF hF=>?_
   refine yB (qS c1 c2 c3) ?_
  all_goals
   refine vY 1001 Z ?_;refine zZ (ln u+1) [1001,1,4] [1,4] [1,4,6,64] [7,65,1,4,6,64] Z (λi T U zs=>(i<=ln u)/\zs=⟨(7,.ref 1001 0 ((R i).map yA).length)::(65,iA i)::T,(1001,.arr 1 ((R i).map yA) true)::U⟩) (Lp ?_ ?_ ?_)
   .refine⟨zAn _,?_⟩;rw[ag];rfl
   .rintro i st' hi ⟨hik,rfl⟩;have a4:=O i;have a3:=I i;have hg:=L i;have a7:=zA yA (R i);have bk:=zA yA (X i)
    have y:(X i).map yA=if(i:Int)=sf/\0<sg then(R i).map yA++(RN S).map yA else(R i).map yA:=by
     rw[hg];split
     .rw[zAd]
     .rfl
    by_cases az:i=ln u
    .subst az;clear M hg O I L ag c1 c2 c3 z;generalize (R (ln u)).map yA=A at *;generalize (X (ln u)).map yA=B at *;generalize RN S=W at *;by_cases C:(ln u:Int)=sf
     .by_cases G:0<sg
      .rw[Os ⟨C,G⟩]at y;subst y;exact nl cg
      .rw[hW (λh=>G h.2)]at y;subst y;exact mx
     .rw[hW (λh=>C h.1)]at y;subst y;exact mx
    have cv:=FH (u.getD i dd);rw[z i zB]at cv;have hy:=zJ iA u i zB;have hS:=M i;have a8:=zA yA (RN (u.getD i dd));have a9:=aP (u.getD i dd);have ac:(R (i+1)).map yA=(X i).map yA++(RN (u.getD i dd)).map yA:=by rw[hS,zAd]
    rw[ac];clear hS hg O I L M ag ac c1 c2 c3 z hz a5;generalize (X (ln u)).map yA=E,(R i).map yA=A,(X i).map yA=B,RN (u.getD i dd)=V at *;generalize u.getD i dd=a at *;generalize RN S=W at *;by_cases C:(i:Int)=sf
    .by_cases G:0<sg
     .rw[Os ⟨C,G⟩]at y;subst y;refine yB (xH cg cv) ?_;exact⟨zB,rfl⟩
     .rw[hW (λh=>G h.2)]at y;subst y;refine zP cv ?_;exact⟨zB,rfl⟩
    .rw[hW (λh=>C h.1)]at y;subst y;refine zP cv ?_;exact⟨zB,rfl⟩
   .rintro st' ⟨hik,rfl⟩;exfalso;omega
def zv (k:Int) (f:Nat):Prop:=(k=2/\f=3)\/(k=3/\f=1)\/(k=4/\f=2)\/(k=5/\f=1)
def j8 (m:Ms) (f:Nat):Prop:=ln m.tok=10/\m.data=[]/\m.args.length=f/\∀i,i<f->yi (m.args.getD i dd)=true
def Yo (m:Ms) (z:N1 m):∃b:Bool,zO 123 [yO m] [] (bA b) []/\∀f,zv m.kind f->(b=true↔j8 m f):=by
 obtain⟨xs,e,y,c,h⟩:=Zo m z
 rcases y with rfl|rfl
 .refine⟨true,?_,λf u=>⟨λ_=>(h f u).1 Z,λ_=>rfl⟩⟩;clear h;refine eM call123 λF hF=>?_
  exact nl c
 .refine⟨false,?_,λf u=>⟨λh1=>absurd h1 zAs,λh1=>absurd ((h f u).2 h1) xG⟩⟩;clear h;refine eM call123 λF hF=>?_
  exact nl c
def BZ:Nat->Int->List Int
 |0,n=>[n]
 |z+1,n=>if 128<=n then(n % 128+128)::BZ z (n/128)else [n]
theorem OL:∀z n,(BZ z n).length<=z+1
 |0,n=>zAe _
 |z+1,n=>by
  unfold BZ;split
  .have:=OL z (n/128);simp only[zAp];omega
  .simp
def yv (z:Nat) (n:Int) (h:n<128):BZ z n=[n]:=by
 cases z with
 |zero=>rfl
 |succ z=>unfold BZ;rw[hW zB]
def Xo:Nat->Int->Int
 |0,_=>0
 |z+1,n=>if 128<=n then 1+Xo z (n/128)else 0
theorem FJ:∀z n,0<=Xo z n/\Xo z n<=z
 |0,n=>⟨zCi _,zCi _⟩
 |z+1,n=>by
  unfold Xo;split
  .have:=FJ z (n/128);omega
  .omega
def wv (z:Nat) (n:Int) (h:n<128):Xo z n=0:=by
 cases z with
 |zero=>rfl
 |succ z=>unfold Xo;rw[hW zB]
def Wo (x:Int) (u:0<=x) (h1:x<=4294967295):x.tdiv 128=x/128/\bZ .i64 (x.tdiv 128):=by grind [bZ]
def vv (n:Int) (h1:0<=n) (h2:n<=4294967295):∃k:Int,1<=k/\zO 201 [iA n] [] (iA k) []:=by
 refine⟨1+Xo 5 n,by have:=FJ 5 n;omega,?_⟩;have E:=FJ 5 n;refine eM call201 λF hF=>?_
 refine WW ?_;refine fH (5) [] [] [] [0,3] Z (λy T U G=>∃(x:Int) (k:Int),(0<=x/\x<=4294967295/\x<P7 y*128/\k+Xo y x=1+Xo 5 n/\1<=k)/\G=⟨(0,iA x)::(3,iA k)::T,U⟩) ?_;(conv=>whnf);refine⟨?_,?_⟩
 .exact⟨n,1,⟨h1,h2,by show n<34359738368*128;omega,rfl,zCi _⟩,rfl⟩
 .rintro y st ⟨x,k,⟨b1,b1',b2,b3,b4⟩,rfl⟩;by_cases hx:128<=x
  .have L:y≠0:=λe=>by
    subst e;have:P7 0=1:=rfl;omega
   obtain⟨z,rfl⟩:∃z,y=z+1:=⟨y-1,zB⟩;obtain⟨e,I⟩:=Wo x b1 b1';have B:P7 (z+1)=128*P7 z:=rfl
   have A:Xo (z+1) x=1+Xo z (x/128):=by
    show(if 128<=x then _ else _)=_
    rw[Os hx]
   rw[A,<-e]at b3;have u:0<=x.tdiv 128/\x.tdiv 128<=4294967295/\x.tdiv 128<P7 z*128:=by rw[e];rw[B]at b2;omega
   have C:=FJ z (x.tdiv 128);clear A B e b2;refine WW ?_;exact⟨z,zB,x.tdiv 128,k+1,⟨u.1,u.2.1,u.2.2,zB,zB⟩,rfl⟩
  .rw[wv y x zB,Int.add_zero]at b3;rw[<-b3];exact mx
def M1 (n:Int) (h1:0<=n) (h2:n<=4294967295):zO 143 [iA n] [] (.tup [zE yA (BZ 5 n),iA 0]) []:=by
 obtain⟨k,hk,c⟩:=vv n h1 h2;refine eM call143 λF hF=>?_
 refine zP c ?_;refine zW 4 1001 1 Z Z Z ?_;refine fH (5) [1001] [] [] [0,4] Z (λA T U S=>∃(u:List Int) (x:Int),(0<=x/\x<=4294967295/\x<P7 A*128/\u++BZ A x=BZ 5 n/\u.length<=100)/\S=⟨(0,iA x)::(4,.ref 1001 0 (u.map yA).length)::T,(1001,.arr 1 (u.map yA) true)::U⟩) ?_;(conv=>whnf);refine⟨?_,?_⟩
 .exact⟨[],n,⟨h1,h2,by show n<34359738368*128;omega,rfl,by simp⟩,rfl⟩
 .rintro A st ⟨u,x,⟨b1,b1',b2,b3,b4⟩,rfl⟩;have O:=zA yA u;by_cases hx:128<=x
  .have X:A≠0:=λe=>by
    subst e;have:P7 0=1:=rfl;omega
   obtain⟨z,rfl⟩:∃z,A=z+1:=⟨A-1,zB⟩;obtain⟨e,W⟩:=Wo x b1 b1';have B:=zBi (a:=x) (b:=128) b1;have L:P7 (z+1)=128*P7 z:=rfl
   have I:BZ (z+1) x=(x % 128+128)::BZ z (x/128):=by
    show(if 128<=x then _ else _)=_
    rw[Os hx]
   rw[I]at b3;have G:(u++[x.tmod 128+128]).map yA=u.map yA++[yA (x.tmod 128+128)]:=by simp
   have C:u++[x.tmod 128+128]++BZ z (x.tdiv 128)=BZ 5 n:=by rw[e,B,zA2];exact b3
   have R:0<=x.tmod 128/\x.tmod 128<=127:=by rw[B];omega
   have y:0<=x.tdiv 128/\x.tdiv 128<=4294967295/\x.tdiv 128<P7 z*128:=by rw[e];rw[L]at b2;omega
   have E:ln u+1<=100:=by
    have M:=zAt List.length b3;have V:=OL 5 n;simp only[zAf,zAp]at M;omega
   clear I b3 L e B;refine WW ?_;exact⟨z,zB,u++[x.tmod 128+128],x.tdiv 128,⟨y.1,y.2.1,y.2.2,C,by simpa using E⟩,by rw[G];rfl⟩
  .rw[yv A x zB]at b3;rw[<-b3];have G:zE yA (u++[x])= .sl false ((u.map yA++[yA (x)]).take (u.map yA++[yA (x)]).length):=by rw[zAa];unfold zE;rw[zAd];rfl
   rw[G];exact mx
def uv (tok args:List Int):Nat->List Int
 |0=>tok
 |i+1=>uv tok args i++BZ 5 (args.getD i dd)
theorem Ke (tok args:List Int):∀i,(uv tok args i).length<=ln tok+6*i
 |0=>by show (ln tok)<=_;omega
 |i+1=>by
  have:=Ke tok args i;have h2:=OL 5 (args.getD i dd);unfold uv;simp only[zAf];omega
def K9 (f:Int):AV:= .agg [iA f,iA 0,iA 0,iA 0,iA 0]
def Vo (k:Int) (f:Nat) (u:zv k f):zO 141 [iA k] [] (K9 f) []:=by
 rcases u with⟨rfl,rfl⟩|⟨rfl,rfl⟩|⟨rfl,rfl⟩|⟨rfl,rfl⟩
 all_goals
  refine eM call141 λF hF=>?_
  exact mx
def qv (k:Int) (h1:1<=k) (h2:k<=12):zO 142 [iA k] [] (bA true) []:=by
 refine eM call142 λF hF=>?_
 exact mx
def dv (m:Ms) (f:Nat) (R:zv m.kind f) (h:j8 m f):∃xs:List AV,ln xs<=200/\zO 70 [yO m] [] (.sl false xs) []:=by
 obtain⟨h1,h2,Y,M⟩:=h;have L:=Vo m.kind f R;have ac:f<=3/\1<=f:=by unfold zv at R;omega
 obtain⟨W,y,u,da⟩:=m;dsimp only at *;subst h2;have E:=Ke y u;refine⟨((uv y u f).map yA++[]).take ((uv y u f).map yA++[]).length,by have:=E f;simp;omega,?_⟩;have au:=zA yA y;have ap:=zA iA u;have B:uv y u 0=y:=rfl;have C:∀i:Nat,uv y u (i+1)=uv y u i++BZ 5 (u.getD i dd):=λ_=>rfl
 generalize uv y u=z at *;rw[show yO ⟨W,y,u,[]⟩= .agg [iA W,zE yA y,zE iA u,zE yA []]from Z];rw[show K9 f= .agg [iA f,iA 0,iA 0,iA 0,iA 0]from Z]at L;clear R;refine eM call70 λF hF=>?_
 (have gt:=L;(repeat' (first|refine qU ?_|apply yY|apply xN|intro hc|(apply zG;first|(apply yI;refine xB 1001 tok Z Z Z Z Z Z (yG _ _ (λ_=>rfl)) Z Z Z zB Z Z Z ?_))|fail))<;>clear gt)
 refine vY 1001 Z ?_;refine zZ (ln u) [1001,1,3] [1,3] [1,3,16,17] [4,18,1,3,16,17] Z (λi T U zs=>(i<=ln u)/\zs=⟨(4,.ref 1001 0 ((z i).map yA).length)::(18,iA i)::T,(1001,.arr 1 ((z i).map yA) true)::U⟩) (Lp ?_ ?_ ?_)
 .refine⟨zAn _,?_⟩;rw[B];rfl
 .rintro i st' hi ⟨hik,rfl⟩;have I:=M i zB;unfold yi at I;rw[zAg]at I;have X:=M1 (u.getD i dd) I.1 I.2;have hy:=zJ iA u i hi;have O:=E i;have S:=zA yA (z i);have av:=zA yA (BZ 5 (u.getD i dd));have ax:=OL 5 (u.getD i dd);have G:(z (i+1)).map yA=(z i).map yA++(BZ 5 (u.getD i dd)).map yA:=by rw[C,zAd]
  rw[G];clear C E B G L I M;generalize (z i).map yA=A,BZ 5 (u.getD i dd)=V at *;generalize u.getD i dd=a at *;refine zP X ?_;exact⟨zB,rfl⟩
 .rintro st' ⟨hik,rfl⟩;subst Y;have O:=E (ln u);have S:=zA yA (z (ln u));clear C E B M L;generalize (z (ln u)).map yA=A at *;have ag:(([]:List Int).map yA).length=0:=rfl;exact mx
def bh (m:Ms) (M:N1 m) (f:Nat) (L:zv m.kind f):∃b:Bool,zO 69 [yO m] [] (bA b) []/\(b=true↔j8 m f):=by
 have B:=Vo m.kind f L;have hk:2<=m.kind/\m.kind<=5:=by unfold zv at L;omega
 have E:=qv m.kind zB zB;have C:=dv m f L;have b1:=M.t;have b2:=M.a;have b3:=M.d;have ag:=zA yA m.tok;have Y:=zA iA m.args;have ac:=zA yA m.data;have W:f<=3/\1<=f:=by unfold zv at L;omega
 rw[show K9 f= .agg [iA f,iA 0,iA 0,iA 0,iA 0]from Z]at B;by_cases h1:ln m.tok=10
 case neg=>
  refine⟨false,?_,λh=>absurd h zAs,λh=>absurd h.1 h1⟩;clear C;refine eM call69 λF hF=>?_
  exact ng (xH B E)
 by_cases h2:ln m.args=f
 case neg=>
  refine⟨false,?_,λh=>absurd h zAs,λh=>absurd h.2.2.1 h2⟩;clear C;refine eM call69 λF hF=>?_
  exact ng (xH B E)
 by_cases I:ln m.data=0
 case neg=>
  refine⟨false,?_,λh=>absurd h zAs,λh=>absurd (by rw[h.2.1];rfl) I⟩;clear C;refine eM call69 λF hF=>?_
  exact ng (xH B E)
 have I:=zA5 I
 rcases mo m.args (ln m.args) (zAe _)with⟨k,X,u,G⟩|y
 .refine⟨false,?_,λh=>absurd h zAs,λh=>?_⟩
  case refine_2=>
   have:=h.2.2.2 k zB;rw[u]at this;cases this
  clear C;refine eM call69 λF hF=>?_
  refine yB (xH B E) ?_;refine zZ (ln m.args) [1] [1] [1,97,98] [99,1,97,98] Z (λi T U zs=>(i<=k)/\zs=⟨(99,iA i)::T,U⟩) (Lp ?_ ?_ ?_)
  .exact⟨zAn _,rfl⟩
  .rintro i st' hi ⟨hik,rfl⟩;have hy:=zJ iA m.args i hi;by_cases e:i=k
   .subst e;unfold yi at u;rw[zAz]at u;generalize m.args.getD i dd=a at *;by_cases V:0<=a
    .have g2:¬a<=4294967295:=λh=>u ⟨V,h⟩
     clear u;exact mx
    .clear u;exact mx
   .have z:=G i zB;unfold yi at z;rw[zAg]at z;obtain⟨O,R⟩:=z;clear u G;generalize m.args.getD i dd=a at *;refine WW ?_;exact⟨zB,rfl⟩
  .rintro st' ⟨hik,rfl⟩;exfalso;omega
 .have A:j8 m f:=⟨h1,I,h2,λi hi=>y i zB⟩;obtain⟨xs,hx,S⟩:=C A;refine⟨true,?_,λ_=>A,λ_=>rfl⟩;clear A C;rw[show yO m= .agg [iA m.kind,zE yA m.tok,zE iA m.args,zE yA m.data]from Z]at *; refine eM call69 λF hF=>?_
  refine yB (xH B E) ?_;refine zM (ln m.args) [1] [1] [1,97,98] [99,1,97,98] Z (λi T U=>⟨(99,iA i)::T,U⟩) (Lq ?_ ?_)
  .intro i hi;have hy:=zJ iA m.args i hi;have z:=y i hi;unfold yi at z;rw[zAg]at z;obtain⟨O,R⟩:=z;clear y;generalize m.args.getD i dd=a at *;refine WW ?_;rfl
  .exact nl S
def AA (l:List Vh) (id:Int):∃k,k<=ln l/\(∀i,i<k->(l.getD i dd).id<id)/\(k<ln l->¬(l.getD k dd).id<id):=by
 induction l with
 |nil=>exact⟨0,zAe _,λi h=>absurd h (zBa _),λh=>absurd h yE⟩
 | cons x l u=>
  obtain⟨k,h1,h2,y⟩:=u;by_cases hx:x.id<id
  .refine⟨k+1,by simpa using h1,λi hi=>?_,λhk=>?_⟩
   .cases i with
    |zero=>exact hx
    |succ i=>exact h2 i zB
   all_goals grind
  .exact⟨0,zAn _,λi h=>absurd h (zBa _),λ_=>hx⟩
def zx {l:List Vh}:LA l=true↔l.length<=8/\∀i,i<ln l->(0<=(l.getD i dd).id/\(l.getD i dd).id<=4294967295/\0<=(l.getD i dd).cls/\(l.getD i dd).cls<=3)/\(0<i->(l.getD (i-1) dd).id<(l.getD i dd).id):=by
 unfold LA;simp only[zAi,zAg,zAm,zAw]
 grind [LA,bR]
def wC (n a b:Int):zO 154 [iA n,iA a,iA b] [] (bA (xY n a b)) []:=by
 (cases hb:xY n a b with|false=>((refine eM call154 λF hF=>?_);((refine WW (I2 (λhc=>?_) λhc=>?_)));all_goals (first|exact zI|(simp only[xY,zAz]at hb;first|exact JY|exact LN)))|true=>(simp only[xY,zAg]at hb;(refine eM call154 λF hF=>?_);((refine WW ?_));all_goals (first|exact zI|exact JY|exact LN)))
def yx (a:Ag):Bool:=a.lim.all λn=>xY n 0 8
def LO (a:Ag):Bool:=decide ((ln a.sec:Int)=8/\(ln a.lim:Int)=4)&&(yx a&&(xY a.rights 0 63&&(xY a.cls 0 3&&(xY a.req 0 4&&(xY a.ses 1 2&&(xY a.burst 0 1000&&xY a.rate 0 a.burst))))))
def xx {a:Ag} (h:∀s:Nat,s<ln a.lim->xY (a.lim.getD s dd) 0 8=true):yx a=true:=by grind [xY,yx,List.all_eq_true,List.getElem_of_mem,List.getD]
def wx {a:Ag} {i:Nat} (hi:i<ln a.lim) (h:xY (a.lim.getD i dd) 0 8=false):yx a=false:=by grind [xY,yx]
def OM (a:Ag):LO a=true↔ot a:=by
 unfold LO yx xY;simp only[zAi,zAg,zAm];constructor
 .rintro⟨⟨h1,h2⟩,u,y,z,A,B,C,E⟩;exact⟨h1,h2,u,y,z,A,B,C,E⟩
 .rintro⟨h1,h2,u,y,z,A,B,C,E⟩
  grind
def IF (a:Ag):zO 150 [wP a] [] (bA (LO a)) []:=by
 have E:=zA yA a.sec;have hl:=zA iA a.lim;have u:=xA a.rights 0 63;have y:=xA a.cls 0 3;have z:=xA a.req 0 4;have B:=xA a.ses 1 2;have I:=xA a.burst 0 1000;have L:=xA a.rate 0 a.burst;by_cases h1:(ln a.sec:Int)=8/\(ln a.lim:Int)=4
 case neg=>
  have e:LO a=false:=by unfold LO;rw[zAb h1];rfl
  rw[e];by_cases W:(ln a.sec:Int)=8
  all_goals
   (refine eM call150 λF hF=>?_)
   exact mx
 obtain⟨h1,h2⟩:=h1
 have e:LO a=(yx a&&(xY a.rights 0 63&&(xY a.cls 0 3&&(xY a.req 0 4&&(xY a.ses 1 2&&(xY a.burst 0 1000&&xY a.rate 0 a.burst)))))):=by
  unfold LO;rw[zAc ⟨h1,h2⟩,zAj]
 rw[e];refine eM call150 λF hF=>?_
 refine WW ?_;refine zZ (ln a.lim) [1] [1] [1,16,17] [18,1,16,17] Z (λi T U V=>(∀s:Nat,s<i->xY (a.lim.getD s dd) 0 8=true)/\V=⟨(18,iA i)::T,U⟩) (Lp ?_ ?_ ?_)
 .exact⟨λs E=>absurd E (zBa _),rfl⟩
 .rintro i st hi ⟨hp,rfl⟩;have X:=zJ iA a.lim i hi;have c:=xA (a.lim.getD i dd) 0 8
  cases A:xY (a.lim.getD i dd) 0 8 with
  | true=>
   rw[A]at c
   have C:∀s:Nat,s<i+1->xY (a.lim.getD s dd) 0 8=true:=λs E=>by
    by_cases G:s=i
    .subst G;assumption
    .exact hp s zB
   clear A hp;generalize hx:a.lim.getD i dd=x at *;clear hx;refine zP c ?_;exact⟨C,rfl⟩
  |false=>
   rw[A]at c;rw[wx hi A,zA7];generalize a.lim.getD i dd=x at *;exact nl c
 .rintro st ⟨hp,rfl⟩;rw[xx hp,zAj];clear hp;generalize xY a.rights 0 63=M at *;generalize xY a.cls 0 3=O at *;generalize xY a.req 0 4=R at *;generalize xY a.ses 1 2=q4 at *;generalize xY a.burst 0 1000=S at *;generalize xY a.rate 0 a.burst=Y at *;cases M
  .exact nl u
  cases O
  .exact ng (xH u y)
  cases R
  .exact ng (qS u y z)
  cases q4
  .exact ng (cX u y z B)
  cases S
  .exact ng (KE u y z B I)
  .exact ng (BJ u y z B I L)
def TN (l:List Vh) (hn:ln l<=1000000):zO 373 [zE vB l] [] (bA (LA l)) []:=by
 have hl:=zA vB l;by_cases R:(ln l:Int)<=8
 case neg=>
  have e:LA l=false:=by unfold LA;rw[zAb R,zB3]
  rw[e];refine eM call373 λF hF=>?_
  exact mx
 refine eM call373 λF hF=>?_
 refine WW ?_;refine zZ (ln l) [] [] [0,8,9] [10,0,8,9] Z (λi T U zs=>(∀s:Nat,s<i->bR l s=true)/\zs=⟨(10,iA i)::T,U⟩) (Lp ?_ ?_ ?_)
 .exact⟨λs S=>absurd S (zBa _),rfl⟩
 .rintro i st hi ⟨hp,rfl⟩
  have y:bR l i=true->∀s:Nat,s<i+1->bR l s=true:=λh s S=>by
   by_cases O:s=i
   .subst O;exact h
   .exact hp s zB
  have z:=λh=>An (l:=l) hi h
  have hy:=zJ vB l i hi;have u:bR l i=_:=rfl
  conv at u=>rhs;unfold bR
  by_cases B:0<i
  .have A:=yC vB l ((i:Int)-1) zB zB;rw[show((i:Int)-1).toNat=i-1 by omega]at A;have X:(l.map vB)[((i:Int)-1).toNat]? =some (vB (l.getD (i-1) dd)):=by rw[show((i:Int)-1).toNat=i-1 by omega];exact A
   clear A;generalize l.getD i dd=t,l.getD (i-1) dd=p,bR l i=Y at *;by_cases h1:0<=t.id/\t.id<=4294967295/\0<=t.cls/\t.cls<=3/\p.id<t.id
   .obtain⟨h1,h2,L,M,W⟩:=h1;rw[zAc ⟨h1,h2,L,M,λ_=>W⟩]at u;refine WW ?_;exact⟨y u,rfl⟩
   .rw[zAb (λh=>h1 ⟨h.1,h.2.1,h.2.2.1,h.2.2.2.1,h.2.2.2.2 B⟩)]at u;rw[z u]
    by_cases C:0<=t.id<;>by_cases E:t.id<=4294967295<;>by_cases G:0<=t.cls<;>by_cases I:t.cls<=3<;>by_cases V:p.id<t.id<;>first|(exfalso;exact h1 ⟨C,E,G,I,V⟩)|(exfalso;omega;done)|(clear h1;((refine WW ?_));exact zI)
  .obtain rfl:i=0:=by omega
   generalize l.getD 0 dd=t,bR l 0=Y at *;by_cases h1:0<=t.id/\t.id<=4294967295/\0<=t.cls/\t.cls<=3
   .obtain⟨h1,h2,L,M⟩:=h1;rw[zAc ⟨h1,h2,L,M,λh=>absurd h B⟩]at u;refine WW ?_;exact⟨y u,rfl⟩
   .rw[zAb (λh=>h1 ⟨h.1,h.2.1,h.2.2.1,h.2.2.2.1⟩)]at u;rw[z u]
    by_cases C:0<=t.id<;>by_cases E:t.id<=4294967295<;>by_cases G:0<=t.cls<;>by_cases I:t.cls<=3<;>first|(exfalso;exact h1 ⟨C,E,G,I⟩)|(exfalso;omega;done)|(clear h1;((refine WW ?_));exact zI)
 .rintro st ⟨hp,rfl⟩;have e:((List.range (ln l)).all λi=>bR l i)=true:=zAm.2 λi hi=>hp i (zAw.1 hi)
  unfold LA;rw[e,zAj];rw[zAc R];exact mx
def RO (a:Ag):zO 156 [wP a] [] (bA (LO a)) []:=by
 have G:=zA yA a.sec;have hl:=zA iA a.lim;have u:=wC a.rights 0 63;have y:=wC a.cls 0 3;have z:=wC a.req 0 4;have A:=wC a.ses 1 2;have C:=wC a.burst 0 1000;have L:=wC a.rate 0 a.burst;have e:LO a=(decide ((ln a.sec:Int)=8/\(ln a.lim:Int)=4)&&(yx a&&(xY a.rights 0 63&&(xY a.cls 0 3&&(xY a.req 0 4&&(xY a.ses 1 2&&(xY a.burst 0 1000&&xY a.rate 0 a.burst))))))):=rfl;rw[e];generalize xY a.rights 0 63=M,xY a.cls 0 3=O,xY a.req 0 4=R,xY a.ses 1 2=q4,xY a.burst 0 1000=S,xY a.rate 0 a.burst=X at *;clear e;by_cases h1:(ln a.sec:Int)=8
 case neg=>
  rw[zAb (λh=>h1 h.1),zA7];refine eM call156 λF hF=>?_
  exact mx
 cases M with
 |false=>
  rw[zA7,zB3,zB3];refine eM call156 λF hF=>?_
  exact nl u
 |true=>
 cases O with
 |false=>
  rw[zA7,zB3,zB3,zB3];refine eM call156 λF hF=>?_
  exact ng (xH u y)
 |true=>
 by_cases h2:(ln a.lim:Int)=4
 case neg=>
  rw[zAb (λh=>h2 h.2),zA7];refine eM call156 λF hF=>?_
  exact ng (xH u y)
 rw[zAc ⟨h1,h2⟩,zAj,zAj,zAj];refine eM call156 λF hF=>?_
 refine yB (xH u y) ?_;refine zZ (ln a.lim) [1] [1] [1,28,29] [30,1,28,29] Z (λi T U V=>(∀s:Nat,s<i->xY (a.lim.getD s dd) 0 8=true)/\V=⟨(30,iA i)::T,U⟩) (Lp ?_ ?_ ?_)
 .exact⟨λs G=>absurd G (zBa _),rfl⟩
 .rintro i st hi ⟨hp,rfl⟩;have W:=zJ iA a.lim i hi;have c:=wC (a.lim.getD i dd) 0 8;clear u y z A C L
  cases B:xY (a.lim.getD i dd) 0 8 with
  | true=>
   rw[B]at c
   have E:∀s:Nat,s<i+1->xY (a.lim.getD s dd) 0 8=true:=λs G=>by
    by_cases I:s=i
    .subst I;assumption
    .exact hp s zB
   clear B hp;generalize hx:a.lim.getD i dd=x at *;clear hx;refine zP c ?_;exact⟨E,rfl⟩
  |false=>
   rw[B]at c;rw[wx hi B,zA7];generalize a.lim.getD i dd=x at *;exact nl c
 .rintro st ⟨hp,rfl⟩;rw[xx hp,zAj];clear hp u y;cases R
  .exact nl z
  cases q4
  .exact ng (xH z A)
  cases S
  .exact ng (qS z A C)
  .exact ng (cX z A C L)
def Uo (r:Rg):Bool:=decide (0<=r.num/\r.num<4)&&(LO r.ag&&(PB r.tk&&(LA r.vh&&(Om r.bk&&decide (r.bk.rate=r.ag.rate/\r.bk.burst=r.ag.burst)))))
def YA (r:Rg) (hv:ln r.vh<=1000000):zO 343 [kD r] [] (bA (Uo r)) []:=by
 have u:=IF r.ag;have y:=UW r.tk;have z:=TN r.vh hv;have A:=Nm r.bk;unfold Uo;generalize LO r.ag=E,PB r.tk=G,LA r.vh=I,Om r.bk=q4 at *;by_cases h1:0<=r.num
 case neg=>
  rw[zAb (λh=>h1 h.1)];refine eM call343 λF hF=>?_
  exact mx
 by_cases h2:r.num<4
 case neg=>
  rw[zAb (λh=>h2 h.2)];refine eM call343 λF hF=>?_
  exact mx
 rw[zAc ⟨h1,h2⟩]
 cases E with
 |false=>
  refine eM call343 λF hF=>?_
  exact nl u
 |true=>
 cases G with
 |false=>
  refine eM call343 λF hF=>?_
  exact ng (xH u y)
 |true=>
 cases I with
 |false=>
  refine eM call343 λF hF=>?_
  exact ng (qS u y z)
 |true=>
 cases q4 with
 |false=>
  refine eM call343 λF hF=>?_
  exact ng (cX u y z A)
 |true=>
 by_cases B:r.bk.rate=r.ag.rate
 case neg=>
  rw[zAb (λh=>B h.1)];refine eM call343 λF hF=>?_
  exact ng (cX u y z A)
 by_cases C:r.bk.burst=r.ag.burst
 .rw[zAc ⟨B,C⟩];refine eM call343 λF hF=>?_
  refine yB (cX u y z A) ?_
  all_goals (first|exact zI|exact LN)
 .rw[zAb (λh=>C h.2)];refine eM call343 λF hF=>?_
  refine yB (cX u y z A) ?_
  all_goals (first|exact zI|exact LN)
def bS (r:Rg) (hv:ln r.vh<=1000000):zO 328 [kD r] [] (bA (Uo r)) []:=by
 have u:=RO r.ag;have y:=SZ r.tk;have z:=RK r.vh hv;have A:=Ug r.bk;unfold Uo;rw[je];generalize LO r.ag=E,aG r.tk=G,LA r.vh=I,Om r.bk=q4 at *;by_cases h1:0<=r.num
 case neg=>
  rw[zAb (λh=>h1 h.1)];refine eM call328 λF hF=>?_
  exact mx
 by_cases h2:r.num<4
 case neg=>
  rw[zAb (λh=>h2 h.2)];refine eM call328 λF hF=>?_
  exact mx
 rw[zAc ⟨h1,h2⟩]
 cases E with
 |false=>
  refine eM call328 λF hF=>?_
  exact nl u
 |true=>
 cases G with
 |false=>
  refine eM call328 λF hF=>?_
  exact ng (xH u y)
 |true=>
 cases I with
 |false=>
  refine eM call328 λF hF=>?_
  exact ng (qS u y z)
 |true=>
 cases q4 with
 |false=>
  refine eM call328 λF hF=>?_
  exact ng (cX u y z A)
 |true=>
 by_cases B:r.bk.rate=r.ag.rate
 case neg=>
  rw[zAb (λh=>B h.1)];refine eM call328 λF hF=>?_
  exact ng (cX u y z A)
 by_cases C:r.bk.burst=r.ag.burst
 .rw[zAc ⟨B,C⟩];refine eM call328 λF hF=>?_
  refine yB (cX u y z A) ?_
  all_goals (first|exact zI|exact LN)
 .rw[zAb (λh=>C h.2)];refine eM call328 λF hF=>?_
  refine yB (cX u y z A) ?_
  all_goals (first|exact zI|exact LN)
