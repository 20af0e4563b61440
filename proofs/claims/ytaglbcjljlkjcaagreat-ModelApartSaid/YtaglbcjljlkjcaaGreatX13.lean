/- Part 13. -/
import Derived.Test.YtaglbcjljlkjcaaGreatX12
namespace Go.Proofs.YtaglbcjljlkjcaaGreat.Av
open Tryz
set_option linter.all false
set_option maxRecDepth 4000
set_option maxHeartbeats 4000000
open List renaming length->ln
open Inhabited renaming default->dd
structure Ly where
 t:Int
 f:Int
 g:Int
 lo:Int
 hi:Int
 da:Int
def XP (s:Ly):AV:= .agg [iA s.t,iA s.f,iA s.g,iA s.lo,iA s.hi,iA s.da]
structure zAp (k:Int) (s:Ly) (ok:Bool):Prop where
 t:0<=s.t/\s.t<=10
 f:0<=s.f/\s.f<=4
 g:s.g=0\/s.g=2\/s.g=3\/s.g=4
 da: -1<=s.da/\s.da<=10
 k2:k=2->s=⟨10,3,0,0,0,0⟩/\ok=true
 k3:k=3->s=⟨10,1,0,0,0,0⟩/\ok=true
 k4:k=4->s=⟨10,2,0,0,0,0⟩/\ok=true
 k5:k=5->s=⟨10,1,0,0,0,0⟩/\ok=true
theorem Rv (k:Int):∃(s:Ly) (Y:Bool),zAp k s Y/\zO 233 [iA k] [] (.tup [XP s,bA Y]) []:=by
 by_cases h1:k=1
 .subst h1;refine⟨⟨10,0,0,0,0,0⟩,true,⟨by decide,by decide,by decide,by decide,λh=>absurd h zB,λh=>absurd h zB,λh=>absurd h zB,λh=>absurd h zB⟩,?_⟩;unfold XP;refine eM call233 λF hF=>?_
  exact ly
 by_cases h2:k=2
 .subst h2;refine⟨⟨10,3,0,0,0,0⟩,true,⟨by decide,by decide,by decide,by decide,λ_=>⟨rfl,rfl⟩,λh=>absurd h zB,λh=>absurd h zB,λh=>absurd h zB⟩,?_⟩;unfold XP;refine eM call233 λF hF=>?_
  exact ly
 by_cases U:k=3
 .subst U;refine⟨⟨10,1,0,0,0,0⟩,true,⟨by decide,by decide,by decide,by decide,λh=>absurd h zB,λ_=>⟨rfl,rfl⟩,λh=>absurd h zB,λh=>absurd h zB⟩,?_⟩;unfold XP;refine eM call233 λF hF=>?_
  exact ly
 by_cases V:k=4
 .subst V;refine⟨⟨10,2,0,0,0,0⟩,true,⟨by decide,by decide,by decide,by decide,λh=>absurd h zB,λh=>absurd h zB,λ_=>⟨rfl,rfl⟩,λh=>absurd h zB⟩,?_⟩;unfold XP;refine eM call233 λF hF=>?_
  exact ly
 by_cases W:k=5
 .subst W;refine⟨⟨10,1,0,0,0,0⟩,true,⟨by decide,by decide,by decide,by decide,λh=>absurd h zB,λh=>absurd h zB,λh=>absurd h zB,λ_=>⟨rfl,rfl⟩⟩,?_⟩;unfold XP;refine eM call233 λF hF=>?_
  exact ly
 by_cases h6:k=6
 .subst h6;refine⟨⟨10,3,4,1,3,0⟩,true,⟨by decide,by decide,by decide,by decide,λh=>absurd h zB,λh=>absurd h zB,λh=>absurd h zB,λh=>absurd h zB⟩,?_⟩;unfold XP;refine eM call233 λF hF=>?_
  exact ly
 by_cases h7:k=7
 .subst h7;refine⟨⟨10,1,2,1,3,0⟩,true,⟨by decide,by decide,by decide,by decide,λh=>absurd h zB,λh=>absurd h zB,λh=>absurd h zB,λh=>absurd h zB⟩,?_⟩;unfold XP;refine eM call233 λF hF=>?_
  exact ly
 by_cases h8:k=8
 .subst h8;refine⟨⟨10,1,0,0,0,0⟩,true,⟨by decide,by decide,by decide,by decide,λh=>absurd h zB,λh=>absurd h zB,λh=>absurd h zB,λh=>absurd h zB⟩,?_⟩;unfold XP;refine eM call233 λF hF=>?_
  exact ly
 by_cases h9:k=9
 .subst h9;refine⟨⟨10,0,0,0,0,0⟩,true,⟨by decide,by decide,by decide,by decide,λh=>absurd h zB,λh=>absurd h zB,λh=>absurd h zB,λh=>absurd h zB⟩,?_⟩;unfold XP;refine eM call233 λF hF=>?_
  exact ly
 by_cases u:k=10
 .subst u;refine⟨⟨10,1,0,0,0,0⟩,true,⟨by decide,by decide,by decide,by decide,λh=>absurd h zB,λh=>absurd h zB,λh=>absurd h zB,λh=>absurd h zB⟩,?_⟩;unfold XP;refine eM call233 λF hF=>?_
  exact ly
 by_cases z:k=11
 .subst z;refine⟨⟨10,1,0,0,0,0⟩,true,⟨by decide,by decide,by decide,by decide,λh=>absurd h zB,λh=>absurd h zB,λh=>absurd h zB,λh=>absurd h zB⟩,?_⟩;unfold XP;refine eM call233 λF hF=>?_
  exact ly
 by_cases A:k=12
 .subst A;refine⟨⟨10,0,0,0,0,0⟩,true,⟨by decide,by decide,by decide,by decide,λh=>absurd h zB,λh=>absurd h zB,λh=>absurd h zB,λh=>absurd h zB⟩,?_⟩;unfold XP;refine eM call233 λF hF=>?_
  exact ly
 by_cases B:k=13
 .subst B;refine⟨⟨0,2,0,0,0,0⟩,true,⟨by decide,by decide,by decide,by decide,λh=>absurd h zB,λh=>absurd h zB,λh=>absurd h zB,λh=>absurd h zB⟩,?_⟩;unfold XP;refine eM call233 λF hF=>?_
  exact ly
 by_cases C:k=14
 .subst C;refine⟨⟨0,2,0,0,0,0⟩,true,⟨by decide,by decide,by decide,by decide,λh=>absurd h zB,λh=>absurd h zB,λh=>absurd h zB,λh=>absurd h zB⟩,?_⟩;unfold XP;refine eM call233 λF hF=>?_
  exact ly
 by_cases E:k=15
 .subst E;refine⟨⟨0,2,0,0,0,0⟩,true,⟨by decide,by decide,by decide,by decide,λh=>absurd h zB,λh=>absurd h zB,λh=>absurd h zB,λh=>absurd h zB⟩,?_⟩;unfold XP;refine eM call233 λF hF=>?_
  exact ly
 by_cases G:k=16
 .subst G;refine⟨⟨0,1,0,0,0,10⟩,true,⟨by decide,by decide,by decide,by decide,λh=>absurd h zB,λh=>absurd h zB,λh=>absurd h zB,λh=>absurd h zB⟩,?_⟩;unfold XP;refine eM call233 λF hF=>?_
  exact ly
 by_cases I:k=17
 .subst I;refine⟨⟨0,1,0,0,0,-1⟩,true,⟨by decide,by decide,by decide,by decide,λh=>absurd h zB,λh=>absurd h zB,λh=>absurd h zB,λh=>absurd h zB⟩,?_⟩;unfold XP;refine eM call233 λF hF=>?_
  exact ly
 by_cases L:k=18
 .subst L;refine⟨⟨0,1,3,0,16,0⟩,true,⟨by decide,by decide,by decide,by decide,λh=>absurd h zB,λh=>absurd h zB,λh=>absurd h zB,λh=>absurd h zB⟩,?_⟩;unfold XP;refine eM call233 λF hF=>?_
  exact ly
 by_cases M:k=19
 .subst M;refine⟨⟨0,0,2,0,4,0⟩,true,⟨by decide,by decide,by decide,by decide,λh=>absurd h zB,λh=>absurd h zB,λh=>absurd h zB,λh=>absurd h zB⟩,?_⟩;unfold XP;refine eM call233 λF hF=>?_
  exact ly
 by_cases O:k=20
 .subst O;refine⟨⟨0,4,0,0,0,0⟩,true,⟨by decide,by decide,by decide,by decide,λh=>absurd h zB,λh=>absurd h zB,λh=>absurd h zB,λh=>absurd h zB⟩,?_⟩;unfold XP;refine eM call233 λF hF=>?_
  exact ly
 by_cases R:k=21
 .subst R;refine⟨⟨0,1,0,0,0,-1⟩,true,⟨by decide,by decide,by decide,by decide,λh=>absurd h zB,λh=>absurd h zB,λh=>absurd h zB,λh=>absurd h zB⟩,?_⟩;unfold XP;refine eM call233 λF hF=>?_
  exact ly
 by_cases S:k=22
 .subst S;refine⟨⟨0,1,0,0,0,0⟩,true,⟨by decide,by decide,by decide,by decide,λh=>absurd h zB,λh=>absurd h zB,λh=>absurd h zB,λh=>absurd h zB⟩,?_⟩;unfold XP;refine eM call233 λF hF=>?_
  exact ly
 refine⟨⟨0,0,0,0,0,0⟩,false,⟨by decide,by decide,by decide,by decide,λh=>absurd h h2,λh=>absurd h U,λh=>absurd h V,λh=>absurd h W⟩,?_⟩;unfold XP;refine eM call233 λF hF=>?_
 exact ly
theorem ip (s:Ly) (L:s.g=0\/s.g=2\/s.g=3\/s.g=4) (M:0<=s.f/\s.f<=4) (n:Int) (O:0<=n/\n<=1000000):∃(z:Int) (I:Bool),(-1000000<=z/\z<=1000000)/\(s.g=0->z=0/\I=decide (n=s.f))/\zO 234 [XP s,iA n] [] (.tup [iA z,bA I]) []:=by
 obtain⟨t,f,g,lo,hi,A⟩:=s;dsimp only at *;rw[show XP ⟨t,f,g,lo,hi,A⟩= .agg [iA t,iA f,iA g,iA lo,iA hi,iA A]from Z]
 rcases L with rfl|rfl|rfl|rfl
 .by_cases h:n=f
  .refine⟨0,true,zB,λ_=>⟨rfl,(zA9 h).symm⟩,?_⟩;refine eM call234 λF hF=>?_
   exact ly
  .refine⟨0,false,zB,λ_=>⟨rfl,(zA7 h).symm⟩,?_⟩;refine eM call234 λF hF=>?_
   exact ly
 .by_cases h1:n-f<0
  .refine⟨0,false,zB,λh=>absurd h xA,?_⟩;refine eM call234 λF hF=>?_
   exact ly
  have hb:0<=(n-f).tdiv 2/\(n-f).tdiv 2<=1000000:=by
   rw[zC9 zB];omega
  have G:aG .i64 ((n-f).tdiv 2):=by
   unfold aG;have e1:IntKind.i64.min= -9223372036854775808:=by decide
   have B:IntKind.i64.max=9223372036854775807:=by decide
   omega
  by_cases h2:(n-f).tmod 2=0
  case neg=>
   refine⟨0,false,zB,λh=>absurd h xA,?_⟩;refine eM call234 λF hF=>?_
   exact ly
  generalize u:(n-f).tmod 2=m at *;by_cases C:lo<=(n-f).tdiv 2
  case neg=>
   refine⟨(n-f).tdiv 2,false,zB,λh=>absurd h xA,?_⟩;subst u;refine eM call234 λF hF=>?_
   exact ly
  by_cases E:(n-f).tdiv 2<=hi
  .refine⟨(n-f).tdiv 2,true,zB,λh=>absurd h xA,?_⟩;subst u;refine eM call234 λF hF=>?_
   exact ly
  .refine⟨(n-f).tdiv 2,false,zB,λh=>absurd h xA,?_⟩;subst u;refine eM call234 λF hF=>?_
   exact ly
 .by_cases h1:n-f<0
  .refine⟨0,false,zB,λh=>absurd h xA,?_⟩;refine eM call234 λF hF=>?_
   exact ly
  have hb:0<=(n-f).tdiv 3/\(n-f).tdiv 3<=1000000:=by
   rw[zC9 zB];omega
  have G:aG .i64 ((n-f).tdiv 3):=by
   unfold aG;have e1:IntKind.i64.min= -9223372036854775808:=by decide
   have B:IntKind.i64.max=9223372036854775807:=by decide
   omega
  by_cases h2:(n-f).tmod 3=0
  case neg=>
   refine⟨0,false,zB,λh=>absurd h xA,?_⟩;refine eM call234 λF hF=>?_
   exact ly
  generalize u:(n-f).tmod 3=m at *;by_cases C:lo<=(n-f).tdiv 3
  case neg=>
   refine⟨(n-f).tdiv 3,false,zB,λh=>absurd h xA,?_⟩;subst u;refine eM call234 λF hF=>?_
   exact ly
  by_cases E:(n-f).tdiv 3<=hi
  .refine⟨(n-f).tdiv 3,true,zB,λh=>absurd h xA,?_⟩;subst u;refine eM call234 λF hF=>?_
   exact ly
  .refine⟨(n-f).tdiv 3,false,zB,λh=>absurd h xA,?_⟩;subst u;refine eM call234 λF hF=>?_
   exact ly
 .by_cases h1:n-f<0
  .refine⟨0,false,zB,λh=>absurd h xA,?_⟩;refine eM call234 λF hF=>?_
   exact ly
  have hb:0<=(n-f).tdiv 4/\(n-f).tdiv 4<=1000000:=by
   rw[zC9 zB];omega
  have G:aG .i64 ((n-f).tdiv 4):=by
   unfold aG;have e1:IntKind.i64.min= -9223372036854775808:=by decide
   have B:IntKind.i64.max=9223372036854775807:=by decide
   omega
  by_cases h2:(n-f).tmod 4=0
  case neg=>
   refine⟨0,false,zB,λh=>absurd h xA,?_⟩;refine eM call234 λF hF=>?_
   exact ly
  generalize u:(n-f).tmod 4=m at *;by_cases C:lo<=(n-f).tdiv 4
  case neg=>
   refine⟨(n-f).tdiv 4,false,zB,λh=>absurd h xA,?_⟩;subst u;refine eM call234 λF hF=>?_
   exact ly
  by_cases E:(n-f).tdiv 4<=hi
  .refine⟨(n-f).tdiv 4,true,zB,λh=>absurd h xA,?_⟩;subst u;refine eM call234 λF hF=>?_
   exact ly
  .refine⟨(n-f).tdiv 4,false,zB,λh=>absurd h xA,?_⟩;subst u;refine eM call234 λF hF=>?_
   exact ly
def QK (l:List Int) (hl:ln l<=1073741824):zO 88 [zE yA l] [] (.ref 1001 0 (l.map yA).length) [(1001,.arr 1 (l.map yA) false)]:=by
 have u:=zA yA l;refine eM call88 λF hF=>?_
 refine xI 0 Z (λcap z=>?_) ?_
 .have:l=[]:=by simpa using z
  subst this
  (repeat' (first|refine yf ?_|apply yW|apply xH|intro hc|fail))
  refine qH 2 1001 1 Z Z Z (xL ?_);exact zP [1001] Z Z Z Z
 .repeat' (first|(apply zG;first|refine uN tok Z Z ?_|(apply wT;refine wJ (xX tok (.inl ⟨rfl,rfl⟩) Z Z Z Z) Z ?_)|(apply yI;refine qA (nw:=[1001]) (yV tok 1001 (xs:=[]) Z Z Z Z Z Z Z Z Z) Z Z Z ?_)|(apply yE;refine vC tok Z Z Z Z Z Z Z (yM _ _ (λ_=>rfl)) Z Z Z zB Z ?_)|apply kR)|(first|apply xY|apply xR|refine uD Z ?_|refine yR Z ?_|refine yC Z ?_|refine wA Z (λhc=>?_) λhc=>?_|apply xJ|apply xL|apply xO|apply xC))
  exact zP [1001] Z Z Z Z
def Vj (n:Int):Bool:=decide (0<=n/\n<=4294967295)
def jg (n:Int):Jp n=if Vj n=true then 0 else 8:=by grind [Jp,Vj]
def Zp (s:Ly) (u:Int) (tok args:List Int):Nat->List Int
 |0=>tok
 |i+1=>(if(i:Int)=s.f/\0<s.g then Zp s u tok args i++RW u else Zp s u tok args i)++RW (args.getD i dd)
def j8 (s:Ly) (u:Int) (tok args:List Int) (i:Nat):List Int:=if(i:Int)=s.f/\0<s.g then Zp s u tok args i++RW u else Zp s u tok args i
theorem EE (s:Ly) (u:Int) (tok args:List Int):∀i,(Zp s u tok args i).length<=ln tok+12*i
 |0=>by show (ln tok)<=_;omega
 |i+1=>by
  have:=EE s u tok args i;have h1:=aW u;have h2:=aW (args.getD i dd);unfold Zp
  split<;>simp only[zBa]<;>omega
def Qv (s:Ly) (u:Int) (tok args:List Int) (i:Nat):(j8 s u tok args i).length<=ln tok+12*i+6:=by grind [j8,EE,aW,List.length_append]
theorem Yp (args:List Int):∀n,n<=ln args->(∃k,k<n/\Vj (args.getD k dd)=false/\∀i,i<k->Vj (args.getD i dd)=true)\/(∀i,i<n->Vj (args.getD i dd)=true)
 |0,_=> .inr λi hi=>absurd hi (zC3 _)
 | n+1,z=>by
  rcases Yp args n zB with⟨k,h1,h2,u⟩|h
  .exact .inl ⟨k,zB,h2,u⟩
  .cases hb:Vj (args.getD n dd)with
   |true=>
    refine .inr λi hi=>?_
    by_cases e:i=n
    .subst e;exact hb
    .exact h i zB
   |false=>exact .inl ⟨n,zB,hb,h⟩
structure Pv (m:Ms):Prop where
 t:m.tok.length<=1000
 a:m.args.length<=1000
 d:m.data.length<=1000
theorem Xp (m:Ms) (hm:Pv m):∃(xs:List AV) (e:Int),(e=0\/e=6)/\zO 185 [zX m] [] (.tup [.sl false xs,iA e]) []/\(∀f:Nat,(m.kind=2/\f=3)\/(m.kind=3/\f=1)\/(m.kind=4/\f=2)\/(m.kind=5/\f=1)->(e=0↔(ln m.tok=10/\m.data=[]/\m.args.length=f/\∀i,i<f->Vj (m.args.getD i dd)=true))):=by
 obtain⟨s,ok,hs,c1⟩:=Rv m.kind;obtain⟨Y,bl,bs,av,c2⟩:=ip s hs.g hs.f ((m.args.map iA).length:Int) (by have:=hm.a;simp;omega);have c3:=QK m.tok (by have:=hm.t;omega);have b1:=hm.t;have b2:=hm.a;have b3:=hm.d;have b4:=zA yA m.tok;have bx:=zA iA m.args;have bz:=zA yA m.data
 have hq:∀f:Nat,(m.kind=2/\f=3)\/(m.kind=3/\f=1)\/(m.kind=4/\f=2)\/(m.kind=5/\f=1)->s.t=10/\s.f=f/\s.g=0/\s.da=0/\ok=true:=λf hf=>by
  rcases hf with⟨h,rfl⟩|⟨h,rfl⟩|⟨h,rfl⟩|⟨h,rfl⟩
  .obtain⟨e1,e2⟩:=hs.k2 h;subst e1;exact⟨rfl,rfl,rfl,rfl,e2⟩
  .obtain⟨e1,e2⟩:=hs.k3 h;subst e1;exact⟨rfl,rfl,rfl,rfl,e2⟩
  .obtain⟨e1,e2⟩:=hs.k4 h;subst e1;exact⟨rfl,rfl,rfl,rfl,e2⟩
  .obtain⟨e1,e2⟩:=hs.k5 h;subst e1;exact⟨rfl,rfl,rfl,rfl,e2⟩
 have b9:=hs.t;have b6:=hs.f;have b7:=hs.g;have b5:=hs.da;clear hs;obtain⟨mk,tk,u,da⟩:=m;dsimp only at *;rw[show zX ⟨mk,tk,u,da⟩= .agg [iA mk,zE yA tk,zE iA u,zE yA da]from Z];have R:=EE s Y tk u;have L:=Qv s Y tk u;have ap:Zp s Y tk u 0=tk:=rfl
 have M:∀i:Nat,j8 s Y tk u i=if(i:Int)=s.f/\0<s.g then Zp s Y tk u i++RW Y else Zp s Y tk u i:=λ_=>rfl
 have O:∀i:Nat,Zp s Y tk u (i+1)=j8 s Y tk u i++RW (u.getD i dd):=λ_=>rfl
 generalize j8 s Y tk u=pg,Zp s Y tk u=S at *;obtain⟨st,sf,sg,bd,bb,au⟩:=s;dsimp only at *;rw[show XP ⟨st,sf,sg,bd,bb,au⟩= .agg [iA st,iA sf,iA sg,iA bd,iA bb,iA au]from Z]at*
 cases ok with
 |false=>
  refine⟨[],6,.inr Z,?_,λf hf=>⟨λh=>absurd h xA,λh=>absurd (hq f hf).2.2.2.2 xA⟩⟩;clear R L M O hq;refine eM call185 λF hF=>?_
  exact ng c1
 |true=>
 by_cases h1:(ln tk:Int)=st
 case neg=>
  refine⟨[],6,.inr Z,?_,λf hf=>⟨λh=>absurd h xA,λh=>absurd (show(ln tk:Int)=st by have:=(hq f hf).1;omega) h1⟩⟩;clear R L M O hq;refine eM call185 λF hF=>?_
  exact ng c1
 by_cases h2:au= -1\/(ln da:Int)=au
 case neg=>
  have br:¬au= -1:=λh=>h2 (.inl h)
  have bf:¬(ln da:Int)=au:=λh=>h2 (.inr h)
  refine⟨[],6,.inr Z,?_,λf hf=>⟨λh=>absurd h xA,λh=>absurd (show(ln da:Int)=au by have:=(hq f hf).2.2.2.1;rw[h.2.1];simp;omega) bf⟩⟩;clear R L M O hq h2;refine eM call185 λF hF=>?_
  exact ng c1
 cases bl with
 | false=>
  refine⟨[],6,.inr Z,?_,λf hf=>⟨λh=>absurd h xA,λh=>?_⟩⟩
  case refine_2=>
   obtain⟨q1,q2,q3,q4,_⟩:=hq f hf;have h5:=(av q3).2;rw[zA9 (show((u.map iA).length:Int)=sf by omega)]at h5;cases h5
  clear R L M O hq
  rcases h2 with h2|h2
  all_goals
   (refine eM call185 λF hF=>?_)
   exact mx (xW c1 c2)
 |true=>
 by_cases h3:(ln da:Int)<=200
 case neg=>
  refine⟨[],6,.inr Z,?_,λf hf=>⟨λh=>absurd h xA,λh=>absurd (show(ln da:Int)<=200 by rw[h.2.1];simp) h3⟩⟩;clear R L M O hq
  rcases h2 with h2|h2
  all_goals
   (refine eM call185 λF hF=>?_)
   exact mx (xW c1 c2)
 have cg:=EJ Y;have b0:=zA yA (RW Y);have ca:=aW Y
 rcases Yp u (ln u) (zBb _)with⟨k,bu,a2,a7⟩|ac
 .refine⟨[],6,.inr Z,?_,λf hf=>⟨λh=>absurd h xA,λh=>?_⟩⟩
  case refine_2=>
   have:=h.2.2.2 k zB;rw[a2]at this;cases this
  clear hq av;have C:∀i,i<k->Jp (u.getD i dd)=0:=λi hi=>by rw[jg,a7 i hi,zA5 Z]
  have ax:Jp (u.getD k dd)=8:=by rw[jg,a2,Os zBm]
  clear a2 a7
  rcases h2 with h2|h2
  all_goals
   refine eM call185 λF hF=>?_
   refine yJ (qM c1 c2 c3) ?_
  all_goals
   refine vQ 1001 Z ?_;refine yU (ln u+1) [1001,1,4] [1,4] [1,4,6,64] [7,65,1,4,6,64] Z (λi T U zs=>(i<=k)/\zs=⟨(7,.ref 1001 0 ((S i).map yA).length)::(65,iA i)::T,(1001,.arr 1 ((S i).map yA) true)::U⟩) (Lp ?_ ?_ ?_)
   .refine⟨zBn _,?_⟩;rw[ap];rfl
   .rintro i st' hi ⟨hik,rfl⟩;have cv:=EJ (u.getD i dd);have hy:=zJ iA u i zB;have a5:=R i;have a4:=L i;have hg:=M i;have hS:=O i;have a8:=zA yA (S i);have a9:=zA yA (RW (u.getD i dd));have ba:=aW (u.getD i dd)
    have a3:(i<k/\Jp (u.getD i dd)=0)\/(i=k/\Jp (u.getD i dd)=8):=by
     by_cases e:i=k
     .subst e;exact .inr ⟨rfl,ax⟩
     .exact .inl ⟨zB,C i zB⟩
    have ag:(S (i+1)).map yA=(pg i).map yA++(RW (u.getD i dd)).map yA:=by rw[hS,zBd]
    have z:(pg i).map yA=if(i:Int)=sf/\0<sg then(S i).map yA++(RW Y).map yA else(S i).map yA:=by
     rw[hg];split
     .rw[zBd]
     .rfl
    rw[ag];clear hS hg R L M O ap ag c1 c2 c3 C ax;generalize (S i).map yA=A,(pg i).map yA=B,RW (u.getD i dd)=V,Jp (u.getD i dd)=ve at *;generalize u.getD i dd=a at *;generalize RW Y=W at *;by_cases G:(i:Int)=sf
    .by_cases I:0<sg
     .rw[zA5 ⟨G,I⟩]at z;subst z
      rcases a3 with⟨az,rfl⟩|⟨az,rfl⟩
      ·(refine yJ (xW cg cv) ?_)
       exact⟨zB,rfl⟩
      .exact mx (xW cg cv)
     .rw[Os (λh=>I h.2)]at z;subst z
      rcases a3 with⟨az,rfl⟩|⟨az,rfl⟩
      ·(refine zS cv ?_)
       exact⟨zB,rfl⟩
      .exact ng cv
    .rw[Os (λh=>G h.1)]at z;subst z
     rcases a3 with⟨az,rfl⟩|⟨az,rfl⟩
     ·(refine zS cv ?_)
      exact⟨zB,rfl⟩
     .exact ng cv
   .rintro st' ⟨hik,rfl⟩;exfalso;omega
 .have a6:=L (ln u);by_cases hz:((pg (ln u)).map yA++da.map yA).length<=200
  case neg=>
   refine⟨[],6,.inr Z,?_,λf hf=>⟨λh=>absurd h xA,λh=>?_⟩⟩
   case refine_2=>
    exfalso;apply hz;have e1:=h.1;have e2:=h.2.1;have e3:=h.2.2.1;have e4:f<=3:=by omega
    rw[zBa,zA6,zA6,e2];simp only[zCd];omega
   clear hq av;have C:∀i,i<ln u->Jp (u.getD i dd)=0:=λi hi=>by rw[jg,ac i hi,zA5 Z]
   clear ac
   rcases h2 with h2|h2
   all_goals
    refine eM call185 λF hF=>?_
    refine yJ (qM c1 c2 c3) ?_
   all_goals
    refine vQ 1001 Z ?_;refine yU (ln u+1) [1001,1,4] [1,4] [1,4,6,64] [7,65,1,4,6,64] Z (λi T U zs=>(i<=ln u)/\zs=⟨(7,.ref 1001 0 ((S i).map yA).length)::(65,iA i)::T,(1001,.arr 1 ((S i).map yA) true)::U⟩) (Lp ?_ ?_ ?_)
    .refine⟨zBn _,?_⟩;rw[ap];rfl
    .rintro i st' hi ⟨hik,rfl⟩;have a5:=R i;have a4:=L i;have hg:=M i;have a8:=zA yA (S i);have bk:=zA yA (pg i)
     have z:(pg i).map yA=if(i:Int)=sf/\0<sg then(S i).map yA++(RW Y).map yA else(S i).map yA:=by
      rw[hg];split
      .rw[zBd]
      .rfl
     by_cases a1:i=ln u
     .subst a1;clear O hg R L M ap c1 c2 c3 C;generalize (S (ln u)).map yA=A at *;generalize (pg (ln u)).map yA=B at *;generalize RW Y=W at *;by_cases G:(ln u:Int)=sf
      .by_cases I:0<sg
       .rw[zA5 ⟨G,I⟩]at z;subst z;exact ng cg
       .rw[Os (λh=>I h.2)]at z;subst z;exact ly
      .rw[Os (λh=>G h.1)]at z;subst z;exact ly
     have cv:=EJ (u.getD i dd);rw[C i zB]at cv;have hy:=zJ iA u i zB;have hS:=O i;have a9:=zA yA (RW (u.getD i dd));have ba:=aW (u.getD i dd);have ag:(S (i+1)).map yA=(pg i).map yA++(RW (u.getD i dd)).map yA:=by rw[hS,zBd]
     rw[ag];clear hS hg R L M O ap ag c1 c2 c3 C hz a6;generalize (pg (ln u)).map yA=E,(S i).map yA=A,(pg i).map yA=B,RW (u.getD i dd)=V at *;generalize u.getD i dd=a at *;generalize RW Y=W at *;by_cases G:(i:Int)=sf
     .by_cases I:0<sg
      .rw[zA5 ⟨G,I⟩]at z;subst z;refine yJ (xW cg cv) ?_;exact⟨zB,rfl⟩
      .rw[Os (λh=>I h.2)]at z;subst z;refine zS cv ?_;exact⟨zB,rfl⟩
     .rw[Os (λh=>G h.1)]at z;subst z;refine zS cv ?_;exact⟨zB,rfl⟩
    .rintro st' ⟨hik,rfl⟩;exfalso;omega
  refine⟨((pg (ln u)).map yA++da.map yA).take ((pg (ln u)).map yA++da.map yA).length,0,.inl Z,?_,λf hf=>⟨λ_=>?_,λ_=>rfl⟩⟩
  case refine_2=>
   obtain⟨q1,q2,q3,q4,_⟩:=hq f hf;have h5:=zEy (av q3).2.symm;refine⟨zB,zB5 zB,zB,λi hi=>ac i zB⟩
  clear hq av;have C:∀i,i<ln u->Jp (u.getD i dd)=0:=λi hi=>by rw[jg,ac i hi,zA5 Z]
  clear ac
  rcases h2 with h2|h2
  all_goals
   refine eM call185 λF hF=>?_
   refine yJ (qM c1 c2 c3) ?_
  all_goals
   refine vQ 1001 Z ?_;refine yU (ln u+1) [1001,1,4] [1,4] [1,4,6,64] [7,65,1,4,6,64] Z (λi T U zs=>(i<=ln u)/\zs=⟨(7,.ref 1001 0 ((S i).map yA).length)::(65,iA i)::T,(1001,.arr 1 ((S i).map yA) true)::U⟩) (Lp ?_ ?_ ?_)
   .refine⟨zBn _,?_⟩;rw[ap];rfl
   .rintro i st' hi ⟨hik,rfl⟩;have a5:=R i;have a4:=L i;have hg:=M i;have a8:=zA yA (S i);have bk:=zA yA (pg i)
    have z:(pg i).map yA=if(i:Int)=sf/\0<sg then(S i).map yA++(RW Y).map yA else(S i).map yA:=by
     rw[hg];split
     .rw[zBd]
     .rfl
    by_cases a1:i=ln u
    .subst a1;clear O hg R L M ap c1 c2 c3 C;generalize (S (ln u)).map yA=A at *;generalize (pg (ln u)).map yA=B at *;generalize RW Y=W at *;by_cases G:(ln u:Int)=sf
     .by_cases I:0<sg
      .rw[zA5 ⟨G,I⟩]at z;subst z;exact ng cg
      .rw[Os (λh=>I h.2)]at z;subst z;exact ly
     .rw[Os (λh=>G h.1)]at z;subst z;exact ly
    have cv:=EJ (u.getD i dd);rw[C i zB]at cv;have hy:=zJ iA u i zB;have hS:=O i;have a9:=zA yA (RW (u.getD i dd));have ba:=aW (u.getD i dd);have ag:(S (i+1)).map yA=(pg i).map yA++(RW (u.getD i dd)).map yA:=by rw[hS,zBd]
    rw[ag];clear hS hg R L M O ap ag c1 c2 c3 C hz a6;generalize (pg (ln u)).map yA=E,(S i).map yA=A,(pg i).map yA=B,RW (u.getD i dd)=V at *;generalize u.getD i dd=a at *;generalize RW Y=W at *;by_cases G:(i:Int)=sf
    .by_cases I:0<sg
     .rw[zA5 ⟨G,I⟩]at z;subst z;refine yJ (xW cg cv) ?_;exact⟨zB,rfl⟩
     .rw[Os (λh=>I h.2)]at z;subst z;refine zS cv ?_;exact⟨zB,rfl⟩
    .rw[Os (λh=>G h.1)]at z;subst z;refine zS cv ?_;exact⟨zB,rfl⟩
   .rintro st' ⟨hik,rfl⟩;exfalso;omega
def Ov (k:Int) (f:Nat):Prop:=(k=2/\f=3)\/(k=3/\f=1)\/(k=4/\f=2)\/(k=5/\f=1)
def F9 (m:Ms) (f:Nat):Prop:=ln m.tok=10/\m.data=[]/\m.args.length=f/\∀i,i<f->Vj (m.args.getD i dd)=true
def Wp (m:Ms) (A:Pv m):∃b:Bool,zO 123 [zX m] [] (bA b) []/\∀f,Ov m.kind f->(b=true↔F9 m f):=by
 obtain⟨xs,e,z,c,h⟩:=Xp m A
 rcases z with rfl|rfl
 .refine⟨true,?_,λf u=>⟨λ_=>(h f u).1 Z,λ_=>rfl⟩⟩;clear h;refine eM call123 λF hF=>?_
  exact ng c
 .refine⟨false,?_,λf u=>⟨λh1=>absurd h1 zBm,λh1=>absurd ((h f u).2 h1) xA⟩⟩;clear h;refine eM call123 λF hF=>?_
  exact ng c
def oa:Nat->Int->List Int
 |0,n=>[n]
 |z+1,n=>if 128<=n then(n % 128+128)::oa z (n/128)else [n]
theorem OM:∀z n,(oa z n).length<=z+1
 |0,n=>zBb _
 |z+1,n=>by
  unfold oa;split
  .have:=OM z (n/128);simp only[zBl];omega
  .simp
def Nv (z:Nat) (n:Int) (h:n<128):oa z n=[n]:=by
 cases z with
 |zero=>rfl
 |succ z=>unfold oa;rw[Os zB]
def Vp:Nat->Int->Int
 |0,_=>0
 |z+1,n=>if 128<=n then 1+Vp z (n/128)else 0
theorem EF:∀z n,0<=Vp z n/\Vp z n<=z
 |0,n=>⟨zDg _,zDg _⟩
 |z+1,n=>by
  unfold Vp;split
  .have:=EF z (n/128);omega
  .omega
def Mv (z:Nat) (n:Int) (h:n<128):Vp z n=0:=by
 cases z with
 |zero=>rfl
 |succ z=>unfold Vp;rw[Os zB]
def Up (x:Int) (u:0<=x) (h1:x<=4294967295):x.tdiv 128=x/128/\aG .i64 (x.tdiv 128):=by grind [aG]
def Lv (n:Int) (h1:0<=n) (h2:n<=4294967295):∃k:Int,1<=k/\zO 201 [iA n] [] (iA k) []:=by
 refine⟨1+Vp 5 n,by have:=EF 5 n;omega,?_⟩;have G:=EF 5 n;refine eM call201 λF hF=>?_
 refine WW ?_;refine gE (5) [] [] [] [0,3] Z (λA T U L=>∃(x:Int) (k:Int),(0<=x/\x<=4294967295/\x<P7 A*128/\k+Vp A x=1+Vp 5 n/\1<=k)/\L=⟨(0,iA x)::(3,iA k)::T,U⟩) ?_;(conv=>whnf);refine⟨?_,?_⟩
 .exact⟨n,1,⟨h1,h2,by show n<34359738368*128;omega,rfl,zDg _⟩,rfl⟩
 .rintro A st ⟨x,k,⟨b1,b1',b2,b3,b4⟩,rfl⟩;by_cases I:128<=x
  .have O:A≠0:=λe=>by
    subst e;have:P7 0=1:=rfl;omega
   obtain⟨z,rfl⟩:∃z,A=z+1:=⟨A-1,zB⟩;obtain⟨e,M⟩:=Up x b1 b1';have C:P7 (z+1)=128*P7 z:=rfl
   have B:Vp (z+1) x=1+Vp z (x/128):=by
    show(if 128<=x then _ else _)=_
    rw[zA5 I]
   rw[B,<-e]at b3;have u:0<=x.tdiv 128/\x.tdiv 128<=4294967295/\x.tdiv 128<P7 z*128:=by rw[e];rw[C]at b2;omega
   have E:=EF z (x.tdiv 128);clear B C e b2;refine WW ?_;exact⟨z,zB,x.tdiv 128,k+1,⟨u.1,u.2.1,u.2.2,zB,zB⟩,rfl⟩
  .rw[Mv A x zB,Int.add_zero]at b3;rw[<-b3];exact ly
def Q4 (n:Int) (h1:0<=n) (h2:n<=4294967295):zO 143 [iA n] [] (.tup [zE yA (oa 5 n),iA 0]) []:=by
 obtain⟨k,hk,c⟩:=Lv n h1 h2;refine eM call143 λF hF=>?_
 refine zS c ?_;refine zQ 4 1001 1 Z Z Z ?_;refine gE (5) [1001] [] [] [0,4] Z (λB T U W=>∃(u:List Int) (x:Int),(0<=x/\x<=4294967295/\x<P7 B*128/\u++oa B x=oa 5 n/\u.length<=100)/\W=⟨(0,iA x)::(4,.ref 1001 0 (u.map yA).length)::T,(1001,.arr 1 (u.map yA) true)::U⟩) ?_;(conv=>whnf);refine⟨?_,?_⟩
 .exact⟨[],n,⟨h1,h2,by show n<34359738368*128;omega,rfl,by simp⟩,rfl⟩
 .rintro B st ⟨u,x,⟨b1,b1',b2,b3,b4⟩,rfl⟩;have R:=zA yA u;by_cases V:128<=x
  .have hz:B≠0:=λe=>by
    subst e;have:P7 0=1:=rfl;omega
   obtain⟨z,rfl⟩:∃z,B=z+1:=⟨B-1,zB⟩;obtain⟨e,hq⟩:=Up x b1 b1';have C:=zCg (a:=x) (b:=128) b1;have M:P7 (z+1)=128*P7 z:=rfl
   have L:oa (z+1) x=(x % 128+128)::oa z (x/128):=by
    show(if 128<=x then _ else _)=_
    rw[zA5 V]
   rw[L]at b3;have I:(u++[x.tmod 128+128]).map yA=u.map yA++[yA (x.tmod 128+128)]:=by simp
   have E:u++[x.tmod 128+128]++oa z (x.tdiv 128)=oa 5 n:=by rw[e,C,zBy];exact b3
   have S:0<=x.tmod 128/\x.tmod 128<=127:=by rw[C];omega
   have A:0<=x.tdiv 128/\x.tdiv 128<=4294967295/\x.tdiv 128<P7 z*128:=by rw[e];rw[M]at b2;omega
   have G:ln u+1<=100:=by
    have O:=zBq List.length b3;have Y:=OM 5 n;simp only[zBa,zBl]at O;omega
   clear L b3 M e C;refine WW ?_;exact⟨z,zB,u++[x.tmod 128+128],x.tdiv 128,⟨A.1,A.2.1,A.2.2,E,by simpa using G⟩,by rw[I];rfl⟩
  .rw[Nv B x zB]at b3;rw[<-b3];have I:zE yA (u++[x])= .sl false ((u.map yA++[yA (x)]).take (u.map yA++[yA (x)]).length):=by rw[zA8];unfold zE;rw[zBd];rfl
   rw[I];exact ly
def Kv (tok args:List Int):Nat->List Int
 |0=>tok
 |i+1=>Kv tok args i++oa 5 (args.getD i dd)
theorem fg (tok args:List Int):∀i,(Kv tok args i).length<=ln tok+6*i
 |0=>by show (ln tok)<=_;omega
 |i+1=>by
  have:=fg tok args i;have h2:=OM 5 (args.getD i dd);unfold Kv;simp only[zBa];omega
def r5A (f:Int):AV:= .agg [iA f,iA 0,iA 0,iA 0,iA 0]
def Tp (k:Int) (f:Nat) (u:Ov k f):zO 141 [iA k] [] (r5A f) []:=by
 rcases u with⟨rfl,rfl⟩|⟨rfl,rfl⟩|⟨rfl,rfl⟩|⟨rfl,rfl⟩
 all_goals
  refine eM call141 λF hF=>?_
  exact ly
def Jv (k:Int) (h1:1<=k) (h2:k<=12):zO 142 [iA k] [] (bA true) []:=by
 refine eM call142 λF hF=>?_
 exact ly
def Iv (m:Ms) (f:Nat) (S:Ov m.kind f) (h:F9 m f):∃xs:List AV,ln xs<=200/\zO 70 [zX m] [] (.sl false xs) []:=by
 obtain⟨h1,h2,h3,O⟩:=h;have M:=Tp m.kind f S;have ac:f<=3/\1<=f:=by unfold Ov at S;omega
 obtain⟨Y,z,u,da⟩:=m;dsimp only at *;subst h2;have G:=fg z u;refine⟨((Kv z u f).map yA++[]).take ((Kv z u f).map yA++[]).length,by have:=G f;simp;omega,?_⟩;have au:=zA yA z;have ap:=zA iA u;have C:Kv z u 0=z:=rfl;have E:∀i:Nat,Kv z u (i+1)=Kv z u i++oa 5 (u.getD i dd):=λ_=>rfl
 generalize Kv z u=B at *;rw[show zX ⟨Y,z,u,[]⟩= .agg [iA Y,zE yA z,zE iA u,zE yA []]from Z];rw[show r5A f= .agg [iA f,iA 0,iA 0,iA 0,iA 0]from Z]at M;clear S;refine eM call70 λF hF=>?_
 (have ga:=M;(repeat' (first|refine uT ?_|apply yW|apply xH|intro hc|(apply zG;first|(apply yE;refine xE 1001 tok Z Z Z Z Z Z (yM _ _ (λ_=>rfl)) Z Z Z zB Z Z Z ?_))|fail))<;>clear ga)
 refine vQ 1001 Z ?_;refine yU (ln u) [1001,1,3] [1,3] [1,3,16,17] [4,18,1,3,16,17] Z (λi T U zs=>(i<=ln u)/\zs=⟨(4,.ref 1001 0 ((B i).map yA).length)::(18,iA i)::T,(1001,.arr 1 ((B i).map yA) true)::U⟩) (Lp ?_ ?_ ?_)
 .refine⟨zBn _,?_⟩;rw[C];rfl
 .rintro i st' hi ⟨hik,rfl⟩;have L:=O i zB;unfold Vj at L;rw[zBc]at L;have cv:=Q4 (u.getD i dd) L.1 L.2;have hy:=zJ iA u i hi;have R:=G i;have W:=zA yA (B i);have av:=zA yA (oa 5 (u.getD i dd));have ax:=OM 5 (u.getD i dd);have I:(B (i+1)).map yA=(B i).map yA++(oa 5 (u.getD i dd)).map yA:=by rw[E,zBd]
  rw[I];clear E G C I M L O;generalize (B i).map yA=A,oa 5 (u.getD i dd)=V at *;generalize u.getD i dd=a at *;refine zS cv ?_;exact⟨zB,rfl⟩
 .rintro st' ⟨hik,rfl⟩;subst h3;have R:=G (ln u);have W:=zA yA (B (ln u));clear E G C O M;generalize (B (ln u)).map yA=A at *;have ag:(([]:List Int).map yA).length=0:=rfl;exact ly
def Vi (m:Ms) (O:Pv m) (f:Nat) (M:Ov m.kind f):∃b:Bool,zO 69 [zX m] [] (bA b) []/\(b=true↔F9 m f):=by
 have C:=Tp m.kind f M;have hk:2<=m.kind/\m.kind<=5:=by unfold Ov at M;omega
 have G:=Jv m.kind zB zB;have E:=Iv m f M;have b1:=O.t;have b2:=O.a;have b3:=O.d;have ar:=zA yA m.tok;have ag:=zA iA m.args;have ap:=zA yA m.data;have Y:f<=3/\1<=f:=by unfold Ov at M;omega
 rw[show r5A f= .agg [iA f,iA 0,iA 0,iA 0,iA 0]from Z]at C;by_cases h1:ln m.tok=10
 case neg=>
  refine⟨false,?_,λh=>absurd h zBm,λh=>absurd h.1 h1⟩;clear E;refine eM call69 λF hF=>?_
  exact mx (xW C G)
 by_cases h2:ln m.args=f
 case neg=>
  refine⟨false,?_,λh=>absurd h zBm,λh=>absurd h.2.2.1 h2⟩;clear E;refine eM call69 λF hF=>?_
  exact mx (xW C G)
 by_cases L:ln m.data=0
 case neg=>
  refine⟨false,?_,λh=>absurd h zBm,λh=>absurd (by rw[h.2.1];rfl) L⟩;clear E;refine eM call69 λF hF=>?_
  exact mx (xW C G)
 have L:=zB5 L
 rcases Yp m.args (ln m.args) (zBb _)with⟨k,ac,u,I⟩|z
 .refine⟨false,?_,λh=>absurd h zBm,λh=>?_⟩
  case refine_2=>
   have:=h.2.2.2 k zB;rw[u]at this;cases this
  clear E;refine eM call69 λF hF=>?_
  refine yJ (xW C G) ?_;refine yU (ln m.args) [1] [1] [1,97,98] [99,1,97,98] Z (λi T U zs=>(i<=k)/\zs=⟨(99,iA i)::T,U⟩) (Lp ?_ ?_ ?_)
  .exact⟨zBn _,rfl⟩
  .rintro i st' hi ⟨hik,rfl⟩;have hy:=zJ iA m.args i hi;by_cases e:i=k
   .subst e;unfold Vj at u;rw[zBi]at u;generalize m.args.getD i dd=a at *;by_cases W:0<=a
    .have g2:¬a<=4294967295:=λh=>u ⟨W,h⟩
     clear u;exact ly
    .clear u;exact ly
   .have A:=I i zB;unfold Vj at A;rw[zBc]at A;obtain⟨R,S⟩:=A;clear u I;generalize m.args.getD i dd=a at *;refine WW ?_;exact⟨zB,rfl⟩
  .rintro st' ⟨hik,rfl⟩;exfalso;omega
 .have B:F9 m f:=⟨h1,L,h2,λi hi=>z i zB⟩;obtain⟨xs,hx,V⟩:=E B;refine⟨true,?_,λ_=>B,λ_=>rfl⟩;clear B E;rw[show zX m= .agg [iA m.kind,zE yA m.tok,zE iA m.args,zE yA m.data]from Z]at *; refine eM call69 λF hF=>?_
  refine yJ (xW C G) ?_;refine zN (ln m.args) [1] [1] [1,97,98] [99,1,97,98] Z (λi T U=>⟨(99,iA i)::T,U⟩) (Lq ?_ ?_)
  .intro i hi;have hy:=zJ iA m.args i hi;have A:=z i hi;unfold Vj at A;rw[zBc]at A;obtain⟨R,S⟩:=A;clear z;generalize m.args.getD i dd=a at *;refine WW ?_;rfl
  .exact ng V
def sa (l:List Vh) (id:Int):∃k,k<=ln l/\(∀i,i<k->(l.getD i dd).id<id)/\(k<ln l->¬(l.getD k dd).id<id):=by
 induction l with
 |nil=>exact⟨0,zBb _,λi h=>absurd h (zC3 _),λh=>absurd h zV⟩
 | cons x l z=>
  obtain⟨k,h1,h2,A⟩:=z;by_cases u:x.id<id
  .refine⟨k+1,by simpa using h1,λi hi=>?_,λhk=>?_⟩
   .cases i with
    |zero=>exact u
    |succ i=>exact h2 i zB
   all_goals grind
  .exact⟨0,zBn _,λi h=>absurd h (zC3 _),λ_=>u⟩
def Ky {l:List Vh}:LI l=true↔l.length<=8/\∀i,i<ln l->(0<=(l.getD i dd).id/\(l.getD i dd).id<=4294967295/\0<=(l.getD i dd).cls/\(l.getD i dd).cls<=3)/\(0<i->(l.getD (i-1) dd).id<(l.getD i dd).id):=by
 unfold LI;simp only[zBg,zBc,zBk,zBu]
 grind [LI,aC]
def gN (n a b:Int):zO 154 [iA n,iA a,iA b] [] (bA (uH n a b)) []:=by
 (cases hb:uH n a b with|false=>((refine eM call154 λF hF=>?_);((refine WW (I2 (λhc=>?_) λhc=>?_)));all_goals (first|exact zH|(simp only[uH,zBi]at hb;first|exact NW|exact PY)))|true=>(simp only[uH,zBc]at hb;(refine eM call154 λF hF=>?_);((refine WW ?_));all_goals (first|exact zH|exact NW|exact PY)))
def Jy (a:Ag):Bool:=a.lim.all λn=>uH n 0 8
def Ui (a:Ag):Bool:=decide ((ln a.sec:Int)=8/\(ln a.lim:Int)=4)&&(Jy a&&(uH a.rights 0 63&&(uH a.cls 0 3&&(uH a.req 0 4&&(uH a.ses 1 2&&(uH a.burst 0 1000&&uH a.rate 0 a.burst))))))
def Iy {a:Ag} (h:∀s:Nat,s<ln a.lim->uH (a.lim.getD s dd) 0 8=true):Jy a=true:=by grind [uH,Jy,List.all_eq_true,List.getElem_of_mem,List.getD]
def Hy {a:Ag} {i:Nat} (hi:i<ln a.lim) (h:uH (a.lim.getD i dd) 0 8=false):Jy a=false:=by grind [uH,Jy]
def Hv (a:Ag):Ui a=true↔Sy a:=by
 unfold Ui Jy uH;simp only[zBg,zBc,zBk];constructor
 .rintro⟨⟨h1,h2⟩,u,z,A,B,C,E,G⟩;exact⟨h1,h2,u,z,A,B,C,E,G⟩
 .rintro⟨h1,h2,u,z,A,B,C,E,G⟩
  grind
def Ti (a:Ag):zO 150 [vP a] [] (bA (Ui a)) []:=by
 have G:=zA yA a.sec;have hl:=zA iA a.lim;have u:=fU a.rights 0 63;have z:=fU a.cls 0 3;have A:=fU a.req 0 4;have C:=fU a.ses 1 2;have L:=fU a.burst 0 1000;have M:=fU a.rate 0 a.burst;by_cases h1:(ln a.sec:Int)=8/\(ln a.lim:Int)=4
 case neg=>
  have e:Ui a=false:=by unfold Ui;rw[zA7 h1];rfl
  rw[e];by_cases Y:(ln a.sec:Int)=8
  all_goals
   (refine eM call150 λF hF=>?_)
   exact ly
 obtain⟨h1,h2⟩:=h1
 have e:Ui a=(Jy a&&(uH a.rights 0 63&&(uH a.cls 0 3&&(uH a.req 0 4&&(uH a.ses 1 2&&(uH a.burst 0 1000&&uH a.rate 0 a.burst)))))):=by
  unfold Ui;rw[zA9 ⟨h1,h2⟩,zBh]
 rw[e];refine eM call150 λF hF=>?_
 refine WW ?_;refine yU (ln a.lim) [1] [1] [1,16,17] [18,1,16,17] Z (λi T U W=>(∀s:Nat,s<i->uH (a.lim.getD s dd) 0 8=true)/\W=⟨(18,iA i)::T,U⟩) (Lp ?_ ?_ ?_)
 .exact⟨λs G=>absurd G (zC3 _),rfl⟩
 .rintro i st hi ⟨hp,rfl⟩;have hy:=zJ iA a.lim i hi;have c:=fU (a.lim.getD i dd) 0 8
  cases B:uH (a.lim.getD i dd) 0 8 with
  | true=>
   rw[B]at c
   have E:∀s:Nat,s<i+1->uH (a.lim.getD s dd) 0 8=true:=λs G=>by
    by_cases I:s=i
    .subst I;assumption
    .exact hp s zB
   clear B hp;generalize O:a.lim.getD i dd=x at *;clear O;refine zS c ?_;exact⟨E,rfl⟩
  |false=>
   rw[B]at c;rw[Hy hi B,zB8];generalize a.lim.getD i dd=x at *;exact ng c
 .rintro st ⟨hp,rfl⟩;rw[Iy hp,zBh];clear hp;generalize uH a.rights 0 63=q1 at *;generalize uH a.cls 0 3=R at *;generalize uH a.req 0 4=S at *;generalize uH a.ses 1 2=q4 at *;generalize uH a.burst 0 1000=V at *;generalize uH a.rate 0 a.burst=q6 at *;cases q1
  .exact ng u
  cases R
  .exact mx (xW u z)
  cases S
  .exact mx (qM u z A)
  cases q4
  .exact mx (cM u z A C)
  cases V
  .exact mx (NV u z A C L)
  .exact mx (Zb u z A C L M)
def TX (l:List Vh) (hn:ln l<=1000000):zO 373 [zE wX l] [] (bA (LI l)) []:=by
 have hl:=zA wX l;by_cases S:(ln l:Int)<=8
 case neg=>
  have e:LI l=false:=by unfold LI;rw[zA7 S,zC6]
  rw[e];refine eM call373 λF hF=>?_
  exact ly
 refine eM call373 λF hF=>?_
 refine WW ?_;refine yU (ln l) [] [] [0,8,9] [10,0,8,9] Z (λi T U zs=>(∀s:Nat,s<i->aC l s=true)/\zs=⟨(10,iA i)::T,U⟩) (Lp ?_ ?_ ?_)
 .exact⟨λs V=>absurd V (zC3 _),rfl⟩
 .rintro i st hi ⟨hp,rfl⟩
  have z:aC l i=true->∀s:Nat,s<i+1->aC l s=true:=λh s V=>by
   by_cases R:s=i
   .subst R;exact h
   .exact hp s zB
  have A:=λh=>Pp (l:=l) hi h
  have hy:=zJ wX l i hi;have u:aC l i=_:=rfl
  conv at u=>rhs;unfold aC
  by_cases C:0<i
  .have B:=yF wX l ((i:Int)-1) zB zB;rw[show((i:Int)-1).toNat=i-1 by omega]at B;have ac:(l.map wX)[((i:Int)-1).toNat]? =some (wX (l.getD (i-1) dd)):=by rw[show((i:Int)-1).toNat=i-1 by omega];exact B
   clear B;generalize l.getD i dd=t,l.getD (i-1) dd=p,aC l i=tk at *;by_cases h1:0<=t.id/\t.id<=4294967295/\0<=t.cls/\t.cls<=3/\p.id<t.id
   .obtain⟨h1,h2,M,O,Y⟩:=h1;rw[zA9 ⟨h1,h2,M,O,λ_=>Y⟩]at u;refine WW ?_;exact⟨z u,rfl⟩
   .rw[zA7 (λh=>h1 ⟨h.1,h.2.1,h.2.2.1,h.2.2.2.1,h.2.2.2.2 C⟩)]at u;rw[A u]
    by_cases E:0<=t.id<;>by_cases G:t.id<=4294967295<;>by_cases I:0<=t.cls<;>by_cases L:t.cls<=3<;>by_cases W:p.id<t.id<;>first|(exfalso;exact h1 ⟨E,G,I,L,W⟩)|(exfalso;omega;done)|(clear h1;((refine WW ?_));exact zH)
  .obtain rfl:i=0:=by omega
   generalize l.getD 0 dd=t,aC l 0=tk at *;by_cases h1:0<=t.id/\t.id<=4294967295/\0<=t.cls/\t.cls<=3
   .obtain⟨h1,h2,M,O⟩:=h1;rw[zA9 ⟨h1,h2,M,O,λh=>absurd h C⟩]at u;refine WW ?_;exact⟨z u,rfl⟩
   .rw[zA7 (λh=>h1 ⟨h.1,h.2.1,h.2.2.1,h.2.2.2.1⟩)]at u;rw[A u]
    by_cases E:0<=t.id<;>by_cases G:t.id<=4294967295<;>by_cases I:0<=t.cls<;>by_cases L:t.cls<=3<;>first|(exfalso;exact h1 ⟨E,G,I,L⟩)|(exfalso;omega;done)|(clear h1;((refine WW ?_));exact zH)
 .rintro st ⟨hp,rfl⟩;have e:((List.range (ln l)).all λi=>aC l i)=true:=zBk.2 λi hi=>hp i (zBu.1 hi)
  unfold LI;rw[e,zBh];rw[zA9 S];exact ly
def IU (a:Ag):zO 156 [vP a] [] (bA (Ui a)) []:=by
 have I:=zA yA a.sec;have hl:=zA iA a.lim;have u:=gN a.rights 0 63;have z:=gN a.cls 0 3;have A:=gN a.req 0 4;have B:=gN a.ses 1 2;have E:=gN a.burst 0 1000;have M:=gN a.rate 0 a.burst;have e:Ui a=(decide ((ln a.sec:Int)=8/\(ln a.lim:Int)=4)&&(Jy a&&(uH a.rights 0 63&&(uH a.cls 0 3&&(uH a.req 0 4&&(uH a.ses 1 2&&(uH a.burst 0 1000&&uH a.rate 0 a.burst))))))):=rfl;rw[e];generalize uH a.rights 0 63=q1,uH a.cls 0 3=R,uH a.req 0 4=S,uH a.ses 1 2=q4,uH a.burst 0 1000=V,uH a.rate 0 a.burst=q6 at *;clear e;by_cases h1:(ln a.sec:Int)=8
 case neg=>
  rw[zA7 (λh=>h1 h.1),zB8];refine eM call156 λF hF=>?_
  exact ly
 cases q1 with
 |false=>
  rw[zB8,zC6,zC6];refine eM call156 λF hF=>?_
  exact ng u
 |true=>
 cases R with
 |false=>
  rw[zB8,zC6,zC6,zC6];refine eM call156 λF hF=>?_
  exact mx (xW u z)
 |true=>
 by_cases h2:(ln a.lim:Int)=4
 case neg=>
  rw[zA7 (λh=>h2 h.2),zB8];refine eM call156 λF hF=>?_
  exact mx (xW u z)
 rw[zA9 ⟨h1,h2⟩,zBh,zBh,zBh];refine eM call156 λF hF=>?_
 refine yJ (xW u z) ?_;refine yU (ln a.lim) [1] [1] [1,28,29] [30,1,28,29] Z (λi T U W=>(∀s:Nat,s<i->uH (a.lim.getD s dd) 0 8=true)/\W=⟨(30,iA i)::T,U⟩) (Lp ?_ ?_ ?_)
 .exact⟨λs I=>absurd I (zC3 _),rfl⟩
 .rintro i st hi ⟨hp,rfl⟩;have Y:=zJ iA a.lim i hi;have c:=gN (a.lim.getD i dd) 0 8;clear u z A B E M
  cases C:uH (a.lim.getD i dd) 0 8 with
  | true=>
   rw[C]at c
   have G:∀s:Nat,s<i+1->uH (a.lim.getD s dd) 0 8=true:=λs I=>by
    by_cases L:s=i
    .subst L;assumption
    .exact hp s zB
   clear C hp;generalize O:a.lim.getD i dd=x at *;clear O;refine zS c ?_;exact⟨G,rfl⟩
  |false=>
   rw[C]at c;rw[Hy hi C,zB8];generalize a.lim.getD i dd=x at *;exact ng c
 .rintro st ⟨hp,rfl⟩;rw[Iy hp,zBh];clear hp u z;cases S
  .exact ng A
  cases q4
  .exact mx (xW A B)
  cases V
  .exact mx (qM A B E)
  .exact mx (cM A B E M)
def Sp (r:Rg):Bool:=decide (0<=r.num/\r.num<4)&&(Ui r.ag&&(PG r.tk&&(LI r.vh&&(jo r.bk&&decide (r.bk.rate=r.ag.rate/\r.bk.burst=r.ag.burst)))))
def YH (r:Rg) (hv:ln r.vh<=1000000):zO 343 [uR r] [] (bA (Sp r)) []:=by
 have u:=Ti r.ag;have z:=TK r.tk;have A:=TX r.vh hv;have B:=bo r.bk;unfold Sp;generalize Ui r.ag=q1,PG r.tk=G,LI r.vh=I,jo r.bk=q4 at *;by_cases h1:0<=r.num
 case neg=>
  rw[zA7 (λh=>h1 h.1)];refine eM call343 λF hF=>?_
  exact ly
 by_cases h2:r.num<4
 case neg=>
  rw[zA7 (λh=>h2 h.2)];refine eM call343 λF hF=>?_
  exact ly
 rw[zA9 ⟨h1,h2⟩]
 cases q1 with
 |false=>
  refine eM call343 λF hF=>?_
  exact ng u
 |true=>
 cases G with
 |false=>
  refine eM call343 λF hF=>?_
  exact mx (xW u z)
 |true=>
 cases I with
 |false=>
  refine eM call343 λF hF=>?_
  exact mx (qM u z A)
 |true=>
 cases q4 with
 |false=>
  refine eM call343 λF hF=>?_
  exact mx (cM u z A B)
 |true=>
 by_cases C:r.bk.rate=r.ag.rate
 case neg=>
  rw[zA7 (λh=>C h.1)];refine eM call343 λF hF=>?_
  exact mx (cM u z A B)
 by_cases E:r.bk.burst=r.ag.burst
 .rw[zA9 ⟨C,E⟩];refine eM call343 λF hF=>?_
  refine yJ (cM u z A B) ?_
  all_goals (first|exact zH|exact PY)
 .rw[zA7 (λh=>E h.2)];refine eM call343 λF hF=>?_
  refine yJ (cM u z A B) ?_
  all_goals (first|exact zH|exact PY)
def aB (r:Rg) (hv:ln r.vh<=1000000):zO 328 [uR r] [] (bA (Sp r)) []:=by
 have u:=IU r.ag;have z:=RM r.tk;have A:=RT r.vh hv;have B:=bi r.bk;unfold Sp;rw[Ef];generalize Ui r.ag=q1,aT r.tk=G,LI r.vh=I,jo r.bk=q4 at *;by_cases h1:0<=r.num
 case neg=>
  rw[zA7 (λh=>h1 h.1)];refine eM call328 λF hF=>?_
  exact ly
 by_cases h2:r.num<4
 case neg=>
  rw[zA7 (λh=>h2 h.2)];refine eM call328 λF hF=>?_
  exact ly
 rw[zA9 ⟨h1,h2⟩]
 cases q1 with
 |false=>
  refine eM call328 λF hF=>?_
  exact ng u
 |true=>
 cases G with
 |false=>
  refine eM call328 λF hF=>?_
  exact mx (xW u z)
 |true=>
 cases I with
 |false=>
  refine eM call328 λF hF=>?_
  exact mx (qM u z A)
 |true=>
 cases q4 with
 |false=>
  refine eM call328 λF hF=>?_
  exact mx (cM u z A B)
 |true=>
 by_cases C:r.bk.rate=r.ag.rate
 case neg=>
  rw[zA7 (λh=>C h.1)];refine eM call328 λF hF=>?_
  exact mx (cM u z A B)
 by_cases E:r.bk.burst=r.ag.burst
 .rw[zA9 ⟨C,E⟩];refine eM call328 λF hF=>?_
  refine yJ (cM u z A B) ?_
  all_goals (first|exact zH|exact PY)
 .rw[zA7 (λh=>E h.2)];refine eM call328 λF hF=>?_
  refine yJ (cM u z A B) ?_
  all_goals (first|exact zH|exact PY)
