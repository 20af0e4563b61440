/- Part 14. -/
import Derived.Test.YtaglbcjljlkjcaaGreatU13
import Derived.Scope
namespace Go.Proofs.YtaglbcjljlkjcaaGreat.Av
open Tryz
set_option linter.all false
set_option maxRecDepth 4000
set_option maxHeartbeats 4000000
open List renaming length->ln,replicate->pi,range->py,getD->p5
open Inhabited renaming default->dd
variable {c:Code}{l:List Vh}
def MW (l:List Vh) (id:Int) (I:ln l<=1000000) (k:Nat) (L:k<=ln l) (C:∀i,i<k->(l.getD i dd).id<id) (E:k<ln l->¬(l.getD k dd).id<id):zN 379 [zE vC l,iA id] [] (iA k) []:=by
 have A:=zA vC l;refine eM call379 λF hF=>?_
 refine WW ?_;refine yU (ln l+1) [] [] [0,1] [5,0,1] Z (λi T U G=>(i<=k)/\G=⟨(5,iA i)::T,U⟩) (Lp ?_ ?_ ?_)
 .exact⟨zBb _,rfl⟩
 .rintro i st hi ⟨hik,rfl⟩;by_cases z:i<k
  .have B:=zJ vC l i zB;have hh:=C i z;generalize l.getD i dd=x at *;refine WW ?_;exact⟨zB,rfl⟩
  .obtain rfl:i=k:=by omega
   by_cases u:i<ln l
   .have B:=zJ vC l i u;have hh:=E u;generalize l.getD i dd=x at *;exact mx
   .exact mx
 .rintro st ⟨hik,rfl⟩;exfalso;omega
def AR (l:List Vh) (c:Int) (B:ln l<=1000000):zN 395 [zE vC l,iA c] [] (iA (uX l c)) []:=by
 have hl:=zA vC l;refine eM call395 λF hF=>?_
 refine WW ?_;refine zU (l) [] [] [1,8,9] [5,10,1,8,9] Z (λi ga T U=>⟨(5,iA (uX ga c))::(10,iA i)::T,U⟩) (Lq ?_ ?_)
 .intro i ga x post u hi;have C:=yJ vC u hi;have A:=zW u hi;have z:uX ga c<=i:=by rw[<-hi];exact zCj _ _
  have e:uX (ga++[x]) c=uX ga c+(if x.cls=c then 1 else 0):=by
   unfold uX;rw[zFt,zAx];by_cases h:x.cls=c
   all_goals simp[h]
  clear u;by_cases h:x.cls=c
  .rw[zAs h]at e;rw[e];generalize uX ga c=m at *;refine WW ?_;rfl
  .rw[Os h,zDi]at e;rw[e];generalize uX ga c=m at *;refine WW ?_;rfl
 .exact mx
def AS (a:Ag) (c:Int) (u:0<=c) (h1:c<ln a.lim):zN 396 [uF a,iA c] [] (iA (a.lim.getD c.toNat dd)) []:=by
 have z:=zA iA a.lim;have A:=yE iA a.lim c u h1;refine eM call396 λF hF=>?_
 exact mx
def jy (a:Ag) (c:Int):Ag:=⟨a.sec,a.rights,c,a.lim,a.req,a.ses,a.rate,a.burst⟩
theorem Uo (hv:LB l=true):∀j,j<ln l->∀i,i<j->(l.getD i dd).id<(l.getD j dd).id
 |0,_,i,hi=>absurd hi (zCp _)
 |j+1,hj,i,hi=>by
  have h1:=((oy.1 hv).2 (j+1) hj).2 zB;rw[Nat.add_sub_cancel]at h1;by_cases h:i=j
  .subst h;exact h1
  .have:=Uo hv j zB i zB;omega
theorem RL {id:Int} (hv:LB l=true) {k:Nat} (C:k<=ln l) (E:∀i,i<k->(l.getD i dd).id<id) (G:k<ln l->¬(l.getD k dd).id<id):XQ l id=true↔k<ln l/\(l.getD k dd).id=id:=by
 constructor
 .intro h;obtain⟨x,A,u⟩:=zCl.1 h;obtain⟨i,hi,rfl⟩:=zDa A;rw[zB8]at u;have z:l.getD i dd=l[i]:=by simp[p5,hi]
  rw[<-z]at u;by_cases h1:i<k
  .grind
  .have hk:k<ln l:=by omega
   by_cases h2:i=k
   .grind
   .have B:=Uo hv i hi k zB
    grind
 all_goals grind [LB,XQ]
theorem AT (l:List Vh) (W:ln l<=1000000) (a:Ag) (ac:(ln a.lim:Int)=4) (ar:a.cls<=3) (v:Vh) (hv:LB l=true) (h1:0<=v.id) (h2:v.id<=4294967295) (h3:0<=v.cls) (h4:v.cls<=a.cls) (I:XQ l v.id=false) (h5:(uX l v.cls:Int)<a.lim.getD v.cls.toNat dd) (h6:ln l<8)
  (k:Nat) (k1:k<=ln l) (Y:∀i,i<k->(l.getD i dd).id<v.id) (k3:k<ln l->¬(l.getD k dd).id<v.id):zN 378 [zE vC l,uF a,vC v] [] (.tup [zE vC (l.take k++v::l.drop k),iA 0]) []:=by
 have ax:=zA vC l;have av:=zA iA a.lim;have O:=TP l W;have c3:=MW l v.id W k k1 Y k3;have c4:=AR l v.cls W;have c5:=AS a v.cls h3 zB
 have G:k<ln l->(l.getD k dd).id≠v.id:=λhk e=>by
  rw[(RL hv k1 Y k3).2 ⟨hk,e⟩]at I;cases I
 rw[hv]at O;clear hv I Y k3
 have au:(uX l v.cls:Int)<=1000000:=by
  have:uX l v.cls<=ln l:=zCj _ _;omega
 generalize (uX l v.cls:Int)=cn,a.lim.getD v.cls.toNat dd=az at *;have V:((l.take (k:Int).toNat).map vC).length=k:=by simp;omega
 have U:((l.drop (k:Int).toNat).map vC).length=ln l-k:=by simp
 obtain⟨N,hN⟩:∃N,N=ln l+1:=⟨_,rfl⟩;have L:((l.map vC).length:Int)+1=(N:Int):=by omega
 obtain⟨E,A,ag⟩:∃E,E=(l.take k).map vC++pi (ln l+1-k) (AV.agg [.s (.int .i64 0),.s (.int .i64 0)])/\E.length=ln l+1:=⟨_,rfl,by simp;omega⟩
 have C:(pi N (AV.agg [.s (.int .i64 0),.s (.int .i64 0)])).take 0++(l.take (k:Int).toNat).map vC++(pi N (AV.agg [.s (.int .i64 0),.s (.int .i64 0)])).drop (0+((l.take (k:Int).toNat).map vC).length)=E:=by
  rw[A,V,hN];simp
 have ap:E[(k:Int).toNat]? =some (AV.agg [.s (.int .i64 0),.s (.int .i64 0)]):=by
  rw[A,zBy qB];rw[zC9,zAs qB]
 have u:(E.set (k:Int).toNat (.agg [iA v.id,iA v.cls])).take ((k:Int)+1).toNat++(l.drop (k:Int).toNat).map vC++(E.set (k:Int).toNat (.agg [iA v.id,iA v.cls])).drop (((k:Int)+1).toNat+((l.drop (k:Int).toNat).map vC).length)=(l.take k++v::l.drop k).map vC:=by
  have e1:E.set (k:Int).toNat (.agg [iA v.id,iA v.cls])=(l.take k++[v]).map vC++pi (ln l-k) (AV.agg [.s (.int .i64 0),.s (.int .i64 0)]):=by
   rw[A,zEs _ _ qB,show (ln l)+1-k=(ln l-k)+1 by omega,zFk];rw[show(k:Int).toNat-((l.take k).map vC).length=0 by simp;omega];simp[vC]
  have S:((l.take k++[v]).map vC).length=k+1:=by simp;omega
  have e2:((l.take k++[v]).map vC++pi (ln l-k) (AV.agg [.s (.int .i64 0),.s (.int .i64 0)])).drop (k+1+(ln l-k))=[]:=List.drop_of_length_le (by rw[zAx,S,zCk];exact zAy _);rw[e1,U,show((k:Int)+1).toNat=k+1 by omega,zC2 zB,zA2 zB,e2];simp
 clear A;obtain⟨M,B⟩:∃M,M=(l.take k++v::l.drop k).map vC:=⟨_,rfl⟩;have hz3l:ln M=ln l+1:=by rw[B];simp;omega
 rw[<-B]at u;rw[show zE vC (l.take k++v::l.drop k)= .sl false M by rw[B];rfl];clear B;rw[show vC v= .agg [iA v.id,iA v.cls]from Z]at *; by_cases hk:k<ln l
 .have hy:=zJ vC l k hk;have G:=G hk;generalize l.getD k dd=x at *;refine eM call378 λF hF=>?_
  (have gd:=O;have gn:=c3;have gt:=c4;have gv:=c5;(repeat' (first|refine uS ?_|apply yW|apply xH|intro hc|(apply zG;first|(apply fQ;refine We tok Z Z Z Z Z Z Z Z Z Z Z Z L zB zB Z Z Z ?_)|(refine vy tok Z Z Z Z Z Z Z (yM _ _ (λ_=>rfl)) Z zB (by first|exact C|exact u) Z ?_)|(apply gY;refine dM tok Z Z Z Z Z Z Z zB zB Z ?_))|fail))<;>clear gd gn gt gv)
  exact zI [] Z Z (zBd (λz=>AV.tup [AV.sl false z,iA 0]) Sx) Z
 .clear G;refine eM call378 λF hF=>?_
  (have gd:=O;have gn:=c3;have gt:=c4;have gv:=c5;(repeat' (first|refine uS ?_|apply yW|apply xH|intro hc|(apply zG;first|(apply fQ;refine We tok Z Z Z Z Z Z Z Z Z Z Z Z L zB zB Z Z Z ?_)|(refine vy tok Z Z Z Z Z Z Z (yM _ _ (λ_=>rfl)) Z zB (by first|exact C|exact u) Z ?_)|(apply gY;refine dM tok Z Z Z Z Z Z Z zB zB Z ?_))|fail))<;>clear gd gn gt gv)
  exact zI [] Z Z (zBd (λz=>AV.tup [AV.sl false z,iA 0]) Sx) Z
theorem KP (l:List Vh) (W:ln l<=1000000) (a:Ag) (A:Int) (ag:(ln a.lim:Int)=4) (az:a.cls<=3) (v:Vh):∃(l':List Vh) (e:Int),((0<=e/\e<=100)/\(e≠0->l'=[]))/\(ln l'<=ln l+1/\l'.length<=8)/\zN 378 [zE vC l,uF (jy a (min a.cls A)),vC v] [] (.tup [zE vC l',iA e]) []/\zN 332 [zE vC l,uF a,vC v,iA A] [] (.tup [zE vC l',iA e]) []:=by
 have a5:=zA vC l;have a4:=zA iA a.lim;have p2:=TP l W;have S:=Ef l v.id W;have V:=RN l W;have c3:=yp l v.cls W;have p4:=AR l v.cls W;have ar:min a.cls A<=3:=by omega
 have a1:min a.cls A<=a.cls:=by omega
 obtain⟨k,k1,L,M⟩:=AZ l v.id;have B:=λhv=>RL (l:=l) (id:=v.id) hv k1 L M
 have p3:=MW l v.id W k k1 L M;have u:=λhv h1 h2 I h4 Y h5 h6=>AT l W (jy a (min a.cls A)) ag ar v hv h1 h2 I h4 Y h5 h6 k k1 L M
 have a2:uX l v.cls<=1000000:=by
  have:uX l v.cls<=ln l:=zCj _ _;omega
 have O:=λI h4=>AS (jy a (min a.cls A)) v.cls I h4
 rw[show(jy a (min a.cls A)).lim=a.lim from Z]at u O;rw[show(jy a (min a.cls A)).cls=min a.cls A from Z]at u;have ap:uF (jy a (min a.cls A))= .agg [zE yA a.sec,iA a.rights,iA (min a.cls A),zE iA a.lim,iA a.req,iA a.ses,iA a.rate,iA a.burst]:=rfl;rw[ap]at *; generalize hf:dG l v.id=fv at *;generalize Y:XQ l v.id=tw at *;generalize av:LB l=ok at *;generalize uX l v.cls=cn at *;cases ok
 .refine⟨[],1,⟨zB,λ_=>rfl⟩,⟨zBb _,zBb _⟩,?_,?_⟩
  .clear B u O;refine eM call378 λF hF=>?_
   exact nl p2
  .clear B u O;refine eM call332 λF hF=>?_
   exact ny (xQ S V)
 by_cases h1:0<=v.id/\v.id<=4294967295
 case neg=>
  refine⟨[],8,⟨zB,λ_=>rfl⟩,⟨zBb _,zBb _⟩,?_,?_⟩
  .clear B u O
   by_cases g1:0<=v.id<;>((refine eM call378 λF hF=>?_);((refine zS p2 ?_));exact zH)
  .clear B u O
   by_cases g1:0<=v.id<;>((refine eM call332 λF hF=>?_);((refine RH (xQ S V) ?_));exact zH)
 obtain⟨h1,h2⟩:=h1;generalize E:min a.cls A=mm at *;by_cases I:0<=v.cls/\v.cls<=mm
 case neg=>
  refine⟨[],17,⟨zB,λ_=>rfl⟩,⟨zBb _,zBb _⟩,?_,?_⟩
  .clear B u O
   by_cases g1:0<=v.cls<;>((refine eM call378 λF hF=>?_);((refine zS p2 ?_));exact zH)
  .clear B u O;subst E
   by_cases g1:0<=v.cls<;>((refine eM call332 λF hF=>?_);((refine RH (xQ S V) ?_));exact zH)
 obtain⟨I,h4⟩:=I;have B:=B Z;have G:=O I zB;clear O;cases tw
 case true=>
  obtain⟨hk,a3⟩:=B.1 Z;have hy:=zJ vC l k hk;refine⟨[],11,⟨zB,λ_=>rfl⟩,⟨zBb _,zBb _⟩,?_,?_⟩
  .clear u B L M;generalize l.getD k dd=x at *;refine eM call378 λF hF=>?_
   exact ng (xQ p2 p3)
  .clear B u;subst E;refine eM call332 λF hF=>?_
   exact ny (xQ S V)
 have C:∀hk:k<ln l,(l.getD k dd).id≠v.id:=λhk e=>by
  have:=B.2 ⟨hk,e⟩;cases this
 clear B;have a6:=yE iA a.lim v.cls I zB;have u:=u Z h1 h2 I h4 Z;generalize a.lim.getD v.cls.toNat dd=ax at *;by_cases h5:ax<=cn
 .refine⟨[],14,⟨zB,λ_=>rfl⟩,⟨zBb _,zBb _⟩,?_,?_⟩
  .clear u L M;by_cases hk:k<ln l
   .have hy:=zJ vC l k hk;have C:=C hk;generalize l.getD k dd=x at *;refine eM call378 λF hF=>?_
    exact ng (cI p2 p3 p4 G)
   .clear C;refine eM call378 λF hF=>?_
    exact ng (cI p2 p3 p4 G)
  .clear u C L M;subst E;refine eM call332 λF hF=>?_
   exact ny (qC S V c3)
 by_cases h6:ln l<8
 case neg=>
  refine⟨[],10,⟨zB,λ_=>rfl⟩,⟨zBb _,zBb _⟩,?_,?_⟩
  .clear u L M;by_cases hk:k<ln l
   .have hy:=zJ vC l k hk;have C:=C hk;generalize l.getD k dd=x at *;refine eM call378 λF hF=>?_
    exact ng (cI p2 p3 p4 G)
   .clear C;refine eM call378 λF hF=>?_
    exact ng (cI p2 p3 p4 G)
  .clear u C L M;subst E;refine eM call332 λF hF=>?_
   exact ny (qC S V c3)
 refine⟨l.take k++v::l.drop k,0,⟨zB,λh=>absurd Z h⟩,⟨by simp;omega,by simp;omega⟩,u zB h6,?_⟩;clear av Y u C p2 p3 p4 G;subst E;refine eM call332 λF hF=>?_
 refine RH (qC S V c3) ?_;refine yU (ln l+1) [6] [6] [0,6] [12,0,6] Z (λi T U zs=>(i<=k)/\zs=⟨(12,iA i)::T,U⟩) (Lp ?_ ?_ ?_)
 .exact⟨zBb _,rfl⟩
 .rintro i st hi ⟨hik,rfl⟩;by_cases au:i<k
  .have hy:=zJ vC l i zB;have hh:=L i au;generalize l.getD i dd=x at *;refine WW ?_;exact⟨zB,rfl⟩
  .obtain rfl:i=k:=by omega
   by_cases ac:i<ln l
   .have hy:=zJ vC l i ac;have hh:=M ac;generalize l.getD i dd=x at*
    (repeat' (first|refine jZ ?_|apply yW|apply xH|intro hc|(apply zG;first|(apply yC;refine xG 1001 tok Z Z Z Z Z Z (yM _ _ (λ_=>rfl)) Z Z Z qB Z Z Z ?_)|(apply yH;refine vD tok Z Z ?_))|refine SB ?_|fail))
    exact zI [] Z Z (zBd (λz=>AV.tup [AV.sl false z,iA 0]) (by rw[zBf,zAv];simp[zD7,zDo,vC,iA])) Z
   ·(repeat' (first|refine jZ ?_|apply yW|apply xH|intro hc|(apply zG;first|(apply yC;refine xG 1001 tok Z Z Z Z Z Z (yM _ _ (λ_=>rfl)) Z Z Z qB Z Z Z ?_)|(apply yH;refine vD tok Z Z ?_))|refine SB ?_|fail))
    exact zI [] Z Z (zBd (λz=>AV.tup [AV.sl false z,iA 0]) (by rw[zBf,zAv];simp[zD7,zDo,vC,iA])) Z
 .rintro st ⟨hik,rfl⟩;exfalso;omega
section
variable {b:Frame} {a:Act} {k:List Item} {cs:List Frame} {w:World} {P:Program}
def gK :step P (lone (b.atR a (.code (.scope c)::k)) cs w)= .next (lone (b.atR a (.code c:: .inScope c::k)) cs w):=
 step_lone_go (by simp[stepG,stepG.exec,Frame.atR])
def KQ :step P (lone (b.atR a (.inScope c::k)) cs w)= .next (lone (b.atR a k) cs w):=
 step_lone_go (by simp[stepG,stepG.exec,Frame.atR])
end
section
variable {F:Fence} {n:Nat} {P:Program} {Q:Exit->Act->World->Prop} {a:Act} {w:World}
def od (h:c.wpIn F n P (Exit.noGoto Q) a w):(Code.scope c).wpIn F n P Q a w:=by
 intro b k cs I hb E;have z:(lone (b.atR a (.code (.scope c)::k)) cs w).fenced P F:=fenced_calm hb E Z;obtain⟨e,B,C,A,u⟩:=h b (.inScope c::k) cs I hb E
 cases e with
 |normal=>exact⟨.normal,B,C,A,.head z gK (StepsIn.trans u (.one (fenced_calm hb E Z) KQ))⟩
 | exit id=>
  have L:exitTo id (.inScope c::k)=exitTo id k:=by simp[exitTo]
  exact⟨.exit id,B,C,A,λM hk=> .head z gK (u.1 M (by rw[L];exact hk)),
   λG hk=>let ⟨k₁,h1,h2⟩:=u.2 G (by rw[L];exact hk);⟨k₁,h1,.head z gK h2⟩⟩
 |goto l=>exact A.elim
 |ret=>exact⟨_,B,C,A,.of_steps (.one z gK) u⟩
 |panic O=>exact⟨_,B,C,A,.of_steps (.one z gK) u⟩
 |outgrown=>exact⟨_,B,C,A,.of_steps (.one z gK) u⟩
end
section
variable {P:Program} {K0:List Nat} {F:Fr K0} {m:Nat} {Q:Exit->St->Prop} {st:St}
def noG (Q:Exit->St->Prop):Exit->St->Prop
 | .goto _,_=>False
 |e,s=>Q e s
def bW (h:uE P F m c st (noG Q)):uE P F m (.scope c) st Q:=⟨λa w H=>
 od (Code.wpIn_mono (λe a' w' ⟨s,h1,h2⟩=>by
  cases e with
  |goto l=>exact h1.elim
  |_=>exact⟨s,h1,h2⟩) (h.run a w H))⟩
theorem gZ (K A:List Nat) (st0 u z:St) (C:K0.all (K.contains ·)=true) (E:restr K A st=st0)
 (B:uE P F m c st0 (λe s=>match e with| .normal=>restr K A s=u|e=>Q e s))
 (h1:uE P F m c u (λe s=>match e with| .normal=>restr K A s=z|e=>Q e s))
 (h2:uE P F m c z (λe s=>match e with| .normal=>False|e=>Q e s)):uE P F m (.loop c) st Q:=by
 refine wQ (λn s=>(n=2/\s=st0)\/(n=1/\s=u)\/(n=0/\s=z)) 2 K A C (.inl ⟨rfl,E⟩) ?_;rintro n s (⟨rfl,rfl⟩|⟨rfl,rfl⟩|⟨rfl,rfl⟩)
 .refine⟨λa w H=>Code.wpIn_mono (λe a' w' ⟨s,q1,q2⟩=>?_) (B.run a w H)⟩
  cases e with
  |normal=>exact⟨s,⟨1,zB,.inr (.inl ⟨rfl,q1⟩)⟩,q2⟩
  |_=>exact⟨s,q1,q2⟩
 all_goals grind
def bX {l:Nat} (h:Q .normal st):uE P F m (.label l) st Q:=⟨λ_ _ H=>wpIn_label ⟨st,h,H⟩⟩
end
def P2 (N:Nat) (h1:1<=N) (h2:N<=1000000):zN 397 [.s (.slice none 0 0),iA N] [] (.ref 1001 0 0) [(1001,.arr 2 [] true)]:=by
 have z:(N:Int)-(0-0)=(N:Int):=by omega
 have u:(N:Int)-(0-((0:Nat):Int))=(N:Int):=by omega
 refine eM call397 λF hF=>?_
 (repeat' (first|refine WS ?_|refine SG (I2 (λhc=>?_) λhc=>?_)|refine SG λhc=>?_|(apply zG;first|(refine wM (MT tok Z Z Z) Z ?_)|(apply gY;refine wM (xd tok Z Z Z Z Z) Z ?_)|(refine Lu tok Z Z Z Z Z Z Z Z Z Z Z Z Z Z (by first|exact z|exact u) h1 zB Z Z Z ?_)|(apply gY;refine Lf tok Z Z Z Z Z Z Z Z ?_))|(first|refine Ah 0 22 1001 Z Z Z ?_|first|refine SR ?_|refine SK (I2 (λhc=>?_) λhc=>?_)|refine SK λhc=>?_|fail)|fail))
 exact zP [1001] Z Z Z Z
def Du:zN 397 [.s (.slice none 0 0),iA 0] [] (.s (.slice none 0 0)) []:=by
 refine eM call397 λF hF=>?_
 (repeat' (first|refine uS ?_|apply yW|apply xH|intro hc|(apply zG;first|(refine wM (MT tok Z Z Z) Z ?_))|fail))
 exact zP [] Z Z Z Z
theorem To (a b:List Vh) (U:ln a<=1000) (hb:ln b<=1000):zN 380 [.sl false [zE vC a,zE vC b]] [] (zE vC (a++b)) []:=by
 have L:=zA vC a;have M:=zA vC b;rw[show zE vC (a++b)= .sl false (a.map vC++b.map vC) by unfold zE;rw[zA0]];have E:zE vC a= .sl false (a.map vC):=rfl;have G:zE vC b= .sl false (b.map vC):=rfl;rw[E,G];have z:∀y,(a.map vC)[0]? =some y->ln y.cells=2:=yM _ _ (λ_=>rfl);have C:∀y,(b.map vC)[0]? =some y->ln y.cells=2:=yM _ _ (λ_=>rfl);generalize a.map vC=A,b.map vC=B at *;clear E G;have O:([AV.sl false A,.sl false B]:List AV)[(0:Int).toNat]? =some (.sl false A):=rfl;have S:([AV.sl false A,.sl false B]:List AV)[(0+1:Int).toNat]? =some (.sl false B):=rfl;have I:([AV.sl false A,.sl false B]:List AV).length=2:=rfl;generalize [AV.sl false A,.sl false B]=X at *;refine eM call380 λF hF=>?_
 refine WW ?_;refine gZ [] [3,11,0,9,10] ⟨[(3,iA 0),(11,iA 0),(0,.sl false X),(9,.sl false X),(10,iA (ln X))],[]⟩ ⟨[(3,iA (0+(ln A:Int))),(11,iA (0+1)),(0,.sl false X),(9,.sl false X),(10,iA (ln X))],[]⟩ ⟨[(3,iA (0+(ln A:Int)+(ln B:Int))),(11,iA (0+1+1)),(0,.sl false X),(9,.sl false X),(10,iA (ln X))],[]⟩ rfl Z ?_ ?_ ?_
 ·(refine WW ?_)
  rfl
 ·(refine WW ?_)
  rfl
 by_cases hN:ln A+ln B=0
 .have u:=Du;rw[show iA 0=iA (0+(ln A:Int)+(ln B:Int)) by rw[show(0:Int)+(ln A:Int)+(ln B:Int)=0 by omega]]at u
  (repeat' (first|refine uS ?_|apply yW|apply xH|intro hc|(apply zG;apply xP;(refine vH 397 ?_;first|refine wM (jL u Z Z Z Z Z) Z ?_|refine uT (jL u Z Z Z Z Z) Z Z Z ?_|refine aI (jL u Z Z Z Z Z) Z Z Z ?_))|(apply zG;first|refine SM ?_)|fail))
  refine zQ 6 1001 2 Z Z Z ?_;refine gZ [1001] [6,27,25,26] ⟨[(6,.ref 1001 0 0),(27,iA 0),(25,.sl false X),(26,iA (ln X))],[(1001,.arr 2 [] true)]⟩ ⟨[(6,.ref 1001 0 (ln A)),(27,iA (0+1)),(25,.sl false X),(26,iA (ln X))],[(1001,.arr 2 A false)]⟩ ⟨[(6,.ref 1001 0 (A++B).length),(27,iA (0+1+1)),(25,.sl false X),(26,iA (ln X))],[(1001,.arr 2 (A++B) true)]⟩ rfl Z ?_ ?_ ?_
  ·(repeat' (first|refine uS ?_|apply yW|apply xH|intro hc|(apply zG;first|(apply yC;first|refine vB tok Z Z Z Z Z Z Z z Z Z Z zB Z ?_|refine jF tok Z Z Z Z Z Z Z Z Z Z Z C zB Z ?_))|fail))
   rfl
  ·(repeat' (first|refine uS ?_|apply yW|apply xH|intro hc|(apply zG;first|(apply yC;first|refine vB tok Z Z Z Z Z Z Z z Z Z Z zB Z ?_|refine jF tok Z Z Z Z Z Z Z Z Z Z Z C zB Z ?_))|fail))
   rfl
  ·(refine WW ?_)
   exact zI [] Z Z (zBd (AV.sl false) Ak) Z
 .have u:=P2 (ln A+ln B) zB zB;rw[show((ln A+ln B:Nat):Int)=0+(ln A:Int)+(ln B:Int) by omega]at u
  (repeat' (first|refine uS ?_|apply yW|apply xH|intro hc|(apply zG;apply xP;(refine vH 397 ?_;first|refine wM (jL u Z Z Z Z Z) Z ?_|refine uT (jL u Z Z Z Z Z) Z Z Z ?_|refine aI (jL u Z Z Z Z Z) Z Z Z ?_))|(apply zG;first|refine SM ?_)|fail))
  refine gZ [1001] [6,27,25,26] ⟨[(6,.ref 1001 0 0),(27,iA 0),(25,.sl false X),(26,iA (ln X))],[(1001,.arr 2 [] true)]⟩ ⟨[(6,.ref 1001 0 (ln A)),(27,iA (0+1)),(25,.sl false X),(26,iA (ln X))],[(1001,.arr 2 A false)]⟩ ⟨[(6,.ref 1001 0 (A++B).length),(27,iA (0+1+1)),(25,.sl false X),(26,iA (ln X))],[(1001,.arr 2 (A++B) true)]⟩ rfl Z ?_ ?_ ?_
  ·(repeat' (first|refine uS ?_|apply yW|apply xH|intro hc|(apply zG;first|(apply yC;first|refine vB tok Z Z Z Z Z Z Z z Z Z Z zB Z ?_|refine jF tok Z Z Z Z Z Z Z Z Z Z Z C zB Z ?_))|fail))
   rfl
  ·(repeat' (first|refine uS ?_|apply yW|apply xH|intro hc|(apply zG;first|(apply yC;first|refine vB tok Z Z Z Z Z Z Z z Z Z Z zB Z ?_|refine jF tok Z Z Z Z Z Z Z Z Z Z Z C zB Z ?_))|fail))
   rfl
  ·(refine WW ?_)
   exact zI [] Z Z (zBd (AV.sl false) Ak) Z
def OD (l:List Vh) (id:Int):List Vh:=l.filter λv=>decide (v.id≠id)
theorem So (l:List Vh) (x:Vh) (id:Int):OD (l++[x]) id=OD l id++(if x.id=id then []else [x]):=by grind [OD]
def Ro (l:List Vh) (id:Int):(OD l id).length<=ln l:=zCj _ _
theorem Qo {id:Int} (h:XQ l id=false):OD l id=l:=by grind [XQ,OD,List.filter_eq_self,List.any_eq_false]
def Po {id:Int} (hv:LB l=true) {k:Nat} (hk:k<ln l) (z:(l.getD k dd).id=id):OD l id=l.take k++l.drop (k+1):=by
 have C:l.getD k dd=l[k]:=by simp[p5,hk]
 have e1:l=l.take k++l[k]::l.drop (k+1):=by rw[List.getElem_cons_drop,zEj]
 have u:=Uo hv
 have h1:OD (l.take k) id=l.take k:=by
  refine List.filter_eq_self.2 λx A=>zAw λe=>?_
  obtain⟨i,hi,rfl⟩:=zDa A;simp only[zBi]at hi;have q1:=u k hk i zB;have B:l.getD i dd=l[i]:=by simp[p5,show i<ln l by omega]
  rw[List.getElem_take]at e;rw[B,e,z]at q1;omega
 have h2:OD (l.drop (k+1)) id=l.drop (k+1):=by
  refine List.filter_eq_self.2 λx A=>zAw λe=>?_
  obtain⟨i,hi,rfl⟩:=zDa A;simp only[zBr]at hi;have q1:=u (k+1+i) zB k zB;have B:l.getD (k+1+i) dd=l[k+1+i]:=by simp[p5,show k+1+i<ln l by omega]
  rw[List.getElem_drop]at e;rw[B,e,z]at q1;omega
 conv=>lhs;rw[e1]
 unfold OD at h1 h2⊢;rw[zFt,List.filter_cons,Os (by rw[<-C,z];simp),h1,h2]
def vi (l:List Vh) (I:ln l<=1000000) (id:Int):zN 333 [zE vC l,iA id] [] (if LB l=true then(if(OD l id).length=ln l then .tup [.sl false [],iA 12]else .tup [zE vC (OD l id),iA 0])else .tup [.sl false [],iA 1]) []:=by
 have E:=zA vC l;have u:=RN l I
 cases hv:LB l with
 |false=>
  rw[hv]at u;rw[Os zA9];refine eM call333 λF hF=>?_
  exact pb u
 |true=>
 rw[hv]at u;rw[zAs Z];have A:=Ro l id;have B:=zA vC (OD l id);refine eM call333 λF hF=>?_
 refine VX u ?_;refine zQ 6 1001 2 Z Z Z ?_;refine zU (l) [1001] [] [0,1,12,13] [6,14,0,1,12,13] Z (λi ga T U=>⟨(6,.ref 1001 0 ((OD ga id).map vC).length)::(14,iA i)::T,(1001,.arr 2 ((OD ga id).map vC) true)::U⟩) (Lq ?_ ?_)
 .intro i ga x post C hi;have L:=yJ vC C hi;have G:=zW C hi;have A:=Ro ga id;have B:=zA vC (OD ga id);have e:(OD (ga++[x]) id).map vC=(OD ga id).map vC++(if x.id=id then []else [x]).map vC:=by rw[So,zA0]
  rw[e];clear C e;generalize (OD ga id).map vC=R at *;by_cases h:x.id=id
  .rw[zAs h];refine WW ?_;rw[zCm,zBo];rfl
  .rw[Os h];refine WW ?_;rfl
 .by_cases h:(OD l id).length=ln l
  .rw[zAs h];exact mx
  .rw[Os h];refine WW ?_;exact zI [] Z Z (zBd (λz=>AV.tup [AV.sl false z,iA 0]) Ak) Z
def AU (l:List Vh) (V:ln l<=1000) (id:Int):∃(B:List Vh) (e:Int),((0<=e/\e<=100)/\(e≠0->B=[]))/\B.length<=ln l/\zN 349 [zE vC l,iA id] [] (.tup [zE vC B,iA e]) []/\zN 333 [zE vC l,iA id] [] (.tup [zE vC B,iA e]) []:=by
 have S:=zA vC l;have p2:=TP l zB;have c:=vi l zB id;obtain⟨k,M,C,E⟩:=AZ l id;have I:=MW l id zB k M C E
 cases hv:LB l with
 |false=>
  rw[hv]at p2 c;rw[Os zA9]at c;refine⟨[],1,⟨zB,λ_=>rfl⟩,by simp,?_,c⟩;refine eM call349 λF hF=>?_
  exact pb p2
 |true=>
 have u:=RL (id:=id) hv M C E;rw[hv]at p2 c;rw[zAs Z]at c
 cases hh:XQ l id with
 | false=>
  rw[zAs (by rw[Qo hh])]at c;refine⟨[],12,⟨zB,λ_=>rfl⟩,by simp,?_,c⟩
  have z:∀hk:k<ln l,(l.getD k dd).id≠id:=λhk e=>by
   rw[u.2 ⟨hk,e⟩]at hh;cases hh
  clear u C E c;by_cases hk:k<ln l
  .have U:=zJ vC l k hk;have z:=z hk;generalize l.getD k dd=x at *;refine eM call349 λF hF=>?_
   exact ny (xQ p2 I)
  .clear z;refine eM call349 λF hF=>?_
   exact ny (xQ p2 I)
 |true=>
  obtain⟨hk,O⟩:=u.1 hh;have G:=Po hv hk O;have A:(OD l id).length=ln l-1:=by rw[G];simp;omega
  rw[Os zB]at c;refine⟨OD l id,0,⟨zB,λh=>absurd Z h⟩,zB,?_,c⟩;have L:=To (l.take (k:Int).toNat) (l.drop ((k:Int)+1).toNat) qB qB;rw[show l.take (k:Int).toNat++l.drop ((k:Int)+1).toNat=OD l id by rw[G];congr 1]at L;have U:=zJ vC l k hk;clear u C E c G A;generalize OD l id=B,l.getD k dd=x at *;refine eM call349 λF hF=>?_
  exact ny (qC p2 I L)
def gy (t:Tk):zN 394 [yP t] [] (bA (!t.used)) []:=by
 obtain⟨u,a,b,c,d,e⟩:=t
 cases u with
 |true=>
  rw[show yP ⟨true,a,b,c,d,e⟩= .agg [bA true,zE yA a,iA b,iA c,iA d,iA e]from Z];refine eM call394 λF hF=>?_
  exact mx
 |false=>
  rw[show yP ⟨false,a,b,c,d,e⟩= .agg [bA false,zE yA a,iA b,iA c,iA d,iA e]from Z];refine eM call394 λF hF=>?_
  exact mx
def X7 (l:List Tk) (A:ln l<=1000000) (k:Nat) (hk:k<ln l) (h1:∀i,i<k->(l.getD i dd).used=true) (h2:(l.getD k dd).used=false):zN 393 [zE yP l,.fn 394 []] [] (iA k) []:=by
 have hl:=zA yP l;refine eM call393 λF hF=>?_
 refine WW ?_;refine yU (ln l) [] [] [0,1,7] [8,0,1,7] Z (λi T U z=>(i<=k)/\z=⟨(8,iA i)::T,U⟩) (Lp ?_ ?_ ?_)
 .exact⟨zBb _,rfl⟩
 .rintro i st hi ⟨hik,rfl⟩;have B:=zJ yP l i hi;have c:=gy (l.getD i dd);by_cases u:i=k
  .subst u;rw[h2]at c;generalize l.getD i dd=t at *;exact nl c
  .rw[h1 i zB]at c;generalize l.getD i dd=t at *;refine zS c ?_;exact⟨zB,rfl⟩
 .rintro st ⟨hik,rfl⟩;exfalso;omega
def ab (u f4:Int):Int:=if 0<u then f4+u else 0
theorem Cu (l:List Tk) (k:Nat) (t:Tk) (n:Nat) (u:n=ln l):zE yP (l.set k t)= .sl false (((l.map yP).set k (yP t)).take n):=by grind [zE,yP,List.map_set,List.take_of_length_le]
theorem yK {α:Type} [Inhabited α] (l:List α) (i:Nat) (h:i<ln l):l.getD i dd∈l:=by grind
def O2 (l:List Tk):Prop:=∀t∈l,t.used=true->mj t.rights 10=false
def o9 (l o:List Tk):Prop:=O2 l->O2 o
def md (l:List Tk) (s:Int) (j:Nat):Tk:=if ij l j s=true then zb else l.getD j dd
def RM (l:List Tk) (s:Int) (n:Nat):List Tk:=(py (ln l)).map λj=>if j<n then md l s j else l.getD j dd
def OE (l:List Tk) (s:Int) (n:Nat):(RM l s n).length=ln l:=by simp[RM]
theorem Oo (l:List Tk) (s:Int):RM l s 0=l:=by apply zB2<;>grind [RM,List.getElem?_range,p5,List.getElem?_eq_none,py]
theorem M2 (l:List Tk) (s:Int) (n:Nat) (h:n<ln l):(RM l s n)[n]? =some (l.getD n dd):=by grind [RM]
theorem No (l:List Tk) (s:Int) (n:Nat) (h:n<ln l):RM l s (n+1)=(RM l s n).set n (md l s n):=by apply zB2<;>grind [RM,md,List.length_map,List.length_range,List.getElem?_range,List.getElem?_eq_none,List.range]
def ui (l:List Tk) (hb:IC l) (hv:PB l=true) (s:Int) (hs:1<=s/\s<8) (h8:ln l=8) (hu:(l.getD s.toNat dd).used=true):zN 346 [zE yP l,iA s] [] (.tup [zE yP (RM l s (ln l)),iA 0]) []:=by
 have E:=TW l;rw[hv]at E;have I:=VN l hb;have ac:=zA yP l;have hy:=yE yP l s zB zB;have hd:=λj=>Wp l j s
 have Y:=Pc;generalize l.getD s.toNat dd=t at *;obtain⟨u,M,O,S,V,W⟩:=t;dsimp only at hu;subst hu;rw[show yP ⟨true,M,O,S,V,W⟩= .agg [bA true,zE yA M,iA O,iA S,iA V,iA W]from Z]at hy;refine eM call346 λF hF=>?_
 refine yF (xQ E I) ?_;refine zO (ln l) [1001] [] [0,1,6,26] [27,0,1,6,26] Z (λi T U=>⟨(27,iA i)::T,(1001,.arr 6 ((RM l s i).map yP) false)::U⟩) ?_;(conv=>whnf);refine⟨by(rw[Oo];rfl),?_,?_⟩
 .intro i hi;have C:((RM l s i).map yP)[i]? =some (yP (l.getD i dd)):=by rw[zA1,M2 l s i hi];rfl
  have G:=hd i;have ag:i<((RM l s i).map yP).length:=by rw[zAt,OE];exact hi
  rw[No l s i hi,zCe];have A:(l.getD i dd)=(l.getD i dd):=rfl
  have z:((RM l s i).map yP).set i (yP (l.getD i dd))=(RM l s i).map yP:=by
   rw[zBk]at C;obtain⟨h,e⟩:=C;rw[<-e,zGc]
  unfold md
  cases B:ij l i s with
  |true=>
   rw[B]at G;rw[zAs Z];generalize (RM l s i).map yP=xs,l.getD i dd=ti at *;clear z A hd E I;refine yF (xQ G Y) ?_;rfl
  |false=>
   rw[B]at G;rw[Os zA9,z];generalize (RM l s i).map yP=xs at *;clear z A hd E I Y;refine zS G ?_;rfl
 .have L:=OE l s (ln l);rw[show zE yP (RM l s (ln l))= .sl false (((RM l s (ln l)).map yP).take (l.map yP).length) by rw[zA2 (by simp[L])];rfl];generalize (RM l s (ln l)).map yP=xs at *;exact mx
def ER (l:List Tk) (k:Nat) (e:Int) (t:Tk):List Tk:=if e=0 then l.set k t else []
theorem Mo {P:Nat->Prop}:∀n,P n->∃m,m<=n/\P m/\∀k,k<m->¬P k:=by
 intro n
 induction n using Nat.strongRecOn with
 |_ n u=>
  grind
def K2 (l:List Tk) (u:ln l<=1000000) (h1:∀i,i<ln l->(l.getD i dd).used=true):zN 393 [zE yP l,.fn 394 []] [] (iA (-1)) []:=by
 have hl:=zA yP l;refine eM call393 λF hF=>?_
 refine WW ?_;refine zO (ln l) [] [] [0,1,7] [8,0,1,7] Z (λi T U=>⟨(8,iA i)::T,U⟩) (Lq ?_ ?_)
 .intro i hi;have z:=zJ yP l i hi;have c:=gy (l.getD i dd);rw[h1 i hi]at c;generalize l.getD i dd=t at *;refine zS c ?_;rfl
 .exact mx
def Lo (l:List Tk) (p R c u f4:Int):Prop:=∃(k:Nat) (e:Int),(0<=e/\e<=20)/\(k=0\/k<ln l)/\(e=0->PB l=true/\0<=p/\p<ln l/\(l.getD k dd).used=false/\Sc R (l.getD p.toNat dd).rights=true/\(l.getD p.toNat dd).used=true)/\∀z:List Int,(ln z:Int)=8->
 zN 375 [zE yP l,iA p,iA R,iA c,iA u,zE yA z,iA f4] [] (.tup [zE yP (ER l k e ⟨true,z,p,R,c,ab u f4⟩),iA k,iA e]) []/\
 zN 330 [zE yP l,iA p,iA R,iA c,iA u,zE yA z,iA f4] [] (.tup [zE yP (ER l k e ⟨true,z,p,R,c,ab u f4⟩),iA k,iA e]) []
def cF {l:List Tk} {p R c u f4:Int} (e:Int) (h1:1<=e) (h2:e<=20) (h:∀z:List Int,(ln z:Int)=8->zN 375 [zE yP l,iA p,iA R,iA c,iA u,zE yA z,iA f4] [] (.tup [zE yP [],iA 0,iA e]) []/\zN 330 [zE yP l,iA p,iA R,iA c,iA u,zE yA z,iA f4] [] (.tup [zE yP [],iA 0,iA e]) []):Lo l p R c u f4:=
 ⟨0,e,⟨zB,h2⟩,.inl Z,λB=>by omega,λz A=>by
  have hd:ER l 0 e ⟨true,z,p,R,c,ab u f4⟩=[]:=by unfold ER;rw[Os zB]
  rw[hd]
  exact h z A⟩
theorem AW (l:List Tk) (hb:IC l) (p R c A f4:Int):Lo l p R c A f4:=by
 have hn:=hb.n;have a5:=zA yP l;have I:=TW l;have G:=RS l;rw[<-ug]at G
 cases hv:PB l with
 | false=>
  rw[hv]at I G
  exact cF 1 zB zB λz hs=>⟨by
   have B:=zA yA z;refine eM call375 λF hF=>?_
   exact nl I,by
   have B:=zA yA z;refine eM call330 λF hF=>?_
   exact nl G⟩
 |true=>
 rw[hv]at I G;have h8:(ln l:Int)=8:=by unfold PB at hv;rw[zA4,zAz]at hv;exact hv.1
 by_cases bb:0<=f4
 case neg=>
  exact cF 1 zB zB λz hs=>⟨by
   have B:=zA yA z;refine eM call375 λF hF=>?_
   exact nl I,by
   have B:=zA yA z;refine eM call330 λF hF=>?_
   exact nl G⟩
 by_cases bd:f4<=1073741824
 case neg=>
  exact cF 1 zB zB λz hs=>⟨by
   have B:=zA yA z;refine eM call375 λF hF=>?_
   exact nl I,by
   have B:=zA yA z;refine eM call330 λF hF=>?_
   exact nl G⟩
 have M:=Qc l p;by_cases ap:0<=p
 case neg=>
  rw[show jY l p=false by unfold jY;rw[zAu (λh=>ap h.1)];rfl]at M
  exact cF 12 zB zB λz hs=>⟨by
   have B:=zA yA z;refine eM call375 λF hF=>?_
   exact ng (xQ I M),by
   have B:=zA yA z;refine eM call330 λF hF=>?_
   exact nl G⟩
 by_cases ar:p<ln l
 case neg=>
  rw[show jY l p=false by unfold jY;rw[zAu (λh=>ar h.2)];rfl]at M
  exact cF 12 zB zB λz hs=>⟨by
   have B:=zA yA z;refine eM call375 λF hF=>?_
   exact ng (xQ I M),by
   have B:=zA yA z;refine eM call330 λF hF=>?_
   exact nl G⟩
 have hy:=yE yP l p ap ar;have a3:jY l p=(l.getD p.toNat dd).used:=by unfold jY;rw[zAw ⟨ap,ar⟩,zA3]
 rw[a3]at M;have c3:=AE R (l.getD p.toNat dd).rights;have r3:=JZ R (l.getD p.toNat dd).rights;have c4:=Zf (ab A f4) (l.getD p.toNat dd).til;have r4:=AF (ab A f4) (l.getD p.toNat dd).til
 have C:ab A f4=if 0<A then f4+A else 0:=rfl
 generalize ab A f4=un at *;clear a3;generalize a2:l.getD p.toNat dd=t at *;obtain⟨u,t1,t2,t3,t4,t5⟩:=t;rw[show∀u,yP ⟨u,t1,t2,t3,t4,t5⟩= .agg [bA u,zE yA t1,iA t2,iA t3,iA t4,iA t5]from λ_=>rfl]at hy;dsimp only at*
 cases u with
 | false=>
  exact cF 12 zB zB λz hs=>⟨by
   have B:=zA yA z;refine eM call375 λF hF=>?_
   exact ng (xQ I M),by
   have B:=zA yA z;refine eM call330 λF hF=>?_
   exact nl G⟩
 |true=>
 cases hw:Sc R t3 with
 | false=>
  rw[hw]at c3 r3
  exact cF 8 zB zB λz hs=>⟨by
   have B:=zA yA z;refine eM call375 λF hF=>?_
   exact ng (qC I M c3),by
   have B:=zA yA z;refine eM call330 λF hF=>?_
   exact ng (xQ G r3)⟩
 |true=>
 rw[hw]at c3 r3;by_cases a7:0<=c
 case neg=>
  exact cF 8 zB zB λz hs=>⟨by
   have B:=zA yA z;refine eM call375 λF hF=>?_
   exact ng (qC I M c3),by
   have B:=zA yA z;refine eM call330 λF hF=>?_
   exact ng (xQ G r3)⟩
 by_cases a8:c<=t4
 case neg=>
  exact cF 8 zB zB λz hs=>⟨by
   have B:=zA yA z;refine eM call375 λF hF=>?_
   exact ng (qC I M c3),by
   have B:=zA yA z;refine eM call330 λF hF=>?_
   exact ng (xQ G r3)⟩
 by_cases a9:0<=A
 case neg=>
  exact cF 8 zB zB λz hs=>⟨by
   have B:=zA yA z;refine eM call375 λF hF=>?_
   exact ng (qC I M c3),by
   have B:=zA yA z;refine eM call330 λF hF=>?_
   exact ng (xQ G r3)⟩
 by_cases ba:A<=600
 case neg=>
  exact cF 8 zB zB λz hs=>⟨by
   have B:=zA yA z;refine eM call375 λF hF=>?_
   exact ng (qC I M c3),by
   have B:=zA yA z;refine eM call330 λF hF=>?_
   exact ng (xQ G r3)⟩
 cases ax:Er un t5 with
 | true=>
  rw[ax]at c4 r4;by_cases h0:0<A
  .rw[zAs h0]at C;subst C
   exact cF 8 zB zB λz hs=>⟨by
    have B:=zA yA z;refine eM call375 λF hF=>?_
    exact ng (cI I M c3 c4),by
    have B:=zA yA z;refine eM call330 λF hF=>?_
    exact ng (qC G r3 r4)⟩
  .rw[Os h0]at C;subst C
   exact cF 8 zB zB λz hs=>⟨by
    have B:=zA yA z;refine eM call375 λF hF=>?_
    exact ng (cI I M c3 c4),by
    have B:=zA yA z;refine eM call330 λF hF=>?_
    exact ng (qC G r3 r4)⟩
 |false=>
 rw[ax]at c4 r4;have a6:Sc R (l.getD p.toNat dd).rights=true/\(l.getD p.toNat dd).used=true:=by rw[a2];exact⟨hw,rfl⟩
 clear ax hw a2;by_cases a1:∃k,k<ln l/\(l.getD k dd).used=false
 case neg=>
  have ag:∀i,i<ln l->(l.getD i dd).used=true:=λi hi=>by
   cases h:(l.getD i dd).used with
   |true=>rfl
   |false=>exact absurd ⟨i,hi,h⟩ a1
  have c5:=K2 l hn ag
  rcases(show(0<A/\ab A f4=f4+A)\/(¬0<A/\ab A f4=0) by unfold ab;by_cases h:0<A;exact .inl ⟨h,zAs h⟩;exact .inr ⟨h,Os h⟩)with⟨h0,az⟩|⟨h0,az⟩
  .rw[zAs h0]at C;subst C
   exact cF 10 zB zB λz hs=>⟨by
    have B:=zA yA z;refine eM call375 λF hF=>?_
    exact ng (MO I M c3 c4 c5),by
    have B:=zA yA z;refine eM call330 λF hF=>?_
    refine yF (qC G r3 r4) ?_;refine zO (ln l) [] [] [0,1,2,3,5,18,90,91] [92,0,1,2,3,5,18,90,91] Z (λi T U=>⟨(92,iA i)::T,U⟩) (Lq ?_ ?_)
    .intro i hi;have S:=zJ yP l i hi;have E:=ag i hi;generalize l.getD i dd=x at *;obtain⟨xu,V,W,Y,x4,x5⟩:=x;dsimp only at E;subst E;rw[show yP ⟨true,V,W,Y,x4,x5⟩= .agg [bA true,zE yA V,iA W,iA Y,iA x4,iA x5]from Z]at S;refine WW ?_;rfl
    .exact mx⟩
  .rw[Os h0]at C;subst C
   exact cF 10 zB zB λz hs=>⟨by
    have B:=zA yA z;refine eM call375 λF hF=>?_
    exact ng (MO I M c3 c4 c5),by
    have B:=zA yA z;refine eM call330 λF hF=>?_
    refine yF (qC G r3 r4) ?_;refine zO (ln l) [] [] [0,1,2,3,5,18,90,91] [92,0,1,2,3,5,18,90,91] Z (λi T U=>⟨(92,iA i)::T,U⟩) (Lq ?_ ?_)
    .intro i hi;have S:=zJ yP l i hi;have E:=ag i hi;generalize l.getD i dd=x at *;obtain⟨xu,V,W,Y,x4,x5⟩:=x;dsimp only at E;subst E;rw[show yP ⟨true,V,W,Y,x4,x5⟩= .agg [bA true,zE yA V,iA W,iA Y,iA x4,iA x5]from Z]at S;refine WW ?_;rfl
    .exact mx⟩
 obtain⟨k0,a4,az⟩:=a1;obtain⟨k,_,⟨hk,L⟩,ac⟩:=Mo (P:=λk=>k<ln l/\(l.getD k dd).used=false) k0 ⟨a4,az⟩
 have O:∀i,i<k->(l.getD i dd).used=true:=λi hi=>by
  cases h:(l.getD i dd).used with
  |true=>rfl
  |false=>exact absurd ⟨zB,h⟩ (ac i hi)
 have c5:=X7 l hn k hk O L;have c6:=VN l hb;have r6:=LG l hb;refine⟨k,0,zB,.inr hk,λ_=>⟨hv,ap,ar,L,a6⟩,λz hs=>?_⟩;have hd:∀x:Tk,ER l k 0 x=l.set k x:=λx=>by unfold ER;rw[zAs Z]
 rw[hd];have c7:=kT z zB;have B:=zA yA z;have au:=zJ yP l k hk;have eS:=Cu l k ⟨true,z,p,R,c,ab A f4⟩ (l.map yP).length a5;rw[eS];clear eS hd;rw[show ab A f4=if 0<A then f4+A else 0 from Z];by_cases h0:0<A
 .rw[zAs h0]at C⊢;subst C;refine⟨?_,?_⟩
  .clear G r3 r4 r6 O ac L;generalize l.getD k dd=tk at *;refine eM call375 λF hF=>?_
   exact ng (zy I M c3 c4 c5 c6 c7)
  .clear I M c3 c4 c5 c6 c7;refine eM call330 λF hF=>?_
   refine yF (qC G r3 r4) ?_;refine yU (ln l) [] [] [0,1,2,3,5,18,90,91] [92,0,1,2,3,5,18,90,91] Z (λi T U zs=>(i<=k)/\zs=⟨(92,iA i)::T,U⟩) (Lp ?_ ?_ ?_)
   .exact⟨zBb _,rfl⟩
   .rintro i st hi ⟨hik,rfl⟩;have S:=zJ yP l i hi;by_cases av:i=k
    .subst av;clear O ac au hy;generalize l.getD i dd=x at *;obtain⟨xu,V,W,Y,x4,x5⟩:=x;dsimp only at L;subst L;rw[show yP ⟨false,V,W,Y,x4,x5⟩= .agg [bA false,zE yA V,iA W,iA Y,iA x4,iA x5]from Z]at S;exact pb r6
    .have E:=O i zB;clear O ac au L hy;generalize l.getD i dd=x at *;obtain⟨xu,V,W,Y,x4,x5⟩:=x;dsimp only at E;subst E;rw[show yP ⟨true,V,W,Y,x4,x5⟩= .agg [bA true,zE yA V,iA W,iA Y,iA x4,iA x5]from Z]at S;refine WW ?_;exact⟨zB,rfl⟩
   .rintro st ⟨hik,rfl⟩;exfalso;omega
 .rw[Os h0]at C⊢;subst C;refine⟨?_,?_⟩
  .clear G r3 r4 r6 O ac L;generalize l.getD k dd=tk at *;refine eM call375 λF hF=>?_
   exact ng (zy I M c3 c4 c5 c6 c7)
  .clear I M c3 c4 c5 c6 c7;refine eM call330 λF hF=>?_
   refine yF (qC G r3 r4) ?_;refine yU (ln l) [] [] [0,1,2,3,5,18,90,91] [92,0,1,2,3,5,18,90,91] Z (λi T U zs=>(i<=k)/\zs=⟨(92,iA i)::T,U⟩) (Lp ?_ ?_ ?_)
   .exact⟨zBb _,rfl⟩
   .rintro i st hi ⟨hik,rfl⟩;have S:=zJ yP l i hi;by_cases av:i=k
    .subst av;clear O ac au hy;generalize l.getD i dd=x at *;obtain⟨xu,V,W,Y,x4,x5⟩:=x;dsimp only at L;subst L;rw[show yP ⟨false,V,W,Y,x4,x5⟩= .agg [bA false,zE yA V,iA W,iA Y,iA x4,iA x5]from Z]at S;exact pb r6
    .have E:=O i zB;clear O ac au L hy;generalize l.getD i dd=x at *;obtain⟨xu,V,W,Y,x4,x5⟩:=x;dsimp only at E;subst E;rw[show yP ⟨true,V,W,Y,x4,x5⟩= .agg [bA true,zE yA V,iA W,iA Y,iA x4,iA x5]from Z]at S;refine WW ?_;exact⟨zB,rfl⟩
   .rintro st ⟨hik,rfl⟩;exfalso;omega
theorem W7 (l:List Tk) (s:Int) (u:ln l=8):RM l s (ln l)=RT (λi=>YF l 9 i s) l 8:=by grind [RM,RT,YF,List.map_congr_left,md,Uy]
def XG:IC []:=⟨by simp,λt h=>by simp at h⟩
def J2 {l:List Tk} (hb:IC l) (s:Int) (n:Nat):IC (RM l s n):=by
 refine⟨by rw[OE];exact hb.n,λt u=>?_⟩
 have z:∀j,(l.getD j dd).sec.length<=1000000:=λj=>by
  by_cases h:j<ln l
  .exact hb.s _ (by simp[p5,h])
  .rw[show l.getD j dd=dd by simp[p5,h]];exact zBb _
 unfold RM at u;rw[zCb]at u;obtain⟨j,_,rfl⟩:=u;split
 .unfold md;split
  .exact zBb _
  .exact z j
 .exact z j
def C2 {l:List Tk} {s:Int}:o9 l (RM l s (ln l)):=λh t z u=>by
 obtain⟨j,hj,rfl⟩:=zCb.1 z;rw[zBj]at hj;rw[zAs hj]at u⊢;unfold md at u⊢;split at u
 .cases u
 .rw[Os ‹_›];exact h _ (yK l j hj) u
def AX (l:List Tk) (hb:IC l) (s:Int):∃(o:List Tk) (e:Int),(0<=e/\e<=20)/\IC o/\(e=0->ln o=ln l/\o9 l o)/\zN 346 [zE yP l,iA s] [] (.tup [zE yP o,iA e]) []/\zN 331 [zE yP l,iA s] [] (.tup [zE yP o,iA e]) []:=by
 have M:=hb.n;have L:=zA yP l;have z:=TW l;have u:=RS l;rw[<-ug]at u
 cases hv:PB l with
 | false=>
  rw[hv]at z u;refine⟨[],1,zB,XG,λh=>absurd h yY,?_,?_⟩
  ·(refine eM call346 λF hF=>?_)
   exact nl z
  ·(refine eM call331 λF hF=>?_)
   exact nl u
 |true=>
 rw[hv]at z u;have A:ln l=8:=by unfold PB at hv;rw[zA4,zAz]at hv;omega
 by_cases h1:1<=s
 case neg=>
  refine⟨[],8,zB,XG,λh=>absurd h yY,?_,?_⟩
  ·(refine eM call346 λF hF=>?_)
   exact nl z
  ·(refine eM call331 λF hF=>?_)
   exact nl u
 by_cases h2:s<8
 case neg=>
  refine⟨[],8,zB,XG,λh=>absurd h yY,?_,?_⟩
  ·(refine eM call346 λF hF=>?_)
   exact nl z
  ·(refine eM call331 λF hF=>?_)
   exact nl u
 have C:=yE yP l s zB zB
 cases B:(l.getD s.toNat dd).used with
 | false=>
  rw[show yP (l.getD s.toNat dd)=dO false (l.getD s.toNat dd) by unfold yP dO;rw[B]]at C;unfold dO at C;generalize l.getD s.toNat dd=t at *;refine⟨[],12,zB,XG,λh=>absurd h yY,?_,?_⟩
  ·(refine eM call346 λF hF=>?_)
   exact nl z
  ·(refine eM call331 λF hF=>?_)
   exact nl u
 |true=>
  have I:=ui l hb hv s ⟨h1,h2⟩ A B;have E:=xg l s A;rw[A]at E;have G:=wg l hb (λi=>YF l 9 i s) A;rw[<-W7 l s A]at G;rw[show yP (l.getD s.toNat dd)=dO true (l.getD s.toNat dd) by unfold yP dO;rw[B]]at C;unfold dO at C;refine⟨RM l s (ln l),0,zB,J2 hb s _,λ_=>⟨OE l s _,C2⟩,I,?_⟩;clear I B;generalize RM l s (ln l)=O,kO (λi=>YF l 9 i s) 8=b,l.getD s.toNat dd=t at *;refine eM call331 λF hF=>?_
  exact ng (qC u E G)
def VP (r:Rg):xW:= .box [iA r.num,zE yA r.ag.sec,iA r.ag.rights,iA r.ag.cls,zE iA r.ag.lim,iA r.ag.req,iA r.ag.ses,iA r.ag.rate,iA r.ag.burst,zE yP r.tk,zE vC r.vh,iA r.bk.level,iA r.bk.rate,iA r.bk.burst]
def dy (r:Rg) (l:List Tk):Rg:=⟨r.num,r.ag,l,r.vh,r.bk⟩
def cy (m:Ms) (a:Int) (u:m.args=[a]):zN 347 [zX m] [] (zX ⟨14,[],[m.kind,a],[]⟩) []:=by
 obtain⟨k,t,A,d⟩:=m;dsimp only at u⊢;subst u;have z:([a].map iA).length=1:=rfl;refine eM call347 λF hF=>?_
 exact nm
