/- Part 14. -/
import Derived.Test.YtaglbcjljlkjcaaGreatW13
import Derived.Scope
namespace Go.Proofs.YtaglbcjljlkjcaaGreat.Av
open Tryz
set_option linter.all false
set_option maxRecDepth 4000
set_option maxHeartbeats 4000000
open List renaming length->ln,replicate->pb,range->pi,getD->py
open Inhabited renaming default->dd
variable {c:Code}{l:List Vh}
def MO (l:List Vh) (id:Int) (I:ln l<=1000000) (k:Nat) (L:k<=ln l) (C:∀i,i<k->(l.getD i dd).id<id) (E:k<ln l->¬(l.getD k dd).id<id):zN 379 [zE vB l,iA id] [] (iA k) []:=by
 have A:=zA vB l;refine eM call379 λF hF=>?_
 refine WW ?_;refine yU (ln l+1) [] [] [0,1] [5,0,1] Z (λi T U G=>(i<=k)/\G=⟨(5,iA i)::T,U⟩) (Lp ?_ ?_ ?_)
 .exact⟨zA9 _,rfl⟩
 .rintro i st hi ⟨hik,rfl⟩;by_cases z:i<k
  .have B:=zJ vB l i zB;have hh:=C i z;generalize l.getD i dd=x at *;refine WW ?_;exact⟨zB,rfl⟩
  .obtain rfl:i=k:=by omega
   by_cases u:i<ln l
   .have B:=zJ vB l i u;have hh:=E u;generalize l.getD i dd=x at *;exact ly
   .exact ly
 .rintro st ⟨hik,rfl⟩;exfalso;omega
def AT (l:List Vh) (c:Int) (A:ln l<=1000000):zN 395 [zE vB l,iA c] [] (iA (uY l c)) []:=by
 have hl:=zA vB l;refine eM call395 λF hF=>?_
 refine WW ?_;refine zU (l) [] [] [1,8,9] [5,10,1,8,9] Z (λi f4 T U=>⟨(5,iA (uY f4 c))::(10,iA i)::T,U⟩) (Lq ?_ ?_)
 .intro i f4 x post hx hi;have B:=yJ vB hx hi;have z:=zX hx hi;have u:uY f4 c<=i:=by rw[<-hi];exact zCh _ _
  have e:uY (f4++[x]) c=uY f4 c+(if x.cls=c then 1 else 0):=by
   unfold uY;rw[zFr,zAv];by_cases h:x.cls=c
   all_goals simp[h]
  clear hx;by_cases h:x.cls=c
  .rw[f5 h]at e;rw[e];generalize uY f4 c=m at *;refine WW ?_;rfl
  .rw[Os h,zDh]at e;rw[e];generalize uY f4 c=m at *;refine WW ?_;rfl
 .exact ly
def AU (a:Ag) (c:Int) (u:0<=c) (h1:c<ln a.lim):zN 396 [uI a,iA c] [] (iA (a.lim.getD c.toNat dd)) []:=by
 have z:=zA iA a.lim;have A:=yE iA a.lim c u h1;refine eM call396 λF hF=>?_
 exact ly
def uy (a:Ag) (c:Int):Ag:=⟨a.sec,a.rights,c,a.lim,a.req,a.ses,a.rate,a.burst⟩
theorem mo (hv:MT l=true):∀j,j<ln l->∀i,i<j->(l.getD i dd).id<(l.getD j dd).id
 |0,_,i,hi=>absurd hi (zCm _)
 |j+1,hj,i,hi=>by
  have h1:=((ay.1 hv).2 (j+1) hj).2 zB;rw[Nat.add_sub_cancel]at h1;by_cases h:i=j
  .subst h;exact h1
  .have:=mo hv j zB i zB;omega
theorem RI {id:Int} (hv:MT l=true) {k:Nat} (B:k<=ln l) (C:∀i,i<k->(l.getD i dd).id<id) (E:k<ln l->¬(l.getD k dd).id<id):XR l id=true↔k<ln l/\(l.getD k dd).id=id:=by
 constructor
 .intro h;obtain⟨x,hx,u⟩:=zCi.1 h;obtain⟨i,hi,rfl⟩:=zC8 hx;rw[zB8]at u;have z:l.getD i dd=l[i]:=by simp[py,hi]
  rw[<-z]at u;by_cases h1:i<k
  .grind
  .have hk:k<ln l:=by omega
   by_cases h2:i=k
   .grind
   .have A:=mo hv i hi k zB
    grind
 all_goals grind [MT,XR]
theorem AW (l:List Vh) (V:ln l<=1000000) (a:Ag) (ac:(ln a.lim:Int)=4) (ar:a.cls<=3) (v:Vh) (hv:MT l=true) (h1:0<=v.id) (h2:v.id<=4294967295) (h3:0<=v.cls) (h4:v.cls<=a.cls) (I:XR l v.id=false) (h5:(uY l v.cls:Int)<a.lim.getD v.cls.toNat dd) (h6:ln l<8)
  (k:Nat) (k1:k<=ln l) (W:∀i,i<k->(l.getD i dd).id<v.id) (Y:k<ln l->¬(l.getD k dd).id<v.id):zN 378 [zE vB l,uI a,vB v] [] (.tup [zE vB (l.take k++v::l.drop k),iA 0]) []:=by
 have ax:=zA vB l;have av:=zA iA a.lim;have O:=TO l V;have c3:=MO l v.id V k k1 W Y;have c4:=AT l v.cls V;have c5:=AU a v.cls h3 zB
 have G:k<ln l->(l.getD k dd).id≠v.id:=λhk e=>by
  rw[(RI hv k1 W Y).2 ⟨hk,e⟩]at I;cases I
 rw[hv]at O;clear hv I W Y
 have au:(uY l v.cls:Int)<=1000000:=by
  have:uY l v.cls<=ln l:=zCh _ _;omega
 generalize (uY l v.cls:Int)=cn,a.lim.getD v.cls.toNat dd=az at *;have U:((l.take (k:Int).toNat).map vB).length=k:=by simp;omega
 have S:((l.drop (k:Int).toNat).map vB).length=ln l-k:=by simp
 obtain⟨N,hN⟩:∃N,N=ln l+1:=⟨_,rfl⟩;have L:((l.map vB).length:Int)+1=(N:Int):=by omega
 obtain⟨E,A,ag⟩:∃E,E=(l.take k).map vB++pb (ln l+1-k) (AV.agg [.s (.int .i64 0),.s (.int .i64 0)])/\E.length=ln l+1:=⟨_,rfl,by simp;omega⟩
 have C:(pb N (AV.agg [.s (.int .i64 0),.s (.int .i64 0)])).take 0++(l.take (k:Int).toNat).map vB++(pb N (AV.agg [.s (.int .i64 0),.s (.int .i64 0)])).drop (0+((l.take (k:Int).toNat).map vB).length)=E:=by
  rw[A,U,hN];simp
 have ap:E[(k:Int).toNat]? =some (AV.agg [.s (.int .i64 0),.s (.int .i64 0)]):=by
  rw[A,zBq qA];rw[zDb,f5 qA]
 have u:(E.set (k:Int).toNat (.agg [iA v.id,iA v.cls])).take ((k:Int)+1).toNat++(l.drop (k:Int).toNat).map vB++(E.set (k:Int).toNat (.agg [iA v.id,iA v.cls])).drop (((k:Int)+1).toNat+((l.drop (k:Int).toNat).map vB).length)=(l.take k++v::l.drop k).map vB:=by
  have e1:E.set (k:Int).toNat (.agg [iA v.id,iA v.cls])=(l.take k++[v]).map vB++pb (ln l-k) (AV.agg [.s (.int .i64 0),.s (.int .i64 0)]):=by
   rw[A,zEq _ _ qA,show (ln l)+1-k=(ln l-k)+1 by omega,zFi];rw[show(k:Int).toNat-((l.take k).map vB).length=0 by simp;omega];simp[vB]
  have R:((l.take k++[v]).map vB).length=k+1:=by simp;omega
  have e2:((l.take k++[v]).map vB++pb (ln l-k) (AV.agg [.s (.int .i64 0),.s (.int .i64 0)])).drop (k+1+(ln l-k))=[]:=List.drop_of_length_le (by rw[zAv,R,zCq];exact zAw _);rw[e1,S,show((k:Int)+1).toNat=k+1 by omega,zC0 zB,zA1 zB,e2];simp
 clear A;obtain⟨M,B⟩:∃M,M=(l.take k++v::l.drop k).map vB:=⟨_,rfl⟩;have hz3l:ln M=ln l+1:=by rw[B];simp;omega
 rw[<-B]at u;rw[show zE vB (l.take k++v::l.drop k)= .sl false M by rw[B];rfl];clear B;rw[show vB v= .agg [iA v.id,iA v.cls]from Z]at *; by_cases hk:k<ln l
 .have hy:=zJ vB l k hk;have G:=G hk;generalize l.getD k dd=x at *;refine eM call378 λF hF=>?_
  (have ga:=O;have ge:=c3;have gn:=c4;have gt:=c5;(repeat' (first|refine uT ?_|apply yW|apply xI|intro hc|(apply zG;first|(apply fP;refine Ye tok Z Z Z Z Z Z Z Z Z Z Z Z L zB zB Z Z Z ?_)|(refine wy tok Z Z Z Z Z Z Z (yM _ _ (λ_=>rfl)) Z zB (by first|exact C|exact u) Z ?_)|(apply gX;refine dM tok Z Z Z Z Z Z Z zB zB Z ?_))|fail))<;>clear ga ge gn gt)
  exact zH [] Z Z (zBb (λz=>AV.tup [AV.sl false z,iA 0]) Qx) Z
 .clear G;refine eM call378 λF hF=>?_
  (have ga:=O;have ge:=c3;have gn:=c4;have gt:=c5;(repeat' (first|refine uT ?_|apply yW|apply xI|intro hc|(apply zG;first|(apply fP;refine Ye tok Z Z Z Z Z Z Z Z Z Z Z Z L zB zB Z Z Z ?_)|(refine wy tok Z Z Z Z Z Z Z (yM _ _ (λ_=>rfl)) Z zB (by first|exact C|exact u) Z ?_)|(apply gX;refine dM tok Z Z Z Z Z Z Z zB zB Z ?_))|fail))<;>clear ga ge gn gt)
  exact zH [] Z Z (zBb (λz=>AV.tup [AV.sl false z,iA 0]) Qx) Z
theorem KE (l:List Vh) (V:ln l<=1000000) (a:Ag) (A:Int) (ag:(ln a.lim:Int)=4) (az:a.cls<=3) (v:Vh):∃(l':List Vh) (e:Int),((0<=e/\e<=100)/\(e≠0->l'=[]))/\(ln l'<=ln l+1/\l'.length<=8)/\zN 378 [zE vB l,uI (uy a (min a.cls A)),vB v] [] (.tup [zE vB l',iA e]) []/\zN 332 [zE vB l,uI a,vB v,iA A] [] (.tup [zE vB l',iA e]) []:=by
 have a5:=zA vB l;have a4:=zA iA a.lim;have p2:=TO l V;have R:=Ff l v.id V;have S:=RK l V;have c3:=Fo l v.cls V;have p4:=AT l v.cls V;have ar:min a.cls A<=3:=by omega
 have a1:min a.cls A<=a.cls:=by omega
 obtain⟨k,k1,L,M⟩:=ya l v.id;have B:=λhv=>RI (l:=l) (id:=v.id) hv k1 L M
 have Y:=MO l v.id V k k1 L M;have u:=λhv h1 h2 I h4 W h5 h6=>AW l V (uy a (min a.cls A)) ag ar v hv h1 h2 I h4 W h5 h6 k k1 L M
 have a2:uY l v.cls<=1000000:=by
  have:uY l v.cls<=ln l:=zCh _ _;omega
 have O:=λI h4=>AU (uy a (min a.cls A)) v.cls I h4
 rw[show(uy a (min a.cls A)).lim=a.lim from Z]at u O;rw[show(uy a (min a.cls A)).cls=min a.cls A from Z]at u;have ap:uI (uy a (min a.cls A))= .agg [zE yA a.sec,iA a.rights,iA (min a.cls A),zE iA a.lim,iA a.req,iA a.ses,iA a.rate,iA a.burst]:=rfl;rw[ap]at *; generalize hf:dG l v.id=fv at *;generalize W:XR l v.id=tw at *;generalize av:MT l=ok at *;generalize uY l v.cls=cn at *;cases ok
 .refine⟨[],1,⟨zB,λ_=>rfl⟩,⟨zA9 _,zA9 _⟩,?_,?_⟩
  .clear B u O;refine eM call378 λF hF=>?_
   exact ng p2
  .clear B u O;refine eM call332 λF hF=>?_
   exact nm (xV R S)
 by_cases h1:0<=v.id/\v.id<=4294967295
 case neg=>
  refine⟨[],8,⟨zB,λ_=>rfl⟩,⟨zA9 _,zA9 _⟩,?_,?_⟩
  .clear B u O
   by_cases g1:0<=v.id<;>((refine eM call378 λF hF=>?_);((refine zS p2 ?_));exact zI)
  .clear B u O
   by_cases g1:0<=v.id<;>((refine eM call332 λF hF=>?_);((refine RE (xV R S) ?_));exact zI)
 obtain⟨h1,h2⟩:=h1;generalize E:min a.cls A=mm at *;by_cases I:0<=v.cls/\v.cls<=mm
 case neg=>
  refine⟨[],17,⟨zB,λ_=>rfl⟩,⟨zA9 _,zA9 _⟩,?_,?_⟩
  .clear B u O
   by_cases g1:0<=v.cls<;>((refine eM call378 λF hF=>?_);((refine zS p2 ?_));exact zI)
  .clear B u O;subst E
   by_cases g1:0<=v.cls<;>((refine eM call332 λF hF=>?_);((refine RE (xV R S) ?_));exact zI)
 obtain⟨I,h4⟩:=I;have B:=B Z;have G:=O I zB;clear O;cases tw
 case true=>
  obtain⟨hk,a3⟩:=B.1 Z;have hy:=zJ vB l k hk;refine⟨[],11,⟨zB,λ_=>rfl⟩,⟨zA9 _,zA9 _⟩,?_,?_⟩
  .clear u B L M;generalize l.getD k dd=x at *;refine eM call378 λF hF=>?_
   exact mx (xV p2 Y)
  .clear B u;subst E;refine eM call332 λF hF=>?_
   exact nm (xV R S)
 have C:∀hk:k<ln l,(l.getD k dd).id≠v.id:=λhk e=>by
  have:=B.2 ⟨hk,e⟩;cases this
 clear B;have a6:=yE iA a.lim v.cls I zB;have u:=u Z h1 h2 I h4 Z;generalize a.lim.getD v.cls.toNat dd=ax at *;by_cases h5:ax<=cn
 .refine⟨[],14,⟨zB,λ_=>rfl⟩,⟨zA9 _,zA9 _⟩,?_,?_⟩
  .clear u L M;by_cases hk:k<ln l
   .have hy:=zJ vB l k hk;have C:=C hk;generalize l.getD k dd=x at *;refine eM call378 λF hF=>?_
    exact mx (cD p2 Y p4 G)
   .clear C;refine eM call378 λF hF=>?_
    exact mx (cD p2 Y p4 G)
  .clear u C L M;subst E;refine eM call332 λF hF=>?_
   exact nm (qM R S c3)
 by_cases h6:ln l<8
 case neg=>
  refine⟨[],10,⟨zB,λ_=>rfl⟩,⟨zA9 _,zA9 _⟩,?_,?_⟩
  .clear u L M;by_cases hk:k<ln l
   .have hy:=zJ vB l k hk;have C:=C hk;generalize l.getD k dd=x at *;refine eM call378 λF hF=>?_
    exact mx (cD p2 Y p4 G)
   .clear C;refine eM call378 λF hF=>?_
    exact mx (cD p2 Y p4 G)
  .clear u C L M;subst E;refine eM call332 λF hF=>?_
   exact nm (qM R S c3)
 refine⟨l.take k++v::l.drop k,0,⟨zB,λh=>absurd Z h⟩,⟨by simp;omega,by simp;omega⟩,u zB h6,?_⟩;clear av W u C p2 Y p4 G;subst E;refine eM call332 λF hF=>?_
 refine RE (qM R S c3) ?_;refine yU (ln l+1) [6] [6] [0,6] [12,0,6] Z (λi T U zs=>(i<=k)/\zs=⟨(12,iA i)::T,U⟩) (Lp ?_ ?_ ?_)
 .exact⟨zA9 _,rfl⟩
 .rintro i st hi ⟨hik,rfl⟩;by_cases au:i<k
  .have hy:=zJ vB l i zB;have hh:=L i au;generalize l.getD i dd=x at *;refine WW ?_;exact⟨zB,rfl⟩
  .obtain rfl:i=k:=by omega
   by_cases ac:i<ln l
   .have hy:=zJ vB l i ac;have hh:=M ac;generalize l.getD i dd=x at*
    (repeat' (first|refine jX ?_|apply yW|apply xI|intro hc|(apply zG;first|(apply yC;refine xG 1001 tok Z Z Z Z Z Z (yM _ _ (λ_=>rfl)) Z Z Z qA Z Z Z ?_)|(apply yH;refine vC tok Z Z ?_))|refine SB ?_|fail))
    exact zH [] Z Z (zBb (λz=>AV.tup [AV.sl false z,iA 0]) (by rw[zBd,zAt];simp[zD5,zDn,vB,iA])) Z
   ·(repeat' (first|refine jX ?_|apply yW|apply xI|intro hc|(apply zG;first|(apply yC;refine xG 1001 tok Z Z Z Z Z Z (yM _ _ (λ_=>rfl)) Z Z Z qA Z Z Z ?_)|(apply yH;refine vC tok Z Z ?_))|refine SB ?_|fail))
    exact zH [] Z Z (zBb (λz=>AV.tup [AV.sl false z,iA 0]) (by rw[zBd,zAt];simp[zD5,zDn,vB,iA])) Z
 .rintro st ⟨hik,rfl⟩;exfalso;omega
section
variable {b:Frame} {a:Act} {k:List Item} {cs:List Frame} {w:World} {P:Program}
def gJ :step P (lone (b.atR a (.code (.scope c)::k)) cs w)= .next (lone (b.atR a (.code c:: .inScope c::k)) cs w):=
 step_lone_go (by simp[stepG,stepG.exec,Frame.atR])
def KG :step P (lone (b.atR a (.inScope c::k)) cs w)= .next (lone (b.atR a k) cs w):=
 step_lone_go (by simp[stepG,stepG.exec,Frame.atR])
end
section
variable {F:Fence} {n:Nat} {P:Program} {Q:Exit->Act->World->Prop} {a:Act} {w:World}
def rd (h:c.wpIn F n P (Exit.noGoto Q) a w):(Code.scope c).wpIn F n P Q a w:=by
 intro b k cs I hb E;have z:(lone (b.atR a (.code (.scope c)::k)) cs w).fenced P F:=fenced_calm hb E Z;obtain⟨e,B,C,A,u⟩:=h b (.inScope c::k) cs I hb E
 cases e with
 |normal=>exact⟨.normal,B,C,A,.head z gJ (StepsIn.trans u (.one (fenced_calm hb E Z) KG))⟩
 | exit id=>
  have hx:exitTo id (.inScope c::k)=exitTo id k:=by simp[exitTo]
  exact⟨.exit id,B,C,A,λL hk=> .head z gJ (u.1 L (by rw[hx];exact hk)),
   λG hk=>let ⟨k₁,h1,h2⟩:=u.2 G (by rw[hx];exact hk);⟨k₁,h1,.head z gJ h2⟩⟩
 |goto l=>exact A.elim
 |ret=>exact⟨_,B,C,A,.of_steps (.one z gJ) u⟩
 |panic M=>exact⟨_,B,C,A,.of_steps (.one z gJ) u⟩
 |outgrown=>exact⟨_,B,C,A,.of_steps (.one z gJ) u⟩
end
section
variable {P:Program} {K0:List Nat} {F:Fr K0} {m:Nat} {Q:Exit->St->Prop} {st:St}
def noG (Q:Exit->St->Prop):Exit->St->Prop
 | .goto _,_=>False
 |e,s=>Q e s
def bU (h:uD P F m c st (noG Q)):uD P F m (.scope c) st Q:=⟨λa w H=>
 rd (Code.wpIn_mono (λe a' w' ⟨s,h1,h2⟩=>by
  cases e with
  |goto l=>exact h1.elim
  |_=>exact⟨s,h1,h2⟩) (h.run a w H))⟩
theorem gY (K A:List Nat) (st0 u z:St) (C:K0.all (K.contains ·)=true) (E:restr K A st=st0)
 (B:uD P F m c st0 (λe s=>match e with| .normal=>restr K A s=u|e=>Q e s))
 (h1:uD P F m c u (λe s=>match e with| .normal=>restr K A s=z|e=>Q e s))
 (h2:uD P F m c z (λe s=>match e with| .normal=>False|e=>Q e s)):uD P F m (.loop c) st Q:=by
 refine wP (λn s=>(n=2/\s=st0)\/(n=1/\s=u)\/(n=0/\s=z)) 2 K A C (.inl ⟨rfl,E⟩) ?_;rintro n s (⟨rfl,rfl⟩|⟨rfl,rfl⟩|⟨rfl,rfl⟩)
 .refine⟨λa w H=>Code.wpIn_mono (λe a' w' ⟨s,q1,q2⟩=>?_) (B.run a w H)⟩
  cases e with
  |normal=>exact⟨s,⟨1,zB,.inr (.inl ⟨rfl,q1⟩)⟩,q2⟩
  |_=>exact⟨s,q1,q2⟩
 all_goals grind
def bV {l:Nat} (h:Q .normal st):uD P F m (.label l) st Q:=⟨λ_ _ H=>wpIn_label ⟨st,h,H⟩⟩
end
def P2 (N:Nat) (h1:1<=N) (h2:N<=1000000):zN 397 [.s (.slice none 0 0),iA N] [] (.ref 1001 0 0) [(1001,.arr 2 [] true)]:=by
 have z:(N:Int)-(0-0)=(N:Int):=by omega
 have u:(N:Int)-(0-((0:Nat):Int))=(N:Int):=by omega
 refine eM call397 λF hF=>?_
 (repeat' (first|refine WS ?_|refine SG (I2 (λhc=>?_) λhc=>?_)|refine SG λhc=>?_|(apply zG;first|(refine wM (ML tok Z Z Z) Z ?_)|(apply gX;refine wM (wd tok Z Z Z Z Z) Z ?_)|(refine Lu tok Z Z Z Z Z Z Z Z Z Z Z Z Z Z (by first|exact z|exact u) h1 zB Z Z Z ?_)|(apply gX;refine Mf tok Z Z Z Z Z Z Z Z ?_))|(first|refine Bh 0 22 1001 Z Z Z ?_|first|refine SR ?_|refine SK (I2 (λhc=>?_) λhc=>?_)|refine SK λhc=>?_|fail)|fail))
 exact zP [1001] Z Z Z Z
def Du:zN 397 [.s (.slice none 0 0),iA 0] [] (.s (.slice none 0 0)) []:=by
 refine eM call397 λF hF=>?_
 (repeat' (first|refine uT ?_|apply yW|apply xI|intro hc|(apply zG;first|(refine wM (ML tok Z Z Z) Z ?_))|fail))
 exact zP [] Z Z Z Z
theorem Zo (a b:List Vh) (S:ln a<=1000) (hb:ln b<=1000):zN 380 [.sl false [zE vB a,zE vB b]] [] (zE vB (a++b)) []:=by
 have L:=zA vB a;have M:=zA vB b;rw[show zE vB (a++b)= .sl false (a.map vB++b.map vB) by unfold zE;rw[zAy]];have E:zE vB a= .sl false (a.map vB):=rfl;have G:zE vB b= .sl false (b.map vB):=rfl;rw[E,G];have z:∀y,(a.map vB)[0]? =some y->ln y.cells=2:=yM _ _ (λ_=>rfl);have C:∀y,(b.map vB)[0]? =some y->ln y.cells=2:=yM _ _ (λ_=>rfl);generalize a.map vB=A,b.map vB=B at *;clear E G;have O:([AV.sl false A,.sl false B]:List AV)[(0:Int).toNat]? =some (.sl false A):=rfl;have R:([AV.sl false A,.sl false B]:List AV)[(0+1:Int).toNat]? =some (.sl false B):=rfl;have I:([AV.sl false A,.sl false B]:List AV).length=2:=rfl;generalize [AV.sl false A,.sl false B]=X at *;refine eM call380 λF hF=>?_
 refine WW ?_;refine gY [] [3,11,0,9,10] ⟨[(3,iA 0),(11,iA 0),(0,.sl false X),(9,.sl false X),(10,iA (ln X))],[]⟩ ⟨[(3,iA (0+(ln A:Int))),(11,iA (0+1)),(0,.sl false X),(9,.sl false X),(10,iA (ln X))],[]⟩ ⟨[(3,iA (0+(ln A:Int)+(ln B:Int))),(11,iA (0+1+1)),(0,.sl false X),(9,.sl false X),(10,iA (ln X))],[]⟩ rfl Z ?_ ?_ ?_
 ·(refine WW ?_)
  rfl
 ·(refine WW ?_)
  rfl
 by_cases hN:ln A+ln B=0
 .have u:=Du;rw[show iA 0=iA (0+(ln A:Int)+(ln B:Int)) by rw[show(0:Int)+(ln A:Int)+(ln B:Int)=0 by omega]]at u
  (repeat' (first|refine uT ?_|apply yW|apply xI|intro hc|(apply zG;apply xP;(refine vG 397 ?_;first|refine wM (jK u Z Z Z Z Z) Z ?_|refine uU (jK u Z Z Z Z Z) Z Z Z ?_|refine aF (jK u Z Z Z Z Z) Z Z Z ?_))|(apply zG;first|refine SM ?_)|fail))
  refine zQ 6 1001 2 Z Z Z ?_;refine gY [1001] [6,27,25,26] ⟨[(6,.ref 1001 0 0),(27,iA 0),(25,.sl false X),(26,iA (ln X))],[(1001,.arr 2 [] true)]⟩ ⟨[(6,.ref 1001 0 (ln A)),(27,iA (0+1)),(25,.sl false X),(26,iA (ln X))],[(1001,.arr 2 A false)]⟩ ⟨[(6,.ref 1001 0 (A++B).length),(27,iA (0+1+1)),(25,.sl false X),(26,iA (ln X))],[(1001,.arr 2 (A++B) true)]⟩ rfl Z ?_ ?_ ?_
  ·(repeat' (first|refine uT ?_|apply yW|apply xI|intro hc|(apply zG;first|(apply yC;first|refine vA tok Z Z Z Z Z Z Z z Z Z Z zB Z ?_|refine jF tok Z Z Z Z Z Z Z Z Z Z Z C zB Z ?_))|fail))
   rfl
  ·(repeat' (first|refine uT ?_|apply yW|apply xI|intro hc|(apply zG;first|(apply yC;first|refine vA tok Z Z Z Z Z Z Z z Z Z Z zB Z ?_|refine jF tok Z Z Z Z Z Z Z Z Z Z Z C zB Z ?_))|fail))
   rfl
  ·(refine WW ?_)
   exact zH [] Z Z (zBb (AV.sl false) Ek) Z
 .have u:=P2 (ln A+ln B) zB zB;rw[show((ln A+ln B:Nat):Int)=0+(ln A:Int)+(ln B:Int) by omega]at u
  (repeat' (first|refine uT ?_|apply yW|apply xI|intro hc|(apply zG;apply xP;(refine vG 397 ?_;first|refine wM (jK u Z Z Z Z Z) Z ?_|refine uU (jK u Z Z Z Z Z) Z Z Z ?_|refine aF (jK u Z Z Z Z Z) Z Z Z ?_))|(apply zG;first|refine SM ?_)|fail))
  refine gY [1001] [6,27,25,26] ⟨[(6,.ref 1001 0 0),(27,iA 0),(25,.sl false X),(26,iA (ln X))],[(1001,.arr 2 [] true)]⟩ ⟨[(6,.ref 1001 0 (ln A)),(27,iA (0+1)),(25,.sl false X),(26,iA (ln X))],[(1001,.arr 2 A false)]⟩ ⟨[(6,.ref 1001 0 (A++B).length),(27,iA (0+1+1)),(25,.sl false X),(26,iA (ln X))],[(1001,.arr 2 (A++B) true)]⟩ rfl Z ?_ ?_ ?_
  ·(repeat' (first|refine uT ?_|apply yW|apply xI|intro hc|(apply zG;first|(apply yC;first|refine vA tok Z Z Z Z Z Z Z z Z Z Z zB Z ?_|refine jF tok Z Z Z Z Z Z Z Z Z Z Z C zB Z ?_))|fail))
   rfl
  ·(repeat' (first|refine uT ?_|apply yW|apply xI|intro hc|(apply zG;first|(apply yC;first|refine vA tok Z Z Z Z Z Z Z z Z Z Z zB Z ?_|refine jF tok Z Z Z Z Z Z Z Z Z Z Z C zB Z ?_))|fail))
   rfl
  ·(refine WW ?_)
   exact zH [] Z Z (zBb (AV.sl false) Ek) Z
def PZ (l:List Vh) (id:Int):List Vh:=l.filter λv=>decide (v.id≠id)
theorem Yo (l:List Vh) (x:Vh) (id:Int):PZ (l++[x]) id=PZ l id++(if x.id=id then []else [x]):=by grind [PZ]
def Xo (l:List Vh) (id:Int):(PZ l id).length<=ln l:=zCh _ _
theorem Wo {id:Int} (h:XR l id=false):PZ l id=l:=by grind [XR,PZ,List.filter_eq_self,List.any_eq_false]
def Vo {id:Int} (hv:MT l=true) {k:Nat} (hk:k<ln l) (z:(l.getD k dd).id=id):PZ l id=l.take k++l.drop (k+1):=by
 have B:l.getD k dd=l[k]:=by simp[py,hk]
 have e1:l=l.take k++l[k]::l.drop (k+1):=by rw[List.getElem_cons_drop,zEh]
 have u:=mo hv
 have h1:PZ (l.take k) id=l.take k:=by
  refine List.filter_eq_self.2 λx hx=>zAu λe=>?_
  obtain⟨i,hi,rfl⟩:=zC8 hx;simp only[zBg]at hi;have q1:=u k hk i zB;have A:l.getD i dd=l[i]:=by simp[py,show i<ln l by omega]
  rw[List.getElem_take]at e;rw[A,e,z]at q1;omega
 have h2:PZ (l.drop (k+1)) id=l.drop (k+1):=by
  refine List.filter_eq_self.2 λx hx=>zAu λe=>?_
  obtain⟨i,hi,rfl⟩:=zC8 hx;simp only[zBr]at hi;have q1:=u (k+1+i) zB k zB;have A:l.getD (k+1+i) dd=l[k+1+i]:=by simp[py,show k+1+i<ln l by omega]
  rw[List.getElem_drop]at e;rw[A,e,z]at q1;omega
 conv=>lhs;rw[e1]
 unfold PZ at h1 h2⊢;rw[zFr,List.filter_cons,Os (by rw[<-B,z];simp),h1,h2]
def wi (l:List Vh) (G:ln l<=1000000) (id:Int):zN 333 [zE vB l,iA id] [] (if MT l=true then(if(PZ l id).length=ln l then .tup [.sl false [],iA 12]else .tup [zE vB (PZ l id),iA 0])else .tup [.sl false [],iA 1]) []:=by
 have C:=zA vB l;have u:=RK l G
 cases hv:MT l with
 |false=>
  rw[hv]at u;rw[Os zA7];refine eM call333 λF hF=>?_
  exact oj u
 |true=>
 rw[hv]at u;rw[f5 Z];have A:=Xo l id;have B:=zA vB (PZ l id);refine eM call333 λF hF=>?_
 refine WH u ?_;refine zQ 6 1001 2 Z Z Z ?_;refine zU (l) [1001] [] [0,1,12,13] [6,14,0,1,12,13] Z (λi f4 T U=>⟨(6,.ref 1001 0 ((PZ f4 id).map vB).length)::(14,iA i)::T,(1001,.arr 2 ((PZ f4 id).map vB) true)::U⟩) (Lq ?_ ?_)
 .intro i f4 x post hx hi;have I:=yJ vB hx hi;have E:=zX hx hi;have A:=Xo f4 id;have B:=zA vB (PZ f4 id);have e:(PZ (f4++[x]) id).map vB=(PZ f4 id).map vB++(if x.id=id then []else [x]).map vB:=by rw[Yo,zAy]
  rw[e];clear hx e;generalize (PZ f4 id).map vB=R at *;by_cases h:x.id=id
  .rw[f5 h];refine WW ?_;rw[zCj,zBn];rfl
  .rw[Os h];refine WW ?_;rfl
 .by_cases h:(PZ l id).length=ln l
  .rw[f5 h];exact ly
  .rw[Os h];refine WW ?_;exact zH [] Z Z (zBb (λz=>AV.tup [AV.sl false z,iA 0]) Ek) Z
def AX (l:List Vh) (U:ln l<=1000) (id:Int):∃(B:List Vh) (e:Int),((0<=e/\e<=100)/\(e≠0->B=[]))/\B.length<=ln l/\zN 349 [zE vB l,iA id] [] (.tup [zE vB B,iA e]) []/\zN 333 [zE vB l,iA id] [] (.tup [zE vB B,iA e]) []:=by
 have R:=zA vB l;have p2:=TO l zB;have c:=wi l zB id;obtain⟨k,M,C,E⟩:=ya l id;have I:=MO l id zB k M C E
 cases hv:MT l with
 |false=>
  rw[hv]at p2 c;rw[Os zA7]at c;refine⟨[],1,⟨zB,λ_=>rfl⟩,by simp,?_,c⟩;refine eM call349 λF hF=>?_
  exact oj p2
 |true=>
 have u:=RI (id:=id) hv M C E;rw[hv]at p2 c;rw[f5 Z]at c
 cases hh:XR l id with
 | false=>
  rw[f5 (by rw[Wo hh])]at c;refine⟨[],12,⟨zB,λ_=>rfl⟩,by simp,?_,c⟩
  have z:∀hk:k<ln l,(l.getD k dd).id≠id:=λhk e=>by
   rw[u.2 ⟨hk,e⟩]at hh;cases hh
  clear u C E c;by_cases hk:k<ln l
  .have S:=zJ vB l k hk;have z:=z hk;generalize l.getD k dd=x at *;refine eM call349 λF hF=>?_
   exact nm (xV p2 I)
  .clear z;refine eM call349 λF hF=>?_
   exact nm (xV p2 I)
 |true=>
  obtain⟨hk,O⟩:=u.1 hh;have G:=Vo hv hk O;have A:(PZ l id).length=ln l-1:=by rw[G];simp;omega
  rw[Os zB]at c;refine⟨PZ l id,0,⟨zB,λh=>absurd Z h⟩,zB,?_,c⟩;have L:=Zo (l.take (k:Int).toNat) (l.drop ((k:Int)+1).toNat) qA qA;rw[show l.take (k:Int).toNat++l.drop ((k:Int)+1).toNat=PZ l id by rw[G];congr 1]at L;have S:=zJ vB l k hk;clear u C E c G A;generalize PZ l id=B,l.getD k dd=x at *;refine eM call349 λF hF=>?_
  exact nm (qM p2 I L)
def jy (t:Tk):zN 394 [yP t] [] (bA (!t.used)) []:=by
 obtain⟨u,a,b,c,d,e⟩:=t
 cases u with
 |true=>
  rw[show yP ⟨true,a,b,c,d,e⟩= .agg [bA true,zE yA a,iA b,iA c,iA d,iA e]from Z];refine eM call394 λF hF=>?_
  exact ly
 |false=>
  rw[show yP ⟨false,a,b,c,d,e⟩= .agg [bA false,zE yA a,iA b,iA c,iA d,iA e]from Z];refine eM call394 λF hF=>?_
  exact ly
def U7 (l:List Tk) (A:ln l<=1000000) (k:Nat) (hk:k<ln l) (h1:∀i,i<k->(l.getD i dd).used=true) (h2:(l.getD k dd).used=false):zN 393 [zE yP l,.fn 394 []] [] (iA k) []:=by
 have hl:=zA yP l;refine eM call393 λF hF=>?_
 refine WW ?_;refine yU (ln l) [] [] [0,1,7] [8,0,1,7] Z (λi T U z=>(i<=k)/\z=⟨(8,iA i)::T,U⟩) (Lp ?_ ?_ ?_)
 .exact⟨zA9 _,rfl⟩
 .rintro i st hi ⟨hik,rfl⟩;have B:=zJ yP l i hi;have c:=jy (l.getD i dd);by_cases u:i=k
  .subst u;rw[h2]at c;generalize l.getD i dd=t at *;exact ng c
  .rw[h1 i zB]at c;generalize l.getD i dd=t at *;refine zS c ?_;exact⟨zB,rfl⟩
 .rintro st ⟨hik,rfl⟩;exfalso;omega
def rb (u f3:Int):Int:=if 0<u then f3+u else 0
theorem Cu (l:List Tk) (k:Nat) (t:Tk) (n:Nat) (u:n=ln l):zE yP (l.set k t)= .sl false (((l.map yP).set k (yP t)).take n):=by grind [zE,yP,List.map_set,List.take_of_length_le]
theorem yK {α:Type} [Inhabited α] (l:List α) (i:Nat) (h:i<ln l):l.getD i dd∈l:=by grind
def O2 (l:List Tk):Prop:=∀t∈l,t.used=true->bj t.rights 10=false
def o9 (l o:List Tk):Prop:=O2 l->O2 o
def Zd (l:List Tk) (s:Int) (j:Nat):Tk:=if lj l j s=true then ab else l.getD j dd
def RJ (l:List Tk) (s:Int) (n:Nat):List Tk:=(pi (ln l)).map λj=>if j<n then Zd l s j else l.getD j dd
def OA (l:List Tk) (s:Int) (n:Nat):(RJ l s n).length=ln l:=by simp[RJ]
theorem Uo (l:List Tk) (s:Int):RJ l s 0=l:=by apply zB0<;>grind [RJ,List.getElem?_range,py,List.getElem?_eq_none,pi]
theorem M2 (l:List Tk) (s:Int) (n:Nat) (h:n<ln l):(RJ l s n)[n]? =some (l.getD n dd):=by grind [RJ]
theorem To (l:List Tk) (s:Int) (n:Nat) (h:n<ln l):RJ l s (n+1)=(RJ l s n).set n (Zd l s n):=by apply zB0<;>grind [RJ,Zd,List.length_map,List.length_range,List.getElem?_range,List.getElem?_eq_none,List.range]
def vi (l:List Tk) (hb:JU l) (hv:QZ l=true) (s:Int) (hs:1<=s/\s<8) (h8:ln l=8) (Y:(l.getD s.toNat dd).used=true):zN 346 [zE yP l,iA s] [] (.tup [zE yP (RJ l s (ln l)),iA 0]) []:=by
 have E:=TU l;rw[hv]at E;have I:=VM l hb;have ac:=zA yP l;have hy:=yE yP l s zB zB;have hd:=λj=>mp l j s
 have W:=Oc;generalize l.getD s.toNat dd=t at *;obtain⟨u,M,O,R,S,V⟩:=t;dsimp only at Y;subst Y;rw[show yP ⟨true,M,O,R,S,V⟩= .agg [bA true,zE yA M,iA O,iA R,iA S,iA V]from Z]at hy;refine eM call346 λF hF=>?_
 refine yG (xV E I) ?_;refine zO (ln l) [1001] [] [0,1,6,26] [27,0,1,6,26] Z (λi T U=>⟨(27,iA i)::T,(1001,.arr 6 ((RJ l s i).map yP) false)::U⟩) ?_;(conv=>whnf);refine⟨by(rw[Uo];rfl),?_,?_⟩
 .intro i hi;have C:((RJ l s i).map yP)[i]? =some (yP (l.getD i dd)):=by rw[zAz,M2 l s i hi];rfl
  have G:=hd i;have ag:i<((RJ l s i).map yP).length:=by rw[zAr,OA];exact hi
  rw[To l s i hi,zCe];have A:(l.getD i dd)=(l.getD i dd):=rfl
  have z:((RJ l s i).map yP).set i (yP (l.getD i dd))=(RJ l s i).map yP:=by
   rw[zBj]at C;obtain⟨h,e⟩:=C;rw[<-e,zGa]
  unfold Zd
  cases B:lj l i s with
  |true=>
   rw[B]at G;rw[f5 Z];generalize (RJ l s i).map yP=xs,l.getD i dd=ti at *;clear z A hd E I;refine yG (xV G W) ?_;rfl
  |false=>
   rw[B]at G;rw[Os zA7,z];generalize (RJ l s i).map yP=xs at *;clear z A hd E I W;refine zS G ?_;rfl
 .have L:=OA l s (ln l);rw[show zE yP (RJ l s (ln l))= .sl false (((RJ l s (ln l)).map yP).take (l.map yP).length) by rw[zA1 (by simp[L])];rfl];generalize (RJ l s (ln l)).map yP=xs at *;exact ly
def EO (l:List Tk) (k:Nat) (e:Int) (t:Tk):List Tk:=if e=0 then l.set k t else []
theorem So {P:Nat->Prop}:∀n,P n->∃m,m<=n/\P m/\∀k,k<m->¬P k:=by
 intro n
 induction n using Nat.strongRecOn with
 |_ n u=>
  grind
def K2 (l:List Tk) (u:ln l<=1000000) (h1:∀i,i<ln l->(l.getD i dd).used=true):zN 393 [zE yP l,.fn 394 []] [] (iA (-1)) []:=by
 have hl:=zA yP l;refine eM call393 λF hF=>?_
 refine WW ?_;refine zO (ln l) [] [] [0,1,7] [8,0,1,7] Z (λi T U=>⟨(8,iA i)::T,U⟩) (Lq ?_ ?_)
 .intro i hi;have z:=zJ yP l i hi;have c:=jy (l.getD i dd);rw[h1 i hi]at c;generalize l.getD i dd=t at *;refine zS c ?_;rfl
 .exact ly
def Ro (l:List Tk) (p R c u f3:Int):Prop:=∃(k:Nat) (e:Int),(0<=e/\e<=20)/\(k=0\/k<ln l)/\(e=0->QZ l=true/\0<=p/\p<ln l/\(l.getD k dd).used=false/\Rc R (l.getD p.toNat dd).rights=true/\(l.getD p.toNat dd).used=true)/\∀z:List Int,(ln z:Int)=8->
 zN 375 [zE yP l,iA p,iA R,iA c,iA u,zE yA z,iA f3] [] (.tup [zE yP (EO l k e ⟨true,z,p,R,c,rb u f3⟩),iA k,iA e]) []/\
 zN 330 [zE yP l,iA p,iA R,iA c,iA u,zE yA z,iA f3] [] (.tup [zE yP (EO l k e ⟨true,z,p,R,c,rb u f3⟩),iA k,iA e]) []
def cG {l:List Tk} {p R c u f3:Int} (e:Int) (h1:1<=e) (h2:e<=20) (h:∀z:List Int,(ln z:Int)=8->zN 375 [zE yP l,iA p,iA R,iA c,iA u,zE yA z,iA f3] [] (.tup [zE yP [],iA 0,iA e]) []/\zN 330 [zE yP l,iA p,iA R,iA c,iA u,zE yA z,iA f3] [] (.tup [zE yP [],iA 0,iA e]) []):Ro l p R c u f3:=
 ⟨0,e,⟨zB,h2⟩,.inl Z,λB=>by omega,λz A=>by
  have hd:EO l 0 e ⟨true,z,p,R,c,rb u f3⟩=[]:=by unfold EO;rw[Os zB]
  rw[hd]
  exact h z A⟩
theorem AY (l:List Tk) (hb:JU l) (p R c A f3:Int):Ro l p R c A f3:=by
 have hn:=hb.n;have a5:=zA yP l;have I:=TU l;have G:=RP l;rw[<-vg]at G
 cases hv:QZ l with
 | false=>
  rw[hv]at I G
  exact cG 1 zB zB λz hs=>⟨by
   have B:=zA yA z;refine eM call375 λF hF=>?_
   exact ng I,by
   have B:=zA yA z;refine eM call330 λF hF=>?_
   exact ng G⟩
 |true=>
 rw[hv]at I G;have h8:(ln l:Int)=8:=by unfold QZ at hv;rw[zA2,zAx]at hv;exact hv.1
 by_cases bb:0<=f3
 case neg=>
  exact cG 1 zB zB λz hs=>⟨by
   have B:=zA yA z;refine eM call375 λF hF=>?_
   exact ng I,by
   have B:=zA yA z;refine eM call330 λF hF=>?_
   exact ng G⟩
 by_cases bd:f3<=1073741824
 case neg=>
  exact cG 1 zB zB λz hs=>⟨by
   have B:=zA yA z;refine eM call375 λF hF=>?_
   exact ng I,by
   have B:=zA yA z;refine eM call330 λF hF=>?_
   exact ng G⟩
 have M:=Pc l p;by_cases ap:0<=p
 case neg=>
  rw[show jW l p=false by unfold jW;rw[zAs (λh=>ap h.1)];rfl]at M
  exact cG 12 zB zB λz hs=>⟨by
   have B:=zA yA z;refine eM call375 λF hF=>?_
   exact mx (xV I M),by
   have B:=zA yA z;refine eM call330 λF hF=>?_
   exact ng G⟩
 by_cases ar:p<ln l
 case neg=>
  rw[show jW l p=false by unfold jW;rw[zAs (λh=>ar h.2)];rfl]at M
  exact cG 12 zB zB λz hs=>⟨by
   have B:=zA yA z;refine eM call375 λF hF=>?_
   exact mx (xV I M),by
   have B:=zA yA z;refine eM call330 λF hF=>?_
   exact ng G⟩
 have hy:=yE yP l p ap ar;have a3:jW l p=(l.getD p.toNat dd).used:=by unfold jW;rw[zAu ⟨ap,ar⟩,zA3]
 rw[a3]at M;have c3:=AF R (l.getD p.toNat dd).rights;have r3:=JQ R (l.getD p.toNat dd).rights;have c4:=nf (rb A f3) (l.getD p.toNat dd).til;have r4:=AG (rb A f3) (l.getD p.toNat dd).til
 have C:rb A f3=if 0<A then f3+A else 0:=rfl
 generalize rb A f3=un at *;clear a3;generalize a2:l.getD p.toNat dd=t at *;obtain⟨u,t1,t2,t3,t4,t5⟩:=t;rw[show∀u,yP ⟨u,t1,t2,t3,t4,t5⟩= .agg [bA u,zE yA t1,iA t2,iA t3,iA t4,iA t5]from λ_=>rfl]at hy;dsimp only at*
 cases u with
 | false=>
  exact cG 12 zB zB λz hs=>⟨by
   have B:=zA yA z;refine eM call375 λF hF=>?_
   exact mx (xV I M),by
   have B:=zA yA z;refine eM call330 λF hF=>?_
   exact ng G⟩
 |true=>
 cases hw:Rc R t3 with
 | false=>
  rw[hw]at c3 r3
  exact cG 8 zB zB λz hs=>⟨by
   have B:=zA yA z;refine eM call375 λF hF=>?_
   exact mx (qM I M c3),by
   have B:=zA yA z;refine eM call330 λF hF=>?_
   exact mx (xV G r3)⟩
 |true=>
 rw[hw]at c3 r3;by_cases a7:0<=c
 case neg=>
  exact cG 8 zB zB λz hs=>⟨by
   have B:=zA yA z;refine eM call375 λF hF=>?_
   exact mx (qM I M c3),by
   have B:=zA yA z;refine eM call330 λF hF=>?_
   exact mx (xV G r3)⟩
 by_cases a8:c<=t4
 case neg=>
  exact cG 8 zB zB λz hs=>⟨by
   have B:=zA yA z;refine eM call375 λF hF=>?_
   exact mx (qM I M c3),by
   have B:=zA yA z;refine eM call330 λF hF=>?_
   exact mx (xV G r3)⟩
 by_cases a9:0<=A
 case neg=>
  exact cG 8 zB zB λz hs=>⟨by
   have B:=zA yA z;refine eM call375 λF hF=>?_
   exact mx (qM I M c3),by
   have B:=zA yA z;refine eM call330 λF hF=>?_
   exact mx (xV G r3)⟩
 by_cases ba:A<=600
 case neg=>
  exact cG 8 zB zB λz hs=>⟨by
   have B:=zA yA z;refine eM call375 λF hF=>?_
   exact mx (qM I M c3),by
   have B:=zA yA z;refine eM call330 λF hF=>?_
   exact mx (xV G r3)⟩
 cases ax:Jr un t5 with
 | true=>
  rw[ax]at c4 r4;by_cases h0:0<A
  .rw[f5 h0]at C;subst C
   exact cG 8 zB zB λz hs=>⟨by
    have B:=zA yA z;refine eM call375 λF hF=>?_
    exact mx (cD I M c3 c4),by
    have B:=zA yA z;refine eM call330 λF hF=>?_
    exact mx (qM G r3 r4)⟩
  .rw[Os h0]at C;subst C
   exact cG 8 zB zB λz hs=>⟨by
    have B:=zA yA z;refine eM call375 λF hF=>?_
    exact mx (cD I M c3 c4),by
    have B:=zA yA z;refine eM call330 λF hF=>?_
    exact mx (qM G r3 r4)⟩
 |false=>
 rw[ax]at c4 r4;have a6:Rc R (l.getD p.toNat dd).rights=true/\(l.getD p.toNat dd).used=true:=by rw[a2];exact⟨hw,rfl⟩
 clear ax hw a2;by_cases a1:∃k,k<ln l/\(l.getD k dd).used=false
 case neg=>
  have ag:∀i,i<ln l->(l.getD i dd).used=true:=λi hi=>by
   cases h:(l.getD i dd).used with
   |true=>rfl
   |false=>exact absurd ⟨i,hi,h⟩ a1
  have c5:=K2 l hn ag
  rcases(show(0<A/\rb A f3=f3+A)\/(¬0<A/\rb A f3=0) by unfold rb;by_cases h:0<A;exact .inl ⟨h,f5 h⟩;exact .inr ⟨h,Os h⟩)with⟨h0,az⟩|⟨h0,az⟩
  .rw[f5 h0]at C;subst C
   exact cG 10 zB zB λz hs=>⟨by
    have B:=zA yA z;refine eM call375 λF hF=>?_
    exact mx (MG I M c3 c4 c5),by
    have B:=zA yA z;refine eM call330 λF hF=>?_
    refine yG (qM G r3 r4) ?_;refine zO (ln l) [] [] [0,1,2,3,5,18,90,91] [92,0,1,2,3,5,18,90,91] Z (λi T U=>⟨(92,iA i)::T,U⟩) (Lq ?_ ?_)
    .intro i hi;have S:=zJ yP l i hi;have E:=ag i hi;generalize l.getD i dd=x at *;obtain⟨xu,V,W,Y,x4,x5⟩:=x;dsimp only at E;subst E;rw[show yP ⟨true,V,W,Y,x4,x5⟩= .agg [bA true,zE yA V,iA W,iA Y,iA x4,iA x5]from Z]at S;refine WW ?_;rfl
    .exact ly⟩
  .rw[Os h0]at C;subst C
   exact cG 10 zB zB λz hs=>⟨by
    have B:=zA yA z;refine eM call375 λF hF=>?_
    exact mx (MG I M c3 c4 c5),by
    have B:=zA yA z;refine eM call330 λF hF=>?_
    refine yG (qM G r3 r4) ?_;refine zO (ln l) [] [] [0,1,2,3,5,18,90,91] [92,0,1,2,3,5,18,90,91] Z (λi T U=>⟨(92,iA i)::T,U⟩) (Lq ?_ ?_)
    .intro i hi;have S:=zJ yP l i hi;have E:=ag i hi;generalize l.getD i dd=x at *;obtain⟨xu,V,W,Y,x4,x5⟩:=x;dsimp only at E;subst E;rw[show yP ⟨true,V,W,Y,x4,x5⟩= .agg [bA true,zE yA V,iA W,iA Y,iA x4,iA x5]from Z]at S;refine WW ?_;rfl
    .exact ly⟩
 obtain⟨k0,a4,az⟩:=a1;obtain⟨k,_,⟨hk,L⟩,ac⟩:=So (P:=λk=>k<ln l/\(l.getD k dd).used=false) k0 ⟨a4,az⟩
 have O:∀i,i<k->(l.getD i dd).used=true:=λi hi=>by
  cases h:(l.getD i dd).used with
  |true=>rfl
  |false=>exact absurd ⟨zB,h⟩ (ac i hi)
 have c5:=U7 l hn k hk O L;have c6:=VM l hb;have r6:=MY l hb;refine⟨k,0,zB,.inr hk,λ_=>⟨hv,ap,ar,L,a6⟩,λz hs=>?_⟩;have hd:∀x:Tk,EO l k 0 x=l.set k x:=λx=>by unfold EO;rw[f5 Z]
 rw[hd];have c7:=kS z zB;have B:=zA yA z;have au:=zJ yP l k hk;have eS:=Cu l k ⟨true,z,p,R,c,rb A f3⟩ (l.map yP).length a5;rw[eS];clear eS hd;rw[show rb A f3=if 0<A then f3+A else 0 from Z];by_cases h0:0<A
 .rw[f5 h0]at C⊢;subst C;refine⟨?_,?_⟩
  .clear G r3 r4 r6 O ac L;generalize l.getD k dd=tk at *;refine eM call375 λF hF=>?_
   exact mx (Ax I M c3 c4 c5 c6 c7)
  .clear I M c3 c4 c5 c6 c7;refine eM call330 λF hF=>?_
   refine yG (qM G r3 r4) ?_;refine yU (ln l) [] [] [0,1,2,3,5,18,90,91] [92,0,1,2,3,5,18,90,91] Z (λi T U zs=>(i<=k)/\zs=⟨(92,iA i)::T,U⟩) (Lp ?_ ?_ ?_)
   .exact⟨zA9 _,rfl⟩
   .rintro i st hi ⟨hik,rfl⟩;have S:=zJ yP l i hi;by_cases av:i=k
    .subst av;clear O ac au hy;generalize l.getD i dd=x at *;obtain⟨xu,V,W,Y,x4,x5⟩:=x;dsimp only at L;subst L;rw[show yP ⟨false,V,W,Y,x4,x5⟩= .agg [bA false,zE yA V,iA W,iA Y,iA x4,iA x5]from Z]at S;exact oj r6
    .have E:=O i zB;clear O ac au L hy;generalize l.getD i dd=x at *;obtain⟨xu,V,W,Y,x4,x5⟩:=x;dsimp only at E;subst E;rw[show yP ⟨true,V,W,Y,x4,x5⟩= .agg [bA true,zE yA V,iA W,iA Y,iA x4,iA x5]from Z]at S;refine WW ?_;exact⟨zB,rfl⟩
   .rintro st ⟨hik,rfl⟩;exfalso;omega
 .rw[Os h0]at C⊢;subst C;refine⟨?_,?_⟩
  .clear G r3 r4 r6 O ac L;generalize l.getD k dd=tk at *;refine eM call375 λF hF=>?_
   exact mx (Ax I M c3 c4 c5 c6 c7)
  .clear I M c3 c4 c5 c6 c7;refine eM call330 λF hF=>?_
   refine yG (qM G r3 r4) ?_;refine yU (ln l) [] [] [0,1,2,3,5,18,90,91] [92,0,1,2,3,5,18,90,91] Z (λi T U zs=>(i<=k)/\zs=⟨(92,iA i)::T,U⟩) (Lp ?_ ?_ ?_)
   .exact⟨zA9 _,rfl⟩
   .rintro i st hi ⟨hik,rfl⟩;have S:=zJ yP l i hi;by_cases av:i=k
    .subst av;clear O ac au hy;generalize l.getD i dd=x at *;obtain⟨xu,V,W,Y,x4,x5⟩:=x;dsimp only at L;subst L;rw[show yP ⟨false,V,W,Y,x4,x5⟩= .agg [bA false,zE yA V,iA W,iA Y,iA x4,iA x5]from Z]at S;exact oj r6
    .have E:=O i zB;clear O ac au L hy;generalize l.getD i dd=x at *;obtain⟨xu,V,W,Y,x4,x5⟩:=x;dsimp only at E;subst E;rw[show yP ⟨true,V,W,Y,x4,x5⟩= .agg [bA true,zE yA V,iA W,iA Y,iA x4,iA x5]from Z]at S;refine WW ?_;exact⟨zB,rfl⟩
   .rintro st ⟨hik,rfl⟩;exfalso;omega
theorem T7 (l:List Tk) (s:Int) (u:ln l=8):RJ l s (ln l)=RQ (λi=>YB l 9 i s) l 8:=by grind [RJ,RQ,YB,List.map_congr_left,Zd,Uy]
def XH:JU []:=⟨by simp,λt h=>by simp at h⟩
def J2 {l:List Tk} (hb:JU l) (s:Int) (n:Nat):JU (RJ l s n):=by
 refine⟨by rw[OA];exact hb.n,λt u=>?_⟩
 have z:∀j,(l.getD j dd).sec.length<=1000000:=λj=>by
  by_cases h:j<ln l
  .exact hb.s _ (by simp[py,h])
  .rw[show l.getD j dd=dd by simp[py,h]];exact zA9 _
 unfold RJ at u;rw[zCa]at u;obtain⟨j,_,rfl⟩:=u;split
 .unfold Zd;split
  .exact zA9 _
  .exact z j
 .exact z j
def C2 {l:List Tk} {s:Int}:o9 l (RJ l s (ln l)):=λh t z u=>by
 obtain⟨j,hj,rfl⟩:=zCa.1 z;rw[zBi]at hj;rw[f5 hj]at u⊢;unfold Zd at u⊢;split at u
 .cases u
 .rw[Os ‹_›];exact h _ (yK l j hj) u
def AZ (l:List Tk) (hb:JU l) (s:Int):∃(o:List Tk) (e:Int),(0<=e/\e<=20)/\JU o/\(e=0->ln o=ln l/\o9 l o)/\zN 346 [zE yP l,iA s] [] (.tup [zE yP o,iA e]) []/\zN 331 [zE yP l,iA s] [] (.tup [zE yP o,iA e]) []:=by
 have M:=hb.n;have L:=zA yP l;have z:=TU l;have u:=RP l;rw[<-vg]at u
 cases hv:QZ l with
 | false=>
  rw[hv]at z u;refine⟨[],1,zB,XH,λh=>absurd h yY,?_,?_⟩
  ·(refine eM call346 λF hF=>?_)
   exact ng z
  ·(refine eM call331 λF hF=>?_)
   exact ng u
 |true=>
 rw[hv]at z u;have A:ln l=8:=by unfold QZ at hv;rw[zA2,zAx]at hv;omega
 by_cases h1:1<=s
 case neg=>
  refine⟨[],8,zB,XH,λh=>absurd h yY,?_,?_⟩
  ·(refine eM call346 λF hF=>?_)
   exact ng z
  ·(refine eM call331 λF hF=>?_)
   exact ng u
 by_cases h2:s<8
 case neg=>
  refine⟨[],8,zB,XH,λh=>absurd h yY,?_,?_⟩
  ·(refine eM call346 λF hF=>?_)
   exact ng z
  ·(refine eM call331 λF hF=>?_)
   exact ng u
 have C:=yE yP l s zB zB
 cases B:(l.getD s.toNat dd).used with
 | false=>
  rw[show yP (l.getD s.toNat dd)=dO false (l.getD s.toNat dd) by unfold yP dO;rw[B]]at C;unfold dO at C;generalize l.getD s.toNat dd=t at *;refine⟨[],12,zB,XH,λh=>absurd h yY,?_,?_⟩
  ·(refine eM call346 λF hF=>?_)
   exact ng z
  ·(refine eM call331 λF hF=>?_)
   exact ng u
 |true=>
  have I:=vi l hb hv s ⟨h1,h2⟩ A B;have E:=yg l s A;rw[A]at E;have G:=xg l hb (λi=>YB l 9 i s) A;rw[<-T7 l s A]at G;rw[show yP (l.getD s.toNat dd)=dO true (l.getD s.toNat dd) by unfold yP dO;rw[B]]at C;unfold dO at C;refine⟨RJ l s (ln l),0,zB,J2 hb s _,λ_=>⟨OA l s _,C2⟩,I,?_⟩;clear I B;generalize RJ l s (ln l)=O,hH (λi=>YB l 9 i s) 8=b,l.getD s.toNat dd=t at *;refine eM call331 λF hF=>?_
  exact mx (qM u E G)
def VP (r:Rg):xW:= .box [iA r.num,zE yA r.ag.sec,iA r.ag.rights,iA r.ag.cls,zE iA r.ag.lim,iA r.ag.req,iA r.ag.ses,iA r.ag.rate,iA r.ag.burst,zE yP r.tk,zE vB r.vh,iA r.bk.level,iA r.bk.rate,iA r.bk.burst]
def gy (r:Rg) (l:List Tk):Rg:=⟨r.num,r.ag,l,r.vh,r.bk⟩
def dy (m:Ms) (a:Int) (u:m.args=[a]):zN 347 [zW m] [] (zW ⟨14,[],[m.kind,a],[]⟩) []:=by
 obtain⟨k,t,A,d⟩:=m;dsimp only at u⊢;subst u;have z:([a].map iA).length=1:=rfl;refine eM call347 λF hF=>?_
 exact nl
