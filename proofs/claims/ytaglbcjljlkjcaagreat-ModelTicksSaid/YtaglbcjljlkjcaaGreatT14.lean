/- Part 14. -/
import Derived.Test.YtaglbcjljlkjcaaGreatT13
import Derived.Scope
namespace Go.Proofs.YtaglbcjljlkjcaaGreat.Av
open Tryz
set_option linter.all false
set_option maxRecDepth 4000
set_option maxHeartbeats 4000000
open List renaming length->ln,replicate->oj,range->pb,getD->pi
open Inhabited renaming default->dd
variable {c:Code}{l:List Vh}
def MY (l:List Vh) (id:Int) (I:ln l<=1000000) (k:Nat) (L:k<=ln l) (C:∀i,i<k->(l.getD i dd).id<id) (E:k<ln l->¬(l.getD k dd).id<id):zM 379 [zE vA l,iA id] [] (iA k) []:=by
 have A:=zA vA l;refine eM call379 λF hF=>?_
 refine WW ?_;refine yV (ln l+1) [] [] [0,1] [5,0,1] Z (λi T U G=>(i<=k)/\G=⟨(5,iA i)::T,U⟩) (Lp ?_ ?_ ?_)
 .exact⟨zBn _,rfl⟩
 .rintro i st hi ⟨hik,rfl⟩;by_cases z:i<k
  .have B:=zJ vA l i zB;have hh:=C i z;generalize l.getD i dd=x at *;refine WW ?_;exact⟨zB,rfl⟩
  .obtain rfl:i=k:=by omega
   by_cases u:i<ln l
   .have B:=zJ vA l i u;have hh:=E u;generalize l.getD i dd=x at *;exact ly
   .exact ly
 .rintro st ⟨hik,rfl⟩;exfalso;omega
def va (l:List Vh) (c:Int) (B:ln l<=1000000):zM 395 [zE vA l,iA c] [] (iA (qA l c)) []:=by
 have hl:=zA vA l;refine eM call395 λF hF=>?_
 refine WW ?_;refine zQ (l) [] [] [1,8,9] [5,10,1,8,9] Z (λi f4 T U=>⟨(5,iA (qA f4 c))::(10,iA i)::T,U⟩) (Lq ?_ ?_)
 .intro i f4 x post u hi;have C:=zZ vA u hi;have A:=zV u hi;have z:qA f4 c<=i:=by rw[<-hi];exact zCv _ _
  have e:qA (f4++[x]) c=qA f4 c+(if x.cls=c then 1 else 0):=by
   unfold qA;rw[zF8,zA9];by_cases h:x.cls=c
   all_goals simp[h]
  clear u;by_cases h:x.cls=c
  .rw[zA4 h]at e;rw[e];generalize qA f4 c=m at *;refine WW ?_;rfl
  .rw[Os h,zDv]at e;rw[e];generalize qA f4 c=m at *;refine WW ?_;rfl
 .exact ly
def ua (a:Ag) (c:Int) (u:0<=c) (h1:c<ln a.lim):zM 396 [uK a,iA c] [] (iA (a.lim.getD c.toNat dd)) []:=by
 have z:=zA iA a.lim;have A:=yF iA a.lim c u h1;refine eM call396 λF hF=>?_
 exact ly
def Ry (a:Ag) (c:Int):Ag:=⟨a.sec,a.rights,c,a.lim,a.req,a.ses,a.rate,a.burst⟩
theorem Bo (hv:LD l=true):∀j,j<ln l->∀i,i<j->(l.getD i dd).id<(l.getD j dd).id
 |0,_,i,hi=>absurd hi (zC0 _)
 |j+1,hj,i,hi=>by
  have h1:=((My.1 hv).2 (j+1) hj).2 zB;rw[Nat.add_sub_cancel]at h1;by_cases h:i=j
  .subst h;exact h1
  .have:=Bo hv j zB i zB;omega
theorem RQ {id:Int} (hv:LD l=true) {k:Nat} (C:k<=ln l) (E:∀i,i<k->(l.getD i dd).id<id) (G:k<ln l->¬(l.getD k dd).id<id):XS l id=true↔k<ln l/\(l.getD k dd).id=id:=by
 constructor
 .intro h;obtain⟨x,A,u⟩:=zCw.1 h;obtain⟨i,hi,rfl⟩:=zDl A;rw[zCm]at u;have z:l.getD i dd=l[i]:=by simp[pi,hi]
  rw[<-z]at u;by_cases h1:i<k
  .grind
  .have hk:k<ln l:=by omega
   by_cases h2:i=k
   .grind
   .have B:=Bo hv i hi k zB
    grind
 all_goals grind [LD,XS]
theorem qa (l:List Vh) (V:ln l<=1000000) (a:Ag) (ac:(ln a.lim:Int)=4) (ar:a.cls<=3) (v:Vh) (hv:LD l=true) (h1:0<=v.id) (h2:v.id<=4294967295) (h3:0<=v.cls) (h4:v.cls<=a.cls) (I:XS l v.id=false) (h5:(qA l v.cls:Int)<a.lim.getD v.cls.toNat dd) (h6:ln l<8)
  (k:Nat) (k1:k<=ln l) (W:∀i,i<k->(l.getD i dd).id<v.id) (Y:k<ln l->¬(l.getD k dd).id<v.id):zM 378 [zE vA l,uK a,vA v] [] (.tup [zE vA (l.take k++v::l.drop k),iA 0]) []:=by
 have ax:=zA vA l;have av:=zA iA a.lim;have O:=TW l V;have c3:=MY l v.id V k k1 W Y;have c4:=va l v.cls V;have c5:=ua a v.cls h3 zB
 have G:k<ln l->(l.getD k dd).id≠v.id:=λhk e=>by
  rw[(RQ hv k1 W Y).2 ⟨hk,e⟩]at I;cases I
 rw[hv]at O;clear hv I W Y
 have au:(qA l v.cls:Int)<=1000000:=by
  have:qA l v.cls<=ln l:=zCv _ _;omega
 generalize (qA l v.cls:Int)=cn,a.lim.getD v.cls.toNat dd=az at *;have U:((l.take (k:Int).toNat).map vA).length=k:=by simp;omega
 have S:((l.drop (k:Int).toNat).map vA).length=ln l-k:=by simp
 obtain⟨N,hN⟩:∃N,N=ln l+1:=⟨_,rfl⟩;have L:((l.map vA).length:Int)+1=(N:Int):=by omega
 obtain⟨E,A,ag⟩:∃E,E=(l.take k).map vA++oj (ln l+1-k) (AV.agg [.s (.int .i64 0),.s (.int .i64 0)])/\E.length=ln l+1:=⟨_,rfl,by simp;omega⟩
 have C:(oj N (AV.agg [.s (.int .i64 0),.s (.int .i64 0)])).take 0++(l.take (k:Int).toNat).map vA++(oj N (AV.agg [.s (.int .i64 0),.s (.int .i64 0)])).drop (0+((l.take (k:Int).toNat).map vA).length)=E:=by
  rw[A,U,hN];simp
 have ap:E[(k:Int).toNat]? =some (AV.agg [.s (.int .i64 0),.s (.int .i64 0)]):=by
  rw[A,zCa qB];rw[zDo,zA4 qB]
 have u:(E.set (k:Int).toNat (.agg [iA v.id,iA v.cls])).take ((k:Int)+1).toNat++(l.drop (k:Int).toNat).map vA++(E.set (k:Int).toNat (.agg [iA v.id,iA v.cls])).drop (((k:Int)+1).toNat+((l.drop (k:Int).toNat).map vA).length)=(l.take k++v::l.drop k).map vA:=by
  have e1:E.set (k:Int).toNat (.agg [iA v.id,iA v.cls])=(l.take k++[v]).map vA++oj (ln l-k) (AV.agg [.s (.int .i64 0),.s (.int .i64 0)]):=by
   rw[A,zE4 _ _ qB,show (ln l)+1-k=(ln l-k)+1 by omega,zFz];rw[show(k:Int).toNat-((l.take k).map vA).length=0 by simp;omega];simp[vA]
  have R:((l.take k++[v]).map vA).length=k+1:=by simp;omega
  have e2:((l.take k++[v]).map vA++oj (ln l-k) (AV.agg [.s (.int .i64 0),.s (.int .i64 0)])).drop (k+1+(ln l-k))=[]:=List.drop_of_length_le (by rw[zA9,R,zC5];exact zBa _);rw[e1,S,show((k:Int)+1).toNat=k+1 by omega,zDe zB,zBf zB,e2];simp
 clear A;obtain⟨M,B⟩:∃M,M=(l.take k++v::l.drop k).map vA:=⟨_,rfl⟩;have hz3l:ln M=ln l+1:=by rw[B];simp;omega
 rw[<-B]at u;rw[show zE vA (l.take k++v::l.drop k)= .sl false M by rw[B];rfl];clear B;rw[show vA v= .agg [iA v.id,iA v.cls]from Z]at *; by_cases hk:k<ln l
 .have hy:=zJ vA l k hk;have G:=G hk;generalize l.getD k dd=x at *;refine eM call378 λF hF=>?_
  (have ga:=O;have ge:=c3;have gn:=c4;have gt:=c5;(repeat' (first|refine uQ ?_|apply yW|apply xG|intro hc|(apply zG;first|(apply fS;refine Me tok Z Z Z Z Z Z Z Z Z Z Z Z L zB zB Z Z Z ?_)|(refine Yy tok Z Z Z Z Z Z Z (yM _ _ (λ_=>rfl)) Z zB (by first|exact C|exact u) Z ?_)|(apply gX;refine dP tok Z Z Z Z Z Z Z zB zB Z ?_))|fail))<;>clear ga ge gn gt)
  exact zI [] Z Z (zBp (λz=>AV.tup [AV.sl false z,iA 0]) Dx) Z
 .clear G;refine eM call378 λF hF=>?_
  (have ga:=O;have ge:=c3;have gn:=c4;have gt:=c5;(repeat' (first|refine uQ ?_|apply yW|apply xG|intro hc|(apply zG;first|(apply fS;refine Me tok Z Z Z Z Z Z Z Z Z Z Z Z L zB zB Z Z Z ?_)|(refine Yy tok Z Z Z Z Z Z Z (yM _ _ (λ_=>rfl)) Z zB (by first|exact C|exact u) Z ?_)|(apply gX;refine dP tok Z Z Z Z Z Z Z zB zB Z ?_))|fail))<;>clear ga ge gn gt)
  exact zI [] Z Z (zBp (λz=>AV.tup [AV.sl false z,iA 0]) Dx) Z
theorem KO (l:List Vh) (V:ln l<=1000000) (a:Ag) (A:Int) (ag:(ln a.lim:Int)=4) (az:a.cls<=3) (v:Vh):∃(l':List Vh) (e:Int),((0<=e/\e<=100)/\(e≠0->l'=[]))/\(ln l'<=ln l+1/\l'.length<=8)/\zM 378 [zE vA l,uK (Ry a (min a.cls A)),vA v] [] (.tup [zE vA l',iA e]) []/\zM 332 [zE vA l,uK a,vA v,iA A] [] (.tup [zE vA l',iA e]) []:=by
 have a5:=zA vA l;have a4:=zA iA a.lim;have p2:=TW l V;have R:=og l v.id V;have S:=RS l V;have c3:=Tp l v.cls V;have p4:=va l v.cls V;have ar:min a.cls A<=3:=by omega
 have a1:min a.cls A<=a.cls:=by omega
 obtain⟨k,k1,L,M⟩:=sa l v.id;have B:=λhv=>RQ (l:=l) (id:=v.id) hv k1 L M
 have Y:=MY l v.id V k k1 L M;have u:=λhv h1 h2 I h4 W h5 h6=>qa l V (Ry a (min a.cls A)) ag ar v hv h1 h2 I h4 W h5 h6 k k1 L M
 have a2:qA l v.cls<=1000000:=by
  have:qA l v.cls<=ln l:=zCv _ _;omega
 have O:=λI h4=>ua (Ry a (min a.cls A)) v.cls I h4
 rw[show(Ry a (min a.cls A)).lim=a.lim from Z]at u O;rw[show(Ry a (min a.cls A)).cls=min a.cls A from Z]at u;have ap:uK (Ry a (min a.cls A))= .agg [zE yA a.sec,iA a.rights,iA (min a.cls A),zE iA a.lim,iA a.req,iA a.ses,iA a.rate,iA a.burst]:=rfl;rw[ap]at *; generalize hf:dL l v.id=fv at *;generalize W:XS l v.id=tw at *;generalize av:LD l=ok at *;generalize qA l v.cls=cn at *;cases ok
 .refine⟨[],1,⟨zB,λ_=>rfl⟩,⟨zBn _,zBn _⟩,?_,?_⟩
  .clear B u O;refine eM call378 λF hF=>?_
   exact mx p2
  .clear B u O;refine eM call332 λF hF=>?_
   exact nl (xU R S)
 by_cases h1:0<=v.id/\v.id<=4294967295
 case neg=>
  refine⟨[],8,⟨zB,λ_=>rfl⟩,⟨zBn _,zBn _⟩,?_,?_⟩
  .clear B u O
   by_cases g1:0<=v.id<;>((refine eM call378 λF hF=>?_);((refine zU p2 ?_));exact zH)
  .clear B u O
   by_cases g1:0<=v.id<;>((refine eM call332 λF hF=>?_);((refine QG (xU R S) ?_));exact zH)
 obtain⟨h1,h2⟩:=h1;generalize E:min a.cls A=mm at *;by_cases I:0<=v.cls/\v.cls<=mm
 case neg=>
  refine⟨[],17,⟨zB,λ_=>rfl⟩,⟨zBn _,zBn _⟩,?_,?_⟩
  .clear B u O
   by_cases g1:0<=v.cls<;>((refine eM call378 λF hF=>?_);((refine zU p2 ?_));exact zH)
  .clear B u O;subst E
   by_cases g1:0<=v.cls<;>((refine eM call332 λF hF=>?_);((refine QG (xU R S) ?_));exact zH)
 obtain⟨I,h4⟩:=I;have B:=B Z;have G:=O I zB;clear O;cases tw
 case true=>
  obtain⟨hk,a3⟩:=B.1 Z;have hy:=zJ vA l k hk;refine⟨[],11,⟨zB,λ_=>rfl⟩,⟨zBn _,zBn _⟩,?_,?_⟩
  .clear u B L M;generalize l.getD k dd=x at *;refine eM call378 λF hF=>?_
   exact mt (xU p2 Y)
  .clear B u;subst E;refine eM call332 λF hF=>?_
   exact nl (xU R S)
 have C:∀hk:k<ln l,(l.getD k dd).id≠v.id:=λhk e=>by
  have:=B.2 ⟨hk,e⟩;cases this
 clear B;have a6:=yF iA a.lim v.cls I zB;have u:=u Z h1 h2 I h4 Z;generalize a.lim.getD v.cls.toNat dd=ax at *;by_cases h5:ax<=cn
 .refine⟨[],14,⟨zB,λ_=>rfl⟩,⟨zBn _,zBn _⟩,?_,?_⟩
  .clear u L M;by_cases hk:k<ln l
   .have hy:=zJ vA l k hk;have C:=C hk;generalize l.getD k dd=x at *;refine eM call378 λF hF=>?_
    exact mt (cL p2 Y p4 G)
   .clear C;refine eM call378 λF hF=>?_
    exact mt (cL p2 Y p4 G)
  .clear u C L M;subst E;refine eM call332 λF hF=>?_
   exact nl (qL R S c3)
 by_cases h6:ln l<8
 case neg=>
  refine⟨[],10,⟨zB,λ_=>rfl⟩,⟨zBn _,zBn _⟩,?_,?_⟩
  .clear u L M;by_cases hk:k<ln l
   .have hy:=zJ vA l k hk;have C:=C hk;generalize l.getD k dd=x at *;refine eM call378 λF hF=>?_
    exact mt (cL p2 Y p4 G)
   .clear C;refine eM call378 λF hF=>?_
    exact mt (cL p2 Y p4 G)
  .clear u C L M;subst E;refine eM call332 λF hF=>?_
   exact nl (qL R S c3)
 refine⟨l.take k++v::l.drop k,0,⟨zB,λh=>absurd Z h⟩,⟨by simp;omega,by simp;omega⟩,u zB h6,?_⟩;clear av W u C p2 Y p4 G;subst E;refine eM call332 λF hF=>?_
 refine QG (qL R S c3) ?_;refine yV (ln l+1) [6] [6] [0,6] [12,0,6] Z (λi T U zs=>(i<=k)/\zs=⟨(12,iA i)::T,U⟩) (Lp ?_ ?_ ?_)
 .exact⟨zBn _,rfl⟩
 .rintro i st hi ⟨hik,rfl⟩;by_cases au:i<k
  .have hy:=zJ vA l i zB;have hh:=L i au;generalize l.getD i dd=x at *;refine WW ?_;exact⟨zB,rfl⟩
  .obtain rfl:i=k:=by omega
   by_cases ac:i<ln l
   .have hy:=zJ vA l i ac;have hh:=M ac;generalize l.getD i dd=x at*
    (repeat' (first|refine jX ?_|apply yW|apply xG|intro hc|(apply zG;first|(apply yD;refine xH 1001 tok Z Z Z Z Z Z (yM _ _ (λ_=>rfl)) Z Z Z qB Z Z Z ?_)|(apply yI;refine vE tok Z Z ?_))|refine SB ?_|fail))
    exact zI [] Z Z (zBp (λz=>AV.tup [AV.sl false z,iA 0]) (by rw[zBr,zA8];simp[zEj,zD0,vA,iA])) Z
   ·(repeat' (first|refine jX ?_|apply yW|apply xG|intro hc|(apply zG;first|(apply yD;refine xH 1001 tok Z Z Z Z Z Z (yM _ _ (λ_=>rfl)) Z Z Z qB Z Z Z ?_)|(apply yI;refine vE tok Z Z ?_))|refine SB ?_|fail))
    exact zI [] Z Z (zBp (λz=>AV.tup [AV.sl false z,iA 0]) (by rw[zBr,zA8];simp[zEj,zD0,vA,iA])) Z
 .rintro st ⟨hik,rfl⟩;exfalso;omega
section
variable {b:Frame} {a:Act} {k:List Item} {cs:List Frame} {w:World} {P:Program}
def gK :step P (lone (b.atR a (.code (.scope c)::k)) cs w)= .next (lone (b.atR a (.code c:: .inScope c::k)) cs w):=
 step_lone_go (by simp[stepG,stepG.exec,Frame.atR])
def KP :step P (lone (b.atR a (.inScope c::k)) cs w)= .next (lone (b.atR a k) cs w):=
 step_lone_go (by simp[stepG,stepG.exec,Frame.atR])
end
section
variable {F:Fence} {n:Nat} {P:Program} {Q:Exit->Act->World->Prop} {a:Act} {w:World}
def Od (h:c.wpIn F n P (Exit.noGoto Q) a w):(Code.scope c).wpIn F n P Q a w:=by
 intro b k cs I hb E;have z:(lone (b.atR a (.code (.scope c)::k)) cs w).fenced P F:=fenced_calm hb E Z;obtain⟨e,B,C,A,u⟩:=h b (.inScope c::k) cs I hb E
 cases e with
 |normal=>exact⟨.normal,B,C,A,.head z gK (StepsIn.trans u (.one (fenced_calm hb E Z) KP))⟩
 | exit id=>
  have L:exitTo id (.inScope c::k)=exitTo id k:=by simp[exitTo]
  exact⟨.exit id,B,C,A,λM hk=> .head z gK (u.1 M (by rw[L];exact hk)),
   λG hk=>let ⟨k₁,h1,h2⟩:=u.2 G (by rw[L];exact hk);⟨k₁,h1,.head z gK h2⟩⟩
 |goto l=>exact A.elim
 |ret=>exact⟨_,B,C,A,.of_steps (.one z gK) u⟩
 |panic O=>exact⟨_,B,C,A,.of_steps (.one z gK) u⟩
 |outgrown=>exact⟨_,B,C,A,.of_steps (.one z gK) u⟩
end
section
variable {P:Program} {K0:List Nat} {F:Fr K0} {m:Nat} {Q:Exit->St->Prop} {st:St}
def noG (Q:Exit->St->Prop):Exit->St->Prop
 | .goto _,_=>False
 |e,s=>Q e s
def bY (h:uG P F m c st (noG Q)):uG P F m (.scope c) st Q:=⟨λa w H=>
 Od (Code.wpIn_mono (λe a' w' ⟨s,h1,h2⟩=>by
  cases e with
  |goto l=>exact h1.elim
  |_=>exact⟨s,h1,h2⟩) (h.run a w H))⟩
theorem fD (K A:List Nat) (st0 u z:St) (C:K0.all (K.contains ·)=true) (E:restr K A st=st0)
 (B:uG P F m c st0 (λe s=>match e with| .normal=>restr K A s=u|e=>Q e s))
 (h1:uG P F m c u (λe s=>match e with| .normal=>restr K A s=z|e=>Q e s))
 (h2:uG P F m c z (λe s=>match e with| .normal=>False|e=>Q e s)):uG P F m (.loop c) st Q:=by
 refine wQ (λn s=>(n=2/\s=st0)\/(n=1/\s=u)\/(n=0/\s=z)) 2 K A C (.inl ⟨rfl,E⟩) ?_;rintro n s (⟨rfl,rfl⟩|⟨rfl,rfl⟩|⟨rfl,rfl⟩)
 .refine⟨λa w H=>Code.wpIn_mono (λe a' w' ⟨s,q1,q2⟩=>?_) (B.run a w H)⟩
  cases e with
  |normal=>exact⟨s,⟨1,zB,.inr (.inl ⟨rfl,q1⟩)⟩,q2⟩
  |_=>exact⟨s,q1,q2⟩
 all_goals grind
def bZ {l:Nat} (h:Q .normal st):uG P F m (.label l) st Q:=⟨λ_ _ H=>wpIn_label ⟨st,h,H⟩⟩
end
def V4 (N:Nat) (h1:1<=N) (h2:N<=1000000):zM 397 [.s (.slice none 0 0),iA N] [] (.ref 1001 0 0) [(1001,.arr 2 [] true)]:=by
 have z:(N:Int)-(0-0)=(N:Int):=by omega
 have u:(N:Int)-(0-((0:Nat):Int))=(N:Int):=by omega
 refine eM call397 λF hF=>?_
 (repeat' (first|refine WS ?_|refine SG (I2 (λhc=>?_) λhc=>?_)|refine SG λhc=>?_|(apply zG;first|(refine wJ (MN tok Z Z Z) Z ?_)|(apply gX;refine wJ (xd tok Z Z Z Z Z) Z ?_)|(refine Uu tok Z Z Z Z Z Z Z Z Z Z Z Z Z Z (by first|exact z|exact u) h1 zB Z Z Z ?_)|(apply gX;refine Mf tok Z Z Z Z Z Z Z Z ?_))|(first|refine Ah 0 22 1001 Z Z Z ?_|first|refine SR ?_|refine SK (I2 (λhc=>?_) λhc=>?_)|refine SK λhc=>?_|fail)|fail))
 exact zP [1001] Z Z Z Z
def Wv:zM 397 [.s (.slice none 0 0),iA 0] [] (.s (.slice none 0 0)) []:=by
 refine eM call397 λF hF=>?_
 (repeat' (first|refine uQ ?_|apply yW|apply xG|intro hc|(apply zG;first|(refine wJ (MN tok Z Z Z) Z ?_))|fail))
 exact zP [] Z Z Z Z
theorem Ao (a b:List Vh) (S:ln a<=1000) (hb:ln b<=1000):zM 380 [.sl false [zE vA a,zE vA b]] [] (zE vA (a++b)) []:=by
 have L:=zA vA a;have M:=zA vA b;rw[show zE vA (a++b)= .sl false (a.map vA++b.map vA) by unfold zE;rw[zBc]];have E:zE vA a= .sl false (a.map vA):=rfl;have G:zE vA b= .sl false (b.map vA):=rfl;rw[E,G];have z:∀y,(a.map vA)[0]? =some y->ln y.cells=2:=yM _ _ (λ_=>rfl);have C:∀y,(b.map vA)[0]? =some y->ln y.cells=2:=yM _ _ (λ_=>rfl);generalize a.map vA=A,b.map vA=B at *;clear E G;have O:([AV.sl false A,.sl false B]:List AV)[(0:Int).toNat]? =some (.sl false A):=rfl;have R:([AV.sl false A,.sl false B]:List AV)[(0+1:Int).toNat]? =some (.sl false B):=rfl;have I:([AV.sl false A,.sl false B]:List AV).length=2:=rfl;generalize [AV.sl false A,.sl false B]=X at *;refine eM call380 λF hF=>?_
 refine WW ?_;refine fD [] [3,11,0,9,10] ⟨[(3,iA 0),(11,iA 0),(0,.sl false X),(9,.sl false X),(10,iA (ln X))],[]⟩ ⟨[(3,iA (0+(ln A:Int))),(11,iA (0+1)),(0,.sl false X),(9,.sl false X),(10,iA (ln X))],[]⟩ ⟨[(3,iA (0+(ln A:Int)+(ln B:Int))),(11,iA (0+1+1)),(0,.sl false X),(9,.sl false X),(10,iA (ln X))],[]⟩ rfl Z ?_ ?_ ?_
 ·(refine WW ?_)
  rfl
 ·(refine WW ?_)
  rfl
 by_cases hN:ln A+ln B=0
 .have u:=Wv;rw[show iA 0=iA (0+(ln A:Int)+(ln B:Int)) by rw[show(0:Int)+(ln A:Int)+(ln B:Int)=0 by omega]]at u
  (repeat' (first|refine uQ ?_|apply yW|apply xG|intro hc|(apply zG;apply xP;(refine vH 397 ?_;first|refine wJ (jL u Z Z Z Z Z) Z ?_|refine uX (jL u Z Z Z Z Z) Z Z Z ?_|refine aK (jL u Z Z Z Z Z) Z Z Z ?_))|(apply zG;first|refine SM ?_)|fail))
  refine zS 6 1001 2 Z Z Z ?_;refine fD [1001] [6,27,25,26] ⟨[(6,.ref 1001 0 0),(27,iA 0),(25,.sl false X),(26,iA (ln X))],[(1001,.arr 2 [] true)]⟩ ⟨[(6,.ref 1001 0 (ln A)),(27,iA (0+1)),(25,.sl false X),(26,iA (ln X))],[(1001,.arr 2 A false)]⟩ ⟨[(6,.ref 1001 0 (A++B).length),(27,iA (0+1+1)),(25,.sl false X),(26,iA (ln X))],[(1001,.arr 2 (A++B) true)]⟩ rfl Z ?_ ?_ ?_
  ·(repeat' (first|refine uQ ?_|apply yW|apply xG|intro hc|(apply zG;first|(apply yD;first|refine vD tok Z Z Z Z Z Z Z z Z Z Z zB Z ?_|refine jG tok Z Z Z Z Z Z Z Z Z Z Z C zB Z ?_))|fail))
   rfl
  ·(repeat' (first|refine uQ ?_|apply yW|apply xG|intro hc|(apply zG;first|(apply yD;first|refine vD tok Z Z Z Z Z Z Z z Z Z Z zB Z ?_|refine jG tok Z Z Z Z Z Z Z Z Z Z Z C zB Z ?_))|fail))
   rfl
  ·(refine WW ?_)
   exact zI [] Z Z (zBp (AV.sl false) ml) Z
 .have u:=V4 (ln A+ln B) zB zB;rw[show((ln A+ln B:Nat):Int)=0+(ln A:Int)+(ln B:Int) by omega]at u
  (repeat' (first|refine uQ ?_|apply yW|apply xG|intro hc|(apply zG;apply xP;(refine vH 397 ?_;first|refine wJ (jL u Z Z Z Z Z) Z ?_|refine uX (jL u Z Z Z Z Z) Z Z Z ?_|refine aK (jL u Z Z Z Z Z) Z Z Z ?_))|(apply zG;first|refine SM ?_)|fail))
  refine fD [1001] [6,27,25,26] ⟨[(6,.ref 1001 0 0),(27,iA 0),(25,.sl false X),(26,iA (ln X))],[(1001,.arr 2 [] true)]⟩ ⟨[(6,.ref 1001 0 (ln A)),(27,iA (0+1)),(25,.sl false X),(26,iA (ln X))],[(1001,.arr 2 A false)]⟩ ⟨[(6,.ref 1001 0 (A++B).length),(27,iA (0+1+1)),(25,.sl false X),(26,iA (ln X))],[(1001,.arr 2 (A++B) true)]⟩ rfl Z ?_ ?_ ?_
  ·(repeat' (first|refine uQ ?_|apply yW|apply xG|intro hc|(apply zG;first|(apply yD;first|refine vD tok Z Z Z Z Z Z Z z Z Z Z zB Z ?_|refine jG tok Z Z Z Z Z Z Z Z Z Z Z C zB Z ?_))|fail))
   rfl
  ·(repeat' (first|refine uQ ?_|apply yW|apply xG|intro hc|(apply zG;first|(apply yD;first|refine vD tok Z Z Z Z Z Z Z z Z Z Z zB Z ?_|refine jG tok Z Z Z Z Z Z Z Z Z Z Z C zB Z ?_))|fail))
   rfl
  ·(refine WW ?_)
   exact zI [] Z Z (zBp (AV.sl false) ml) Z
def OG (l:List Vh) (id:Int):List Vh:=l.filter λv=>decide (v.id≠id)
theorem zp (l:List Vh) (x:Vh) (id:Int):OG (l++[x]) id=OG l id++(if x.id=id then []else [x]):=by grind [OG]
def yp (l:List Vh) (id:Int):(OG l id).length<=ln l:=zCv _ _
theorem xp {id:Int} (h:XS l id=false):OG l id=l:=by grind [XS,OG,List.filter_eq_self,List.any_eq_false]
def vp {id:Int} (hv:LD l=true) {k:Nat} (hk:k<ln l) (z:(l.getD k dd).id=id):OG l id=l.take k++l.drop (k+1):=by
 have C:l.getD k dd=l[k]:=by simp[pi,hk]
 have e1:l=l.take k++l[k]::l.drop (k+1):=by rw[List.getElem_cons_drop,zEv]
 have u:=Bo hv
 have h1:OG (l.take k) id=l.take k:=by
  refine List.filter_eq_self.2 λx A=>zA7 λe=>?_
  obtain⟨i,hi,rfl⟩:=zDl A;simp only[zBt]at hi;have q1:=u k hk i zB;have B:l.getD i dd=l[i]:=by simp[pi,show i<ln l by omega]
  rw[List.getElem_take]at e;rw[B,e,z]at q1;omega
 have h2:OG (l.drop (k+1)) id=l.drop (k+1):=by
  refine List.filter_eq_self.2 λx A=>zA7 λe=>?_
  obtain⟨i,hi,rfl⟩:=zDl A;simp only[zB5]at hi;have q1:=u (k+1+i) zB k zB;have B:l.getD (k+1+i) dd=l[k+1+i]:=by simp[pi,show k+1+i<ln l by omega]
  rw[List.getElem_drop]at e;rw[B,e,z]at q1;omega
 conv=>lhs;rw[e1]
 unfold OG at h1 h2⊢;rw[zF8,List.filter_cons,Os (by rw[<-C,z];simp),h1,h2]
def ii (l:List Vh) (I:ln l<=1000000) (id:Int):zM 333 [zE vA l,iA id] [] (if LD l=true then(if(OG l id).length=ln l then .tup [.sl false [],iA 12]else .tup [zE vA (OG l id),iA 0])else .tup [.sl false [],iA 1]) []:=by
 have E:=zA vA l;have u:=RS l I
 cases hv:LD l with
 |false=>
  rw[hv]at u;rw[Os zBl];refine eM call333 λF hF=>?_
  exact ny u
 |true=>
 rw[hv]at u;rw[zA4 Z];have A:=yp l id;have B:=zA vA (OG l id);refine eM call333 λF hF=>?_
 refine UA u ?_;refine zS 6 1001 2 Z Z Z ?_;refine zQ (l) [1001] [] [0,1,12,13] [6,14,0,1,12,13] Z (λi f4 T U=>⟨(6,.ref 1001 0 ((OG f4 id).map vA).length)::(14,iA i)::T,(1001,.arr 2 ((OG f4 id).map vA) true)::U⟩) (Lq ?_ ?_)
 .intro i f4 x post C hi;have L:=zZ vA C hi;have G:=zV C hi;have A:=yp f4 id;have B:=zA vA (OG f4 id);have e:(OG (f4++[x]) id).map vA=(OG f4 id).map vA++(if x.id=id then []else [x]).map vA:=by rw[zp,zBc]
  rw[e];clear C e;generalize (OG f4 id).map vA=R at *;by_cases h:x.id=id
  .rw[zA4 h];refine WW ?_;rw[zCx,zB1];rfl
  .rw[Os h];refine WW ?_;rfl
 .by_cases h:(OG l id).length=ln l
  .rw[zA4 h];exact ly
  .rw[Os h];refine WW ?_;exact zI [] Z Z (zBp (λz=>AV.tup [AV.sl false z,iA 0]) ml) Z
def ja (l:List Vh) (U:ln l<=1000) (id:Int):∃(B:List Vh) (e:Int),((0<=e/\e<=100)/\(e≠0->B=[]))/\B.length<=ln l/\zM 349 [zE vA l,iA id] [] (.tup [zE vA B,iA e]) []/\zM 333 [zE vA l,iA id] [] (.tup [zE vA B,iA e]) []:=by
 have R:=zA vA l;have p2:=TW l zB;have c:=ii l zB id;obtain⟨k,M,C,E⟩:=sa l id;have I:=MY l id zB k M C E
 cases hv:LD l with
 |false=>
  rw[hv]at p2 c;rw[Os zBl]at c;refine⟨[],1,⟨zB,λ_=>rfl⟩,by simp,?_,c⟩;refine eM call349 λF hF=>?_
  exact ny p2
 |true=>
 have u:=RQ (id:=id) hv M C E;rw[hv]at p2 c;rw[zA4 Z]at c
 cases hh:XS l id with
 | false=>
  rw[zA4 (by rw[xp hh])]at c;refine⟨[],12,⟨zB,λ_=>rfl⟩,by simp,?_,c⟩
  have z:∀hk:k<ln l,(l.getD k dd).id≠id:=λhk e=>by
   rw[u.2 ⟨hk,e⟩]at hh;cases hh
  clear u C E c;by_cases hk:k<ln l
  .have S:=zJ vA l k hk;have z:=z hk;generalize l.getD k dd=x at *;refine eM call349 λF hF=>?_
   exact nl (xU p2 I)
  .clear z;refine eM call349 λF hF=>?_
   exact nl (xU p2 I)
 |true=>
  obtain⟨hk,O⟩:=u.1 hh;have G:=vp hv hk O;have A:(OG l id).length=ln l-1:=by rw[G];simp;omega
  rw[Os zB]at c;refine⟨OG l id,0,⟨zB,λh=>absurd Z h⟩,zB,?_,c⟩;have L:=Ao (l.take (k:Int).toNat) (l.drop ((k:Int)+1).toNat) qB qB;rw[show l.take (k:Int).toNat++l.drop ((k:Int)+1).toNat=OG l id by rw[G];congr 1]at L;have S:=zJ vA l k hk;clear u C E c G A;generalize OG l id=B,l.getD k dd=x at *;refine eM call349 λF hF=>?_
  exact nl (qL p2 I L)
def Qy (t:Tk):zM 394 [yN t] [] (bA (!t.used)) []:=by
 obtain⟨u,a,b,c,d,e⟩:=t
 cases u with
 |true=>
  rw[show yN ⟨true,a,b,c,d,e⟩= .agg [bA true,zE yA a,iA b,iA c,iA d,iA e]from Z];refine eM call394 λF hF=>?_
  exact ly
 |false=>
  rw[show yN ⟨false,a,b,c,d,e⟩= .agg [bA false,zE yA a,iA b,iA c,iA d,iA e]from Z];refine eM call394 λF hF=>?_
  exact ly
def B7 (l:List Tk) (A:ln l<=1000000) (k:Nat) (hk:k<ln l) (h1:∀i,i<k->(l.getD i dd).used=true) (h2:(l.getD k dd).used=false):zM 393 [zE yN l,.fn 394 []] [] (iA k) []:=by
 have hl:=zA yN l;refine eM call393 λF hF=>?_
 refine WW ?_;refine yV (ln l) [] [] [0,1,7] [8,0,1,7] Z (λi T U z=>(i<=k)/\z=⟨(8,iA i)::T,U⟩) (Lp ?_ ?_ ?_)
 .exact⟨zBn _,rfl⟩
 .rintro i st hi ⟨hik,rfl⟩;have B:=zJ yN l i hi;have c:=Qy (l.getD i dd);by_cases u:i=k
  .subst u;rw[h2]at c;generalize l.getD i dd=t at *;exact mx c
  .rw[h1 i zB]at c;generalize l.getD i dd=t at *;refine zU c ?_;exact⟨zB,rfl⟩
 .rintro st ⟨hik,rfl⟩;exfalso;omega
def Sb (u f3:Int):Int:=if 0<u then f3+u else 0
theorem Vv (l:List Tk) (k:Nat) (t:Tk) (n:Nat) (u:n=ln l):zE yN (l.set k t)= .sl false (((l.map yN).set k (yN t)).take n):=by grind [zE,yN,List.map_set,List.take_of_length_le]
theorem yL {α:Type} [Inhabited α] (l:List α) (i:Nat) (h:i<ln l):l.getD i dd∈l:=by grind
def U4 (l:List Tk):Prop:=∀t∈l,t.used=true->Wj t.rights 10=false
def M9 (l o:List Tk):Prop:=U4 l->U4 o
def Nd (l:List Tk) (s:Int) (j:Nat):Tk:=if Xj l j s=true then Tb else l.getD j dd
def RR (l:List Tk) (s:Int) (n:Nat):List Tk:=(pb (ln l)).map λj=>if j<n then Nd l s j else l.getD j dd
def OH (l:List Tk) (s:Int) (n:Nat):(RR l s n).length=ln l:=by simp[RR]
theorem up (l:List Tk) (s:Int):RR l s 0=l:=by apply zCe<;>grind [RR,List.getElem?_range,pi,List.getElem?_eq_none,pb]
theorem T4 (l:List Tk) (s:Int) (n:Nat) (h:n<ln l):(RR l s n)[n]? =some (l.getD n dd):=by grind [RR]
theorem qp (l:List Tk) (s:Int) (n:Nat) (h:n<ln l):RR l s (n+1)=(RR l s n).set n (Nd l s n):=by apply zCe<;>grind [RR,Nd,List.length_map,List.length_range,List.getElem?_range,List.getElem?_eq_none,List.range]
def Zi (l:List Tk) (hb:IL l) (hv:PB l=true) (s:Int) (hs:1<=s/\s<8) (h8:ln l=8) (Y:(l.getD s.toNat dd).used=true):zM 346 [zE yN l,iA s] [] (.tup [zE yN (RR l s (ln l)),iA 0]) []:=by
 have E:=TJ l;rw[hv]at E;have I:=VP l hb;have ac:=zA yN l;have hy:=yF yN l s zB zB;have hd:=λj=>Rn l j s
 have W:=Yd;generalize l.getD s.toNat dd=t at *;obtain⟨u,M,O,R,S,V⟩:=t;dsimp only at Y;subst Y;rw[show yN ⟨true,M,O,R,S,V⟩= .agg [bA true,zE yA M,iA O,iA R,iA S,iA V]from Z]at hy;refine eM call346 λF hF=>?_
 refine yH (xU E I) ?_;refine zO (ln l) [1001] [] [0,1,6,26] [27,0,1,6,26] Z (λi T U=>⟨(27,iA i)::T,(1001,.arr 6 ((RR l s i).map yN) false)::U⟩) ?_;(conv=>whnf);refine⟨by(rw[up];rfl),?_,?_⟩
 .intro i hi;have C:((RR l s i).map yN)[i]? =some (yN (l.getD i dd)):=by rw[zBd,T4 l s i hi];rfl
  have G:=hd i;have ag:i<((RR l s i).map yN).length:=by rw[zA5,OH];exact hi
  rw[qp l s i hi,zCs];have A:(l.getD i dd)=(l.getD i dd):=rfl
  have z:((RR l s i).map yN).set i (yN (l.getD i dd))=(RR l s i).map yN:=by
   rw[zBw]at C;obtain⟨h,e⟩:=C;rw[<-e,zGp]
  unfold Nd
  cases B:Xj l i s with
  |true=>
   rw[B]at G;rw[zA4 Z];generalize (RR l s i).map yN=xs,l.getD i dd=ti at *;clear z A hd E I;refine yH (xU G W) ?_;rfl
  |false=>
   rw[B]at G;rw[Os zBl,z];generalize (RR l s i).map yN=xs at *;clear z A hd E I W;refine zU G ?_;rfl
 .have L:=OH l s (ln l);rw[show zE yN (RR l s (ln l))= .sl false (((RR l s (ln l)).map yN).take (l.map yN).length) by rw[zBf (by simp[L])];rfl];generalize (RR l s (ln l)).map yN=xs at *;exact ly
def EY (l:List Tk) (k:Nat) (e:Int) (t:Tk):List Tk:=if e=0 then l.set k t else []
theorem dp {P:Nat->Prop}:∀n,P n->∃m,m<=n/\P m/\∀k,k<m->¬P k:=by
 intro n
 induction n using Nat.strongRecOn with
 |_ n u=>
  grind
def S4 (l:List Tk) (u:ln l<=1000000) (h1:∀i,i<ln l->(l.getD i dd).used=true):zM 393 [zE yN l,.fn 394 []] [] (iA (-1)) []:=by
 have hl:=zA yN l;refine eM call393 λF hF=>?_
 refine WW ?_;refine zO (ln l) [] [] [0,1,7] [8,0,1,7] Z (λi T U=>⟨(8,iA i)::T,U⟩) (Lq ?_ ?_)
 .intro i hi;have z:=zJ yN l i hi;have c:=Qy (l.getD i dd);rw[h1 i hi]at c;generalize l.getD i dd=t at *;refine zU c ?_;rfl
 .exact ly
def bp (l:List Tk) (p R c u f3:Int):Prop:=∃(k:Nat) (e:Int),(0<=e/\e<=20)/\(k=0\/k<ln l)/\(e=0->PB l=true/\0<=p/\p<ln l/\(l.getD k dd).used=false/\md R (l.getD p.toNat dd).rights=true/\(l.getD p.toNat dd).used=true)/\∀z:List Int,(ln z:Int)=8->
 zM 375 [zE yN l,iA p,iA R,iA c,iA u,zE yA z,iA f3] [] (.tup [zE yN (EY l k e ⟨true,z,p,R,c,Sb u f3⟩),iA k,iA e]) []/\
 zM 330 [zE yN l,iA p,iA R,iA c,iA u,zE yA z,iA f3] [] (.tup [zE yN (EY l k e ⟨true,z,p,R,c,Sb u f3⟩),iA k,iA e]) []
def cI {l:List Tk} {p R c u f3:Int} (e:Int) (h1:1<=e) (h2:e<=20) (h:∀z:List Int,(ln z:Int)=8->zM 375 [zE yN l,iA p,iA R,iA c,iA u,zE yA z,iA f3] [] (.tup [zE yN [],iA 0,iA e]) []/\zM 330 [zE yN l,iA p,iA R,iA c,iA u,zE yA z,iA f3] [] (.tup [zE yN [],iA 0,iA e]) []):bp l p R c u f3:=
 ⟨0,e,⟨zB,h2⟩,.inl Z,λB=>by omega,λz A=>by
  have hd:EY l 0 e ⟨true,z,p,R,c,Sb u f3⟩=[]:=by unfold EY;rw[Os zB]
  rw[hd]
  exact h z A⟩
theorem aa (l:List Tk) (hb:IL l) (p R c A f3:Int):bp l p R c A f3:=by
 have hn:=hb.n;have a5:=zA yN l;have I:=TJ l;have G:=RL l;rw[<-Ef]at G
 cases hv:PB l with
 | false=>
  rw[hv]at I G
  exact cI 1 zB zB λz hs=>⟨by
   have B:=zA yA z;refine eM call375 λF hF=>?_
   exact mx I,by
   have B:=zA yA z;refine eM call330 λF hF=>?_
   exact mx G⟩
 |true=>
 rw[hv]at I G;have h8:(ln l:Int)=8:=by unfold PB at hv;rw[zBe,zBb]at hv;exact hv.1
 by_cases bb:0<=f3
 case neg=>
  exact cI 1 zB zB λz hs=>⟨by
   have B:=zA yA z;refine eM call375 λF hF=>?_
   exact mx I,by
   have B:=zA yA z;refine eM call330 λF hF=>?_
   exact mx G⟩
 by_cases bd:f3<=1073741824
 case neg=>
  exact cI 1 zB zB λz hs=>⟨by
   have B:=zA yA z;refine eM call375 λF hF=>?_
   exact mx I,by
   have B:=zA yA z;refine eM call330 λF hF=>?_
   exact mx G⟩
 have M:=Zd l p;by_cases ap:0<=p
 case neg=>
  rw[show jZ l p=false by unfold jZ;rw[zA6 (λh=>ap h.1)];rfl]at M
  exact cI 12 zB zB λz hs=>⟨by
   have B:=zA yA z;refine eM call375 λF hF=>?_
   exact mt (xU I M),by
   have B:=zA yA z;refine eM call330 λF hF=>?_
   exact mx G⟩
 by_cases ar:p<ln l
 case neg=>
  rw[show jZ l p=false by unfold jZ;rw[zA6 (λh=>ar h.2)];rfl]at M
  exact cI 12 zB zB λz hs=>⟨by
   have B:=zA yA z;refine eM call375 λF hF=>?_
   exact mt (xU I M),by
   have B:=zA yA z;refine eM call330 λF hF=>?_
   exact mx G⟩
 have hy:=yF yN l p ap ar;have a3:jZ l p=(l.getD p.toNat dd).used:=by unfold jZ;rw[zA7 ⟨ap,ar⟩,zBg]
 rw[a3]at M;have c3:=AQ R (l.getD p.toNat dd).rights;have r3:=II R (l.getD p.toNat dd).rights;have c4:=Df (Sb A f3) (l.getD p.toNat dd).til;have r4:=AR (Sb A f3) (l.getD p.toNat dd).til
 have C:Sb A f3=if 0<A then f3+A else 0:=rfl
 generalize Sb A f3=un at *;clear a3;generalize a2:l.getD p.toNat dd=t at *;obtain⟨u,t1,t2,t3,t4,t5⟩:=t;rw[show∀u,yN ⟨u,t1,t2,t3,t4,t5⟩= .agg [bA u,zE yA t1,iA t2,iA t3,iA t4,iA t5]from λ_=>rfl]at hy;dsimp only at*
 cases u with
 | false=>
  exact cI 12 zB zB λz hs=>⟨by
   have B:=zA yA z;refine eM call375 λF hF=>?_
   exact mt (xU I M),by
   have B:=zA yA z;refine eM call330 λF hF=>?_
   exact mx G⟩
 |true=>
 cases hw:md R t3 with
 | false=>
  rw[hw]at c3 r3
  exact cI 8 zB zB λz hs=>⟨by
   have B:=zA yA z;refine eM call375 λF hF=>?_
   exact mt (qL I M c3),by
   have B:=zA yA z;refine eM call330 λF hF=>?_
   exact mt (xU G r3)⟩
 |true=>
 rw[hw]at c3 r3;by_cases a7:0<=c
 case neg=>
  exact cI 8 zB zB λz hs=>⟨by
   have B:=zA yA z;refine eM call375 λF hF=>?_
   exact mt (qL I M c3),by
   have B:=zA yA z;refine eM call330 λF hF=>?_
   exact mt (xU G r3)⟩
 by_cases a8:c<=t4
 case neg=>
  exact cI 8 zB zB λz hs=>⟨by
   have B:=zA yA z;refine eM call375 λF hF=>?_
   exact mt (qL I M c3),by
   have B:=zA yA z;refine eM call330 λF hF=>?_
   exact mt (xU G r3)⟩
 by_cases a9:0<=A
 case neg=>
  exact cI 8 zB zB λz hs=>⟨by
   have B:=zA yA z;refine eM call375 λF hF=>?_
   exact mt (qL I M c3),by
   have B:=zA yA z;refine eM call330 λF hF=>?_
   exact mt (xU G r3)⟩
 by_cases ba:A<=600
 case neg=>
  exact cI 8 zB zB λz hs=>⟨by
   have B:=zA yA z;refine eM call375 λF hF=>?_
   exact mt (qL I M c3),by
   have B:=zA yA z;refine eM call330 λF hF=>?_
   exact mt (xU G r3)⟩
 cases ax:Ir un t5 with
 | true=>
  rw[ax]at c4 r4;by_cases h0:0<A
  .rw[zA4 h0]at C;subst C
   exact cI 8 zB zB λz hs=>⟨by
    have B:=zA yA z;refine eM call375 λF hF=>?_
    exact mt (cL I M c3 c4),by
    have B:=zA yA z;refine eM call330 λF hF=>?_
    exact mt (qL G r3 r4)⟩
  .rw[Os h0]at C;subst C
   exact cI 8 zB zB λz hs=>⟨by
    have B:=zA yA z;refine eM call375 λF hF=>?_
    exact mt (cL I M c3 c4),by
    have B:=zA yA z;refine eM call330 λF hF=>?_
    exact mt (qL G r3 r4)⟩
 |false=>
 rw[ax]at c4 r4;have a6:md R (l.getD p.toNat dd).rights=true/\(l.getD p.toNat dd).used=true:=by rw[a2];exact⟨hw,rfl⟩
 clear ax hw a2;by_cases a1:∃k,k<ln l/\(l.getD k dd).used=false
 case neg=>
  have ag:∀i,i<ln l->(l.getD i dd).used=true:=λi hi=>by
   cases h:(l.getD i dd).used with
   |true=>rfl
   |false=>exact absurd ⟨i,hi,h⟩ a1
  have c5:=S4 l hn ag
  rcases(show(0<A/\Sb A f3=f3+A)\/(¬0<A/\Sb A f3=0) by unfold Sb;by_cases h:0<A;exact .inl ⟨h,zA4 h⟩;exact .inr ⟨h,Os h⟩)with⟨h0,az⟩|⟨h0,az⟩
  .rw[zA4 h0]at C;subst C
   exact cI 10 zB zB λz hs=>⟨by
    have B:=zA yA z;refine eM call375 λF hF=>?_
    exact mt (PZ I M c3 c4 c5),by
    have B:=zA yA z;refine eM call330 λF hF=>?_
    refine yH (qL G r3 r4) ?_;refine zO (ln l) [] [] [0,1,2,3,5,18,90,91] [92,0,1,2,3,5,18,90,91] Z (λi T U=>⟨(92,iA i)::T,U⟩) (Lq ?_ ?_)
    .intro i hi;have S:=zJ yN l i hi;have E:=ag i hi;generalize l.getD i dd=x at *;obtain⟨xu,V,W,Y,x4,x5⟩:=x;dsimp only at E;subst E;rw[show yN ⟨true,V,W,Y,x4,x5⟩= .agg [bA true,zE yA V,iA W,iA Y,iA x4,iA x5]from Z]at S;refine WW ?_;rfl
    .exact ly⟩
  .rw[Os h0]at C;subst C
   exact cI 10 zB zB λz hs=>⟨by
    have B:=zA yA z;refine eM call375 λF hF=>?_
    exact mt (PZ I M c3 c4 c5),by
    have B:=zA yA z;refine eM call330 λF hF=>?_
    refine yH (qL G r3 r4) ?_;refine zO (ln l) [] [] [0,1,2,3,5,18,90,91] [92,0,1,2,3,5,18,90,91] Z (λi T U=>⟨(92,iA i)::T,U⟩) (Lq ?_ ?_)
    .intro i hi;have S:=zJ yN l i hi;have E:=ag i hi;generalize l.getD i dd=x at *;obtain⟨xu,V,W,Y,x4,x5⟩:=x;dsimp only at E;subst E;rw[show yN ⟨true,V,W,Y,x4,x5⟩= .agg [bA true,zE yA V,iA W,iA Y,iA x4,iA x5]from Z]at S;refine WW ?_;rfl
    .exact ly⟩
 obtain⟨k0,a4,az⟩:=a1;obtain⟨k,_,⟨hk,L⟩,ac⟩:=dp (P:=λk=>k<ln l/\(l.getD k dd).used=false) k0 ⟨a4,az⟩
 have O:∀i,i<k->(l.getD i dd).used=true:=λi hi=>by
  cases h:(l.getD i dd).used with
  |true=>rfl
  |false=>exact absurd ⟨zB,h⟩ (ac i hi)
 have c5:=B7 l hn k hk O L;have c6:=VP l hb;have r6:=MP l hb;refine⟨k,0,zB,.inr hk,λ_=>⟨hv,ap,ar,L,a6⟩,λz hs=>?_⟩;have hd:∀x:Tk,EY l k 0 x=l.set k x:=λx=>by unfold EY;rw[zA4 Z]
 rw[hd];have c7:=kU z zB;have B:=zA yA z;have au:=zJ yN l k hk;have eS:=Vv l k ⟨true,z,p,R,c,Sb A f3⟩ (l.map yN).length a5;rw[eS];clear eS hd;rw[show Sb A f3=if 0<A then f3+A else 0 from Z];by_cases h0:0<A
 .rw[zA4 h0]at C⊢;subst C;refine⟨?_,?_⟩
  .clear G r3 r4 r6 O ac L;generalize l.getD k dd=tk at *;refine eM call375 λF hF=>?_
   exact mt (ry I M c3 c4 c5 c6 c7)
  .clear I M c3 c4 c5 c6 c7;refine eM call330 λF hF=>?_
   refine yH (qL G r3 r4) ?_;refine yV (ln l) [] [] [0,1,2,3,5,18,90,91] [92,0,1,2,3,5,18,90,91] Z (λi T U zs=>(i<=k)/\zs=⟨(92,iA i)::T,U⟩) (Lp ?_ ?_ ?_)
   .exact⟨zBn _,rfl⟩
   .rintro i st hi ⟨hik,rfl⟩;have S:=zJ yN l i hi;by_cases av:i=k
    .subst av;clear O ac au hy;generalize l.getD i dd=x at *;obtain⟨xu,V,W,Y,x4,x5⟩:=x;dsimp only at L;subst L;rw[show yN ⟨false,V,W,Y,x4,x5⟩= .agg [bA false,zE yA V,iA W,iA Y,iA x4,iA x5]from Z]at S;exact ny r6
    .have E:=O i zB;clear O ac au L hy;generalize l.getD i dd=x at *;obtain⟨xu,V,W,Y,x4,x5⟩:=x;dsimp only at E;subst E;rw[show yN ⟨true,V,W,Y,x4,x5⟩= .agg [bA true,zE yA V,iA W,iA Y,iA x4,iA x5]from Z]at S;refine WW ?_;exact⟨zB,rfl⟩
   .rintro st ⟨hik,rfl⟩;exfalso;omega
 .rw[Os h0]at C⊢;subst C;refine⟨?_,?_⟩
  .clear G r3 r4 r6 O ac L;generalize l.getD k dd=tk at *;refine eM call375 λF hF=>?_
   exact mt (ry I M c3 c4 c5 c6 c7)
  .clear I M c3 c4 c5 c6 c7;refine eM call330 λF hF=>?_
   refine yH (qL G r3 r4) ?_;refine yV (ln l) [] [] [0,1,2,3,5,18,90,91] [92,0,1,2,3,5,18,90,91] Z (λi T U zs=>(i<=k)/\zs=⟨(92,iA i)::T,U⟩) (Lp ?_ ?_ ?_)
   .exact⟨zBn _,rfl⟩
   .rintro i st hi ⟨hik,rfl⟩;have S:=zJ yN l i hi;by_cases av:i=k
    .subst av;clear O ac au hy;generalize l.getD i dd=x at *;obtain⟨xu,V,W,Y,x4,x5⟩:=x;dsimp only at L;subst L;rw[show yN ⟨false,V,W,Y,x4,x5⟩= .agg [bA false,zE yA V,iA W,iA Y,iA x4,iA x5]from Z]at S;exact ny r6
    .have E:=O i zB;clear O ac au L hy;generalize l.getD i dd=x at *;obtain⟨xu,V,W,Y,x4,x5⟩:=x;dsimp only at E;subst E;rw[show yN ⟨true,V,W,Y,x4,x5⟩= .agg [bA true,zE yA V,iA W,iA Y,iA x4,iA x5]from Z]at S;refine WW ?_;exact⟨zB,rfl⟩
   .rintro st ⟨hik,rfl⟩;exfalso;omega
theorem A7 (l:List Tk) (s:Int) (u:ln l=8):RR l s (ln l)=RM (λi=>YB l 9 i s) l 8:=by grind [RR,RM,YB,List.map_congr_left,Nd,Vy]
def XK:IL []:=⟨by simp,λt h=>by simp at h⟩
def R4 {l:List Tk} (hb:IL l) (s:Int) (n:Nat):IL (RR l s n):=by
 refine⟨by rw[OH];exact hb.n,λt u=>?_⟩
 have z:∀j,(l.getD j dd).sec.length<=1000000:=λj=>by
  by_cases h:j<ln l
  .exact hb.s _ (by simp[pi,h])
  .rw[show l.getD j dd=dd by simp[pi,h]];exact zBn _
 unfold RR at u;rw[zCo]at u;obtain⟨j,_,rfl⟩:=u;split
 .unfold Nd;split
  .exact zBn _
  .exact z j
 .exact z j
def Q4 {l:List Tk} {s:Int}:M9 l (RR l s (ln l)):=λh t z u=>by
 obtain⟨j,hj,rfl⟩:=zCo.1 z;rw[zBv]at hj;rw[zA4 hj]at u⊢;unfold Nd at u⊢;split at u
 .cases u
 .rw[Os ‹_›];exact h _ (yL l j hj) u
def oa (l:List Tk) (hb:IL l) (s:Int):∃(o:List Tk) (e:Int),(0<=e/\e<=20)/\IL o/\(e=0->ln o=ln l/\M9 l o)/\zM 346 [zE yN l,iA s] [] (.tup [zE yN o,iA e]) []/\zM 331 [zE yN l,iA s] [] (.tup [zE yN o,iA e]) []:=by
 have M:=hb.n;have L:=zA yN l;have z:=TJ l;have u:=RL l;rw[<-Ef]at u
 cases hv:PB l with
 | false=>
  rw[hv]at z u;refine⟨[],1,zB,XK,λh=>absurd h xA,?_,?_⟩
  ·(refine eM call346 λF hF=>?_)
   exact mx z
  ·(refine eM call331 λF hF=>?_)
   exact mx u
 |true=>
 rw[hv]at z u;have A:ln l=8:=by unfold PB at hv;rw[zBe,zBb]at hv;omega
 by_cases h1:1<=s
 case neg=>
  refine⟨[],8,zB,XK,λh=>absurd h xA,?_,?_⟩
  ·(refine eM call346 λF hF=>?_)
   exact mx z
  ·(refine eM call331 λF hF=>?_)
   exact mx u
 by_cases h2:s<8
 case neg=>
  refine⟨[],8,zB,XK,λh=>absurd h xA,?_,?_⟩
  ·(refine eM call346 λF hF=>?_)
   exact mx z
  ·(refine eM call331 λF hF=>?_)
   exact mx u
 have C:=yF yN l s zB zB
 cases B:(l.getD s.toNat dd).used with
 | false=>
  rw[show yN (l.getD s.toNat dd)=dQ false (l.getD s.toNat dd) by unfold yN dQ;rw[B]]at C;unfold dQ at C;generalize l.getD s.toNat dd=t at *;refine⟨[],12,zB,XK,λh=>absurd h xA,?_,?_⟩
  ·(refine eM call346 λF hF=>?_)
   exact mx z
  ·(refine eM call331 λF hF=>?_)
   exact mx u
 |true=>
  have I:=Zi l hb hv s ⟨h1,h2⟩ A B;have E:=Hf l s A;rw[A]at E;have G:=Gf l hb (λi=>YB l 9 i s) A;rw[<-A7 l s A]at G;rw[show yN (l.getD s.toNat dd)=dQ true (l.getD s.toNat dd) by unfold yN dQ;rw[B]]at C;unfold dQ at C;refine⟨RR l s (ln l),0,zB,R4 hb s _,λ_=>⟨OH l s _,Q4⟩,I,?_⟩;clear I B;generalize RR l s (ln l)=O,gA (λi=>YB l 9 i s) 8=b,l.getD s.toNat dd=t at *;refine eM call331 λF hF=>?_
  exact mt (qL u E G)
def VS (r:Rg):xW:= .box [iA r.num,zE yA r.ag.sec,iA r.ag.rights,iA r.ag.cls,zE iA r.ag.lim,iA r.ag.req,iA r.ag.ses,iA r.ag.rate,iA r.ag.burst,zE yN r.tk,zE vA r.vh,iA r.bk.level,iA r.bk.rate,iA r.bk.burst]
def Py (r:Rg) (l:List Tk):Rg:=⟨r.num,r.ag,l,r.vh,r.bk⟩
def Oy (m:Ms) (a:Int) (u:m.args=[a]):zM 347 [zX m] [] (zX ⟨14,[],[m.kind,a],[]⟩) []:=by
 obtain⟨k,t,A,d⟩:=m;dsimp only at u⊢;subst u;have z:([a].map iA).length=1:=rfl;refine eM call347 λF hF=>?_
 exact ng
