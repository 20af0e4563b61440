/- Part 14. -/
import Derived.Test.YtaglbcjljlkjcaaGreatX13
import Derived.Scope
namespace Go.Proofs.YtaglbcjljlkjcaaGreat.Av
open Tryz
set_option linter.all false
set_option maxRecDepth 4000
set_option maxHeartbeats 4000000
open List renaming length->ln,replicate->pb,range->pi,getD->py
open Inhabited renaming default->dd
variable {c:Code}{l:List Vh}
def LD (l:List Vh) (id:Int) (I:ln l<=1000000) (k:Nat) (L:k<=ln l) (C:∀i,i<k->(l.getD i dd).id<id) (E:k<ln l->¬(l.getD k dd).id<id):zO 379 [zE wX l,iA id] [] (iA k) []:=by
 have A:=zA wX l;refine eM call379 λF hF=>?_
 refine WW ?_;refine yU (ln l+1) [] [] [0,1] [5,0,1] Z (λi T U G=>(i<=k)/\G=⟨(5,iA i)::T,U⟩) (Lp ?_ ?_ ?_)
 .exact⟨zBn _,rfl⟩
 .rintro i st hi ⟨hik,rfl⟩;by_cases z:i<k
  .have B:=zJ wX l i zB;have hh:=C i z;generalize l.getD i dd=x at *;refine WW ?_;exact⟨zB,rfl⟩
  .obtain rfl:i=k:=by omega
   by_cases u:i<ln l
   .have B:=zJ wX l i u;have hh:=E u;generalize l.getD i dd=x at *;exact ly
   .exact ly
 .rintro st ⟨hik,rfl⟩;exfalso;omega
def wa (l:List Vh) (c:Int) (B:ln l<=1000000):zO 395 [zE wX l,iA c] [] (iA (qC l c)) []:=by
 have hl:=zA wX l;refine eM call395 λF hF=>?_
 refine WW ?_;refine zU (l) [] [] [1,8,9] [5,10,1,8,9] Z (λi f4 T U=>⟨(5,iA (qC f4 c))::(10,iA i)::T,U⟩) (Lq ?_ ?_)
 .intro i f4 x post u hi;have C:=yG wX u hi;have A:=zW u hi;have z:qC f4 c<=i:=by rw[<-hi];exact zCw _ _
  have e:qC (f4++[x]) c=qC f4 c+(if x.cls=c then 1 else 0):=by
   unfold qC;rw[zGc,zBa];by_cases h:x.cls=c
   all_goals simp[h]
  clear u;by_cases h:x.cls=c
  .rw[zA5 h]at e;rw[e];generalize qC f4 c=m at *;refine WW ?_;rfl
  .rw[Os h,zDw]at e;rw[e];generalize qC f4 c=m at *;refine WW ?_;rfl
 .exact ly
def va (a:Ag) (c:Int) (u:0<=c) (h1:c<ln a.lim):zO 396 [vP a,iA c] [] (iA (a.lim.getD c.toNat dd)) []:=by
 have z:=zA iA a.lim;have A:=yF iA a.lim c u h1;refine eM call396 λF hF=>?_
 exact ly
def Py (a:Ag) (c:Int):Ag:=⟨a.sec,a.rights,c,a.lim,a.req,a.ses,a.rate,a.burst⟩
theorem yp (hv:LI l=true):∀j,j<ln l->∀i,i<j->(l.getD i dd).id<(l.getD j dd).id
 |0,_,i,hi=>absurd hi (zC3 _)
 |j+1,hj,i,hi=>by
  have h1:=((Ky.1 hv).2 (j+1) hj).2 zB;rw[Nat.add_sub_cancel]at h1;by_cases h:i=j
  .subst h;exact h1
  .have:=yp hv j zB i zB;omega
theorem RR {id:Int} (hv:LI l=true) {k:Nat} (C:k<=ln l) (E:∀i,i<k->(l.getD i dd).id<id) (G:k<ln l->¬(l.getD k dd).id<id):XQ l id=true↔k<ln l/\(l.getD k dd).id=id:=by
 constructor
 .intro h;obtain⟨x,A,u⟩:=zCx.1 h;obtain⟨i,hi,rfl⟩:=zDn A;rw[zCp]at u;have z:l.getD i dd=l[i]:=by simp[py,hi]
  rw[<-z]at u;by_cases h1:i<k
  .grind
  .have hk:k<ln l:=by omega
   by_cases h2:i=k
   .grind
   .have B:=yp hv i hi k zB
    grind
 all_goals grind [LI,XQ]
theorem ua (l:List Vh) (V:ln l<=1000000) (a:Ag) (ac:(ln a.lim:Int)=4) (ar:a.cls<=3) (v:Vh) (hv:LI l=true) (h1:0<=v.id) (h2:v.id<=4294967295) (h3:0<=v.cls) (h4:v.cls<=a.cls) (I:XQ l v.id=false) (h5:(qC l v.cls:Int)<a.lim.getD v.cls.toNat dd) (h6:ln l<8)
  (k:Nat) (k1:k<=ln l) (W:∀i,i<k->(l.getD i dd).id<v.id) (Y:k<ln l->¬(l.getD k dd).id<v.id):zO 378 [zE wX l,vP a,wX v] [] (.tup [zE wX (l.take k++v::l.drop k),iA 0]) []:=by
 have ax:=zA wX l;have av:=zA iA a.lim;have O:=TX l V;have c3:=LD l v.id V k k1 W Y;have c4:=wa l v.cls V;have c5:=va a v.cls h3 zB
 have G:k<ln l->(l.getD k dd).id≠v.id:=λhk e=>by
  rw[(RR hv k1 W Y).2 ⟨hk,e⟩]at I;cases I
 rw[hv]at O;clear hv I W Y
 have au:(qC l v.cls:Int)<=1000000:=by
  have:qC l v.cls<=ln l:=zCw _ _;omega
 generalize (qC l v.cls:Int)=cn,a.lim.getD v.cls.toNat dd=az at *;have U:((l.take (k:Int).toNat).map wX).length=k:=by simp;omega
 have S:((l.drop (k:Int).toNat).map wX).length=ln l-k:=by simp
 obtain⟨N,hN⟩:∃N,N=ln l+1:=⟨_,rfl⟩;have L:((l.map wX).length:Int)+1=(N:Int):=by omega
 obtain⟨E,A,ag⟩:∃E,E=(l.take k).map wX++pb (ln l+1-k) (AV.agg [.s (.int .i64 0),.s (.int .i64 0)])/\E.length=ln l+1:=⟨_,rfl,by simp;omega⟩
 have C:(pb N (AV.agg [.s (.int .i64 0),.s (.int .i64 0)])).take 0++(l.take (k:Int).toNat).map wX++(pb N (AV.agg [.s (.int .i64 0),.s (.int .i64 0)])).drop (0+((l.take (k:Int).toNat).map wX).length)=E:=by
  rw[A,U,hN];simp
 have ap:E[(k:Int).toNat]? =some (AV.agg [.s (.int .i64 0),.s (.int .i64 0)]):=by
  rw[A,zCe qD];rw[zDq,zA5 qD]
 have u:(E.set (k:Int).toNat (.agg [iA v.id,iA v.cls])).take ((k:Int)+1).toNat++(l.drop (k:Int).toNat).map wX++(E.set (k:Int).toNat (.agg [iA v.id,iA v.cls])).drop (((k:Int)+1).toNat+((l.drop (k:Int).toNat).map wX).length)=(l.take k++v::l.drop k).map wX:=by
  have e1:E.set (k:Int).toNat (.agg [iA v.id,iA v.cls])=(l.take k++[v]).map wX++pb (ln l-k) (AV.agg [.s (.int .i64 0),.s (.int .i64 0)]):=by
   rw[A,zE5 _ _ qD,show (ln l)+1-k=(ln l-k)+1 by omega,zF3];rw[show(k:Int).toNat-((l.take k).map wX).length=0 by simp;omega];simp[wX]
  have R:((l.take k++[v]).map wX).length=k+1:=by simp;omega
  have e2:((l.take k++[v]).map wX++pb (ln l-k) (AV.agg [.s (.int .i64 0),.s (.int .i64 0)])).drop (k+1+(ln l-k))=[]:=List.drop_of_length_le (by rw[zBa,R,zC4];exact zBb _);rw[e1,S,show((k:Int)+1).toNat=k+1 by omega,zDf zB,zBf zB,e2];simp
 clear A;obtain⟨M,B⟩:∃M,M=(l.take k++v::l.drop k).map wX:=⟨_,rfl⟩;have hz3l:ln M=ln l+1:=by rw[B];simp;omega
 rw[<-B]at u;rw[show zE wX (l.take k++v::l.drop k)= .sl false M by rw[B];rfl];clear B;rw[show wX v= .agg [iA v.id,iA v.cls]from Z]at *; by_cases hk:k<ln l
 .have hy:=zJ wX l k hk;have G:=G hk;generalize l.getD k dd=x at *;refine eM call378 λF hF=>?_
  (have ga:=O;have ge:=c3;have gn:=c4;have gt:=c5;(repeat' (first|refine uT ?_|apply yW|apply xH|intro hc|(apply zG;first|(apply fN;refine Tf tok Z Z Z Z Z Z Z Z Z Z Z Z L zB zB Z Z Z ?_)|(refine ay tok Z Z Z Z Z Z Z (yM _ _ (λ_=>rfl)) Z zB (by first|exact C|exact u) Z ?_)|(apply gU;refine dM tok Z Z Z Z Z Z Z zB zB Z ?_))|fail))<;>clear ga ge gn gt)
  exact zI [] Z Z (zBq (λz=>AV.tup [AV.sl false z,iA 0]) iy) Z
 .clear G;refine eM call378 λF hF=>?_
  (have ga:=O;have ge:=c3;have gn:=c4;have gt:=c5;(repeat' (first|refine uT ?_|apply yW|apply xH|intro hc|(apply zG;first|(apply fN;refine Tf tok Z Z Z Z Z Z Z Z Z Z Z Z L zB zB Z Z Z ?_)|(refine ay tok Z Z Z Z Z Z Z (yM _ _ (λ_=>rfl)) Z zB (by first|exact C|exact u) Z ?_)|(apply gU;refine dM tok Z Z Z Z Z Z Z zB zB Z ?_))|fail))<;>clear ga ge gn gt)
  exact zI [] Z Z (zBq (λz=>AV.tup [AV.sl false z,iA 0]) iy) Z
theorem KR (l:List Vh) (V:ln l<=1000000) (a:Ag) (A:Int) (ag:(ln a.lim:Int)=4) (az:a.cls<=3) (v:Vh):∃(l':List Vh) (e:Int),((0<=e/\e<=100)/\(e≠0->l'=[]))/\(ln l'<=ln l+1/\l'.length<=8)/\zO 378 [zE wX l,vP (Py a (min a.cls A)),wX v] [] (.tup [zE wX l',iA e]) []/\zO 332 [zE wX l,vP a,wX v,iA A] [] (.tup [zE wX l',iA e]) []:=by
 have a5:=zA wX l;have a4:=zA iA a.lim;have p2:=TX l V;have R:=og l v.id V;have S:=RT l V;have c3:=Qp l v.cls V;have p4:=wa l v.cls V;have ar:min a.cls A<=3:=by omega
 have a1:min a.cls A<=a.cls:=by omega
 obtain⟨k,k1,L,M⟩:=sa l v.id;have B:=λhv=>RR (l:=l) (id:=v.id) hv k1 L M
 have Y:=LD l v.id V k k1 L M;have u:=λhv h1 h2 I h4 W h5 h6=>ua l V (Py a (min a.cls A)) ag ar v hv h1 h2 I h4 W h5 h6 k k1 L M
 have a2:qC l v.cls<=1000000:=by
  have:qC l v.cls<=ln l:=zCw _ _;omega
 have O:=λI h4=>va (Py a (min a.cls A)) v.cls I h4
 rw[show(Py a (min a.cls A)).lim=a.lim from Z]at u O;rw[show(Py a (min a.cls A)).cls=min a.cls A from Z]at u;have ap:vP (Py a (min a.cls A))= .agg [zE yA a.sec,iA a.rights,iA (min a.cls A),zE iA a.lim,iA a.req,iA a.ses,iA a.rate,iA a.burst]:=rfl;rw[ap]at *; generalize hf:dK l v.id=fv at *;generalize W:XQ l v.id=tw at *;generalize av:LI l=ok at *;generalize qC l v.cls=cn at *;cases ok
 .refine⟨[],1,⟨zB,λ_=>rfl⟩,⟨zBn _,zBn _⟩,?_,?_⟩
  .clear B u O;refine eM call378 λF hF=>?_
   exact ng p2
  .clear B u O;refine eM call332 λF hF=>?_
   exact nm (xW R S)
 by_cases h1:0<=v.id/\v.id<=4294967295
 case neg=>
  refine⟨[],8,⟨zB,λ_=>rfl⟩,⟨zBn _,zBn _⟩,?_,?_⟩
  .clear B u O
   by_cases g1:0<=v.id<;>((refine eM call378 λF hF=>?_);((refine zS p2 ?_));exact zH)
  .clear B u O
   by_cases g1:0<=v.id<;>((refine eM call332 λF hF=>?_);((refine QE (xW R S) ?_));exact zH)
 obtain⟨h1,h2⟩:=h1;generalize E:min a.cls A=mm at *;by_cases I:0<=v.cls/\v.cls<=mm
 case neg=>
  refine⟨[],17,⟨zB,λ_=>rfl⟩,⟨zBn _,zBn _⟩,?_,?_⟩
  .clear B u O
   by_cases g1:0<=v.cls<;>((refine eM call378 λF hF=>?_);((refine zS p2 ?_));exact zH)
  .clear B u O;subst E
   by_cases g1:0<=v.cls<;>((refine eM call332 λF hF=>?_);((refine QE (xW R S) ?_));exact zH)
 obtain⟨I,h4⟩:=I;have B:=B Z;have G:=O I zB;clear O;cases tw
 case true=>
  obtain⟨hk,a3⟩:=B.1 Z;have hy:=zJ wX l k hk;refine⟨[],11,⟨zB,λ_=>rfl⟩,⟨zBn _,zBn _⟩,?_,?_⟩
  .clear u B L M;generalize l.getD k dd=x at *;refine eM call378 λF hF=>?_
   exact mx (xW p2 Y)
  .clear B u;subst E;refine eM call332 λF hF=>?_
   exact nm (xW R S)
 have C:∀hk:k<ln l,(l.getD k dd).id≠v.id:=λhk e=>by
  have:=B.2 ⟨hk,e⟩;cases this
 clear B;have a6:=yF iA a.lim v.cls I zB;have u:=u Z h1 h2 I h4 Z;generalize a.lim.getD v.cls.toNat dd=ax at *;by_cases h5:ax<=cn
 .refine⟨[],14,⟨zB,λ_=>rfl⟩,⟨zBn _,zBn _⟩,?_,?_⟩
  .clear u L M;by_cases hk:k<ln l
   .have hy:=zJ wX l k hk;have C:=C hk;generalize l.getD k dd=x at *;refine eM call378 λF hF=>?_
    exact mx (cM p2 Y p4 G)
   .clear C;refine eM call378 λF hF=>?_
    exact mx (cM p2 Y p4 G)
  .clear u C L M;subst E;refine eM call332 λF hF=>?_
   exact nm (qM R S c3)
 by_cases h6:ln l<8
 case neg=>
  refine⟨[],10,⟨zB,λ_=>rfl⟩,⟨zBn _,zBn _⟩,?_,?_⟩
  .clear u L M;by_cases hk:k<ln l
   .have hy:=zJ wX l k hk;have C:=C hk;generalize l.getD k dd=x at *;refine eM call378 λF hF=>?_
    exact mx (cM p2 Y p4 G)
   .clear C;refine eM call378 λF hF=>?_
    exact mx (cM p2 Y p4 G)
  .clear u C L M;subst E;refine eM call332 λF hF=>?_
   exact nm (qM R S c3)
 refine⟨l.take k++v::l.drop k,0,⟨zB,λh=>absurd Z h⟩,⟨by simp;omega,by simp;omega⟩,u zB h6,?_⟩;clear av W u C p2 Y p4 G;subst E;refine eM call332 λF hF=>?_
 refine QE (qM R S c3) ?_;refine yU (ln l+1) [6] [6] [0,6] [12,0,6] Z (λi T U zs=>(i<=k)/\zs=⟨(12,iA i)::T,U⟩) (Lp ?_ ?_ ?_)
 .exact⟨zBn _,rfl⟩
 .rintro i st hi ⟨hik,rfl⟩;by_cases au:i<k
  .have hy:=zJ wX l i zB;have hh:=L i au;generalize l.getD i dd=x at *;refine WW ?_;exact⟨zB,rfl⟩
  .obtain rfl:i=k:=by omega
   by_cases ac:i<ln l
   .have hy:=zJ wX l i ac;have hh:=M ac;generalize l.getD i dd=x at*
    (repeat' (first|refine jX ?_|apply yW|apply xH|intro hc|(apply zG;first|(apply yE;refine xE 1001 tok Z Z Z Z Z Z (yM _ _ (λ_=>rfl)) Z Z Z qD Z Z Z ?_)|(apply yI;refine vD tok Z Z ?_))|refine SB ?_|fail))
    exact zI [] Z Z (zBq (λz=>AV.tup [AV.sl false z,iA 0]) (by rw[zBr,zA8];simp[zEk,zD2,wX,iA])) Z
   ·(repeat' (first|refine jX ?_|apply yW|apply xH|intro hc|(apply zG;first|(apply yE;refine xE 1001 tok Z Z Z Z Z Z (yM _ _ (λ_=>rfl)) Z Z Z qD Z Z Z ?_)|(apply yI;refine vD tok Z Z ?_))|refine SB ?_|fail))
    exact zI [] Z Z (zBq (λz=>AV.tup [AV.sl false z,iA 0]) (by rw[zBr,zA8];simp[zEk,zD2,wX,iA])) Z
 .rintro st ⟨hik,rfl⟩;exfalso;omega
section
variable {b:Frame} {a:Act} {k:List Item} {cs:List Frame} {w:World} {P:Program}
def gM :step P (lone (b.atR a (.code (.scope c)::k)) cs w)= .next (lone (b.atR a (.code c:: .inScope c::k)) cs w):=
 step_lone_go (by simp[stepG,stepG.exec,Frame.atR])
def KS :step P (lone (b.atR a (.inScope c::k)) cs w)= .next (lone (b.atR a k) cs w):=
 step_lone_go (by simp[stepG,stepG.exec,Frame.atR])
end
section
variable {F:Fence} {n:Nat} {P:Program} {Q:Exit->Act->World->Prop} {a:Act} {w:World}
def Od (h:c.wpIn F n P (Exit.noGoto Q) a w):(Code.scope c).wpIn F n P Q a w:=by
 intro b k cs I hb E;have z:(lone (b.atR a (.code (.scope c)::k)) cs w).fenced P F:=fenced_calm hb E Z;obtain⟨e,B,C,A,u⟩:=h b (.inScope c::k) cs I hb E
 cases e with
 |normal=>exact⟨.normal,B,C,A,.head z gM (StepsIn.trans u (.one (fenced_calm hb E Z) KS))⟩
 | exit id=>
  have L:exitTo id (.inScope c::k)=exitTo id k:=by simp[exitTo]
  exact⟨.exit id,B,C,A,λM hk=> .head z gM (u.1 M (by rw[L];exact hk)),
   λG hk=>let ⟨k₁,h1,h2⟩:=u.2 G (by rw[L];exact hk);⟨k₁,h1,.head z gM h2⟩⟩
 |goto l=>exact A.elim
 |ret=>exact⟨_,B,C,A,.of_steps (.one z gM) u⟩
 |panic O=>exact⟨_,B,C,A,.of_steps (.one z gM) u⟩
 |outgrown=>exact⟨_,B,C,A,.of_steps (.one z gM) u⟩
end
section
variable {P:Program} {K0:List Nat} {F:Fr K0} {m:Nat} {Q:Exit->St->Prop} {st:St}
def noG (Q:Exit->St->Prop):Exit->St->Prop
 | .goto _,_=>False
 |e,s=>Q e s
def bZ (h:uG P F m c st (noG Q)):uG P F m (.scope c) st Q:=⟨λa w H=>
 Od (Code.wpIn_mono (λe a' w' ⟨s,h1,h2⟩=>by
  cases e with
  |goto l=>exact h1.elim
  |_=>exact⟨s,h1,h2⟩) (h.run a w H))⟩
theorem dR (K A:List Nat) (st0 u z:St) (C:K0.all (K.contains ·)=true) (E:restr K A st=st0)
 (B:uG P F m c st0 (λe s=>match e with| .normal=>restr K A s=u|e=>Q e s))
 (h1:uG P F m c u (λe s=>match e with| .normal=>restr K A s=z|e=>Q e s))
 (h2:uG P F m c z (λe s=>match e with| .normal=>False|e=>Q e s)):uG P F m (.loop c) st Q:=by
 refine wS (λn s=>(n=2/\s=st0)\/(n=1/\s=u)\/(n=0/\s=z)) 2 K A C (.inl ⟨rfl,E⟩) ?_;rintro n s (⟨rfl,rfl⟩|⟨rfl,rfl⟩|⟨rfl,rfl⟩)
 .refine⟨λa w H=>Code.wpIn_mono (λe a' w' ⟨s,q1,q2⟩=>?_) (B.run a w H)⟩
  cases e with
  |normal=>exact⟨s,⟨1,zB,.inr (.inl ⟨rfl,q1⟩)⟩,q2⟩
  |_=>exact⟨s,q1,q2⟩
 all_goals grind
def aA {l:Nat} (h:Q .normal st):uG P F m (.label l) st Q:=⟨λ_ _ H=>wpIn_label ⟨st,h,H⟩⟩
end
def V4 (N:Nat) (h1:1<=N) (h2:N<=1000000):zO 397 [.s (.slice none 0 0),iA N] [] (.ref 1001 0 0) [(1001,.arr 2 [] true)]:=by
 have z:(N:Int)-(0-0)=(N:Int):=by omega
 have u:(N:Int)-(0-((0:Nat):Int))=(N:Int):=by omega
 refine eM call397 λF hF=>?_
 (repeat' (first|refine WS ?_|refine SG (I2 (λhc=>?_) λhc=>?_)|refine SG λhc=>?_|(apply zG;first|(refine wJ (MA tok Z Z Z) Z ?_)|(apply gU;refine wJ (Lc tok Z Z Z Z Z) Z ?_)|(refine gu tok Z Z Z Z Z Z Z Z Z Z Z Z Z Z (by first|exact z|exact u) h1 zB Z Z Z ?_)|(apply gU;refine Yf tok Z Z Z Z Z Z Z Z ?_))|(first|refine Nh 0 22 1001 Z Z Z ?_|first|refine SR ?_|refine SK (I2 (λhc=>?_) λhc=>?_)|refine SK λhc=>?_|fail)|fail))
 exact zP [1001] Z Z Z Z
def Uv:zO 397 [.s (.slice none 0 0),iA 0] [] (.s (.slice none 0 0)) []:=by
 refine eM call397 λF hF=>?_
 (repeat' (first|refine uT ?_|apply yW|apply xH|intro hc|(apply zG;first|(refine wJ (MA tok Z Z Z) Z ?_))|fail))
 exact zP [] Z Z Z Z
theorem xp (a b:List Vh) (S:ln a<=1000) (hb:ln b<=1000):zO 380 [.sl false [zE wX a,zE wX b]] [] (zE wX (a++b)) []:=by
 have L:=zA wX a;have M:=zA wX b;rw[show zE wX (a++b)= .sl false (a.map wX++b.map wX) by unfold zE;rw[zBd]];have E:zE wX a= .sl false (a.map wX):=rfl;have G:zE wX b= .sl false (b.map wX):=rfl;rw[E,G];have z:∀y,(a.map wX)[0]? =some y->ln y.cells=2:=yM _ _ (λ_=>rfl);have C:∀y,(b.map wX)[0]? =some y->ln y.cells=2:=yM _ _ (λ_=>rfl);generalize a.map wX=A,b.map wX=B at *;clear E G;have O:([AV.sl false A,.sl false B]:List AV)[(0:Int).toNat]? =some (.sl false A):=rfl;have R:([AV.sl false A,.sl false B]:List AV)[(0+1:Int).toNat]? =some (.sl false B):=rfl;have I:([AV.sl false A,.sl false B]:List AV).length=2:=rfl;generalize [AV.sl false A,.sl false B]=X at *;refine eM call380 λF hF=>?_
 refine WW ?_;refine dR [] [3,11,0,9,10] ⟨[(3,iA 0),(11,iA 0),(0,.sl false X),(9,.sl false X),(10,iA (ln X))],[]⟩ ⟨[(3,iA (0+(ln A:Int))),(11,iA (0+1)),(0,.sl false X),(9,.sl false X),(10,iA (ln X))],[]⟩ ⟨[(3,iA (0+(ln A:Int)+(ln B:Int))),(11,iA (0+1+1)),(0,.sl false X),(9,.sl false X),(10,iA (ln X))],[]⟩ rfl Z ?_ ?_ ?_
 ·(refine WW ?_)
  rfl
 ·(refine WW ?_)
  rfl
 by_cases hN:ln A+ln B=0
 .have u:=Uv;rw[show iA 0=iA (0+(ln A:Int)+(ln B:Int)) by rw[show(0:Int)+(ln A:Int)+(ln B:Int)=0 by omega]]at u
  (repeat' (first|refine uT ?_|apply yW|apply xH|intro hc|(apply zG;apply xQ;(refine vJ 397 ?_;first|refine wJ (jL u Z Z Z Z Z) Z ?_|refine qA (jL u Z Z Z Z Z) Z Z Z ?_|refine aO (jL u Z Z Z Z Z) Z Z Z ?_))|(apply zG;first|refine SM ?_)|fail))
  refine zQ 6 1001 2 Z Z Z ?_;refine dR [1001] [6,27,25,26] ⟨[(6,.ref 1001 0 0),(27,iA 0),(25,.sl false X),(26,iA (ln X))],[(1001,.arr 2 [] true)]⟩ ⟨[(6,.ref 1001 0 (ln A)),(27,iA (0+1)),(25,.sl false X),(26,iA (ln X))],[(1001,.arr 2 A false)]⟩ ⟨[(6,.ref 1001 0 (A++B).length),(27,iA (0+1+1)),(25,.sl false X),(26,iA (ln X))],[(1001,.arr 2 (A++B) true)]⟩ rfl Z ?_ ?_ ?_
  ·(repeat' (first|refine uT ?_|apply yW|apply xH|intro hc|(apply zG;first|(apply yE;first|refine vC tok Z Z Z Z Z Z Z z Z Z Z zB Z ?_|refine jH tok Z Z Z Z Z Z Z Z Z Z Z C zB Z ?_))|fail))
   rfl
  ·(repeat' (first|refine uT ?_|apply yW|apply xH|intro hc|(apply zG;first|(apply yE;first|refine vC tok Z Z Z Z Z Z Z z Z Z Z zB Z ?_|refine jH tok Z Z Z Z Z Z Z Z Z Z Z C zB Z ?_))|fail))
   rfl
  ·(refine WW ?_)
   exact zI [] Z Z (zBq (AV.sl false) bn) Z
 .have u:=V4 (ln A+ln B) zB zB;rw[show((ln A+ln B:Nat):Int)=0+(ln A:Int)+(ln B:Int) by omega]at u
  (repeat' (first|refine uT ?_|apply yW|apply xH|intro hc|(apply zG;apply xQ;(refine vJ 397 ?_;first|refine wJ (jL u Z Z Z Z Z) Z ?_|refine qA (jL u Z Z Z Z Z) Z Z Z ?_|refine aO (jL u Z Z Z Z Z) Z Z Z ?_))|(apply zG;first|refine SM ?_)|fail))
  refine dR [1001] [6,27,25,26] ⟨[(6,.ref 1001 0 0),(27,iA 0),(25,.sl false X),(26,iA (ln X))],[(1001,.arr 2 [] true)]⟩ ⟨[(6,.ref 1001 0 (ln A)),(27,iA (0+1)),(25,.sl false X),(26,iA (ln X))],[(1001,.arr 2 A false)]⟩ ⟨[(6,.ref 1001 0 (A++B).length),(27,iA (0+1+1)),(25,.sl false X),(26,iA (ln X))],[(1001,.arr 2 (A++B) true)]⟩ rfl Z ?_ ?_ ?_
  ·(repeat' (first|refine uT ?_|apply yW|apply xH|intro hc|(apply zG;first|(apply yE;first|refine vC tok Z Z Z Z Z Z Z z Z Z Z zB Z ?_|refine jH tok Z Z Z Z Z Z Z Z Z Z Z C zB Z ?_))|fail))
   rfl
  ·(repeat' (first|refine uT ?_|apply yW|apply xH|intro hc|(apply zG;first|(apply yE;first|refine vC tok Z Z Z Z Z Z Z z Z Z Z zB Z ?_|refine jH tok Z Z Z Z Z Z Z Z Z Z Z C zB Z ?_))|fail))
   rfl
  ·(refine WW ?_)
   exact zI [] Z Z (zBq (AV.sl false) bn) Z
def OK (l:List Vh) (id:Int):List Vh:=l.filter λv=>decide (v.id≠id)
theorem vp (l:List Vh) (x:Vh) (id:Int):OK (l++[x]) id=OK l id++(if x.id=id then []else [x]):=by grind [OK]
def up (l:List Vh) (id:Int):(OK l id).length<=ln l:=zCw _ _
theorem qp {id:Int} (h:XQ l id=false):OK l id=l:=by grind [XQ,OK,List.filter_eq_self,List.any_eq_false]
def dp {id:Int} (hv:LI l=true) {k:Nat} (hk:k<ln l) (z:(l.getD k dd).id=id):OK l id=l.take k++l.drop (k+1):=by
 have C:l.getD k dd=l[k]:=by simp[py,hk]
 have e1:l=l.take k++l[k]::l.drop (k+1):=by rw[List.getElem_cons_drop,zEw]
 have u:=yp hv
 have h1:OK (l.take k) id=l.take k:=by
  refine List.filter_eq_self.2 λx A=>zA9 λe=>?_
  obtain⟨i,hi,rfl⟩:=zDn A;simp only[zBv]at hi;have q1:=u k hk i zB;have B:l.getD i dd=l[i]:=by simp[py,show i<ln l by omega]
  rw[List.getElem_take]at e;rw[B,e,z]at q1;omega
 have h2:OK (l.drop (k+1)) id=l.drop (k+1):=by
  refine List.filter_eq_self.2 λx A=>zA9 λe=>?_
  obtain⟨i,hi,rfl⟩:=zDn A;simp only[zB6]at hi;have q1:=u (k+1+i) zB k zB;have B:l.getD (k+1+i) dd=l[k+1+i]:=by simp[py,show k+1+i<ln l by omega]
  rw[List.getElem_drop]at e;rw[B,e,z]at q1;omega
 conv=>lhs;rw[e1]
 unfold OK at h1 h2⊢;rw[zGc,List.filter_cons,Os (by rw[<-C,z];simp),h1,h2]
def Zi (l:List Vh) (I:ln l<=1000000) (id:Int):zO 333 [zE wX l,iA id] [] (if LI l=true then(if(OK l id).length=ln l then .tup [.sl false [],iA 12]else .tup [zE wX (OK l id),iA 0])else .tup [.sl false [],iA 1]) []:=by
 have E:=zA wX l;have u:=RT l I
 cases hv:LI l with
 |false=>
  rw[hv]at u;rw[Os zBm];refine eM call333 λF hF=>?_
  exact oj u
 |true=>
 rw[hv]at u;rw[zA5 Z];have A:=up l id;have B:=zA wX (OK l id);refine eM call333 λF hF=>?_
 refine VZ u ?_;refine zQ 6 1001 2 Z Z Z ?_;refine zU (l) [1001] [] [0,1,12,13] [6,14,0,1,12,13] Z (λi f4 T U=>⟨(6,.ref 1001 0 ((OK f4 id).map wX).length)::(14,iA i)::T,(1001,.arr 2 ((OK f4 id).map wX) true)::U⟩) (Lq ?_ ?_)
 .intro i f4 x post C hi;have L:=yG wX C hi;have G:=zW C hi;have A:=up f4 id;have B:=zA wX (OK f4 id);have e:(OK (f4++[x]) id).map wX=(OK f4 id).map wX++(if x.id=id then []else [x]).map wX:=by rw[vp,zBd]
  rw[e];clear C e;generalize (OK f4 id).map wX=R at *;by_cases h:x.id=id
  .rw[zA5 h];refine WW ?_;rw[zCy,zB0];rfl
  .rw[Os h];refine WW ?_;rfl
 .by_cases h:(OK l id).length=ln l
  .rw[zA5 h];exact ly
  .rw[Os h];refine WW ?_;exact zI [] Z Z (zBq (λz=>AV.tup [AV.sl false z,iA 0]) bn) Z
def qa (l:List Vh) (U:ln l<=1000) (id:Int):∃(B:List Vh) (e:Int),((0<=e/\e<=100)/\(e≠0->B=[]))/\B.length<=ln l/\zO 349 [zE wX l,iA id] [] (.tup [zE wX B,iA e]) []/\zO 333 [zE wX l,iA id] [] (.tup [zE wX B,iA e]) []:=by
 have R:=zA wX l;have p2:=TX l zB;have c:=Zi l zB id;obtain⟨k,M,C,E⟩:=sa l id;have I:=LD l id zB k M C E
 cases hv:LI l with
 |false=>
  rw[hv]at p2 c;rw[Os zBm]at c;refine⟨[],1,⟨zB,λ_=>rfl⟩,by simp,?_,c⟩;refine eM call349 λF hF=>?_
  exact oj p2
 |true=>
 have u:=RR (id:=id) hv M C E;rw[hv]at p2 c;rw[zA5 Z]at c
 cases hh:XQ l id with
 | false=>
  rw[zA5 (by rw[qp hh])]at c;refine⟨[],12,⟨zB,λ_=>rfl⟩,by simp,?_,c⟩
  have z:∀hk:k<ln l,(l.getD k dd).id≠id:=λhk e=>by
   rw[u.2 ⟨hk,e⟩]at hh;cases hh
  clear u C E c;by_cases hk:k<ln l
  .have S:=zJ wX l k hk;have z:=z hk;generalize l.getD k dd=x at *;refine eM call349 λF hF=>?_
   exact nm (xW p2 I)
  .clear z;refine eM call349 λF hF=>?_
   exact nm (xW p2 I)
 |true=>
  obtain⟨hk,O⟩:=u.1 hh;have G:=dp hv hk O;have A:(OK l id).length=ln l-1:=by rw[G];simp;omega
  rw[Os zB]at c;refine⟨OK l id,0,⟨zB,λh=>absurd Z h⟩,zB,?_,c⟩;have L:=xp (l.take (k:Int).toNat) (l.drop ((k:Int)+1).toNat) qD qD;rw[show l.take (k:Int).toNat++l.drop ((k:Int)+1).toNat=OK l id by rw[G];congr 1]at L;have S:=zJ wX l k hk;clear u C E c G A;generalize OK l id=B,l.getD k dd=x at *;refine eM call349 λF hF=>?_
  exact nm (qM p2 I L)
def Oy (t:Tk):zO 394 [yN t] [] (bA (!t.used)) []:=by
 obtain⟨u,a,b,c,d,e⟩:=t
 cases u with
 |true=>
  rw[show yN ⟨true,a,b,c,d,e⟩= .agg [bA true,zE yA a,iA b,iA c,iA d,iA e]from Z];refine eM call394 λF hF=>?_
  exact ly
 |false=>
  rw[show yN ⟨false,a,b,c,d,e⟩= .agg [bA false,zE yA a,iA b,iA c,iA d,iA e]from Z];refine eM call394 λF hF=>?_
  exact ly
def v8 (l:List Tk) (A:ln l<=1000000) (k:Nat) (hk:k<ln l) (h1:∀i,i<k->(l.getD i dd).used=true) (h2:(l.getD k dd).used=false):zO 393 [zE yN l,.fn 394 []] [] (iA k) []:=by
 have hl:=zA yN l;refine eM call393 λF hF=>?_
 refine WW ?_;refine yU (ln l) [] [] [0,1,7] [8,0,1,7] Z (λi T U z=>(i<=k)/\z=⟨(8,iA i)::T,U⟩) (Lp ?_ ?_ ?_)
 .exact⟨zBn _,rfl⟩
 .rintro i st hi ⟨hik,rfl⟩;have B:=zJ yN l i hi;have c:=Oy (l.getD i dd);by_cases u:i=k
  .subst u;rw[h2]at c;generalize l.getD i dd=t at *;exact ng c
  .rw[h1 i zB]at c;generalize l.getD i dd=t at *;refine zS c ?_;exact⟨zB,rfl⟩
 .rintro st ⟨hik,rfl⟩;exfalso;omega
def Tb (u f3:Int):Int:=if 0<u then f3+u else 0
theorem Tv (l:List Tk) (k:Nat) (t:Tk) (n:Nat) (u:n=ln l):zE yN (l.set k t)= .sl false (((l.map yN).set k (yN t)).take n):=by grind [zE,yN,List.map_set,List.take_of_length_le]
theorem yB {α:Type} [Inhabited α] (l:List α) (i:Nat) (h:i<ln l):l.getD i dd∈l:=by grind
def Yi (l:List Tk):Prop:=∀t∈l,t.used=true->ji t.rights 10=false
def G9 (l o:List Tk):Prop:=Yi l->Yi o
def Nd (l:List Tk) (s:Int) (j:Nat):Tk:=if Wj l j s=true then Ub else l.getD j dd
def RS (l:List Tk) (s:Int) (n:Nat):List Tk:=(pi (ln l)).map λj=>if j<n then Nd l s j else l.getD j dd
def OL (l:List Tk) (s:Int) (n:Nat):(RS l s n).length=ln l:=by simp[RS]
theorem bp (l:List Tk) (s:Int):RS l s 0=l:=by apply zCf<;>grind [RS,List.getElem?_range,py,List.getElem?_eq_none,pi]
theorem U4 (l:List Tk) (s:Int) (n:Nat) (h:n<ln l):(RS l s n)[n]? =some (l.getD n dd):=by grind [RS]
theorem np (l:List Tk) (s:Int) (n:Nat) (h:n<ln l):RS l s (n+1)=(RS l s n).set n (Nd l s n):=by apply zCf<;>grind [RS,Nd,List.length_map,List.length_range,List.getElem?_range,List.getElem?_eq_none,List.range]
def Wi (l:List Tk) (hb:IP l) (hv:PG l=true) (s:Int) (hs:1<=s/\s<8) (h8:ln l=8) (Y:(l.getD s.toNat dd).used=true):zO 346 [zE yN l,iA s] [] (.tup [zE yN (RS l s (ln l)),iA 0]) []:=by
 have E:=TK l;rw[hv]at E;have I:=VM l hb;have ac:=zA yN l;have hy:=yF yN l s zB zB;have hd:=λj=>Pn l j s
 have W:=Yd;generalize l.getD s.toNat dd=t at *;obtain⟨u,M,O,R,S,V⟩:=t;dsimp only at Y;subst Y;rw[show yN ⟨true,M,O,R,S,V⟩= .agg [bA true,zE yA M,iA O,iA R,iA S,iA V]from Z]at hy;refine eM call346 λF hF=>?_
 refine yJ (xW E I) ?_;refine zN (ln l) [1001] [] [0,1,6,26] [27,0,1,6,26] Z (λi T U=>⟨(27,iA i)::T,(1001,.arr 6 ((RS l s i).map yN) false)::U⟩) ?_;(conv=>whnf);refine⟨by(rw[bp];rfl),?_,?_⟩
 .intro i hi;have C:((RS l s i).map yN)[i]? =some (yN (l.getD i dd)):=by rw[zBe,U4 l s i hi];rfl
  have G:=hd i;have ag:i<((RS l s i).map yN).length:=by rw[zA6,OL];exact hi
  rw[np l s i hi,zCs];have A:(l.getD i dd)=(l.getD i dd):=rfl
  have z:((RS l s i).map yN).set i (yN (l.getD i dd))=(RS l s i).map yN:=by
   rw[zBw]at C;obtain⟨h,e⟩:=C;rw[<-e,zGt]
  unfold Nd
  cases B:Wj l i s with
  |true=>
   rw[B]at G;rw[zA5 Z];generalize (RS l s i).map yN=xs,l.getD i dd=ti at *;clear z A hd E I;refine yJ (xW G W) ?_;rfl
  |false=>
   rw[B]at G;rw[Os zBm,z];generalize (RS l s i).map yN=xs at *;clear z A hd E I W;refine zS G ?_;rfl
 .have L:=OL l s (ln l);rw[show zE yN (RS l s (ln l))= .sl false (((RS l s (ln l)).map yN).take (l.map yN).length) by rw[zBf (by simp[L])];rfl];generalize (RS l s (ln l)).map yN=xs at *;exact ly
def DC (l:List Tk) (k:Nat) (e:Int) (t:Tk):List Tk:=if e=0 then l.set k t else []
theorem mp {P:Nat->Prop}:∀n,P n->∃m,m<=n/\P m/\∀k,k<m->¬P k:=by
 intro n
 induction n using Nat.strongRecOn with
 |_ n u=>
  grind
def T4 (l:List Tk) (u:ln l<=1000000) (h1:∀i,i<ln l->(l.getD i dd).used=true):zO 393 [zE yN l,.fn 394 []] [] (iA (-1)) []:=by
 have hl:=zA yN l;refine eM call393 λF hF=>?_
 refine WW ?_;refine zN (ln l) [] [] [0,1,7] [8,0,1,7] Z (λi T U=>⟨(8,iA i)::T,U⟩) (Lq ?_ ?_)
 .intro i hi;have z:=zJ yN l i hi;have c:=Oy (l.getD i dd);rw[h1 i hi]at c;generalize l.getD i dd=t at *;refine zS c ?_;rfl
 .exact ly
def tp (l:List Tk) (p R c u f3:Int):Prop:=∃(k:Nat) (e:Int),(0<=e/\e<=20)/\(k=0\/k<ln l)/\(e=0->PG l=true/\0<=p/\p<ln l/\(l.getD k dd).used=false/\od R (l.getD p.toNat dd).rights=true/\(l.getD p.toNat dd).used=true)/\∀z:List Int,(ln z:Int)=8->
 zO 375 [zE yN l,iA p,iA R,iA c,iA u,zE yA z,iA f3] [] (.tup [zE yN (DC l k e ⟨true,z,p,R,c,Tb u f3⟩),iA k,iA e]) []/\
 zO 330 [zE yN l,iA p,iA R,iA c,iA u,zE yA z,iA f3] [] (.tup [zE yN (DC l k e ⟨true,z,p,R,c,Tb u f3⟩),iA k,iA e]) []
def cJ {l:List Tk} {p R c u f3:Int} (e:Int) (h1:1<=e) (h2:e<=20) (h:∀z:List Int,(ln z:Int)=8->zO 375 [zE yN l,iA p,iA R,iA c,iA u,zE yA z,iA f3] [] (.tup [zE yN [],iA 0,iA e]) []/\zO 330 [zE yN l,iA p,iA R,iA c,iA u,zE yA z,iA f3] [] (.tup [zE yN [],iA 0,iA e]) []):tp l p R c u f3:=
 ⟨0,e,⟨zB,h2⟩,.inl Z,λB=>by omega,λz A=>by
  have hd:DC l 0 e ⟨true,z,p,R,c,Tb u f3⟩=[]:=by unfold DC;rw[Os zB]
  rw[hd]
  exact h z A⟩
theorem ja (l:List Tk) (hb:IP l) (p R c A f3:Int):tp l p R c A f3:=by
 have hn:=hb.n;have a5:=zA yN l;have I:=TK l;have G:=RM l;rw[<-Ef]at G
 cases hv:PG l with
 | false=>
  rw[hv]at I G
  exact cJ 1 zB zB λz hs=>⟨by
   have B:=zA yA z;refine eM call375 λF hF=>?_
   exact ng I,by
   have B:=zA yA z;refine eM call330 λF hF=>?_
   exact ng G⟩
 |true=>
 rw[hv]at I G;have h8:(ln l:Int)=8:=by unfold PG at hv;rw[zBg,zBc]at hv;exact hv.1
 by_cases bb:0<=f3
 case neg=>
  exact cJ 1 zB zB λz hs=>⟨by
   have B:=zA yA z;refine eM call375 λF hF=>?_
   exact ng I,by
   have B:=zA yA z;refine eM call330 λF hF=>?_
   exact ng G⟩
 by_cases bd:f3<=1073741824
 case neg=>
  exact cJ 1 zB zB λz hs=>⟨by
   have B:=zA yA z;refine eM call375 λF hF=>?_
   exact ng I,by
   have B:=zA yA z;refine eM call330 λF hF=>?_
   exact ng G⟩
 have M:=Zd l p;by_cases ap:0<=p
 case neg=>
  rw[show jZ l p=false by unfold jZ;rw[zA7 (λh=>ap h.1)];rfl]at M
  exact cJ 12 zB zB λz hs=>⟨by
   have B:=zA yA z;refine eM call375 λF hF=>?_
   exact mx (xW I M),by
   have B:=zA yA z;refine eM call330 λF hF=>?_
   exact ng G⟩
 by_cases ar:p<ln l
 case neg=>
  rw[show jZ l p=false by unfold jZ;rw[zA7 (λh=>ar h.2)];rfl]at M
  exact cJ 12 zB zB λz hs=>⟨by
   have B:=zA yA z;refine eM call375 λF hF=>?_
   exact mx (xW I M),by
   have B:=zA yA z;refine eM call330 λF hF=>?_
   exact ng G⟩
 have hy:=yF yN l p ap ar;have a3:jZ l p=(l.getD p.toNat dd).used:=by unfold jZ;rw[zA9 ⟨ap,ar⟩,zBh]
 rw[a3]at M;have c3:=AP R (l.getD p.toNat dd).rights;have r3:=IM R (l.getD p.toNat dd).rights;have c4:=Df (Tb A f3) (l.getD p.toNat dd).til;have r4:=AQ (Tb A f3) (l.getD p.toNat dd).til
 have C:Tb A f3=if 0<A then f3+A else 0:=rfl
 generalize Tb A f3=un at *;clear a3;generalize a2:l.getD p.toNat dd=t at *;obtain⟨u,t1,t2,t3,t4,t5⟩:=t;rw[show∀u,yN ⟨u,t1,t2,t3,t4,t5⟩= .agg [bA u,zE yA t1,iA t2,iA t3,iA t4,iA t5]from λ_=>rfl]at hy;dsimp only at*
 cases u with
 | false=>
  exact cJ 12 zB zB λz hs=>⟨by
   have B:=zA yA z;refine eM call375 λF hF=>?_
   exact mx (xW I M),by
   have B:=zA yA z;refine eM call330 λF hF=>?_
   exact ng G⟩
 |true=>
 cases hw:od R t3 with
 | false=>
  rw[hw]at c3 r3
  exact cJ 8 zB zB λz hs=>⟨by
   have B:=zA yA z;refine eM call375 λF hF=>?_
   exact mx (qM I M c3),by
   have B:=zA yA z;refine eM call330 λF hF=>?_
   exact mx (xW G r3)⟩
 |true=>
 rw[hw]at c3 r3;by_cases a7:0<=c
 case neg=>
  exact cJ 8 zB zB λz hs=>⟨by
   have B:=zA yA z;refine eM call375 λF hF=>?_
   exact mx (qM I M c3),by
   have B:=zA yA z;refine eM call330 λF hF=>?_
   exact mx (xW G r3)⟩
 by_cases a8:c<=t4
 case neg=>
  exact cJ 8 zB zB λz hs=>⟨by
   have B:=zA yA z;refine eM call375 λF hF=>?_
   exact mx (qM I M c3),by
   have B:=zA yA z;refine eM call330 λF hF=>?_
   exact mx (xW G r3)⟩
 by_cases a9:0<=A
 case neg=>
  exact cJ 8 zB zB λz hs=>⟨by
   have B:=zA yA z;refine eM call375 λF hF=>?_
   exact mx (qM I M c3),by
   have B:=zA yA z;refine eM call330 λF hF=>?_
   exact mx (xW G r3)⟩
 by_cases ba:A<=600
 case neg=>
  exact cJ 8 zB zB λz hs=>⟨by
   have B:=zA yA z;refine eM call375 λF hF=>?_
   exact mx (qM I M c3),by
   have B:=zA yA z;refine eM call330 λF hF=>?_
   exact mx (xW G r3)⟩
 cases ax:Er un t5 with
 | true=>
  rw[ax]at c4 r4;by_cases h0:0<A
  .rw[zA5 h0]at C;subst C
   exact cJ 8 zB zB λz hs=>⟨by
    have B:=zA yA z;refine eM call375 λF hF=>?_
    exact mx (cM I M c3 c4),by
    have B:=zA yA z;refine eM call330 λF hF=>?_
    exact mx (qM G r3 r4)⟩
  .rw[Os h0]at C;subst C
   exact cJ 8 zB zB λz hs=>⟨by
    have B:=zA yA z;refine eM call375 λF hF=>?_
    exact mx (cM I M c3 c4),by
    have B:=zA yA z;refine eM call330 λF hF=>?_
    exact mx (qM G r3 r4)⟩
 |false=>
 rw[ax]at c4 r4;have a6:od R (l.getD p.toNat dd).rights=true/\(l.getD p.toNat dd).used=true:=by rw[a2];exact⟨hw,rfl⟩
 clear ax hw a2;by_cases a1:∃k,k<ln l/\(l.getD k dd).used=false
 case neg=>
  have ag:∀i,i<ln l->(l.getD i dd).used=true:=λi hi=>by
   cases h:(l.getD i dd).used with
   |true=>rfl
   |false=>exact absurd ⟨i,hi,h⟩ a1
  have c5:=T4 l hn ag
  rcases(show(0<A/\Tb A f3=f3+A)\/(¬0<A/\Tb A f3=0) by unfold Tb;by_cases h:0<A;exact .inl ⟨h,zA5 h⟩;exact .inr ⟨h,Os h⟩)with⟨h0,az⟩|⟨h0,az⟩
  .rw[zA5 h0]at C;subst C
   exact cJ 10 zB zB λz hs=>⟨by
    have B:=zA yA z;refine eM call375 λF hF=>?_
    exact mx (NV I M c3 c4 c5),by
    have B:=zA yA z;refine eM call330 λF hF=>?_
    refine yJ (qM G r3 r4) ?_;refine zN (ln l) [] [] [0,1,2,3,5,18,90,91] [92,0,1,2,3,5,18,90,91] Z (λi T U=>⟨(92,iA i)::T,U⟩) (Lq ?_ ?_)
    .intro i hi;have S:=zJ yN l i hi;have E:=ag i hi;generalize l.getD i dd=x at *;obtain⟨xu,V,W,Y,x4,x5⟩:=x;dsimp only at E;subst E;rw[show yN ⟨true,V,W,Y,x4,x5⟩= .agg [bA true,zE yA V,iA W,iA Y,iA x4,iA x5]from Z]at S;refine WW ?_;rfl
    .exact ly⟩
  .rw[Os h0]at C;subst C
   exact cJ 10 zB zB λz hs=>⟨by
    have B:=zA yA z;refine eM call375 λF hF=>?_
    exact mx (NV I M c3 c4 c5),by
    have B:=zA yA z;refine eM call330 λF hF=>?_
    refine yJ (qM G r3 r4) ?_;refine zN (ln l) [] [] [0,1,2,3,5,18,90,91] [92,0,1,2,3,5,18,90,91] Z (λi T U=>⟨(92,iA i)::T,U⟩) (Lq ?_ ?_)
    .intro i hi;have S:=zJ yN l i hi;have E:=ag i hi;generalize l.getD i dd=x at *;obtain⟨xu,V,W,Y,x4,x5⟩:=x;dsimp only at E;subst E;rw[show yN ⟨true,V,W,Y,x4,x5⟩= .agg [bA true,zE yA V,iA W,iA Y,iA x4,iA x5]from Z]at S;refine WW ?_;rfl
    .exact ly⟩
 obtain⟨k0,a4,az⟩:=a1;obtain⟨k,_,⟨hk,L⟩,ac⟩:=mp (P:=λk=>k<ln l/\(l.getD k dd).used=false) k0 ⟨a4,az⟩
 have O:∀i,i<k->(l.getD i dd).used=true:=λi hi=>by
  cases h:(l.getD i dd).used with
  |true=>rfl
  |false=>exact absurd ⟨zB,h⟩ (ac i hi)
 have c5:=v8 l hn k hk O L;have c6:=VM l hb;have r6:=MU l hb;refine⟨k,0,zB,.inr hk,λ_=>⟨hv,ap,ar,L,a6⟩,λz hs=>?_⟩;have hd:∀x:Tk,DC l k 0 x=l.set k x:=λx=>by unfold DC;rw[zA5 Z]
 rw[hd];have c7:=kU z zB;have B:=zA yA z;have au:=zJ yN l k hk;have eS:=Tv l k ⟨true,z,p,R,c,Tb A f3⟩ (l.map yN).length a5;rw[eS];clear eS hd;rw[show Tb A f3=if 0<A then f3+A else 0 from Z];by_cases h0:0<A
 .rw[zA5 h0]at C⊢;subst C;refine⟨?_,?_⟩
  .clear G r3 r4 r6 O ac L;generalize l.getD k dd=tk at *;refine eM call375 λF hF=>?_
   exact mx (wy I M c3 c4 c5 c6 c7)
  .clear I M c3 c4 c5 c6 c7;refine eM call330 λF hF=>?_
   refine yJ (qM G r3 r4) ?_;refine yU (ln l) [] [] [0,1,2,3,5,18,90,91] [92,0,1,2,3,5,18,90,91] Z (λi T U zs=>(i<=k)/\zs=⟨(92,iA i)::T,U⟩) (Lp ?_ ?_ ?_)
   .exact⟨zBn _,rfl⟩
   .rintro i st hi ⟨hik,rfl⟩;have S:=zJ yN l i hi;by_cases av:i=k
    .subst av;clear O ac au hy;generalize l.getD i dd=x at *;obtain⟨xu,V,W,Y,x4,x5⟩:=x;dsimp only at L;subst L;rw[show yN ⟨false,V,W,Y,x4,x5⟩= .agg [bA false,zE yA V,iA W,iA Y,iA x4,iA x5]from Z]at S;exact oj r6
    .have E:=O i zB;clear O ac au L hy;generalize l.getD i dd=x at *;obtain⟨xu,V,W,Y,x4,x5⟩:=x;dsimp only at E;subst E;rw[show yN ⟨true,V,W,Y,x4,x5⟩= .agg [bA true,zE yA V,iA W,iA Y,iA x4,iA x5]from Z]at S;refine WW ?_;exact⟨zB,rfl⟩
   .rintro st ⟨hik,rfl⟩;exfalso;omega
 .rw[Os h0]at C⊢;subst C;refine⟨?_,?_⟩
  .clear G r3 r4 r6 O ac L;generalize l.getD k dd=tk at *;refine eM call375 λF hF=>?_
   exact mx (wy I M c3 c4 c5 c6 c7)
  .clear I M c3 c4 c5 c6 c7;refine eM call330 λF hF=>?_
   refine yJ (qM G r3 r4) ?_;refine yU (ln l) [] [] [0,1,2,3,5,18,90,91] [92,0,1,2,3,5,18,90,91] Z (λi T U zs=>(i<=k)/\zs=⟨(92,iA i)::T,U⟩) (Lp ?_ ?_ ?_)
   .exact⟨zBn _,rfl⟩
   .rintro i st hi ⟨hik,rfl⟩;have S:=zJ yN l i hi;by_cases av:i=k
    .subst av;clear O ac au hy;generalize l.getD i dd=x at *;obtain⟨xu,V,W,Y,x4,x5⟩:=x;dsimp only at L;subst L;rw[show yN ⟨false,V,W,Y,x4,x5⟩= .agg [bA false,zE yA V,iA W,iA Y,iA x4,iA x5]from Z]at S;exact oj r6
    .have E:=O i zB;clear O ac au L hy;generalize l.getD i dd=x at *;obtain⟨xu,V,W,Y,x4,x5⟩:=x;dsimp only at E;subst E;rw[show yN ⟨true,V,W,Y,x4,x5⟩= .agg [bA true,zE yA V,iA W,iA Y,iA x4,iA x5]from Z]at S;refine WW ?_;exact⟨zB,rfl⟩
   .rintro st ⟨hik,rfl⟩;exfalso;omega
theorem k8 (l:List Tk) (s:Int) (u:ln l=8):RS l s (ln l)=RN (λi=>YB l 9 i s) l 8:=by grind [RS,RN,YB,List.map_congr_left,Nd,Ty]
def XI:IP []:=⟨by simp,λt h=>by simp at h⟩
def S4 {l:List Tk} (hb:IP l) (s:Int) (n:Nat):IP (RS l s n):=by
 refine⟨by rw[OL];exact hb.n,λt u=>?_⟩
 have z:∀j,(l.getD j dd).sec.length<=1000000:=λj=>by
  by_cases h:j<ln l
  .exact hb.s _ (by simp[py,h])
  .rw[show l.getD j dd=dd by simp[py,h]];exact zBn _
 unfold RS at u;rw[zCl]at u;obtain⟨j,_,rfl⟩:=u;split
 .unfold Nd;split
  .exact zBn _
  .exact z j
 .exact z j
def R4 {l:List Tk} {s:Int}:G9 l (RS l s (ln l)):=λh t z u=>by
 obtain⟨j,hj,rfl⟩:=zCl.1 z;rw[zBu]at hj;rw[zA5 hj]at u⊢;unfold Nd at u⊢;split at u
 .cases u
 .rw[Os ‹_›];exact h _ (yB l j hj) u
def aa (l:List Tk) (hb:IP l) (s:Int):∃(o:List Tk) (e:Int),(0<=e/\e<=20)/\IP o/\(e=0->ln o=ln l/\G9 l o)/\zO 346 [zE yN l,iA s] [] (.tup [zE yN o,iA e]) []/\zO 331 [zE yN l,iA s] [] (.tup [zE yN o,iA e]) []:=by
 have M:=hb.n;have L:=zA yN l;have z:=TK l;have u:=RM l;rw[<-Ef]at u
 cases hv:PG l with
 | false=>
  rw[hv]at z u;refine⟨[],1,zB,XI,λh=>absurd h xA,?_,?_⟩
  ·(refine eM call346 λF hF=>?_)
   exact ng z
  ·(refine eM call331 λF hF=>?_)
   exact ng u
 |true=>
 rw[hv]at z u;have A:ln l=8:=by unfold PG at hv;rw[zBg,zBc]at hv;omega
 by_cases h1:1<=s
 case neg=>
  refine⟨[],8,zB,XI,λh=>absurd h xA,?_,?_⟩
  ·(refine eM call346 λF hF=>?_)
   exact ng z
  ·(refine eM call331 λF hF=>?_)
   exact ng u
 by_cases h2:s<8
 case neg=>
  refine⟨[],8,zB,XI,λh=>absurd h xA,?_,?_⟩
  ·(refine eM call346 λF hF=>?_)
   exact ng z
  ·(refine eM call331 λF hF=>?_)
   exact ng u
 have C:=yF yN l s zB zB
 cases B:(l.getD s.toNat dd).used with
 | false=>
  rw[show yN (l.getD s.toNat dd)=dP false (l.getD s.toNat dd) by unfold yN dP;rw[B]]at C;unfold dP at C;generalize l.getD s.toNat dd=t at *;refine⟨[],12,zB,XI,λh=>absurd h xA,?_,?_⟩
  ·(refine eM call346 λF hF=>?_)
   exact ng z
  ·(refine eM call331 λF hF=>?_)
   exact ng u
 |true=>
  have I:=Wi l hb hv s ⟨h1,h2⟩ A B;have E:=Hf l s A;rw[A]at E;have G:=Gf l hb (λi=>YB l 9 i s) A;rw[<-k8 l s A]at G;rw[show yN (l.getD s.toNat dd)=dP true (l.getD s.toNat dd) by unfold yN dP;rw[B]]at C;unfold dP at C;refine⟨RS l s (ln l),0,zB,S4 hb s _,λ_=>⟨OL l s _,R4⟩,I,?_⟩;clear I B;generalize RS l s (ln l)=O,gB (λi=>YB l 9 i s) 8=b,l.getD s.toNat dd=t at *;refine eM call331 λF hF=>?_
  exact mx (qM u E G)
def VP (r:Rg):xV:= .box [iA r.num,zE yA r.ag.sec,iA r.ag.rights,iA r.ag.cls,zE iA r.ag.lim,iA r.ag.req,iA r.ag.ses,iA r.ag.rate,iA r.ag.burst,zE yN r.tk,zE wX r.vh,iA r.bk.level,iA r.bk.rate,iA r.bk.burst]
def Ny (r:Rg) (l:List Tk):Rg:=⟨r.num,r.ag,l,r.vh,r.bk⟩
def My (m:Ms) (a:Int) (u:m.args=[a]):zO 347 [zX m] [] (zX ⟨14,[],[m.kind,a],[]⟩) []:=by
 obtain⟨k,t,A,d⟩:=m;dsimp only at u⊢;subst u;have z:([a].map iA).length=1:=rfl;refine eM call347 λF hF=>?_
 exact nl
