/- Part 11. -/
import Derived.Test.YtaglbcjljlkjcaaGreatV10
import Derived.Scope
namespace Go.Proofs.YtaglbcjljlkjcaaGreat.Av
open Tryz
set_option linter.all false
set_option maxRecDepth 4000
set_option maxHeartbeats 4000000
open List renaming length->ln,replicate->pg,range->pi,getD->py
open Inhabited renaming default->dd
variable {c:Code}{l:List Vh}
def LD (l:List Vh) (id:Int) (G:ln l<=1000000) (k:Nat) (I:k<=ln l) (B:∀i,i<k->(l.getD i dd).id<id) (C:k<ln l->¬(l.getD k dd).id<id):zO 379 [zE vB l,iA id] [] (iA k) []:=by
 have z:=zA vB l;refine eM call379 λF hF=>?_
 refine WW ?_;refine zZ (ln l+1) [] [] [0,1] [5,0,1] Z (λi T U E=>(i<=k)/\E=⟨(5,iA i)::T,U⟩) (Lp ?_ ?_ ?_)
 .exact⟨zAn _,rfl⟩
 .rintro i st hi ⟨hik,rfl⟩;by_cases y:i<k
  .have A:=zJ vB l i zB;have hh:=B i y;generalize l.getD i dd=x at *;refine WW ?_;exact⟨zB,rfl⟩
  .obtain rfl:i=k:=by omega
   by_cases u:i<ln l
   .have A:=zJ vB l i u;have hh:=C u;generalize l.getD i dd=x at *;exact mx
   .exact mx
 .rintro st ⟨hik,rfl⟩;exfalso;omega
def AB (l:List Vh) (c:Int) (z:ln l<=1000000):zO 395 [zE vB l,iA c] [] (iA (uS l c)) []:=by
 have hl:=zA vB l;refine eM call395 λF hF=>?_
 refine WW ?_;refine zU (l) [] [] [1,8,9] [5,10,1,8,9] Z (λi gd T U=>⟨(5,iA (uS gd c))::(10,iA i)::T,U⟩) (Lq ?_ ?_)
 .intro i gd x post hx hi;have A:=zY vB hx hi;have y:=zX hx hi;have u:uS gd c<=i:=by rw[<-hi];exact zBz _ _
  have e:uS (gd++[x]) c=uS gd c+(if x.cls=c then 1 else 0):=by
   unfold uS;rw[zE1,zAf];by_cases h:x.cls=c
   all_goals simp[h]
  clear hx;by_cases h:x.cls=c
  .rw[Os h]at e;rw[e];generalize uS gd c=m at *;refine WW ?_;rfl
  .rw[hW h,zCy]at e;rw[e];generalize uS gd c=m at *;refine WW ?_;rfl
 .exact mx
def AC (a:Ag) (c:Int) (u:0<=c) (h1:c<ln a.lim):zO 396 [wP a,iA c] [] (iA (a.lim.getD c.toNat dd)) []:=by
 have y:=zA iA a.lim;have z:=yC iA a.lim c u h1;refine eM call396 λF hF=>?_
 exact mx
def vx (a:Ag) (c:Int):Ag:=⟨a.sec,a.rights,c,a.lim,a.req,a.ses,a.rate,a.burst⟩
theorem To (hv:LA l=true):∀j,j<ln l->∀i,i<j->(l.getD i dd).id<(l.getD j dd).id
 |0,_,i,hi=>absurd hi (zBa _)
 |j+1,hj,i,hi=>by
  have h1:=((zx.1 hv).2 (j+1) hj).2 zB;rw[Nat.add_sub_cancel]at h1;by_cases h:i=j
  .subst h;exact h1
  .have:=To hv j zB i zB;omega
theorem RP {id:Int} (hv:LA l=true) {k:Nat} (A:k<=ln l) (B:∀i,i<k->(l.getD i dd).id<id) (C:k<ln l->¬(l.getD k dd).id<id):TK l id=true↔k<ln l/\(l.getD k dd).id=id:=by
 constructor
 .intro h;obtain⟨x,hx,u⟩:=zBr.1 h;obtain⟨i,hi,rfl⟩:=zCj hx;rw[zBv]at u;have y:l.getD i dd=l[i]:=by simp[py,hi]
  rw[<-y]at u;by_cases h1:i<k
  .grind
  .have hk:k<ln l:=by omega
   by_cases h2:i=k
   .grind
   .have z:=To hv i hi k zB
    grind
 all_goals grind [LA,TK]
theorem AD (l:List Vh) (U:ln l<=1000000) (a:Ag) (ac:(ln a.lim:Int)=4) (ar:a.cls<=3) (v:Vh) (hv:LA l=true) (h1:0<=v.id) (h2:v.id<=4294967295) (h3:0<=v.cls) (h4:v.cls<=a.cls) (G:TK l v.id=false) (h5:(uS l v.cls:Int)<a.lim.getD v.cls.toNat dd) (h6:ln l<8)
  (k:Nat) (k1:k<=ln l) (V:∀i,i<k->(l.getD i dd).id<v.id) (W:k<ln l->¬(l.getD k dd).id<v.id):zO 378 [zE vB l,wP a,vB v] [] (.tup [zE vB (l.take k++v::l.drop k),iA 0]) []:=by
 have ax:=zA vB l;have av:=zA iA a.lim;have M:=TN l U;have X:=LD l v.id U k k1 V W;have Y:=AB l v.cls U;have c5:=AC a v.cls h3 zB
 have E:k<ln l->(l.getD k dd).id≠v.id:=λhk e=>by
  rw[(RP hv k1 V W).2 ⟨hk,e⟩]at G;cases G
 rw[hv]at M;clear hv G V W
 have au:(uS l v.cls:Int)<=1000000:=by
  have:uS l v.cls<=ln l:=zBz _ _;omega
 generalize (uS l v.cls:Int)=cn,a.lim.getD v.cls.toNat dd=az at *;have S:((l.take (k:Int).toNat).map vB).length=k:=by simp;omega
 have R:((l.drop (k:Int).toNat).map vB).length=ln l-k:=by simp
 obtain⟨N,hN⟩:∃N,N=ln l+1:=⟨_,rfl⟩;have I:((l.map vB).length:Int)+1=(N:Int):=by omega
 obtain⟨C,y,ag⟩:∃C,C=(l.take k).map vB++pg (ln l+1-k) (AV.agg [.s (.int .i64 0),.s (.int .i64 0)])/\C.length=ln l+1:=⟨_,rfl,by simp;omega⟩
 have B:(pg N (AV.agg [.s (.int .i64 0),.s (.int .i64 0)])).take 0++(l.take (k:Int).toNat).map vB++(pg N (AV.agg [.s (.int .i64 0),.s (.int .i64 0)])).drop (0+((l.take (k:Int).toNat).map vB).length)=C:=by
  rw[y,S,hN];simp
 have ap:C[(k:Int).toNat]? =some (AV.agg [.s (.int .i64 0),.s (.int .i64 0)]):=by
  rw[y,zBb qM];rw[zC5,Os qM]
 have u:(C.set (k:Int).toNat (.agg [iA v.id,iA v.cls])).take ((k:Int)+1).toNat++(l.drop (k:Int).toNat).map vB++(C.set (k:Int).toNat (.agg [iA v.id,iA v.cls])).drop (((k:Int)+1).toNat+((l.drop (k:Int).toNat).map vB).length)=(l.take k++v::l.drop k).map vB:=by
  have e1:C.set (k:Int).toNat (.agg [iA v.id,iA v.cls])=(l.take k++[v]).map vB++pg (ln l-k) (AV.agg [.s (.int .i64 0),.s (.int .i64 0)]):=by
   rw[y,zDc _ _ qM,show (ln l)+1-k=(ln l-k)+1 by omega,zEb];rw[show(k:Int).toNat-((l.take k).map vB).length=0 by simp;omega];simp[vB]
  have O:((l.take k++[v]).map vB).length=k+1:=by simp;omega
  have e2:((l.take k++[v]).map vB++pg (ln l-k) (AV.agg [.s (.int .i64 0),.s (.int .i64 0)])).drop (k+1+(ln l-k))=[]:=List.drop_of_length_le (by rw[zAf,O,zB1];exact zAe _);rw[e1,R,show((k:Int)+1).toNat=k+1 by omega,List.take_append_of_le_length zB,zAl zB,e2];simp
 clear y;obtain⟨L,A⟩:∃L,L=(l.take k++v::l.drop k).map vB:=⟨_,rfl⟩;have hz3l:ln L=ln l+1:=by rw[A];simp;omega
 rw[<-A]at u;rw[show zE vB (l.take k++v::l.drop k)= .sl false L by rw[A];rfl];clear A;rw[show vB v= .agg [iA v.id,iA v.cls]from Z]at *; by_cases hk:k<ln l
 .have hy:=zJ vB l k hk;have E:=E hk;generalize l.getD k dd=x at *;refine eM call378 λF hF=>?_
  (have gt:=M;have gv:=X;have ic:=Y;have io:=c5;(repeat' (first|refine qU ?_|apply yY|apply xN|intro hc|(apply zG;first|(apply fY;refine vd tok Z Z Z Z Z Z Z Z Z Z Z Z I zB zB Z Z Z ?_)|(refine Hw tok Z Z Z Z Z Z Z (yG _ _ (λ_=>rfl)) Z zB (by first|exact B|exact u) Z ?_)|(apply aN;refine YZ tok Z Z Z Z Z Z Z zB zB Z ?_))|fail))<;>clear gt gv ic io)
  exact zH [] Z Z (zAt (λz=>AV.tup [AV.sl false z,iA 0]) mw) Z
 .clear E;refine eM call378 λF hF=>?_
  (have gt:=M;have gv:=X;have ic:=Y;have io:=c5;(repeat' (first|refine qU ?_|apply yY|apply xN|intro hc|(apply zG;first|(apply fY;refine vd tok Z Z Z Z Z Z Z Z Z Z Z Z I zB zB Z Z Z ?_)|(refine Hw tok Z Z Z Z Z Z Z (yG _ _ (λ_=>rfl)) Z zB (by first|exact B|exact u) Z ?_)|(apply aN;refine YZ tok Z Z Z Z Z Z Z zB zB Z ?_))|fail))<;>clear gt gv ic io)
  exact zH [] Z Z (zAt (λz=>AV.tup [AV.sl false z,iA 0]) mw) Z
theorem KH (l:List Vh) (S:ln l<=1000000) (a:Ag) (y:Int) (ac:(ln a.lim:Int)=4) (ax:a.cls<=3) (v:Vh):∃(l':List Vh) (e:Int),((0<=e/\e<=100)/\(e≠0->l'=[]))/\(ln l'<=ln l+1/\l'.length<=8)/\zO 378 [zE vB l,wP (vx a (min a.cls y)),vB v] [] (.tup [zE vB l',iA e]) []/\zO 332 [zE vB l,wP a,vB v,iA y] [] (.tup [zE vB l',iA e]) []:=by
 have a4:=zA vB l;have a3:=zA iA a.lim;have p2:=TN l S;have O:=Oe l v.id S;have R:=RK l S;have c3:=Bn l v.cls S;have p4:=AB l v.cls S;have ap:min a.cls y<=3:=by omega
 have az:min a.cls y<=a.cls:=by omega
 obtain⟨k,k1,I,L⟩:=AA l v.id;have A:=λhv=>RP (l:=l) (id:=v.id) hv k1 I L
 have W:=LD l v.id S k k1 I L;have u:=λhv h1 h2 G X V h5 h6=>AD l S (vx a (min a.cls y)) ac ap v hv h1 h2 G X V h5 h6 k k1 I L
 have a1:uS l v.cls<=1000000:=by
  have:uS l v.cls<=ln l:=zBz _ _;omega
 have M:=λG X=>AC (vx a (min a.cls y)) v.cls G X
 rw[show(vx a (min a.cls y)).lim=a.lim from Z]at u M;rw[show(vx a (min a.cls y)).cls=min a.cls y from Z]at u;have ag:wP (vx a (min a.cls y))= .agg [zE yA a.sec,iA a.rights,iA (min a.cls y),zE iA a.lim,iA a.req,iA a.ses,iA a.rate,iA a.burst]:=rfl;rw[ag]at *; generalize hf:bQ l v.id=fv at *;generalize V:TK l v.id=tw at *;generalize au:LA l=ok at *;generalize uS l v.cls=cn at *;cases ok
 .refine⟨[],1,⟨zB,λ_=>rfl⟩,⟨zAn _,zAn _⟩,?_,?_⟩
  .clear A u M;refine eM call378 λF hF=>?_
   exact nl p2
  .clear A u M;refine eM call332 λF hF=>?_
   exact nm (xH O R)
 by_cases h1:0<=v.id/\v.id<=4294967295
 case neg=>
  refine⟨[],8,⟨zB,λ_=>rfl⟩,⟨zAn _,zAn _⟩,?_,?_⟩
  .clear A u M
   by_cases g1:0<=v.id<;>((refine eM call378 λF hF=>?_);((refine zP p2 ?_));exact zI)
  .clear A u M
   by_cases g1:0<=v.id<;>((refine eM call332 λF hF=>?_);((refine OJ (xH O R) ?_));exact zI)
 obtain⟨h1,h2⟩:=h1;generalize C:min a.cls y=mm at *;by_cases G:0<=v.cls/\v.cls<=mm
 case neg=>
  refine⟨[],17,⟨zB,λ_=>rfl⟩,⟨zAn _,zAn _⟩,?_,?_⟩
  .clear A u M
   by_cases g1:0<=v.cls<;>((refine eM call378 λF hF=>?_);((refine zP p2 ?_));exact zI)
  .clear A u M;subst C
   by_cases g1:0<=v.cls<;>((refine eM call332 λF hF=>?_);((refine OJ (xH O R) ?_));exact zI)
 obtain⟨G,X⟩:=G;have A:=A Z;have E:=M G zB;clear M;cases tw
 case true=>
  obtain⟨hk,a2⟩:=A.1 Z;have hy:=zJ vB l k hk;refine⟨[],11,⟨zB,λ_=>rfl⟩,⟨zAn _,zAn _⟩,?_,?_⟩
  .clear u A I L;generalize l.getD k dd=x at *;refine eM call378 λF hF=>?_
   exact ng (xH p2 W)
  .clear A u;subst C;refine eM call332 λF hF=>?_
   exact nm (xH O R)
 have B:∀hk:k<ln l,(l.getD k dd).id≠v.id:=λhk e=>by
  have:=A.2 ⟨hk,e⟩;cases this
 clear A;have a5:=yC iA a.lim v.cls G zB;have u:=u Z h1 h2 G X Z;generalize a.lim.getD v.cls.toNat dd=av at *;by_cases h5:av<=cn
 .refine⟨[],14,⟨zB,λ_=>rfl⟩,⟨zAn _,zAn _⟩,?_,?_⟩
  .clear u I L;by_cases hk:k<ln l
   .have hy:=zJ vB l k hk;have B:=B hk;generalize l.getD k dd=x at *;refine eM call378 λF hF=>?_
    exact ng (cX p2 W p4 E)
   .clear B;refine eM call378 λF hF=>?_
    exact ng (cX p2 W p4 E)
  .clear u B I L;subst C;refine eM call332 λF hF=>?_
   exact nm (qS O R c3)
 by_cases h6:ln l<8
 case neg=>
  refine⟨[],10,⟨zB,λ_=>rfl⟩,⟨zAn _,zAn _⟩,?_,?_⟩
  .clear u I L;by_cases hk:k<ln l
   .have hy:=zJ vB l k hk;have B:=B hk;generalize l.getD k dd=x at *;refine eM call378 λF hF=>?_
    exact ng (cX p2 W p4 E)
   .clear B;refine eM call378 λF hF=>?_
    exact ng (cX p2 W p4 E)
  .clear u B I L;subst C;refine eM call332 λF hF=>?_
   exact nm (qS O R c3)
 refine⟨l.take k++v::l.drop k,0,⟨zB,λh=>absurd Z h⟩,⟨by simp;omega,by simp;omega⟩,u zB h6,?_⟩;clear au V u B p2 W p4 E;subst C;refine eM call332 λF hF=>?_
 refine OJ (qS O R c3) ?_;refine zZ (ln l+1) [6] [6] [0,6] [12,0,6] Z (λi T U zs=>(i<=k)/\zs=⟨(12,iA i)::T,U⟩) (Lp ?_ ?_ ?_)
 .exact⟨zAn _,rfl⟩
 .rintro i st hi ⟨hik,rfl⟩;by_cases ar:i<k
  .have hy:=zJ vB l i zB;have hh:=I i ar;generalize l.getD i dd=x at *;refine WW ?_;exact⟨zB,rfl⟩
  .obtain rfl:i=k:=by omega
   by_cases Y:i<ln l
   .have hy:=zJ vB l i Y;have hh:=L Y;generalize l.getD i dd=x at*
    (repeat' (first|refine gM ?_|apply yY|apply xN|intro hc|(apply zG;first|(apply yI;refine xB 1001 tok Z Z Z Z Z Z (yG _ _ (λ_=>rfl)) Z Z Z qM Z Z Z ?_)|(apply yL;refine wQ tok Z Z ?_))|refine SB ?_|fail))
    exact zH [] Z Z (zAt (λz=>AV.tup [AV.sl false z,iA 0]) (by rw[zAr,zAa];simp[zDk,zC4,vB,iA])) Z
   ·(repeat' (first|refine gM ?_|apply yY|apply xN|intro hc|(apply zG;first|(apply yI;refine xB 1001 tok Z Z Z Z Z Z (yG _ _ (λ_=>rfl)) Z Z Z qM Z Z Z ?_)|(apply yL;refine wQ tok Z Z ?_))|refine SB ?_|fail))
    exact zH [] Z Z (zAt (λz=>AV.tup [AV.sl false z,iA 0]) (by rw[zAr,zAa];simp[zDk,zC4,vB,iA])) Z
 .rintro st ⟨hik,rfl⟩;exfalso;omega
section
variable {b:Frame} {a:Act} {k:List Item} {cs:List Frame} {w:World} {P:Program}
def gD :step P (lone (b.atR a (.code (.scope c)::k)) cs w)= .next (lone (b.atR a (.code c:: .inScope c::k)) cs w):=
 step_lone_go (by simp[stepG,stepG.exec,Frame.atR])
def KI :step P (lone (b.atR a (.inScope c::k)) cs w)= .next (lone (b.atR a k) cs w):=
 step_lone_go (by simp[stepG,stepG.exec,Frame.atR])
end
section
variable {F:Fence} {n:Nat} {P:Program} {Q:Exit->Act->World->Prop} {a:Act} {w:World}
def Wc (h:c.wpIn F n P (Exit.noGoto Q) a w):(Code.scope c).wpIn F n P Q a w:=by
 intro b k cs G hb C;have y:(lone (b.atR a (.code (.scope c)::k)) cs w).fenced P F:=fenced_calm hb C Z;obtain⟨e,A,B,z,u⟩:=h b (.inScope c::k) cs G hb C
 cases e with
 |normal=>exact⟨.normal,A,B,z,.head y gD (StepsIn.trans u (.one (fenced_calm hb C Z) KI))⟩
 | exit id=>
  have hx:exitTo id (.inScope c::k)=exitTo id k:=by simp[exitTo]
  exact⟨.exit id,A,B,z,λI hk=> .head y gD (u.1 I (by rw[hx];exact hk)),
   λE hk=>let ⟨k₁,h1,h2⟩:=u.2 E (by rw[hx];exact hk);⟨k₁,h1,.head y gD h2⟩⟩
 |goto l=>exact z.elim
 |ret=>exact⟨_,A,B,z,.of_steps (.one y gD) u⟩
 |panic L=>exact⟨_,A,B,z,.of_steps (.one y gD) u⟩
 |outgrown=>exact⟨_,A,B,z,.of_steps (.one y gD) u⟩
end
section
variable {P:Program} {K0:List Nat} {F:Fr K0} {m:Nat} {Q:Exit->St->Prop} {st:St}
def noG (Q:Exit->St->Prop):Exit->St->Prop
 | .goto _,_=>False
 |e,s=>Q e s
def dK (h:uG P F m c st (noG Q)):uG P F m (.scope c) st Q:=⟨λa w H=>
 Wc (Code.wpIn_mono (λe a' w' ⟨s,h1,h2⟩=>by
  cases e with
  |goto l=>exact h1.elim
  |_=>exact⟨s,h1,h2⟩) (h.run a w H))⟩
theorem gP (K z:List Nat) (st0 u y:St) (B:K0.all (K.contains ·)=true) (C:restr K z st=st0)
 (A:uG P F m c st0 (λe s=>match e with| .normal=>restr K z s=u|e=>Q e s))
 (h1:uG P F m c u (λe s=>match e with| .normal=>restr K z s=y|e=>Q e s))
 (h2:uG P F m c y (λe s=>match e with| .normal=>False|e=>Q e s)):uG P F m (.loop c) st Q:=by
 refine wH (λn s=>(n=2/\s=st0)\/(n=1/\s=u)\/(n=0/\s=y)) 2 K z B (.inl ⟨rfl,C⟩) ?_;rintro n s (⟨rfl,rfl⟩|⟨rfl,rfl⟩|⟨rfl,rfl⟩)
 .refine⟨λa w H=>Code.wpIn_mono (λe a' w' ⟨s,q1,q2⟩=>?_) (A.run a w H)⟩
  cases e with
  |normal=>exact⟨s,⟨1,zB,.inr (.inl ⟨rfl,q1⟩)⟩,q2⟩
  |_=>exact⟨s,q1,q2⟩
 all_goals grind
def dL {l:Nat} (h:Q .normal st):uG P F m (.label l) st Q:=⟨λ_ _ H=>wpIn_label ⟨st,h,H⟩⟩
end
def L1 (N:Nat) (h1:1<=N) (h2:N<=1000000):zO 397 [.s (.slice none 0 0),iA N] [] (.ref 1001 0 0) [(1001,.arr 2 [] true)]:=by
 have y:(N:Int)-(0-0)=(N:Int):=by omega
 have u:(N:Int)-(0-((0:Nat):Int))=(N:Int):=by omega
 refine eM call397 λF hF=>?_
 (repeat' (first|refine WS ?_|refine SG (I2 (λhc=>?_) λhc=>?_)|refine SG λhc=>?_|(apply zG;first|(refine wO (MU tok Z Z Z) Z ?_)|(apply aN;refine wO (Ab tok Z Z Z Z Z) Z ?_)|(refine tu tok Z Z Z Z Z Z Z Z Z Z Z Z Z Z (by first|exact y|exact u) h1 zB Z Z Z ?_)|(apply aN;refine Te tok Z Z Z Z Z Z Z Z ?_))|(first|refine Cg 0 22 1001 Z Z Z ?_|first|refine SR ?_|refine SK (I2 (λhc=>?_) λhc=>?_)|refine SK λhc=>?_|fail)|fail))
 exact zV [1001] Z Z Z Z
def bv:zO 397 [.s (.slice none 0 0),iA 0] [] (.s (.slice none 0 0)) []:=by
 refine eM call397 λF hF=>?_
 (repeat' (first|refine qU ?_|apply yY|apply xN|intro hc|(apply zG;first|(refine wO (MU tok Z Z Z) Z ?_))|fail))
 exact zV [] Z Z Z Z
theorem So (a b:List Vh) (S:ln a<=1000) (hb:ln b<=1000):zO 380 [.sl false [zE vB a,zE vB b]] [] (zE vB (a++b)) []:=by
 have L:=zA vB a;have M:=zA vB b;rw[show zE vB (a++b)= .sl false (a.map vB++b.map vB) by unfold zE;rw[zAd]];have E:zE vB a= .sl false (a.map vB):=rfl;have G:zE vB b= .sl false (b.map vB):=rfl;rw[E,G];have z:∀y,(a.map vB)[0]? =some y->ln y.cells=2:=yG _ _ (λ_=>rfl);have C:∀y,(b.map vB)[0]? =some y->ln y.cells=2:=yG _ _ (λ_=>rfl);generalize a.map vB=A,b.map vB=B at *;clear E G;have O:([AV.sl false A,.sl false B]:List AV)[(0:Int).toNat]? =some (.sl false A):=rfl;have R:([AV.sl false A,.sl false B]:List AV)[(0+1:Int).toNat]? =some (.sl false B):=rfl;have I:([AV.sl false A,.sl false B]:List AV).length=2:=rfl;generalize [AV.sl false A,.sl false B]=X at *;refine eM call380 λF hF=>?_
 refine WW ?_;refine gP [] [3,11,0,9,10] ⟨[(3,iA 0),(11,iA 0),(0,.sl false X),(9,.sl false X),(10,iA (ln X))],[]⟩ ⟨[(3,iA (0+(ln A:Int))),(11,iA (0+1)),(0,.sl false X),(9,.sl false X),(10,iA (ln X))],[]⟩ ⟨[(3,iA (0+(ln A:Int)+(ln B:Int))),(11,iA (0+1+1)),(0,.sl false X),(9,.sl false X),(10,iA (ln X))],[]⟩ rfl Z ?_ ?_ ?_
 ·(refine WW ?_)
  rfl
 ·(refine WW ?_)
  rfl
 by_cases hN:ln A+ln B=0
 .have u:=bv;rw[show iA 0=iA (0+(ln A:Int)+(ln B:Int)) by rw[show(0:Int)+(ln A:Int)+(ln B:Int)=0 by omega]]at u
  (repeat' (first|refine qU ?_|apply yY|apply xN|intro hc|(apply zG;apply xJ;(refine vF 397 ?_;first|refine wO (kW u Z Z Z Z Z) Z ?_|refine qH (kW u Z Z Z Z Z) Z Z Z ?_|refine bX (kW u Z Z Z Z Z) Z Z Z ?_))|(apply zG;first|refine SM ?_)|fail))
  refine zW 6 1001 2 Z Z Z ?_;refine gP [1001] [6,27,25,26] ⟨[(6,.ref 1001 0 0),(27,iA 0),(25,.sl false X),(26,iA (ln X))],[(1001,.arr 2 [] true)]⟩ ⟨[(6,.ref 1001 0 (ln A)),(27,iA (0+1)),(25,.sl false X),(26,iA (ln X))],[(1001,.arr 2 A false)]⟩ ⟨[(6,.ref 1001 0 (A++B).length),(27,iA (0+1+1)),(25,.sl false X),(26,iA (ln X))],[(1001,.arr 2 (A++B) true)]⟩ rfl Z ?_ ?_ ?_
  ·(repeat' (first|refine qU ?_|apply yY|apply xN|intro hc|(apply zG;first|(apply yI;first|refine wU tok Z Z Z Z Z Z Z z Z Z Z zB Z ?_|refine kN tok Z Z Z Z Z Z Z Z Z Z Z C zB Z ?_))|fail))
   rfl
  ·(repeat' (first|refine qU ?_|apply yY|apply xN|intro hc|(apply zG;first|(apply yI;first|refine wU tok Z Z Z Z Z Z Z z Z Z Z zB Z ?_|refine kN tok Z Z Z Z Z Z Z Z Z Z Z C zB Z ?_))|fail))
   rfl
  ·(refine WW ?_)
   exact zH [] Z Z (zAt (AV.sl false) Sj) Z
 .have u:=L1 (ln A+ln B) zB zB;rw[show((ln A+ln B:Nat):Int)=0+(ln A:Int)+(ln B:Int) by omega]at u
  (repeat' (first|refine qU ?_|apply yY|apply xN|intro hc|(apply zG;apply xJ;(refine vF 397 ?_;first|refine wO (kW u Z Z Z Z Z) Z ?_|refine qH (kW u Z Z Z Z Z) Z Z Z ?_|refine bX (kW u Z Z Z Z Z) Z Z Z ?_))|(apply zG;first|refine SM ?_)|fail))
  refine gP [1001] [6,27,25,26] ⟨[(6,.ref 1001 0 0),(27,iA 0),(25,.sl false X),(26,iA (ln X))],[(1001,.arr 2 [] true)]⟩ ⟨[(6,.ref 1001 0 (ln A)),(27,iA (0+1)),(25,.sl false X),(26,iA (ln X))],[(1001,.arr 2 A false)]⟩ ⟨[(6,.ref 1001 0 (A++B).length),(27,iA (0+1+1)),(25,.sl false X),(26,iA (ln X))],[(1001,.arr 2 (A++B) true)]⟩ rfl Z ?_ ?_ ?_
  ·(repeat' (first|refine qU ?_|apply yY|apply xN|intro hc|(apply zG;first|(apply yI;first|refine wU tok Z Z Z Z Z Z Z z Z Z Z zB Z ?_|refine kN tok Z Z Z Z Z Z Z Z Z Z Z C zB Z ?_))|fail))
   rfl
  ·(repeat' (first|refine qU ?_|apply yY|apply xN|intro hc|(apply zG;first|(apply yI;first|refine wU tok Z Z Z Z Z Z Z z Z Z Z zB Z ?_|refine kN tok Z Z Z Z Z Z Z Z Z Z Z C zB Z ?_))|fail))
   rfl
  ·(refine WW ?_)
   exact zH [] Z Z (zAt (AV.sl false) Sj) Z
def ON (l:List Vh) (id:Int):List Vh:=l.filter λv=>decide (v.id≠id)
theorem Ro (l:List Vh) (x:Vh) (id:Int):ON (l++[x]) id=ON l id++(if x.id=id then []else [x]):=by grind [ON]
def Qo (l:List Vh) (id:Int):(ON l id).length<=ln l:=zBz _ _
theorem Po {id:Int} (h:TK l id=false):ON l id=l:=by grind [TK,ON,List.filter_eq_self,List.any_eq_false]
def Oo {id:Int} (hv:LA l=true) {k:Nat} (hk:k<ln l) (y:(l.getD k dd).id=id):ON l id=l.take k++l.drop (k+1):=by
 have B:l.getD k dd=l[k]:=by simp[py,hk]
 have e1:l=l.take k++l[k]::l.drop (k+1):=by rw[List.getElem_cons_drop,zDd]
 have u:=To hv
 have h1:ON (l.take k) id=l.take k:=by
  refine List.filter_eq_self.2 λx hx=>zAc λe=>?_
  obtain⟨i,hi,rfl⟩:=zCj hx;simp only[zA0]at hi;have z:=u k hk i zB;have A:l.getD i dd=l[i]:=by simp[py,show i<ln l by omega]
  rw[List.getElem_take]at e;rw[A,e,y]at z;omega
 have h2:ON (l.drop (k+1)) id=l.drop (k+1):=by
  refine List.filter_eq_self.2 λx hx=>zAc λe=>?_
  obtain⟨i,hi,rfl⟩:=zCj hx;simp only[zBh]at hi;have z:=u (k+1+i) zB k zB;have A:l.getD (k+1+i) dd=l[k+1+i]:=by simp[py,show k+1+i<ln l by omega]
  rw[List.getElem_drop]at e;rw[A,e,y]at z;omega
 conv=>lhs;rw[e1]
 unfold ON at h1 h2⊢;rw[zE1,List.filter_cons,hW (by rw[<-B,y];simp),h1,h2]
def ah (l:List Vh) (E:ln l<=1000000) (id:Int):zO 333 [zE vB l,iA id] [] (if LA l=true then(if(ON l id).length=ln l then .tup [.sl false [],iA 12]else .tup [zE vB (ON l id),iA 0])else .tup [.sl false [],iA 1]) []:=by
 have B:=zA vB l;have u:=RK l E
 cases hv:LA l with
 |false=>
  rw[hv]at u;rw[hW zAs];refine eM call333 λF hF=>?_
  exact pb u
 |true=>
 rw[hv]at u;rw[Os Z];have y:=Qo l id;have A:=zA vB (ON l id);refine eM call333 λF hF=>?_
 refine VR u ?_;refine zW 6 1001 2 Z Z Z ?_;refine zU (l) [1001] [] [0,1,12,13] [6,14,0,1,12,13] Z (λi gd T U=>⟨(6,.ref 1001 0 ((ON gd id).map vB).length)::(14,iA i)::T,(1001,.arr 2 ((ON gd id).map vB) true)::U⟩) (Lq ?_ ?_)
 .intro i gd x post hx hi;have G:=zY vB hx hi;have C:=zX hx hi;have y:=Qo gd id;have A:=zA vB (ON gd id);have e:(ON (gd++[x]) id).map vB=(ON gd id).map vB++(if x.id=id then []else [x]).map vB:=by rw[Ro,zAd]
  rw[e];clear hx e;generalize (ON gd id).map vB=R at *;by_cases h:x.id=id
  .rw[Os h];refine WW ?_;rw[zBs,zA6];rfl
  .rw[hW h];refine WW ?_;rfl
 .by_cases h:(ON l id).length=ln l
  .rw[Os h];exact mx
  .rw[hW h];refine WW ?_;exact zH [] Z Z (zAt (λz=>AV.tup [AV.sl false z,iA 0]) Sj) Z
def AE (l:List Vh) (S:ln l<=1000) (id:Int):∃(A:List Vh) (e:Int),((0<=e/\e<=100)/\(e≠0->A=[]))/\A.length<=ln l/\zO 349 [zE vB l,iA id] [] (.tup [zE vB A,iA e]) []/\zO 333 [zE vB l,iA id] [] (.tup [zE vB A,iA e]) []:=by
 have O:=zA vB l;have p2:=TN l zB;have c:=ah l zB id;obtain⟨k,L,B,C⟩:=AA l id;have G:=LD l id zB k L B C
 cases hv:LA l with
 |false=>
  rw[hv]at p2 c;rw[hW zAs]at c;refine⟨[],1,⟨zB,λ_=>rfl⟩,by simp,?_,c⟩;refine eM call349 λF hF=>?_
  exact pb p2
 |true=>
 have u:=RP (id:=id) hv L B C;rw[hv]at p2 c;rw[Os Z]at c
 cases hh:TK l id with
 | false=>
  rw[Os (by rw[Po hh])]at c;refine⟨[],12,⟨zB,λ_=>rfl⟩,by simp,?_,c⟩
  have y:∀hk:k<ln l,(l.getD k dd).id≠id:=λhk e=>by
   rw[u.2 ⟨hk,e⟩]at hh;cases hh
  clear u B C c;by_cases hk:k<ln l
  .have R:=zJ vB l k hk;have y:=y hk;generalize l.getD k dd=x at *;refine eM call349 λF hF=>?_
   exact nm (xH p2 G)
  .clear y;refine eM call349 λF hF=>?_
   exact nm (xH p2 G)
 |true=>
  obtain⟨hk,M⟩:=u.1 hh;have E:=Oo hv hk M;have z:(ON l id).length=ln l-1:=by rw[E];simp;omega
  rw[hW zB]at c;refine⟨ON l id,0,⟨zB,λh=>absurd Z h⟩,zB,?_,c⟩;have I:=So (l.take (k:Int).toNat) (l.drop ((k:Int)+1).toNat) qM qM;rw[show l.take (k:Int).toNat++l.drop ((k:Int)+1).toNat=ON l id by rw[E];congr 1]at I;have R:=zJ vB l k hk;clear u B C c E z;generalize ON l id=A,l.getD k dd=x at *;refine eM call349 λF hF=>?_
  exact nm (qS p2 G I)
def ux (t:Tk):zO 394 [yK t] [] (bA (!t.used)) []:=by
 obtain⟨u,a,b,c,d,e⟩:=t
 cases u with
 |true=>
  rw[show yK ⟨true,a,b,c,d,e⟩= .agg [bA true,zE yA a,iA b,iA c,iA d,iA e]from Z];refine eM call394 λF hF=>?_
  exact mx
 |false=>
  rw[show yK ⟨false,a,b,c,d,e⟩= .agg [bA false,zE yA a,iA b,iA c,iA d,iA e]from Z];refine eM call394 λF hF=>?_
  exact mx
def B6 (l:List Tk) (z:ln l<=1000000) (k:Nat) (hk:k<ln l) (h1:∀i,i<k->(l.getD i dd).used=true) (h2:(l.getD k dd).used=false):zO 393 [zE yK l,.fn 394 []] [] (iA k) []:=by
 have hl:=zA yK l;refine eM call393 λF hF=>?_
 refine WW ?_;refine zZ (ln l) [] [] [0,1,7] [8,0,1,7] Z (λi T U y=>(i<=k)/\y=⟨(8,iA i)::T,U⟩) (Lp ?_ ?_ ?_)
 .exact⟨zAn _,rfl⟩
 .rintro i st hi ⟨hik,rfl⟩;have A:=zJ yK l i hi;have c:=ux (l.getD i dd);by_cases u:i=k
  .subst u;rw[h2]at c;generalize l.getD i dd=t at *;exact nl c
  .rw[h1 i zB]at c;generalize l.getD i dd=t at *;refine zP c ?_;exact⟨zB,rfl⟩
 .rintro st ⟨hik,rfl⟩;exfalso;omega
def qa (u ga:Int):Int:=if 0<u then ga+u else 0
theorem pv (l:List Tk) (k:Nat) (t:Tk) (n:Nat) (u:n=ln l):zE yK (l.set k t)= .sl false (((l.map yK).set k (yK t)).take n):=by grind [zE,yK,List.map_set,List.take_of_length_le]
theorem zQ {α:Type} [Inhabited α] (l:List α) (i:Nat) (h:i<ln l):l.getD i dd∈l:=by grind
def J1 (l:List Tk):Prop:=∀t∈l,t.used=true->Ft t.rights 10=false
def f8 (l o:List Tk):Prop:=J1 l->J1 o
def Vc (l:List Tk) (s:Int) (j:Nat):Tk:=if Eh l j s=true then xa else l.getD j dd
def RQ (l:List Tk) (s:Int) (n:Nat):List Tk:=(pi (ln l)).map λj=>if j<n then Vc l s j else l.getD j dd
def OO (l:List Tk) (s:Int) (n:Nat):(RQ l s n).length=ln l:=by simp[RQ]
theorem No (l:List Tk) (s:Int):RQ l s 0=l:=by apply zBe<;>grind [RQ,List.getElem?_range,py,List.getElem?_eq_none,pi]
theorem I1 (l:List Tk) (s:Int) (n:Nat) (h:n<ln l):(RQ l s n)[n]? =some (l.getD n dd):=by grind [RQ]
theorem Mo (l:List Tk) (s:Int) (n:Nat) (h:n<ln l):RQ l s (n+1)=(RQ l s n).set n (Vc l s n):=by apply zBe<;>grind [RQ,Vc,List.length_map,List.length_range,List.getElem?_range,List.getElem?_eq_none,List.range]
def oh (l:List Tk) (hb:JW l) (hv:PB l=true) (s:Int) (hs:1<=s/\s<8) (h8:ln l=8) (W:(l.getD s.toNat dd).used=true):zO 346 [zE yK l,iA s] [] (.tup [zE yK (RQ l s (ln l)),iA 0]) []:=by
 have C:=UW l;rw[hv]at C;have G:=VF l hb;have X:=zA yK l;have hy:=yC yK l s zB zB;have hd:=λj=>Xm l j s
 have V:=Mb;generalize l.getD s.toNat dd=t at *;obtain⟨u,L,M,O,R,S⟩:=t;dsimp only at W;subst W;rw[show yK ⟨true,L,M,O,R,S⟩= .agg [bA true,zE yA L,iA M,iA O,iA R,iA S]from Z]at hy;refine eM call346 λF hF=>?_
 refine yB (xH C G) ?_;refine zM (ln l) [1001] [] [0,1,6,26] [27,0,1,6,26] Z (λi T U=>⟨(27,iA i)::T,(1001,.arr 6 ((RQ l s i).map yK) false)::U⟩) ?_;(conv=>whnf);refine⟨by(rw[No];rfl),?_,?_⟩
 .intro i hi;have B:((RQ l s i).map yK)[i]? =some (yK (l.getD i dd)):=by rw[zAh,I1 l s i hi];rfl
  have E:=hd i;have Y:i<((RQ l s i).map yK).length:=by rw[f7,OO];exact hi
  rw[Mo l s i hi,zBt];have z:(l.getD i dd)=(l.getD i dd):=rfl
  have y:((RQ l s i).map yK).set i (yK (l.getD i dd))=(RQ l s i).map yK:=by
   rw[zAx]at B;obtain⟨h,e⟩:=B;rw[<-e,zFm]
  unfold Vc
  cases A:Eh l i s with
  |true=>
   rw[A]at E;rw[Os Z];generalize (RQ l s i).map yK=xs,l.getD i dd=ti at *;clear y z hd C G;refine yB (xH E V) ?_;rfl
  |false=>
   rw[A]at E;rw[hW zAs,y];generalize (RQ l s i).map yK=xs at *;clear y z hd C G V;refine zP E ?_;rfl
 .have I:=OO l s (ln l);rw[show zE yK (RQ l s (ln l))= .sl false (((RQ l s (ln l)).map yK).take (l.map yK).length) by rw[zAl (by simp[I])];rfl];generalize (RQ l s (ln l)).map yK=xs at *;exact mx
def FY (l:List Tk) (k:Nat) (e:Int) (t:Tk):List Tk:=if e=0 then l.set k t else []
theorem Lo {P:Nat->Prop}:∀n,P n->∃m,m<=n/\P m/\∀k,k<m->¬P k:=by
 intro n
 induction n using Nat.strongRecOn with
 |_ n u=>
  grind
def A1 (l:List Tk) (u:ln l<=1000000) (h1:∀i,i<ln l->(l.getD i dd).used=true):zO 393 [zE yK l,.fn 394 []] [] (iA (-1)) []:=by
 have hl:=zA yK l;refine eM call393 λF hF=>?_
 refine WW ?_;refine zM (ln l) [] [] [0,1,7] [8,0,1,7] Z (λi T U=>⟨(8,iA i)::T,U⟩) (Lq ?_ ?_)
 .intro i hi;have y:=zJ yK l i hi;have c:=ux (l.getD i dd);rw[h1 i hi]at c;generalize l.getD i dd=t at *;refine zP c ?_;rfl
 .exact mx
def Ko (l:List Tk) (p R c u ga:Int):Prop:=∃(k:Nat) (e:Int),(0<=e/\e<=20)/\(k=0\/k<ln l)/\(e=0->PB l=true/\0<=p/\p<ln l/\(l.getD k dd).used=false/\Pb R (l.getD p.toNat dd).rights=true/\(l.getD p.toNat dd).used=true)/\∀y:List Int,(ln y:Int)=8->
 zO 375 [zE yK l,iA p,iA R,iA c,iA u,zE yA y,iA ga] [] (.tup [zE yK (FY l k e ⟨true,y,p,R,c,qa u ga⟩),iA k,iA e]) []/\
 zO 330 [zE yK l,iA p,iA R,iA c,iA u,zE yA y,iA ga] [] (.tup [zE yK (FY l k e ⟨true,y,p,R,c,qa u ga⟩),iA k,iA e]) []
def dY {l:List Tk} {p R c u ga:Int} (e:Int) (h1:1<=e) (h2:e<=20) (h:∀y:List Int,(ln y:Int)=8->zO 375 [zE yK l,iA p,iA R,iA c,iA u,zE yA y,iA ga] [] (.tup [zE yK [],iA 0,iA e]) []/\zO 330 [zE yK l,iA p,iA R,iA c,iA u,zE yA y,iA ga] [] (.tup [zE yK [],iA 0,iA e]) []):Ko l p R c u ga:=
 ⟨0,e,⟨zB,h2⟩,.inl Z,λA=>by omega,λy z=>by
  have hd:FY l 0 e ⟨true,y,p,R,c,qa u ga⟩=[]:=by unfold FY;rw[hW zB]
  rw[hd]
  exact h y z⟩
theorem AF (l:List Tk) (hb:JW l) (p R c z ga:Int):Ko l p R c z ga:=by
 have hn:=hb.n;have a5:=zA yK l;have G:=UW l;have E:=SZ l;rw[<-je]at E
 cases hv:PB l with
 | false=>
  rw[hv]at G E
  exact dY 1 zB zB λy hs=>⟨by
   have A:=zA yA y;refine eM call375 λF hF=>?_
   exact nl G,by
   have A:=zA yA y;refine eM call330 λF hF=>?_
   exact nl E⟩
 |true=>
 rw[hv]at G E;have h8:(ln l:Int)=8:=by unfold PB at hv;rw[zAi,zAg]at hv;exact hv.1
 by_cases bd:0<=ga
 case neg=>
  exact dY 1 zB zB λy hs=>⟨by
   have A:=zA yA y;refine eM call375 λF hF=>?_
   exact nl G,by
   have A:=zA yA y;refine eM call330 λF hF=>?_
   exact nl E⟩
 by_cases bf:ga<=1073741824
 case neg=>
  exact dY 1 zB zB λy hs=>⟨by
   have A:=zA yA y;refine eM call375 λF hF=>?_
   exact nl G,by
   have A:=zA yA y;refine eM call330 λF hF=>?_
   exact nl E⟩
 have L:=Km l p;by_cases ap:0<=p
 case neg=>
  rw[show jQ l p=false by unfold jQ;rw[zAb (λh=>ap h.1)];rfl]at L
  exact dY 12 zB zB λy hs=>⟨by
   have A:=zA yA y;refine eM call375 λF hF=>?_
   exact ng (xH G L),by
   have A:=zA yA y;refine eM call330 λF hF=>?_
   exact nl E⟩
 by_cases ar:p<ln l
 case neg=>
  rw[show jQ l p=false by unfold jQ;rw[zAb (λh=>ar h.2)];rfl]at L
  exact dY 12 zB zB λy hs=>⟨by
   have A:=zA yA y;refine eM call375 λF hF=>?_
   exact ng (xH G L),by
   have A:=zA yA y;refine eM call330 λF hF=>?_
   exact nl E⟩
 have hy:=yC yK l p ap ar;have a3:jQ l p=(l.getD p.toNat dd).used:=by unfold jQ;rw[zAc ⟨ap,ar⟩,zAj]
 rw[a3]at L;have c3:=BE R (l.getD p.toNat dd).rights;have r3:=JU R (l.getD p.toNat dd).rights;have c4:=ae (qa z ga) (l.getD p.toNat dd).til;have r4:=BF (qa z ga) (l.getD p.toNat dd).til
 have B:qa z ga=if 0<z then ga+z else 0:=rfl
 generalize qa z ga=un at *;clear a3;generalize a2:l.getD p.toNat dd=t at *;obtain⟨u,t1,t2,t3,t4,t5⟩:=t;rw[show∀u,yK ⟨u,t1,t2,t3,t4,t5⟩= .agg [bA u,zE yA t1,iA t2,iA t3,iA t4,iA t5]from λ_=>rfl]at hy;dsimp only at*
 cases u with
 | false=>
  exact dY 12 zB zB λy hs=>⟨by
   have A:=zA yA y;refine eM call375 λF hF=>?_
   exact ng (xH G L),by
   have A:=zA yA y;refine eM call330 λF hF=>?_
   exact nl E⟩
 |true=>
 cases hw:Pb R t3 with
 | false=>
  rw[hw]at c3 r3
  exact dY 8 zB zB λy hs=>⟨by
   have A:=zA yA y;refine eM call375 λF hF=>?_
   exact ng (qS G L c3),by
   have A:=zA yA y;refine eM call330 λF hF=>?_
   exact ng (xH E r3)⟩
 |true=>
 rw[hw]at c3 r3;by_cases a7:0<=c
 case neg=>
  exact dY 8 zB zB λy hs=>⟨by
   have A:=zA yA y;refine eM call375 λF hF=>?_
   exact ng (qS G L c3),by
   have A:=zA yA y;refine eM call330 λF hF=>?_
   exact ng (xH E r3)⟩
 by_cases a8:c<=t4
 case neg=>
  exact dY 8 zB zB λy hs=>⟨by
   have A:=zA yA y;refine eM call375 λF hF=>?_
   exact ng (qS G L c3),by
   have A:=zA yA y;refine eM call330 λF hF=>?_
   exact ng (xH E r3)⟩
 by_cases a9:0<=z
 case neg=>
  exact dY 8 zB zB λy hs=>⟨by
   have A:=zA yA y;refine eM call375 λF hF=>?_
   exact ng (qS G L c3),by
   have A:=zA yA y;refine eM call330 λF hF=>?_
   exact ng (xH E r3)⟩
 by_cases bb:z<=600
 case neg=>
  exact dY 8 zB zB λy hs=>⟨by
   have A:=zA yA y;refine eM call375 λF hF=>?_
   exact ng (qS G L c3),by
   have A:=zA yA y;refine eM call330 λF hF=>?_
   exact ng (xH E r3)⟩
 cases ax:dq un t5 with
 | true=>
  rw[ax]at c4 r4;by_cases h0:0<z
  .rw[Os h0]at B;subst B
   exact dY 8 zB zB λy hs=>⟨by
    have A:=zA yA y;refine eM call375 λF hF=>?_
    exact ng (cX G L c3 c4),by
    have A:=zA yA y;refine eM call330 λF hF=>?_
    exact ng (qS E r3 r4)⟩
  .rw[hW h0]at B;subst B
   exact dY 8 zB zB λy hs=>⟨by
    have A:=zA yA y;refine eM call375 λF hF=>?_
    exact ng (cX G L c3 c4),by
    have A:=zA yA y;refine eM call330 λF hF=>?_
    exact ng (qS E r3 r4)⟩
 |false=>
 rw[ax]at c4 r4;have a6:Pb R (l.getD p.toNat dd).rights=true/\(l.getD p.toNat dd).used=true:=by rw[a2];exact⟨hw,rfl⟩
 clear ax hw a2;by_cases a1:∃k,k<ln l/\(l.getD k dd).used=false
 case neg=>
  have ag:∀i,i<ln l->(l.getD i dd).used=true:=λi hi=>by
   cases h:(l.getD i dd).used with
   |true=>rfl
   |false=>exact absurd ⟨i,hi,h⟩ a1
  have c5:=A1 l hn ag
  rcases(show(0<z/\qa z ga=ga+z)\/(¬0<z/\qa z ga=0) by unfold qa;by_cases h:0<z;exact .inl ⟨h,Os h⟩;exact .inr ⟨h,hW h⟩)with⟨h0,az⟩|⟨h0,az⟩
  .rw[Os h0]at B;subst B
   exact dY 10 zB zB λy hs=>⟨by
    have A:=zA yA y;refine eM call375 λF hF=>?_
    exact ng (KE G L c3 c4 c5),by
    have A:=zA yA y;refine eM call330 λF hF=>?_
    refine yB (qS E r3 r4) ?_;refine zM (ln l) [] [] [0,1,2,3,5,18,90,91] [92,0,1,2,3,5,18,90,91] Z (λi T U=>⟨(92,iA i)::T,U⟩) (Lq ?_ ?_)
    .intro i hi;have O:=zJ yK l i hi;have C:=ag i hi;generalize l.getD i dd=x at *;obtain⟨xu,S,V,W,X,Y⟩:=x;dsimp only at C;subst C;rw[show yK ⟨true,S,V,W,X,Y⟩= .agg [bA true,zE yA S,iA V,iA W,iA X,iA Y]from Z]at O;refine WW ?_;rfl
    .exact mx⟩
  .rw[hW h0]at B;subst B
   exact dY 10 zB zB λy hs=>⟨by
    have A:=zA yA y;refine eM call375 λF hF=>?_
    exact ng (KE G L c3 c4 c5),by
    have A:=zA yA y;refine eM call330 λF hF=>?_
    refine yB (qS E r3 r4) ?_;refine zM (ln l) [] [] [0,1,2,3,5,18,90,91] [92,0,1,2,3,5,18,90,91] Z (λi T U=>⟨(92,iA i)::T,U⟩) (Lq ?_ ?_)
    .intro i hi;have O:=zJ yK l i hi;have C:=ag i hi;generalize l.getD i dd=x at *;obtain⟨xu,S,V,W,X,Y⟩:=x;dsimp only at C;subst C;rw[show yK ⟨true,S,V,W,X,Y⟩= .agg [bA true,zE yA S,iA V,iA W,iA X,iA Y]from Z]at O;refine WW ?_;rfl
    .exact mx⟩
 obtain⟨k0,a4,az⟩:=a1;obtain⟨k,_,⟨hk,I⟩,ac⟩:=Lo (P:=λk=>k<ln l/\(l.getD k dd).used=false) k0 ⟨a4,az⟩
 have M:∀i,i<k->(l.getD i dd).used=true:=λi hi=>by
  cases h:(l.getD i dd).used with
  |true=>rfl
  |false=>exact absurd ⟨zB,h⟩ (ac i hi)
 have c5:=B6 l hn k hk M I;have c6:=VF l hb;have r6:=MM l hb;refine⟨k,0,zB,.inr hk,λ_=>⟨hv,ap,ar,I,a6⟩,λy hs=>?_⟩;have hd:∀x:Tk,FY l k 0 x=l.set k x:=λx=>by unfold FY;rw[Os Z]
 rw[hd];have c7:=jU y zB;have A:=zA yA y;have au:=zJ yK l k hk;have eS:=pv l k ⟨true,y,p,R,c,qa z ga⟩ (l.map yK).length a5;rw[eS];clear eS hd;rw[show qa z ga=if 0<z then ga+z else 0 from Z];by_cases h0:0<z
 .rw[Os h0]at B⊢;subst B;refine⟨?_,?_⟩
  .clear E r3 r4 r6 M ac I;generalize l.getD k dd=tk at *;refine eM call375 λF hF=>?_
   exact ng (V6 G L c3 c4 c5 c6 c7)
  .clear G L c3 c4 c5 c6 c7;refine eM call330 λF hF=>?_
   refine yB (qS E r3 r4) ?_;refine zZ (ln l) [] [] [0,1,2,3,5,18,90,91] [92,0,1,2,3,5,18,90,91] Z (λi T U zs=>(i<=k)/\zs=⟨(92,iA i)::T,U⟩) (Lp ?_ ?_ ?_)
   .exact⟨zAn _,rfl⟩
   .rintro i st hi ⟨hik,rfl⟩;have O:=zJ yK l i hi;by_cases av:i=k
    .subst av;clear M ac au hy;generalize l.getD i dd=x at *;obtain⟨xu,S,V,W,X,Y⟩:=x;dsimp only at I;subst I;rw[show yK ⟨false,S,V,W,X,Y⟩= .agg [bA false,zE yA S,iA V,iA W,iA X,iA Y]from Z]at O;exact pb r6
    .have C:=M i zB;clear M ac au I hy;generalize l.getD i dd=x at *;obtain⟨xu,S,V,W,X,Y⟩:=x;dsimp only at C;subst C;rw[show yK ⟨true,S,V,W,X,Y⟩= .agg [bA true,zE yA S,iA V,iA W,iA X,iA Y]from Z]at O;refine WW ?_;exact⟨zB,rfl⟩
   .rintro st ⟨hik,rfl⟩;exfalso;omega
 .rw[hW h0]at B⊢;subst B;refine⟨?_,?_⟩
  .clear E r3 r4 r6 M ac I;generalize l.getD k dd=tk at *;refine eM call375 λF hF=>?_
   exact ng (V6 G L c3 c4 c5 c6 c7)
  .clear G L c3 c4 c5 c6 c7;refine eM call330 λF hF=>?_
   refine yB (qS E r3 r4) ?_;refine zZ (ln l) [] [] [0,1,2,3,5,18,90,91] [92,0,1,2,3,5,18,90,91] Z (λi T U zs=>(i<=k)/\zs=⟨(92,iA i)::T,U⟩) (Lp ?_ ?_ ?_)
   .exact⟨zAn _,rfl⟩
   .rintro i st hi ⟨hik,rfl⟩;have O:=zJ yK l i hi;by_cases av:i=k
    .subst av;clear M ac au hy;generalize l.getD i dd=x at *;obtain⟨xu,S,V,W,X,Y⟩:=x;dsimp only at I;subst I;rw[show yK ⟨false,S,V,W,X,Y⟩= .agg [bA false,zE yA S,iA V,iA W,iA X,iA Y]from Z]at O;exact pb r6
    .have C:=M i zB;clear M ac au I hy;generalize l.getD i dd=x at *;obtain⟨xu,S,V,W,X,Y⟩:=x;dsimp only at C;subst C;rw[show yK ⟨true,S,V,W,X,Y⟩= .agg [bA true,zE yA S,iA V,iA W,iA X,iA Y]from Z]at O;refine WW ?_;exact⟨zB,rfl⟩
   .rintro st ⟨hik,rfl⟩;exfalso;omega
theorem A6 (l:List Tk) (s:Int) (u:ln l=8):RQ l s (ln l)=RA (λi=>ZQ l 9 i s) l 8:=by grind [RQ,RA,ZQ,List.map_congr_left,Vc,Ow]
def XA:JW []:=⟨by simp,λt h=>by simp at h⟩
def Z2 {l:List Tk} (hb:JW l) (s:Int) (n:Nat):JW (RQ l s n):=by
 refine⟨by rw[OO];exact hb.n,λt u=>?_⟩
 have y:∀j,(l.getD j dd).sec.length<=1000000:=λj=>by
  by_cases h:j<ln l
  .exact hb.s _ (by simp[py,h])
  .rw[show l.getD j dd=dd by simp[py,h]];exact zAn _
 unfold RQ at u;rw[zBm]at u;obtain⟨j,_,rfl⟩:=u;split
 .unfold Vc;split
  .exact zAn _
  .exact y j
 .exact y j
def Y2 {l:List Tk} {s:Int}:f8 l (RQ l s (ln l)):=λh t y u=>by
 obtain⟨j,hj,rfl⟩:=zBm.1 y;rw[zAw]at hj;rw[Os hj]at u⊢;unfold Vc at u⊢;split at u
 .cases u
 .rw[hW ‹_›];exact h _ (zQ l j hj) u
def AG (l:List Tk) (hb:JW l) (s:Int):∃(o:List Tk) (e:Int),(0<=e/\e<=20)/\JW o/\(e=0->ln o=ln l/\f8 l o)/\zO 346 [zE yK l,iA s] [] (.tup [zE yK o,iA e]) []/\zO 331 [zE yK l,iA s] [] (.tup [zE yK o,iA e]) []:=by
 have L:=hb.n;have I:=zA yK l;have y:=UW l;have u:=SZ l;rw[<-je]at u
 cases hv:PB l with
 | false=>
  rw[hv]at y u;refine⟨[],1,zB,XA,λh=>absurd h xG,?_,?_⟩
  ·(refine eM call346 λF hF=>?_)
   exact nl y
  ·(refine eM call331 λF hF=>?_)
   exact nl u
 |true=>
 rw[hv]at y u;have z:ln l=8:=by unfold PB at hv;rw[zAi,zAg]at hv;omega
 by_cases h1:1<=s
 case neg=>
  refine⟨[],8,zB,XA,λh=>absurd h xG,?_,?_⟩
  ·(refine eM call346 λF hF=>?_)
   exact nl y
  ·(refine eM call331 λF hF=>?_)
   exact nl u
 by_cases h2:s<8
 case neg=>
  refine⟨[],8,zB,XA,λh=>absurd h xG,?_,?_⟩
  ·(refine eM call346 λF hF=>?_)
   exact nl y
  ·(refine eM call331 λF hF=>?_)
   exact nl u
 have B:=yC yK l s zB zB
 cases A:(l.getD s.toNat dd).used with
 | false=>
  rw[show yK (l.getD s.toNat dd)=eQ false (l.getD s.toNat dd) by unfold yK eQ;rw[A]]at B;unfold eQ at B;generalize l.getD s.toNat dd=t at *;refine⟨[],12,zB,XA,λh=>absurd h xG,?_,?_⟩
  ·(refine eM call346 λF hF=>?_)
   exact nl y
  ·(refine eM call331 λF hF=>?_)
   exact nl u
 |true=>
  have G:=oh l hb hv s ⟨h1,h2⟩ z A;have C:=ue l s z;rw[z]at C;have E:=qe l hb (λi=>ZQ l 9 i s) z;rw[<-A6 l s z]at E;rw[show yK (l.getD s.toNat dd)=eQ true (l.getD s.toNat dd) by unfold yK eQ;rw[A]]at B;unfold eQ at B;refine⟨RQ l s (ln l),0,zB,Z2 hb s _,λ_=>⟨OO l s _,Y2⟩,G,?_⟩;clear G A;generalize RQ l s (ln l)=M,qT (λi=>ZQ l 9 i s) 8=b,l.getD s.toNat dd=t at *;refine eM call331 λF hF=>?_
  exact ng (qS u C E)
def VL (r:Rg):xM:= .box [iA r.num,zE yA r.ag.sec,iA r.ag.rights,iA r.ag.cls,zE iA r.ag.lim,iA r.ag.req,iA r.ag.ses,iA r.ag.rate,iA r.ag.burst,zE yK r.tk,zE vB r.vh,iA r.bk.level,iA r.bk.rate,iA r.bk.burst]
def qx (r:Rg) (l:List Tk):Rg:=⟨r.num,r.ag,l,r.vh,r.bk⟩
def jx (m:Ms) (a:Int) (u:m.args=[a]):zO 347 [yO m] [] (yO ⟨14,[],[m.kind,a],[]⟩) []:=by
 obtain⟨k,t,z,d⟩:=m;dsimp only at u⊢;subst u;have y:([a].map iA).length=1:=rfl;refine eM call347 λF hF=>?_
 exact ny
