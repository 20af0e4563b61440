/- Part 32. -/
import Derived.Test.YtaglbcjljlkjcaaGreatT31
namespace Go.Proofs.YtaglbcjljlkjcaaGreat.Av
open Tryz
set_option linter.all false
set_option maxRecDepth 4000
set_option maxHeartbeats 8000000
open List renaming length->ln
open Inhabited renaming default->dd
structure PlI (c:Cf) (n:Nat) (b:PH):Prop where
 i:Hg b
 u:LO b.y.ds
 n:b.y.f3<=n
 c:b.y.c=c
def Ai (g:Int) (hg:0<=g/\g<=63) (z:Dk):∃(b:PH) (d':Dk),PlI (EA z g) 160 b/\zM 9 [.ptr 1000 0 0,iA g] [(1000,fI z)] (VW b) [(1000,fI d')]:=by
 have L:=Kp z g;have hv:=p7 z g zB;generalize EA z g=c,cfD z g=e1 at *;obtain⟨l,R,hl,O⟩:=uj c hv.w hv.ag false e1;have E:=px c hv;obtain⟨f,V,fs⟩:∃f:Nat->PH×Dk,f 0=(G6 c,R)/\∀i,f (i+1)=(if(i:Int)<12+nx (f i).2 60 then(F6 (f i).1 (l.getD i dd)).b else(f i).1,ad (f i).2):=⟨λn=>Nat.rec (G6 c,R) (λi p=>(if(i:Int)<12+nx p.2 60 then(F6 p.1 (l.getD i dd)).b else p.1,ad p.2)) n,rfl,λ_=>rfl⟩;have ac:=hl.1
 have C:∀i,i<=ln l->PlI c i (f i).1:=λi=>by
  induction i with
  |zero=>intro _;rw[V];exact⟨f9 c hv,rx c,zDf _,rfl⟩
  |succ i ih=>
   intro hi;obtain⟨I,i2,i3,i4⟩:=ih zB;rw[fs];dsimp only;split
   .have D:=Dq I zB (hl.2 _ (yL l i zB));exact⟨D.i,u6 I i2 D,by have:=D.n;omega,D.c.trans i4⟩
   .exact⟨I,i2,zB,i4⟩
 have B:=C (ln l) (zBa _);refine⟨(f (ln l)).1,(f (ln l)).2,⟨B.i,B.u,by have:=B.n;omega,B.c⟩,?_⟩;clear B;have ap:=zA hG l;have G:∀b:PH,VW b= .agg [zE wK b.y.c.js,zE uK b.y.c.ags,iA b.y.c.per,iA b.y.c.cap,iA b.y.c.hold,iA b.y.c.lock,bA false,iA b.y.f3,zE zN b.y.ds,zE wZ b.y.sg,zE wU b.y.sv,zE iA b.y.st,zE vO b.y.vw,zE dE b.ss]:=λ_=>rfl
 unfold wH at L E O;rw[G]at E⊢;refine eM call9 λF hF=>?_
 refine yH (qL L E O) ?_;refine zQ (l) [6,1000,4] [4] [0,4,6,18,19] [20,0,4,6,18,19] Z (λi f4 T U=>⟨(20,iA i)::T,(6,.box [zE wK (f i).1.y.c.js,zE uK (f i).1.y.c.ags,iA (f i).1.y.c.per,iA (f i).1.y.c.cap,iA (f i).1.y.c.hold,iA (f i).1.y.c.lock,bA false,iA (f i).1.y.f3,zE zN (f i).1.y.ds,zE wZ (f i).1.y.sg,zE wU (f i).1.y.sv,zE iA (f i).1.y.st,zE vO (f i).1.y.vw,zE dE (f i).1.ss])::(1000,fI (f i).2)::U⟩) ?_;(conv=>whnf);refine⟨by(rw[V];rfl),?_,?_⟩
 .intro i f4 x post A hi;have hy:=zZ hG A hi;have ar:=zV A hi;have S:l.getD i dd=x:=by rw[A,<-hi];simp
  have H:=C i zB;have W:=yS (f i).2 60 zB zB;have D:=Dq H.i (by have:=H.n;omega) (hl.2 x (by rw[A];simp));have M:=i9 (f i).1 H.i H.u (by have:=H.n;omega) x (hl.2 x (by rw[A];simp)).g _ D;rw[fs,S];dsimp only;rw[G,G]at M;unfold hG F9 at M;unfold hG at hy;clear C fs D H A S O E L hl;generalize F6 (f i).1 x=r at *;generalize (f i).1=b at *;generalize (f i).2=d at *;have hb:=yQ d 60 zB;by_cases Y:(i:Int)<12+nx d 60
  .rw[zA4 Y];refine yH (xU W M) ?_;rfl
  .rw[Os Y];refine zU W ?_;rfl
 .clear C fs;refine WW ?_;exact zI [1000] Z Z Z Z
structure ImR (c:Cf) (g:Int) (d:Dk) (x:Ms) (p:List Int) (d':Dk):Prop where
 km:zM 20 [.ptr 1000 0 0,wH c,iA g,bA false] [(1000,fI d)] (zX x) [(1000,fI d')]
 ke:zM 21 [zX x] [] (.tup [zE yA p,iA 0]) []
def imR (c:Cf) (g:Int) (a b:List It×Dk):Prop:=∃(m:Ms) (p:List Int),ImR c g a.2 m p b.2/\b.1=a.1++[⟨0,m.kind,p⟩]
def w9 (c:Cf) (hc:IT c) (g:Int) (C:0<=g/\g<256) (d:Dk):∃f:Nat->List It×Dk,f 0=([],d)/\∀k,((f k).1.length=k/\∀x∈(f k).1,Js x)/\imR c g (f k) (f (k+1)):=
 IW (λk (a:List It×Dk)=>a.1.length=k/\∀x∈a.1,Js x) (λ_ a b=>imR c g a b)
  (λk a z=>by
   obtain⟨m,B,A,_,E⟩:=YI c hc g C false a.2;obtain⟨p,y,n,G⟩:=oq m A;have hk:=A.k;refine⟨(a.1++[⟨0,m.kind,p⟩],B),⟨m,p,⟨E,G⟩,rfl⟩,by simp[z.1],λx u=>?_⟩
   rcases zBq.1 u with u|u
   .exact z.2 x u
   .rw[zBz.1 u]
    exact⟨y,by dsimp only;omega,by dsimp only;omega,by dsimp only;omega⟩)
  ([],d) ⟨rfl,λx u=>by cases u⟩
def ipS (c:Cf) (g:Int) (a b:List In×Dk):Prop:=∃(f:Nat->List It×Dk) (N:Nat),N<=3/\nx (ad a.2) 4=(N:Int)/\f 0=([],ad (ad a.2))/\(∀k,(f k).1.length=k/\imR c g (f k) (f (k+1)))/\
 b=(a.1++[⟨decide (0<nx a.2 5),(f N).1++if nx (f N).2 9=8 then [⟨4,0,[]⟩]else []⟩],ad (f N).2)
def F5 (c:Cf) (hc:IT c) (g:Int) (C:0<=g/\g<256) (n:Nat) (a:List In×Dk) (A:a.1.length=n/\∀i∈a.1,DL i):∃b,ipS c g a b/\b.1.length=n+1/\∀i∈b.1,DL i:=by
 have w:=yQ (ad a.2) 4 zB;obtain⟨f,B,z⟩:=w9 c hc g C (ad (ad a.2));refine⟨_,⟨f,(nx (ad a.2) 4).toNat,zB,zB,B,λk=>⟨(z k).1.1,(z k).2⟩,rfl⟩,by simp[A.1],λi hi=>?_⟩
 rcases zBq.1 hi with hi|hi
 .exact A.2 i hi
 .rw[zBz.1 hi];have hl:=(z (nx (ad a.2) 4).toNat).1;refine⟨?_,λx u=>?_⟩
  .grind
  .rcases zBq.1 u with u|u
   .exact hl.2 x u
   .split at u
    .rw[zBz.1 u];exact⟨jU,by simp,by dsimp only;omega,by dsimp only;omega⟩
    .cases u
def ipG (c:Cf) (g:Nat) (a b:List In×Dk):Prop:=∃h:Nat->List In×Dk,h 0=a/\(∀s,(h s).1.length=a.1.length+s/\ipS c (g:Int) (h s) (h (s+1)))/\b=h (c.ags.getD g dd).ses.toNat
def D5 (c:Cf) (hv:Hb c) (d:Dk):∃f:Nat->List In×Dk,f 0=([],d)/\∀g,(g<=ln c.ags->((f g).1.length:Int)=jE c.ags g)/\(∀i∈(f g).1,DL i)/\(g<ln c.ags->ipG c g (f g) (f (g+1))):=by
 have C:=hv.ag;have L:=C.1
 obtain⟨f,E,A⟩:=IW (λg (a:List In×Dk)=>(g<=ln c.ags->(a.1.length:Int)=jE c.ags g)/\∀i∈a.1,DL i) (λg a b=>g<ln c.ags->ipG c g a b)
  (λg a z=>by
   by_cases B:g<ln c.ags
   .obtain⟨h,G,hh⟩:=IW (λs (b:List In×Dk)=>b.1.length=a.1.length+s/\∀i∈b.1,DL i) (λs b u=>ipS c (g:Int) b u)
     (λs b hb=>by
      obtain⟨u,h1,h2,I⟩:=F5 c hv.w (g:Int) zB (a.1.length+s) b hb
      exact⟨u,h1,zB,I⟩) a ⟨rfl,z.2⟩
    have M:=C.at (i:=g) B;have hN:=(hh (c.ags.getD g dd).ses.toNat).1;have h1:=z.1 zB;refine⟨_,λ_=>⟨h,G,λs=>⟨(hh s).1.1,(hh s).2⟩,rfl⟩,λ_=>?_,hN.2⟩
    show _=jE c.ags g+(c.ags.getD g dd).ses
    omega
   .exact⟨a,λh=>absurd h B,λh=>by omega,z.2⟩)
  ([],d) ⟨λ_=>rfl,λi hi=>by cases hi⟩
 exact⟨f,E,λg=>⟨(A g).1.1,(A g).1.2,(A g).2⟩⟩
theorem zj (y:Cy) (hv:Hb y.c) (d:Dk):∃(B:List In) (d':Dk),((ln B:Int)=jE y.c.ags (ln y.c.ags)/\∀i∈B,DL i)/\zM 10 [.ptr 1000 0 0,qO y] [(1000,fI d)] (zE uT B) [(1000,fI d')]:=by
 obtain⟨f,f0,I⟩:=D5 y.c hv d;refine⟨(f (ln y.c.ags)).1,(f (ln y.c.ags)).2,⟨(I _).1 (zBa _),(I _).2.1⟩,?_⟩;have hw:=hv.ag;have h4:=hw.1;have G:=qS hw;have ac:=zA uK y.c.ags;unfold qO aH;refine eM call10 λF hF=>?_
 refine WW ?_;refine zS 5 1041 2 Z Z Z ?_;rw[ac];refine zO (ln y.c.ags) [1041,1000,3] [3] [0,3,15,16] [5,17,0,3,15,16] Z (λi T U=>⟨(5,.ref 1041 0 ((f i).1.map uT).length)::(17,iA i)::T,(1041,.arr 2 ((f i).1.map uT) true)::(1000,fI (f i).2)::U⟩) ?_;(conv=>whnf);refine⟨by(rw[f0];rfl),?_,?_⟩
 .intro g hg;have hy:=zJ uK y.c.ags g hg;obtain⟨h,h0,hh,hN⟩:=(I g).2.2 hg;have ar:=(I g).1 zB;have hb:=G g zB;have S:=hw.at (i:=g) hg;rw[hN];clear hN I f0 G;rw[<-h0]at ar⊢;have hl:=λs=>(hh s).1
  rw[<-h0]at hl;obtain⟨N,hN⟩:∃N:Nat,(y.c.ags.getD g dd).ses=(N:Int):=⟨(y.c.ags.getD g dd).ses.toNat,zB⟩;rw[hN,zBu];rw[hN]at S;generalize ax:y.c.ags.getD g dd=a at *;unfold uK at hy;rw[hN]at hy;refine WW ?_;refine zO (N) [1041,1000,3,7] [3,7] [0,3,6,15,16,17,23] [5,24,0,3,6,15,16,17,23] Z (λi T U=>⟨(5,.ref 1041 0 ((h i).1.map uT).length)::(24,iA i)::T,(1041,.arr 2 ((h i).1.map uT) true)::(1000,fI (h i).2)::U⟩) (Lq ?_ ?_)
  .intro s hs;obtain⟨q,M,hM,hn,q0,V,C⟩:=(hh s).2;have a1:=hl s;have a2:=zA uT (h s).1;rw[C];dsimp only;clear C hh hl;have n1:=yS (h s).2 5 zB zB;have n2:=yS (ad (h s).2) 4 zB zB;have n3:=yS (q M).2 9 zB zB;rw[hn]at n2;rw[zBc,show∀z,[z].map uT=[uT z]from λ_=>rfl];have ap:=yQ (h s).2 5 zB;have u:=λk=>(V k).1
   generalize hX:(h s).1.map uT=X at *;generalize (h s).2=e at *;generalize R:decide (0<nx e 5)=op at *;refine yH (xU n1 n2) ?_;rw[show vW BinOp.gtr (nx e 5) 0=op from R];clear R ap n1 n2;refine gJ 8 1 1043 3 Z Z Z Z Z ?_;refine zO (M) [8,1043,1000,3,1041,7] [3,1041,7] [0,3,5,6,8,15,16,17,23,24] [9,0,3,5,6,8,15,16,17,23,24] Z (λi T U=>⟨(9,iA ((M:Int)-i))::T,(8,.box [bA op,.ref 1043 0 ((q i).1.map vQ).length])::(1043,.arr 3 ((q i).1.map vQ) true)::(1000,fI (q i).2)::U⟩) ?_;(conv=>whnf);refine⟨by(rw[q0,show(M:Int)-(0:Nat)=M by omega];rfl),?_,?_⟩
   .intro k hk;obtain⟨m,p,⟨km,ke⟩,E⟩:=(V k).2;have au:=u k;have O:=zA vQ (q k).1;rw[E,zBc,show∀z,[z].map vQ=[vQ z]from λ_=>rfl,show(M:Int)-((k+1:Nat):Int)=(M:Int)-(k:Int)-1 by omega];clear E V u n3;generalize (q k).1.map vQ=Y,(q (k+1)).2=e2,(q k).2=e1 at *;unfold wH at km;unfold zX at km ke;unfold vQ;refine yH (xU km ke) ?_;rfl
   .have au:=u M;clear V u;generalize (q M).2=A at *;generalize (q M).1=L at *;have O:=zA vQ L;have az:=yQ A 9 zB
    (repeat' (first|refine AF ?_|apply yW|apply xG|intro hc|(apply zG;first|refine SM ?_)|fail))
    refine yE Z ?_
    (have ga:=n3;(repeat' (first|refine AF ?_|apply yW|apply xG|intro hc|(apply zG;first|refine SM ?_)|fail))<;>clear ga)
    refine gY [3,7,8,1000,1041,1043] [0,3,5,6,8,15,16,17,23,24] ⟨[(0,.ptr 1000 0 0),(3,.ptr 3 0 0),(5,.ref 1041 0 (ln X)),(6,iA g),(8,.ptr 8 0 0),(15,.sl false (y.c.ags.map uK)),(16,iA (ln y.c.ags)),(17,iA g),(23,iA N),(24,iA s)],[(3,.box [zE wK y.c.js,zE uK y.c.ags,iA y.c.per,iA y.c.cap,iA y.c.hold,iA y.c.lock,bA y.rf,iA y.f3,zE zN y.ds,zE wZ y.sg,zE wU y.sv,zE iA y.st,zE vO y.vw]),(7,.box [zE yA a.sec,iA a.rights,iA a.cls,zE iA a.lim,iA a.req,iA N,iA a.rate,iA a.burst]),(8,.box [bA op,.ref 1043 0 ((L++if nx A 9=8 then([⟨4,0,[]⟩]:List It)else []).map vQ).length]),(1000,fI (ad A)),(1041,.arr 2 X true),(1043,.arr 3 ((L++if nx A 9=8 then([⟨4,0,[]⟩]:List It)else []).map vQ) true)]⟩ rfl ?_ ?_
    .by_cases W:nx A 9=8
     .rw[W,zA4 Z,zBc,show([⟨4,0,[]⟩]:List It).map vQ=[.agg [iA 4,iA 0,.sl false []]]from Z];generalize L.map vQ=Y at*
      (repeat' (first|refine jX ?_|apply yW|apply xG|intro hc|(apply zG;first|(apply yI;refine ZW 60 Z Z Z ?_;refine vE tok Z Z ?_))|refine SB ?_|fail))
      exact⟨rfl,rfl⟩
     .rw[show vW BinOp.eql (nx A 9) 8=false by simp[vW,W],Os W,zB1];generalize L.map vQ=Y at *;refine WW ?_;exact⟨rfl,rfl⟩
    .have av:((L++if nx A 9=8 then([⟨4,0,[]⟩]:List It)else []).map vQ).length<=4:=by
      rw[zA5,zA9]
      split<;>simp<;>omega
     generalize (L++if nx A 9=8 then([⟨4,0,[]⟩]:List It)else [])=L2 at *;unfold uT zE;dsimp only;generalize L2.map vQ=Y at *;refine wL [3,7,8,1000,1041] [0,3,5,6,8,15,16,17,23,24] Z ?_
     (conv=>whnf)
     simp only[zBr,zA8];refine WW ?_;rfl
  ·(refine WW ?_)
   rfl
 ·(refine WW ?_)
  refine zI [1000] Z Z ?_ Z
  show AV.sl false (List.take ((f (ln y.c.ags)).1.map uT).length ((f (ln y.c.ags)).1.map uT))=_
  rw[zA8];rfl
def qz {m:Ms} (h:ZB m):Gr m:=by
 obtain⟨u,S⟩:=h;have hd:=S.z;exact⟨by rw[u];simp,by have:=S.l;omega,zB⟩
def ae (T:List (List Ms)) (f:Ms) (hl:ln T<=1000) (hT:∀l∈T,ln l<=1002/\∀m∈l,ZB m) (A:ZB f):zM 15 [Ox T f,Ox T f] [] (bA true) []:=by
 have E:=IU [f] zW (λm u=>by rw[zBz.1 u];exact qz A);have u:=zA jC T;unfold Ox;rw[show zE zX [f]= .sl false [zX f]from Z]at *; generalize zX f=L at *;refine eM call15 λF hF=>?_
 refine zU E ?_;refine zQ (T) [3] [3] [3,23,24] [25,3,23,24] Z (λi f4 T U=>⟨(25,iA i)::T,U⟩) (Lq ?_ ?_)
 .intro i f4 x post z hi;have C:=zZ jC z hi;have B:=zV z hi;obtain⟨M,I⟩:=hT x (yU z);have G:=IU x zB (λm u=>qz (I m u));unfold jC at C;clear z;refine zU G ?_;rfl
 .exact ly
structure kz (n:Nat) (y:Cy):Prop where
 i:KR y
 u:LO y.ds
 n:y.f3<=n
theorem kz.tk {n:Nat} {y:Cy} (h:kz n y) {A:List In} {R:Nat->DR} (B:Pj y A R):kz (n+1) (kG y R):=by
 refine⟨DG h.i B,λa z=>?_,by have:=h.n;show y.f3+1<=_;omega⟩;rw[show(kG y R).ds=eQ (y.f3+1) y.ds R (ln y.ds) from Z]at z⊢;rw[fZ]at z;rw[aG z,(B a z).1.num];exact h.u a z
theorem kz.st {n:Nat} {y:Cy} (h:kz n y) (j p:Int):kz n (YN y j p):=by
 refine⟨gz h.i j p,?_,?_⟩
 .unfold YN
  split<;>exact h.u
 .unfold YN
  split<;>exact h.n
def Tg (l:List Int) (A:ln l<=1000000):zM 75 [zE iA l,zE iA l] [] (bA true) []:=by
 have hl:=zA iA l;refine eM call75 λF hF=>?_
 refine WW ?_;refine zQ (l) [] [] [1,12,13] [14,1,12,13] Z (λi f4 T U=>⟨(14,iA i)::T,U⟩) (Lq ?_ ?_)
 .intro i f4 x post u hi;have B:=zZ iA u hi;have z:=zV u hi;clear u;refine WW ?_
  all_goals (first|rfl|(exfalso;first|(simp[xS]at hc;done)|(revert hc;simp[xS];done)))
 .exact ly
def Hq (l:List Vw) (R:ln l<=1000) (hb:∀v∈l,ln v.co<=1000/\v.cn.length<=1000):zM 29 [zE vO l,zE vO l] [] (bA true) []:=by
 have hl:=zA vO l;refine eM call29 λF hF=>?_
 refine WW ?_;refine zQ (l) [] [] [1,13,14] [15,1,13,14] Z (λi f4 T U=>⟨(15,iA i)::T,U⟩) (Lq ?_ ?_)
 .intro i f4 x post u hi;have B:=zZ vO u hi;have A:=zV u hi;obtain⟨I,L⟩:=hb x (yU u);have C:=Tg x.co zB;have E:=Tg x.cn zB;clear u;obtain⟨z,G,O,M⟩:=x;dsimp only at *;unfold vO at B
  cases z<;>cases G
  all_goals
   refine yH (xU C E) ?_;rfl
 .exact ly
def vx (y:Cy) (h:T6 y) (O:y.rf=false):zM 14 [qO y,qO y] [] (bA true) []:=by
 obtain⟨S,C,V,E,W,G,Y,I,L⟩:=h;have R:=Hq y.vw I L;have hd:=zA zN y.ds;have hg:=zA wZ y.sg;have hs:=zA wU y.sv;have ht:=zA iA y.st;unfold qO aH;rw[O];refine eM call14 λF hF=>?_
 refine zU R ?_;refine zQ (y.ds) [2,3] [2,3] [2,3,70,71] [72,2,3,70,71] Z (λi f4 T U=>⟨(72,iA i)::T,U⟩) (Lq ?_ ?_)
 .intro i f4 x post u hi;have B:=zZ zN u hi;have z:=zV u hi;have A:=bw x (C x (yU u));clear u;unfold zN xD at *;refine zU A ?_;rfl
 ·(refine WW ?_)
  refine zQ (y.sg) [2,3] [2,3] [2,3,87,88] [89,2,3,87,88] Z (λi f4 T U=>⟨(89,iA i)::T,U⟩) (Lq ?_ ?_)
  .intro i f4 x post u hi;have B:=zZ wZ u hi;have z:=zV u hi;obtain⟨M,g2⟩:=E x (yU u);have A:=Ft x zB zB;clear u;unfold wZ at *;refine zU A ?_;rfl
  ·(refine WW ?_)
   refine zQ (y.sv) [2,3] [2,3] [2,3,104,105] [106,2,3,104,105] Z (λi f4 T U=>⟨(106,iA i)::T,U⟩) (Lq ?_ ?_)
   .intro i f4 x post u hi;have B:=zZ wU u hi;have z:=zV u hi;have M:=G x (yU u);have A:=V0 x x ⟨zB⟩ ⟨zB⟩;rw[show BD x x=true from zA7 ⟨rfl,rfl,rfl⟩]at A;clear u;unfold wU at *;refine zU A ?_;rfl
   ·(refine WW ?_)
    refine zQ (y.st) [3] [3] [3,121,122] [123,3,121,122] Z (λi f4 T U=>⟨(123,iA i)::T,U⟩) (Lq ?_ ?_)
    .intro i f4 x post u hi;have B:=zZ iA u hi;have z:=zV u hi;clear u;refine WW ?_
     all_goals (first|rfl|(exfalso;first|(simp[xS]at hc;done)|(revert hc;simp[xS];done)))
    .exact ly
