/- Part 32. -/
import Derived.Test.YtaglbcjljlkjcaaGreatW31
namespace Go.Proofs.YtaglbcjljlkjcaaGreat.Av
set_option linter.all false
set_option maxRecDepth 4000
set_option maxHeartbeats 8000000
open List renaming length->ln
open Inhabited renaming default->dd
structure PlI (c:Cf) (n:Nat) (b:PC):Prop where
 i:Tg b
 u:KI b.y.ds
 n:b.y.f3<=n
 c:b.y.c=c
def Ki (g:Int) (hg:0<=g/\g<=63) (z:Dk):∃(b:PC) (d':Dk),PlI (FJ z g) 160 b/\zN 9 [.ptr 1000 0 0,iA g] [(1000,eE z)] (VT b) [(1000,eE d')]:=by
 have I:=xp z g;have hv:=M6 z g zB;generalize FJ z g=c,cfD z g=e1 at *;obtain⟨l,O,hl,M⟩:=Ci c hv.w hv.ag false e1;have C:=Bw c hv;obtain⟨f,S,fs⟩:∃f:Nat->PC×Dk,f 0=(m6 c,O)/\∀i,f (i+1)=(if(i:Int)<12+nx (f i).2 60 then(i6 (f i).1 (l.getD i dd)).b else(f i).1,ad (f i).2):=⟨λn=>Nat.rec (m6 c,O) (λi p=>(if(i:Int)<12+nx p.2 60 then(i6 p.1 (l.getD i dd)).b else p.1,ad p.2)) n,rfl,λ_=>rfl⟩;have ac:=hl.1
 have B:∀i,i<=ln l->PlI c i (f i).1:=λi=>by
  induction i with
  |zero=>intro _;rw[S];exact⟨O8 c hv,zx c,zC1 _,rfl⟩
  |succ i ih=>
   intro hi;obtain⟨G,Y,i3,i4⟩:=ih zB;rw[fs];dsimp only;split
   .have D:=Iq G zB (hl.2 _ (yK l i zB));exact⟨D.i,V5 G Y D,by have:=D.n;omega,D.c.trans i4⟩
   .exact⟨G,Y,zB,i4⟩
 have A:=B (ln l) (zAw _);refine⟨(f (ln l)).1,(f (ln l)).2,⟨A.i,A.u,by have:=A.n;omega,A.c⟩,?_⟩;clear A;have ap:=zA jZ l;have E:∀b:PC,VT b= .agg [zE wJ b.y.c.js,zE uI b.y.c.ags,iA b.y.c.per,iA b.y.c.cap,iA b.y.c.hold,iA b.y.c.lock,bA false,iA b.y.f3,zE zM b.y.ds,zE vE b.y.sg,zE wW b.y.sv,zE iA b.y.st,zE vR b.y.vw,zE dB b.ss]:=λ_=>rfl
 unfold wE at I C M;rw[E]at C⊢;refine eM Tryz.call9 λF hF=>?_
 refine yG (qM I C M) ?_;refine zU (l) [6,1000,4] [4] [0,4,6,18,19] [20,0,4,6,18,19] Z (λi f4 T U=>⟨(20,iA i)::T,(6,.box [zE wJ (f i).1.y.c.js,zE uI (f i).1.y.c.ags,iA (f i).1.y.c.per,iA (f i).1.y.c.cap,iA (f i).1.y.c.hold,iA (f i).1.y.c.lock,bA false,iA (f i).1.y.f3,zE zM (f i).1.y.ds,zE vE (f i).1.y.sg,zE wW (f i).1.y.sv,zE iA (f i).1.y.st,zE vR (f i).1.y.vw,zE dB (f i).1.ss])::(1000,eE (f i).2)::U⟩) ?_;(conv=>whnf);refine⟨by(rw[S];rfl),?_,?_⟩
 .intro i f4 x post hx hi;have hy:=yJ jZ hx hi;have ar:=zX hx hi;have R:l.getD i dd=x:=by rw[hx,<-hi];simp
  have H:=B i zB;have V:=yT (f i).2 60 zB zB;have D:=Iq H.i (by have:=H.n;omega) (hl.2 x DW);have L:=I8 (f i).1 H.i H.u (by have:=H.n;omega) x (hl.2 x DW).g _ D;rw[fs,R];dsimp only;rw[E,E]at L;unfold jZ Y9 at L;unfold jZ at hy;clear B fs D H hx R M C I hl;generalize i6 (f i).1 x=r at *;generalize (f i).1=b at *;generalize (f i).2=d at *;have hb:=yQ d 60 zB;by_cases W:(i:Int)<12+nx d 60
  .rw[f5 W];refine yG (xV V L) ?_;rfl
  .rw[Os W];refine zS V ?_;rfl
 .clear B fs;refine WW ?_;exact zH [1000] Z Z Z Z
structure ImR (c:Cf) (g:Int) (d:Dk) (x:Ms) (p:List Int) (d':Dk):Prop where
 km:zN 20 [.ptr 1000 0 0,wE c,iA g,bA false] [(1000,eE d)] (zW x) [(1000,eE d')]
 ke:zN 21 [zW x] [] (.tup [zE yA p,iA 0]) []
def imR (c:Cf) (g:Int) (a b:List It×Dk):Prop:=∃(m:Ms) (p:List Int),ImR c g a.2 m p b.2/\b.1=a.1++[⟨0,m.kind,p⟩]
def S8 (c:Cf) (hc:IG c) (g:Int) (B:0<=g/\g<256) (d:Dk):∃f:Nat->List It×Dk,f 0=([],d)/\∀k,((f k).1.length=k/\∀x∈(f k).1,Ls x)/\imR c g (f k) (f (k+1)):=
 IK (λk (a:List It×Dk)=>a.1.length=k/\∀x∈a.1,Ls x) (λ_ a b=>imR c g a b)
  (λk a u=>by
   obtain⟨m,A,z,_,C⟩:=ZW c hc g B false a.2;obtain⟨p,y,n,E⟩:=jq m z;have hk:=z.k;refine⟨(a.1++[⟨0,m.kind,p⟩],A),⟨m,p,⟨C,E⟩,rfl⟩,by simp[u.1],λx hx=>?_⟩
   rcases zBc.1 hx with hx|hx
   .exact u.2 x hx
   .rw[zBl.1 hx]
    exact⟨y,by dsimp only;omega,by dsimp only;omega,by dsimp only;omega⟩)
  ([],d) ⟨rfl,λx hx=>by cases hx⟩
def ipS (c:Cf) (g:Int) (a b:List In×Dk):Prop:=∃(f:Nat->List It×Dk) (N:Nat),N<=3/\nx (ad a.2) 4=(N:Int)/\f 0=([],ad (ad a.2))/\(∀k,(f k).1.length=k/\imR c g (f k) (f (k+1)))/\
 b=(a.1++[⟨decide (0<nx a.2 5),(f N).1++if nx (f N).2 9=8 then [⟨4,0,[]⟩]else []⟩],ad (f N).2)
def o5 (c:Cf) (hc:IG c) (g:Int) (B:0<=g/\g<256) (n:Nat) (a:List In×Dk) (z:a.1.length=n/\∀i∈a.1,Ga i):∃b,ipS c g a b/\b.1.length=n+1/\∀i∈b.1,Ga i:=by
 have w:=yQ (ad a.2) 4 zB;obtain⟨f,A,u⟩:=S8 c hc g B (ad (ad a.2));refine⟨_,⟨f,(nx (ad a.2) 4).toNat,zB,zB,A,λk=>⟨(u k).1.1,(u k).2⟩,rfl⟩,by simp[z.1],λi hi=>?_⟩
 rcases zBc.1 hi with hi|hi
 .exact z.2 i hi
 .rw[zBl.1 hi];have hl:=(u (nx (ad a.2) 4).toNat).1;refine⟨?_,λx hx=>?_⟩
  .grind
  .rcases zBc.1 hx with hx|hx
   .exact hl.2 x hx
   .split at hx
    .rw[zBl.1 hx];exact⟨jT,by simp,by dsimp only;omega,by dsimp only;omega⟩
    .cases hx
def ipG (c:Cf) (g:Nat) (a b:List In×Dk):Prop:=∃h:Nat->List In×Dk,h 0=a/\(∀s,(h s).1.length=a.1.length+s/\ipS c (g:Int) (h s) (h (s+1)))/\b=h (c.ags.getD g dd).ses.toNat
def m5 (c:Cf) (hv:Qb c) (d:Dk):∃f:Nat->List In×Dk,f 0=([],d)/\∀g,(g<=ln c.ags->((f g).1.length:Int)=qS c.ags g)/\(∀i∈(f g).1,Ga i)/\(g<ln c.ags->ipG c g (f g) (f (g+1))):=by
 have C:=hv.ag;have L:=C.1
 obtain⟨f,E,A⟩:=IK (λg (a:List In×Dk)=>(g<=ln c.ags->(a.1.length:Int)=qS c.ags g)/\∀i∈a.1,Ga i) (λg a b=>g<ln c.ags->ipG c g a b)
  (λg a z=>by
   by_cases B:g<ln c.ags
   .obtain⟨h,G,hh⟩:=IK (λs (b:List In×Dk)=>b.1.length=a.1.length+s/\∀i∈b.1,Ga i) (λs b u=>ipS c (g:Int) b u)
     (λs b hb=>by
      obtain⟨u,h1,h2,I⟩:=o5 c hv.w (g:Int) zB (a.1.length+s) b hb
      exact⟨u,h1,zB,I⟩) a ⟨rfl,z.2⟩
    have M:=C.at (i:=g) B;have hN:=(hh (c.ags.getD g dd).ses.toNat).1;have h1:=z.1 zB;refine⟨_,λ_=>⟨h,G,λs=>⟨(hh s).1.1,(hh s).2⟩,rfl⟩,λ_=>?_,hN.2⟩
    show _=qS c.ags g+(c.ags.getD g dd).ses
    omega
   .exact⟨a,λh=>absurd h B,λh=>by omega,z.2⟩)
  ([],d) ⟨λ_=>rfl,λi hi=>by cases hi⟩
 exact⟨f,E,λg=>⟨(A g).1.1,(A g).1.2,(A g).2⟩⟩
theorem Ji (y:Cy) (hv:Qb y.c) (d:Dk):∃(B:List In) (d':Dk),((ln B:Int)=qS y.c.ags (ln y.c.ags)/\∀i∈B,Ga i)/\zN 10 [.ptr 1000 0 0,qY y] [(1000,eE d)] (zE uS B) [(1000,eE d')]:=by
 obtain⟨f,f0,I⟩:=m5 y.c hv d;refine⟨(f (ln y.c.ags)).1,(f (ln y.c.ags)).2,⟨(I _).1 (zAw _),(I _).2.1⟩,?_⟩;have hw:=hv.ag;have h4:=hw.1;have G:=qD hw;have ac:=zA uI y.c.ags;unfold qY aY;refine eM Tryz.call10 λF hF=>?_
 refine WW ?_;refine zQ 5 1041 2 Z Z Z ?_;rw[ac];refine zO (ln y.c.ags) [1041,1000,3] [3] [0,3,15,16] [5,17,0,3,15,16] Z (λi T U=>⟨(5,.ref 1041 0 ((f i).1.map uS).length)::(17,iA i)::T,(1041,.arr 2 ((f i).1.map uS) true)::(1000,eE (f i).2)::U⟩) ?_;(conv=>whnf);refine⟨by(rw[f0];rfl),?_,?_⟩
 .intro g hg;have hy:=zJ uI y.c.ags g hg;obtain⟨h,h0,hh,hN⟩:=(I g).2.2 hg;have ar:=(I g).1 zB;have hb:=G g zB;have S:=hw.at (i:=g) hg;rw[hN];clear hN I f0 G;rw[<-h0]at ar⊢;have hl:=λs=>(hh s).1
  rw[<-h0]at hl;obtain⟨N,hN⟩:∃N:Nat,(y.c.ags.getD g dd).ses=(N:Int):=⟨(y.c.ags.getD g dd).ses.toNat,zB⟩;rw[hN,zBf];rw[hN]at S;generalize ax:y.c.ags.getD g dd=a at *;unfold uI at hy;rw[hN]at hy;refine WW ?_;refine zO (N) [1041,1000,3,7] [3,7] [0,3,6,15,16,17,23] [5,24,0,3,6,15,16,17,23] Z (λi T U=>⟨(5,.ref 1041 0 ((h i).1.map uS).length)::(24,iA i)::T,(1041,.arr 2 ((h i).1.map uS) true)::(1000,eE (h i).2)::U⟩) (Lq ?_ ?_)
  .intro s hs;obtain⟨q,M,hM,hn,q0,V,C⟩:=(hh s).2;have a1:=hl s;have a2:=zA uS (h s).1;rw[C];dsimp only;clear C hh hl;have n1:=yT (h s).2 5 zB zB;have n2:=yT (ad (h s).2) 4 zB zB;have n3:=yT (q M).2 9 zB zB;rw[hn]at n2;rw[zAy,show∀z,[z].map uS=[uS z]from λ_=>rfl];have ap:=yQ (h s).2 5 zB;have u:=λk=>(V k).1
   generalize hX:(h s).1.map uS=X at *;generalize (h s).2=e at *;generalize R:decide (0<nx e 5)=op at *;refine yG (xV n1 n2) ?_;rw[show uN BinOp.gtr (nx e 5) 0=op from R];clear R ap n1 n2;refine gI 8 1 1043 3 Z Z Z Z Z ?_;refine zO (M) [8,1043,1000,3,1041,7] [3,1041,7] [0,3,5,6,8,15,16,17,23,24] [9,0,3,5,6,8,15,16,17,23,24] Z (λi T U=>⟨(9,iA ((M:Int)-i))::T,(8,.box [bA op,.ref 1043 0 ((q i).1.map vH).length])::(1043,.arr 3 ((q i).1.map vH) true)::(1000,eE (q i).2)::U⟩) ?_;(conv=>whnf);refine⟨by(rw[q0,show(M:Int)-(0:Nat)=M by omega];rfl),?_,?_⟩
   .intro k hk;obtain⟨m,p,⟨km,ke⟩,E⟩:=(V k).2;have au:=u k;have O:=zA vH (q k).1;rw[E,zAy,show∀z,[z].map vH=[vH z]from λ_=>rfl,show(M:Int)-((k+1:Nat):Int)=(M:Int)-(k:Int)-1 by omega];clear E V u n3;generalize (q k).1.map vH=Y,(q (k+1)).2=e2,(q k).2=e1 at *;unfold wE at km;unfold zW at km ke;unfold vH;refine yG (xV km ke) ?_;rfl
   .have au:=u M;clear V u;generalize (q M).2=A at *;generalize (q M).1=L at *;have O:=zA vH L;have az:=yQ A 9 zB
    (repeat' (first|refine Yf ?_|apply yW|apply xI|intro hc|(apply zG;first|refine SM ?_)|fail))
    refine yD Z ?_
    (have ga:=n3;(repeat' (first|refine Yf ?_|apply yW|apply xI|intro hc|(apply zG;first|refine SM ?_)|fail))<;>clear ga)
    refine eQ [3,7,8,1000,1041,1043] [0,3,5,6,8,15,16,17,23,24] ⟨[(0,.ptr 1000 0 0),(3,.ptr 3 0 0),(5,.ref 1041 0 (ln X)),(6,iA g),(8,.ptr 8 0 0),(15,.sl false (y.c.ags.map uI)),(16,iA (ln y.c.ags)),(17,iA g),(23,iA N),(24,iA s)],[(3,.box [zE wJ y.c.js,zE uI y.c.ags,iA y.c.per,iA y.c.cap,iA y.c.hold,iA y.c.lock,bA y.rf,iA y.f3,zE zM y.ds,zE vE y.sg,zE wW y.sv,zE iA y.st,zE vR y.vw]),(7,.box [zE yA a.sec,iA a.rights,iA a.cls,zE iA a.lim,iA a.req,iA N,iA a.rate,iA a.burst]),(8,.box [bA op,.ref 1043 0 ((L++if nx A 9=8 then([⟨4,0,[]⟩]:List It)else []).map vH).length]),(1000,eE (ad A)),(1041,.arr 2 X true),(1043,.arr 3 ((L++if nx A 9=8 then([⟨4,0,[]⟩]:List It)else []).map vH) true)]⟩ rfl ?_ ?_
    .by_cases W:nx A 9=8
     .rw[W,f5 Z,zAy,show([⟨4,0,[]⟩]:List It).map vH=[.agg [iA 4,iA 0,.sl false []]]from Z];generalize L.map vH=Y at*
      (repeat' (first|refine jX ?_|apply yW|apply xI|intro hc|(apply zG;first|(apply yH;refine ZU 60 Z Z Z ?_;refine vC tok Z Z ?_))|refine SB ?_|fail))
      exact⟨rfl,rfl⟩
     .rw[show uN BinOp.eql (nx A 9) 8=false by simp[uN,W],Os W,zBn];generalize L.map vH=Y at *;refine WW ?_;exact⟨rfl,rfl⟩
    .have av:((L++if nx A 9=8 then([⟨4,0,[]⟩]:List It)else []).map vH).length<=4:=by
      rw[zAr,zAv]
      split<;>simp<;>omega
     generalize (L++if nx A 9=8 then([⟨4,0,[]⟩]:List It)else [])=L2 at *;unfold uS zE;dsimp only;generalize L2.map vH=Y at *;refine wI [3,7,8,1000,1041] [0,3,5,6,8,15,16,17,23,24] Z ?_
     (conv=>whnf)
     simp only[zBd,zAt];refine WW ?_;rfl
  ·(refine WW ?_)
   rfl
 ·(refine WW ?_)
  refine zH [1000] Z Z ?_ Z
  show AV.sl false (List.take ((f (ln y.c.ags)).1.map uS).length ((f (ln y.c.ags)).1.map uS))=_
  rw[zAt];rfl
def Mq (c:Cf) (A:LL c.ags) (a k:Nat) (C:a<ln c.ags) (hk:(k:Int)<(c.ags.getD a dd).ses) (S:Int) (W:S=qS c.ags a+k):zN 23 [wE c,iA S] [] (.tup [iA a,iA k]) []:=by
 have R:=A.1;have B:=zA uI c.ags;have hb:=λi hi=>qD A i hi
 have u:=λi (hi:i+1<=a)=>UC A hi (zE3 C)
 unfold wE;refine eM Tryz.call23 λF hF=>?_
 refine WW ?_;rw[B];refine yU (ln c.ags) [] [] [9,10] [1,11,9,10] Z (λi T U O=>∃(n:Nat),(i<=a)/\O=⟨(1,iA (S-qS c.ags i))::(11,iA i)::T,U⟩) (Lp ?_ ?_ ?_)
 .exact⟨0,zA9 _,by rw[show S-qS c.ags 0=S by show S-0=S;omega];rfl⟩
 .rintro i st hi ⟨_,hia,rfl⟩;have E:=zJ uI c.ags i hi;have h2:=A.at (i:=i) hi;have L:=hb i zB;have I:=hb a zB;have V:=A.at (i:=a) C;have z:qS c.ags (i+1)=qS c.ags i+(c.ags.getD i dd).ses:=rfl;by_cases e:i=a
  .subst e;rw[show S-qS c.ags i=(k:Int) by omega];clear hb u z;generalize c.ags.getD i dd=g at *;unfold uI at E;exact ly
  .have M:=u i zB;have G:S-qS c.ags (i+1)=S-qS c.ags i-(c.ags.getD i dd).ses:=by omega
   rw[z]at M;clear hb u z;generalize qS c.ags (i+1)=q,qS c.ags i=s,c.ags.getD i dd=g at *;unfold uI at E;refine WW ?_;exact⟨0,zB,by rw[G];rfl⟩
 .rintro st ⟨_,hia,rfl⟩;omega
