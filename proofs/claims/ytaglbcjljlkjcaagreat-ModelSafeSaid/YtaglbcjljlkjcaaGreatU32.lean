/- Part 32. -/
import Derived.Test.YtaglbcjljlkjcaaGreatU31
namespace Go.Proofs.YtaglbcjljlkjcaaGreat.Av
set_option linter.all false
set_option maxRecDepth 4000
set_option maxHeartbeats 8000000
open List renaming length->ln
open Inhabited renaming default->dd
variable {y:Cy}
structure PlI (c:Cf) (n:Nat) (b:PE):Prop where
 i:Pg b
 u:LP b.y.ds
 n:b.y.f4<=n
 c:b.y.c=c
def Ji (g:Int) (hg:0<=g/\g<=63) (z:Dk):∃(b:PE) (d':Dk),PlI (FN z g) 160 b/\zN 9 [.ptr 1000 0 0,iA g] [(1000,fF z)] (VT b) [(1000,fF d')]:=by
 have L:=np z g;have hv:=N6 z g zB;generalize FN z g=c,cfD z g=e1 at *;obtain⟨l,S,hl,O⟩:=Bi c hv.w hv.ag false e1;have E:=Aw c hv;obtain⟨f,W,fs⟩:∃f:Nat->PE×Dk,f 0=(o6 c,S)/\∀i,f (i+1)=(if(i:Int)<12+nx (f i).2 60 then(m6 (f i).1 (l.getD i dd)).b else(f i).1,ad (f i).2):=⟨λn=>Nat.rec (o6 c,S) (λi p=>(if(i:Int)<12+nx p.2 60 then(m6 p.1 (l.getD i dd)).b else p.1,ad p.2)) n,rfl,λ_=>rfl⟩;have ac:=hl.1
 have C:∀i,i<=ln l->PlI c i (f i).1:=λi=>by
  induction i with
  |zero=>intro _;rw[W];exact⟨N8 c hv,yx c,zC3 _,rfl⟩
  |succ i ih=>
   intro hi;obtain⟨I,i2,i3,i4⟩:=ih zB;rw[fs];dsimp only;split
   .have D:=Cq I zB (hl.2 _ (yK l i zB));exact⟨D.i,U5 I i2 D,by have:=D.n;omega,D.c.trans i4⟩
   .exact⟨I,i2,zB,i4⟩
 have B:=C (ln l) (zAy _);refine⟨(f (ln l)).1,(f (ln l)).2,⟨B.i,B.u,by have:=B.n;omega,B.c⟩,?_⟩;clear B;have ap:=zA hH l;have G:∀b:PE,VT b= .agg [zE wD b.y.c.js,zE uF b.y.c.ags,iA b.y.c.per,iA b.y.c.cap,iA b.y.c.hold,iA b.y.c.lock,bA false,iA b.y.f4,zE zM b.y.ds,zE wU b.y.sg,zE wP b.y.sv,zE iA b.y.st,zE vG b.y.vw,zE dB b.ss]:=λ_=>rfl
 unfold wH at L E O;rw[G]at E⊢;refine eM Tryz.call9 λF hF=>?_
 refine yF (qC L E O) ?_;refine zU (l) [6,1000,4] [4] [0,4,6,18,19] [20,0,4,6,18,19] Z (λi ga T U=>⟨(20,iA i)::T,(6,.box [zE wD (f i).1.y.c.js,zE uF (f i).1.y.c.ags,iA (f i).1.y.c.per,iA (f i).1.y.c.cap,iA (f i).1.y.c.hold,iA (f i).1.y.c.lock,bA false,iA (f i).1.y.f4,zE zM (f i).1.y.ds,zE wU (f i).1.y.sg,zE wP (f i).1.y.sv,zE iA (f i).1.y.st,zE vG (f i).1.y.vw,zE dB (f i).1.ss])::(1000,fF (f i).2)::U⟩) ?_;(conv=>whnf);refine⟨by(rw[W];rfl),?_,?_⟩
 .intro i ga x post A hi;have hy:=yJ hH A hi;have ar:=zW A hi;have V:l.getD i dd=x:=by rw[A,<-hi];simp
  have H:=C i zB;have Y:=yR (f i).2 60 zB zB;have D:=Cq H.i (by have:=H.n;omega) (hl.2 x (by rw[A];simp));have M:=H8 (f i).1 H.i H.u (by have:=H.n;omega) x (hl.2 x (by rw[A];simp)).g _ D;rw[fs,V];dsimp only;rw[G,G]at M;unfold hH Y9 at M;unfold hH at hy;clear C fs D H A V O E L hl;generalize m6 (f i).1 x=r at *;generalize (f i).1=b at *;generalize (f i).2=d at *;have hb:=yQ d 60 zB;by_cases hq:(i:Int)<12+nx d 60
  .rw[zAs hq];refine yF (xQ Y M) ?_;rfl
  .rw[Os hq];refine zS Y ?_;rfl
 .clear C fs;refine WW ?_;exact zI [1000] Z Z Z Z
structure ImR (c:Cf) (g:Int) (d:Dk) (x:Ms) (p:List Int) (d':Dk):Prop where
 km:zN 20 [.ptr 1000 0 0,wH c,iA g,bA false] [(1000,fF d)] (zX x) [(1000,fF d')]
 ke:zN 21 [zX x] [] (.tup [zE yA p,iA 0]) []
def imR (c:Cf) (g:Int) (a b:List It×Dk):Prop:=∃(m:Ms) (p:List Int),ImR c g a.2 m p b.2/\b.1=a.1++[⟨0,m.kind,p⟩]
def T8 (c:Cf) (hc:IN c) (g:Int) (C:0<=g/\g<256) (d:Dk):∃f:Nat->List It×Dk,f 0=([],d)/\∀k,((f k).1.length=k/\∀x∈(f k).1,Ls x)/\imR c g (f k) (f (k+1)):=
 IR (λk (a:List It×Dk)=>a.1.length=k/\∀x∈a.1,Ls x) (λ_ a b=>imR c g a b)
  (λk a z=>by
   obtain⟨m,B,A,_,E⟩:=YA c hc g C false a.2;obtain⟨p,y,n,G⟩:=oq m A;have hk:=A.k;refine⟨(a.1++[⟨0,m.kind,p⟩],B),⟨m,p,⟨E,G⟩,rfl⟩,by simp[z.1],λx u=>?_⟩
   rcases zBe.1 u with u|u
   .exact z.2 x u
   .rw[zBm.1 u]
    exact⟨y,by dsimp only;omega,by dsimp only;omega,by dsimp only;omega⟩)
  ([],d) ⟨rfl,λx u=>by cases u⟩
def ipS (c:Cf) (g:Int) (a b:List In×Dk):Prop:=∃(f:Nat->List It×Dk) (N:Nat),N<=3/\nx (ad a.2) 4=(N:Int)/\f 0=([],ad (ad a.2))/\(∀k,(f k).1.length=k/\imR c g (f k) (f (k+1)))/\
 b=(a.1++[⟨decide (0<nx a.2 5),(f N).1++if nx (f N).2 9=8 then [⟨4,0,[]⟩]else []⟩],ad (f N).2)
theorem o5 (c:Cf) (hc:IN c) (g:Int) (C:0<=g/\g<256) (n:Nat) (a:List In×Dk) (A:a.1.length=n/\∀i∈a.1,Ja i):∃b,ipS c g a b/\b.1.length=n+1/\∀i∈b.1,Ja i:=by
 have w:=yQ (ad a.2) 4 zB;obtain⟨f,B,z⟩:=T8 c hc g C (ad (ad a.2));refine⟨_,⟨f,(nx (ad a.2) 4).toNat,zB,zB,B,λk=>⟨(z k).1.1,(z k).2⟩,rfl⟩,by simp[A.1],λi hi=>?_⟩
 rcases zBe.1 hi with hi|hi
 .exact A.2 i hi
 .rw[zBm.1 hi];have hl:=(z (nx (ad a.2) 4).toNat).1;refine⟨?_,λx u=>?_⟩
  .grind
  .rcases zBe.1 u with u|u
   .exact hl.2 x u
   .split at u
    .rw[zBm.1 u];exact⟨jV,by simp,by dsimp only;omega,by dsimp only;omega⟩
    .cases u
def ipG (c:Cf) (g:Nat) (a b:List In×Dk):Prop:=∃h:Nat->List In×Dk,h 0=a/\(∀s,(h s).1.length=a.1.length+s/\ipS c (g:Int) (h s) (h (s+1)))/\b=h (c.ags.getD g dd).ses.toNat
def m5 (c:Cf) (hv:Qb c) (d:Dk):∃f:Nat->List In×Dk,f 0=([],d)/\∀g,(g<=ln c.ags->((f g).1.length:Int)=jJ c.ags g)/\(∀i∈(f g).1,Ja i)/\(g<ln c.ags->ipG c g (f g) (f (g+1))):=by
 have C:=hv.ag;have L:=C.1
 obtain⟨f,E,A⟩:=IR (λg (a:List In×Dk)=>(g<=ln c.ags->(a.1.length:Int)=jJ c.ags g)/\∀i∈a.1,Ja i) (λg a b=>g<ln c.ags->ipG c g a b)
  (λg a z=>by
   by_cases B:g<ln c.ags
   .obtain⟨h,G,hh⟩:=IR (λs (b:List In×Dk)=>b.1.length=a.1.length+s/\∀i∈b.1,Ja i) (λs b u=>ipS c (g:Int) b u)
     (λs b hb=>by
      obtain⟨u,h1,h2,I⟩:=o5 c hv.w (g:Int) zB (a.1.length+s) b hb
      exact⟨u,h1,zB,I⟩) a ⟨rfl,z.2⟩
    have M:=C.at (i:=g) B;have hN:=(hh (c.ags.getD g dd).ses.toNat).1;have h1:=z.1 zB;refine⟨_,λ_=>⟨h,G,λs=>⟨(hh s).1.1,(hh s).2⟩,rfl⟩,λ_=>?_,hN.2⟩
    show _=jJ c.ags g+(c.ags.getD g dd).ses
    omega
   .exact⟨a,λh=>absurd h B,λh=>by omega,z.2⟩)
  ([],d) ⟨λ_=>rfl,λi hi=>by cases hi⟩
 exact⟨f,E,λg=>⟨(A g).1.1,(A g).1.2,(A g).2⟩⟩
theorem Ii (y:Cy) (hv:Qb y.c) (d:Dk):∃(B:List In) (d':Dk),((ln B:Int)=jJ y.c.ags (ln y.c.ags)/\∀i∈B,Ja i)/\zN 10 [.ptr 1000 0 0,qA y] [(1000,fF d)] (zE uZ B) [(1000,fF d')]:=by
 obtain⟨f,f0,I⟩:=m5 y.c hv d;refine⟨(f (ln y.c.ags)).1,(f (ln y.c.ags)).2,⟨(I _).1 (zAy _),(I _).2.1⟩,?_⟩;have hw:=hv.ag;have h4:=hw.1;have G:=kG hw;have ac:=zA uF y.c.ags;unfold qA aF;refine eM Tryz.call10 λF hF=>?_
 refine WW ?_;refine zQ 5 1041 2 Z Z Z ?_;rw[ac];refine zO (ln y.c.ags) [1041,1000,3] [3] [0,3,15,16] [5,17,0,3,15,16] Z (λi T U=>⟨(5,.ref 1041 0 ((f i).1.map uZ).length)::(17,iA i)::T,(1041,.arr 2 ((f i).1.map uZ) true)::(1000,fF (f i).2)::U⟩) ?_;(conv=>whnf);refine⟨by(rw[f0];rfl),?_,?_⟩
 .intro g hg;have hy:=zJ uF y.c.ags g hg;obtain⟨h,h0,hh,hN⟩:=(I g).2.2 hg;have ar:=(I g).1 zB;have hb:=G g zB;have V:=hw.at (i:=g) hg;rw[hN];clear hN I f0 G;rw[<-h0]at ar⊢;have hl:=λs=>(hh s).1
  rw[<-h0]at hl;obtain⟨N,hN⟩:∃N:Nat,(y.c.ags.getD g dd).ses=(N:Int):=⟨(y.c.ags.getD g dd).ses.toNat,zB⟩;rw[hN,zBh];rw[hN]at V;generalize ax:y.c.ags.getD g dd=a at *;unfold uF at hy;rw[hN]at hy;refine WW ?_;refine zO (N) [1041,1000,3,7] [3,7] [0,3,6,15,16,17,23] [5,24,0,3,6,15,16,17,23] Z (λi T U=>⟨(5,.ref 1041 0 ((h i).1.map uZ).length)::(24,iA i)::T,(1041,.arr 2 ((h i).1.map uZ) true)::(1000,fF (h i).2)::U⟩) (Lq ?_ ?_)
  .intro s hs;obtain⟨q,M,hM,hn,q0,W,C⟩:=(hh s).2;have a1:=hl s;have a2:=zA uZ (h s).1;rw[C];dsimp only;clear C hh hl;have n1:=yR (h s).2 5 zB zB;have n2:=yR (ad (h s).2) 4 zB zB;have n3:=yR (q M).2 9 zB zB;rw[hn]at n2;rw[zA0,show∀z,[z].map uZ=[uZ z]from λ_=>rfl];have ap:=yQ (h s).2 5 zB;have u:=λk=>(W k).1
   generalize hX:(h s).1.map uZ=X at *;generalize (h s).2=e at *;generalize S:decide (0<nx e 5)=op at *;refine yF (xQ n1 n2) ?_;rw[show uB BinOp.gtr (nx e 5) 0=op from S];clear S ap n1 n2;refine gJ 8 1 1043 3 Z Z Z Z Z ?_;refine zO (M) [8,1043,1000,3,1041,7] [3,1041,7] [0,3,5,6,8,15,16,17,23,24] [9,0,3,5,6,8,15,16,17,23,24] Z (λi T U=>⟨(9,iA ((M:Int)-i))::T,(8,.box [bA op,.ref 1043 0 ((q i).1.map vO).length])::(1043,.arr 3 ((q i).1.map vO) true)::(1000,fF (q i).2)::U⟩) ?_;(conv=>whnf);refine⟨by(rw[q0,show(M:Int)-(0:Nat)=M by omega];rfl),?_,?_⟩
   .intro k hk;obtain⟨m,p,⟨km,ke⟩,E⟩:=(W k).2;have au:=u k;have O:=zA vO (q k).1;rw[E,zA0,show∀z,[z].map vO=[vO z]from λ_=>rfl,show(M:Int)-((k+1:Nat):Int)=(M:Int)-(k:Int)-1 by omega];clear E W u n3;generalize (q k).1.map vO=Y,(q (k+1)).2=e2,(q k).2=e1 at *;unfold wH at km;unfold zX at km ke;unfold vO;refine yF (xQ km ke) ?_;rfl
   .have au:=u M;clear W u;generalize (q M).2=A at *;generalize (q M).1=L at *;have O:=zA vO L;have az:=yQ A 9 zB
    (repeat' (first|refine ub ?_|apply yW|apply xH|intro hc|(apply zG;first|refine SM ?_)|fail))
    refine yD Z ?_
    (have gd:=n3;(repeat' (first|refine ub ?_|apply yW|apply xH|intro hc|(apply zG;first|refine SM ?_)|fail))<;>clear gd)
    refine gB [3,7,8,1000,1041,1043] [0,3,5,6,8,15,16,17,23,24] ⟨[(0,.ptr 1000 0 0),(3,.ptr 3 0 0),(5,.ref 1041 0 (ln X)),(6,iA g),(8,.ptr 8 0 0),(15,.sl false (y.c.ags.map uF)),(16,iA (ln y.c.ags)),(17,iA g),(23,iA N),(24,iA s)],[(3,.box [zE wD y.c.js,zE uF y.c.ags,iA y.c.per,iA y.c.cap,iA y.c.hold,iA y.c.lock,bA y.rf,iA y.f4,zE zM y.ds,zE wU y.sg,zE wP y.sv,zE iA y.st,zE vG y.vw]),(7,.box [zE yA a.sec,iA a.rights,iA a.cls,zE iA a.lim,iA a.req,iA N,iA a.rate,iA a.burst]),(8,.box [bA op,.ref 1043 0 ((L++if nx A 9=8 then([⟨4,0,[]⟩]:List It)else []).map vO).length]),(1000,fF (ad A)),(1041,.arr 2 X true),(1043,.arr 3 ((L++if nx A 9=8 then([⟨4,0,[]⟩]:List It)else []).map vO) true)]⟩ rfl ?_ ?_
    .by_cases h8:nx A 9=8
     .rw[h8,zAs Z,zA0,show([⟨4,0,[]⟩]:List It).map vO=[.agg [iA 4,iA 0,.sl false []]]from Z];generalize L.map vO=Y at*
      (repeat' (first|refine jZ ?_|apply yW|apply xH|intro hc|(apply zG;first|(apply yH;refine ZX 60 Z Z Z ?_;refine vD tok Z Z ?_))|refine SB ?_|fail))
      exact⟨rfl,rfl⟩
     .rw[show uB BinOp.eql (nx A 9) 8=false by simp[uB,h8],Os h8,zBo];generalize L.map vO=Y at *;refine WW ?_;exact⟨rfl,rfl⟩
    .have av:((L++if nx A 9=8 then([⟨4,0,[]⟩]:List It)else []).map vO).length<=4:=by
      rw[zAt,zAx]
      split<;>simp<;>omega
     generalize (L++if nx A 9=8 then([⟨4,0,[]⟩]:List It)else [])=L2 at *;unfold uZ zE;dsimp only;generalize L2.map vO=Y at *;refine wJ [3,7,8,1000,1041] [0,3,5,6,8,15,16,17,23,24] Z ?_
     (conv=>whnf)
     simp only[zBf,zAv];refine WW ?_;rfl
  ·(refine WW ?_)
   rfl
 ·(refine WW ?_)
  refine zI [1000] Z Z ?_ Z
  show AV.sl false (List.take ((f (ln y.c.ags)).1.map uZ).length ((f (ln y.c.ags)).1.map uZ))=_
  rw[zAv];rfl
def SH (s:Sg) (p:Nat):Int:=if s.lat=true then 0 else xk (xR s.c p)
def zAp (s:Sg) (p:Nat):SH s p=0\/SH s p=1\/SH s p=2:=by
 unfold SH xk;split
 .exact .inl Z
 .split
  .rename_i h
   rcases h with h|h
   .exact .inr (.inl h)
   .exact .inr (.inr h)
  .exact .inl Z
def S8 {j:Jn} {s:Sg} {v:Sv}:(XL j s v).fl=s.lat/\(XL j s v).co.length=ln j.ph/\∀p,p<ln j.ph->(XL j s v).co.getD p dd=SH s p:=by
 unfold XL;by_cases h:s.lat=true
 .rw[zAs h];refine⟨h.symm,zCk,λp u=>?_⟩
  show(List.replicate (ln j.ph) (0:Int)).getD p dd=_
  rw[zA5,zC9,zAs u];unfold SH;rw[zAs h];rfl
 .rw[Os h];refine⟨by simpa using h,by show(PG _ _ _).length=_;unfold PG;rw[wT,zCk],λp u=>?_⟩
  show(PG s (ln j.ph) (ln j.ph)).getD p dd=_
  unfold PG;rw[zA5,vS,zAs (by rw[zCk];exact u),zAs u];unfold SH;rw[Os h];rfl
def Z5 {j:Jn} (J:JV j) {s:Sg} (C:CV j s.c):∀a b:Nat,a<ln j.cf->b<ln j.cf->(PW (kO (λp=>SH s p != 0) (ln j.ph)) a&&(PW (kO (λp=>SH s p != 0) (ln j.ph)) b&&kC j.cf a b))=false:=λa b B hb=>by
 have L:=C.n;have I:=J.n;rw[J.c]at B hb;have z:∀p:Nat,p<ln j.ph->PW (kO (λp=>SH s p != 0) (ln j.ph)) p=(SH s p != 0):=λp M=>Jx _ zB zB
 have A:∀p,(SH s p != 0)=true->(xR s.c p).lamp≠0:=λp h e=>by
  unfold SH xk at h;rw[e]at h;split at h
  all_goals exact absurd h yY
 rw[z a B,z b hb]
 cases E:(SH s a != 0)with
 |false=>rfl
 | true=>
  cases G:(SH s b != 0)with
  |false=>rfl
  |true=>
   by_cases u:a=b
   .subst u;rw[J.ir a B];rfl
   .rw[C.x a b B hb u (A a E) (A b G)];rfl
theorem Hq {p:Nat->Bool} (h:∀i,p i=false):∀n,kO p n=0
 |0=>rfl
 |n+1=>by
  unfold kO;rw[h n,Os zA9];exact Hq h n
def R8 {R:Nat->DR} (h1:ln y.sv=ln y.c.js) (h2:(cM y.c y.sg (eO R (ln y.ds))).length=ln y.c.js) {k:Nat} (hk:k<ln y.c.js):(qW y R).vw.getD k dd=XL (y.c.js.getD k dd) ((qW y R).sg.getD k dd) ((qW y R).sv.getD k dd):=by
 show(KU _ _ _).getD k dd=XL _ ((ZH _ _ _).getD k dd) ((ZI _ _ _).getD k dd)
 rw[ue _ _ _ _ hk zB,qe _ _ _ _ hk zB];unfold KU;rw[zA5,zA1,zCn hk];rfl
structure Gw (n:Nat) (y:Cy):Prop where
 i:LR y
 u:LP y.ds
 n:y.f4<=n
theorem Gw.tk {n:Nat} (h:Gw n y) {A:List In} {R:Nat->DR} (B:Vj y A R):Gw (n+1) (qW y R):=by
 refine⟨EZ h.i B,λa z=>?_,by have:=h.n;show y.f4+1<=_;omega⟩;rw[show(qW y R).ds=eK (y.f4+1) y.ds R (ln y.ds) from Z]at z⊢;rw[fX]at z;rw[aE z,(B a z).1.num];exact h.u a z
theorem Gw.st {n:Nat} (h:Gw n y) (j p:Int):Gw n (bG y j p):=by
 refine⟨zr h.i j p,?_,?_⟩
 .unfold bG
  split<;>exact h.u
 .unfold bG
  split<;>exact h.n
def ig (l:List Int) (A:ln l<=1000000):zN 75 [zE iA l,zE iA l] [] (bA true) []:=by
 have hl:=zA iA l;refine eM Tryz.call75 λF hF=>?_
 refine WW ?_;refine zU (l) [] [] [1,12,13] [14,1,12,13] Z (λi ga T U=>⟨(14,iA i)::T,U⟩) (Lq ?_ ?_)
 .intro i ga x post u hi;have B:=yJ iA u hi;have z:=zW u hi;clear u;refine WW ?_
  all_goals (first|rfl|(exfalso;first|(simp[TN]at hc;done)|(revert hc;simp[TN];done)))
 .exact mx
def Gq (l:List Vw) (S:ln l<=1000) (hb:∀v∈l,ln v.co<=1000/\v.cn.length<=1000):zN 29 [zE vG l,zE vG l] [] (bA true) []:=by
 have hl:=zA vG l;refine eM Tryz.call29 λF hF=>?_
 refine WW ?_;refine zU (l) [] [] [1,13,14] [15,1,13,14] Z (λi ga T U=>⟨(15,iA i)::T,U⟩) (Lq ?_ ?_)
 .intro i ga x post u hi;have B:=yJ vG u hi;have A:=zW u hi;obtain⟨I,L⟩:=hb x (xA u);have C:=ig x.co zB;have E:=ig x.cn zB;clear u;obtain⟨z,G,O,M⟩:=x;dsimp only at *;unfold vG at B
  cases z<;>cases G
  all_goals
   refine yF (xQ C E) ?_;rfl
 .exact mx
