/- Part 29. -/
import Derived.Test.YtaglbcjljlkjcaaGreatV28
namespace Go.Proofs.YtaglbcjljlkjcaaGreat.Av
open Tryz
set_option linter.all false
set_option maxRecDepth 4000
set_option maxHeartbeats 8000000
open List renaming length->ln,replicate->pg,range->pi,take->py,drop->p5
open Inhabited renaming default->dd
variable {j:Jn}{n:Nat}{p:Prop}
def TO (l:List Ev) (e:Ev):(l++[e]).map jS=l.map jS++[jS e]:=by simp
theorem KP.app2 {a b:List Ev} {m:Nat} (h:KP a n) (h2:KP b m):KP (a++b) (n+m):=
 ⟨by have:=h.1;have:=h2.1;rw[zAf];omega,λx hx=>(zAy.1 hx).elim (h.2 x) (h2.2 x)⟩
theorem KP.of {l:List Ev} (h:∀e∈l,AR e):KP l (ln l):=⟨zAe _,h⟩
def mq:Ev:=⟨6,0,0,0,[]⟩
def Je:AR mq:=Lh zB zB zB zB hH yE
def v7 (s:Nat):Ev:=⟨1,s,0,0,[]⟩
structure BtR (c:Cf) (cm:Bool) (g:Int) (d:Dk) (b:List Int) (d':Dk) (m0 m1:Ms) (dA dC:Dk) (q0 q1 b2:List Int) (d5:Dk):Prop where
 k0:zO 20 [.ptr 1000 0 0,vL c,iA g,bA cm] [(1000,cB d)] (yO m0) [(1000,cB dA)]
 f0:zO 95 [yO m0] [] (.ref 1031 0 (q0.map yA).length) [(1031,.arr 1 (q0.map yA) true)]
 k1:zO 20 [.ptr 1000 0 0,vL c,iA g,bA cm] [(1000,cB (ad dA))] (yO m1) [(1000,cB dC)]
 f1:zO 95 [yO m1] [] (zE yA q1) []
 h2:b2=if nx dA 3=2 then q0++q1 else q0
 h5:d5=if nx dA 3=2 then dC else ad dA
 sp:cm=false->nx d5 7=6->zO 98 [zE yA b2,iA (nx (ad d5) 99),iA (nx (ad (ad d5)) 1024)] [] (zE yA b) []
 hb:¬(cm=false/\nx d5 7=6)->b=b2
 hd:d'=if cm=true then d5 else if nx d5 7=6 then ad (ad (ad d5))else ad d5
 l0:q0.length<=210
 l1:q1.length<=210
theorem u7 (c:Cf) (hc:FW c) (A:Bool) (g:Int) (R:0<=g/\g<256) (d:Dk):∃(b:List Int) (O:Dk),(BY b/\b.length<=1000/\rem O<=rem d)/\∃G I z E C L y u,BtR c A g d b O G I z E C L y u:=by
 obtain⟨G,z,V,r0,W⟩:=QJ c hc g R A d;obtain⟨C,y0,Y,S,_⟩:=EM G V;obtain⟨I,E,h1,r1,X⟩:=QJ c hc g R A (ad z);obtain⟨L,y1,l1,U⟩:=EN I h1;have ra:=wX z
 obtain⟨y,M⟩:∃y,y=if nx z 3=2 then C++L else C:=⟨_,rfl⟩
 obtain⟨u,B⟩:∃u,u=if nx z 3=2 then E else ad z:=⟨_,rfl⟩
 have yb:BY y/\y.length<=420:=by
  grind [FW,Dk,BY,rem]
 have r5:rem u<=rem d:=by rw[B];split<;>omega
 have r6:=wX u;have r7:=wX (ad u);have r8:=wX (ad (ad u));have b7:=yN (ad (ad u)) 1024 zB;obtain⟨q,yq,lq,kq⟩:=og y yb.1 zB (nx (ad u) 99) (nx (ad (ad u)) 1024) zB;refine⟨if A=false/\nx u 7=6 then q else y,if A=true then u else if nx u 7=6 then ad (ad (ad u))else ad u,⟨?_,?_,?_⟩,G,I,z,E,C,L,y,u,W,S,X,U,M,B,λh1 h2=>?_,λh=>hW h,rfl,Y,l1⟩
 all_goals grind
def d8 (c:Cf) (n:Nat) (y:Bool) (p q:List Ev×Dk):Prop:=
 (nx (ad p.2) 12<=3/\q=(p.1++[mq],ad (ad p.2)))\/
 (nx (ad p.2) 12=4/\q=(p.1++pg (nx (ad (ad p.2)) 6+1).toNat mq,ad (ad (ad p.2))))\/
 (nx (ad p.2) 12=5/\∃e u,q=(p.1++[e],u)/\zO 96 [.ptr 1000 0 0,vL c,iA (nx p.2 (max 1 (n:Int))),bA y] [(1000,cB (ad (ad p.2)))] (jS e) [(1000,cB u)])\/
 (6<=nx (ad p.2) 12/\∃b u,q=(p.1++[⟨3,nx p.2 (max 1 (n:Int)),0,0,b⟩],u)/\∃E G B C I L z A,BtR c y (Za c.ags (nx p.2 (max 1 (n:Int)))) (ad (ad p.2)) b u E G B C I L z A)
theorem j7 (c:Cf) (hc:FW c) (G:LP c.ags) (n:Nat) (V:n<=8) (u:Bool) (p:List Ev×Dk) (A:∀e∈p.1,AR e) (hl:p.2.a<p.2.l.length):
  ∃q,d8 c n u p q/\(∀e∈q.1,AR e)/\p.1.length<q.1.length/\q.1.length<=p.1.length+6/\rem q.2<rem p.2:=by
 obtain⟨l,d⟩:=p;dsimp only at A hl;have W:=Tz d hl;have X:=wX (ad d);have O:=yN d (max 1 (n:Int)) zB;have R:=yN (ad d) 12 zB;have S:=yN (ad (ad d)) 6 zB;have Y:=wX (ad (ad d));have one:∀e,AR e->∀x∈l++[e],AR x:=λe z x hx=>(zAy.1 hx).elim (A x) λhx=>by rw[zA8.1 hx];exact z
 have len:∀e:Ev,(l++[e]).length=ln l+1:=λe=>by rw[zAf,zCf]
 by_cases B:nx (ad d) 12<=3
 .exact⟨_,.inl ⟨B,rfl⟩,one _ Je,by dsimp only;rw[len];omega,by dsimp only;rw[len];omega,by dsimp only;omega⟩
 by_cases C:nx (ad d) 12=4
 .refine⟨_,.inr (.inl ⟨C,rfl⟩),λx hx=>(zAy.1 hx).elim (A x) λhx=>by rw[(zD1.1 hx).2];exact Je,?_,?_,by dsimp only;omega⟩
  all_goals grind
 by_cases E:nx (ad d) 12=5
 .obtain⟨e,y,z,I,k⟩:=Gx c (nx d (max 1 (n:Int))) zB zB u (ad (ad d));exact⟨_,.inr (.inr (.inl ⟨E,e,y,rfl,k⟩)),one _ z,by dsimp only;rw[len];omega,by dsimp only;rw[len];omega,by dsimp only;omega⟩
 .have U:=Hx G (nx d (max 1 (n:Int)));obtain⟨b,y,⟨M,L,I⟩,h⟩:=u7 c hc u (Za c.ags (nx d (max 1 (n:Int)))) zB (ad (ad d));exact⟨_,.inr (.inr (.inr ⟨by dsimp only;omega,b,y,rfl,h⟩)),one _ (show AR ⟨3,nx d (max 1 (n:Int)),0,0,b⟩from Lh zB zB zB zB M L),by dsimp only;rw[len];omega,by dsimp only;rw[len];omega,by dsimp only;omega⟩
theorem nh (c:Cf) (hc:FW c) (S:LP c.ags) (n:Nat) (U:n<=8) (C:Bool) (l:List Ev) (d:Dk) (hl:KP l 100):
  ∃(f:Nat->List Ev×Dk) (N:Nat),f 0=(l,d)/\(∀i,i<N->d8 c n C (f i) (f (i+1))/\(f i).2.a<(f i).2.l.length/\(f i).1.length<150)/\¬((f N).2.a<(f N).2.l.length/\(f N).1.length<150)/\KP (f N).1 156/\∀i,i<=N->(f i).1.length<=156:=by
 obtain⟨f,I,E⟩:=Ol (λ_ (p:List Ev×Dk)=>∀e∈p.1,AR e) (λ_ p q=>p.2.a<p.2.l.length->d8 c n C p q/\p.1.length<q.1.length/\q.1.length<=p.1.length+6/\rem q.2<rem p.2)
  (λi p L=>by
   by_cases h:p.2.a<p.2.l.length
   .obtain⟨q,h1,h2,M,O,R⟩:=j7 c hc S n U C p L h;exact⟨q,λ_=>⟨h1,M,O,R⟩,h2⟩
   .exact⟨p,λh'=>absurd h' h,L⟩) (l,d) hl.2
 have G:∃k,¬((f k).2.a<(f k).2.l.length/\(f k).1.length<150):=by
  refine zCu λhc=>?_
  have u:∀k,(f k).2.a<(f k).2.l.length/\(f k).1.length<150:=λk=>zCu λh=>hc ⟨k,h⟩
  have z:∀k,k<=(f k).1.length:=λk=>by
   induction k with
   |zero=>exact zAn _
   |succ k V=>have:=((E k).2 (u k).1).2.1;omega
  have:=z 150
  grind
 obtain⟨k,hk⟩:=G;obtain⟨N,_,hN,B⟩:=Lo (P:=λk=>¬((f k).2.a<(f k).2.l.length/\(f k).1.length<150)) k hk;have A:∀i,i<N->(f i).2.a<(f i).2.l.length/\(f i).1.length<150:=λi hi=>zCu λh=>B i hi h
 have y:∀i,i<=N->(f i).1.length<=156:=λi hi=>by
  cases i with
  |zero=>rw[I];have:=hl.1;dsimp only;omega
  |succ i=>
   grind
 exact⟨f,N,I,λi hi=>⟨((E i).2 (A i hi).1).1,A i hi⟩,hN,⟨y N (zAe _),(E N).1⟩,y⟩
def Jo (g:Nat):Ev:=⟨4,0,g,0,eV (2000+10*g)⟩
def xi (c:Cf) (F:Nat×Nat->List Int) (g v:Nat):Ev:=⟨3,AQ c.ags g (ln c.ags),0,0,F (g,v)⟩
def tq (i:Nat):List Ev:=(pi i).map v7
def Ie (c:Cf) (F:Nat×Nat->List Int) (n:Nat):Nat->List Ev
 |0=>tq n
 |g+1=>Ie c F n g++[Jo g]++(pi 3).map (xi c F g)
theorem mh (c:Cf) (hc:FW c) (ha:LP c.ags) (cm:Bool) (d:Dk):∃(l:List Ev) (d':Dk),KP l 160/\zO 42 [.ptr 1000 0 0,vL c,bA cm] [(1000,cB d)] (zE jS l) [(1000,cB d')]:=by
 have ks:=Dq c ha;have ax:=kG ha (ln c.ags) (zAe _);have a4:=ha.1;obtain⟨n,hn⟩:∃n:Nat,jP c.ags (ln c.ags)=(n:Int):=⟨(jP c.ags (ln c.ags)).toNat,zB⟩;rw[hn]at ks;have a2:n<=8:=by omega
 clear ax hn;have av:=zA wP c.ags
 obtain⟨A,O⟩:=Classical.skolem.1 (λp:Nat×Nat=>show∃q,p.1<4/\p.2<3->BY q/\q.length<=210/\zO 95 [yO ⟨4,(p.1:Int)::0::eV (1000+(p.1:Int)),[(p.2:Int),(p.2:Int).tmod 2],[]⟩] [] (zE yA q) []from by
  by_cases h:p.1<4/\p.2<3
  .obtain⟨q,h1,h2,h3⟩:=EN _ (Fx (p.1:Int) (p.2:Int) zB zB);exact⟨q,λ_=>⟨h1,h2,h3⟩⟩
  .exact⟨[],λh'=>absurd h' h⟩)
 have I:∀g,g<=ln c.ags->KP (Ie c A n g) (n+4*g):=λg=>by
  induction g with
  |zero=>
   intro _;refine⟨by simp[Ie,tq],λe he=>?_⟩;obtain⟨s,hs,rfl⟩:=zBm.1 he;rw[zAw]at hs;exact Lh zB zB zB zB hH yE
  | succ g ih=>
   intro hg;have h1:=ia ha (g:Int) (ln c.ags) (zAe _);have h2:KP [Jo g] 1:=⟨zAe _,λe he=>by rw[zA8.1 he];exact Lh zB zB zB zB (UX _) (by rw[jT];omega)⟩
   have h3:KP ((pi 3).map (xi c A g)) 3:=⟨by simp,λe he=>by
    obtain⟨v,hv,rfl⟩:=zBm.1 he;rw[zAw]at hv;obtain⟨q1,q2,_⟩:=O (g,v) ⟨by dsimp only;omega,hv⟩
    exact Lh zB zB zB zB q1 zB⟩
   exact(((ih zB).app2 h2).app2 h3).le zB
 have hL:=(I (ln c.ags) (zAe _)).app Je;obtain⟨f,N,M,hf,ac,R,au⟩:=nh c hc ha n a2 cm (Ie c A n (ln c.ags)++[mq]) d (hL.le zB);refine⟨(f N).1++[mq],(f N).2,(R.app Je).le zB,?_⟩;unfold vL at *;refine eM call42 λF hF=>?_
 refine zP ks ?_;refine zW 7 1001 5 Z Z Z ?_;refine zM (n) [1001,4,1000] [4,1000] [0,2,4,8,17] [7,18,0,2,4,8,17] Z (λi T U=>⟨(7,.ref 1001 0 ((tq i).map jS).length)::(18,iA i)::T,(1001,.arr 5 ((tq i).map jS) true)::U⟩) (Lq ?_ ?_)
 .intro i hi;have e:(tq (i+1)).map jS=(tq i).map jS++[jS (v7 i)]:=by unfold tq;rw[zB4,zAd];simp
  have az:((tq i).map jS).length=i:=by simp[tq]
  rw[e];generalize (tq i).map jS=X at*
  (repeat' (first|refine gM ?_|apply yY|apply xN|intro hc|(apply zG;first|(apply yL;refine XH 23 Z Z Z ?_;refine wQ tok Z Z ?_))|refine SB ?_|fail))
  rfl
 ·(refine WW ?_)
  refine zM ((c.ags.map wP).length) [1001,4,1000] [4,1000] [0,2,4,8,29] [7,30,0,2,4,8,29] Z (λi T U=>⟨(7,.ref 1001 0 ((Ie c A n i).map jS).length)::(30,iA i)::T,(1001,.arr 5 ((Ie c A n i).map jS) true)::U⟩) (Lq ?_ ?_)
  .intro g hg;have kc:=fO (2000+10*(g:Int));have kb:=Cq c ha (g:Int);have kt:=fO (1000+(g:Int));have ky:=ZX (g:Int) 0 (eV (1000+(g:Int))) (by rw[jT];omega) zB zB zB zB;have az:=(I g zB).1;have a3:((Ie c A n g).map jS).length=(Ie c A n g).length:=f7 ..;have e2:(Ie c A n (g+1)).map jS=((Ie c A n g).map jS++[jS (Jo g)])++((pi 3).map (xi c A g)).map jS:=by simp[Ie]
   rw[e2];unfold vL at kb;generalize (Ie c A n g).map jS=X at*
   (have gt:=kc;(repeat' (first|refine gM ?_|apply yY|apply xN|intro hc|(apply zG;first|(apply yL;refine wQ tok Z Z ?_))|refine SB ?_|fail))<;>clear gt)
   refine zM (3) [1001,4,1000] [4,1000] [0,2,4,8,10,29,30] [7,42,0,2,4,8,10,29,30] Z (λi T U=>⟨(7,.ref 1001 0 (X++[jS (Jo g)]++((pi i).map (xi c A g)).map jS).length)::(42,iA i)::T,(1001,.arr 5 (X++[jS (Jo g)]++((pi i).map (xi c A g)).map jS) true)::U⟩) ?_;(conv=>whnf);refine⟨by(rw[show X++[jS (Jo g)]++((pi 0).map (xi c A g)).map jS=X++[jS (Jo g)]from zA6 _];rfl),?_,?_⟩
   .intro v hv;have kf:=(O (g,v) ⟨by dsimp only;omega,hv⟩).2.2;dsimp only at kf;have e3:X++[jS (Jo g)]++((pi (v+1)).map (xi c A g)).map jS=X++[jS (Jo g)]++((pi v).map (xi c A g)).map jS++[jS (xi c A g v)]:=by rw[zB4];simp
    have a5:(X++[jS (Jo g)]++((pi v).map (xi c A g)).map jS).length<=100:=by simp;omega
    rw[e3];unfold yO at kf;rw[show jS (xi c A g v)= .agg [iA 3,iA (AQ c.ags g (ln c.ags)),iA 0,iA 0,zE yA (A (g,v))]from Z];generalize X++[jS (Jo g)]++((pi v).map (xi c A g)).map jS=Y,A (g,v)=fr,AQ c.ags g (ln c.ags)=bz,eV (1000+(g:Int))=sc at *
    (have gt:=kb;have gv:=kt;have ic:=ky;have io:=kf;(repeat' (first|refine gM ?_|apply yY|apply xN|intro hc|(apply zG;first|(apply yL;refine wQ tok Z Z ?_))|refine SB ?_|fail))<;>clear gt gv ic io)
    rfl
   ·(refine WW ?_)
    rfl
  .rw [av];have ar:=(I (ln c.ags) (zAe _)).1;have ag:((Ie c A n (ln c.ags)).map jS).length=(Ie c A n (ln c.ags)).length:=f7 ..
   (repeat' (first|refine gM ?_|apply yY|apply xN|intro hc|(apply zG;first|(apply yL;refine XH 66 Z Z Z ?_;refine wQ tok Z Z ?_))|refine SB ?_|fail))
   refine zM (N) [1000,1001,4] [4] [0,2,4,8] [7,0,2,4,8] Z (λi T U=>⟨(7,.ref 1001 0 ((f i).1.map jS).length)::T,(1000,cB (f i).2)::(1001,.arr 5 ((f i).1.map jS) true)::U⟩) ?_;(conv=>whnf);refine⟨by(rw[M,TO];rfl),?_,?_⟩
   .intro i hi;obtain⟨hR,L,ap⟩:=hf i hi;have a1:((f i).1.map jS).length=(f i).1.length:=f7 ..;clear hf ac R au M hL ar ag I O ks;generalize f (i+1)=q at *;generalize f i=p at *;obtain⟨l,d⟩:=p;dsimp only at *;have E:=xm d;rw[zAc L]at E;have b1:=yN d (max 1 (n:Int)) zB;have b2:=yN (ad d) 12 zB;have S:=yR d (max 1 (n:Int)) zB zB;have V:=yR (ad d) 12 zB zB;have ko:=Bi c ha (nx d (max 1 (n:Int))) zB zB;unfold d8 vL at hR;unfold vL at ko;generalize nx d (max 1 (n:Int))=s at *;generalize nx (ad d) 12=k at *;generalize ad (ad d)=d2 at *;generalize ad d=d1 at*
    rcases hR with⟨h3,rfl⟩|⟨h4,rfl⟩|⟨h5,e,d',rfl,kd⟩|⟨h6,b,d',rfl,m0,m1,dA,dC,q0,q1,e2,d5,hB⟩
    .dsimp only;rw[TO,show jS mq= .agg [iA 6,iA 0,iA 0,iA 0,.sl false []]from Z];generalize l.map jS=X at *;have:k=0\/k=1\/k=2\/k=3:=by omega
     rcases this with h|h|h|h
     all_goals
      (have gt:=E;have gv:=S;have ic:=V;(repeat' (first|refine gM ?_|apply yY|apply xN|intro hc|(apply zG;first|(apply yL;refine XH 128 Z Z Z ?_;refine wQ tok Z Z ?_))|refine SB ?_|fail))<;>clear gt gv ic)
      rfl
    .dsimp only;have W:=yR d2 6 zB zB;have b3:=yN d2 6 zB;generalize ad d2=d3 at *;obtain⟨z,hz⟩:∃z:Nat,nx d2 6=(z:Int):=⟨(nx d2 6).toNat,zB⟩;rw[hz]at W b3⊢;rw[show((z:Int)+1).toNat=z+1 by omega,zAd,zDr,show jS mq= .agg [iA 6,iA 0,iA 0,iA 0,.sl false []]from Z];generalize l.map jS=X at*
     (have gt:=E;have gv:=S;have ic:=V;have io:=W;(repeat' (first|refine qU ?_|apply yY|apply xN|intro hc|fail))<;>clear gt gv ic io)
     refine zM ((z+1)) [1001,4,1000] [4,1000] [0,2,4,8] [7,13,0,2,4,8] Z (λi T U=>⟨(7,.ref 1001 0 (X++pg i (AV.agg [iA 6,iA 0,iA 0,iA 0,.sl false []])).length)::(13,iA ((z:Int)-i))::T,(1001,.arr 5 (X++pg i (AV.agg [iA 6,iA 0,iA 0,iA 0,.sl false []])) true)::U⟩) ?_;(conv=>whnf);refine⟨by(rw[zEu,zA6,show(z:Int)-(0:Nat)=z by omega];rfl),?_,?_⟩
     .intro r hr;have a7:(X++pg r (AV.agg [iA 6,iA 0,iA 0,iA 0,.sl false []])).length<=200:=by simp;omega
      rw[show pg (r+1) (AV.agg [iA 6,iA 0,iA 0,iA 0,.sl false []])=pg r (AV.agg [iA 6,iA 0,iA 0,iA 0,.sl false []])++[AV.agg [iA 6,iA 0,iA 0,iA 0,.sl false []]]from zDx,<-zA2,show(z:Int)-((r+1:Nat):Int)=(z:Int)-r-1 by omega];generalize X++pg r (AV.agg [iA 6,iA 0,iA 0,iA 0,.sl false []])=Y at *;have z0:0<=(z:Int)-r:=by omega
      have z1:(z:Int)-r<=10:=by omega
      generalize (z:Int)-r=w at*
      (repeat' (first|refine gM ?_|apply yY|apply xN|intro hc|(apply zG;first|(apply yL;refine XH 140 Z Z Z ?_;refine wQ tok Z Z ?_))|refine SB ?_|fail))
      rfl
     .rw[show(z:Int)-((z+1:Nat):Int)= -1 by omega];refine WW ?_;rfl
    .dsimp only;rw[TO];generalize l.map jS=X at*
     (have gt:=E;have gv:=S;have ic:=V;have io:=kd;(repeat' (first|refine gM ?_|apply yY|apply xN|intro hc|(apply zG;first|(apply yL;refine wQ tok Z Z ?_))|refine SB ?_|fail))<;>clear gt gv ic io)
     rfl
    .dsimp only;rw[TO,show jS ⟨3,s,0,0,b⟩= .agg [iA 3,iA s,iA 0,iA 0,zE yA b]from Z];obtain⟨k0,M,k1,f1,h2,g5,G,B,y,l0,l1⟩:=hB;unfold vL yO at *;have W:=yR dA 3 zB zB;have n4:=yR d5 7 zB zB;have n5:=yR (ad d5) 99 zB zB;have n6:=yR (ad (ad d5)) 1024 zB zB;have c3:=yN dA 3 zB;have c4:=yN d5 7 zB;have m0:=zA yA q0;have m1:=zA yA q1;generalize l.map jS=X at *;generalize nx dA 3=u at *;generalize nx d5 7=v at *;by_cases hu:u=2
     .rw[Os hu]at h2 g5;subst g5;subst h2;have em:zE yA (q0++q1)= .sl false (q0.map yA++q1.map yA):=by unfold zE;rw[zAd]
      rw[em]at G;have ez:zE yA (q0++q1)= .sl false (py (q0.map yA++q1.map yA).length (p5 0 (q0.map yA++q1.map yA))):=by rw[em,zAr,zAa]
      cases cm with
      |true=>
       rw[Os Z]at y;subst y;have C:=B (λh=>by cases h.1);subst C;rw[ez];clear G B
       (have gt:=E;have gv:=S;have ic:=V;have io:=ko;have kj:=k0;have lb:=M;have lf:=W;have lk:=k1;have lp:=f1;have zc10:=n4;have zc11:=n5;have zc12:=n6;(repeat' (first|refine gM ?_|apply yY|apply xN|intro hc|(apply zG;first|(apply yL;refine vR [1000,1001,4] [0,2,4,8,116,119] Z ?_;(conv=>whnf);refine wQ tok Z Z ?_)|(apply yI;refine kN tok Z Z Z Z Z Z Z Z Z Z Z (yG _ _ (λ_=>rfl)) zB Z ?_))|refine SB ?_|fail))<;>clear gt gv ic io kj lb lf lk lp zc10 zc11 zc12)
       rfl
      | false=>
       rw[hW zAs]at y;by_cases hv:v=6
       .rw[Os hv]at y;subst y;have G:=G Z hv;clear B
        (have gt:=E;have gv:=S;have ic:=V;have io:=ko;have kj:=k0;have lb:=M;have lf:=W;have lk:=k1;have lp:=f1;have zc10:=n4;have zc11:=n5;have zc12:=n6;have zc13:=G;have ly:=(⟨⟩:Kw 98 [1000,1001,4] [0,2,4,7,8,12,110,112,114]);(repeat' (first|refine gM ?_|apply yY|apply xN|intro hc|(apply zG;first|(apply yL;refine vR [1000,1001,4] [0,2,4,8,116,119] Z ?_;(conv=>whnf);refine wQ tok Z Z ?_)|(apply yI;refine kN tok Z Z Z Z Z Z Z Z Z Z Z (yG _ _ (λ_=>rfl)) zB Z ?_))|refine SB ?_|fail))<;>clear gt gv ic io kj lb lf lk lp zc10 zc11 zc12 zc13 ly)
        rfl
       .rw[hW hv]at y;subst y;have C:=B (λh=>hv h.2);subst C;rw[ez];clear G B
        (have gt:=E;have gv:=S;have ic:=V;have io:=ko;have kj:=k0;have lb:=M;have lf:=W;have lk:=k1;have lp:=f1;have zc10:=n4;have zc11:=n5;have zc12:=n6;(repeat' (first|refine gM ?_|apply yY|apply xN|intro hc|(apply zG;first|(apply yL;refine vR [1000,1001,4] [0,2,4,8,116,119] Z ?_;(conv=>whnf);refine wQ tok Z Z ?_)|(apply yI;refine kN tok Z Z Z Z Z Z Z Z Z Z Z (yG _ _ (λ_=>rfl)) zB Z ?_))|refine SB ?_|fail))<;>clear gt gv ic io kj lb lf lk lp zc10 zc11 zc12)
        rfl
     .rw[hW hu]at h2 g5;subst g5;subst h2;have em:∀z,zE yA z= .sl false (z.map yA):=λz=>rfl
      rw[em e2]at G;have ez:zE yA e2= .sl false (py (e2.map yA).length (p5 0 (e2.map yA))):=by rw[zAr,zAa];rfl
      cases cm with
      |true=>
       rw[Os Z]at y;subst y;have C:=B (λh=>by cases h.1);subst C;rw[ez];clear G B
       (have gt:=E;have gv:=S;have ic:=V;have io:=ko;have kj:=k0;have lb:=M;have lf:=W;have lk:=k1;have lp:=f1;have zc10:=n4;have zc11:=n5;have zc12:=n6;(repeat' (first|refine gM ?_|apply yY|apply xN|intro hc|(apply zG;first|(apply yL;refine vR [1000,1001,4] [0,2,4,8,116,119] Z ?_;(conv=>whnf);refine wQ tok Z Z ?_)|(apply yI;refine kN tok Z Z Z Z Z Z Z Z Z Z Z (yG _ _ (λ_=>rfl)) zB Z ?_))|refine SB ?_|fail))<;>clear gt gv ic io kj lb lf lk lp zc10 zc11 zc12)
       rfl
      | false=>
       rw[hW zAs]at y;by_cases hv:v=6
       .rw[Os hv]at y;subst y;have G:=G Z hv;clear B
        (have gt:=E;have gv:=S;have ic:=V;have io:=ko;have kj:=k0;have lb:=M;have lf:=W;have lk:=k1;have lp:=f1;have zc10:=n4;have zc11:=n5;have zc12:=n6;have zc13:=G;have ly:=(⟨⟩:Kw 98 [1000,1001,4] [0,2,4,7,8,12,110,112,114]);(repeat' (first|refine gM ?_|apply yY|apply xN|intro hc|(apply zG;first|(apply yL;refine vR [1000,1001,4] [0,2,4,8,116,119] Z ?_;(conv=>whnf);refine wQ tok Z Z ?_)|(apply yI;refine kN tok Z Z Z Z Z Z Z Z Z Z Z (yG _ _ (λ_=>rfl)) zB Z ?_))|refine SB ?_|fail))<;>clear gt gv ic io kj lb lf lk lp zc10 zc11 zc12 zc13 ly)
        rfl
       .rw[hW hv]at y;subst y;have C:=B (λh=>hv h.2);subst C;rw[ez];clear G B
        (have gt:=E;have gv:=S;have ic:=V;have io:=ko;have kj:=k0;have lb:=M;have lf:=W;have lk:=k1;have lp:=f1;have zc10:=n4;have zc11:=n5;have zc12:=n6;(repeat' (first|refine gM ?_|apply yY|apply xN|intro hc|(apply zG;first|(apply yL;refine vR [1000,1001,4] [0,2,4,8,116,119] Z ?_;(conv=>whnf);refine wQ tok Z Z ?_)|(apply yI;refine kN tok Z Z Z Z Z Z Z Z Z Z Z (yG _ _ (λ_=>rfl)) zB Z ?_))|refine SB ?_|fail))<;>clear gt gv ic io kj lb lf lk lp zc10 zc11 zc12)
        rfl
   .rw[show zE jS ((f N).1++[mq])= .sl false ((f N).1.map jS++[jS mq]) by unfold zE;rw[TO]];have a6:=R.1;have a1:((f N).1.map jS).length=(f N).1.length:=f7 ..;have E:=xm (f N).2;clear hf R au M hL ar ag I O ks;generalize f N=p at *;obtain⟨l,d⟩:=p;dsimp only at *;rw[show jS mq= .agg [iA 6,iA 0,iA 0,iA 0,.sl false []]from Z];by_cases L:d.a<ln d.l
    .have ap:¬l.length<150:=λh=>ac ⟨L,h⟩
     rw[zAc L]at E;generalize l.map jS=X at*
     (have gt:=E;(repeat' (first|refine gM ?_|apply yY|apply xN|intro hc|(apply zG;first|(apply yL;refine XH 154 Z Z Z ?_;refine wQ tok Z Z ?_))|refine SB ?_|fail))<;>clear gt)
     exact zH [1000] Z Z (zAt (AV.sl false) zAa) Z
    .rw[zAb L]at E;generalize l.map jS=X at*
     (have gt:=E;(repeat' (first|refine gM ?_|apply yY|apply xN|intro hc|(apply zG;first|(apply yL;refine XH 154 Z Z Z ?_;refine wQ tok Z Z ?_))|refine SB ?_|fail))<;>clear gt)
     exact zH [1000] Z Z (zAt (AV.sl false) zAa) Z
structure PlI (c:Cf) (n:Nat) (b:PH):Prop where
 i:Ee b
 u:RT b.y.ds
 n:b.y.ga<=n
 c:b.y.c=c
def rh (g:Int) (hg:0<=g/\g<=63) (z:Dk):∃(b:PH) (d':Dk),PlI (GF z g) 160 b/\zO 9 [.ptr 1000 0 0,iA g] [(1000,cB z)] (VM b) [(1000,cB d')]:=by
 have I:=Kl z g;have hv:=G4 z g zB;generalize GF z g=c,w9 z g=e1 at *;obtain⟨l,O,hl,M⟩:=mh c hv.w hv.ag false e1;have C:=Uv c hv;obtain⟨f,S,fs⟩:∃f:Nat->PH×Dk,f 0=(Y4 c,O)/\∀i,f (i+1)=(if(i:Int)<12+nx (f i).2 60 then(W4 (f i).1 (l.getD i dd)).b else(f i).1,ad (f i).2):=⟨λn=>Nat.rec (Y4 c,O) (λi p=>(if(i:Int)<12+nx p.2 60 then(W4 p.1 (l.getD i dd)).b else p.1,ad p.2)) n,rfl,λ_=>rfl⟩;have ac:=hl.1
 have B:∀i,i<=ln l->PlI c i (f i).1:=λi=>by
  induction i with
  |zero=>intro _;rw[S];exact⟨X7 c hv,Rv c,zCi _,rfl⟩
  |succ i ih=>
   intro hi;obtain⟨G,X,i3,Y⟩:=ih zB;rw[fs];dsimp only;split
   .have D:=Co G zB (hl.2 _ (zQ l i zB));exact⟨D.i,K2 G X D,by have:=D.n;omega,D.c.trans Y⟩
   .exact⟨G,X,zB,Y⟩
 have A:=B (ln l) (zAe _);refine⟨(f (ln l)).1,(f (ln l)).2,⟨A.i,A.u,by have:=A.n;omega,A.c⟩,?_⟩;clear A;have ap:=zA jS l;have E:∀b:PH,VM b= .agg [zE xC b.y.c.js,zE wP b.y.c.ags,iA b.y.c.per,iA b.y.c.cap,iA b.y.c.hold,iA b.y.c.lock,bA false,iA b.y.ga,zE zN b.y.ds,zE wD b.y.sg,zE xZ b.y.sv,zE iA b.y.st,zE wE b.y.vw,zE fT b.ss]:=λ_=>rfl
 unfold vL at I C M;rw[E]at C⊢;refine eM call9 λF hF=>?_
 refine yB (qS I C M) ?_;refine zU (l) [6,1000,4] [4] [0,4,6,18,19] [20,0,4,6,18,19] Z (λi gd T U=>⟨(20,iA i)::T,(6,.box [zE xC (f i).1.y.c.js,zE wP (f i).1.y.c.ags,iA (f i).1.y.c.per,iA (f i).1.y.c.cap,iA (f i).1.y.c.hold,iA (f i).1.y.c.lock,bA false,iA (f i).1.y.ga,zE zN (f i).1.y.ds,zE wD (f i).1.y.sg,zE xZ (f i).1.y.sv,zE iA (f i).1.y.st,zE wE (f i).1.y.vw,zE fT (f i).1.ss])::(1000,cB (f i).2)::U⟩) ?_;(conv=>whnf);refine⟨by(rw[S];rfl),?_,?_⟩
 .intro i gd x post hx hi;have hy:=zY jS hx hi;have ar:=zX hx hi;have R:l.getD i dd=x:=by rw[hx,<-hi];simp
  have H:=B i zB;have V:=yR (f i).2 60 zB zB;have D:=Co H.i (by have:=H.n;omega) (hl.2 x (by rw[hx];simp));have L:=R7 (f i).1 H.i H.u (by have:=H.n;omega) x (hl.2 x (by rw[hx];simp)).g _ D;rw[fs,R];dsimp only;rw[E,E]at L;unfold jS p8 at L;unfold jS at hy;clear B fs D H hx R M C I hl;generalize W4 (f i).1 x=r at *;generalize (f i).1=b at *;generalize (f i).2=d at *;have hb:=yN d 60 zB;by_cases W:(i:Int)<12+nx d 60
  .rw[Os W];refine yB (xH V L) ?_;rfl
  .rw[hW W];refine zP V ?_;rfl
 .clear B fs;refine WW ?_;exact zH [1000] Z Z Z Z
section
open Classical in
noncomputable def dB (p:Prop):Bool:=decide p
def LE (h:p):dB p=true:= @decide_eq_true p (Classical.propDecidable p) h
def vC (h:¬p):dB p=false:= @decide_eq_false p (Classical.propDecidable p) h
def AH :dB p=true↔p:= @decide_eq_true_iff p (Classical.propDecidable p)
def Uc :dB p=false↔¬p:= @decide_eq_false_iff_not p (Classical.propDecidable p)
def nv (l:List Int) (s:Nat):Prop:=(0<=l.getD s dd/\l.getD s dd<2 ^ (ln l))/\vM l s s=false/\∀t:Nat,t<ln l->vM l s t=vM l t s
def mv (l:List Int):Prop:=(1<=ln l/\l.length<=8)/\∀s:Nat,s<ln l->nv l s
def uF {P:Nat->Prop} {i:Nat} (h:∀s:Nat,s<i->P s) (hi:P i):∀s:Nat,s<i+1->P s:=λs u=>by
 by_cases e:s=i
 .subst e;exact hi
 .exact h s zB
def W2 {x:Int} (z:0<=x) (h:¬x<2 ^ n):¬wY x n=0:=λu=>by
 unfold wY at u;rw[zAv,zCb _ (Int.le_of_lt (Int.pow_pos zB))]at u;have y:(0:Int)<2 ^ n:=Int.pow_pos zB;have:=Int.lt_mul_of_ediv_lt y (show x/2 ^ n<1 by omega);omega
theorem d7 (l:List Int) (ag:ln l<=12):zO 202 [zE iA l] [] (bA (dB (mv l))) []:=by
 have hl:=zA iA l;by_cases hn:1<=ln l/\l.length<=8
 case neg=>
  rw[vC λh=>hn h.1];by_cases h0:1<=ln l
  all_goals
   (refine eM call202 λF hF=>?_)
   exact mx
 refine eM call202 λF hF=>?_
 refine WW ?_;refine zZ (ln l) [] [] [0,14,15] [16,0,14,15] Z (λi T U zs=>(∀s:Nat,s<i->nv l s)/\zs=⟨(16,iA i)::T,U⟩) (Lp ?_ ?_ ?_)
 .exact⟨λs G=>absurd G (zBa _),rfl⟩
 .rintro u st M ⟨hp,rfl⟩;have C:=λh=>uF (P:=nv l) hp h
  have z:¬nv l u->dB (mv l)=false:=λh=>vC λH=>h (H.2 u M)
  have hy:=zJ iA l u M;have O:=YQ (p:=u) (q:=u) M M;have E:∀v,v<ln l->uX (wY (l.getD u dd) v) 1=(if vM l u v=true then 1 else 0)/\uX (wY (l.getD v dd) u) 1=(if vM l v u=true then 1 else 0):=λv hv=>⟨YQ M hv,YQ hv M⟩
  by_cases X:0<=l.getD u dd
  case neg=>
   rw[z λh=>X h.1.1];generalize l.getD u dd=x at *;exact mx
  by_cases S:l.getD u dd<2 ^ (ln l)
  case neg=>
   rw[z λh=>S h.1.2];have G:=W2 X S;rw[<-hl]at G;generalize l.getD u dd=x at *;exact mx
  have G:=o5 ⟨X,S⟩;rw[<-hl]at G
  cases V:vM l u u with
  |true=>
   rw[z λh=>by rw[h.2.1]at V;cases V];rw[V,Os Z]at O;generalize l.getD u dd=x at *;exact mx
  |false=>
  rw[V,hW zAs]at O;have A:(∀t:Nat,t<ln l->vM l u t=vM l t u)->∀s:Nat,s<u+1->nv l s:=λh=>C ⟨⟨X,S⟩,V,h⟩
  have B:∀v,v<ln l->vM l u v≠vM l v u->dB (mv l)=false:=λv hv h=>z λH=>h (H.2.2 v hv)
  clear C z S;generalize l.getD u dd=x at *;refine WW ?_;refine zZ (ln l) [] [] [0,3,4,14,15,16,38] [39,0,3,4,14,15,16,38] Z (λi T U zs=>(∀t:Nat,t<i->vM l u t=vM l t u)/\zs=⟨(39,iA i)::T,U⟩) (Lp ?_ ?_ ?_)
  .exact⟨λs G=>absurd G (zBa _),rfl⟩
  .rintro v st hv ⟨hp2,rfl⟩;have ap:=zJ iA l v hv;have I:=λh=>uF (P:=λt:Nat=>vM l u t=vM l t u) hp2 h
   have L:=B v hv;obtain⟨R,W⟩:=E v hv;clear E A B hp2 hp;generalize l.getD v dd=y at *;by_cases e:vM l u v=vM l v u
   .rw[e]at R;have hq:uX (wY x v) 1=uX (wY y u) 1:=by rw[R,W]
    have ac:=I e;clear I L R W;refine WW ?_;exact⟨ac,rfl⟩
   .rw[L e]
    have hq:¬uX (wY x v) 1=uX (wY y u) 1:=by
     rw[R,W]
     cases h1:vM l u v<;>cases h2:vM l v u<;>simp_all
    clear I L R W;exact mx
  .rintro st ⟨hp2,rfl⟩;have Y:=A hp2;clear A B E;refine WW ?_;exact⟨Y,rfl⟩
 .rintro st ⟨hp,rfl⟩;rw[LE ⟨hn,hp⟩];exact mx
def VS (t:Ph):Prop:=(0<=t.ring/\t.ring<=1)/\(0<=t.group/\t.group<=3)/\1<=t.ming/\t.ming<=t.maxg/\t.maxg<=60/\1<=t.yel/\t.yel<=60/\0<=t.red/\t.red<=60/\0<=t.walk/\t.walk<=60/\0<=t.clear/\t.clear<=60/\t.walk+t.clear<=t.maxg/\(t.walk=0↔t.clear=0)
def uU {n a b:Int} (h:xY n a b=false):¬(a<=n/\n<=b):=zEf h
def uV {n a b:Int} (h:xY n a b=true):a<=n/\n<=b:=zD5 h
def p7 (t:Ph):zO 203 [yU t] [] (bA (dB (VS t))) []:=by
 have u:=xA t.ring 0 1;have y:=xA t.group 0 3;have z:=xA t.ming 1 60;have A:=xA t.maxg 1 60;have B:=xA t.yel 1 60;have C:=xA t.red 0 60;have E:=xA t.walk 0 60;have G:=xA t.clear 0 60
 cases I:xY t.ring 0 1<;>rw[I]at u
 .rw[vC λh=>uU I h.1];refine eM call203 λF hF=>?_
  exact nl u
 cases L:xY t.group 0 3<;>rw[L]at y
 .rw[vC λh=>uU L h.2.1];refine eM call203 λF hF=>?_
  exact ng (xH u y)
 cases M:xY t.ming 1 60<;>rw[M]at z
 .rw[vC λh=>uU M (by unfold VS at h;omega)];refine eM call203 λF hF=>?_
  exact ng (qS u y z)
 cases q4:xY t.maxg 1 60<;>rw[q4]at A
 .rw[vC λh=>uU q4 (by unfold VS at h;omega)];refine eM call203 λF hF=>?_
  exact ng (cX u y z A)
 cases O:xY t.yel 1 60<;>rw[O]at B
 .rw[vC λh=>uU O (by unfold VS at h;omega)];refine eM call203 λF hF=>?_
  exact ng (KE u y z A B)
 cases R:xY t.red 0 60<;>rw[R]at C
 .rw[vC λh=>uU R (by unfold VS at h;omega)];refine eM call203 λF hF=>?_
  exact ng (BJ u y z A B C)
 cases S:xY t.walk 0 60<;>rw[S]at E
 .rw[vC λh=>uU S (by unfold VS at h;omega)];refine eM call203 λF hF=>?_
  exact ng (V6 u y z A B C E)
 cases U:xY t.clear 0 60<;>rw[U]at G
 .rw[vC λh=>uU U (by unfold VS at h;omega)];refine eM call203 λF hF=>?_
  exact ng (Hb u y z A B C E G)
 have w1:=uV I;have w2:=uV L;have w3:=uV M;have w4:=uV q4;have w5:=uV O;have w6:=uV R;have w7:=uV S;have w8:=uV U;clear I L M q4 O R S U;by_cases V:t.ming<=t.maxg
 case neg=>
  rw[vC λh=>V (by unfold VS at h;omega)];refine eM call203 λF hF=>?_
  exact ng (Hb u y z A B C E G)
 by_cases W:t.walk+t.clear<=t.maxg
 case neg=>
  rw[vC λh=>W (by unfold VS at h;omega)];refine eM call203 λF hF=>?_
  exact ng (Hb u y z A B C E G)
 by_cases X:t.walk=0<;>by_cases Y:t.clear=0
 all_goals
  first
  |rw[LE (show VS t from⟨w1,w2,w3.1,V,w4.2,w5.1,w5.2,w6.1,w6.2,w7.1,w7.2,w8.1,w8.2,W,⟨λ_=>by omega,λ_=>by omega⟩⟩)]
  |rw[vC (show¬VS t from λh=>by obtain⟨-,-,-,-,-,-,-,-,-,-,-,-,-,-,h5⟩:=h;first|exact Y (h5.1 X)|exact X (h5.2 Y))]
  refine eM call203 λF hF=>?_
  exact ng (Hb u y z A B C E G)
end
def wi (j:Jn) (p q:Nat):Prop:=p≠q->(zS j p).ring=(zS j q).ring\/(zS j p).group≠(zS j q).group->vM j.cf p q=true
def Z4 (j:Jn):Prop:=∀p q:Nat,p<ln j.ph->q<ln j.ph->wi j p q
def IG (j:Jn):Prop:=(1<=ln j.ph/\j.ph.length<=8)/\j.cf.length=ln j.ph/\mv j.cf/\(0<=j.st/\j.st<=60)/\(∀s:Nat,s<ln j.ph->VS (zS j s))/\Z4 j/\∀s:Nat,s<ln j.ph->aZ j s (ln j.ph)=true
def FK {p:Nat}:aZ j p n=true↔(zS j p).group=0\/∃q:Nat,q<n/\(zS j q).group=(zS j p).group-1:=by
 unfold aZ;rw[zCk,zBv,zBr];constructor
 .rintro(h|⟨q,u,h⟩)
  .exact .inl h
  .exact .inr ⟨q,zAw.1 u,by rwa [zBv]at h⟩
 .rintro(h|⟨q,u,h⟩)
  .exact .inl h
  .exact .inr ⟨q,zAw.2 u,by rwa [zBv]⟩
theorem gx (h:∀s:Nat,s<ln j.ph->aZ j s (ln j.ph)=true) (g:Nat):∀(k p:Nat),p<ln j.ph->(zS j p).group=((g+k:Nat):Int)->∃q:Nat,q<ln j.ph/\(zS j q).group=(g:Int)
 |0,p,u,e=>⟨p,u,e⟩
 |k+1,p,u,e=>by
  rcases FK.1 (h p u)with h0|⟨q,hq,h1⟩
  .omega
  .exact gx h g k q hq zB
def Tc :JV j↔IG j:=by
 constructor
 .intro J;refine⟨J.n,J.c,⟨by have:=J.n;have:=J.c;omega,λs y=>?_⟩,J.st,λs y=>⟨J.rg s y,J.gp s y,J.ti s y⟩,λp q u z=>J.ap p q u z,λs y=>Jc j J s y⟩;have hc:=J.c;rw[hc]at y;refine⟨?_,J.ir s y,λt M=>J.sy s t y zB⟩;rw[hc];exact J.row s y
 .rintro⟨I,hc,A,y,B,E,G⟩;refine⟨I,hc,λi hi=>?_,λp u=>(A.2 p zB).2.1,λp q u z=>(A.2 p zB).2.2 q zB,λp q u z=>E p q u z,λp u=>(B p u).1,λp u=>(B p u).2.1,λp u=>(B p u).2.2,λp u g C L=>?_,y⟩
  .rw[<-hc];exact(A.2 i zB).1
  .have:=gx G g.toNat ((zS j p).group-g).toNat p u zB
   rwa [zDz C]at this
def o7:∀z u y A:Bool,uX (qT (bq z u y A false false false false) 8) (qT (bq z u y A false false false false) 8+1)=0↔(u=true->z=true)/\(y=true->u=true)/\(A=true->y=true):=by decide +kernel
def eW {g:Nat}:dS j n g=true↔∃p:Nat,p<n/\(zS j p).group=(g:Int):=by
 unfold dS;rw[zBr];constructor
 .rintro⟨p,u,h⟩;exact⟨p,zAw.1 u,by rwa [zBv]at h⟩
 .rintro⟨p,u,h⟩;exact⟨p,zAw.2 u,by rwa [zBv]⟩
def V2 (E:∀s:Nat,s<ln j.ph->0<=(zS j s).group/\(zS j s).group<=3):uX (qT (dS j (ln j.ph)) 8) (qT (dS j (ln j.ph)) 8+1)=0↔∀s:Nat,s<ln j.ph->aZ j s (ln j.ph)=true:=by
 have z:∀g:Nat,4<=g->dS j (ln j.ph) g=false:=λg A=>by
  cases e:dS j (ln j.ph) g with
  |false=>rfl
  |true=>
   obtain⟨p,B,h⟩:=eW.1 e;have:=E p B;omega
 have e:qT (dS j (ln j.ph)) 8=qT (bq (dS j (ln j.ph) 0) (dS j (ln j.ph) 1) (dS j (ln j.ph) 2) (dS j (ln j.ph) 3) false false false false) 8:=dH 8 λi hi=>by
  match i,hi with
  |0,_=>rfl|1,_=>rfl|2,_=>rfl|3,_=>rfl
  |4,_=>exact z 4 zB
  |5,_=>exact z 5 zB
  |6,_=>exact z 6 zB
  |7,_=>exact z 7 zB
  |i+8,h=>omega
 rw[e,o7];constructor
 .rintro⟨G,I,L⟩ s hs;have A:=E s hs;rw[FK];by_cases C:(zS j s).group=0
  .exact .inl C
  right
  have:(zS j s).group=1\/(zS j s).group=2\/(zS j s).group=3:=by omega
  rcases this with h|h|h
  .obtain⟨q,y,e⟩:=eW.1 (G (eW.2 ⟨s,hs,h⟩));exact⟨q,y,zB⟩
  .obtain⟨q,y,e⟩:=eW.1 (I (eW.2 ⟨s,hs,h⟩));exact⟨q,y,zB⟩
  .obtain⟨q,y,e⟩:=eW.1 (L (eW.2 ⟨s,hs,h⟩));exact⟨q,y,zB⟩
 .intro h
  have u:∀g:Nat,dS j (ln j.ph) (g+1)=true->dS j (ln j.ph) g=true:=λg A=>by
   obtain⟨p,B,e⟩:=eW.1 A
   rcases FK.1 (h p B)with C|⟨q,y,h1⟩
   .omega
   .exact eW.2 ⟨q,y,zB⟩
  exact⟨u 0,u 1,u 2⟩
theorem n7 (j:Jn) (X:ln j.ph<=12) (V:ln j.cf<=12):zO 204 [xC j] [] (bA (dB (Z4 j))) []:=by
 have hl:=zA yU j.ph;refine eM call204 λF hF=>?_
 repeat' (first|(apply zG;first|refine vT tok Z Z ?_|refine bY tok Z Z Z Z ?_|apply qV)|first|refine SQ ?_|fail|apply dK|apply dL|apply xE)
 refine zZ (ln j.ph) [1] [1] [1,9,10] [3,11,1,9,10] Z (λi T U S=>(∀s:Nat,s<i->∀q:Nat,q<ln j.ph->wi j s q)/\S=⟨(3,bA true)::(11,iA i)::T,U⟩) (Lp ?_ ?_ ?_)
 .exact⟨λs R=>absurd R (zBa _),rfl⟩
 .rintro u st W ⟨hp,rfl⟩;have M:=zJ yU j.ph u W
  change (j.ph.map yU)[u]? =some (yU (zS j u))at M
  have E:=λh=>uF (P:=λs=>∀q:Nat,q<ln j.ph->wi j s q) hp h
  have G:∀v,v<ln j.ph->¬wi j u v->dB (Z4 j)=false:=λv hv h=>vC λH=>h (H u v W hv)
  clear hp;refine WW ?_;refine zZ (ln j.ph) [1,5] [1,5] [1,4,5,9,10,11,17,18] [3,19,1,4,5,9,10,11,17,18] Z (λi T U S=>(∀q:Nat,q<i->wi j u q)/\S=⟨(3,bA true)::(19,iA i)::T,U⟩) (Lp ?_ ?_ ?_)
  .exact⟨λs R=>absurd R (zBa _),rfl⟩
  .rintro v st hv ⟨hp,rfl⟩;have C:=zJ yU j.ph v hv
   change (j.ph.map yU)[v]? =some (yU (zS j v))at C
   have I:=gB j.cf zB u v;have nx:=λh=>uF (P:=wi j u) hp h
   have B:=G v hv;unfold wi at nx B;clear E G hp;by_cases L:u=v
   .have O:(u:Int)=v:=by omega
    have nx:=nx λh=>absurd L h
    clear B;generalize z:zS j u=a at M;generalize A:zS j v=b at C;clear z A;refine WW ?_;exact⟨nx,rfl⟩
   have O:¬(u:Int)=v:=by omega
   by_cases y:(zS j u).ring=(zS j v).ring\/(zS j u).group≠(zS j v).group
   .cases q:vM j.cf u v<;>rw[q]at I
    .rw[B λh=>by rw[h L y]at q;cases q];clear nx B q;by_cases h1:(zS j u).ring=(zS j v).ring
     .generalize zS j u=a,zS j v=b at *;exact nl I
     .have h2:=y.resolve_left h1;generalize zS j u=a,zS j v=b at *;exact nl I
    .have nx:=nx λ_ _=>q
     clear B q;by_cases h1:(zS j u).ring=(zS j v).ring
     .generalize z:zS j u=a at M y h1;generalize A:zS j v=b at C y h1;clear z A;refine zP I ?_;exact⟨nx,rfl⟩
     .have h2:=y.resolve_left h1;generalize z:zS j u=a at M y h1 h2;generalize A:zS j v=b at C y h1 h2;clear z A;refine zP I ?_;exact⟨nx,rfl⟩
   .have nx:=nx λ_ h=>absurd h y
    have h1:¬(zS j u).ring=(zS j v).ring:=λh=>y (.inl h)
    have h2:(zS j u).group=(zS j v).group:=by
     by_cases h:(zS j u).group=(zS j v).group
     .exact h
     .exact absurd (.inr h) y
    clear B I y;generalize z:zS j u=a at M h1 h2;generalize A:zS j v=b at C h1 h2;clear z A;refine WW ?_;exact⟨nx,rfl⟩
  .rintro st ⟨hp,rfl⟩;have nx:=E hp;clear E G;generalize zS j u=a at *;refine WW ?_;exact⟨nx,rfl⟩
 .rintro st ⟨hp,rfl⟩;rw[LE (show Z4 j from λp q h1 h2=>hp p h1 q h2)];exact mx
theorem m7 (j:Jn) (V:ln j.ph<=12) (E:ln j.cf<=12):zO 149 [xC j] [] (bA (dB (IG j))) []:=by
 have hl:=zA yU j.ph;have ac:=zA iA j.cf;have B:=d7 j.cf E;have C:=xA j.st 0 60;have z:=n7 j V E;have y:=ZU (dS j (ln j.ph)) 8 zB;have A:p2 ((8:Nat):Int)=256:=by decide
 by_cases hn:1<=ln j.ph/\j.ph.length<=8
 case neg=>
  rw[vC λh=>hn h.1];clear B C z y A;by_cases h0:1<=ln j.ph
  all_goals
   (refine eM call149 λF hF=>?_)
   exact mx
 by_cases hc:ln j.cf=ln j.ph
 case neg=>
  rw[vC λh=>hc h.2.1];clear B C z y A;refine eM call149 λF hF=>?_
  exact mx
 cases q1:dB (mv j.cf)<;>rw[q1]at B
 .rw[vC λh=>Uc.1 q1 h.2.2.1];clear C z y A;refine eM call149 λF hF=>?_
  exact nl B
 cases q2:xY j.st 0 60<;>rw[q2]at C
 .rw[vC λh=>uU q2 h.2.2.2.1];clear z y A;refine eM call149 λF hF=>?_
  exact ng (xH B C)
 refine eM call149 λF hF=>?_
 refine yB (xH B C) ?_;refine zZ (ln j.ph) [1] [1] [1,34,35] [4,36,1,34,35] Z (λi T U zs=>(∀s:Nat,s<i->VS (zS j s))/\zs=⟨(4,iA (qT (dS j i) 8))::(36,iA i)::T,U⟩) (Lp ?_ ?_ ?_)
 .exact⟨λs Y=>absurd Y (zBa _),rfl⟩
 .rintro u st hu ⟨hp,rfl⟩;have hy:=zJ yU j.ph u hu
  change (j.ph.map yU)[u]? =some (yU (zS j u))at hy
  have O:=p7 (zS j u);have G:¬VS (zS j u)->dB (IG j)=false:=λh=>vC λH=>h (H.2.2.2.2.1 u hu)
  clear B C z y
  cases q:dB (VS (zS j u))<;>rw[q]at O
  .rw[G (Uc.1 q)];generalize zS j u=t,qT (dS j u) 8=b at *;exact nl O
  .have W:=uF (P:=λs=>VS (zS j s)) hp (AH.1 q);have hg:=(AH.1 q).2.1;have R:=CJ j u;obtain⟨gn,I⟩:∃n:Nat,(zS j u).group=n:=⟨(zS j u).group.toNat,zB⟩;have L:=Rb (dS j u) (λx:Nat=>(gn:Int)==(x:Int));rw[<-Ww gn zB]at L;rw[I]at R;clear G q hp;rw[R,<-L];generalize qT (dS j u) 8=b at *;rw[<-I];clear L R I;generalize X:zS j u=t at hy O hg⊢;clear X;refine zP O ?_;exact⟨W,rfl⟩
 .rintro st ⟨hP,rfl⟩;clear B C;have M:=V2 λs Y=>(hP s Y).2.1
  cases q3:dB (Z4 j)<;>rw[q3]at z
  .rw[vC λh=>Uc.1 q3 h.2.2.2.2.2.1];by_cases S:uX (qT (dS j (ln j.ph)) 8) (qT (dS j (ln j.ph)) 8+1)=0
   all_goals(clear M hP;generalize qT (dS j (ln j.ph)) 8=b at *;exact nl z)
  by_cases S:uX (qT (dS j (ln j.ph)) 8) (qT (dS j (ln j.ph)) 8+1)=0
  .rw[LE (show IG j from⟨hn,hc,AH.1 q1,uV q2,hP,AH.1 q3,M.1 S⟩)];clear M hP;generalize qT (dS j (ln j.ph)) 8=b at *;exact nl z
  .rw[vC λh=>S (M.2 h.2.2.2.2.2.2)];clear M hP;generalize qT (dS j (ln j.ph)) 8=b at *;exact nl z
def iq (c:Cf):Prop:=ln c.js<=6/\c.ags.length<=6/\(∀j∈c.js,ln j.ph<=12/\j.cf.length<=12)/\∀a∈c.ags,ln a.sec<=40/\a.lim.length<=12
def FL {α:Type} [Inhabited α] {l:List α} {P:α->Prop} (h:∀s:Nat,s<ln l->P (l.getD s dd)):∀x∈l,P x:=λx hx=>by
 obtain⟨i,hi,rfl⟩:=zCj hx;have:=h i hi
 rwa [show l.getD i dd=l[i] by simp[List.getD,hi]]at this
def Io {c:Cf} (h1:1<=ln c.js/\c.js.length<=4) (h2:1<=ln c.ags/\c.ags.length<=4) (z:∀s:Nat,s<(c.js.map xC).length->IG (c.js.getD s dd)) (y:∀s:Nat,s<(c.ags.map wP).length->LO (c.ags.getD s dd)=true)
  (B:1<=c.per/\c.per<=600) (C:0<=c.cap/\c.cap<=100) (E:1<=c.hold/\c.hold<=60) (G:0<=c.lock/\c.lock<=600) (e1:(c.js.map xC).length=ln c.js) (A:(c.ags.map wP).length=ln c.ags):TW c:=by
 rw[e1]at z;rw[A]at y;exact⟨h1,FL λs u=>Tc.2 (z s u),h2,FL λs u=>(OM _).1 (y s u),B,C,E,G⟩
theorem s7 (c:Cf) (h:iq c):zO 78 [vL c] [] (bA (dB (TW c))) []:=by
 have O:=zA xC c.js;have L:=zA wP c.ags;have ag:=h.1;have ac:=h.2.1;have E:=xA ((c.js.map xC).length:Int) 1 4;have w2:=xA ((c.ags.map wP).length:Int) 1 4;have A:=xA c.per 1 600;have C:=xA c.cap 0 100;have G:=xA c.hold 1 60;have I:=xA c.lock 0 600;unfold vL zE
 cases V:xY ((c.js.map xC).length:Int) 1 4<;>rw[V]at E
 .rw[vC λh=>uU V (by have:=h.j;omega)];refine eM call78 λF hF=>?_
  exact nl E
 cases W:xY ((c.ags.map wP).length:Int) 1 4<;>rw[W]at w2
 .rw[vC λh=>uU W (by have:=h.a;omega)];refine eM call78 λF hF=>?_
  exact ng (xH E w2)
 have g1:=uV V;have g2:=uV W;refine eM call78 λF hF=>?_
 refine yB (xH E w2) ?_;refine zZ ((c.js.map xC).length) [1] [1] [1,20,21] [22,1,20,21] Z (λi T U zs=>(∀s:Nat,s<i->IG (c.js.getD s dd))/\zs=⟨(22,iA i)::T,U⟩) (Lp ?_ ?_ ?_)
 .exact⟨λs R=>absurd R (zBa _),rfl⟩
 .rintro i st hi ⟨hp,rfl⟩;have S:=zJ xC c.js i zB;have hb:=h.2.2.1 _ (zQ c.js i zB);have z:=m7 (c.js.getD i dd) hb.1 hb.2;have u:¬IG (c.js.getD i dd)->dB (TW c)=false:=λh=>vC λH=>h (Tc.1 (H.jv _ (zQ c.js i zB)))
  clear E w2 A C G I
  cases q:dB (IG (c.js.getD i dd))<;>rw[q]at z
  .rw[u (Uc.1 q)];clear hb;generalize c.js.getD i dd=j at *;exact nl z
  .have B:=uF (P:=λs=>IG (c.js.getD s dd)) hp (AH.1 q);clear u q hb;generalize M:c.js.getD i dd=j at S z;clear M;refine zP z ?_;exact⟨B,rfl⟩
 .rintro st ⟨hJ,rfl⟩;refine WW ?_;refine zZ ((c.ags.map wP).length) [1] [1] [1,31,32] [33,1,31,32] rfl (λi T U zs=>(∀s:Nat,s<i->LO (c.ags.getD s dd)=true)/\zs=⟨(33,iA i)::T,U⟩) (Lp ?_ ?_ ?_)
  .exact⟨λs R=>absurd R (zBa _),rfl⟩
  .rintro i st hi ⟨hp,rfl⟩;have S:=zJ wP c.ags i zB;have z:=IF (c.ags.getD i dd);have u:LO (c.ags.getD i dd)=false->dB (TW c)=false:=λh=>vC λH=>by rw[(OM _).2 (H.av _ (zQ c.ags i zB))]at h;cases h
   clear E w2 A C G I
   cases q:LO (c.ags.getD i dd)<;>rw[q]at z
   .rw[u q];clear u q;generalize c.ags.getD i dd=a at *;exact nl z
   .have B:=uF (P:=λs=>LO (c.ags.getD s dd)=true) hp q;clear u q;generalize M:c.ags.getD i dd=a at S z;clear M;refine zP z ?_;exact⟨B,rfl⟩
  .rintro st ⟨hA,rfl⟩;have y:(1<=c.per/\c.per<=600)->(0<=c.cap/\c.cap<=100)->(1<=c.hold/\c.hold<=60)->(0<=c.lock/\c.lock<=600)->dB (TW c)=true:=λf1 f2 f3 f4=>LE (Io zB zB hJ hA f1 f2 f3 f4 O L)
   clear hJ hA
   cases X:xY c.per 1 600<;>rw[X]at A
   .rw[vC λh=>uU X h.p];clear y;exact nl A
   cases q4:xY c.cap 0 100<;>rw[q4]at C
   .rw[vC λh=>uU q4 h.cp];clear y;exact ng (xH A C)
   cases Y:xY c.hold 1 60<;>rw[Y]at G
   .rw[vC λh=>uU Y h.h];clear y;exact ng (qS A C G)
   cases q6:xY c.lock 0 600<;>rw[q6]at I
   .rw[vC λh=>uU q6 h.l];clear y;exact ng (cX A C G I)
   .rw[y (uV X) (uV q4) (uV Y) (uV q6)];clear y;exact ng (cX A C G I)
