/- Part 31. -/
import Derived.Test.YtaglbcjljlkjcaaGreatX30
namespace Go.Proofs.YtaglbcjljlkjcaaGreat.Av
set_option linter.all false
set_option maxRecDepth 4000
set_option maxHeartbeats 8000000
open List renaming length->ln,replicate->pb,range->pi,take->py,drop->p5
open Inhabited renaming default->dd
variable {c:Cf}{y:Cy}{ins ins2:List In}{a h:Nat}
def G5 {a b:List wE} (h:a.map Yx=b.map Yx) (H:KU b):KU a:=λi hi=>by
 have hl:=zBq List.length h;rw[zA6,zA6]at hl;have e:(a.map Yx)[i]? =(b.map Yx)[i]? :=zBq (·[i]?) h;rw[zBe,zBe,zB2 hi,zB2 zB]at e;have u:=zBq Prod.fst (zEg e);have:=H i zB;rw[zBj,zB2 zB]at this;rw[zBj,zB2 hi];exact u.trans this
def F5 {b:QO} (h:Mg b) (hN:KU b.y.ds) {e:Ev} {r:pz} (D:KT b e r):KU r.b.y.ds:=by
 by_cases h1:e.k=1\/e.k=2\/e.k=3
 .rw[D.s h1];unfold Ga
  split<;>exact hN
 by_cases h2:e.k=4\/e.k=5
 .rw[D.y h2];exact G5 (pe h.y.rf e).2.2.2.2.2 hN
 by_cases z:e.k=6
 .obtain⟨G,E,A,B,_⟩:=D.t6 z;rw[B];obtain⟨hT,C,_⟩:=A.tk;dsimp only;rw[C];intro a u;rw[show(uQ b.y (gK b.y (ZF b.ss))).ds=dB (b.y.f3+1) b.y.ds (gK b.y (ZF b.ss)) (ln b.y.ds) from Z]at u⊢;rw[gQ]at u;rw[fZ u,(hT a u).1.num];exact hN a u
 .rw[D.o zB];exact hN
def jx (c:Cf):KU (WJ c).ds:=λi hi=>by
 have hl:(WJ c).ds.length=ln c.ags:=by simp[WJ,OZ]
 show((OZ c (ln c.ags)).getD i dd).rg.num=_
 unfold OZ;rw[zBj,zBe,zC1 zB];rfl
def SA (l:List Ev) (e:Ev):(l++[e]).map hH=l.map hH++[hH e]:=by simp
theorem JC.app2 {a b:List Ev} {n m:Nat} (h:JC a n) (h2:JC b m):JC (a++b) (n+m):=
 ⟨by have:=h.1;have:=h2.1;rw[zBa];omega,λx u=>(zBs.1 u).elim (h.2 x) (h2.2 x)⟩
theorem JC.of {l:List Ev} (h:∀e∈l,ub e):JC l (ln l):=⟨zBb _,h⟩
def Ar:Ev:=⟨6,0,0,0,[]⟩
def Qg:ub Ar:=nj zB zB zB zB jT zV
def u9 (s:Nat):Ev:=⟨1,s,0,0,[]⟩
structure BtR (c:Cf) (cm:Bool) (g:Int) (d:Dk) (b:List Int) (d':Dk) (m0 m1:Ms) (dA dC:Dk) (q0 q1 b2:List Int) (d5:Dk):Prop where
 k0:zO 20 [.ptr 1000 0 0,wD c,iA g,bA cm] [(1000,fI d)] (zX m0) [(1000,fI dA)]
 f0:zO 95 [zX m0] [] (.ref 1031 0 (q0.map yA).length) [(1031,.arr 1 (q0.map yA) true)]
 k1:zO 20 [.ptr 1000 0 0,wD c,iA g,bA cm] [(1000,fI (ad dA))] (zX m1) [(1000,fI dC)]
 f1:zO 95 [zX m1] [] (zE yA q1) []
 h2:b2=if nx dA 3=2 then q0++q1 else q0
 h5:d5=if nx dA 3=2 then dC else ad dA
 sp:cm=false->nx d5 7=6->zO 98 [zE yA b2,iA (nx (ad d5) 99),iA (nx (ad (ad d5)) 1024)] [] (zE yA b) []
 hb:¬(cm=false/\nx d5 7=6)->b=b2
 hd:d'=if cm=true then d5 else if nx d5 7=6 then ad (ad (ad d5))else ad d5
 l0:q0.length<=210
 l1:q1.length<=210
theorem j9 (c:Cf) (hc:IY c) (B:Bool) (g:Int) (R:0<=g/\g<256) (d:Dk):∃(b:List Int) (O:Dk),(BY b/\b.length<=1000/\rem O<=rem d)/\∃I L A G E q1 z u,BtR c B g d b O I L A G E q1 z u:=by
 obtain⟨I,A,V,r0,W⟩:=YI c hc g R B d;obtain⟨E,y0,l0,S,_⟩:=DQ I V;obtain⟨L,G,h1,r1,Y⟩:=YI c hc g R B (ad A);obtain⟨q1,y1,l1,U⟩:=DS L h1;have ra:=vH A
 obtain⟨z,M⟩:∃z,z=if nx A 3=2 then E++q1 else E:=⟨_,rfl⟩
 obtain⟨u,C⟩:∃u,u=if nx A 3=2 then G else ad A:=⟨_,rfl⟩
 have yb:BY z/\z.length<=420:=by
  grind [IY,Dk,BY,rem]
 have r5:rem u<=rem d:=by rw[C];split<;>omega
 have r6:=vH u;have r7:=vH (ad u);have r8:=vH (ad (ad u));have b7:=yQ (ad (ad u)) 1024 zB;obtain⟨q,yq,lq,kq⟩:=Ei z yb.1 zB (nx (ad u) 99) (nx (ad (ad u)) 1024) zB;refine⟨if B=false/\nx u 7=6 then q else z,if B=true then u else if nx u 7=6 then ad (ad (ad u))else ad u,⟨?_,?_,?_⟩,I,L,A,G,E,q1,z,u,W,S,Y,U,M,C,λh1 h2=>?_,λh=>Os h,rfl,l0,l1⟩
 all_goals grind
def E9 (c:Cf) (n:Nat) (z:Bool) (p q:List Ev×Dk):Prop:=
 (nx (ad p.2) 12<=3/\q=(p.1++[Ar],ad (ad p.2)))\/
 (nx (ad p.2) 12=4/\q=(p.1++pb (nx (ad (ad p.2)) 6+1).toNat Ar,ad (ad (ad p.2))))\/
 (nx (ad p.2) 12=5/\∃e u,q=(p.1++[e],u)/\zO 96 [.ptr 1000 0 0,wD c,iA (nx p.2 (max 1 (n:Int))),bA z] [(1000,fI (ad (ad p.2)))] (hH e) [(1000,fI u)])\/
 (6<=nx (ad p.2) 12/\∃b u,q=(p.1++[⟨3,nx p.2 (max 1 (n:Int)),0,0,b⟩],u)/\∃G I C E L q1 A B,BtR c z (Kb c.ags (nx p.2 (max 1 (n:Int)))) (ad (ad p.2)) b u G I C E L q1 A B)
theorem g9 (c:Cf) (hc:IY c) (M:QT c.ags) (n:Nat) (hn:n<=8) (A:Bool) (p:List Ev×Dk) (E:∀e∈p.1,ub e) (hl:p.2.a<p.2.l.length):
  ∃q,E9 c n A p q/\(∀e∈q.1,ub e)/\p.1.length<q.1.length/\q.1.length<=p.1.length+6/\rem q.2<rem p.2:=by
 obtain⟨l,d⟩:=p;dsimp only at E hl;have r0:=O1 d hl;have r1:=vH (ad d);have U:=yQ d (max 1 (n:Int)) zB;have V:=yQ (ad d) 12 zB;have W:=yQ (ad (ad d)) 6 zB;have r2:=vH (ad (ad d));have z:∀e,ub e->∀x∈l++[e],ub x:=λe C x u=>(zBs.1 u).elim (E x) λu=>by rw[zB1.1 u];exact C
 have len:∀e:Ev,(l++[e]).length=ln l+1:=λe=>by rw[zBa,zDb]
 by_cases G:nx (ad d) 12<=3
 .exact⟨_,.inl ⟨G,rfl⟩,z _ Qg,by dsimp only;rw[len];omega,by dsimp only;rw[len];omega,by dsimp only;omega⟩
 by_cases I:nx (ad d) 12=4
 .refine⟨_,.inr (.inl ⟨I,rfl⟩),λx u=>(zBs.1 u).elim (E x) λu=>by rw[(zE2.1 u).2];exact Qg,?_,?_,by dsimp only;omega⟩
  all_goals grind
 by_cases L:nx (ad d) 12=5
 .obtain⟨e,B,C,O,k⟩:=Oz c (nx d (max 1 (n:Int))) zB zB A (ad (ad d));exact⟨_,.inr (.inr (.inl ⟨L,e,B,rfl,k⟩)),z _ C,by dsimp only;rw[len];omega,by dsimp only;rw[len];omega,by dsimp only;omega⟩
 .have Y:=Pz M (nx d (max 1 (n:Int)));obtain⟨b,B,⟨S,R,O⟩,h⟩:=j9 c hc A (Kb c.ags (nx d (max 1 (n:Int)))) zB (ad (ad d));exact⟨_,.inr (.inr (.inr ⟨by dsimp only;omega,b,B,rfl,h⟩)),z _ (show ub ⟨3,nx d (max 1 (n:Int)),0,0,b⟩from nj zB zB zB zB S R),by dsimp only;rw[len];omega,by dsimp only;rw[len];omega,by dsimp only;omega⟩
theorem zj (c:Cf) (hc:IY c) (U:QT c.ags) (n:Nat) (V:n<=8) (E:Bool) (l:List Ev) (d:Dk) (hl:JC l 100):
  ∃(f:Nat->List Ev×Dk) (N:Nat),f 0=(l,d)/\(∀i,i<N->E9 c n E (f i) (f (i+1))/\(f i).2.a<(f i).2.l.length/\(f i).1.length<150)/\¬((f N).2.a<(f N).2.l.length/\(f N).1.length<150)/\JC (f N).1 156/\∀i,i<=N->(f i).1.length<=156:=by
 obtain⟨f,L,G⟩:=LN (λ_ (p:List Ev×Dk)=>∀e∈p.1,ub e) (λ_ p q=>p.2.a<p.2.l.length->E9 c n E p q/\p.1.length<q.1.length/\q.1.length<=p.1.length+6/\rem q.2<rem p.2)
  (λi p M=>by
   by_cases h:p.2.a<p.2.l.length
   .obtain⟨q,h1,h2,O,R,S⟩:=g9 c hc U n V E p M h;exact⟨q,λ_=>⟨h1,O,R,S⟩,h2⟩
   .exact⟨p,λh'=>absurd h' h,M⟩) (l,d) hl.2
 have I:∃k,¬((f k).2.a<(f k).2.l.length/\(f k).1.length<150):=by
  refine zDs λhc=>?_
  have u:∀k,(f k).2.a<(f k).2.l.length/\(f k).1.length<150:=λk=>zDs λh=>hc ⟨k,h⟩
  have A:∀k,k<=(f k).1.length:=λk=>by
   induction k with
   |zero=>exact zBn _
   |succ k W=>have:=((G k).2 (u k).1).2.1;omega
  have:=A 150
  grind
 obtain⟨k,hk⟩:=I;obtain⟨N,_,hN,C⟩:=mp (P:=λk=>¬((f k).2.a<(f k).2.l.length/\(f k).1.length<150)) k hk;have B:∀i,i<N->(f i).2.a<(f i).2.l.length/\(f i).1.length<150:=λi hi=>zDs λh=>C i hi h
 have z:∀i,i<=N->(f i).1.length<=156:=λi hi=>by
  cases i with
  |zero=>rw[L];have:=hl.1;dsimp only;omega
  |succ i=>
   grind
 exact⟨f,N,L,λi hi=>⟨((G i).2 (B i hi).1).1,B i hi⟩,hN,⟨z N (zBb _),(G N).1⟩,z⟩
def Fq (g:Nat):Ev:=⟨4,0,g,0,cQ (2000+10*g)⟩
def Tj (c:Cf) (F:Nat×Nat->List Int) (g v:Nat):Ev:=⟨3,zb c.ags g (ln c.ags),0,0,F (g,v)⟩
def Zs (i:Nat):List Ev:=(pi i).map u9
def Pg (c:Cf) (F:Nat×Nat->List Int) (n:Nat):Nat->List Ev
 |0=>Zs n
 |g+1=>Pg c F n g++[Fq g]++(pi 3).map (Tj c F g)
theorem yj (c:Cf) (hc:IY c) (ha:QT c.ags) (cm:Bool) (d:Dk):∃(l:List Ev) (d':Dk),JC l 160/\zO 42 [.ptr 1000 0 0,wD c,bA cm] [(1000,fI d)] (zE hH l) [(1000,fI d')]:=by
 have ks:=zt c ha;have ax:=vT ha (ln c.ags) (zBb _);have a4:=ha.1;obtain⟨n,hn⟩:∃n:Nat,uF c.ags (ln c.ags)=(n:Int):=⟨(uF c.ags (ln c.ags)).toNat,zB⟩;rw[hn]at ks;have a2:n<=8:=by omega
 clear ax hn;have av:=zA vP c.ags
 obtain⟨B,R⟩:=Classical.skolem.1 (λp:Nat×Nat=>show∃q,p.1<4/\p.2<3->BY q/\q.length<=210/\zO 95 [zX ⟨4,(p.1:Int)::0::cQ (1000+(p.1:Int)),[(p.2:Int),(p.2:Int).tmod 2],[]⟩] [] (zE yA q) []from by
  by_cases h:p.1<4/\p.2<3
  .obtain⟨q,h1,h2,h3⟩:=DS _ (Nz (p.1:Int) (p.2:Int) zB zB);exact⟨q,λ_=>⟨h1,h2,h3⟩⟩
  .exact⟨[],λh'=>absurd h' h⟩)
 have L:∀g,g<=ln c.ags->JC (Pg c B n g) (n+4*g):=λg=>by
  induction g with
  |zero=>
   intro _;refine⟨by simp[Pg,Zs],λe he=>?_⟩;obtain⟨s,hs,rfl⟩:=zCl.1 he;rw[zBu]at hs;exact nj zB zB zB zB jT zV
  | succ g ih=>
   intro hg;have h1:=Lb ha (g:Int) (ln c.ags) (zBb _);have h2:JC [Fq g] 1:=⟨zBb _,λe he=>by rw[zB1.1 he];exact nj zB zB zB zB (OG _) (by rw[fA];omega)⟩
   have h3:JC ((pi 3).map (Tj c B g)) 3:=⟨by simp,λe he=>by
    obtain⟨v,hv,rfl⟩:=zCl.1 he;rw[zBu]at hv;obtain⟨q1,q2,_⟩:=R (g,v) ⟨by dsimp only;omega,hv⟩
    exact nj zB zB zB zB q1 zB⟩
   exact(((ih zB).app2 h2).app2 h3).le zB
 have hL:=(L (ln c.ags) (zBb _)).app Qg;obtain⟨f,N,O,hf,ac,S,au⟩:=zj c hc ha n a2 cm (Pg c B n (ln c.ags)++[Ar]) d (hL.le zB);refine⟨(f N).1++[Ar],(f N).2,(S.app Qg).le zB,?_⟩;unfold wD at *;refine eM Tryz.call42 λF hF=>?_
 refine zS ks ?_;refine zQ 7 1001 5 Z Z Z ?_;refine zN (n) [1001,4,1000] [4,1000] [0,2,4,8,17] [7,18,0,2,4,8,17] Z (λi T U=>⟨(7,.ref 1001 0 ((Zs i).map hH).length)::(18,iA i)::T,(1001,.arr 5 ((Zs i).map hH) true)::U⟩) (Lq ?_ ?_)
 .intro i hi;have e:(Zs (i+1)).map hH=(Zs i).map hH++[hH (u9 i)]:=by unfold Zs;rw[zC5,zBd];simp
  have az:((Zs i).map hH).length=i:=by simp[Zs]
  rw[e];generalize (Zs i).map hH=X at*
  (repeat' (first|refine jX ?_|apply yW|apply xH|intro hc|(apply zG;first|(apply yI;refine ZR 23 Z Z Z ?_;refine vD tok Z Z ?_))|refine SB ?_|fail))
  rfl
 ·(refine WW ?_)
  refine zN ((c.ags.map vP).length) [1001,4,1000] [4,1000] [0,2,4,8,29] [7,30,0,2,4,8,29] Z (λi T U=>⟨(7,.ref 1001 0 ((Pg c B n i).map hH).length)::(30,iA i)::T,(1001,.arr 5 ((Pg c B n i).map hH) true)::U⟩) (Lq ?_ ?_)
  .intro g hg;have kc:=cA (2000+10*(g:Int));have kb:=yt c ha (g:Int);have kt:=cA (1000+(g:Int));have ky:=YA (g:Int) 0 (cQ (1000+(g:Int))) (by rw[fA];omega) zB zB zB zB;have az:=(L g zB).1;have a3:((Pg c B n g).map hH).length=(Pg c B n g).length:=zA6 ..;have e2:(Pg c B n (g+1)).map hH=((Pg c B n g).map hH++[hH (Fq g)])++((pi 3).map (Tj c B g)).map hH:=by simp[Pg]
   rw[e2];unfold wD at kb;generalize (Pg c B n g).map hH=X at*
   (have ga:=kc;(repeat' (first|refine jX ?_|apply yW|apply xH|intro hc|(apply zG;first|(apply yI;refine vD tok Z Z ?_))|refine SB ?_|fail))<;>clear ga)
   refine zN (3) [1001,4,1000] [4,1000] [0,2,4,8,10,29,30] [7,42,0,2,4,8,10,29,30] Z (λi T U=>⟨(7,.ref 1001 0 (X++[hH (Fq g)]++((pi i).map (Tj c B g)).map hH).length)::(42,iA i)::T,(1001,.arr 5 (X++[hH (Fq g)]++((pi i).map (Tj c B g)).map hH) true)::U⟩) ?_;(conv=>whnf);refine⟨by(rw[show X++[hH (Fq g)]++((pi 0).map (Tj c B g)).map hH=X++[hH (Fq g)]from zB0 _];rfl),?_,?_⟩
   .intro v hv;have kf:=(R (g,v) ⟨by dsimp only;omega,hv⟩).2.2;dsimp only at kf;have e3:X++[hH (Fq g)]++((pi (v+1)).map (Tj c B g)).map hH=X++[hH (Fq g)]++((pi v).map (Tj c B g)).map hH++[hH (Tj c B g v)]:=by rw[zC5];simp
    have a5:(X++[hH (Fq g)]++((pi v).map (Tj c B g)).map hH).length<=100:=by simp;omega
    rw[e3];unfold zX at kf;rw[show hH (Tj c B g v)= .agg [iA 3,iA (zb c.ags g (ln c.ags)),iA 0,iA 0,zE yA (B (g,v))]from Z];generalize X++[hH (Fq g)]++((pi v).map (Tj c B g)).map hH=Y,B (g,v)=fr,zb c.ags g (ln c.ags)=bz,cQ (1000+(g:Int))=sc at *
    (have ga:=kb;have ge:=kt;have gn:=ky;have gt:=kf;(repeat' (first|refine jX ?_|apply yW|apply xH|intro hc|(apply zG;first|(apply yI;refine vD tok Z Z ?_))|refine SB ?_|fail))<;>clear ga ge gn gt)
    rfl
   ·(refine WW ?_)
    rfl
  .rw [av];have ar:=(L (ln c.ags) (zBb _)).1;have ag:((Pg c B n (ln c.ags)).map hH).length=(Pg c B n (ln c.ags)).length:=zA6 ..
   (repeat' (first|refine jX ?_|apply yW|apply xH|intro hc|(apply zG;first|(apply yI;refine ZR 66 Z Z Z ?_;refine vD tok Z Z ?_))|refine SB ?_|fail))
   refine zN (N) [1000,1001,4] [4] [0,2,4,8] [7,0,2,4,8] Z (λi T U=>⟨(7,.ref 1001 0 ((f i).1.map hH).length)::T,(1000,fI (f i).2)::(1001,.arr 5 ((f i).1.map hH) true)::U⟩) ?_;(conv=>whnf);refine⟨by(rw[O,SA];rfl),?_,?_⟩
   .intro i hi;obtain⟨hR,M,ap⟩:=hf i hi;have a1:((f i).1.map hH).length=(f i).1.length:=zA6 ..;clear hf ac S au O hL ar ag L R ks;generalize f (i+1)=q at *;generalize f i=p at *;obtain⟨l,d⟩:=p;dsimp only at *;have G:=zm d;rw[zA9 M]at G;have b1:=yQ d (max 1 (n:Int)) zB;have b2:=yQ (ad d) 12 zB;have V:=yS d (max 1 (n:Int)) zB zB;have W:=yS (ad d) 12 zB zB;have ko:=sk c ha (nx d (max 1 (n:Int))) zB zB;unfold E9 wD at hR;unfold wD at ko;generalize nx d (max 1 (n:Int))=s at *;generalize nx (ad d) 12=k at *;generalize ad (ad d)=d2 at *;generalize ad d=d1 at*
    rcases hR with⟨h3,rfl⟩|⟨h4,rfl⟩|⟨h5,e,d',rfl,kd⟩|⟨h6,b,d',rfl,m0,m1,dA,dC,q0,q1,e2,d5,hB⟩
    .dsimp only;rw[SA,show hH Ar= .agg [iA 6,iA 0,iA 0,iA 0,.sl false []]from Z];generalize l.map hH=X at *;have:k=0\/k=1\/k=2\/k=3:=by omega
     rcases this with h|h|h|h
     all_goals
      (have ga:=G;have ge:=V;have gn:=W;(repeat' (first|refine jX ?_|apply yW|apply xH|intro hc|(apply zG;first|(apply yI;refine ZR 128 Z Z Z ?_;refine vD tok Z Z ?_))|refine SB ?_|fail))<;>clear ga ge gn)
      rfl
    .dsimp only;have n3:=yS d2 6 zB zB;have b3:=yQ d2 6 zB;generalize ad d2=d3 at *;obtain⟨z,hz⟩:∃z:Nat,nx d2 6=(z:Int):=⟨(nx d2 6).toNat,zB⟩;rw[hz]at n3 b3⊢;rw[show((z:Int)+1).toNat=z+1 by omega,zBd,zEu,show hH Ar= .agg [iA 6,iA 0,iA 0,iA 0,.sl false []]from Z];generalize l.map hH=X at*
     (have ga:=G;have ge:=V;have gn:=W;have gt:=n3;(repeat' (first|refine uT ?_|apply yW|apply xH|intro hc|fail))<;>clear ga ge gn gt)
     refine zN ((z+1)) [1001,4,1000] [4,1000] [0,2,4,8] [7,13,0,2,4,8] Z (λi T U=>⟨(7,.ref 1001 0 (X++pb i (AV.agg [iA 6,iA 0,iA 0,iA 0,.sl false []])).length)::(13,iA ((z:Int)-i))::T,(1001,.arr 5 (X++pb i (AV.agg [iA 6,iA 0,iA 0,iA 0,.sl false []])) true)::U⟩) ?_;(conv=>whnf);refine⟨by(rw[List.replicate_zero,zB0,show(z:Int)-(0:Nat)=z by omega];rfl),?_,?_⟩
     .intro r hr;have a7:(X++pb r (AV.agg [iA 6,iA 0,iA 0,iA 0,.sl false []])).length<=200:=by simp;omega
      rw[show pb (r+1) (AV.agg [iA 6,iA 0,iA 0,iA 0,.sl false []])=pb r (AV.agg [iA 6,iA 0,iA 0,iA 0,.sl false []])++[AV.agg [iA 6,iA 0,iA 0,iA 0,.sl false []]]from zFe,<-zBy,show(z:Int)-((r+1:Nat):Int)=(z:Int)-r-1 by omega];generalize X++pb r (AV.agg [iA 6,iA 0,iA 0,iA 0,.sl false []])=Y at *;have z0:0<=(z:Int)-r:=by omega
      have z1:(z:Int)-r<=10:=by omega
      generalize (z:Int)-r=w at*
      (repeat' (first|refine jX ?_|apply yW|apply xH|intro hc|(apply zG;first|(apply yI;refine ZR 140 Z Z Z ?_;refine vD tok Z Z ?_))|refine SB ?_|fail))
      rfl
     .rw[show(z:Int)-((z+1:Nat):Int)= -1 by omega];refine WW ?_;rfl
    .dsimp only;rw[SA];generalize l.map hH=X at*
     (have ga:=G;have ge:=V;have gn:=W;have gt:=kd;(repeat' (first|refine jX ?_|apply yW|apply xH|intro hc|(apply zG;first|(apply yI;refine vD tok Z Z ?_))|refine SB ?_|fail))<;>clear ga ge gn gt)
     rfl
    .dsimp only;rw[SA,show hH ⟨3,s,0,0,b⟩= .agg [iA 3,iA s,iA 0,iA 0,zE yA b]from Z];obtain⟨k0,O,k1,f1,h2,g5,I,C,A,l0,l1⟩:=hB;unfold wD zX at *;have n3:=yS dA 3 zB zB;have n4:=yS d5 7 zB zB;have n5:=yS (ad d5) 99 zB zB;have n6:=yS (ad (ad d5)) 1024 zB zB;have c3:=yQ dA 3 zB;have c4:=yQ d5 7 zB;have m0:=zA yA q0;have m1:=zA yA q1;generalize l.map hH=X at *;generalize nx dA 3=u at *;generalize nx d5 7=v at *;by_cases hu:u=2
     .rw[zA5 hu]at h2 g5;subst g5;subst h2;have em:zE yA (q0++q1)= .sl false (q0.map yA++q1.map yA):=by unfold zE;rw[zBd]
      rw[em]at I;have ez:zE yA (q0++q1)= .sl false (py (q0.map yA++q1.map yA).length (p5 0 (q0.map yA++q1.map yA))):=by rw[em,zBr,zA8]
      cases cm with
      |true=>
       rw[zA5 Z]at A;subst A;have E:=C (λh=>by cases h.1);subst E;rw[ez];clear I C
       (have ga:=G;have ge:=V;have gn:=W;have gt:=ko;have gv:=k0;have kj:=O;have lc:=n3;have lf:=k1;have lk:=f1;have zc10:=n4;have zc11:=n5;have zc12:=n6;(repeat' (first|refine jX ?_|apply yW|apply xH|intro hc|(apply zG;first|(apply yI;refine vU [1000,1001,4] [0,2,4,8,116,119] Z ?_;(conv=>whnf);refine vD tok Z Z ?_)|(apply yE;refine jH tok Z Z Z Z Z Z Z Z Z Z Z (yM _ _ (λ_=>rfl)) zB Z ?_))|refine SB ?_|fail))<;>clear ga ge gn gt gv kj lc lf lk zc10 zc11 zc12)
       rfl
      | false=>
       rw[Os zBm]at A;by_cases hv:v=6
       .rw[zA5 hv]at A;subst A;have I:=I Z hv;clear C
        (have ga:=G;have ge:=V;have gn:=W;have gt:=ko;have gv:=k0;have kj:=O;have lc:=n3;have lf:=k1;have lk:=f1;have zc10:=n4;have zc11:=n5;have zc12:=n6;have zc13:=I;have kh:=(⟨⟩:yu 98 [1000,1001,4] [0,2,4,7,8,12,110,112,114]);(repeat' (first|refine jX ?_|apply yW|apply xH|intro hc|(apply zG;first|(apply yI;refine vU [1000,1001,4] [0,2,4,8,116,119] Z ?_;(conv=>whnf);refine vD tok Z Z ?_)|(apply yE;refine jH tok Z Z Z Z Z Z Z Z Z Z Z (yM _ _ (λ_=>rfl)) zB Z ?_))|refine SB ?_|fail))<;>clear ga ge gn gt gv kj lc lf lk zc10 zc11 zc12 zc13 kh)
        rfl
       .rw[Os hv]at A;subst A;have E:=C (λh=>hv h.2);subst E;rw[ez];clear I C
        (have ga:=G;have ge:=V;have gn:=W;have gt:=ko;have gv:=k0;have kj:=O;have lc:=n3;have lf:=k1;have lk:=f1;have zc10:=n4;have zc11:=n5;have zc12:=n6;(repeat' (first|refine jX ?_|apply yW|apply xH|intro hc|(apply zG;first|(apply yI;refine vU [1000,1001,4] [0,2,4,8,116,119] Z ?_;(conv=>whnf);refine vD tok Z Z ?_)|(apply yE;refine jH tok Z Z Z Z Z Z Z Z Z Z Z (yM _ _ (λ_=>rfl)) zB Z ?_))|refine SB ?_|fail))<;>clear ga ge gn gt gv kj lc lf lk zc10 zc11 zc12)
        rfl
     .rw[Os hu]at h2 g5;subst g5;subst h2;have em:∀z,zE yA z= .sl false (z.map yA):=λz=>rfl
      rw[em e2]at I;have ez:zE yA e2= .sl false (py (e2.map yA).length (p5 0 (e2.map yA))):=by rw[zBr,zA8];rfl
      cases cm with
      |true=>
       rw[zA5 Z]at A;subst A;have E:=C (λh=>by cases h.1);subst E;rw[ez];clear I C
       (have ga:=G;have ge:=V;have gn:=W;have gt:=ko;have gv:=k0;have kj:=O;have lc:=n3;have lf:=k1;have lk:=f1;have zc10:=n4;have zc11:=n5;have zc12:=n6;(repeat' (first|refine jX ?_|apply yW|apply xH|intro hc|(apply zG;first|(apply yI;refine vU [1000,1001,4] [0,2,4,8,116,119] Z ?_;(conv=>whnf);refine vD tok Z Z ?_)|(apply yE;refine jH tok Z Z Z Z Z Z Z Z Z Z Z (yM _ _ (λ_=>rfl)) zB Z ?_))|refine SB ?_|fail))<;>clear ga ge gn gt gv kj lc lf lk zc10 zc11 zc12)
       rfl
      | false=>
       rw[Os zBm]at A;by_cases hv:v=6
       .rw[zA5 hv]at A;subst A;have I:=I Z hv;clear C
        (have ga:=G;have ge:=V;have gn:=W;have gt:=ko;have gv:=k0;have kj:=O;have lc:=n3;have lf:=k1;have lk:=f1;have zc10:=n4;have zc11:=n5;have zc12:=n6;have zc13:=I;have kh:=(⟨⟩:yu 98 [1000,1001,4] [0,2,4,7,8,12,110,112,114]);(repeat' (first|refine jX ?_|apply yW|apply xH|intro hc|(apply zG;first|(apply yI;refine vU [1000,1001,4] [0,2,4,8,116,119] Z ?_;(conv=>whnf);refine vD tok Z Z ?_)|(apply yE;refine jH tok Z Z Z Z Z Z Z Z Z Z Z (yM _ _ (λ_=>rfl)) zB Z ?_))|refine SB ?_|fail))<;>clear ga ge gn gt gv kj lc lf lk zc10 zc11 zc12 zc13 kh)
        rfl
       .rw[Os hv]at A;subst A;have E:=C (λh=>hv h.2);subst E;rw[ez];clear I C
        (have ga:=G;have ge:=V;have gn:=W;have gt:=ko;have gv:=k0;have kj:=O;have lc:=n3;have lf:=k1;have lk:=f1;have zc10:=n4;have zc11:=n5;have zc12:=n6;(repeat' (first|refine jX ?_|apply yW|apply xH|intro hc|(apply zG;first|(apply yI;refine vU [1000,1001,4] [0,2,4,8,116,119] Z ?_;(conv=>whnf);refine vD tok Z Z ?_)|(apply yE;refine jH tok Z Z Z Z Z Z Z Z Z Z Z (yM _ _ (λ_=>rfl)) zB Z ?_))|refine SB ?_|fail))<;>clear ga ge gn gt gv kj lc lf lk zc10 zc11 zc12)
        rfl
   .rw[show zE hH ((f N).1++[Ar])= .sl false ((f N).1.map hH++[hH Ar]) by unfold zE;rw[SA]];have a6:=S.1;have a1:((f N).1.map hH).length=(f N).1.length:=zA6 ..;have G:=zm (f N).2;clear hf S au O hL ar ag L R ks;generalize f N=p at *;obtain⟨l,d⟩:=p;dsimp only at *;rw[show hH Ar= .agg [iA 6,iA 0,iA 0,iA 0,.sl false []]from Z];by_cases M:d.a<ln d.l
    .have ap:¬l.length<150:=λh=>ac ⟨M,h⟩
     rw[zA9 M]at G;generalize l.map hH=X at*
     (have ga:=G;(repeat' (first|refine jX ?_|apply yW|apply xH|intro hc|(apply zG;first|(apply yI;refine ZR 154 Z Z Z ?_;refine vD tok Z Z ?_))|refine SB ?_|fail))<;>clear ga)
     exact zI [1000] Z Z (zBq (AV.sl false) zA8) Z
    .rw[zA7 M]at G;generalize l.map hH=X at*
     (have ga:=G;(repeat' (first|refine jX ?_|apply yW|apply xH|intro hc|(apply zG;first|(apply yI;refine ZR 154 Z Z Z ?_;refine vD tok Z Z ?_))|refine SB ?_|fail))<;>clear ga)
     exact zI [1000] Z Z (zBq (AV.sl false) zA8) Z
def xj (y:Cy):Prop:=∀d∈y.ds,Yi d.rg.tk/\∀x∈d.au,x=false
theorem Yi.exp {l:List Tk} (h:Yi l) (f3:Int):Yi (ZD l f3):=λt z u=>by
 obtain⟨j,hj,rfl⟩:=zCl.1 z;rw[zBu]at hj;unfold FS at u⊢;split at u
 .cases u
 .rw[Os ‹_›];exact h _ (yB l j hj) u
def Dq {l:List Bool} (h:∀x∈l,x=false):∀x∈Vg ins l,x=false:=λx u=>by
 obtain⟨i,hi,rfl⟩:=OX u;unfold Vg at hi⊢;rw[wP]at hi;rw[zBj,vY,zA5 hi,zA5 hi,zDr];unfold QN;split
 .exact h _ (yB l i hi)
 .rfl
theorem xj.tick (N:xj y) {R:Nat->DR} (z:zh y ins R):xj (uQ y R):=λd hd=>by
 obtain⟨a,u,rfl⟩:=aI hd;obtain⟨C,E⟩:=N _ (yB y.ds a u);obtain⟨A,B⟩:=(z a u).1.na (Yi.exp C _);refine⟨A,?_⟩;rw[B];exact Dq E
theorem xj.dy (N:xj y) (e:Ev):xj (ae y e):=by
 unfold ae;split
 .unfold WI;split
  .intro d hd;rename_i hc
   rcases zDm hd with hd|rfl
   .exact N d hd
   .have:=N _ (yB y.ds e.a.toNat zB);exact this
  .exact N
 .unfold UA;split
  all_goals exact N
theorem Ja (u:List Jn) (D D':Nat->Sg×Sv):∀n,(aH (QP u D n)).length=(aH (QP u D' n)).length
 |0=>rfl
 | n+1=>by
  have z:=Ja u D D' n
  have hv:∀(j:Jn) (p:Sg×Sv),(j5 (QR j p.1 p.2)).length=3+ln j.ph:=λj p=>by
   unfold QR j5;split
   .simp[Ay];omega
   .simp[HM,wP];omega
  have e:∀D,aH (QP u D (n+1))=aH (QP u D n)++j5 (QR (u.getD n dd) (D n).1 (D n).2):=λD=>by simp[aH,QP,zC5]
  rw[e,e,zBa,zBa,z,hv,hv]
theorem Cq (d:Dk) (r:Int):∀i,∀a∈(VQ d r i).1,a.rights=r
 |0,a,h=>by cases h
 |i+1,a,h=>by
  have h:a∈(VQ d r i).1++[Zj (VQ d r i).2 i r]:=h
  rcases zBs.1 h with h|h
  .exact Cq d r i a h
  .rw[zB1.1 h];rfl
def D5 (d:Dk) (r:Int):∀a∈(IX d r).ags,a.rights=r:=λa h=>Cq _ _ _ a h
def naN (h:∀a∈c.ags,ji a.rights 10=false):xj (WJ c):=λd hd=>by
 have hd:d∈OZ c (ln c.ags):=hd;unfold OZ at hd;obtain⟨k,hk,rfl⟩:=zCl.1 hd;refine⟨λt u z=>?_,λx A=>zFi A⟩;have u:t∈Xb (c.ags.getD k dd):=u;unfold Xb at u
 rcases zCt.1 u with rfl|u
 .exact h _ (yB c.ags k (zBu.1 hk))
 .rw[zFi u]at z;cases z
def f9 {b:QO} (N:xj b.y) {e:Ev} {r:pz} (D:KT b e r):xj r.b.y:=by
 by_cases h1:e.k=1\/e.k=2\/e.k=3
 .rw[D.s h1];unfold Ga
  split<;>exact N
 by_cases h2:e.k=4\/e.k=5
 .rw[D.y h2];exact N.dy e
 by_cases u:e.k=6
 .obtain⟨E,C,z,A,_⟩:=D.t6 u;rw[A];obtain⟨hT,B,_⟩:=z.tk;dsimp only;rw[B];exact N.tick hT
 .rw[D.o zB];exact N
structure PlI (c:Cf) (n:Nat) (b:QO):Prop where
 i:Mg b
 u:KU b.y.ds
 n:b.y.f3<=n
 a:xj (WJ c)->xj b.y
 c:b.y.c=c
def wj (g:Int) (hg:0<=g/\g<=63) (z:Dk):∃(b:QO) (d':Dk),PlI (IX z g) 160 b/\zO 9 [.ptr 1000 0 0,iA g] [(1000,fI z)] (VV b) [(1000,fI d')]:=by
 have L:=Hp z g;have hv:=o7 z g zB;generalize IX z g=c,cfD z g=e1 at *;obtain⟨l,R,hl,O⟩:=yj c hv.w hv.ag false e1;have E:=Wx c hv;obtain⟨f,V,fs⟩:∃f:Nat->QO×Dk,f 0=(K6 c,R)/\∀i,f (i+1)=(if(i:Int)<12+nx (f i).2 60 then(J6 (f i).1 (l.getD i dd)).b else(f i).1,ad (f i).2):=⟨λn=>Nat.rec (K6 c,R) (λi p=>(if(i:Int)<12+nx p.2 60 then(J6 p.1 (l.getD i dd)).b else p.1,ad p.2)) n,rfl,λ_=>rfl⟩;have ac:=hl.1
 have C:∀i,i<=ln l->PlI c i (f i).1:=λi=>by
  induction i with
  |zero=>intro _;rw[V];exact⟨V9 c hv,jx c,zDg _,id,rfl⟩
  |succ i ih=>
   intro hi;obtain⟨I,i2,i3,i4,i5⟩:=ih zB;rw[fs];dsimp only;split
   .have D:=nr I zB (hl.2 _ (yB l i zB));exact⟨D.i,F5 I i2 D,by have:=D.n;omega,λh=>f9 (i4 h) D,D.c.trans i5⟩
   .exact⟨I,i2,zB,i4,i5⟩
 have A:=C (ln l) (zBb _);refine⟨(f (ln l)).1,(f (ln l)).2,⟨A.i,A.u,by have:=A.n;omega,A.a,A.c⟩,?_⟩;clear A;have ap:=zA hH l;have G:∀b:QO,VV b= .agg [zE wK b.y.c.js,zE vP b.y.c.ags,iA b.y.c.per,iA b.y.c.cap,iA b.y.c.hold,iA b.y.c.lock,bA false,iA b.y.f3,zE zM b.y.ds,zE vG b.y.sg,zE wW b.y.sv,zE iA b.y.st,zE vV b.y.vw,zE dD b.ss]:=λ_=>rfl
 unfold wD at L E O;rw[G]at E⊢;refine eM Tryz.call9 λF hF=>?_
 refine yJ (qM L E O) ?_;refine zU (l) [6,1000,4] [4] [0,4,6,18,19] [20,0,4,6,18,19] Z (λi f4 T U=>⟨(20,iA i)::T,(6,.box [zE wK (f i).1.y.c.js,zE vP (f i).1.y.c.ags,iA (f i).1.y.c.per,iA (f i).1.y.c.cap,iA (f i).1.y.c.hold,iA (f i).1.y.c.lock,bA false,iA (f i).1.y.f3,zE zM (f i).1.y.ds,zE vG (f i).1.y.sg,zE wW (f i).1.y.sv,zE iA (f i).1.y.st,zE vV (f i).1.y.vw,zE dD (f i).1.ss])::(1000,fI (f i).2)::U⟩) ?_;(conv=>whnf);refine⟨by(rw[V];rfl),?_,?_⟩
 .intro i f4 x post B hi;have hy:=yG hH B hi;have ar:=zW B hi;have S:l.getD i dd=x:=by rw[B,<-hi];simp
  have H:=C i zB;have W:=yS (f i).2 60 zB zB;have D:=nr H.i (by have:=H.n;omega) (hl.2 x (by rw[B];simp));have M:=P9 (f i).1 H.i H.u (by have:=H.n;omega) x (hl.2 x (by rw[B];simp)).g _ D;rw[fs,S];dsimp only;rw[G,G]at M;unfold hH C9 at M;unfold hH at hy;clear C fs D H B S O E L hl;generalize J6 (f i).1 x=r at *;generalize (f i).1=b at *;generalize (f i).2=d at *;have hb:=yQ d 60 zB;by_cases Y:(i:Int)<12+nx d 60
  .rw[zA5 Y];refine yJ (xW W M) ?_;rfl
  .rw[Os Y];refine zS W ?_;rfl
 .clear C fs;refine WW ?_;exact zI [1000] Z Z Z Z
structure ImR (c:Cf) (g:Int) (d:Dk) (x:Ms) (p:List Int) (d':Dk):Prop where
 km:zO 20 [.ptr 1000 0 0,wD c,iA g,bA false] [(1000,fI d)] (zX x) [(1000,fI d')]
 ke:zO 21 [zX x] [] (.tup [zE yA p,iA 0]) []
def D9 (c:Cf) (g:Int) (a b:List It×Dk):Prop:=∃(m:Ms) (p:List Int),ImR c g a.2 m p b.2/\b.1=a.1++[⟨0,m.kind,p⟩]
def jz (c:Cf) (hc:IY c) (g:Int) (C:0<=g/\g<256) (d:Dk):∃f:Nat->List It×Dk,f 0=([],d)/\∀k,((f k).1.length=k/\∀x∈(f k).1,Ps x)/\D9 c g (f k) (f (k+1)):=
 LN (λk (a:List It×Dk)=>a.1.length=k/\∀x∈a.1,Ps x) (λ_ a b=>D9 c g a b)
  (λk a z=>by
   obtain⟨m,B,A,_,E⟩:=YI c hc g C false a.2;obtain⟨p,y,n,G⟩:=tq m A;have hk:=A.k;refine⟨(a.1++[⟨0,m.kind,p⟩],B),⟨m,p,⟨E,G⟩,rfl⟩,by simp[z.1],λx u=>?_⟩
   rcases zBs.1 u with u|u
   .exact z.2 x u
   .rw[zB1.1 u]
    exact⟨y,by dsimp only;omega,by dsimp only;omega,by dsimp only;omega⟩)
  ([],d) ⟨rfl,λx u=>by cases u⟩
def ipS (c:Cf) (g:Int) (a b:List In×Dk):Prop:=∃(f:Nat->List It×Dk) (N:Nat),N<=3/\nx (ad a.2) 4=(N:Int)/\f 0=([],ad (ad a.2))/\(∀k,(f k).1.length=k/\D9 c g (f k) (f (k+1)))/\
 b=(a.1++[⟨decide (0<nx a.2 5),(f N).1++if nx (f N).2 9=8 then [⟨4,0,[]⟩]else []⟩],ad (f N).2)
theorem C5 (c:Cf) (hc:IY c) (g:Int) (C:0<=g/\g<256) (n:Nat) (a:List In×Dk) (A:a.1.length=n/\∀i∈a.1,HL i):∃b,ipS c g a b/\b.1.length=n+1/\∀i∈b.1,HL i:=by
 have w:=yQ (ad a.2) 4 zB;obtain⟨f,B,z⟩:=jz c hc g C (ad (ad a.2));refine⟨_,⟨f,(nx (ad a.2) 4).toNat,zB,zB,B,λk=>⟨(z k).1.1,(z k).2⟩,rfl⟩,by simp[A.1],λi hi=>?_⟩
 rcases zBs.1 hi with hi|hi
 .exact A.2 i hi
 .rw[zB1.1 hi];have hl:=(z (nx (ad a.2) 4).toNat).1;refine⟨?_,λx u=>?_⟩
  .grind
  .rcases zBs.1 u with u|u
   .exact hl.2 x u
   .split at u
    .rw[zB1.1 u];exact⟨jT,by simp,by dsimp only;omega,by dsimp only;omega⟩
    .cases u
def ipG (c:Cf) (g:Nat) (a b:List In×Dk):Prop:=∃h:Nat->List In×Dk,h 0=a/\(∀s,(h s).1.length=a.1.length+s/\ipS c (g:Int) (h s) (h (s+1)))/\b=h (c.ags.getD g dd).ses.toNat
def B5 (c:Cf) (hv:qb c) (d:Dk):∃f:Nat->List In×Dk,f 0=([],d)/\∀g,(g<=ln c.ags->((f g).1.length:Int)=uF c.ags g)/\(∀i∈(f g).1,HL i)/\(g<ln c.ags->ipG c g (f g) (f (g+1))):=by
 have C:=hv.ag;have L:=C.1
 obtain⟨f,E,A⟩:=LN (λg (a:List In×Dk)=>(g<=ln c.ags->(a.1.length:Int)=uF c.ags g)/\∀i∈a.1,HL i) (λg a b=>g<ln c.ags->ipG c g a b)
  (λg a z=>by
   by_cases B:g<ln c.ags
   .obtain⟨h,G,hh⟩:=LN (λs (b:List In×Dk)=>b.1.length=a.1.length+s/\∀i∈b.1,HL i) (λs b u=>ipS c (g:Int) b u)
     (λs b hb=>by
      obtain⟨u,h1,h2,I⟩:=C5 c hv.w (g:Int) zB (a.1.length+s) b hb
      exact⟨u,h1,zB,I⟩) a ⟨rfl,z.2⟩
    have M:=C.at (i:=g) B;have hN:=(hh (c.ags.getD g dd).ses.toNat).1;have h1:=z.1 zB;refine⟨_,λ_=>⟨h,G,λs=>⟨(hh s).1.1,(hh s).2⟩,rfl⟩,λ_=>?_,hN.2⟩
    show _=uF c.ags g+(c.ags.getD g dd).ses
    omega
   .exact⟨a,λh=>absurd h B,λh=>by omega,z.2⟩)
  ([],d) ⟨λ_=>rfl,λi hi=>by cases hi⟩
 exact⟨f,E,λg=>⟨(A g).1.1,(A g).1.2,(A g).2⟩⟩
theorem vj (y:Cy) (hv:qb y.c) (d:Dk):∃(ins:List In) (d':Dk),((ln ins:Int)=uF y.c.ags (ln y.c.ags)/\∀i∈ins,HL i)/\zO 10 [.ptr 1000 0 0,qX y] [(1000,fI d)] (zE uI ins) [(1000,fI d')]:=by
 obtain⟨f,f0,G⟩:=B5 y.c hv d;refine⟨(f (ln y.c.ags)).1,(f (ln y.c.ags)).2,⟨(G _).1 (zBb _),(G _).2.1⟩,?_⟩;have hw:=hv.ag;have h4:=hw.1;have E:=vT hw;have W:=zA vP y.c.ags;unfold qX ZB;refine eM Tryz.call10 λF hF=>?_
 refine WW ?_;refine zQ 5 1041 2 Z Z Z ?_;rw[W];refine zN (ln y.c.ags) [1041,1000,3] [3] [0,3,15,16] [5,17,0,3,15,16] Z (λi T U=>⟨(5,.ref 1041 0 ((f i).1.map uI).length)::(17,iA i)::T,(1041,.arr 2 ((f i).1.map uI) true)::(1000,fI (f i).2)::U⟩) ?_;(conv=>whnf);refine⟨by(rw[f0];rfl),?_,?_⟩
 .intro g hg;have hy:=zJ vP y.c.ags g hg;obtain⟨h,h0,hh,hN⟩:=(G g).2.2 hg;have ap:=(G g).1 zB;have hb:=E g zB;have R:=hw.at (i:=g) hg;rw[hN];clear hN G f0 E;rw[<-h0]at ap⊢;have hl:=λs=>(hh s).1
  rw[<-h0]at hl;obtain⟨N,hN⟩:∃N:Nat,(y.c.ags.getD g dd).ses=(N:Int):=⟨(y.c.ags.getD g dd).ses.toNat,zB⟩;rw[hN,zBx];rw[hN]at R;generalize av:y.c.ags.getD g dd=a at *;unfold vP at hy;rw[hN]at hy;refine WW ?_;refine zN (N) [1041,1000,3,7] [3,7] [0,3,6,15,16,17,23] [5,24,0,3,6,15,16,17,23] Z (λi T U=>⟨(5,.ref 1041 0 ((h i).1.map uI).length)::(24,iA i)::T,(1041,.arr 2 ((h i).1.map uI) true)::(1000,fI (h i).2)::U⟩) (Lq ?_ ?_)
  .intro s hs;obtain⟨q,M,hM,hn,q0,S,B⟩:=(hh s).2;have az:=hl s;have a1:=zA uI (h s).1;rw[B];dsimp only;clear B hh hl;have n1:=yS (h s).2 5 zB zB;have n2:=yS (ad (h s).2) 4 zB zB;have n3:=yS (q M).2 9 zB zB;rw[hn]at n2;rw[zBd,show∀z,[z].map uI=[uI z]from λ_=>rfl];have ac:=yQ (h s).2 5 zB;have u:=λk=>(S k).1
   generalize hX:(h s).1.map uI=X at *;generalize (h s).2=e at *;generalize O:decide (0<nx e 5)=op at *;refine yJ (xW n1 n2) ?_;rw[show uS BinOp.gtr (nx e 5) 0=op from O];clear O ac n1 n2;refine gL 8 1 1043 3 Z Z Z Z Z ?_;refine zN (M) [8,1043,1000,3,1041,7] [3,1041,7] [0,3,5,6,8,15,16,17,23,24] [9,0,3,5,6,8,15,16,17,23,24] Z (λi T U=>⟨(9,iA ((M:Int)-i))::T,(8,.box [bA op,.ref 1043 0 ((q i).1.map vE).length])::(1043,.arr 3 ((q i).1.map vE) true)::(1000,fI (q i).2)::U⟩) ?_;(conv=>whnf);refine⟨by(rw[q0,show(M:Int)-(0:Nat)=M by omega];rfl),?_,?_⟩
   .intro k hk;obtain⟨m,p,⟨km,ke⟩,C⟩:=(S k).2;have ar:=u k;have I:=zA vE (q k).1;rw[C,zBd,show∀z,[z].map vE=[vE z]from λ_=>rfl,show(M:Int)-((k+1:Nat):Int)=(M:Int)-(k:Int)-1 by omega];clear C S u n3;generalize (q k).1.map vE=Y,(q (k+1)).2=e2,(q k).2=e1 at *;unfold wD at km;unfold zX at km ke;unfold vE;refine yJ (xW km ke) ?_;rfl
   .have ar:=u M;clear S u;generalize (q M).2=A at *;generalize (q M).1=L at *;have I:=zA vE L;have ax:=yQ A 9 zB
    (repeat' (first|refine Tc ?_|apply yW|apply xH|intro hc|(apply zG;first|refine SM ?_)|fail))
    refine yC Z ?_
    (have ga:=n3;(repeat' (first|refine Tc ?_|apply yW|apply xH|intro hc|(apply zG;first|refine SM ?_)|fail))<;>clear ga)
    refine eQ [3,7,8,1000,1041,1043] [0,3,5,6,8,15,16,17,23,24] ⟨[(0,.ptr 1000 0 0),(3,.ptr 3 0 0),(5,.ref 1041 0 (ln X)),(6,iA g),(8,.ptr 8 0 0),(15,.sl false (y.c.ags.map vP)),(16,iA (ln y.c.ags)),(17,iA g),(23,iA N),(24,iA s)],[(3,.box [zE wK y.c.js,zE vP y.c.ags,iA y.c.per,iA y.c.cap,iA y.c.hold,iA y.c.lock,bA y.rf,iA y.f3,zE zM y.ds,zE vG y.sg,zE wW y.sv,zE iA y.st,zE vV y.vw]),(7,.box [zE yA a.sec,iA a.rights,iA a.cls,zE iA a.lim,iA a.req,iA N,iA a.rate,iA a.burst]),(8,.box [bA op,.ref 1043 0 ((L++if nx A 9=8 then([⟨4,0,[]⟩]:List It)else []).map vE).length]),(1000,fI (ad A)),(1041,.arr 2 X true),(1043,.arr 3 ((L++if nx A 9=8 then([⟨4,0,[]⟩]:List It)else []).map vE) true)]⟩ rfl ?_ ?_
    .by_cases V:nx A 9=8
     .rw[V,zA5 Z,zBd,show([⟨4,0,[]⟩]:List It).map vE=[.agg [iA 4,iA 0,.sl false []]]from Z];generalize L.map vE=Y at*
      (repeat' (first|refine jX ?_|apply yW|apply xH|intro hc|(apply zG;first|(apply yI;refine ZR 60 Z Z Z ?_;refine vD tok Z Z ?_))|refine SB ?_|fail))
      exact⟨rfl,rfl⟩
     .rw[show uS BinOp.eql (nx A 9) 8=false by simp[uS,V],Os V,zB0];generalize L.map vE=Y at *;refine WW ?_;exact⟨rfl,rfl⟩
    .have au:((L++if nx A 9=8 then([⟨4,0,[]⟩]:List It)else []).map vE).length<=4:=by
      rw[zA6,zBa]
      split<;>simp<;>omega
     generalize (L++if nx A 9=8 then([⟨4,0,[]⟩]:List It)else [])=L2 at *;unfold uI zE;dsimp only;generalize L2.map vE=Y at *;refine wB [3,7,8,1000,1041] [0,3,5,6,8,15,16,17,23,24] Z ?_
     (conv=>whnf)
     simp only[zBr,zA8];refine WW ?_;rfl
  ·(refine WW ?_)
   rfl
 ·(refine WW ?_)
  refine zI [1000] Z Z ?_ Z
  show AV.sl false (py ((f (ln y.c.ags)).1.map uI).length ((f (ln y.c.ags)).1.map uI))=_
  rw[zA8];rfl
def Bq (c:Cf) (A:QT c.ags) (a k:Nat) (C:a<ln c.ags) (hk:(k:Int)<(c.ags.getD a dd).ses) (S:Int) (W:S=uF c.ags a+k):zO 23 [wD c,iA S] [] (.tup [iA a,iA k]) []:=by
 have R:=A.1;have B:=zA vP c.ags;have hb:=λi hi=>vT A i hi
 have u:=λi (hi:i+1<=a)=>hG A hi (zFk C)
 unfold wD;refine eM Tryz.call23 λF hF=>?_
 refine WW ?_;rw[B];refine yU (ln c.ags) [] [] [9,10] [1,11,9,10] Z (λi T U O=>∃(n:Nat),(i<=a)/\O=⟨(1,iA (S-uF c.ags i))::(11,iA i)::T,U⟩) (Lp ?_ ?_ ?_)
 .exact⟨0,zBn _,by rw[show S-uF c.ags 0=S by show S-0=S;omega];rfl⟩
 .rintro i st hi ⟨_,hia,rfl⟩;have E:=zJ vP c.ags i hi;have h2:=A.at (i:=i) hi;have L:=hb i zB;have I:=hb a zB;have V:=A.at (i:=a) C;have z:uF c.ags (i+1)=uF c.ags i+(c.ags.getD i dd).ses:=rfl;by_cases e:i=a
  .subst e;rw[show S-uF c.ags i=(k:Int) by omega];clear hb u z;generalize c.ags.getD i dd=g at *;unfold vP at E;exact ly
  .have M:=u i zB;have G:S-uF c.ags (i+1)=S-uF c.ags i-(c.ags.getD i dd).ses:=by omega
   rw[z]at M;clear hb u z;generalize uF c.ags (i+1)=q,uF c.ags i=s,c.ags.getD i dd=g at *;unfold vP at E;refine WW ?_;exact⟨0,zB,by rw[G];rfl⟩
 .rintro st ⟨_,hia,rfl⟩;omega
def c9 (c:Cf) (h:Nat) (ins ins2:List In):Prop:=ln ins2=ln ins/\∀a k:Nat,a<ln c.ags->a≠h->(k:Int)<(c.ags.getD a dd).ses->ins2.getD ((uF c.ags a).toNat+k) dd=ins.getD ((uF c.ags a).toNat+k) dd
def o9 (A:c9 c h ins ins2) (u:a<ln c.ags) (hh:a≠h):DJ c ins2 a=DJ c ins a:=by
 unfold DJ Aa;apply zF2;intro k hk;have:=zBu.1 hk;exact A.2 a k u hh zB
def m9 (z:LX y) (A:c9 y.c h ins ins2) (u:a<ln y.c.ags) (hh:a≠h):gK y ins2 a=gK y ins a:=by
 unfold gK;rw[o9 A u hh]
def A5 (u:QT c.ags) (T:Nat->Nat->List Ms) {k:Nat} (G:a<ln c.ags) (hk:(k:Int)<(c.ags.getD a dd).ses):(ZK c T (ln c.ags)).getD ((uF c.ags a).toNat+k) []=T a k:=by
 have hl:=cR u T (ln c.ags) (zBb _);have A:uF c.ags (a+1)<=uF c.ags (ln c.ags):=hG u zB (zBb _);have C:uF c.ags (a+1)=uF c.ags a+(c.ags.getD a dd).ses:=rfl;have I:=vT u a zB;obtain⟨b,j,h1,h2,E,z⟩:=PN u T (ln c.ags) (zBb _) ((uF c.ags a).toNat+k) zB;have L:=vT u b zB;have B:uF c.ags (b+1)=uF c.ags b+(c.ags.getD b dd).ses:=rfl
 have e:a=b:=by
  rcases zFn a b with h|h|h
  .have:=hG u (show a+1<=b by omega) zB;omega
  .exact h
  .have:=hG u (show b+1<=a by omega) zB;omega
 subst e;obtain rfl:k=j:=by omega
 exact z
structure ApT (x x' r0:List Ms) (st st':Ms):Prop where
 x:x=r0++[st]
 x':x'=r0++[st']
 s:st.kind=17
 s':st'.kind=17
 l:st.data.length=st'.data.length
def l9 (E:LX y) (N:xj y) (A:c9 y.c h ins ins2) (W:zh y ins (gK y ins)) (Y:zh y ins2 (gK y ins2)) (s:Nat) (hs:s<(ZK y.c (SJ (uQ y (gK y ins)) ins (gK y ins) (ln y.ds)) (ln y.c.ags)).length):
  ∃a k:Nat,(a<ln y.c.ags/\(k:Int)<(y.c.ags.getD a dd).ses/\s=(uF y.c.ags a).toNat+k)/\(a≠h->
   ((ZK y.c (SJ (uQ y (gK y ins)) ins (gK y ins) (ln y.ds)) (ln y.c.ags)).getD s []=[]/\(ZK y.c (SJ (uQ y (gK y ins2)) ins2 (gK y ins2) (ln y.ds)) (ln y.c.ags)).getD s []=[])\/
   ∃r0 st st',ApT ((ZK y.c (SJ (uQ y (gK y ins)) ins (gK y ins) (ln y.ds)) (ln y.c.ags)).getD s []) ((ZK y.c (SJ (uQ y (gK y ins2)) ins2 (gK y ins2) (ln y.ds)) (ln y.c.ags)).getD s []) r0 st st'):=by
 obtain⟨a,k,h1,h2,M,V⟩:=PN E.v.ag (SJ (uQ y (gK y ins)) ins (gK y ins) (ln y.ds)) _ (zBb _) s hs;refine⟨a,k,⟨h1,h2,M⟩,λhh=>?_⟩;have u:a<ln y.ds:=by have:=E.dl;omega
 have S:(ZK y.c (SJ (uQ y (gK y ins2)) ins2 (gK y ins2) (ln y.ds)) (ln y.c.ags)).getD s []=SJ (uQ y (gK y ins2)) ins2 (gK y ins2) (ln y.ds) a k:=by
  rw[M];exact A5 E.v.ag _ h1 h2
 rw[V,S];have U:=A.2 a k h1 hh h2;have L:=m9 E A h1 hh;have I:(uQ y (gK y ins)).ds.getD a dd=(gK y ins a).d:=fZ u;have C:(uQ y (gK y ins2)).ds.getD a dd=(gK y ins a).d:=(fZ u).trans (by rw[L]);have G:=((W a u).1.na (Yi.exp (N _ (yB y.ds a u)).1 _)).2
 have B:(gK y ins a).d.au.getD k dd=false:=by
  rw[G];have z:=Dq (ins:=DJ y.c ins a) (N _ (yB y.ds a u)).2;by_cases hk:k<(Vg (DJ y.c ins a) (XL (y.ds.getD a dd) (y.f3+1)).au).length
  .exact z _ (yB _ k hk)
  .rw[zBj,zCh zB];rfl
 unfold SJ;rw[show(uQ y (gK y ins2)).c=y.c from Z,show(uQ y (gK y ins)).c=y.c from Z,U];split
 .refine .inr ⟨(gK y ins a).R.getD k [],RY (gK y ins a).d (uQ y (gK y ins)).vw (y.f3+1),RY (gK y ins a).d (uQ y (gK y ins2)).vw (y.f3+1),?_,?_,rfl,rfl,?_⟩
  .unfold Pb;rw[I,B,Os zBm,zB0];rfl
  .unfold Pb;rw[C,B,Os zBm,zB0,L];rfl
  .have O:∀v,(RY (gK y ins a).d v (y.f3+1)).data.length=(aH v).length+(gK y ins a).d.rg.ag.req.toNat*3:=λv=>by
    show(aH v++VS _ v _ _).length=_
    rw[zBa];simp[VS]
   rw[O,O,show(uQ y (gK y ins)).vw=QP y.c.js _ (ln y.c.js) from Z,show(uQ y (gK y ins2)).vw=QP y.c.js _ (ln y.c.js) from Z,Ja]
 .exact .inl ⟨rfl,rfl⟩
def s9 {x B u:List Ms} {st st':Ms} (A:ApT x B u st st'):ln B=ln x/\∀p,p<ln x->∃m z,x[p]? =some m/\B[p]? =some z/\z.kind=m.kind/\z.data.length=ln m.data/\(m.kind≠17->z=m):=by
 rw[A.x,A.x'];refine⟨by simp,λp C=>?_⟩;rw[zBa,zDb]at C;by_cases h:p<ln u
 .exact⟨u[p],u[p],by rw[zB9 h,zB2 h],by rw[zB9 h,zB2 h],rfl,rfl,λ_=>rfl⟩
 .obtain rfl:p=ln u:=by omega
  exact⟨st,st',by simp,by simp,by rw[A.s,A.s'],A.l.symm,λh=>absurd A.s h⟩
def i9 {m:Ms} (h:ZH m):Pv m:=by
 obtain⟨u,S⟩:=h;have hd:=S.z;exact⟨by rw[u];simp,by have:=S.l;omega,zB⟩
