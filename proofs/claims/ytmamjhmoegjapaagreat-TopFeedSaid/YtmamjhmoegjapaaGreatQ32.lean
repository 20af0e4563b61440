/- Part 32. -/
import Derived.Test.YtmamjhmoegjapaaGreatQ31
import Derived.Lib.SliceRun
namespace Go.Proofs.YtmamjhmoegjapaaGreat
namespace Av
set_option linter.all false
set_option maxRecDepth 4000
set_option maxHeartbeats 8000000
theorem XY (l:List Ev) (e:Ev):(l++[e]).map qK=l.map qK++[qK e]:=by simp
theorem NW.app2 {a b:List Ev} {n m:Nat} (h:NW a n) (h2:NW b m):NW (a++b) (n+m):=
 ⟨by have:=h.1;have:=h2.1;rw[zXb];omega,λx hx=>(zXs.1 hx).elim (h.2 x) (h2.2 x)⟩
theorem NW.of {l:List Ev} (h:∀e∈l,VW e):NW l l.length:=⟨zXc _,h⟩
def tkE:Ev:=⟨6,0,0,0,[]⟩
theorem zAk:VW tkE:=evb zB zB zB zB kC zS
def zTx (s:Nat):Ev:=⟨1,s,0,0,[]⟩
structure BtR (c:Cf) (cm:Bool) (g:Int) (d:Dk) (b:List Int) (d':Dk) (m0 m1:Ms) (dA dC:Dk) (q0 q1 b2:List Int) (d5:Dk):Prop where
 k0:zN 48 [.ptr 1000 0 0,wT c,iA g,bA cm] [(1000,dX d)] (zY m0) [(1000,dX dA)]
 f0:zN 45 [zY m0] [] (.ref 1031 0 (q0.map yA).length) [(1031,.arr 1 (q0.map yA) true)]
 k1:zN 48 [.ptr 1000 0 0,wT c,iA g,bA cm] [(1000,dX (ad dA))] (zY m1) [(1000,dX dC)]
 f1:zN 45 [zY m1] [] (zD yA q1) []
 h2:b2=if nx dA 3=2 then q0++q1 else q0
 h5:d5=if nx dA 3=2 then dC else ad dA
 sp:cm=false->nx d5 7=6->zN 50 [zD yA b2,iA (nx (ad d5) 99),iA (nx (ad (ad d5)) 1024)] [] (zD yA b) []
 hb:¬(cm=false/\nx d5 7=6)->b=b2
 hd:d'=if cm=true then d5 else if nx d5 7=6 then ad (ad (ad d5))else ad d5
 l0:q0.length<=210
 l1:q1.length<=210
theorem zTy (c:Cf) (hc:CfW c) (cm:Bool) (g:Int) (hg:0<=g/\g<256) (d:Dk):∃(b:List Int) (d':Dk),(BY b/\b.length<=1000/\rem d'<=rem d)/\∃m0 m1 dA dC q0 q1 b2 d5,BtR c cm g d b d' m0 m1 dA dC q0 q1 b2 d5:=by
 obtain⟨m0,dA,h0,r0,k0⟩:=TH c hc g hg cm d;obtain⟨q0,y0,l0,f0,_⟩:=HN m0 h0;obtain⟨m1,dC,h1,r1,k1⟩:=TH c hc g hg cm (ad dA);obtain⟨q1,y1,l1,f1⟩:=HO m1 h1;have ra:=wM dA
 obtain⟨b2,hb2⟩:∃b2,b2=if nx dA 3=2 then q0++q1 else q0:=⟨_,rfl⟩
 obtain⟨d5,hd5⟩:∃d5,d5=if nx dA 3=2 then dC else ad dA:=⟨_,rfl⟩
 have yb:BY b2/\b2.length<=420:=by
  rw[hb2];split
  ·exact⟨λx hx=>(zXs.1 hx).elim (y0 x) (y1 x),by rw[zXb];omega⟩
  ·exact⟨y0,zB⟩
 have r5:rem d5<=rem d:=by rw[hd5];split<;>omega
 have r6:=wM d5;have r7:=wM (ad d5);have r8:=wM (ad (ad d5));have b7:=yE (ad (ad d5)) 1024 zB;obtain⟨q,yq,lq,kq⟩:=zCr b2 yb.1 zB (nx (ad d5) 99) (nx (ad (ad d5)) 1024) zB;refine⟨if cm=false/\nx d5 7=6 then q else b2,if cm=true then d5 else if nx d5 7=6 then ad (ad (ad d5))else ad d5,⟨?_,?_,?_⟩,m0,m1,dA,dC,q0,q1,b2,d5,k0,f0,k1,f1,hb2,hd5,λh1 h2=>?_,λh=>zW8 h,rfl,l0,l1⟩
 ·split
  ·exact yq
  ·exact yb.1
 ·split<;>omega
 ·split
  ·omega
  ·split<;>omega
 ·rw[zW9 ⟨h1,h2⟩];exact kq
def scR (c:Cf) (n:Nat) (cm:Bool) (p q:List Ev×Dk):Prop:=
 (nx (ad p.2) 12<=3/\q=(p.1++[tkE],ad (ad p.2)))∨
 (nx (ad p.2) 12=4/\q=(p.1++List.replicate (nx (ad (ad p.2)) 6+1).toNat tkE,ad (ad (ad p.2))))∨
 (nx (ad p.2) 12=5/\∃e d',q=(p.1++[e],d')/\zN 47 [.ptr 1000 0 0,wT c,iA (nx p.2 (max 1 (n:Int))),bA cm] [(1000,dX (ad (ad p.2)))] (qK e) [(1000,dX d')])∨
 (6<=nx (ad p.2) 12/\∃b d',q=(p.1++[⟨3,nx p.2 (max 1 (n:Int)),0,0,b⟩],d')/\∃m0 m1 dA dC q0 q1 b2 d5,BtR c cm (CI c.ags (nx p.2 (max 1 (n:Int)))) (ad (ad p.2)) b d' m0 m1 dA dC q0 q1 b2 d5)
theorem zTz (c:Cf) (hc:CfW c) (ha:IW c.ags) (n:Nat) (hn:n<=8) (cm:Bool) (p:List Ev×Dk) (hp:∀e∈p.1,VW e) (hl:p.2.a<p.2.l.length):
  ∃q,scR c n cm p q/\(∀e∈q.1,VW e)/\p.1.length<q.1.length/\q.1.length<=p.1.length+6/\rem q.2<rem p.2:=by
 obtain⟨l,d⟩:=p;dsimp only at hp hl;have r0:=zR2 d hl;have r1:=wM (ad d);have b0:=yE d (max 1 (n:Int)) zB;have b1:=yE (ad d) 12 zB;have b2:=yE (ad (ad d)) 6 zB;have r2:=wM (ad (ad d));have one:∀e,VW e->∀x∈l++[e],VW x:=λe he x hx=>(zXs.1 hx).elim (hp x) λhx=>by rw[zX9.1 hx];exact he
 have len:∀e:Ev,(l++[e]).length=l.length+1:=λe=>by rw[zXb,zZ0]
 by_cases h3:nx (ad d) 12<=3
 ·exact⟨_,.inl ⟨h3,rfl⟩,one _ zAk,by dsimp only;rw[len];omega,by dsimp only;rw[len];omega,by dsimp only;omega⟩
 by_cases h4:nx (ad d) 12=4
 ·refine⟨_,.inr (.inl ⟨h4,rfl⟩),λx hx=>(zXs.1 hx).elim (hp x) λhx=>by rw[(yBi.1 hx).2];exact zAk,?_,?_,by dsimp only;omega⟩
  ·dsimp only;rw[zXb,zYz];omega
  ·dsimp only;rw[zXb,zYz];omega
 by_cases h5:nx (ad d) 12=5
 ·obtain⟨e,d',he,hr,k⟩:=zQc c (nx d (max 1 (n:Int))) zB zB cm (ad (ad d));exact⟨_,.inr (.inr (.inl ⟨h5,e,d',rfl,k⟩)),one _ he,by dsimp only;rw[len];omega,by dsimp only;rw[len];omega,by dsimp only;omega⟩
 ·have hg:=zQb ha (nx d (max 1 (n:Int)));obtain⟨b,d',⟨yb,lb,hr⟩,h⟩:=zTy c hc cm (CI c.ags (nx d (max 1 (n:Int)))) zB (ad (ad d));exact⟨_,.inr (.inr (.inr ⟨by dsimp only;omega,b,d',rfl,h⟩)),one _ (show VW ⟨3,nx d (max 1 (n:Int)),0,0,b⟩from evb zB zB zB zB yb lb),by dsimp only;rw[len];omega,by dsimp only;rw[len];omega,by dsimp only;omega⟩
theorem zCd (c:Cf) (hc:CfW c) (ha:IW c.ags) (n:Nat) (hn:n<=8) (cm:Bool) (l:List Ev) (d:Dk) (hl:NW l 100):
  ∃(f:Nat->List Ev×Dk) (N:Nat),f 0=(l,d)/\(∀i,i<N->scR c n cm (f i) (f (i+1))/\(f i).2.a<(f i).2.l.length/\(f i).1.length<150)/\¬((f N).2.a<(f N).2.l.length/\(f N).1.length<150)/\NW (f N).1 156/\∀i,i<=N->(f i).1.length<=156:=by
 obtain⟨f,f0,hf⟩:=zF0 (λ_ (p:List Ev×Dk)=>∀e∈p.1,VW e) (λ_ p q=>p.2.a<p.2.l.length->scR c n cm p q/\p.1.length<q.1.length/\q.1.length<=p.1.length+6/\rem q.2<rem p.2)
  (λi p hp=>by
   by_cases h:p.2.a<p.2.l.length
   ·obtain⟨q,h1,h2,h3,h4,h5⟩:=zTz c hc ha n hn cm p hp h;exact⟨q,λ_=>⟨h1,h3,h4,h5⟩,h2⟩
   ·exact⟨p,λh'=>absurd h' h,hp⟩) (l,d) hl.2
 have hst:∃k,¬((f k).2.a<(f k).2.l.length/\(f k).1.length<150):=by
  refine yAi λhc=>?_
  have hall:∀k,(f k).2.a<(f k).2.l.length/\(f k).1.length<150:=λk=>yAi λh=>hc ⟨k,h⟩
  have hlen:∀k,k<=(f k).1.length:=λk=>by
   induction k with
   |zero=>exact zXp _
   |succ k ih=>have:=((hf k).2 (hall k).1).2.1;omega
  have:=hlen 150;have:=(hall 150).2;omega
 obtain⟨k,hk⟩:=hst;obtain⟨N,_,hN,hmin⟩:=zGq (P:=λk=>¬((f k).2.a<(f k).2.l.length/\(f k).1.length<150)) k hk;have hlt:∀i,i<N->(f i).2.a<(f i).2.l.length/\(f i).1.length<150:=λi hi=>yAi λh=>hmin i hi h
 have hle:∀i,i<=N->(f i).1.length<=156:=λi hi=>by
  cases i with
  |zero=>rw[f0];have:=hl.1;dsimp only;omega
  |succ i=>
   have h1:=hlt i zB;have h2:=((hf i).2 h1.1).2.2.1;omega
 exact⟨f,N,f0,λi hi=>⟨((hf i).2 (hlt i hi).1).1,hlt i hi⟩,hN,⟨hle N (zXc _),(hf N).1⟩,hle⟩
def drE (g:Nat):Ev:=⟨4,0,g,0,dK (2000+10*g)⟩
def rgE (c:Cf) (F:Nat×Nat->List Int) (g v:Nat):Ev:=⟨3,DU c.ags g c.ags.length,0,0,F (g,v)⟩
def l1E (i:Nat):List Ev:=(List.range i).map zTx
def l2E (c:Cf) (F:Nat×Nat->List Int) (n:Nat):Nat->List Ev
 |0=>l1E n
 |g+1=>l2E c F n g++[drE g]++(List.range 3).map (rgE c F g)
theorem zCe (c:Cf) (hc:CfW c) (ha:IW c.ags) (cm:Bool) (d:Dk):∃(l:List Ev) (d':Dk),NW l 160/\zN 14 [.ptr 1000 0 0,wT c,bA cm] [(1000,dX d)] (zD qK l) [(1000,dX d')]:=by
 have ks:=zKy c ha;have hb1:=kY ha c.ags.length (zXc _);have han:=ha.1;obtain⟨n,hn⟩:∃n:Nat,jM c.ags c.ags.length=(n:Int):=⟨(jM c.ags c.ags.length).toNat,zB⟩;rw[hn]at ks;have hn8:n<=8:=by omega
 clear hb1 hn;have hal:=zA vH c.ags
 obtain⟨fR,hfR⟩:=Classical.skolem.1 (λp:Nat×Nat=>show∃q,p.1<4/\p.2<3->BY q/\q.length<=210/\zN 45 [zY ⟨4,(p.1:Int)::0::dK (1000+(p.1:Int)),[(p.2:Int),(p.2:Int).tmod 2],[]⟩] [] (zD yA q) []from by
  by_cases h:p.1<4/\p.2<3
  ·obtain⟨q,h1,h2,h3⟩:=HO _ (zQd (p.1:Int) (p.2:Int) zB zB);exact⟨q,λ_=>⟨h1,h2,h3⟩⟩
  ·exact⟨[],λh'=>absurd h' h⟩)
 have hl2:∀g,g<=c.ags.length->NW (l2E c fR n g) (n+4*g):=λg=>by
  induction g with
  |zero=>
   intro _;refine⟨by simp[l2E,l1E],λe he=>?_⟩;obtain⟨s,hs,rfl⟩:=zYo.1 he;rw[zXz]at hs;exact evb zB zB zB zB kC zS
  | succ g ih=>
   intro hg;have h1:=CH ha (g:Int) c.ags.length (zXc _);have h2:NW [drE g] 1:=⟨zXc _,λe he=>by rw[zX9.1 he];exact evb zB zB zB zB (ZR _) (by rw[kU];omega)⟩
   have h3:NW ((List.range 3).map (rgE c fR g)) 3:=⟨by simp,λe he=>by
    obtain⟨v,hv,rfl⟩:=zYo.1 he;rw[zXz]at hv;obtain⟨q1,q2,_⟩:=hfR (g,v) ⟨by dsimp only;omega,hv⟩
    exact evb zB zB zB zB q1 zB⟩
   exact(((ih zB).app2 h2).app2 h3).le zB
 have hL:=(hl2 c.ags.length (zXc _)).app zAk;obtain⟨f,N,f0,hf,hend,hfl,hle⟩:=zCd c hc ha n hn8 cm (l2E c fR n c.ags.length++[tkE]) d (hL.le zB);refine⟨(f N).1++[tkE],(f N).2,(hfl.app zAk).le zB,?_⟩;unfold wT at *;refine eM Tryz.call14 λF hF=>?_
 refine zU ks ?_;refine xG 7 1001 5 rfl rfl rfl ?_;refine zP (n) [1001,4,1000] [4,1000] [0,2,4,8,17] [7,18,0,2,4,8,17] rfl (λi T U=>⟨(7,.ref 1001 0 ((l1E i).map qK).length)::(18,iA i)::T,(1001,.arr 5 ((l1E i).map qK) true)::U⟩) ?_;(conv=>whnf);refine⟨by rfl,?_,?_⟩
 ·intro i hi;have e:(l1E (i+1)).map qK=(l1E i).map qK++[qK (zTx i)]:=by unfold l1E;rw[zZp,zXf];simp
  have hln:((l1E i).map qK).length=i:=by simp[l1E]
  rw[e];generalize (l1E i).map qK=X at*
  (repeat' (first|refine aU ?_|refine xQ (λhc=>?_) (λhc=>?_)|refine wD (λhc=>?_)|(refine zE ?_;first|(refine yT ?_;refine SI 23 rfl rfl rfl ?_;refine qX tok rfl rfl ?_))|refine SB ?_|fail))
  rfl
 ·(refine WW ?_)
  refine zP ((c.ags.map vH).length) [1001,4,1000] [4,1000] [0,2,4,8,29] [7,30,0,2,4,8,29] rfl (λi T U=>⟨(7,.ref 1001 0 ((l2E c fR n i).map qK).length)::(30,iA i)::T,(1001,.arr 5 ((l2E c fR n i).map qK) true)::U⟩) ?_;(conv=>whnf);refine⟨by rfl,?_,?_⟩
  ·intro g hg;have kc:=eV (2000+10*(g:Int));have kb:=zKz c ha (g:Int);have kt:=eV (1000+(g:Int));have ky:=aR (g:Int) 0 (dK (1000+(g:Int))) (by rw[kU];omega) zB zB zB zB;have hln:=(hl2 g zB).1;have hln2:((l2E c fR n g).map qK).length=(l2E c fR n g).length:=zXa ..;have e2:(l2E c fR n (g+1)).map qK=((l2E c fR n g).map qK++[qK (drE g)])++((List.range 3).map (rgE c fR g)).map qK:=by simp[l2E]
   rw[e2];unfold wT at kb;generalize (l2E c fR n g).map qK=X at*
   (have zc1:=kc;(repeat' (first|refine aU ?_|refine xQ (λhc=>?_) (λhc=>?_)|refine wD (λhc=>?_)|(refine zE ?_;first|(refine yT ?_;refine qX tok rfl rfl ?_))|refine SB ?_|fail))<;>clear zc1)
   refine zP (3) [1001,4,1000] [4,1000] [0,2,4,8,10,29,30] [7,42,0,2,4,8,10,29,30] rfl (λi T U=>⟨(7,.ref 1001 0 (X++[qK (drE g)]++((List.range i).map (rgE c fR g)).map qK).length)::(42,iA i)::T,(1001,.arr 5 (X++[qK (drE g)]++((List.range i).map (rgE c fR g)).map qK) true)::U⟩) ?_;(conv=>whnf);refine⟨by(rw[show X++[qK (drE g)]++((List.range 0).map (rgE c fR g)).map qK=X++[qK (drE g)]from zX8 _];rfl),?_,?_⟩
   ·intro v hv;have kf:=(hfR (g,v) ⟨by dsimp only;omega,hv⟩).2.2;dsimp only at kf;have e3:X++[qK (drE g)]++((List.range (v+1)).map (rgE c fR g)).map qK=X++[qK (drE g)]++((List.range v).map (rgE c fR g)).map qK++[qK (rgE c fR g v)]:=by rw[zZp];simp
    have hl3:(X++[qK (drE g)]++((List.range v).map (rgE c fR g)).map qK).length<=100:=by simp;omega
    rw[e3];unfold zY at kf;rw[show qK (rgE c fR g v)= .agg [iA 3,iA (DU c.ags g c.ags.length),iA 0,iA 0,zD yA (fR (g,v))]from rfl];generalize X++[qK (drE g)]++((List.range v).map (rgE c fR g)).map qK=Y at *;generalize fR (g,v)=fr at *;generalize DU c.ags g c.ags.length=bz at *;generalize dK (1000+(g:Int))=sc at*
    (have zc1:=kb;have zc2:=kt;have zc3:=ky;have zc4:=kf;(repeat' (first|refine aU ?_|refine xQ (λhc=>?_) (λhc=>?_)|refine wD (λhc=>?_)|(refine zE ?_;first|(refine yT ?_;refine qX tok rfl rfl ?_))|refine SB ?_|fail))<;>clear zc1 zc2 zc3 zc4)
    rfl
   ·(refine WW ?_)
    rfl
  ·rw [hal];have hl9:=(hl2 c.ags.length (zXc _)).1;have hl10:((l2E c fR n c.ags.length).map qK).length=(l2E c fR n c.ags.length).length:=zXa ..
   (repeat' (first|refine aU ?_|refine xQ (λhc=>?_) (λhc=>?_)|refine wD (λhc=>?_)|(refine zE ?_;first|(refine yT ?_;refine SI 66 rfl rfl rfl ?_;refine qX tok rfl rfl ?_))|refine SB ?_|fail))
   refine zP (N) [1000,1001,4] [4] [0,2,4,8] [7,0,2,4,8] rfl (λi T U=>⟨(7,.ref 1001 0 ((f i).1.map qK).length)::T,(1000,dX (f i).2)::(1001,.arr 5 ((f i).1.map qK) true)::U⟩) ?_;(conv=>whnf);refine⟨by(rw[f0,XY];rfl),?_,?_⟩
   ·intro i hi;obtain⟨hR,hlt,h150⟩:=hf i hi;have hml:((f i).1.map qK).length=(f i).1.length:=zXa ..;clear hf hend hfl hle f0 hL hl9 hl10 hl2 hfR ks;generalize f (i+1)=q at *;generalize f i=p at *;obtain⟨l,d⟩:=p;dsimp only at *;have lf:=zG9 d;rw[zXg hlt]at lf;have b1:=yE d (max 1 (n:Int)) zB;have b2:=yE (ad d) 12 zB;have n1:=yI d (max 1 (n:Int)) zB zB;have n2:=yI (ad d) 12 zB zB;have ko:=zEi c ha (nx d (max 1 (n:Int))) zB zB;unfold scR wT at hR;unfold wT at ko;generalize nx d (max 1 (n:Int))=s at *;generalize nx (ad d) 12=k at *;generalize ad (ad d)=d2 at *;generalize ad d=d1 at*
    rcases hR with⟨h3,rfl⟩|⟨h4,rfl⟩|⟨h5,e,d',rfl,kd⟩|⟨h6,b,d',rfl,m0,m1,dA,dC,q0,q1,e2,d5,hB⟩
    ·dsimp only;rw[XY,show qK tkE= .agg [iA 6,iA 0,iA 0,iA 0,.sl false []]from rfl];generalize l.map qK=X at *;have:k=0∨k=1∨k=2∨k=3:=by omega
     rcases this with h|h|h|h
     all_goals
      (have zc1:=lf;have zc2:=n1;have zc3:=n2;(repeat' (first|refine aU ?_|refine xQ (λhc=>?_) (λhc=>?_)|refine wD (λhc=>?_)|(refine zE ?_;first|(refine yT ?_;refine SI 128 rfl rfl rfl ?_;refine qX tok rfl rfl ?_))|refine SB ?_|fail))<;>clear zc1 zc2 zc3)
      rfl
    ·dsimp only;have n3:=yI d2 6 zB zB;have b3:=yE d2 6 zB;generalize ad d2=d3 at *;obtain⟨z,hz⟩:∃z:Nat,nx d2 6=(z:Int):=⟨(nx d2 6).toNat,zB⟩;rw[hz]at n3 b3⊢;rw[show((z:Int)+1).toNat=z+1 by omega,zXf,yA0,show qK tkE= .agg [iA 6,iA 0,iA 0,iA 0,.sl false []]from rfl];generalize l.map qK=X at*
     (have zc1:=lf;have zc2:=n1;have zc3:=n2;have zc4:=n3;(repeat' (first|refine qA ?_|refine xQ (λhc=>?_) (λhc=>?_)|refine wD (λhc=>?_)|fail))<;>clear zc1 zc2 zc3 zc4)
     refine zP ((z+1)) [1001,4,1000] [4,1000] [0,2,4,8] [7,13,0,2,4,8] rfl (λi T U=>⟨(7,.ref 1001 0 (X++List.replicate i (AV.agg [iA 6,iA 0,iA 0,iA 0,.sl false []])).length)::(13,iA ((z:Int)-i))::T,(1001,.arr 5 (X++List.replicate i (AV.agg [iA 6,iA 0,iA 0,iA 0,.sl false []])) true)::U⟩) ?_;(conv=>whnf);refine⟨by(rw[yBv,zX8,show(z:Int)-(0:Nat)=z by omega];rfl),?_,?_⟩
     ·intro r hr;have hlr:(X++List.replicate r (AV.agg [iA 6,iA 0,iA 0,iA 0,.sl false []])).length<=200:=by simp;omega
      rw[show List.replicate (r+1) (AV.agg [iA 6,iA 0,iA 0,iA 0,.sl false []])=List.replicate r (AV.agg [iA 6,iA 0,iA 0,iA 0,.sl false []])++[AV.agg [iA 6,iA 0,iA 0,iA 0,.sl false []]]from yCi,<-zXy,show(z:Int)-((r+1:Nat):Int)=(z:Int)-r-1 by omega];generalize X++List.replicate r (AV.agg [iA 6,iA 0,iA 0,iA 0,.sl false []])=Y at *;have z0:0<=(z:Int)-r:=by omega
      have z1:(z:Int)-r<=10:=by omega
      generalize (z:Int)-r=w at*
      (repeat' (first|refine aU ?_|refine xQ (λhc=>?_) (λhc=>?_)|refine wD (λhc=>?_)|(refine zE ?_;first|(refine yT ?_;refine SI 140 rfl rfl rfl ?_;refine qX tok rfl rfl ?_))|refine SB ?_|fail))
      rfl
     ·rw[show(z:Int)-((z+1:Nat):Int)= -1 by omega];refine WW ?_;rfl
    ·dsimp only;rw[XY];generalize l.map qK=X at*
     (have zc1:=lf;have zc2:=n1;have zc3:=n2;have zc4:=kd;(repeat' (first|refine aU ?_|refine xQ (λhc=>?_) (λhc=>?_)|refine wD (λhc=>?_)|(refine zE ?_;first|(refine yT ?_;refine qX tok rfl rfl ?_))|refine SB ?_|fail))<;>clear zc1 zc2 zc3 zc4)
     rfl
    ·dsimp only;rw[XY,show qK ⟨3,s,0,0,b⟩= .agg [iA 3,iA s,iA 0,iA 0,zD yA b]from rfl];obtain⟨k0,f0,k1,f1,h2,g5,sp,hb',hd',l0,l1⟩:=hB;unfold wT zY at *;have n3:=yI dA 3 zB zB;have n4:=yI d5 7 zB zB;have n5:=yI (ad d5) 99 zB zB;have n6:=yI (ad (ad d5)) 1024 zB zB;have c3:=yE dA 3 zB;have c4:=yE d5 7 zB;have m0:=zA yA q0;have m1:=zA yA q1;generalize l.map qK=X at *;generalize nx dA 3=u at *;generalize nx d5 7=v at *;by_cases hu:u=2
     ·rw[zW9 hu]at h2 g5;subst g5;subst h2;have em:zD yA (q0++q1)= .sl false (q0.map yA++q1.map yA):=by unfold zD;rw[zXf]
      rw[em]at sp;have ez:zD yA (q0++q1)= .sl false (List.take (q0.map yA++q1.map yA).length (List.drop 0 (q0.map yA++q1.map yA))):=by rw[em,zYf,zXe]
      cases cm with
      |true=>
       rw[zW9 rfl]at hd';subst hd';have hbe:=hb' (λh=>by cases h.1);subst hbe;rw[ez];clear sp hb'
       (have zc1:=lf;have zc2:=n1;have zc3:=n2;have zc4:=ko;have zc5:=k0;have zc6:=f0;have zc7:=n3;have zc8:=k1;have zc9:=f1;have zc10:=n4;have zc11:=n5;have zc12:=n6;(repeat' (first|refine aU ?_|refine xQ (λhc=>?_) (λhc=>?_)|refine wD (λhc=>?_)|(refine zE ?_;first|(refine yT ?_;refine jY [1000,1001,4] [0,2,4,8,116,119] rfl ?_;(conv=>whnf);refine qX tok rfl rfl ?_)|(refine yV ?_;refine qB tok rfl rfl rfl rfl rfl rfl rfl rfl rfl rfl rfl (xH _ _ (λ_=>rfl)) zB rfl ?_))|refine SB ?_|fail))<;>clear zc1 zc2 zc3 zc4 zc5 zc6 zc7 zc8 zc9 zc10 zc11 zc12)
       rfl
      | false=>
       rw[zW8 zXx]at hd';by_cases hv:v=6
       ·rw[zW9 hv]at hd';subst hd';have sp:=sp rfl hv;clear hb'
        (have zc1:=lf;have zc2:=n1;have zc3:=n2;have zc4:=ko;have zc5:=k0;have zc6:=f0;have zc7:=n3;have zc8:=k1;have zc9:=f1;have zc10:=n4;have zc11:=n5;have zc12:=n6;have zc13:=sp;have zf1:=(⟨⟩:FzD 50 [1000,1001,4] [0,2,4,7,8,12,110,112,114]);(repeat' (first|refine aU ?_|refine xQ (λhc=>?_) (λhc=>?_)|refine wD (λhc=>?_)|(refine zE ?_;first|(refine yT ?_;refine jY [1000,1001,4] [0,2,4,8,116,119] rfl ?_;(conv=>whnf);refine qX tok rfl rfl ?_)|(refine yV ?_;refine qB tok rfl rfl rfl rfl rfl rfl rfl rfl rfl rfl rfl (xH _ _ (λ_=>rfl)) zB rfl ?_))|refine SB ?_|fail))<;>clear zc1 zc2 zc3 zc4 zc5 zc6 zc7 zc8 zc9 zc10 zc11 zc12 zc13 zf1)
        rfl
       ·rw[zW8 hv]at hd';subst hd';have hbe:=hb' (λh=>hv h.2);subst hbe;rw[ez];clear sp hb'
        (have zc1:=lf;have zc2:=n1;have zc3:=n2;have zc4:=ko;have zc5:=k0;have zc6:=f0;have zc7:=n3;have zc8:=k1;have zc9:=f1;have zc10:=n4;have zc11:=n5;have zc12:=n6;(repeat' (first|refine aU ?_|refine xQ (λhc=>?_) (λhc=>?_)|refine wD (λhc=>?_)|(refine zE ?_;first|(refine yT ?_;refine jY [1000,1001,4] [0,2,4,8,116,119] rfl ?_;(conv=>whnf);refine qX tok rfl rfl ?_)|(refine yV ?_;refine qB tok rfl rfl rfl rfl rfl rfl rfl rfl rfl rfl rfl (xH _ _ (λ_=>rfl)) zB rfl ?_))|refine SB ?_|fail))<;>clear zc1 zc2 zc3 zc4 zc5 zc6 zc7 zc8 zc9 zc10 zc11 zc12)
        rfl
     ·rw[zW8 hu]at h2 g5;subst g5;subst h2;have em:∀z,zD yA z= .sl false (z.map yA):=λz=>rfl
      rw[em e2]at sp;have ez:zD yA e2= .sl false (List.take (e2.map yA).length (List.drop 0 (e2.map yA))):=by rw[zYf,zXe];rfl
      cases cm with
      |true=>
       rw[zW9 rfl]at hd';subst hd';have hbe:=hb' (λh=>by cases h.1);subst hbe;rw[ez];clear sp hb'
       (have zc1:=lf;have zc2:=n1;have zc3:=n2;have zc4:=ko;have zc5:=k0;have zc6:=f0;have zc7:=n3;have zc8:=k1;have zc9:=f1;have zc10:=n4;have zc11:=n5;have zc12:=n6;(repeat' (first|refine aU ?_|refine xQ (λhc=>?_) (λhc=>?_)|refine wD (λhc=>?_)|(refine zE ?_;first|(refine yT ?_;refine jY [1000,1001,4] [0,2,4,8,116,119] rfl ?_;(conv=>whnf);refine qX tok rfl rfl ?_)|(refine yV ?_;refine qB tok rfl rfl rfl rfl rfl rfl rfl rfl rfl rfl rfl (xH _ _ (λ_=>rfl)) zB rfl ?_))|refine SB ?_|fail))<;>clear zc1 zc2 zc3 zc4 zc5 zc6 zc7 zc8 zc9 zc10 zc11 zc12)
       rfl
      | false=>
       rw[zW8 zXx]at hd';by_cases hv:v=6
       ·rw[zW9 hv]at hd';subst hd';have sp:=sp rfl hv;clear hb'
        (have zc1:=lf;have zc2:=n1;have zc3:=n2;have zc4:=ko;have zc5:=k0;have zc6:=f0;have zc7:=n3;have zc8:=k1;have zc9:=f1;have zc10:=n4;have zc11:=n5;have zc12:=n6;have zc13:=sp;have zf1:=(⟨⟩:FzD 50 [1000,1001,4] [0,2,4,7,8,12,110,112,114]);(repeat' (first|refine aU ?_|refine xQ (λhc=>?_) (λhc=>?_)|refine wD (λhc=>?_)|(refine zE ?_;first|(refine yT ?_;refine jY [1000,1001,4] [0,2,4,8,116,119] rfl ?_;(conv=>whnf);refine qX tok rfl rfl ?_)|(refine yV ?_;refine qB tok rfl rfl rfl rfl rfl rfl rfl rfl rfl rfl rfl (xH _ _ (λ_=>rfl)) zB rfl ?_))|refine SB ?_|fail))<;>clear zc1 zc2 zc3 zc4 zc5 zc6 zc7 zc8 zc9 zc10 zc11 zc12 zc13 zf1)
        rfl
       ·rw[zW8 hv]at hd';subst hd';have hbe:=hb' (λh=>hv h.2);subst hbe;rw[ez];clear sp hb'
        (have zc1:=lf;have zc2:=n1;have zc3:=n2;have zc4:=ko;have zc5:=k0;have zc6:=f0;have zc7:=n3;have zc8:=k1;have zc9:=f1;have zc10:=n4;have zc11:=n5;have zc12:=n6;(repeat' (first|refine aU ?_|refine xQ (λhc=>?_) (λhc=>?_)|refine wD (λhc=>?_)|(refine zE ?_;first|(refine yT ?_;refine jY [1000,1001,4] [0,2,4,8,116,119] rfl ?_;(conv=>whnf);refine qX tok rfl rfl ?_)|(refine yV ?_;refine qB tok rfl rfl rfl rfl rfl rfl rfl rfl rfl rfl rfl (xH _ _ (λ_=>rfl)) zB rfl ?_))|refine SB ?_|fail))<;>clear zc1 zc2 zc3 zc4 zc5 zc6 zc7 zc8 zc9 zc10 zc11 zc12)
        rfl
   ·rw[show zD qK ((f N).1++[tkE])= .sl false ((f N).1.map qK++[qK tkE]) by unfold zD;rw[XY]];have hlN:=hfl.1;have hml:((f N).1.map qK).length=(f N).1.length:=zXa ..;have lf:=zG9 (f N).2;clear hf hfl hle f0 hL hl9 hl10 hl2 hfR ks;generalize f N=p at *;obtain⟨l,d⟩:=p;dsimp only at *;rw[show qK tkE= .agg [iA 6,iA 0,iA 0,iA 0,.sl false []]from rfl];by_cases hlt:d.a<d.l.length
    ·have h150:¬l.length<150:=λh=>hend ⟨hlt,h⟩
     rw[zXg hlt]at lf;generalize l.map qK=X at*
     (have zc1:=lf;(repeat' (first|refine aU ?_|refine xQ (λhc=>?_) (λhc=>?_)|refine wD (λhc=>?_)|(refine zE ?_;first|(refine yT ?_;refine SI 154 rfl rfl rfl ?_;refine qX tok rfl rfl ?_))|refine SB ?_|fail))<;>clear zc1)
     exact zH [1000] rfl rfl (zX7 (AV.sl false) zXe) rfl
    ·rw[zXj hlt]at lf;generalize l.map qK=X at*
     (have zc1:=lf;(repeat' (first|refine aU ?_|refine xQ (λhc=>?_) (λhc=>?_)|refine wD (λhc=>?_)|(refine zE ?_;first|(refine yT ?_;refine SI 154 rfl rfl rfl ?_;refine qX tok rfl rfl ?_))|refine SB ?_|fail))<;>clear zc1)
     exact zH [1000] rfl rfl (zX7 (AV.sl false) zXe) rfl
structure FdI (i:Nat) (p:List (List Int)×List Int) (v:List Vw) (Td:List (List Ms)):Prop where
 p:p=(Td.map gQ,gQ [ZH ((i:Int)+1) v])
 n:v.length<=4
 w:∀w∈v,DX w
 f:YQ (ZH ((i:Int)+1) v)
 t:Td.length<=8
 x:∀x∈Td,(x.length<=1002/\BY (gQ x))/\∀m∈x,YQ m/\(m.kind=17->∃z,m=⟨17,[],[(i:Int)+1],ZM v++z⟩)
def zO6 (c:Cf) (l:List Ev):Prop:=(SP (uT c) l).length=(NV (uT c) l).length/\∀i p,(SP (uT c) l)[i]? =some p->∃(Td:List (List Ms)) (v:List Vw),(NV (uT c) l)[i]? =some v/\FdI i p v Td
theorem zT0 (hJ:∀(c:Cf) (l:List Ev),IX c->l.length<=160->(∀e∈l,VW e)->zO6 c l) (l1:List Int) (h1:l1.length<=9223372036854775807):zN 7 [zD iA l1] [] (bA true) []:=by
 have kf:=zVj l1 h1;have ka:=zKv;have hm1:=zA iA l1
 cases hf:decide (l1.length<=300)<;>rw[hf]at kf
 ·(refine eM Tryz.call7 λF hF=>?_)
  refine WLc (wW kf ka) ?_;exact zK
 have kn1:=zPu l1 h1;have kc:=GN ⟨l1,0,zXp _,h1⟩ 63;have hv:=zO8 ⟨l1,0,zXp _,h1⟩ 63 zB;generalize QG ⟨l1,0,zXp _,h1⟩ 63=c at *;generalize cfD ⟨l1,0,zXp _,h1⟩ 63=e0 at *;obtain⟨l,d',hl,ks⟩:=zCe c hv.w hv.ag false e0;obtain⟨hl1,hl2⟩:=hl;obtain⟨J1,J2⟩:=hJ c l hv hl1 hl2;have kr:=zP8 c hv l zB hl2;have kv:=zO5 c hv l zB hl2;rw[zXk zB]at kr kv;have hrl:=(zCa l (DS c hv) hl2 (by show(0:Int)+_<_;omega)).2.2.2.2;have hrm:=zA sdP (SP (uT c) l);have hvm:=zA vsA (NV (uT c) l);generalize SP (uT c) l=rs at *;generalize NV (uT c) l=vs at *;unfold wT at *;refine eM Tryz.call7 λF hF=>?_
 refine WLc (zt6 kf kn1 kc ks kr kv) ?_;refine yB (rs) [] [] [7,41,42] [43,7,41,42] rfl (λi pre T U=>⟨(43,iA i)::T,U⟩) ?_;(conv=>whnf);refine⟨by rfl,?_,?_⟩
 ·intro i pre p post hx hi;have hyp:=yP sdP hx hi;have hlp:=yF hx hi;obtain⟨Td,v,hvv,F⟩:=J2 i p (by rw[hx,<-hi];simp);have hyv:(vs.map vsA)[i]? =some (zD vL v):=by rw[zXd,hvv];rfl
  have hF:=F.p;subst hF;have kfd:=zKm ((i:Int)+1) v (by have:=F.n;omega) F.w;have kb:=(DH _ F.f).2;have kB:zN 33 [zD vL v] [] (zD yA (ZM v)) []:=(zLi v (by have:=F.n;omega) F.w).frz [] (zX7 (AV.sl false) zI2) rfl rfl;have eb:gQ [ZH ((i:Int)+1) v]=SJ (ZH ((i:Int)+1) v):=by simp[gQ]
  rw[eb]at hyp;have hq:=VP (SJ (ZH ((i:Int)+1) v));have hbl:=zA yA (SJ (ZH ((i:Int)+1) v));have hT:=F.t;have hX:=F.x;have hTm:=zA (λx=>zD yA (gQ x)) Td;rw[show sdP (Td.map gQ,SJ (ZH ((i:Int)+1) v))= .agg [.sl false (Td.map λx=>zD yA (gQ x)),zD yA (SJ (ZH ((i:Int)+1) v))] by unfold sdP sdA zD;rw[yBc];rfl]at hyp;rw[show zY (ZH ((i:Int)+1) v)= .agg [iA 21,zD yA [],zD iA [(i:Int)+1],zD yA (ZM v)]from rfl]at kfd kb;have hrc:=zA yA (ZM v);clear F hx J1 J2 hJ eb;generalize SJ (ZH ((i:Int)+1) v)=B at *;generalize ZM v=R at *;refine yO (gU kfd kb kB) ?_;clear kfd kb kB hyp hyv kf ka kn1 kc ks kr kv;refine yB (Td) [] [] [7,8,12,41,42,43,75,76] [77,7,8,12,41,42,43,75,76] rfl (λi pre T U=>⟨(77,iA i)::T,U⟩) ?_;(conv=>whnf);refine⟨by rfl,?_,?_⟩
  ·intro k pre1 x post1 hx1 hk1;have hy1:=yP (λx=>zD yA (gQ x)) hx1 hk1;have hlt1:=yF hx1 hk1;obtain⟨⟨x1,x2⟩,x3⟩:=hX x (xV hx1);have ks:=zTf x x1 (λm hm=>(x3 m hm).1) x2;have hxm:=zA zY x;clear hx1 hX x2;generalize gQ x=Bx at *;refine zU ks ?_;clear ks hy1;refine yB (x) [] [] [7,8,12,41,42,43,75,76,77,88,89] [90,7,8,12,41,42,43,75,76,77,88,89] rfl (λi pre T U=>⟨(90,iA i)::T,U⟩) ?_;(conv=>whnf);refine⟨by rfl,?_,?_⟩
   ·intro q pre2 m post2 hx2 hq2;have hy2:=yP zY hx2 hq2;have hlt2:=yF hx2 hq2;obtain⟨_,m2⟩:=x3 m (xV hx2);clear hx2 x3;by_cases h17:m.kind=17
    ·obtain⟨z,rfl⟩:=m2 h17;rw[show zY ⟨17,[],[(i:Int)+1],R++z⟩= .agg [iA 17,zD yA [],.sl false [iA ((i:Int)+1)],.sl false (R.map yA++z.map yA)] by unfold zY zD;rw[zXf];rfl]at hy2;have htk:List.take (((R.map yA).length:Nat):Int).toNat (R.map yA++z.map yA)=R.map yA:=yC9;have hql:(R.map yA++z.map yA).length=(R.map yA).length+(z.map yA).length:=zXb;have hqr:=VP R
     have hsz:∀y,(R.map yA++z.map yA)[0]? =some y->y.cells.length=1:=by
      rw[<-zXf];exact xH _ _ (λ_=>rfl)
     clear m2 h17
     (repeat' (first|refine qA ?_|refine xQ (λhc=>?_) (λhc=>?_)|refine wD (λhc=>?_)|(refine zE ?_;first|(refine qU ?_;refine PW tok rfl rfl rfl rfl rfl hsz zB zB htk rfl ?_))|fail))
     all_goals (first|rfl|(exfalso;first|(simp[VP]at hc;done)|(revert hc;simp[VP];done)))
    ·unfold zY at hy2;refine WW ?_;rfl
   ·(refine WW ?_)
    rfl
  ·(refine WW ?_)
   rfl
 ·(refine zU ka ?_)
  exact zK
structure FdN (u:Int) (p:List (List Int)×List Int) (v:List Vw) (Td:List (List Ms)):Prop where
 p:p=(Td.map gQ,gQ [ZH u v])
 n:v.length<=4
 w:∀w∈v,DX w
 f:YQ (ZH u v)
 t:Td.length<=8
 x:∀x∈Td,(x.length<=1002/\BY (gQ x))/\∀m∈x,YQ m/\(m.kind=17->∃z,m=⟨17,[],[u],ZM v++z⟩)
structure TkF (b:UC) (e:Ev):Prop where
 nf:(bU b e).fl=false->(bU b e).b.y.now=b.y.now
 tf:(bU b e).fl=true->(bU b e).b.y.now=b.y.now+1/\∃Td,FdN (b.y.now+1) ((bU b e).S,(bU b e).f) (bU b e).b.y.vw Td
theorem zD9 (hT:∀b e,BrI b->b.y.now<1000000000->VW e->TkF b e):∀(l:List Ev) (b:UC),BrI b->(∀e∈l,VW e)->b.y.now+(l.length:Int)<1000000000->
  (SP b l).length=(NV b l).length/\∀(i:Nat) p,(SP b l)[i]? =some p->∃(Td:List (List Ms)) (v:List Vw),(NV b l)[i]? =some v/\FdN (b.y.now+(i:Int)+1) p v Td
 | [],b,_,_,_=>⟨rfl,λi p h=>by cases h⟩
 | e::l,b,hb,he,hn=>by
  rw[zXl]at hn;have D:=XV hb zB (he e zS);have T:=hT b e hb zB (he e zS);have Dn:=D.n;obtain⟨i1,i2⟩:=zD9 hT l (bU b e).b D.i (λx hx=>he x VK) zB;unfold SP NV
  cases hf:(bU b e).fl with
  |false=>
   rw[zW8 zXx,zW8 zXx,zZj,zZj];rw[T.nf hf]at i2;exact⟨i1,i2⟩
  | true=>
   obtain⟨t1,Td,t2⟩:=T.tf hf;rw[zW9 rfl,zW9 rfl,yA3,yA3];refine⟨by rw[zXl,zXl,i1],λi p h=>?_⟩
   cases i with
   |zero=>
    cases h;exact⟨Td,_,rfl,by simpa using t2⟩
   |succ i=>
    obtain⟨Td2,v,h1,h2⟩:=i2 i p NS;refine⟨Td2,v,by simpa using h1,?_⟩;rw[t1]at h2;rw[show b.y.now+((i+1:Nat):Int)+1=b.y.now+1+(i:Int)+1 by omega];exact h2
theorem zEa (hT:∀b e,BrI b->b.y.now<1000000000->VW e->TkF b e) (c:Cf) (l:List Ev) (hc:IX c) (hl:l.length<=160) (he:∀e∈l,VW e):zO6 c l:=by
 obtain⟨j1,j2⟩:=zD9 hT l (uT c) (DS c hc) he (by show(0:Int)+_<_;omega);refine⟨j1,λi p h=>?_⟩;obtain⟨Td,v,h1,h2⟩:=j2 i p h;have e:(uT c).y.now+(i:Int)+1=(i:Int)+1:=by show(0:Int)+_+1=_;omega
 rw[e]at h2;exact⟨Td,v,h1,h2.p,h2.n,h2.w,h2.f,h2.t,h2.x⟩
structure Pc where
 fr:Nat
 k:Nat
 it:It
def vfF:Nat->List Int->Nat->List Pc
 |0,_,_=>[]
 |n+1,r,a=>match prF r with
  |none=>[]
  |some p=>if p.1.code=0 then⟨a,p.2,p.1⟩::vfF n (r.drop p.2) (a+p.2)else []
def wkK (k:Int):Bool:=!(decide (k=6)||(decide (k=7)||decide (k=8)))
def wkQ (p:Pc):Bool:=wkK p.it.kind
def pcB (b:List Int) (p:Pc):List Int:=(b.drop p.fr).take p.k
def wpL (b:List Int) (l:List Pc):List Int:=((l.filter wkQ).map (pcB b)).flatten
def wkF (b:List Int):List Int:=wpL b (vfF b.length b 0)
section
variable {P:Program} {TT:List TI} {st:St}
end
def dtF (p:List Int):Option (List Int×List Int):=if 200<p.length then none else YM 1 p
def mdF (i:It):Option Nat:=if i.kind=17∨i.kind=21 then(dtF i.pay).map (λq=>q.2.length)else none
def zeR (b:List Int) (it:It):List Int:=match mdF it with
 |none=>b
 |some n=>b.take (b.length-4-n)++List.replicate (n+4) 0
def zR:Nat->List Int->List Int
 |0,r=>r
 |n+1,r=>match prF r with
  |none=>r
  |some q=>if q.1.code=0 then zeR (r.take q.2) q.1++zR n (r.drop q.2)else r
theorem zP9 {m:Ms} (h:YQ m):BY (SJ m):=by
 have hs:=(dG h.2).choose_spec;have e:SJ m=HF m.kind (dG h.2).choose:=by unfold SJ;rw[yCn h]
 rw[e];generalize (dG h.2).choose=p at *;obtain⟨h1,h2,_⟩:=hs;have hk:=h.2.kk;have h3:=h2.1;intro x hx;simp only[HF,dW,NM,zZx,zZj,zYq,zXs,zYo]at hx
 rcases hx with rfl|rfl|rfl|rfl|rfl|rfl|hx|⟨i,_,rfl⟩
 ·omega
 ·omega
 ·omega
 ·omega
 ·omega
 ·omega
 ·exact h1.1 x hx
 ·exact zEg _
theorem zEb:∀{l:List Ms},(∀m∈l,YQ m)->BY (gQ l)
 | [],_=>kC
 |m::l,h=>λx hx=>by
  have e:gQ (m::l)=SJ m++gQ l:=rfl;rw[e]at hx
  rcases zXs.1 hx with hx|hx
  ·exact zP9 (h m zS) x hx
  ·exact zEb (λm hm=>h m (by simp[hm])) x hx
theorem zQa (b:UC) (e:Ev) (hb:BrI b) (hn:b.y.now<1000000000) (he:VW e):TkF b e:=by
 have D:=XV hb hn he;refine⟨D.nw,λhf=>?_⟩;obtain⟨y',Td,hM,e3,_⟩:=D.t6 (D.f6 hf);rw[e3];dsimp only;have hyi:=hM.i;obtain⟨N,hN,hN8⟩:=IV b hb;have hil:(fE b.ss).length=b.ss.length:=by unfold fE;rw[zXa]
 refine⟨hM.n,Td,rfl,by have:=hyi.wl;have:=hyi.v.j;omega,hyi.wb,hM.f,by have:=hM.l;omega,λx hx=>⟨⟨(hM.v x hx).1,zEb (hM.v x hx).2⟩,λm hm=>⟨(hM.v x hx).2 m hm,λh17=>?_⟩⟩⟩;obtain⟨R,hR,hy,hT⟩:=hM.tk;have hw:=hb.y.v.ag;rw[hT]at hx;obtain⟨s,hs,e⟩:=yA7.1 hx;obtain⟨a,k,h1,h2,h3,h4⟩:=VT hw (DG y' (fE b.ss) R b.y.ds.length) _ (zXc _) s hs;have e2:x=DG y' (fE b.ss) R b.y.ds.length a k:=by rw[<-h4,zXh,zXr hs,<-e];rfl
 rw[e2]at hm;unfold DG at hm;split at hm
 ·unfold tlF at hm;have hid:a<b.y.ds.length:=by have:=hb.y.dl;omega
  rcases zXs.1 hm with hm|hm
  ·rcases zXs.1 hm with hm|hm
   ·exfalso;by_cases hk:k<(R a).R.length
    ·exact(hR a hid).1.rk ((R a).R.getD k []) (by rw[zXh,zXr hk];exact zZy _) m hm h17
    ·rw[zXh,zX0 zB]at hm;cases hm
   ·rw[zX9.1 hm,hM.n];exact⟨_,rfl⟩
  ·exfalso;split at hm
   ·rw[zX9.1 hm]at h17;cases h17
   ·cases hm
 ·cases hm
end Av
end Go.Proofs.YtmamjhmoegjapaaGreat
