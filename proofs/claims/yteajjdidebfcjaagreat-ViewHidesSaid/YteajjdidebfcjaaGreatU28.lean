/- Part 28. -/
import Derived.Test.YteajjdidebfcjaaGreatU21
namespace Go.Proofs.YteajjdidebfcjaaGreat
namespace Av
set_option linter.all false
set_option maxRecDepth 4000
set_option maxHeartbeats 8000000
def SZ (l:List Ev) (e:Ev):(l++[e]).map vC=l.map vC++[vC e]:=by simp
theorem KY.app2 {a b:List Ev} {n m:Nat} (h:KY a n) (h2:KY b m):KY (a++b) (n+m):=
 ⟨by have:=h.1;have:=h2.1;rw[yAf];omega,λx hx=>(yAz.1 hx).elim (h.2 x) (h2.2 x)⟩
theorem KY.of {l:List Ev} (h:∀e∈l,bX e):KY l l.length:=⟨yAg _,h⟩
def tkE:Ev:=⟨6,0,0,0,[]⟩
def zEw:bX tkE:=evb zB zB zB zB qY zS
def zY7 (s:Nat):Ev:=⟨1,s,0,0,[]⟩
structure BtR (c:Cf) (cm:Bool) (g:Int) (d:Dk) (b:List Int) (d':Dk) (m0 m1:Ms) (dA dC:Dk) (q0 q1 b2:List Int) (d5:Dk):Prop where
 k0:zN 54 [.ptr 1000 0 0,wD c,iA g,bA cm] [(1000,cT d)] (yB m0) [(1000,cT dA)]
 f0:zN 13 [yB m0] [] (.ref 1031 0 (q0.map yA).length) [(1031,.arr 1 (q0.map yA) true)]
 k1:zN 54 [.ptr 1000 0 0,wD c,iA g,bA cm] [(1000,cT (ad dA))] (yB m1) [(1000,cT dC)]
 f1:zN 13 [yB m1] [] (zC yA q1) []
 h2:b2=if nx dA 3=2 then q0++q1 else q0
 h5:d5=if nx dA 3=2 then dC else ad dA
 sp:cm=false->nx d5 7=6->zN 30 [zC yA b2,iA (nx (ad d5) 99),iA (nx (ad (ad d5)) 1024)] [] (zC yA b) []
 hb:¬(cm=false/\nx d5 7=6)->b=b2
 hd:d'=if cm=true then d5 else if nx d5 7=6 then ad (ad (ad d5))else ad d5
 l0:q0.length<=210
 l1:q1.length<=210
def zY8 (c:Cf) (hc:CfW c) (cm:Bool) (g:Int) (hg:0<=g/\g<256) (d:Dk):∃(b:List Int) (d':Dk),(BY b/\b.length<=1000/\rem d'<=rem d)/\∃m0 m1 dA dC q0 q1 b2 d5,BtR c cm g d b d' m0 m1 dA dC q0 q1 b2 d5:=by
 obtain⟨m0,dA,h0,r0,k0⟩:=QT c hc g hg cm d;obtain⟨q0,y0,l0,f0,_⟩:=CU m0 h0;obtain⟨m1,dC,h1,r1,k1⟩:=QT c hc g hg cm (ad dA);obtain⟨q1,y1,l1,f1⟩:=CW m1 h1;have ra:=wO dA
 obtain⟨b2,hb2⟩:∃b2,b2=if nx dA 3=2 then q0++q1 else q0:=⟨_,rfl⟩
 obtain⟨d5,hd5⟩:∃d5,d5=if nx dA 3=2 then dC else ad dA:=⟨_,rfl⟩
 have yb:BY b2/\b2.length<=420:=by
  rw[hb2];split
  ·exact⟨λx hx=>(yAz.1 hx).elim (y0 x) (y1 x),by rw[yAf];omega⟩
  ·exact⟨y0,zB⟩
 have r5:rem d5<=rem d:=by rw[hd5];split<;>omega
 have r6:=wO d5;have r7:=wO (ad d5);have r8:=wO (ad (ad d5));have b7:=yD (ad (ad d5)) 1024 zB;obtain⟨q,yq,lq,kq⟩:=zGn b2 yb.1 zB (nx (ad d5) 99) (nx (ad (ad d5)) 1024) zB;refine⟨if cm=false/\nx d5 7=6 then q else b2,if cm=true then d5 else if nx d5 7=6 then ad (ad (ad d5))else ad d5,⟨?_,?_,?_⟩,m0,m1,dA,dC,q0,q1,b2,d5,k0,f0,k1,f1,hb2,hd5,λh1 h2=>?_,λh=>yAc h,rfl,l0,l1⟩
 ·split
  ·exact yq
  ·exact yb.1
 ·split<;>omega
 ·split
  ·omega
  ·split<;>omega
 ·rw[yAd ⟨h1,h2⟩];exact kq
def scR (c:Cf) (n:Nat) (cm:Bool) (p q:List Ev×Dk):Prop:=
 (nx (ad p.2) 12<=3/\q=(p.1++[tkE],ad (ad p.2)))∨
 (nx (ad p.2) 12=4/\q=(p.1++List.replicate (nx (ad (ad p.2)) 6+1).toNat tkE,ad (ad (ad p.2))))∨
 (nx (ad p.2) 12=5/\∃e d',q=(p.1++[e],d')/\zN 53 [.ptr 1000 0 0,wD c,iA (nx p.2 (max 1 (n:Int))),bA cm] [(1000,cT (ad (ad p.2)))] (vC e) [(1000,cT d')])∨
 (6<=nx (ad p.2) 12/\∃b d',q=(p.1++[⟨3,nx p.2 (max 1 (n:Int)),0,0,b⟩],d')/\∃m0 m1 dA dC q0 q1 b2 d5,BtR c cm (zBp c.ags (nx p.2 (max 1 (n:Int)))) (ad (ad p.2)) b d' m0 m1 dA dC q0 q1 b2 d5)
def zY9 (c:Cf) (hc:CfW c) (ha:QP c.ags) (n:Nat) (hn:n<=8) (cm:Bool) (p:List Ev×Dk) (hp:∀e∈p.1,bX e) (hl:p.2.a<p.2.l.length):
  ∃q,scR c n cm p q/\(∀e∈q.1,bX e)/\p.1.length<q.1.length/\q.1.length<=p.1.length+6/\rem q.2<rem p.2:=by
 obtain⟨l,d⟩:=p;dsimp only at hp hl;have r0:=zUb d hl;have r1:=wO (ad d);have b0:=yD d (max 1 (n:Int)) zB;have b1:=yD (ad d) 12 zB;have b2:=yD (ad (ad d)) 6 zB;have r2:=wO (ad (ad d));have one:∀e,bX e->∀x∈l++[e],bX x:=λe he x hx=>(yAz.1 hx).elim (hp x) λhx=>by rw[yBe.1 hx];exact he
 have len:∀e:Ev,(l++[e]).length=l.length+1:=λe=>by rw[yAf,yCl]
 by_cases h3:nx (ad d) 12<=3
 ·exact⟨_,.inl ⟨h3,rfl⟩,one _ zEw,by dsimp only;rw[len];omega,by dsimp only;rw[len];omega,by dsimp only;omega⟩
 by_cases h4:nx (ad d) 12=4
 ·refine⟨_,.inr (.inl ⟨h4,rfl⟩),λx hx=>(yAz.1 hx).elim (hp x) λhx=>by rw[(yEs.1 hx).2];exact zEw,?_,?_,by dsimp only;omega⟩
  ·dsimp only;rw[yAf,yB2];omega
  ·dsimp only;rw[yAf,yB2];omega
 by_cases h5:nx (ad d) 12=5
 ·obtain⟨e,d',he,hr,k⟩:=zVg c (nx d (max 1 (n:Int))) zB zB cm (ad (ad d));exact⟨_,.inr (.inr (.inl ⟨h5,e,d',rfl,k⟩)),one _ he,by dsimp only;rw[len];omega,by dsimp only;rw[len];omega,by dsimp only;omega⟩
 ·have hg:=zVf ha (nx d (max 1 (n:Int)));obtain⟨b,d',⟨yb,lb,hr⟩,h⟩:=zY8 c hc cm (zBp c.ags (nx d (max 1 (n:Int)))) zB (ad (ad d));exact⟨_,.inr (.inr (.inr ⟨by dsimp only;omega,b,d',rfl,h⟩)),one _ (show bX ⟨3,nx d (max 1 (n:Int)),0,0,b⟩from evb zB zB zB zB yb lb),by dsimp only;rw[len];omega,by dsimp only;rw[len];omega,by dsimp only;omega⟩
def zGy (c:Cf) (hc:CfW c) (ha:QP c.ags) (n:Nat) (hn:n<=8) (cm:Bool) (l:List Ev) (d:Dk) (hl:KY l 100):
  ∃(f:Nat->List Ev×Dk) (N:Nat),f 0=(l,d)/\(∀i,i<N->scR c n cm (f i) (f (i+1))/\(f i).2.a<(f i).2.l.length/\(f i).1.length<150)/\¬((f N).2.a<(f N).2.l.length/\(f N).1.length<150)/\KY (f N).1 156/\∀i,i<=N->(f i).1.length<=156:=by
 obtain⟨f,f0,hf⟩:=zL7 (λ_ (p:List Ev×Dk)=>∀e∈p.1,bX e) (λ_ p q=>p.2.a<p.2.l.length->scR c n cm p q/\p.1.length<q.1.length/\q.1.length<=p.1.length+6/\rem q.2<rem p.2)
  (λi p hp=>by
   by_cases h:p.2.a<p.2.l.length
   ·obtain⟨q,h1,h2,h3,h4,h5⟩:=zY9 c hc ha n hn cm p hp h;exact⟨q,λ_=>⟨h1,h3,h4,h5⟩,h2⟩
   ·exact⟨p,λh'=>absurd h' h,hp⟩) (l,d) hl.2
 have hst:∃k,¬((f k).2.a<(f k).2.l.length/\(f k).1.length<150):=by
  refine yB9 λhc=>?_
  have hall:∀k,(f k).2.a<(f k).2.l.length/\(f k).1.length<150:=λk=>yB9 λh=>hc ⟨k,h⟩
  have hlen:∀k,k<=(f k).1.length:=λk=>by
   induction k with
   |zero=>exact yAt _
   |succ k ih=>have:=((hf k).2 (hall k).1).2.1;omega
  have:=hlen 150;have:=(hall 150).2;omega
 obtain⟨k,hk⟩:=hst;obtain⟨N,_,hN,hmin⟩:=zBn (P:=λk=>¬((f k).2.a<(f k).2.l.length/\(f k).1.length<150)) k hk;have hlt:∀i,i<N->(f i).2.a<(f i).2.l.length/\(f i).1.length<150:=λi hi=>yB9 λh=>hmin i hi h
 have hle:∀i,i<=N->(f i).1.length<=156:=λi hi=>by
  cases i with
  |zero=>rw[f0];have:=hl.1;dsimp only;omega
  |succ i=>
   have h1:=hlt i zB;have h2:=((hf i).2 h1.1).2.2.1;omega
 exact⟨f,N,f0,λi hi=>⟨((hf i).2 (hlt i hi).1).1,hlt i hi⟩,hN,⟨hle N (yAg _),(hf N).1⟩,hle⟩
def drE (g:Nat):Ev:=⟨4,0,g,0,dY (2000+10*g)⟩
def rgE (c:Cf) (F:Nat×Nat->List Int) (g v:Nat):Ev:=⟨3,AW c.ags g c.ags.length,0,0,F (g,v)⟩
def l1E (i:Nat):List Ev:=(List.range i).map zY7
def l2E (c:Cf) (F:Nat×Nat->List Int) (n:Nat):Nat->List Ev
 |0=>l1E n
 |g+1=>l2E c F n g++[drE g]++(List.range 3).map (rgE c F g)
theorem zGz (c:Cf) (hc:CfW c) (ha:QP c.ags) (cm:Bool) (d:Dk):∃(l:List Ev) (d':Dk),KY l 160/\zN 19 [.ptr 1000 0 0,wD c,bA cm] [(1000,cT d)] (zC vC l) [(1000,cT d')]:=by
 have ks:=zQe c ha;have hb1:=kQ ha c.ags.length (yAg _);have han:=ha.1;obtain⟨n,hn⟩:∃n:Nat,vM c.ags c.ags.length=(n:Int):=⟨(vM c.ags c.ags.length).toNat,zB⟩;rw[hn]at ks;have hn8:n<=8:=by omega
 clear hb1 hn;have hal:=zA wK c.ags
 obtain⟨fR,hfR⟩:=Classical.skolem.1 (λp:Nat×Nat=>show∃q,p.1<4/\p.2<3->BY q/\q.length<=210/\zN 13 [yB ⟨4,(p.1:Int)::0::dY (1000+(p.1:Int)),[(p.2:Int),(p.2:Int).tmod 2],[]⟩] [] (zC yA q) []from by
  by_cases h:p.1<4/\p.2<3
  ·obtain⟨q,h1,h2,h3⟩:=CW _ (zVh (p.1:Int) (p.2:Int) zB zB);exact⟨q,λ_=>⟨h1,h2,h3⟩⟩
  ·exact⟨[],λh'=>absurd h' h⟩)
 have hl2:∀g,g<=c.ags.length->KY (l2E c fR n g) (n+4*g):=λg=>by
  induction g with
  |zero=>
   intro _;refine⟨by simp[l2E,l1E],λe he=>?_⟩;obtain⟨s,hs,rfl⟩:=yBl.1 he;rw[yA2]at hs;exact evb zB zB zB zB qY zS
  | succ g ih=>
   intro hg;have h1:=zBo ha (g:Int) c.ags.length (yAg _);have h2:KY [drE g] 1:=⟨yAg _,λe he=>by rw[yBe.1 he];exact evb zB zB zB zB (YV _) (by rw[jJ];omega)⟩
   have h3:KY ((List.range 3).map (rgE c fR g)) 3:=⟨by simp,λe he=>by
    obtain⟨v,hv,rfl⟩:=yBl.1 he;rw[yA2]at hv;obtain⟨q1,q2,_⟩:=hfR (g,v) ⟨by dsimp only;omega,hv⟩
    exact evb zB zB zB zB q1 zB⟩
   exact(((ih zB).app2 h2).app2 h3).le zB
 have hL:=(hl2 c.ags.length (yAg _)).app zEw;obtain⟨f,N,f0,hf,hend,hfl,hle⟩:=zGy c hc ha n hn8 cm (l2E c fR n c.ags.length++[tkE]) d (hL.le zB);refine⟨(f N).1++[tkE],(f N).2,(hfl.app zEw).le zB,?_⟩;unfold wD at *;refine eM Tryz.call19 λF hF=>?_
 refine zV ks ?_;refine xC 7 1001 5 Z Z Z ?_;refine zO (n) [1001,4,1000] [4,1000] [0,2,4,8,17] [7,18,0,2,4,8,17] Z (λi T U=>⟨(7,.ref 1001 0 ((l1E i).map vC).length)::(18,iA i)::T,(1001,.arr 5 ((l1E i).map vC) true)::U⟩) ?_;(conv=>whnf);refine⟨by rfl,?_,?_⟩
 ·intro i hi;have e:(l1E (i+1)).map vC=(l1E i).map vC++[vC (zY7 i)]:=by unfold l1E;rw[yCx,yAn];simp
  have hln:((l1E i).map vC).length=i:=by simp[l1E]
  rw[e];generalize (l1E i).map vC=X at*
  (repeat' (first|refine ZJ ?_|apply xM|apply xZ|intro hc|(refine zE ?_;first|(refine yV ?_;refine UW 23 Z Z Z ?_;refine qS tok Z Z ?_))|refine SB ?_|fail))
  rfl
 ·(refine WW ?_)
  refine zO ((c.ags.map wK).length) [1001,4,1000] [4,1000] [0,2,4,8,29] [7,30,0,2,4,8,29] Z (λi T U=>⟨(7,.ref 1001 0 ((l2E c fR n i).map vC).length)::(30,iA i)::T,(1001,.arr 5 ((l2E c fR n i).map vC) true)::U⟩) ?_;(conv=>whnf);refine⟨by rfl,?_,?_⟩
  ·intro g hg;have kc:=dI (2000+10*(g:Int));have kb:=zQf c ha (g:Int);have kt:=dI (1000+(g:Int));have ky:=ZN (g:Int) 0 (dY (1000+(g:Int))) (by rw[jJ];omega) zB zB zB zB;have hln:=(hl2 g zB).1;have hln2:((l2E c fR n g).map vC).length=(l2E c fR n g).length:=yAe ..;have e2:(l2E c fR n (g+1)).map vC=((l2E c fR n g).map vC++[vC (drE g)])++((List.range 3).map (rgE c fR g)).map vC:=by simp[l2E]
   rw[e2];unfold wD at kb;generalize (l2E c fR n g).map vC=X at*
   (have zc1:=kc;(repeat' (first|refine ZJ ?_|apply xM|apply xZ|intro hc|(refine zE ?_;first|(refine yV ?_;refine qS tok Z Z ?_))|refine SB ?_|fail))<;>clear zc1)
   refine zO (3) [1001,4,1000] [4,1000] [0,2,4,8,10,29,30] [7,42,0,2,4,8,10,29,30] Z (λi T U=>⟨(7,.ref 1001 0 (X++[vC (drE g)]++((List.range i).map (rgE c fR g)).map vC).length)::(42,iA i)::T,(1001,.arr 5 (X++[vC (drE g)]++((List.range i).map (rgE c fR g)).map vC) true)::U⟩) ?_;(conv=>whnf);refine⟨by(rw[show X++[vC (drE g)]++((List.range 0).map (rgE c fR g)).map vC=X++[vC (drE g)]from yA8 _];rfl),?_,?_⟩
   ·intro v hv;have kf:=(hfR (g,v) ⟨by dsimp only;omega,hv⟩).2.2;dsimp only at kf;have e3:X++[vC (drE g)]++((List.range (v+1)).map (rgE c fR g)).map vC=X++[vC (drE g)]++((List.range v).map (rgE c fR g)).map vC++[vC (rgE c fR g v)]:=by rw[yCx];simp
    have hl3:(X++[vC (drE g)]++((List.range v).map (rgE c fR g)).map vC).length<=100:=by simp;omega
    rw[e3];unfold yB at kf;rw[show vC (rgE c fR g v)= .agg [iA 3,iA (AW c.ags g c.ags.length),iA 0,iA 0,zC yA (fR (g,v))]from Z];generalize X++[vC (drE g)]++((List.range v).map (rgE c fR g)).map vC=Y at *;generalize fR (g,v)=fr at *;generalize AW c.ags g c.ags.length=bz at *;generalize dY (1000+(g:Int))=sc at*
    (have zc1:=kb;have zc2:=kt;have zc3:=ky;have zc4:=kf;(repeat' (first|refine ZJ ?_|apply xM|apply xZ|intro hc|(refine zE ?_;first|(refine yV ?_;refine qS tok Z Z ?_))|refine SB ?_|fail))<;>clear zc1 zc2 zc3 zc4)
    rfl
   ·(refine WW ?_)
    rfl
  ·rw [hal];have hl9:=(hl2 c.ags.length (yAg _)).1;have hl10:((l2E c fR n c.ags.length).map vC).length=(l2E c fR n c.ags.length).length:=yAe ..
   (repeat' (first|refine ZJ ?_|apply xM|apply xZ|intro hc|(refine zE ?_;first|(refine yV ?_;refine UW 66 Z Z Z ?_;refine qS tok Z Z ?_))|refine SB ?_|fail))
   refine zO (N) [1000,1001,4] [4] [0,2,4,8] [7,0,2,4,8] Z (λi T U=>⟨(7,.ref 1001 0 ((f i).1.map vC).length)::T,(1000,cT (f i).2)::(1001,.arr 5 ((f i).1.map vC) true)::U⟩) ?_;(conv=>whnf);refine⟨by(rw[f0,SZ];rfl),?_,?_⟩
   ·intro i hi;obtain⟨hR,hlt,h150⟩:=hf i hi;have hml:((f i).1.map vC).length=(f i).1.length:=yAe ..;clear hf hend hfl hle f0 hL hl9 hl10 hl2 hfR ks;generalize f (i+1)=q at *;generalize f i=p at *;obtain⟨l,d⟩:=p;dsimp only at *;have lf:=zH8 d;rw[yAj hlt]at lf;have b1:=yD d (max 1 (n:Int)) zB;have b2:=yD (ad d) 12 zB;have n1:=yH d (max 1 (n:Int)) zB zB;have n2:=yH (ad d) 12 zB zB;have ko:=zKl c ha (nx d (max 1 (n:Int))) zB zB;unfold scR wD at hR;unfold wD at ko;generalize nx d (max 1 (n:Int))=s at *;generalize nx (ad d) 12=k at *;generalize ad (ad d)=d2 at *;generalize ad d=d1 at*
    rcases hR with⟨h3,rfl⟩|⟨h4,rfl⟩|⟨h5,e,d',rfl,kd⟩|⟨h6,b,d',rfl,m0,m1,dA,dC,q0,q1,e2,d5,hB⟩
    ·dsimp only;rw[SZ,show vC tkE= .agg [iA 6,iA 0,iA 0,iA 0,.sl false []]from Z];generalize l.map vC=X at *;have:k=0∨k=1∨k=2∨k=3:=by omega
     rcases this with h|h|h|h
     all_goals
      (have zc1:=lf;have zc2:=n1;have zc3:=n2;(repeat' (first|refine ZJ ?_|apply xM|apply xZ|intro hc|(refine zE ?_;first|(refine yV ?_;refine UW 128 Z Z Z ?_;refine qS tok Z Z ?_))|refine SB ?_|fail))<;>clear zc1 zc2 zc3)
      rfl
    ·dsimp only;have n3:=yH d2 6 zB zB;have b3:=yD d2 6 zB;generalize ad d2=d3 at *;obtain⟨z,hz⟩:∃z:Nat,nx d2 6=(z:Int):=⟨(nx d2 6).toNat,zB⟩;rw[hz]at n3 b3⊢;rw[show((z:Int)+1).toNat=z+1 by omega,yAn,yD6,show vC tkE= .agg [iA 6,iA 0,iA 0,iA 0,.sl false []]from Z];generalize l.map vC=X at*
     (have zc1:=lf;have zc2:=n1;have zc3:=n2;have zc4:=n3;(repeat' (first|refine uP ?_|apply xM|apply xZ|intro hc|fail))<;>clear zc1 zc2 zc3 zc4)
     refine zO ((z+1)) [1001,4,1000] [4,1000] [0,2,4,8] [7,13,0,2,4,8] Z (λi T U=>⟨(7,.ref 1001 0 (X++List.replicate i (AV.agg [iA 6,iA 0,iA 0,iA 0,.sl false []])).length)::(13,iA ((z:Int)-i))::T,(1001,.arr 5 (X++List.replicate i (AV.agg [iA 6,iA 0,iA 0,iA 0,.sl false []])) true)::U⟩) ?_;(conv=>whnf);refine⟨by(rw[yE3,yA8,show(z:Int)-(0:Nat)=z by omega];rfl),?_,?_⟩
     ·intro r hr;have hlr:(X++List.replicate r (AV.agg [iA 6,iA 0,iA 0,iA 0,.sl false []])).length<=200:=by simp;omega
      rw[show List.replicate (r+1) (AV.agg [iA 6,iA 0,iA 0,iA 0,.sl false []])=List.replicate r (AV.agg [iA 6,iA 0,iA 0,iA 0,.sl false []])++[AV.agg [iA 6,iA 0,iA 0,iA 0,.sl false []]]from yFs,<-yA6,show(z:Int)-((r+1:Nat):Int)=(z:Int)-r-1 by omega];generalize X++List.replicate r (AV.agg [iA 6,iA 0,iA 0,iA 0,.sl false []])=Y at *;have z0:0<=(z:Int)-r:=by omega
      have z1:(z:Int)-r<=10:=by omega
      generalize (z:Int)-r=w at*
      (repeat' (first|refine ZJ ?_|apply xM|apply xZ|intro hc|(refine zE ?_;first|(refine yV ?_;refine UW 140 Z Z Z ?_;refine qS tok Z Z ?_))|refine SB ?_|fail))
      rfl
     ·rw[show(z:Int)-((z+1:Nat):Int)= -1 by omega];refine WW ?_;rfl
    ·dsimp only;rw[SZ];generalize l.map vC=X at*
     (have zc1:=lf;have zc2:=n1;have zc3:=n2;have zc4:=kd;(repeat' (first|refine ZJ ?_|apply xM|apply xZ|intro hc|(refine zE ?_;first|(refine yV ?_;refine qS tok Z Z ?_))|refine SB ?_|fail))<;>clear zc1 zc2 zc3 zc4)
     rfl
    ·dsimp only;rw[SZ,show vC ⟨3,s,0,0,b⟩= .agg [iA 3,iA s,iA 0,iA 0,zC yA b]from Z];obtain⟨k0,f0,k1,f1,h2,g5,sp,hb',hd',l0,l1⟩:=hB;unfold wD yB at *;have n3:=yH dA 3 zB zB;have n4:=yH d5 7 zB zB;have n5:=yH (ad d5) 99 zB zB;have n6:=yH (ad (ad d5)) 1024 zB zB;have c3:=yD dA 3 zB;have c4:=yD d5 7 zB;have m0:=zA yA q0;have m1:=zA yA q1;generalize l.map vC=X at *;generalize nx dA 3=u at *;generalize nx d5 7=v at *;by_cases hu:u=2
     ·rw[yAd hu]at h2 g5;subst g5;subst h2;have em:zC yA (q0++q1)= .sl false (q0.map yA++q1.map yA):=by unfold zC;rw[yAn]
      rw[em]at sp;have ez:zC yA (q0++q1)= .sl false (List.take (q0.map yA++q1.map yA).length (List.drop 0 (q0.map yA++q1.map yA))):=by rw[em,yBf,yAh]
      cases cm with
      |true=>
       rw[yAd Z]at hd';subst hd';have hbe:=hb' (λh=>by cases h.1);subst hbe;rw[ez];clear sp hb'
       (have zc1:=lf;have zc2:=n1;have zc3:=n2;have zc4:=ko;have zc5:=k0;have zc6:=f0;have zc7:=n3;have zc8:=k1;have zc9:=f1;have zc10:=n4;have zc11:=n5;have zc12:=n6;(repeat' (first|refine ZJ ?_|apply xM|apply xZ|intro hc|(refine zE ?_;first|(refine yV ?_;refine uN [1000,1001,4] [0,2,4,8,116,119] Z ?_;(conv=>whnf);refine qS tok Z Z ?_)|(refine yK ?_;refine uX tok Z Z Z Z Z Z Z Z Z Z Z (yC _ _ (λ_=>rfl)) zB Z ?_))|refine SB ?_|fail))<;>clear zc1 zc2 zc3 zc4 zc5 zc6 zc7 zc8 zc9 zc10 zc11 zc12)
       rfl
      | false=>
       rw[yAc yAx]at hd';by_cases hv:v=6
       ·rw[yAd hv]at hd';subst hd';have sp:=sp Z hv;clear hb'
        (have zc1:=lf;have zc2:=n1;have zc3:=n2;have zc4:=ko;have zc5:=k0;have zc6:=f0;have zc7:=n3;have zc8:=k1;have zc9:=f1;have zc10:=n4;have zc11:=n5;have zc12:=n6;have zc13:=sp;have zf1:=(⟨⟩:FzD 30 [1000,1001,4] [0,2,4,7,8,12,110,112,114]);(repeat' (first|refine ZJ ?_|apply xM|apply xZ|intro hc|(refine zE ?_;first|(refine yV ?_;refine uN [1000,1001,4] [0,2,4,8,116,119] Z ?_;(conv=>whnf);refine qS tok Z Z ?_)|(refine yK ?_;refine uX tok Z Z Z Z Z Z Z Z Z Z Z (yC _ _ (λ_=>rfl)) zB Z ?_))|refine SB ?_|fail))<;>clear zc1 zc2 zc3 zc4 zc5 zc6 zc7 zc8 zc9 zc10 zc11 zc12 zc13 zf1)
        rfl
       ·rw[yAc hv]at hd';subst hd';have hbe:=hb' (λh=>hv h.2);subst hbe;rw[ez];clear sp hb'
        (have zc1:=lf;have zc2:=n1;have zc3:=n2;have zc4:=ko;have zc5:=k0;have zc6:=f0;have zc7:=n3;have zc8:=k1;have zc9:=f1;have zc10:=n4;have zc11:=n5;have zc12:=n6;(repeat' (first|refine ZJ ?_|apply xM|apply xZ|intro hc|(refine zE ?_;first|(refine yV ?_;refine uN [1000,1001,4] [0,2,4,8,116,119] Z ?_;(conv=>whnf);refine qS tok Z Z ?_)|(refine yK ?_;refine uX tok Z Z Z Z Z Z Z Z Z Z Z (yC _ _ (λ_=>rfl)) zB Z ?_))|refine SB ?_|fail))<;>clear zc1 zc2 zc3 zc4 zc5 zc6 zc7 zc8 zc9 zc10 zc11 zc12)
        rfl
     ·rw[yAc hu]at h2 g5;subst g5;subst h2;have em:∀z,zC yA z= .sl false (z.map yA):=λz=>rfl
      rw[em e2]at sp;have ez:zC yA e2= .sl false (List.take (e2.map yA).length (List.drop 0 (e2.map yA))):=by rw[yBf,yAh];rfl
      cases cm with
      |true=>
       rw[yAd Z]at hd';subst hd';have hbe:=hb' (λh=>by cases h.1);subst hbe;rw[ez];clear sp hb'
       (have zc1:=lf;have zc2:=n1;have zc3:=n2;have zc4:=ko;have zc5:=k0;have zc6:=f0;have zc7:=n3;have zc8:=k1;have zc9:=f1;have zc10:=n4;have zc11:=n5;have zc12:=n6;(repeat' (first|refine ZJ ?_|apply xM|apply xZ|intro hc|(refine zE ?_;first|(refine yV ?_;refine uN [1000,1001,4] [0,2,4,8,116,119] Z ?_;(conv=>whnf);refine qS tok Z Z ?_)|(refine yK ?_;refine uX tok Z Z Z Z Z Z Z Z Z Z Z (yC _ _ (λ_=>rfl)) zB Z ?_))|refine SB ?_|fail))<;>clear zc1 zc2 zc3 zc4 zc5 zc6 zc7 zc8 zc9 zc10 zc11 zc12)
       rfl
      | false=>
       rw[yAc yAx]at hd';by_cases hv:v=6
       ·rw[yAd hv]at hd';subst hd';have sp:=sp Z hv;clear hb'
        (have zc1:=lf;have zc2:=n1;have zc3:=n2;have zc4:=ko;have zc5:=k0;have zc6:=f0;have zc7:=n3;have zc8:=k1;have zc9:=f1;have zc10:=n4;have zc11:=n5;have zc12:=n6;have zc13:=sp;have zf1:=(⟨⟩:FzD 30 [1000,1001,4] [0,2,4,7,8,12,110,112,114]);(repeat' (first|refine ZJ ?_|apply xM|apply xZ|intro hc|(refine zE ?_;first|(refine yV ?_;refine uN [1000,1001,4] [0,2,4,8,116,119] Z ?_;(conv=>whnf);refine qS tok Z Z ?_)|(refine yK ?_;refine uX tok Z Z Z Z Z Z Z Z Z Z Z (yC _ _ (λ_=>rfl)) zB Z ?_))|refine SB ?_|fail))<;>clear zc1 zc2 zc3 zc4 zc5 zc6 zc7 zc8 zc9 zc10 zc11 zc12 zc13 zf1)
        rfl
       ·rw[yAc hv]at hd';subst hd';have hbe:=hb' (λh=>hv h.2);subst hbe;rw[ez];clear sp hb'
        (have zc1:=lf;have zc2:=n1;have zc3:=n2;have zc4:=ko;have zc5:=k0;have zc6:=f0;have zc7:=n3;have zc8:=k1;have zc9:=f1;have zc10:=n4;have zc11:=n5;have zc12:=n6;(repeat' (first|refine ZJ ?_|apply xM|apply xZ|intro hc|(refine zE ?_;first|(refine yV ?_;refine uN [1000,1001,4] [0,2,4,8,116,119] Z ?_;(conv=>whnf);refine qS tok Z Z ?_)|(refine yK ?_;refine uX tok Z Z Z Z Z Z Z Z Z Z Z (yC _ _ (λ_=>rfl)) zB Z ?_))|refine SB ?_|fail))<;>clear zc1 zc2 zc3 zc4 zc5 zc6 zc7 zc8 zc9 zc10 zc11 zc12)
        rfl
   ·rw[show zC vC ((f N).1++[tkE])= .sl false ((f N).1.map vC++[vC tkE]) by unfold zC;rw[SZ]];have hlN:=hfl.1;have hml:((f N).1.map vC).length=(f N).1.length:=yAe ..;have lf:=zH8 (f N).2;clear hf hfl hle f0 hL hl9 hl10 hl2 hfR ks;generalize f N=p at *;obtain⟨l,d⟩:=p;dsimp only at *;rw[show vC tkE= .agg [iA 6,iA 0,iA 0,iA 0,.sl false []]from Z];by_cases hlt:d.a<d.l.length
    ·have h150:¬l.length<150:=λh=>hend ⟨hlt,h⟩
     rw[yAj hlt]at lf;generalize l.map vC=X at*
     (have zc1:=lf;(repeat' (first|refine ZJ ?_|apply xM|apply xZ|intro hc|(refine zE ?_;first|(refine yV ?_;refine UW 154 Z Z Z ?_;refine qS tok Z Z ?_))|refine SB ?_|fail))<;>clear zc1)
     exact zH [1000] Z Z (yBa (AV.sl false) yAh) Z
    ·rw[yAl hlt]at lf;generalize l.map vC=X at*
     (have zc1:=lf;(repeat' (first|refine ZJ ?_|apply xM|apply xZ|intro hc|(refine zE ?_;first|(refine yV ?_;refine UW 154 Z Z Z ?_;refine qS tok Z Z ?_))|refine SB ?_|fail))<;>clear zc1)
     exact zH [1000] Z Z (yBa (AV.sl false) yAh) Z
end Av
end Go.Proofs.YteajjdidebfcjaaGreat
