/- Part 32. -/
import Derived.Test.YtmamjhmoegjapaaGreatP27
import Derived.Test.YtmamjhmoegjapaaGreatP22
import Derived.Test.YtmamjhmoegjapaaGreatP18
import Derived.Test.YtmamjhmoegjapaaGreatP31
import Derived.Test.YtmamjhmoegjapaaGreatP30
import Derived.Test.YtmamjhmoegjapaaGreatP21
import Derived.Test.YtmamjhmoegjapaaGreatP26
namespace Go.Proofs.YtmamjhmoegjapaaGreat
namespace Av
open Tryz
set_option linter.unusedSimpArgs false
set_option linter.unusedVariables false
set_option linter.unusedSectionVars false
set_option maxRecDepth 4000
set_option maxHeartbeats 8000000
theorem fH (l:List Ev) (e:Ev):(l++[e]).map vU=l.map vU++[vU e]:=by simp
theorem MY.app2 {a b:List Ev} {n m:Nat} (h:MY a n) (h2:MY b m):MY (a++b) (n+m):=
 ⟨by have:=h.1;have:=h2.1;rw[zX3];omega,λx hx=>(zYl.1 hx).elim (h.2 x) (h2.2 x)⟩
theorem MY.of {l:List Ev} (h:∀e∈l,cB e):MY l l.length:=⟨zX6 _,h⟩
def tkE:Ev:=⟨6,0,0,0,[]⟩
theorem zC3:cB tkE:=KW zB zB zB zB kD zS
def zWx (s:Nat):Ev:=⟨1,s,0,0,[]⟩
structure BtR (c:Cf) (cm:Bool) (g:Int) (d:Dk) (b:List Int) (d':Dk) (m0 m1:Ms) (dA dC:Dk) (q0 q1 b2:List Int) (d5:Dk):Prop where
 k0:zN 48 [.ptr 1000 0 0,wP c,iA g,bA cm] [(1000,dU d)] (yE m0) [(1000,dU dA)]
 f0:zN 45 [yE m0] [] (.ref 1031 0 (q0.map yA).length) [(1031,.arr 1 (q0.map yA) true)]
 k1:zN 48 [.ptr 1000 0 0,wP c,iA g,bA cm] [(1000,dU (ad dA))] (yE m1) [(1000,dU dC)]
 f1:zN 45 [yE m1] [] (zD yA q1) []
 h2:b2=if nx dA 3=2 then q0++q1 else q0
 h5:d5=if nx dA 3=2 then dC else ad dA
 sp:cm=false->nx d5 7=6->zN 50 [zD yA b2,iA (nx (ad d5) 99),iA (nx (ad (ad d5)) 1024)] [] (zD yA b) []
 hb:¬(cm=false/\nx d5 7=6)->b=b2
 hd:d'=if cm=true then d5 else if nx d5 7=6 then ad (ad (ad d5))else ad d5
 l0:q0.length<=210
 l1:q1.length<=210
theorem zWy (c:Cf) (hc:CfW c) (cm:Bool) (g:Int) (hg:0<=g/\g<256) (d:Dk):∃(b:List Int) (d':Dk),(BY b/\b.length<=1000/\rem d'<=rem d)/\∃m0 m1 dA dC q0 q1 b2 d5,BtR c cm g d b d' m0 m1 dA dC q0 q1 b2 d5:=by
 obtain⟨m0,dA,h0,r0,k0⟩:=TY c hc g hg cm d;obtain⟨q0,y0,l0,f0,_⟩:=FF m0 h0;obtain⟨m1,dC,h1,r1,k1⟩:=TY c hc g hg cm (ad dA);obtain⟨q1,y1,l1,f1⟩:=FG m1 h1;have ra:=wM dA
 obtain⟨b2,hb2⟩:∃b2,b2=if nx dA 3=2 then q0++q1 else q0:=⟨_,rfl⟩
 obtain⟨d5,hd5⟩:∃d5,d5=if nx dA 3=2 then dC else ad dA:=⟨_,rfl⟩
 have yb:BY b2/\b2.length<=420:=by
  rw[hb2];split
  ·exact⟨λx hx=>(zYl.1 hx).elim (y0 x) (y1 x),by rw[zX3];omega⟩
  ·exact⟨y0,zB⟩
 have r5:rem d5<=rem d:=by rw[hd5];split<;>omega
 have r6:=wM d5;have r7:=wM (ad d5);have r8:=wM (ad (ad d5));have b7:=yF (ad (ad d5)) 1024 zB;obtain⟨q,yq,lq,kq⟩:=zDq b2 yb.1 zB (nx (ad d5) 99) (nx (ad (ad d5)) 1024) zB;refine⟨if cm=false/\nx d5 7=6 then q else b2,if cm=true then d5 else if nx d5 7=6 then ad (ad (ad d5))else ad d5,⟨?_,?_,?_⟩,m0,m1,dA,dC,q0,q1,b2,d5,k0,f0,k1,f1,hb2,hd5,λh1 h2=>?_,λh=>zX0 h,rfl,l0,l1⟩
 ·split
  ·exact yq
  ·exact yb.1
 ·split<;>omega
 ·split
  ·omega
  ·split<;>omega
 ·rw[zX1 ⟨h1,h2⟩];exact kq
def scR (c:Cf) (n:Nat) (cm:Bool) (p q:List Ev×Dk):Prop:=
 (nx (ad p.2) 12<=3/\q=(p.1++[tkE],ad (ad p.2)))∨
 (nx (ad p.2) 12=4/\q=(p.1++List.replicate (nx (ad (ad p.2)) 6+1).toNat tkE,ad (ad (ad p.2))))∨
 (nx (ad p.2) 12=5/\∃e d',q=(p.1++[e],d')/\zN 47 [.ptr 1000 0 0,wP c,iA (nx p.2 (max 1 (n:Int))),bA cm] [(1000,dU (ad (ad p.2)))] (vU e) [(1000,dU d')])∨
 (6<=nx (ad p.2) 12/\∃b d',q=(p.1++[⟨3,nx p.2 (max 1 (n:Int)),0,0,b⟩],d')/\∃m0 m1 dA dC q0 q1 b2 d5,BtR c cm (BT c.ags (nx p.2 (max 1 (n:Int)))) (ad (ad p.2)) b d' m0 m1 dA dC q0 q1 b2 d5)
theorem zWz (c:Cf) (hc:CfW c) (ha:MX c.ags) (n:Nat) (hn:n<=8) (cm:Bool) (p:List Ev×Dk) (hp:∀e∈p.1,cB e) (hl:p.2.a<p.2.l.length):
  ∃q,scR c n cm p q/\(∀e∈q.1,cB e)/\p.1.length<q.1.length/\q.1.length<=p.1.length+6/\rem q.2<rem p.2:=by
 obtain⟨l,d⟩:=p;dsimp only at hp hl;have r0:=zI1 d hl;have r1:=wM (ad d);have b0:=yF d (max 1 (n:Int)) zB;have b1:=yF (ad d) 12 zB;have b2:=yF (ad (ad d)) 6 zB;have r2:=wM (ad (ad d));have one:∀e,cB e->∀x∈l++[e],cB x:=λe he x hx=>(zYl.1 hx).elim (hp x) λhx=>by rw[zYz.1 hx];exact he
 have len:∀e:Ev,(l++[e]).length=l.length+1:=λe=>by rw[zX3,yAg]
 by_cases h3:nx (ad d) 12<=3
 ·exact⟨_,.inl ⟨h3,rfl⟩,one _ zC3,by dsimp only;rw[len];omega,by dsimp only;rw[len];omega,by dsimp only;omega⟩
 by_cases h4:nx (ad d) 12=4
 ·refine⟨_,.inr (.inl ⟨h4,rfl⟩),λx hx=>(zYl.1 hx).elim (hp x) λhx=>by rw[(yB6.1 hx).2];exact zC3,?_,?_,by dsimp only;omega⟩
  ·dsimp only;rw[zX3,zZd];omega
  ·dsimp only;rw[zX3,zZd];omega
 by_cases h5:nx (ad d) 12=5
 ·obtain⟨e,d',he,hr,k⟩:=zRr c (nx d (max 1 (n:Int))) zB zB cm (ad (ad d));exact⟨_,.inr (.inr (.inl ⟨h5,e,d',rfl,k⟩)),one _ he,by dsimp only;rw[len];omega,by dsimp only;rw[len];omega,by dsimp only;omega⟩
 ·have hg:=zRq ha (nx d (max 1 (n:Int)));obtain⟨b,d',⟨yb,lb,hr⟩,h⟩:=zWy c hc cm (BT c.ags (nx d (max 1 (n:Int)))) zB (ad (ad d));exact⟨_,.inr (.inr (.inr ⟨by dsimp only;omega,b,d',rfl,h⟩)),one _ (show cB ⟨3,nx d (max 1 (n:Int)),0,0,b⟩from KW zB zB zB zB yb lb),by dsimp only;rw[len];omega,by dsimp only;rw[len];omega,by dsimp only;omega⟩
theorem zE1 (c:Cf) (hc:CfW c) (ha:MX c.ags) (n:Nat) (hn:n<=8) (cm:Bool) (l:List Ev) (d:Dk) (hl:MY l 100):
  ∃(f:Nat->List Ev×Dk) (N:Nat),f 0=(l,d)/\(∀i,i<N->scR c n cm (f i) (f (i+1))/\(f i).2.a<(f i).2.l.length/\(f i).1.length<150)/\¬((f N).2.a<(f N).2.l.length/\(f N).1.length<150)/\MY (f N).1 156/\∀i,i<=N->(f i).1.length<=156:=by
 obtain⟨f,f0,hf⟩:=zHs (λ_ (p:List Ev×Dk)=>∀e∈p.1,cB e) (λ_ p q=>p.2.a<p.2.l.length->scR c n cm p q/\p.1.length<q.1.length/\q.1.length<=p.1.length+6/\rem q.2<rem p.2)
  (λi p hp=>by
   by_cases h:p.2.a<p.2.l.length
   ·obtain⟨q,h1,h2,h3,h4,h5⟩:=zWz c hc ha n hn cm p hp h;exact⟨q,λ_=>⟨h1,h3,h4,h5⟩,h2⟩
   ·exact⟨p,λh'=>absurd h' h,hp⟩) (l,d) hl.2
 have hst:∃k,¬((f k).2.a<(f k).2.l.length/\(f k).1.length<150):=by
  refine yA6 λhc=>?_
  have hall:∀k,(f k).2.a<(f k).2.l.length/\(f k).1.length<150:=λk=>yA6 λh=>hc ⟨k,h⟩
  have hlen:∀k,k<=(f k).1.length:=λk=>by
   induction k with
   |zero=>exact zYe _
   |succ k ih=>have:=((hf k).2 (hall k).1).2.1;omega
  have:=hlen 150;have:=(hall 150).2;omega
 obtain⟨k,hk⟩:=hst;obtain⟨N,_,hN,hmin⟩:=zIi (P:=λk=>¬((f k).2.a<(f k).2.l.length/\(f k).1.length<150)) k hk;have hlt:∀i,i<N->(f i).2.a<(f i).2.l.length/\(f i).1.length<150:=λi hi=>yA6 λh=>hmin i hi h
 have hle:∀i,i<=N->(f i).1.length<=156:=λi hi=>by
  cases i with
  |zero=>rw[f0];have:=hl.1;dsimp only;omega
  |succ i=>
   have h1:=hlt i zB;have h2:=((hf i).2 h1.1).2.2.1;omega
 exact⟨f,N,f0,λi hi=>⟨((hf i).2 (hlt i hi).1).1,hlt i hi⟩,hN,⟨hle N (zX6 _),(hf N).1⟩,hle⟩
def drE (g:Nat):Ev:=⟨4,0,g,0,dS (2000+10*g)⟩
def rgE (c:Cf) (F:Nat×Nat->List Int) (g v:Nat):Ev:=⟨3,CX c.ags g c.ags.length,0,0,F (g,v)⟩
def l1E (i:Nat):List Ev:=(List.range i).map zWx
def l2E (c:Cf) (F:Nat×Nat->List Int) (n:Nat):Nat->List Ev
 |0=>l1E n
 |g+1=>l2E c F n g++[drE g]++(List.range 3).map (rgE c F g)
theorem YO (c:Cf) (hc:CfW c) (ha:MX c.ags) (cm:Bool) (d:Dk):∃(l:List Ev) (d':Dk),MY l 160/\zN 14 [.ptr 1000 0 0,wP c,bA cm] [(1000,dU d)] (zD vU l) [(1000,dU d')]:=by
 have ks:=zL3 c ha;have hb1:=qS ha c.ags.length (zX6 _);have han:=ha.1;obtain⟨n,hn⟩:∃n:Nat,qX c.ags c.ags.length=(n:Int):=⟨(qX c.ags c.ags.length).toNat,zB⟩;rw[hn]at ks;have hn8:n<=8:=by omega
 clear hb1 hn;have hal:=zA vC c.ags
 obtain⟨fR,hfR⟩:=Classical.skolem.1 (λp:Nat×Nat=>show∃q,p.1<4/\p.2<3->BY q/\q.length<=210/\zN 45 [yE ⟨4,(p.1:Int)::0::dS (1000+(p.1:Int)),[(p.2:Int),(p.2:Int).tmod 2],[]⟩] [] (zD yA q) []from by
  by_cases h:p.1<4/\p.2<3
  ·obtain⟨q,h1,h2,h3⟩:=FG _ (zRs (p.1:Int) (p.2:Int) zB zB);exact⟨q,λ_=>⟨h1,h2,h3⟩⟩
  ·exact⟨[],λh'=>absurd h' h⟩)
 have hl2:∀g,g<=c.ags.length->MY (l2E c fR n g) (n+4*g):=λg=>by
  induction g with
  |zero=>
   intro _;refine⟨by simp[l2E,l1E],λe he=>?_⟩;obtain⟨s,hs,rfl⟩:=zZj.1 he;rw[zYr]at hs;exact KW zB zB zB zB kD zS
  | succ g ih=>
   intro hg;have h1:=BS ha (g:Int) c.ags.length (zX6 _);have h2:MY [drE g] 1:=⟨zX6 _,λe he=>by rw[zYz.1 he];exact KW zB zB zB zB (YA _) (by rw[jB];omega)⟩
   have h3:MY ((List.range 3).map (rgE c fR g)) 3:=⟨by simp,λe he=>by
    obtain⟨v,hv,rfl⟩:=zZj.1 he;rw[zYr]at hv;obtain⟨q1,q2,_⟩:=hfR (g,v) ⟨by dsimp only;omega,hv⟩
    exact KW zB zB zB zB q1 zB⟩
   exact(((ih zB).app2 h2).app2 h3).le zB
 have hL:=(hl2 c.ags.length (zX6 _)).app zC3;obtain⟨f,N,f0,hf,hend,hfl,hle⟩:=zE1 c hc ha n hn8 cm (l2E c fR n c.ags.length++[tkE]) d (hL.le zB);refine⟨(f N).1++[tkE],(f N).2,(hfl.app zC3).le zB,?_⟩;unfold wP at *;refine eM call14 λF hF=>?_
 refine zU ks ?_;refine xC 7 1001 5 rfl rfl rfl ?_;refine zP (n) [1001,4,1000] [4,1000] [0,2,4,8,17] [7,18,0,2,4,8,17] rfl (λi T U=>⟨(7,.ref 1001 0 ((l1E i).map vU).length)::(18,iA i)::T,(1001,.arr 5 ((l1E i).map vU) true)::U⟩) ?_;(conv=>whnf);refine⟨by rfl,?_,?_⟩
 ·intro i hi;have e:(l1E (i+1)).map vU=(l1E i).map vU++[vU (zWx i)]:=by unfold l1E;rw[yAh,zYc];simp
  have hln:((l1E i).map vU).length=i:=by simp[l1E]
  rw[e];generalize (l1E i).map vU=X at*
  (repeat' (first|refine aL ?_|refine xO (λhc=>?_) (λhc=>?_)|refine wB (λhc=>?_)|(refine zE ?_;first|(refine yS ?_;refine UI 23 rfl rfl rfl ?_;refine qR tok rfl rfl ?_))|refine SB ?_|fail))
  rfl
 ·(refine WW ?_)
  refine zP ((c.ags.map vC).length) [1001,4,1000] [4,1000] [0,2,4,8,29] [7,30,0,2,4,8,29] rfl (λi T U=>⟨(7,.ref 1001 0 ((l2E c fR n i).map vU).length)::(30,iA i)::T,(1001,.arr 5 ((l2E c fR n i).map vU) true)::U⟩) ?_;(conv=>whnf);refine⟨by rfl,?_,?_⟩
  ·intro g hg;have kc:=dF (2000+10*(g:Int));have kb:=zL4 c ha (g:Int);have kt:=dF (1000+(g:Int));have ky:=ZC (g:Int) 0 (dS (1000+(g:Int))) (by rw[jB];omega) zB zB zB zB;have hln:=(hl2 g zB).1;have hln2:((l2E c fR n g).map vU).length=(l2E c fR n g).length:=zX2 ..;have e2:(l2E c fR n (g+1)).map vU=((l2E c fR n g).map vU++[vU (drE g)])++((List.range 3).map (rgE c fR g)).map vU:=by simp[l2E]
   rw[e2];unfold wP at kb;generalize (l2E c fR n g).map vU=X at*
   (have zc1:=kc;(repeat' (first|refine aL ?_|refine xO (λhc=>?_) (λhc=>?_)|refine wB (λhc=>?_)|(refine zE ?_;first|(refine yS ?_;refine qR tok rfl rfl ?_))|refine SB ?_|fail))<;>clear zc1)
   refine zP (3) [1001,4,1000] [4,1000] [0,2,4,8,10,29,30] [7,42,0,2,4,8,10,29,30] rfl (λi T U=>⟨(7,.ref 1001 0 (X++[vU (drE g)]++((List.range i).map (rgE c fR g)).map vU).length)::(42,iA i)::T,(1001,.arr 5 (X++[vU (drE g)]++((List.range i).map (rgE c fR g)).map vU) true)::U⟩) ?_;(conv=>whnf);refine⟨by(rw[show X++[vU (drE g)]++((List.range 0).map (rgE c fR g)).map vU=X++[vU (drE g)]from zY5 _];rfl),?_,?_⟩
   ·intro v hv;have kf:=(hfR (g,v) ⟨by dsimp only;omega,hv⟩).2.2;dsimp only at kf;have e3:X++[vU (drE g)]++((List.range (v+1)).map (rgE c fR g)).map vU=X++[vU (drE g)]++((List.range v).map (rgE c fR g)).map vU++[vU (rgE c fR g v)]:=by rw[yAh];simp
    have hl3:(X++[vU (drE g)]++((List.range v).map (rgE c fR g)).map vU).length<=100:=by simp;omega
    rw[e3];unfold yE at kf;rw[show vU (rgE c fR g v)= .agg [iA 3,iA (CX c.ags g c.ags.length),iA 0,iA 0,zD yA (fR (g,v))]from rfl];generalize X++[vU (drE g)]++((List.range v).map (rgE c fR g)).map vU=Y at *;generalize fR (g,v)=fr at *;generalize CX c.ags g c.ags.length=bz at *;generalize dS (1000+(g:Int))=sc at*
    (have zc1:=kb;have zc2:=kt;have zc3:=ky;have zc4:=kf;(repeat' (first|refine aL ?_|refine xO (λhc=>?_) (λhc=>?_)|refine wB (λhc=>?_)|(refine zE ?_;first|(refine yS ?_;refine qR tok rfl rfl ?_))|refine SB ?_|fail))<;>clear zc1 zc2 zc3 zc4)
    rfl
   ·(refine WW ?_)
    rfl
  ·rw [hal];have hl9:=(hl2 c.ags.length (zX6 _)).1;have hl10:((l2E c fR n c.ags.length).map vU).length=(l2E c fR n c.ags.length).length:=zX2 ..
   (repeat' (first|refine aL ?_|refine xO (λhc=>?_) (λhc=>?_)|refine wB (λhc=>?_)|(refine zE ?_;first|(refine yS ?_;refine UI 66 rfl rfl rfl ?_;refine qR tok rfl rfl ?_))|refine SB ?_|fail))
   refine zP (N) [1000,1001,4] [4] [0,2,4,8] [7,0,2,4,8] rfl (λi T U=>⟨(7,.ref 1001 0 ((f i).1.map vU).length)::T,(1000,dU (f i).2)::(1001,.arr 5 ((f i).1.map vU) true)::U⟩) ?_;(conv=>whnf);refine⟨by(rw[f0,fH];rfl),?_,?_⟩
   ·intro i hi;obtain⟨hR,hlt,h150⟩:=hf i hi;have hml:((f i).1.map vU).length=(f i).1.length:=zX2 ..;clear hf hend hfl hle f0 hL hl9 hl10 hl2 hfR ks;generalize f (i+1)=q at *;generalize f i=p at *;obtain⟨l,d⟩:=p;dsimp only at *;have lf:=AU d;rw[zX8 hlt]at lf;have b1:=yF d (max 1 (n:Int)) zB;have b2:=yF (ad d) 12 zB;have n1:=yH d (max 1 (n:Int)) zB zB;have n2:=yH (ad d) 12 zB zB;have ko:=zGf c ha (nx d (max 1 (n:Int))) zB zB;unfold scR wP at hR;unfold wP at ko;generalize nx d (max 1 (n:Int))=s at *;generalize nx (ad d) 12=k at *;generalize ad (ad d)=d2 at *;generalize ad d=d1 at*
    rcases hR with⟨h3,rfl⟩|⟨h4,rfl⟩|⟨h5,e,d',rfl,kd⟩|⟨h6,b,d',rfl,m0,m1,dA,dC,q0,q1,e2,d5,hB⟩
    ·dsimp only;rw[fH,show vU tkE= .agg [iA 6,iA 0,iA 0,iA 0,.sl false []]from rfl];generalize l.map vU=X at *;have:k=0∨k=1∨k=2∨k=3:=by omega
     rcases this with h|h|h|h
     all_goals
      (have zc1:=lf;have zc2:=n1;have zc3:=n2;(repeat' (first|refine aL ?_|refine xO (λhc=>?_) (λhc=>?_)|refine wB (λhc=>?_)|(refine zE ?_;first|(refine yS ?_;refine UI 128 rfl rfl rfl ?_;refine qR tok rfl rfl ?_))|refine SB ?_|fail))<;>clear zc1 zc2 zc3)
      rfl
    ·dsimp only;have n3:=yH d2 6 zB zB;have b3:=yF d2 6 zB;generalize ad d2=d3 at *;obtain⟨z,hz⟩:∃z:Nat,nx d2 6=(z:Int):=⟨(nx d2 6).toNat,zB⟩;rw[hz]at n3 b3⊢;rw[show((z:Int)+1).toNat=z+1 by omega,zYc,yBi,show vU tkE= .agg [iA 6,iA 0,iA 0,iA 0,.sl false []]from rfl];generalize l.map vU=X at*
     (have zc1:=lf;have zc2:=n1;have zc3:=n2;have zc4:=n3;(repeat' (first|refine qB ?_|refine xO (λhc=>?_) (λhc=>?_)|refine wB (λhc=>?_)|fail))<;>clear zc1 zc2 zc3 zc4)
     refine zP ((z+1)) [1001,4,1000] [4,1000] [0,2,4,8] [7,13,0,2,4,8] rfl (λi T U=>⟨(7,.ref 1001 0 (X++List.replicate i (AV.agg [iA 6,iA 0,iA 0,iA 0,.sl false []])).length)::(13,iA ((z:Int)-i))::T,(1001,.arr 5 (X++List.replicate i (AV.agg [iA 6,iA 0,iA 0,iA 0,.sl false []])) true)::U⟩) ?_;(conv=>whnf);refine⟨by(rw[yCk,zY5,show(z:Int)-(0:Nat)=z by omega];rfl),?_,?_⟩
     ·intro r hr;have hlr:(X++List.replicate r (AV.agg [iA 6,iA 0,iA 0,iA 0,.sl false []])).length<=200:=by simp;omega
      rw[show List.replicate (r+1) (AV.agg [iA 6,iA 0,iA 0,iA 0,.sl false []])=List.replicate r (AV.agg [iA 6,iA 0,iA 0,iA 0,.sl false []])++[AV.agg [iA 6,iA 0,iA 0,iA 0,.sl false []]]from yC6,<-zYv,show(z:Int)-((r+1:Nat):Int)=(z:Int)-r-1 by omega];generalize X++List.replicate r (AV.agg [iA 6,iA 0,iA 0,iA 0,.sl false []])=Y at *;have z0:0<=(z:Int)-r:=by omega
      have z1:(z:Int)-r<=10:=by omega
      generalize (z:Int)-r=w at*
      (repeat' (first|refine aL ?_|refine xO (λhc=>?_) (λhc=>?_)|refine wB (λhc=>?_)|(refine zE ?_;first|(refine yS ?_;refine UI 140 rfl rfl rfl ?_;refine qR tok rfl rfl ?_))|refine SB ?_|fail))
      rfl
     ·rw[show(z:Int)-((z+1:Nat):Int)= -1 by omega];refine WW ?_;rfl
    ·dsimp only;rw[fH];generalize l.map vU=X at*
     (have zc1:=lf;have zc2:=n1;have zc3:=n2;have zc4:=kd;(repeat' (first|refine aL ?_|refine xO (λhc=>?_) (λhc=>?_)|refine wB (λhc=>?_)|(refine zE ?_;first|(refine yS ?_;refine qR tok rfl rfl ?_))|refine SB ?_|fail))<;>clear zc1 zc2 zc3 zc4)
     rfl
    ·dsimp only;rw[fH,show vU ⟨3,s,0,0,b⟩= .agg [iA 3,iA s,iA 0,iA 0,zD yA b]from rfl];obtain⟨k0,f0,k1,f1,h2,g5,sp,hb',hd',l0,l1⟩:=hB;unfold wP yE at *;have n3:=yH dA 3 zB zB;have n4:=yH d5 7 zB zB;have n5:=yH (ad d5) 99 zB zB;have n6:=yH (ad (ad d5)) 1024 zB zB;have c3:=yF dA 3 zB;have c4:=yF d5 7 zB;have m0:=zA yA q0;have m1:=zA yA q1;generalize l.map vU=X at *;generalize nx dA 3=u at *;generalize nx d5 7=v at *;by_cases hu:u=2
     ·rw[zX1 hu]at h2 g5;subst g5;subst h2;have em:zD yA (q0++q1)= .sl false (q0.map yA++q1.map yA):=by unfold zD;rw[zYc]
      rw[em]at sp;have ez:zD yA (q0++q1)= .sl false (List.take (q0.map yA++q1.map yA).length (List.drop 0 (q0.map yA++q1.map yA))):=by rw[em,zY2,zX7]
      cases cm with
      |true=>
       rw[zX1 rfl]at hd';subst hd';have hbe:=hb' (λh=>by cases h.1);subst hbe;rw[ez];clear sp hb'
       (have zc1:=lf;have zc2:=n1;have zc3:=n2;have zc4:=ko;have zc5:=k0;have zc6:=f0;have zc7:=n3;have zc8:=k1;have zc9:=f1;have zc10:=n4;have zc11:=n5;have zc12:=n6;(repeat' (first|refine aL ?_|refine xO (λhc=>?_) (λhc=>?_)|refine wB (λhc=>?_)|(refine zE ?_;first|(refine yS ?_;refine jG [1000,1001,4] [0,2,4,8,116,119] rfl ?_;(conv=>whnf);refine qR tok rfl rfl ?_)|(refine yV ?_;refine qE tok rfl rfl rfl rfl rfl rfl rfl rfl rfl rfl rfl (xT _ _ (λ_=>rfl)) zB rfl ?_))|refine SB ?_|fail))<;>clear zc1 zc2 zc3 zc4 zc5 zc6 zc7 zc8 zc9 zc10 zc11 zc12)
       rfl
      | false=>
       rw[zX0 zYk]at hd';by_cases hv:v=6
       ·rw[zX1 hv]at hd';subst hd';have sp:=sp rfl hv;clear hb'
        (have zc1:=lf;have zc2:=n1;have zc3:=n2;have zc4:=ko;have zc5:=k0;have zc6:=f0;have zc7:=n3;have zc8:=k1;have zc9:=f1;have zc10:=n4;have zc11:=n5;have zc12:=n6;have zc13:=sp;have zf1:=(⟨⟩:FzD 50 [1000,1001,4] [0,2,4,7,8,12,110,112,114]);(repeat' (first|refine aL ?_|refine xO (λhc=>?_) (λhc=>?_)|refine wB (λhc=>?_)|(refine zE ?_;first|(refine yS ?_;refine jG [1000,1001,4] [0,2,4,8,116,119] rfl ?_;(conv=>whnf);refine qR tok rfl rfl ?_)|(refine yV ?_;refine qE tok rfl rfl rfl rfl rfl rfl rfl rfl rfl rfl rfl (xT _ _ (λ_=>rfl)) zB rfl ?_))|refine SB ?_|fail))<;>clear zc1 zc2 zc3 zc4 zc5 zc6 zc7 zc8 zc9 zc10 zc11 zc12 zc13 zf1)
        rfl
       ·rw[zX0 hv]at hd';subst hd';have hbe:=hb' (λh=>hv h.2);subst hbe;rw[ez];clear sp hb'
        (have zc1:=lf;have zc2:=n1;have zc3:=n2;have zc4:=ko;have zc5:=k0;have zc6:=f0;have zc7:=n3;have zc8:=k1;have zc9:=f1;have zc10:=n4;have zc11:=n5;have zc12:=n6;(repeat' (first|refine aL ?_|refine xO (λhc=>?_) (λhc=>?_)|refine wB (λhc=>?_)|(refine zE ?_;first|(refine yS ?_;refine jG [1000,1001,4] [0,2,4,8,116,119] rfl ?_;(conv=>whnf);refine qR tok rfl rfl ?_)|(refine yV ?_;refine qE tok rfl rfl rfl rfl rfl rfl rfl rfl rfl rfl rfl (xT _ _ (λ_=>rfl)) zB rfl ?_))|refine SB ?_|fail))<;>clear zc1 zc2 zc3 zc4 zc5 zc6 zc7 zc8 zc9 zc10 zc11 zc12)
        rfl
     ·rw[zX0 hu]at h2 g5;subst g5;subst h2;have em:∀z,zD yA z= .sl false (z.map yA):=λz=>rfl
      rw[em e2]at sp;have ez:zD yA e2= .sl false (List.take (e2.map yA).length (List.drop 0 (e2.map yA))):=by rw[zY2,zX7];rfl
      cases cm with
      |true=>
       rw[zX1 rfl]at hd';subst hd';have hbe:=hb' (λh=>by cases h.1);subst hbe;rw[ez];clear sp hb'
       (have zc1:=lf;have zc2:=n1;have zc3:=n2;have zc4:=ko;have zc5:=k0;have zc6:=f0;have zc7:=n3;have zc8:=k1;have zc9:=f1;have zc10:=n4;have zc11:=n5;have zc12:=n6;(repeat' (first|refine aL ?_|refine xO (λhc=>?_) (λhc=>?_)|refine wB (λhc=>?_)|(refine zE ?_;first|(refine yS ?_;refine jG [1000,1001,4] [0,2,4,8,116,119] rfl ?_;(conv=>whnf);refine qR tok rfl rfl ?_)|(refine yV ?_;refine qE tok rfl rfl rfl rfl rfl rfl rfl rfl rfl rfl rfl (xT _ _ (λ_=>rfl)) zB rfl ?_))|refine SB ?_|fail))<;>clear zc1 zc2 zc3 zc4 zc5 zc6 zc7 zc8 zc9 zc10 zc11 zc12)
       rfl
      | false=>
       rw[zX0 zYk]at hd';by_cases hv:v=6
       ·rw[zX1 hv]at hd';subst hd';have sp:=sp rfl hv;clear hb'
        (have zc1:=lf;have zc2:=n1;have zc3:=n2;have zc4:=ko;have zc5:=k0;have zc6:=f0;have zc7:=n3;have zc8:=k1;have zc9:=f1;have zc10:=n4;have zc11:=n5;have zc12:=n6;have zc13:=sp;have zf1:=(⟨⟩:FzD 50 [1000,1001,4] [0,2,4,7,8,12,110,112,114]);(repeat' (first|refine aL ?_|refine xO (λhc=>?_) (λhc=>?_)|refine wB (λhc=>?_)|(refine zE ?_;first|(refine yS ?_;refine jG [1000,1001,4] [0,2,4,8,116,119] rfl ?_;(conv=>whnf);refine qR tok rfl rfl ?_)|(refine yV ?_;refine qE tok rfl rfl rfl rfl rfl rfl rfl rfl rfl rfl rfl (xT _ _ (λ_=>rfl)) zB rfl ?_))|refine SB ?_|fail))<;>clear zc1 zc2 zc3 zc4 zc5 zc6 zc7 zc8 zc9 zc10 zc11 zc12 zc13 zf1)
        rfl
       ·rw[zX0 hv]at hd';subst hd';have hbe:=hb' (λh=>hv h.2);subst hbe;rw[ez];clear sp hb'
        (have zc1:=lf;have zc2:=n1;have zc3:=n2;have zc4:=ko;have zc5:=k0;have zc6:=f0;have zc7:=n3;have zc8:=k1;have zc9:=f1;have zc10:=n4;have zc11:=n5;have zc12:=n6;(repeat' (first|refine aL ?_|refine xO (λhc=>?_) (λhc=>?_)|refine wB (λhc=>?_)|(refine zE ?_;first|(refine yS ?_;refine jG [1000,1001,4] [0,2,4,8,116,119] rfl ?_;(conv=>whnf);refine qR tok rfl rfl ?_)|(refine yV ?_;refine qE tok rfl rfl rfl rfl rfl rfl rfl rfl rfl rfl rfl (xT _ _ (λ_=>rfl)) zB rfl ?_))|refine SB ?_|fail))<;>clear zc1 zc2 zc3 zc4 zc5 zc6 zc7 zc8 zc9 zc10 zc11 zc12)
        rfl
   ·rw[show zD vU ((f N).1++[tkE])= .sl false ((f N).1.map vU++[vU tkE]) by unfold zD;rw[fH]];have hlN:=hfl.1;have hml:((f N).1.map vU).length=(f N).1.length:=zX2 ..;have lf:=AU (f N).2;clear hf hfl hle f0 hL hl9 hl10 hl2 hfR ks;generalize f N=p at *;obtain⟨l,d⟩:=p;dsimp only at *;rw[show vU tkE= .agg [iA 6,iA 0,iA 0,iA 0,.sl false []]from rfl];by_cases hlt:d.a<d.l.length
    ·have h150:¬l.length<150:=λh=>hend ⟨hlt,h⟩
     rw[zX8 hlt]at lf;generalize l.map vU=X at*
     (have zc1:=lf;(repeat' (first|refine aL ?_|refine xO (λhc=>?_) (λhc=>?_)|refine wB (λhc=>?_)|(refine zE ?_;first|(refine yS ?_;refine UI 154 rfl rfl rfl ?_;refine qR tok rfl rfl ?_))|refine SB ?_|fail))<;>clear zc1)
     exact zI [1000] rfl rfl (zY0 (AV.sl false) zX7) rfl
    ·rw[zYa hlt]at lf;generalize l.map vU=X at*
     (have zc1:=lf;(repeat' (first|refine aL ?_|refine xO (λhc=>?_) (λhc=>?_)|refine wB (λhc=>?_)|(refine zE ?_;first|(refine yS ?_;refine UI 154 rfl rfl rfl ?_;refine qR tok rfl rfl ?_))|refine SB ?_|fail))<;>clear zc1)
     exact zI [1000] rfl rfl (zY0 (AV.sl false) zX7) rfl
theorem zLc {l:List Ag} (h:MX l) {a k a' k':Nat} (ha:a<l.length) (hk:(k:Int)<(l.getD a default).ses) (ha':a'<l.length) (hk':(k':Int)<(l.getD a' default).ses) (e:(qX l a).toNat+k=(qX l a').toNat+k'):a=a'/\k=k':=by
 have b1:=(qS h a zB).1;have b2:=(qS h a' zB).1;have key:∀{x y:Nat},x<y->y<l.length->qX l x+(l.getD x default).ses<=qX l y:=λ{x y} hxy hy=>VD h (i:=x+1) (j:=y) hxy zB
 rcases yDk a a' with hlt|heq|hgt
 ·have:=key hlt ha';omega
 ·subst heq;exact⟨rfl,zB⟩
 ·have:=key hgt ha;omega
theorem zE2 {c:Cf} (hw:MX c.ags) (s:Nat) (hs:(s:Int)<qX c.ags c.ags.length):∃a k:Nat,a<c.ags.length/\(k:Int)<(c.ags.getD a default).ses/\s=(qX c.ags a).toNat+k:=by
 have hl:=VC hw (λ_ _=>([]:List Ms)) c.ags.length (zX6 _);obtain⟨a,k,h1,h2,h3,_⟩:=ZT hw (λ_ _=>([]:List Ms)) c.ags.length (zX6 _) s zB;exact⟨a,k,h1,h2,h3⟩
section
variable {y y':Cy} {ins:List In} {T:List (List Ms)} (h:GO y) (M:MtP y y' ins T) {a k:Nat} (ha:a<y.c.ags.length) (hk:(k:Int)<(y.c.ags.getD a default).ses)
include h M ha hk
theorem zUu (ho:(ins.getD ((qX y.c.ags a).toNat+k) default).opn=false):(y'.ds.getD a default).au.getD k default=false:=by
 obtain⟨R,hR,e1,e2⟩:=M.tk;have hdl:=h.dl;have hid:a<y.ds.length:=by omega
 have hDt:=(hR a hid).1
 have hau2:((y.ds.getD a default).au.length:Int)=(y.c.ags.getD a default).ses:=by
  have:=(h.di _ (zZ y.ds a hid)).au;rw[h.dg a hid]at this;exact this
 have hog:(QT y.c ins a).getD k default=ins.getD ((qX y.c.ags a).toNat+k) default:=by
  unfold QT GE;rw[zX5,zX4,zYx zB];rfl
 have hsi:fZ (QT y.c ins a) k=[]:=by
  unfold fZ;rw[zX0 (by rw[hog,ho];simp)]
 have hx:=hDt.au k (by show k<(y.ds.getD a default).au.length;omega) hsi;rw[e1,show(fI y R).ds.getD a default=(R a).d from bF hid,zX5,hx];unfold LF;rw[zX0 (by rw[hog,ho];simp)];rfl
theorem zW0 (hil:(ins.length:Int)=qX y.c.ags y.c.ags.length) (ho:(ins.getD ((qX y.c.ags a).toNat+k) default).opn=true) (hi:(ins.getD ((qX y.c.ags a).toNat+k) default).its=[]) (hu:(y.ds.getD a default).au.getD k default=false):
  T.getD ((qX y.c.ags a).toNat+k) []=[UW (y'.ds.getD a default) y'.vw (y.now+1)]:=by
 obtain⟨R,hR,e1,e2⟩:=M.tk;have hw:=h.v.ag;have hdl:=h.dl;have hid:a<y.ds.length:=by omega
 have hDt:=(hR a hid).1
 have hau2:((y.ds.getD a default).au.length:Int)=(y.c.ags.getD a default).ses:=by
  have:=(h.di _ (zZ y.ds a hid)).au;rw[h.dg a hid]at this;exact this
 have hol:(QT y.c ins a).length=(y.c.ags.getD a default).ses.toNat:=by unfold QT GE;rw[zX2,zZk]
 have hog:(QT y.c ins a).getD k default=ins.getD ((qX y.c.ags a).toNat+k) default:=by
  unfold QT GE;rw[zX5,zX4,zYx zB];rfl
 have hsi:fZ (QT y.c ins a) k=[]:=by
  unfold fZ;rw[hog,hi]
  split<;>rfl
 have hx:=hDt.au k (by show k<(y.ds.getD a default).au.length;omega) hsi;have hrl:=hDt.rl k (by show k<(y.ds.getD a default).au.length;omega);rw[hsi]at hrl;have hzi:y'.ds.getD a default=(R a).d:=by rw[e1];exact bF hid
 have hau:(y'.ds.getD a default).au.getD k default=false:=by
  rw[hzi,zX5,hx];unfold LF;rw[show(MA (y.ds.getD a default) (y.now+1)).au=(y.ds.getD a default).au from rfl,hu]
  split<;>rfl
 have b1:=(qS hw a zB).1;have b2:=VD hw (i:=a+1) (j:=y.c.ags.length) ha (zX6 _);rw[show qX y.c.ags (a+1)=qX y.c.ags a+(y.c.ags.getD a default).ses from rfl]at b2;have hl:=M.l;rw[e2]at hl;obtain⟨a',k',h1,h2,h3,h4⟩:=ZT hw (CU y' ins R y.ds.length) _ (zX6 _) ((qX y.c.ags a).toNat+k) zB;obtain⟨rfl,rfl⟩:=zLc hw ha hk h1 h2 h3;rw[e2,h4];unfold CU;rw[M.c,ho,zX1 rfl];unfold tlF;rw[zY1 hrl,zX0 (by rw[hau];exact zYk),M.n];rfl
end
theorem zW1 (m:Ms) (h:SW m) (h9:m.args≠[]):∃(n:Nat) (q:List Int),GC m=90::165::1::m.kind::0::(n:Int)::q/\q.length=n+4/\1<=n/\n<=200:=by
 have hs:=(XH h.2).choose_spec;have e:GC m=frF m.kind (XH h.2).choose:=by unfold GC;rw[yDu h]
 rw[e];generalize (XH h.2).choose=p at *;obtain⟨h1,h2,h3⟩:=hs;refine⟨p.length,p++be4 (aH (aC m.kind p.length++p)),by simp[frF,aC],?_,h2.2 h9,h2.1⟩;simp only[be4,zX3,zX2,zZk]
theorem zPu (m:Ms):dL [m]=GC m:=by simp[dL]
theorem KH {α:Type} (f:List α->List Int) (hf:f []=[]) (l:List (List α)) (i:Nat):(l.map f).getD i []=f (l.getD i []):=by
 rw[zX5,zX5,zX4]
 cases l[i]? with
 |none=>exact hf.symm
 |some x=>rfl
def evD (k:Int):Ev:=⟨2,k,0,0,[]⟩
def evY (k:Int):Ev:=⟨3,k,0,0,[1,2,3]⟩
def evU (k:Int):Ev:=⟨1,k,0,0,[]⟩
theorem zLd (b:aE) (h:GT b) (hn:b.y.now<100000000) (s:Nat) (hs:s<b.ss.length):∃(b1 b2 b3 b4 b5:aE) (S3 S5:List (List Int)) (f3 f5:List Int) (n:Nat) (q:List Int),
  zN 15 [kG b,vU (evD s)] [] (.tup [kG b1,GD [] [],bA false]) []/\zN 15 [kG b1,vU (evY s)] [] (.tup [kG b2,GD [] [],bA false]) []/\
  zN 15 [kG b2,vU (XG 6)] [] (.tup [kG b3,GD S3 f3,bA true]) []/\zN 15 [kG b3,vU (evU s)] [] (.tup [kG b4,GD [] [],bA false]) []/\
  zN 15 [kG b4,vU (XG 6)] [] (.tup [kG b5,GD S5 f5,bA true]) []/\
  S3.length=b.ss.length/\S5.length=b.ss.length/\S3.getD s []=[]/\S5.getD s []=90::165::1::17::0::(n:Int)::q/\q.length=n+4/\1<=n/\n<=200:=by
 obtain⟨N,hN,hN8⟩:=XF b h
 have hr:∀(x:aE) (e:Ev),x.ss.length=b.ss.length->e.s=(s:Int)->inR x e.s=true:=λx e hx he=>by
  unfold inR;rw[zX9,hx,he];omega
 have eD:cB (evD s):=KW zB zB zB zB kD (zYe _);have eY:cB (evY s):=KW zB zB zB zB (λx hx=>by simp at hx;omega) zS;have eU:cB (evU s):=KW zB zB zB zB kD (zYe _);have d1:=jH h zB eD;have g1:=d1.s (.inr (.inl rfl));have k1:=d1.k;have i1:=d1.i
 have q1:XE b (evD s)=⟨b.y,b.ss.set s ⟨false,false,[],false⟩⟩:=by
  unfold XE;rw[zX1 (hr b _ rfl rfl)];rfl
 rw[g1,q1]at k1 i1;dsimp only at k1 i1;generalize hb1:(⟨b.y,b.ss.set s ⟨false,false,[],false⟩⟩:aE)=b1 at *;have l1:b1.ss.length=b.ss.length:=by rw[<-hb1];exact zZm
 have y1:b1.y=b.y:=by rw[<-hb1]
 have z1:b1.ss.getD s default=⟨false,false,[],false⟩:=by
  rw[<-hb1];exact(gI _ _ _ _ hs).trans (zX1 rfl)
 have d2:=jH i1 (by rw[y1];omega) eY;have g2:=d2.s (.inr (.inr rfl));have k2:=d2.k;have i2:=d2.i
 have q2:XE b1 (evY s)=⟨b1.y,b1.ss.set s ⟨false,false,[],false⟩⟩:=by
  unfold XE;rw[zX1 (hr b1 _ l1 rfl),show(evY s).s.toNat=s from rfl,z1];rfl
 rw[g2,q2]at k2 i2;dsimp only at k2 i2;generalize hb2:(⟨b1.y,b1.ss.set s ⟨false,false,[],false⟩⟩:aE)=b2 at *;have l2:b2.ss.length=b.ss.length:=by rw[<-hb2];exact zZm.trans l1
 have y2:b2.y=b.y:=by rw[<-hb2];exact y1
 have z2:b2.ss.getD s default=⟨false,false,[],false⟩:=by
  rw[<-hb2];exact(gI _ _ _ _ zB).trans (zX1 rfl)
 have d3:=jH i2 (by rw[y2];omega) (TW (k:=6) zB);obtain⟨y3,T3,M3,g3,_⟩:=d3.t6 rfl;have k3:=d3.k;have i3:=d3.i;rw[g3]at k3 i3;dsimp only at k3 i3;have hp:s<(kC b2.ss).length:=by unfold kC;rw[zX2];omega
 have w2:(kC b2.ss).getD s default=⟨false,[]⟩:=by
  unfold kC;rw[zX5,zX4];rw[zX5]at z2;rw[zYi zB,zZ3]at z2;rw[zYi zB,z2];rfl
 have o3:=M3.off s hp (by rw[w2]);have T3l:T3.length=b.ss.length:=by rw[M3.l];unfold kC;rw[zX2,l2]
 have hL:=i2.l;rw[l2,y2]at hL;obtain⟨a,k,ha,hk,hsk⟩:=zE2 h.y.v.ag s (by rw[<-h.l];omega);have u3:=zUu i2.y M3 (a:=a) (k:=k) (by rw[y2];exact ha) (by rw[y2];exact hk) (by rw[y2,<-hsk,w2]);have c3:y3.c=b.y.c:=M3.c.trans (by rw[y2]);have n3:=M3.n;rw[y2]at n3;have l3':=QO b h b2.ss;generalize hb3:(⟨y3,eW b2.ss b2.ss.length⟩:aE)=b3 at *;have l3:b3.ss.length=b.ss.length:=by rw[<-hb3];dsimp only;rw[l3',zX2,l2]
 have z3:b3.ss.getD s default=⟨false,false,[],false⟩:=by
  rw[<-hb3];dsimp only;rw[l3',zX5,zX4];rw[zX5,zYi zB,zZ3]at z2;rw[zYi zB,z2];rfl
 have y3e:b3.y=y3:=by rw[<-hb3]
 have d4:=jH i3 (by rw[y3e];omega) eU;have g4:=d4.s (.inl rfl);have k4:=d4.k;have i4:=d4.i
 have q4:XE b3 (evU s)=⟨b3.y,b3.ss.set s ⟨true,false,[],false⟩⟩:=by
  unfold XE;rw[zX1 (hr b3 _ l3 rfl),show(evU s).s.toNat=s from rfl,z3];rfl
 rw[g4,q4]at k4 i4;dsimp only at k4 i4;generalize hb4:(⟨b3.y,b3.ss.set s ⟨true,false,[],false⟩⟩:aE)=b4 at *;have l4:b4.ss.length=b.ss.length:=by rw[<-hb4];exact zZm.trans l3
 have y4:b4.y=y3:=by rw[<-hb4];exact y3e
 have z4:b4.ss.getD s default=⟨true,false,[],false⟩:=by
  rw[<-hb4];exact(gI _ _ _ _ zB).trans (zX1 rfl)
 have d5:=jH i4 (by rw[y4];omega) (TW (k:=6) zB);obtain⟨y5,T5,M5,g5,_⟩:=d5.t6 rfl;have k5:=d5.k;rw[g5]at k5;dsimp only at k5
 have w4:(kC b4.ss).getD s default=⟨true,[]⟩:=by
  unfold kC;rw[zX5,zX4];rw[zX5,zYi zB,zZ3]at z4;rw[zYi zB,z4];rfl
 have T5l:T5.length=b.ss.length:=by rw[M5.l];unfold kC;rw[zX2,l4]
 have c4:b4.y.c=b.y.c:=by rw[y4,c3]
 have o5:=zW0 i4.y M5 (a:=a) (k:=k) (by rw[c4];exact ha) (by rw[c4];exact hk) (by unfold kC;rw[zX2,l4,c4];exact h.l) (by rw[c4,<-hsk,w4]) (by rw[c4,<-hsk,w4]) (by rw[y4];exact u3);rw[c4,<-hsk]at o5
 have v5:SW (UW (y5.ds.getD a default) y5.vw (b4.y.now+1)):=by
  have hm:T5.getD s []∈T5:=by
   rw[zX5,zYi zB];exact yAn _
  rw[o5]at hm;exact(M5.v _ hm).2 _ zS
 obtain⟨n,q,e5,e6,e7,e8⟩:=zW1 _ v5 (by simp[UW,stM]);refine⟨b1,b2,b3,b4,_,_,_,_,_,n,q,k1,k2,k3,k4,k5,by rw[zX2,T3l],by rw[zX2,T5l],?_,?_,e6,e7,e8⟩
 ·rw[KH dL rfl,o3];rfl
 ·rw[KH dL rfl,o5,zPu,e5];rfl
theorem zC4 (l:List Int) (hn:l.length<=1000000):zN 120 [zD iA l,zD iA l] [] (bA true) []:=by
 have hl:=zA iA l;refine eM call120 λF hF=>?_
 refine WW ?_;refine zY (l) [] [] [1,12,13] [14,1,12,13] rfl (λi pre T U=>⟨(14,iA i)::T,U⟩) ?_;(conv=>whnf);refine⟨by rfl,?_,?_⟩
 ·intro i pre x post hx hi;have hy:=yI iA hx hi;have hlt:=yB hx hi;clear hx;refine WW ?_
  all_goals (first|rfl|(exfalso;first|(simp[xL]at hc;done)|(revert hc;simp[xL];done)))
 ·(refine WW ?_)
  exact zJ
theorem zLe (l:List Vw) (hn:l.length<=1000) (hb:∀v∈l,v.co.length<=1000/\v.cn.length<=1000):zN 68 [zD vM l,zD vM l] [] (bA true) []:=by
 have hl:=zA vM l;refine eM call68 λF hF=>?_
 refine WW ?_;refine zY (l) [] [] [1,13,14] [15,1,13,14] rfl (λi pre T U=>⟨(15,iA i)::T,U⟩) ?_;(conv=>whnf);refine⟨by rfl,?_,?_⟩
 ·intro i pre x post hx hi;have hy:=yI vM hx hi;have hlt:=yB hx hi;obtain⟨B1,B2⟩:=hb x (xX hx);have k1:=zC4 x.co zB;have k2:=zC4 x.cn zB;clear hx;obtain⟨fl,ov,co,cn⟩:=x;dsimp only at *;unfold vM at hy
  cases fl<;>cases ov
  all_goals
   refine yQ (wZ k1 k2) ?_;rfl
 ·(refine WW ?_)
  exact zJ
theorem zPv (y:Cy) (h:CyB y) (hf:y.rf=false):zN 19 [uF y,uF y] [] (bA true) []:=by
 obtain⟨b1,b2,b3,b4,b5,b6,b7,b8,b9⟩:=h;have kv:=zLe y.vw b8 b9;have hd:=zA zK y.ds;have hg:=zA wV y.sg;have hs:=zA wT y.sv;have ht:=zA iA y.st;unfold uF aR;rw[hf];refine eM call19 λF hF=>?_
 refine zU kv ?_;refine zY (y.ds) [2,3] [2,3] [2,3,70,71] [72,2,3,70,71] rfl (λi pre T U=>⟨(72,iA i)::T,U⟩) ?_;(conv=>whnf);refine⟨by rfl,?_,?_⟩
 ·intro i pre x post hx hi;have hy:=yI zK hx hi;have hlt:=yB hx hi;have kd:=zM2 x (b2 x (xX hx));clear hx;unfold zK wI at *;refine zU kd ?_;rfl
 ·(refine WW ?_)
  refine zY (y.sg) [2,3] [2,3] [2,3,87,88] [89,2,3,87,88] rfl (λi pre T U=>⟨(89,iA i)::T,U⟩) ?_;(conv=>whnf);refine⟨by rfl,?_,?_⟩
  ·intro i pre x post hx hi;have hy:=yI wV hx hi;have hlt:=yB hx hi;obtain⟨g1,g2⟩:=b4 x (xX hx);have kd:=zMa x zB zB;clear hx;unfold wV at *;refine zU kd ?_;rfl
  ·(refine WW ?_)
   refine zY (y.sv) [2,3] [2,3] [2,3,104,105] [106,2,3,104,105] rfl (λi pre T U=>⟨(106,iA i)::T,U⟩) ?_;(conv=>whnf);refine⟨by rfl,?_,?_⟩
   ·intro i pre x post hx hi;have hy:=yI wT hx hi;have hlt:=yB hx hi;have g1:=b6 x (xX hx);have kd:=zR2 x x ⟨zB⟩ ⟨zB⟩;rw[show FL x x=true from zX8 ⟨rfl,rfl,rfl⟩]at kd;clear hx;unfold wT at *;refine zU kd ?_;rfl
   ·(refine WW ?_)
    refine zY (y.st) [3] [3] [3,121,122] [123,3,121,122] rfl (λi pre T U=>⟨(123,iA i)::T,U⟩) ?_;(conv=>whnf);refine⟨by rfl,?_,?_⟩
    ·intro i pre x post hx hi;have hy:=yI iA hx hi;have hlt:=yB hx hi;clear hx;refine WW ?_
     all_goals (first|rfl|(exfalso;first|(simp[xL]at hc;done)|(revert hc;simp[xL];done)))
    ·(refine WW ?_)
     exact zJ
noncomputable def CT:aE->List Ev->List (List Vw)
 |_,[]=>[]
 |b,e::l=>(if(dM b e).fl=true then [(dM b e).b.y.vw]else [])++CT (dM b e).b l
theorem zPw (b:aE) (l m:List Ev):CT b (l++m)=CT b l++CT (uI b l) m:=by
 induction l generalizing b with
 |nil=>rfl
 |cons e l ih=>
  show _++CT _ (l++m)=_
  rw[ih,<-zYv];rfl
theorem GA:∀(l:List Ev) (b:aE),(CT b l).length<=l.length
 | [],_=>zX6 _
 |e::l,b=>by
  have ih:=GA l (dM b e).b
  show((if(dM b e).fl=true then [(dM b e).b.y.vw]else [])++CT (dM b e).b l).length<=_
  rw[zX3,zYd];split
  ·simp only[zYd,zZa];omega
  ·simp only[zZa];omega
def vsA (v:List Vw):AV:=zD vM v
theorem zPx (c:Cf) (hc:GY c) (l:List Ev) (hl:l.length<=1000000) (he:∀e∈l,cB e):zN 31 [wP c,zD vU l] [] (zD vsA (CT (wS c) (l.take 400))) []:=by
 have k1:=RK c hc;have hb:=VA c hc;have hll:=zA vU l;have h0:(wS c).y.now=0:=rfl;have ht4:(l.take 400).length<=400:=by rw[zYo];omega
 have hm4:∀e∈l.take 400,cB e:=λe h=>he e (zZv h)
 unfold kG cN at k1;refine eM call31 λF hF=>?_
 refine zU k1 ?_
 have tk4:l.take (min ((l.map vU).length:Int) 400).toNat=l.take 400:=by
  rw[zX2];by_cases h:l.length<=400
  ·rw[zYb zB,zYb zB]
  ·congr 1
   omega
 rw[tk4];have hl4:=zA vU (l.take 400);generalize l.take 400=l4 at *;refine xC 6 1001 1 rfl rfl rfl ?_;refine zY (l4) [5,1001] [] [5,18,19] [6,20,5,18,19] rfl (λi pre T U=>⟨(6,.ref 1001 0 ((CT (wS c) pre).map vsA).length)::(20,iA i)::T,(5,.box [zD wH (uI (wS c) pre).y.c.js,zD vC (uI (wS c) pre).y.c.ags,iA (uI (wS c) pre).y.c.per,iA (uI (wS c) pre).y.c.cap,iA (uI (wS c) pre).y.c.hold,iA (uI (wS c) pre).y.c.lock,bA false,iA (uI (wS c) pre).y.now,zD zK (uI (wS c) pre).y.ds,zD wV (uI (wS c) pre).y.sg,zD wT (uI (wS c) pre).y.sv,zD iA (uI (wS c) pre).y.st,zD vM (uI (wS c) pre).y.vw,zD kJ (uI (wS c) pre).ss])::(1001,.arr 1 ((CT (wS c) pre).map vsA) true)::U⟩) ?_;(conv=>whnf);refine⟨by rfl,?_,?_⟩
 ·intro i pre x post hx hi;have hy:=yI vU hx hi;have hlt:=yB hx hi;have hpm:∀e∈pre,cB e:=λe h=>hm4 e zCu
  have hpl:pre.length<=l4.length:=by rw[hx];simp
  have hxe:=hm4 x OX;obtain⟨p1,p2,p3,p4,p5⟩:=TU pre hb hpm LU;have D:=jH p1 zB hxe;have kd:=D.k;have e1:uI (wS c) (pre++[x])=(dM (uI (wS c) pre) x).b:=dV _ _ _
  have e2:CT (wS c) (pre++[x])=CT (wS c) pre++(if(dM (uI (wS c) pre) x).fl=true then [(dM (uI (wS c) pre) x).b.y.vw]else []):=by
   rw[zPw]
   congr 1
   show _++[]=_
   rw[zY5]
  have hvl:=GA pre (wS c);have Db:=D.i.y.b;have cv:=ZV _ Db.v Db.vb;rw[e1,e2,zYc];have hsm:=zA vsA (CT (wS c) pre);clear D Db e1 e2 hx hpm;generalize (CT (wS c) pre).map vsA=X at *;unfold kG cN vU GD at kd;unfold vU at hy;generalize dM (uI (wS c) pre) x=r at *;generalize uI (wS c) pre=b0 at *;obtain⟨rb,S,f,fl⟩:=r;dsimp only at *;cases fl
  ·rw[zX0 zYk,yAl,zY5];refine zU kd ?_;rfl
  ·rw[zX1 rfl,show [rb.y.vw].map vsA=[zD vM rb.y.vw]from rfl];refine LO (wZ kd cv) ?_;rfl
 ·(refine WW ?_)
  exact zI [] rfl rfl (zY0 (AV.sl false) zX7) rfl
def zC5 (j:Jn) (s s':Sg):Prop:=∃s0,(s0=s∨s0=CY j s)/\((s0.lat=true/\s'=s0)∨(s0.lat=false/\∃t k,s'=sjF j s0 t k))
theorem zPy (j:Jn) (s:Sg):CY j (CY j s)=CY j s:=by
 unfold CY;split
 ·rfl
 ·rfl
theorem zLf {c:Cf}:∀(ks:List Int) (sg:List Sg) {k:Nat},k<sg.length->(UL c sg ks).getD k default=sg.getD k default∨(UL c sg ks).getD k default=CY (c.js.getD k default) (sg.getD k default)
 | [],sg,k,_=> .inl rfl
 |x::ks,sg,k,hk=>by
  have e:UL c sg (x::ks)=UL c (sg.set x.toNat (CY (c.js.getD x.toNat default) (sg.getD x.toNat default))) ks:=rfl;have ih:=zLf (c:=c) ks (sg.set x.toNat (CY (c.js.getD x.toNat default) (sg.getD x.toNat default))) (k:=k) (by rw[zZm];exact hk);rw[e];rw[gI _ _ _ _ hk]at ih;by_cases h:x.toNat=k
  ·subst h;rw[zX1 rfl,zPy]at ih;exact .inr (ih.elim id id)
  ·rw[zX0 h]at ih;exact ih
theorem zPz {y y':Cy} {ins:List In} {T:List (List Ms)} (h:GO y) (M:MtP y y' ins T) {k:Nat} (hk:k<y.c.js.length):zC5 (y.c.js.getD k default) (y.sg.getD k default) (y'.sg.getD k default)/\y'.vw.getD k default=RO (y.c.js.getD k default) (y'.sg.getD k default) (y'.sv.getD k default):=by
 obtain⟨R,hR,rfl,_⟩:=M.tk;have hg:=GP h.v (sv:=y.sv) (now:=y.now) (WU R y.ds.length) y.sg h.gl h.j;have e1:(fI y R).sg.getD k default=(NW y R k).1:=zBc _ _ _ _ hk (by rw[hg.1];exact hk);have e2:(fI y R).sv.getD k default=(NW y R k).2:=zBd _ _ _ _ hk (by rw[h.sl];exact hk);rw[e1,e2];refine⟨⟨(UL y.c y.sg (WU R y.ds.length)).getD k default,zLf _ _ (by rw[h.gl];exact hk),?_⟩,?_⟩
 ·unfold NW aJ dvF;split
  ·rename_i hl;exact .inl ⟨hl,rfl⟩
  ·rename_i hl;refine .inr ⟨by simpa using hl,?_⟩;split
   ·exact⟨_,_,rfl⟩
   ·exact⟨_,_,rfl⟩
 ·show(stU y.c.js (NW y R) y.c.js.length).getD k default=_
  unfold stU;rw[zX5,zX4,zYx hk];rfl
def ViC (j:Jn) (k n:Nat):Sg->List (List Vw)->Prop
 |_,[]=>True
 |s,v::vs=>v.length=n/\∃(s':Sg) (sv:Sv),zC5 j s s'/\CV j s'.c/\v.getD k default=RO j s' sv/\ViC j k n s' vs
theorem KI {k:Nat}:∀(l:List Ev) {b:aE},GT b->(∀e∈l,cB e)->b.y.now+(l.length:Int)<1000000000->k<b.y.c.js.length->ViC (b.y.c.js.getD k default) k b.y.c.js.length (b.y.sg.getD k default) (CT b l)
 | [],b,_,_,_,_=>trivial
 | e::l,b,h,he,hn,hk=>by
  rw[zYd]at hn;have D:=jH h zB (he e zS);have Dn:=D.n;have Dc:=D.c;have ih:=KI (k:=k) l D.i (λx hx=>he x ST) zB (by rw[Dc];exact hk);rw[Dc]at ih
  show ViC _ _ _ _ ((if(dM b e).fl=true then [(dM b e).b.y.vw]else [])++CT (dM b e).b l)
  cases hf:(dM b e).fl with
  |false=>
   rw[zX0 zYk,yAq];rw[D.g hf]at ih;exact ih
  |true=>
   rw[zX1 rfl];obtain⟨y',Td,M,er,_⟩:=D.t6 (D.f6 hf);have ey:(dM b e).b.y=y':=by rw[er]
   rw[ey]at ih Dc⊢;obtain⟨t1,t2⟩:=zPz h.y M hk;have wl:=M.i.wl;have J:=M.i.j k (by rw[M.c];exact hk);rw[M.c]at wl J;exact⟨wl,_,_,t1,J.c,t2,ih⟩
def gA (s:Sg) (p:Nat):Int:=if s.lat=true then 0 else NY (xY s.c p)
structure TiI (j:Jn) (s:Sg) (co si:List Int) (u:Nat):Prop where
 cl:co.length=j.ph.length
 sl:si.length=j.ph.length
 c:∀p,p<j.ph.length->co.getD p default=gA s p
 t:s.lat=false->∀p,p<j.ph.length->(xY s.c p).lamp≠0->si.getD p default=(xY s.c p).tk/\si.getD p default<=u
 b:∀p,p<j.ph.length->0<=si.getD p default/\si.getD p default<=1000+(u:Int)
theorem zXz (s:Sg) (p:Nat):gA s p=0∨gA s p=1∨gA s p=2:=by
 unfold gA NY;split
 ·exact .inl rfl
 ·split
  ·rename_i h
   rcases h with h|h
   ·exact .inr (.inl h)
   ·exact .inr (.inr h)
  ·exact .inl rfl
theorem zP0 (j:Jn):TiI j (kS j) (List.replicate j.ph.length 0) (List.replicate j.ph.length 0) 0:=by
 have e:∀p,p<j.ph.length->(List.replicate j.ph.length (0:Int)).getD p default=0:=λp hp=>by
  rw[zX5,zZs,zX1 hp];rfl
 refine⟨zZd,zZd,λp hp=>?_,λ_ p hp h=>?_,λp hp=>by rw[e p hp];omega⟩
 ·rw[e p hp];unfold gA NY;rw[zX0 (by exact zYk),show xY (kS j).c p=xY (inF j) p from rfl,XM];rfl
 ·rw[show xY (kS j).c p=xY (inF j) p from rfl,XM]at h;exact absurd rfl h
def siO (s s':Sg) (p:Nat) (x:Int):Int:=if s'.lat=true then 1000 else if gA s' p=gA s p then x+1 else 0
def okI (ph:Ph) (c d x:Int):Prop:=(c=0/\d=1)∨(c=1/\d=2/\lnF ph<=x+1)∨(c=2/\x+1=ph.yel/\(d=0∨ph.red=0))
theorem zLg {ph:Ph} {a b:Li} {x:Int} {u:Nat} {lv:Bool} (hu:u<=900) (hv:RS ph a=true) (ht:a.lamp≠0->x=a.tk/\x<=u) (hx:0<=x) (hb:(b=a/\a.lamp=0)∨b=LD ph a lv∨((LD ph a lv).lamp=0/\b=⟨1,0⟩)):
  (NY b≠NY a->okI ph (NY a) (NY b) x)/\(b.lamp≠0->(if NY b=NY a then x+1 else 0)=b.tk/\(if NY b=NY a then x+1 else 0)<=(u:Int)+1):=by
 have hg:=zRx ph a b (if a.lamp=0 then 0 else x) lv hv (λh=>by rw[zX0 h];exact(ht h).1) (by split;omega;rename_i h;have:=(ht h).2;omega) hb;unfold snU at hg;unfold okI NY;obtain⟨al,ak⟩:=a;obtain⟨bl,bk⟩:=b;dsimp only at *;obtain⟨g1,g2⟩:=hg;by_cases h0:al=0
 ·subst h0;rw[zX1 rfl]at g1 g2
  rcases g2 with h|⟨_,h⟩|⟨h,_⟩|⟨h,_⟩|⟨h,_⟩|⟨h,_⟩<;>try (exact absurd h zB)
  ·subst h;exact⟨λh=>absurd rfl h,λh=>absurd rfl h⟩
  ·subst h;exact⟨λ_=> .inl ⟨rfl,rfl⟩,λh=>by have:=g1 h;rw[zX0 yZ]at this;rw[zX0 zS];exact⟨this,zB⟩⟩
 ·obtain⟨t1,t2⟩:=ht h0;rw[zX0 h0]at g1 g2
  rcases g2 with h|⟨h,_⟩|⟨h,h2,h3⟩|⟨h,h2,h3,h4⟩|⟨h,h2,h3,h4⟩|⟨h,h2,h3⟩
  ·subst h;exact⟨λh=>absurd rfl h,λh=>by have:=g1 h;rw[zX1 rfl]at this;rw[zX1 rfl];exact⟨this,zB⟩⟩
  ·exact absurd h h0
  ·subst h h2;exact⟨λ_=> .inr (.inl ⟨rfl,rfl,h3⟩),λh=>by have:=g1 h;rw[zX0 yZ]at this;rw[zX0 zS];exact⟨this,zB⟩⟩
  ·subst h h3;exact⟨λ_=> .inr (.inr ⟨rfl,h2,.inl rfl⟩),λh=>by have:=g1 h;rw[zX0 yZ]at this;rw[zX0 zS];exact⟨this,zB⟩⟩
  ·subst h;refine⟨λ_=> .inr (.inr ⟨rfl,h2,.inr h4⟩),λh=>?_⟩;have:=g1 h
   rcases h3 with rfl|rfl
   ·exact absurd rfl h
   ·rw[zX0 yZ]at this;rw[zX0 zS];exact⟨this,zB⟩
  ·subst h
   rcases h3 with rfl|rfl
   ·exact⟨λh=>absurd rfl h,λh=>absurd rfl h⟩
   ·exact⟨λ_=> .inl ⟨rfl,rfl⟩,λh=>by have:=g1 h;rw[zX0 yZ]at this;rw[zX0 zS];exact⟨this,zB⟩⟩
theorem zC6 {j:Jn} (J:JV j) {s s':Sg} (C:CV j s.c) {co si:List Int} {u:Nat} (hu:u<=900) (H:TiI j s co si u) (hs:zC5 j s s') {p:Nat} (hp:p<j.ph.length):
  (s'.lat=false->gA s' p≠gA s p->okI (yW j p) (gA s p) (gA s' p) (si.getD p default))/\(s'.lat=false->(xY s'.c p).lamp≠0->siO s s' p (si.getD p default)=(xY s'.c p).tk/\siO s s' p (si.getD p default)<=(u:Int)+1):=by
 obtain⟨s0,h0,h1⟩:=hs;have hx:=(H.b p hp).1
 rcases h1 with⟨h1,rfl⟩|⟨h1,t,k,rfl⟩
 ·exact⟨λh=>(by rw[h1]at h;cases h),λh=>(by rw[h1]at h;cases h)⟩
 ·have e1:sjF j s0 t k=⟨NS j s0.c t,fbF j.cf (YV (NS j s0.c t).li k)⟩:=by
   unfold sjF;rw[zX0 (by rw[h1];exact zYk)]
  rw[e1];generalize fbF j.cf (YV (NS j s0.c t).li k)=la
  have key:CV j s0.c/\gA s p=NY (xY s0.c p)/\((xY s0.c p).lamp≠0->si.getD p default=(xY s0.c p).tk/\si.getD p default<=u):=by
   rcases h0 with rfl|rfl
   ·exact⟨C,by unfold gA;rw[zX0 (by rw[h1];exact zYk)],H.t h1 p hp⟩
   ·unfold CY at h1⊢;by_cases hl:s.lat=true
    ·rw[zX1 hl];refine⟨FN J,?_,λh=>?_⟩
     ·unfold gA;rw[zX1 hl,show xY (kS j).c p=xY (inF j) p from rfl,XM];rfl
     ·rw[show xY (kS j).c p=xY (inF j) p from rfl,XM]at h;exact absurd rfl h
    ·rw[zX0 hl];exact⟨C,by unfold gA;rw[zX0 hl],H.t LX p hp⟩
  obtain⟨C0,k1,k2⟩:=key;have L:=zLg hu (C0.k p hp) k2 hx (zVa J C0 t p hp);rw[<-k1]at L;refine⟨λh hne=>?_,λh hne=>?_⟩
  ·dsimp only at h;have e2:gA ⟨NS j s0.c t,la⟩ p=NY (xY (NS j s0.c t) p):=by unfold gA;rw[zX0 (by rw[h];exact zYk)]
   rw[e2]at hne⊢;exact L.1 hne
  ·dsimp only at h hne;have e2:gA ⟨NS j s0.c t,la⟩ p=NY (xY (NS j s0.c t) p):=by unfold gA;rw[zX0 (by rw[h];exact zYk)]
   unfold siO;rw[zX0 (by dsimp only;rw[h];exact zYk),e2];exact L.2 hne
theorem zP1 {j:Jn} (J:JV j) {s s':Sg} (C:CV j s.c) {co si:List Int} {u:Nat} (hu:u<=900) (H:TiI j s co si u) (hs:zC5 j s s'):
  TiI j s' (dR (λp _=>gA s' p) co co.length) (dR (λp x=>siO s s' p x) si si.length) (u+1):=by
 have g1:∀p,p<j.ph.length->(dR (λp _=>gA s' p) co co.length).getD p default=gA s' p:=λp hp=>by
  rw[zX5,vO,zX1 (by rw[H.cl];exact hp),zX1 (by rw[H.cl];exact hp)];rfl
 have g2:∀p,p<j.ph.length->(dR (λp x=>siO s s' p x) si si.length).getD p default=siO s s' p (si.getD p default):=λp hp=>by
  rw[zX5,vO,zX1 (by rw[H.sl];exact hp),zX1 (by rw[H.sl];exact hp)];rfl
 refine⟨by rw[wL];exact H.cl,by rw[wL];exact H.sl,g1,λhl p hp hne=>?_,λp hp=>?_⟩
 ·rw[g2 p hp];have:=(zC6 J C hu H hs hp).2 hl hne;exact⟨this.1,by have:=this.2;omega⟩
 ·rw[g2 p hp];have:=H.b p hp;unfold siO;split
  ·omega
  ·split<;>omega
theorem zW2 {j:Jn} {s:Sg} {v:Sv}:(RO j s v).fl=s.lat/\(RO j s v).co.length=j.ph.length/\∀p,p<j.ph.length->(RO j s v).co.getD p default=gA s p:=by
 unfold RO;by_cases h:s.lat=true
 ·rw[zX1 h];refine⟨h.symm,zZd,λp hp=>?_⟩
  show(List.replicate j.ph.length (0:Int)).getD p default=_
  rw[zX5,zZs,zX1 hp];unfold gA;rw[zX1 h];rfl
 ·rw[zX0 h];refine⟨by simpa using h,by show(PA _ _ _).length=_;unfold PA;rw[wL,zZd],λp hp=>?_⟩
  show(PA s j.ph.length j.ph.length).getD p default=_
  unfold PA;rw[zX5,vO,zX1 (by rw[zZd];exact hp),zX1 hp];unfold gA;rw[zX0 h];rfl
theorem zUv {j:Jn} (J:JV j) {s:Sg} (C:CV j s.c):∀a b:Nat,a<j.cf.length->b<j.cf.length->(PB (gB (λp=>gA s p != 0) j.ph.length) a&&(PB (gB (λp=>gA s p != 0) j.ph.length) b&&fO j.cf a b))=false:=λa b ha hb=>by
 have hn:=C.n;have hJ:=J.n;rw[J.c]at ha hb;have hin:∀p:Nat,p<j.ph.length->PB (gB (λp=>gA s p != 0) j.ph.length) p=(gA s p != 0):=λp hp=>zQa _ zB zB
 have hne:∀p,(gA s p != 0)=true->(xY s.c p).lamp≠0:=λp h e=>by
  unfold gA NY at h;rw[e]at h;split at h
  ·exact absurd h yZ
  ·exact absurd h yZ
 rw[hin a ha,hin b hb]
 cases hsa:(gA s a != 0)with
 |false=>rfl
 | true=>
  cases hsb:(gA s b != 0)with
  |false=>rfl
  |true=>
   by_cases hab:a=b
   ·subst hab;rw[J.ir a ha];rfl
   ·rw[C.x a b ha hb hab (hne a hsa) (hne b hsb)];rfl
theorem zLh:zN 30 [] [] (bA true) []:=by
 have kn:=OF [] zS;have kc:=cQ BD 63;have hv:=MV BD 63 zB
 have k:=zBb (XU BD 63) hv [XG 1,XG 6] zS (λe he=>by
  simp only[zZi,yBn,yCy]at he
  rcases he with rfl|rfl
  ·exact TW zB
  ·exact TW zB)
 obtain⟨S,f,q1,q2,h1,h2,h3,h4,h5,h6,h7⟩:=MS (XU BD 63) hv;rw[show([XG 1,XG 6]:List Ev).take 400=[XG 1,XG 6]from rfl,h1]at k;rw[show qX (XU BD 63).ags (XU BD 63).ags.length=1 by rfl]at h3;generalize XU BD 63=c at *;generalize cfD BD 63=e0 at*
 obtain⟨s0,S,rfl⟩:∃s0 S',S=s0::S':=by
  cases S with
  |nil=>cases h2
  |cons s S=>exact⟨s,S,rfl⟩
 have h4:s0=_:=h4;subst h4;unfold wP at *;have hq1:=zA yA q1;rw[show zD sdP [(((90::165::1::17::q1):List Int)::S,f)]= .sl false [.agg [.sl false (.sl false (yA 90::yA 165::yA 1::yA 17::q1.map yA)::S.map (zD yA)),zD yA f]]from rfl]at k;have hSl:=zA (zD yA) S;generalize S.map (zD yA)=Sm at *;generalize q1.map yA=Q1 at *;rw[zYd]at h2 h3;have hz0:Sm.length=0:=by omega
 have hz1:(AV.sl false (yA 90::yA 165::yA 1::yA 17::Q1)::Sm).length=1:=by rw[zYd,hz0]
 have hz2:(yA 90::yA 165::yA 1::yA 17::Q1).length=q1.length+4:=by simp only[zYd];omega
 refine eM call30 λF hF=>?_
 (have zc1:=kn;have zc2:=kc;have zc3:=k;(repeat' (first|refine aL ?_|refine xO (λhc=>?_) (λhc=>?_)|refine wB (λhc=>?_)|(refine zE ?_;first|(refine yS ?_;refine UI 4 rfl rfl rfl ?_;refine UI 5 rfl rfl rfl ?_;refine qR tok rfl rfl ?_))|refine SB ?_|fail))<;>clear zc1 zc2 zc3)
 exact zJ
end Av
end Go.Proofs.YtmamjhmoegjapaaGreat
