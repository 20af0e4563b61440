/- law30.BoundCrowd. -/
import Derived.Test.YteajjdidebfcjaaGreatR32
namespace Go.Proofs.YteajjdidebfcjaaGreat
namespace Av
set_option linter.all false
set_option maxRecDepth 4000
set_option maxHeartbeats 8000000
theorem crowd_c (l1:List Int) (h1:l1.length<=9223372036854775807) (v1:Int):zN 3 [zD iA l1,iA v1] [] (bA true) []:=by
 have kf:=zYd l1 h1;have ka:=zDy;have hm1:=zA iA l1
 cases hf:decide (l1.length<=300)<;>rw[hf]at kf
 ·(refine eM Tryz.call3 λF hF=>?_)
  refine WLc (vH kf ka) ?_;exact zJ
 have kn1:=zYn l1 h1;have kc:=AD ⟨l1,0,yAp _,h1⟩ 63;have hv0:=zXl ⟨l1,0,yAp _,h1⟩ 63 zB;have hs0:=zNj ⟨l1,0,yAp _,h1⟩ 63;generalize LA ⟨l1,0,yAp _,h1⟩ 63=g at *;generalize cfD ⟨l1,0,yAp _,h1⟩ 63=e0 at *;have hv:=zW0 hv0;have hs:=zNk hs0;have hga:=hv0.a;have hgm:=zA wK g.ags;unfold cfO at kc;refine eM Tryz.call3 λF hF=>?_
 refine yR (gK kf kn1 kc) ?_;refine zO (g.ags.length) [1002,6,1000] [6,1000] [1,5,6,29] [30,1,5,6,29] rfl (λi T U=>⟨(30,iA i)::T,(1002,.arr 8 ((bB (λ_ a=>cdA a) g.ags i).map wK) false)::U⟩) ?_;(conv=>whnf);refine⟨by(rw[qR];rfl),?_,?_⟩
 ·intro k hk;have e:(bB (λ_ a=>cdA a) g.ags (k+1)).map wK=((bB (λ_ a=>cdA a) g.ags k).map wK).set k (wK (cdA (g.ags.getD k default))):=uR _ _ _ _ hk;have hy:((bB (λ_ a=>cdA a) g.ags k).map wK)[k]? =some (wK (g.ags.getD k default)):=by rw[yAa,vQ,zZ8 hk,zZ7 (yDx k)];rfl
  have hxl:((bB (λ_ a=>cdA a) g.ags k).map wK).length=(g.ags.map wK).length:=by rw[zZ9,wP,hgm]
  rw[e];clear e;generalize (bB (λ_ a=>cdA a) g.ags k).map wK=X at *;generalize g.ags.map wK=G at *;generalize g.ags.getD k default=a at *;unfold wK at hy⊢;unfold cdA;dsimp only;have hkx:k<X.length:=by omega
  obtain⟨y1,hy1⟩:∃y1:AV,y1= .agg [zD yA a.sec,iA a.rights,iA a.cls,zD iA a.lim,iA a.req,iA a.ses,iA 20,iA a.burst]:=⟨_,rfl⟩;obtain⟨y2,hy2⟩:∃y2:AV,y2= .agg [zD yA a.sec,iA a.rights,iA a.cls,zD iA a.lim,iA a.req,iA a.ses,iA 20,iA 40]:=⟨_,rfl⟩;have q1:(X.set k y1)[k]? =some y1:=yBq hkx;have q2:((X.set k y1).set k y2)[k]? =some y2:=yBq (by rw[yBv];exact hkx);have q3:(X.set k y1).length=G.length:=by rw[yBv];exact hxl
  have q4:((X.set k y1).set k y2).length=G.length:=by rw[yBv];exact q3
  have q5:∀z,((X.set k y1).set k y2).set k z=X.set k z:=λz=>by rw[yEe,yEe]
  rw[<-q5];subst hy1 hy2
  (repeat' (first|refine RP ?_|((first|apply xM|apply wA)<;>intro hc)|(refine zE ?_;first|(refine xB ?_;refine gO tok rfl rfl ?_))|refine SB ?_|fail))
  rfl
 ·have eU:bB (λ_ a=>cdA a) g.ags g.ags.length=g.ags.map cdA:=by
   apply yBi;intro j;rw[vQ,yAa];by_cases hj:j<g.ags.length
   ·rw[zZ8 hj,zZ8 hj,yAg,yAn hj];rfl
   ·rw[zZ7 hj,yAz zB];rfl
  rw[eU]
  have hgl:(g.ags.map wK).length=((AE g).ags.map wK).length:=by
   show _=((g.ags.map cdA).map wK).length
   rw[zZ9,zZ9,zZ9]
  have hgn:g.ags.length=(AE g).ags.length:=(zZ9 ..).symm;rw[hgl,hgn];refine uZ [1000,6] [30,29,1,5,6] rfl (yA6 (λy=>(⟨[(30,iA ((AE g).ags.length:Int)),(29,iA (((AE g).ags.map wK).length:Int)),(1,iA v1),(5,.ptr 1000 0 0),(6,.ptr 6 0 0)],[(1000,NF e0),(6,.box [zD wJ (AE g).js,.sl false y,iA (AE g).per,iA (AE g).cap,iA (AE g).hold,iA (AE g).lock])]⟩:St)) (show _=(AE g).ags.map wK by rw[yA9];exact yAf (l:=(AE g).ags.map wK))) ?_;clear eU hgl hgn kc kn1 kf hgm hga hs0 hv0 hm1 hf;generalize AE g=c at *;clear g;have ha:=hv.a;have hj:=hv.j;have hlA:=zA wK c.ags;have hlJ:=zA wJ c.js;have hbL:=zGe hv hs;refine WW ?_;refine yZ 8 1001 5 rfl rfl rfl ?_;refine yZ 10 1003 1 rfl rfl rfl ?_;refine yL (c.ags) [1001,1003,6,1000] [6,1000] [1,5,6,51,52] [8,9,10,53,1,5,6,51,52] rfl (λi pre T U=>⟨(8,.ref 1001 0 ((BN c i).map gD).length)::(9,iA (qE c.ags i))::(10,.ref 1003 0 (((List.range i).map (qE c.ags)).map iA).length)::(53,iA i)::T,(1001,.arr 5 ((BN c i).map gD) true)::(1003,.arr 1 (((List.range i).map (qE c.ags)).map iA) true)::U⟩) ?_;(conv=>whnf);refine⟨by rfl,?_,?_⟩
  ·intro k pre ag post hx hk;have hy:=xI wK hx hk;have hlt:=yN hx hk
   have hgd:c.ags.getD k default=ag:=by
    rw[yAg,hx,<-hk,yA1 (yAb _),yB9];rfl
   have hcl:=(hbL k zB).1;have hcm:((BN c k).map gD).length=(BN c k).length:=zZ9 ..;have hsm:(((List.range k).map (qE c.ags)).map iA).length=k:=by simp
   have hsb:=kY (l:=c.ags) hv.ag k zB;have hses:=hv.ag.at (i:=k) zB;have e2:(BN c (k+1)).map gD=((BN c k).map gD++[gD ⟨1,qE c.ags k,0,0,[]⟩])++((List.range 4).map (crE c k)).map gD:=by simp[BN]
   have e1:((List.range (k+1)).map (qE c.ags)).map iA=((List.range k).map (qE c.ags)).map iA++[iA (qE c.ags k)]:=by simp[yCm]
   have e3:qE c.ags (k+1)=qE c.ags k+ag.ses:=by rw[<-hgd];rfl
   have kf:=λ(v:Nat) (hv9:v<4)=>(GU (zR2 (c:=c) (g:=(k:Int)) (v:=(v:Int)) hs zB zB zB zB zB)).2.2
   have hq:∀v,gD (crE c k v)= .agg [iA 3,iA (qE c.ags k),iA 0,iA 0,zD yA (bfF (crM c k v))]:=λ_=>rfl
   have hm:∀v:Nat,crM c k v=⟨4,(k:Int)::0::ag.sec,[(v:Int),(v:Int).tmod 2],[]⟩:=λv=>by unfold crM crT;rw[yAx,hgd]
   have hsl:=(hs ag (wR hx)).2;have hslm:=zA yA ag.sec;rw[hgd]at hses;rw[e1,e2,e3];have hM:∀v,((List.range (v+1)).map (crE c k)).map gD=((List.range v).map (crE c k)).map gD++[gD (crE c k v)]:=λv=>by simp[yCm]
   have hM0:((List.range 0).map (crE c k)).map gD=[]:=rfl;have hMl:∀v,(((List.range v).map (crE c k)).map gD).length=v:=λv=>by simp
   clear hx hbL e1 e2 e3;generalize (BN c k).map gD=X at *;generalize ((List.range k).map (qE c.ags)).map iA=Y at *;generalize qE c.ags k=b at *;generalize crE c k=cE at *;unfold wK at hy
   (repeat' (first|refine RP ?_|((first|apply xM|apply wA)<;>intro hc)|(refine zE ?_;first|(refine xB ?_;refine CP 64 rfl rfl rfl ?_;refine gO tok rfl rfl ?_)|(refine xB ?_;refine gO tok rfl rfl ?_))|refine SB ?_|fail))
   refine zO (4) [1001,6,12,1000,1003] [6,12,1000,1003] [1,5,6,9,10,11,12,51,52,53] [8,67,1,5,6,9,10,11,12,51,52,53] rfl (λi T U=>⟨(8,.ref 1001 0 (X++[gD ⟨1,b,0,0,[]⟩]++((List.range i).map cE).map gD).length)::(67,iA i)::T,(1001,.arr 5 (X++[gD ⟨1,b,0,0,[]⟩]++((List.range i).map cE).map gD) true)::U⟩) ?_;(conv=>whnf);refine⟨by(rw[hM0,yBc];rfl),?_,?_⟩
   ·intro v hv9;have kf:=kf v hv9;rw[hM v,hq v,<-yA7];have hl3:(X++[gD ⟨1,b,0,0,[]⟩]++((List.range v).map cE).map gD).length<=100:=by rw[yAd,yAd,hMl];simp;omega
    generalize X++[gD ⟨1,b,0,0,[]⟩]++((List.range v).map cE).map gD=Z' at *;generalize hF:bfF (crM c k v)=fr at *;rw[hm]at kf;unfold yB at kf;dsimp only at kf;rw[show zD yA ((k:Int)::0::ag.sec)= .sl false (List.take ([AV.s (.int .u8 (k:Int)),AV.s (.int .u8 0)]++ag.sec.map yA).length (List.drop 0 ([AV.s (.int .u8 (k:Int)),AV.s (.int .u8 0)]++ag.sec.map yA))) by rw[yA9,yAf];rfl]at kf
    (repeat' (first|refine RP ?_|((first|apply xM|apply wA)<;>intro hc)|(refine zE ?_;first|(refine xB ?_;refine kJ [1000,1001,1003,12,6] [1,5,6,8,9,10,11,12,13,51,52,53,67,75,76,77,78] rfl ?_;(conv=>whnf);refine gO tok rfl rfl ?_))|refine SB ?_|fail))
    (have zc1:=kf;(repeat' (first|refine RP ?_|((first|apply xM|apply wA)<;>intro hc)|(refine zE ?_;first|(refine xB ?_;refine gO tok rfl rfl ?_))|refine SB ?_|fail))<;>clear zc1)
    rfl
   ·(refine WW ?_)
    rfl
  ·have hcl:=(hbL c.ags.length (yAb _)).1;have hcm:((BN c c.ags.length).map gD).length=(BN c c.ags.length).length:=zZ9 ..;have hY:∀y,y=((List.range c.ags.length).map (qE c.ags)).map iA->y=(((List.range c.ags.length).map (qE c.ags)).map iA):=λ_ h=>h
   have km:=zK9 v1 50 zB zB;have hmb:=yD2 v1 (show(0:Int)<50 by omega);have hm0:=yEl v1 (show(50:Int)≠0 by omega);generalize v1 % 50=z at *;obtain⟨m,rfl⟩:∃m:Nat,z=(m:Int):=⟨z.toNat,zB⟩;refine WW ?_;refine uZ [1000,6,1001] [1,5,6,8,10,15] rfl (yA6 (λy=>(⟨[(1,iA v1),(5,.ptr 1000 0 0),(6,.ptr 6 0 0),(8,.ref 1001 0 ((BN c c.ags.length).map gD).length),(10,.sl false y),(15,iA 0)],[(1000,NF e0),(6,.box [zD wJ c.js,zD wK c.ags,iA c.per,iA c.cap,iA c.hold,iA c.lock]),(1001,.arr 5 ((BN c c.ags.length).map gD) true)]⟩:St)) (show _=((List.range c.ags.length).map (qE c.ags)).map iA by rw[yA9];exact yAf (l:=((List.range c.ags.length).map (qE c.ags)).map iA))) ?_;have hys:=λg:Int=>yI iA ((List.range c.ags.length).map (qE c.ags)) g
   have hsm:((List.range c.ags.length).map (qE c.ags)).length=c.ags.length:=by simp
   have hsg:∀g:Nat,g<c.ags.length->((List.range c.ags.length).map (qE c.ags)).getD g default=qE c.ags g:=λg hg=>by simp[yAg,hg]
   generalize (List.range c.ags.length).map (qE c.ags)=fs at *;have hfm:=zA iA fs;clear hY;refine zO ((130+m)) [1000,1001,6] [6] [1,5,6,10] [8,15,1,5,6,10] rfl (λi T U=>⟨(8,.ref 1001 0 ((cdS c e0 i).1.map gD).length)::(15,iA i)::T,(1000,NF (cdS c e0 i).2)::(1001,.arr 5 ((cdS c e0 i).1.map gD) true)::U⟩) ?_;(conv=>whnf);refine⟨by rfl,?_,?_⟩
   ·intro i hi;have hcb:=zGf hv hs e0 i;rw[show cdS c e0 (i+1)=crR c i (cdS c e0 i)from rfl];generalize cdS c e0 i=p at *;obtain⟨l,d⟩:=p;dsimp only at hcb⊢;have hl1:=hcb.1;have hlm:(l.map gD).length=l.length:=zZ9 ..;have ha0:nx d 4=0∨nx d 4≠0:=by omega
    have n1:=wO d 4 zB zB
    rw[show crR c i (l,d)=if nx d 4=0/\4<i then(l++[tkC],ad d)else
     if nx (ad (ad (ad (ad (ad (ad (ad (ad d)))))))) 4=3 then(l++[tkC]++[⟨3,qE c.ags (nx (ad d) (c.ags.length:Int)).toNat,0,0,bfF (crX c (ad (ad (ad (ad (ad (ad (ad (ad (ad d))))))))) (nx (ad d) (c.ags.length:Int)))⟩],ad (ad (ad (ad (ad (ad (ad (ad (ad (ad d))))))))))
     else(l++[tkC]++[⟨3,qE c.ags (nx (ad d) (c.ags.length:Int)).toNat,0,0,bfF (crQ c (ad (ad (ad d))) (nx (ad d) (c.ags.length:Int)) (nx (ad (ad d)) (c.js.length:Int)))⟩],ad (ad (ad (ad (ad (ad (ad (ad (ad d)))))))))from rfl]
    have hT:gD tkC= .agg [iA 6,iA 0,iA 0,iA 0,.sl false []]:=rfl;by_cases hc9:nx d 4=0/\4<i
    ·rw[zZ8 hc9];dsimp only;rw[yAi,show [tkC].map gD=[.agg [iA 6,iA 0,iA 0,iA 0,.sl false []]]from rfl];generalize nx d 4=u at *;generalize ad d=d' at *;generalize l.map gD=X at *;obtain⟨hc0,hc4⟩:=hc9;subst hc0
     (have zc1:=km;have zc2:=n1;(repeat' (first|refine RP ?_|((first|apply xM|apply wA)<;>intro hc)|(refine zE ?_;first|(refine xB ?_;refine CP 102 rfl rfl rfl ?_;refine gO tok rfl rfl ?_))|refine SB ?_|fail))<;>clear zc1 zc2)
     rfl
    ·rw[zZ7 hc9];have n2:=wO (ad d) ((c.ags.map wK).length:Int) zB zB;have n3:=wO (ad (ad d)) ((c.js.map wJ).length:Int) zB zB;rw[hlA]at n2;rw[hlJ]at n3;have b1:=xZ (ad d) (c.ags.length:Int) zB;have b2:=xZ (ad (ad d)) (c.js.length:Int) zB;have kq:=(GU (zR3 hs ha.2 hv.w (ad (ad (ad d))) b1.1 b1.2 b2.1 b2.2)).2.2;have kx:=(GU (zR4 hs ha.2 (ad (ad (ad (ad (ad (ad (ad (ad (ad d))))))))) b1.1 b1.2)).2.2;generalize bfF (crQ c (ad (ad (ad d))) (nx (ad d) (c.ags.length:Int)) (nx (ad (ad d)) (c.js.length:Int)))=fq at *;generalize bfF (crX c (ad (ad (ad (ad (ad (ad (ad (ad (ad d))))))))) (nx (ad d) (c.ags.length:Int)))=fx at *;unfold crQ crT at kq;unfold crX crT at kx;rw[<-hsg _ zB];generalize nx (ad d) (c.ags.length:Int)=g at *;generalize nx (ad (ad d)) (c.js.length:Int)=j at *;have hyg:=yI wK c.ags g b1.1 zB;have hyj:=yI wJ c.js j b2.1 zB;have hyf:=hys g b1.1 zB;have hjp:=hv.w.2 _ (zP c.js j.toNat zB);have hsl:=(hs _ (zP c.ags g.toNat zB)).2;generalize c.ags.getD g.toNat default=ag at *;generalize c.js.getD j.toNat default=jn at *;generalize fs.getD g.toNat default=sb at *;have hslm:=zA yA ag.sec;have hpm:=zA wS jn.ph;have n4:=wO (ad (ad (ad d))) 5 zB zB;have n5:=wO (ad (ad (ad (ad d)))) 4 zB zB;have n6:=wO (ad (ad (ad (ad (ad d))))) 90 zB zB;have n7:=wO (ad (ad (ad (ad (ad (ad d)))))) ((jn.ph.map wS).length:Int) zB zB;rw[hpm]at n7;have n8:=wO (ad (ad (ad (ad (ad (ad (ad d))))))) 90 zB zB;have n9:=wO (ad (ad (ad (ad (ad (ad (ad (ad d)))))))) 4 zB zB;have n10:=wO (ad (ad (ad (ad (ad (ad (ad (ad (ad d))))))))) 5 zB zB;have c6:=xZ (ad (ad (ad (ad (ad d))))) 90 zB;have c8:=xZ (ad (ad (ad (ad (ad (ad (ad d))))))) 90 zB;have hS:zD yA (g::0::ag.sec)= .sl false (List.take ([AV.s (.int .u8 g),AV.s (.int .u8 0)]++ag.sec.map yA).length (List.drop 0 ([AV.s (.int .u8 g),AV.s (.int .u8 0)]++ag.sec.map yA))):=by rw[yA9,yAf];rfl
     unfold yB at kq kx;dsimp only at kq kx;rw[hS]at kq kx;have hu:(nx d 4=0/\¬4<i)∨nx d 4≠0:=by omega
     generalize nx d 4=u at *;clear hcb hc9 hsg hys hs hv hbL;generalize ad d=d1 at *;generalize ad d1=d2 at *;generalize ad d2=d3 at *;generalize ad d3=d4 at *;generalize ad d4=d5 at *;generalize ad d5=d6 at *;generalize ad d6=d7 at *;generalize ad d7=d8 at *;generalize ad d8=d9 at *;generalize ad d9=d10 at *;generalize nx d8 4=y9 at *;generalize nx d3 5=y4 at *;generalize nx d4 4=y5 at *;generalize nx d5 90=y6 at *;generalize nx d6 (jn.ph.length:Int)=y7 at *;generalize nx d7 90=y8 at *;generalize nx d9 5=y10 at *;rw[<-hlA]at n2;rw[<-hlJ]at n3;rw[<-hpm]at n7;by_cases h9:y9=3
     case' pos=>rw[zZ8 h9]
     case' neg=>rw[zZ7 h9]
     all_goals
      dsimp only;rw[yAi,yAi,show [tkC].map gD=[.agg [iA 6,iA 0,iA 0,iA 0,.sl false []]]from rfl]
     case' pos=>rw[show [(⟨3,sb,0,0,fx⟩:Ev)].map gD=[.agg [iA 3,iA sb,iA 0,iA 0,zD yA fx]]from rfl]
     case' neg=>rw[show [(⟨3,sb,0,0,fq⟩:Ev)].map gD=[.agg [iA 3,iA sb,iA 0,iA 0,zD yA fq]]from rfl]
     all_goals
      generalize l.map gD=X at*
      rcases hu with⟨hu,hu4⟩|hu
     all_goals
      (have zc1:=km;(repeat' (first|refine WZB ?_|((first|apply xM|apply wA)<;>intro hc)|fail))<;>clear zc1)
      refine zY rfl ?_
      (have zc1:=km;(repeat' (first|refine WZB ?_|((first|apply xM|apply wA)<;>intro hc)|fail))<;>clear zc1)
      refine yW ?_
      (have zc1:=km;have zc2:=n1;have zc3:=n2;have zc4:=n3;have zc5:=n4;have zc6:=n5;have zc7:=n6;have zc8:=n7;have zc9:=n8;have zc10:=n9;(repeat' (first|refine WYB ?_|((first|apply xM|apply wA)<;>intro hc)|(refine zE ?_;first|(refine xB ?_;refine CP 102 rfl rfl rfl ?_;refine gO tok rfl rfl ?_))|refine SB ?_|fail))<;>clear zc1 zc2 zc3 zc4 zc5 zc6 zc7 zc8 zc9 zc10)
      refine zS rfl ?_
      (have zc1:=km;have zc2:=n1;have zc3:=n2;have zc4:=n3;have zc5:=n4;have zc6:=n5;have zc7:=n6;have zc8:=n7;have zc9:=n8;have zc10:=n9;(repeat' (first|refine WYB ?_|((first|apply xM|apply wA)<;>intro hc)|(refine zE ?_;first|(refine xB ?_;refine CP 102 rfl rfl rfl ?_;refine gO tok rfl rfl ?_))|refine SB ?_|fail))<;>clear zc1 zc2 zc3 zc4 zc5 zc6 zc7 zc8 zc9 zc10)
      refine qH [1000,1001,6,18] [1,5,6,8,10,15,16,17,18,156] rfl ?_
      (conv=>whnf)
      (have zc1:=n10;have zc2:=kx;have zc3:=kq;(repeat' (first|refine RP ?_|((first|apply xM|apply wA)<;>intro hc)|(refine zE ?_;first|(refine xB ?_;refine gO tok rfl rfl ?_))|refine SB ?_|fail))<;>clear zc1 zc2 zc3)
      rfl
   ·obtain⟨hb1,hb2⟩:=zGf hv hs e0 (130+m);have kst:=zGb c hv (cdS c e0 (130+m)).1 zB hb2;rw[yAj zB]at kst;have hx:=(zF9 (cdS c e0 (130+m)).1 (zGt c hv) (zBy hv) hb2 (by show(0:Int)+_<_;omega)).x;rw[(zG2 (cdS c e0 (130+m)).1 (zGt c hv) hb2 (by show(0:Int)+_<_;omega)).2.1]at hx;have hx:(rnW (cA c) ([],0) (cdS c e0 (130+m)).1).2<fO c c.js.length:=hx.2;have klo:=zBz c hv;generalize (rnW (cA c) ([],0) (cdS c e0 (130+m)).1).2=u at *;generalize fO c c.js.length=lo at *;unfold zD vG at kst;unfold vG at klo;clear hb1 hb2 hsg hys hs hv hbL hcl hcm;generalize cdS c e0 (130+m)=p at *;obtain⟨l,d⟩:=p;dsimp only at *;generalize l.map gD=X at*
    (have zc1:=km;(repeat' (first|refine WZX ?_|((first|apply xM|apply wA)<;>intro hc)|fail))<;>clear zc1)
    refine uZ [6] [6,8] rfl (yA6 (λy=>(⟨[(6,.ptr 6 0 0),(8,.sl false y)],[(6,.box [zD wJ c.js,zD wK c.ags,iA c.per,iA c.cap,iA c.hold,iA c.lock])]⟩:St)) yAf) ?_;refine yR (gK kst klo ka) ?_;exact zJ
end Av
end Go.Proofs.YteajjdidebfcjaaGreat
