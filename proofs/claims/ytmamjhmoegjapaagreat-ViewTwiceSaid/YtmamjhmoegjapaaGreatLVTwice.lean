/- law29: ViewTwice. -/
import Derived.Test.YtmamjhmoegjapaaGreatP33
namespace Go.Proofs.YtmamjhmoegjapaaGreat
namespace Av
set_option linter.all false
set_option maxRecDepth 4000
set_option maxHeartbeats 8000000
theorem twice_c (l1:List Int) (h1:l1.length<=9223372036854775807) (a b:Int):zO 6 [zD iA l1,iA a,iA b] [] (bA true) []:=by
 have kf:=zWc l1 h1;have ka:=zDq;have hm1:=zA iA l1
 cases hf:decide (l1.length<=300)<;>rw[hf]at kf
 ·(refine eM Tryz.call6 λF hF=>?_)
  refine MM (vD kf ka) ?_;exact zL
 have kn1:=zQ5 l1 h1;have kc:=DI ⟨l1,0,zY4 _,h1⟩ 63;have hv:=zRk ⟨l1,0,zY4 _,h1⟩ 63 zB;generalize RC ⟨l1,0,zY4 _,h1⟩ 63=c at *;generalize cfD ⟨l1,0,zY4 _,h1⟩ 63=e0 at *;obtain⟨l,d',hl,ks⟩:=zDs c hv.w hv.ag false e0;obtain⟨hl1,hl2⟩:=hl;have hal:=hv.a;have hagl:=zA wN c.ags;have k1:=LJ a (((c.ags.map wN).length:Nat):Int) zB zB;have k2:=LJ b (((c.ags.map wN).length:Nat):Int) zB zB;have m1:=yB4 a (show(((c.ags.map wN).length:Nat):Int)≠0 by omega);have m2:=yB4 b (show(((c.ags.map wN).length:Nat):Int)≠0 by omega);have m3:=yBu a (show(0:Int)<(((c.ags.map wN).length:Nat):Int) by omega);have m4:=yBu b (show(0:Int)<(((c.ags.map wN).length:Nat):Int) by omega);generalize a % (((c.ags.map wN).length:Nat):Int)=i at *;generalize b % (((c.ags.map wN).length:Nat):Int)=j at *;have el:(RS c i l).length<=l.length:=yAv ..;have ew:(QO c j l).length=l.length:=zYq ..;have hbm:∀e∈RS c i l,ZP e:=λe he=>hl2 e (yBl.1 he).1
 have hbw:∀e∈QO c j l,ZP e:=λe he=>by
  obtain⟨x,hx,rfl⟩:=zZ3.1 he;exact zW4 (hl2 x hx)
 have km1:=QN c hv.ag i l zB hl2;have km2:=QN c hv.ag i (RS c i l) zB hbm;have kw1:=KG c hv.ag j l zB hl2;have kw2:=KG c hv.ag j (QO c j l) zB hbw;have km3:=QN c hv.ag i (QO c j l) zB hbw;have e3:i≠j->RS c i (QO c j l)=RS c i l:=λh=>zUe c j i (λe=>h e.symm) l
 rw[zPj]at km2;rw[zPi]at kw2;have s1:=KD (RS c i l) zB;have s2:=KD (QO c j l) zB;have kr:=zWz c hv l zB hl2;rw[zYy zB]at kr;have hby:=zJo l (DP c hv) hl2 (by show(0:Int)+_<_;omega);have hrl:=(zCr l (DP c hv) hl2 (by show(0:Int)+_<_;omega)).2.2.2.2;have hsb:=jR hv.ag c.ags.length (zYs _);have hss:(kS c).ss.length<=8:=by unfold kS;rw[zZ0];omega
 have hlm:=zA wT l;have hmm:=zA wT (RS c i l);have hwm:=zA wT (QO c j l);have hrm:=zA sdP (GM (kS c) l);clear hbm hbw;generalize RS c i (QO c j l)=lx at *;generalize RS c i l=lm at *;generalize QO c j l=lw at *;generalize GM (kS c) l=rs at *;generalize (kS c).ss.length=sn at *;unfold wJ at *;have main:i≠j∨i=j:=by omega
 have fin:∀x:List Int,BY x/\x.length<=400000->(RD x).length=x.length/\eqY (RD x) (RD x)=true:=λx hx=>⟨QM hx.1,dI _⟩
 by_cases hij:i=j
 case' pos=>
  subst hij;refine eM Tryz.call6 λF hF=>?_
  refine MM (zX3 kf kn1 kc ks k1 k2 km1 km2 kw1 kw2 s1 s2 kr) ?_
 case' neg=>
  rw[e3 hij]at km3;refine eM Tryz.call6 λF hF=>?_
  refine MM (zX4 kf kn1 kc ks k1 k2 km1 km2 km3 kw1 kw2 s1 s2 kr) ?_
 all_goals
  clear kf kn1 kc ks k1 k2 km1 km2 km3 kw1 kw2 s1 s2 kr;refine yS (rs) [] [] [85,86] [87,85,86] rfl (λi pre T U=>⟨(87,iA i)::T,U⟩) ?_;(conv=>whnf);refine⟨by rfl,?_,?_⟩
  ·intro k0 pre0 p post0 hx0 hk0;have hyp:=xO sdP hx0 hk0;have hlp:=yX hx0 hk0;obtain⟨hp1,hp2⟩:=hby p (wY hx0);obtain⟨S,f⟩:=p;dsimp only at hp1 hp2;have hSm:=zA (zD yA) S;rw[show sdP (S,f)= .agg [.sl false (S.map (zD yA)),zD yA f]from rfl]at hyp;clear hx0 hby;refine WW ?_;refine yS (S) [] [] [85,86,87,92,93] [94,85,86,87,92,93] rfl (λi pre T U=>⟨(94,iA i)::T,U⟩) ?_;(conv=>whnf);refine⟨by rfl,?_,?_⟩
   ·intro k pre x post hx hk;have hy:=xO (zD yA) hx hk;have hlt:=yX hx hk;obtain⟨x1,x2⟩:=hp2 x (wY hx);have f1:=QM x1;have f2:=dI (RD x);have g1:=DS x x1 zB;have g2:=DS (RD x) (zJr x1) zB;rw[zE8 x1]at g2;have hxm:=zA yA x;have hzm:=zA yA (RD x);clear hx hp2 fin;generalize RD x=y at *;unfold zD at hy g1 g2;refine xA (vD g1 g2) ?_
    all_goals (first|rfl|(exfalso;first|(simp[dI]at hc;done)|(revert hc;simp[dI];done)))
   ·(refine WW ?_)
    rfl
  ·(refine zW ka ?_)
   exact zL
end Av
end Go.Proofs.YtmamjhmoegjapaaGreat
