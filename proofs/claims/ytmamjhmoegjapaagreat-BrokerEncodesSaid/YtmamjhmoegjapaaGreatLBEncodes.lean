/- law28: BrokerEncodes. -/
import Derived.Test.YtmamjhmoegjapaaGreatP32
namespace Go.Proofs.YtmamjhmoegjapaaGreat
namespace Av
set_option linter.unusedSimpArgs false
set_option linter.unusedVariables false
set_option maxRecDepth 4000
set_option maxHeartbeats 8000000
theorem encodes_c (l1:List Int) (h1:l1.length<=9223372036854775807):zN 4 [zD iA l1] [] (bA true) []:=by
 have kf:=zCa l1 h1;have ka:=UR;have hm1:=zA iA l1
 cases hf:decide (l1.length<=300)<;>rw[hf]at kf
 ·(refine eM Tryz.call4 λF hF=>?_)
  refine LO (wZ kf ka) ?_;exact zJ
 have kn1:=OF l1 h1;have kc:=cQ ⟨l1,0,zYe _,h1⟩ 63;have hv:=MV ⟨l1,0,zYe _,h1⟩ 63 zB;generalize XU ⟨l1,0,zYe _,h1⟩ 63=c at *;generalize cfD ⟨l1,0,zYe _,h1⟩ 63=e0 at *;obtain⟨l,d',hl,ks⟩:=YO c hv.w hv.ag false e0;have kb:=RK c hv;have hb:=VA c hv;have h0:(wS c).y.now=0:=rfl;have hlm:=zA vU l;unfold wP at *;unfold kG cN at kb;refine eM Tryz.call4 λF hF=>?_
 refine LO (zt5 kf kn1 kc kb ks) ?_;refine zY (l) [5] [] [5,37,38] [39,5,37,38] rfl (λi pre T U=>⟨(39,iA i)::T,(5,.box [zD wH (uI (wS c) pre).y.c.js,zD vC (uI (wS c) pre).y.c.ags,iA (uI (wS c) pre).y.c.per,iA (uI (wS c) pre).y.c.cap,iA (uI (wS c) pre).y.c.hold,iA (uI (wS c) pre).y.c.lock,bA false,iA (uI (wS c) pre).y.now,zD zK (uI (wS c) pre).y.ds,zD wV (uI (wS c) pre).y.sg,zD wT (uI (wS c) pre).y.sv,zD iA (uI (wS c) pre).y.st,zD vM (uI (wS c) pre).y.vw,zD kJ (uI (wS c) pre).ss])::U⟩) ?_;(conv=>whnf);refine⟨by rfl,?_,?_⟩
 ·intro i pre x post hx hi;have hy:=yI vU hx hi;have hlt:=yB hx hi;have hpm:∀e∈pre,cB e:=λe h=>hl.2 e zCu
  have hpl:pre.length<=l.length:=by rw[hx];simp
  have hxe:=hl.2 x OX;have hl1:=hl.1;obtain⟨p1,p2,p3,p4,p5⟩:=TU pre hb hpm LU;have D:=jH p1 zB hxe;have kd:=D.k;have D6:=D.t6;have Df:=D.f6;have e1:uI (wS c) (pre++[x])=(dM (uI (wS c) pre) x).b:=dV _ _ _;rw[e1];clear D e1 hx hpm;unfold kG cN vU GD at kd;unfold vU at hy;generalize dM (uI (wS c) pre) x=r at *;generalize uI (wS c) pre=b0 at *;obtain⟨rb,S,f,fl⟩:=r;dsimp only at *;cases fl
  ·(refine zU kd ?_)
   rfl
  ·have hk6:=Df rfl;obtain⟨y',Td,M,er,km⟩:=D6 hk6;simp only[DoR.mk.injEq]at er;obtain⟨rfl,rfl,rfl,_⟩:=er;clear D6 Df;have hsI:=p1.s;obtain⟨N,hN,hN8⟩:=XF b0 p1;have hssl:=zA kJ b0.ss;have hTl:=M.l;have hbl:(kC b0.ss).length=b0.ss.length:=by unfold kC;rw[zX2]
   dsimp only at kd;generalize hs':eW b0.ss b0.ss.length=ss' at *;refine zU kd ?_;refine xC 11 1042 2 rfl rfl rfl ?_;refine zY (b0.ss) [1042,5,8,9] [5,8,9] [5,8,9,37,38,39,52,53] [11,54,5,8,9,37,38,39,52,53] rfl (λi pre T U=>⟨(11,.ref 1042 0 ((pre.map λs=>kT (dN s).2)).length)::(54,iA i)::T,(1042,.arr 2 (pre.map λs=>kT (dN s).2) true)::U⟩) ?_;(conv=>whnf);refine⟨by rfl,?_,?_⟩
   ·intro i2 pre z post hx2 hi2;have hy2:=yI kJ hx2 hi2;have hlt2:=yB hx2 hi2;have hz:=hsI z (xX hx2);have kt:=zBh z hz.y (by have:=hz.n;omega);have hpl2:(pre.map λs=>kT (dN s).2).length=pre.length:=zX2 ..;rw[zYc,show [z].map (λs=>kT (dN s).2)=[kT (dN z).2]from rfl];clear hx2 hz;generalize (pre.map λs=>kT (dN s).2)=Y at *;generalize dN z=w at *;unfold kJ kT at *;refine WLo kt ?_;rfl
   ·rw [show(b0.ss.map λs=>kT (dN s).2)=(kC b0.ss).map kT by unfold kC;rw[yCp];rfl];have hrf:=p1.y.rf;have hrf':=M.i.rf;have eC:uF b0.y= .agg [zD wH b0.y.c.js,zD vC b0.y.c.ags,iA b0.y.c.per,iA b0.y.c.cap,iA b0.y.c.hold,iA b0.y.c.lock,bA false,iA b0.y.now,zD zK b0.y.ds,zD wV b0.y.sg,zD wT b0.y.sv,zD iA b0.y.st,zD vM b0.y.vw]:=by rw[<-hrf];rfl
    have eC':uF y'= .agg [zD wH y'.c.js,zD vC y'.c.ags,iA y'.c.per,iA y'.c.cap,iA y'.c.hold,iA y'.c.lock,bA false,iA y'.now,zD zK y'.ds,zD wV y'.sg,zD wT y'.sv,zD iA y'.st,zD vM y'.vw]:=by rw[<-hrf'];rfl
    have ky:=zPv y' M.i.b hrf';rw[eC,eC']at km;rw[eC']at ky;have hil:=zA kT (kC b0.ss);have hrl:=zA bD Td;have hql:=zA (zD yA) (Td.map dL);have hql2:(Td.map dL).length=Td.length:=zX2 ..;have hMv:=M.v;have hMf:=M.f;unfold tdO tdH at km;generalize kC b0.ss=ins at *;clear M p1;generalize RN (b0.y.now+1) y'.vw=fm at *;generalize hRm:Td.map bD=Rm at *;generalize hSm:(Td.map dL).map (zD yA)=Sm at*
    (have zc1:=km;have zc2:=ky;have zf1:=(⟨⟩:FzD 18 [5,8,9] [5,8,9,37,38,39,70,71]);refine WL ?_;clear zc1 zc2 zf1)
    refine uC [5,8,9] [5,8,9,37,38,39,94,95,96] rfl ?_
    (conv=>whnf)
    simp only[zY2,zX7];have eL:Rm++[AV.sl false (List.map yE [fm])]=(Td++[[fm]]).map bD:=by rw[zYc,hRm];rfl
    rw[eL];have hLl:=zA bD (Td++[[fm]]);have hLl2:(Td++[[fm]]).length=Td.length+1:=by simp
    have hLv:∀m∈Td++[[fm]],m.length<=1002/\∀y∈m,SW y:=λm hm=>(zYl.1 hm).elim (hMv m) λhm=>by
     rw[zYz.1 hm];exact⟨by simp,λy hy=>by rw[zYz.1 hy];exact hMf⟩
    have hLs:∀(k:Nat) (m:List Ms),(Td++[[fm]])[k]? =some m->(k<Sm.length/\Sm[k]? =some (zD yA (dL m)))∨(k=Sm.length/\m=[fm]):=λk m hm=>by
     by_cases hk:k<Td.length
     ·rw[zYw hk]at hm;exact .inl ⟨zB,by rw[<-hSm,zX4,zX4,hm];rfl⟩
     ·rw[zYs zB]at hm
      have hk0:k-Td.length=0:=by
       rcases Nat.eq_zero_or_pos (k-Td.length)with h|h
       ·exact h
       ·rw[zYt wQ]at hm;cases hm
      rw[hk0]at hm;cases hm;exact .inr ⟨zB,rfl⟩
    clear eL hRm hSm hMv;generalize Td++[[fm]]=L at *;refine zY (L) [5,8,9] [5,8,9] [5,8,9,37,38,39,94,95] [96,5,8,9,37,38,39,94,95] rfl (λi pre T U=>⟨(96,iA i)::T,U⟩) ?_;(conv=>whnf);refine⟨by rfl,?_,?_⟩
    ·intro i3 pre m post hx3 hi3;have hy3:=yI bD hx3 hi3;have hlt3:=yB hx3 hi3;obtain⟨v1,v2⟩:=hLv m (xX hx3);have hm3:=hLs i3 m (by rw[hx3,<-hi3];simp);have hml:=zA yE m;have hbl:=RM v2;have hbl2:=zA yA (dL m);have he:=xL (dL m);clear hx3;refine WW ?_;refine xC 20 1043 1 rfl rfl rfl ?_;refine zY (m) [1043,5,8,9] [5,8,9] [5,8,9,18,37,38,39,94,95,96,101,102] [20,103,5,8,9,18,37,38,39,94,95,96,101,102] rfl (λi pre T U=>⟨(20,.ref 1043 0 ((dL pre).map yA).length)::(103,iA i)::T,(1043,.arr 1 ((dL pre).map yA) true)::U⟩) ?_;(conv=>whnf);refine⟨by rfl,?_,?_⟩
     ·intro i4 pre x post hx hi;have hy:=yI yE hx hi;have hlt:=yB hx hi;obtain⟨⟨c1,_⟩,c2⟩:=GQ x (v2 x (xX hx));have hpl:=RM (l:=pre) λm hm=>v2 m (by rw[hx];simp[hm])
      have hpm:=zA yA (dL pre);have hbm:=zA yA (GC x);rw[GR,zYc];clear hx;generalize dL pre=X at *;generalize GC x=Y at *;unfold yE at *;refine zU c2 ?_;rfl
     ·rcases hm3 with⟨q1,q2⟩|⟨q1,q2⟩
      ·refine uC [5,8,9] [20,103,5,8,9,18,37,38,39,94,95,96,101,102] rfl ?_
       (conv=>whnf)
       simp only[zY2,zX7];unfold zD at q2;generalize dL m=X at *;refine WW ?_
       all_goals (first|rfl|(exfalso;first|(simp[xL]at hc;done)|(revert hc;simp[xL];done)))
      ·subst q2;refine uC [5,8,9] [20,103,5,8,9,18,37,38,39,94,95,96,101,102] rfl ?_
       (conv=>whnf)
       simp only[zY2,zX7];generalize dL [fm]=X at *;refine WW ?_
       all_goals (first|rfl|(exfalso;first|(simp[xL]at hc;done)|(revert hc;simp[xL];done)))
    ·(refine WW ?_)
     rfl
 ·(refine zU ka ?_)
  exact zJ
end Av
end Go.Proofs.YtmamjhmoegjapaaGreat
