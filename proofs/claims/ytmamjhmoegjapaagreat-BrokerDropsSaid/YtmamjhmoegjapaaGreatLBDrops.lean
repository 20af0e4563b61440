/- law28: BrokerDrops. -/
import Derived.Test.YtmamjhmoegjapaaGreatP32
namespace Go.Proofs.YtmamjhmoegjapaaGreat
namespace Av
set_option linter.unusedSimpArgs false
set_option linter.unusedVariables false
set_option maxRecDepth 4000
set_option maxHeartbeats 8000000
theorem bdrops_c (l1:List Int) (h1:l1.length<=9223372036854775807) (se:Int):zN 3 [zD iA l1,iA se] [] (bA true) []:=by
 have kf:=zCa l1 h1;have ka:=UR;have hm1:=zA iA l1
 cases hf:decide (l1.length<=300)<;>rw[hf]at kf
 ·(refine eM Tryz.call3 λF hF=>?_)
  refine LO (wZ kf ka) ?_;exact zJ
 have kn1:=OF l1 h1;have kc:=cQ ⟨l1,0,zYe _,h1⟩ 63;have hv:=MV ⟨l1,0,zYe _,h1⟩ 63 zB;generalize XU ⟨l1,0,zYe _,h1⟩ 63=c at *;generalize cfD ⟨l1,0,zYe _,h1⟩ 63=e0 at *;obtain⟨l,d',hl,ks⟩:=YO c hv.w hv.ag false e0;have kb:=RK c hv;have hb:=VA c hv;have h0:(wS c).y.now=0:=rfl;have hlm:=zA vU l;unfold wP at *;unfold kG cN at kb;refine eM Tryz.call3 λF hF=>?_
 refine LO (zt5 kf kn1 kc kb ks) ?_;refine zY (l) [7] [] [1,7,36,37] [38,1,7,36,37] rfl (λi pre T U=>⟨(38,iA i)::T,(7,.box [zD wH (uI (wS c) pre).y.c.js,zD vC (uI (wS c) pre).y.c.ags,iA (uI (wS c) pre).y.c.per,iA (uI (wS c) pre).y.c.cap,iA (uI (wS c) pre).y.c.hold,iA (uI (wS c) pre).y.c.lock,bA false,iA (uI (wS c) pre).y.now,zD zK (uI (wS c) pre).y.ds,zD wV (uI (wS c) pre).y.sg,zD wT (uI (wS c) pre).y.sv,zD iA (uI (wS c) pre).y.st,zD vM (uI (wS c) pre).y.vw,zD kJ (uI (wS c) pre).ss])::U⟩) ?_;(conv=>whnf);refine⟨by rfl,?_,?_⟩
 ·intro i pre x post hx hi;have hy:=yI vU hx hi;have hlt:=yB hx hi;have hpm:∀e∈pre,cB e:=λe h=>hl.2 e zCu
  have hpl:pre.length<=l.length:=by rw[hx];simp
  have hxe:=hl.2 x OX;have hl1:=hl.1;obtain⟨p1,p2,p3,p4,p5⟩:=TU pre hb hpm LU;have D:=jH p1 zB hxe;have kd:=D.k;have e1:uI (wS c) (pre++[x])=(dM (uI (wS c) pre) x).b:=dV _ _ _;rw[e1];clear D e1 hx hpm;unfold kG cN vU GD at kd;unfold vU at hy;generalize dM (uI (wS c) pre) x=r at *;generalize uI (wS c) pre=b0 at *;obtain⟨rb,S,f,fl⟩:=r;dsimp only at *;refine zU kd ?_;rfl
 ·have hl1:=hl.1;obtain⟨p1,p2,p3,p4,p5⟩:=TU l hb hl.2 LU;generalize uI (wS c) l=b at *;obtain⟨N,hN,hN8⟩:=XF b p1;have hsb:=qS p1.y.v.ag b.y.c.ags.length (zX6 _);have ha1:=p1.y.v.a.1;have hbl:=p1.l;have hsl:=zA kJ b.ss;have km:=DO se (((b.ss.map kJ).length:Nat):Int) zB zB;have m1:=yBd se (show(((b.ss.map kJ).length:Nat):Int)≠0 by omega);have m2:=yA2 se (show(0:Int)<(((b.ss.map kJ).length:Nat):Int) by omega);generalize se % (((b.ss.map kJ).length:Nat):Int)=s0 at *;obtain⟨s,rfl⟩:∃s:Nat,s0=(s:Int):=⟨s0.toNat,zB⟩;obtain⟨b1,b2,b3,b4,b5,S3,S5,f3,f5,n,q,k1,k2,k3,k4,k5,t1,t2,t3,t4,t5,t6,t7⟩:=zLd b p1 zB s zB;have hS3:=zA (zD yA) S3;have hS5:=zA (zD yA) S5
  have hy3:(S3.map (zD yA))[s]? =some (.sl false []):=by
   have h:=zM (zD yA) S3 s zB;rw[show S3.getD s default=[]from t3]at h;exact h
  have hy5:(S5.map (zD yA))[s]? =some (.sl false (yA 90::yA 165::yA 1::yA 17::yA 0::yA (n:Int)::q.map yA)):=by
   have h:=zM (zD yA) S5 s zB;rw[show S5.getD s default=_ from t4]at h;exact h
  have hQ:=zA yA q;clear p1 p2 p3 p4 p5 hv hb t3 t4;rw[show GD [] []= .agg [.sl false [],.sl false []]from rfl]at k1 k2 k4;rw[show GD S3 f3= .agg [.sl false (S3.map (zD yA)),zD yA f3]from rfl]at k3;rw[show GD S5 f5= .agg [.sl false (S5.map (zD yA)),zD yA f5]from rfl]at k5;generalize S3.map (zD yA)=X3 at *;generalize S5.map (zD yA)=X5 at *;generalize q.map yA=Q at *;have hz:(yA 90::yA 165::yA 1::yA 17::yA 0::yA (n:Int)::Q).length=n+10:=by simp only[zYd];omega
  unfold kG cN vU at k1 k2 k3 k4 k5;unfold evD evY evU XG at *;dsimp only at k1 k2 k3 k4 k5;refine LO (zt7 km k1 k2 k3 k4 k5 ka) ?_
  trace_state
  exact zJ
end Av
end Go.Proofs.YtmamjhmoegjapaaGreat
