/- law28: BrokerPieces. -/
import Derived.Test.YtmamjhmoegjapaaGreatP31
import Derived.Test.YtmamjhmoegjapaaGreatP32
namespace Go.Proofs.YtmamjhmoegjapaaGreat
namespace Av
set_option linter.unusedSimpArgs false
set_option linter.unusedVariables false
set_option maxRecDepth 4000
set_option maxHeartbeats 8000000
theorem pieces_c (l1 l2:List Int) (h1:l1.length<=9223372036854775807) (h2:l2.length<=9223372036854775807):zN 5 [zD iA l1,zD iA l2] [] (bA true) []:=by
 have kf:=zCa l1 h1;have ka:=UR;have hm1:=zA iA l1;have hm2:=zA iA l2
 cases hf:decide (l1.length<=300)<;>rw[hf]at kf
 ·(refine eM Tryz.call5 λF hF=>?_)
  refine LO (wZ kf ka) ?_;exact zJ
 by_cases h60:60<l2.length
 ·(refine eM Tryz.call5 λF hF=>?_)
  refine LO (wZ kf ka) ?_;exact zJ
 have kn1:=OF l1 h1;have kn2:=OF l2 h2;have kc:=cQ ⟨l1,0,zYe _,h1⟩ 63;have hv:=MV ⟨l1,0,zYe _,h1⟩ 63 zB;generalize XU ⟨l1,0,zYe _,h1⟩ 63=c at *;generalize cfD ⟨l1,0,zYe _,h1⟩ 63=e0 at *;obtain⟨l,d',hl,ks⟩:=YO c hv.w hv.ag false e0;unfold wP at *;refine eM Tryz.call5 λF hF=>?_
 refine LO (aB kf kn1 kc ks) ?_;refine jG [6] [4,6,7,8,29] rfl ?_
 (conv=>whnf)
 refine WLo kn2 ?_;have hlm:=zA vU l;refine xC 8 1041 5 rfl rfl rfl ?_;refine qM (l) [1000,1041,6] [6] [6,7,9,31,32] [8,33,6,7,9,31,32] rfl (λi pre T U zs=>∃(m:List Ev) (d:Dk),((∀e∈m,cB e)/\m.length+rem d<=pre.length+60/\rem d<=60/\uI (wS c) m=uI (wS c) pre/\ZR (wS c) m=ZR (wS c) pre)/\zs=⟨(8,.ref 1041 0 (m.map vU).length)::(33,iA i)::T,(1000,dU d)::(1041,.arr 5 (m.map vU) true)::U⟩) ?_;(conv=>whnf);refine⟨?_,?_,?_⟩
 ·exact⟨[],_,⟨(λe h=>by cases h),by show 0+(l2.length-0)<=0+60;omega,by show l2.length-0<=60;omega,rfl,rfl⟩,rfl⟩
 ·rintro i pre x post st hx hi ⟨m,d,⟨i1,i2,i3,i4,i5⟩,rfl⟩;have hy:=yI vU hx hi;have hlt:=yB hx hi;have hxe:cB x:=hl.2 x OX;have hpl:pre.length<=l.length:=by rw[hx];simp
  have hl1:=hl.1;have P0:=PcR.init hxe i1 i4 i5;have hml:=zA vU m;clear i4 i5 i1;refine WW ?_;refine fF (rem d+1) [11,1000,1041,6] [6] [6,7,9,11,31,32,33] [8,6,7,9,11,31,32,33] rfl (λzn T U zs=>∃(m':List Ev) (r:List Int) (d':Dk),(PcR c pre x m' r/\m'.length+rem d'<=pre.length+60/\rem d'<=60/\zn=rem d'+1)/\zs=⟨(8,.ref 1041 0 (m'.map vU).length)::T,(11,.box [iA x.k,iA x.s,iA x.a,iA x.b,zD yA r])::(1000,dU d')::(1041,.arr 5 (m'.map vU) true)::U⟩) ?_;(conv=>whnf);refine⟨?_,?_⟩
  ·exact⟨m,x.y,d,⟨P0,i2,i3,rfl⟩,rfl⟩
  rintro zn st ⟨m',r,d',⟨P,j2,j3,rfl⟩,rfl⟩;have kl:=AU d';have hrl:=zA yA r;have hml':=zA vU m';have p1:=P.pl;have xn:=hxe.n;have fin:∀e∈m'++[⟨x.k,x.s,x.a,x.b,r⟩],cB e:=λe he=>(zYl.1 he).elim (P.pm e) λhe=>by rw[zYz.1 he];exact KW hxe.k hxe.s hxe.a hxe.b P.pr zB
  have fl:(m'++[⟨x.k,x.s,x.a,x.b,r⟩]:List Ev).length=m'.length+1:=by simp
  have fp:(pre++[x]).length=pre.length+1:=by simp
  by_cases hk:x.k=3
  case neg=>
   refine zU kl ?_;exact⟨_,d',⟨fin,zB,j3,P.pb,P.ps⟩,by rw[fH];rfl⟩
  by_cases h1r:1<r.length
  case neg=>
   refine zU kl ?_;exact⟨_,d',⟨fin,zB,j3,P.pb,P.ps⟩,by rw[fH];rfl⟩
  by_cases hd:d'.a<d'.l.length
  case neg=>
   rw[zYa hd]at kl;refine zU kl ?_;exact⟨_,d',⟨fin,zB,j3,P.pb,P.ps⟩,by rw[fH];rfl⟩
  rw[zX8 hd]at kl;have kx:=yH d' (((r.map yA).length:Nat):Int) zB zB;have hb:=yF d' (((r.map yA).length:Nat):Int) zB;have hrem:=zI1 d' hd;generalize nx d' (((r.map yA).length:Nat):Int)=n0 at *;generalize hd2:ad d'=d2 at *;by_cases he:1+n0=(((r.map yA).length:Nat):Int)
  ·(refine yQ (wZ kl kx) ?_)
   exact⟨_,d2,⟨fin,zB,zB,P.pb,P.ps⟩,by rw[fH];rfl⟩
  ·(refine yQ (wZ kl kx) ?_)
   have hr:(1+n0).toNat<r.length:=by omega
   exact⟨rem d2+1,zB,m'++[⟨3,x.s,0,0,r.take (1+n0).toNat⟩],r.drop (1+n0).toNat,d2,⟨P.cut hv hxe hk _ hr zB,by simp only[zX3,yAg];omega,zB,rfl⟩,by rw[fH];rfl⟩
 ·rintro st ⟨m,d,⟨i1,i2,i3,i4,i5⟩,rfl⟩;have hl1:=hl.1;have r1:=zBb c hv m zB i1;have r2:=zBb c hv l zB hl.2;rw[zYb zB,i5]at r1;rw[zYb zB]at r2;have hS:=zP4 l (VA c hv) hl.2 (by show(0:Int)+_<_;omega);have hZ:=(TU l (VA c hv) hl.2 (by show(0:Int)+_<_;omega)).2.2.2.2;have kz:=zLj (ZR (wS c) l) zB hS;clear i4 i5 hS;generalize ZR (wS c) l=Z at *;refine uC [6] [4,6,7,8,31,32,33] rfl ?_
  (conv=>whnf)
  simp only[zY2,zX7];unfold wP at r1 r2;refine LO (aB r1 r2 kz ka) ?_;exact zJ
end Av
end Go.Proofs.YtmamjhmoegjapaaGreat
