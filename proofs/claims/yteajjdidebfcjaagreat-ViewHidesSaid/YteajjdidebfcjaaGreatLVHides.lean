/- law29: ViewHides. -/
import Derived.Test.YteajjdidebfcjaaGreatU27
import Derived.Test.YteajjdidebfcjaaGreatU28
namespace Go.Proofs.YteajjdidebfcjaaGreat
namespace Av
set_option linter.all false
set_option maxRecDepth 4000
set_option maxHeartbeats 8000000
theorem hides_c (l1:List Int) (h1:l1.length<=9223372036854775807) (v:Int):zN 6 [zC iA l1,iA v] [] (bA true) []:=by
 have kf:=zXa l1 h1;have ka:=zEy;have hm1:=zA iA l1
 cases hf:decide (l1.length<=300)<;>rw[hf]at kf
 ·(refine eM Tryz.call6 λF hF=>?_)
  refine IZ (wV kf ka) ?_;exact zJ
 have kn1:=zSi l1 h1;have kc:=BQ ⟨l1,0,yAt _,h1⟩ 47;have hv:=zSs ⟨l1,0,yAt _,h1⟩ 47 zB;have hr:=zTc ⟨l1,0,yAt _,h1⟩ 47;generalize QA ⟨l1,0,yAt _,h1⟩ 47=c at *;generalize cfD ⟨l1,0,yAt _,h1⟩ 47=e0 at *;have hr:∀a∈c.ags,peF a.rights 10=false:=λa ha=>by rw[hr a ha];decide
 obtain⟨l,d',hl,ks⟩:=zGz c hv.w hv.ag true e0;obtain⟨hl1,hl2⟩:=hl;have hal:=hv.a;have hagl:=zA wK c.ags;have k1:=DG v (((c.ags.map wK).length:Nat):Int) zB zB;have m1:=yD8 v (show(((c.ags.map wK).length:Nat):Int)≠0 by omega);have m3:=yDw v (show(0:Int)<(((c.ags.map wK).length:Nat):Int) by omega);generalize v % (((c.ags.map wK).length:Nat):Int)=h at *;have ew:(UF c h l).length=l.length:=yAe ..
 have hbw:∀e∈UF c h l,bX e:=λe he=>by
  obtain⟨x,hx,rfl⟩:=yBl.1 he;exact zCs (hl2 x hx)
 have kw:=zE3 c hv.ag h l zB hl2;have kp:=zS7 c hv l zB hl2;have kq:=zS7 c hv (UF c h l) zB hbw;have kv:=GZ c hv l zB hl2;have ku:=GZ c hv (UF c h l) zB hbw;rw[yAo zB]at kp kq kv ku;obtain⟨jpl,jql,jvl,jwl,jvb,jwb,jp,jq,jx,js⟩:=zTd c hv hr h l zB hl2;have hag:=hv.ag;have hlm:=zA vC l;have hwm:=zA vC (UF c h l);generalize UF c h l=lw at *;generalize SP (qO c) l=P at *;generalize SP (qO c) lw=Q at *;generalize UB (qO c) l=V at *;generalize UB (qO c) lw=W at *;obtain⟨s,hs,kS⟩:=zNv V W zB zB jvb jwb;have hPm:=zA sdP P;have hQm:=zA sdP Q;have ko1:=λa ha=>zCe c hag a ha P zB λp hp=>⟨(jp p hp).1,(jp p hp).2 a ha⟩
 have ko2:=λa ha=>zCe c hag a ha Q zB λp hp=>⟨(jq p hp).1,(jq p hp).2 a ha⟩
 unfold wD at *;refine eM Tryz.call6 λF hF=>?_
 refine yQ (zZi kf kn1 kc ks k1 kw kp kq kv ku kS) ?_;clear kf kn1 kc ks k1 kw kp kq kv ku kS jvb jwb jp jq;refine zO ((c.ags.map wK).length) [6] [6] [6,7,10,11,12,55] [56,6,7,10,11,12,55] Z (λi T U=>⟨(56,iA i)::T,U⟩) ?_;(conv=>whnf);refine⟨by rfl,?_,?_⟩
 ·intro a ha;by_cases hh:(a:Int)=h
  ·(refine WW ?_)
   rfl
  have ko1:=ko1 a zB;have ko2:=ko2 a zB;have jx:=jx a zB hh;have hXY:=λh9=>js (hs h9) a zB hh
  have hXl:(AL c a P).length=P.length:=yAe ..;have hYl:(AL c a Q).length=P.length:=(yAe ..).trans jql;generalize AL c a P=X at *;generalize AL c a Q=Y at *;have hXm:=zA (zC (zC yA)) X;have hYm:=zA (zC (zC yA)) Y
  have kB:s=true->zN 23 [zC (zC (zC yA)) X,zC (zC (zC yA)) Y] [] (bA true) []:=λh9=>by
   rw[hXY h9]
   exact zNu X zB (λx hx=>by
    obtain⟨i,hi,e⟩:=yEa.1 hx;have:=(jx i zB).2.1;rw[yAk,yAr hi,yCh,e]at this
    omega)
  clear js hs;have eS:∀X,zC (zC (zC yA)) X= .sl false (X.map (zC (zC yA))):=λ_=>rfl
  rw[eS]at ko1 ko2;rw[eS,eS]at kB;clear eS hXY;cases s
  case' true=>have kB:=kB Z
  case' false=>have kB:=True.intro
  all_goals
   refine yQ (gG ko1 ko2 kB) ?_;clear ko1 ko2 kB;refine zO (X.length) [6] [6] [6,7,10,11,12,14,16,55,56,99] [100,6,7,10,11,12,14,16,55,56,99] Z (λi T U=>⟨(100,iA i)::T,U⟩) ?_;(conv=>whnf);refine⟨by rfl,?_,?_⟩
   ·intro i hi;have hyx:=zM (zC (zC yA)) X i hi;have hyy:=zM (zC (zC yA)) Y i zB;obtain⟨hxl,hx2,hxk⟩:=jx i zB;generalize X.getD i default=x at *;generalize Y.getD i default=y at *;have hxm:=zA (zC yA) x;have hym:=zA (zC yA) y;have eS:∀x,zC (zC yA) x= .sl false (x.map (zC yA)):=λ_=>rfl
    rw[eS]at hyx hyy;clear eS jx;refine WW ?_;refine zO (x.length) [6] [6] [6,7,10,11,12,14,16,18,55,56,99,100,107] [108,6,7,10,11,12,14,16,18,55,56,99,100,107] Z (λi T U=>⟨(108,iA i)::T,U⟩) ?_;(conv=>whnf);refine⟨by rfl,?_,?_⟩
    ·intro k hk;have hzx:=zM (zC yA) x k hk;have hzy:=zM (zC yA) y k zB;obtain⟨L,M,ex,ey,hL,hM,l1,l2,l3,l4⟩:=hxk k hk;generalize x.getD k default=u at *;generalize y.getD k default=w at *;have bL:=aX hL;have bM:=aX hM;have g1:=FV u (by rw[ex];exact WJ hL) (by rw[ex];omega);have g2:=FV w (by rw[ey];exact WJ hM) (by rw[ey];omega);rw[<-l4]at g2;have a1:=zG3 L l1 hL;have a2:=zG3 M zB hM;rw[<-ex]at a1;rw[<-ey]at a2;have hum:=zA yA u;have hwm:=zA yA w;have hLm:=zA (λm=>wI (RA m).1) L;have hMm:=zA (λm=>wI (RA m).1) M;have f2:=qZ (AN u);have eS:∀x,zC yA x= .sl false (x.map yA):=λ_=>rfl
     have eT:∀x,zC (λm=>wI (RA m).1) x= .sl false (x.map λm=>wI (RA m).1):=λ_=>rfl
     rw[eS]at hzx hzy g1 g2 a1 a2;rw[eS]at g1 g2;rw[eT]at a1 a2;clear eS eT hxk ex ey hL hM bL bM l4;generalize AN u=z at *;generalize (L.map λm=>wI (RA m).1)=L' at *;generalize (M.map λm=>wI (RA m).1)=M' at *;refine yQ (ZB g1 g2 a1 a2) ?_
     all_goals (first|rfl|(exfalso;first|(simp[qZ]at hc;done)|(revert hc;simp[qZ];done)))
    ·(refine WW ?_)
     rfl
   ·(refine WW ?_)
    rfl
 ·(refine zV ka ?_)
  exact zJ
end Av
end Go.Proofs.YteajjdidebfcjaaGreat
