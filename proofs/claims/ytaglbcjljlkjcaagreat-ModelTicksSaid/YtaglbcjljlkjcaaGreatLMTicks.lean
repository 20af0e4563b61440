/- law27: ModelTicks. -/
import Derived.Test.YtaglbcjljlkjcaaGreatT32
namespace Go.Proofs.YtaglbcjljlkjcaaGreat.Av
set_option linter.all false
set_option maxRecDepth 4000
set_option maxHeartbeats 8000000
theorem mticks_c (Y:List Int) (h1:Y.length<=9223372036854775807) (n:Int) (hn:(Lit.int .i64 n).wf=true):zM 3 [zE iA Y,iA n] [] (bA true) []:=by
 have a1:bI .i64 (n.tdiv 5):=by
  unfold Lit.wf at hn;rw[zBe,zBb,zBb]at hn;have e1:IntKind.i64.min= -9223372036854775808:=by decide
  have e2:IntKind.i64.max=9223372036854775807:=by decide
  unfold bI
  have h2:n.tdiv 5=if 0<=n then n/5 else -(-n/5):=by
   split
   .exact zC2 zB
   .rw[<-zC2 (show 0<= -n by omega),Int.neg_tdiv,Int.neg_neg]
  rw[h2];dsimp only
  split<;>omega
 have kn:=H7 Y h1;have ka:=Dg;obtain⟨b,e0,P,kp⟩:=Ai 63 zB ⟨Y,0,zBn _,h1⟩;have hP:kz 160 b.y:=⟨P.i.y,P.u,P.n⟩;have m5:=JY n 5 zB zB;have a2:=P.i.y.rf;clear P;obtain⟨y0,ss⟩:=b;dsimp only at *;unfold VW Ba at kp;dsimp only at kp;generalize (⟨Y,0,zBn _,h1⟩:Dk)=au at *;refine eM Tryz.call3 λF hF=>?_
 refine yH (xU kn kp) ?_;refine yV (4) [6,1000] [] [1,5,6] [18,1,5,6] Z (λi T U zs=>∃(y:Cy) (e:Dk),(kz (160+i) y)/\zs=⟨(18,iA i)::T,(6,.box [zE wK y.c.js,zE uK y.c.ags,iA y.c.per,iA y.c.cap,iA y.c.hold,iA y.c.lock,bA false,iA y.f3,zE zN y.ds,zE wZ y.sg,zE wU y.sv,zE iA y.st,zE vO y.vw])::(1000,fI e)::U⟩) (Lp ?_ ?_ ?_)
 .exact⟨y0,e0,hP,rfl⟩
 .rintro i st hi ⟨y,e,hC,rfl⟩;obtain⟨B,e1,⟨az,G⟩,ki⟩:=zj y hC.i.v e;have ar:=zA uT B;have ax:=qS hC.i.v.ag y.c.ags.length (zBa _);have av:=hC.i.v.a;have m6:=JY (n.tdiv 5) (((B.map uT).length:Int)+1) zB zB;have q0:=zD6 (n.tdiv 5) (show((B.map uT).length:Int)+1≠0 by omega);have q1:=zDp (n.tdiv 5) (show(0:Int)<((B.map uT).length:Int)+1 by omega);generalize n.tdiv 5 % (((B.map uT).length:Int)+1)=q at*
  obtain⟨A,h2⟩:∃l,l=if n % 5=(i:Int)then B.take q.toNat else B:=⟨_,rfl⟩
  have E:(A.length:Int)<=jE y.c.ags y.c.ags.length:=by
   rw[h2];split
   .rw[zBt];omega
   .omega
  have O:∀i∈A,DL i:=λx hx=>by
   rw[h2]at hx;split at hx
   .exact G x (zCz hx)
   .exact G x hx
  have C:y.f3<1000000000:=by have:=hC.n;omega
  have R:=Px hC.i C O;have W:=Zz (Ye y hC.i C A E (Aa y A) R (λi=>(eP ..).1) (λi=>(eP ..).2));have V:=Da y hC.i hC.u C A E (Aa y A) R (λi=>(eP ..).1) (λi=>(eP ..).2);have hT:=Yz hC.i C R;have ac:=YP hC.i.v.ag (zb (kG y (Aa y A)) A (Aa y A) y.ds.length) _ (zBa _);have M:=hC.tk R;have ap:=hC.i.rf;clear R hC E O G;generalize SP y.c (zb (kG y (Aa y A)) A (Aa y A) y.ds.length) y.c.ags.length=T at *;generalize kG y (Aa y A)=z at *;generalize QL (y.f3+1) z.vw=fm at *;have I:=ae T fm zB hT.2 hT.1;have ks:=vx z M.i.b M.i.rf;have n4:=yS e1 4 zB zB;have w4:=yQ e1 4 zB;have n2:=yS (ad e1) 2 zB zB;have n8:=yS (ad (ad e1)) 8 zB zB;have L:=Ia z M.i (nx (ad e1) 2) (nx (ad (ad e1)) 8);have S:=M.st (nx (ad e1) 2) (nx (ad (ad e1)) 8);generalize YN z (nx (ad e1) 2) (nx (ad (ad e1)) 8)=z2 at *;unfold Ox at W V I;rw[bJ ap]at ki W V;rw[bJ M.i.rf]at W V ks L;rw[bJ S.i.rf]at L;clear hT ac
  (repeat' (first|refine AF ?_|apply yW|apply xG|intro hc|(apply zG;first|refine SM ?_)|fail))
  refine yR Z ?_
  (repeat' (first|refine AF ?_|apply yW|apply xG|intro hc|(apply zG;first|refine SM ?_)|fail))
  apply xB
  (have ga:=ki;have ge:=m5;(repeat' (first|refine AF ?_|apply yW|apply xG|intro hc|(apply zG;first|refine SM ?_)|fail))<;>clear ga ge)
  refine gY [6,1000] [1,5,6,7,8,18] ⟨[(1,iA n),(5,.ptr 1000 0 0),(6,.ptr 6 0 0),(7,iA i),(8,zE uT A),(18,iA i)],[(6,.box [zE wK y.c.js,zE uK y.c.ags,iA y.c.per,iA y.c.cap,iA y.c.hold,iA y.c.lock,bA false,iA y.f3,zE zN y.ds,zE wZ y.sg,zE wU y.sv,zE iA y.st,zE vO y.vw]),(1000,fI e1)]⟩ rfl ?_ ?_
  .by_cases hq:n % 5=(i:Int)
   .rw[show vW BinOp.eql (n % 5) (i:Int)=true by simp[vW,hq],h2,zA4 hq];refine zU m6 ?_;exact⟨rfl,rfl⟩
   .rw[show vW BinOp.eql (n % 5) (i:Int)=false by simp[vW,hq],h2,Os hq];refine WW ?_;exact⟨rfl,rfl⟩
  .clear h2 ki m5 m6;by_cases h3:nx e1 4=3
   .rw[h3]at n4;refine yH (tu W V ks I n4 n2 n8 L) ?_;exact⟨z2,_,S,rfl⟩
   ·(refine yH (PZ W V ks I n4) ?_)
    exact⟨z,_,M,rfl⟩
 .rintro st ⟨y,e,_,rfl⟩;exact mx ka
