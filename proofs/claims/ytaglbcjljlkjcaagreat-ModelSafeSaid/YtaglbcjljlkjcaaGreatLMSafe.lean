/- law27: ModelSafe. -/
import Derived.Test.YtaglbcjljlkjcaaGreatU32
namespace Go.Proofs.YtaglbcjljlkjcaaGreat.Av
set_option linter.all false
set_option maxRecDepth 4000
set_option maxHeartbeats 8000000
theorem msafe_c (O:List Int) (h1:O.length<=9223372036854775807):zN 6 [zE iA O] [] (bA true) []:=by
 have kf:=N7 O h1;have ka:=Kg;have b2:=zA iA O
 cases hf:decide (O.length<=300)<;>rw[hf]at kf
 ·(refine eM Tryz.call6 λF hF=>?_)
  exact ng (xQ kf ka)
 have kn:=s7 O h1;obtain⟨b,e0,P,kp⟩:=Ji 63 zB ⟨O,0,zBb _,h1⟩;have hP:Gw 160 b.y:=⟨P.i.y,P.u,P.n⟩;clear P;obtain⟨y0,ss⟩:=b;dsimp only at *;unfold VT La at kp;dsimp only at kp;generalize (⟨O,0,zBb _,h1⟩:Dk)=ba at *;refine eM Tryz.call6 λF hF=>?_
 refine yF (qC kf kn kp) ?_;clear kf kn kp hf;refine jQ (26) [4,1000] [] [3,4] [5,3,4] Z (λzn T U zs=>∃(i:Nat) (y:Cy) (e:Dk),(zn+i=26/\i<=25/\Gw (160+i) y)/\zs=⟨(5,iA i)::T,(4,.box [zE wD y.c.js,zE uF y.c.ags,iA y.c.per,iA y.c.cap,iA y.c.hold,iA y.c.lock,bA false,iA y.f4,zE zM y.ds,zE wU y.sg,zE wP y.sv,zE iA y.st,zE vG y.vw])::(1000,fF e)::U⟩) ?_;(conv=>whnf);refine⟨?_,?_⟩
 .exact⟨0,y0,e0,⟨rfl,zB,hP⟩,rfl⟩
 clear hP;rintro zn st ⟨i,y,e,⟨hz,hi,hC⟩,rfl⟩;have M:=Md e;have a2:=hC.i.rf;by_cases bb:i<25
 case neg=>
  exact ng (xQ M ka)
 by_cases V:i<5\/e.a<e.l.length
 case neg=>
  rw[zAu (λh=>V (.inr h))]at M;exact ng (xQ M ka)
 apply xX;refine gB [4,1000] [3,4,5,34] ⟨[(3,.ptr 1000 0 0),(4,.ptr 4 0 0),(5,iA i),(34,bA true)],[(4,.box [zE wD y.c.js,zE uF y.c.ags,iA y.c.per,iA y.c.cap,iA y.c.hold,iA y.c.lock,bA false,iA y.f4,zE zM y.ds,zE wU y.sg,zE wP y.sv,zE iA y.st,zE vG y.vw]),(1000,fF e)]⟩ rfl ?_ ?_
 .by_cases hl:e.a<e.l.length
  .rw[zAw hl]at M;refine zS M ?_;exact⟨rfl,rfl⟩
  .rw[zAu hl]at M;have h5:i<5:=V.resolve_right hl;refine zS M ?_;exact⟨rfl,rfl⟩
 clear M V;have n3:=yR e 3 zB zB;have w3:=yQ e 3 zB;have n2:=yR (ad e) 2 zB zB;have n8:=yR (ad (ad e)) 8 zB zB
 obtain⟨A,e1,B,hs⟩:∃(A:Cy) (e1:Dk),Gw (160+i) A/\((nx e 3=2/\e1=ad (ad (ad e))/\zN 27 [qA y,iA (nx (ad e) 2),iA (nx (ad (ad e)) 8)] [] (qA A) [])\/(nx e 3≠2/\e1=ad e/\A=y)):=by
  by_cases h:nx e 3=2
  .obtain⟨A,_,rfl,k⟩:=Ai y hC.i (nx (ad e) 2) (nx (ad (ad e)) 8);exact⟨_,_,hC.st _ _,.inl ⟨h,rfl,k⟩⟩
  .exact⟨y,_,hC,.inr ⟨h,rfl,rfl⟩⟩
 have L:=B.i.rf
 (repeat' (first|refine ub ?_|apply yW|apply xH|intro hc|(apply zG;first|refine SM ?_)|fail))
 apply xB
 (have gd:=n3;(repeat' (first|refine ub ?_|apply yW|apply xH|intro hc|(apply zG;first|refine SM ?_)|fail))<;>clear gd)
 refine gB [4,1000] [3,4,5] ⟨[(3,.ptr 1000 0 0),(4,.ptr 4 0 0),(5,iA i)],[(4,.box [zE wD A.c.js,zE uF A.c.ags,iA A.c.per,iA A.c.cap,iA A.c.hold,iA A.c.lock,bA false,iA A.f4,zE zM A.ds,zE wU A.sg,zE wP A.sv,zE iA A.st,zE vG A.vw]),(1000,fF e1)]⟩ rfl ?_ ?_
 .rcases hs with⟨h,rfl,k⟩|⟨h,rfl,rfl⟩
  .rw[cN a2,cN L]at k;rw[show uB BinOp.eql (nx e 3) 2=true by simp[uB,h]];refine yF (qC n2 n8 k) ?_;exact⟨rfl,rfl⟩
  .rw[show uB BinOp.eql (nx e 3) 2=false by simp[uB,h]];refine WW ?_;exact⟨rfl,rfl⟩
 clear hs n3 n2 n8 w3 hC a2;obtain⟨E,e2,⟨a4,au⟩,ki⟩:=Ii A B.i.v e1;have av:A.f4<1000000000:=by have:=B.n;omega
 have hR:=rx B.i av au;have kt:=wz (ee A B.i av E zB (Ka A E) hR (λi=>(bH ..).1) (λi=>(bH ..).2));have S:=B.tk hR;have hg:=OP B.i.v (sv:=A.sv) (f4:=A.f4) (eO (Ka A E) A.ds.length) A.sg B.i.gl B.i.j;have W:=λ(k:Nat) (hk:k<A.c.js.length)=>R8 (R:=Ka A E) B.i.sl hg.1 hk
 have ac:(qW A (Ka A E)).c=A.c:=rfl;clear hR hg au a4;generalize SI A.c (Xb (qW A (Ka A E)) E (Ka A E) A.ds.length) A.c.ags.length=T at *;generalize qW A (Ka A E)=z at *;generalize QI (A.f4+1) z.vw=fm at *;have a9:=S.i.rf;unfold Y6 at kt;rw[cN L]at ki kt;rw[cN a9]at kt;have a6:=zA vG z.vw;have bf:=zA wU z.sg;have b4:=zA wP z.sv;have br:=zA wD A.c.js;have az:=S.i.wl;have ar:=S.i.gl;have ax:=S.i.sl;have bk:=B.i.v.j;rw[ac]at az ar ax;refine yF (xQ ki kt) ?_;clear ki kt;refine zU (z.vw) [4,6,1000] [4,6,1000] [3,4,5,6,72,73] [74,3,4,5,6,72,73] Z (λi ga T U=>⟨(74,iA i)::T,U⟩) (Lq ?_ ?_)
 .intro k ga w post hx hk;have Y:=yJ vG hx hk;have b1:=zW hx hk
  have ew:w=XL (A.c.js.getD k default) (z.sg.getD k default) (z.sv.getD k default):=by
   rw[<-W k zB,hx,<-hk];simp
  have a7:=zJ wD A.c.js k zB;have a1:=zJ wU z.sg k zB;have b5:=zJ wP z.sv k zB;have J:=B.i.v.jv _ (yK A.c.js k zB);have C:=(S.i.j k (by rw[ac];omega)).c;rw[ac]at C;generalize A.c.js.getD k default=j,z.sg.getD k default=s,z.sv.getD k default=v at *;clear hx W B S;subst ew;obtain⟨f1,f2,f3⟩:=S8 (j:=j) (s:=s) (v:=v);have I:=Z5 J C;have bu:=J.n;have bl:=J.c;have bd:=C.n;have kr:=Mj j J s C v
  have ks:=Gq [XL j s v] zV (λw hw=>by
   rw[zBm.1 hw];have:=uk j J s v;have h1:=this.n;have h2:=this.m
   omega)
  have a5:=ZY (λp=>SH s p != 0) j.ph.length zB;have b3:=F0 (n:=j.ph.length) zB;have bx:=zA iA j.cf;have b0:=zA xN j.ph;have bz:=zA xE s.c.li;have ap:=ym j.cf zB (kO (λp=>SH s p != 0) j.ph.length) zB I;have h0:s.lat=true->kO (λp=>SH s p != 0) j.ph.length=0:=λh=>Hq (λp=>by unfold SH;rw[zAs h];rfl) _
  clear C I;rw[show zE vG [XL j s v]= .sl false [vG (XL j s v)]from Z]at ks;generalize XL j s v=w at *;obtain⟨wf,wo,ag,b6⟩:=w;dsimp only at f1 f2 f3;subst f1;have a6:=zA iA ag;unfold vG zE at Y kr ks;unfold wD zE at a7 kr;unfold wU at a1 kr;dsimp only at Y kr ks
  cases G:s.lat<;>rw[G]at Y a1 kr ks
  all_goals
   refine WW ?_;refine zO (ag.length) [4,6,9,10,1000] [4,6,9,10,1000] [3,4,5,6,8,9,10,72,73,74,118,119] [11,120,3,4,5,6,8,9,10,72,73,74,118,119] Z (λi T U=>⟨(11,iA (kO (λp=>SH s p != 0) i))::(120,iA i)::T,U⟩) (Lq ?_ ?_)
   .intro p hp;have a8:=zJ iA ag p hp;rw[f3 p zB]at a8;have ho:=Um (λp=>SH s p != 0) p zB
    have eb:kO (λp=>SH s p != 0) (p+1)=if(SH s p != 0)=true then kO (λp=>SH s p != 0) p+p2 p else kO (λp=>SH s p != 0) p:=rfl
    rw[<-ho]at eb;rw[eb];have a3:=zAp s p;clear ho eb f3 kr ks ap h0 a5;generalize kO (λp=>SH s p != 0) p=bs at *;generalize SH s p=d at*
    rcases a3 with rfl|rfl|rfl
    all_goals
     refine WW ?_;rfl
   .have h0:=h0;rw[G]at h0;rw[f2];generalize kO (λp=>SH s p != 0) j.ph.length=bs at*
    first|(obtain rfl:=h0 Z)|clear h0
    refine RH (qC ap kr ks) ?_;rfl
 .clear W B;refine WW ?_;exact⟨zn-1,zB,i+1,z,_,⟨zB,zB,S⟩,rfl⟩
