/- law27: ModelBegins. -/
import Derived.Test.YtaglbcjljlkjcaaGreatV30
namespace Go.Proofs.YtaglbcjljlkjcaaGreat.Av
set_option linter.all false
set_option maxRecDepth 4000
set_option maxHeartbeats 8000000
variable {y:Cy}
def cC (y:Cy):AV:= .agg [zE xC y.c.js,zE wP y.c.ags,iA y.c.per,iA y.c.cap,iA y.c.hold,iA y.c.lock,bA false,iA y.ga,zE zN y.ds,zE wD y.sg,zE xZ y.sv,zE iA y.st,zE wE y.vw]
def KJ (h:VO y) (a:Int) (d:List Int) (hd:BY d) (u:d.length<=1000000):VO (fA y a d)/\zO 36 [cC y,iA a,zE yA d] [] (cC (fA y a d)) []/\zO 37 [cC y,iA a,zE yA d] [] (cC (fA y a d)) []/\zO 14 [cC (fA y a d),cC (fA y a d)] [] (bA true) []:=by
 obtain⟨z,A,e,k⟩:=Up y h a d hd u;subst e;have B:=Be y h a d u;have C:=OS _ A.b;rw[cG A.rf]at k B C;rw[cG h.rf]at k B;exact⟨A,k,B,C⟩
def fa (h:VO y) (a b:Int):∃z:Cy,zO 27 [cC y,iA a,iA b] [] (cC z) []/\zO 17 [cC y,iA a,iA b] [] (cC z) []/\zO 14 [cC z,cC z] [] (bA true) []:=by
 obtain⟨z,A,e,k⟩:=Xh y h a b;subst e;have u:=AL y h a b;have B:=OS _ A.b;rw[cG A.rf]at k u B;rw[cG h.rf]at k u;exact⟨_,k,u,B⟩
def ui (h:VO y):∃z:Cy,zO 33 [.agg [zE xC y.c.js,zE wP y.c.ags,iA y.c.per,iA y.c.cap,iA y.c.hold,iA y.c.lock]] [] (cC z) []/\zO 34 [.agg [zE xC y.c.js,zE wP y.c.ags,iA y.c.per,iA y.c.cap,iA y.c.hold,iA y.c.lock]] [] (cC z) []/\zO 14 [cC z,cC z] [] (bA true) []:=
 ⟨XD y.c,Ai y.c h.v,IM y.c h.v,OS _ (De y.c h.v).b⟩
def EA (h:VO y) (hN:RT y.ds) (j:Int):∃l:List Cl,l.length<=4000/\zO 38 [cC y,iA j] [] (zE uK l) []/\zO 39 [cC y,iA j] [] (zE uK l) []:=by
 have u:y.ds.length<=4:=by have:=h.dl;have:=h.v.a;omega
 refine⟨uO j y.ds,?_,Pc y j zB (λd hd=>(h.di d hd).bd),Oc y j zB (λd hd=>(h.di d hd).bd) (λd hd r z=>?_) hN⟩
 .have:=bB j y.ds (λd hd=>(h.di d hd).bd.q);omega
 .have:=((h.di d hd).v.ok r z).lg;unfold Gb at this;rw[zAi]at this;exact this.2
theorem by_row {w : World} {a : Option Addr} {len cap : Nat} {zs : List Int}
    (h : (a = none ∧ len = 0 ∧ cap = 0 ∧ zs = []) ∨ ∃ x, a = some x ∧ len ≤ cap ∧ cap ≤ maxLen ∧ zs.length = cap ∧ (∀ i, i < zs.length → w.cell? (x.add i) = some (.int .u8 (zs.getD i 0))) ∧ ∀ n ∈ zs, (Lit.int .u8 n).wf = true) : BY (zs.take len) := by
  rcases h with ⟨rfl, rfl, rfl, rfl⟩ | ⟨x, rfl, _, _, _, _, h5⟩
  · intro y hy; simp at hy
  · intro y hy
    have h6 := h5 y (List.mem_of_mem_take hy)
    unfold Lit.wf at h6
    rw [Bool.and_eq_true, decide_eq_true_eq, decide_eq_true_eq] at h6
    have e1 : IntKind.u8.min = 0 := by decide
    have e2 : IntKind.u8.max = 255 := by decide
    omega
theorem mbegins_c (I:Cf) (R:F9 I) (l1:List Int) (h1:l1.length<=9223372036854775807) (Y G:Int) (A:List Int) (hn:A.length<=9223372036854775807) (ar:BY A):zO 7 [vL I,zE iA l1,iA Y,iA G,zE yA A] [] (bA true) []:=by
 have ka:=df;have W:=Fv I R;have kh:=Gs A hn;by_cases hR:iq I
 case neg=>
  rw[vC hR]at W;unfold vL at *;refine eM Tryz.call7 λF hF=>?_
  exact ng (xH W ka)
 rw[LE hR]at W;by_cases hS:A.length<=600
 case neg=>
  rw[zAb hS]at kh;unfold vL at *;refine eM Tryz.call7 λF hF=>?_
  exact ng (qS W kh ka)
 rw[zAc hS]at kh;obtain⟨y9,b9,n1,n2⟩:=Jp I hR;have n3:=OS y9 b9;unfold vN eJ at n1 n2 n3;have kn:=U6 l1 h1;obtain⟨b,e0,P,kp⟩:=rh 63 zB ⟨l1,0,zAn _,h1⟩;have hC:VO b.y:=P.i.y;have hN:RT b.y.ds:=P.u;clear P;obtain⟨y,ss⟩:=b;dsimp only at *;unfold VM AI at kp;dsimp only at kp;generalize (⟨l1,0,zAn _,h1⟩:Dk)=av at *;have m1:=JZ Y 5 zB zB;have m2:=JZ G 10 zB zB;have q1:=zCx Y (show(5:Int)≠0 by omega);have q2:=zCq Y (show(0:Int)<5 by omega);have q3:=zCx G (show(10:Int)≠0 by omega);have q4:=zCq G (show(0:Int)<10 by omega);have sc:=fO G;have sb:BY (eV G):=UX G;have sl:=jT G;generalize eV G=X at *;have a4:=hC.rf;unfold vL at *;clear hR hn h1 R b9;refine eM Tryz.call7 λF hF=>?_
 refine OJ (zt9 W kh n1 n2 n3 kn kp m1 m2) ?_
 obtain⟨PL,M,az,S⟩:∃P:List AV,P=[.agg [.s (.int .i64 Y),.s (.int .i64 G)],.agg [.s (.int .i64 (Y % 5-1)),.s (.int .i64 (G % 10-1))]]/\P.length=2/\∀i,i<2->∃a b:Int,P[i]? =some (.agg [iA a,iA b]):=by
  refine⟨_,rfl,rfl,λi hi=>?_⟩
  rcases(by omega:i=0\/i=1)with rfl|rfl
  all_goals exact⟨_,_,rfl⟩
 refine zM (2) [12,1000] [12,1000] [3,4,12,54,55] [56,3,4,12,54,55] Z (λi T U=>⟨(56,iA i)::T,U⟩) (Lq ?_ ?_)
 .intro i hi;rw[<-M];obtain⟨a9,b9,hy⟩:=S i hi;clear S M;obtain⟨z,B,C,E⟩:=fa hC a9 b9;obtain⟨L,hL,c1,c2⟩:=EA hC hN a9;have ax:=zA uK L;unfold cC at B C E c1 c2;clear n1 n2 n3 kn kp W kh ka m1 m2;refine OJ (cX B C E sc) ?_
  obtain⟨QL,O,a1,V⟩:∃Q:List AV,Q=[.sl false (A.map yA),.sl false (X.map yA)]/\Q.length=2/\∀i,i<2->∃d:List Int,BY d/\d.length<=1000000/\Q[i]? =some (.sl false (d.map yA)):=by
   refine⟨_,rfl,rfl,λi hi=>?_⟩
   rcases(by omega:i=0\/i=1)with rfl|rfl
   .exact⟨_,ar,zB,rfl⟩
   .exact⟨_,sb,zB,rfl⟩
  clear B C E;refine zM (2) [12,14,1000] [12,14,1000] [3,4,12,14,54,55,56,77,78] [79,3,4,12,14,54,55,56,77,78] Z (λi T U=>⟨(79,iA i)::T,U⟩) (Lq ?_ ?_)
  .intro k hk;rw[<-O];obtain⟨d9,hd,au,ap⟩:=V k hk;obtain⟨ac,B,C,E⟩:=KJ hC a9 d9 hd au;generalize fA y a9 d9=y1 at *;have a2:=zA yA d9;unfold cC zE at *;clear V O c1 c2;refine yB (qS B C E) ?_;rfl
  .clear V;rw[<-O];clear O;refine yB (xH c1 c2) ?_;refine zU (L) [12,14,1000] [12,14,1000] [3,4,12,19,20,54,55,56,112] [113,3,4,12,19,20,54,55,56,112] Z (λi gd T U=>⟨(113,iA i)::T,U⟩) (Lq ?_ ?_)
   .intro k gd x post hx hk;have ap:=zY uK hx hk;have a3:=zX hx hk;clear hx;unfold uK at ap
    (repeat' (first|refine qU ?_|apply yY|apply xN|intro hc|(apply zG;first|refine SF ?_)|fail))
    all_goals (first|rfl|(exfalso;first|(simp[xS]at hc;done)|(revert hc;simp[xS];done)))
   ·(refine WW ?_)
    rfl
 .clear n1 n2 n3 kn kp W kh m1 m2 S;rw[<-M];clear M;refine WW ?_;refine zZ (9) [12,1000] [1000] [3,12] [127,3,12] Z (λi T U zs=>∃(y:Cy),(VO y)/\zs=⟨(127,iA i)::T,(12,.box [zE xC y.c.js,zE wP y.c.ags,iA y.c.per,iA y.c.cap,iA y.c.hold,iA y.c.lock,bA false,iA y.ga,zE zN y.ds,zE wD y.sg,zE xZ y.sv,zE iA y.st,zE wE y.vw])::U⟩) (Lp ?_ ?_ ?_)
  .exact⟨y,hC,rfl⟩
  .rintro i st hi ⟨w,hw,rfl⟩;obtain⟨ac,B,C,E⟩:=KJ hw 0 X sb zB;generalize fA w 0 X=w1 at *;unfold cC at B C E;refine yB (cX sc B C E) ?_;exact⟨w1,ac,rfl⟩
  .rintro st ⟨w,hw,rfl⟩;obtain⟨z,B,C,E⟩:=ui hw;unfold cC at B C E;exact ng (cX B C E ka)
