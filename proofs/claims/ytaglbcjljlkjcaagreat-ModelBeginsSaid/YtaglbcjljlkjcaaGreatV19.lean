/- Part 19. -/
import Derived.Test.YtaglbcjljlkjcaaGreatV18
namespace Go.Proofs.YtaglbcjljlkjcaaGreat.Av
open Tryz
set_option linter.all false
set_option maxRecDepth 4000
set_option maxHeartbeats 1000000
open List renaming length->ln,replicate->pg,getD->pi
open Inhabited renaming default->dd
variable {j:Jn}
def ik (J:JV j) {c:Ct} {r:Int} {t:Nat} (z:t<ln j.ph):(kK j t c r).gr=c.gr\/(kK j t c r).gr=(zS j t).group:=by
 unfold kK;split
 .split
  .exact .inl Z
  .rename_i h;obtain⟨p,u,A,y⟩:=WR J (c:=c) (r:=r) z h;rw[u,zAv]
   rcases jN j c p with h|h
   all_goals grind
 .exact .inl Z
def Zk (e:Bool) (c:Ct) (o:List Int):vZ (XS e c o)=true:=by cases e<;>rfl
def vg (j:Jn) (t:Nat) (e:Bool) (i:Int) (c:Ct) (o:List Int):St:=⟨[(8,iA i),(1,.ptr 3000 0 0),(2,iA t),(3,.ptr 3 0 0)],XS e c o++[(3,.box [zE yU j.ph,zE iA j.cf,iA j.st])]⟩
theorem Ar (j:Jn) (J:JV j) (c:Ct) (C:CV j c) (h0:c.wt=0) (t:Nat) (ht:t<ln j.ph):zO 283 [xC j,.ptr 3000 0 0,iA (t:Int)] (qR c 1002) (.tup []) (XS (decide ((kK j t (kK j t c 0) 1).gr≠c.gr)) (kK j t (kK j t c 0) 1) (if(kK j t c 0).gr=c.gr then(kK j t c 0).nx else c.nx)):=by
 have hn:=J.n;have L:ln j.ph<=1000:=by omega
 have ax:=J.c;have az:=zA yU j.ph;have av:=zJ yU j.ph t ht
 change (j.ph.map yU)[t]? =some (yU (zS j t))at av
 have X:=C.n;have Y:=C.m;obtain⟨C1,ar⟩:=al J C h0 ht 0;have E:=C1.n;have I:=C1.m;have ap:=ik J (c:=c) (r:=0) ht;have G:c.gr=c.gr:=rfl;refine WA tok func283 Z (λargs w=>call283 args w) Z Z (Zk _ _ _) (λF hF=>?_);refine WW ?_;refine gP [3000,1001,1002,2001,3] [8,1,2,3] (vg j t false 0 c c.nx) (vg j t (decide ((kK j t c 0).gr≠c.gr)) 1 (kK j t c 0) c.nx) (vg j t (decide ((kK j t (kK j t c 0) 1).gr≠c.gr)) 2 (kK j t (kK j t c 0) 1) (if(kK j t c 0).gr=c.gr then(kK j t c 0).nx else c.nx)) Z Z ?_ ?_ ?_
 .unfold vg;clear C1 ap E I ar;rw[show XS false c c.nx=qR c 1002 from Z];unfold qR;have U:=WQ j L c X 0
  cases hd:WV j c 0 with
  |false=>
   rw[hd]at U;rw[show kK j t c 0=c by unfold kK;rw[hW JF]];rw[show decide (c.gr≠c.gr)=false from zAb (λh=>h G)];clear hd;refine zP U ?_;rfl
  |true=>
  rw[hd]at U
  have y:kK j t c 0=if aR j c 0 t= -1 then c else vV j c (aR j c 0 t).toNat:=by unfold kK;rw[Os hd]
  by_cases ac:0=(zS j t).ring
  ·
   have hP:aR j c 0 t=t:=by unfold aR;rw[Os ac]
   rw[hP]at y;rw[hW zB,zAv]at y;by_cases hk:dG j c t=true\/c.gr=(zS j t).group
   .have R:=YR j L zB c X Y t ht (J.rg t ht) hk
    have A:(vV j c t).gr=c.gr:=by
     rcases jN j c t with h|h
     .exact(zAt Ct.gr h.2).trans G
     .rcases hk with hk|hk
      .rw[hk]at h;cases h.1
      .exact h.2.trans (hk.symm.trans G)
    rw[y,show decide ((vV j c t).gr≠c.gr)=false from zAb (λh=>h A)];generalize vV j c t=b at *;clear hd y A hk;unfold qR at R;refine yB (xH U R) ?_;rfl
   .have M:dG j c t=false:=by
     cases h:dG j c t with
     |false=>rfl
     |true=>exact absurd (.inl h) hk
    have O:c.gr≠(zS j t).group:=λh=>hk (.inr h)
    have R:=PY j L zB c X Y t ht (J.rg t ht) M O
    have A:(vV j c t).gr≠c.gr:=by
     rcases jN j c t with h|h
     .rw[M]at h;cases h.1
     .rw[h.2,<-G];exact λh=>O h.symm
    rw[y,show decide ((vV j c t).gr≠c.gr)=true from zAc A];generalize vV j c t=b at *;clear hd y A hk M O;unfold qR aF at R;refine yB (xH U R) ?_;rfl
  ·
   have cm:=ub j L zB c Y 0 t zB;have hP:aR j c 0 t=FV j (c.nx.getD (0:Int).toNat dd) 0 t:=by unfold aR;rw[hW ac]
   rw[<-hP]at cm;by_cases S:aR j c 0 t= -1
   .rw[Os S]at y;rw[y];rw[show decide (c.gr≠c.gr)=false from zAb (λh=>h G)];generalize aR j c 0 t=pp at *;clear hP hd y;refine yB (xH U cm) ?_;rfl
   obtain⟨p,W,hp,ag⟩:=WR J (c:=c) (r:=0) ht S;rw[hW S,W,zAv]at y;rw[W]at cm;clear hP S W;by_cases hk:dG j c p=true\/c.gr=(zS j p).group
   .have R:=YR j L zB c X Y p hp (J.rg p hp) hk
    have A:(vV j c p).gr=c.gr:=by
     rcases jN j c p with h|h
     .exact(zAt Ct.gr h.2).trans G
     .rcases hk with hk|hk
      .rw[hk]at h;cases h.1
      .exact h.2.trans (hk.symm.trans G)
    rw[y,show decide ((vV j c p).gr≠c.gr)=false from zAb (λh=>h A)];generalize vV j c p=b at *;clear hd y A hk;unfold qR at R;refine yB (qS U cm R) ?_;rfl
   .have M:dG j c p=false:=by
     cases h:dG j c p with
     |false=>rfl
     |true=>exact absurd (.inl h) hk
    have O:c.gr≠(zS j p).group:=λh=>hk (.inr h)
    have R:=PY j L zB c X Y p hp (J.rg p hp) M O
    have A:(vV j c p).gr≠c.gr:=by
     rcases jN j c p with h|h
     .rw[M]at h;cases h.1
     .rw[h.2,<-G];exact λh=>O h.symm
    rw[y,show decide ((vV j c p).gr≠c.gr)=true from zAc A];generalize vV j c p=b at *;clear hd y A hk M O;unfold qR aF at R;refine yB (qS U cm R) ?_;rfl
 .clear X Y G;have au:=ap;generalize kK j t c 0=u at *;unfold vg;by_cases z:u.gr=c.gr
  .rw [Os z,zAb (λh=>h z)];rw[show XS false u c.nx=qR u 1002 from Z];unfold qR;have U:=WQ j L u E 1
   cases hd:WV j u 1 with
   |false=>
    rw[hd]at U;rw[show kK j t u 1=u by unfold kK;rw[hW JF]];rw[show decide (u.gr≠c.gr)=false from zAb (λh=>h z)];clear hd;refine zP U ?_;rfl
   |true=>
   rw[hd]at U
   have y:kK j t u 1=if aR j u 1 t= -1 then u else vV j u (aR j u 1 t).toNat:=by unfold kK;rw[Os hd]
   by_cases ac:1=(zS j t).ring
   ·
    have hP:aR j u 1 t=t:=by unfold aR;rw[Os ac]
    rw[hP]at y;rw[hW zB,zAv]at y;by_cases hk:dG j u t=true\/u.gr=(zS j t).group
    .have R:=YR j L zB u E I t ht (J.rg t ht) hk
     have A:(vV j u t).gr=c.gr:=by
      rcases jN j u t with h|h
      .exact(zAt Ct.gr h.2).trans z
      .rcases hk with hk|hk
       .rw[hk]at h;cases h.1
       .exact h.2.trans (hk.symm.trans z)
     rw[y,show decide ((vV j u t).gr≠c.gr)=false from zAb (λh=>h A)];generalize vV j u t=b at *;clear hd y A hk;unfold qR at R;refine yB (xH U R) ?_;rfl
    .have M:dG j u t=false:=by
      cases h:dG j u t with
      |false=>rfl
      |true=>exact absurd (.inl h) hk
     have O:u.gr≠(zS j t).group:=λh=>hk (.inr h)
     have R:=PY j L zB u E I t ht (J.rg t ht) M O
     have A:(vV j u t).gr≠c.gr:=by
      rcases jN j u t with h|h
      .rw[M]at h;cases h.1
      .rw[h.2,<-z];exact λh=>O h.symm
     rw[y,show decide ((vV j u t).gr≠c.gr)=true from zAc A];generalize vV j u t=b at *;clear hd y A hk M O;unfold qR aF at R;refine yB (xH U R) ?_;rfl
   ·
    have cm:=ub j L zB u I 1 t zB;have hP:aR j u 1 t=FV j (u.nx.getD (1:Int).toNat dd) 1 t:=by unfold aR;rw[hW ac]
    rw[<-hP]at cm;by_cases S:aR j u 1 t= -1
    .rw[Os S]at y;rw[y];rw[show decide (u.gr≠c.gr)=false from zAb (λh=>h z)];generalize aR j u 1 t=pp at *;clear hP hd y;refine yB (xH U cm) ?_;rfl
    obtain⟨p,W,hp,ag⟩:=WR J (c:=u) (r:=1) ht S;rw[hW S,W,zAv]at y;rw[W]at cm;clear hP S W;by_cases hk:dG j u p=true\/u.gr=(zS j p).group
    .have R:=YR j L zB u E I p hp (J.rg p hp) hk
     have A:(vV j u p).gr=c.gr:=by
      rcases jN j u p with h|h
      .exact(zAt Ct.gr h.2).trans z
      .rcases hk with hk|hk
       .rw[hk]at h;cases h.1
       .exact h.2.trans (hk.symm.trans z)
     rw[y,show decide ((vV j u p).gr≠c.gr)=false from zAb (λh=>h A)];generalize vV j u p=b at *;clear hd y A hk;unfold qR at R;refine yB (qS U cm R) ?_;rfl
    .have M:dG j u p=false:=by
      cases h:dG j u p with
      |false=>rfl
      |true=>exact absurd (.inl h) hk
     have O:u.gr≠(zS j p).group:=λh=>hk (.inr h)
     have R:=PY j L zB u E I p hp (J.rg p hp) M O
     have A:(vV j u p).gr≠c.gr:=by
      rcases jN j u p with h|h
      .rw[M]at h;cases h.1
      .rw[h.2,<-z];exact λh=>O h.symm
     rw[y,show decide ((vV j u p).gr≠c.gr)=true from zAc A];generalize vV j u p=b at *;clear hd y A hk M O;unfold qR aF at R;refine yB (qS U cm R) ?_;rfl
  .have B:u.gr≠c.gr:=z
   have V:u.gr=(zS j t).group:=by
    rcases au with h|h
    .exact absurd h B
    .exact h
   rw[hW z,zAc B];rw[show XS true u c.nx=aF u c.nx from Z];unfold aF;have U:=WQ j L u E 1
   cases hd:WV j u 1 with
   |false=>
    rw[hd]at U;rw[show kK j t u 1=u by unfold kK;rw[hW JF]];rw[show decide (u.gr≠c.gr)=true from zAc B];clear hd;refine zP U ?_;rfl
   |true=>
   rw[hd]at U
   have y:kK j t u 1=if aR j u 1 t= -1 then u else vV j u (aR j u 1 t).toNat:=by unfold kK;rw[Os hd]
   by_cases ac:1=(zS j t).ring
   ·
    have hP:aR j u 1 t=t:=by unfold aR;rw[Os ac]
    rw[hP]at y;rw[hW zB,zAv]at y;have R:=PX j L zB u E I t ht (J.rg t ht) (.inr (V.trans (rfl:(zS j t).group=(zS j t).group).symm))
    have A:(vV j u t).gr≠c.gr:=by
     rcases jN j u t with h|h
     .rw[h.2];exact B
     .rw[h.2,(rfl:(zS j t).group=(zS j t).group),<-V];exact B
    rw[y,show decide ((vV j u t).gr≠c.gr)=true from zAc A];generalize vV j u t=b at *;clear hd y A;unfold qR at R;refine yB (xH U R) ?_;rfl
   ·
    have cm:=ub j L zB u I 1 t zB;have hP:aR j u 1 t=FV j (u.nx.getD (1:Int).toNat dd) 1 t:=by unfold aR;rw[hW ac]
    rw[<-hP]at cm;by_cases S:aR j u 1 t= -1
    .rw[Os S]at y;rw[y];rw[show decide (u.gr≠c.gr)=true from zAc B];generalize aR j u 1 t=pp at *;clear hP hd y;refine yB (xH U cm) ?_;rfl
    obtain⟨p,W,hp,ag⟩:=WR J (c:=u) (r:=1) ht S;rw[hW S,W,zAv]at y;rw[W]at cm;clear hP S W;have R:=PX j L zB u E I p hp (J.rg p hp) (.inr (V.trans (ag:(zS j p).group=(zS j t).group).symm))
    have A:(vV j u p).gr≠c.gr:=by
     rcases jN j u p with h|h
     .rw[h.2];exact B
     .rw[h.2,(ag:(zS j p).group=(zS j t).group),<-V];exact B
    rw[y,show decide ((vV j u p).gr≠c.gr)=true from zAc A];generalize vV j u p=b at *;clear hd y A;unfold qR at R;refine yB (qS U cm R) ?_;rfl
 .generalize (if(kK j t c 0).gr=c.gr then(kK j t c 0).nx else c.nx)=o at *;generalize kK j t (kK j t c 0) 1=c2 at *;unfold vg;by_cases he:c2.gr=c.gr
  .rw[zAb (λh=>h he)];refine WW ?_;exact uQ [3000,1001,1002] Z Z Z Z
  .rw[zAc he];refine WW ?_;exact uQ [3000,1001,1002,2001] Z Z Z Z
def Yk (c:Ct) (u:ln c.li<=1000):zO 322 [Vs c] [] (bA (AY c)) []:=by rw[kH];exact CI c u
def DZ (c:Ct) (i:Nat):Bool:=AY c&&(c.nx.take i).all λp=>p== -1
theorem MB (c:Ct) (i:Nat) (hi:i<ln c.nx):DZ c (i+1)=(DZ c i&&(c.nx.getD i dd== -1)):=by grind [DZ,List.take_append_getElem,pi,Bool.and_assoc]
def QZ (j:Jn) (e:Bool) (i:Int) (c:Ct) (o:List Int):St:=⟨[(36,iA i),(1,.ptr 3000 0 0),(2,.ptr 2 0 0)],XS e c o++[(2,.box [zE yU j.ph,zE iA j.cf,iA j.st])]⟩
theorem Zs (j:Jn) (J:JV j) (c:Ct) (C:CV j c) (h0:c.wt=0):zO 284 [xC j,.ptr 3000 0 0] (qR c 1002) (.tup []) (XS (Fh c) (AZ j c) c.nx):=by
 have hn:=J.n;have M:ln j.ph<=1000:=by omega
 have bb:=J.c;have bk:=zA yU j.ph;have bd:=zA yX c.li;have bf:=zA iA c.nx;have a5:=C.n;have a4:=C.m;have ca:=Yk c zB;have cg:=CG j M J.gp;have a8:=OA J
 have a6:gF j<=4:=by
  have:∀n,n<=ln j.ph->AX j.ph n<=4:=λn=>by
   induction n with
   |zero=>intro _;show(0:Int)<=4;omega
   |succ n ih=>
    intro h;have h1:=ih zB;have h2:=J.gp n zB;unfold zS at h2;unfold AX;omega
  exact this _ (zAe _)
 have a3:=C.g;have ag:(c.gr+1).tmod (gF j)=(c.gr+1) % gF j:=zBi zB;have hO:DZ c (ln c.nx)=Fh c:=by unfold DZ Fh;rw[zAa]
 refine WA tok func284 Z (λargs w=>call284 args w) Z Z (Zk _ _ _) (λF hF=>?_);unfold qR;have ax:DZ c 0=AY c:=by unfold DZ;simp
 rw[<-ax]at ca;refine zP ca ?_;refine zM (ln c.nx) [2,3000,1001,1002] [2,3000,1001,1002] [1,2,15,16] [4,17,1,2,15,16] Z (λi T U=>⟨(4,bA (DZ c i))::(17,iA i)::T,U⟩) (Lq ?_ ?_)
 .intro i hi;have hy:=zJ iA c.nx i hi;have es:=MB c i hi;rw[es];generalize DZ c i=o at *;generalize c.nx.getD i dd=x at *;by_cases hx:x= -1
  .rw[show(x== -1)=true by rw[zBv];exact hx,zCv];clear ca cg;refine WW ?_;rfl
  .rw[show(x== -1)=false by rw[zBd];exact hx,zB3];clear ca cg;refine WW ?_;rfl
 .rw [hO];clear hO ax ca
  cases au:Fh c with
  | true=>
   have Y:AZ j c=vH j (vH j (QH j c ((c.gr+1) % gF j)) 0) 1:=by unfold AZ;rw[Os au]
   rw[Y];have a7:0<=(c.gr+1) % gF j/\(c.gr+1) % gF j<gF j:=⟨zCx _ zB,zCq _ zB⟩;have V:=CT C a7;have a9:(QH j c ((c.gr+1) % gF j)).wt=0:=h0;have ce:=Gd j M ((c.gr+1) % gF j) c.gr c.wt (c.li.map yX) (c.nx.map iA) (c.li.map yX).length (c.nx.map iA).length;rw[show([(3000,.box [.ref 1001 0 (c.li.map yX).length,iA ((c.gr+1) % gF j),.ref 2001 0 2,iA c.wt]),(1001,.arr 2 (c.li.map yX) false),(1002,.arr 1 (c.nx.map iA) false),(2001,.arr 1 [iA (kS j 0 ((c.gr+1) % gF j) 0),iA (kS j 1 ((c.gr+1) % gF j) 0)] false)]:List (Nat×xM))=aF (QH j c ((c.gr+1) % gF j)) c.nx from Z]at ce;rw[<-ag]at ce;rw[ag]at ce;generalize a2:QH j c ((c.gr+1) % gF j)=A at *;rw[<-ag]at ce;have bl:¬gF j=0:=by omega
   generalize gF j=gm at *;have X:=V.n;have ac:=V.m;obtain⟨G,a1⟩:=ZP J V a9 (r:=0) zB;have B:=G.n;have E:=G.m
   change CV j (vH j A 0)at G
   change (vH j A 0).li.length=ln j.ph at B
   change (vH j A 0).nx.length=2 at E
   clear Y a2 C;unfold aF at ce;refine yB (xH cg ce) ?_;refine gP [3000,1001,1002,2001,2] [36,1,2] (QZ j true 0 A c.nx) (QZ j true 1 (vH j A 0) c.nx) (QZ j true 2 (vH j (vH j A 0) 1) c.nx) Z Z ?_ ?_ ?_
   .unfold QZ;rw[show XS true A c.nx=aF A c.nx from Z];unfold aF;have I:=WQ j M A X 0;have S:=zJ iA A.nx 0 zB;have hv:=V.v 0 zB;have av:(A.nx.map iA).length=2:=by rw[f7];exact ac
    cases hd:WV j A 0 with
    |false=>
     rw[hd]at I;rw[show vH j A 0=A by unfold vH;rw[hW QU]];clear hd;refine zP I ?_;rfl
    |true=>
    rw[hd]at I
    have u:vH j A 0=if A.nx.getD 0 dd= -1 then A else vV j A (A.nx.getD 0 dd).toNat:=by
     unfold vH;rw[hd]
     show(if true=true/\A.nx.getD 0 dd≠ -1 then vV j A (A.nx.getD 0 dd).toNat else A)=_
     by_cases h:A.nx.getD 0 dd= -1
     .rw[Os h,hW (λk=>k.2 h)]
     .rw[hW h,Os ⟨rfl,h⟩]
    clear hd;by_cases z:A.nx.getD 0 dd= -1
    .rw[Os z]at u;rw[u];clear u hv;generalize A.nx.getD 0 dd=x at *;refine zP I ?_;rfl
    .rw[hW z]at u
     have R:CQ j (0:Nat) A.gr (A.nx.getD 0 dd):=by
      rcases hv with h|h
      .exact absurd h z
      .exact h
     obtain⟨i1,i2,i3,O⟩:=R;obtain⟨p,L⟩:∃p:Nat,A.nx.getD 0 dd=p:=⟨(A.nx.getD 0 dd).toNat,zB⟩;rw[L]at u S z i2 O;rw[zAv]at u O;have hp:p<ln j.ph:=by omega
     have W:=PX j M zB A X ac p hp (J.rg p hp) (.inr O.symm);rw[u];clear u hv i1 i2 i3 O L;generalize vV j A p=b at *;unfold qR at W;refine yB (xH I W) ?_;rfl
   .generalize vH j A 0=y at *;unfold QZ;rw[show XS true y c.nx=aF y c.nx from Z];unfold aF;have I:=WQ j M y B 1;have S:=zJ iA y.nx 1 zB;have hv:=G.v 1 zB;have av:(y.nx.map iA).length=2:=by rw[f7];exact E
    cases hd:WV j y 1 with
    |false=>
     rw[hd]at I;rw[show vH j y 1=y by unfold vH;rw[hW QU]];clear hd;refine zP I ?_;rfl
    |true=>
    rw[hd]at I
    have u:vH j y 1=if y.nx.getD 1 dd= -1 then y else vV j y (y.nx.getD 1 dd).toNat:=by
     unfold vH;rw[hd]
     show(if true=true/\y.nx.getD 1 dd≠ -1 then vV j y (y.nx.getD 1 dd).toNat else y)=_
     by_cases h:y.nx.getD 1 dd= -1
     .rw[Os h,hW (λk=>k.2 h)]
     .rw[hW h,Os ⟨rfl,h⟩]
    clear hd;by_cases z:y.nx.getD 1 dd= -1
    .rw[Os z]at u;rw[u];clear u hv;generalize y.nx.getD 1 dd=x at *;refine zP I ?_;rfl
    .rw[hW z]at u
     have R:CQ j (1:Nat) y.gr (y.nx.getD 1 dd):=by
      rcases hv with h|h
      .exact absurd h z
      .exact h
     obtain⟨i1,i2,i3,O⟩:=R;obtain⟨p,L⟩:∃p:Nat,y.nx.getD 1 dd=p:=⟨(y.nx.getD 1 dd).toNat,zB⟩;rw[L]at u S z i2 O;rw[zAv]at u O;have hp:p<ln j.ph:=by omega
     have W:=PX j M zB y B E p hp (J.rg p hp) (.inr O.symm);rw[u];clear u hv i1 i2 i3 O L;generalize vV j y p=b at *;unfold qR at W;refine yB (xH I W) ?_;rfl
   .generalize vH j (vH j A 0) 1=c2 at *;unfold QZ;refine WW ?_;exact uQ [3000,1001,1002,2001] Z Z Z Z
  | false=>
   have Y:AZ j c=vH j (vH j c 0) 1:=by unfold AZ;rw[hW (by rw[au];decide)]
   rw[Y];clear cg ag Y a8 a6 a3;have az:=C;have ap:=a5;have ar:=a4;obtain⟨G,a1⟩:=ZP J C h0 (r:=0) zB;have B:=G.n;have E:=G.m
   change CV j (vH j c 0)at G
   change (vH j c 0).li.length=ln j.ph at B
   change (vH j c 0).nx.length=2 at E
   refine WW ?_;clear au;refine gP [3000,1001,1002,2001,2] [36,1,2] (QZ j false 0 c c.nx) (QZ j false 1 (vH j c 0) c.nx) (QZ j false 2 (vH j (vH j c 0) 1) c.nx) Z Z ?_ ?_ ?_
   .unfold QZ;rw[show XS false c c.nx=qR c 1002 from Z];unfold qR;have I:=WQ j M c ap 0;have S:=zJ iA c.nx 0 zB;have hv:=az.v 0 zB;have av:(c.nx.map iA).length=2:=by rw[f7];exact ar
    cases hd:WV j c 0 with
    |false=>
     rw[hd]at I;rw[show vH j c 0=c by unfold vH;rw[hW QU]];clear hd;refine zP I ?_;rfl
    |true=>
    rw[hd]at I
    have u:vH j c 0=if c.nx.getD 0 dd= -1 then c else vV j c (c.nx.getD 0 dd).toNat:=by
     unfold vH;rw[hd]
     show(if true=true/\c.nx.getD 0 dd≠ -1 then vV j c (c.nx.getD 0 dd).toNat else c)=_
     by_cases h:c.nx.getD 0 dd= -1
     .rw[Os h,hW (λk=>k.2 h)]
     .rw[hW h,Os ⟨rfl,h⟩]
    clear hd;by_cases z:c.nx.getD 0 dd= -1
    .rw[Os z]at u;rw[u];clear u hv;generalize c.nx.getD 0 dd=x at *;refine zP I ?_;rfl
    .rw[hW z]at u
     have R:CQ j (0:Nat) c.gr (c.nx.getD 0 dd):=by
      rcases hv with h|h
      .exact absurd h z
      .exact h
     obtain⟨i1,i2,i3,O⟩:=R;obtain⟨p,L⟩:∃p:Nat,c.nx.getD 0 dd=p:=⟨(c.nx.getD 0 dd).toNat,zB⟩;rw[L]at u S z i2 O;rw[zAv]at u O;have hp:p<ln j.ph:=by omega
     have W:=YR j M zB c ap ar p hp (J.rg p hp) (.inr O.symm);rw[u];clear u hv i1 i2 i3 O L;generalize vV j c p=b at *;unfold qR at W;refine yB (xH I W) ?_;rfl
   .generalize vH j c 0=y at *;unfold QZ;rw[show XS false y c.nx=qR y 1002 from Z];unfold qR;have I:=WQ j M y B 1;have S:=zJ iA y.nx 1 zB;have hv:=G.v 1 zB;have av:(y.nx.map iA).length=2:=by rw[f7];exact E
    cases hd:WV j y 1 with
    |false=>
     rw[hd]at I;rw[show vH j y 1=y by unfold vH;rw[hW QU]];clear hd;refine zP I ?_;rfl
    |true=>
    rw[hd]at I
    have u:vH j y 1=if y.nx.getD 1 dd= -1 then y else vV j y (y.nx.getD 1 dd).toNat:=by
     unfold vH;rw[hd]
     show(if true=true/\y.nx.getD 1 dd≠ -1 then vV j y (y.nx.getD 1 dd).toNat else y)=_
     by_cases h:y.nx.getD 1 dd= -1
     .rw[Os h,hW (λk=>k.2 h)]
     .rw[hW h,Os ⟨rfl,h⟩]
    clear hd;by_cases z:y.nx.getD 1 dd= -1
    .rw[Os z]at u;rw[u];clear u hv;generalize y.nx.getD 1 dd=x at *;refine zP I ?_;rfl
    .rw[hW z]at u
     have R:CQ j (1:Nat) y.gr (y.nx.getD 1 dd):=by
      rcases hv with h|h
      .exact absurd h z
      .exact h
     obtain⟨i1,i2,i3,O⟩:=R;obtain⟨p,L⟩:∃p:Nat,y.nx.getD 1 dd=p:=⟨(y.nx.getD 1 dd).toNat,zB⟩;rw[L]at u S z i2 O;rw[zAv]at u O;have hp:p<ln j.ph:=by omega
     have W:=YR j M zB y B E p hp (J.rg p hp) (.inr O.symm);rw[u];clear u hv i1 i2 i3 O L;generalize vV j y p=b at *;unfold qR at W;refine yB (xH I W) ?_;rfl
   .generalize vH j (vH j c 0) 1=c2 at *;unfold QZ;refine WW ?_;exact uQ [3000,1001,1002] Z Z Z Z
def Ba (l:List Li) (hl:ln l<=1073741824):zO 172 [zE yX l] [] (.ref 1001 0 (l.map yX).length) [(1001,.arr 2 (l.map yX) false)]:=by
 have u:=zA yX l;refine eM call172 λF hF=>?_
 refine xW 0 Z (λcap hx=>?_) ?_
 .have:l=[]:=by simpa using hx
  subst this
  (repeat' (first|refine Ze ?_|apply yY|apply xN|intro hc|fail))
  refine uN 2 1001 2 Z Z Z (xP ?_);exact zV [1001] Z Z Z Z
 .repeat' (first|(apply zG;first|refine vT tok Z Z ?_|(apply vE;refine wO (xQ tok (.inl ⟨rfl,rfl⟩) Z Z Z Z) Z ?_)|(apply yL;refine qH (nw:=[1001]) (xD tok 1001 (xs:=[]) Z Z Z Z Z Z Z Z Z) Z Z Z ?_)|(apply yI;refine wU tok Z Z Z Z Z Z Z (yG _ _ (λ_=>rfl)) Z Z Z zB Z ?_)|apply qV)|(first|apply wF|apply wB|refine uW Z ?_|refine yT Z ?_|refine yH Z ?_|refine wL Z (λhc=>?_) λhc=>?_|apply xO|apply xP|apply wA|apply xE))
  exact zV [1001] Z Z Z Z
def CA (l:List Int) (hl:ln l<=1073741824):zO 111 [zE iA l] [] (.ref 1002 0 (l.map iA).length) [(1002,.arr 1 (l.map iA) false)]:=by
 have u:=zA iA l;refine eM call111 λF hF=>?_
 refine xW 0 Z (λcap hx=>?_) ?_
 .have:l=[]:=by simpa using hx
  subst this
  (repeat' (first|refine Ze ?_|apply yY|apply xN|intro hc|fail))
  refine uN 2 1002 1 Z Z Z (xP ?_);exact zV [1002] Z Z Z Z
 .repeat' (first|(apply zG;first|refine vT tok Z Z ?_|(apply vE;refine wO (xQ tok (.inl ⟨rfl,rfl⟩) Z Z Z Z) Z ?_)|(apply yL;refine qH (nw:=[1002]) (xD tok 1002 (xs:=[]) Z Z Z Z Z Z Z Z Z) Z Z Z ?_)|(apply yI;refine wU tok Z Z Z Z Z Z Z (yG _ _ (λ_=>rfl)) Z Z Z zB Z ?_)|apply qV)|(first|apply wF|apply wB|refine uW Z ?_|refine yT Z ?_|refine yH Z ?_|refine wL Z (λhc=>?_) λhc=>?_|apply xO|apply xP|apply wA|apply xE))
  exact zV [1002] Z Z Z Z
def MC (j:Jn) (c:Ct) (t:Int) (i:Nat):List Li:=(List.range (ln j.ph)).map λp=>if p<i then CP (zS j p) (xI c p) (GB j c t p)else xI c p
def PV (j:Jn) (c:Ct) (t:Int) (i:Nat):(MC j c t i).length=ln j.ph:=by simp[MC]
def CB {c:Ct} (hc:ln c.li=ln j.ph) (t:Int):MC j c t 0=c.li:=by apply zBe<;>grind [MC,List.getElem?_range,xI,pi,List.getElem?_eq_none]
def Md (j:Jn) (c:Ct) (t:Int):MC j c t (ln j.ph)=US j c t:=by grind [MC,US,List.map_congr_left]
def CD (j:Jn) (c:Ct) (t:Int) (i:Nat):MC j c t (i+1)=(MC j c t i).set i (CP (zS j i) (xI c i) (GB j c t i)):=by apply zBe<;>grind [MC,CP,zS,xI,GB,List.getElem?_range,List.getElem?_eq_none]
theorem Xk {p:Ph} {l:Li} (h:AW p l=true) (y:p.yel<=60) (u:p.red<=60):0<=l.tk/\l.tk<=1073741824:=by grind [AW]
def HX {P:Program} {B:List Nat} {F:Fr B} {m:Nat} {z:Array Oper} {y:List Oper} {Q:List FP->St->Prop} {A:Bool} {fs:List FP} {ty T:Nat} {pos:String} {u:Array Edge} {st:St} (hk:yP P F m z A (⟨some 7,.alloc T,ty,pos,u,none⟩::y) st fs Q):yP P F m z A (⟨some 7,.alloc T,ty,pos,u,none⟩::y) st fs Q:=hk
theorem Ly (j:Jn) (J:JV j) (c:Ct) (C:CV j c) (t:Int):zO 229 [xC j,LK c,iA t] [] (LK (GC j c t)) []:=by
 have hn:=J.n;have ax:=J.c;have R:=C.n;have ac:=C.m;have av:=C.w;have a4:=J.st;have a3:=zA yU j.ph;have ag:(c.li.map yX).length=j.ph.length:=by rw[f7];exact R
 have az:(c.nx.map iA).length=2:=by rw[f7];exact ac
 have Y:=QF j J;have W:=Xs j J.b c;rw[Ay J C]at W;have B:=Ba c.li zB;have E:=CA c.nx zB;unfold GC;by_cases hw:0<c.wt
 .rw[Os hw];refine eM call229 λF hF=>?_
  refine yB (xH Y W) ?_
  repeat' (first|(apply zG;first|(apply HX;refine qH (nw:=[3000]) (gU tok 3000 Z Z) Z Z Z ?_)|refine vT tok Z Z ?_|(apply xJ;(first|(refine vF 172 ?_;first|refine wO (zK (B) Z Z Z Z Z) Z ?_|refine qH (zK (B) Z Z Z Z Z) Z Z Z ?_|refine bX (zK (B) Z Z Z Z Z) Z Z Z ?_)|(refine vF 111 ?_;first|refine wO (zK (E) Z Z Z Z Z) Z ?_|refine qH (zK (E) Z Z Z Z Z) Z Z Z ?_|refine bX (zK (E) Z Z Z Z Z) Z Z Z ?_)))|(apply cS;refine cJ tok Z Z Z ?_)|refine WC vA ?_|apply qV)|first|refine SQ ?_|fail)
  refine WW ?_;exact zH [] Z Z (kH ⟨c.li,c.gr,c.nx,c.wt-1⟩) Z
 rw[hW hw];have h0:c.wt=0:=by omega
 have L:=ml J C h0 t;have G:=CB R t;have I:=Md j c t;rw[ag]at B;have hN:∀i,((MC j c t i).map yX).length=j.ph.length:=λi=>by rw[f7];exact PV j c t i
 refine eM call229 λF hF=>?_
 refine yB (xH Y W) ?_
 repeat' (first|(apply zG;first|(apply HX;refine qH (nw:=[3000]) (gU tok 3000 Z Z) Z Z Z ?_)|refine vT tok Z Z ?_|(apply xJ;(first|(refine vF 172 ?_;first|refine wO (zK (B) Z Z Z Z Z) Z ?_|refine qH (zK (B) Z Z Z Z Z) Z Z Z ?_|refine bX (zK (B) Z Z Z Z Z) Z Z Z ?_)|(refine vF 111 ?_;first|refine wO (zK (E) Z Z Z Z Z) Z ?_|refine qH (zK (E) Z Z Z Z Z) Z Z Z ?_|refine bX (zK (E) Z Z Z Z Z) Z Z Z ?_)))|(apply cS;refine cJ tok Z Z Z ?_)|refine WC vA ?_|apply qV)|first|refine SQ ?_|fail)
 (repeat' (first|refine Ch ?_|apply yY|apply xN|intro hc|(apply zG;first|refine SM ?_)|fail))
 refine yH Z (xO ?_);apply wF;refine dV [3000,1001,1002,3,4,6] [2,3,4,6,7,8] ⟨[(2,iA t),(3,.ptr 3 0 0),(4,.ptr 4 0 0),(6,.ptr 6 0 0),(7,.ptr 3000 0 0),(8,bA (ZO j t))],[(3000,.box [.ref 1001 0 j.ph.length,iA c.gr,.ref 1002 0 (c.nx.map iA).length,iA c.wt]),(1001,.arr 2 (c.li.map yX) false),(1002,.arr 1 (c.nx.map iA) false),(3,.box [zE yU j.ph,zE iA j.cf,iA j.st]),(4,.box [zE yX c.li,iA c.gr,zE iA c.nx,iA c.wt]),(6,.box [.s (.slice none 0 0),iA 0,.s (.slice none 0 0),iA 0])]⟩ rfl ?_ ?_
 .clear Y W B E L;by_cases a1:0<=t
  .by_cases a2:t<j.ph.length
   .rw[show ZO j t=true from zAc ⟨a1,a2⟩];refine WW ?_;exact⟨rfl,rfl⟩
   .rw[show ZO j t=false from zAb (λh=>a2 h.2)];refine WW ?_;exact⟨rfl,rfl⟩
  .rw[show ZO j t=false from zAb (λh=>a1 h.1)];refine WW ?_;exact⟨rfl,rfl⟩
 clear Y W B E;refine WW ?_;refine zM (j.ph.length) [1001,3,4,6,3000,1002] [3,4,6,3000,1002] [2,3,4,6,7,8,51,52] [53,2,3,4,6,7,8,51,52] Z (λi T U=>⟨(53,iA i)::T,(1001,.arr 2 ((MC j c t i).map yX) false)::U⟩) ?_;(conv=>whnf);refine⟨by(rw[G];rfl),?_,?_⟩
 .intro i hi;have hy:=zJ yU j.ph i hi
  change (j.ph.map yU)[i]? =some (yU (zS j i))at hy
  have ar:=zJ yX c.li i zB
  change (c.li.map yX)[i]? =some (yX (xI c i))at ar
  have V:∃l,((MC j c t i).map yX)[i]? =some (yX l):=⟨_,zJ yX (MC j c t i) i (by rw[PV];exact hi)⟩;obtain⟨lm,V⟩:=V;have a5:=J.ti i hi;have a6:=Xk (C.k i hi) zB zB;have ap:Sw (zS j i):=⟨zB,zB,zB,zB⟩;have au:=hN i;have ls:=λlv=>Js (zS j i) ap (xI c i) zB lv
  have ck:=gB j.cf zB i t;have es:=CD j c t i;have em:(MC j c t (i+1)).map yX=((MC j c t i).map yX).set i (yX (CP (zS j i) (xI c i) (GB j c t i))):=by rw[es,zBt]
  rw[em];have u:GB j c t i=_:=rfl
  conv at u=>rhs;unfold GB
  have y:=ls (GB j c t i);clear ls es em L hN G I;generalize CP (zS j i) (xI c i) (GB j c t i)=ln,(MC j c t i).map yX=xs at *;generalize GB j c t i=lv at *;generalize vM j.cf i t=cq at*
  cases O:ZO j t with
  |false=>
   rw[O]at u;rw[hW xG]at u;generalize zS j i=ph,xI c i=l at *;by_cases M:ph.maxg<=l.tk+1
   .rw[zAc M]at u;subst u;refine zP y ?_;rfl
   .rw[zAb M]at u;subst u;refine zP y ?_;rfl
  | true=>
   rw[O]at u;rw[Os Z]at u;generalize zS j i=ph,xI c i=l at *;by_cases S:(i:Int)=t
   .rw[zAb (λh=>h S)]at u;rw[zA7]at u;subst u;by_cases M:ph.maxg<=l.tk+1
    all_goals
     (refine zP y ?_)
     rfl
   rw[zAc S,zAj]at u;by_cases M:ph.maxg<=l.tk+1
   .rw[zAc M,zCt]at u;subst u;refine zP y ?_;rfl
   .rw[zAb M,zCh]at u;rw[u]at y;clear u
    cases cq with
    |true=>
     refine yB (xH ck y) ?_;rfl
    |false=>
     refine yB (xH ck y) ?_;rfl
 .rw[I];have e1:((US j c t).map yX).length=j.ph.length:=by simp[US]
  clear I G hN
  cases O:ZO j t with
  | true=>
   rw[Os Z];unfold ZO at O;rw[zAg]at O;obtain⟨A,rfl⟩:∃A:Nat,t=A:=⟨t.toNat,zB⟩;rw[zAv];have cs:=Ar j J ⟨US j c A,c.gr,c.nx,c.wt⟩ L h0 A zB;unfold qR at cs;dsimp only at cs;rw[e1]at cs;generalize kK j A (kK j A ⟨US j c A,c.gr,c.nx,c.wt⟩ 0) 1=z,(if(kK j A ⟨US j c A,c.gr,c.nx,c.wt⟩ 0).gr=c.gr then(kK j A ⟨US j c A,c.gr,c.nx,c.wt⟩ 0).nx else c.nx)=o,(US j c A).map yX=xs at *;clear L
   cases X:decide (z.gr≠c.gr)with
   |true=>
    rw[X,show XS true z o=aF z o from Z]at cs;unfold aF at cs;clear X;refine zP cs ?_;exact zH [] Z Z (kH z) Z
   |false=>
    rw[X,show XS false z o=qR z 1002 from Z]at cs;unfold qR at cs;clear X;refine zP cs ?_;exact zH [] Z Z (kH z) Z
  | false=>
   rw[hW xG];have cs:=Zs j J ⟨US j c t,c.gr,c.nx,c.wt⟩ L h0;unfold qR at cs;dsimp only at cs;rw[e1]at cs;generalize AZ j ⟨US j c t,c.gr,c.nx,c.wt⟩=z,Fh ⟨US j c t,c.gr,c.nx,c.wt⟩=e,(US j c t).map yX=xs at *;clear L
   cases e with
   |true=>
    rw[show XS true z c.nx=aF z c.nx from Z]at cs;unfold aF at cs;refine zP cs ?_;exact zH [] Z Z (kH z) Z
   |false=>
    rw[show XS false z c.nx=qR z 1002 from Z]at cs;unfold qR at cs;refine zP cs ?_;exact zH [] Z Z (kH z) Z
def Wk (j:Jn) (E:ln j.ph<=1000) (g O C:Int) (L:List AV) (B:Nat):zO 208 [xC j,.ptr 3000 0 0,iA g] [(3000,.box [.ref 1001 0 B,iA O,.s (.slice none 0 0),iA C]),(1001,.arr 2 L false)] (.tup [])
  [(3000,.box [.ref 1001 0 B,iA g,.ref 2001 0 2,iA C]),(1001,.arr 2 L false),(2001,.arr 1 [iA (kS j 0 g 0),iA (kS j 1 g 0)] false)]:=by
 have G:=WP j E 0 g 0;have I:=WP j E 1 g 0;generalize kS j 0 g 0=u,kS j 1 g 0=y at *;obtain⟨A,z⟩:∃n:Nat,n=2:=⟨2,rfl⟩;refine eM call208 λF hF=>?_
 (repeat' (first|refine qU ?_|apply yY|apply xN|intro hc|(apply zG;first|(apply fY;refine aO 2001 tok Z Z Z Z Z Z Z Z Z Z Z Z Z zB zB Z Z Z ?_))|fail))
 refine zM (A) [3000,2001,3,1001] [3,1001] [1,2,3] [20,19,1,2,3] Z (λi T U=>⟨(20,iA i)::(19,iA A)::T,(3000,.box [.ref 1001 0 B,iA g,.ref 2001 0 A,iA C])::(2001,.arr 1 (Gh u y i) false)::U⟩) ?_;(conv=>whnf);refine⟨by(rw[z];rfl),?_,?_⟩
 .intro i hi;have:i=0\/i=1:=by omega
  rcases this with rfl|rfl
  .have R:(Gh u y 0)[((0:Nat):Int).toNat]? =some (iA 0):=rfl;have hl:(Gh u y 0).length=2:=rfl;refine zP G ?_;rfl
  .have R:(Gh u y 1)[((1:Nat):Int).toNat]? =some (iA 0):=rfl;have hl:(Gh u y 1).length=2:=rfl;refine zP I ?_;rfl
 .have M:Gh u y A=[iA u,iA y]:=by rw[z];rfl
  rw[M];refine WW ?_;subst z;exact uQ [3000,1001,2001] Z Z Z Z
def ug (j:Jn):Ct:=⟨pg (ln j.ph) ⟨0,0⟩,0,[kS j 0 0 0,kS j 1 0 0],j.st⟩
def Aa (j:Jn) (p:Nat):xI (ug j) p=⟨0,0⟩:=by
 unfold xI ug;simp only[zAk,zC5]
 split<;>rfl
def Ld (J:JV j):CV j (ug j):=by
 refine⟨by simp[ug],λp u=>by rw[Aa];rfl,λp q u A y h1 h2=>by rw[Aa]at h1;exact absurd Z h1,⟨zCi _,?_⟩,rfl,λr z=>Uw j (ug j) 0 r z,⟨J.st.1,zCi _⟩,.inr λp u=>by rw[Aa]⟩;have:=OA J
 grind [ug]
def Vk {P:Program} {B:List Nat} {F:Fr B} {m:Nat} {z:Array Oper} {y:List Oper} {Q:List FP->St->Prop} {A:Bool} {fs:List FP} {ty T:Nat} {pos:String} {u:Array Edge} {st:St} (hk:yP P F m z A (⟨some 3,.alloc T,ty,pos,u,none⟩::y) st fs Q):yP P F m z A (⟨some 3,.alloc T,ty,pos,u,none⟩::y) st fs Q:=hk
def Ky (j:Jn) (B:ln j.ph<=1000):zO 152 [xC j] [] (LK (ug j)) []:=by
 have y:=zA yU j.ph;have u:=Wk j B 0 0 j.st ((pg (ln j.ph) (⟨0,0⟩:Li)).map yX) ((pg (ln j.ph) (⟨0,0⟩:Li)).map yX).length;have z:(pg (ln j.ph) (⟨0,0⟩:Li)).map yX=pg (ln j.ph) (yX ⟨0,0⟩):=zDr;have eN:((pg (ln j.ph) (⟨0,0⟩:Li)).map yX).length=ln j.ph:=by simp
 rw[eN,z]at u;rw[<-y]at u;refine eM call152 λF hF=>?_
 repeat' (first|(apply zG;first|(apply Vk;refine qH (nw:=[3000]) (gU tok 3000 Z Z) Z Z Z ?_)|refine vT tok Z Z ?_|(apply fY;refine aO 1001 tok Z Z Z Z Z Z Z Z Z Z Z Z Z zB zB Z Z Z ?_)|refine bY tok Z Z Z Z ?_|(apply xJ;(first|(refine vF 208 ?_;first|refine wO (zK (u) Z Z Z Z Z) Z ?_|refine qH (zK (u) Z Z Z Z Z) Z Z Z ?_|refine bX (zK (u) Z Z Z Z Z) Z Z Z ?_)))|(apply cS;refine cJ tok Z Z Z ?_)|refine WC vA ?_|apply qV)|first|refine SQ ?_|fail)
 have A:AV.agg [.sl false ((pg (j.ph.map yU).length (yX ⟨0,0⟩)).take (j.ph.map yU).length),iA 0,.sl false [iA (kS j 0 0 0),iA (kS j 1 0 0)],iA j.st]=LK (ug j):=by
  rw[zAl yE,y,<-z];rfl
 exact zH [] Z Z A Z
theorem u5 (p:Nat->Bool) {n q:Nat} (u:n<=8) (y:q<n):zb (qT p n) q=p q:=by
 have e:=HY (λi=>decide (i<n)&&p i) n 8 u (λi h1 h2=>by rw[zAb zB];rfl)
 grind [zb,qT,dH,Rk]
theorem Jd (y:List Ph) (u:Bool) (i:Nat):∀n,XG y u i n=qT (uq y u i) n
 |0=>rfl
 |n+1=>by
  unfold XG qT;rw[Jd y u i n];have:(2:Int) ^ n=p2 n:=by unfold p2;rw[zAv]
  rw[this]
theorem Ys (u:List Ph) (y:Bool) {p q:Nat} (z:ln u<=8) (B:p<ln u) (A:q<ln u):vM (gS u y (ln u)) p q=uq u y p q:=by
 have hl:(gS u y (ln u)).length=ln u:=by simp[gS]
 unfold vM;rw[zAc zB,zAj,zAv]
 have e:(gS u y (ln u)).getD p dd=XG u y p (ln u):=by
  grind [vM,gS,uq]
 rw[e,Jd];exact u5 _ z A
theorem Uk (d:Dk) (l:List (Int×Int)):∀i k,k<i->∃e,(JQ d l i).1.getD k dd=UU e (l.getD k dd)
 |0,k,h=>absurd h (zBa _)
 |i+1,k,h=>by
  have hl:=UV d l i;unfold JQ;by_cases hk:k=i
  .subst hk;refine⟨(JQ d l k).2,?_⟩;simp[pi,hl]
  .obtain⟨e,u⟩:=Uk d l i k zB;refine⟨e,?_⟩;rw[<-u];simp only[zAk];rw[zA9 zB]
def ShB (l:List (Int×Int)):Bool:=(l.all λs=>decide (0<=s.1/\s.1<=1/\0<=s.2/\s.2<=3))&&(l.all λs=>[0,1,2].all λg:Int=>decide (s.2<=g)||(l.any λu=>u.2==g))
def Sk (n:Int):ShB (qK n)=true:=by
 unfold qK;split
 .decide
 split
 .decide
 split
 .decide
 split
 .decide
 split
 .decide
 .decide
theorem CE (d:Dk) (s:Int×Int):(UU d s).ring=s.1/\(UU d s).group=s.2/\1<=(UU d s).ming/\(UU d s).ming<=(UU d s).maxg/\(UU d s).maxg<=60/\1<=(UU d s).yel/\(UU d s).yel<=60/\0<=(UU d s).red/\(UU d s).red<=60/\0<=(UU d s).walk/\(UU d s).walk<=60/\0<=(UU d s).clear/\(UU d s).clear<=60/\(UU d s).walk+(UU d s).clear<=(UU d s).maxg/\((UU d s).walk=0↔(UU d s).clear=0):=by
 have u:=yN d (3-1+1) zB;have y:=yN (ad d) (2-1+1) zB;have z:=yN (ad (ad d)) 3 zB;have A:=yN (ad (ad (ad (ad d)))) (2-1+1) zB;have B:=yN (ad (ad (ad (ad (ad d))))) (2-1+1) zB;have C:=yN (ad (ad (ad (ad (ad (ad d)))))) 4 zB;have E:=yN (ad (ad (ad (ad d)))) 4 zB;unfold UU
 grind [Dk,UU]
theorem Jy (d:Dk):JV (MG d):=by
 have Y:=MH (nx d 6);have y:=Sk (nx d 6);have ac:=yN (ad d) 3 zB;have A:(VQ d).1.length=(qK (nx d 6)).length:=UV _ _ _
 have E:∀k,k<(VQ d).1.length->∃e,zS (MG d) k=UU e ((qK (nx d 6)).getD k dd):=λk hk=>by
  rw[A]at hk;exact Uk _ _ _ k hk
 have u:(MG d).ph=(VQ d).1:=rfl;generalize qK (nx d 6)=R at *;generalize L:(nx (VQ d).2 4==3)=C at *;have I:(MG d).cf=gS (VQ d).1 C (VQ d).1.length:=by unfold MG;rw[L]
 unfold ShB at y;simp only[zAi,zAm,zAg,zCk,zBr,zBv]at y
 have B:∀k,k<(VQ d).1.length->R.getD k dd∈R:=λk hk=>by
  grind
 have G:∀p q:Nat,p<(VQ d).1.length->q<(VQ d).1.length->vM (MG d).cf p q=uq (VQ d).1 C p q:=λp q z O=>by
  grind [Dk,MG,Ys]
 have S:(MG d).cf.length=(VQ d).1.length:=by rw[I];simp[gS]
 refine⟨?_,?_,?_,?_,?_,?_,?_,?_,?_,?_,?_⟩
 .rw[u];omega
 .grind
 .intro i hi;rw[u]at hi⊢
  have e:(MG d).cf.getD i dd=XG (VQ d).1 C i (VQ d).1.length:=by
   grind [Dk,MG,gS,pi]
  rw[e];exact OB _ _ _ _
 .grind [Dk,MG,uq]
 .grind [Dk,MG,uq,VQ]
 .intro p q z O M h;rw[u]at z O;rw[G p q z O];unfold uq;rw[show(p != q)=true by simpa using M,zAj]
  rcases h with h|h
  .rw[show(((VQ d).1.getD p dd).ring==((VQ d).1.getD q dd).ring)=true from zBv.2 h];rfl
  .rw[show(((VQ d).1.getD p dd).group != ((VQ d).1.getD q dd).group)=true from zC2.2 h];simp
 .grind [Dk,MG,CE]
 .grind [Dk,MG,CE]
 .grind [Dk,MG,CE]
 .intro p z g W V;obtain⟨e,U⟩:=E p z;rw[U,(CE e _).2.1]at V;have h3:=y.1 _ (B p z)
  have X:g∈([0,1,2]:List Int):=by
   grind
  grind [Dk,MG,List.getElem_of_mem,CE,pi]
 all_goals grind [Dk,MG]
def uT (u:List Int) (B:ln u<=40) (p q:Int):zO 74 [zE iA u,iA p,iA q] [] (bA (vM u p q)) []:=by
 have hl:=zA iA u;unfold vM;by_cases h1:0<=p
 case neg=>
  rw[zAb (λh=>h1 h.1)];refine eM call74 λF hF=>?_
  exact mx
 by_cases y:p<ln u
 case neg=>
  rw[zAb (λh=>y h.2.2.1)];refine eM call74 λF hF=>?_
  exact mx
 by_cases h2:0<=q
 case neg=>
  rw[zAb (λh=>h2 h.2.1)];refine eM call74 λF hF=>?_
  exact mx
 by_cases z:q<ln u
 case neg=>
  rw[zAb (λh=>z h.2.2.2)];refine eM call74 λF hF=>?_
  exact mx
 rw[zAc ⟨h1,h2,y,z⟩,zAj];have C:=yC iA u p h1 y;generalize u.getD p.toNat dd=x at *;by_cases A:uX (wY x q) 1=1
 .rw[show(uX (wY x q) 1==1)=true by rw[zBv];exact A];refine eM call74 λF hF=>?_
  exact mx
 .rw[show(uX (wY x q) 1==1)=false by rw[zBd];exact A];refine eM call74 λF hF=>?_
  exact mx
