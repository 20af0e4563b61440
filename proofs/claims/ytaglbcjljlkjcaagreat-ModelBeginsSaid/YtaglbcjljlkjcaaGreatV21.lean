/- Part 21. -/
import Derived.Test.YtaglbcjljlkjcaaGreatV20
namespace Go.Proofs.YtaglbcjljlkjcaaGreat.Av
open Tryz
set_option linter.all false
set_option maxRecDepth 4000
set_option maxHeartbeats 1000000
open List renaming length->ln,replicate->pg,getD->pi
open Inhabited renaming default->dd
def dQ (j:Jn) (u:ln j.ph<=1000) (c:Ct) (hc:ln c.li=ln j.ph) (r:Int):zO 252 [xC j,Vs c,iA r] [] (bA (WV j c r)) []:=by rw[kH];exact Ny j u c hc r
def Ea (j:Jn) (z:ln j.ph<=1000) (u:ln j.cf<=40) (c:Ct) (y:ln c.nx=2) (r:Int) (A:0<=r/\r<2) (t:Nat) (B:t<ln j.ph) (hx:c.nx.getD r.toNat dd= -1\/0<=c.nx.getD r.toNat dd):zO 251 [xC j,Vs c,iA r,iA (t:Int)] [] (iA (aR j c r t)) []:=by rw[kH];exact My j z u c y r A t B hx
def Wy (c:Ct) (u:ln c.li<=25):zO 254 [Vs c] [] (iA (LJ c)) []:=by rw[kH];exact Py c u
theorem Yw (p:Nat->Bool):∀n,n<=25->(qT p n=0↔∀i,i<n->p i=false)
 |0,_=>⟨λ_ i h=>absurd h (zBa _),λ_=>rfl⟩
 | n+1,h=>by
  have y:=Yw p n zB;have hb:=ZU p n zB;have z:=BO n zB;unfold qT
  cases u:p n with
  |true=>
   rw[Os Z];refine⟨λh=>by omega,λh=>?_⟩;have:=h n zB;rw[u]at this;cases this
  |false=>
   rw[hW xG,y];refine⟨λh i hi=>?_,λh i hi=>h i zB⟩;by_cases e:i=n
   .rw[e];exact u
   .exact h i zB
def Vy (c:Ct) (u:ln c.li<=25):AY c=decide (LJ c=0):=by
 rw[zEl,zAg];unfold LJ AY;rw[Yw _ _ u,zAm];constructor
 .intro h i hi;have:=h (xI c i) (by simp[xI,pi,hi])
  grind [AY,LJ,ST]
 all_goals grind [AY,LJ,List.getElem_of_mem,ST,xI,pi]
def zC:xM:= .box [.s (.slice none 0 0),iA 0,.s (.slice none 0 0),iA 0]
def Da (j:Jn) (t:Nat) (e:Bool) (i:Int) (c:Ct) (o:List Int):St:=⟨[(83,iA i),(2,iA t),(3,.ptr 3 0 0),(6,.ptr 6 0 0),(7,.ptr 3000 0 0)],XS e c o++[(3,.box [zE yU j.ph,zE iA j.cf,iA j.st]),(6,zC)]⟩
def fL (j:Jn) (e:Bool) (i:Int) (c:Ct) (o:List Int):St:=⟨[(129,iA i),(3,.ptr 3 0 0),(6,.ptr 6 0 0),(7,.ptr 3000 0 0)],XS e c o++[(3,.box [zE yU j.ph,zE iA j.cf,iA j.st]),(6,zC)]⟩
theorem yk (j:Jn) (J:JV j) (c:Ct) (C:CV j c) (t:Int):zO 197 [xC j,LK c,iA t] [] (LK (GC j c t)) []:=by
 have hn:=J.n;have O:j.ph.length<=1000:=by omega
 have c3:=J.c;have b8:=C.n;have cm:=C.m;have cn:=C.w;have c7:=J.st;have c6:=zA yU j.ph;have cp:(c.li.map yX).length=j.ph.length:=by rw[f7];exact b8
 have c5:(c.nx.map iA).length=2:=by rw[f7];exact cm
 have k3:=wg c zB zB;unfold GC;by_cases hw:0<c.wt
 .rw[Os hw];refine eM call197 λF hF=>?_
  repeat' (first|(apply zG;first|(apply HX;refine qH (nw:=[3000]) (gU tok 3000 Z Z) Z Z Z ?_)|refine vT tok Z Z ?_|(apply xJ;(first|(refine vF 188 ?_;first|refine wO (zK (k3) Z Z Z Z Z) Z ?_|refine qH (zK (k3) Z Z Z Z Z) Z Z Z ?_|refine bX (zK (k3) Z Z Z Z Z) Z Z Z ?_)))|refine bY tok Z Z Z Z ?_|(apply cS;refine cJ tok Z Z Z ?_)|refine WC vA ?_|apply qV)|first|refine SQ ?_|fail)
  refine WW ?_;exact zH [] Z Z (kH ⟨c.li,c.gr,c.nx,c.wt-1⟩) Z
 rw[hW hw];have h0:c.wt=0:=by omega
 have CL:=ml J C h0 t;have b5:=CB b8 t;have b6:=Md j c t;rw[cp]at k3;have hN:∀i,((MC j c t i).map yX).length=j.ph.length:=λi=>by rw[f7];exact PV j c t i
 refine eM call197 λF hF=>?_
 repeat' (first|(apply zG;first|(apply HX;refine qH (nw:=[3000]) (gU tok 3000 Z Z) Z Z Z ?_)|refine vT tok Z Z ?_|(apply xJ;(first|(refine vF 188 ?_;first|refine wO (zK (k3) Z Z Z Z Z) Z ?_|refine qH (zK (k3) Z Z Z Z Z) Z Z Z ?_|refine bX (zK (k3) Z Z Z Z Z) Z Z Z ?_)))|refine bY tok Z Z Z Z ?_|(apply cS;refine cJ tok Z Z Z ?_)|refine WC vA ?_|apply qV)|first|refine SQ ?_|fail)
 (repeat' (first|refine Ch ?_|apply yY|apply xN|intro hc|(apply zG;first|refine SM ?_)|fail))
 refine yH Z (xO ?_);apply wF;refine dV [3000,1001,1002,3,4,6] [2,3,4,6,7,8] ⟨[(2,iA t),(3,.ptr 3 0 0),(4,.ptr 4 0 0),(6,.ptr 6 0 0),(7,.ptr 3000 0 0),(8,bA (ZO j t))],[(3000,.box [.ref 1001 0 j.ph.length,iA c.gr,.ref 1002 0 (c.nx.map iA).length,iA c.wt]),(1001,.arr 2 (c.li.map yX) false),(1002,.arr 1 (c.nx.map iA) false),(3,.box [zE yU j.ph,zE iA j.cf,iA j.st]),(4,.box [zE yX c.li,iA c.gr,zE iA c.nx,iA c.wt]),(6,zC)]⟩ rfl ?_ ?_
 .clear k3 CL;by_cases a1:0<=t
  .by_cases a2:t<j.ph.length
   .rw[show ZO j t=true from zAc ⟨a1,a2⟩];refine WW ?_;exact⟨rfl,rfl⟩
   .rw[show ZO j t=false from zAb (λh=>a2 h.2)];refine WW ?_;exact⟨rfl,rfl⟩
  .rw[show ZO j t=false from zAb (λh=>a1 h.1)];refine WW ?_;exact⟨rfl,rfl⟩
 clear k3;refine WW ?_;refine zM (j.ph.length) [1001,3,6,3000,1002] [3,6,3000,1002] [2,3,6,7,8,38,39] [40,2,3,6,7,8,38,39] Z (λi T U=>⟨(40,iA i)::T,(1001,.arr 2 ((MC j c t i).map yX) false)::U⟩) ?_;(conv=>whnf);refine⟨by(rw[b5];rfl),?_,?_⟩
 .intro i hi;have hy:=zJ yU j.ph i hi
  change (j.ph.map yU)[i]? =some (yU (zS j i))at hy
  have cx:=zJ yX c.li i zB
  change (c.li.map yX)[i]? =some (yX (xI c i))at cx
  have cj:∃l,((MC j c t i).map yX)[i]? =some (yX l):=⟨_,zJ yX (MC j c t i) i (by rw[PV];exact hi)⟩;obtain⟨lm,cj⟩:=cj;have c8:=J.ti i hi;have da:=Xk (C.k i hi) zB zB;have cv:Sw (zS j i):=⟨zB,zB,zB,zB⟩;have cy:=hN i;have ls:=λlv=>Cr (zS j i) cv zB ⟨zB,zB⟩ (xI c i) (C.k i hi) lv
  have ck:=uT j.cf zB i t;have es:=CD j c t i;have em:(MC j c t (i+1)).map yX=((MC j c t i).map yX).set i (yX (CP (zS j i) (xI c i) (GB j c t i))):=by rw[es,zBt]
  rw[em];have Y:GB j c t i=_:=rfl
  conv at Y=>rhs;unfold GB
  have bl:=ls (GB j c t i);clear ls es em CL hN b5 b6;generalize CP (zS j i) (xI c i) (GB j c t i)=ln,(MC j c t i).map yX=xs at *;generalize GB j c t i=lv at *;generalize vM j.cf i t=cq at*
  cases ha:ZO j t with
  |false=>
   rw[ha]at Y;rw[hW xG]at Y;generalize zS j i=ph,xI c i=l at *;by_cases hm:ph.maxg<=l.tk+1
   .rw[zAc hm]at Y;subst Y;refine zP bl ?_;rfl
   .rw[zAb hm]at Y;subst Y;refine zP bl ?_;rfl
  | true=>
   rw[ha]at Y;rw[Os Z]at Y;generalize zS j i=ph,xI c i=l at *;by_cases ch:(i:Int)=t
   .rw[zAb (λh=>h ch)]at Y;rw[zA7]at Y;subst Y;by_cases hm:ph.maxg<=l.tk+1
    all_goals
     (refine zP bl ?_)
     rfl
   rw[zAc ch,zAj]at Y;by_cases hm:ph.maxg<=l.tk+1
   .rw[zAc hm,zCt]at Y;subst Y;refine zP bl ?_;rfl
   .rw[zAb hm,zCh]at Y;rw[Y]at bl;clear Y
    cases cq with
    |true=>
     refine yB (xH ck bl) ?_;rfl
    |false=>
     refine yB (xH ck bl) ?_;rfl
 .rw [b6];have e1:((US j c t).map yX).length=j.ph.length:=by simp[US]
  have eH:∀x:List Li,x=US j c t->(x.map yX).length=j.ph.length:=λx h=>by rw[h];exact e1
  clear b6 b5 hN;have a7:=CL.n;have a6:=CL.m
  cases ha:ZO j t with
  | true=>
   rw[Os Z];unfold ZO at ha;rw[zAg]at ha;obtain⟨tn,rfl⟩:∃tn:Nat,t=tn:=⟨t.toNat,zB⟩;rw[zAv];generalize db:tn=t at *;have ht:t<j.ph.length:=by omega
   obtain⟨u,ac⟩:∃u:Ct,u=⟨US j c t,c.gr,c.nx,c.wt⟩:=⟨_,rfl⟩;rw[<-ac]at CL a7 a6;rw[show US j c t=u.li by rw[ac]]at e1;rw[show US j c t=u.li by rw[ac],show c.gr=u.gr by rw[ac],show c.nx=u.nx by rw[ac],show c.wt=u.wt by rw[ac]];rw[show(⟨u.li,u.gr,u.nx,u.wt⟩:Ct)=u from Z];have bs:u.wt=0:=by rw[ac];exact h0
   clear ac eH;have S:u.li.length=j.ph.length:=a7;have V:u.nx.length=2:=a6;have a5:=CL;obtain⟨G,bu⟩:=al J a5 bs ht 0;have B:=G.n;have E:=G.m;have b1:=ik J (c:=u) (r:=0) ht;have ag:u.gr=u.gr:=rfl;refine WW ?_;refine gP [3000,1001,1002,2001,3,6] [83,2,3,6,7] (Da j t false 0 u u.nx) (Da j t (decide ((kK j t u 0).gr≠u.gr)) 1 (kK j t u 0) u.nx) (Da j t (decide ((kK j t (kK j t u 0) 1).gr≠u.gr)) 2 (kK j t (kK j t u 0) 1) (if(kK j t u 0).gr=u.gr then(kK j t u 0).nx else u.nx)) Z (by unfold Da;rw[show XS false u u.nx=qR u 1002 from Z];unfold qR;rw[e1];rfl) ?_ ?_ ?_
   .unfold Da;clear b1 B E bu G;rw[show XS false u u.nx=qR u 1002 from Z];unfold qR;have hxv:=a5.v 0 zB;have cc:=Ea j O zB u V 0 zB t ht Uj;have M:=dQ j O u S 0;by_cases A:aR j u 0 t= -1
    .rw[A]at cc;rw[show kK j t u 0=u by unfold kK;rw[Os A];split<;>rfl];rw[show decide (u.gr≠u.gr)=false from zAb (λh=>h ag)];clear M hxv A;refine zP cc ?_;rfl
    obtain⟨p,I,hp,b0⟩:=WR J (c:=u) (r:=0) ht A;rw[I]at cc
    cases hd:WV j u 0 with
    |false=>
     rw[hd]at M;rw[show kK j t u 0=u by unfold kK;rw[hW JF]];rw[show decide (u.gr≠u.gr)=false from zAb (λh=>h ag)];clear hd A I hxv;refine yB (xH cc M) ?_;rfl
    |true=>
    rw[hd]at M;have y:kK j t u 0=vV j u p:=by unfold kK;rw[Os hd,hW A,I,zAv]
    clear A I hxv hd;by_cases hk:dG j u p=true\/u.gr=(zS j p).group
    .have X:=bL j J O zB u S V p hp (J.rg p hp) hk
     have ax:(vV j u p).gr=u.gr:=by
      rcases jN j u p with h|h
      .exact(zAt Ct.gr h.2).trans ag
      .rcases hk with hk|hk
       .rw[hk]at h;cases h.1
       .exact h.2.trans (hk.symm.trans ag)
     rw[y,show decide ((vV j u p).gr≠u.gr)=false from zAb (λh=>h ax)];generalize vV j u p=b at *;clear y ax hk;unfold qR at X;refine yB (qS cc M X) ?_;rfl
    .have bd:dG j u p=false:=by
      cases h:dG j u p with
      |false=>rfl
      |true=>exact absurd (.inl h) hk
     have bf:u.gr≠(zS j p).group:=λh=>hk (.inr h)
     have X:=DY j J O zB u S V p hp (J.rg p hp) bd bf
     have ax:(vV j u p).gr≠u.gr:=by
      rcases jN j u p with h|h
      .rw[bd]at h;cases h.1
      .rw[h.2,<-ag];exact λh=>bf h.symm
     rw[y,show decide ((vV j u p).gr≠u.gr)=true from zAc ax];generalize vV j u p=b at *;clear y ax hk bd bf;unfold qR aF at X;refine yB (qS cc M X) ?_;rfl
   .clear S V ag;have co:=b1;generalize kK j t u 0=z at *;unfold Da;by_cases R:z.gr=u.gr
    .rw [Os R,zAb (λh=>h R)];rw[show XS false z u.nx=qR z 1002 from Z];unfold qR;have hxv:=G.v 1 zB;have cc:=Ea j O zB z E 1 zB t ht Uj;have M:=dQ j O z B 1;by_cases A:aR j z 1 t= -1
     .rw[A]at cc;rw[show kK j t z 1=z by unfold kK;rw[Os A];split<;>rfl];rw[show decide (z.gr≠u.gr)=false from zAb (λh=>h R)];clear M hxv A;refine zP cc ?_;rfl
     obtain⟨p,I,hp,b0⟩:=WR J (c:=z) (r:=1) ht A;rw[I]at cc
     cases hd:WV j z 1 with
     |false=>
      rw[hd]at M;rw[show kK j t z 1=z by unfold kK;rw[hW JF]];rw[show decide (z.gr≠u.gr)=false from zAb (λh=>h R)];clear hd A I hxv;refine yB (xH cc M) ?_;rfl
     |true=>
     rw[hd]at M;have y:kK j t z 1=vV j z p:=by unfold kK;rw[Os hd,hW A,I,zAv]
     clear A I hxv hd;by_cases hk:dG j z p=true\/z.gr=(zS j p).group
     .have X:=bL j J O zB z B E p hp (J.rg p hp) hk
      have ax:(vV j z p).gr=u.gr:=by
       rcases jN j z p with h|h
       .exact(zAt Ct.gr h.2).trans R
       .rcases hk with hk|hk
        .rw[hk]at h;cases h.1
        .exact h.2.trans (hk.symm.trans R)
      rw[y,show decide ((vV j z p).gr≠u.gr)=false from zAb (λh=>h ax)];generalize vV j z p=b at *;clear y ax hk;unfold qR at X;refine yB (qS cc M X) ?_;rfl
     .have bd:dG j z p=false:=by
       cases h:dG j z p with
       |false=>rfl
       |true=>exact absurd (.inl h) hk
      have bf:z.gr≠(zS j p).group:=λh=>hk (.inr h)
      have X:=DY j J O zB z B E p hp (J.rg p hp) bd bf
      have ax:(vV j z p).gr≠u.gr:=by
       rcases jN j z p with h|h
       .rw[bd]at h;cases h.1
       .rw[h.2,<-R];exact λh=>bf h.symm
      rw[y,show decide ((vV j z p).gr≠u.gr)=true from zAc ax];generalize vV j z p=b at *;clear y ax hk bd bf;unfold qR aF at X;refine yB (qS cc M X) ?_;rfl
    .have ap:z.gr≠u.gr:=R
     have br:z.gr=(zS j t).group:=by
      rcases co with h|h
      .exact absurd h ap
      .exact h
     rw[hW R,zAc ap];rw[show XS true z u.nx=aF z u.nx from Z];unfold aF;have hxv:=G.v 1 zB;have cc:=Ea j O zB z E 1 zB t ht Uj;have M:=dQ j O z B 1;by_cases A:aR j z 1 t= -1
     .rw[A]at cc;rw[show kK j t z 1=z by unfold kK;rw[Os A];split<;>rfl];rw[show decide (z.gr≠u.gr)=true from zAc ap];clear M hxv A;refine zP cc ?_;rfl
     obtain⟨p,I,hp,b0⟩:=WR J (c:=z) (r:=1) ht A;rw[I]at cc
     cases hd:WV j z 1 with
     |false=>
      rw[hd]at M;rw[show kK j t z 1=z by unfold kK;rw[hW JF]];rw[show decide (z.gr≠u.gr)=true from zAc ap];clear hd A I hxv;refine yB (xH cc M) ?_;rfl
     |true=>
     rw[hd]at M;have y:kK j t z 1=vV j z p:=by unfold kK;rw[Os hd,hW A,I,zAv]
     clear A I hxv hd;have X:=ZN j J O zB z B E p hp (J.rg p hp) (.inr (br.trans (b0:(zS j p).group=(zS j t).group).symm))
     have ax:(vV j z p).gr≠u.gr:=by
      rcases jN j z p with h|h
      .rw[h.2];exact ap
      .rw[h.2,(b0:(zS j p).group=(zS j t).group),<-br];exact ap
     rw[y,show decide ((vV j z p).gr≠u.gr)=true from zAc ax];generalize vV j z p=b at *;clear y ax;unfold qR at X;refine yB (qS cc M X) ?_;rfl
   .generalize (if(kK j t u 0).gr=u.gr then(kK j t u 0).nx else u.nx)=o at *;generalize kK j t (kK j t u 0) 1=c2 at *;unfold Da;by_cases he:c2.gr=u.gr
    .rw[zAb (λh=>h he)];refine WW ?_;exact zH [] Z Z (kH c2) Z
    .rw[zAc he];refine WW ?_;exact zH [] Z Z (kH c2) Z
  | false=>
   rw[hW xG];obtain⟨u,ac⟩:∃u:Ct,u=⟨US j c t,c.gr,c.nx,c.wt⟩:=⟨_,rfl⟩;rw[<-ac]at CL a7 a6;rw[show US j c t=u.li by rw[ac]]at e1;rw[show US j c t=u.li by rw[ac],show c.gr=u.gr by rw[ac],show c.nx=u.nx by rw[ac],show c.wt=u.wt by rw[ac]];rw[show(⟨u.li,u.gr,u.nx,u.wt⟩:Ct)=u from Z];have bs:u.wt=0:=by rw[ac];exact h0
   clear ac eH;have c4:=zA iA u.nx;have C:=CL;have cg:=xg j O J.gp;have ca:=OA J
   have b9:gF j<=4:=by
    have:∀n,n<=j.ph.length->AX j.ph n<=4:=λn=>by
     induction n with
     |zero=>intro _;show(0:Int)<=4;omega
     |succ n ih=>
      intro h;have h1:=ih zB;have h2:=J.gp n zB;unfold zS at h2;unfold AX;omega
    exact this _ (zAe _)
   have b7:=C.g;have a9:(u.gr+1).tmod (gF j)=(u.gr+1) % gF j:=zBi zB;have hO:DZ u u.nx.length=Fh u:=by unfold DZ Fh;rw[zAa]
   have a8:DZ u 0=decide (LJ u=0):=by rw[<-Vy u zB];unfold DZ;simp
   have ks:=Wy u zB;unfold Vs at ks;rw[e1]at ks;have hxv:=λ(i:Nat) (hi:i<2)=>C.v i hi
   clear CL cn hw;refine WW ?_;by_cases ci:LJ u=0
   .have bz:decide (LJ u=0)=true:=zAc ci;rw[bz]at a8;generalize LJ u=se at *;refine zP ks ?_;refine zM (u.nx.length) [3,6,3000,1001,1002] [3,6,3000,1001,1002] [3,6,7,108,109] [14,110,3,6,7,108,109] Z (λi T U=>⟨(14,bA (DZ u i))::(110,iA i)::T,U⟩) ?_;(conv=>whnf);refine⟨by(rw[a8];rfl),?_,?_⟩
    .intro i hi;have hy:=zJ iA u.nx i hi;have hx:=hxv i zB
     have cw:u.nx.getD i default= -1\/0<=u.nx.getD i default:=by rcases hx with h|h;exact .inl h;exact .inr h.1
     have es:=MB u i hi;rw[es];clear hxv hx es cg ks hO a8;generalize DZ u i=o,u.nx.getD i default=x at *;by_cases hx:x= -1
     .rw[show(x== -1)=true by rw[zBv];exact hx,zCv]
      cases o with
      |false=>
       refine WW ?_;rfl
      |true=>
       refine WW ?_;rfl
     .rw[show(x== -1)=false by rw[zBd];exact hx,zB3]
      cases o with
      |false=>
       refine WW ?_;rfl
      |true=>
       refine WW ?_;rfl
    .rw [hO];clear a8 hO ks hxv
     cases bb:Fh u with
     | true=>
      have a3:AZ j u=vH j (vH j (QH j u ((u.gr+1) % gF j)) 0) 1:=by unfold AZ;rw[Os bb]
      rw[a3];have b3:0<=(u.gr+1) % gF j/\(u.gr+1) % gF j<gF j:=⟨zCx _ zB,zCq _ zB⟩;have av:=CT C b3;have b4:(QH j u ((u.gr+1) % gF j)).wt=0:=bs;have ce:=MA j O ((u.gr+1) % gF j) u.gr u.wt (u.li.map yX) (u.nx.map iA) j.ph.length (u.nx.map iA).length
      have bx:([(3000,.box [.ref 1001 0 j.ph.length,iA ((u.gr+1) % gF j),.ref 2001 0 2,iA u.wt]),(1001,.arr 2 (u.li.map yX) false),(1002,.arr 1 (u.nx.map iA) false),(2001,.arr 1 [iA (kS j 0 ((u.gr+1) % gF j) 0),iA (kS j 1 ((u.gr+1) % gF j) 0)] false)]:List (Nat×xM))=aF (QH j u ((u.gr+1) % gF j)) u.nx:=by
       unfold aF;rw[show((QH j u ((u.gr+1) % gF j)).li.map yX).length=j.ph.length from e1];rfl
      rw[bx]at ce;clear bx;rw[<-a9]at ce;rw[a9]at ce;generalize b2:QH j u ((u.gr+1) % gF j)=L at *;rw[<-a9]at ce;have cr:¬gF j=0:=by omega
      generalize gF j=gm at *;have az:=av.n;have a4:=av.m;obtain⟨G,bu⟩:=ZP J av b4 (r:=0) zB;have B:=G.n;have E:=G.m
      change CV j (vH j L 0)at G
      change (vH j L 0).li.length=j.ph.length at B
      change (vH j L 0).nx.length=2 at E
      clear a3 b2 C;unfold aF at ce;refine yB (xH cg ce) ?_;refine gP [3000,1001,1002,2001,3,6] [129,3,6,7] (fL j true 0 L u.nx) (fL j true 1 (vH j L 0) u.nx) (fL j true 2 (vH j (vH j L 0) 1) u.nx) Z Z ?_ ?_ ?_
      .unfold fL;rw[show XS true L u.nx=aF L u.nx from Z];unfold aF;have M:=dQ j O L az 0;have au:=zJ iA L.nx 0 zB;have hv:=av.v 0 zB;have bk:(L.nx.map iA).length=2:=by rw[f7];exact a4
       cases hd:WV j L 0 with
       |false=>
        rw[hd]at M;rw[show vH j L 0=L by unfold vH;rw[hW QU]];clear hd;refine zP M ?_;rfl
       |true=>
       rw[hd]at M
       have y:vH j L 0=if L.nx.getD 0 default= -1 then L else vV j L (L.nx.getD 0 default).toNat:=by
        unfold vH;rw[hd]
        show(if true=true/\L.nx.getD 0 default≠ -1 then vV j L (L.nx.getD 0 default).toNat else L)=_
        by_cases h:L.nx.getD 0 default= -1
        .rw[Os h,hW (λk=>k.2 h)]
        .rw[hW h,Os ⟨rfl,h⟩]
       clear hd;by_cases A:L.nx.getD 0 default= -1
       .rw[Os A]at y;rw[y];clear y hv;generalize L.nx.getD 0 default=x at *;refine zP M ?_;rfl
       .rw[hW A]at y
        have ar:CQ j (0:Nat) L.gr (L.nx.getD 0 default):=by
         rcases hv with h|h
         .exact absurd h A
         .exact h
        obtain⟨i1,i2,i3,W⟩:=ar;obtain⟨p,I⟩:∃p:Nat,L.nx.getD 0 default=p:=⟨(L.nx.getD 0 default).toNat,zB⟩;rw[I]at y au A i2 W;rw[zAv]at y W;have hp:p<j.ph.length:=by omega
        have X:=ZN j J O zB L az a4 p hp (J.rg p hp) (.inr W.symm);rw[y];clear y hv i1 i2 i3 W I;generalize vV j L p=b at *;unfold qR at X;refine yB (xH M X) ?_;rfl
      .generalize vH j L 0=z at *;unfold fL;rw[show XS true z u.nx=aF z u.nx from Z];unfold aF;have M:=dQ j O z B 1;have au:=zJ iA z.nx 1 zB;have hv:=G.v 1 zB;have bk:(z.nx.map iA).length=2:=by rw[f7];exact E
       cases hd:WV j z 1 with
       |false=>
        rw[hd]at M;rw[show vH j z 1=z by unfold vH;rw[hW QU]];clear hd;refine zP M ?_;rfl
       |true=>
       rw[hd]at M
       have y:vH j z 1=if z.nx.getD 1 default= -1 then z else vV j z (z.nx.getD 1 default).toNat:=by
        unfold vH;rw[hd]
        show(if true=true/\z.nx.getD 1 default≠ -1 then vV j z (z.nx.getD 1 default).toNat else z)=_
        by_cases h:z.nx.getD 1 default= -1
        .rw[Os h,hW (λk=>k.2 h)]
        .rw[hW h,Os ⟨rfl,h⟩]
       clear hd;by_cases A:z.nx.getD 1 default= -1
       .rw[Os A]at y;rw[y];clear y hv;generalize z.nx.getD 1 default=x at *;refine zP M ?_;rfl
       .rw[hW A]at y
        have ar:CQ j (1:Nat) z.gr (z.nx.getD 1 default):=by
         rcases hv with h|h
         .exact absurd h A
         .exact h
        obtain⟨i1,i2,i3,W⟩:=ar;obtain⟨p,I⟩:∃p:Nat,z.nx.getD 1 default=p:=⟨(z.nx.getD 1 default).toNat,zB⟩;rw[I]at y au A i2 W;rw[zAv]at y W;have hp:p<j.ph.length:=by omega
        have X:=ZN j J O zB z B E p hp (J.rg p hp) (.inr W.symm);rw[y];clear y hv i1 i2 i3 W I;generalize vV j z p=b at *;unfold qR at X;refine yB (xH M X) ?_;rfl
      .generalize vH j (vH j L 0) 1=c2 at *;unfold fL;refine WW ?_;exact zH [] Z Z (kH c2) Z
     | false=>
      have a3:AZ j u=vH j (vH j u 0) 1:=by unfold AZ;rw[hW (by rw[bb];decide)]
      rw[a3];clear cg a9 a3 ca b9 b7;have a5:=C;have S:=a7;have V:=a6;obtain⟨G,bu⟩:=ZP J C bs (r:=0) zB;have B:=G.n;have E:=G.m
      change CV j (vH j u 0)at G
      change (vH j u 0).li.length=j.ph.length at B
      change (vH j u 0).nx.length=2 at E
      clear bb;refine WW ?_;refine gP [3000,1001,1002,2001,3,6] [129,3,6,7] (fL j false 0 u u.nx) (fL j false 1 (vH j u 0) u.nx) (fL j false 2 (vH j (vH j u 0) 1) u.nx) Z (by unfold fL;rw[show XS false u u.nx=qR u 1002 from Z];unfold qR;rw[e1];rfl) ?_ ?_ ?_
      .unfold fL;rw[show XS false u u.nx=qR u 1002 from Z];unfold qR;have M:=dQ j O u S 0;have au:=zJ iA u.nx 0 zB;have hv:=a5.v 0 zB;have bk:(u.nx.map iA).length=2:=by rw[f7];exact V
       cases hd:WV j u 0 with
       |false=>
        rw[hd]at M;rw[show vH j u 0=u by unfold vH;rw[hW QU]];clear hd;refine zP M ?_;rfl
       |true=>
       rw[hd]at M
       have y:vH j u 0=if u.nx.getD 0 default= -1 then u else vV j u (u.nx.getD 0 default).toNat:=by
        unfold vH;rw[hd]
        show(if true=true/\u.nx.getD 0 default≠ -1 then vV j u (u.nx.getD 0 default).toNat else u)=_
        by_cases h:u.nx.getD 0 default= -1
        .rw[Os h,hW (λk=>k.2 h)]
        .rw[hW h,Os ⟨rfl,h⟩]
       clear hd;by_cases A:u.nx.getD 0 default= -1
       .rw[Os A]at y;rw[y];clear y hv;generalize u.nx.getD 0 default=x at *;refine zP M ?_;rfl
       .rw[hW A]at y
        have ar:CQ j (0:Nat) u.gr (u.nx.getD 0 default):=by
         rcases hv with h|h
         .exact absurd h A
         .exact h
        obtain⟨i1,i2,i3,W⟩:=ar;obtain⟨p,I⟩:∃p:Nat,u.nx.getD 0 default=p:=⟨(u.nx.getD 0 default).toNat,zB⟩;rw[I]at y au A i2 W;rw[zAv]at y W;have hp:p<j.ph.length:=by omega
        have X:=bL j J O zB u S V p hp (J.rg p hp) (.inr W.symm);rw[y];clear y hv i1 i2 i3 W I;generalize vV j u p=b at *;unfold qR at X;refine yB (xH M X) ?_;rfl
      .generalize vH j u 0=z at *;unfold fL;rw[show XS false z u.nx=qR z 1002 from Z];unfold qR;have M:=dQ j O z B 1;have au:=zJ iA z.nx 1 zB;have hv:=G.v 1 zB;have bk:(z.nx.map iA).length=2:=by rw[f7];exact E
       cases hd:WV j z 1 with
       |false=>
        rw[hd]at M;rw[show vH j z 1=z by unfold vH;rw[hW QU]];clear hd;refine zP M ?_;rfl
       |true=>
       rw[hd]at M
       have y:vH j z 1=if z.nx.getD 1 default= -1 then z else vV j z (z.nx.getD 1 default).toNat:=by
        unfold vH;rw[hd]
        show(if true=true/\z.nx.getD 1 default≠ -1 then vV j z (z.nx.getD 1 default).toNat else z)=_
        by_cases h:z.nx.getD 1 default= -1
        .rw[Os h,hW (λk=>k.2 h)]
        .rw[hW h,Os ⟨rfl,h⟩]
       clear hd;by_cases A:z.nx.getD 1 default= -1
       .rw[Os A]at y;rw[y];clear y hv;generalize z.nx.getD 1 default=x at *;refine zP M ?_;rfl
       .rw[hW A]at y
        have ar:CQ j (1:Nat) z.gr (z.nx.getD 1 default):=by
         rcases hv with h|h
         .exact absurd h A
         .exact h
        obtain⟨i1,i2,i3,W⟩:=ar;obtain⟨p,I⟩:∃p:Nat,z.nx.getD 1 default=p:=⟨(z.nx.getD 1 default).toNat,zB⟩;rw[I]at y au A i2 W;rw[zAv]at y W;have hp:p<j.ph.length:=by omega
        have X:=bL j J O zB z B E p hp (J.rg p hp) (.inr W.symm);rw[y];clear y hv i1 i2 i3 W I;generalize vV j z p=b at *;unfold qR at X;refine yB (xH M X) ?_;rfl
      .generalize vH j (vH j u 0) 1=c2 at *;unfold fL;refine WW ?_;exact zH [] Z Z (kH c2) Z
   .have bz:decide (LJ u=0)=false:=zAb ci;rw[bz]at a8;generalize LJ u=se at *;refine zP ks ?_;refine zM (u.nx.length) [3,6,3000,1001,1002] [3,6,3000,1001,1002] [3,6,7,108,109] [14,110,3,6,7,108,109] Z (λi T U=>⟨(14,bA (DZ u i))::(110,iA i)::T,U⟩) ?_;(conv=>whnf);refine⟨by(rw[a8];rfl),?_,?_⟩
    .intro i hi;have hy:=zJ iA u.nx i hi;have hx:=hxv i zB
     have cw:u.nx.getD i default= -1\/0<=u.nx.getD i default:=by rcases hx with h|h;exact .inl h;exact .inr h.1
     have es:=MB u i hi;rw[es];clear hxv hx es cg ks hO a8;generalize DZ u i=o,u.nx.getD i default=x at *;by_cases hx:x= -1
     .rw[show(x== -1)=true by rw[zBv];exact hx,zCv]
      cases o with
      |false=>
       refine WW ?_;rfl
      |true=>
       refine WW ?_;rfl
     .rw[show(x== -1)=false by rw[zBd];exact hx,zB3]
      cases o with
      |false=>
       refine WW ?_;rfl
      |true=>
       refine WW ?_;rfl
    .rw [hO];clear a8 hO ks hxv
     cases bb:Fh u with
     | true=>
      have a3:AZ j u=vH j (vH j (QH j u ((u.gr+1) % gF j)) 0) 1:=by unfold AZ;rw[Os bb]
      rw[a3];have b3:0<=(u.gr+1) % gF j/\(u.gr+1) % gF j<gF j:=⟨zCx _ zB,zCq _ zB⟩;have av:=CT C b3;have b4:(QH j u ((u.gr+1) % gF j)).wt=0:=bs;have ce:=MA j O ((u.gr+1) % gF j) u.gr u.wt (u.li.map yX) (u.nx.map iA) j.ph.length (u.nx.map iA).length
      have bx:([(3000,.box [.ref 1001 0 j.ph.length,iA ((u.gr+1) % gF j),.ref 2001 0 2,iA u.wt]),(1001,.arr 2 (u.li.map yX) false),(1002,.arr 1 (u.nx.map iA) false),(2001,.arr 1 [iA (kS j 0 ((u.gr+1) % gF j) 0),iA (kS j 1 ((u.gr+1) % gF j) 0)] false)]:List (Nat×xM))=aF (QH j u ((u.gr+1) % gF j)) u.nx:=by
       unfold aF;rw[show((QH j u ((u.gr+1) % gF j)).li.map yX).length=j.ph.length from e1];rfl
      rw[bx]at ce;clear bx;rw[<-a9]at ce;rw[a9]at ce;generalize b2:QH j u ((u.gr+1) % gF j)=L at *;rw[<-a9]at ce;have cr:¬gF j=0:=by omega
      generalize gF j=gm at *;have az:=av.n;have a4:=av.m;obtain⟨G,bu⟩:=ZP J av b4 (r:=0) zB;have B:=G.n;have E:=G.m
      change CV j (vH j L 0)at G
      change (vH j L 0).li.length=j.ph.length at B
      change (vH j L 0).nx.length=2 at E
      clear a3 b2 C;unfold aF at ce;refine yB (xH cg ce) ?_;refine gP [3000,1001,1002,2001,3,6] [129,3,6,7] (fL j true 0 L u.nx) (fL j true 1 (vH j L 0) u.nx) (fL j true 2 (vH j (vH j L 0) 1) u.nx) Z Z ?_ ?_ ?_
      .unfold fL;rw[show XS true L u.nx=aF L u.nx from Z];unfold aF;have M:=dQ j O L az 0;have au:=zJ iA L.nx 0 zB;have hv:=av.v 0 zB;have bk:(L.nx.map iA).length=2:=by rw[f7];exact a4
       cases hd:WV j L 0 with
       |false=>
        rw[hd]at M;rw[show vH j L 0=L by unfold vH;rw[hW QU]];clear hd;refine zP M ?_;rfl
       |true=>
       rw[hd]at M
       have y:vH j L 0=if L.nx.getD 0 default= -1 then L else vV j L (L.nx.getD 0 default).toNat:=by
        unfold vH;rw[hd]
        show(if true=true/\L.nx.getD 0 default≠ -1 then vV j L (L.nx.getD 0 default).toNat else L)=_
        by_cases h:L.nx.getD 0 default= -1
        .rw[Os h,hW (λk=>k.2 h)]
        .rw[hW h,Os ⟨rfl,h⟩]
       clear hd;by_cases A:L.nx.getD 0 default= -1
       .rw[Os A]at y;rw[y];clear y hv;generalize L.nx.getD 0 default=x at *;refine zP M ?_;rfl
       .rw[hW A]at y
        have ar:CQ j (0:Nat) L.gr (L.nx.getD 0 default):=by
         rcases hv with h|h
         .exact absurd h A
         .exact h
        obtain⟨i1,i2,i3,W⟩:=ar;obtain⟨p,I⟩:∃p:Nat,L.nx.getD 0 default=p:=⟨(L.nx.getD 0 default).toNat,zB⟩;rw[I]at y au A i2 W;rw[zAv]at y W;have hp:p<j.ph.length:=by omega
        have X:=ZN j J O zB L az a4 p hp (J.rg p hp) (.inr W.symm);rw[y];clear y hv i1 i2 i3 W I;generalize vV j L p=b at *;unfold qR at X;refine yB (xH M X) ?_;rfl
      .generalize vH j L 0=z at *;unfold fL;rw[show XS true z u.nx=aF z u.nx from Z];unfold aF;have M:=dQ j O z B 1;have au:=zJ iA z.nx 1 zB;have hv:=G.v 1 zB;have bk:(z.nx.map iA).length=2:=by rw[f7];exact E
       cases hd:WV j z 1 with
       |false=>
        rw[hd]at M;rw[show vH j z 1=z by unfold vH;rw[hW QU]];clear hd;refine zP M ?_;rfl
       |true=>
       rw[hd]at M
       have y:vH j z 1=if z.nx.getD 1 default= -1 then z else vV j z (z.nx.getD 1 default).toNat:=by
        unfold vH;rw[hd]
        show(if true=true/\z.nx.getD 1 default≠ -1 then vV j z (z.nx.getD 1 default).toNat else z)=_
        by_cases h:z.nx.getD 1 default= -1
        .rw[Os h,hW (λk=>k.2 h)]
        .rw[hW h,Os ⟨rfl,h⟩]
       clear hd;by_cases A:z.nx.getD 1 default= -1
       .rw[Os A]at y;rw[y];clear y hv;generalize z.nx.getD 1 default=x at *;refine zP M ?_;rfl
       .rw[hW A]at y
        have ar:CQ j (1:Nat) z.gr (z.nx.getD 1 default):=by
         rcases hv with h|h
         .exact absurd h A
         .exact h
        obtain⟨i1,i2,i3,W⟩:=ar;obtain⟨p,I⟩:∃p:Nat,z.nx.getD 1 default=p:=⟨(z.nx.getD 1 default).toNat,zB⟩;rw[I]at y au A i2 W;rw[zAv]at y W;have hp:p<j.ph.length:=by omega
        have X:=ZN j J O zB z B E p hp (J.rg p hp) (.inr W.symm);rw[y];clear y hv i1 i2 i3 W I;generalize vV j z p=b at *;unfold qR at X;refine yB (xH M X) ?_;rfl
      .generalize vH j (vH j L 0) 1=c2 at *;unfold fL;refine WW ?_;exact zH [] Z Z (kH c2) Z
     | false=>
      have a3:AZ j u=vH j (vH j u 0) 1:=by unfold AZ;rw[hW (by rw[bb];decide)]
      rw[a3];clear cg a9 a3 ca b9 b7;have a5:=C;have S:=a7;have V:=a6;obtain⟨G,bu⟩:=ZP J C bs (r:=0) zB;have B:=G.n;have E:=G.m
      change CV j (vH j u 0)at G
      change (vH j u 0).li.length=j.ph.length at B
      change (vH j u 0).nx.length=2 at E
      clear bb;refine WW ?_;refine gP [3000,1001,1002,2001,3,6] [129,3,6,7] (fL j false 0 u u.nx) (fL j false 1 (vH j u 0) u.nx) (fL j false 2 (vH j (vH j u 0) 1) u.nx) Z (by unfold fL;rw[show XS false u u.nx=qR u 1002 from Z];unfold qR;rw[e1];rfl) ?_ ?_ ?_
      .unfold fL;rw[show XS false u u.nx=qR u 1002 from Z];unfold qR;have M:=dQ j O u S 0;have au:=zJ iA u.nx 0 zB;have hv:=a5.v 0 zB;have bk:(u.nx.map iA).length=2:=by rw[f7];exact V
       cases hd:WV j u 0 with
       |false=>
        rw[hd]at M;rw[show vH j u 0=u by unfold vH;rw[hW QU]];clear hd;refine zP M ?_;rfl
       |true=>
       rw[hd]at M
       have y:vH j u 0=if u.nx.getD 0 default= -1 then u else vV j u (u.nx.getD 0 default).toNat:=by
        unfold vH;rw[hd]
        show(if true=true/\u.nx.getD 0 default≠ -1 then vV j u (u.nx.getD 0 default).toNat else u)=_
        by_cases h:u.nx.getD 0 default= -1
        .rw[Os h,hW (λk=>k.2 h)]
        .rw[hW h,Os ⟨rfl,h⟩]
       clear hd;by_cases A:u.nx.getD 0 default= -1
       .rw[Os A]at y;rw[y];clear y hv;generalize u.nx.getD 0 default=x at *;refine zP M ?_;rfl
       .rw[hW A]at y
        have ar:CQ j (0:Nat) u.gr (u.nx.getD 0 default):=by
         rcases hv with h|h
         .exact absurd h A
         .exact h
        obtain⟨i1,i2,i3,W⟩:=ar;obtain⟨p,I⟩:∃p:Nat,u.nx.getD 0 default=p:=⟨(u.nx.getD 0 default).toNat,zB⟩;rw[I]at y au A i2 W;rw[zAv]at y W;have hp:p<j.ph.length:=by omega
        have X:=bL j J O zB u S V p hp (J.rg p hp) (.inr W.symm);rw[y];clear y hv i1 i2 i3 W I;generalize vV j u p=b at *;unfold qR at X;refine yB (xH M X) ?_;rfl
      .generalize vH j u 0=z at *;unfold fL;rw[show XS false z u.nx=qR z 1002 from Z];unfold qR;have M:=dQ j O z B 1;have au:=zJ iA z.nx 1 zB;have hv:=G.v 1 zB;have bk:(z.nx.map iA).length=2:=by rw[f7];exact E
       cases hd:WV j z 1 with
       |false=>
        rw[hd]at M;rw[show vH j z 1=z by unfold vH;rw[hW QU]];clear hd;refine zP M ?_;rfl
       |true=>
       rw[hd]at M
       have y:vH j z 1=if z.nx.getD 1 default= -1 then z else vV j z (z.nx.getD 1 default).toNat:=by
        unfold vH;rw[hd]
        show(if true=true/\z.nx.getD 1 default≠ -1 then vV j z (z.nx.getD 1 default).toNat else z)=_
        by_cases h:z.nx.getD 1 default= -1
        .rw[Os h,hW (λk=>k.2 h)]
        .rw[hW h,Os ⟨rfl,h⟩]
       clear hd;by_cases A:z.nx.getD 1 default= -1
       .rw[Os A]at y;rw[y];clear y hv;generalize z.nx.getD 1 default=x at *;refine zP M ?_;rfl
       .rw[hW A]at y
        have ar:CQ j (1:Nat) z.gr (z.nx.getD 1 default):=by
         rcases hv with h|h
         .exact absurd h A
         .exact h
        obtain⟨i1,i2,i3,W⟩:=ar;obtain⟨p,I⟩:∃p:Nat,z.nx.getD 1 default=p:=⟨(z.nx.getD 1 default).toNat,zB⟩;rw[I]at y au A i2 W;rw[zAv]at y W;have hp:p<j.ph.length:=by omega
        have X:=bL j J O zB z B E p hp (J.rg p hp) (.inr W.symm);rw[y];clear y hv i1 i2 i3 W I;generalize vV j z p=b at *;unfold qR at X;refine yB (xH M X) ?_;rfl
      .generalize vH j (vH j u 0) 1=c2 at *;unfold fL;refine WW ?_;exact zH [] Z Z (kH c2) Z
def Kr (c:Ct) (h1:ln c.li<=1000000) (h2:ln c.nx<=1000000):zO 140 [LK c,LK c] [] (bA true) []:=by
 have hl:=zA yX c.li;have z:=zA iA c.nx;refine eM call140 λF hF=>?_
 refine WW ?_;refine zU (c.li) [2,3] [2,3] [2,3,40,41] [42,2,3,40,41] Z (λi gd T U=>⟨(42,iA i)::T,U⟩) (Lq ?_ ?_)
 .intro i gd x post hx hi;have y:=zY yX hx hi;have u:=zX hx hi;clear hx
  (repeat' (first|refine qU ?_|apply yY|apply xN|intro hc|(apply zG;first|refine SE ?_)|fail))
  all_goals (first|rfl|(exfalso;first|(simp[xS]at hc;done)|(revert hc;simp[xS];done)))
 ·(refine WW ?_)
  refine zU (c.nx) [3] [3] [3,56,57] [58,3,56,57] Z (λi gd T U=>⟨(58,iA i)::T,U⟩) (Lq ?_ ?_)
  .intro i gd x post hx hi;have y:=zY iA hx hi;have u:=zX hx hi;clear hx;refine WW ?_
   all_goals (first|rfl|(exfalso;first|(simp[xS]at hc;done)|(revert hc;simp[xS];done)))
  .exact mx
def zg (j:Jn) (E:ln j.ph<=1000) (g O I:Int) (L:List AV) (G:Nat):zO 214 [xC j,.ptr 3000 0 0,iA g] [(3000,.box [.ref 1001 0 G,iA O,.s (.slice none 0 0),iA I]),(1001,.arr 2 L false)] (.tup [])
  [(3000,.box [.ref 1001 0 G,iA g,.ref 2001 0 2,iA I]),(1001,.arr 2 L false),(2001,.arr 1 [iA (kS j 0 g 0),iA (kS j 1 g 0)] false)]:=by
 have B:=aE j E 0 g (-1);have C:=aE j E 1 g (-1);rw[show(-1:Int)+1=0 by omega]at B C;generalize kS j 0 g 0=u,kS j 1 g 0=y at *;obtain⟨A,z⟩:∃n:Nat,n=2:=⟨2,rfl⟩;refine eM call214 λF hF=>?_
 refine WW ?_;refine zW 6 2001 1 Z Z Z ?_;refine zM (A) [2001,3,3000,1001] [3,3000,1001] [1,2,3] [6,8,1,2,3] Z (λi T U=>⟨(6,.ref 2001 0 (wq u y i).length)::(8,iA i)::T,(2001,.arr 1 (wq u y i) (i != 1))::U⟩) (Lq ?_ ?_)
 .intro i hi;have:i=0\/i=1:=by omega
  rcases this with rfl|rfl
  .have hl:(wq u y 0).length=0:=rfl;refine zP B ?_;rfl
  .have hl:(wq u y 1).length=1:=rfl;refine zP C ?_;rfl
 .have M:wq u y A=[iA u,iA y]:=by rw[z];rfl
  have e3:(A != 1)=true:=by rw[z];rfl
  rw[M,e3]
  (repeat' (first|refine Ch ?_|apply yY|apply xN|intro hc|(apply zG;first|refine SM ?_)|fail))
  refine yH Z (wA ?_);refine kV 2001 [6] Z Z Z Z Z ?_;refine WW ?_;exact uQ [3000,1001,2001] Z Z Z Z
def Jr (j:Jn) (B:ln j.ph<=1000):zO 158 [xC j] [] (LK (ug j)) []:=by
 have y:=zA yU j.ph;have u:=zg j B 0 0 j.st ((pg (ln j.ph) (⟨0,0⟩:Li)).map yX) ((pg (ln j.ph) (⟨0,0⟩:Li)).map yX).length;have z:(pg (ln j.ph) (⟨0,0⟩:Li)).map yX=pg (ln j.ph) (yX ⟨0,0⟩):=zDr;have eN:((pg (ln j.ph) (⟨0,0⟩:Li)).map yX).length=ln j.ph:=by simp
 rw[eN,z]at u;rw[<-y]at u;refine eM call158 λF hF=>?_
 repeat' (first|(apply zG;first|(apply Vk;refine qH (nw:=[3000]) (gU tok 3000 Z Z) Z Z Z ?_)|refine vT tok Z Z ?_|(apply fY;refine aO 1001 tok Z Z Z Z Z Z Z Z Z Z Z Z Z zB zB Z Z Z ?_)|refine bY tok Z Z Z Z ?_|(apply xJ;(first|(refine vF 214 ?_;first|refine wO (zK (u) Z Z Z Z Z) Z ?_|refine qH (zK (u) Z Z Z Z Z) Z Z Z ?_|refine bX (zK (u) Z Z Z Z Z) Z Z Z ?_)))|(apply cS;refine cJ tok Z Z Z ?_)|refine WC vA ?_|apply qV)|first|refine SQ ?_|fail)
 have A:AV.agg [.sl false ((pg (j.ph.map yU).length (yX ⟨0,0⟩)).take (j.ph.map yU).length),iA 0,.sl false [iA (kS j 0 0 0),iA (kS j 1 0 0)],iA j.st]=LK (ug j):=by
  rw[zAl yE,y,<-z];rfl
 exact zH [] Z Z A Z
structure Sg where
 c:Ct
 lat:Bool
def wD (s:Sg):AV:= .agg [zE yX s.c.li,iA s.c.gr,zE iA s.c.nx,iA s.c.wt,bA s.lat]
def qA (j:Jn):Sg:=⟨ug j,false⟩
def Sd (j:Jn) (s:Sg) (t k:Int):Sg:=if s.lat=true then s else⟨GC j s.c t,fk j.cf (bK (GC j s.c t).li k)⟩
def xq (j:Jn) (s:Sg):Sg:=if s.lat=true then qA j else s
def DT {α:Type} (f:α->AV) (l:List α):AV.sl false ((l.map f).take (l.map f).length)=zE f l:=by rw[zAa];rfl
def JM (l:List Int) (hl:ln l<=1073741824):zO 111 [zE iA l] [] (zE iA l) []:=by
 have u:=zA iA l;refine eM call111 λF hF=>?_
 refine xW 0 Z (λcap hx=>?_) ?_
 .have:l=[]:=by simpa using hx
  subst this;exact mx
 ·(refine WW ?_)
  refine zH [] Z Z (DT _ _) Z
def JN (l:List Li) (hl:ln l<=1073741824):zO 172 [zE yX l] [] (zE yX l) []:=by
 have u:=zA yX l;refine eM call172 λF hF=>?_
 refine xW 0 Z (λcap hx=>?_) ?_
 .have:l=[]:=by simpa using hx
  subst this;exact mx
 ·(refine WW ?_)
  refine zH [] Z Z (DT _ _) Z
def DU (s:Sg) (h1:ln s.c.li<=1073741824) (h2:ln s.c.nx<=1073741824):zO 116 [wD s] [] (wD s) []:=by
 have u:=JN s.c.li h1;have y:=JM s.c.nx h2;refine eM call116 λF hF=>?_
 exact ng (xH u y)
def xk (c:Ct) (h1:ln c.li<=1000) (h2:ln c.nx<=1000):zO 188 [LK c] [] (LK c) []:=by
 have hl:=zA yX c.li;have u:=zA iA c.nx;refine eM call188 λF hF=>?_
 exact ny
def PS (s:Sg) (h1:ln s.c.li<=1000) (h2:ln s.c.nx<=1000):zO 126 [wD s] [] (wD s) []:=by
 have u:=xk s.c h1 h2;refine eM call126 λF hF=>?_
 exact nl u
def vk (j:Jn) (J:JV j):zO 81 [xC j] [] (wD (qA j)) []:=by
 have u:=Ky j JC;unfold qA;generalize ug j=c at *;refine eM call81 λF hF=>?_
 exact nl u
def Rd (j:Jn) (J:JV j):zO 86 [xC j] [] (wD (qA j)) []:=by
 have u:=Jr j JC;unfold qA;generalize ug j=c at *;refine eM call86 λF hF=>?_
 exact nl u
def Ir (j:Jn) (J:JV j) (s:Sg) (C:CV j s.c) (t k:Int):zO 180 [xC j,wD s,iA t,iA k] [] (wD (Sd j s t k)) []:=by
 have G:=J.n;have hc:=J.c;have L:=C.n;have I:=C.m;have z:=DU s zB zB;have A:=Ly j J s.c C t;have y:=Zl J C t;have B:=Sy (GC j s.c t).li (by have:=y.n;omega) k;have E:=Ry j.cf (bK (GC j s.c t).li k) zB (by rw[DW];have:=y.n;omega);unfold Sd;generalize fk j.cf (bK (GC j s.c t).li k)=f at *;generalize bK (GC j s.c t).li k=M at *;generalize GC j s.c t=c at *;obtain⟨O,u⟩:=s
 cases u with
 |true=>
  rw[Os Z];refine eM call180 λF hF=>?_
  exact nl z
 |false=>
  rw[hW zAs];refine eM call180 λF hF=>?_
  exact ng (qS A B E)
def uk (j:Jn) (J:JV j) (s:Sg) (C:CV j s.c) (t k:Int):zO 135 [xC j,wD s,iA t,iA k] [] (wD (Sd j s t k)) []:=by
 have G:=J.n;have hc:=J.c;have L:=C.n;have I:=C.m;have z:=PS s zB zB;have A:=yk j J s.c C t;have y:=Zl J C t;have B:=Er (GC j s.c t).li (by have:=y.n;omega) k;have E:=Dr j.cf (bK (GC j s.c t).li k) zB (by rw[DW];have:=y.n;omega);unfold Sd;generalize fk j.cf (bK (GC j s.c t).li k)=f at *;generalize bK (GC j s.c t).li k=M at *;generalize GC j s.c t=c at *;obtain⟨O,u⟩:=s
 cases u with
 |true=>
  rw[Os Z];refine eM call135 λF hF=>?_
  exact nl z
 |false=>
  rw[hW zAs];refine eM call135 λF hF=>?_
  exact ng (qS A B E)
def qk (j:Jn) (J:JV j) (s:Sg) (h1:ln s.c.li<=1073741824) (h2:ln s.c.nx<=1073741824):zO 47 [xC j,wD s] [] (.tup [wD (xq j s),bA s.lat]) []:=by
 have y:=DU s h1 h2;have A:=vk j J;unfold xq;generalize qA j=z at *;obtain⟨B,u⟩:=s
 cases u with
 |true=>
  rw[Os Z];refine eM call47 λF hF=>?_
  exact nl A
 |false=>
  rw[hW zAs];refine eM call47 λF hF=>?_
  exact nl y
def yg (j:Jn) (J:JV j) (s:Sg) (h1:ln s.c.li<=1000) (h2:ln s.c.nx<=1000):zO 57 [xC j,wD s] [] (.tup [wD (xq j s),bA s.lat]) []:=by
 have y:=PS s h1 h2;have A:=Rd j J;unfold xq;generalize qA j=z at *;obtain⟨B,u⟩:=s
 cases u with
 |true=>
  rw[Os Z];refine eM call57 λF hF=>?_
  exact nl A
 |false=>
  rw[hW zAs];refine eM call57 λF hF=>?_
  exact nl y
def Hr (s:Sg) (h1:ln s.c.li<=1000000) (h2:ln s.c.nx<=1000000):zO 63 [wD s,wD s] [] (bA true) []:=by
 have y:=Kr s.c h1 h2;obtain⟨z,u⟩:=s
 cases u with
 |true=>
  refine eM call63 λF hF=>?_
  exact nl y
 |false=>
  refine eM call63 λF hF=>?_
  exact nl y
def ph0:Ph:=⟨0,0,2,3,1,1,0,0⟩
def j0:Jn:=⟨[ph0,ph0],[2,1],0⟩
def two {p:Nat} (h:p<ln j0.ph):p=0\/p=1:=by
 have:ln j0.ph=2:=rfl;omega
theorem Uy {j:Jn} (J:JV j) {s:Sg} (C:CV j s.c) (t k:Int):CV j (Sd j s t k).c:=by grind [Sd,Zl]
def K8 {j:Jn} (J:JV j) {s:Sg} (C:CV j s.c):CV j (xq j s).c:=by
 unfold xq;split
 .exact Ld J
 .exact C
def ph1:Ph:=⟨0,0,2,3,1,0,0,0⟩
def j1:Jn:=⟨[ph1,ph1],[2,1],0⟩
def WG {p q:Prop} (k:q) (h:aJ q->p:=by(intro u;(repeat' (first|refine aK ?_|refine yY (λhc=>?_) λhc=>?_|fail));exact u.h)):p:=h ⟨k⟩
def WO {p q:Prop} (k:q) (h:aJ q->p:=by(intro u;(repeat' (first|refine aK ?_|refine yY (λhc=>?_) λhc=>?_|fail));exact u.h)):p:=h ⟨k⟩
def oj{p:Prop}(h:p:=by(refine WO ?_;exact zI)):p:=h
def e1 (d:Dk) (ga:Int):Int:=[-1,0,max (-1) (ga-nx d 6)].getD (nx (ad d) 3).toNat 0
def d0 (xs:List Int) (hl:ln xs<=9223372036854775807):Dk:=⟨xs,0,zAn _,hl⟩
def cE (y:List Int) (u:Int):Int:=if u<0\/(ln y:Int)<=u then -1 else y.getD u.toNat 0
def cA (k:Int):Bool:=k==2||k==3
def jM (u:List Int) (y z:Int):Int:=max z (cE u y)
def PU (s:Sv) (c:Cl):zO 313 [xZ s,uK c] [] (iA (cE s.en c.ph)) []:=by
 have hl:(s.en.map iA).length=ln s.en:=by simp
 by_cases h1:c.ph<0
 .rw[show cE s.en c.ph= -1 by simp[cE,h1]];refine eM call313 λF hF=>?_
  exact oj
 .by_cases h2:(ln s.en:Int)<=c.ph
  .rw[show cE s.en c.ph= -1 by simp[cE,h2]];refine eM call313 λF hF=>?_
   exact oj
  .rw[show cE s.en c.ph=s.en.getD c.ph.toNat 0 by unfold cE;rw[hW zB]];have u:=yC iA s.en c.ph zB zB;refine eM call313 λF hF=>?_
   exact oj
def kR (c:Cl):zO 277 [uK c] [] (bA (cA c.k)) []:=by
 unfold cA;by_cases h:c.k=2
 .rw[show(c.k==2||c.k==3)=true by simp[h]];refine eM call277 λF hF=>?_
  exact oj
 .rw[show(c.k==2||c.k==3)=(c.k==3) by simp[h]];refine eM call277 λF hF=>?_
  exact oj
def UP (s:Sv) (c:Cl):zO 315 [xZ s,uK c] [] (iA (jM s.en c.ph c.si)) []:=by
 refine eM call315 λF hF=>?_
 (repeat' (first|refine aK ?_|refine yY (λhc=>?_) λhc=>?_|(apply zG;apply xJ;refine wO (zK (PU ⟨_,_,_⟩ ⟨_,_,_,_,_⟩) Z Z Z Z Z) Z ?_)|fail))
 exact zI
def Ca (n d:Int) (hd:1<=d) (u:n.tmod d=0):n.tdiv d=n/d:=by grind [Int.tmod_add_mul_tdiv,Int.ediv_eq_of_eq_mul_right]
def HW (n d:Int) (E:n<0) (hd:1<=d) (C:n.tmod d≠0):n.tdiv d-1=n/d:=by
 have h1:=Int.tmod_add_mul_tdiv n d;have u:n.tmod d= -((-n).tmod d):=by rw[Int.neg_tmod];omega
 have z: -d<n.tmod d:=by
  have:=zE0 (-n) (show 0<d by omega);omega
 have A:n.tmod d<=0:=by
  have:=zFi d (show 0<= -n by omega);omega
 clear u;have y:n=d*(n.tdiv d-1)+(n.tmod d+d):=by rw[Int.mul_sub];omega
 generalize n.tdiv d=q,n.tmod d=r at *
 have B:n/d=q-1:=by
  rw[y,Int.mul_add_ediv_left _ _ zB,Int.ediv_eq_zero_of_lt zB zB];omega
 omega
def Pd (n d:Int) (hd:1<=d) (h1: -4611686018427387904<=n) (h2:n<=4611686018427387904): -4611686018427387904<=n.tdiv d/\n.tdiv d<=4611686018427387904:=by
 by_cases h:0<=n
 .have:=IntWalk.tdiv_le n d h hd
  grind
 .have u:n.tdiv d= -((-n).tdiv d):=by rw[Int.neg_tdiv];omega
  have:=IntWalk.tdiv_le (-n) d zB hd
  grind
def WM (n d:Int) (hd:1<=d) (h1: -4611686018427387904<=n) (h2:n<=4611686018427387904):zO 358 [iA n,iA d] [] (iA (n/d)) []:=by
 have hb:=Pd n d hd h1 h2;have z:bZ .i64 (n.tdiv d):=⟨zB,zB⟩;by_cases u:n.tmod d=0
 .rw[<-Ca n d hd u];refine eM call358 λF hF=>?_
  exact oj
 .by_cases y:n<0
  .rw[<-HW n d y hd u];refine eM call358 λF hF=>?_
   exact oj
  .rw[<-zCc (show 0<=n by omega)];refine eM call358 λF hF=>?_
   exact oj
def UQ (u cap:Int) (y:List Int) (ga z k A:Int):Int:=min cap (k+(ga-jM y z A)/u)
structure Ih (per ga:Int) (es:List Int) (c:Cl):Prop where
 p:1<=per
 k0: -1000<=c.k
 k1:c.k<=1000
 n0: -1099511627776<=ga
 n1:ga<=1099511627776
 s0: -1099511627776<=jM es c.ph c.si
 s1:jM es c.ph c.si<=1099511627776
 e0: -1099511627776<=cE es c.ph
 e1:cE es c.ph<=1099511627776
def Ty (n d:Int) (hd:1<=d) (h1: -4611686018427387904<=n) (h2:n<=4611686018427387904): -4611686018427387904<=n/d/\n/d<=4611686018427387904:=by
 constructor
 .refine(Int.le_ediv_iff_mul_le zB).2 ?_
  grind
 .have:n/d<=4611686018427387904/1:=by
   rw[Int.ediv_one];refine Int.le_of_lt_add_one ((Int.ediv_lt_iff_lt_mul zB).2 ?_)
   grind
  omega
def Od (g:Cf) (s:Sv) (c:Cl) (ga:Int) (u:Ih g.per ga s.en c):zO 314 [vL g,xZ s,uK c,iA ga] [] (iA (UQ g.per g.cap s.en ga c.ph c.k c.si)) []:=by
 obtain⟨p,z,A,B,C,E,G,_,_⟩:=u;have y:=Ty (ga-jM s.en c.ph c.si) g.per p zB zB;refine eM call314 λF hF=>?_
 (repeat' (first|refine aK ?_|refine yY (λhc=>?_) λhc=>?_|(apply zG;apply xJ;(first|(refine vF 315 ?_;first|refine wO (zK (UP s c) Z Z Z Z Z) Z ?_|refine qH (zK (UP s c) Z Z Z Z Z) Z Z Z ?_|refine bX (zK (UP s c) Z Z Z Z Z) Z Z Z ?_)|(refine vF 358 ?_;first|refine wO (zK (WM _ _ zB zB zB) Z Z Z Z Z) Z ?_|refine qH (zK (WM _ _ zB zB zB) Z Z Z Z Z) Z Z Z ?_|refine bX (zK (WM _ _ zB zB zB) Z Z Z Z Z) Z Z Z ?_)))|fail))
 exact zI
def DV (u:Int) (y:List Int) (ga z k:Int):Bool:=!cA k&&(cE y z != -1&&decide (ga-cE y z<=u))
def jk (g:Cf) (s:Sv) (c:Cl) (ga:Int) (u:Ih g.per ga s.en c):zO 279 [vL g,xZ s,uK c,iA ga] [] (bA (DV g.lock s.en ga c.ph c.k)) []:=by
 obtain⟨p,z,A,B,C,E,G,y,e1⟩:=u;unfold DV;refine eM call279 λF hF=>?_
 (repeat' (first|refine aK ?_|refine yY (λhc=>?_) λhc=>?_|(apply zG;apply xJ;(first|(refine vF 313 ?_;first|refine wO (zK (PU _ _) Z Z Z Z Z) Z ?_|refine qH (zK (PU _ _) Z Z Z Z Z) Z Z Z ?_|refine bX (zK (PU _ _) Z Z Z Z Z) Z Z Z ?_)|(refine vF 277 ?_;first|refine wO (zK (kR _) Z Z Z Z Z) Z ?_|refine qH (zK (kR _) Z Z Z Z Z) Z Z Z ?_|refine bX (zK (kR _) Z Z Z Z Z) Z Z Z ?_)))|fail))
 all_goals refine zH [] Z Z (zAt bA ?_) Z
 all_goals simp_all [kL]
