/- Part 18. -/
import Derived.Test.YtaglbcjljlkjcaaGreatV17
namespace Go.Proofs.YtaglbcjljlkjcaaGreat.Av
open Tryz
set_option linter.all false
set_option maxRecDepth 4000
set_option maxHeartbeats 1000000
open List renaming length->ln,range->pg,getD->pi
open Inhabited renaming default->dd
variable {j:Jn}
def zb (s p:Int):Bool:=uX (wY s p) 1==1
def Iy:∀(s:_root_.Fin 256) (p:_root_.Fin 8),kL BinOp.eql (IntKind.u64.wrap ((BitVec.ofInt IntKind.u64.bits (Int.fdiv (s.val:Int) (2 ^ min (p.val:Int).toNat IntKind.u64.bits)) &&& BitVec.ofInt IntKind.u64.bits 1).toNat:Int)) 1=zb s.val p.val:=by decide +kernel
def CF (s p:Int) (z:0<=s/\s<256) (y:0<=p/\p<8):zO 359 [iA s,iA p] [] (bA (zb s p)) []:=by
 have u:=Iy ⟨s.toNat,zB⟩ ⟨p.toNat,zB⟩;rw[show((s.toNat:Nat):Int)=s by omega,show((p.toNat:Nat):Int)=p by omega]at u;generalize zb s p=q at *;subst u;refine eM call359 λF hF=>?_
 (repeat' (first|refine qU ?_|apply yY|apply xN|intro hc|(apply zG;first|(apply vE;refine wO (HA Z Z) Z ?_))|fail))
 exact zI
theorem Rk (p:Nat->Bool) (i:Nat) (hi:i<8):zb (qT p 8) i=p i:=ee p i hi
def ST (c:Ct) (p:Nat):Bool:=(xI c p).lamp != 0
def LJ (c:Ct):Int:=qT (ST c) (ln c.li)
theorem HY (p:Nat->Bool):∀n m:Nat,n<=m->(∀i,n<=i->i<m->p i=false)->qT p m=qT p n
 |n,0,h,_=>by rw[Nat.le_zero.1 h]
 |n,m+1,h,u=>by
  by_cases e:n=m+1
  .rw[e]
  .rw[qT,u m zB zB];exact HY p n m zB λi h1 h2=>u i h1 zB
theorem Hy (p:Nat->Bool) (n:Nat) (u:n<=25):lu (qT p n) (p2 n)=qT p n+p2 n:=by
 have h1:=ML p n;have h2:(2:Nat) ^ n<=2 ^ 25:=zEr zB u;rw[BC,show p2 (n:Int)=((2 ^ n:Nat):Int) by unfold p2;simp,GQ _ _ zB zB];have y:=Nat.two_pow_add_eq_or_of_lt h1 1
 grind
def j5 (c:Ct) (A:ln c.li<=25):zO 318 [LK c] [] (iA (LJ c)) []:=by
 have hl:=zA yX c.li;unfold LJ;refine eM call318 λF hF=>?_
 refine WW ?_;refine zM (ln c.li) [] [] [7,8] [3,9,7,8] Z (λi T U=>⟨(3,iA (qT (ST c) i))::(9,iA i)::T,U⟩) (Lq ?_ ?_)
 .intro i hi;have z:=zJ yX c.li i hi
  change (c.li.map yX)[i]? =some (yX (xI c i))at z
  have y:=Hy (ST c) i zB
  have e:qT (ST c) (i+1)=if ST c i=true then qT (ST c) i+p2 i else qT (ST c) i:=rfl
  rw[<-y]at e;have u:ST c i=((xI c i).lamp != 0):=rfl;rw[e,u];generalize qT (ST c) i=b,xI c i=t at *;by_cases h:t.lamp=0
  .rw[hW (by simp[h])];refine WW ?_;rfl
  .rw[Os (by simp[h])];refine WW ?_;rfl
 .exact mx
theorem MD {P:Nat->Prop}:∀n,P n->∃m,m<=n/\P m/\∀k,k<m->¬P k:=by
 intro n
 induction n using Nat.strongRecOn with
 |_ n u=>
  grind
def FU (u:List Int) (s:Int) (p q:Nat):Bool:=zb s p&&(decide (q≠p)&&(zb s q&&vM u p q))
theorem Qk (y:List Int) (hn:ln y<=8) (s:Int) (L:0<=s/\s<256):∃p q:Int,zO 317 [zE iA y,iA s] [] (.tup [iA p,iA q]) []/\((p= -1/\∀a b:Nat,a<ln y->b<ln y->FU y s a b=false)\/(0<=p/\∃a b:Nat,a<ln y/\b<ln y/\FU y s a b=true)):=by
 have hl:=zA iA y;by_cases hx:∃a,a<ln y/\∃b,b<ln y/\FU y s a b=true
 .obtain⟨a,S,hx⟩:=hx;obtain⟨p,_,⟨hp,hx⟩,V⟩:=MD (P:=λa=>a<ln y/\∃b,b<ln y/\FU y s a b=true) a ⟨S,hx⟩;obtain⟨b,hb⟩:=hx;obtain⟨q,_,⟨hq,hc⟩,W⟩:=MD (P:=λb=>b<ln y/\FU y s p b=true) b hb;refine⟨p,q,?_,.inr ⟨zB,p,q,hp,hq,hc⟩⟩
  have M:zb s p=true:=by
   unfold FU at hc;rw[zAi]at hc;exact hc.1
  refine eM call317 λF hF=>?_
  refine WW ?_;refine zZ (ln y) [] [] [0,1,9] [10,0,1,9] Z (λi T U Y=>(i<=p)/\Y=⟨(10,iA i)::T,U⟩) (Lp ?_ ?_ ?_)
  .exact⟨zAn _,rfl⟩
  .rintro u st X ⟨hup,rfl⟩;have C:=CF s u L zB;by_cases O:u=p
   .subst O;rw[M]at C;refine zP C ?_;refine zZ (ln y) [] [] [0,1,6,9,10,18] [19,0,1,6,9,10,18] Z (λi T U Y=>(i<=q)/\Y=⟨(19,iA i)::T,U⟩) (Lp ?_ ?_ ?_)
    .exact⟨zAn _,rfl⟩
    .rintro v st hv ⟨hvq,rfl⟩;have A:=CF s v L zB;have G:=gB y zB u v;by_cases R:v=q
     .subst R;unfold FU at hc;simp only[zAi,zAg]at hc;rw[hc.2.2.1]at A;rw[hc.2.2.2]at G;have B:(v:Int)≠u:=by omega
      exact ng (xH A G)
     .have z:FU y s u v=false:=by
       cases E:FU y s u v with
       |false=>rfl
       |true=>exact absurd ⟨hv,E⟩ (W v zB)
      unfold FU at z;rw[M,zAj]at z;by_cases h1:v=u
      .have B:(v:Int)=u:=by omega
       refine WW ?_;exact⟨zB,rfl⟩
      have B:(v:Int)≠u:=by omega
      rw[zAc h1,zAj]at z
      cases h2:zb s v with
      |false=>
       rw[h2]at A;refine zP A ?_;exact⟨zB,rfl⟩
      |true=>
       rw[h2,zAj]at z;rw[h2]at A;rw[z]at G;refine yB (xH A G) ?_;exact⟨zB,rfl⟩
    .rintro st ⟨hvq,rfl⟩;exfalso;omega
   .have z:∀b,b<ln y->FU y s u b=false:=λb hb=>by
     cases E:FU y s u b with
     |false=>rfl
     |true=>exact absurd ⟨X,b,hb,E⟩ (V u zB)
    cases I:zb s u with
    |false=>
     rw[I]at C;refine zP C ?_;exact⟨zB,rfl⟩
    |true=>
    rw[I]at C;refine zP C ?_;refine zM (ln y) [] [] [0,1,6,9,10,18] [19,0,1,6,9,10,18] Z (λi T U=>⟨(19,iA i)::T,U⟩) (Lq ?_ ?_)
    .intro v hv;have A:=CF s v L zB;have G:=gB y zB u v;have z:=z v hv;unfold FU at z;rw[I,zAj]at z;by_cases h1:v=u
     .have B:(v:Int)=u:=by omega
      refine WW ?_;rfl
     have B:(v:Int)≠u:=by omega
     rw[zAc h1,zAj]at z
     cases h2:zb s v with
     |false=>
      rw[h2]at A;refine zP A ?_;rfl
     |true=>
      rw[h2,zAj]at z;rw[h2]at A;rw[z]at G;refine yB (xH A G) ?_;rfl
    ·(refine WW ?_)
     exact⟨zB,rfl⟩
  .rintro st ⟨hup,rfl⟩;exfalso;omega
 .have z:∀a b,a<ln y->b<ln y->FU y s a b=false:=λa b S hb=>by
   cases E:FU y s a b with
   |false=>rfl
   |true=>exact absurd ⟨a,S,b,hb,E⟩ hx
  refine⟨-1,-1,?_,.inl ⟨rfl,z⟩⟩;clear hx;refine eM call317 λF hF=>?_
  refine WW ?_;refine zM (ln y) [] [] [0,1,9] [10,0,1,9] Z (λi T U=>⟨(10,iA i)::T,U⟩) (Lq ?_ ?_)
  .intro u X;have C:=CF s u L zB
   cases I:zb s u with
   |false=>
    rw[I]at C;refine zP C ?_;rfl
   |true=>
   rw[I]at C;refine zP C ?_;refine zM (ln y) [] [] [0,1,6,9,10,18] [19,0,1,6,9,10,18] Z (λi T U=>⟨(19,iA i)::T,U⟩) (Lq ?_ ?_)
   .intro v hv;have A:=CF s v L zB;have G:=gB y zB u v;have z:=z u v X hv;unfold FU at z;rw[I,zAj]at z;by_cases h1:v=u
    .have B:(v:Int)=u:=by omega
     refine WW ?_;rfl
    have B:(v:Int)≠u:=by omega
    rw[zAc h1,zAj]at z
    cases h2:zb s v with
    |false=>
     rw[h2]at A;refine zP A ?_;rfl
    |true=>
     rw[h2,zAj]at z;rw[h2]at A;rw[z]at G;refine yB (xH A G) ?_;rfl
   ·(refine WW ?_)
    rfl
  .exact mx
def CG (j:Jn) (y:ln j.ph<=1000) (u:∀p:Nat,p<ln j.ph->0<=(zS j p).group/\(zS j p).group<=3):zO 319 [xC j] [] (iA (gF j)) []:=by
 have hl:=zA yU j.ph;unfold gF;refine eM call319 λF hF=>?_
 refine WW ?_;refine zM (ln j.ph) [] [] [7,8] [3,9,7,8] Z (λi T U=>⟨(3,iA (AX j.ph i))::(9,iA i)::T,U⟩) (Lq ?_ ?_)
 .intro i hi;have z:=zJ yU j.ph i hi;have hb:=u i hi;unfold zS at hb;have e:AX j.ph (i+1)=max (AX j.ph i) ((j.ph.getD i dd).group+1):=rfl;rw[e];generalize AX j.ph i=g,j.ph.getD i dd=t at *;refine WW ?_;rfl
 .exact mx
def WN (j:Jn) (r g:Int) (i:Nat):List Nat:=(pg i).filter λp=>(zS j p).ring==r&&(zS j p).group==g
def CH (j:Jn) (r g:Int) (i:Nat):WN j r g (i+1)=if(zS j i).ring=r/\(zS j i).group=g then WN j r g i++[i]else WN j r g i:=by grind [WN,zS,List.range_succ,Bool.and_eq_false_iff]
def Id {α:Type} (f:α->AV) (l:List α):AV.sl false ((l.map f).take (l.map f).length)=zE f l:=by rw[zAa];rfl
def nA (p:Nat):AV:=iA (p:Int)
def J8 (j:Jn) (B:ln j.ph<=1000) (r g:Int):zO 321 [xC j,iA r,iA g] [] (zE nA (WN j r g (ln j.ph))) []:=by
 have hl:=zA yU j.ph;refine eM call321 λF hF=>?_
 refine WW ?_;refine zW 7 1001 1 Z Z Z ?_;refine zM (ln j.ph) [1001] [] [1,2,11,12] [7,13,1,2,11,12] Z (λi T U=>⟨(7,.ref 1001 0 ((WN j r g i).map nA).length)::(13,iA i)::T,(1001,.arr 1 ((WN j r g i).map nA) true)::U⟩) (Lq ?_ ?_)
 .intro i hi;have A:=zJ yU j.ph i hi
  change (j.ph.map yU)[i]? =some (yU (zS j i))at A
  have y:=CH j r g i
  have u:(WN j r g i).length<=1000:=by
   have:(WN j r g i).length<=(pg i).length:=zBz _ _;rw[zBp]at this;omega
  have z:((WN j r g i).map nA).length<=1000:=by rw[f7];exact u
  rw[y];generalize WN j r g i=o,zS j i=t at *;by_cases h1:t.ring=r
  .by_cases h2:t.group=g
   .rw[Os ⟨h1,h2⟩,zAd];generalize o.map nA=xs at *;refine WW ?_;rfl
   .rw[hW (λh=>h2 h.2)];refine WW ?_;rfl
  .rw[hW (λh=>h1 h.1)];refine WW ?_;rfl
 ·(refine WW ?_)
  exact zH [] Z Z (Id _ _) Z
def HZ (l:List Nat) (x:Int):Bool:=l.any λp:Nat=>(p:Int)==x
def Pk (l:List Nat) (L:ln l<=1000) (x:Int):∃k:Int,zO 360 [zE nA l,iA x] [] (iA k) []/\ -1<=k/\k<1000/\(HZ l x=decide (0<=k)):=by
 have hl:=zA nA l;by_cases hx:∃i,i<ln l/\((l.getD i dd:Nat):Int)=x
 .obtain⟨G,h1,h2⟩:=hx;obtain⟨k,_,⟨hk,B⟩,A⟩:=MD (P:=λi=>i<ln l/\((l.getD i dd:Nat):Int)=x) G ⟨h1,h2⟩;refine⟨k,?_,zB,zB,?_⟩
  ·(refine eM call360 λF hF=>?_)
   refine WW ?_;refine zZ (ln l) [] [] [0,1,7] [8,0,1,7] Z (λi T U I=>(i<=k)/\I=⟨(8,iA i)::T,U⟩) (Lp ?_ ?_ ?_)
   .exact⟨zAn _,rfl⟩
   .rintro u st y ⟨huk,rfl⟩;have z:=zJ nA l u y;by_cases e:u=k
    .subst e;generalize l.getD u dd=v at *;unfold nA at z;exact mx
    .have C:¬((l.getD u dd:Nat):Int)=x:=λh=>A u zB ⟨y,h⟩
     generalize l.getD u dd=v at *;unfold nA at z;refine WW ?_;exact⟨zB,rfl⟩
   .rintro st ⟨huk,rfl⟩;exfalso;omega
  .rw[zAc zB];unfold HZ;rw[zBr];exact⟨l.getD k dd,by simp[pi,hk],by rw[zBv];exact B⟩
 .refine⟨-1,?_,zB,zB,?_⟩
  ·(refine eM call360 λF hF=>?_)
   refine WW ?_;refine zM (ln l) [] [] [0,1,7] [8,0,1,7] Z (λi T U=>⟨(8,iA i)::T,U⟩) (Lq ?_ ?_)
   .intro u y;have z:=zJ nA l u y;have C:¬((l.getD u dd:Nat):Int)=x:=λh=>hx ⟨u,y,h⟩
    generalize l.getD u dd=v at *;unfold nA at z;clear hx;refine WW ?_;rfl
   .clear hx;exact mx
  .rw[zAb zB];unfold HZ;rw[zCs];intro p E;obtain⟨i,hi,rfl⟩:=zCj E;intro h;rw[zBv]at h;exact hx ⟨i,hi,by simpa [pi,hi]using h⟩
def xb (l:List Nat) (y:ln l<=1000) (x:Int):zO 320 [zE nA l,iA x] [] (bA (HZ l x)) []:=by
 obtain⟨k,c,h1,h2,u⟩:=Pk l y x;rw[u];by_cases h:0<=k
 .rw[zAc h];refine eM call320 λF hF=>?_
  exact nl c
 .rw[zAb h];refine eM call320 λF hF=>?_
  exact nl c
def Ok (l:Li):zO 362 [yX l] [] (bA (l.lamp != 0)) []:=by
 by_cases h:l.lamp=0
 .rw[show(l.lamp != 0)=false by simp[h]];refine eM call362 λF hF=>?_
  exact mx
 .rw[show(l.lamp != 0)=true by simp[h]];refine eM call362 λF hF=>?_
  exact mx
def Gy (c:Ct) (M:ln c.li<=1000):∃k:Int,zO 388 [zE yX c.li,.fn 362 []] [] (iA k) []/\ -1<=k/\k<1000/\(AY c= !decide (0<=k)):=by
 have hl:=zA yX c.li;by_cases hx:∃i,i<ln c.li/\(xI c i).lamp≠0
 .obtain⟨I,h1,h2⟩:=hx;obtain⟨k,_,⟨hk,z⟩,C⟩:=MD (P:=λi=>i<ln c.li/\(xI c i).lamp≠0) I ⟨h1,h2⟩;refine⟨k,?_,zB,zB,?_⟩
  ·(refine eM call388 λF hF=>?_)
   refine WW ?_;refine zZ (ln c.li) [] [] [0,1,7] [8,0,1,7] Z (λi T U L=>(i<=k)/\L=⟨(8,iA i)::T,U⟩) (Lp ?_ ?_ ?_)
   .exact⟨zAn _,rfl⟩
   .rintro u st A ⟨huk,rfl⟩;have G:=zJ yX c.li u A
    change (c.li.map yX)[u]? =some (yX (xI c u))at G
    have y:=Ok (xI c u);by_cases e:u=k
    .subst e;rw[show((xI c u).lamp != 0)=true by simpa using z]at y;generalize xI c u=v at *;exact nl y
    .have E:(xI c u).lamp=0:=zCu λh=>C u zB ⟨A,h⟩
     rw[show((xI c u).lamp != 0)=false by simpa using E]at y;generalize xI c u=v at *;refine zP y ?_;exact⟨zB,rfl⟩
   .rintro st ⟨huk,rfl⟩;exfalso;omega
  .rw[zAc zB];unfold AY;exact zC6.2 ⟨xI c k,by simp[xI,pi,hk],by simpa using z⟩
 .have B:∀i,i<ln c.li->(xI c i).lamp=0:=λi hi=>zCu λh=>hx ⟨i,hi,h⟩
  refine⟨-1,?_,zB,zB,?_⟩
  .clear hx;refine eM call388 λF hF=>?_
   refine WW ?_;refine zM (ln c.li) [] [] [0,1,7] [8,0,1,7] Z (λi T U=>⟨(8,iA i)::T,U⟩) (Lq ?_ ?_)
   .intro u A;have G:=zJ yX c.li u A
    change (c.li.map yX)[u]? =some (yX (xI c u))at G
    have y:=Ok (xI c u);have B:=B u A;rw[show((xI c u).lamp != 0)=false by simpa using B]at y;generalize xI c u=v at *;refine zP y ?_;rfl
   .exact mx
  .rw[zAb zB];unfold AY;rw[zD6,zAm];intro l hl;obtain⟨i,hi,rfl⟩:=zCj hl;have:=B i hi;simpa [xI,pi,hi]using this
def CI (c:Ct) (A:ln c.li<=1000):zO 322 [LK c] [] (bA (AY c)) []:=by
 obtain⟨k,u,h1,h2,z⟩:=Gy c A
 have y:zO 361 [zE yX c.li,.fn 362 []] [] (bA (decide (0<=k))) []:=by
  by_cases h:0<=k
  .rw[zAc h];refine eM call361 λF hF=>?_
   exact nl u
  .rw[zAb h];refine eM call361 λF hF=>?_
   exact nl u
 rw[z]
 cases hd:decide (0<=k)<;>rw[hd]at y
 all_goals
  (refine eM call322 λF hF=>?_)
  exact nl y
def G7 (j:Jn) (c:Ct):Bool:=(pg (ln j.ph)).all λp=>AW (zS j p) (xI c p)
def f5 (j:Jn) (c:Ct):Bool:=(pg (ln j.cf)).all λa=>(pg (ln j.cf)).all λb=>!FU j.cf (LJ c) a b
def Nk (j:Jn) (c:Ct) (r:Nat):Bool:=decide (c.nx.getD r dd= -1)||HZ (WN j r c.gr (ln j.ph)) (c.nx.getD r dd)
def Fy (j:Jn) (c:Ct):Bool:=decide (ln c.li=ln j.ph/\c.nx.length=2)&&(G7 j c&&(f5 j c&&(decide (0<=c.gr/\c.gr<gF j)&&((pg 2).all (Nk j c)&&(decide (0<=c.wt/\c.wt<=j.st)&&(decide (c.wt=0)||AY c))))))
structure JB (j:Jn):Prop where
 n:j.ph.length<=8
 c:j.cf.length<=8
 gp:∀p:Nat,p<j.ph.length->0<=(zS j p).group/\(zS j p).group<=3
theorem JV.b (J:JV j):JB j:=⟨J.n.2,by rw[J.c];exact J.n.2,J.gp⟩
theorem Ey {n:Nat} (h:n<=8):p2 (n:Int)<=256:=by
 have:n=0\/n=1\/n=2\/n=3\/n=4\/n=5\/n=6\/n=7\/n=8:=by omega
 grind [p2]
theorem Xs (j:Jn) (J:JB j) (c:Ct):zO 281 [xC j,LK c] [] (bA (Fy j c)) []:=by
 have az:=zA yU j.ph;have av:=zA yX c.li;have ax:=zA iA c.nx;have a1:=J.n;unfold Fy;by_cases h1:ln c.li=ln j.ph
 case neg=>
  rw[zAb (λh=>h1 h.1)];refine eM call281 λF hF=>?_
  exact mx
 by_cases h2:ln c.nx=2
 case neg=>
  rw[zAb (λh=>h2 h.2)];refine eM call281 λF hF=>?_
  exact mx
 rw[zAc ⟨h1,h2⟩,zAj];have cs:=j5 c zB;have ap:=ZU (ST c) (ln c.li) zB;have a2:=Ey (n:=ln c.li) zB
 change 0<=LJ c/\LJ c<p2 (ln c.li) at ap
 obtain⟨cp,cq,A,B⟩:=Qk j.cf J.c (LJ c) zB
 have ac:f5 j c=decide (cp= -1):=by
  unfold f5
  rcases B with⟨h3,h4⟩|⟨h3,a,b,ha,hb,h4⟩
  .rw[zAc h3,zAm];intro a ha;rw[zAm];intro b hb;rw[h4 a b (zAw.1 ha) (zAw.1 hb)];rfl
  .rw[zAb zB,zC6];refine⟨a,zAw.2 ha,?_⟩;rw[zDm,zC6];exact⟨b,zAw.2 hb,by rw[h4];decide⟩
 have au:cp= -1\/0<=cp:=by
  rcases B with h|h
  .exact .inl h.1
  .exact .inr h.1
 have G:=CG j zB J.gp;have ca:=CI c zB;clear B;rw[ac];generalize LJ c=se,gF j=gm at *;generalize a3:AY c=ra at *;refine eM call281 λF hF=>?_
 refine WW ?_;refine zZ (ln j.ph) [2,3] [2,3] [2,3,25,26] [27,2,3,25,26] Z (λi T U zs=>(∀s:Nat,s<i->AW (zS j s) (xI c s)=true)/\zs=⟨(27,iA i)::T,U⟩) (Lp ?_ ?_ ?_)
 .exact⟨λs V=>absurd V (zBa _),rfl⟩
 .rintro i st hi ⟨hp,rfl⟩;have hy:=zJ yU j.ph i hi;have ar:=zJ yX c.li i zB
  change (j.ph.map yU)[i]? =some (yU (zS j i))at hy
  change (c.li.map yX)[i]? =some (yX (xI c i))at ar
  have cv:=Yl (zS j i) (xI c i)
  cases S:AW (zS j i) (xI c i)with
  | true=>
   rw[S]at cv
   have ag:∀s:Nat,s<i+1->AW (zS j s) (xI c s)=true:=λs V=>by
    by_cases E:s=i
    .subst E;assumption
    .exact hp s zB
   clear S hp;generalize zS j i=t,xI c i=l at *;clear cs A G ca;refine zP cv ?_;exact⟨ag,rfl⟩
  |false=>
   have u:G7 j c=false:=zC6.2 ⟨i,zAw.2 hi,by rw[S];decide⟩;rw[S]at cv;rw[u,zA7];clear S hp;generalize zS j i=t,xI c i=l at *;clear cs A G ca;exact nl cv
 .rintro st ⟨hp,rfl⟩;have u:G7 j c=true:=zAm.2 λi hi=>hp i (zAw.1 hi)
  rw[u,zAj];clear hp u;by_cases L:cp= -1
  case neg=>
   rw[zAb L];exact ng (xH cs A)
  rw[zAc L,zAj];by_cases M:0<=c.gr
  case neg=>
   rw[zAb (λh=>M h.1)];exact ng (qS cs A G)
  by_cases O:c.gr<gm
  case neg=>
   rw[zAb (λh=>O h.2)];exact ng (qS cs A G)
  rw[zAc ⟨M,O⟩,zAj];refine yB (qS cs A G) ?_;refine zZ (ln c.nx) [2,3] [2,3] [2,3,62,63] [64,2,3,62,63] Z (λi T U zs=>(∀s:Nat,s<i->Nk j c s=true)/\zs=⟨(64,iA i)::T,U⟩) (Lp ?_ ?_ ?_)
  .exact⟨λs V=>absurd V (zBa _),rfl⟩
  .rintro i st hi ⟨hp,rfl⟩;have hy:=zJ iA c.nx i hi;have co:=J8 j zB i c.gr
   have R:(WN j i c.gr (ln j.ph)).length<=1000:=by
    have:(WN j i c.gr (ln j.ph)).length<=(pg (ln j.ph)).length:=zBz _ _;rw[zBp]at this;omega
   have ch:=xb (WN j i c.gr (ln j.ph)) R (c.nx.getD i dd)
   have z:Nk j c i=true->∀s:Nat,s<i+1->Nk j c s=true:=λh s V=>by
    by_cases E:s=i
    .subst E;exact h
    .exact hp s zB
   have Y:Nk j c i=false->((pg 2).all (Nk j c))=false:=λh=>zC6.2 ⟨i,zAw.2 zB,by rw[h];decide⟩
   have I:Nk j c i=(decide (c.nx.getD i dd= -1)||HZ (WN j i c.gr (ln j.ph)) (c.nx.getD i dd)):=rfl;clear hp cs A G ca;generalize WN j i c.gr (ln j.ph)=o at *;generalize HZ o (c.nx.getD i dd)=hb at *;generalize c.nx.getD i dd=x,Nk j c i=q at *;by_cases hx:x= -1
   .rw[zAc hx]at I;have C:=z I;refine WW ?_;exact⟨C,rfl⟩
   rw[zAb hx,zCh]at I
   cases hb with
   |true=>
    have C:=z I;refine yB (xH co ch) ?_;exact⟨C,rfl⟩
   |false=>
    rw[Y I,zA7];exact ng (xH co ch)
  .rintro st ⟨hp,rfl⟩;have y:((pg 2).all (Nk j c))=true:=zAm.2 λi hi=>hp i (by have:=zAw.1 hi;omega)
   rw[y,zAj];clear hp y;by_cases W:0<=c.wt
   case neg=>
    rw[zAb (λh=>W h.1)];exact mx
   by_cases X:c.wt<=j.st
   case neg=>
    rw[zAb (λh=>X h.2)];exact mx
   rw[zAc ⟨W,X⟩,zAj];by_cases hz:c.wt=0
   .rw[zAc hz];exact mx
   .rw[zAb hz,zCh];exact nl ca
def Ay (J:JV j) {c:Ct} (C:CV j c):Fy j c=true:=by
 have M:=C.n;have O:=J.n;unfold Fy;have h1:G7 j c=true:=zAm.2 λp I=>C.k p (zAw.1 I)
 have h2:f5 j c=true:=by
  unfold f5;rw[zAm];intro a u;rw[zAm];intro b hb;have u:=zAw.1 u;have hb:=zAw.1 hb;rw[J.c]at u hb
  have y:∀p:Nat,p<ln j.ph->zb (LJ c) p=ST c p:=λp I=>by
   unfold LJ;have e:=HY (λq=>decide (q<ln c.li)&&ST c q) (ln c.li) 8 zB (λi h1 h2=>by rw[zAb zB];rfl)
   grind [Fy,qT,ST,dH,Rk]
  rw[zCr];unfold FU;rw[y a u,y b hb];by_cases A:b=a
  .grind
  .cases E:ST c a with
   |false=>rfl
   | true=>
    cases G:ST c b with
    |false=>simp
    |true=>
     rw[C.x a b u hb (λh=>A h.symm) (by simpa [ST]using E) (by simpa [ST]using G)];simp
 have L:((pg 2).all (Nk j c))=true:=zAm.2 λr B=>by
  have B:=zAw.1 B;unfold Nk
  rcases C.v r B with h|h
  .grind
  .have:HZ (WN j r c.gr (ln j.ph)) (c.nx.getD r dd)=true:=by
    unfold HZ;rw[zBr];obtain⟨a,b,d,e⟩:=h
    grind [Fy,WN]
   grind
 rw[zAc ⟨M,C.m⟩,h1,h2,zAc C.g,L,zAc C.w];simp only[zAj]
 rcases C.z with h|h
 .grind
 .have:AY c=true:=by
   grind [Fy,AY,List.all_eq_true,List.getElem_of_mem,xI,pi]
  grind
theorem I8 (y:Int):uX y 1=0\/uX y 1=1:=by
 show IntKind.i64.wrap (BitVec.ofInt 64 y &&& BitVec.ofInt 64 1).toNat=0\/IntKind.i64.wrap (BitVec.ofInt 64 y &&& BitVec.ofInt 64 1).toNat=1
 have e1:BitVec.ofInt 64 1=1#64:=by decide
 have h:(BitVec.ofInt 64 y &&& BitVec.ofInt 64 1).toNat=(BitVec.ofInt 64 y).toNat % 2:=by
  grind
 rw[h];have h2:(BitVec.ofInt 64 y).toNat % 2=0\/(BitVec.ofInt 64 y).toNat % 2=1:=by omega
 rcases h2 with h2|h2<;>rw[h2]
 .exact .inl xG
 .exact .inr xG
theorem YQ {u:List Int} {p q:Nat} (y:p<ln u) (z:q<ln u):uX (wY (u.getD p dd) q) 1=if vM u p q=true then 1 else 0:=by
 unfold vM;rw[zAc zB,zAj,zAv]
 grind [uX,wY,vM,I8]
theorem o5 {x:Int} {n:Nat} (h:0<=x/\x<2 ^ n):wY x n=0:=by grind [wY,Int.toNat_natCast,Int.fdiv_eq_zero_of_lt]
def qg (j:Jn) (J:JV j):zO 202 [zE iA j.cf] [] (bA true) []:=by
 have hl:=zA iA j.cf;have I:=J.n;have hc:=J.c;refine eM call202 λF hF=>?_
 refine WW ?_;refine zM (ln j.cf) [] [] [0,14,15] [16,0,14,15] Z (λi T U=>⟨(16,iA i)::T,U⟩) (Lq ?_ ?_)
 .intro u B;have L:=zJ iA j.cf u B;have A:=J.row u zB;have E:=o5 A;rw[<-hc,<-hl]at E;have C:=YQ (p:=u) (q:=u) B B;rw[J.ir u zB,hW xG]at C
  have z:∀v,v<ln j.cf->uX (wY (j.cf.getD u dd) v) 1=uX (wY (j.cf.getD v dd) u) 1:=λv hv=>by
   rw[YQ B hv,YQ hv B,J.sy u v zB zB]
  generalize j.cf.getD u dd=x at *;refine WW ?_;refine zM (ln j.cf) [] [] [0,3,4,14,15,16,38] [39,0,3,4,14,15,16,38] Z (λi T U=>⟨(39,iA i)::T,U⟩) (Lq ?_ ?_)
  .intro v hv;have G:=zJ iA j.cf v hv;have z:=z v hv;generalize j.cf.getD v dd=y at *;refine WW ?_;rfl
  .clear z;refine WW ?_;rfl
 .exact mx
def dR (n a b:Int) (h:a<=n/\n<=b):zO 148 [iA n,iA a,iA b] [] (bA true) []:=by
 obtain⟨h1,h2⟩:=h;refine eM call148 λF hF=>?_
 exact mx
def Mk (j:Jn) (J:JV j) (p:Nat) (y:p<ln j.ph):zO 203 [yU (zS j p)] [] (bA true) []:=by
 have U:=J.rg p y;have S:=J.gp p y;obtain⟨V,t2,X,Y,t5,t6,t7,t8,t9,z,A,W,u⟩:=J.ti p y;generalize zS j p=t at *;have B:=dR t.ring 0 1 U;have C:=dR t.group 0 3 S;have E:=dR t.ming 1 60 ⟨V,zB⟩;have G:=dR t.maxg 1 60 ⟨zB,X⟩;have I:=dR t.yel 1 60 ⟨Y,t5⟩;have L:=dR t.red 0 60 ⟨t6,t7⟩;have M:=dR t.walk 0 60 ⟨t8,t9⟩;have O:=dR t.clear 0 60 ⟨z,A⟩;by_cases R:t.walk=0
 .have h1:=u.1 R;clear u;refine eM call203 λF hF=>?_
  exact ng (Hb B C E G I L M O)
 .have h1:¬t.clear=0:=λh=>R (u.2 h)
  clear u;refine eM call203 λF hF=>?_
  exact ng (Hb B C E G I L M O)
def Lk (j:Jn) (J:JV j):zO 204 [xC j] [] (bA true) []:=by
 have hl:=zA yU j.ph;have I:=J.n;have hc:=J.c;refine eM call204 λF hF=>?_
 repeat' (first|(apply zG;first|refine vT tok Z Z ?_|refine bY tok Z Z Z Z ?_|apply qV)|first|refine SQ ?_|fail|apply dK|apply dL|apply xE)
 refine zM (ln j.ph) [1] [1] [1,9,10] [3,11,1,9,10] Z (λi T U=>⟨(3,bA true)::(11,iA i)::T,U⟩) (Lq ?_ ?_)
 .intro u E;have G:=zJ yU j.ph u E
  change (j.ph.map yU)[u]? =some (yU (zS j u))at G
  refine WW ?_;refine zM (ln j.ph) [1,5] [1,5] [1,4,5,9,10,11,17,18] [3,19,1,4,5,9,10,11,17,18] Z (λi T U=>⟨(3,bA true)::(19,iA i)::T,U⟩) (Lq ?_ ?_)
  .intro v hv;have C:=zJ yU j.ph v hv
   change (j.ph.map yU)[v]? =some (yU (zS j v))at C
   have A:=gB j.cf zB u v;have y:=J.ap u v E hv;by_cases z:u=v
   .have B:(u:Int)=v:=by omega
    clear y;generalize zS j u=a,zS j v=b at *;refine WW ?_;rfl
   have B:¬(u:Int)=v:=by omega
   by_cases h1:(zS j u).ring=(zS j v).ring
   .rw[y z (.inl h1)]at A;clear y;generalize zS j u=a,zS j v=b at *;refine zP A ?_;rfl
   by_cases h2:(zS j u).group=(zS j v).group
   .clear y;generalize zS j u=a,zS j v=b at *;refine WW ?_;rfl
   .rw[y z (.inr h2)]at A;clear y;generalize zS j u=a,zS j v=b at *;refine zP A ?_;rfl
  .generalize zS j u=a at *;refine WW ?_;rfl
 .exact mx
def dS (j:Jn) (i:Nat) (g:Nat):Bool:=(pg i).any λp=>(zS j p).group==(g:Int)
def CJ (j:Jn) (i:Nat):dS j (i+1)=λg=>dS j i g||((zS j i).group==(g:Int)):=by grind [dS,zS]
def Ww (g:Nat) (h:g<4):p2 (g:Int)=qT (λx:Nat=>(g:Int)==(x:Int)) 8:=by
 have:g=0\/g=1\/g=2\/g=3:=by omega
 rcases this with rfl|rfl|rfl|rfl<;>decide
theorem H8:∀z u y A:Bool,(u=true->z=true)->(y=true->u=true)->(A=true->y=true)->uX (qT (bq z u y A false false false false) 8) (qT (bq z u y A false false false false) 8+1)=0:=by decide +kernel
def Ws (j:Jn) (J:JV j):uX (qT (dS j (ln j.ph)) 8) (qT (dS j (ln j.ph)) 8+1)=0:=by
 have u:∀g:Nat,4<=g->dS j (ln j.ph) g=false:=λg z=>by
  unfold dS;rw[zCs];intro p y;have:=J.gp p (zAw.1 y);simp;omega
 have hd:∀g:Nat,dS j (ln j.ph) (g+1)=true->dS j (ln j.ph) g=true:=λg h=>by
  unfold dS at h⊢;rw[zBr]at h⊢;obtain⟨p,y,z⟩:=h;rw[zBv]at z;obtain⟨q,B,A⟩:=J.lo p (zAw.1 y) g zB zB
  grind
 have e:qT (dS j (ln j.ph)) 8=qT (bq (dS j (ln j.ph) 0) (dS j (ln j.ph) 1) (dS j (ln j.ph) 2) (dS j (ln j.ph) 3) false false false false) 8:=dH 8 λi hi=>by
  match i,hi with
  |0,_=>rfl|1,_=>rfl|2,_=>rfl|3,_=>rfl
  |4,_=>exact u 4 zB
  |5,_=>exact u 5 zB
  |6,_=>exact u 6 zB
  |7,_=>exact u 7 zB
  |i+8,h=>omega
 grind [uX,qT,dS,H8]
def QF (j:Jn) (J:JV j):zO 149 [xC j] [] (bA true) []:=by
 have hl:=zA yU j.ph;have R:=zA iA j.cf;have X:=J.n;have hc:=J.c;have C:=qg j J;have E:=dR j.st 0 60 J.st;have G:=Lk j J;have O:=Ws j J;have M:=ZU (dS j (ln j.ph)) 8 zB;have S:p2 ((8:Nat):Int)=256:=by decide
 refine eM call149 λF hF=>?_
 refine yB (xH C E) ?_;refine zM (ln j.ph) [1] [1] [1,34,35] [4,36,1,34,35] Z (λi T U=>⟨(4,iA (qT (dS j i) 8))::(36,iA i)::T,U⟩) (Lq ?_ ?_)
 .intro u B;have V:=zJ yU j.ph u B
  change (j.ph.map yU)[u]? =some (yU (zS j u))at V
  have L:=Mk j J u B;have W:=J.gp u B;have A:=CJ j u;obtain⟨I,z⟩:∃n:Nat,(zS j u).group=n:=⟨(zS j u).group.toNat,zB⟩;have y:=Rb (dS j u) (λx:Nat=>(I:Int)==(x:Int));rw[<-Ww I zB]at y;rw[z]at A;rw[A,<-y];generalize qT (dS j u) 8=b at *;rw[<-z];clear C E G y A;generalize zS j u=t at *;refine zP L ?_;rfl
 .generalize qT (dS j (ln j.ph)) 8=b at *;exact nl G
theorem ME {p:Nat->Bool}:∀(l:List Nat) (i x:Nat),l[i]? =some x->(∀y∈l.take i,p y=false)->p x=true->l.find? p=some x
 | [],i,x,h,_,_=>by simp at h
 |y::l,0,x,h,_,u=>by
  simp at h;subst h;rw[List.find?_cons,u]
 |y::l,i+1,x,h,A,u=>by
  rw[List.find?_cons,A y yE];exact ME l i x NJ (λz B=>A z (by simp[B])) u
def PW {p:Nat->Bool} {l:List Nat} (h:∀y∈l,p y=false):l.find? p=none:=List.find?_eq_none.2 λy u=>by rw[h y u];decide
theorem SU {l:List Nat} {i x z:Nat} (hx:l[i]? =some x) (u:z∈l.take (i+1)):z∈l.take i\/z=x:=by grind [List.take_add_one]
def WP (j:Jn) (R:ln j.ph<=1000) (r g f:Int):zO 259 [xC j,iA r,iA g,iA f] [] (iA (kS j r g f)) []:=by
 have c:=Xl j r;unfold bg at c;have hl:=zA yU j.ph;refine eM call259 λF hF=>?_
 refine zP c ?_;refine qF hF (nb j R r) Z [4,6,7,8] [4,6,7,8] Z Z Z Z Z Z Z Z Z (λi ys h=>?_) (λ_=>[(4,.box [zE yU j.ph,zE iA j.cf,iA j.st]),(6,.box [iA g]),(7,.box [iA f]),(8,.box [iA 0])]) (λi=>∀x∈(PA j r).take i,(decide (f<=(x:Int))&&(zS j x).group==g)=false) (T:=[(4,.ptr 4 0 0),(6,.ptr 6 0 0),(7,.ptr 7 0 0),(8,.ptr 8 0 0)]) Z yE (λi ys y C B O h1 h2=>?_) (λB=>?_)
 .rw[zAh,zAo]at h;obtain⟨x,_,rfl⟩:=h;rfl
 .rw[zAh,zAo]at C;obtain⟨x,hx,rfl⟩:=C
  show uG _ O _ _ ⟨[(13,iA (x:Int)),(4,.ptr 4 0 0),(6,.ptr 6 0 0),(7,.ptr 7 0 0),(8,.ptr 8 0 0)],[(4,.box [zE yU j.ph,zE iA j.cf,iA j.st]),(6,.box [iA g]),(7,.box [iA f]),(8,.box [iA 0])]⟩ _
  have I:=(cN.1 (zB5 hx)).1;have X:(j.ph.map yU)[x]? =some (yU (zS j x)):=zJ yU j.ph x I
  have u:(decide (f<=(x:Int))&&(zS j x).group==g)=false->∀z∈(PA j r).take (i+1),(decide (f<=(z:Int))&&(zS j z).group==g)=false:=λhb z S=>by
   rcases SU hx S with h|rfl
   .exact B z h
   .exact hb
  have E:(decide (f<=(x:Int))&&(zS j x).group==g)=true->kS j r g f=x:=λhb=>by
   unfold kS;rw[ME _ i x hx B hb]
  clear B hx;generalize zS j x=t at *;refine WW ?_;refine⟨rfl,λU V W=>?_⟩;by_cases L:f<=(x:Int)
  .by_cases M:t.group=g
   .rw[E (by rw[zAc L,zBv.2 M];rfl)];exact mx
   .have A:=u (by rw[zBd.2 M,zB3]);refine WW ?_;exact⟨rfl,A⟩
  .have A:=u (by rw[zAb L,zA7]);refine WW ?_;exact⟨rfl,A⟩
 .rw[f7,zAa]at B
  have G:kS j r g f= -1:=by
   unfold kS;rw[PW B]
  rw[G];exact mx
def zz (j:Jn) (R:ln j.ph<=1000) (c:Ct) (hc:ln c.li=ln j.ph) (r:Int):zO 323 [xC j,LK c,iA r] [] (bA (WV j c r)) []:=by
 have I:=Xl j r;unfold bg at I;have hl:=zA yU j.ph;have O:=zA yX c.li;refine eM call323 λF hF=>?_
 refine zP I ?_;refine qF hF (nb j R r) Z [3,4,6] [3,4,6] Z Z Z Z Z Z Z Z Z (λi ys h=>?_) (λ_=>[(3,.box [zE yU j.ph,zE iA j.cf,iA j.st]),(4,.box [zE yX c.li,iA c.gr,zE iA c.nx,iA c.wt]),(6,.box [bA false])]) (λi=>∀x∈(PA j r).take i,((xI c x).lamp==0)=true) (T:=[(3,.ptr 3 0 0),(4,.ptr 4 0 0),(6,.ptr 6 0 0)]) Z yE (λi ys y B A M h1 h2=>?_) (λA=>?_)
 .rw[zAh,zAo]at h;obtain⟨x,_,rfl⟩:=h;rfl
 .rw[zAh,zAo]at B;obtain⟨x,hx,rfl⟩:=B
  show uG _ M _ _ ⟨[(11,iA (x:Int)),(3,.ptr 3 0 0),(4,.ptr 4 0 0),(6,.ptr 6 0 0)],[(3,.box [zE yU j.ph,zE iA j.cf,iA j.st]),(4,.box [zE yX c.li,iA c.gr,zE iA c.nx,iA c.wt]),(6,.box [bA false])]⟩ _
  have u:=zB5 hx;have S:=(cN.1 u).1;have Y:(c.li.map yX)[x]? =some (yX (xI c x)):=zJ yX c.li x zB
  have C:((xI c x).lamp==0)=true->∀z∈(PA j r).take (i+1),((xI c z).lamp==0)=true:=λhb z U=>by
   rcases SU hx U with h|rfl
   .exact A z h
   .exact hb
  have E:((xI c x).lamp==0)=false->WV j c r=false:=λhb=>by
   unfold WV;exact zC6.2 ⟨x,u,by rw[hb];decide⟩
  clear A hx;generalize xI c x=t at *;refine WW ?_;refine⟨rfl,λV W X=>?_⟩;by_cases L:t.lamp=0
  .have G:=C (zBv.2 L);refine WW ?_;exact⟨rfl,G⟩
  .rw[E (zBd.2 L)];exact mx
 .rw[f7,zAa]at A;have hd:WV j c r=true:=zAm.2 A;rw[hd];exact mx
def Hh (j:Jn) (r t:Int) (i:Nat):Int:=match ((PA j r).take i).find? (λp:Nat=>!vM j.cf p t)with
 |some p=>p
 |none=> -1
def Kk {r t:Int} {i x:Nat} (hx:(PA j r)[i]? =some x):Hh j r t (i+1)=if vM j.cf x t=true then Hh j r t i else if Hh j r t i= -1 then(x:Int)else Hh j r t i:=by
 unfold Hh;rw[zDj,hx,List.find?_append]
 grind
theorem yz (j:Jn) (hn:ln j.ph<=1000) (M:ln j.cf<=40) (c:Ct) (hm:ln c.nx=2) (r t:Int) (hr:0<=r/\r<2):zO 324 [xC j,LK c,iA r,iA t] [] (iA (FV j (c.nx.getD r.toNat dd) r t)) []:=by
 have V:=Xl j r;unfold bg at V;have hl:=zA yU j.ph;have ac:=zA iA c.nx;have ap:=yC iA c.nx r hr.1 zB;generalize S:c.nx.getD r.toNat dd=A at *;refine eM call324 λF hF=>?_
 refine zP V ?_;refine qF hF (nb j hn r) Z [4,5,6,7,8,9] [4,5,6,7,8,9] Z Z Z Z Z Z Z Z Z (λi ys h=>?_) (λi=>[(4,.box [zE yU j.ph,zE iA j.cf,iA j.st]),(5,.box [zE yX c.li,iA c.gr,zE iA c.nx,iA c.wt]),(6,.box [iA r]),(7,.box [iA t]),(8,.box [iA 0]),(9,.box [iA (Hh j r t i)])]) (λi=>∀x∈(PA j r).take i,(!vM j.cf x t&&decide (A≠ -1/\A<=(x:Int)))=false) (T:=[(4,.ptr 4 0 0),(5,.ptr 5 0 0),(6,.ptr 6 0 0),(7,.ptr 7 0 0),(8,.ptr 8 0 0),(9,.ptr 9 0 0)]) Z yE (λi ys y L G Y h1 h2=>?_) (λG=>?_)
 .rw[zAh,zAo]at h;obtain⟨x,_,rfl⟩:=h;rfl
 .rw[zAh,zAo]at L;obtain⟨x,hx,rfl⟩:=L
  show uG _ Y _ _ ⟨[(14,iA (x:Int)),(4,.ptr 4 0 0),(5,.ptr 5 0 0),(6,.ptr 6 0 0),(7,.ptr 7 0 0),(8,.ptr 8 0 0),(9,.ptr 9 0 0)],[(4,.box [zE yU j.ph,zE iA j.cf,iA j.st]),(5,.box [zE yX c.li,iA c.gr,zE iA c.nx,iA c.wt]),(6,.box [iA r]),(7,.box [iA t]),(8,.box [iA 0]),(9,.box [iA (Hh j r t i)])]⟩ _
  have ag:=(cN.1 (zB5 hx)).1;have E:=gB j.cf M x t;have B:=Kk (t:=t) hx
  have C:(!vM j.cf x t&&decide (A≠ -1/\A<=(x:Int)))=false->∀z∈(PA j r).take (i+1),(!vM j.cf z t&&decide (A≠ -1/\A<=(z:Int)))=false:=λhb z hz=>by
   rcases SU hx hz with h|rfl
   .exact G z h
   .exact hb
  have O:(!vM j.cf x t&&decide (A≠ -1/\A<=(x:Int)))=true->FV j A r t=x:=λhb=>by
   unfold FV;rw[ME _ i x hx G hb]
  clear G hx S;generalize vM j.cf x t=q,Hh j r t (i+1)=l2,Hh j r t i=U at *;refine WW ?_;refine⟨rfl,λF2 g1 g2=>?_⟩
  cases q with
  |true=>
   rw[Os Z]at B;have u:=C Z;subst B;refine zP E ?_;exact⟨rfl,u⟩
  |false=>
  rw[hW xG]at B;by_cases W:A= -1
  .have u:=C (by rw[zAb (λh=>h.1 W)];rfl);by_cases I:U= -1
   .rw[Os I]at B;subst B;refine zP E ?_;exact⟨rfl,u⟩
   .rw[hW I]at B;subst B;refine zP E ?_;exact⟨rfl,u⟩
  by_cases X:A<=(x:Int)
  .rw[O (by rw[zAc ⟨W,X⟩];rfl)];exact nl E
  .have u:=C (by rw[zAb (λh=>X h.2)];rfl);by_cases I:U= -1
   .rw[Os I]at B;subst B;refine zP E ?_;exact⟨rfl,u⟩
   .rw[hW I]at B;subst B;refine zP E ?_;exact⟨rfl,u⟩
 .rw[f7,zAa]at G
  have R:FV j A r t=Hh j r t (PA j r).length:=by
   unfold FV Hh;rw[PW G,zAa];rfl
  rw[R,f7];generalize Hh j r t (PA j r).length=U at *;exact mx
def uQ {TT:List TI} {z:List ResultVar} {y:List (Nat×xM)} {r:AV} {h1:List (Nat×xM)} {st:St} {u:List AV} (K:List Nat) (h:LQ TT st z=some u) (A:(yV y).all (K.contains ·)=true) (B:wR K (zD st.h) (ES u)=r) (hh:vD K (zD st.h)=h1):
 Fin TT z y r h1 .normal st:=⟨.inl Z,u,K,h,A,.inl B.symm,by rw[hh]⟩
def Gh (u y:Int):Nat->List AV
 |0=>[iA 0,iA 0]
 |1=>[iA u,iA 0]
 |_+2=>[iA u,iA y]
def Gd (j:Jn) (E:ln j.ph<=1000) (g O C:Int) (L N:List AV) (B S:Nat):zO 208 [xC j,.ptr 3000 0 0,iA g] [(3000,.box [.ref 1001 0 B,iA O,.ref 1002 0 S,iA C]),(1001,.arr 2 L false),(1002,.arr 1 N false)] (.tup [])
  [(3000,.box [.ref 1001 0 B,iA g,.ref 2001 0 2,iA C]),(1001,.arr 2 L false),(1002,.arr 1 N false),(2001,.arr 1 [iA (kS j 0 g 0),iA (kS j 1 g 0)] false)]:=by
 have G:=WP j E 0 g 0;have I:=WP j E 1 g 0;generalize kS j 0 g 0=u,kS j 1 g 0=y at *;obtain⟨A,z⟩:∃n:Nat,n=2:=⟨2,rfl⟩;refine eM call208 λF hF=>?_
 (repeat' (first|refine qU ?_|apply yY|apply xN|intro hc|(apply zG;first|(apply fY;refine aO 2001 tok Z Z Z Z Z Z Z Z Z Z Z Z Z zB zB Z Z Z ?_))|fail))
 refine zM (A) [3000,2001,3,1001,1002] [3,1001,1002] [1,2,3] [20,19,1,2,3] Z (λi T U=>⟨(20,iA i)::(19,iA A)::T,(3000,.box [.ref 1001 0 B,iA g,.ref 2001 0 A,iA C])::(2001,.arr 1 (Gh u y i) false)::U⟩) ?_;(conv=>whnf);refine⟨by(rw[z];rfl),?_,?_⟩
 .intro i hi;have:i=0\/i=1:=by omega
  rcases this with rfl|rfl
  .have R:(Gh u y 0)[((0:Nat):Int).toNat]? =some (iA 0):=rfl;have hl:(Gh u y 0).length=2:=rfl;refine zP G ?_;rfl
  .have R:(Gh u y 1)[((1:Nat):Int).toNat]? =some (iA 0):=rfl;have hl:(Gh u y 1).length=2:=rfl;refine zP I ?_;rfl
 .have M:Gh u y A=[iA u,iA y]:=by rw[z];rfl
  rw[M];refine WW ?_;subst z;exact uQ [3000,1001,1002,2001] Z Z Z Z
def qR (c:Ct) (u:Nat):List (Nat×xM):=[(3000,.box [.ref 1001 0 (c.li.map yX).length,iA c.gr,.ref u 0 (c.nx.map iA).length,iA c.wt]),(1001,.arr 2 (c.li.map yX) false),(u,.arr 1 (c.nx.map iA) false)]
def aF (c:Ct) (o:List Int):List (Nat×xM):=[(3000,.box [.ref 1001 0 (c.li.map yX).length,iA c.gr,.ref 2001 0 (c.nx.map iA).length,iA c.wt]),(1001,.arr 2 (c.li.map yX) false),(1002,.arr 1 (o.map iA) false),(2001,.arr 1 (c.nx.map iA) false)]
theorem YR (j:Jn) (hn:ln j.ph<=1000) (E:ln j.cf<=40) (c:Ct) (hc:ln c.li=ln j.ph) (hm:ln c.nx=2) (p:Nat) (hp:p<ln j.ph) (hr:0<=(zS j p).ring/\(zS j p).ring<=1) (C:dG j c p=true\/c.gr=(zS j p).group):
  zO 325 [xC j,.ptr 3000 0 0,iA (p:Int)] (qR c 1002) (.tup []) (qR (vV j c p) 1002):=by
 have ap:=zA yU j.ph;have ac:=zA yX c.li;have ag:=zA iA c.nx;have G:=zJ yU j.ph p hp
 change (j.ph.map yU)[p]? =some (yU (zS j p))at G
 have I:=WP j hn (zS j p).ring (zS j p).group (p+1);unfold vV;by_cases hk:dG j c p=true
 case pos=>
  rw[Os hk];unfold dG at hk;rw[zBr]at hk;obtain⟨L,R,hk⟩:=hk;rw[zAw]at R;unfold qR;refine eM call325 λF hF=>?_
  refine WW ?_;refine zZ (ln c.li) [3,3000,1001,1002] [3,3000,1001,1002] [1,2,3,12,13] [14,1,2,3,12,13] Z (λi T U zs=>(i<=L)/\zs=⟨(14,iA i)::T,U⟩) (Lp ?_ ?_ ?_)
  .exact⟨zAn _,rfl⟩
  .rintro i st hi ⟨hiq,rfl⟩;have V:=zJ yX c.li i hi
   change (c.li.map yX)[i]? =some (yX (xI c i))at V
   have z:=gB j.cf E p i;by_cases hb:((xI c i).lamp != 0&&vM j.cf p i)=true
   .rw[zAi]at hb;have h1:(xI c i).lamp≠0:=by simpa using hb.1
    rw[hb.2]at z;generalize xI c i=t at *;clear hb I hk;refine zP z ?_;exact zV [3000,1001,1002] Z Z Z Z
   .have ar:i<L:=by
     rcases zFf i L with h|h
     .exact h
     .rw[show i=L by omega]at hb;exact absurd hk hb
    rw[zAi]at hb;by_cases h1:(xI c i).lamp=0
    .generalize xI c i=t at *;clear hb hk;refine WW ?_;exact⟨zB,rfl⟩
    .have y:vM j.cf p i=false:=by
      cases y:vM j.cf p i with
      |false=>rfl
      |true=>exact absurd ⟨by simpa using h1,y⟩ hb
     rw[y]at z;generalize xI c i=t at *;clear hb hk;refine zP z ?_;exact⟨zB,rfl⟩
  .rintro st ⟨hiq,rfl⟩;exfalso;omega
 have u:dG j c p=false:=by simpa using hk
 have O:c.gr=(zS j p).group:=by
  rcases C with C|C
  .exact absurd C hk
  .exact C
 rw[hW hk];have Y:MF j c p=CS c p:=by unfold MF;rw[Os O]
 rw[Y];unfold dG at u;rw[zCs]at u;have M:∀q,q<ln c.li->((xI c q).lamp != 0&&vM j.cf p q)=false:=λq y=>by simpa using u q (zAw.2 y)
 unfold CS qR;dsimp only;rw[zBt,zBt,zBn,zBn];clear u hk Y C;generalize kS j (zS j p).ring (zS j p).group (p+1)=fo at *;obtain⟨X,A⟩:∃n:Nat,(zS j p).ring=n:=⟨(zS j p).ring.toNat,zB⟩;have B:=zJ yX c.li p zB;have W:=zJ iA c.nx X zB;generalize S:xI c p=l0 at*
 change (c.li.map yX)[p]? =some (yX (xI c p))at B
 rw[S]at B;generalize c.nx.getD X dd=n0 at *;refine eM call325 λF hF=>?_
 refine WW ?_;refine zM (ln c.li) [3,3000,1001,1002] [3,3000,1001,1002] [1,2,3,12,13] [14,1,2,3,12,13] Z (λi T U=>⟨(14,iA i)::T,U⟩) (Lq ?_ ?_)
 .intro i hi;have V:=zJ yX c.li i hi
  change (c.li.map yX)[i]? =some (yX (xI c i))at V
  have z:=gB j.cf E p i;have hb:=M i hi;clear M B W I;by_cases h1:(xI c i).lamp=0
  .generalize xI c i=t at *;clear hb;refine WW ?_;rfl
  .have y:vM j.cf p i=false:=by
    cases y:vM j.cf p i with
    |false=>rfl
    |true=>
     rw[y,zCv]at hb;exact absurd JG h1
   rw[y]at z;generalize xI c i=t at *;clear hb;refine zP z ?_;rfl
 .clear M;generalize zS j p=t at *;rw[A,zAv];have et:yU t= .agg [iA X,iA t.group,iA t.ming,iA t.maxg,iA t.yel,iA t.red,iA t.walk,iA t.clear]:=by rw[<-A];rfl
  rw[et]at G;rw[A]at I;refine zP I ?_;exact uQ [3000,1001,1002] Z Z Z Z
theorem PX (j:Jn) (hn:ln j.ph<=1000) (E:ln j.cf<=40) (c:Ct) (hc:ln c.li=ln j.ph) (hm:ln c.nx=2) (p:Nat) (hp:p<ln j.ph) (hr:0<=(zS j p).ring/\(zS j p).ring<=1) (C:dG j c p=true\/c.gr=(zS j p).group):
  zO 325 [xC j,.ptr 3000 0 0,iA (p:Int)] (qR c 2001) (.tup []) (qR (vV j c p) 2001):=by
 have ap:=zA yU j.ph;have ac:=zA yX c.li;have ag:=zA iA c.nx;have G:=zJ yU j.ph p hp
 change (j.ph.map yU)[p]? =some (yU (zS j p))at G
 have I:=WP j hn (zS j p).ring (zS j p).group (p+1);unfold vV;by_cases hk:dG j c p=true
 case pos=>
  rw[Os hk];unfold dG at hk;rw[zBr]at hk;obtain⟨L,R,hk⟩:=hk;rw[zAw]at R;unfold qR;refine eM call325 λF hF=>?_
  refine WW ?_;refine zZ (ln c.li) [3,3000,1001,2001] [3,3000,1001,2001] [1,2,3,12,13] [14,1,2,3,12,13] Z (λi T U zs=>(i<=L)/\zs=⟨(14,iA i)::T,U⟩) (Lp ?_ ?_ ?_)
  .exact⟨zAn _,rfl⟩
  .rintro i st hi ⟨hiq,rfl⟩;have V:=zJ yX c.li i hi
   change (c.li.map yX)[i]? =some (yX (xI c i))at V
   have z:=gB j.cf E p i;by_cases hb:((xI c i).lamp != 0&&vM j.cf p i)=true
   .rw[zAi]at hb;have h1:(xI c i).lamp≠0:=by simpa using hb.1
    rw[hb.2]at z;generalize xI c i=t at *;clear hb I hk;refine zP z ?_;exact zV [3000,1001,2001] Z Z Z Z
   .have ar:i<L:=by
     rcases zFf i L with h|h
     .exact h
     .rw[show i=L by omega]at hb;exact absurd hk hb
    rw[zAi]at hb;by_cases h1:(xI c i).lamp=0
    .generalize xI c i=t at *;clear hb hk;refine WW ?_;exact⟨zB,rfl⟩
    .have y:vM j.cf p i=false:=by
      cases y:vM j.cf p i with
      |false=>rfl
      |true=>exact absurd ⟨by simpa using h1,y⟩ hb
     rw[y]at z;generalize xI c i=t at *;clear hb hk;refine zP z ?_;exact⟨zB,rfl⟩
  .rintro st ⟨hiq,rfl⟩;exfalso;omega
 have u:dG j c p=false:=by simpa using hk
 have O:c.gr=(zS j p).group:=by
  rcases C with C|C
  .exact absurd C hk
  .exact C
 rw[hW hk];have Y:MF j c p=CS c p:=by unfold MF;rw[Os O]
 rw[Y];unfold dG at u;rw[zCs]at u;have M:∀q,q<ln c.li->((xI c q).lamp != 0&&vM j.cf p q)=false:=λq y=>by simpa using u q (zAw.2 y)
 unfold CS qR;dsimp only;rw[zBt,zBt,zBn,zBn];clear u hk Y C;generalize kS j (zS j p).ring (zS j p).group (p+1)=fo at *;obtain⟨X,A⟩:∃n:Nat,(zS j p).ring=n:=⟨(zS j p).ring.toNat,zB⟩;have B:=zJ yX c.li p zB;have W:=zJ iA c.nx X zB;generalize S:xI c p=l0 at*
 change (c.li.map yX)[p]? =some (yX (xI c p))at B
 rw[S]at B;generalize c.nx.getD X dd=n0 at *;refine eM call325 λF hF=>?_
 refine WW ?_;refine zM (ln c.li) [3,3000,1001,2001] [3,3000,1001,2001] [1,2,3,12,13] [14,1,2,3,12,13] Z (λi T U=>⟨(14,iA i)::T,U⟩) (Lq ?_ ?_)
 .intro i hi;have V:=zJ yX c.li i hi
  change (c.li.map yX)[i]? =some (yX (xI c i))at V
  have z:=gB j.cf E p i;have hb:=M i hi;clear M B W I;by_cases h1:(xI c i).lamp=0
  .generalize xI c i=t at *;clear hb;refine WW ?_;rfl
  .have y:vM j.cf p i=false:=by
    cases y:vM j.cf p i with
    |false=>rfl
    |true=>
     rw[y,zCv]at hb;exact absurd JG h1
   rw[y]at z;generalize xI c i=t at *;clear hb;refine zP z ?_;rfl
 .clear M;generalize zS j p=t at *;rw[A,zAv];have et:yU t= .agg [iA X,iA t.group,iA t.ming,iA t.maxg,iA t.yel,iA t.red,iA t.walk,iA t.clear]:=by rw[<-A];rfl
  rw[et]at G;rw[A]at I;refine zP I ?_;exact uQ [3000,1001,2001] Z Z Z Z
theorem PY (j:Jn) (W:ln j.ph<=1000) (I:ln j.cf<=40) (c:Ct) (hc:ln c.li=ln j.ph) (hm:ln c.nx=2) (p:Nat) (hp:p<ln j.ph) (hr:0<=(zS j p).ring/\(zS j p).ring<=1) (u:dG j c p=false) (M:c.gr≠(zS j p).group):
  zO 325 [xC j,.ptr 3000 0 0,iA (p:Int)] (qR c 1002) (.tup []) (aF (vV j c p) c.nx):=by
 have ag:=zA yU j.ph;have Y:=zA yX c.li;have ac:=zA iA c.nx;have C:=zJ yU j.ph p hp
 change (j.ph.map yU)[p]? =some (yU (zS j p))at C
 have E:=WP j W (zS j p).ring (zS j p).group (p+1);unfold vV;rw[hW (by rw[u];decide)];have V:MF j c p=QH j (CS c p) (zS j p).group:=by unfold MF;rw[hW M]
 rw[V];unfold dG at u;rw[zCs]at u;have G:∀q,q<ln c.li->((xI c q).lamp != 0&&vM j.cf p q)=false:=λq B=>by simpa using u q (zAw.2 B)
 have R:=Gd j W (zS j p).group c.gr c.wt ((c.li.map yX).set p (yX ⟨1,0⟩)) (c.nx.map iA) (c.li.map yX).length (c.nx.map iA).length;unfold QH CS qR aF;dsimp only;rw[zBt,zBt,zBn,zBn];rw[show([kS j 0 (zS j p).group 0,kS j 1 (zS j p).group 0].map iA)=[iA (kS j 0 (zS j p).group 0),iA (kS j 1 (zS j p).group 0)]from Z];have L:(([iA (kS j 0 (zS j p).group 0),iA (kS j 1 (zS j p).group 0)]:List AV)).length=2:=rfl;rw[L]
 have z:∃v,([iA (kS j 0 (zS j p).group 0),iA (kS j 1 (zS j p).group 0)]:List AV)[(zS j p).ring.toNat]? =some (iA v):=by
  have:(zS j p).ring=0\/(zS j p).ring=1:=by omega
  rcases this with h|h<;>rw[h]
  all_goals exact⟨_,rfl⟩
 obtain⟨v0,z⟩:=z;generalize ([iA (kS j 0 (zS j p).group 0),iA (kS j 1 (zS j p).group 0)]:List AV)=fx at *;clear u V;generalize kS j (zS j p).ring (zS j p).group (p+1)=fo at *;obtain⟨rn,y⟩:∃n:Nat,(zS j p).ring=n:=⟨(zS j p).ring.toNat,zB⟩;have A:=zJ yX c.li p zB;rw[y,zAv]at z;generalize O:xI c p=l0 at*
 change (c.li.map yX)[p]? =some (yX (xI c p))at A
 rw[O]at A;refine eM call325 λF hF=>?_
 refine WW ?_;refine zM (ln c.li) [3,3000,1001,1002] [3,3000,1001,1002] [1,2,3,12,13] [14,1,2,3,12,13] Z (λi T U=>⟨(14,iA i)::T,U⟩) (Lq ?_ ?_)
 .intro i hi;have hy:=zJ yX c.li i hi
  change (c.li.map yX)[i]? =some (yX (xI c i))at hy
  have S:=gB j.cf I p i;have hb:=G i hi;clear G A E R;by_cases h1:(xI c i).lamp=0
  .generalize xI c i=t at *;clear hb;refine WW ?_;rfl
  .have B:vM j.cf p i=false:=by
    cases B:vM j.cf p i with
    |false=>rfl
    |true=>
     rw[B,zCv]at hb;exact absurd JG h1
   rw[B]at S;generalize xI c i=t at *;clear hb;refine zP S ?_;rfl
 .clear G;generalize zS j p=t at *;rw[y,zAv];have X:yU t= .agg [iA rn,iA t.group,iA t.ming,iA t.maxg,iA t.yel,iA t.red,iA t.walk,iA t.clear]:=by rw[<-y];rfl
  rw[X]at C;rw[y]at E;refine yB (xH R E) ?_;exact uQ [3000,1001,1002,2001] Z Z Z Z
def Vs (c:Ct):AV:= .agg [.sl false ((c.li.map yX).take (c.li.map yX).length),iA c.gr,.sl false ((c.nx.map iA).take (c.nx.map iA).length),iA c.wt]
def kH (c:Ct):Vs c=LK c:=by unfold Vs;rw[zAa,zAa];rfl
def WQ (j:Jn) (u:ln j.ph<=1000) (c:Ct) (hc:ln c.li=ln j.ph) (r:Int):zO 323 [xC j,Vs c,iA r] [] (bA (WV j c r)) []:=by rw[kH];exact zz j u c hc r
def ub (j:Jn) (z:ln j.ph<=1000) (u:ln j.cf<=40) (c:Ct) (y:ln c.nx=2) (r t:Int) (A:0<=r/\r<2):zO 324 [xC j,Vs c,iA r,iA t] [] (iA (FV j (c.nx.getD r.toNat dd) r t)) []:=by rw[kH];exact yz j z u c y r t A
def WR (J:JV j) {c:Ct} {r:Int} {t:Nat} (A:t<ln j.ph) (h:aR j c r t≠ -1):∃p:Nat,aR j c r t=p/\p<ln j.ph/\(zS j p).group=(zS j t).group:=by
 unfold aR at h⊢;split
 .grind
 .rename_i z;rw[hW z]at h
  rcases CU j (c.nx.getD r.toNat dd) r t with h1|⟨p,h1,h2,_,h4⟩
  .exact absurd h1 h
  .refine⟨p,h1,h2,?_⟩;by_cases u:p=t
   .rw[u]
   .exact zCu λy=>by
     have:=J.ap p t h2 A u (.inr y)
     grind
def jN (j:Jn) (c:Ct) (p:Nat):(dG j c p=true/\vV j c p=c)\/(dG j c p=false/\(vV j c p).gr=(zS j p).group):=by
 unfold vV;split
 .grind
 .rename_i h;refine .inr ⟨by simpa using h,?_⟩;dsimp only;unfold MF;split
  .rename_i h2;exact h2
  .rfl
def XS (e:Bool) (c:Ct) (o:List Int):List (Nat×xM):=if e=true then aF c o else qR c 1002
