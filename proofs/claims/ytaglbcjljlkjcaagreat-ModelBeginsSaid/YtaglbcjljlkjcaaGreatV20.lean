/- Part 20. -/
import Derived.Test.YtaglbcjljlkjcaaGreatV19
namespace Go.Proofs.YtaglbcjljlkjcaaGreat.Av
open Tryz
set_option linter.all false
set_option maxRecDepth 4000
set_option maxHeartbeats 1000000
open List renaming length->ln,replicate->pg,range->pi,getD->py
open Inhabited renaming default->dd
variable {j:Jn}
def QE (a:Int):Bool:=decide (a=1\/a=2)
def ZL (a:Int):zO 285 [iA a] [] (bA (QE a)) []:=by
 unfold QE
 (cases hb:decide (a=1\/a=2)with|false=>((refine eM call285 λF hF=>?_);((refine WW (I2 (λhc=>?_) λhc=>?_)));all_goals (first|exact zI|(simp only[QE,zAz]at hb;first|exact JY|exact LN)))|true=>(simp only[QE,zAg]at hb;(refine eM call285 λF hF=>?_);((refine WW (I2 (λhc=>?_) λhc=>?_)));all_goals (first|exact zI|exact JY|exact LN)))
def ZM (a:Int):zO 256 [iA a] [] (bA (QE a)) []:=by
 unfold QE
 (cases hb:decide (a=1\/a=2)with|false=>((refine eM call256 λF hF=>?_);((repeat' (first|refine qU ?_|apply yY|apply xN|intro hc|(apply zG;first|refine SM ?_)|fail)));all_goals (first|exact zI|(simp only[QE,zAz]at hb;first|exact JY|exact LN)))|true=>(simp only[QE,zAg]at hb;(refine eM call256 λF hF=>?_);((repeat' (first|refine qU ?_|apply yY|apply xN|intro hc|(apply zG;first|refine SM ?_)|fail)));all_goals (first|exact zI|exact JY|exact LN)))
def SP (u:List Li) (k:Int) (p:Nat):Int:=if(p:Int)=k then 1 else(u.getD p dd).lamp
def bK (u:List Li) (k:Int):List Int:=(pi (ln u)).map (SP u k)
def DW (u:List Li) (k:Int):(bK u k).length=ln u:=by simp[bK]
def gk (f:Nat->Int) (n i:Nat) (h:i<n) (x:Int) (hx:x=f i):(((List.range i).map f++List.replicate (n-i) 0).map iA).set i (iA x)=((List.range (i+1)).map f++List.replicate (n-(i+1)) 0).map iA:=by
 subst hx;rw[<-zBt,show n-i=(n-(i+1))+1 by omega,zEb,zDc _ _ yE,f7,zBp,zCz,zEd,zB4];simp
def DX (f:Nat->Int) (n i:Nat) (h:i<=n):(((List.range i).map f++List.replicate (n-i) 0).map iA).length=n:=by
 simp;omega
theorem Gr (f:Nat->Int) (n i:Nat) (h:i<n):(((List.range i).map f++List.replicate (n-i) 0).map iA)[i]? =some (iA 0):=by grind
def Sy (u:List Li) (L:ln u<=1000) (k:Int):zO 230 [zE yX u,iA k] [] (zE iA (bK u k)) []:=by
 have hl:=zA yX u;have A:pg (ln u) (AV.s (.int .i64 0))=((pi 0).map (SP u k)++pg (ln u-0) 0).map iA:=by simp[iA]
 obtain⟨n,B⟩:∃n,ln u=n:=⟨_,rfl⟩;refine eM call230 λF hF=>?_
 refine WW ?_;refine zM (ln u) [10] [] [1,5,11,12] [13,1,5,11,12] Z (λi T U=>⟨(13,iA i)::T,(10,.arr 1 (((pi i).map (SP u k)++pg (ln u-i) 0).map iA) false)::U⟩) ?_;(conv=>whnf);refine⟨by(rw[<-A,<-hl];rfl),?_,?_⟩
 .intro i hi;have M:=zJ yX u i hi;have z:=DX (SP u k) (ln u) i zB;have E:=Gr (SP u k) (ln u) i hi;have C:=gk (SP u k) (ln u) i hi (SP u k i) Z
  have y:SP u k i=if(i:Int)=k then 1 else(u.getD i dd).lamp:=rfl
  generalize ((pi i).map (SP u k)++pg (ln u-i) 0).map iA=xs,((pi (i+1)).map (SP u k)++pg (ln u-(i+1)) 0).map iA=ys,SP u k i=v,u.getD i dd=t at *;rw[<-C];clear C A B;by_cases hk:(i:Int)=k
  .rw[Os hk]at y;subst y;have G:(xs.set i (iA t.lamp))[i]? =some (iA t.lamp):=by rw[zBy zB]
   have I:(xs.set i (iA t.lamp)).length=ln u:=by simp[z]
   rw[<-zEp (iA t.lamp)];refine WW ?_;rfl
  .rw[hW hk]at y;subst y;refine WW ?_;rfl
 .have z:=DX (SP u k) (ln u) (ln u) (zAe _)
  have e:zE iA (bK u k)= .sl false ((((pi (ln u)).map (SP u k)++pg (ln u-u.length) 0).map iA).take (u.map yX).length):=by
   rw[zAl zB,zCz,zEu,zA6];rfl
  rw[e];clear e A;generalize ((pi (ln u)).map (SP u k)++pg (ln u-u.length) 0).map iA=xs at *;exact mx
def Er (u:List Li) (A:ln u<=1000) (k:Int):zO 199 [zE yX u,iA k] [] (zE iA (bK u k)) []:=by
 have hl:=zA yX u;refine eM call199 λF hF=>?_
 refine WW ?_;refine zW 5 1001 1 Z Z Z ?_;refine zM (ln u) [1001] [] [1,8,9] [5,10,1,8,9] Z (λi T U=>⟨(5,.ref 1001 0 (((pi i).map (SP u k)).map iA).length)::(10,iA i)::T,(1001,.arr 1 (((pi i).map (SP u k)).map iA) true)::U⟩) (Lq ?_ ?_)
 .intro i hi;have B:=zJ yX u i hi;have z:(((pi i).map (SP u k)).map iA).length=i:=by simp
  have e:((pi (i+1)).map (SP u k)).map iA=((pi i).map (SP u k)).map iA++[iA (SP u k i)]:=by rw[zB4];simp
  have y:SP u k i=if(i:Int)=k then 1 else(u.getD i dd).lamp:=rfl
  rw[e];clear e;generalize ((pi i).map (SP u k)).map iA=xs,SP u k i=v,u.getD i dd=t at *;by_cases hk:(i:Int)=k
  .rw[Os hk]at y;subst y;refine WW ?_;rfl
  .rw[hW hk]at y;subst y;refine WW ?_;rfl
 .have z:(((pi (ln u)).map (SP u k)).map iA).length=ln u:=by simp
  rw[show zE iA (bK u k)= .sl false ((((pi (ln u)).map (SP u k)).map iA).take (((pi (ln u)).map (SP u k)).map iA).length) by rw[zAa];rfl];generalize ((pi (ln u)).map (SP u k)).map iA=xs at *;exact mx
def JO (y u:List Int) (p q:Nat):Bool:=QE (u.getD p dd)&&(QE (u.getD q dd)&&vM y p q)
def fk (y u:List Int):Bool:=(pi (ln u)).any λp=>(pi (ln u)).any λq=>JO y u p q
theorem Xw {y u:List Int} (h:fk y u=false) (p q:Nat) (z:p<ln u) (A:q<ln u):JO y u p q=false:=by grind [fk,JO]
theorem ak {z y:List Int} (h:fk z y=true):∃p q:Nat,p<ln y/\q<ln y/\JO z y p q=true/\(∀u,u<p->∀v,v<ln y->JO z y u v=false)/\(∀v,v<q->JO z y p v=false):=by
 unfold fk at h;rw[zBr]at h;obtain⟨a,I,h⟩:=h;rw[zBr]at h;obtain⟨b,hb,h⟩:=h;obtain⟨p,B,⟨v,hv,A⟩,C⟩:=MD (P:=λp=>∃v,v<ln y/\JO z y p v=true) a ⟨b,zAw.1 hb,h⟩;obtain⟨q,G,L,E⟩:=MD (P:=λq=>JO z y p q=true) v A
 grind
theorem Ry (L y:List Int) (R:ln L<=40) (hn:ln y<=1000):zO 231 [zE iA L,zE iA y] [] (bA (fk L y)) []:=by
 have hl:=zA iA y
 cases hf:fk L y with
 | false=>
  have X:=Xw hf;clear hf;refine eM call231 λF hF=>?_
  (repeat' (first|refine WS ?_|refine SG (I2 (λhc=>?_) λhc=>?_)|refine SG λhc=>?_|(apply zG;first|refine SM ?_)|(first|first|refine SR ?_|refine SK (I2 (λhc=>?_) λhc=>?_)|refine SK λhc=>?_|fail|apply dK|apply dL)|fail))
  refine zM (ln y) [] [] [0,1,10,11] [5,12,0,1,10,11] Z (λi T U=>⟨(5,bA false)::(12,iA i)::T,U⟩) (Lq ?_ ?_)
  .intro u hu;have hy:=zJ iA y u hu;have E:=ZL (y.getD u dd);have B:=X u;unfold JO at B;clear X
   cases hb:QE (y.getD u dd)with
   |false=>
    rw[hb]at E;generalize y.getD u dd=a at *;clear B;refine zP E ?_;rfl
   | true=>
    rw[hb]at E;generalize y.getD u dd=a at *;refine zP E ?_;refine zM (ln y) [] [] [0,1,6,10,11,12,20,21] [5,22,0,1,6,10,11,12,20,21] Z (λi T U=>⟨(5,bA false)::(22,iA i)::T,U⟩) (Lq ?_ ?_)
    .intro v hv;have ag:=zJ iA y v hv;have C:=ZL (y.getD v dd);have I:=gB L R u v;have h:=B v hu hv;rw[hb,zAj]at h;generalize y.getD v dd=b at *;clear B E
     cases z:QE b with
     |false=>
      rw[z]at C;refine zP C ?_;rfl
     |true=>
      rw[z,zAj]at h;rw[z]at C;rw[h]at I;refine yB (xH C I) ?_;rfl
    ·(refine WW ?_)
     rfl
  ·(repeat' (first|refine WS ?_|refine SG (I2 (λhc=>?_) λhc=>?_)|refine SG λhc=>?_|(apply zG;first|refine SM ?_)|(first|first|refine SR ?_|refine SK (I2 (λhc=>?_) λhc=>?_)|refine SK λhc=>?_|fail|apply dK|apply dL)|fail))
   exact zI
 | true=>
  obtain⟨p,q,hp,hq,A,S,W⟩:=ak hf;clear hf;have V:QE (y.getD p dd)=true:=by unfold JO at A;rw[zAi]at A;exact A.1
  have O:QE (y.getD q dd)=true:=by unfold JO at A;rw[zAi,zAi]at A;exact A.2.1
  have M:vM L p q=true:=by unfold JO at A;rw[zAi,zAi]at A;exact A.2.2
  clear A;refine eM call231 λF hF=>?_
  (repeat' (first|refine WS ?_|refine SG (I2 (λhc=>?_) λhc=>?_)|refine SG λhc=>?_|(apply zG;first|refine SM ?_)|(first|first|refine SR ?_|refine SK (I2 (λhc=>?_) λhc=>?_)|refine SK λhc=>?_|fail|apply dK|apply dL)|fail))
  refine zZ (ln y) [] [] [0,1,10,11] [5,12,0,1,10,11] Z (λi T U zs=>(i<=p)/\zs=⟨(5,bA false)::(12,iA i)::T,U⟩) (Lp ?_ ?_ ?_)
  .exact⟨zAn _,rfl⟩
  .rintro u st hu ⟨hup,rfl⟩;have hy:=zJ iA y u hu;have E:=ZL (y.getD u dd);by_cases Y:u=p
   .subst Y;rw[V]at E
    have G:∀v,v<q->(QE (y.getD v dd)&&vM L u v)=false:=λv hv=>by
     have h:=W v hv;unfold JO at h;rw[V,zAj]at h;exact h
    clear S W;generalize y.getD u dd=a at *;refine zP E ?_;refine zZ (ln y) [] [] [0,1,6,10,11,12,20,21] [5,22,0,1,6,10,11,12,20,21] Z (λi T U zs=>(i<=q)/\zs=⟨(5,bA false)::(22,iA i)::T,U⟩) (Lp ?_ ?_ ?_)
    .exact⟨zAn _,rfl⟩
    .rintro v st hv ⟨hvq,rfl⟩;have ag:=zJ iA y v hv;have C:=ZL (y.getD v dd);have I:=gB L R u v;by_cases ac:v=q
     .subst ac;rw[O]at C;rw[M]at I;clear O M G E;generalize y.getD v dd=b at*
      (have gt:=C;have gv:=I;(repeat' (first|refine WS ?_|refine SG (I2 (λhc=>?_) λhc=>?_)|refine SG λhc=>?_|(apply zG;first|refine SM ?_)|(first|first|refine SR ?_|refine SK (I2 (λhc=>?_) λhc=>?_)|refine SK λhc=>?_|fail|apply dK|apply dL)|fail))<;>clear gt gv)
      exact zI
     .have h:=G v zB;clear O M G E;generalize y.getD v dd=b at*
      cases z:QE b with
      |false=>
       rw[z]at C;refine zP C ?_;exact⟨zB,rfl⟩
      |true=>
       rw[z,zAj]at h;rw[z]at C;rw[h]at I;refine yB (xH C I) ?_;exact⟨zB,rfl⟩
    .rintro st ⟨hvq,rfl⟩;exfalso;omega
   .have B:=S u zB;unfold JO at B;clear V O M S W
    cases hb:QE (y.getD u dd)with
    |false=>
     rw[hb]at E;generalize y.getD u dd=a at *;clear B;refine zP E ?_;exact⟨zB,rfl⟩
    | true=>
     rw[hb]at E;generalize y.getD u dd=a at *;refine zP E ?_;refine zM (ln y) [] [] [0,1,6,10,11,12,20,21] [5,22,0,1,6,10,11,12,20,21] Z (λi T U=>⟨(5,bA false)::(22,iA i)::T,U⟩) (Lq ?_ ?_)
     .intro v hv;have ag:=zJ iA y v hv;have C:=ZL (y.getD v dd);have I:=gB L R u v;have h:=B v hv;rw[hb,zAj]at h;generalize y.getD v dd=b at *;clear B E
      cases z:QE b with
      |false=>
       rw[z]at C;refine zP C ?_;rfl
      |true=>
       rw[z,zAj]at h;rw[z]at C;rw[h]at I;refine yB (xH C I) ?_;rfl
     ·(refine WW ?_)
      exact⟨zB,rfl⟩
  .rintro st ⟨hup,rfl⟩;exfalso;omega
theorem Dr (L y:List Int) (R:ln L<=40) (hn:ln y<=1000):zO 198 [zE iA L,zE iA y] [] (bA (fk L y)) []:=by
 have hl:=zA iA y
 cases hf:fk L y with
 | false=>
  have X:=Xw hf;clear hf;refine eM call198 λF hF=>?_
  refine WW ?_;refine zM (ln y) [] [] [0,1,9,10] [11,0,1,9,10] Z (λi T U=>⟨(11,iA i)::T,U⟩) (Lq ?_ ?_)
  .intro u hu;have hy:=zJ iA y u hu;have C:=ZM (y.getD u dd);have E:=X u;unfold JO at E;clear X;refine WW ?_;refine zM (ln y) [] [] [0,1,5,6,9,10,11,16,17] [18,0,1,5,6,9,10,11,16,17] Z (λi T U=>⟨(18,iA i)::T,U⟩) (Lq ?_ ?_)
   .intro v hv;have ag:=zJ iA y v hv;have B:=ZM (y.getD v dd);have I:=uT L R u v;have h:=E v hu hv;clear E;generalize y.getD v dd=b at *;generalize y.getD u dd=a at*
    cases hb:QE a with
    |false=>
     rw[hb]at C;refine zP C ?_;rfl
    | true=>
     rw[hb]at C;rw[hb,zAj]at h
     cases z:QE b with
     |false=>
      rw[z]at B;refine yB (xH C B) ?_;rfl
     |true=>
      rw[z,zAj]at h;rw[z]at B;rw[h]at I;refine yB (qS C B I) ?_;rfl
   ·(refine WW ?_)
    rfl
  .exact mx
 | true=>
  obtain⟨p,q,hp,hq,A,S,W⟩:=ak hf;clear hf;have V:QE (y.getD p dd)=true:=by unfold JO at A;rw[zAi]at A;exact A.1
  have O:QE (y.getD q dd)=true:=by unfold JO at A;rw[zAi,zAi]at A;exact A.2.1
  have M:vM L p q=true:=by unfold JO at A;rw[zAi,zAi]at A;exact A.2.2
  clear A;refine eM call198 λF hF=>?_
  refine WW ?_;refine zZ (ln y) [] [] [0,1,9,10] [11,0,1,9,10] Z (λi T U zs=>(i<=p)/\zs=⟨(11,iA i)::T,U⟩) (Lp ?_ ?_ ?_)
  .exact⟨zAn _,rfl⟩
  .rintro u st hu ⟨hup,rfl⟩;have hy:=zJ iA y u hu;have C:=ZM (y.getD u dd);by_cases Y:u=p
   .subst Y;rw[V]at C
    have G:∀v,v<q->(QE (y.getD v dd)&&vM L u v)=false:=λv hv=>by
     have h:=W v hv;unfold JO at h;rw[V,zAj]at h;exact h
    clear S W;generalize y.getD u dd=a at *;refine WW ?_;refine zZ (ln y) [] [] [0,1,5,6,9,10,11,16,17] [18,0,1,5,6,9,10,11,16,17] Z (λi T U zs=>(i<=q)/\zs=⟨(18,iA i)::T,U⟩) (Lp ?_ ?_ ?_)
    .exact⟨zAn _,rfl⟩
    .rintro v st hv ⟨hvq,rfl⟩;have ag:=zJ iA y v hv;have B:=ZM (y.getD v dd);have I:=uT L R u v;by_cases ac:v=q
     .subst ac;rw[O]at B;rw[M]at I;clear O M G;generalize y.getD v dd=b at *;exact ng (qS C B I)
     .have h:=G v zB;clear O M G;generalize y.getD v dd=b at*
      cases z:QE b with
      |false=>
       rw[z]at B;refine yB (xH C B) ?_;exact⟨zB,rfl⟩
      |true=>
       rw[z,zAj]at h;rw[z]at B;rw[h]at I;refine yB (qS C B I) ?_;exact⟨zB,rfl⟩
    .rintro st ⟨hvq,rfl⟩;exfalso;omega
   .have E:=S u zB;unfold JO at E;clear V O M S W;refine WW ?_;refine zM (ln y) [] [] [0,1,5,6,9,10,11,16,17] [18,0,1,5,6,9,10,11,16,17] Z (λi T U=>⟨(18,iA i)::T,U⟩) (Lq ?_ ?_)
    .intro v hv;have ag:=zJ iA y v hv;have B:=ZM (y.getD v dd);have I:=uT L R u v;have h:=E v hv;clear E;generalize y.getD v dd=b at *;generalize y.getD u dd=a at*
     cases hb:QE a with
     |false=>
      rw[hb]at C;refine zP C ?_;rfl
     | true=>
      rw[hb]at C;rw[hb,zAj]at h
      cases z:QE b with
      |false=>
       rw[z]at B;refine yB (xH C B) ?_;rfl
      |true=>
       rw[z,zAj]at h;rw[z]at B;rw[h]at I;refine yB (qS C B I) ?_;rfl
    ·(refine WW ?_)
     exact⟨zB,rfl⟩
  .rintro st ⟨hup,rfl⟩;exfalso;omega
def N3 (j:Jn) (c u:Ct):Prop:=∀q:Nat,q<ln j.ph->xI u q=xI c q\/((xI c q).lamp=0/\xI u q=⟨1,0⟩)
theorem N3.refl (j:Jn) (c:Ct):N3 j c c:=λq _=> .inl Z
theorem N3.trans {a b c:Ct} (h:N3 j a b) (g:N3 j b c):N3 j a c:=λq u=>by
 rcases h q u with h|⟨h1,h2⟩<;>rcases g q u with g|⟨g1,g2⟩
 .exact .inl (g.trans h)
 .exact .inr ⟨by rw[<-h];exact g1,g2⟩
 .exact .inr ⟨h1,g.trans h2⟩
 .rw[h2]at g1;exact absurd g1 xG
def Qy {c:Ct} {r:Int} {p:Nat} (h:WV j c r=true) (u:p<ln j.ph) (y:(zS j p).ring=r):(xI c p).lamp=0:=by grind [WV,zS,xI,List.all_eq_true,cN]
def Nd (p:Ph) (h:Sw p):zO 147 [yU p] [] (iA (Dd p)) []:=by
 obtain⟨h1,h2,u,y⟩:=h;refine eM call147 λF hF=>?_
 exact mx
def Cr (p:Ph) (h:Sw p) (C:p.yel<=60) (B:0<=p.red/\p.red<=60) (l:Li) (hv:AW p l=true) (lv:Bool):zO 250 [yU p,yX l,bA lv] [] (yX (CP p l lv)) []:=by
 have c:=Nd p h;have E:=Xk hv C B.2;unfold AW at hv;unfold CP;by_cases A:l.lamp=0
 .rw[Os A,zAg]at hv;rw[hW zB,hW zB,hW zB];have u:yX l= .agg [iA 0,iA 0]:=by unfold yX;rw[A,hv]
  rw[u]
  cases lv<;>((refine eM call250 λF hF=>?_);exact mx)
 rw[hW A]at hv;by_cases h1:l.lamp=1
 .rw[Os h1];generalize Dd p=n at*
  cases lv with
  |false=>
   rw[hW (λh=>by cases h.1)];have u:yX ⟨1,min (l.tk+1) 1073741824⟩= .agg [iA l.lamp,iA (min (l.tk+1) 1073741824)]:=by rw[h1];rfl
   rw[u];refine eM call250 λF hF=>?_
   exact mx
  |true=>
  by_cases h2:n<=l.tk+1
  .rw[Os ⟨rfl,h2⟩];refine eM call250 λF hF=>?_
   exact nl c
  .rw[hW (λh=>h2 h.2)];have u:yX ⟨1,min (l.tk+1) 1073741824⟩= .agg [iA l.lamp,iA (min (l.tk+1) 1073741824)]:=by rw[h1];rfl
   rw[u];refine eM call250 λF hF=>?_
   exact nl c
 rw[hW h1]at hv⊢;by_cases h2:l.lamp=2
 .rw[Os h2,zAg]at hv;rw[Os h2];by_cases y:l.tk+1<p.yel
  .rw[Os y];have u:yX ⟨2,l.tk+1⟩= .agg [iA l.lamp,iA (min (l.tk+1) 1073741824)]:=by rw[h2,show min (l.tk+1) 1073741824=l.tk+1 by omega];rfl
   rw[u];refine eM call250 λF hF=>?_
   exact mx
  rw[hW y];by_cases z:p.red=0
  .rw[Os z];refine eM call250 λF hF=>?_
   exact mx
  .rw[hW z];refine eM call250 λF hF=>?_
   exact mx
 rw[hW h2]at hv⊢;by_cases y:l.lamp=3
 .rw[Os y,zAg]at hv;rw[Os y];by_cases z:l.tk+1<p.red
  .rw[Os z];have u:yX ⟨3,l.tk+1⟩= .agg [iA l.lamp,iA (min (l.tk+1) 1073741824)]:=by rw[y,show min (l.tk+1) 1073741824=l.tk+1 by omega];rfl
   rw[u];refine eM call250 λF hF=>?_
   exact mx
  .rw[hW z];refine eM call250 λF hF=>?_
   exact mx
 .rw[hW y]at hv;cases hv
def Py (c:Ct) (B:ln c.li<=25):zO 254 [LK c] [] (iA (LJ c)) []:=by
 have hl:=zA yX c.li;unfold LJ;refine eM call254 λF hF=>?_
 refine WW ?_;refine zM (ln c.li) [] [] [7,8] [3,9,7,8] Z (λi T U=>⟨(3,iA (qT (ST c) i))::(9,iA i)::T,U⟩) (Lq ?_ ?_)
 .intro i hi;have A:=zJ yX c.li i hi
  change (c.li.map yX)[i]? =some (yX (xI c i))at A
  have y:=ZU (ST c) i zB;have z:=BO i zB
  have e:qT (ST c) (i+1)=if ST c i=true then qT (ST c) i+p2 i else qT (ST c) i:=rfl
  have u:ST c i=((xI c i).lamp != 0):=rfl;rw[e,u];generalize qT (ST c) i=b,xI c i=t at *;by_cases h:t.lamp=0
  .rw[hW (by simp[h])];refine WW ?_;rfl
  .rw[Os (by simp[h])];refine WW ?_;rfl
 .exact mx
def xg (j:Jn) (y:ln j.ph<=1000) (u:∀p:Nat,p<ln j.ph->0<=(zS j p).group/\(zS j p).group<=3):zO 255 [xC j] [] (iA (gF j)) []:=by
 have hl:=zA yU j.ph;unfold gF;refine eM call255 λF hF=>?_
 refine WW ?_;refine zM (ln j.ph) [] [] [7,8] [3,9,7,8] Z (λi T U=>⟨(3,iA (AX j.ph i))::(9,iA i)::T,U⟩) (Lq ?_ ?_)
 .intro i hi;have z:=zJ yU j.ph i hi;have hb:=u i hi;unfold zS at hb;have e:AX j.ph (i+1)=max (AX j.ph i) ((j.ph.getD i dd).group+1):=rfl;rw[e];generalize AX j.ph i=g,j.ph.getD i dd=t at *;refine WW ?_;rfl
 .exact mx
def v5 (j:Jn) (B:ln j.ph<=1000) (r g:Int):zO 300 [xC j,iA r,iA g] [] (zE nA (WN j r g (ln j.ph))) []:=by
 have hl:=zA yU j.ph;refine eM call300 λF hF=>?_
 refine WW ?_;refine zW 7 1001 1 Z Z Z ?_;refine zM (ln j.ph) [1001] [] [1,2,11,12] [7,13,1,2,11,12] Z (λi T U=>⟨(7,.ref 1001 0 ((WN j r g i).map nA).length)::(13,iA i)::T,(1001,.arr 1 ((WN j r g i).map nA) true)::U⟩) (Lq ?_ ?_)
 .intro i hi;have A:=zJ yU j.ph i hi
  change (j.ph.map yU)[i]? =some (yU (zS j i))at A
  have y:=CH j r g i
  have u:(WN j r g i).length<=1000:=by
   have:(WN j r g i).length<=(pi i).length:=zBz _ _;rw[zBp]at this;omega
  have z:((WN j r g i).map nA).length<=1000:=by rw[f7];exact u
  rw[y];generalize WN j r g i=o,zS j i=t at *;by_cases h1:t.ring=r
  .by_cases h2:t.group=g
   .rw[Os ⟨h1,h2⟩,zAd];generalize o.map nA=xs at *;refine WW ?_;rfl
   .rw[hW (λh=>h2 h.2)];refine WW ?_;rfl
  .rw[hW (λh=>h1 h.1)];refine WW ?_;rfl
 ·(refine WW ?_)
  exact zH [] Z Z (Id _ _) Z
theorem Oy (j:Jn) (r g f:Int):kS j r g f=match (WN j r g (ln j.ph)).find? (λp:Nat=>decide (f<=(p:Int)))with
 |some p=>(p:Int)
 |none=> -1:=by grind [kS,WN,PA,LL,zS]
def aE (j:Jn) (O:ln j.ph<=1000) (r g p:Int):zO 260 [xC j,iA r,iA g,iA p] [] (iA (kS j r g (p+1))) []:=by
 have y:=v5 j O r g;rw[Oy]
 have E:(WN j r g (ln j.ph)).length<=1000:=by
  have:(WN j r g (ln j.ph)).length<=(pi (ln j.ph)).length:=zBz _ _;rw[zBp]at this;omega
 generalize WN j r g (ln j.ph)=o at *;have hl:=zA nA o
 cases z:o.find? (λq:Nat=>decide (p+1<=(q:Int)))with
 | some q=>
  dsimp only;rw[List.find?_eq_some_iff_getElem]at z;obtain⟨R,G,M,L,hb⟩:=z;rw[zAg]at R;refine eM call260 λF hF=>?_
  refine zP y ?_;refine zZ (ln o) [] [] [3,14,15] [16,3,14,15] Z (λi T U S=>(i<=G)/\S=⟨(16,iA i)::T,U⟩) (Lp ?_ ?_ ?_)
  .exact⟨zAn _,rfl⟩
  .rintro u st A ⟨hui,rfl⟩;have B:=zJ nA o u A;by_cases e:u=G
   .subst e;have C:o.getD u dd=q:=by rw[<-L];simp[py,A]
    rw[C]at B;unfold nA at B;clear hb y;exact mx
   .have h2:=hb u zB;have C:o.getD u dd=o[u]:=by simp[py,A]
    rw[<-C]at h2;have I:¬p+1<=((o.getD u dd:Nat):Int):=by simpa using h2
    generalize o.getD u dd=v at *;unfold nA at B;clear hb y h2;refine WW ?_;exact⟨zB,rfl⟩
  .rintro st ⟨hui,rfl⟩;exfalso;omega
 | none=>
  dsimp only;rw[List.find?_eq_none]at z;refine eM call260 λF hF=>?_
  refine zP y ?_;refine zM (ln o) [] [] [3,14,15] [16,3,14,15] Z (λi T U=>⟨(16,iA i)::T,U⟩) (Lq ?_ ?_)
  .intro u A;have B:=zJ nA o u A;have h2:=z (o.getD u dd) (by simp[py,A]);have I:¬p+1<=((o.getD u dd:Nat):Int):=by simpa using h2
   generalize o.getD u dd=v at *;unfold nA at B;clear z y h2;refine WW ?_;rfl
  .clear z y;exact mx
def wq (u y:Int):Nat->List AV
 |0=>[]
 |1=>[iA u]
 |_+2=>[iA u,iA y]
def MA (j:Jn) (E:ln j.ph<=1000) (g O I:Int) (L N:List AV) (G R:Nat):zO 214 [xC j,.ptr 3000 0 0,iA g] [(3000,.box [.ref 1001 0 G,iA O,.ref 1002 0 R,iA I]),(1001,.arr 2 L false),(1002,.arr 1 N false)] (.tup [])
  [(3000,.box [.ref 1001 0 G,iA g,.ref 2001 0 2,iA I]),(1001,.arr 2 L false),(1002,.arr 1 N false),(2001,.arr 1 [iA (kS j 0 g 0),iA (kS j 1 g 0)] false)]:=by
 have B:=aE j E 0 g (-1);have C:=aE j E 1 g (-1);rw[show(-1:Int)+1=0 by omega]at B C;generalize kS j 0 g 0=u,kS j 1 g 0=y at *;obtain⟨A,z⟩:∃n:Nat,n=2:=⟨2,rfl⟩;refine eM call214 λF hF=>?_
 refine WW ?_;refine zW 6 2001 1 Z Z Z ?_;refine zM (A) [2001,3,3000,1001,1002] [3,3000,1001,1002] [1,2,3] [6,8,1,2,3] Z (λi T U=>⟨(6,.ref 2001 0 (wq u y i).length)::(8,iA i)::T,(2001,.arr 1 (wq u y i) (i != 1))::U⟩) (Lq ?_ ?_)
 .intro i hi;have:i=0\/i=1:=by omega
  rcases this with rfl|rfl
  .have hl:(wq u y 0).length=0:=rfl;refine zP B ?_;rfl
  .have hl:(wq u y 1).length=1:=rfl;refine zP C ?_;rfl
 .have M:wq u y A=[iA u,iA y]:=by rw[z];rfl
  have e3:(A != 1)=true:=by rw[z];rfl
  rw[M,e3]
  (repeat' (first|refine Ch ?_|apply yY|apply xN|intro hc|(apply zG;first|refine SM ?_)|fail))
  refine yH Z (wA ?_);refine kV 2001 [6] Z Z Z Z Z ?_;refine WW ?_;exact uQ [3000,1001,1002,2001] Z Z Z Z
theorem bL (j:Jn) (J:JV j) (hn:ln j.ph<=1000) (E:ln j.cf<=40) (c:Ct) (hc:ln c.li=ln j.ph) (hm:ln c.nx=2) (p:Nat) (R:p<ln j.ph) (hr:0<=(zS j p).ring/\(zS j p).ring<=1) (C:dG j c p=true\/c.gr=(zS j p).group):
  zO 253 [xC j,.ptr 3000 0 0,iA (p:Int)] (qR c 1002) (.tup []) (qR (vV j c p) 1002):=by
 have ap:=zA yU j.ph;have ac:=zA yX c.li;have ag:=zA iA c.nx;have G:=zJ yU j.ph p R
 change (j.ph.map yU)[p]? =some (yU (zS j p))at G
 have I:=aE j hn (zS j p).ring (zS j p).group p;unfold vV;by_cases hk:dG j c p=true
 case pos=>
  rw[Os hk];unfold dG at hk;rw[zBr]at hk;obtain⟨L,S,hk⟩:=hk;rw[zAw]at S;unfold qR;refine eM call253 λF hF=>?_
  refine WW ?_;refine zZ (ln c.li) [3,3000,1001,1002] [3,3000,1001,1002] [1,2,3,12,13] [14,1,2,3,12,13] Z (λi T U zs=>(i<=L)/\zs=⟨(14,iA i)::T,U⟩) (Lp ?_ ?_ ?_)
  .exact⟨zAn _,rfl⟩
  .rintro i st hi ⟨hiq,rfl⟩;have W:=zJ yX c.li i hi
   change (c.li.map yX)[i]? =some (yX (xI c i))at W
   have u:=uT j.cf E i p;rw[J.sy i p zB R]at u;by_cases hb:((xI c i).lamp != 0&&vM j.cf p i)=true
   .rw[zAi]at hb;have h1:(xI c i).lamp≠0:=by simpa using hb.1
    rw[hb.2]at u;generalize xI c i=t at *;clear hb I hk;refine zP u ?_;exact zV [3000,1001,1002] Z Z Z Z
   .have ar:i<L:=by
     rcases zFf i L with h|h
     .exact h
     .rw[show i=L by omega]at hb;exact absurd hk hb
    rw[zAi]at hb;by_cases h1:(xI c i).lamp=0
    .generalize xI c i=t at *;clear hb hk;refine WW ?_;exact⟨zB,rfl⟩
    .have z:vM j.cf p i=false:=by
      cases z:vM j.cf p i with
      |false=>rfl
      |true=>exact absurd ⟨by simpa using h1,z⟩ hb
     rw[z]at u;generalize xI c i=t at *;clear hb hk;refine zP u ?_;exact⟨zB,rfl⟩
  .rintro st ⟨hiq,rfl⟩;exfalso;omega
 have y:dG j c p=false:=by simpa using hk
 have O:c.gr=(zS j p).group:=by
  rcases C with C|C
  .exact absurd C hk
  .exact C
 rw[hW hk];have eb:MF j c p=CS c p:=by unfold MF;rw[Os O]
 rw[eb];unfold dG at y;rw[zCs]at y;have M:∀q,q<ln c.li->((xI c q).lamp != 0&&vM j.cf p q)=false:=λq z=>by simpa using y q (zAw.2 z)
 unfold CS qR;dsimp only;rw[zBt,zBt,zBn,zBn];clear y hk eb C;generalize kS j (zS j p).ring (zS j p).group (p+1)=fo at *;obtain⟨Y,A⟩:∃n:Nat,(zS j p).ring=n:=⟨(zS j p).ring.toNat,zB⟩;have B:=zJ yX c.li p zB;have X:=zJ iA c.nx Y zB;generalize V:xI c p=l0 at*
 change (c.li.map yX)[p]? =some (yX (xI c p))at B
 rw[V]at B;generalize c.nx.getD Y dd=n0 at *;refine eM call253 λF hF=>?_
 refine WW ?_;refine zM (ln c.li) [3,3000,1001,1002] [3,3000,1001,1002] [1,2,3,12,13] [14,1,2,3,12,13] Z (λi T U=>⟨(14,iA i)::T,U⟩) (Lq ?_ ?_)
 .intro i hi;have W:=zJ yX c.li i hi
  change (c.li.map yX)[i]? =some (yX (xI c i))at W
  have u:=uT j.cf E i p;rw[J.sy i p zB R]at u;have hb:=M i hi;clear M B X I;by_cases h1:(xI c i).lamp=0
  .generalize xI c i=t at *;clear hb;refine WW ?_;rfl
  .have z:vM j.cf p i=false:=by
    cases z:vM j.cf p i with
    |false=>rfl
    |true=>
     rw[z,zCv]at hb;exact absurd JG h1
   rw[z]at u;generalize xI c i=t at *;clear hb;refine zP u ?_;rfl
 .clear M;generalize zS j p=t at *;rw[A,zAv];have et:yU t= .agg [iA Y,iA t.group,iA t.ming,iA t.maxg,iA t.yel,iA t.red,iA t.walk,iA t.clear]:=by rw[<-A];rfl
  rw[et]at G;rw[A]at I;refine zP I ?_;exact uQ [3000,1001,1002] Z Z Z Z
theorem ZN (j:Jn) (J:JV j) (hn:ln j.ph<=1000) (E:ln j.cf<=40) (c:Ct) (hc:ln c.li=ln j.ph) (hm:ln c.nx=2) (p:Nat) (R:p<ln j.ph) (hr:0<=(zS j p).ring/\(zS j p).ring<=1) (C:dG j c p=true\/c.gr=(zS j p).group):
  zO 253 [xC j,.ptr 3000 0 0,iA (p:Int)] (qR c 2001) (.tup []) (qR (vV j c p) 2001):=by
 have ap:=zA yU j.ph;have ac:=zA yX c.li;have ag:=zA iA c.nx;have G:=zJ yU j.ph p R
 change (j.ph.map yU)[p]? =some (yU (zS j p))at G
 have I:=aE j hn (zS j p).ring (zS j p).group p;unfold vV;by_cases hk:dG j c p=true
 case pos=>
  rw[Os hk];unfold dG at hk;rw[zBr]at hk;obtain⟨L,S,hk⟩:=hk;rw[zAw]at S;unfold qR;refine eM call253 λF hF=>?_
  refine WW ?_;refine zZ (ln c.li) [3,3000,1001,2001] [3,3000,1001,2001] [1,2,3,12,13] [14,1,2,3,12,13] Z (λi T U zs=>(i<=L)/\zs=⟨(14,iA i)::T,U⟩) (Lp ?_ ?_ ?_)
  .exact⟨zAn _,rfl⟩
  .rintro i st hi ⟨hiq,rfl⟩;have W:=zJ yX c.li i hi
   change (c.li.map yX)[i]? =some (yX (xI c i))at W
   have u:=uT j.cf E i p;rw[J.sy i p zB R]at u;by_cases hb:((xI c i).lamp != 0&&vM j.cf p i)=true
   .rw[zAi]at hb;have h1:(xI c i).lamp≠0:=by simpa using hb.1
    rw[hb.2]at u;generalize xI c i=t at *;clear hb I hk;refine zP u ?_;exact zV [3000,1001,2001] Z Z Z Z
   .have ar:i<L:=by
     rcases zFf i L with h|h
     .exact h
     .rw[show i=L by omega]at hb;exact absurd hk hb
    rw[zAi]at hb;by_cases h1:(xI c i).lamp=0
    .generalize xI c i=t at *;clear hb hk;refine WW ?_;exact⟨zB,rfl⟩
    .have z:vM j.cf p i=false:=by
      cases z:vM j.cf p i with
      |false=>rfl
      |true=>exact absurd ⟨by simpa using h1,z⟩ hb
     rw[z]at u;generalize xI c i=t at *;clear hb hk;refine zP u ?_;exact⟨zB,rfl⟩
  .rintro st ⟨hiq,rfl⟩;exfalso;omega
 have y:dG j c p=false:=by simpa using hk
 have O:c.gr=(zS j p).group:=by
  rcases C with C|C
  .exact absurd C hk
  .exact C
 rw[hW hk];have eb:MF j c p=CS c p:=by unfold MF;rw[Os O]
 rw[eb];unfold dG at y;rw[zCs]at y;have M:∀q,q<ln c.li->((xI c q).lamp != 0&&vM j.cf p q)=false:=λq z=>by simpa using y q (zAw.2 z)
 unfold CS qR;dsimp only;rw[zBt,zBt,zBn,zBn];clear y hk eb C;generalize kS j (zS j p).ring (zS j p).group (p+1)=fo at *;obtain⟨Y,A⟩:∃n:Nat,(zS j p).ring=n:=⟨(zS j p).ring.toNat,zB⟩;have B:=zJ yX c.li p zB;have X:=zJ iA c.nx Y zB;generalize V:xI c p=l0 at*
 change (c.li.map yX)[p]? =some (yX (xI c p))at B
 rw[V]at B;generalize c.nx.getD Y dd=n0 at *;refine eM call253 λF hF=>?_
 refine WW ?_;refine zM (ln c.li) [3,3000,1001,2001] [3,3000,1001,2001] [1,2,3,12,13] [14,1,2,3,12,13] Z (λi T U=>⟨(14,iA i)::T,U⟩) (Lq ?_ ?_)
 .intro i hi;have W:=zJ yX c.li i hi
  change (c.li.map yX)[i]? =some (yX (xI c i))at W
  have u:=uT j.cf E i p;rw[J.sy i p zB R]at u;have hb:=M i hi;clear M B X I;by_cases h1:(xI c i).lamp=0
  .generalize xI c i=t at *;clear hb;refine WW ?_;rfl
  .have z:vM j.cf p i=false:=by
    cases z:vM j.cf p i with
    |false=>rfl
    |true=>
     rw[z,zCv]at hb;exact absurd JG h1
   rw[z]at u;generalize xI c i=t at *;clear hb;refine zP u ?_;rfl
 .clear M;generalize zS j p=t at *;rw[A,zAv];have et:yU t= .agg [iA Y,iA t.group,iA t.ming,iA t.maxg,iA t.yel,iA t.red,iA t.walk,iA t.clear]:=by rw[<-A];rfl
  rw[et]at G;rw[A]at I;refine zP I ?_;exact uQ [3000,1001,2001] Z Z Z Z
theorem DY (j:Jn) (J:JV j) (W:ln j.ph<=1000) (L:ln j.cf<=40) (c:Ct) (hc:ln c.li=ln j.ph) (hm:ln c.nx=2) (p:Nat) (X:p<ln j.ph) (hr:0<=(zS j p).ring/\(zS j p).ring<=1) (u:dG j c p=false) (O:c.gr≠(zS j p).group):
  zO 253 [xC j,.ptr 3000 0 0,iA (p:Int)] (qR c 1002) (.tup []) (aF (vV j c p) c.nx):=by
 have ap:=zA yU j.ph;have ac:=zA yX c.li;have ag:=zA iA c.nx;have C:=zJ yU j.ph p X
 change (j.ph.map yU)[p]? =some (yU (zS j p))at C
 have E:=aE j W (zS j p).ring (zS j p).group p;unfold vV;rw[hW (by rw[u];decide)];have V:MF j c p=QH j (CS c p) (zS j p).group:=by unfold MF;rw[hW O]
 rw[V];unfold dG at u;rw[zCs]at u;have I:∀q,q<ln c.li->((xI c q).lamp != 0&&vM j.cf p q)=false:=λq B=>by simpa using u q (zAw.2 B)
 have S:=MA j W (zS j p).group c.gr c.wt ((c.li.map yX).set p (yX ⟨1,0⟩)) (c.nx.map iA) (c.li.map yX).length (c.nx.map iA).length;unfold QH CS qR aF;dsimp only;rw[zBt,zBt,zBn,zBn];rw[show([kS j 0 (zS j p).group 0,kS j 1 (zS j p).group 0].map iA)=[iA (kS j 0 (zS j p).group 0),iA (kS j 1 (zS j p).group 0)]from Z];have M:(([iA (kS j 0 (zS j p).group 0),iA (kS j 1 (zS j p).group 0)]:List AV)).length=2:=rfl;rw[M]
 have z:∃v,([iA (kS j 0 (zS j p).group 0),iA (kS j 1 (zS j p).group 0)]:List AV)[(zS j p).ring.toNat]? =some (iA v):=by
  have:(zS j p).ring=0\/(zS j p).ring=1:=by omega
  rcases this with h|h<;>rw[h]
  all_goals exact⟨_,rfl⟩
 obtain⟨v0,z⟩:=z;generalize ([iA (kS j 0 (zS j p).group 0),iA (kS j 1 (zS j p).group 0)]:List AV)=fx at *;clear u V;generalize kS j (zS j p).ring (zS j p).group (p+1)=fo at *;obtain⟨rn,y⟩:∃n:Nat,(zS j p).ring=n:=⟨(zS j p).ring.toNat,zB⟩;have A:=zJ yX c.li p zB;rw[y,zAv]at z;generalize R:xI c p=l0 at*
 change (c.li.map yX)[p]? =some (yX (xI c p))at A
 rw[R]at A;refine eM call253 λF hF=>?_
 refine WW ?_;refine zM (ln c.li) [3,3000,1001,1002] [3,3000,1001,1002] [1,2,3,12,13] [14,1,2,3,12,13] Z (λi T U=>⟨(14,iA i)::T,U⟩) (Lq ?_ ?_)
 .intro i hi;have hy:=zJ yX c.li i hi
  change (c.li.map yX)[i]? =some (yX (xI c i))at hy
  have G:=uT j.cf L i p;rw[J.sy i p zB X]at G;have hb:=I i hi;clear I A E S;by_cases h1:(xI c i).lamp=0
  .generalize xI c i=t at *;clear hb;refine WW ?_;rfl
  .have B:vM j.cf p i=false:=by
    cases B:vM j.cf p i with
    |false=>rfl
    |true=>
     rw[B,zCv]at hb;exact absurd JG h1
   rw[B]at G;generalize xI c i=t at *;clear hb;refine zP G ?_;rfl
 .clear I;generalize zS j p=t at *;rw[y,zAv];have Y:yU t= .agg [iA rn,iA t.group,iA t.ming,iA t.maxg,iA t.yel,iA t.red,iA t.walk,iA t.clear]:=by rw[<-y];rfl
  rw[Y]at C;rw[y]at E;refine yB (xH S E) ?_;exact uQ [3000,1001,1002,2001] Z Z Z Z
def Ny (j:Jn) (W:ln j.ph<=1000) (c:Ct) (hc:ln c.li=ln j.ph) (r:Int):zO 252 [xC j,LK c,iA r] [] (bA (WV j c r)) []:=by
 have hl:=zA yU j.ph;have M:=zA yX c.li
 cases hd:WV j c r with
 | true=>
  have C:∀p,p<ln j.ph->(zS j p).ring=r->(xI c p).lamp=0:=λp O R=>Qy hd O R
  clear hd;refine eM call252 λF hF=>?_
  refine WW ?_;refine zM (ln c.li) [3] [3] [2,3,10,11] [12,2,3,10,11] Z (λi T U=>⟨(12,iA i)::T,U⟩) (Lq ?_ ?_)
  .intro u E;have G:=zJ yU j.ph u zB
   change (j.ph.map yU)[u]? =some (yU (zS j u))at G
   have B:=zJ yX c.li u E
   change (c.li.map yX)[u]? =some (yX (xI c u))at B
   have C:=C u zB;generalize zS j u=p,xI c u=l at *;by_cases h1:p.ring=r
   .have h2:=C h1;clear C;refine WW ?_;rfl
   .clear C;refine WW ?_;rfl
  .clear C;exact mx
 | false=>
  unfold WV at hd;rw[zC6]at hd;obtain⟨S,A,hb⟩:=hd;rw[cN]at A;obtain⟨k,_,⟨hk,L,I⟩,y⟩:=MD (P:=λp=>p<ln j.ph/\(zS j p).ring=r/\(xI c p).lamp≠0) S ⟨A.1,A.2,by simpa using hb⟩;clear hb;refine eM call252 λF hF=>?_
  refine WW ?_;refine zZ (ln c.li) [3] [3] [2,3,10,11] [12,2,3,10,11] Z (λi T U V=>(i<=k)/\V=⟨(12,iA i)::T,U⟩) (Lp ?_ ?_ ?_)
  .exact⟨zAn _,rfl⟩
  .rintro u st E ⟨huk,rfl⟩;have G:=zJ yU j.ph u zB
   change (j.ph.map yU)[u]? =some (yU (zS j u))at G
   have B:=zJ yX c.li u E
   change (c.li.map yX)[u]? =some (yX (xI c u))at B
   by_cases e:u=k
   .subst e;generalize zS j u=p,xI c u=l at *;clear y;exact mx
   .have z:=y u zB;generalize zS j u=p at *;generalize xI c u=l at *;clear y;by_cases h1:p.ring=r
    .have h2:l.lamp=0:=zCu λh=>z ⟨zB,h1,h⟩
     clear z;refine WW ?_;exact⟨zB,rfl⟩
    .clear z;refine WW ?_;exact⟨zB,rfl⟩
  .rintro st ⟨huk,rfl⟩;exfalso;omega
def nk (j:Jn) (r t:Int) (i:Nat):Int:=match (LL j r i).find? (λp:Nat=>!vM j.cf p t)with
 |some p=>p
 |none=> -1
def sk (j:Jn) (r t:Int) (i:Nat):nk j r t (i+1)=if(zS j i).ring=r/\vM j.cf i t=false then(if nk j r t i<0 then(i:Int)else nk j r t i)else nk j r t i:=by grind [nk,zS,vM,UT,LL]
def Br {r:Int} {i p:Nat} (h:p∈LL j r i):p<i:=by grind [LL]
theorem My (j:Jn) (hn:ln j.ph<=1000) (S:ln j.cf<=40) (c:Ct) (hm:ln c.nx=2) (r:Int) (hr:0<=r/\r<2) (t:Nat) (ht:t<ln j.ph) (hx:c.nx.getD r.toNat dd= -1\/0<=c.nx.getD r.toNat dd):zO 251 [xC j,LK c,iA r,iA (t:Int)] [] (iA (aR j c r t)) []:=by
 have hl:=zA yU j.ph;have ac:=zA iA c.nx;have W:=zJ yU j.ph t ht
 change (j.ph.map yU)[t]? =some (yU (zS j t))at W
 have ag:=yC iA c.nx r hr.1 zB;unfold aR;generalize c.nx.getD r.toNat dd=A at *;by_cases M:r=(zS j t).ring
 .rw[Os M];generalize zS j t=pt at *;refine eM call251 λF hF=>?_
  exact mx
 rw[hW M];have X:¬(zS j t).ring=r:=λh=>M h.symm
 generalize zS j t=pt at *;refine eM call251 λF hF=>?_
 refine WW ?_;refine zZ (ln j.ph) [4,5] [4,5] [2,3,4,5,22,23] [9,24,2,3,4,5,22,23] Z (λi T U zs=>(∀p∈LL j r i,(!vM j.cf p t&&decide (A≠ -1/\A<=(p:Int)))=false)/\zs=⟨(9,iA (nk j r t i))::(24,iA i)::T,U⟩) (Lp ?_ ?_ ?_)
 .exact⟨λp E=>absurd (Br E) (zBa _),rfl⟩
 .rintro i st hi ⟨hI,rfl⟩;have hy:=zJ yU j.ph i hi
  change (j.ph.map yU)[i]? =some (yU (zS j i))at hy
  have L:=uT j.cf S i t;have C:=sk j r t i;have G:=UT j r i
  have u:(zS j i).ring=r->(!vM j.cf i t&&decide (A≠ -1/\A<=(i:Int)))=false->∀p∈LL j r (i+1),(!vM j.cf p t&&decide (A≠ -1/\A<=(p:Int)))=false:=λh1 hb p E=>by
   rw[G,Os h1,zAy,zA8]at E
   rcases E with E|rfl
   .exact hI p E
   .exact hb
  have B:(zS j i).ring≠r->∀p∈LL j r (i+1),(!vM j.cf p t&&decide (A≠ -1/\A<=(p:Int)))=false:=λh1 p E=>by
   rw[G,hW h1]at E;exact hI p E
  have y:(zS j i).ring=r->(!vM j.cf i t&&decide (A≠ -1/\A<=(i:Int)))=true->FV j A r t=i:=λh1 hb=>by
   obtain⟨l2,I⟩:=GD j r (ln j.ph) (i+1) zB;rw[G,Os h1]at I
   have e:(PA j r).find? (λp:Nat=>!vM j.cf p t&&decide (A≠ -1/\A<=(p:Int)))=some i:=by
    unfold PA;rw[I,zA2,List.find?_append,PW hI,Option.none_or,zD7];exact List.find?_cons_of_pos hb
   unfold FV;rw[e]
  clear hI G;generalize vM j.cf i t=q,nk j r t (i+1)=s2,nk j r t i=Y at *;by_cases h1:(zS j i).ring=r
  case neg=>
   have z:=B h1;rw[hW (λh=>h1 h.1)]at C;generalize zS j i=p at *;subst C;clear u B y;refine WW ?_;exact⟨z,rfl⟩
  have u:=u h1;have y:=y h1;clear B
  cases q with
  |true=>
   rw[hW (λh=>by cases h.2)]at C;have z:=u Z;generalize zS j i=p at *;subst C;clear u y;refine zP L ?_;exact⟨z,rfl⟩
  |false=>
  rw[Os ⟨h1,rfl⟩]at C;by_cases h2:Y<0
  .rw[Os h2]at C;subst C;by_cases O:A= -1
   .have z:=u (by rw[zAb (λh=>h.1 O)];rfl);generalize zS j i=p at *;clear u y;refine zP L ?_;exact⟨z,rfl⟩
   by_cases R:A<=(i:Int)
   .rw[y (by rw[zAc ⟨O,R⟩];rfl)];generalize zS j i=p at *;clear u y;exact nl L
   .have z:=u (by rw[zAb (λh=>R h.2)];rfl);generalize zS j i=p at *;clear u y;refine zP L ?_;exact⟨z,rfl⟩
  .rw[hW h2]at C;subst C;by_cases O:A= -1
   .have z:=u (by rw[zAb (λh=>h.1 O)];rfl);generalize zS j i=p at *;clear u y;refine zP L ?_;exact⟨z,rfl⟩
   by_cases R:A<=(i:Int)
   .rw[y (by rw[zAc ⟨O,R⟩];rfl)];generalize zS j i=p at *;clear u y;exact nl L
   .have z:=u (by rw[zAb (λh=>R h.2)];rfl);generalize zS j i=p at *;clear u y;refine zP L ?_;exact⟨z,rfl⟩
 .rintro st ⟨hI,rfl⟩
  have V:FV j A r t=nk j r t (ln j.ph):=by
   unfold FV nk;rw[show PA j r=LL j r (ln j.ph) from Z,PW hI];rfl
  rw[V];clear hI;generalize nk j r t (ln j.ph)=Y at *;exact mx
def wg (c:Ct) (h1:ln c.li<=1000) (h2:ln c.nx<=1000):zO 188 [LK c] [] (.agg [.ref 1001 0 (c.li.map yX).length,iA c.gr,.ref 1002 0 (c.nx.map iA).length,iA c.wt]) [(1001,.arr 2 (c.li.map yX) false),(1002,.arr 1 (c.nx.map iA) false)]:=by
 have hl:=zA yX c.li;have u:=zA iA c.nx;refine eM call188 λF hF=>?_
 (repeat' (first|refine qU ?_|apply yY|apply xN|intro hc|(apply zG;first|(apply yI;first|refine xB 1001 tok Z Z Z Z Z Z (yG _ _ (λ_=>rfl)) Z Z Z zB Z Z Z ?_|refine xB 1002 tok Z Z Z Z Z Z (yG _ _ (λ_=>rfl)) Z Z Z zB Z Z Z ?_))|fail))
 exact zV [1001,1002] Z Z Z Z
