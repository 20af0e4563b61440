/- Part 23. -/
import Derived.Test.YtaglbcjljlkjcaaGreatX22
namespace Go.Proofs.YtaglbcjljlkjcaaGreat.Av
open Tryz
set_option linter.all false
set_option maxRecDepth 4000
set_option maxHeartbeats 1000000
open List renaming length->ln,replicate->pb,range->pi,getD->py
open Inhabited renaming default->dd
variable {j:Jn}{p:Nat}
def Ek (j:Jn) (G:ln j.ph<=1000) (g R E:Int) (L:List AV) (C:Nat):zO 208 [wK j,.ptr 3000 0 0,iA g] [(3000,.box [.ref 1001 0 C,iA R,.s (.slice none 0 0),iA E]),(1001,.arr 2 L false)] (.tup [])
  [(3000,.box [.ref 1001 0 C,iA g,.ref 2001 0 2,iA E]),(1001,.arr 2 L false),(2001,.arr 1 [iA (jJ j 0 g 0),iA (jJ j 1 g 0)] false)]:=by
 have I:=WP j G 0 g 0;have M:=WP j G 1 g 0;generalize jJ j 0 g 0=u,jJ j 1 g 0=z at *;obtain⟨B,A⟩:∃n:Nat,n=2:=⟨2,rfl⟩;refine eM call208 λF hF=>?_
 (repeat' (first|refine uT ?_|apply yW|apply xH|intro hc|(apply zG;first|(apply fN;refine bG 2001 tok Z Z Z Z Z Z Z Z Z Z Z Z Z zB zB Z Z Z ?_))|fail))
 refine zN (B) [3000,2001,3,1001] [3,1001] [1,2,3] [20,19,1,2,3] Z (λi T U=>⟨(20,iA i)::(19,iA B)::T,(3000,.box [.ref 1001 0 C,iA g,.ref 2001 0 B,iA E])::(2001,.arr 1 (sj u z i) false)::U⟩) ?_;(conv=>whnf);refine⟨by(rw[A];rfl),?_,?_⟩
 .intro i hi;have:i=0\/i=1:=by omega
  rcases this with rfl|rfl
  .have S:(sj u z 0)[((0:Nat):Int).toNat]? =some (iA 0):=rfl;have hl:(sj u z 0).length=2:=rfl;refine zS I ?_;rfl
  .have S:(sj u z 1)[((1:Nat):Int).toNat]? =some (iA 0):=rfl;have hl:(sj u z 1).length=2:=rfl;refine zS M ?_;rfl
 .have O:sj u z B=[iA u,iA z]:=by rw[A];rfl
  rw[O];refine WW ?_;subst A;exact uX [3000,1001,2001] Z Z Z Z
def sh (j:Jn):Ct:=⟨pb (ln j.ph) ⟨0,0⟩,0,[jJ j 0 0 0,jJ j 1 0 0],j.st⟩
def yc (j:Jn) (p:Nat):xS (sh j) p=⟨0,0⟩:=by
 unfold xS sh;simp only[zBj,zDq]
 split<;>rfl
theorem Ck (J:JV j):CV j (sh j):=by
 refine⟨by simp[sh],λp u=>by rw[yc];rfl,λp q u B z h1 h2=>by rw[yc]at h1;exact absurd Z h1,⟨zDg _,?_⟩,rfl,λr A=>Cx j (sh j) 0 r A,⟨J.st.1,zDg _⟩,.inr λp u=>by rw[yc]⟩;have:=PW J
 grind [sh]
def Ak {P:Program} {C:List Nat} {F:Fr C} {m:Nat} {A:Array Oper} {z:List Oper} {Q:List FP->St->Prop} {B:Bool} {fs:List FP} {ty T:Nat} {pos:String} {u:Array Edge} {st:St} (hk:yP P F m A B (⟨some 3,.alloc T,ty,pos,u,none⟩::z) st fs Q):yP P F m A B (⟨some 3,.alloc T,ty,pos,u,none⟩::z) st fs Q:=hk
def Q0 (j:Jn) (C:ln j.ph<=1000):zO 152 [wK j] [] (JK (sh j)) []:=by
 have z:=zA xN j.ph;have u:=Ek j C 0 0 j.st ((pb (ln j.ph) (⟨0,0⟩:Li)).map xG) ((pb (ln j.ph) (⟨0,0⟩:Li)).map xG).length;have A:(pb (ln j.ph) (⟨0,0⟩:Li)).map xG=pb (ln j.ph) (xG ⟨0,0⟩):=zEu;have eN:((pb (ln j.ph) (⟨0,0⟩:Li)).map xG).length=ln j.ph:=by simp
 rw[eN,A]at u;rw[<-z]at u;refine eM call152 λF hF=>?_
 repeat' (first|(apply zG;first|(apply Ak;refine qA (nw:=[3000]) (fP tok 3000 Z Z) Z Z Z ?_)|refine uN tok Z Z ?_|(apply fN;refine bG 1001 tok Z Z Z Z Z Z Z Z Z Z Z Z Z zB zB Z Z Z ?_)|refine YZ tok Z Z Z Z ?_|(apply xQ;(first|(refine vJ 208 ?_;first|refine wJ (zL (u) Z Z Z Z Z) Z ?_|refine qA (zL (u) Z Z Z Z Z) Z Z Z ?_|refine aO (zL (u) Z Z Z Z Z) Z Z Z ?_)))|(apply cE;refine cV tok Z Z Z ?_)|refine VH gY ?_|apply kR)|first|refine SQ ?_|fail)
 have B:AV.agg [.sl false ((pb (j.ph.map xN).length (xG ⟨0,0⟩)).take (j.ph.map xN).length),iA 0,.sl false [iA (jJ j 0 0 0),iA (jJ j 1 0 0)],iA j.st]=JK (sh j):=by
  rw[zBf zV,z,<-A];rfl
 exact zI [] Z Z B Z
theorem Z7 (p:Nat->Bool) {n q:Nat} (u:n<=8) (z:q<n):bc (gB p n) q=p q:=by
 have e:=GI (λi=>decide (i<n)&&p i) n 8 u (λi h1 h2=>by rw[zA7 zB];rfl)
 grind [bc,gB,bY,Jl]
theorem Ke (z:List Ph) (u:Bool) (i:Nat):∀n,XN z u i n=gB (Jr z u i) n
 |0=>rfl
 |n+1=>by
  unfold XN gB;rw[Ke z u i n];have:(2:Int) ^ n=p2 n:=by unfold p2;rw[zBx]
  rw[this]
theorem Xt (u:List Ph) (z:Bool) {q:Nat} (A:ln u<=8) (C:p<ln u) (B:q<ln u):kH (fH u z (ln u)) p q=Jr u z p q:=by
 have hl:(fH u z (ln u)).length=ln u:=by simp[fH]
 unfold kH;rw[zA9 zB,zBh,zBx]
 have e:(fH u z (ln u)).getD p dd=XN u z p (ln u):=by
  grind [kH,fH,Jr]
 rw[e,Ke];exact Z7 _ A B
theorem jl (d:Dk) (l:List (Int×Int)):∀i k,k<i->∃e,(JL d l i).1.getD k dd=UN e (l.getD k dd)
 |0,k,h=>absurd h (zC3 _)
 |i+1,k,h=>by
  have hl:=UO d l i;unfold JL;by_cases hk:k=i
  .subst hk;refine⟨(JL d l k).2,?_⟩;simp[py,hl]
  .obtain⟨e,u⟩:=jl d l i k zB;refine⟨e,?_⟩;rw[<-u];simp only[zBj];rw[zB9 zB]
def ShB (l:List (Int×Int)):Bool:=(l.all λs=>decide (0<=s.1/\s.1<=1/\0<=s.2/\s.2<=3))&&(l.all λs=>[0,1,2].all λg:Int=>decide (s.2<=g)||(l.any λu=>u.2==g))
def al (n:Int):ShB (qS n)=true:=by
 unfold qS;split
 .decide
 split
 .decide
 split
 .decide
 split
 .decide
 split
 .decide
 .decide
theorem CH (d:Dk) (s:Int×Int):(UN d s).ring=s.1/\(UN d s).group=s.2/\1<=(UN d s).ming/\(UN d s).ming<=(UN d s).maxg/\(UN d s).maxg<=60/\1<=(UN d s).yel/\(UN d s).yel<=60/\0<=(UN d s).red/\(UN d s).red<=60/\0<=(UN d s).walk/\(UN d s).walk<=60/\0<=(UN d s).clear/\(UN d s).clear<=60/\(UN d s).walk+(UN d s).clear<=(UN d s).maxg/\((UN d s).walk=0↔(UN d s).clear=0):=by
 have u:=yQ d (3-1+1) zB;have z:=yQ (ad d) (2-1+1) zB;have A:=yQ (ad (ad d)) 3 zB;have B:=yQ (ad (ad (ad (ad d)))) (2-1+1) zB;have C:=yQ (ad (ad (ad (ad (ad d))))) (2-1+1) zB;have E:=yQ (ad (ad (ad (ad (ad (ad d)))))) 4 zB;have G:=yQ (ad (ad (ad (ad d)))) 4 zB;unfold UN
 grind [Dk,UN]
theorem N0 (d:Dk):JV (NS d):=by
 have ag:=NT (nx d 6);have z:=al (nx d 6);have ap:=yQ (ad d) 3 zB;have B:(VY d).1.length=(qS (nx d 6)).length:=UO _ _ _
 have G:∀k,k<(VY d).1.length->∃e,yH (NS d) k=UN e ((qS (nx d 6)).getD k dd):=λk hk=>by
  rw[B]at hk;exact jl _ _ _ k hk
 have u:(NS d).ph=(VY d).1:=rfl;generalize qS (nx d 6)=S at *;generalize M:(nx (VY d).2 4==3)=E at *;have L:(NS d).cf=fH (VY d).1 E (VY d).1.length:=by unfold NS;rw[M]
 unfold ShB at z;simp only[zBg,zBk,zBc,zDi,zCx,zCp]at z
 have C:∀k,k<(VY d).1.length->S.getD k dd∈S:=λk hk=>by
  grind
 have I:∀p q:Nat,p<(VY d).1.length->q<(VY d).1.length->kH (NS d).cf p q=Jr (VY d).1 E p q:=λp q A R=>by
  grind [Dk,NS,Xt]
 have U:(NS d).cf.length=(VY d).1.length:=by rw[L];simp[fH]
 refine⟨?_,?_,?_,?_,?_,?_,?_,?_,?_,?_,?_⟩
 .rw[u];omega
 .grind
 .intro i hi;rw[u]at hi⊢
  have e:(NS d).cf.getD i dd=XN (VY d).1 E i (VY d).1.length:=by
   grind [Dk,NS,fH,py]
  rw[e];exact PX _ _ _ _
 .grind [Dk,NS,Jr]
 .grind [Dk,NS,Jr,VY]
 .intro p q A R O h;rw[u]at A R;rw[I p q A R];unfold Jr;rw[show(p != q)=true by simpa using O,zBh]
  rcases h with h|h
  .rw[show(((VY d).1.getD p dd).ring==((VY d).1.getD q dd).ring)=true from zCp.2 h];rfl
  .rw[show(((VY d).1.getD p dd).group != ((VY d).1.getD q dd).group)=true from zDa.2 h];simp
 .grind [Dk,NS,CH]
 .grind [Dk,NS,CH]
 .grind [Dk,NS,CH]
 .intro p A g Y W;obtain⟨e,V⟩:=G p A;rw[V,(CH e _).2.1]at W;have h3:=z.1 _ (C p A)
  have ac:g∈([0,1,2]:List Int):=by
   grind
  grind [Dk,NS,List.getElem_of_mem,CH,py]
 all_goals grind [Dk,NS]
def kZ (u:List Int) (C:ln u<=40) (p q:Int):zO 74 [zE iA u,iA p,iA q] [] (bA (kH u p q)) []:=by
 have hl:=zA iA u;unfold kH;by_cases h1:0<=p
 case neg=>
  rw[zA7 (λh=>h1 h.1)];refine eM call74 λF hF=>?_
  exact ly
 by_cases z:p<ln u
 case neg=>
  rw[zA7 (λh=>z h.2.2.1)];refine eM call74 λF hF=>?_
  exact ly
 by_cases h2:0<=q
 case neg=>
  rw[zA7 (λh=>h2 h.2.1)];refine eM call74 λF hF=>?_
  exact ly
 by_cases A:q<ln u
 case neg=>
  rw[zA7 (λh=>A h.2.2.2)];refine eM call74 λF hF=>?_
  exact ly
 rw[zA9 ⟨h1,h2,z,A⟩,zBh];have E:=yF iA u p h1 z;generalize u.getD p.toNat dd=x at *;by_cases B:jF (vX x q) 1=1
 .rw[show(jF (vX x q) 1==1)=true by rw[zCp];exact B];refine eM call74 λF hF=>?_
  exact ly
 .rw[show(jF (vX x q) 1==1)=false by rw[zB3];exact B];refine eM call74 λF hF=>?_
  exact ly
def QD (a:Int):Bool:=decide (a=1\/a=2)
def ZM (a:Int):zO 285 [iA a] [] (bA (QD a)) []:=by
 unfold QD
 (cases hb:decide (a=1\/a=2)with|false=>((refine eM call285 λF hF=>?_);((refine WW (I2 (λhc=>?_) λhc=>?_)));all_goals (first|exact zH|(simp only[QD,zBi]at hb;first|exact NW|exact PY)))|true=>(simp only[QD,zBc]at hb;(refine eM call285 λF hF=>?_);((refine WW (I2 (λhc=>?_) λhc=>?_)));all_goals (first|exact zH|exact NW|exact PY)))
def ZN (a:Int):zO 256 [iA a] [] (bA (QD a)) []:=by
 unfold QD
 (cases hb:decide (a=1\/a=2)with|false=>((refine eM call256 λF hF=>?_);((repeat' (first|refine uT ?_|apply yW|apply xH|intro hc|(apply zG;first|refine SM ?_)|fail)));all_goals (first|exact zH|(simp only[QD,zBi]at hb;first|exact NW|exact PY)))|true=>(simp only[QD,zBc]at hb;(refine eM call256 λF hF=>?_);((repeat' (first|refine uT ?_|apply yW|apply xH|intro hc|(apply zG;first|refine SM ?_)|fail)));all_goals (first|exact zH|exact NW|exact PY)))
def SY (u:List Li) (k:Int) (p:Nat):Int:=if(p:Int)=k then 1 else(u.getD p dd).lamp
def bP (u:List Li) (k:Int):List Int:=(pi (ln u)).map (SY u k)
def CI (u:List Li) (k:Int):(bP u k).length=ln u:=by simp[bP]
def ol (f:Nat->Int) (n i:Nat) (h:i<n) (x:Int) (u:x=f i):(((List.range i).map f++List.replicate (n-i) 0).map iA).set i (iA x)=((List.range (i+1)).map f++List.replicate (n-(i+1)) 0).map iA:=by
 subst u;rw[<-zCs,show n-i=(n-(i+1))+1 by omega,zF3,zE5 _ _ zV,zA6,zCr,zEj,zGe,zC5];simp
def CJ (f:Nat->Int) (n i:Nat) (h:i<=n):(((List.range i).map f++List.replicate (n-i) 0).map iA).length=n:=by
 simp;omega
theorem Wt (f:Nat->Int) (n i:Nat) (h:i<n):(((List.range i).map f++List.replicate (n-i) 0).map iA)[i]? =some (iA 0):=by grind
def M0 (u:List Li) (M:ln u<=1000) (k:Int):zO 230 [zE xG u,iA k] [] (zE iA (bP u k)) []:=by
 have hl:=zA xG u;have B:pb (ln u) (AV.s (.int .i64 0))=((pi 0).map (SY u k)++pb (ln u-0) 0).map iA:=by simp[iA]
 obtain⟨n,C⟩:∃n,ln u=n:=⟨_,rfl⟩;refine eM call230 λF hF=>?_
 refine WW ?_;refine zN (ln u) [10] [] [1,5,11,12] [13,1,5,11,12] Z (λi T U=>⟨(13,iA i)::T,(10,.arr 1 (((pi i).map (SY u k)++pb (ln u-i) 0).map iA) false)::U⟩) ?_;(conv=>whnf);refine⟨by(rw[<-B,<-hl];rfl),?_,?_⟩
 .intro i hi;have O:=zJ xG u i hi;have A:=CJ (SY u k) (ln u) i zB;have G:=Wt (SY u k) (ln u) i hi;have E:=ol (SY u k) (ln u) i hi (SY u k i) Z
  have z:SY u k i=if(i:Int)=k then 1 else(u.getD i dd).lamp:=rfl
  generalize ((pi i).map (SY u k)++pb (ln u-i) 0).map iA=xs,((pi (i+1)).map (SY u k)++pb (ln u-(i+1)) 0).map iA=ys,SY u k i=v,u.getD i dd=t at *;rw[<-E];clear E B C;by_cases hk:(i:Int)=k
  .rw[zA5 hk]at z;subst z;have I:(xs.set i (iA t.lamp))[i]? =some (iA t.lamp):=by rw[zB7 zB]
   have L:(xs.set i (iA t.lamp)).length=ln u:=by simp[A]
   rw[<-zFj (iA t.lamp)];refine WW ?_;rfl
  .rw[Os hk]at z;subst z;refine WW ?_;rfl
 .have A:=CJ (SY u k) (ln u) (ln u) (zBb _)
  have e:zE iA (bP u k)= .sl false ((((pi (ln u)).map (SY u k)++pb (ln u-u.length) 0).map iA).take (u.map xG).length):=by
   rw[zBf zB,zEj,List.replicate_zero,zB0];rfl
  rw[e];clear e B;generalize ((pi (ln u)).map (SY u k)++pb (ln u-u.length) 0).map iA=xs at *;exact ly
def Vt (u:List Li) (B:ln u<=1000) (k:Int):zO 199 [zE xG u,iA k] [] (zE iA (bP u k)) []:=by
 have hl:=zA xG u;refine eM call199 λF hF=>?_
 refine WW ?_;refine zQ 5 1001 1 Z Z Z ?_;refine zN (ln u) [1001] [] [1,8,9] [5,10,1,8,9] Z (λi T U=>⟨(5,.ref 1001 0 (((pi i).map (SY u k)).map iA).length)::(10,iA i)::T,(1001,.arr 1 (((pi i).map (SY u k)).map iA) true)::U⟩) (Lq ?_ ?_)
 .intro i hi;have C:=zJ xG u i hi;have A:(((pi i).map (SY u k)).map iA).length=i:=by simp
  have e:((pi (i+1)).map (SY u k)).map iA=((pi i).map (SY u k)).map iA++[iA (SY u k i)]:=by rw[zC5];simp
  have z:SY u k i=if(i:Int)=k then 1 else(u.getD i dd).lamp:=rfl
  rw[e];clear e;generalize ((pi i).map (SY u k)).map iA=xs,SY u k i=v,u.getD i dd=t at *;by_cases hk:(i:Int)=k
  .rw[zA5 hk]at z;subst z;refine WW ?_;rfl
  .rw[Os hk]at z;subst z;refine WW ?_;rfl
 .have A:(((pi (ln u)).map (SY u k)).map iA).length=ln u:=by simp
  rw[show zE iA (bP u k)= .sl false ((((pi (ln u)).map (SY u k)).map iA).take (((pi (ln u)).map (SY u k)).map iA).length) by rw[zA8];rfl];generalize ((pi (ln u)).map (SY u k)).map iA=xs at *;exact ly
def JJ (z u:List Int) (p q:Nat):Bool:=QD (u.getD p dd)&&(QD (u.getD q dd)&&kH z p q)
def ml (z u:List Int):Bool:=(pi (ln u)).any λp=>(pi (ln u)).any λq=>JJ z u p q
theorem Dx {z u:List Int} (h:ml z u=false) (p q:Nat) (A:p<ln u) (B:q<ln u):JJ z u p q=false:=by grind [ml,JJ]
theorem rl {A z:List Int} (h:ml A z=true):∃p q:Nat,p<ln z/\q<ln z/\JJ A z p q=true/\(∀u,u<p->∀v,v<ln z->JJ A z u v=false)/\(∀v,v<q->JJ A z p v=false):=by
 unfold ml at h;rw[zCx]at h;obtain⟨a,L,h⟩:=h;rw[zCx]at h;obtain⟨b,hb,h⟩:=h;obtain⟨p,C,⟨v,hv,B⟩,E⟩:=NQ (P:=λp=>∃v,v<ln z/\JJ A z p v=true) a ⟨b,zBu.1 hb,h⟩;obtain⟨q,I,M,G⟩:=NQ (P:=λq=>JJ A z p q=true) v B
 grind
theorem L0 (M z:List Int) (S:ln M<=40) (hn:ln z<=1000):zO 231 [zE iA M,zE iA z] [] (bA (ml M z)) []:=by
 have hl:=zA iA z
 cases hf:ml M z with
 | false=>
  have ac:=Dx hf;clear hf;refine eM call231 λF hF=>?_
  (repeat' (first|refine WS ?_|refine SG (I2 (λhc=>?_) λhc=>?_)|refine SG λhc=>?_|(apply zG;first|refine SM ?_)|(first|first|refine SR ?_|refine SK (I2 (λhc=>?_) λhc=>?_)|refine SK λhc=>?_|fail|apply bZ|apply aA)|fail))
  refine zN (ln z) [] [] [0,1,10,11] [5,12,0,1,10,11] Z (λi T U=>⟨(5,bA false)::(12,iA i)::T,U⟩) (Lq ?_ ?_)
  .intro u hu;have hy:=zJ iA z u hu;have G:=ZM (z.getD u dd);have C:=ac u;unfold JJ at C;clear ac
   cases hb:QD (z.getD u dd)with
   |false=>
    rw[hb]at G;generalize z.getD u dd=a at *;clear C;refine zS G ?_;rfl
   | true=>
    rw[hb]at G;generalize z.getD u dd=a at *;refine zS G ?_;refine zN (ln z) [] [] [0,1,6,10,11,12,20,21] [5,22,0,1,6,10,11,12,20,21] Z (λi T U=>⟨(5,bA false)::(22,iA i)::T,U⟩) (Lq ?_ ?_)
    .intro v hv;have ar:=zJ iA z v hv;have E:=ZM (z.getD v dd);have L:=gT M S u v;have h:=C v hu hv;rw[hb,zBh]at h;generalize z.getD v dd=b at *;clear C G
     cases A:QD b with
     |false=>
      rw[A]at E;refine zS E ?_;rfl
     |true=>
      rw[A,zBh]at h;rw[A]at E;rw[h]at L;refine yJ (xW E L) ?_;rfl
    ·(refine WW ?_)
     rfl
  ·(repeat' (first|refine WS ?_|refine SG (I2 (λhc=>?_) λhc=>?_)|refine SG λhc=>?_|(apply zG;first|refine SM ?_)|(first|first|refine SR ?_|refine SK (I2 (λhc=>?_) λhc=>?_)|refine SK λhc=>?_|fail|apply bZ|apply aA)|fail))
   exact zH
 | true=>
  obtain⟨p,q,hp,hq,B,V,Y⟩:=rl hf;clear hf;have W:QD (z.getD p dd)=true:=by unfold JJ at B;rw[zBg]at B;exact B.1
  have R:QD (z.getD q dd)=true:=by unfold JJ at B;rw[zBg,zBg]at B;exact B.2.1
  have O:kH M p q=true:=by unfold JJ at B;rw[zBg,zBg]at B;exact B.2.2
  clear B;refine eM call231 λF hF=>?_
  (repeat' (first|refine WS ?_|refine SG (I2 (λhc=>?_) λhc=>?_)|refine SG λhc=>?_|(apply zG;first|refine SM ?_)|(first|first|refine SR ?_|refine SK (I2 (λhc=>?_) λhc=>?_)|refine SK λhc=>?_|fail|apply bZ|apply aA)|fail))
  refine yU (ln z) [] [] [0,1,10,11] [5,12,0,1,10,11] Z (λi T U zs=>(i<=p)/\zs=⟨(5,bA false)::(12,iA i)::T,U⟩) (Lp ?_ ?_ ?_)
  .exact⟨zBn _,rfl⟩
  .rintro u st hu ⟨hup,rfl⟩;have hy:=zJ iA z u hu;have G:=ZM (z.getD u dd);by_cases ag:u=p
   .subst ag;rw[W]at G
    have I:∀v,v<q->(QD (z.getD v dd)&&kH M u v)=false:=λv hv=>by
     have h:=Y v hv;unfold JJ at h;rw[W,zBh]at h;exact h
    clear V Y;generalize z.getD u dd=a at *;refine zS G ?_;refine yU (ln z) [] [] [0,1,6,10,11,12,20,21] [5,22,0,1,6,10,11,12,20,21] Z (λi T U zs=>(i<=q)/\zs=⟨(5,bA false)::(22,iA i)::T,U⟩) (Lp ?_ ?_ ?_)
    .exact⟨zBn _,rfl⟩
    .rintro v st hv ⟨hvq,rfl⟩;have ar:=zJ iA z v hv;have E:=ZM (z.getD v dd);have L:=gT M S u v;by_cases ap:v=q
     .subst ap;rw[R]at E;rw[O]at L;clear R O I G;generalize z.getD v dd=b at*
      (have ga:=E;have ge:=L;(repeat' (first|refine WS ?_|refine SG (I2 (λhc=>?_) λhc=>?_)|refine SG λhc=>?_|(apply zG;first|refine SM ?_)|(first|first|refine SR ?_|refine SK (I2 (λhc=>?_) λhc=>?_)|refine SK λhc=>?_|fail|apply bZ|apply aA)|fail))<;>clear ga ge)
      exact zH
     .have h:=I v zB;clear R O I G;generalize z.getD v dd=b at*
      cases A:QD b with
      |false=>
       rw[A]at E;refine zS E ?_;exact⟨zB,rfl⟩
      |true=>
       rw[A,zBh]at h;rw[A]at E;rw[h]at L;refine yJ (xW E L) ?_;exact⟨zB,rfl⟩
    .rintro st ⟨hvq,rfl⟩;exfalso;omega
   .have C:=V u zB;unfold JJ at C;clear W R O V Y
    cases hb:QD (z.getD u dd)with
    |false=>
     rw[hb]at G;generalize z.getD u dd=a at *;clear C;refine zS G ?_;exact⟨zB,rfl⟩
    | true=>
     rw[hb]at G;generalize z.getD u dd=a at *;refine zS G ?_;refine zN (ln z) [] [] [0,1,6,10,11,12,20,21] [5,22,0,1,6,10,11,12,20,21] Z (λi T U=>⟨(5,bA false)::(22,iA i)::T,U⟩) (Lq ?_ ?_)
     .intro v hv;have ar:=zJ iA z v hv;have E:=ZM (z.getD v dd);have L:=gT M S u v;have h:=C v hv;rw[hb,zBh]at h;generalize z.getD v dd=b at *;clear C G
      cases A:QD b with
      |false=>
       rw[A]at E;refine zS E ?_;rfl
      |true=>
       rw[A,zBh]at h;rw[A]at E;rw[h]at L;refine yJ (xW E L) ?_;rfl
     ·(refine WW ?_)
      exact⟨zB,rfl⟩
  .rintro st ⟨hup,rfl⟩;exfalso;omega
theorem Ut (M z:List Int) (S:ln M<=40) (hn:ln z<=1000):zO 198 [zE iA M,zE iA z] [] (bA (ml M z)) []:=by
 have hl:=zA iA z
 cases hf:ml M z with
 | false=>
  have ac:=Dx hf;clear hf;refine eM call198 λF hF=>?_
  refine WW ?_;refine zN (ln z) [] [] [0,1,9,10] [11,0,1,9,10] Z (λi T U=>⟨(11,iA i)::T,U⟩) (Lq ?_ ?_)
  .intro u hu;have hy:=zJ iA z u hu;have E:=ZN (z.getD u dd);have G:=ac u;unfold JJ at G;clear ac;refine WW ?_;refine zN (ln z) [] [] [0,1,5,6,9,10,11,16,17] [18,0,1,5,6,9,10,11,16,17] Z (λi T U=>⟨(18,iA i)::T,U⟩) (Lq ?_ ?_)
   .intro v hv;have ar:=zJ iA z v hv;have C:=ZN (z.getD v dd);have L:=kZ M S u v;have h:=G v hu hv;clear G;generalize z.getD v dd=b at *;generalize z.getD u dd=a at*
    cases hb:QD a with
    |false=>
     rw[hb]at E;refine zS E ?_;rfl
    | true=>
     rw[hb]at E;rw[hb,zBh]at h
     cases A:QD b with
     |false=>
      rw[A]at C;refine yJ (xW E C) ?_;rfl
     |true=>
      rw[A,zBh]at h;rw[A]at C;rw[h]at L;refine yJ (qM E C L) ?_;rfl
   ·(refine WW ?_)
    rfl
  .exact ly
 | true=>
  obtain⟨p,q,hp,hq,B,V,Y⟩:=rl hf;clear hf;have W:QD (z.getD p dd)=true:=by unfold JJ at B;rw[zBg]at B;exact B.1
  have R:QD (z.getD q dd)=true:=by unfold JJ at B;rw[zBg,zBg]at B;exact B.2.1
  have O:kH M p q=true:=by unfold JJ at B;rw[zBg,zBg]at B;exact B.2.2
  clear B;refine eM call198 λF hF=>?_
  refine WW ?_;refine yU (ln z) [] [] [0,1,9,10] [11,0,1,9,10] Z (λi T U zs=>(i<=p)/\zs=⟨(11,iA i)::T,U⟩) (Lp ?_ ?_ ?_)
  .exact⟨zBn _,rfl⟩
  .rintro u st hu ⟨hup,rfl⟩;have hy:=zJ iA z u hu;have E:=ZN (z.getD u dd);by_cases ag:u=p
   .subst ag;rw[W]at E
    have I:∀v,v<q->(QD (z.getD v dd)&&kH M u v)=false:=λv hv=>by
     have h:=Y v hv;unfold JJ at h;rw[W,zBh]at h;exact h
    clear V Y;generalize z.getD u dd=a at *;refine WW ?_;refine yU (ln z) [] [] [0,1,5,6,9,10,11,16,17] [18,0,1,5,6,9,10,11,16,17] Z (λi T U zs=>(i<=q)/\zs=⟨(18,iA i)::T,U⟩) (Lp ?_ ?_ ?_)
    .exact⟨zBn _,rfl⟩
    .rintro v st hv ⟨hvq,rfl⟩;have ar:=zJ iA z v hv;have C:=ZN (z.getD v dd);have L:=kZ M S u v;by_cases ap:v=q
     .subst ap;rw[R]at C;rw[O]at L;clear R O I;generalize z.getD v dd=b at *;exact mx (qM E C L)
     .have h:=I v zB;clear R O I;generalize z.getD v dd=b at*
      cases A:QD b with
      |false=>
       rw[A]at C;refine yJ (xW E C) ?_;exact⟨zB,rfl⟩
      |true=>
       rw[A,zBh]at h;rw[A]at C;rw[h]at L;refine yJ (qM E C L) ?_;exact⟨zB,rfl⟩
    .rintro st ⟨hvq,rfl⟩;exfalso;omega
   .have G:=V u zB;unfold JJ at G;clear W R O V Y;refine WW ?_;refine zN (ln z) [] [] [0,1,5,6,9,10,11,16,17] [18,0,1,5,6,9,10,11,16,17] Z (λi T U=>⟨(18,iA i)::T,U⟩) (Lq ?_ ?_)
    .intro v hv;have ar:=zJ iA z v hv;have C:=ZN (z.getD v dd);have L:=kZ M S u v;have h:=G v hv;clear G;generalize z.getD v dd=b at *;generalize z.getD u dd=a at*
     cases hb:QD a with
     |false=>
      rw[hb]at E;refine zS E ?_;rfl
     | true=>
      rw[hb]at E;rw[hb,zBh]at h
      cases A:QD b with
      |false=>
       rw[A]at C;refine yJ (xW E C) ?_;rfl
      |true=>
       rw[A,zBh]at h;rw[A]at C;rw[h]at L;refine yJ (qM E C L) ?_;rfl
    ·(refine WW ?_)
     exact⟨zB,rfl⟩
  .rintro st ⟨hup,rfl⟩;exfalso;omega
def U6 (j:Jn) (c u:Ct):Prop:=∀q:Nat,q<ln j.ph->xS u q=xS c q\/((xS c q).lamp=0/\xS u q=⟨1,0⟩)
theorem U6.refl (j:Jn) (c:Ct):U6 j c c:=λq _=> .inl Z
theorem U6.trans {a b c:Ct} (h:U6 j a b) (g:U6 j b c):U6 j a c:=λq u=>by
 rcases h q u with h|⟨h1,h2⟩<;>rcases g q u with g|⟨g1,g2⟩
 .exact .inl (g.trans h)
 .exact .inr ⟨by rw[<-h];exact g1,g2⟩
 .exact .inr ⟨h1,g.trans h2⟩
 .rw[h2]at g1;exact absurd g1 xA
def I0 {c:Ct} {r:Int} (h:RB j c r=true) (u:p<ln j.ph) (z:(yH j p).ring=r):(xS c p).lamp=0:=by grind [RB,yH,xS,List.all_eq_true,cS]
def Je (p:Ph) (h:Ax p):zO 147 [xN p] [] (iA (Fe p)) []:=by
 obtain⟨h1,h2,u,z⟩:=h;refine eM call147 λF hF=>?_
 exact ly
def Tt (p:Ph) (h:Ax p) (E:p.yel<=60) (C:0<=p.red/\p.red<=60) (l:Li) (hv:mb p l=true) (lv:Bool):zO 250 [xN p,xG l,bA lv] [] (xG (CR p l lv)) []:=by
 have c:=Je p h;have G:=Tl hv E C.2;unfold mb at hv;unfold CR;by_cases B:l.lamp=0
 .rw[zA5 B,zBc]at hv;rw[Os zB,Os zB,Os zB];have u:xG l= .agg [iA 0,iA 0]:=by unfold xG;rw[B,hv]
  rw[u]
  cases lv<;>((refine eM call250 λF hF=>?_);exact ly)
 rw[Os B]at hv;by_cases h1:l.lamp=1
 .rw[zA5 h1];generalize Fe p=n at*
  cases lv with
  |false=>
   rw[Os (λh=>by cases h.1)];have u:xG ⟨1,min (l.tk+1) 1073741824⟩= .agg [iA l.lamp,iA (min (l.tk+1) 1073741824)]:=by rw[h1];rfl
   rw[u];refine eM call250 λF hF=>?_
   exact ly
  |true=>
  by_cases h2:n<=l.tk+1
  .rw[zA5 ⟨rfl,h2⟩];refine eM call250 λF hF=>?_
   exact ng c
  .rw[Os (λh=>h2 h.2)];have u:xG ⟨1,min (l.tk+1) 1073741824⟩= .agg [iA l.lamp,iA (min (l.tk+1) 1073741824)]:=by rw[h1];rfl
   rw[u];refine eM call250 λF hF=>?_
   exact ng c
 rw[Os h1]at hv⊢;by_cases h2:l.lamp=2
 .rw[zA5 h2,zBc]at hv;rw[zA5 h2];by_cases z:l.tk+1<p.yel
  .rw[zA5 z];have u:xG ⟨2,l.tk+1⟩= .agg [iA l.lamp,iA (min (l.tk+1) 1073741824)]:=by rw[h2,show min (l.tk+1) 1073741824=l.tk+1 by omega];rfl
   rw[u];refine eM call250 λF hF=>?_
   exact ly
  rw[Os z];by_cases A:p.red=0
  .rw[zA5 A];refine eM call250 λF hF=>?_
   exact ly
  .rw[Os A];refine eM call250 λF hF=>?_
   exact ly
 rw[Os h2]at hv⊢;by_cases z:l.lamp=3
 .rw[zA5 z,zBc]at hv;rw[zA5 z];by_cases A:l.tk+1<p.red
  .rw[zA5 A];have u:xG ⟨3,l.tk+1⟩= .agg [iA l.lamp,iA (min (l.tk+1) 1073741824)]:=by rw[z,show min (l.tk+1) 1073741824=l.tk+1 by omega];rfl
   rw[u];refine eM call250 λF hF=>?_
   exact ly
  .rw[Os A];refine eM call250 λF hF=>?_
   exact ly
 .rw[Os z]at hv;cases hv
def G0 (c:Ct) (C:ln c.li<=25):zO 254 [JK c] [] (iA (GH c)) []:=by
 have hl:=zA xG c.li;unfold GH;refine eM call254 λF hF=>?_
 refine WW ?_;refine zN (ln c.li) [] [] [7,8] [3,9,7,8] Z (λi T U=>⟨(3,iA (gB (RD c) i))::(9,iA i)::T,U⟩) (Lq ?_ ?_)
 .intro i hi;have B:=zJ xG c.li i hi
  change (c.li.map xG)[i]? =some (xG (xS c i))at B
  have z:=VN (RD c) i zB;have A:=BK i zB
  have e:gB (RD c) (i+1)=if RD c i=true then gB (RD c) i+p2 i else gB (RD c) i:=rfl
  have u:RD c i=((xS c i).lamp != 0):=rfl;rw[e,u];generalize gB (RD c) i=b,xS c i=t at *;by_cases h:t.lamp=0
  .rw[Os (by simp[h])];refine WW ?_;rfl
  .rw[zA5 (by simp[h])];refine WW ?_;rfl
 .exact ly
def th (j:Jn) (z:ln j.ph<=1000) (u:∀p:Nat,p<ln j.ph->0<=(yH j p).group/\(yH j p).group<=3):zO 255 [wK j] [] (iA (dZ j)) []:=by
 have hl:=zA xN j.ph;unfold dZ;refine eM call255 λF hF=>?_
 refine WW ?_;refine zN (ln j.ph) [] [] [7,8] [3,9,7,8] Z (λi T U=>⟨(3,iA (rb j.ph i))::(9,iA i)::T,U⟩) (Lq ?_ ?_)
 .intro i hi;have A:=zJ xN j.ph i hi;have hb:=u i hi;unfold yH at hb;have e:rb j.ph (i+1)=max (rb j.ph i) ((j.ph.getD i dd).group+1):=rfl;rw[e];generalize rb j.ph i=g,j.ph.getD i dd=t at *;refine WW ?_;rfl
 .exact ly
def Y7 (j:Jn) (C:ln j.ph<=1000) (r g:Int):zO 300 [wK j,iA r,iA g] [] (zE nA (WU j r g (ln j.ph))) []:=by
 have hl:=zA xN j.ph;refine eM call300 λF hF=>?_
 refine WW ?_;refine zQ 7 1001 1 Z Z Z ?_;refine zN (ln j.ph) [1001] [] [1,2,11,12] [7,13,1,2,11,12] Z (λi T U=>⟨(7,.ref 1001 0 ((WU j r g i).map nA).length)::(13,iA i)::T,(1001,.arr 1 ((WU j r g i).map nA) true)::U⟩) (Lq ?_ ?_)
 .intro i hi;have B:=zJ xN j.ph i hi
  change (j.ph.map xN)[i]? =some (xN (yH j i))at B
  have z:=CY j r g i
  have u:(WU j r g i).length<=1000:=by
   have:(WU j r g i).length<=(pi i).length:=zCw _ _;rw[zCr]at this;omega
  have A:((WU j r g i).map nA).length<=1000:=by rw[zA6];exact u
  rw[z];generalize WU j r g i=o,yH j i=t at *;by_cases h1:t.ring=r
  .by_cases h2:t.group=g
   .rw[zA5 ⟨h1,h2⟩,zBd];generalize o.map nA=xs at *;refine WW ?_;rfl
   .rw[Os (λh=>h2 h.2)];refine WW ?_;rfl
  .rw[Os (λh=>h1 h.1)];refine WW ?_;rfl
 ·(refine WW ?_)
  exact zI [] Z Z (Ce _ _) Z
theorem F0 (j:Jn) (r g f:Int):jJ j r g f=match (WU j r g (ln j.ph)).find? (λp:Nat=>decide (f<=(p:Int)))with
 |some p=>(p:Int)
 |none=> -1:=by grind [jJ,WU,QV,LV,yH]
def aJ (j:Jn) (R:ln j.ph<=1000) (r g p:Int):zO 260 [wK j,iA r,iA g,iA p] [] (iA (jJ j r g (p+1))) []:=by
 have z:=Y7 j R r g;rw[F0]
 have G:(WU j r g (ln j.ph)).length<=1000:=by
  have:(WU j r g (ln j.ph)).length<=(pi (ln j.ph)).length:=zCw _ _;rw[zCr]at this;omega
 generalize WU j r g (ln j.ph)=o at *;have hl:=zA nA o
 cases A:o.find? (λq:Nat=>decide (p+1<=(q:Int)))with
 | some q=>
  dsimp only;rw[List.find?_eq_some_iff_getElem]at A;obtain⟨S,I,O,M,hb⟩:=A;rw[zBc]at S;refine eM call260 λF hF=>?_
  refine zS z ?_;refine yU (ln o) [] [] [3,14,15] [16,3,14,15] Z (λi T U V=>(i<=I)/\V=⟨(16,iA i)::T,U⟩) (Lp ?_ ?_ ?_)
  .exact⟨zBn _,rfl⟩
  .rintro u st B ⟨hui,rfl⟩;have C:=zJ nA o u B;by_cases e:u=I
   .subst e;have E:o.getD u dd=q:=by rw[<-M];simp[py,B]
    rw[E]at C;unfold nA at C;clear hb z;exact ly
   .have h2:=hb u zB;have E:o.getD u dd=o[u]:=by simp[py,B]
    rw[<-E]at h2;have L:¬p+1<=((o.getD u dd:Nat):Int):=by simpa using h2
    generalize o.getD u dd=v at *;unfold nA at C;clear hb z h2;refine WW ?_;exact⟨zB,rfl⟩
  .rintro st ⟨hui,rfl⟩;exfalso;omega
 | none=>
  dsimp only;rw[List.find?_eq_none]at A;refine eM call260 λF hF=>?_
  refine zS z ?_;refine zN (ln o) [] [] [3,14,15] [16,3,14,15] Z (λi T U=>⟨(16,iA i)::T,U⟩) (Lq ?_ ?_)
  .intro u B;have C:=zJ nA o u B;have h2:=A (o.getD u dd) (by simp[py,B]);have L:¬p+1<=((o.getD u dd:Nat):Int):=by simpa using h2
   generalize o.getD u dd=v at *;unfold nA at C;clear A z h2;refine WW ?_;rfl
  .clear A z;exact ly
def Lr (u z:Int):Nat->List AV
 |0=>[]
 |1=>[iA u]
 |_+2=>[iA u,iA z]
def CK (j:Jn) (G:ln j.ph<=1000) (g R M:Int) (L N:List AV) (I S:Nat):zO 214 [wK j,.ptr 3000 0 0,iA g] [(3000,.box [.ref 1001 0 I,iA R,.ref 1002 0 S,iA M]),(1001,.arr 2 L false),(1002,.arr 1 N false)] (.tup [])
  [(3000,.box [.ref 1001 0 I,iA g,.ref 2001 0 2,iA M]),(1001,.arr 2 L false),(1002,.arr 1 N false),(2001,.arr 1 [iA (jJ j 0 g 0),iA (jJ j 1 g 0)] false)]:=by
 have C:=aJ j G 0 g (-1);have E:=aJ j G 1 g (-1);rw[show(-1:Int)+1=0 by omega]at C E;generalize jJ j 0 g 0=u,jJ j 1 g 0=z at *;obtain⟨B,A⟩:∃n:Nat,n=2:=⟨2,rfl⟩;refine eM call214 λF hF=>?_
 refine WW ?_;refine zQ 6 2001 1 Z Z Z ?_;refine zN (B) [2001,3,3000,1001,1002] [3,3000,1001,1002] [1,2,3] [6,8,1,2,3] Z (λi T U=>⟨(6,.ref 2001 0 (Lr u z i).length)::(8,iA i)::T,(2001,.arr 1 (Lr u z i) (i != 1))::U⟩) (Lq ?_ ?_)
 .intro i hi;have:i=0\/i=1:=by omega
  rcases this with rfl|rfl
  .have hl:(Lr u z 0).length=0:=rfl;refine zS C ?_;rfl
  .have hl:(Lr u z 1).length=1:=rfl;refine zS E ?_;rfl
 .have O:Lr u z B=[iA u,iA z]:=by rw[A];rfl
  have e3:(B != 1)=true:=by rw[A];rfl
  rw[O,e3]
  (repeat' (first|refine Tc ?_|apply yW|apply xH|intro hc|(apply zG;first|refine SM ?_)|fail))
  refine yC Z (xO ?_);refine kF 2001 [6] Z Z Z Z Z ?_;refine WW ?_;exact uX [3000,1001,1002,2001] Z Z Z Z
theorem UJ (j:Jn) (J:JV j) (hn:ln j.ph<=1000) (G:ln j.cf<=40) (c:Ct) (hc:ln c.li=ln j.ph) (hm:ln c.nx=2) (p:Nat) (S:p<ln j.ph) (hr:0<=(yH j p).ring/\(yH j p).ring<=1) (E:dT j c p=true\/c.gr=(yH j p).group):
  zO 253 [wK j,.ptr 3000 0 0,iA (p:Int)] (jC c 1002) (.tup []) (jC (uY j c p) 1002):=by
 have ar:=zA xN j.ph;have ag:=zA xG c.li;have ap:=zA iA c.nx;have I:=zJ xN j.ph p S
 change (j.ph.map xN)[p]? =some (xN (yH j p))at I
 have L:=aJ j hn (yH j p).ring (yH j p).group p;unfold uY;by_cases hk:dT j c p=true
 case pos=>
  rw[zA5 hk];unfold dT at hk;rw[zCx]at hk;obtain⟨M,V,hk⟩:=hk;rw[zBu]at V;unfold jC;refine eM call253 λF hF=>?_
  refine WW ?_;refine yU (ln c.li) [3,3000,1001,1002] [3,3000,1001,1002] [1,2,3,12,13] [14,1,2,3,12,13] Z (λi T U zs=>(i<=M)/\zs=⟨(14,iA i)::T,U⟩) (Lp ?_ ?_ ?_)
  .exact⟨zBn _,rfl⟩
  .rintro i st hi ⟨hiq,rfl⟩;have Y:=zJ xG c.li i hi
   change (c.li.map xG)[i]? =some (xG (xS c i))at Y
   have u:=kZ j.cf G i p;rw[J.sy i p zB S]at u;by_cases hb:((xS c i).lamp != 0&&kH j.cf p i)=true
   .rw[zBg]at hb;have h1:(xS c i).lamp≠0:=by simpa using hb.1
    rw[hb.2]at u;generalize xS c i=t at *;clear hb L hk;refine zS u ?_;exact zP [3000,1001,1002] Z Z Z Z
   .have au:i<M:=by
     rcases zGo i M with h|h
     .exact h
     .rw[show i=M by omega]at hb;exact absurd hk hb
    rw[zBg]at hb;by_cases h1:(xS c i).lamp=0
    .generalize xS c i=t at *;clear hb hk;refine WW ?_;exact⟨zB,rfl⟩
    .have A:kH j.cf p i=false:=by
      cases A:kH j.cf p i with
      |false=>rfl
      |true=>exact absurd ⟨by simpa using h1,A⟩ hb
     rw[A]at u;generalize xS c i=t at *;clear hb hk;refine zS u ?_;exact⟨zB,rfl⟩
  .rintro st ⟨hiq,rfl⟩;exfalso;omega
 have z:dT j c p=false:=by simpa using hk
 have R:c.gr=(yH j p).group:=by
  rcases E with E|E
  .exact absurd E hk
  .exact E
 rw[Os hk];have eb:NP j c p=CT c p:=by unfold NP;rw[zA5 R]
 rw[eb];unfold dT at z;rw[zDp]at z;have O:∀q,q<ln c.li->((xS c q).lamp != 0&&kH j.cf p q)=false:=λq A=>by simpa using z q (zBu.2 A)
 unfold CT jC;dsimp only;rw[zCs,zCs,zCk,zCk];clear z hk eb E;generalize jJ j (yH j p).ring (yH j p).group (p+1)=fo at *;obtain⟨rn,B⟩:∃n:Nat,(yH j p).ring=n:=⟨(yH j p).ring.toNat,zB⟩;have C:=zJ xG c.li p zB;have ac:=zJ iA c.nx rn zB;generalize W:xS c p=l0 at*
 change (c.li.map xG)[p]? =some (xG (xS c p))at C
 rw[W]at C;generalize c.nx.getD rn dd=n0 at *;refine eM call253 λF hF=>?_
 refine WW ?_;refine zN (ln c.li) [3,3000,1001,1002] [3,3000,1001,1002] [1,2,3,12,13] [14,1,2,3,12,13] Z (λi T U=>⟨(14,iA i)::T,U⟩) (Lq ?_ ?_)
 .intro i hi;have Y:=zJ xG c.li i hi
  change (c.li.map xG)[i]? =some (xG (xS c i))at Y
  have u:=kZ j.cf G i p;rw[J.sy i p zB S]at u;have hb:=O i hi;clear O C ac L;by_cases h1:(xS c i).lamp=0
  .generalize xS c i=t at *;clear hb;refine WW ?_;rfl
  .have A:kH j.cf p i=false:=by
    cases A:kH j.cf p i with
    |false=>rfl
    |true=>
     rw[A,zD1]at hb;exact absurd IB h1
   rw[A]at u;generalize xS c i=t at *;clear hb;refine zS u ?_;rfl
 .clear O;generalize yH j p=t at *;rw[B,zBx];have et:xN t= .agg [iA rn,iA t.group,iA t.ming,iA t.maxg,iA t.yel,iA t.red,iA t.walk,iA t.clear]:=by rw[<-B];rfl
  rw[et]at I;rw[B]at L;refine zS L ?_;exact uX [3000,1001,1002] Z Z Z Z
theorem NL (j:Jn) (J:JV j) (hn:ln j.ph<=1000) (G:ln j.cf<=40) (c:Ct) (hc:ln c.li=ln j.ph) (hm:ln c.nx=2) (p:Nat) (S:p<ln j.ph) (hr:0<=(yH j p).ring/\(yH j p).ring<=1) (E:dT j c p=true\/c.gr=(yH j p).group):
  zO 253 [wK j,.ptr 3000 0 0,iA (p:Int)] (jC c 2001) (.tup []) (jC (uY j c p) 2001):=by
 have ar:=zA xN j.ph;have ag:=zA xG c.li;have ap:=zA iA c.nx;have I:=zJ xN j.ph p S
 change (j.ph.map xN)[p]? =some (xN (yH j p))at I
 have L:=aJ j hn (yH j p).ring (yH j p).group p;unfold uY;by_cases hk:dT j c p=true
 case pos=>
  rw[zA5 hk];unfold dT at hk;rw[zCx]at hk;obtain⟨M,V,hk⟩:=hk;rw[zBu]at V;unfold jC;refine eM call253 λF hF=>?_
  refine WW ?_;refine yU (ln c.li) [3,3000,1001,2001] [3,3000,1001,2001] [1,2,3,12,13] [14,1,2,3,12,13] Z (λi T U zs=>(i<=M)/\zs=⟨(14,iA i)::T,U⟩) (Lp ?_ ?_ ?_)
  .exact⟨zBn _,rfl⟩
  .rintro i st hi ⟨hiq,rfl⟩;have Y:=zJ xG c.li i hi
   change (c.li.map xG)[i]? =some (xG (xS c i))at Y
   have u:=kZ j.cf G i p;rw[J.sy i p zB S]at u;by_cases hb:((xS c i).lamp != 0&&kH j.cf p i)=true
   .rw[zBg]at hb;have h1:(xS c i).lamp≠0:=by simpa using hb.1
    rw[hb.2]at u;generalize xS c i=t at *;clear hb L hk;refine zS u ?_;exact zP [3000,1001,2001] Z Z Z Z
   .have au:i<M:=by
     rcases zGo i M with h|h
     .exact h
     .rw[show i=M by omega]at hb;exact absurd hk hb
    rw[zBg]at hb;by_cases h1:(xS c i).lamp=0
    .generalize xS c i=t at *;clear hb hk;refine WW ?_;exact⟨zB,rfl⟩
    .have A:kH j.cf p i=false:=by
      cases A:kH j.cf p i with
      |false=>rfl
      |true=>exact absurd ⟨by simpa using h1,A⟩ hb
     rw[A]at u;generalize xS c i=t at *;clear hb hk;refine zS u ?_;exact⟨zB,rfl⟩
  .rintro st ⟨hiq,rfl⟩;exfalso;omega
 have z:dT j c p=false:=by simpa using hk
 have R:c.gr=(yH j p).group:=by
  rcases E with E|E
  .exact absurd E hk
  .exact E
 rw[Os hk];have eb:NP j c p=CT c p:=by unfold NP;rw[zA5 R]
 rw[eb];unfold dT at z;rw[zDp]at z;have O:∀q,q<ln c.li->((xS c q).lamp != 0&&kH j.cf p q)=false:=λq A=>by simpa using z q (zBu.2 A)
 unfold CT jC;dsimp only;rw[zCs,zCs,zCk,zCk];clear z hk eb E;generalize jJ j (yH j p).ring (yH j p).group (p+1)=fo at *;obtain⟨rn,B⟩:∃n:Nat,(yH j p).ring=n:=⟨(yH j p).ring.toNat,zB⟩;have C:=zJ xG c.li p zB;have ac:=zJ iA c.nx rn zB;generalize W:xS c p=l0 at*
 change (c.li.map xG)[p]? =some (xG (xS c p))at C
 rw[W]at C;generalize c.nx.getD rn dd=n0 at *;refine eM call253 λF hF=>?_
 refine WW ?_;refine zN (ln c.li) [3,3000,1001,2001] [3,3000,1001,2001] [1,2,3,12,13] [14,1,2,3,12,13] Z (λi T U=>⟨(14,iA i)::T,U⟩) (Lq ?_ ?_)
 .intro i hi;have Y:=zJ xG c.li i hi
  change (c.li.map xG)[i]? =some (xG (xS c i))at Y
  have u:=kZ j.cf G i p;rw[J.sy i p zB S]at u;have hb:=O i hi;clear O C ac L;by_cases h1:(xS c i).lamp=0
  .generalize xS c i=t at *;clear hb;refine WW ?_;rfl
  .have A:kH j.cf p i=false:=by
    cases A:kH j.cf p i with
    |false=>rfl
    |true=>
     rw[A,zD1]at hb;exact absurd IB h1
   rw[A]at u;generalize xS c i=t at *;clear hb;refine zS u ?_;rfl
 .clear O;generalize yH j p=t at *;rw[B,zBx];have et:xN t= .agg [iA rn,iA t.group,iA t.ming,iA t.maxg,iA t.yel,iA t.red,iA t.walk,iA t.clear]:=by rw[<-B];rfl
  rw[et]at I;rw[B]at L;refine zS L ?_;exact uX [3000,1001,2001] Z Z Z Z
theorem CM (j:Jn) (J:JV j) (Y:ln j.ph<=1000) (M:ln j.cf<=40) (c:Ct) (hc:ln c.li=ln j.ph) (hm:ln c.nx=2) (p:Nat) (hp:p<ln j.ph) (hr:0<=(yH j p).ring/\(yH j p).ring<=1) (u:dT j c p=false) (R:c.gr≠(yH j p).group):
  zO 253 [wK j,.ptr 3000 0 0,iA (p:Int)] (jC c 1002) (.tup []) (XW (uY j c p) c.nx):=by
 have ap:=zA xN j.ph;have ac:=zA xG c.li;have ag:=zA iA c.nx;have E:=zJ xN j.ph p hp
 change (j.ph.map xN)[p]? =some (xN (yH j p))at E
 have G:=aJ j Y (yH j p).ring (yH j p).group p;unfold uY;rw[Os (by rw[u];decide)];have W:NP j c p=LZ j (CT c p) (yH j p).group:=by unfold NP;rw[Os R]
 rw[W];unfold dT at u;rw[zDp]at u;have L:∀q,q<ln c.li->((xS c q).lamp != 0&&kH j.cf p q)=false:=λq C=>by simpa using u q (zBu.2 C)
 have V:=CK j Y (yH j p).group c.gr c.wt ((c.li.map xG).set p (xG ⟨1,0⟩)) (c.nx.map iA) (c.li.map xG).length (c.nx.map iA).length;unfold LZ CT jC XW;dsimp only;rw[zCs,zCs,zCk,zCk];rw[show([jJ j 0 (yH j p).group 0,jJ j 1 (yH j p).group 0].map iA)=[iA (jJ j 0 (yH j p).group 0),iA (jJ j 1 (yH j p).group 0)]from Z];have O:(([iA (jJ j 0 (yH j p).group 0),iA (jJ j 1 (yH j p).group 0)]:List AV)).length=2:=rfl;rw[O]
 have A:∃v,([iA (jJ j 0 (yH j p).group 0),iA (jJ j 1 (yH j p).group 0)]:List AV)[(yH j p).ring.toNat]? =some (iA v):=by
  have:(yH j p).ring=0\/(yH j p).ring=1:=by omega
  rcases this with h|h<;>rw[h]
  all_goals exact⟨_,rfl⟩
 obtain⟨v0,A⟩:=A;generalize ([iA (jJ j 0 (yH j p).group 0),iA (jJ j 1 (yH j p).group 0)]:List AV)=fx at *;clear u W;generalize jJ j (yH j p).ring (yH j p).group (p+1)=fo at *;obtain⟨rn,z⟩:∃n:Nat,(yH j p).ring=n:=⟨(yH j p).ring.toNat,zB⟩;have B:=zJ xG c.li p zB;rw[z,zBx]at A;generalize S:xS c p=l0 at*
 change (c.li.map xG)[p]? =some (xG (xS c p))at B
 rw[S]at B;refine eM call253 λF hF=>?_
 refine WW ?_;refine zN (ln c.li) [3,3000,1001,1002] [3,3000,1001,1002] [1,2,3,12,13] [14,1,2,3,12,13] Z (λi T U=>⟨(14,iA i)::T,U⟩) (Lq ?_ ?_)
 .intro i hi;have hy:=zJ xG c.li i hi
  change (c.li.map xG)[i]? =some (xG (xS c i))at hy
  have I:=kZ j.cf M i p;rw[J.sy i p zB hp]at I;have hb:=L i hi;clear L B G V;by_cases h1:(xS c i).lamp=0
  .generalize xS c i=t at *;clear hb;refine WW ?_;rfl
  .have C:kH j.cf p i=false:=by
    cases C:kH j.cf p i with
    |false=>rfl
    |true=>
     rw[C,zD1]at hb;exact absurd IB h1
   rw[C]at I;generalize xS c i=t at *;clear hb;refine zS I ?_;rfl
 .clear L;generalize yH j p=t at *;rw[z,zBx];have et:xN t= .agg [iA rn,iA t.group,iA t.ming,iA t.maxg,iA t.yel,iA t.red,iA t.walk,iA t.clear]:=by rw[<-z];rfl
  rw[et]at E;rw[z]at G;refine yJ (xW V G) ?_;exact uX [3000,1001,1002,2001] Z Z Z Z
def E0 (j:Jn) (Y:ln j.ph<=1000) (c:Ct) (hc:ln c.li=ln j.ph) (r:Int):zO 252 [wK j,JK c,iA r] [] (bA (RB j c r)) []:=by
 have hl:=zA xN j.ph;have O:=zA xG c.li
 cases hd:RB j c r with
 | true=>
  have E:∀p,p<ln j.ph->(yH j p).ring=r->(xS c p).lamp=0:=λp R S=>I0 hd R S
  clear hd;refine eM call252 λF hF=>?_
  refine WW ?_;refine zN (ln c.li) [3] [3] [2,3,10,11] [12,2,3,10,11] Z (λi T U=>⟨(12,iA i)::T,U⟩) (Lq ?_ ?_)
  .intro u G;have I:=zJ xN j.ph u zB
   change (j.ph.map xN)[u]? =some (xN (yH j u))at I
   have C:=zJ xG c.li u G
   change (c.li.map xG)[u]? =some (xG (xS c u))at C
   have E:=E u zB;generalize yH j u=p,xS c u=l at *;by_cases h1:p.ring=r
   .have h2:=E h1;clear E;refine WW ?_;rfl
   .clear E;refine WW ?_;rfl
  .clear E;exact ly
 | false=>
  unfold RB at hd;rw[zEd]at hd;obtain⟨V,B,hb⟩:=hd;rw[cS]at B;obtain⟨k,_,⟨hk,M,L⟩,z⟩:=NQ (P:=λp=>p<ln j.ph/\(yH j p).ring=r/\(xS c p).lamp≠0) V ⟨B.1,B.2,by simpa using hb⟩;clear hb;refine eM call252 λF hF=>?_
  refine WW ?_;refine yU (ln c.li) [3] [3] [2,3,10,11] [12,2,3,10,11] Z (λi T U W=>(i<=k)/\W=⟨(12,iA i)::T,U⟩) (Lp ?_ ?_ ?_)
  .exact⟨zBn _,rfl⟩
  .rintro u st G ⟨huk,rfl⟩;have I:=zJ xN j.ph u zB
   change (j.ph.map xN)[u]? =some (xN (yH j u))at I
   have C:=zJ xG c.li u G
   change (c.li.map xG)[u]? =some (xG (xS c u))at C
   by_cases e:u=k
   .subst e;generalize yH j u=p,xS c u=l at *;clear z;exact ly
   .have A:=z u zB;generalize yH j u=p at *;generalize xS c u=l at *;clear z;by_cases h1:p.ring=r
    .have h2:l.lamp=0:=zDs λh=>A ⟨zB,h1,h⟩
     clear A;refine WW ?_;exact⟨zB,rfl⟩
    .clear A;refine WW ?_;exact⟨zB,rfl⟩
  .rintro st ⟨huk,rfl⟩;exfalso;omega
def Zl (j:Jn) (r t:Int) (i:Nat):Int:=match (LV j r i).find? (λp:Nat=>!kH j.cf p t)with
 |some p=>p
 |none=> -1
theorem Yl (j:Jn) (r t:Int) (i:Nat):Zl j r t (i+1)=if(yH j i).ring=r/\kH j.cf i t=false then(if Zl j r t i<0 then(i:Int)else Zl j r t i)else Zl j r t i:=by grind [Zl,yH,kH,UL,LV]
def Rt {r:Int} {i:Nat} (h:p∈LV j r i):p<i:=by grind [LV]
theorem D0 (j:Jn) (hn:ln j.ph<=1000) (V:ln j.cf<=40) (c:Ct) (hm:ln c.nx=2) (r:Int) (hr:0<=r/\r<2) (t:Nat) (ht:t<ln j.ph) (hx:c.nx.getD r.toNat dd= -1\/0<=c.nx.getD r.toNat dd):zO 251 [wK j,JK c,iA r,iA (t:Int)] [] (iA (aY j c r t)) []:=by
 have hl:=zA xN j.ph;have ag:=zA iA c.nx;have Y:=zJ xN j.ph t ht
 change (j.ph.map xN)[t]? =some (xN (yH j t))at Y
 have ap:=yF iA c.nx r hr.1 zB;unfold aY;generalize c.nx.getD r.toNat dd=B at *;by_cases O:r=(yH j t).ring
 .rw[zA5 O];generalize yH j t=pt at *;refine eM call251 λF hF=>?_
  exact ly
 rw[Os O];have ac:¬(yH j t).ring=r:=λh=>O h.symm
 generalize yH j t=pt at *;refine eM call251 λF hF=>?_
 refine WW ?_;refine yU (ln j.ph) [4,5] [4,5] [2,3,4,5,22,23] [9,24,2,3,4,5,22,23] Z (λi T U zs=>(∀p∈LV j r i,(!kH j.cf p t&&decide (B≠ -1/\B<=(p:Int)))=false)/\zs=⟨(9,iA (Zl j r t i))::(24,iA i)::T,U⟩) (Lp ?_ ?_ ?_)
 .exact⟨λp G=>absurd (Rt G) (zC3 _),rfl⟩
 .rintro i st hi ⟨hI,rfl⟩;have hy:=zJ xN j.ph i hi
  change (j.ph.map xN)[i]? =some (xN (yH j i))at hy
  have M:=kZ j.cf V i t;have E:=Yl j r t i;have I:=UL j r i
  have u:(yH j i).ring=r->(!kH j.cf i t&&decide (B≠ -1/\B<=(i:Int)))=false->∀p∈LV j r (i+1),(!kH j.cf p t&&decide (B≠ -1/\B<=(p:Int)))=false:=λh1 hb p G=>by
   rw[I,zA5 h1,zBs,zB1]at G
   rcases G with G|rfl
   .exact hI p G
   .exact hb
  have C:(yH j i).ring≠r->∀p∈LV j r (i+1),(!kH j.cf p t&&decide (B≠ -1/\B<=(p:Int)))=false:=λh1 p G=>by
   rw[I,Os h1]at G;exact hI p G
  have z:(yH j i).ring=r->(!kH j.cf i t&&decide (B≠ -1/\B<=(i:Int)))=true->EV j B r t=i:=λh1 hb=>by
   obtain⟨l2,L⟩:=GG j r (ln j.ph) (i+1) zB;rw[I,zA5 h1]at L
   have e:(QV j r).find? (λp:Nat=>!kH j.cf p t&&decide (B≠ -1/\B<=(p:Int)))=some i:=by
    unfold QV;rw[L,zBy,List.find?_append,PR hI,Option.none_or,zE6];exact List.find?_cons_of_pos hb
   unfold EV;rw[e]
  clear hI I;generalize kH j.cf i t=q,Zl j r t (i+1)=s2,Zl j r t i=s1 at *;by_cases h1:(yH j i).ring=r
  case neg=>
   have A:=C h1;rw[Os (λh=>h1 h.1)]at E;generalize yH j i=p at *;subst E;clear u C z;refine WW ?_;exact⟨A,rfl⟩
  have u:=u h1;have z:=z h1;clear C
  cases q with
  |true=>
   rw[Os (λh=>by cases h.2)]at E;have A:=u Z;generalize yH j i=p at *;subst E;clear u z;refine zS M ?_;exact⟨A,rfl⟩
  |false=>
  rw[zA5 ⟨h1,rfl⟩]at E;by_cases h2:s1<0
  .rw[zA5 h2]at E;subst E;by_cases R:B= -1
   .have A:=u (by rw[zA7 (λh=>h.1 R)];rfl);generalize yH j i=p at *;clear u z;refine zS M ?_;exact⟨A,rfl⟩
   by_cases S:B<=(i:Int)
   .rw[z (by rw[zA9 ⟨R,S⟩];rfl)];generalize yH j i=p at *;clear u z;exact ng M
   .have A:=u (by rw[zA7 (λh=>S h.2)];rfl);generalize yH j i=p at *;clear u z;refine zS M ?_;exact⟨A,rfl⟩
  .rw[Os h2]at E;subst E;by_cases R:B= -1
   .have A:=u (by rw[zA7 (λh=>h.1 R)];rfl);generalize yH j i=p at *;clear u z;refine zS M ?_;exact⟨A,rfl⟩
   by_cases S:B<=(i:Int)
   .rw[z (by rw[zA9 ⟨R,S⟩];rfl)];generalize yH j i=p at *;clear u z;exact ng M
   .have A:=u (by rw[zA7 (λh=>S h.2)];rfl);generalize yH j i=p at *;clear u z;refine zS M ?_;exact⟨A,rfl⟩
 .rintro st ⟨hI,rfl⟩
  have W:EV j B r t=Zl j r t (ln j.ph):=by
   unfold EV Zl;rw[show QV j r=LV j r (ln j.ph) from Z,PR hI];rfl
  rw[W];clear hI;generalize Zl j r t (ln j.ph)=s1 at *;exact ly
def Zh (c:Ct) (h1:ln c.li<=1000) (h2:ln c.nx<=1000):zO 188 [JK c] [] (.agg [.ref 1001 0 (c.li.map xG).length,iA c.gr,.ref 1002 0 (c.nx.map iA).length,iA c.wt]) [(1001,.arr 2 (c.li.map xG) false),(1002,.arr 1 (c.nx.map iA) false)]:=by
 have hl:=zA xG c.li;have u:=zA iA c.nx;refine eM call188 λF hF=>?_
 (repeat' (first|refine uT ?_|apply yW|apply xH|intro hc|(apply zG;first|(apply yE;first|refine xE 1001 tok Z Z Z Z Z Z (yM _ _ (λ_=>rfl)) Z Z Z zB Z Z Z ?_|refine xE 1002 tok Z Z Z Z Z Z (yM _ _ (λ_=>rfl)) Z Z Z zB Z Z Z ?_))|fail))
 exact zP [1001,1002] Z Z Z Z
