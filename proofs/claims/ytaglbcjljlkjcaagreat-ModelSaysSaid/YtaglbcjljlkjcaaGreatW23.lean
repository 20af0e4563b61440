/- Part 23. -/
import Derived.Test.YtaglbcjljlkjcaaGreatW22
namespace Go.Proofs.YtaglbcjljlkjcaaGreat.Av
open Tryz
set_option linter.all false
set_option maxRecDepth 4000
set_option maxHeartbeats 1000000
open List renaming length->ln,replicate->pb,range->pi,getD->py
open Inhabited renaming default->dd
variable {j:Jn}{p:Nat}
def Il (j:Jn) (G:ln j.ph<=1000) (g R E:Int) (L:List AV) (C:Nat):zN 208 [wJ j,.ptr 3000 0 0,iA g] [(3000,.box [.ref 1001 0 C,iA R,.s (.slice none 0 0),iA E]),(1001,.arr 2 L false)] (.tup [])
  [(3000,.box [.ref 1001 0 C,iA g,.ref 2001 0 2,iA E]),(1001,.arr 2 L false),(2001,.arr 1 [iA (jH j 0 g 0),iA (jH j 1 g 0)] false)]:=by
 have I:=VD j G 0 g 0;have M:=VD j G 1 g 0;generalize jH j 0 g 0=u,jH j 1 g 0=z at *;obtain⟨B,A⟩:∃n:Nat,n=2:=⟨2,rfl⟩;refine eM call208 λF hF=>?_
 (repeat' (first|refine uT ?_|apply yW|apply xI|intro hc|(apply zG;first|(apply fP;refine bD 2001 tok Z Z Z Z Z Z Z Z Z Z Z Z Z zB zB Z Z Z ?_))|fail))
 refine zO (B) [3000,2001,3,1001] [3,1001] [1,2,3] [20,19,1,2,3] Z (λi T U=>⟨(20,iA i)::(19,iA B)::T,(3000,.box [.ref 1001 0 C,iA g,.ref 2001 0 B,iA E])::(2001,.arr 1 (qj u z i) false)::U⟩) ?_;(conv=>whnf);refine⟨by(rw[A];rfl),?_,?_⟩
 .intro i hi;have:i=0\/i=1:=by omega
  rcases this with rfl|rfl
  .have S:(qj u z 0)[((0:Nat):Int).toNat]? =some (iA 0):=rfl;have hl:(qj u z 0).length=2:=rfl;refine zS I ?_;rfl
  .have S:(qj u z 1)[((1:Nat):Int).toNat]? =some (iA 0):=rfl;have hl:(qj u z 1).length=2:=rfl;refine zS M ?_;rfl
 .have O:qj u z B=[iA u,iA z]:=by rw[A];rfl
  rw[O];refine WW ?_;subst A;exact uW [3000,1001,2001] Z Z Z Z
def Uh (j:Jn):Ct:=⟨pb (ln j.ph) ⟨0,0⟩,0,[jH j 0 0 0,jH j 1 0 0],j.st⟩
def qc (j:Jn) (p:Nat):xS (Uh j) p=⟨0,0⟩:=by
 unfold xS Uh;simp only[zA0,zDb]
 split<;>rfl
theorem Hl (J:JV j):CV j (Uh j):=by
 refine⟨by simp[Uh],λp u=>by rw[qc];rfl,λp q u B z h1 h2=>by rw[qc]at h1;exact absurd Z h1,⟨zC1 _,?_⟩,rfl,λr A=>Hx j (Uh j) 0 r A,⟨J.st.1,zC1 _⟩,.inr λp u=>by rw[qc]⟩;have:=PR J
 grind [Uh]
def Gl {P:Program} {C:List Nat} {F:Fr C} {m:Nat} {A:Array Oper} {z:List Oper} {Q:List FP->St->Prop} {B:Bool} {fs:List FP} {ty T:Nat} {pos:String} {u:Array Edge} {st:St} (hk:yN P F m A B (⟨some 3,.alloc T,ty,pos,u,none⟩::z) st fs Q):yN P F m A B (⟨some 3,.alloc T,ty,pos,u,none⟩::z) st fs Q:=hk
def Bz (j:Jn) (C:ln j.ph<=1000):zN 152 [wJ j] [] (JM (Uh j)) []:=by
 have z:=zA xN j.ph;have u:=Il j C 0 0 j.st ((pb (ln j.ph) (⟨0,0⟩:Li)).map xE) ((pb (ln j.ph) (⟨0,0⟩:Li)).map xE).length;have A:(pb (ln j.ph) (⟨0,0⟩:Li)).map xE=pb (ln j.ph) (xE ⟨0,0⟩):=zEf;have eN:((pb (ln j.ph) (⟨0,0⟩:Li)).map xE).length=ln j.ph:=by simp
 rw[eN,A]at u;rw[<-z]at u;refine eM call152 λF hF=>?_
 repeat' (first|(apply zG;first|(apply Gl;refine uU (nw:=[3000]) (fJ tok 3000 Z Z) Z Z Z ?_)|refine uL tok Z Z ?_|(apply fP;refine bD 1001 tok Z Z Z Z Z Z Z Z Z Z Z Z Z zB zB Z Z Z ?_)|refine YU tok Z Z Z Z ?_|(apply xP;(first|(refine vG 208 ?_;first|refine wM (zL (u) Z Z Z Z Z) Z ?_|refine uU (zL (u) Z Z Z Z Z) Z Z Z ?_|refine aF (zL (u) Z Z Z Z Z) Z Z Z ?_)))|(apply dX;refine cO tok Z Z Z ?_)|refine WR NA ?_|apply kP)|first|refine SQ ?_|fail)
 have B:AV.agg [.sl false ((pb (j.ph.map xN).length (xE ⟨0,0⟩)).take (j.ph.map xN).length),iA 0,.sl false [iA (jH j 0 0 0),iA (jH j 1 0 0)],iA j.st]=JM (Uh j):=by
  rw[zA1 zV,z,<-A];rfl
 exact zH [] Z Z B Z
theorem F6 (p:Nat->Bool) {n q:Nat} (u:n<=8) (z:q<n):mc (hH p n) q=p q:=by
 have e:=GJ (λi=>decide (i<n)&&p i) n 8 u (λi h1 h2=>by rw[zAs zB];rfl)
 grind [mc,hH,bT,Zm]
theorem Fe (z:List Ph) (u:Bool) (i:Nat):∀n,XP z u i n=hH (Lr z u i) n
 |0=>rfl
 |n+1=>by
  unfold XP hH;rw[Fe z u i n];have:(2:Int) ^ n=p2 n:=by unfold p2;rw[zBf]
  rw[this]
theorem Jt (u:List Ph) (z:Bool) {q:Nat} (A:ln u<=8) (C:p<ln u) (B:q<ln u):kK (fF u z (ln u)) p q=Lr u z p q:=by
 have hl:(fF u z (ln u)).length=ln u:=by simp[fF]
 unfold kK;rw[zAu zB,zA3,zBf]
 have e:(fF u z (ln u)).getD p dd=XP u z p (ln u):=by
  grind [kK,fF,Lr]
 rw[e,Fe];exact F6 _ A B
theorem El (d:Dk) (l:List (Int×Int)):∀i k,k<i->∃e,(JN d l i).1.getD k dd=UY e (l.getD k dd)
 |0,k,h=>absurd h (zCm _)
 |i+1,k,h=>by
  have hl:=UZ d l i;unfold JN;by_cases hk:k=i
  .subst hk;refine⟨(JN d l k).2,?_⟩;simp[py,hl]
  .obtain⟨e,u⟩:=El d l i k zB;refine⟨e,?_⟩;rw[<-u];simp only[zA0];rw[zBp zB]
def ShB (l:List (Int×Int)):Bool:=(l.all λs=>decide (0<=s.1/\s.1<=1/\0<=s.2/\s.2<=3))&&(l.all λs=>[0,1,2].all λg:Int=>decide (s.2<=g)||(l.any λu=>u.2==g))
def Dl (n:Int):ShB (qR n)=true:=by
 unfold qR;split
 .decide
 split
 .decide
 split
 .decide
 split
 .decide
 split
 .decide
 .decide
theorem BC (d:Dk) (s:Int×Int):(UY d s).ring=s.1/\(UY d s).group=s.2/\1<=(UY d s).ming/\(UY d s).ming<=(UY d s).maxg/\(UY d s).maxg<=60/\1<=(UY d s).yel/\(UY d s).yel<=60/\0<=(UY d s).red/\(UY d s).red<=60/\0<=(UY d s).walk/\(UY d s).walk<=60/\0<=(UY d s).clear/\(UY d s).clear<=60/\(UY d s).walk+(UY d s).clear<=(UY d s).maxg/\((UY d s).walk=0↔(UY d s).clear=0):=by
 have u:=yQ d (3-1+1) zB;have z:=yQ (ad d) (2-1+1) zB;have A:=yQ (ad (ad d)) 3 zB;have B:=yQ (ad (ad (ad (ad d)))) (2-1+1) zB;have C:=yQ (ad (ad (ad (ad (ad d))))) (2-1+1) zB;have E:=yQ (ad (ad (ad (ad (ad (ad d)))))) 4 zB;have G:=yQ (ad (ad (ad (ad d)))) 4 zB;unfold UY
 grind [Dk,UY]
theorem Az (d:Dk):JV (NY d):=by
 have ag:=NZ (nx d 6);have z:=Dl (nx d 6);have ap:=yQ (ad d) 3 zB;have B:(VX d).1.length=(qR (nx d 6)).length:=UZ _ _ _
 have G:∀k,k<(VX d).1.length->∃e,yF (NY d) k=UY e ((qR (nx d 6)).getD k dd):=λk hk=>by
  rw[B]at hk;exact El _ _ _ k hk
 have u:(NY d).ph=(VX d).1:=rfl;generalize qR (nx d 6)=S at *;generalize M:(nx (VX d).2 4==3)=E at *;have L:(NY d).cf=fF (VX d).1 E (VX d).1.length:=by unfold NY;rw[M]
 unfold ShB at z;simp only[zA2,zA5,zAx,zC3,zCi,zB8]at z
 have C:∀k,k<(VX d).1.length->S.getD k dd∈S:=λk hk=>by
  grind
 have I:∀p q:Nat,p<(VX d).1.length->q<(VX d).1.length->kK (NY d).cf p q=Lr (VX d).1 E p q:=λp q A R=>by
  grind [Dk,NY,Jt]
 have U:(NY d).cf.length=(VX d).1.length:=by rw[L];simp[fF]
 refine⟨?_,?_,?_,?_,?_,?_,?_,?_,?_,?_,?_⟩
 .rw[u];omega
 .grind
 .intro i hi;rw[u]at hi⊢
  have e:(NY d).cf.getD i dd=XP (VX d).1 E i (VX d).1.length:=by
   grind [Dk,NY,fF,py]
  rw[e];exact PS _ _ _ _
 .grind [Dk,NY,Lr]
 .grind [Dk,NY,Lr,VX]
 .intro p q A R O h;rw[u]at A R;rw[I p q A R];unfold Lr;rw[show(p != q)=true by simpa using O,zA3]
  rcases h with h|h
  .rw[show(((VX d).1.getD p dd).ring==((VX d).1.getD q dd).ring)=true from zB8.2 h];rfl
  .rw[show(((VX d).1.getD p dd).group != ((VX d).1.getD q dd).group)=true from zCw.2 h];simp
 .grind [Dk,NY,BC]
 .grind [Dk,NY,BC]
 .grind [Dk,NY,BC]
 .intro p A g Y W;obtain⟨e,V⟩:=G p A;rw[V,(BC e _).2.1]at W;have h3:=z.1 _ (C p A)
  have ac:g∈([0,1,2]:List Int):=by
   grind
  grind [Dk,NY,List.getElem_of_mem,BC,py]
 all_goals grind [Dk,NY]
def jB (u:List Int) (C:ln u<=40) (p q:Int):zN 74 [zE iA u,iA p,iA q] [] (bA (kK u p q)) []:=by
 have hl:=zA iA u;unfold kK;by_cases h1:0<=p
 case neg=>
  rw[zAs (λh=>h1 h.1)];refine eM call74 λF hF=>?_
  exact ly
 by_cases z:p<ln u
 case neg=>
  rw[zAs (λh=>z h.2.2.1)];refine eM call74 λF hF=>?_
  exact ly
 by_cases h2:0<=q
 case neg=>
  rw[zAs (λh=>h2 h.2.1)];refine eM call74 λF hF=>?_
  exact ly
 by_cases A:q<ln u
 case neg=>
  rw[zAs (λh=>A h.2.2.2)];refine eM call74 λF hF=>?_
  exact ly
 rw[zAu ⟨h1,h2,z,A⟩,zA3];have E:=yE iA u p h1 z;generalize u.getD p.toNat dd=x at *;by_cases B:jI (vT x q) 1=1
 .rw[show(jI (vT x q) 1==1)=true by rw[zB8];exact B];refine eM call74 λF hF=>?_
  exact ly
 .rw[show(jI (vT x q) 1==1)=false by rw[zBm];exact B];refine eM call74 λF hF=>?_
  exact ly
def QA (a:Int):Bool:=decide (a=1\/a=2)
def ZM (a:Int):zN 285 [iA a] [] (bA (QA a)) []:=by
 unfold QA
 (cases hb:decide (a=1\/a=2)with|false=>((refine eM call285 λF hF=>?_);((refine WW (I2 (λhc=>?_) λhc=>?_)));all_goals (first|exact zI|(simp only[QA,zA4]at hb;first|exact MH|exact PX)))|true=>(simp only[QA,zAx]at hb;(refine eM call285 λF hF=>?_);((refine WW (I2 (λhc=>?_) λhc=>?_)));all_goals (first|exact zI|exact MH|exact PX)))
def ZN (a:Int):zN 256 [iA a] [] (bA (QA a)) []:=by
 unfold QA
 (cases hb:decide (a=1\/a=2)with|false=>((refine eM call256 λF hF=>?_);((repeat' (first|refine uT ?_|apply yW|apply xI|intro hc|(apply zG;first|refine SM ?_)|fail)));all_goals (first|exact zI|(simp only[QA,zA4]at hb;first|exact MH|exact PX)))|true=>(simp only[QA,zAx]at hb;(refine eM call256 λF hF=>?_);((repeat' (first|refine uT ?_|apply yW|apply xI|intro hc|(apply zG;first|refine SM ?_)|fail)));all_goals (first|exact zI|exact MH|exact PX)))
def SY (u:List Li) (k:Int) (p:Nat):Int:=if(p:Int)=k then 1 else(u.getD p dd).lamp
def bP (u:List Li) (k:Int):List Int:=(pi (ln u)).map (SY u k)
def BD (u:List Li) (k:Int):(bP u k).length=ln u:=by simp[bP]
def Bl (f:Nat->Int) (n i:Nat) (h:i<n) (x:Int) (hx:x=f i):(((List.range i).map f++List.replicate (n-i) 0).map iA).set i (iA x)=((List.range (i+1)).map f++List.replicate (n-(i+1)) 0).map iA:=by
 subst hx;rw[<-zCe,show n-i=(n-(i+1))+1 by omega,zFi,zEq _ _ zV,zAr,zB9,zC7,zFt,zCs];simp
def BE (f:Nat->Int) (n i:Nat) (h:i<=n):(((List.range i).map f++List.replicate (n-i) 0).map iA).length=n:=by
 simp;omega
theorem Gt (f:Nat->Int) (n i:Nat) (h:i<n):(((List.range i).map f++List.replicate (n-i) 0).map iA)[i]? =some (iA 0):=by grind
def o0 (u:List Li) (M:ln u<=1000) (k:Int):zN 230 [zE xE u,iA k] [] (zE iA (bP u k)) []:=by
 have hl:=zA xE u;have B:pb (ln u) (AV.s (.int .i64 0))=((pi 0).map (SY u k)++pb (ln u-0) 0).map iA:=by simp[iA]
 obtain⟨n,C⟩:∃n,ln u=n:=⟨_,rfl⟩;refine eM call230 λF hF=>?_
 refine WW ?_;refine zO (ln u) [10] [] [1,5,11,12] [13,1,5,11,12] Z (λi T U=>⟨(13,iA i)::T,(10,.arr 1 (((pi i).map (SY u k)++pb (ln u-i) 0).map iA) false)::U⟩) ?_;(conv=>whnf);refine⟨by(rw[<-B,<-hl];rfl),?_,?_⟩
 .intro i hi;have O:=zJ xE u i hi;have A:=BE (SY u k) (ln u) i zB;have G:=Gt (SY u k) (ln u) i hi;have E:=Bl (SY u k) (ln u) i hi (SY u k i) Z
  have z:SY u k i=if(i:Int)=k then 1 else(u.getD i dd).lamp:=rfl
  generalize ((pi i).map (SY u k)++pb (ln u-i) 0).map iA=xs,((pi (i+1)).map (SY u k)++pb (ln u-(i+1)) 0).map iA=ys,SY u k i=v,u.getD i dd=t at *;rw[<-E];clear E B C;by_cases hk:(i:Int)=k
  .rw[f5 hk]at z;subst z;have I:(xs.set i (iA t.lamp))[i]? =some (iA t.lamp):=by rw[zBs zB]
   have L:(xs.set i (iA t.lamp)).length=ln u:=by simp[A]
   rw[<-zE2 (iA t.lamp)];refine WW ?_;rfl
  .rw[Os hk]at z;subst z;refine WW ?_;rfl
 .have A:=BE (SY u k) (ln u) (ln u) (zAw _)
  have e:zE iA (bP u k)= .sl false ((((pi (ln u)).map (SY u k)++pb (ln u-u.length) 0).map iA).take (u.map xE).length):=by
   rw[zA1 zB,zC7,List.replicate_zero,zBn];rfl
  rw[e];clear e B;generalize ((pi (ln u)).map (SY u k)++pb (ln u-u.length) 0).map iA=xs at *;exact ly
def Ft (u:List Li) (B:ln u<=1000) (k:Int):zN 199 [zE xE u,iA k] [] (zE iA (bP u k)) []:=by
 have hl:=zA xE u;refine eM call199 λF hF=>?_
 refine WW ?_;refine zQ 5 1001 1 Z Z Z ?_;refine zO (ln u) [1001] [] [1,8,9] [5,10,1,8,9] Z (λi T U=>⟨(5,.ref 1001 0 (((pi i).map (SY u k)).map iA).length)::(10,iA i)::T,(1001,.arr 1 (((pi i).map (SY u k)).map iA) true)::U⟩) (Lq ?_ ?_)
 .intro i hi;have C:=zJ xE u i hi;have A:(((pi i).map (SY u k)).map iA).length=i:=by simp
  have e:((pi (i+1)).map (SY u k)).map iA=((pi i).map (SY u k)).map iA++[iA (SY u k i)]:=by rw[zCs];simp
  have z:SY u k i=if(i:Int)=k then 1 else(u.getD i dd).lamp:=rfl
  rw[e];clear e;generalize ((pi i).map (SY u k)).map iA=xs,SY u k i=v,u.getD i dd=t at *;by_cases hk:(i:Int)=k
  .rw[f5 hk]at z;subst z;refine WW ?_;rfl
  .rw[Os hk]at z;subst z;refine WW ?_;rfl
 .have A:(((pi (ln u)).map (SY u k)).map iA).length=ln u:=by simp
  rw[show zE iA (bP u k)= .sl false ((((pi (ln u)).map (SY u k)).map iA).take (((pi (ln u)).map (SY u k)).map iA).length) by rw[zAt];rfl];generalize ((pi (ln u)).map (SY u k)).map iA=xs at *;exact ly
def JL (z u:List Int) (p q:Nat):Bool:=QA (u.getD p dd)&&(QA (u.getD q dd)&&kK z p q)
def Al (z u:List Int):Bool:=(pi (ln u)).any λp=>(pi (ln u)).any λq=>JL z u p q
theorem Ix {z u:List Int} (h:Al z u=false) (p q:Nat) (A:p<ln u) (B:q<ln u):JL z u p q=false:=by grind [Al,JL]
theorem zm {A z:List Int} (h:Al A z=true):∃p q:Nat,p<ln z/\q<ln z/\JL A z p q=true/\(∀u,u<p->∀v,v<ln z->JL A z u v=false)/\(∀v,v<q->JL A z p v=false):=by
 unfold Al at h;rw[zCi]at h;obtain⟨a,L,h⟩:=h;rw[zCi]at h;obtain⟨b,hb,h⟩:=h;obtain⟨p,C,⟨v,hv,B⟩,E⟩:=NW (P:=λp=>∃v,v<ln z/\JL A z p v=true) a ⟨b,zBi.1 hb,h⟩;obtain⟨q,I,M,G⟩:=NW (P:=λq=>JL A z p q=true) v B
 grind
theorem Z0 (M z:List Int) (S:ln M<=40) (hn:ln z<=1000):zN 231 [zE iA M,zE iA z] [] (bA (Al M z)) []:=by
 have hl:=zA iA z
 cases hf:Al M z with
 | false=>
  have ac:=Ix hf;clear hf;refine eM call231 λF hF=>?_
  (repeat' (first|refine WS ?_|refine SG (I2 (λhc=>?_) λhc=>?_)|refine SG λhc=>?_|(apply zG;first|refine SM ?_)|(first|first|refine SR ?_|refine SK (I2 (λhc=>?_) λhc=>?_)|refine SK λhc=>?_|fail|apply bU|apply bV)|fail))
  refine zO (ln z) [] [] [0,1,10,11] [5,12,0,1,10,11] Z (λi T U=>⟨(5,bA false)::(12,iA i)::T,U⟩) (Lq ?_ ?_)
  .intro u hu;have hy:=zJ iA z u hu;have G:=ZM (z.getD u dd);have C:=ac u;unfold JL at C;clear ac
   cases hb:QA (z.getD u dd)with
   |false=>
    rw[hb]at G;generalize z.getD u dd=a at *;clear C;refine zS G ?_;rfl
   | true=>
    rw[hb]at G;generalize z.getD u dd=a at *;refine zS G ?_;refine zO (ln z) [] [] [0,1,6,10,11,12,20,21] [5,22,0,1,6,10,11,12,20,21] Z (λi T U=>⟨(5,bA false)::(22,iA i)::T,U⟩) (Lq ?_ ?_)
    .intro v hv;have ar:=zJ iA z v hv;have E:=ZM (z.getD v dd);have L:=gT M S u v;have h:=C v hu hv;rw[hb,zA3]at h;generalize z.getD v dd=b at *;clear C G
     cases A:QA b with
     |false=>
      rw[A]at E;refine zS E ?_;rfl
     |true=>
      rw[A,zA3]at h;rw[A]at E;rw[h]at L;refine yG (xV E L) ?_;rfl
    ·(refine WW ?_)
     rfl
  ·(repeat' (first|refine WS ?_|refine SG (I2 (λhc=>?_) λhc=>?_)|refine SG λhc=>?_|(apply zG;first|refine SM ?_)|(first|first|refine SR ?_|refine SK (I2 (λhc=>?_) λhc=>?_)|refine SK λhc=>?_|fail|apply bU|apply bV)|fail))
   exact zI
 | true=>
  obtain⟨p,q,hp,hq,B,V,Y⟩:=zm hf;clear hf;have W:QA (z.getD p dd)=true:=by unfold JL at B;rw[zA2]at B;exact B.1
  have R:QA (z.getD q dd)=true:=by unfold JL at B;rw[zA2,zA2]at B;exact B.2.1
  have O:kK M p q=true:=by unfold JL at B;rw[zA2,zA2]at B;exact B.2.2
  clear B;refine eM call231 λF hF=>?_
  (repeat' (first|refine WS ?_|refine SG (I2 (λhc=>?_) λhc=>?_)|refine SG λhc=>?_|(apply zG;first|refine SM ?_)|(first|first|refine SR ?_|refine SK (I2 (λhc=>?_) λhc=>?_)|refine SK λhc=>?_|fail|apply bU|apply bV)|fail))
  refine yU (ln z) [] [] [0,1,10,11] [5,12,0,1,10,11] Z (λi T U zs=>(i<=p)/\zs=⟨(5,bA false)::(12,iA i)::T,U⟩) (Lp ?_ ?_ ?_)
  .exact⟨zA9 _,rfl⟩
  .rintro u st hu ⟨hup,rfl⟩;have hy:=zJ iA z u hu;have G:=ZM (z.getD u dd);by_cases ag:u=p
   .subst ag;rw[W]at G
    have I:∀v,v<q->(QA (z.getD v dd)&&kK M u v)=false:=λv hv=>by
     have h:=Y v hv;unfold JL at h;rw[W,zA3]at h;exact h
    clear V Y;generalize z.getD u dd=a at *;refine zS G ?_;refine yU (ln z) [] [] [0,1,6,10,11,12,20,21] [5,22,0,1,6,10,11,12,20,21] Z (λi T U zs=>(i<=q)/\zs=⟨(5,bA false)::(22,iA i)::T,U⟩) (Lp ?_ ?_ ?_)
    .exact⟨zA9 _,rfl⟩
    .rintro v st hv ⟨hvq,rfl⟩;have ar:=zJ iA z v hv;have E:=ZM (z.getD v dd);have L:=gT M S u v;by_cases ap:v=q
     .subst ap;rw[R]at E;rw[O]at L;clear R O I G;generalize z.getD v dd=b at*
      (have ga:=E;have ge:=L;(repeat' (first|refine WS ?_|refine SG (I2 (λhc=>?_) λhc=>?_)|refine SG λhc=>?_|(apply zG;first|refine SM ?_)|(first|first|refine SR ?_|refine SK (I2 (λhc=>?_) λhc=>?_)|refine SK λhc=>?_|fail|apply bU|apply bV)|fail))<;>clear ga ge)
      exact zI
     .have h:=I v zB;clear R O I G;generalize z.getD v dd=b at*
      cases A:QA b with
      |false=>
       rw[A]at E;refine zS E ?_;exact⟨zB,rfl⟩
      |true=>
       rw[A,zA3]at h;rw[A]at E;rw[h]at L;refine yG (xV E L) ?_;exact⟨zB,rfl⟩
    .rintro st ⟨hvq,rfl⟩;exfalso;omega
   .have C:=V u zB;unfold JL at C;clear W R O V Y
    cases hb:QA (z.getD u dd)with
    |false=>
     rw[hb]at G;generalize z.getD u dd=a at *;clear C;refine zS G ?_;exact⟨zB,rfl⟩
    | true=>
     rw[hb]at G;generalize z.getD u dd=a at *;refine zS G ?_;refine zO (ln z) [] [] [0,1,6,10,11,12,20,21] [5,22,0,1,6,10,11,12,20,21] Z (λi T U=>⟨(5,bA false)::(22,iA i)::T,U⟩) (Lq ?_ ?_)
     .intro v hv;have ar:=zJ iA z v hv;have E:=ZM (z.getD v dd);have L:=gT M S u v;have h:=C v hv;rw[hb,zA3]at h;generalize z.getD v dd=b at *;clear C G
      cases A:QA b with
      |false=>
       rw[A]at E;refine zS E ?_;rfl
      |true=>
       rw[A,zA3]at h;rw[A]at E;rw[h]at L;refine yG (xV E L) ?_;rfl
     ·(refine WW ?_)
      exact⟨zB,rfl⟩
  .rintro st ⟨hup,rfl⟩;exfalso;omega
theorem Et (M z:List Int) (S:ln M<=40) (hn:ln z<=1000):zN 198 [zE iA M,zE iA z] [] (bA (Al M z)) []:=by
 have hl:=zA iA z
 cases hf:Al M z with
 | false=>
  have ac:=Ix hf;clear hf;refine eM call198 λF hF=>?_
  refine WW ?_;refine zO (ln z) [] [] [0,1,9,10] [11,0,1,9,10] Z (λi T U=>⟨(11,iA i)::T,U⟩) (Lq ?_ ?_)
  .intro u hu;have hy:=zJ iA z u hu;have E:=ZN (z.getD u dd);have G:=ac u;unfold JL at G;clear ac;refine WW ?_;refine zO (ln z) [] [] [0,1,5,6,9,10,11,16,17] [18,0,1,5,6,9,10,11,16,17] Z (λi T U=>⟨(18,iA i)::T,U⟩) (Lq ?_ ?_)
   .intro v hv;have ar:=zJ iA z v hv;have C:=ZN (z.getD v dd);have L:=jB M S u v;have h:=G v hu hv;clear G;generalize z.getD v dd=b at *;generalize z.getD u dd=a at*
    cases hb:QA a with
    |false=>
     rw[hb]at E;refine zS E ?_;rfl
    | true=>
     rw[hb]at E;rw[hb,zA3]at h
     cases A:QA b with
     |false=>
      rw[A]at C;refine yG (xV E C) ?_;rfl
     |true=>
      rw[A,zA3]at h;rw[A]at C;rw[h]at L;refine yG (qM E C L) ?_;rfl
   ·(refine WW ?_)
    rfl
  .exact ly
 | true=>
  obtain⟨p,q,hp,hq,B,V,Y⟩:=zm hf;clear hf;have W:QA (z.getD p dd)=true:=by unfold JL at B;rw[zA2]at B;exact B.1
  have R:QA (z.getD q dd)=true:=by unfold JL at B;rw[zA2,zA2]at B;exact B.2.1
  have O:kK M p q=true:=by unfold JL at B;rw[zA2,zA2]at B;exact B.2.2
  clear B;refine eM call198 λF hF=>?_
  refine WW ?_;refine yU (ln z) [] [] [0,1,9,10] [11,0,1,9,10] Z (λi T U zs=>(i<=p)/\zs=⟨(11,iA i)::T,U⟩) (Lp ?_ ?_ ?_)
  .exact⟨zA9 _,rfl⟩
  .rintro u st hu ⟨hup,rfl⟩;have hy:=zJ iA z u hu;have E:=ZN (z.getD u dd);by_cases ag:u=p
   .subst ag;rw[W]at E
    have I:∀v,v<q->(QA (z.getD v dd)&&kK M u v)=false:=λv hv=>by
     have h:=Y v hv;unfold JL at h;rw[W,zA3]at h;exact h
    clear V Y;generalize z.getD u dd=a at *;refine WW ?_;refine yU (ln z) [] [] [0,1,5,6,9,10,11,16,17] [18,0,1,5,6,9,10,11,16,17] Z (λi T U zs=>(i<=q)/\zs=⟨(18,iA i)::T,U⟩) (Lp ?_ ?_ ?_)
    .exact⟨zA9 _,rfl⟩
    .rintro v st hv ⟨hvq,rfl⟩;have ar:=zJ iA z v hv;have C:=ZN (z.getD v dd);have L:=jB M S u v;by_cases ap:v=q
     .subst ap;rw[R]at C;rw[O]at L;clear R O I;generalize z.getD v dd=b at *;exact mx (qM E C L)
     .have h:=I v zB;clear R O I;generalize z.getD v dd=b at*
      cases A:QA b with
      |false=>
       rw[A]at C;refine yG (xV E C) ?_;exact⟨zB,rfl⟩
      |true=>
       rw[A,zA3]at h;rw[A]at C;rw[h]at L;refine yG (qM E C L) ?_;exact⟨zB,rfl⟩
    .rintro st ⟨hvq,rfl⟩;exfalso;omega
   .have G:=V u zB;unfold JL at G;clear W R O V Y;refine WW ?_;refine zO (ln z) [] [] [0,1,5,6,9,10,11,16,17] [18,0,1,5,6,9,10,11,16,17] Z (λi T U=>⟨(18,iA i)::T,U⟩) (Lq ?_ ?_)
    .intro v hv;have ar:=zJ iA z v hv;have C:=ZN (z.getD v dd);have L:=jB M S u v;have h:=G v hv;clear G;generalize z.getD v dd=b at *;generalize z.getD u dd=a at*
     cases hb:QA a with
     |false=>
      rw[hb]at E;refine zS E ?_;rfl
     | true=>
      rw[hb]at E;rw[hb,zA3]at h
      cases A:QA b with
      |false=>
       rw[A]at C;refine yG (xV E C) ?_;rfl
      |true=>
       rw[A,zA3]at h;rw[A]at C;rw[h]at L;refine yG (qM E C L) ?_;rfl
    ·(refine WW ?_)
     exact⟨zB,rfl⟩
  .rintro st ⟨hup,rfl⟩;exfalso;omega
def C5 (j:Jn) (c u:Ct):Prop:=∀q:Nat,q<ln j.ph->xS u q=xS c q\/((xS c q).lamp=0/\xS u q=⟨1,0⟩)
theorem C5.refl (j:Jn) (c:Ct):C5 j c c:=λq _=> .inl Z
theorem C5.trans {a b c:Ct} (h:C5 j a b) (g:C5 j b c):C5 j a c:=λq u=>by
 rcases h q u with h|⟨h1,h2⟩<;>rcases g q u with g|⟨g1,g2⟩
 .exact .inl (g.trans h)
 .exact .inr ⟨by rw[<-h];exact g1,g2⟩
 .exact .inr ⟨h1,g.trans h2⟩
 .rw[h2]at g1;exact absurd g1 yY
def Y0 {c:Ct} {r:Int} (h:VG j c r=true) (u:p<ln j.ph) (z:(yF j p).ring=r):(xS c p).lamp=0:=by grind [VG,yF,xS,List.all_eq_true,cR]
def Ee (p:Ph) (h:Fx p):zN 147 [xN p] [] (iA (Be p)) []:=by
 obtain⟨h1,h2,u,z⟩:=h;refine eM call147 λF hF=>?_
 exact ly
def Bt (p:Ph) (h:Fx p) (E:p.yel<=60) (C:0<=p.red/\p.red<=60) (l:Li) (hv:Ba p l=true) (lv:Bool):zN 250 [xN p,xE l,bA lv] [] (xE (BK p l lv)) []:=by
 have c:=Ee p h;have G:=jm hv E C.2;unfold Ba at hv;unfold BK;by_cases B:l.lamp=0
 .rw[f5 B,zAx]at hv;rw[Os zB,Os zB,Os zB];have u:xE l= .agg [iA 0,iA 0]:=by unfold xE;rw[B,hv]
  rw[u]
  cases lv<;>((refine eM call250 λF hF=>?_);exact ly)
 rw[Os B]at hv;by_cases h1:l.lamp=1
 .rw[f5 h1];generalize Be p=n at*
  cases lv with
  |false=>
   rw[Os (λh=>by cases h.1)];have u:xE ⟨1,min (l.tk+1) 1073741824⟩= .agg [iA l.lamp,iA (min (l.tk+1) 1073741824)]:=by rw[h1];rfl
   rw[u];refine eM call250 λF hF=>?_
   exact ly
  |true=>
  by_cases h2:n<=l.tk+1
  .rw[f5 ⟨rfl,h2⟩];refine eM call250 λF hF=>?_
   exact ng c
  .rw[Os (λh=>h2 h.2)];have u:xE ⟨1,min (l.tk+1) 1073741824⟩= .agg [iA l.lamp,iA (min (l.tk+1) 1073741824)]:=by rw[h1];rfl
   rw[u];refine eM call250 λF hF=>?_
   exact ng c
 rw[Os h1]at hv⊢;by_cases h2:l.lamp=2
 .rw[f5 h2,zAx]at hv;rw[f5 h2];by_cases z:l.tk+1<p.yel
  .rw[f5 z];have u:xE ⟨2,l.tk+1⟩= .agg [iA l.lamp,iA (min (l.tk+1) 1073741824)]:=by rw[h2,show min (l.tk+1) 1073741824=l.tk+1 by omega];rfl
   rw[u];refine eM call250 λF hF=>?_
   exact ly
  rw[Os z];by_cases A:p.red=0
  .rw[f5 A];refine eM call250 λF hF=>?_
   exact ly
  .rw[Os A];refine eM call250 λF hF=>?_
   exact ly
 rw[Os h2]at hv⊢;by_cases z:l.lamp=3
 .rw[f5 z,zAx]at hv;rw[f5 z];by_cases A:l.tk+1<p.red
  .rw[f5 A];have u:xE ⟨3,l.tk+1⟩= .agg [iA l.lamp,iA (min (l.tk+1) 1073741824)]:=by rw[z,show min (l.tk+1) 1073741824=l.tk+1 by omega];rfl
   rw[u];refine eM call250 λF hF=>?_
   exact ly
  .rw[Os A];refine eM call250 λF hF=>?_
   exact ly
 .rw[Os z]at hv;cases hv
def W0 (c:Ct) (C:ln c.li<=25):zN 254 [JM c] [] (iA (LN c)) []:=by
 have hl:=zA xE c.li;unfold LN;refine eM call254 λF hF=>?_
 refine WW ?_;refine zO (ln c.li) [] [] [7,8] [3,9,7,8] Z (λi T U=>⟨(3,iA (hH (RA c) i))::(9,iA i)::T,U⟩) (Lq ?_ ?_)
 .intro i hi;have B:=zJ xE c.li i hi
  change (c.li.map xE)[i]? =some (xE (xS c i))at B
  have z:=VO (RA c) i zB;have A:=AQ i zB
  have e:hH (RA c) (i+1)=if RA c i=true then hH (RA c) i+p2 i else hH (RA c) i:=rfl
  have u:RA c i=((xS c i).lamp != 0):=rfl;rw[e,u];generalize hH (RA c) i=b,xS c i=t at *;by_cases h:t.lamp=0
  .rw[Os (by simp[h])];refine WW ?_;rfl
  .rw[f5 (by simp[h])];refine WW ?_;rfl
 .exact ly
def Th (j:Jn) (z:ln j.ph<=1000) (u:∀p:Nat,p<ln j.ph->0<=(yF j p).group/\(yF j p).group<=3):zN 255 [wJ j] [] (iA (gM j)) []:=by
 have hl:=zA xN j.ph;unfold gM;refine eM call255 λF hF=>?_
 refine WW ?_;refine zO (ln j.ph) [] [] [7,8] [3,9,7,8] Z (λi T U=>⟨(3,iA (Aa j.ph i))::(9,iA i)::T,U⟩) (Lq ?_ ?_)
 .intro i hi;have A:=zJ xN j.ph i hi;have hb:=u i hi;unfold yF at hb;have e:Aa j.ph (i+1)=max (Aa j.ph i) ((j.ph.getD i dd).group+1):=rfl;rw[e];generalize Aa j.ph i=g,j.ph.getD i dd=t at *;refine WW ?_;rfl
 .exact ly
def E6 (j:Jn) (C:ln j.ph<=1000) (r g:Int):zN 300 [wJ j,iA r,iA g] [] (zE nA (VH j r g (ln j.ph))) []:=by
 have hl:=zA xN j.ph;refine eM call300 λF hF=>?_
 refine WW ?_;refine zQ 7 1001 1 Z Z Z ?_;refine zO (ln j.ph) [1001] [] [1,2,11,12] [7,13,1,2,11,12] Z (λi T U=>⟨(7,.ref 1001 0 ((VH j r g i).map nA).length)::(13,iA i)::T,(1001,.arr 1 ((VH j r g i).map nA) true)::U⟩) (Lq ?_ ?_)
 .intro i hi;have B:=zJ xN j.ph i hi
  change (j.ph.map xN)[i]? =some (xN (yF j i))at B
  have z:=BS j r g i
  have u:(VH j r g i).length<=1000:=by
   have:(VH j r g i).length<=(pi i).length:=zCh _ _;rw[zB9]at this;omega
  have A:((VH j r g i).map nA).length<=1000:=by rw[zAr];exact u
  rw[z];generalize VH j r g i=o,yF j i=t at *;by_cases h1:t.ring=r
  .by_cases h2:t.group=g
   .rw[f5 ⟨h1,h2⟩,zAy];generalize o.map nA=xs at *;refine WW ?_;rfl
   .rw[Os (λh=>h2 h.2)];refine WW ?_;rfl
  .rw[Os (λh=>h1 h.1)];refine WW ?_;rfl
 ·(refine WW ?_)
  exact zH [] Z Z (yf _ _) Z
theorem V0 (j:Jn) (r g f:Int):jH j r g f=match (VH j r g (ln j.ph)).find? (λp:Nat=>decide (f<=(p:Int)))with
 |some p=>(p:Int)
 |none=> -1:=by grind [jH,VH,QS,LM,yF]
def aJ (j:Jn) (R:ln j.ph<=1000) (r g p:Int):zN 260 [wJ j,iA r,iA g,iA p] [] (iA (jH j r g (p+1))) []:=by
 have z:=E6 j R r g;rw[V0]
 have G:(VH j r g (ln j.ph)).length<=1000:=by
  have:(VH j r g (ln j.ph)).length<=(pi (ln j.ph)).length:=zCh _ _;rw[zB9]at this;omega
 generalize VH j r g (ln j.ph)=o at *;have hl:=zA nA o
 cases A:o.find? (λq:Nat=>decide (p+1<=(q:Int)))with
 | some q=>
  dsimp only;rw[List.find?_eq_some_iff_getElem]at A;obtain⟨S,I,O,M,hb⟩:=A;rw[zAx]at S;refine eM call260 λF hF=>?_
  refine zS z ?_;refine yU (ln o) [] [] [3,14,15] [16,3,14,15] Z (λi T U V=>(i<=I)/\V=⟨(16,iA i)::T,U⟩) (Lp ?_ ?_ ?_)
  .exact⟨zA9 _,rfl⟩
  .rintro u st B ⟨hui,rfl⟩;have C:=zJ nA o u B;by_cases e:u=I
   .subst e;have E:o.getD u dd=q:=by rw[<-M];simp[py,B]
    rw[E]at C;unfold nA at C;clear hb z;exact ly
   .have h2:=hb u zB;have E:o.getD u dd=o[u]:=by simp[py,B]
    rw[<-E]at h2;have L:¬p+1<=((o.getD u dd:Nat):Int):=by simpa using h2
    generalize o.getD u dd=v at *;unfold nA at C;clear hb z h2;refine WW ?_;exact⟨zB,rfl⟩
  .rintro st ⟨hui,rfl⟩;exfalso;omega
 | none=>
  dsimp only;rw[List.find?_eq_none]at A;refine eM call260 λF hF=>?_
  refine zS z ?_;refine zO (ln o) [] [] [3,14,15] [16,3,14,15] Z (λi T U=>⟨(16,iA i)::T,U⟩) (Lq ?_ ?_)
  .intro u B;have C:=zJ nA o u B;have h2:=A (o.getD u dd) (by simp[py,B]);have L:¬p+1<=((o.getD u dd:Nat):Int):=by simpa using h2
   generalize o.getD u dd=v at *;unfold nA at C;clear A z h2;refine WW ?_;rfl
  .clear A z;exact ly
def Nr (u z:Int):Nat->List AV
 |0=>[]
 |1=>[iA u]
 |_+2=>[iA u,iA z]
def NR (j:Jn) (G:ln j.ph<=1000) (g R M:Int) (L N:List AV) (I S:Nat):zN 214 [wJ j,.ptr 3000 0 0,iA g] [(3000,.box [.ref 1001 0 I,iA R,.ref 1002 0 S,iA M]),(1001,.arr 2 L false),(1002,.arr 1 N false)] (.tup [])
  [(3000,.box [.ref 1001 0 I,iA g,.ref 2001 0 2,iA M]),(1001,.arr 2 L false),(1002,.arr 1 N false),(2001,.arr 1 [iA (jH j 0 g 0),iA (jH j 1 g 0)] false)]:=by
 have C:=aJ j G 0 g (-1);have E:=aJ j G 1 g (-1);rw[show(-1:Int)+1=0 by omega]at C E;generalize jH j 0 g 0=u,jH j 1 g 0=z at *;obtain⟨B,A⟩:∃n:Nat,n=2:=⟨2,rfl⟩;refine eM call214 λF hF=>?_
 refine WW ?_;refine zQ 6 2001 1 Z Z Z ?_;refine zO (B) [2001,3,3000,1001,1002] [3,3000,1001,1002] [1,2,3] [6,8,1,2,3] Z (λi T U=>⟨(6,.ref 2001 0 (Nr u z i).length)::(8,iA i)::T,(2001,.arr 1 (Nr u z i) (i != 1))::U⟩) (Lq ?_ ?_)
 .intro i hi;have:i=0\/i=1:=by omega
  rcases this with rfl|rfl
  .have hl:(Nr u z 0).length=0:=rfl;refine zS C ?_;rfl
  .have hl:(Nr u z 1).length=1:=rfl;refine zS E ?_;rfl
 .have O:Nr u z B=[iA u,iA z]:=by rw[A];rfl
  have e3:(B != 1)=true:=by rw[A];rfl
  rw[O,e3]
  (repeat' (first|refine Yf ?_|apply yW|apply xI|intro hc|(apply zG;first|refine SM ?_)|fail))
  refine yD Z (xQ ?_);refine kF 2001 [6] Z Z Z Z Z ?_;refine WW ?_;exact uW [3000,1001,1002,2001] Z Z Z Z
theorem bQ (j:Jn) (J:JV j) (hn:ln j.ph<=1000) (G:ln j.cf<=40) (c:Ct) (hc:ln c.li=ln j.ph) (hm:ln c.nx=2) (p:Nat) (S:p<ln j.ph) (hr:0<=(yF j p).ring/\(yF j p).ring<=1) (E:dQ j c p=true\/c.gr=(yF j p).group):
  zN 253 [wJ j,.ptr 3000 0 0,iA (p:Int)] (qW c 1002) (.tup []) (qW (uC j c p) 1002):=by
 have ar:=zA xN j.ph;have ag:=zA xE c.li;have ap:=zA iA c.nx;have I:=zJ xN j.ph p S
 change (j.ph.map xN)[p]? =some (xN (yF j p))at I
 have L:=aJ j hn (yF j p).ring (yF j p).group p;unfold uC;by_cases hk:dQ j c p=true
 case pos=>
  rw[f5 hk];unfold dQ at hk;rw[zCi]at hk;obtain⟨M,V,hk⟩:=hk;rw[zBi]at V;unfold qW;refine eM call253 λF hF=>?_
  refine WW ?_;refine yU (ln c.li) [3,3000,1001,1002] [3,3000,1001,1002] [1,2,3,12,13] [14,1,2,3,12,13] Z (λi T U zs=>(i<=M)/\zs=⟨(14,iA i)::T,U⟩) (Lp ?_ ?_ ?_)
  .exact⟨zA9 _,rfl⟩
  .rintro i st hi ⟨hiq,rfl⟩;have Y:=zJ xE c.li i hi
   change (c.li.map xE)[i]? =some (xE (xS c i))at Y
   have u:=jB j.cf G i p;rw[J.sy i p zB S]at u;by_cases hb:((xS c i).lamp != 0&&kK j.cf p i)=true
   .rw[zA2]at hb;have h1:(xS c i).lamp≠0:=by simpa using hb.1
    rw[hb.2]at u;generalize xS c i=t at *;clear hb L hk;refine zS u ?_;exact zP [3000,1001,1002] Z Z Z Z
   .have au:i<M:=by
     rcases zF5 i M with h|h
     .exact h
     .rw[show i=M by omega]at hb;exact absurd hk hb
    rw[zA2]at hb;by_cases h1:(xS c i).lamp=0
    .generalize xS c i=t at *;clear hb hk;refine WW ?_;exact⟨zB,rfl⟩
    .have A:kK j.cf p i=false:=by
      cases A:kK j.cf p i with
      |false=>rfl
      |true=>exact absurd ⟨by simpa using h1,A⟩ hb
     rw[A]at u;generalize xS c i=t at *;clear hb hk;refine zS u ?_;exact⟨zB,rfl⟩
  .rintro st ⟨hiq,rfl⟩;exfalso;omega
 have z:dQ j c p=false:=by simpa using hk
 have R:c.gr=(yF j p).group:=by
  rcases E with E|E
  .exact absurd E hk
  .exact E
 rw[Os hk];have eb:NV j c p=BN c p:=by unfold NV;rw[f5 R]
 rw[eb];unfold dQ at z;rw[zDa]at z;have O:∀q,q<ln c.li->((xS c q).lamp != 0&&kK j.cf p q)=false:=λq A=>by simpa using z q (zBi.2 A)
 unfold BN qW;dsimp only;rw[zCe,zCe,zB5,zB5];clear z hk eb E;generalize jH j (yF j p).ring (yF j p).group (p+1)=fo at *;obtain⟨rn,B⟩:∃n:Nat,(yF j p).ring=n:=⟨(yF j p).ring.toNat,zB⟩;have C:=zJ xE c.li p zB;have ac:=zJ iA c.nx rn zB;generalize W:xS c p=l0 at*
 change (c.li.map xE)[p]? =some (xE (xS c p))at C
 rw[W]at C;generalize c.nx.getD rn dd=n0 at *;refine eM call253 λF hF=>?_
 refine WW ?_;refine zO (ln c.li) [3,3000,1001,1002] [3,3000,1001,1002] [1,2,3,12,13] [14,1,2,3,12,13] Z (λi T U=>⟨(14,iA i)::T,U⟩) (Lq ?_ ?_)
 .intro i hi;have Y:=zJ xE c.li i hi
  change (c.li.map xE)[i]? =some (xE (xS c i))at Y
  have u:=jB j.cf G i p;rw[J.sy i p zB S]at u;have hb:=O i hi;clear O C ac L;by_cases h1:(xS c i).lamp=0
  .generalize xS c i=t at *;clear hb;refine WW ?_;rfl
  .have A:kK j.cf p i=false:=by
    cases A:kK j.cf p i with
    |false=>rfl
    |true=>
     rw[A,zDd]at hb;exact absurd JC h1
   rw[A]at u;generalize xS c i=t at *;clear hb;refine zS u ?_;rfl
 .clear O;generalize yF j p=t at *;rw[B,zBf];have et:xN t= .agg [iA rn,iA t.group,iA t.ming,iA t.maxg,iA t.yel,iA t.red,iA t.walk,iA t.clear]:=by rw[<-B];rfl
  rw[et]at I;rw[B]at L;refine zS L ?_;exact uW [3000,1001,1002] Z Z Z Z
theorem ZO (j:Jn) (J:JV j) (hn:ln j.ph<=1000) (G:ln j.cf<=40) (c:Ct) (hc:ln c.li=ln j.ph) (hm:ln c.nx=2) (p:Nat) (S:p<ln j.ph) (hr:0<=(yF j p).ring/\(yF j p).ring<=1) (E:dQ j c p=true\/c.gr=(yF j p).group):
  zN 253 [wJ j,.ptr 3000 0 0,iA (p:Int)] (qW c 2001) (.tup []) (qW (uC j c p) 2001):=by
 have ar:=zA xN j.ph;have ag:=zA xE c.li;have ap:=zA iA c.nx;have I:=zJ xN j.ph p S
 change (j.ph.map xN)[p]? =some (xN (yF j p))at I
 have L:=aJ j hn (yF j p).ring (yF j p).group p;unfold uC;by_cases hk:dQ j c p=true
 case pos=>
  rw[f5 hk];unfold dQ at hk;rw[zCi]at hk;obtain⟨M,V,hk⟩:=hk;rw[zBi]at V;unfold qW;refine eM call253 λF hF=>?_
  refine WW ?_;refine yU (ln c.li) [3,3000,1001,2001] [3,3000,1001,2001] [1,2,3,12,13] [14,1,2,3,12,13] Z (λi T U zs=>(i<=M)/\zs=⟨(14,iA i)::T,U⟩) (Lp ?_ ?_ ?_)
  .exact⟨zA9 _,rfl⟩
  .rintro i st hi ⟨hiq,rfl⟩;have Y:=zJ xE c.li i hi
   change (c.li.map xE)[i]? =some (xE (xS c i))at Y
   have u:=jB j.cf G i p;rw[J.sy i p zB S]at u;by_cases hb:((xS c i).lamp != 0&&kK j.cf p i)=true
   .rw[zA2]at hb;have h1:(xS c i).lamp≠0:=by simpa using hb.1
    rw[hb.2]at u;generalize xS c i=t at *;clear hb L hk;refine zS u ?_;exact zP [3000,1001,2001] Z Z Z Z
   .have au:i<M:=by
     rcases zF5 i M with h|h
     .exact h
     .rw[show i=M by omega]at hb;exact absurd hk hb
    rw[zA2]at hb;by_cases h1:(xS c i).lamp=0
    .generalize xS c i=t at *;clear hb hk;refine WW ?_;exact⟨zB,rfl⟩
    .have A:kK j.cf p i=false:=by
      cases A:kK j.cf p i with
      |false=>rfl
      |true=>exact absurd ⟨by simpa using h1,A⟩ hb
     rw[A]at u;generalize xS c i=t at *;clear hb hk;refine zS u ?_;exact⟨zB,rfl⟩
  .rintro st ⟨hiq,rfl⟩;exfalso;omega
 have z:dQ j c p=false:=by simpa using hk
 have R:c.gr=(yF j p).group:=by
  rcases E with E|E
  .exact absurd E hk
  .exact E
 rw[Os hk];have eb:NV j c p=BN c p:=by unfold NV;rw[f5 R]
 rw[eb];unfold dQ at z;rw[zDa]at z;have O:∀q,q<ln c.li->((xS c q).lamp != 0&&kK j.cf p q)=false:=λq A=>by simpa using z q (zBi.2 A)
 unfold BN qW;dsimp only;rw[zCe,zCe,zB5,zB5];clear z hk eb E;generalize jH j (yF j p).ring (yF j p).group (p+1)=fo at *;obtain⟨rn,B⟩:∃n:Nat,(yF j p).ring=n:=⟨(yF j p).ring.toNat,zB⟩;have C:=zJ xE c.li p zB;have ac:=zJ iA c.nx rn zB;generalize W:xS c p=l0 at*
 change (c.li.map xE)[p]? =some (xE (xS c p))at C
 rw[W]at C;generalize c.nx.getD rn dd=n0 at *;refine eM call253 λF hF=>?_
 refine WW ?_;refine zO (ln c.li) [3,3000,1001,2001] [3,3000,1001,2001] [1,2,3,12,13] [14,1,2,3,12,13] Z (λi T U=>⟨(14,iA i)::T,U⟩) (Lq ?_ ?_)
 .intro i hi;have Y:=zJ xE c.li i hi
  change (c.li.map xE)[i]? =some (xE (xS c i))at Y
  have u:=jB j.cf G i p;rw[J.sy i p zB S]at u;have hb:=O i hi;clear O C ac L;by_cases h1:(xS c i).lamp=0
  .generalize xS c i=t at *;clear hb;refine WW ?_;rfl
  .have A:kK j.cf p i=false:=by
    cases A:kK j.cf p i with
    |false=>rfl
    |true=>
     rw[A,zDd]at hb;exact absurd JC h1
   rw[A]at u;generalize xS c i=t at *;clear hb;refine zS u ?_;rfl
 .clear O;generalize yF j p=t at *;rw[B,zBf];have et:xN t= .agg [iA rn,iA t.group,iA t.ming,iA t.maxg,iA t.yel,iA t.red,iA t.walk,iA t.clear]:=by rw[<-B];rfl
  rw[et]at I;rw[B]at L;refine zS L ?_;exact uW [3000,1001,2001] Z Z Z Z
theorem BF (j:Jn) (J:JV j) (Y:ln j.ph<=1000) (M:ln j.cf<=40) (c:Ct) (hc:ln c.li=ln j.ph) (hm:ln c.nx=2) (p:Nat) (hp:p<ln j.ph) (hr:0<=(yF j p).ring/\(yF j p).ring<=1) (u:dQ j c p=false) (R:c.gr≠(yF j p).group):
  zN 253 [wJ j,.ptr 3000 0 0,iA (p:Int)] (qW c 1002) (.tup []) (aK (uC j c p) c.nx):=by
 have ap:=zA xN j.ph;have ac:=zA xE c.li;have ag:=zA iA c.nx;have E:=zJ xN j.ph p hp
 change (j.ph.map xN)[p]? =some (xN (yF j p))at E
 have G:=aJ j Y (yF j p).ring (yF j p).group p;unfold uC;rw[Os (by rw[u];decide)];have W:NV j c p=QB j (BN c p) (yF j p).group:=by unfold NV;rw[Os R]
 rw[W];unfold dQ at u;rw[zDa]at u;have L:∀q,q<ln c.li->((xS c q).lamp != 0&&kK j.cf p q)=false:=λq C=>by simpa using u q (zBi.2 C)
 have V:=NR j Y (yF j p).group c.gr c.wt ((c.li.map xE).set p (xE ⟨1,0⟩)) (c.nx.map iA) (c.li.map xE).length (c.nx.map iA).length;unfold QB BN qW aK;dsimp only;rw[zCe,zCe,zB5,zB5];rw[show([jH j 0 (yF j p).group 0,jH j 1 (yF j p).group 0].map iA)=[iA (jH j 0 (yF j p).group 0),iA (jH j 1 (yF j p).group 0)]from Z];have O:(([iA (jH j 0 (yF j p).group 0),iA (jH j 1 (yF j p).group 0)]:List AV)).length=2:=rfl;rw[O]
 have A:∃v,([iA (jH j 0 (yF j p).group 0),iA (jH j 1 (yF j p).group 0)]:List AV)[(yF j p).ring.toNat]? =some (iA v):=by
  have:(yF j p).ring=0\/(yF j p).ring=1:=by omega
  rcases this with h|h<;>rw[h]
  all_goals exact⟨_,rfl⟩
 obtain⟨v0,A⟩:=A;generalize ([iA (jH j 0 (yF j p).group 0),iA (jH j 1 (yF j p).group 0)]:List AV)=fx at *;clear u W;generalize jH j (yF j p).ring (yF j p).group (p+1)=fo at *;obtain⟨rn,z⟩:∃n:Nat,(yF j p).ring=n:=⟨(yF j p).ring.toNat,zB⟩;have B:=zJ xE c.li p zB;rw[z,zBf]at A;generalize S:xS c p=l0 at*
 change (c.li.map xE)[p]? =some (xE (xS c p))at B
 rw[S]at B;refine eM call253 λF hF=>?_
 refine WW ?_;refine zO (ln c.li) [3,3000,1001,1002] [3,3000,1001,1002] [1,2,3,12,13] [14,1,2,3,12,13] Z (λi T U=>⟨(14,iA i)::T,U⟩) (Lq ?_ ?_)
 .intro i hi;have hy:=zJ xE c.li i hi
  change (c.li.map xE)[i]? =some (xE (xS c i))at hy
  have I:=jB j.cf M i p;rw[J.sy i p zB hp]at I;have hb:=L i hi;clear L B G V;by_cases h1:(xS c i).lamp=0
  .generalize xS c i=t at *;clear hb;refine WW ?_;rfl
  .have C:kK j.cf p i=false:=by
    cases C:kK j.cf p i with
    |false=>rfl
    |true=>
     rw[C,zDd]at hb;exact absurd JC h1
   rw[C]at I;generalize xS c i=t at *;clear hb;refine zS I ?_;rfl
 .clear L;generalize yF j p=t at *;rw[z,zBf];have et:xN t= .agg [iA rn,iA t.group,iA t.ming,iA t.maxg,iA t.yel,iA t.red,iA t.walk,iA t.clear]:=by rw[<-z];rfl
  rw[et]at E;rw[z]at G;refine yG (xV V G) ?_;exact uW [3000,1001,1002,2001] Z Z Z Z
def U0 (j:Jn) (Y:ln j.ph<=1000) (c:Ct) (hc:ln c.li=ln j.ph) (r:Int):zN 252 [wJ j,JM c,iA r] [] (bA (VG j c r)) []:=by
 have hl:=zA xN j.ph;have O:=zA xE c.li
 cases hd:VG j c r with
 | true=>
  have E:∀p,p<ln j.ph->(yF j p).ring=r->(xS c p).lamp=0:=λp R S=>Y0 hd R S
  clear hd;refine eM call252 λF hF=>?_
  refine WW ?_;refine zO (ln c.li) [3] [3] [2,3,10,11] [12,2,3,10,11] Z (λi T U=>⟨(12,iA i)::T,U⟩) (Lq ?_ ?_)
  .intro u G;have I:=zJ xN j.ph u zB
   change (j.ph.map xN)[u]? =some (xN (yF j u))at I
   have C:=zJ xE c.li u G
   change (c.li.map xE)[u]? =some (xE (xS c u))at C
   have E:=E u zB;generalize yF j u=p,xS c u=l at *;by_cases h1:p.ring=r
   .have h2:=E h1;clear E;refine WW ?_;rfl
   .clear E;refine WW ?_;rfl
  .clear E;exact ly
 | false=>
  unfold VG at hd;rw[zDy]at hd;obtain⟨V,B,hb⟩:=hd;rw[cR]at B;obtain⟨k,_,⟨hk,M,L⟩,z⟩:=NW (P:=λp=>p<ln j.ph/\(yF j p).ring=r/\(xS c p).lamp≠0) V ⟨B.1,B.2,by simpa using hb⟩;clear hb;refine eM call252 λF hF=>?_
  refine WW ?_;refine yU (ln c.li) [3] [3] [2,3,10,11] [12,2,3,10,11] Z (λi T U W=>(i<=k)/\W=⟨(12,iA i)::T,U⟩) (Lp ?_ ?_ ?_)
  .exact⟨zA9 _,rfl⟩
  .rintro u st G ⟨huk,rfl⟩;have I:=zJ xN j.ph u zB
   change (j.ph.map xN)[u]? =some (xN (yF j u))at I
   have C:=zJ xE c.li u G
   change (c.li.map xE)[u]? =some (xE (xS c u))at C
   by_cases e:u=k
   .subst e;generalize yF j u=p,xS c u=l at *;clear z;exact ly
   .have A:=z u zB;generalize yF j u=p at *;generalize xS c u=l at *;clear z;by_cases h1:p.ring=r
    .have h2:l.lamp=0:=zDc λh=>A ⟨zB,h1,h⟩
     clear A;refine WW ?_;exact⟨zB,rfl⟩
    .clear A;refine WW ?_;exact⟨zB,rfl⟩
  .rintro st ⟨huk,rfl⟩;exfalso;omega
def ym (j:Jn) (r t:Int) (i:Nat):Int:=match (LM j r i).find? (λp:Nat=>!kK j.cf p t)with
 |some p=>p
 |none=> -1
theorem xm (j:Jn) (r t:Int) (i:Nat):ym j r t (i+1)=if(yF j i).ring=r/\kK j.cf i t=false then(if ym j r t i<0 then(i:Int)else ym j r t i)else ym j r t i:=by grind [ym,yF,kK,UW,LM]
def zu {r:Int} {i:Nat} (h:p∈LM j r i):p<i:=by grind [LM]
theorem S0 (j:Jn) (hn:ln j.ph<=1000) (V:ln j.cf<=40) (c:Ct) (hm:ln c.nx=2) (r:Int) (hr:0<=r/\r<2) (t:Nat) (ht:t<ln j.ph) (hx:c.nx.getD r.toNat dd= -1\/0<=c.nx.getD r.toNat dd):zN 251 [wJ j,JM c,iA r,iA (t:Int)] [] (iA (aU j c r t)) []:=by
 have hl:=zA xN j.ph;have ag:=zA iA c.nx;have Y:=zJ xN j.ph t ht
 change (j.ph.map xN)[t]? =some (xN (yF j t))at Y
 have ap:=yE iA c.nx r hr.1 zB;unfold aU;generalize c.nx.getD r.toNat dd=B at *;by_cases O:r=(yF j t).ring
 .rw[f5 O];generalize yF j t=pt at *;refine eM call251 λF hF=>?_
  exact ly
 rw[Os O];have ac:¬(yF j t).ring=r:=λh=>O h.symm
 generalize yF j t=pt at *;refine eM call251 λF hF=>?_
 refine WW ?_;refine yU (ln j.ph) [4,5] [4,5] [2,3,4,5,22,23] [9,24,2,3,4,5,22,23] Z (λi T U zs=>(∀p∈LM j r i,(!kK j.cf p t&&decide (B≠ -1/\B<=(p:Int)))=false)/\zs=⟨(9,iA (ym j r t i))::(24,iA i)::T,U⟩) (Lp ?_ ?_ ?_)
 .exact⟨λp G=>absurd (zu G) (zCm _),rfl⟩
 .rintro i st hi ⟨hI,rfl⟩;have hy:=zJ xN j.ph i hi
  change (j.ph.map xN)[i]? =some (xN (yF j i))at hy
  have M:=jB j.cf V i t;have E:=xm j r t i;have I:=UW j r i
  have u:(yF j i).ring=r->(!kK j.cf i t&&decide (B≠ -1/\B<=(i:Int)))=false->∀p∈LM j r (i+1),(!kK j.cf p t&&decide (B≠ -1/\B<=(p:Int)))=false:=λh1 hb p G=>by
   rw[I,f5 h1,zBc,zBl]at G
   rcases G with G|rfl
   .exact hI p G
   .exact hb
  have C:(yF j i).ring≠r->∀p∈LM j r (i+1),(!kK j.cf p t&&decide (B≠ -1/\B<=(p:Int)))=false:=λh1 p G=>by
   rw[I,Os h1]at G;exact hI p G
  have z:(yF j i).ring=r->(!kK j.cf i t&&decide (B≠ -1/\B<=(i:Int)))=true->EH j B r t=i:=λh1 hb=>by
   obtain⟨l2,L⟩:=GI j r (ln j.ph) (i+1) zB;rw[I,f5 h1]at L
   have e:(QS j r).find? (λp:Nat=>!kK j.cf p t&&decide (B≠ -1/\B<=(p:Int)))=some i:=by
    unfold QS;rw[L,zBh,List.find?_append,PN hI,Option.none_or,zEr];exact List.find?_cons_of_pos hb
   unfold EH;rw[e]
  clear hI I;generalize kK j.cf i t=q,ym j r t (i+1)=s2,ym j r t i=s1 at *;by_cases h1:(yF j i).ring=r
  case neg=>
   have A:=C h1;rw[Os (λh=>h1 h.1)]at E;generalize yF j i=p at *;subst E;clear u C z;refine WW ?_;exact⟨A,rfl⟩
  have u:=u h1;have z:=z h1;clear C
  cases q with
  |true=>
   rw[Os (λh=>by cases h.2)]at E;have A:=u Z;generalize yF j i=p at *;subst E;clear u z;refine zS M ?_;exact⟨A,rfl⟩
  |false=>
  rw[f5 ⟨h1,rfl⟩]at E;by_cases h2:s1<0
  .rw[f5 h2]at E;subst E;by_cases R:B= -1
   .have A:=u (by rw[zAs (λh=>h.1 R)];rfl);generalize yF j i=p at *;clear u z;refine zS M ?_;exact⟨A,rfl⟩
   by_cases S:B<=(i:Int)
   .rw[z (by rw[zAu ⟨R,S⟩];rfl)];generalize yF j i=p at *;clear u z;exact ng M
   .have A:=u (by rw[zAs (λh=>S h.2)];rfl);generalize yF j i=p at *;clear u z;refine zS M ?_;exact⟨A,rfl⟩
  .rw[Os h2]at E;subst E;by_cases R:B= -1
   .have A:=u (by rw[zAs (λh=>h.1 R)];rfl);generalize yF j i=p at *;clear u z;refine zS M ?_;exact⟨A,rfl⟩
   by_cases S:B<=(i:Int)
   .rw[z (by rw[zAu ⟨R,S⟩];rfl)];generalize yF j i=p at *;clear u z;exact ng M
   .have A:=u (by rw[zAs (λh=>S h.2)];rfl);generalize yF j i=p at *;clear u z;refine zS M ?_;exact⟨A,rfl⟩
 .rintro st ⟨hI,rfl⟩
  have W:EH j B r t=ym j r t (ln j.ph):=by
   unfold EH ym;rw[show QS j r=LM j r (ln j.ph) from Z,PN hI];rfl
  rw[W];clear hI;generalize ym j r t (ln j.ph)=s1 at *;exact ly
def Sh (c:Ct) (h1:ln c.li<=1000) (h2:ln c.nx<=1000):zN 188 [JM c] [] (.agg [.ref 1001 0 (c.li.map xE).length,iA c.gr,.ref 1002 0 (c.nx.map iA).length,iA c.wt]) [(1001,.arr 2 (c.li.map xE) false),(1002,.arr 1 (c.nx.map iA) false)]:=by
 have hl:=zA xE c.li;have u:=zA iA c.nx;refine eM call188 λF hF=>?_
 (repeat' (first|refine uT ?_|apply yW|apply xI|intro hc|(apply zG;first|(apply yC;first|refine xG 1001 tok Z Z Z Z Z Z (yM _ _ (λ_=>rfl)) Z Z Z zB Z Z Z ?_|refine xG 1002 tok Z Z Z Z Z Z (yM _ _ (λ_=>rfl)) Z Z Z zB Z Z Z ?_))|fail))
 exact zP [1001,1002] Z Z Z Z
