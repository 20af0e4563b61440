/- Part 23. -/
import Derived.Test.YtaglbcjljlkjcaaGreatT22
namespace Go.Proofs.YtaglbcjljlkjcaaGreat.Av
open Tryz
set_option linter.all false
set_option maxRecDepth 4000
set_option maxHeartbeats 1000000
open List renaming length->ln,replicate->oj,range->pb,getD->pi
open Inhabited renaming default->dd
variable {j:Jn}{p:Nat}
def Bl (j:Jn) (G:ln j.ph<=1000) (g R E:Int) (L:List AV) (C:Nat):zM 208 [wK j,.ptr 3000 0 0,iA g] [(3000,.box [.ref 1001 0 C,iA R,.s (.slice none 0 0),iA E]),(1001,.arr 2 L false)] (.tup [])
  [(3000,.box [.ref 1001 0 C,iA g,.ref 2001 0 2,iA E]),(1001,.arr 2 L false),(2001,.arr 1 [iA (jI j 0 g 0),iA (jI j 1 g 0)] false)]:=by
 have I:=VG j G 0 g 0;have M:=VG j G 1 g 0;generalize jI j 0 g 0=u,jI j 1 g 0=z at *;obtain⟨B,A⟩:∃n:Nat,n=2:=⟨2,rfl⟩;refine eM call208 λF hF=>?_
 (repeat' (first|refine uQ ?_|apply yW|apply xG|intro hc|(apply zG;first|(apply fS;refine bG 2001 tok Z Z Z Z Z Z Z Z Z Z Z Z Z zB zB Z Z Z ?_))|fail))
 refine zO (B) [3000,2001,3,1001] [3,1001] [1,2,3] [20,19,1,2,3] Z (λi T U=>⟨(20,iA i)::(19,iA B)::T,(3000,.box [.ref 1001 0 C,iA g,.ref 2001 0 B,iA E])::(2001,.arr 1 (tj u z i) false)::U⟩) ?_;(conv=>whnf);refine⟨by(rw[A];rfl),?_,?_⟩
 .intro i hi;have:i=0\/i=1:=by omega
  rcases this with rfl|rfl
  .have S:(tj u z 0)[((0:Nat):Int).toNat]? =some (iA 0):=rfl;have hl:(tj u z 0).length=2:=rfl;refine zU I ?_;rfl
  .have S:(tj u z 1)[((1:Nat):Int).toNat]? =some (iA 0):=rfl;have hl:(tj u z 1).length=2:=rfl;refine zU M ?_;rfl
 .have O:tj u z B=[iA u,iA z]:=by rw[A];rfl
  rw[O];refine WW ?_;subst A;exact uZ [3000,1001,2001] Z Z Z Z
def Lh (j:Jn):Ct:=⟨oj (ln j.ph) ⟨0,0⟩,0,[jI j 0 0 0,jI j 1 0 0],j.st⟩
def Uc (j:Jn) (p:Nat):xT (Lh j) p=⟨0,0⟩:=by
 unfold xT Lh;simp only[zBk,zDo]
 split<;>rfl
theorem Al (J:JV j):CV j (Lh j):=by
 refine⟨by simp[Lh],λp u=>by rw[Uc];rfl,λp q u B z h1 h2=>by rw[Uc]at h1;exact absurd Z h1,⟨zDf _,?_⟩,rfl,λr A=>jy j (Lh j) 0 r A,⟨J.st.1,zDf _⟩,.inr λp u=>by rw[Uc]⟩;have:=PX J
 grind [Lh]
def zm {P:Program} {C:List Nat} {F:Fr C} {m:Nat} {A:Array Oper} {z:List Oper} {Q:List FP->St->Prop} {B:Bool} {fs:List FP} {ty T:Nat} {pos:String} {u:Array Edge} {st:St} (hk:yP P F m A B (⟨some 3,.alloc T,ty,pos,u,none⟩::z) st fs Q):yP P F m A B (⟨some 3,.alloc T,ty,pos,u,none⟩::z) st fs Q:=hk
def B0 (j:Jn) (C:ln j.ph<=1000):zM 152 [wK j] [] (LR (Lh j)) []:=by
 have z:=zA xN j.ph;have u:=Bl j C 0 0 j.st ((oj (ln j.ph) (⟨0,0⟩:Li)).map xE) ((oj (ln j.ph) (⟨0,0⟩:Li)).map xE).length;have A:(oj (ln j.ph) (⟨0,0⟩:Li)).map xE=oj (ln j.ph) (xE ⟨0,0⟩):=zEt;have eN:((oj (ln j.ph) (⟨0,0⟩:Li)).map xE).length=ln j.ph:=by simp
 rw[eN,A]at u;rw[<-z]at u;refine eM call152 λF hF=>?_
 repeat' (first|(apply zG;first|(apply zm;refine uX (nw:=[3000]) (fM tok 3000 Z Z) Z Z Z ?_)|refine uN tok Z Z ?_|(apply fS;refine bG 1001 tok Z Z Z Z Z Z Z Z Z Z Z Z Z zB zB Z Z Z ?_)|refine YV tok Z Z Z Z ?_|(apply xP;(first|(refine vH 208 ?_;first|refine wJ (zL (u) Z Z Z Z Z) Z ?_|refine uX (zL (u) Z Z Z Z Z) Z Z Z ?_|refine aK (zL (u) Z Z Z Z Z) Z Z Z ?_)))|(apply cA;refine cR tok Z Z Z ?_)|refine VA gS ?_|apply kP)|first|refine SQ ?_|fail)
 have B:AV.agg [.sl false ((oj (j.ph.map xN).length (xE ⟨0,0⟩)).take (j.ph.map xN).length),iA 0,.sl false [iA (jI j 0 0 0),iA (jI j 1 0 0)],iA j.st]=LR (Lh j):=by
  rw[zBf zW,z,<-A];rfl
 exact zI [] Z Z B Z
theorem Z7 (p:Nat->Bool) {n q:Nat} (u:n<=8) (z:q<n):Qc (gA p n) q=p q:=by
 have e:=GV (λi=>decide (i<n)&&p i) n 8 u (λi h1 h2=>by rw[zA6 zB];rfl)
 grind [Qc,gA,bX,Um]
theorem uf (z:List Ph) (u:Bool) (i:Nat):∀n,XQ z u i n=gA (Lr z u i) n
 |0=>rfl
 |n+1=>by
  unfold XQ gA;rw[uf z u i n];have:(2:Int) ^ n=p2 n:=by unfold p2;rw[zBu]
  rw[this]
theorem Et (u:List Ph) (z:Bool) {q:Nat} (A:ln u<=8) (C:p<ln u) (B:q<ln u):kK (fH u z (ln u)) p q=Lr u z p q:=by
 have hl:(fH u z (ln u)).length=ln u:=by simp[fH]
 unfold kK;rw[zA7 zB,zBg,zBu]
 have e:(fH u z (ln u)).getD p dd=XQ u z p (ln u):=by
  grind [kK,fH,Lr]
 rw[e,uf];exact Z7 _ A B
theorem ym (d:Dk) (l:List (Int×Int)):∀i k,k<i->∃e,(JX d l i).1.getD k dd=TA e (l.getD k dd)
 |0,k,h=>absurd h (zC0 _)
 |i+1,k,h=>by
  have hl:=TB d l i;unfold JX;by_cases hk:k=i
  .subst hk;refine⟨(JX d l k).2,?_⟩;simp[pi,hl]
  .obtain⟨e,u⟩:=ym d l i k zB;refine⟨e,?_⟩;rw[<-u];simp only[zBk];rw[zB8 zB]
def ShB (l:List (Int×Int)):Bool:=(l.all λs=>decide (0<=s.1/\s.1<=1/\0<=s.2/\s.2<=3))&&(l.all λs=>[0,1,2].all λg:Int=>decide (s.2<=g)||(l.any λu=>u.2==g))
def xm (n:Int):ShB (qR n)=true:=by
 unfold qR;split
 .decide
 split
 .decide
 split
 .decide
 split
 .decide
 split
 .decide
 .decide
theorem BI (d:Dk) (s:Int×Int):(TA d s).ring=s.1/\(TA d s).group=s.2/\1<=(TA d s).ming/\(TA d s).ming<=(TA d s).maxg/\(TA d s).maxg<=60/\1<=(TA d s).yel/\(TA d s).yel<=60/\0<=(TA d s).red/\(TA d s).red<=60/\0<=(TA d s).walk/\(TA d s).walk<=60/\0<=(TA d s).clear/\(TA d s).clear<=60/\(TA d s).walk+(TA d s).clear<=(TA d s).maxg/\((TA d s).walk=0↔(TA d s).clear=0):=by
 have u:=yQ d (3-1+1) zB;have z:=yQ (ad d) (2-1+1) zB;have A:=yQ (ad (ad d)) 3 zB;have B:=yQ (ad (ad (ad (ad d)))) (2-1+1) zB;have C:=yQ (ad (ad (ad (ad (ad d))))) (2-1+1) zB;have E:=yQ (ad (ad (ad (ad (ad (ad d)))))) 4 zB;have G:=yQ (ad (ad (ad (ad d)))) 4 zB;unfold TA
 grind [Dk,TA]
theorem A0 (d:Dk):JV (MG d):=by
 have ag:=MH (nx d 6);have z:=xm (nx d 6);have ap:=yQ (ad d) 3 zB;have B:(VZ d).1.length=(qR (nx d 6)).length:=TB _ _ _
 have G:∀k,k<(VZ d).1.length->∃e,yG (MG d) k=TA e ((qR (nx d 6)).getD k dd):=λk hk=>by
  rw[B]at hk;exact ym _ _ _ k hk
 have u:(MG d).ph=(VZ d).1:=rfl;generalize qR (nx d 6)=S at *;generalize M:(nx (VZ d).2 4==3)=E at *;have L:(MG d).cf=fH (VZ d).1 E (VZ d).1.length:=by unfold MG;rw[M]
 unfold ShB at z;simp only[zBe,zBi,zBb,zDh,zCw,zCm]at z
 have C:∀k,k<(VZ d).1.length->S.getD k dd∈S:=λk hk=>by
  grind
 have I:∀p q:Nat,p<(VZ d).1.length->q<(VZ d).1.length->kK (MG d).cf p q=Lr (VZ d).1 E p q:=λp q A R=>by
  grind [Dk,MG,Et]
 have U:(MG d).cf.length=(VZ d).1.length:=by rw[L];simp[fH]
 refine⟨?_,?_,?_,?_,?_,?_,?_,?_,?_,?_,?_⟩
 .rw[u];omega
 .grind
 .intro i hi;rw[u]at hi⊢
  have e:(MG d).cf.getD i dd=XQ (VZ d).1 E i (VZ d).1.length:=by
   grind [Dk,MG,fH,pi]
  rw[e];exact PY _ _ _ _
 .grind [Dk,MG,Lr]
 .grind [Dk,MG,Lr,VZ]
 .intro p q A R O h;rw[u]at A R;rw[I p q A R];unfold Lr;rw[show(p != q)=true by simpa using O,zBg]
  rcases h with h|h
  .rw[show(((VZ d).1.getD p dd).ring==((VZ d).1.getD q dd).ring)=true from zCm.2 h];rfl
  .rw[show(((VZ d).1.getD p dd).group != ((VZ d).1.getD q dd).group)=true from zC9.2 h];simp
 .grind [Dk,MG,BI]
 .grind [Dk,MG,BI]
 .grind [Dk,MG,BI]
 .intro p A g Y W;obtain⟨e,V⟩:=G p A;rw[V,(BI e _).2.1]at W;have h3:=z.1 _ (C p A)
  have ac:g∈([0,1,2]:List Int):=by
   grind
  grind [Dk,MG,List.getElem_of_mem,BI,pi]
 all_goals grind [Dk,MG]
def jA (u:List Int) (C:ln u<=40) (p q:Int):zM 74 [zE iA u,iA p,iA q] [] (bA (kK u p q)) []:=by
 have hl:=zA iA u;unfold kK;by_cases h1:0<=p
 case neg=>
  rw[zA6 (λh=>h1 h.1)];refine eM call74 λF hF=>?_
  exact ly
 by_cases z:p<ln u
 case neg=>
  rw[zA6 (λh=>z h.2.2.1)];refine eM call74 λF hF=>?_
  exact ly
 by_cases h2:0<=q
 case neg=>
  rw[zA6 (λh=>h2 h.2.1)];refine eM call74 λF hF=>?_
  exact ly
 by_cases A:q<ln u
 case neg=>
  rw[zA6 (λh=>A h.2.2.2)];refine eM call74 λF hF=>?_
  exact ly
 rw[zA7 ⟨h1,h2,z,A⟩,zBg];have E:=yF iA u p h1 z;generalize u.getD p.toNat dd=x at *;by_cases B:jJ (vV x q) 1=1
 .rw[show(jJ (vV x q) 1==1)=true by rw[zCm];exact B];refine eM call74 λF hF=>?_
  exact ly
 .rw[show(jJ (vV x q) 1==1)=false by rw[zB0];exact B];refine eM call74 λF hF=>?_
  exact ly
def QE (a:Int):Bool:=decide (a=1\/a=2)
def ZP (a:Int):zM 285 [iA a] [] (bA (QE a)) []:=by
 unfold QE
 (cases hb:decide (a=1\/a=2)with|false=>((refine eM call285 λF hF=>?_);((refine WW (I2 (λhc=>?_) λhc=>?_)));all_goals (first|exact zH|(simp only[QE,zBh]at hb;first|exact MJ|exact OA)))|true=>(simp only[QE,zBb]at hb;(refine eM call285 λF hF=>?_);((refine WW (I2 (λhc=>?_) λhc=>?_)));all_goals (first|exact zH|exact MJ|exact OA)))
def ZQ (a:Int):zM 256 [iA a] [] (bA (QE a)) []:=by
 unfold QE
 (cases hb:decide (a=1\/a=2)with|false=>((refine eM call256 λF hF=>?_);((repeat' (first|refine uQ ?_|apply yW|apply xG|intro hc|(apply zG;first|refine SM ?_)|fail)));all_goals (first|exact zH|(simp only[QE,zBh]at hb;first|exact MJ|exact OA)))|true=>(simp only[QE,zBb]at hb;(refine eM call256 λF hF=>?_);((repeat' (first|refine uQ ?_|apply yW|apply xG|intro hc|(apply zG;first|refine SM ?_)|fail)));all_goals (first|exact zH|exact MJ|exact OA)))
def RE (u:List Li) (k:Int) (p:Nat):Int:=if(p:Int)=k then 1 else(u.getD p dd).lamp
def bT (u:List Li) (k:Int):List Int:=(pb (ln u)).map (RE u k)
def BJ (u:List Li) (k:Int):(bT u k).length=ln u:=by simp[bT]
def wm (f:Nat->Int) (n i:Nat) (h:i<n) (x:Int) (u:x=f i):(((List.range i).map f++List.replicate (n-i) 0).map iA).set i (iA x)=((List.range (i+1)).map f++List.replicate (n-(i+1)) 0).map iA:=by
 subst u;rw[<-zCs,show n-i=(n-(i+1))+1 by omega,zFz,zE4 _ _ zW,zA5,zCp,zEb,zGa,zC6];simp
def BK (f:Nat->Int) (n i:Nat) (h:i<=n):(((List.range i).map f++List.replicate (n-i) 0).map iA).length=n:=by
 simp;omega
theorem Bt (f:Nat->Int) (n i:Nat) (h:i<n):(((List.range i).map f++List.replicate (n-i) 0).map iA)[i]? =some (iA 0):=by grind
def Z1 (u:List Li) (M:ln u<=1000) (k:Int):zM 230 [zE xE u,iA k] [] (zE iA (bT u k)) []:=by
 have hl:=zA xE u;have B:oj (ln u) (AV.s (.int .i64 0))=((pb 0).map (RE u k)++oj (ln u-0) 0).map iA:=by simp[iA]
 obtain⟨n,C⟩:∃n,ln u=n:=⟨_,rfl⟩;refine eM call230 λF hF=>?_
 refine WW ?_;refine zO (ln u) [10] [] [1,5,11,12] [13,1,5,11,12] Z (λi T U=>⟨(13,iA i)::T,(10,.arr 1 (((pb i).map (RE u k)++oj (ln u-i) 0).map iA) false)::U⟩) ?_;(conv=>whnf);refine⟨by(rw[<-B,<-hl];rfl),?_,?_⟩
 .intro i hi;have O:=zJ xE u i hi;have A:=BK (RE u k) (ln u) i zB;have G:=Bt (RE u k) (ln u) i hi;have E:=wm (RE u k) (ln u) i hi (RE u k i) Z
  have z:RE u k i=if(i:Int)=k then 1 else(u.getD i dd).lamp:=rfl
  generalize ((pb i).map (RE u k)++oj (ln u-i) 0).map iA=xs,((pb (i+1)).map (RE u k)++oj (ln u-(i+1)) 0).map iA=ys,RE u k i=v,u.getD i dd=t at *;rw[<-E];clear E B C;by_cases hk:(i:Int)=k
  .rw[zA4 hk]at z;subst z;have I:(xs.set i (iA t.lamp))[i]? =some (iA t.lamp):=by rw[zB6 zB]
   have L:(xs.set i (iA t.lamp)).length=ln u:=by simp[A]
   rw[<-zFh (iA t.lamp)];refine WW ?_;rfl
  .rw[Os hk]at z;subst z;refine WW ?_;rfl
 .have A:=BK (RE u k) (ln u) (ln u) (zBa _)
  have e:zE iA (bT u k)= .sl false ((((pb (ln u)).map (RE u k)++oj (ln u-u.length) 0).map iA).take (u.map xE).length):=by
   rw[zBf zB,zEb,List.replicate_zero,zB1];rfl
  rw[e];clear e B;generalize ((pb (ln u)).map (RE u k)++oj (ln u-u.length) 0).map iA=xs at *;exact ly
def zu (u:List Li) (B:ln u<=1000) (k:Int):zM 199 [zE xE u,iA k] [] (zE iA (bT u k)) []:=by
 have hl:=zA xE u;refine eM call199 λF hF=>?_
 refine WW ?_;refine zS 5 1001 1 Z Z Z ?_;refine zO (ln u) [1001] [] [1,8,9] [5,10,1,8,9] Z (λi T U=>⟨(5,.ref 1001 0 (((pb i).map (RE u k)).map iA).length)::(10,iA i)::T,(1001,.arr 1 (((pb i).map (RE u k)).map iA) true)::U⟩) (Lq ?_ ?_)
 .intro i hi;have C:=zJ xE u i hi;have A:(((pb i).map (RE u k)).map iA).length=i:=by simp
  have e:((pb (i+1)).map (RE u k)).map iA=((pb i).map (RE u k)).map iA++[iA (RE u k i)]:=by rw[zC6];simp
  have z:RE u k i=if(i:Int)=k then 1 else(u.getD i dd).lamp:=rfl
  rw[e];clear e;generalize ((pb i).map (RE u k)).map iA=xs,RE u k i=v,u.getD i dd=t at *;by_cases hk:(i:Int)=k
  .rw[zA4 hk]at z;subst z;refine WW ?_;rfl
  .rw[Os hk]at z;subst z;refine WW ?_;rfl
 .have A:(((pb (ln u)).map (RE u k)).map iA).length=ln u:=by simp
  rw[show zE iA (bT u k)= .sl false ((((pb (ln u)).map (RE u k)).map iA).take (((pb (ln u)).map (RE u k)).map iA).length) by rw[zA8];rfl];generalize ((pb (ln u)).map (RE u k)).map iA=xs at *;exact ly
def JW (z u:List Int) (p q:Nat):Bool:=QE (u.getD p dd)&&(QE (u.getD q dd)&&kK z p q)
def vm (z u:List Int):Bool:=(pb (ln u)).any λp=>(pb (ln u)).any λq=>JW z u p q
theorem uy {z u:List Int} (h:vm z u=false) (p q:Nat) (A:p<ln u) (B:q<ln u):JW z u p q=false:=by grind [vm,JW]
theorem um {A z:List Int} (h:vm A z=true):∃p q:Nat,p<ln z/\q<ln z/\JW A z p q=true/\(∀u,u<p->∀v,v<ln z->JW A z u v=false)/\(∀v,v<q->JW A z p v=false):=by
 unfold vm at h;rw[zCw]at h;obtain⟨a,L,h⟩:=h;rw[zCw]at h;obtain⟨b,hb,h⟩:=h;obtain⟨p,C,⟨v,hv,B⟩,E⟩:=ME (P:=λp=>∃v,v<ln z/\JW A z p v=true) a ⟨b,zBv.1 hb,h⟩;obtain⟨q,I,M,G⟩:=ME (P:=λq=>JW A z p q=true) v B
 grind
theorem Y1 (M z:List Int) (S:ln M<=40) (hn:ln z<=1000):zM 231 [zE iA M,zE iA z] [] (bA (vm M z)) []:=by
 have hl:=zA iA z
 cases hf:vm M z with
 | false=>
  have ac:=uy hf;clear hf;refine eM call231 λF hF=>?_
  (repeat' (first|refine WS ?_|refine SG (I2 (λhc=>?_) λhc=>?_)|refine SG λhc=>?_|(apply zG;first|refine SM ?_)|(first|first|refine SR ?_|refine SK (I2 (λhc=>?_) λhc=>?_)|refine SK λhc=>?_|fail|apply bY|apply bZ)|fail))
  refine zO (ln z) [] [] [0,1,10,11] [5,12,0,1,10,11] Z (λi T U=>⟨(5,bA false)::(12,iA i)::T,U⟩) (Lq ?_ ?_)
  .intro u hu;have hy:=zJ iA z u hu;have G:=ZP (z.getD u dd);have C:=ac u;unfold JW at C;clear ac
   cases hb:QE (z.getD u dd)with
   |false=>
    rw[hb]at G;generalize z.getD u dd=a at *;clear C;refine zU G ?_;rfl
   | true=>
    rw[hb]at G;generalize z.getD u dd=a at *;refine zU G ?_;refine zO (ln z) [] [] [0,1,6,10,11,12,20,21] [5,22,0,1,6,10,11,12,20,21] Z (λi T U=>⟨(5,bA false)::(22,iA i)::T,U⟩) (Lq ?_ ?_)
    .intro v hv;have ar:=zJ iA z v hv;have E:=ZP (z.getD v dd);have L:=gW M S u v;have h:=C v hu hv;rw[hb,zBg]at h;generalize z.getD v dd=b at *;clear C G
     cases A:QE b with
     |false=>
      rw[A]at E;refine zU E ?_;rfl
     |true=>
      rw[A,zBg]at h;rw[A]at E;rw[h]at L;refine yH (xU E L) ?_;rfl
    ·(refine WW ?_)
     rfl
  ·(repeat' (first|refine WS ?_|refine SG (I2 (λhc=>?_) λhc=>?_)|refine SG λhc=>?_|(apply zG;first|refine SM ?_)|(first|first|refine SR ?_|refine SK (I2 (λhc=>?_) λhc=>?_)|refine SK λhc=>?_|fail|apply bY|apply bZ)|fail))
   exact zH
 | true=>
  obtain⟨p,q,hp,hq,B,V,Y⟩:=um hf;clear hf;have W:QE (z.getD p dd)=true:=by unfold JW at B;rw[zBe]at B;exact B.1
  have R:QE (z.getD q dd)=true:=by unfold JW at B;rw[zBe,zBe]at B;exact B.2.1
  have O:kK M p q=true:=by unfold JW at B;rw[zBe,zBe]at B;exact B.2.2
  clear B;refine eM call231 λF hF=>?_
  (repeat' (first|refine WS ?_|refine SG (I2 (λhc=>?_) λhc=>?_)|refine SG λhc=>?_|(apply zG;first|refine SM ?_)|(first|first|refine SR ?_|refine SK (I2 (λhc=>?_) λhc=>?_)|refine SK λhc=>?_|fail|apply bY|apply bZ)|fail))
  refine yV (ln z) [] [] [0,1,10,11] [5,12,0,1,10,11] Z (λi T U zs=>(i<=p)/\zs=⟨(5,bA false)::(12,iA i)::T,U⟩) (Lp ?_ ?_ ?_)
  .exact⟨zBn _,rfl⟩
  .rintro u st hu ⟨hup,rfl⟩;have hy:=zJ iA z u hu;have G:=ZP (z.getD u dd);by_cases ag:u=p
   .subst ag;rw[W]at G
    have I:∀v,v<q->(QE (z.getD v dd)&&kK M u v)=false:=λv hv=>by
     have h:=Y v hv;unfold JW at h;rw[W,zBg]at h;exact h
    clear V Y;generalize z.getD u dd=a at *;refine zU G ?_;refine yV (ln z) [] [] [0,1,6,10,11,12,20,21] [5,22,0,1,6,10,11,12,20,21] Z (λi T U zs=>(i<=q)/\zs=⟨(5,bA false)::(22,iA i)::T,U⟩) (Lp ?_ ?_ ?_)
    .exact⟨zBn _,rfl⟩
    .rintro v st hv ⟨hvq,rfl⟩;have ar:=zJ iA z v hv;have E:=ZP (z.getD v dd);have L:=gW M S u v;by_cases ap:v=q
     .subst ap;rw[R]at E;rw[O]at L;clear R O I G;generalize z.getD v dd=b at*
      (have ga:=E;have ge:=L;(repeat' (first|refine WS ?_|refine SG (I2 (λhc=>?_) λhc=>?_)|refine SG λhc=>?_|(apply zG;first|refine SM ?_)|(first|first|refine SR ?_|refine SK (I2 (λhc=>?_) λhc=>?_)|refine SK λhc=>?_|fail|apply bY|apply bZ)|fail))<;>clear ga ge)
      exact zH
     .have h:=I v zB;clear R O I G;generalize z.getD v dd=b at*
      cases A:QE b with
      |false=>
       rw[A]at E;refine zU E ?_;exact⟨zB,rfl⟩
      |true=>
       rw[A,zBg]at h;rw[A]at E;rw[h]at L;refine yH (xU E L) ?_;exact⟨zB,rfl⟩
    .rintro st ⟨hvq,rfl⟩;exfalso;omega
   .have C:=V u zB;unfold JW at C;clear W R O V Y
    cases hb:QE (z.getD u dd)with
    |false=>
     rw[hb]at G;generalize z.getD u dd=a at *;clear C;refine zU G ?_;exact⟨zB,rfl⟩
    | true=>
     rw[hb]at G;generalize z.getD u dd=a at *;refine zU G ?_;refine zO (ln z) [] [] [0,1,6,10,11,12,20,21] [5,22,0,1,6,10,11,12,20,21] Z (λi T U=>⟨(5,bA false)::(22,iA i)::T,U⟩) (Lq ?_ ?_)
     .intro v hv;have ar:=zJ iA z v hv;have E:=ZP (z.getD v dd);have L:=gW M S u v;have h:=C v hv;rw[hb,zBg]at h;generalize z.getD v dd=b at *;clear C G
      cases A:QE b with
      |false=>
       rw[A]at E;refine zU E ?_;rfl
      |true=>
       rw[A,zBg]at h;rw[A]at E;rw[h]at L;refine yH (xU E L) ?_;rfl
     ·(refine WW ?_)
      exact⟨zB,rfl⟩
  .rintro st ⟨hup,rfl⟩;exfalso;omega
theorem yu (M z:List Int) (S:ln M<=40) (hn:ln z<=1000):zM 198 [zE iA M,zE iA z] [] (bA (vm M z)) []:=by
 have hl:=zA iA z
 cases hf:vm M z with
 | false=>
  have ac:=uy hf;clear hf;refine eM call198 λF hF=>?_
  refine WW ?_;refine zO (ln z) [] [] [0,1,9,10] [11,0,1,9,10] Z (λi T U=>⟨(11,iA i)::T,U⟩) (Lq ?_ ?_)
  .intro u hu;have hy:=zJ iA z u hu;have E:=ZQ (z.getD u dd);have G:=ac u;unfold JW at G;clear ac;refine WW ?_;refine zO (ln z) [] [] [0,1,5,6,9,10,11,16,17] [18,0,1,5,6,9,10,11,16,17] Z (λi T U=>⟨(18,iA i)::T,U⟩) (Lq ?_ ?_)
   .intro v hv;have ar:=zJ iA z v hv;have C:=ZQ (z.getD v dd);have L:=jA M S u v;have h:=G v hu hv;clear G;generalize z.getD v dd=b at *;generalize z.getD u dd=a at*
    cases hb:QE a with
    |false=>
     rw[hb]at E;refine zU E ?_;rfl
    | true=>
     rw[hb]at E;rw[hb,zBg]at h
     cases A:QE b with
     |false=>
      rw[A]at C;refine yH (xU E C) ?_;rfl
     |true=>
      rw[A,zBg]at h;rw[A]at C;rw[h]at L;refine yH (qL E C L) ?_;rfl
   ·(refine WW ?_)
    rfl
  .exact ly
 | true=>
  obtain⟨p,q,hp,hq,B,V,Y⟩:=um hf;clear hf;have W:QE (z.getD p dd)=true:=by unfold JW at B;rw[zBe]at B;exact B.1
  have R:QE (z.getD q dd)=true:=by unfold JW at B;rw[zBe,zBe]at B;exact B.2.1
  have O:kK M p q=true:=by unfold JW at B;rw[zBe,zBe]at B;exact B.2.2
  clear B;refine eM call198 λF hF=>?_
  refine WW ?_;refine yV (ln z) [] [] [0,1,9,10] [11,0,1,9,10] Z (λi T U zs=>(i<=p)/\zs=⟨(11,iA i)::T,U⟩) (Lp ?_ ?_ ?_)
  .exact⟨zBn _,rfl⟩
  .rintro u st hu ⟨hup,rfl⟩;have hy:=zJ iA z u hu;have E:=ZQ (z.getD u dd);by_cases ag:u=p
   .subst ag;rw[W]at E
    have I:∀v,v<q->(QE (z.getD v dd)&&kK M u v)=false:=λv hv=>by
     have h:=Y v hv;unfold JW at h;rw[W,zBg]at h;exact h
    clear V Y;generalize z.getD u dd=a at *;refine WW ?_;refine yV (ln z) [] [] [0,1,5,6,9,10,11,16,17] [18,0,1,5,6,9,10,11,16,17] Z (λi T U zs=>(i<=q)/\zs=⟨(18,iA i)::T,U⟩) (Lp ?_ ?_ ?_)
    .exact⟨zBn _,rfl⟩
    .rintro v st hv ⟨hvq,rfl⟩;have ar:=zJ iA z v hv;have C:=ZQ (z.getD v dd);have L:=jA M S u v;by_cases ap:v=q
     .subst ap;rw[R]at C;rw[O]at L;clear R O I;generalize z.getD v dd=b at *;exact mt (qL E C L)
     .have h:=I v zB;clear R O I;generalize z.getD v dd=b at*
      cases A:QE b with
      |false=>
       rw[A]at C;refine yH (xU E C) ?_;exact⟨zB,rfl⟩
      |true=>
       rw[A,zBg]at h;rw[A]at C;rw[h]at L;refine yH (qL E C L) ?_;exact⟨zB,rfl⟩
    .rintro st ⟨hvq,rfl⟩;exfalso;omega
   .have G:=V u zB;unfold JW at G;clear W R O V Y;refine WW ?_;refine zO (ln z) [] [] [0,1,5,6,9,10,11,16,17] [18,0,1,5,6,9,10,11,16,17] Z (λi T U=>⟨(18,iA i)::T,U⟩) (Lq ?_ ?_)
    .intro v hv;have ar:=zJ iA z v hv;have C:=ZQ (z.getD v dd);have L:=jA M S u v;have h:=G v hv;clear G;generalize z.getD v dd=b at *;generalize z.getD u dd=a at*
     cases hb:QE a with
     |false=>
      rw[hb]at E;refine zU E ?_;rfl
     | true=>
      rw[hb]at E;rw[hb,zBg]at h
      cases A:QE b with
      |false=>
       rw[A]at C;refine yH (xU E C) ?_;rfl
      |true=>
       rw[A,zBg]at h;rw[A]at C;rw[h]at L;refine yH (qL E C L) ?_;rfl
    ·(refine WW ?_)
     exact⟨zB,rfl⟩
  .rintro st ⟨hup,rfl⟩;exfalso;omega
def P6 (j:Jn) (c u:Ct):Prop:=∀q:Nat,q<ln j.ph->xT u q=xT c q\/((xT c q).lamp=0/\xT u q=⟨1,0⟩)
theorem P6.refl (j:Jn) (c:Ct):P6 j c c:=λq _=> .inl Z
theorem P6.trans {a b c:Ct} (h:P6 j a b) (g:P6 j b c):P6 j a c:=λq u=>by
 rcases h q u with h|⟨h1,h2⟩<;>rcases g q u with g|⟨g1,g2⟩
 .exact .inl (g.trans h)
 .exact .inr ⟨by rw[<-h];exact g1,g2⟩
 .exact .inr ⟨h1,g.trans h2⟩
 .rw[h2]at g1;exact absurd g1 xA
def W1 {c:Ct} {r:Int} (h:VJ j c r=true) (u:p<ln j.ph) (z:(yG j p).ring=r):(xT c p).lamp=0:=by grind [VJ,yG,xT,List.all_eq_true,cU]
def qf (p:Ph) (h:dy p):zM 147 [xN p] [] (iA (af p)) []:=by
 obtain⟨h1,h2,u,z⟩:=h;refine eM call147 λF hF=>?_
 exact ly
def wu (p:Ph) (h:dy p) (E:p.yel<=60) (C:0<=p.red/\p.red<=60) (l:Li) (hv:ib p l=true) (lv:Bool):zM 250 [xN p,xE l,bA lv] [] (xE (BQ p l lv)) []:=by
 have c:=qf p h;have G:=om hv E C.2;unfold ib at hv;unfold BQ;by_cases B:l.lamp=0
 .rw[zA4 B,zBb]at hv;rw[Os zB,Os zB,Os zB];have u:xE l= .agg [iA 0,iA 0]:=by unfold xE;rw[B,hv]
  rw[u]
  cases lv<;>((refine eM call250 λF hF=>?_);exact ly)
 rw[Os B]at hv;by_cases h1:l.lamp=1
 .rw[zA4 h1];generalize af p=n at*
  cases lv with
  |false=>
   rw[Os (λh=>by cases h.1)];have u:xE ⟨1,min (l.tk+1) 1073741824⟩= .agg [iA l.lamp,iA (min (l.tk+1) 1073741824)]:=by rw[h1];rfl
   rw[u];refine eM call250 λF hF=>?_
   exact ly
  |true=>
  by_cases h2:n<=l.tk+1
  .rw[zA4 ⟨rfl,h2⟩];refine eM call250 λF hF=>?_
   exact mx c
  .rw[Os (λh=>h2 h.2)];have u:xE ⟨1,min (l.tk+1) 1073741824⟩= .agg [iA l.lamp,iA (min (l.tk+1) 1073741824)]:=by rw[h1];rfl
   rw[u];refine eM call250 λF hF=>?_
   exact mx c
 rw[Os h1]at hv⊢;by_cases h2:l.lamp=2
 .rw[zA4 h2,zBb]at hv;rw[zA4 h2];by_cases z:l.tk+1<p.yel
  .rw[zA4 z];have u:xE ⟨2,l.tk+1⟩= .agg [iA l.lamp,iA (min (l.tk+1) 1073741824)]:=by rw[h2,show min (l.tk+1) 1073741824=l.tk+1 by omega];rfl
   rw[u];refine eM call250 λF hF=>?_
   exact ly
  rw[Os z];by_cases A:p.red=0
  .rw[zA4 A];refine eM call250 λF hF=>?_
   exact ly
  .rw[Os A];refine eM call250 λF hF=>?_
   exact ly
 rw[Os h2]at hv⊢;by_cases z:l.lamp=3
 .rw[zA4 z,zBb]at hv;rw[zA4 z];by_cases A:l.tk+1<p.red
  .rw[zA4 A];have u:xE ⟨3,l.tk+1⟩= .agg [iA l.lamp,iA (min (l.tk+1) 1073741824)]:=by rw[z,show min (l.tk+1) 1073741824=l.tk+1 by omega];rfl
   rw[u];refine eM call250 λF hF=>?_
   exact ly
  .rw[Os A];refine eM call250 λF hF=>?_
   exact ly
 .rw[Os z]at hv;cases hv
def V1 (c:Ct) (C:ln c.li<=25):zM 254 [LR c] [] (iA (LT c)) []:=by
 have hl:=zA xE c.li;unfold LT;refine eM call254 λF hF=>?_
 refine WW ?_;refine zO (ln c.li) [] [] [7,8] [3,9,7,8] Z (λi T U=>⟨(3,iA (gA (RG c) i))::(9,iA i)::T,U⟩) (Lq ?_ ?_)
 .intro i hi;have B:=zJ xE c.li i hi
  change (c.li.map xE)[i]? =some (xE (xT c i))at B
  have z:=VQ (RG c) i zB;have A:=AL i zB
  have e:gA (RG c) (i+1)=if RG c i=true then gA (RG c) i+p2 i else gA (RG c) i:=rfl
  have u:RG c i=((xT c i).lamp != 0):=rfl;rw[e,u];generalize gA (RG c) i=b,xT c i=t at *;by_cases h:t.lamp=0
  .rw[Os (by simp[h])];refine WW ?_;rfl
  .rw[zA4 (by simp[h])];refine WW ?_;rfl
 .exact ly
def Kh (j:Jn) (z:ln j.ph<=1000) (u:∀p:Nat,p<ln j.ph->0<=(yG j p).group/\(yG j p).group<=3):zM 255 [wK j] [] (iA (gN j)) []:=by
 have hl:=zA xN j.ph;unfold gN;refine eM call255 λF hF=>?_
 refine WW ?_;refine zO (ln j.ph) [] [] [7,8] [3,9,7,8] Z (λi T U=>⟨(3,iA (Zb j.ph i))::(9,iA i)::T,U⟩) (Lq ?_ ?_)
 .intro i hi;have A:=zJ xN j.ph i hi;have hb:=u i hi;unfold yG at hb;have e:Zb j.ph (i+1)=max (Zb j.ph i) ((j.ph.getD i dd).group+1):=rfl;rw[e];generalize Zb j.ph i=g,j.ph.getD i dd=t at *;refine WW ?_;rfl
 .exact ly
def Y7 (j:Jn) (C:ln j.ph<=1000) (r g:Int):zM 300 [wK j,iA r,iA g] [] (zE nA (VK j r g (ln j.ph))) []:=by
 have hl:=zA xN j.ph;refine eM call300 λF hF=>?_
 refine WW ?_;refine zS 7 1001 1 Z Z Z ?_;refine zO (ln j.ph) [1001] [] [1,2,11,12] [7,13,1,2,11,12] Z (λi T U=>⟨(7,.ref 1001 0 ((VK j r g i).map nA).length)::(13,iA i)::T,(1001,.arr 1 ((VK j r g i).map nA) true)::U⟩) (Lq ?_ ?_)
 .intro i hi;have B:=zJ xN j.ph i hi
  change (j.ph.map xN)[i]? =some (xN (yG j i))at B
  have z:=BZ j r g i
  have u:(VK j r g i).length<=1000:=by
   have:(VK j r g i).length<=(pb i).length:=zCv _ _;rw[zCp]at this;omega
  have A:((VK j r g i).map nA).length<=1000:=by rw[zA5];exact u
  rw[z];generalize VK j r g i=o,yG j i=t at *;by_cases h1:t.ring=r
  .by_cases h2:t.group=g
   .rw[zA4 ⟨h1,h2⟩,zBc];generalize o.map nA=xs at *;refine WW ?_;rfl
   .rw[Os (λh=>h2 h.2)];refine WW ?_;rfl
  .rw[Os (λh=>h1 h.1)];refine WW ?_;rfl
 ·(refine WW ?_)
  exact zI [] Z Z (nf _ _) Z
theorem U1 (j:Jn) (r g f:Int):jI j r g f=match (VK j r g (ln j.ph)).find? (λp:Nat=>decide (f<=(p:Int)))with
 |some p=>(p:Int)
 |none=> -1:=by grind [jI,VK,QX,LS,yG]
def aO (j:Jn) (R:ln j.ph<=1000) (r g p:Int):zM 260 [wK j,iA r,iA g,iA p] [] (iA (jI j r g (p+1))) []:=by
 have z:=Y7 j R r g;rw[U1]
 have G:(VK j r g (ln j.ph)).length<=1000:=by
  have:(VK j r g (ln j.ph)).length<=(pb (ln j.ph)).length:=zCv _ _;rw[zCp]at this;omega
 generalize VK j r g (ln j.ph)=o at *;have hl:=zA nA o
 cases A:o.find? (λq:Nat=>decide (p+1<=(q:Int)))with
 | some q=>
  dsimp only;rw[List.find?_eq_some_iff_getElem]at A;obtain⟨S,I,O,M,hb⟩:=A;rw[zBb]at S;refine eM call260 λF hF=>?_
  refine zU z ?_;refine yV (ln o) [] [] [3,14,15] [16,3,14,15] Z (λi T U V=>(i<=I)/\V=⟨(16,iA i)::T,U⟩) (Lp ?_ ?_ ?_)
  .exact⟨zBn _,rfl⟩
  .rintro u st B ⟨hui,rfl⟩;have C:=zJ nA o u B;by_cases e:u=I
   .subst e;have E:o.getD u dd=q:=by rw[<-M];simp[pi,B]
    rw[E]at C;unfold nA at C;clear hb z;exact ly
   .have h2:=hb u zB;have E:o.getD u dd=o[u]:=by simp[pi,B]
    rw[<-E]at h2;have L:¬p+1<=((o.getD u dd:Nat):Int):=by simpa using h2
    generalize o.getD u dd=v at *;unfold nA at C;clear hb z h2;refine WW ?_;exact⟨zB,rfl⟩
  .rintro st ⟨hui,rfl⟩;exfalso;omega
 | none=>
  dsimp only;rw[List.find?_eq_none]at A;refine eM call260 λF hF=>?_
  refine zU z ?_;refine zO (ln o) [] [] [3,14,15] [16,3,14,15] Z (λi T U=>⟨(16,iA i)::T,U⟩) (Lq ?_ ?_)
  .intro u B;have C:=zJ nA o u B;have h2:=A (o.getD u dd) (by simp[pi,B]);have L:¬p+1<=((o.getD u dd:Nat):Int):=by simpa using h2
   generalize o.getD u dd=v at *;unfold nA at C;clear A z h2;refine WW ?_;rfl
  .clear A z;exact ly
def Nr (u z:Int):Nat->List AV
 |0=>[]
 |1=>[iA u]
 |_+2=>[iA u,iA z]
def NZ (j:Jn) (G:ln j.ph<=1000) (g R M:Int) (L N:List AV) (I S:Nat):zM 214 [wK j,.ptr 3000 0 0,iA g] [(3000,.box [.ref 1001 0 I,iA R,.ref 1002 0 S,iA M]),(1001,.arr 2 L false),(1002,.arr 1 N false)] (.tup [])
  [(3000,.box [.ref 1001 0 I,iA g,.ref 2001 0 2,iA M]),(1001,.arr 2 L false),(1002,.arr 1 N false),(2001,.arr 1 [iA (jI j 0 g 0),iA (jI j 1 g 0)] false)]:=by
 have C:=aO j G 0 g (-1);have E:=aO j G 1 g (-1);rw[show(-1:Int)+1=0 by omega]at C E;generalize jI j 0 g 0=u,jI j 1 g 0=z at *;obtain⟨B,A⟩:∃n:Nat,n=2:=⟨2,rfl⟩;refine eM call214 λF hF=>?_
 refine WW ?_;refine zS 6 2001 1 Z Z Z ?_;refine zO (B) [2001,3,3000,1001,1002] [3,3000,1001,1002] [1,2,3] [6,8,1,2,3] Z (λi T U=>⟨(6,.ref 2001 0 (Nr u z i).length)::(8,iA i)::T,(2001,.arr 1 (Nr u z i) (i != 1))::U⟩) (Lq ?_ ?_)
 .intro i hi;have:i=0\/i=1:=by omega
  rcases this with rfl|rfl
  .have hl:(Nr u z 0).length=0:=rfl;refine zU C ?_;rfl
  .have hl:(Nr u z 1).length=1:=rfl;refine zU E ?_;rfl
 .have O:Nr u z B=[iA u,iA z]:=by rw[A];rfl
  have e3:(B != 1)=true:=by rw[A];rfl
  rw[O,e3]
  (repeat' (first|refine AF ?_|apply yW|apply xG|intro hc|(apply zG;first|refine SM ?_)|fail))
  refine yE Z (xQ ?_);refine kE 2001 [6] Z Z Z Z Z ?_;refine WW ?_;exact uZ [3000,1001,1002,2001] Z Z Z Z
theorem bU (j:Jn) (J:JV j) (hn:ln j.ph<=1000) (G:ln j.cf<=40) (c:Ct) (hc:ln c.li=ln j.ph) (hm:ln c.nx=2) (p:Nat) (S:p<ln j.ph) (hr:0<=(yG j p).ring/\(yG j p).ring<=1) (E:dT j c p=true\/c.gr=(yG j p).group):
  zM 253 [wK j,.ptr 3000 0 0,iA (p:Int)] (qW c 1002) (.tup []) (qW (uF j c p) 1002):=by
 have ar:=zA xN j.ph;have ag:=zA xE c.li;have ap:=zA iA c.nx;have I:=zJ xN j.ph p S
 change (j.ph.map xN)[p]? =some (xN (yG j p))at I
 have L:=aO j hn (yG j p).ring (yG j p).group p;unfold uF;by_cases hk:dT j c p=true
 case pos=>
  rw[zA4 hk];unfold dT at hk;rw[zCw]at hk;obtain⟨M,V,hk⟩:=hk;rw[zBv]at V;unfold qW;refine eM call253 λF hF=>?_
  refine WW ?_;refine yV (ln c.li) [3,3000,1001,1002] [3,3000,1001,1002] [1,2,3,12,13] [14,1,2,3,12,13] Z (λi T U zs=>(i<=M)/\zs=⟨(14,iA i)::T,U⟩) (Lp ?_ ?_ ?_)
  .exact⟨zBn _,rfl⟩
  .rintro i st hi ⟨hiq,rfl⟩;have Y:=zJ xE c.li i hi
   change (c.li.map xE)[i]? =some (xE (xT c i))at Y
   have u:=jA j.cf G i p;rw[J.sy i p zB S]at u;by_cases hb:((xT c i).lamp != 0&&kK j.cf p i)=true
   .rw[zBe]at hb;have h1:(xT c i).lamp≠0:=by simpa using hb.1
    rw[hb.2]at u;generalize xT c i=t at *;clear hb L hk;refine zU u ?_;exact zP [3000,1001,1002] Z Z Z Z
   .have au:i<M:=by
     rcases zGk i M with h|h
     .exact h
     .rw[show i=M by omega]at hb;exact absurd hk hb
    rw[zBe]at hb;by_cases h1:(xT c i).lamp=0
    .generalize xT c i=t at *;clear hb hk;refine WW ?_;exact⟨zB,rfl⟩
    .have A:kK j.cf p i=false:=by
      cases A:kK j.cf p i with
      |false=>rfl
      |true=>exact absurd ⟨by simpa using h1,A⟩ hb
     rw[A]at u;generalize xT c i=t at *;clear hb hk;refine zU u ?_;exact⟨zB,rfl⟩
  .rintro st ⟨hiq,rfl⟩;exfalso;omega
 have z:dT j c p=false:=by simpa using hk
 have R:c.gr=(yG j p).group:=by
  rcases E with E|E
  .exact absurd E hk
  .exact E
 rw[Os hk];have eb:MD j c p=BT c p:=by unfold MD;rw[zA4 R]
 rw[eb];unfold dT at z;rw[zDn]at z;have O:∀q,q<ln c.li->((xT c q).lamp != 0&&kK j.cf p q)=false:=λq A=>by simpa using z q (zBv.2 A)
 unfold BT qW;dsimp only;rw[zCs,zCs,zCj,zCj];clear z hk eb E;generalize jI j (yG j p).ring (yG j p).group (p+1)=fo at *;obtain⟨rn,B⟩:∃n:Nat,(yG j p).ring=n:=⟨(yG j p).ring.toNat,zB⟩;have C:=zJ xE c.li p zB;have ac:=zJ iA c.nx rn zB;generalize W:xT c p=l0 at*
 change (c.li.map xE)[p]? =some (xE (xT c p))at C
 rw[W]at C;generalize c.nx.getD rn dd=n0 at *;refine eM call253 λF hF=>?_
 refine WW ?_;refine zO (ln c.li) [3,3000,1001,1002] [3,3000,1001,1002] [1,2,3,12,13] [14,1,2,3,12,13] Z (λi T U=>⟨(14,iA i)::T,U⟩) (Lq ?_ ?_)
 .intro i hi;have Y:=zJ xE c.li i hi
  change (c.li.map xE)[i]? =some (xE (xT c i))at Y
  have u:=jA j.cf G i p;rw[J.sy i p zB S]at u;have hb:=O i hi;clear O C ac L;by_cases h1:(xT c i).lamp=0
  .generalize xT c i=t at *;clear hb;refine WW ?_;rfl
  .have A:kK j.cf p i=false:=by
    cases A:kK j.cf p i with
    |false=>rfl
    |true=>
     rw[A,zDr]at hb;exact absurd JM h1
   rw[A]at u;generalize xT c i=t at *;clear hb;refine zU u ?_;rfl
 .clear O;generalize yG j p=t at *;rw[B,zBu];have et:xN t= .agg [iA rn,iA t.group,iA t.ming,iA t.maxg,iA t.yel,iA t.red,iA t.walk,iA t.clear]:=by rw[<-B];rfl
  rw[et]at I;rw[B]at L;refine zU L ?_;exact uZ [3000,1001,1002] Z Z Z Z
theorem ZR (j:Jn) (J:JV j) (hn:ln j.ph<=1000) (G:ln j.cf<=40) (c:Ct) (hc:ln c.li=ln j.ph) (hm:ln c.nx=2) (p:Nat) (S:p<ln j.ph) (hr:0<=(yG j p).ring/\(yG j p).ring<=1) (E:dT j c p=true\/c.gr=(yG j p).group):
  zM 253 [wK j,.ptr 3000 0 0,iA (p:Int)] (qW c 2001) (.tup []) (qW (uF j c p) 2001):=by
 have ar:=zA xN j.ph;have ag:=zA xE c.li;have ap:=zA iA c.nx;have I:=zJ xN j.ph p S
 change (j.ph.map xN)[p]? =some (xN (yG j p))at I
 have L:=aO j hn (yG j p).ring (yG j p).group p;unfold uF;by_cases hk:dT j c p=true
 case pos=>
  rw[zA4 hk];unfold dT at hk;rw[zCw]at hk;obtain⟨M,V,hk⟩:=hk;rw[zBv]at V;unfold qW;refine eM call253 λF hF=>?_
  refine WW ?_;refine yV (ln c.li) [3,3000,1001,2001] [3,3000,1001,2001] [1,2,3,12,13] [14,1,2,3,12,13] Z (λi T U zs=>(i<=M)/\zs=⟨(14,iA i)::T,U⟩) (Lp ?_ ?_ ?_)
  .exact⟨zBn _,rfl⟩
  .rintro i st hi ⟨hiq,rfl⟩;have Y:=zJ xE c.li i hi
   change (c.li.map xE)[i]? =some (xE (xT c i))at Y
   have u:=jA j.cf G i p;rw[J.sy i p zB S]at u;by_cases hb:((xT c i).lamp != 0&&kK j.cf p i)=true
   .rw[zBe]at hb;have h1:(xT c i).lamp≠0:=by simpa using hb.1
    rw[hb.2]at u;generalize xT c i=t at *;clear hb L hk;refine zU u ?_;exact zP [3000,1001,2001] Z Z Z Z
   .have au:i<M:=by
     rcases zGk i M with h|h
     .exact h
     .rw[show i=M by omega]at hb;exact absurd hk hb
    rw[zBe]at hb;by_cases h1:(xT c i).lamp=0
    .generalize xT c i=t at *;clear hb hk;refine WW ?_;exact⟨zB,rfl⟩
    .have A:kK j.cf p i=false:=by
      cases A:kK j.cf p i with
      |false=>rfl
      |true=>exact absurd ⟨by simpa using h1,A⟩ hb
     rw[A]at u;generalize xT c i=t at *;clear hb hk;refine zU u ?_;exact⟨zB,rfl⟩
  .rintro st ⟨hiq,rfl⟩;exfalso;omega
 have z:dT j c p=false:=by simpa using hk
 have R:c.gr=(yG j p).group:=by
  rcases E with E|E
  .exact absurd E hk
  .exact E
 rw[Os hk];have eb:MD j c p=BT c p:=by unfold MD;rw[zA4 R]
 rw[eb];unfold dT at z;rw[zDn]at z;have O:∀q,q<ln c.li->((xT c q).lamp != 0&&kK j.cf p q)=false:=λq A=>by simpa using z q (zBv.2 A)
 unfold BT qW;dsimp only;rw[zCs,zCs,zCj,zCj];clear z hk eb E;generalize jI j (yG j p).ring (yG j p).group (p+1)=fo at *;obtain⟨rn,B⟩:∃n:Nat,(yG j p).ring=n:=⟨(yG j p).ring.toNat,zB⟩;have C:=zJ xE c.li p zB;have ac:=zJ iA c.nx rn zB;generalize W:xT c p=l0 at*
 change (c.li.map xE)[p]? =some (xE (xT c p))at C
 rw[W]at C;generalize c.nx.getD rn dd=n0 at *;refine eM call253 λF hF=>?_
 refine WW ?_;refine zO (ln c.li) [3,3000,1001,2001] [3,3000,1001,2001] [1,2,3,12,13] [14,1,2,3,12,13] Z (λi T U=>⟨(14,iA i)::T,U⟩) (Lq ?_ ?_)
 .intro i hi;have Y:=zJ xE c.li i hi
  change (c.li.map xE)[i]? =some (xE (xT c i))at Y
  have u:=jA j.cf G i p;rw[J.sy i p zB S]at u;have hb:=O i hi;clear O C ac L;by_cases h1:(xT c i).lamp=0
  .generalize xT c i=t at *;clear hb;refine WW ?_;rfl
  .have A:kK j.cf p i=false:=by
    cases A:kK j.cf p i with
    |false=>rfl
    |true=>
     rw[A,zDr]at hb;exact absurd JM h1
   rw[A]at u;generalize xT c i=t at *;clear hb;refine zU u ?_;rfl
 .clear O;generalize yG j p=t at *;rw[B,zBu];have et:xN t= .agg [iA rn,iA t.group,iA t.ming,iA t.maxg,iA t.yel,iA t.red,iA t.walk,iA t.clear]:=by rw[<-B];rfl
  rw[et]at I;rw[B]at L;refine zU L ?_;exact uZ [3000,1001,2001] Z Z Z Z
theorem BL (j:Jn) (J:JV j) (Y:ln j.ph<=1000) (M:ln j.cf<=40) (c:Ct) (hc:ln c.li=ln j.ph) (hm:ln c.nx=2) (p:Nat) (hp:p<ln j.ph) (hr:0<=(yG j p).ring/\(yG j p).ring<=1) (u:dT j c p=false) (R:c.gr≠(yG j p).group):
  zM 253 [wK j,.ptr 3000 0 0,iA (p:Int)] (qW c 1002) (.tup []) (aP (uF j c p) c.nx):=by
 have ap:=zA xN j.ph;have ac:=zA xE c.li;have ag:=zA iA c.nx;have E:=zJ xN j.ph p hp
 change (j.ph.map xN)[p]? =some (xN (yG j p))at E
 have G:=aO j Y (yG j p).ring (yG j p).group p;unfold uF;rw[Os (by rw[u];decide)];have W:MD j c p=QF j (BT c p) (yG j p).group:=by unfold MD;rw[Os R]
 rw[W];unfold dT at u;rw[zDn]at u;have L:∀q,q<ln c.li->((xT c q).lamp != 0&&kK j.cf p q)=false:=λq C=>by simpa using u q (zBv.2 C)
 have V:=NZ j Y (yG j p).group c.gr c.wt ((c.li.map xE).set p (xE ⟨1,0⟩)) (c.nx.map iA) (c.li.map xE).length (c.nx.map iA).length;unfold QF BT qW aP;dsimp only;rw[zCs,zCs,zCj,zCj];rw[show([jI j 0 (yG j p).group 0,jI j 1 (yG j p).group 0].map iA)=[iA (jI j 0 (yG j p).group 0),iA (jI j 1 (yG j p).group 0)]from Z];have O:(([iA (jI j 0 (yG j p).group 0),iA (jI j 1 (yG j p).group 0)]:List AV)).length=2:=rfl;rw[O]
 have A:∃v,([iA (jI j 0 (yG j p).group 0),iA (jI j 1 (yG j p).group 0)]:List AV)[(yG j p).ring.toNat]? =some (iA v):=by
  have:(yG j p).ring=0\/(yG j p).ring=1:=by omega
  rcases this with h|h<;>rw[h]
  all_goals exact⟨_,rfl⟩
 obtain⟨v0,A⟩:=A;generalize ([iA (jI j 0 (yG j p).group 0),iA (jI j 1 (yG j p).group 0)]:List AV)=fx at *;clear u W;generalize jI j (yG j p).ring (yG j p).group (p+1)=fo at *;obtain⟨rn,z⟩:∃n:Nat,(yG j p).ring=n:=⟨(yG j p).ring.toNat,zB⟩;have B:=zJ xE c.li p zB;rw[z,zBu]at A;generalize S:xT c p=l0 at*
 change (c.li.map xE)[p]? =some (xE (xT c p))at B
 rw[S]at B;refine eM call253 λF hF=>?_
 refine WW ?_;refine zO (ln c.li) [3,3000,1001,1002] [3,3000,1001,1002] [1,2,3,12,13] [14,1,2,3,12,13] Z (λi T U=>⟨(14,iA i)::T,U⟩) (Lq ?_ ?_)
 .intro i hi;have hy:=zJ xE c.li i hi
  change (c.li.map xE)[i]? =some (xE (xT c i))at hy
  have I:=jA j.cf M i p;rw[J.sy i p zB hp]at I;have hb:=L i hi;clear L B G V;by_cases h1:(xT c i).lamp=0
  .generalize xT c i=t at *;clear hb;refine WW ?_;rfl
  .have C:kK j.cf p i=false:=by
    cases C:kK j.cf p i with
    |false=>rfl
    |true=>
     rw[C,zDr]at hb;exact absurd JM h1
   rw[C]at I;generalize xT c i=t at *;clear hb;refine zU I ?_;rfl
 .clear L;generalize yG j p=t at *;rw[z,zBu];have et:xN t= .agg [iA rn,iA t.group,iA t.ming,iA t.maxg,iA t.yel,iA t.red,iA t.walk,iA t.clear]:=by rw[<-z];rfl
  rw[et]at E;rw[z]at G;refine yH (xU V G) ?_;exact uZ [3000,1001,1002,2001] Z Z Z Z
def S1 (j:Jn) (Y:ln j.ph<=1000) (c:Ct) (hc:ln c.li=ln j.ph) (r:Int):zM 252 [wK j,LR c,iA r] [] (bA (VJ j c r)) []:=by
 have hl:=zA xN j.ph;have O:=zA xE c.li
 cases hd:VJ j c r with
 | true=>
  have E:∀p,p<ln j.ph->(yG j p).ring=r->(xT c p).lamp=0:=λp R S=>W1 hd R S
  clear hd;refine eM call252 λF hF=>?_
  refine WW ?_;refine zO (ln c.li) [3] [3] [2,3,10,11] [12,2,3,10,11] Z (λi T U=>⟨(12,iA i)::T,U⟩) (Lq ?_ ?_)
  .intro u G;have I:=zJ xN j.ph u zB
   change (j.ph.map xN)[u]? =some (xN (yG j u))at I
   have C:=zJ xE c.li u G
   change (c.li.map xE)[u]? =some (xE (xT c u))at C
   have E:=E u zB;generalize yG j u=p,xT c u=l at *;by_cases h1:p.ring=r
   .have h2:=E h1;clear E;refine WW ?_;rfl
   .clear E;refine WW ?_;rfl
  .clear E;exact ly
 | false=>
  unfold VJ at hd;rw[zEd]at hd;obtain⟨V,B,hb⟩:=hd;rw[cU]at B;obtain⟨k,_,⟨hk,M,L⟩,z⟩:=ME (P:=λp=>p<ln j.ph/\(yG j p).ring=r/\(xT c p).lamp≠0) V ⟨B.1,B.2,by simpa using hb⟩;clear hb;refine eM call252 λF hF=>?_
  refine WW ?_;refine yV (ln c.li) [3] [3] [2,3,10,11] [12,2,3,10,11] Z (λi T U W=>(i<=k)/\W=⟨(12,iA i)::T,U⟩) (Lp ?_ ?_ ?_)
  .exact⟨zBn _,rfl⟩
  .rintro u st G ⟨huk,rfl⟩;have I:=zJ xN j.ph u zB
   change (j.ph.map xN)[u]? =some (xN (yG j u))at I
   have C:=zJ xE c.li u G
   change (c.li.map xE)[u]? =some (xE (xT c u))at C
   by_cases e:u=k
   .subst e;generalize yG j u=p,xT c u=l at *;clear z;exact ly
   .have A:=z u zB;generalize yG j u=p at *;generalize xT c u=l at *;clear z;by_cases h1:p.ring=r
    .have h2:l.lamp=0:=zDq λh=>A ⟨zB,h1,h⟩
     clear A;refine WW ?_;exact⟨zB,rfl⟩
    .clear A;refine WW ?_;exact⟨zB,rfl⟩
  .rintro st ⟨huk,rfl⟩;exfalso;omega
def qm (j:Jn) (r t:Int) (i:Nat):Int:=match (LS j r i).find? (λp:Nat=>!kK j.cf p t)with
 |some p=>p
 |none=> -1
theorem jm (j:Jn) (r t:Int) (i:Nat):qm j r t (i+1)=if(yG j i).ring=r/\kK j.cf i t=false then(if qm j r t i<0 then(i:Int)else qm j r t i)else qm j r t i:=by grind [qm,yG,kK,UY,LS]
def vu {r:Int} {i:Nat} (h:p∈LS j r i):p<i:=by grind [LS]
theorem O1 (j:Jn) (hn:ln j.ph<=1000) (V:ln j.cf<=40) (c:Ct) (hm:ln c.nx=2) (r:Int) (hr:0<=r/\r<2) (t:Nat) (ht:t<ln j.ph) (hx:c.nx.getD r.toNat dd= -1\/0<=c.nx.getD r.toNat dd):zM 251 [wK j,LR c,iA r,iA (t:Int)] [] (iA (aY j c r t)) []:=by
 have hl:=zA xN j.ph;have ag:=zA iA c.nx;have Y:=zJ xN j.ph t ht
 change (j.ph.map xN)[t]? =some (xN (yG j t))at Y
 have ap:=yF iA c.nx r hr.1 zB;unfold aY;generalize c.nx.getD r.toNat dd=B at *;by_cases O:r=(yG j t).ring
 .rw[zA4 O];generalize yG j t=pt at *;refine eM call251 λF hF=>?_
  exact ly
 rw[Os O];have ac:¬(yG j t).ring=r:=λh=>O h.symm
 generalize yG j t=pt at *;refine eM call251 λF hF=>?_
 refine WW ?_;refine yV (ln j.ph) [4,5] [4,5] [2,3,4,5,22,23] [9,24,2,3,4,5,22,23] Z (λi T U zs=>(∀p∈LS j r i,(!kK j.cf p t&&decide (B≠ -1/\B<=(p:Int)))=false)/\zs=⟨(9,iA (qm j r t i))::(24,iA i)::T,U⟩) (Lp ?_ ?_ ?_)
 .exact⟨λp G=>absurd (vu G) (zC0 _),rfl⟩
 .rintro i st hi ⟨hI,rfl⟩;have hy:=zJ xN j.ph i hi
  change (j.ph.map xN)[i]? =some (xN (yG j i))at hy
  have M:=jA j.cf V i t;have E:=jm j r t i;have I:=UY j r i
  have u:(yG j i).ring=r->(!kK j.cf i t&&decide (B≠ -1/\B<=(i:Int)))=false->∀p∈LS j r (i+1),(!kK j.cf p t&&decide (B≠ -1/\B<=(p:Int)))=false:=λh1 hb p G=>by
   rw[I,zA4 h1,zBq,zBz]at G
   rcases G with G|rfl
   .exact hI p G
   .exact hb
  have C:(yG j i).ring≠r->∀p∈LS j r (i+1),(!kK j.cf p t&&decide (B≠ -1/\B<=(p:Int)))=false:=λh1 p G=>by
   rw[I,Os h1]at G;exact hI p G
  have z:(yG j i).ring=r->(!kK j.cf i t&&decide (B≠ -1/\B<=(i:Int)))=true->ES j B r t=i:=λh1 hb=>by
   obtain⟨l2,L⟩:=GU j r (ln j.ph) (i+1) zB;rw[I,zA4 h1]at L
   have e:(QX j r).find? (λp:Nat=>!kK j.cf p t&&decide (B≠ -1/\B<=(p:Int)))=some i:=by
    unfold QX;rw[L,zBx,List.find?_append,PS hI,Option.none_or,zE5];exact List.find?_cons_of_pos hb
   unfold ES;rw[e]
  clear hI I;generalize kK j.cf i t=q,qm j r t (i+1)=s2,qm j r t i=s1 at *;by_cases h1:(yG j i).ring=r
  case neg=>
   have A:=C h1;rw[Os (λh=>h1 h.1)]at E;generalize yG j i=p at *;subst E;clear u C z;refine WW ?_;exact⟨A,rfl⟩
  have u:=u h1;have z:=z h1;clear C
  cases q with
  |true=>
   rw[Os (λh=>by cases h.2)]at E;have A:=u Z;generalize yG j i=p at *;subst E;clear u z;refine zU M ?_;exact⟨A,rfl⟩
  |false=>
  rw[zA4 ⟨h1,rfl⟩]at E;by_cases h2:s1<0
  .rw[zA4 h2]at E;subst E;by_cases R:B= -1
   .have A:=u (by rw[zA6 (λh=>h.1 R)];rfl);generalize yG j i=p at *;clear u z;refine zU M ?_;exact⟨A,rfl⟩
   by_cases S:B<=(i:Int)
   .rw[z (by rw[zA7 ⟨R,S⟩];rfl)];generalize yG j i=p at *;clear u z;exact mx M
   .have A:=u (by rw[zA6 (λh=>S h.2)];rfl);generalize yG j i=p at *;clear u z;refine zU M ?_;exact⟨A,rfl⟩
  .rw[Os h2]at E;subst E;by_cases R:B= -1
   .have A:=u (by rw[zA6 (λh=>h.1 R)];rfl);generalize yG j i=p at *;clear u z;refine zU M ?_;exact⟨A,rfl⟩
   by_cases S:B<=(i:Int)
   .rw[z (by rw[zA7 ⟨R,S⟩];rfl)];generalize yG j i=p at *;clear u z;exact mx M
   .have A:=u (by rw[zA6 (λh=>S h.2)];rfl);generalize yG j i=p at *;clear u z;refine zU M ?_;exact⟨A,rfl⟩
 .rintro st ⟨hI,rfl⟩
  have W:ES j B r t=qm j r t (ln j.ph):=by
   unfold ES qm;rw[show QX j r=LS j r (ln j.ph) from Z,PS hI];rfl
  rw[W];clear hI;generalize qm j r t (ln j.ph)=s1 at *;exact ly
def Jh (c:Ct) (h1:ln c.li<=1000) (h2:ln c.nx<=1000):zM 188 [LR c] [] (.agg [.ref 1001 0 (c.li.map xE).length,iA c.gr,.ref 1002 0 (c.nx.map iA).length,iA c.wt]) [(1001,.arr 2 (c.li.map xE) false),(1002,.arr 1 (c.nx.map iA) false)]:=by
 have hl:=zA xE c.li;have u:=zA iA c.nx;refine eM call188 λF hF=>?_
 (repeat' (first|refine uQ ?_|apply yW|apply xG|intro hc|(apply zG;first|(apply yD;first|refine xH 1001 tok Z Z Z Z Z Z (yM _ _ (λ_=>rfl)) Z Z Z zB Z Z Z ?_|refine xH 1002 tok Z Z Z Z Z Z (yM _ _ (λ_=>rfl)) Z Z Z zB Z Z Z ?_))|fail))
 exact zP [1001,1002] Z Z Z Z
