/- Part 23. -/
import Derived.Test.YtaglbcjljlkjcaaGreatU22
namespace Go.Proofs.YtaglbcjljlkjcaaGreat.Av
open Tryz
set_option linter.all false
set_option maxRecDepth 4000
set_option maxHeartbeats 1000000
open List renaming length->ln,replicate->pi,range->py,getD->p5
open Inhabited renaming default->dd
variable {j:Jn}{p:Nat}
def El (j:Jn) (G:ln j.ph<=1000) (g S E:Int) (L:List AV) (C:Nat):zN 208 [wD j,.ptr 3000 0 0,iA g] [(3000,.box [.ref 1001 0 C,iA S,.s (.slice none 0 0),iA E]),(1001,.arr 2 L false)] (.tup [])
  [(3000,.box [.ref 1001 0 C,iA g,.ref 2001 0 2,iA E]),(1001,.arr 2 L false),(2001,.arr 1 [iA (jH j 0 g 0),iA (jH j 1 g 0)] false)]:=by
 have I:=VE j G 0 g 0;have M:=VE j G 1 g 0;generalize jH j 0 g 0=u,jH j 1 g 0=z at *;obtain⟨B,A⟩:∃n:Nat,n=2:=⟨2,rfl⟩;refine eM call208 λF hF=>?_
 (repeat' (first|refine uS ?_|apply yW|apply xH|intro hc|(apply zG;first|(apply fQ;refine bE 2001 tok Z Z Z Z Z Z Z Z Z Z Z Z Z zB zB Z Z Z ?_))|fail))
 refine zO (B) [3000,2001,3,1001] [3,1001] [1,2,3] [20,19,1,2,3] Z (λi T U=>⟨(20,iA i)::(19,iA B)::T,(3000,.box [.ref 1001 0 C,iA g,.ref 2001 0 B,iA E])::(2001,.arr 1 (pj u z i) false)::U⟩) ?_;(conv=>whnf);refine⟨by(rw[A];rfl),?_,?_⟩
 .intro i hi;have:i=0\/i=1:=by omega
  rcases this with rfl|rfl
  .have V:(pj u z 0)[((0:Nat):Int).toNat]? =some (iA 0):=rfl;have hl:(pj u z 0).length=2:=rfl;refine zS I ?_;rfl
  .have V:(pj u z 1)[((1:Nat):Int).toNat]? =some (iA 0):=rfl;have hl:(pj u z 1).length=2:=rfl;refine zS M ?_;rfl
 .have O:pj u z B=[iA u,iA z]:=by rw[A];rfl
  rw[O];refine WW ?_;subst A;exact uV [3000,1001,2001] Z Z Z Z
def Th (j:Jn):Ct:=⟨pi (ln j.ph) ⟨0,0⟩,0,[jH j 0 0 0,jH j 1 0 0],j.st⟩
def qc (j:Jn) (p:Nat):xR (Th j) p=⟨0,0⟩:=by
 unfold xR Th;simp only[zA5,zC9]
 split<;>rfl
theorem Dl (J:JV j):CV j (Th j):=by
 refine⟨by simp[Th],λp u=>by rw[qc];rfl,λp q u B z h1 h2=>by rw[qc]at h1;exact absurd Z h1,⟨zC3 _,?_⟩,rfl,λr A=>Gx j (Th j) 0 r A,⟨J.st.1,zC3 _⟩,.inr λp u=>by rw[qc]⟩;have:=PV J
 grind [Th]
def Bl {P:Program} {C:List Nat} {F:Fr C} {m:Nat} {A:Array Oper} {z:List Oper} {Q:List FP->St->Prop} {B:Bool} {fs:List FP} {ty T:Nat} {pos:String} {u:Array Edge} {st:St} (hk:yN P F m A B (⟨some 3,.alloc T,ty,pos,u,none⟩::z) st fs Q):yN P F m A B (⟨some 3,.alloc T,ty,pos,u,none⟩::z) st fs Q:=hk
def Bz (j:Jn) (C:ln j.ph<=1000):zN 152 [wD j] [] (JU (Th j)) []:=by
 have z:=zA xN j.ph;have u:=El j C 0 0 j.st ((pi (ln j.ph) (⟨0,0⟩:Li)).map xE) ((pi (ln j.ph) (⟨0,0⟩:Li)).map xE).length;have A:(pi (ln j.ph) (⟨0,0⟩:Li)).map xE=pi (ln j.ph) (xE ⟨0,0⟩):=zEh;have eN:((pi (ln j.ph) (⟨0,0⟩:Li)).map xE).length=ln j.ph:=by simp
 rw[eN,A]at u;rw[<-z]at u;refine eM call152 λF hF=>?_
 repeat' (first|(apply zG;first|(apply Bl;refine uT (nw:=[3000]) (fK tok 3000 Z Z) Z Z Z ?_)|refine uM tok Z Z ?_|(apply fQ;refine bE 1001 tok Z Z Z Z Z Z Z Z Z Z Z Z Z zB zB Z Z Z ?_)|refine YT tok Z Z Z Z ?_|(apply xP;(first|(refine vH 208 ?_;first|refine wM (zL (u) Z Z Z Z Z) Z ?_|refine uT (zL (u) Z Z Z Z Z) Z Z Z ?_|refine aI (zL (u) Z Z Z Z Z) Z Z Z ?_)))|(apply dX;refine cQ tok Z Z Z ?_)|refine WU NI ?_|apply kQ)|first|refine SQ ?_|fail)
 have B:AV.agg [.sl false ((pi (j.ph.map xN).length (xE ⟨0,0⟩)).take (j.ph.map xN).length),iA 0,.sl false [iA (jH j 0 0 0),iA (jH j 1 0 0)],iA j.st]=JU (Th j):=by
  rw[zA2 zV,z,<-A];rfl
 exact zI [] Z Z B Z
theorem Jx (p:Nat->Bool) {n q:Nat} (u:n<=8) (z:q<n):PW (kO p n) q=p q:=by
 have e:=GN (λi=>decide (i<n)&&p i) n 8 u (λi h1 h2=>by rw[zAu zB];rfl)
 grind [PW,kO,bV,Vm]
theorem De (z:List Ph) (u:Bool) (i:Nat):∀n,XO z u i n=kO (Hr z u i) n
 |0=>rfl
 |n+1=>by
  unfold XO kO;rw[De z u i n];have:(2:Int) ^ n=p2 n:=by unfold p2;rw[zBh]
  rw[this]
theorem Jt (u:List Ph) (z:Bool) {q:Nat} (A:ln u<=8) (C:p<ln u) (B:q<ln u):kC (fG u z (ln u)) p q=Hr u z p q:=by
 have hl:(fG u z (ln u)).length=ln u:=by simp[fG]
 unfold kC;rw[zAw zB,zA3,zBh]
 have e:(fG u z (ln u)).getD p dd=XO u z p (ln u):=by
  grind [kC,fG,Hr]
 rw[e,De];exact Jx _ A B
theorem Al (d:Dk) (l:List (Int×Int)):∀i k,k<i->∃e,(JW d l i).1.getD k dd=UY e (l.getD k dd)
 |0,k,h=>absurd h (zCp _)
 |i+1,k,h=>by
  have hl:=UZ d l i;unfold JW;by_cases hk:k=i
  .subst hk;refine⟨(JW d l k).2,?_⟩;simp[p5,hl]
  .obtain⟨e,u⟩:=Al d l i k zB;refine⟨e,?_⟩;rw[<-u];simp only[zA5];rw[zBw zB]
def ShB (l:List (Int×Int)):Bool:=(l.all λs=>decide (0<=s.1/\s.1<=1/\0<=s.2/\s.2<=3))&&(l.all λs=>[0,1,2].all λg:Int=>decide (s.2<=g)||(l.any λu=>u.2==g))
def zm (n:Int):ShB (qQ n)=true:=by
 unfold qQ;split
 .decide
 split
 .decide
 split
 .decide
 split
 .decide
 split
 .decide
 .decide
theorem BB (d:Dk) (s:Int×Int):(UY d s).ring=s.1/\(UY d s).group=s.2/\1<=(UY d s).ming/\(UY d s).ming<=(UY d s).maxg/\(UY d s).maxg<=60/\1<=(UY d s).yel/\(UY d s).yel<=60/\0<=(UY d s).red/\(UY d s).red<=60/\0<=(UY d s).walk/\(UY d s).walk<=60/\0<=(UY d s).clear/\(UY d s).clear<=60/\(UY d s).walk+(UY d s).clear<=(UY d s).maxg/\((UY d s).walk=0↔(UY d s).clear=0):=by
 have u:=yQ d (3-1+1) zB;have z:=yQ (ad d) (2-1+1) zB;have A:=yQ (ad (ad d)) 3 zB;have B:=yQ (ad (ad (ad (ad d)))) (2-1+1) zB;have C:=yQ (ad (ad (ad (ad (ad d))))) (2-1+1) zB;have E:=yQ (ad (ad (ad (ad (ad (ad d)))))) 4 zB;have G:=yQ (ad (ad (ad (ad d)))) 4 zB;unfold UY
 grind [Dk,UY]
theorem Az (d:Dk):JV (MG d):=by
 have ap:=MH (nx d 6);have z:=zm (nx d 6);have ar:=yQ (ad d) 3 zB;have B:(VW d).1.length=(qQ (nx d 6)).length:=UZ _ _ _
 have G:∀k,k<(VW d).1.length->∃e,yG (MG d) k=UY e ((qQ (nx d 6)).getD k dd):=λk hk=>by
  rw[B]at hk;exact Al _ _ _ k hk
 have u:(MG d).ph=(VW d).1:=rfl;generalize qQ (nx d 6)=U at *;generalize M:(nx (VW d).2 4==3)=E at *;have L:(MG d).cf=fG (VW d).1 E (VW d).1.length:=by unfold MG;rw[M]
 unfold ShB at z;simp only[zA4,zA7,zAz,zC5,zCl,zB8]at z
 have C:∀k,k<(VW d).1.length->U.getD k dd∈U:=λk hk=>by
  grind
 have I:∀p q:Nat,p<(VW d).1.length->q<(VW d).1.length->kC (MG d).cf p q=Hr (VW d).1 E p q:=λp q A S=>by
  grind [Dk,MG,Jt]
 have V:(MG d).cf.length=(VW d).1.length:=by rw[L];simp[fG]
 refine⟨?_,?_,?_,?_,?_,?_,?_,?_,?_,?_,?_⟩
 .rw[u];omega
 .grind
 .intro i hi;rw[u]at hi⊢
  have e:(MG d).cf.getD i dd=XO (VW d).1 E i (VW d).1.length:=by
   grind [Dk,MG,fG,p5]
  rw[e];exact PX _ _ _ _
 .grind [Dk,MG,Hr]
 .grind [Dk,MG,Hr,VW]
 .intro p q A S O h;rw[u]at A S;rw[I p q A S];unfold Hr;rw[show(p != q)=true by simpa using O,zA3]
  rcases h with h|h
  .rw[show(((VW d).1.getD p dd).ring==((VW d).1.getD q dd).ring)=true from zB8.2 h];rfl
  .rw[show(((VW d).1.getD p dd).group != ((VW d).1.getD q dd).group)=true from zCy.2 h];simp
 .grind [Dk,MG,BB]
 .grind [Dk,MG,BB]
 .grind [Dk,MG,BB]
 .intro p A g ac Y;obtain⟨e,W⟩:=G p A;rw[W,(BB e _).2.1]at Y;have h3:=z.1 _ (C p A)
  have ag:g∈([0,1,2]:List Int):=by
   grind
  grind [Dk,MG,List.getElem_of_mem,BB,p5]
 all_goals grind [Dk,MG]
def Ix (s p:Int) (A:0<=s/\s<256) (z:0<=p/\p<8):zN 73 [iA s,iA p] [] (bA (PW s p)) []:=by
 unfold PW;by_cases u:kX (vQ s p) 1=1
 .rw[show(kX (vQ s p) 1==1)=true by rw[zB8];exact u];refine eM call73 λF hF=>?_
  exact mx
 .rw[show(kX (vQ s p) 1==1)=false by rw[zBn];exact u];refine eM call73 λF hF=>?_
  exact mx
def kK (u:List Int) (C:ln u<=40) (p q:Int):zN 74 [zE iA u,iA p,iA q] [] (bA (kC u p q)) []:=by
 have hl:=zA iA u;unfold kC;by_cases h1:0<=p
 case neg=>
  rw[zAu (λh=>h1 h.1)];refine eM call74 λF hF=>?_
  exact mx
 by_cases z:p<ln u
 case neg=>
  rw[zAu (λh=>z h.2.2.1)];refine eM call74 λF hF=>?_
  exact mx
 by_cases h2:0<=q
 case neg=>
  rw[zAu (λh=>h2 h.2.1)];refine eM call74 λF hF=>?_
  exact mx
 by_cases A:q<ln u
 case neg=>
  rw[zAu (λh=>A h.2.2.2)];refine eM call74 λF hF=>?_
  exact mx
 rw[zAw ⟨h1,h2,z,A⟩,zA3];have E:=yE iA u p h1 z;generalize u.getD p.toNat dd=x at *;by_cases B:kX (vQ x q) 1=1
 .rw[show(kX (vQ x q) 1==1)=true by rw[zB8];exact B];refine eM call74 λF hF=>?_
  exact mx
 .rw[show(kX (vQ x q) 1==1)=false by rw[zBn];exact B];refine eM call74 λF hF=>?_
  exact mx
def ym (z:List Int) (M:ln z<=8) (s:Int) (I:0<=s/\s<256) (A:∀a b:Nat,a<ln z->b<ln z->(PW s a&&(PW s b&&kC z a b))=false):zN 28 [zE iA z,iA s] [] (.tup [iA (-1),iA (-1)]) []:=by
 have hl:=zA iA z;refine eM call28 λF hF=>?_
 refine WW ?_;refine zO (ln z) [] [] [0,1,9] [10,0,1,9] Z (λi T U=>⟨(10,iA i)::T,U⟩) (Lq ?_ ?_)
 .intro u L;have B:=Ix s u I zB;refine WW ?_;refine zO (ln z) [] [] [0,1,6,9,10,14] [15,0,1,6,9,10,14] Z (λi T U=>⟨(15,iA i)::T,U⟩) (Lq ?_ ?_)
  .intro v hv;have C:=Ix s v I zB;have G:=kK z zB u v;have h:=A u v L hv
   cases E:PW s u with
   |false=>
    rw[E]at B;refine zS B ?_;rfl
   |true=>
   rw[E]at B;rw[E,zA3]at h
   cases h2:PW s v with
   |false=>
    rw[h2]at C;refine yF (xQ B C) ?_;rfl
   |true=>
    rw[h2]at C;rw[h2,zA3]at h;rw[h]at G;refine yF (qC B C G) ?_;rfl
  .clear A;refine WW ?_;rfl
 .clear A;exact mx
def QC (a:Int):Bool:=decide (a=1\/a=2)
def ZP (a:Int):zN 285 [iA a] [] (bA (QC a)) []:=by
 unfold QC
 (cases hb:decide (a=1\/a=2)with|false=>((refine eM call285 λF hF=>?_);((refine WW (I2 (λhc=>?_) λhc=>?_)));all_goals (first|exact zH|(simp only[QC,zA6]at hb;first|exact MP|exact OB)))|true=>(simp only[QC,zAz]at hb;(refine eM call285 λF hF=>?_);((refine WW (I2 (λhc=>?_) λhc=>?_)));all_goals (first|exact zH|exact MP|exact OB)))
def ZQ (a:Int):zN 256 [iA a] [] (bA (QC a)) []:=by
 unfold QC
 (cases hb:decide (a=1\/a=2)with|false=>((refine eM call256 λF hF=>?_);((repeat' (first|refine uS ?_|apply yW|apply xH|intro hc|(apply zG;first|refine SM ?_)|fail)));all_goals (first|exact zH|(simp only[QC,zA6]at hb;first|exact MP|exact OB)))|true=>(simp only[QC,zAz]at hb;(refine eM call256 λF hF=>?_);((repeat' (first|refine uS ?_|apply yW|apply xH|intro hc|(apply zG;first|refine SM ?_)|fail)));all_goals (first|exact zH|exact MP|exact OB)))
def RB (u:List Li) (k:Int) (p:Nat):Int:=if(p:Int)=k then 1 else(u.getD p dd).lamp
def bR (u:List Li) (k:Int):List Int:=(py (ln u)).map (RB u k)
def BC (u:List Li) (k:Int):(bR u k).length=ln u:=by simp[bR]
def xm (f:Nat->Int) (n i:Nat) (h:i<n) (x:Int) (u:x=f i):(((List.range i).map f++List.replicate (n-i) 0).map iA).set i (iA x)=((List.range (i+1)).map f++List.replicate (n-(i+1)) 0).map iA:=by
 subst u;rw[<-zCe,show n-i=(n-(i+1))+1 by omega,zFk,zEs _ _ zV,zAt,zCd,zDx,zFv,zCt];simp
def BD (f:Nat->Int) (n i:Nat) (h:i<=n):(((List.range i).map f++List.replicate (n-i) 0).map iA).length=n:=by
 simp;omega
theorem Gt (f:Nat->Int) (n i:Nat) (h:i<n):(((List.range i).map f++List.replicate (n-i) 0).map iA)[i]? =some (iA 0):=by grind
def o0 (u:List Li) (M:ln u<=1000) (k:Int):zN 230 [zE xE u,iA k] [] (zE iA (bR u k)) []:=by
 have hl:=zA xE u;have B:pi (ln u) (AV.s (.int .i64 0))=((py 0).map (RB u k)++pi (ln u-0) 0).map iA:=by simp[iA]
 obtain⟨n,C⟩:∃n,ln u=n:=⟨_,rfl⟩;refine eM call230 λF hF=>?_
 refine WW ?_;refine zO (ln u) [10] [] [1,5,11,12] [13,1,5,11,12] Z (λi T U=>⟨(13,iA i)::T,(10,.arr 1 (((py i).map (RB u k)++pi (ln u-i) 0).map iA) false)::U⟩) ?_;(conv=>whnf);refine⟨by(rw[<-B,<-hl];rfl),?_,?_⟩
 .intro i hi;have O:=zJ xE u i hi;have A:=BD (RB u k) (ln u) i zB;have G:=Gt (RB u k) (ln u) i hi;have E:=xm (RB u k) (ln u) i hi (RB u k i) Z
  have z:RB u k i=if(i:Int)=k then 1 else(u.getD i dd).lamp:=rfl
  generalize ((py i).map (RB u k)++pi (ln u-i) 0).map iA=xs,((py (i+1)).map (RB u k)++pi (ln u-(i+1)) 0).map iA=ys,RB u k i=v,u.getD i dd=t at *;rw[<-E];clear E B C;by_cases hk:(i:Int)=k
  .rw[zAs hk]at z;subst z;have I:(xs.set i (iA t.lamp))[i]? =some (iA t.lamp):=by rw[zBs zB]
   have L:(xs.set i (iA t.lamp)).length=ln u:=by simp[A]
   rw[<-zE4 (iA t.lamp)];refine WW ?_;rfl
  .rw[Os hk]at z;subst z;refine WW ?_;rfl
 .have A:=BD (RB u k) (ln u) (ln u) (zAy _)
  have e:zE iA (bR u k)= .sl false ((((py (ln u)).map (RB u k)++pi (ln u-u.length) 0).map iA).take (u.map xE).length):=by
   rw[zA2 zB,zDx,List.replicate_zero,zBo];rfl
  rw[e];clear e B;generalize ((py (ln u)).map (RB u k)++pi (ln u-u.length) 0).map iA=xs at *;exact mx
def Ft (u:List Li) (B:ln u<=1000) (k:Int):zN 199 [zE xE u,iA k] [] (zE iA (bR u k)) []:=by
 have hl:=zA xE u;refine eM call199 λF hF=>?_
 refine WW ?_;refine zQ 5 1001 1 Z Z Z ?_;refine zO (ln u) [1001] [] [1,8,9] [5,10,1,8,9] Z (λi T U=>⟨(5,.ref 1001 0 (((py i).map (RB u k)).map iA).length)::(10,iA i)::T,(1001,.arr 1 (((py i).map (RB u k)).map iA) true)::U⟩) (Lq ?_ ?_)
 .intro i hi;have C:=zJ xE u i hi;have A:(((py i).map (RB u k)).map iA).length=i:=by simp
  have e:((py (i+1)).map (RB u k)).map iA=((py i).map (RB u k)).map iA++[iA (RB u k i)]:=by rw[zCt];simp
  have z:RB u k i=if(i:Int)=k then 1 else(u.getD i dd).lamp:=rfl
  rw[e];clear e;generalize ((py i).map (RB u k)).map iA=xs,RB u k i=v,u.getD i dd=t at *;by_cases hk:(i:Int)=k
  .rw[zAs hk]at z;subst z;refine WW ?_;rfl
  .rw[Os hk]at z;subst z;refine WW ?_;rfl
 .have A:(((py (ln u)).map (RB u k)).map iA).length=ln u:=by simp
  rw[show zE iA (bR u k)= .sl false ((((py (ln u)).map (RB u k)).map iA).take (((py (ln u)).map (RB u k)).map iA).length) by rw[zAv];rfl];generalize ((py (ln u)).map (RB u k)).map iA=xs at *;exact mx
def JT (z u:List Int) (p q:Nat):Bool:=QC (u.getD p dd)&&(QC (u.getD q dd)&&kC z p q)
def wm (z u:List Int):Bool:=(py (ln u)).any λp=>(py (ln u)).any λq=>JT z u p q
theorem Hx {z u:List Int} (h:wm z u=false) (p q:Nat) (A:p<ln u) (B:q<ln u):JT z u p q=false:=by grind [wm,JT]
theorem vm {A z:List Int} (h:wm A z=true):∃p q:Nat,p<ln z/\q<ln z/\JT A z p q=true/\(∀u,u<p->∀v,v<ln z->JT A z u v=false)/\(∀v,v<q->JT A z p v=false):=by
 unfold wm at h;rw[zCl]at h;obtain⟨a,L,h⟩:=h;rw[zCl]at h;obtain⟨b,hb,h⟩:=h;obtain⟨p,C,⟨v,hv,B⟩,E⟩:=ME (P:=λp=>∃v,v<ln z/\JT A z p v=true) a ⟨b,zBj.1 hb,h⟩;obtain⟨q,I,M,G⟩:=ME (P:=λq=>JT A z p q=true) v B
 grind
theorem Z0 (M z:List Int) (V:ln M<=40) (hn:ln z<=1000):zN 231 [zE iA M,zE iA z] [] (bA (wm M z)) []:=by
 have hl:=zA iA z
 cases hf:wm M z with
 | false=>
  have ag:=Hx hf;clear hf;refine eM call231 λF hF=>?_
  (repeat' (first|refine WS ?_|refine SG (I2 (λhc=>?_) λhc=>?_)|refine SG λhc=>?_|(apply zG;first|refine SM ?_)|(first|first|refine SR ?_|refine SK (I2 (λhc=>?_) λhc=>?_)|refine SK λhc=>?_|fail|apply bW|apply bX)|fail))
  refine zO (ln z) [] [] [0,1,10,11] [5,12,0,1,10,11] Z (λi T U=>⟨(5,bA false)::(12,iA i)::T,U⟩) (Lq ?_ ?_)
  .intro u hu;have hy:=zJ iA z u hu;have G:=ZP (z.getD u dd);have C:=ag u;unfold JT at C;clear ag
   cases hb:QC (z.getD u dd)with
   |false=>
    rw[hb]at G;generalize z.getD u dd=a at *;clear C;refine zS G ?_;rfl
   | true=>
    rw[hb]at G;generalize z.getD u dd=a at *;refine zS G ?_;refine zO (ln z) [] [] [0,1,6,10,11,12,20,21] [5,22,0,1,6,10,11,12,20,21] Z (λi T U=>⟨(5,bA false)::(22,iA i)::T,U⟩) (Lq ?_ ?_)
    .intro v hv;have au:=zJ iA z v hv;have E:=ZP (z.getD v dd);have L:=gU M V u v;have h:=C v hu hv;rw[hb,zA3]at h;generalize z.getD v dd=b at *;clear C G
     cases A:QC b with
     |false=>
      rw[A]at E;refine zS E ?_;rfl
     |true=>
      rw[A,zA3]at h;rw[A]at E;rw[h]at L;refine yF (xQ E L) ?_;rfl
    ·(refine WW ?_)
     rfl
  ·(repeat' (first|refine WS ?_|refine SG (I2 (λhc=>?_) λhc=>?_)|refine SG λhc=>?_|(apply zG;first|refine SM ?_)|(first|first|refine SR ?_|refine SK (I2 (λhc=>?_) λhc=>?_)|refine SK λhc=>?_|fail|apply bW|apply bX)|fail))
   exact zH
 | true=>
  obtain⟨p,q,hp,hq,B,W,ac⟩:=vm hf;clear hf;have Y:QC (z.getD p dd)=true:=by unfold JT at B;rw[zA4]at B;exact B.1
  have S:QC (z.getD q dd)=true:=by unfold JT at B;rw[zA4,zA4]at B;exact B.2.1
  have O:kC M p q=true:=by unfold JT at B;rw[zA4,zA4]at B;exact B.2.2
  clear B;refine eM call231 λF hF=>?_
  (repeat' (first|refine WS ?_|refine SG (I2 (λhc=>?_) λhc=>?_)|refine SG λhc=>?_|(apply zG;first|refine SM ?_)|(first|first|refine SR ?_|refine SK (I2 (λhc=>?_) λhc=>?_)|refine SK λhc=>?_|fail|apply bW|apply bX)|fail))
  refine yU (ln z) [] [] [0,1,10,11] [5,12,0,1,10,11] Z (λi T U zs=>(i<=p)/\zs=⟨(5,bA false)::(12,iA i)::T,U⟩) (Lp ?_ ?_ ?_)
  .exact⟨zBb _,rfl⟩
  .rintro u st hu ⟨hup,rfl⟩;have hy:=zJ iA z u hu;have G:=ZP (z.getD u dd);by_cases ap:u=p
   .subst ap;rw[Y]at G
    have I:∀v,v<q->(QC (z.getD v dd)&&kC M u v)=false:=λv hv=>by
     have h:=ac v hv;unfold JT at h;rw[Y,zA3]at h;exact h
    clear W ac;generalize z.getD u dd=a at *;refine zS G ?_;refine yU (ln z) [] [] [0,1,6,10,11,12,20,21] [5,22,0,1,6,10,11,12,20,21] Z (λi T U zs=>(i<=q)/\zs=⟨(5,bA false)::(22,iA i)::T,U⟩) (Lp ?_ ?_ ?_)
    .exact⟨zBb _,rfl⟩
    .rintro v st hv ⟨hvq,rfl⟩;have au:=zJ iA z v hv;have E:=ZP (z.getD v dd);have L:=gU M V u v;by_cases ar:v=q
     .subst ar;rw[S]at E;rw[O]at L;clear S O I G;generalize z.getD v dd=b at*
      (have gd:=E;have gn:=L;(repeat' (first|refine WS ?_|refine SG (I2 (λhc=>?_) λhc=>?_)|refine SG λhc=>?_|(apply zG;first|refine SM ?_)|(first|first|refine SR ?_|refine SK (I2 (λhc=>?_) λhc=>?_)|refine SK λhc=>?_|fail|apply bW|apply bX)|fail))<;>clear gd gn)
      exact zH
     .have h:=I v zB;clear S O I G;generalize z.getD v dd=b at*
      cases A:QC b with
      |false=>
       rw[A]at E;refine zS E ?_;exact⟨zB,rfl⟩
      |true=>
       rw[A,zA3]at h;rw[A]at E;rw[h]at L;refine yF (xQ E L) ?_;exact⟨zB,rfl⟩
    .rintro st ⟨hvq,rfl⟩;exfalso;omega
   .have C:=W u zB;unfold JT at C;clear Y S O W ac
    cases hb:QC (z.getD u dd)with
    |false=>
     rw[hb]at G;generalize z.getD u dd=a at *;clear C;refine zS G ?_;exact⟨zB,rfl⟩
    | true=>
     rw[hb]at G;generalize z.getD u dd=a at *;refine zS G ?_;refine zO (ln z) [] [] [0,1,6,10,11,12,20,21] [5,22,0,1,6,10,11,12,20,21] Z (λi T U=>⟨(5,bA false)::(22,iA i)::T,U⟩) (Lq ?_ ?_)
     .intro v hv;have au:=zJ iA z v hv;have E:=ZP (z.getD v dd);have L:=gU M V u v;have h:=C v hv;rw[hb,zA3]at h;generalize z.getD v dd=b at *;clear C G
      cases A:QC b with
      |false=>
       rw[A]at E;refine zS E ?_;rfl
      |true=>
       rw[A,zA3]at h;rw[A]at E;rw[h]at L;refine yF (xQ E L) ?_;rfl
     ·(refine WW ?_)
      exact⟨zB,rfl⟩
  .rintro st ⟨hup,rfl⟩;exfalso;omega
theorem Et (M z:List Int) (V:ln M<=40) (hn:ln z<=1000):zN 198 [zE iA M,zE iA z] [] (bA (wm M z)) []:=by
 have hl:=zA iA z
 cases hf:wm M z with
 | false=>
  have ag:=Hx hf;clear hf;refine eM call198 λF hF=>?_
  refine WW ?_;refine zO (ln z) [] [] [0,1,9,10] [11,0,1,9,10] Z (λi T U=>⟨(11,iA i)::T,U⟩) (Lq ?_ ?_)
  .intro u hu;have hy:=zJ iA z u hu;have E:=ZQ (z.getD u dd);have G:=ag u;unfold JT at G;clear ag;refine WW ?_;refine zO (ln z) [] [] [0,1,5,6,9,10,11,16,17] [18,0,1,5,6,9,10,11,16,17] Z (λi T U=>⟨(18,iA i)::T,U⟩) (Lq ?_ ?_)
   .intro v hv;have au:=zJ iA z v hv;have C:=ZQ (z.getD v dd);have L:=kK M V u v;have h:=G v hu hv;clear G;generalize z.getD v dd=b at *;generalize z.getD u dd=a at*
    cases hb:QC a with
    |false=>
     rw[hb]at E;refine zS E ?_;rfl
    | true=>
     rw[hb]at E;rw[hb,zA3]at h
     cases A:QC b with
     |false=>
      rw[A]at C;refine yF (xQ E C) ?_;rfl
     |true=>
      rw[A,zA3]at h;rw[A]at C;rw[h]at L;refine yF (qC E C L) ?_;rfl
   ·(refine WW ?_)
    rfl
  .exact mx
 | true=>
  obtain⟨p,q,hp,hq,B,W,ac⟩:=vm hf;clear hf;have Y:QC (z.getD p dd)=true:=by unfold JT at B;rw[zA4]at B;exact B.1
  have S:QC (z.getD q dd)=true:=by unfold JT at B;rw[zA4,zA4]at B;exact B.2.1
  have O:kC M p q=true:=by unfold JT at B;rw[zA4,zA4]at B;exact B.2.2
  clear B;refine eM call198 λF hF=>?_
  refine WW ?_;refine yU (ln z) [] [] [0,1,9,10] [11,0,1,9,10] Z (λi T U zs=>(i<=p)/\zs=⟨(11,iA i)::T,U⟩) (Lp ?_ ?_ ?_)
  .exact⟨zBb _,rfl⟩
  .rintro u st hu ⟨hup,rfl⟩;have hy:=zJ iA z u hu;have E:=ZQ (z.getD u dd);by_cases ap:u=p
   .subst ap;rw[Y]at E
    have I:∀v,v<q->(QC (z.getD v dd)&&kC M u v)=false:=λv hv=>by
     have h:=ac v hv;unfold JT at h;rw[Y,zA3]at h;exact h
    clear W ac;generalize z.getD u dd=a at *;refine WW ?_;refine yU (ln z) [] [] [0,1,5,6,9,10,11,16,17] [18,0,1,5,6,9,10,11,16,17] Z (λi T U zs=>(i<=q)/\zs=⟨(18,iA i)::T,U⟩) (Lp ?_ ?_ ?_)
    .exact⟨zBb _,rfl⟩
    .rintro v st hv ⟨hvq,rfl⟩;have au:=zJ iA z v hv;have C:=ZQ (z.getD v dd);have L:=kK M V u v;by_cases ar:v=q
     .subst ar;rw[S]at C;rw[O]at L;clear S O I;generalize z.getD v dd=b at *;exact ng (qC E C L)
     .have h:=I v zB;clear S O I;generalize z.getD v dd=b at*
      cases A:QC b with
      |false=>
       rw[A]at C;refine yF (xQ E C) ?_;exact⟨zB,rfl⟩
      |true=>
       rw[A,zA3]at h;rw[A]at C;rw[h]at L;refine yF (qC E C L) ?_;exact⟨zB,rfl⟩
    .rintro st ⟨hvq,rfl⟩;exfalso;omega
   .have G:=W u zB;unfold JT at G;clear Y S O W ac;refine WW ?_;refine zO (ln z) [] [] [0,1,5,6,9,10,11,16,17] [18,0,1,5,6,9,10,11,16,17] Z (λi T U=>⟨(18,iA i)::T,U⟩) (Lq ?_ ?_)
    .intro v hv;have au:=zJ iA z v hv;have C:=ZQ (z.getD v dd);have L:=kK M V u v;have h:=G v hv;clear G;generalize z.getD v dd=b at *;generalize z.getD u dd=a at*
     cases hb:QC a with
     |false=>
      rw[hb]at E;refine zS E ?_;rfl
     | true=>
      rw[hb]at E;rw[hb,zA3]at h
      cases A:QC b with
      |false=>
       rw[A]at C;refine yF (xQ E C) ?_;rfl
      |true=>
       rw[A,zA3]at h;rw[A]at C;rw[h]at L;refine yF (qC E C L) ?_;rfl
    ·(refine WW ?_)
     exact⟨zB,rfl⟩
  .rintro st ⟨hup,rfl⟩;exfalso;omega
def C5 (j:Jn) (c u:Ct):Prop:=∀q:Nat,q<ln j.ph->xR u q=xR c q\/((xR c q).lamp=0/\xR u q=⟨1,0⟩)
theorem C5.refl (j:Jn) (c:Ct):C5 j c c:=λq _=> .inl Z
theorem C5.trans {a b c:Ct} (h:C5 j a b) (g:C5 j b c):C5 j a c:=λq u=>by
 rcases h q u with h|⟨h1,h2⟩<;>rcases g q u with g|⟨g1,g2⟩
 .exact .inl (g.trans h)
 .exact .inr ⟨by rw[<-h];exact g1,g2⟩
 .exact .inr ⟨h1,g.trans h2⟩
 .rw[h2]at g1;exact absurd g1 yY
def Y0 {c:Ct} {r:Int} (h:VH j c r=true) (u:p<ln j.ph) (z:(yG j p).ring=r):(xR c p).lamp=0:=by grind [VH,yG,xR,List.all_eq_true,cT]
def Ce (p:Ph) (h:Ex p):zN 147 [xN p] [] (iA (yf p)) []:=by
 obtain⟨h1,h2,u,z⟩:=h;refine eM call147 λF hF=>?_
 exact mx
def Bt (p:Ph) (h:Ex p) (E:p.yel<=60) (C:0<=p.red/\p.red<=60) (l:Li) (hv:Ea p l=true) (lv:Bool):zN 250 [xN p,xE l,bA lv] [] (xE (BJ p l lv)) []:=by
 have c:=Ce p h;have G:=pm hv E C.2;unfold Ea at hv;unfold BJ;by_cases B:l.lamp=0
 .rw[zAs B,zAz]at hv;rw[Os zB,Os zB,Os zB];have u:xE l= .agg [iA 0,iA 0]:=by unfold xE;rw[B,hv]
  rw[u]
  cases lv<;>((refine eM call250 λF hF=>?_);exact mx)
 rw[Os B]at hv;by_cases h1:l.lamp=1
 .rw[zAs h1];generalize yf p=n at*
  cases lv with
  |false=>
   rw[Os (λh=>by cases h.1)];have u:xE ⟨1,min (l.tk+1) 1073741824⟩= .agg [iA l.lamp,iA (min (l.tk+1) 1073741824)]:=by rw[h1];rfl
   rw[u];refine eM call250 λF hF=>?_
   exact mx
  |true=>
  by_cases h2:n<=l.tk+1
  .rw[zAs ⟨rfl,h2⟩];refine eM call250 λF hF=>?_
   exact nl c
  .rw[Os (λh=>h2 h.2)];have u:xE ⟨1,min (l.tk+1) 1073741824⟩= .agg [iA l.lamp,iA (min (l.tk+1) 1073741824)]:=by rw[h1];rfl
   rw[u];refine eM call250 λF hF=>?_
   exact nl c
 rw[Os h1]at hv⊢;by_cases h2:l.lamp=2
 .rw[zAs h2,zAz]at hv;rw[zAs h2];by_cases z:l.tk+1<p.yel
  .rw[zAs z];have u:xE ⟨2,l.tk+1⟩= .agg [iA l.lamp,iA (min (l.tk+1) 1073741824)]:=by rw[h2,show min (l.tk+1) 1073741824=l.tk+1 by omega];rfl
   rw[u];refine eM call250 λF hF=>?_
   exact mx
  rw[Os z];by_cases A:p.red=0
  .rw[zAs A];refine eM call250 λF hF=>?_
   exact mx
  .rw[Os A];refine eM call250 λF hF=>?_
   exact mx
 rw[Os h2]at hv⊢;by_cases z:l.lamp=3
 .rw[zAs z,zAz]at hv;rw[zAs z];by_cases A:l.tk+1<p.red
  .rw[zAs A];have u:xE ⟨3,l.tk+1⟩= .agg [iA l.lamp,iA (min (l.tk+1) 1073741824)]:=by rw[z,show min (l.tk+1) 1073741824=l.tk+1 by omega];rfl
   rw[u];refine eM call250 λF hF=>?_
   exact mx
  .rw[Os A];refine eM call250 λF hF=>?_
   exact mx
 .rw[Os z]at hv;cases hv
def W0 (c:Ct) (C:ln c.li<=25):zN 254 [JU c] [] (iA (LT c)) []:=by
 have hl:=zA xE c.li;unfold LT;refine eM call254 λF hF=>?_
 refine WW ?_;refine zO (ln c.li) [] [] [7,8] [3,9,7,8] Z (λi T U=>⟨(3,iA (kO (RD c) i))::(9,iA i)::T,U⟩) (Lq ?_ ?_)
 .intro i hi;have B:=zJ xE c.li i hi
  change (c.li.map xE)[i]? =some (xE (xR c i))at B
  have z:=ZY (RD c) i zB;have A:=AO i zB
  have e:kO (RD c) (i+1)=if RD c i=true then kO (RD c) i+p2 i else kO (RD c) i:=rfl
  have u:RD c i=((xR c i).lamp != 0):=rfl;rw[e,u];generalize kO (RD c) i=b,xR c i=t at *;by_cases h:t.lamp=0
  .rw[Os (by simp[h])];refine WW ?_;rfl
  .rw[zAs (by simp[h])];refine WW ?_;rfl
 .exact mx
def Sh (j:Jn) (z:ln j.ph<=1000) (u:∀p:Nat,p<ln j.ph->0<=(yG j p).group/\(yG j p).group<=3):zN 255 [wD j] [] (iA (gN j)) []:=by
 have hl:=zA xN j.ph;unfold gN;refine eM call255 λF hF=>?_
 refine WW ?_;refine zO (ln j.ph) [] [] [7,8] [3,9,7,8] Z (λi T U=>⟨(3,iA (Da j.ph i))::(9,iA i)::T,U⟩) (Lq ?_ ?_)
 .intro i hi;have A:=zJ xN j.ph i hi;have hb:=u i hi;unfold yG at hb;have e:Da j.ph (i+1)=max (Da j.ph i) ((j.ph.getD i dd).group+1):=rfl;rw[e];generalize Da j.ph i=g,j.ph.getD i dd=t at *;refine WW ?_;rfl
 .exact mx
def G6 (j:Jn) (C:ln j.ph<=1000) (r g:Int):zN 300 [wD j,iA r,iA g] [] (zE nA (VI j r g (ln j.ph))) []:=by
 have hl:=zA xN j.ph;refine eM call300 λF hF=>?_
 refine WW ?_;refine zQ 7 1001 1 Z Z Z ?_;refine zO (ln j.ph) [1001] [] [1,2,11,12] [7,13,1,2,11,12] Z (λi T U=>⟨(7,.ref 1001 0 ((VI j r g i).map nA).length)::(13,iA i)::T,(1001,.arr 1 ((VI j r g i).map nA) true)::U⟩) (Lq ?_ ?_)
 .intro i hi;have B:=zJ xN j.ph i hi
  change (j.ph.map xN)[i]? =some (xN (yG j i))at B
  have z:=BR j r g i
  have u:(VI j r g i).length<=1000:=by
   have:(VI j r g i).length<=(py i).length:=zCj _ _;rw[zCd]at this;omega
  have A:((VI j r g i).map nA).length<=1000:=by rw[zAt];exact u
  rw[z];generalize VI j r g i=o,yG j i=t at *;by_cases h1:t.ring=r
  .by_cases h2:t.group=g
   .rw[zAs ⟨h1,h2⟩,zA0];generalize o.map nA=xs at *;refine WW ?_;rfl
   .rw[Os (λh=>h2 h.2)];refine WW ?_;rfl
  .rw[Os (λh=>h1 h.1)];refine WW ?_;rfl
 ·(refine WW ?_)
  exact zI [] Z Z (vf _ _) Z
theorem V0 (j:Jn) (r g f:Int):jH j r g f=match (VI j r g (ln j.ph)).find? (λp:Nat=>decide (f<=(p:Int)))with
 |some p=>(p:Int)
 |none=> -1:=by grind [jH,VI,QU,LS,yG]
def aM (j:Jn) (S:ln j.ph<=1000) (r g p:Int):zN 260 [wD j,iA r,iA g,iA p] [] (iA (jH j r g (p+1))) []:=by
 have z:=G6 j S r g;rw[V0]
 have G:(VI j r g (ln j.ph)).length<=1000:=by
  have:(VI j r g (ln j.ph)).length<=(py (ln j.ph)).length:=zCj _ _;rw[zCd]at this;omega
 generalize VI j r g (ln j.ph)=o at *;have hl:=zA nA o
 cases A:o.find? (λq:Nat=>decide (p+1<=(q:Int)))with
 | some q=>
  dsimp only;rw[List.find?_eq_some_iff_getElem]at A;obtain⟨V,I,O,M,hb⟩:=A;rw[zAz]at V;refine eM call260 λF hF=>?_
  refine zS z ?_;refine yU (ln o) [] [] [3,14,15] [16,3,14,15] Z (λi T U W=>(i<=I)/\W=⟨(16,iA i)::T,U⟩) (Lp ?_ ?_ ?_)
  .exact⟨zBb _,rfl⟩
  .rintro u st B ⟨hui,rfl⟩;have C:=zJ nA o u B;by_cases e:u=I
   .subst e;have E:o.getD u dd=q:=by rw[<-M];simp[p5,B]
    rw[E]at C;unfold nA at C;clear hb z;exact mx
   .have h2:=hb u zB;have E:o.getD u dd=o[u]:=by simp[p5,B]
    rw[<-E]at h2;have L:¬p+1<=((o.getD u dd:Nat):Int):=by simpa using h2
    generalize o.getD u dd=v at *;unfold nA at C;clear hb z h2;refine WW ?_;exact⟨zB,rfl⟩
  .rintro st ⟨hui,rfl⟩;exfalso;omega
 | none=>
  dsimp only;rw[List.find?_eq_none]at A;refine eM call260 λF hF=>?_
  refine zS z ?_;refine zO (ln o) [] [] [3,14,15] [16,3,14,15] Z (λi T U=>⟨(16,iA i)::T,U⟩) (Lq ?_ ?_)
  .intro u B;have C:=zJ nA o u B;have h2:=A (o.getD u dd) (by simp[p5,B]);have L:¬p+1<=((o.getD u dd:Nat):Int):=by simpa using h2
   generalize o.getD u dd=v at *;unfold nA at C;clear A z h2;refine WW ?_;rfl
  .clear A z;exact mx
def Jr (u z:Int):Nat->List AV
 |0=>[]
 |1=>[iA u]
 |_+2=>[iA u,iA z]
def NZ (j:Jn) (G:ln j.ph<=1000) (g S M:Int) (L N:List AV) (I V:Nat):zN 214 [wD j,.ptr 3000 0 0,iA g] [(3000,.box [.ref 1001 0 I,iA S,.ref 1002 0 V,iA M]),(1001,.arr 2 L false),(1002,.arr 1 N false)] (.tup [])
  [(3000,.box [.ref 1001 0 I,iA g,.ref 2001 0 2,iA M]),(1001,.arr 2 L false),(1002,.arr 1 N false),(2001,.arr 1 [iA (jH j 0 g 0),iA (jH j 1 g 0)] false)]:=by
 have C:=aM j G 0 g (-1);have E:=aM j G 1 g (-1);rw[show(-1:Int)+1=0 by omega]at C E;generalize jH j 0 g 0=u,jH j 1 g 0=z at *;obtain⟨B,A⟩:∃n:Nat,n=2:=⟨2,rfl⟩;refine eM call214 λF hF=>?_
 refine WW ?_;refine zQ 6 2001 1 Z Z Z ?_;refine zO (B) [2001,3,3000,1001,1002] [3,3000,1001,1002] [1,2,3] [6,8,1,2,3] Z (λi T U=>⟨(6,.ref 2001 0 (Jr u z i).length)::(8,iA i)::T,(2001,.arr 1 (Jr u z i) (i != 1))::U⟩) (Lq ?_ ?_)
 .intro i hi;have:i=0\/i=1:=by omega
  rcases this with rfl|rfl
  .have hl:(Jr u z 0).length=0:=rfl;refine zS C ?_;rfl
  .have hl:(Jr u z 1).length=1:=rfl;refine zS E ?_;rfl
 .have O:Jr u z B=[iA u,iA z]:=by rw[A];rfl
  have e3:(B != 1)=true:=by rw[A];rfl
  rw[O,e3]
  (repeat' (first|refine ub ?_|apply yW|apply xH|intro hc|(apply zG;first|refine SM ?_)|fail))
  refine yD Z (xS ?_);refine kE 2001 [6] Z Z Z Z Z ?_;refine WW ?_;exact uV [3000,1001,1002,2001] Z Z Z Z
theorem bS (j:Jn) (J:JV j) (hn:ln j.ph<=1000) (G:ln j.cf<=40) (c:Ct) (hc:ln c.li=ln j.ph) (hm:ln c.nx=2) (p:Nat) (V:p<ln j.ph) (hr:0<=(yG j p).ring/\(yG j p).ring<=1) (E:dQ j c p=true\/c.gr=(yG j p).group):
  zN 253 [wD j,.ptr 3000 0 0,iA (p:Int)] (qU c 1002) (.tup []) (qU (uD j c p) 1002):=by
 have ar:=zA xN j.ph;have ag:=zA xE c.li;have ap:=zA iA c.nx;have I:=zJ xN j.ph p V
 change (j.ph.map xN)[p]? =some (xN (yG j p))at I
 have L:=aM j hn (yG j p).ring (yG j p).group p;unfold uD;by_cases hk:dQ j c p=true
 case pos=>
  rw[zAs hk];unfold dQ at hk;rw[zCl]at hk;obtain⟨M,W,hk⟩:=hk;rw[zBj]at W;unfold qU;refine eM call253 λF hF=>?_
  refine WW ?_;refine yU (ln c.li) [3,3000,1001,1002] [3,3000,1001,1002] [1,2,3,12,13] [14,1,2,3,12,13] Z (λi T U zs=>(i<=M)/\zs=⟨(14,iA i)::T,U⟩) (Lp ?_ ?_ ?_)
  .exact⟨zBb _,rfl⟩
  .rintro i st hi ⟨hiq,rfl⟩;have hy:=zJ xE c.li i hi
   change (c.li.map xE)[i]? =some (xE (xR c i))at hy
   have u:=kK j.cf G i p;rw[J.sy i p zB V]at u;by_cases hb:((xR c i).lamp != 0&&kC j.cf p i)=true
   .rw[zA4]at hb;have h1:(xR c i).lamp≠0:=by simpa using hb.1
    rw[hb.2]at u;generalize xR c i=t at *;clear hb L hk;refine zS u ?_;exact zP [3000,1001,1002] Z Z Z Z
   .have au:i<M:=by
     rcases zF7 i M with h|h
     .exact h
     .rw[show i=M by omega]at hb;exact absurd hk hb
    rw[zA4]at hb;by_cases h1:(xR c i).lamp=0
    .generalize xR c i=t at *;clear hb hk;refine WW ?_;exact⟨zB,rfl⟩
    .have A:kC j.cf p i=false:=by
      cases A:kC j.cf p i with
      |false=>rfl
      |true=>exact absurd ⟨by simpa using h1,A⟩ hb
     rw[A]at u;generalize xR c i=t at *;clear hb hk;refine zS u ?_;exact⟨zB,rfl⟩
  .rintro st ⟨hiq,rfl⟩;exfalso;omega
 have z:dQ j c p=false:=by simpa using hk
 have S:c.gr=(yG j p).group:=by
  rcases E with E|E
  .exact absurd E hk
  .exact E
 rw[Os hk];have eb:MD j c p=BM c p:=by unfold MD;rw[zAs S]
 rw[eb];unfold dQ at z;rw[zDc]at z;have O:∀q,q<ln c.li->((xR c q).lamp != 0&&kC j.cf p q)=false:=λq A=>by simpa using z q (zBj.2 A)
 unfold BM qU;dsimp only;rw[zCe,zCe,zB9,zB9];clear z hk eb E;generalize jH j (yG j p).ring (yG j p).group (p+1)=fo at *;obtain⟨rn,B⟩:∃n:Nat,(yG j p).ring=n:=⟨(yG j p).ring.toNat,zB⟩;have C:=zJ xE c.li p zB;have ac:=zJ iA c.nx rn zB;generalize Y:xR c p=l0 at*
 change (c.li.map xE)[p]? =some (xE (xR c p))at C
 rw[Y]at C;generalize c.nx.getD rn dd=n0 at *;refine eM call253 λF hF=>?_
 refine WW ?_;refine zO (ln c.li) [3,3000,1001,1002] [3,3000,1001,1002] [1,2,3,12,13] [14,1,2,3,12,13] Z (λi T U=>⟨(14,iA i)::T,U⟩) (Lq ?_ ?_)
 .intro i hi;have hy:=zJ xE c.li i hi
  change (c.li.map xE)[i]? =some (xE (xR c i))at hy
  have u:=kK j.cf G i p;rw[J.sy i p zB V]at u;have hb:=O i hi;clear O C ac L;by_cases h1:(xR c i).lamp=0
  .generalize xR c i=t at *;clear hb;refine WW ?_;rfl
  .have A:kC j.cf p i=false:=by
    cases A:kC j.cf p i with
    |false=>rfl
    |true=>
     rw[A,zDe]at hb;exact absurd JK h1
   rw[A]at u;generalize xR c i=t at *;clear hb;refine zS u ?_;rfl
 .clear O;generalize yG j p=t at *;rw[B,zBh];have et:xN t= .agg [iA rn,iA t.group,iA t.ming,iA t.maxg,iA t.yel,iA t.red,iA t.walk,iA t.clear]:=by rw[<-B];rfl
  rw[et]at I;rw[B]at L;refine zS L ?_;exact uV [3000,1001,1002] Z Z Z Z
theorem ZR (j:Jn) (J:JV j) (hn:ln j.ph<=1000) (G:ln j.cf<=40) (c:Ct) (hc:ln c.li=ln j.ph) (hm:ln c.nx=2) (p:Nat) (V:p<ln j.ph) (hr:0<=(yG j p).ring/\(yG j p).ring<=1) (E:dQ j c p=true\/c.gr=(yG j p).group):
  zN 253 [wD j,.ptr 3000 0 0,iA (p:Int)] (qU c 2001) (.tup []) (qU (uD j c p) 2001):=by
 have ar:=zA xN j.ph;have ag:=zA xE c.li;have ap:=zA iA c.nx;have I:=zJ xN j.ph p V
 change (j.ph.map xN)[p]? =some (xN (yG j p))at I
 have L:=aM j hn (yG j p).ring (yG j p).group p;unfold uD;by_cases hk:dQ j c p=true
 case pos=>
  rw[zAs hk];unfold dQ at hk;rw[zCl]at hk;obtain⟨M,W,hk⟩:=hk;rw[zBj]at W;unfold qU;refine eM call253 λF hF=>?_
  refine WW ?_;refine yU (ln c.li) [3,3000,1001,2001] [3,3000,1001,2001] [1,2,3,12,13] [14,1,2,3,12,13] Z (λi T U zs=>(i<=M)/\zs=⟨(14,iA i)::T,U⟩) (Lp ?_ ?_ ?_)
  .exact⟨zBb _,rfl⟩
  .rintro i st hi ⟨hiq,rfl⟩;have hy:=zJ xE c.li i hi
   change (c.li.map xE)[i]? =some (xE (xR c i))at hy
   have u:=kK j.cf G i p;rw[J.sy i p zB V]at u;by_cases hb:((xR c i).lamp != 0&&kC j.cf p i)=true
   .rw[zA4]at hb;have h1:(xR c i).lamp≠0:=by simpa using hb.1
    rw[hb.2]at u;generalize xR c i=t at *;clear hb L hk;refine zS u ?_;exact zP [3000,1001,2001] Z Z Z Z
   .have au:i<M:=by
     rcases zF7 i M with h|h
     .exact h
     .rw[show i=M by omega]at hb;exact absurd hk hb
    rw[zA4]at hb;by_cases h1:(xR c i).lamp=0
    .generalize xR c i=t at *;clear hb hk;refine WW ?_;exact⟨zB,rfl⟩
    .have A:kC j.cf p i=false:=by
      cases A:kC j.cf p i with
      |false=>rfl
      |true=>exact absurd ⟨by simpa using h1,A⟩ hb
     rw[A]at u;generalize xR c i=t at *;clear hb hk;refine zS u ?_;exact⟨zB,rfl⟩
  .rintro st ⟨hiq,rfl⟩;exfalso;omega
 have z:dQ j c p=false:=by simpa using hk
 have S:c.gr=(yG j p).group:=by
  rcases E with E|E
  .exact absurd E hk
  .exact E
 rw[Os hk];have eb:MD j c p=BM c p:=by unfold MD;rw[zAs S]
 rw[eb];unfold dQ at z;rw[zDc]at z;have O:∀q,q<ln c.li->((xR c q).lamp != 0&&kC j.cf p q)=false:=λq A=>by simpa using z q (zBj.2 A)
 unfold BM qU;dsimp only;rw[zCe,zCe,zB9,zB9];clear z hk eb E;generalize jH j (yG j p).ring (yG j p).group (p+1)=fo at *;obtain⟨rn,B⟩:∃n:Nat,(yG j p).ring=n:=⟨(yG j p).ring.toNat,zB⟩;have C:=zJ xE c.li p zB;have ac:=zJ iA c.nx rn zB;generalize Y:xR c p=l0 at*
 change (c.li.map xE)[p]? =some (xE (xR c p))at C
 rw[Y]at C;generalize c.nx.getD rn dd=n0 at *;refine eM call253 λF hF=>?_
 refine WW ?_;refine zO (ln c.li) [3,3000,1001,2001] [3,3000,1001,2001] [1,2,3,12,13] [14,1,2,3,12,13] Z (λi T U=>⟨(14,iA i)::T,U⟩) (Lq ?_ ?_)
 .intro i hi;have hy:=zJ xE c.li i hi
  change (c.li.map xE)[i]? =some (xE (xR c i))at hy
  have u:=kK j.cf G i p;rw[J.sy i p zB V]at u;have hb:=O i hi;clear O C ac L;by_cases h1:(xR c i).lamp=0
  .generalize xR c i=t at *;clear hb;refine WW ?_;rfl
  .have A:kC j.cf p i=false:=by
    cases A:kC j.cf p i with
    |false=>rfl
    |true=>
     rw[A,zDe]at hb;exact absurd JK h1
   rw[A]at u;generalize xR c i=t at *;clear hb;refine zS u ?_;rfl
 .clear O;generalize yG j p=t at *;rw[B,zBh];have et:xN t= .agg [iA rn,iA t.group,iA t.ming,iA t.maxg,iA t.yel,iA t.red,iA t.walk,iA t.clear]:=by rw[<-B];rfl
  rw[et]at I;rw[B]at L;refine zS L ?_;exact uV [3000,1001,2001] Z Z Z Z
theorem BE (j:Jn) (J:JV j) (hn:ln j.ph<=1000) (M:ln j.cf<=40) (c:Ct) (hc:ln c.li=ln j.ph) (hm:ln c.nx=2) (p:Nat) (hp:p<ln j.ph) (hr:0<=(yG j p).ring/\(yG j p).ring<=1) (u:dQ j c p=false) (S:c.gr≠(yG j p).group):
  zN 253 [wD j,.ptr 3000 0 0,iA (p:Int)] (qU c 1002) (.tup []) (aN (uD j c p) c.nx):=by
 have ap:=zA xN j.ph;have ac:=zA xE c.li;have ag:=zA iA c.nx;have E:=zJ xN j.ph p hp
 change (j.ph.map xN)[p]? =some (xN (yG j p))at E
 have G:=aM j hn (yG j p).ring (yG j p).group p;unfold uD;rw[Os (by rw[u];decide)];have Y:MD j c p=QD j (BM c p) (yG j p).group:=by unfold MD;rw[Os S]
 rw[Y];unfold dQ at u;rw[zDc]at u;have L:∀q,q<ln c.li->((xR c q).lamp != 0&&kC j.cf p q)=false:=λq C=>by simpa using u q (zBj.2 C)
 have W:=NZ j hn (yG j p).group c.gr c.wt ((c.li.map xE).set p (xE ⟨1,0⟩)) (c.nx.map iA) (c.li.map xE).length (c.nx.map iA).length;unfold QD BM qU aN;dsimp only;rw[zCe,zCe,zB9,zB9];rw[show([jH j 0 (yG j p).group 0,jH j 1 (yG j p).group 0].map iA)=[iA (jH j 0 (yG j p).group 0),iA (jH j 1 (yG j p).group 0)]from Z];have O:(([iA (jH j 0 (yG j p).group 0),iA (jH j 1 (yG j p).group 0)]:List AV)).length=2:=rfl;rw[O]
 have A:∃v,([iA (jH j 0 (yG j p).group 0),iA (jH j 1 (yG j p).group 0)]:List AV)[(yG j p).ring.toNat]? =some (iA v):=by
  have:(yG j p).ring=0\/(yG j p).ring=1:=by omega
  rcases this with h|h<;>rw[h]
  all_goals exact⟨_,rfl⟩
 obtain⟨v0,A⟩:=A;generalize ([iA (jH j 0 (yG j p).group 0),iA (jH j 1 (yG j p).group 0)]:List AV)=fx at *;clear u Y;generalize jH j (yG j p).ring (yG j p).group (p+1)=fo at *;obtain⟨rn,z⟩:∃n:Nat,(yG j p).ring=n:=⟨(yG j p).ring.toNat,zB⟩;have B:=zJ xE c.li p zB;rw[z,zBh]at A;generalize V:xR c p=l0 at*
 change (c.li.map xE)[p]? =some (xE (xR c p))at B
 rw[V]at B;refine eM call253 λF hF=>?_
 refine WW ?_;refine zO (ln c.li) [3,3000,1001,1002] [3,3000,1001,1002] [1,2,3,12,13] [14,1,2,3,12,13] Z (λi T U=>⟨(14,iA i)::T,U⟩) (Lq ?_ ?_)
 .intro i hi;have hy:=zJ xE c.li i hi
  change (c.li.map xE)[i]? =some (xE (xR c i))at hy
  have I:=kK j.cf M i p;rw[J.sy i p zB hp]at I;have hb:=L i hi;clear L B G W;by_cases h1:(xR c i).lamp=0
  .generalize xR c i=t at *;clear hb;refine WW ?_;rfl
  .have C:kC j.cf p i=false:=by
    cases C:kC j.cf p i with
    |false=>rfl
    |true=>
     rw[C,zDe]at hb;exact absurd JK h1
   rw[C]at I;generalize xR c i=t at *;clear hb;refine zS I ?_;rfl
 .clear L;generalize yG j p=t at *;rw[z,zBh];have et:xN t= .agg [iA rn,iA t.group,iA t.ming,iA t.maxg,iA t.yel,iA t.red,iA t.walk,iA t.clear]:=by rw[<-z];rfl
  rw[et]at E;rw[z]at G;refine yF (xQ W G) ?_;exact uV [3000,1001,1002,2001] Z Z Z Z
def U0 (j:Jn) (hn:ln j.ph<=1000) (c:Ct) (hc:ln c.li=ln j.ph) (r:Int):zN 252 [wD j,JU c,iA r] [] (bA (VH j c r)) []:=by
 have hl:=zA xN j.ph;have O:=zA xE c.li
 cases hd:VH j c r with
 | true=>
  have E:∀p,p<ln j.ph->(yG j p).ring=r->(xR c p).lamp=0:=λp S V=>Y0 hd S V
  clear hd;refine eM call252 λF hF=>?_
  refine WW ?_;refine zO (ln c.li) [3] [3] [2,3,10,11] [12,2,3,10,11] Z (λi T U=>⟨(12,iA i)::T,U⟩) (Lq ?_ ?_)
  .intro u G;have I:=zJ xN j.ph u zB
   change (j.ph.map xN)[u]? =some (xN (yG j u))at I
   have C:=zJ xE c.li u G
   change (c.li.map xE)[u]? =some (xE (xR c u))at C
   have E:=E u zB;generalize yG j u=p,xR c u=l at *;by_cases h1:p.ring=r
   .have h2:=E h1;clear E;refine WW ?_;rfl
   .clear E;refine WW ?_;rfl
  .clear E;exact mx
 | false=>
  unfold VH at hd;rw[zD0]at hd;obtain⟨W,B,hb⟩:=hd;rw[cT]at B;obtain⟨k,_,⟨hk,M,L⟩,z⟩:=ME (P:=λp=>p<ln j.ph/\(yG j p).ring=r/\(xR c p).lamp≠0) W ⟨B.1,B.2,by simpa using hb⟩;clear hb;refine eM call252 λF hF=>?_
  refine WW ?_;refine yU (ln c.li) [3] [3] [2,3,10,11] [12,2,3,10,11] Z (λi T U Y=>(i<=k)/\Y=⟨(12,iA i)::T,U⟩) (Lp ?_ ?_ ?_)
  .exact⟨zBb _,rfl⟩
  .rintro u st G ⟨huk,rfl⟩;have I:=zJ xN j.ph u zB
   change (j.ph.map xN)[u]? =some (xN (yG j u))at I
   have C:=zJ xE c.li u G
   change (c.li.map xE)[u]? =some (xE (xR c u))at C
   by_cases e:u=k
   .subst e;generalize yG j u=p,xR c u=l at *;clear z;exact mx
   .have A:=z u zB;generalize yG j u=p at *;generalize xR c u=l at *;clear z;by_cases h1:p.ring=r
    .have h2:l.lamp=0:=zDd λh=>A ⟨zB,h1,h⟩
     clear A;refine WW ?_;exact⟨zB,rfl⟩
    .clear A;refine WW ?_;exact⟨zB,rfl⟩
  .rintro st ⟨huk,rfl⟩;exfalso;omega
def um (j:Jn) (r t:Int) (i:Nat):Int:=match (LS j r i).find? (λp:Nat=>!kC j.cf p t)with
 |some p=>p
 |none=> -1
theorem qm (j:Jn) (r t:Int) (i:Nat):um j r t (i+1)=if(yG j i).ring=r/\kC j.cf i t=false then(if um j r t i<0 then(i:Int)else um j r t i)else um j r t i:=by grind [um,yG,kC,UW,LS]
def zu {r:Int} {i:Nat} (h:p∈LS j r i):p<i:=by grind [LS]
theorem S0 (j:Jn) (hn:ln j.ph<=1000) (W:ln j.cf<=40) (c:Ct) (hm:ln c.nx=2) (r:Int) (hr:0<=r/\r<2) (t:Nat) (ht:t<ln j.ph) (hx:c.nx.getD r.toNat dd= -1\/0<=c.nx.getD r.toNat dd):zN 251 [wD j,JU c,iA r,iA (t:Int)] [] (iA (aW j c r t)) []:=by
 have hl:=zA xN j.ph;have ap:=zA iA c.nx;have ac:=zJ xN j.ph t ht
 change (j.ph.map xN)[t]? =some (xN (yG j t))at ac
 have ar:=yE iA c.nx r hr.1 zB;unfold aW;generalize c.nx.getD r.toNat dd=B at *;by_cases O:r=(yG j t).ring
 .rw[zAs O];generalize yG j t=pt at *;refine eM call251 λF hF=>?_
  exact mx
 rw[Os O];have ag:¬(yG j t).ring=r:=λh=>O h.symm
 generalize yG j t=pt at *;refine eM call251 λF hF=>?_
 refine WW ?_;refine yU (ln j.ph) [4,5] [4,5] [2,3,4,5,22,23] [9,24,2,3,4,5,22,23] Z (λi T U zs=>(∀p∈LS j r i,(!kC j.cf p t&&decide (B≠ -1/\B<=(p:Int)))=false)/\zs=⟨(9,iA (um j r t i))::(24,iA i)::T,U⟩) (Lp ?_ ?_ ?_)
 .exact⟨λp G=>absurd (zu G) (zCp _),rfl⟩
 .rintro i st hi ⟨hI,rfl⟩;have hy:=zJ xN j.ph i hi
  change (j.ph.map xN)[i]? =some (xN (yG j i))at hy
  have M:=kK j.cf W i t;have E:=qm j r t i;have I:=UW j r i
  have u:(yG j i).ring=r->(!kC j.cf i t&&decide (B≠ -1/\B<=(i:Int)))=false->∀p∈LS j r (i+1),(!kC j.cf p t&&decide (B≠ -1/\B<=(p:Int)))=false:=λh1 hb p G=>by
   rw[I,zAs h1,zBe,zBm]at G
   rcases G with G|rfl
   .exact hI p G
   .exact hb
  have C:(yG j i).ring≠r->∀p∈LS j r (i+1),(!kC j.cf p t&&decide (B≠ -1/\B<=(p:Int)))=false:=λh1 p G=>by
   rw[I,Os h1]at G;exact hI p G
  have z:(yG j i).ring=r->(!kC j.cf i t&&decide (B≠ -1/\B<=(i:Int)))=true->EL j B r t=i:=λh1 hb=>by
   obtain⟨l2,L⟩:=GM j r (ln j.ph) (i+1) zB;rw[I,zAs h1]at L
   have e:(QU j r).find? (λp:Nat=>!kC j.cf p t&&decide (B≠ -1/\B<=(p:Int)))=some i:=by
    unfold QU;rw[L,zBl,List.find?_append,PQ hI,Option.none_or,zEt];exact List.find?_cons_of_pos hb
   unfold EL;rw[e]
  clear hI I;generalize kC j.cf i t=q,um j r t (i+1)=s2,um j r t i=s1 at *;by_cases h1:(yG j i).ring=r
  case neg=>
   have A:=C h1;rw[Os (λh=>h1 h.1)]at E;generalize yG j i=p at *;subst E;clear u C z;refine WW ?_;exact⟨A,rfl⟩
  have u:=u h1;have z:=z h1;clear C
  cases q with
  |true=>
   rw[Os (λh=>by cases h.2)]at E;have A:=u Z;generalize yG j i=p at *;subst E;clear u z;refine zS M ?_;exact⟨A,rfl⟩
  |false=>
  rw[zAs ⟨h1,rfl⟩]at E;by_cases h2:s1<0
  .rw[zAs h2]at E;subst E;by_cases S:B= -1
   .have A:=u (by rw[zAu (λh=>h.1 S)];rfl);generalize yG j i=p at *;clear u z;refine zS M ?_;exact⟨A,rfl⟩
   by_cases V:B<=(i:Int)
   .rw[z (by rw[zAw ⟨S,V⟩];rfl)];generalize yG j i=p at *;clear u z;exact nl M
   .have A:=u (by rw[zAu (λh=>V h.2)];rfl);generalize yG j i=p at *;clear u z;refine zS M ?_;exact⟨A,rfl⟩
  .rw[Os h2]at E;subst E;by_cases S:B= -1
   .have A:=u (by rw[zAu (λh=>h.1 S)];rfl);generalize yG j i=p at *;clear u z;refine zS M ?_;exact⟨A,rfl⟩
   by_cases V:B<=(i:Int)
   .rw[z (by rw[zAw ⟨S,V⟩];rfl)];generalize yG j i=p at *;clear u z;exact nl M
   .have A:=u (by rw[zAu (λh=>V h.2)];rfl);generalize yG j i=p at *;clear u z;refine zS M ?_;exact⟨A,rfl⟩
 .rintro st ⟨hI,rfl⟩
  have Y:EL j B r t=um j r t (ln j.ph):=by
   unfold EL um;rw[show QU j r=LS j r (ln j.ph) from Z,PQ hI];rfl
  rw[Y];clear hI;generalize um j r t (ln j.ph)=s1 at *;exact mx
def Rh (c:Ct) (h1:ln c.li<=1000) (h2:ln c.nx<=1000):zN 188 [JU c] [] (.agg [.ref 1001 0 (c.li.map xE).length,iA c.gr,.ref 1002 0 (c.nx.map iA).length,iA c.wt]) [(1001,.arr 2 (c.li.map xE) false),(1002,.arr 1 (c.nx.map iA) false)]:=by
 have hl:=zA xE c.li;have u:=zA iA c.nx;refine eM call188 λF hF=>?_
 (repeat' (first|refine uS ?_|apply yW|apply xH|intro hc|(apply zG;first|(apply yC;first|refine xG 1001 tok Z Z Z Z Z Z (yM _ _ (λ_=>rfl)) Z Z Z zB Z Z Z ?_|refine xG 1002 tok Z Z Z Z Z Z (yM _ _ (λ_=>rfl)) Z Z Z zB Z Z Z ?_))|fail))
 exact zP [1001,1002] Z Z Z Z
