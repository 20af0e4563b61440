/- Part 20. -/
import Derived.Test.YtdjfiebpnmieoaaGreatC19
namespace Go.Proofs.YtdjfiebpnmieoaaGreat.Av
open Tryz
set_option linter.all false
set_option maxRecDepth 4000
set_option maxHeartbeats 1000000
open List renaming length->ln,replicate->nm,range->ny,getD->oj
open Inhabited renaming default->dd
variable {j:Jn}{p:Nat}
def El (j:Jn) (G:ln j.ph<=1000) (g R E:Int) (L:List AV) (C:Nat):zO 138 [wD j,.ptr 3000 0 0,iA g] [(3000,.box [.ref 1001 0 C,iA R,.s (.slice none 0 0),iA E]),(1001,.arr 2 L false)] (.tup [])
  [(3000,.box [.ref 1001 0 C,iA g,.ref 2001 0 2,iA E]),(1001,.arr 2 L false),(2001,.arr 1 [iA (jV j 0 g 0),iA (jV j 1 g 0)] false)]:=by
 have I:=TG j G 0 g 0;have M:=TG j G 1 g 0;generalize jV j 0 g 0=u,jV j 1 g 0=z at *;obtain⟨B,A⟩:∃n:Nat,n=2:=⟨2,rfl⟩;refine eM call138 λF hF=>?_
 (repeat' (first|refine uD ?_|apply yZ|apply xM|intro hc|(apply zG;first|(apply eJ;refine cJ 2001 tok Z Z Z Z Z Z Z Z Z Z Z Z Z zB zB Z Z Z ?_))|fail))
 refine zN (B) [3000,2001,3,1001] [3,1001] [1,2,3] [20,19,1,2,3] Z (λi T U=>⟨(20,iA i)::(19,iA B)::T,(3000,.box [.ref 1001 0 C,iA g,.ref 2001 0 B,iA E])::(2001,.arr 1 (Xj u z i) false)::U⟩) ?_;(conv=>whnf);refine⟨by(rw[A];rfl),?_,?_⟩
 .intro i hi;have:i=0\/i=1:=by omega
  rcases this with rfl|rfl
  .have S:(Xj u z 0)[((0:Nat):Int).toNat]? =some (iA 0):=rfl;have hl:(Xj u z 0).length=2:=rfl;refine zQ I ?_;rfl
  .have S:(Xj u z 1)[((1:Nat):Int).toNat]? =some (iA 0):=rfl;have hl:(Xj u z 1).length=2:=rfl;refine zQ M ?_;rfl
 .have O:Xj u z B=[iA u,iA z]:=by rw[A];rfl
  rw[O];refine WW ?_;subst A;exact qM [3000,1001,2001] Z Z Z Z
def Bh (j:Jn):Ct:=⟨nm (ln j.ph) ⟨0,0⟩,0,[jV j 0 0 0,jV j 1 0 0],j.st⟩
def Ec (j:Jn) (p:Nat):xT (Bh j) p=⟨0,0⟩:=by
 unfold xT Bh;simp only[zAl,zCj]
 split<;>rfl
def Rf (J:JV j):CV j (Bh j):=by
 refine⟨by simp[Bh],λp u=>by rw[Ec];rfl,λp q u B z h1 h2=>by rw[Ec]at h1;exact absurd Z h1,⟨zCn _,?_⟩,rfl,λr A=>Vx j (Bh j) 0 r A,⟨J.st.1,zCn _⟩,.inr λp u=>by rw[Ec]⟩;have:=MI J
 grind [Bh]
def Dl {P:Program} {C:List Nat} {F:Fr C} {m:Nat} {A:Array Oper} {z:List Oper} {Q:List FP->St->Prop} {B:Bool} {fs:List FP} {ty T:Nat} {pos:String} {u:Array Edge} {st:St} (hk:yQ P F m A B (⟨some 3,.alloc T,ty,pos,u,none⟩::z) st fs Q):yQ P F m A B (⟨some 3,.alloc T,ty,pos,u,none⟩::z) st fs Q:=hk
def Kz (j:Jn) (C:ln j.ph<=1000):zO 73 [wD j] [] (HX (Bh j)) []:=by
 have z:=zA xQ j.ph;have u:=El j C 0 0 j.st ((nm (ln j.ph) (⟨0,0⟩:Li)).map xH) ((nm (ln j.ph) (⟨0,0⟩:Li)).map xH).length;have A:(nm (ln j.ph) (⟨0,0⟩:Li)).map xH=nm (ln j.ph) (xH ⟨0,0⟩):=zDr;have eN:((nm (ln j.ph) (⟨0,0⟩:Li)).map xH).length=ln j.ph:=by simp
 rw[eN,A]at u;rw[<-z]at u;refine eM call73 λF hF=>?_
 repeat' (first|(apply zG;first|(apply Dl;refine qB (nw:=[3000]) (dJ tok 3000 Z Z) Z Z Z ?_)|refine wX tok Z Z ?_|(apply eJ;refine cJ 1001 tok Z Z Z Z Z Z Z Z Z Z Z Z Z zB zB Z Z Z ?_)|refine gD tok Z Z Z Z ?_|(apply xO;(first|(refine vG 138 ?_;first|refine yE (zL (u) Z Z Z Z Z) Z ?_|refine qB (zL (u) Z Z Z Z Z) Z Z Z ?_|refine ZR (zL (u) Z Z Z Z Z) Z Z Z ?_)))|(apply gA;refine jR tok Z Z Z ?_)|refine dH UH ?_|apply uT)|first|refine SQ ?_|fail)
 have B:AV.agg [.sl false ((nm (j.ph.map xQ).length (xH ⟨0,0⟩)).take (j.ph.map xQ).length),iA 0,.sl false [iA (jV j 0 0 0),iA (jV j 1 0 0)],iA j.st]=HX (Bh j):=by
  rw[zAj zW,z,<-A];rfl
 exact zH [] Z Z B Z
def p6 (p:Nat->Bool) {n q:Nat} (u:n<=8) (z:q<n):Ac (fA p n) q=p q:=by
 have e:=ED (λi=>decide (i<n)&&p i) n 8 u (λi h1 h2=>by rw[zAc zB];rfl)
 grind [Ac,fA,ZL,Xm]
theorem Qf (z:List Ph) (u:Bool) (i:Nat):∀n,UG z u i n=fA (Kr z u i) n
 |0=>rfl
 |n+1=>by
  unfold UG fA;rw[Qf z u i n];have:(2:Int) ^ n=p2 n:=by unfold p2;rw[zAx]
  rw[this]
theorem Pt (u:List Ph) (z:Bool) {q:Nat} (A:ln u<=8) (C:p<ln u) (B:q<ln u):kX (eW u z (ln u)) p q=Kr u z p q:=by
 have hl:(eW u z (ln u)).length=ln u:=by simp[eW]
 unfold kX;rw[zAd zB,zAo,zAx]
 have e:(eW u z (ln u)).getD p dd=UG u z p (ln u):=by
  grind [kX,eW,Kr]
 rw[e,Qf];exact p6 _ A B
theorem Bl (d:Dk) (l:List (Int×Int)):∀i k,k<i->∃e,(HY d l i).1.getD k dd=RS e (l.getD k dd)
 |0,k,h=>absurd h (zB7 _)
 |i+1,k,h=>by
  have hl:=RT d l i;unfold HY;by_cases hk:k=i
  .subst hk;refine⟨(HY d l k).2,?_⟩;simp[oj,hl]
  .obtain⟨e,u⟩:=Bl d l i k zB;refine⟨e,?_⟩;rw[<-u];simp only[zAl];rw[zBg zB]
def S9 (l:List (Int×Int)):Bool:=(l.all λs=>decide (0<=s.1/\s.1<=1/\0<=s.2/\s.2<=3))&&(l.all λs=>[0,1,2].all λg:Int=>decide (s.2<=g)||(l.any λu=>u.2==g))
def Al (n:Int):S9 (kK n)=true:=by
 unfold kK;split
 .decide
 split
 .decide
 split
 .decide
 split
 .decide
 split
 .decide
 .decide
theorem AC (d:Dk) (s:Int×Int):(RS d s).ring=s.1/\(RS d s).group=s.2/\1<=(RS d s).ming/\(RS d s).ming<=(RS d s).maxg/\(RS d s).maxg<=60/\1<=(RS d s).yel/\(RS d s).yel<=60/\0<=(RS d s).red/\(RS d s).red<=60/\0<=(RS d s).walk/\(RS d s).walk<=60/\0<=(RS d s).clear/\(RS d s).clear<=60/\(RS d s).walk+(RS d s).clear<=(RS d s).maxg/\((RS d s).walk=0↔(RS d s).clear=0):=by
 have u:=uK d (3-1+1) zB;have z:=uK (ad d) (2-1+1) zB;have A:=uK (ad (ad d)) 3 zB;have B:=uK (ad (ad (ad (ad d)))) (2-1+1) zB;have C:=uK (ad (ad (ad (ad (ad d))))) (2-1+1) zB;have E:=uK (ad (ad (ad (ad (ad (ad d)))))) 4 zB;have G:=uK (ad (ad (ad (ad d)))) 4 zB;unfold RS
 grind [Dk,RS]
def Jz (d:Dk):JV (KG d):=by
 have ag:=KH (nx d 6);have z:=Al (nx d 6);have ap:=uK (ad d) 3 zB;have B:(RC d).1.length=(kK (nx d 6)).length:=RT _ _ _
 have G:∀k,k<(RC d).1.length->∃e,yH (KG d) k=RS e ((kK (nx d 6)).getD k dd):=λk hk=>by
  rw[B]at hk;exact Bl _ _ _ k hk
 have u:(KG d).ph=(RC d).1:=rfl;generalize kK (nx d 6)=S at *;generalize M:(nx (RC d).2 4==3)=E at *;have L:(KG d).cf=eW (RC d).1 E (RC d).1.length:=by unfold KG;rw[M]
 unfold S9 at z;simp only[zAn,zAq,zAe,zCm,zBz,zBl]at z
 have C:∀k,k<(RC d).1.length->S.getD k dd∈S:=λk hk=>by
  grind
 have I:∀p q:Nat,p<(RC d).1.length->q<(RC d).1.length->kX (KG d).cf p q=Kr (RC d).1 E p q:=λp q A R=>by
  grind [Dk,KG,Pt]
 have U:(KG d).cf.length=(RC d).1.length:=by rw[L];simp[eW]
 refine⟨?_,?_,?_,?_,?_,?_,?_,?_,?_,?_,?_⟩
 .rw[u];omega
 .grind
 .intro i hi;rw[u]at hi⊢
  have e:(KG d).cf.getD i dd=UG (RC d).1 E i (RC d).1.length:=by
   grind [Dk,KG,eW,oj]
  rw[e];exact MJ _ _ _ _
 .grind [Dk,KG,Kr]
 .grind [Dk,KG,Kr,RC]
 .intro p q A R O h;rw[u]at A R;rw[I p q A R];unfold Kr;rw[show(p != q)=true by simpa using O,zAo]
  rcases h with h|h
  .rw[show(((RC d).1.getD p dd).ring==((RC d).1.getD q dd).ring)=true from zBl.2 h];rfl
  .rw[show(((RC d).1.getD p dd).group != ((RC d).1.getD q dd).group)=true from zB9.2 h];simp
 .grind [Dk,KG,AC]
 .grind [Dk,KG,AC]
 .grind [Dk,KG,AC]
 .intro p A g Y W;obtain⟨e,V⟩:=G p A;rw[V,(AC e _).2.1]at W;have h3:=z.1 _ (C p A)
  have ac:g∈([0,1,2]:List Int):=by
   grind
  grind [Dk,KG,List.getElem_of_mem,AC,oj]
 all_goals grind [Dk,KG]
def jP (u:List Int) (C:ln u<=40) (p q:Int):zO 142 [zD iA u,iA p,iA q] [] (bA (kX u p q)) []:=by
 have hl:=zA iA u;unfold kX;by_cases h1:0<=p
 case neg=>
  rw[zAc (λh=>h1 h.1)];refine eM call142 λF hF=>?_
  exact lc
 by_cases z:p<ln u
 case neg=>
  rw[zAc (λh=>z h.2.2.1)];refine eM call142 λF hF=>?_
  exact lc
 by_cases h2:0<=q
 case neg=>
  rw[zAc (λh=>h2 h.2.1)];refine eM call142 λF hF=>?_
  exact lc
 by_cases A:q<ln u
 case neg=>
  rw[zAc (λh=>A h.2.2.2)];refine eM call142 λF hF=>?_
  exact lc
 rw[zAd ⟨h1,h2,z,A⟩,zAo];have E:=yF iA u p h1 z;generalize u.getD p.toNat dd=x at *;by_cases B:jZ (vO x q) 1=1
 .rw[show(jZ (vO x q) 1==1)=true by rw[zBl];exact B];refine eM call142 λF hF=>?_
  exact lc
 .rw[show(jZ (vO x q) 1==1)=false by rw[zAy];exact B];refine eM call142 λF hF=>?_
  exact lc
def OP (a:Int):Bool:=decide (a=1\/a=2)
def XN (a:Int):zO 274 [iA a] [] (bA (OP a)) []:=by
 unfold OP
 (cases hb:decide (a=1\/a=2)with|false=>((refine eM call274 λF hF=>?_);((refine WW (I2 (λhc=>?_) λhc=>?_)));all_goals (first|exact zI|(simp only[OP,zAk]at hb;first|exact KP|exact MO)))|true=>(simp only[OP,zAe]at hb;(refine eM call274 λF hF=>?_);((refine WW (I2 (λhc=>?_) λhc=>?_)));all_goals (first|exact zI|exact KP|exact MO)))
def XO (a:Int):zO 297 [iA a] [] (bA (OP a)) []:=by
 unfold OP
 (cases hb:decide (a=1\/a=2)with|false=>((refine eM call297 λF hF=>?_);((repeat' (first|refine uD ?_|apply yZ|apply xM|intro hc|(apply zG;first|refine SM ?_)|fail)));all_goals (first|exact zI|(simp only[OP,zAk]at hb;first|exact KP|exact MO)))|true=>(simp only[OP,zAe]at hb;(refine eM call297 λF hF=>?_);((repeat' (first|refine uD ?_|apply yZ|apply xM|intro hc|(apply zG;first|refine SM ?_)|fail)));all_goals (first|exact zI|exact KP|exact MO)))
def PP (u:List Li) (k:Int) (p:Nat):Int:=if(p:Int)=k then 1 else(u.getD p dd).lamp
def aY (u:List Li) (k:Int):List Int:=(ny (ln u)).map (PP u k)
def AD (u:List Li) (k:Int):(aY u k).length=ln u:=by simp[aY]
def zm (f:Nat->Int) (n i:Nat) (h:i<n) (x:Int) (hx:x=f i):(((List.range i).map f++List.replicate (n-i) 0).map iA).set i (iA x)=((List.range (i+1)).map f++List.replicate (n-(i+1)) 0).map iA:=by
 subst hx;rw[<-zBs,show n-i=(n-(i+1))+1 by omega,zD3,zDe _ _ zW,zAa,zBo,zCl,zEb,zCf];simp
def AE (f:Nat->Int) (n i:Nat) (h:i<=n):(((List.range i).map f++List.replicate (n-i) 0).map iA).length=n:=by
 simp;omega
def Ot (f:Nat->Int) (n i:Nat) (h:i<n):(((List.range i).map f++List.replicate (n-i) 0).map iA)[i]? =some (iA 0):=by grind
def Iz (u:List Li) (L:ln u<=1000) (k:Int):zO 224 [zD xH u,iA k] [] (zD iA (aY u k)) []:=by
 have hl:=zA xH u;have B:nm (ln u) (AV.s (.int .i64 0))=((ny 0).map (PP u k)++nm (ln u-0) 0).map iA:=by simp[iA]
 obtain⟨n,C⟩:∃n,ln u=n:=⟨_,rfl⟩;refine eM call224 λF hF=>?_
 refine WW ?_;refine zN (ln u) [10] [] [1,5,11,12] [13,1,5,11,12] Z (λi T U=>⟨(13,iA i)::T,(10,.arr 1 (((ny i).map (PP u k)++nm (ln u-i) 0).map iA) false)::U⟩) ?_;(conv=>whnf);refine⟨by(rw[<-B,<-hl];rfl),?_,?_⟩
 .intro i hi;have M:=zJ xH u i hi;have A:=AE (PP u k) (ln u) i zB;have E:=Ot (PP u k) (ln u) i hi;have hs:=zm (PP u k) (ln u) i hi (PP u k i) Z
  have z:PP u k i=if(i:Int)=k then 1 else(u.getD i dd).lamp:=rfl
  generalize ((ny i).map (PP u k)++nm (ln u-i) 0).map iA=xs,((ny (i+1)).map (PP u k)++nm (ln u-(i+1)) 0).map iA=ys,PP u k i=v,u.getD i dd=t at *;rw[<-hs];clear hs B C;by_cases hk:(i:Int)=k
  .rw[Os hk]at z;subst z;have G:(xs.set i (iA t.lamp))[i]? =some (iA t.lamp):=by rw[zA6 zB]
   have I:(xs.set i (iA t.lamp)).length=ln u:=by simp[A]
   rw[<-zEr (iA t.lamp)];refine WW ?_;rfl
  .rw[Of hk]at z;subst z;refine WW ?_;rfl
 .have A:=AE (PP u k) (ln u) (ln u) (zAg _)
  have e:zD iA (aY u k)= .sl false ((((ny (ln u)).map (PP u k)++nm (ln u-u.length) 0).map iA).take (u.map xH).length):=by
   rw[zAj zB,zCl,zE6,zA2];rfl
  rw[e];clear e B;generalize ((ny (ln u)).map (PP u k)++nm (ln u-u.length) 0).map iA=xs at *;exact lc
def Nt (u:List Li) (B:ln u<=1000) (k:Int):zO 245 [zD xH u,iA k] [] (zD iA (aY u k)) []:=by
 have hl:=zA xH u;refine eM call245 λF hF=>?_
 refine WW ?_;refine zS 5 1001 1 Z Z Z ?_;refine zN (ln u) [1001] [] [1,8,9] [5,10,1,8,9] Z (λi T U=>⟨(5,.ref 1001 0 (((ny i).map (PP u k)).map iA).length)::(10,iA i)::T,(1001,.arr 1 (((ny i).map (PP u k)).map iA) true)::U⟩) (Lq ?_ ?_)
 .intro i hi;have C:=zJ xH u i hi;have A:(((ny i).map (PP u k)).map iA).length=i:=by simp
  have e:((ny (i+1)).map (PP u k)).map iA=((ny i).map (PP u k)).map iA++[iA (PP u k i)]:=by rw[zCf];simp
  have z:PP u k i=if(i:Int)=k then 1 else(u.getD i dd).lamp:=rfl
  rw[e];clear e;generalize ((ny i).map (PP u k)).map iA=xs,PP u k i=v,u.getD i dd=t at *;by_cases hk:(i:Int)=k
  .rw[Os hk]at z;subst z;refine WW ?_;rfl
  .rw[Of hk]at z;subst z;refine WW ?_;rfl
 .have A:(((ny (ln u)).map (PP u k)).map iA).length=ln u:=by simp
  rw[show zD iA (aY u k)= .sl false ((((ny (ln u)).map (PP u k)).map iA).take (((ny (ln u)).map (PP u k)).map iA).length) by rw[zAb];rfl];generalize ((ny (ln u)).map (PP u k)).map iA=xs at *;exact lc
def HW (z u:List Int) (p q:Nat):Bool:=OP (u.getD p dd)&&(OP (u.getD q dd)&&kX z p q)
def ym (z u:List Int):Bool:=(ny (ln u)).any λp=>(ny (ln u)).any λq=>HW z u p q
def Wx {z u:List Int} (h:ym z u=false) (p q:Nat) (A:p<ln u) (B:q<ln u):HW z u p q=false:=by grind [ym,HW]
def xm {A z:List Int} (h:ym A z=true):∃p q:Nat,p<ln z/\q<ln z/\HW A z p q=true/\(∀u,u<p->∀v,v<ln z->HW A z u v=false)/\(∀v,v<q->HW A z p v=false):=by
 unfold ym at h;rw[zBz]at h;obtain⟨a,L,h⟩:=h;rw[zBz]at h;obtain⟨b,hb,h⟩:=h;obtain⟨p,C,⟨v,hv,B⟩,E⟩:=KD (P:=λp=>∃v,v<ln z/\HW A z p v=true) a ⟨b,zA3.1 hb,h⟩;obtain⟨q,I,M,G⟩:=KD (P:=λq=>HW A z p q=true) v B
 grind
theorem Hz (M z:List Int) (S:ln M<=40) (hn:ln z<=1000):zO 225 [zD iA M,zD iA z] [] (bA (ym M z)) []:=by
 have hl:=zA iA z
 cases hf:ym M z with
 | false=>
  have ac:=Wx hf;clear hf;refine eM call225 λF hF=>?_
  (repeat' (first|refine WS ?_|refine SG (I2 (λhc=>?_) λhc=>?_)|refine SG λhc=>?_|(apply zG;first|refine SM ?_)|(first|first|refine SR ?_|refine SK (I2 (λhc=>?_) λhc=>?_)|refine SK λhc=>?_|fail|apply vU|apply vV)|fail))
  refine zN (ln z) [] [] [0,1,10,11] [5,12,0,1,10,11] Z (λi T U=>⟨(5,bA false)::(12,iA i)::T,U⟩) (Lq ?_ ?_)
  .intro u hu;have hy:=zJ iA z u hu;have G:=XN (z.getD u dd);have C:=ac u;unfold HW at C;clear ac
   cases hb:OP (z.getD u dd)with
   |false=>
    rw[hb]at G;generalize z.getD u dd=a at *;clear C;refine zQ G ?_;rfl
   | true=>
    rw[hb]at G;generalize z.getD u dd=a at *;refine zQ G ?_;refine zN (ln z) [] [] [0,1,6,10,11,12,20,21] [5,22,0,1,6,10,11,12,20,21] Z (λi T U=>⟨(5,bA false)::(22,iA i)::T,U⟩) (Lq ?_ ?_)
    .intro v hv;have ar:=zJ iA z v hv;have E:=XN (z.getD v dd);have L:=fX M S u v;have h:=C v hu hv;rw[hb,zAo]at h;generalize z.getD v dd=b at *;clear C G
     cases A:OP b with
     |false=>
      rw[A]at E;refine zQ E ?_;rfl
     |true=>
      rw[A,zAo]at h;rw[A]at E;rw[h]at L;refine yJ (xV E L) ?_;rfl
    ·(refine WW ?_)
     rfl
  ·(repeat' (first|refine WS ?_|refine SG (I2 (λhc=>?_) λhc=>?_)|refine SG λhc=>?_|(apply zG;first|refine SM ?_)|(first|first|refine SR ?_|refine SK (I2 (λhc=>?_) λhc=>?_)|refine SK λhc=>?_|fail|apply vU|apply vV)|fail))
   exact zI
 | true=>
  obtain⟨p,q,hp,hq,B,V,Y⟩:=xm hf;clear hf;have W:OP (z.getD p dd)=true:=by unfold HW at B;rw[zAn]at B;exact B.1
  have R:OP (z.getD q dd)=true:=by unfold HW at B;rw[zAn,zAn]at B;exact B.2.1
  have O:kX M p q=true:=by unfold HW at B;rw[zAn,zAn]at B;exact B.2.2
  clear B;refine eM call225 λF hF=>?_
  (repeat' (first|refine WS ?_|refine SG (I2 (λhc=>?_) λhc=>?_)|refine SG λhc=>?_|(apply zG;first|refine SM ?_)|(first|first|refine SR ?_|refine SK (I2 (λhc=>?_) λhc=>?_)|refine SK λhc=>?_|fail|apply vU|apply vV)|fail))
  refine yW (ln z) [] [] [0,1,10,11] [5,12,0,1,10,11] Z (λi T U zs=>(i<=p)/\zs=⟨(5,bA false)::(12,iA i)::T,U⟩) (Lp ?_ ?_ ?_)
  .exact⟨zAr _,rfl⟩
  .rintro u st hu ⟨hup,rfl⟩;have hy:=zJ iA z u hu;have G:=XN (z.getD u dd);by_cases ag:u=p
   .subst ag;rw[W]at G
    have I:∀v,v<q->(OP (z.getD v dd)&&kX M u v)=false:=λv hv=>by
     have h:=Y v hv;unfold HW at h;rw[W,zAo]at h;exact h
    clear V Y;generalize z.getD u dd=a at *;refine zQ G ?_;refine yW (ln z) [] [] [0,1,6,10,11,12,20,21] [5,22,0,1,6,10,11,12,20,21] Z (λi T U zs=>(i<=q)/\zs=⟨(5,bA false)::(22,iA i)::T,U⟩) (Lp ?_ ?_ ?_)
    .exact⟨zAr _,rfl⟩
    .rintro v st hv ⟨hvq,rfl⟩;have ar:=zJ iA z v hv;have E:=XN (z.getD v dd);have L:=fX M S u v;by_cases ap:v=q
     .subst ap;rw[R]at E;rw[O]at L;clear R O I G;generalize z.getD v dd=b at*
      (have gd:=E;have gn:=L;(repeat' (first|refine WS ?_|refine SG (I2 (λhc=>?_) λhc=>?_)|refine SG λhc=>?_|(apply zG;first|refine SM ?_)|(first|first|refine SR ?_|refine SK (I2 (λhc=>?_) λhc=>?_)|refine SK λhc=>?_|fail|apply vU|apply vV)|fail))<;>clear gd gn)
      exact zI
     .have h:=I v zB;clear R O I G;generalize z.getD v dd=b at*
      cases A:OP b with
      |false=>
       rw[A]at E;refine zQ E ?_;exact⟨zB,rfl⟩
      |true=>
       rw[A,zAo]at h;rw[A]at E;rw[h]at L;refine yJ (xV E L) ?_;exact⟨zB,rfl⟩
    .rintro st ⟨hvq,rfl⟩;exfalso;omega
   .have C:=V u zB;unfold HW at C;clear W R O V Y
    cases hb:OP (z.getD u dd)with
    |false=>
     rw[hb]at G;generalize z.getD u dd=a at *;clear C;refine zQ G ?_;exact⟨zB,rfl⟩
    | true=>
     rw[hb]at G;generalize z.getD u dd=a at *;refine zQ G ?_;refine zN (ln z) [] [] [0,1,6,10,11,12,20,21] [5,22,0,1,6,10,11,12,20,21] Z (λi T U=>⟨(5,bA false)::(22,iA i)::T,U⟩) (Lq ?_ ?_)
     .intro v hv;have ar:=zJ iA z v hv;have E:=XN (z.getD v dd);have L:=fX M S u v;have h:=C v hv;rw[hb,zAo]at h;generalize z.getD v dd=b at *;clear C G
      cases A:OP b with
      |false=>
       rw[A]at E;refine zQ E ?_;rfl
      |true=>
       rw[A,zAo]at h;rw[A]at E;rw[h]at L;refine yJ (xV E L) ?_;rfl
     ·(refine WW ?_)
      exact⟨zB,rfl⟩
  .rintro st ⟨hup,rfl⟩;exfalso;omega
theorem Mt (M z:List Int) (S:ln M<=40) (hn:ln z<=1000):zO 244 [zD iA M,zD iA z] [] (bA (ym M z)) []:=by
 have hl:=zA iA z
 cases hf:ym M z with
 | false=>
  have ac:=Wx hf;clear hf;refine eM call244 λF hF=>?_
  refine WW ?_;refine zN (ln z) [] [] [0,1,9,10] [11,0,1,9,10] Z (λi T U=>⟨(11,iA i)::T,U⟩) (Lq ?_ ?_)
  .intro u hu;have hy:=zJ iA z u hu;have E:=XO (z.getD u dd);have G:=ac u;unfold HW at G;clear ac;refine WW ?_;refine zN (ln z) [] [] [0,1,5,6,9,10,11,16,17] [18,0,1,5,6,9,10,11,16,17] Z (λi T U=>⟨(18,iA i)::T,U⟩) (Lq ?_ ?_)
   .intro v hv;have ar:=zJ iA z v hv;have C:=XO (z.getD v dd);have L:=jP M S u v;have h:=G v hu hv;clear G;generalize z.getD v dd=b at *;generalize z.getD u dd=a at*
    cases hb:OP a with
    |false=>
     rw[hb]at E;refine zQ E ?_;rfl
    | true=>
     rw[hb]at E;rw[hb,zAo]at h
     cases A:OP b with
     |false=>
      rw[A]at C;refine yJ (xV E C) ?_;rfl
     |true=>
      rw[A,zAo]at h;rw[A]at C;rw[h]at L;refine yJ (kC E C L) ?_;rfl
   ·(refine WW ?_)
    rfl
  .exact lc
 | true=>
  obtain⟨p,q,hp,hq,B,V,Y⟩:=xm hf;clear hf;have W:OP (z.getD p dd)=true:=by unfold HW at B;rw[zAn]at B;exact B.1
  have R:OP (z.getD q dd)=true:=by unfold HW at B;rw[zAn,zAn]at B;exact B.2.1
  have O:kX M p q=true:=by unfold HW at B;rw[zAn,zAn]at B;exact B.2.2
  clear B;refine eM call244 λF hF=>?_
  refine WW ?_;refine yW (ln z) [] [] [0,1,9,10] [11,0,1,9,10] Z (λi T U zs=>(i<=p)/\zs=⟨(11,iA i)::T,U⟩) (Lp ?_ ?_ ?_)
  .exact⟨zAr _,rfl⟩
  .rintro u st hu ⟨hup,rfl⟩;have hy:=zJ iA z u hu;have E:=XO (z.getD u dd);by_cases ag:u=p
   .subst ag;rw[W]at E
    have I:∀v,v<q->(OP (z.getD v dd)&&kX M u v)=false:=λv hv=>by
     have h:=Y v hv;unfold HW at h;rw[W,zAo]at h;exact h
    clear V Y;generalize z.getD u dd=a at *;refine WW ?_;refine yW (ln z) [] [] [0,1,5,6,9,10,11,16,17] [18,0,1,5,6,9,10,11,16,17] Z (λi T U zs=>(i<=q)/\zs=⟨(18,iA i)::T,U⟩) (Lp ?_ ?_ ?_)
    .exact⟨zAr _,rfl⟩
    .rintro v st hv ⟨hvq,rfl⟩;have ar:=zJ iA z v hv;have C:=XO (z.getD v dd);have L:=jP M S u v;by_cases ap:v=q
     .subst ap;rw[R]at C;rw[O]at L;clear R O I;generalize z.getD v dd=b at *;exact ld (kC E C L)
     .have h:=I v zB;clear R O I;generalize z.getD v dd=b at*
      cases A:OP b with
      |false=>
       rw[A]at C;refine yJ (xV E C) ?_;exact⟨zB,rfl⟩
      |true=>
       rw[A,zAo]at h;rw[A]at C;rw[h]at L;refine yJ (kC E C L) ?_;exact⟨zB,rfl⟩
    .rintro st ⟨hvq,rfl⟩;exfalso;omega
   .have G:=V u zB;unfold HW at G;clear W R O V Y;refine WW ?_;refine zN (ln z) [] [] [0,1,5,6,9,10,11,16,17] [18,0,1,5,6,9,10,11,16,17] Z (λi T U=>⟨(18,iA i)::T,U⟩) (Lq ?_ ?_)
    .intro v hv;have ar:=zJ iA z v hv;have C:=XO (z.getD v dd);have L:=jP M S u v;have h:=G v hv;clear G;generalize z.getD v dd=b at *;generalize z.getD u dd=a at*
     cases hb:OP a with
     |false=>
      rw[hb]at E;refine zQ E ?_;rfl
     | true=>
      rw[hb]at E;rw[hb,zAo]at h
      cases A:OP b with
      |false=>
       rw[A]at C;refine yJ (xV E C) ?_;rfl
      |true=>
       rw[A,zAo]at h;rw[A]at C;rw[h]at L;refine yJ (kC E C L) ?_;rfl
    ·(refine WW ?_)
     exact⟨zB,rfl⟩
  .rintro st ⟨hup,rfl⟩;exfalso;omega
def u5 (j:Jn) (c u:Ct):Prop:=∀q:Nat,q<ln j.ph->xT u q=xT c q\/((xT c q).lamp=0/\xT u q=⟨1,0⟩)
theorem u5.refl (j:Jn) (c:Ct):u5 j c c:=λq _=> .inl Z
theorem u5.trans {a b c:Ct} (h:u5 j a b) (g:u5 j b c):u5 j a c:=λq u=>by
 rcases h q u with h|⟨h1,h2⟩<;>rcases g q u with g|⟨g1,g2⟩
 .exact .inl (g.trans h)
 .exact .inr ⟨by rw[<-h];exact g1,g2⟩
 .exact .inr ⟨h1,g.trans h2⟩
 .rw[h2]at g1;exact absurd g1 yX
def Gz {c:Ct} {r:Int} (h:TK j c r=true) (u:p<ln j.ph) (z:(yH j p).ring=r):(xT c p).lamp=0:=by grind [TK,yH,xT,List.all_eq_true,bZ]
def Pf (p:Ph) (h:Tx p):zO 147 [xQ p] [] (iA (Lf p)) []:=by
 obtain⟨h1,h2,u,z⟩:=h;refine eM call147 λF hF=>?_
 exact lc
def Lt (p:Ph) (h:Tx p) (E:p.yel<=60) (C:0<=p.red/\p.red<=60) (l:Li) (hv:vc p l=true) (lv:Bool):zO 291 [xQ p,xH l,bA lv] [] (xH (AK p l lv)) []:=by
 have c:=Pf p h;have G:=bm hv E C.2;unfold vc at hv;unfold AK;by_cases B:l.lamp=0
 .rw[Os B,zAe]at hv;rw[Of zB,Of zB,Of zB];have u:xH l= .agg [iA 0,iA 0]:=by unfold xH;rw[B,hv]
  rw[u]
  cases lv<;>((refine eM call291 λF hF=>?_);exact lc)
 rw[Of B]at hv;by_cases h1:l.lamp=1
 .rw[Os h1];generalize Lf p=n at*
  cases lv with
  |false=>
   rw[Of (λh=>by cases h.1)];have u:xH ⟨1,min (l.tk+1) 1073741824⟩= .agg [iA l.lamp,iA (min (l.tk+1) 1073741824)]:=by rw[h1];rfl
   rw[u];refine eM call291 λF hF=>?_
   exact lc
  |true=>
  by_cases h2:n<=l.tk+1
  .rw[Os ⟨rfl,h2⟩];refine eM call291 λF hF=>?_
   exact lk c
  .rw[Of (λh=>h2 h.2)];have u:xH ⟨1,min (l.tk+1) 1073741824⟩= .agg [iA l.lamp,iA (min (l.tk+1) 1073741824)]:=by rw[h1];rfl
   rw[u];refine eM call291 λF hF=>?_
   exact lk c
 rw[Of h1]at hv⊢;by_cases h2:l.lamp=2
 .rw[Os h2,zAe]at hv;rw[Os h2];by_cases z:l.tk+1<p.yel
  .rw[Os z];have u:xH ⟨2,l.tk+1⟩= .agg [iA l.lamp,iA (min (l.tk+1) 1073741824)]:=by rw[h2,show min (l.tk+1) 1073741824=l.tk+1 by omega];rfl
   rw[u];refine eM call291 λF hF=>?_
   exact lc
  rw[Of z];by_cases A:p.red=0
  .rw[Os A];refine eM call291 λF hF=>?_
   exact lc
  .rw[Of A];refine eM call291 λF hF=>?_
   exact lc
 rw[Of h2]at hv⊢;by_cases z:l.lamp=3
 .rw[Os z,zAe]at hv;rw[Os z];by_cases A:l.tk+1<p.red
  .rw[Os A];have u:xH ⟨3,l.tk+1⟩= .agg [iA l.lamp,iA (min (l.tk+1) 1073741824)]:=by rw[z,show min (l.tk+1) 1073741824=l.tk+1 by omega];rfl
   rw[u];refine eM call291 λF hF=>?_
   exact lc
  .rw[Of A];refine eM call291 λF hF=>?_
   exact lc
 .rw[Of z]at hv;cases hv
def Fz (c:Ct) (C:ln c.li<=25):zO 295 [HX c] [] (iA (IM c)) []:=by
 have hl:=zA xH c.li;unfold IM;refine eM call295 λF hF=>?_
 refine WW ?_;refine zN (ln c.li) [] [] [7,8] [3,9,7,8] Z (λi T U=>⟨(3,iA (fA (PR c) i))::(9,iA i)::T,U⟩) (Lq ?_ ?_)
 .intro i hi;have B:=zJ xH c.li i hi
  change (c.li.map xH)[i]? =some (xH (xT c i))at B
  have z:=SJ (PR c) i zB;have A:=Za i zB
  have e:fA (PR c) (i+1)=if PR c i=true then fA (PR c) i+p2 i else fA (PR c) i:=rfl
  have u:PR c i=((xT c i).lamp != 0):=rfl;rw[e,u];generalize fA (PR c) i=b,xT c i=t at *;by_cases h:t.lamp=0
  .rw[Of (by simp[h])];refine WW ?_;rfl
  .rw[Os (by simp[h])];refine WW ?_;rfl
 .exact lc
def Ah (j:Jn) (z:ln j.ph<=1000) (u:∀p:Nat,p<ln j.ph->0<=(yH j p).group/\(yH j p).group<=3):zO 296 [wD j] [] (iA (fT j)) []:=by
 have hl:=zA xQ j.ph;unfold fT;refine eM call296 λF hF=>?_
 refine WW ?_;refine zN (ln j.ph) [] [] [7,8] [3,9,7,8] Z (λi T U=>⟨(3,iA (uc j.ph i))::(9,iA i)::T,U⟩) (Lq ?_ ?_)
 .intro i hi;have A:=zJ xQ j.ph i hi;have hb:=u i hi;unfold yH at hb;have e:uc j.ph (i+1)=max (uc j.ph i) ((j.ph.getD i dd).group+1):=rfl;rw[e];generalize uc j.ph i=g,j.ph.getD i dd=t at *;refine WW ?_;rfl
 .exact lc
def o6 (j:Jn) (C:ln j.ph<=1000) (r g:Int):zO 231 [wD j,iA r,iA g] [] (zD nA (TL j r g (ln j.ph))) []:=by
 have hl:=zA xQ j.ph;refine eM call231 λF hF=>?_
 refine WW ?_;refine zS 7 1001 1 Z Z Z ?_;refine zN (ln j.ph) [1001] [] [1,2,11,12] [7,13,1,2,11,12] Z (λi T U=>⟨(7,.ref 1001 0 ((TL j r g i).map nA).length)::(13,iA i)::T,(1001,.arr 1 ((TL j r g i).map nA) true)::U⟩) (Lq ?_ ?_)
 .intro i hi;have B:=zJ xQ j.ph i hi
  change (j.ph.map xQ)[i]? =some (xQ (yH j i))at B
  have z:=AS j r g i
  have u:(TL j r g i).length<=1000:=by
   have:(TL j r g i).length<=(ny i).length:=zBy _ _;rw[zBo]at this;omega
  have A:((TL j r g i).map nA).length<=1000:=by rw[zAa];exact u
  rw[z];generalize TL j r g i=o,yH j i=t at *;by_cases h1:t.ring=r
  .by_cases h2:t.group=g
   .rw[Os ⟨h1,h2⟩,zAf];generalize o.map nA=xs at *;refine WW ?_;rfl
   .rw[Of (λh=>h2 h.2)];refine WW ?_;rfl
  .rw[Of (λh=>h1 h.1)];refine WW ?_;rfl
 ·(refine WW ?_)
  exact zH [] Z Z (Jf _ _) Z
theorem Ez (j:Jn) (r g f:Int):jV j r g f=match (TL j r g (ln j.ph)).find? (λp:Nat=>decide (f<=(p:Int)))with
 |some p=>(p:Int)
 |none=> -1:=by grind [jV,TL,NG,IL,yH]
def ZU (j:Jn) (R:ln j.ph<=1000) (r g p:Int):zO 192 [wD j,iA r,iA g,iA p] [] (iA (jV j r g (p+1))) []:=by
 have z:=o6 j R r g;rw[Ez]
 have G:(TL j r g (ln j.ph)).length<=1000:=by
  have:(TL j r g (ln j.ph)).length<=(ny (ln j.ph)).length:=zBy _ _;rw[zBo]at this;omega
 generalize TL j r g (ln j.ph)=o at *;have hl:=zA nA o
 cases A:o.find? (λq:Nat=>decide (p+1<=(q:Int)))with
 | some q=>
  dsimp only;rw[List.find?_eq_some_iff_getElem]at A;obtain⟨S,I,O,M,hb⟩:=A;rw[zAe]at S;refine eM call192 λF hF=>?_
  refine zQ z ?_;refine yW (ln o) [] [] [3,14,15] [16,3,14,15] Z (λi T U V=>(i<=I)/\V=⟨(16,iA i)::T,U⟩) (Lp ?_ ?_ ?_)
  .exact⟨zAr _,rfl⟩
  .rintro u st B ⟨hui,rfl⟩;have C:=zJ nA o u B;by_cases e:u=I
   .subst e;have E:o.getD u dd=q:=by rw[<-M];simp[oj,B]
    rw[E]at C;unfold nA at C;clear hb z;exact lc
   .have h2:=hb u zB;have E:o.getD u dd=o[u]:=by simp[oj,B]
    rw[<-E]at h2;have L:¬p+1<=((o.getD u dd:Nat):Int):=by simpa using h2
    generalize o.getD u dd=v at *;unfold nA at C;clear hb z h2;refine WW ?_;exact⟨zB,rfl⟩
  .rintro st ⟨hui,rfl⟩;exfalso;omega
 | none=>
  dsimp only;rw[List.find?_eq_none]at A;refine eM call192 λF hF=>?_
  refine zQ z ?_;refine zN (ln o) [] [] [3,14,15] [16,3,14,15] Z (λi T U=>⟨(16,iA i)::T,U⟩) (Lq ?_ ?_)
  .intro u B;have C:=zJ nA o u B;have h2:=A (o.getD u dd) (by simp[oj,B]);have L:¬p+1<=((o.getD u dd:Nat):Int):=by simpa using h2
   generalize o.getD u dd=v at *;unfold nA at C;clear A z h2;refine WW ?_;rfl
  .clear A z;exact lc
def Mr (u z:Int):Nat->List AV
 |0=>[]
 |1=>[iA u]
 |_+2=>[iA u,iA z]
def LY (j:Jn) (G:ln j.ph<=1000) (g R M:Int) (L N:List AV) (I S:Nat):zO 146 [wD j,.ptr 3000 0 0,iA g] [(3000,.box [.ref 1001 0 I,iA R,.ref 1002 0 S,iA M]),(1001,.arr 2 L false),(1002,.arr 1 N false)] (.tup [])
  [(3000,.box [.ref 1001 0 I,iA g,.ref 2001 0 2,iA M]),(1001,.arr 2 L false),(1002,.arr 1 N false),(2001,.arr 1 [iA (jV j 0 g 0),iA (jV j 1 g 0)] false)]:=by
 have C:=ZU j G 0 g (-1);have E:=ZU j G 1 g (-1);rw[show(-1:Int)+1=0 by omega]at C E;generalize jV j 0 g 0=u,jV j 1 g 0=z at *;obtain⟨B,A⟩:∃n:Nat,n=2:=⟨2,rfl⟩;refine eM call146 λF hF=>?_
 refine WW ?_;refine zS 6 2001 1 Z Z Z ?_;refine zN (B) [2001,3,3000,1001,1002] [3,3000,1001,1002] [1,2,3] [6,8,1,2,3] Z (λi T U=>⟨(6,.ref 2001 0 (Mr u z i).length)::(8,iA i)::T,(2001,.arr 1 (Mr u z i) (i != 1))::U⟩) (Lq ?_ ?_)
 .intro i hi;have:i=0\/i=1:=by omega
  rcases this with rfl|rfl
  .have hl:(Mr u z 0).length=0:=rfl;refine zQ C ?_;rfl
  .have hl:(Mr u z 1).length=1:=rfl;refine zQ E ?_;rfl
 .have O:Mr u z B=[iA u,iA z]:=by rw[A];rfl
  have e3:(B != 1)=true:=by rw[A];rfl
  rw[O,e3]
  (repeat' (first|refine Xu ?_|apply yZ|apply xM|intro hc|(apply zG;first|refine SM ?_)|fail))
  refine yB Z (xJ ?_);refine kV 2001 [6] Z Z Z Z Z ?_;refine WW ?_;exact qM [3000,1001,1002,2001] Z Z Z Z
theorem aZ (j:Jn) (J:JV j) (hn:ln j.ph<=1000) (G:ln j.cf<=40) (c:Ct) (hc:ln c.li=ln j.ph) (hm:ln c.nx=2) (p:Nat) (S:p<ln j.ph) (hr:0<=(yH j p).ring/\(yH j p).ring<=1) (E:cW j c p=true\/c.gr=(yH j p).group):
  zO 294 [wD j,.ptr 3000 0 0,iA (p:Int)] (kP c 1002) (.tup []) (kP (uM j c p) 1002):=by
 have ar:=zA xQ j.ph;have ag:=zA xH c.li;have ap:=zA iA c.nx;have I:=zJ xQ j.ph p S
 change (j.ph.map xQ)[p]? =some (xQ (yH j p))at I
 have L:=ZU j hn (yH j p).ring (yH j p).group p;unfold uM;by_cases hk:cW j c p=true
 case pos=>
  rw[Os hk];unfold cW at hk;rw[zBz]at hk;obtain⟨M,V,hk⟩:=hk;rw[zA3]at V;unfold kP;refine eM call294 λF hF=>?_
  refine WW ?_;refine yW (ln c.li) [3,3000,1001,1002] [3,3000,1001,1002] [1,2,3,12,13] [14,1,2,3,12,13] Z (λi T U zs=>(i<=M)/\zs=⟨(14,iA i)::T,U⟩) (Lp ?_ ?_ ?_)
  .exact⟨zAr _,rfl⟩
  .rintro i st hi ⟨hiq,rfl⟩;have Y:=zJ xH c.li i hi
   change (c.li.map xH)[i]? =some (xH (xT c i))at Y
   have u:=jP j.cf G i p;rw[J.sy i p zB S]at u;by_cases hb:((xT c i).lamp != 0&&kX j.cf p i)=true
   .rw[zAn]at hb;have h1:(xT c i).lamp≠0:=by simpa using hb.1
    rw[hb.2]at u;generalize xT c i=t at *;clear hb L hk;refine zQ u ?_;exact zP [3000,1001,1002] Z Z Z Z
   .have au:i<M:=by
     rcases zFr i M with h|h
     .exact h
     .rw[show i=M by omega]at hb;exact absurd hk hb
    rw[zAn]at hb;by_cases h1:(xT c i).lamp=0
    .generalize xT c i=t at *;clear hb hk;refine WW ?_;exact⟨zB,rfl⟩
    .have A:kX j.cf p i=false:=by
      cases A:kX j.cf p i with
      |false=>rfl
      |true=>exact absurd ⟨by simpa using h1,A⟩ hb
     rw[A]at u;generalize xT c i=t at *;clear hb hk;refine zQ u ?_;exact⟨zB,rfl⟩
  .rintro st ⟨hiq,rfl⟩;exfalso;omega
 have z:cW j c p=false:=by simpa using hk
 have R:c.gr=(yH j p).group:=by
  rcases E with E|E
  .exact absurd E hk
  .exact E
 rw[Of hk];have eb:KC j c p=AN c p:=by unfold KC;rw[Os R]
 rw[eb];unfold cW at z;rw[zCy]at z;have O:∀q,q<ln c.li->((xT c q).lamp != 0&&kX j.cf p q)=false:=λq A=>by simpa using z q (zA3.2 A)
 unfold AN kP;dsimp only;rw[zBs,zBs,zBp,zBp];clear z hk eb E;generalize jV j (yH j p).ring (yH j p).group (p+1)=fo at *;obtain⟨rn,B⟩:∃n:Nat,(yH j p).ring=n:=⟨(yH j p).ring.toNat,zB⟩;have C:=zJ xH c.li p zB;have ac:=zJ iA c.nx rn zB;generalize W:xT c p=l0 at*
 change (c.li.map xH)[p]? =some (xH (xT c p))at C
 rw[W]at C;generalize c.nx.getD rn dd=n0 at *;refine eM call294 λF hF=>?_
 refine WW ?_;refine zN (ln c.li) [3,3000,1001,1002] [3,3000,1001,1002] [1,2,3,12,13] [14,1,2,3,12,13] Z (λi T U=>⟨(14,iA i)::T,U⟩) (Lq ?_ ?_)
 .intro i hi;have Y:=zJ xH c.li i hi
  change (c.li.map xH)[i]? =some (xH (xT c i))at Y
  have u:=jP j.cf G i p;rw[J.sy i p zB S]at u;have hb:=O i hi;clear O C ac L;by_cases h1:(xT c i).lamp=0
  .generalize xT c i=t at *;clear hb;refine WW ?_;rfl
  .have A:kX j.cf p i=false:=by
    cases A:kX j.cf p i with
    |false=>rfl
    |true=>
     rw[A,zC3]at hb;exact absurd GP h1
   rw[A]at u;generalize xT c i=t at *;clear hb;refine zQ u ?_;rfl
 .clear O;generalize yH j p=t at *;rw[B,zAx];have et:xQ t= .agg [iA rn,iA t.group,iA t.ming,iA t.maxg,iA t.yel,iA t.red,iA t.walk,iA t.clear]:=by rw[<-B];rfl
  rw[et]at I;rw[B]at L;refine zQ L ?_;exact qM [3000,1001,1002] Z Z Z Z
theorem XP (j:Jn) (J:JV j) (hn:ln j.ph<=1000) (G:ln j.cf<=40) (c:Ct) (hc:ln c.li=ln j.ph) (hm:ln c.nx=2) (p:Nat) (S:p<ln j.ph) (hr:0<=(yH j p).ring/\(yH j p).ring<=1) (E:cW j c p=true\/c.gr=(yH j p).group):
  zO 294 [wD j,.ptr 3000 0 0,iA (p:Int)] (kP c 2001) (.tup []) (kP (uM j c p) 2001):=by
 have ar:=zA xQ j.ph;have ag:=zA xH c.li;have ap:=zA iA c.nx;have I:=zJ xQ j.ph p S
 change (j.ph.map xQ)[p]? =some (xQ (yH j p))at I
 have L:=ZU j hn (yH j p).ring (yH j p).group p;unfold uM;by_cases hk:cW j c p=true
 case pos=>
  rw[Os hk];unfold cW at hk;rw[zBz]at hk;obtain⟨M,V,hk⟩:=hk;rw[zA3]at V;unfold kP;refine eM call294 λF hF=>?_
  refine WW ?_;refine yW (ln c.li) [3,3000,1001,2001] [3,3000,1001,2001] [1,2,3,12,13] [14,1,2,3,12,13] Z (λi T U zs=>(i<=M)/\zs=⟨(14,iA i)::T,U⟩) (Lp ?_ ?_ ?_)
  .exact⟨zAr _,rfl⟩
  .rintro i st hi ⟨hiq,rfl⟩;have Y:=zJ xH c.li i hi
   change (c.li.map xH)[i]? =some (xH (xT c i))at Y
   have u:=jP j.cf G i p;rw[J.sy i p zB S]at u;by_cases hb:((xT c i).lamp != 0&&kX j.cf p i)=true
   .rw[zAn]at hb;have h1:(xT c i).lamp≠0:=by simpa using hb.1
    rw[hb.2]at u;generalize xT c i=t at *;clear hb L hk;refine zQ u ?_;exact zP [3000,1001,2001] Z Z Z Z
   .have au:i<M:=by
     rcases zFr i M with h|h
     .exact h
     .rw[show i=M by omega]at hb;exact absurd hk hb
    rw[zAn]at hb;by_cases h1:(xT c i).lamp=0
    .generalize xT c i=t at *;clear hb hk;refine WW ?_;exact⟨zB,rfl⟩
    .have A:kX j.cf p i=false:=by
      cases A:kX j.cf p i with
      |false=>rfl
      |true=>exact absurd ⟨by simpa using h1,A⟩ hb
     rw[A]at u;generalize xT c i=t at *;clear hb hk;refine zQ u ?_;exact⟨zB,rfl⟩
  .rintro st ⟨hiq,rfl⟩;exfalso;omega
 have z:cW j c p=false:=by simpa using hk
 have R:c.gr=(yH j p).group:=by
  rcases E with E|E
  .exact absurd E hk
  .exact E
 rw[Of hk];have eb:KC j c p=AN c p:=by unfold KC;rw[Os R]
 rw[eb];unfold cW at z;rw[zCy]at z;have O:∀q,q<ln c.li->((xT c q).lamp != 0&&kX j.cf p q)=false:=λq A=>by simpa using z q (zA3.2 A)
 unfold AN kP;dsimp only;rw[zBs,zBs,zBp,zBp];clear z hk eb E;generalize jV j (yH j p).ring (yH j p).group (p+1)=fo at *;obtain⟨rn,B⟩:∃n:Nat,(yH j p).ring=n:=⟨(yH j p).ring.toNat,zB⟩;have C:=zJ xH c.li p zB;have ac:=zJ iA c.nx rn zB;generalize W:xT c p=l0 at*
 change (c.li.map xH)[p]? =some (xH (xT c p))at C
 rw[W]at C;generalize c.nx.getD rn dd=n0 at *;refine eM call294 λF hF=>?_
 refine WW ?_;refine zN (ln c.li) [3,3000,1001,2001] [3,3000,1001,2001] [1,2,3,12,13] [14,1,2,3,12,13] Z (λi T U=>⟨(14,iA i)::T,U⟩) (Lq ?_ ?_)
 .intro i hi;have Y:=zJ xH c.li i hi
  change (c.li.map xH)[i]? =some (xH (xT c i))at Y
  have u:=jP j.cf G i p;rw[J.sy i p zB S]at u;have hb:=O i hi;clear O C ac L;by_cases h1:(xT c i).lamp=0
  .generalize xT c i=t at *;clear hb;refine WW ?_;rfl
  .have A:kX j.cf p i=false:=by
    cases A:kX j.cf p i with
    |false=>rfl
    |true=>
     rw[A,zC3]at hb;exact absurd GP h1
   rw[A]at u;generalize xT c i=t at *;clear hb;refine zQ u ?_;rfl
 .clear O;generalize yH j p=t at *;rw[B,zAx];have et:xQ t= .agg [iA rn,iA t.group,iA t.ming,iA t.maxg,iA t.yel,iA t.red,iA t.walk,iA t.clear]:=by rw[<-B];rfl
  rw[et]at I;rw[B]at L;refine zQ L ?_;exact qM [3000,1001,2001] Z Z Z Z
theorem AF (j:Jn) (J:JV j) (Y:ln j.ph<=1000) (M:ln j.cf<=40) (c:Ct) (hc:ln c.li=ln j.ph) (hm:ln c.nx=2) (p:Nat) (hp:p<ln j.ph) (hr:0<=(yH j p).ring/\(yH j p).ring<=1) (u:cW j c p=false) (R:c.gr≠(yH j p).group):
  zO 294 [wD j,.ptr 3000 0 0,iA (p:Int)] (kP c 1002) (.tup []) (ZV (uM j c p) c.nx):=by
 have ap:=zA xQ j.ph;have ac:=zA xH c.li;have ag:=zA iA c.nx;have E:=zJ xQ j.ph p hp
 change (j.ph.map xQ)[p]? =some (xQ (yH j p))at E
 have G:=ZU j Y (yH j p).ring (yH j p).group p;unfold uM;rw[Of (by rw[u];decide)];have W:KC j c p=OQ j (AN c p) (yH j p).group:=by unfold KC;rw[Of R]
 rw[W];unfold cW at u;rw[zCy]at u;have L:∀q,q<ln c.li->((xT c q).lamp != 0&&kX j.cf p q)=false:=λq C=>by simpa using u q (zA3.2 C)
 have V:=LY j Y (yH j p).group c.gr c.wt ((c.li.map xH).set p (xH ⟨1,0⟩)) (c.nx.map iA) (c.li.map xH).length (c.nx.map iA).length;unfold OQ AN kP ZV;dsimp only;rw[zBs,zBs,zBp,zBp];rw[show([jV j 0 (yH j p).group 0,jV j 1 (yH j p).group 0].map iA)=[iA (jV j 0 (yH j p).group 0),iA (jV j 1 (yH j p).group 0)]from Z];have O:(([iA (jV j 0 (yH j p).group 0),iA (jV j 1 (yH j p).group 0)]:List AV)).length=2:=rfl;rw[O]
 have A:∃v,([iA (jV j 0 (yH j p).group 0),iA (jV j 1 (yH j p).group 0)]:List AV)[(yH j p).ring.toNat]? =some (iA v):=by
  have:(yH j p).ring=0\/(yH j p).ring=1:=by omega
  rcases this with h|h<;>rw[h]
  all_goals exact⟨_,rfl⟩
 obtain⟨v0,A⟩:=A;generalize ([iA (jV j 0 (yH j p).group 0),iA (jV j 1 (yH j p).group 0)]:List AV)=fx at *;clear u W;generalize jV j (yH j p).ring (yH j p).group (p+1)=fo at *;obtain⟨rn,z⟩:∃n:Nat,(yH j p).ring=n:=⟨(yH j p).ring.toNat,zB⟩;have B:=zJ xH c.li p zB;rw[z,zAx]at A;generalize S:xT c p=l0 at*
 change (c.li.map xH)[p]? =some (xH (xT c p))at B
 rw[S]at B;refine eM call294 λF hF=>?_
 refine WW ?_;refine zN (ln c.li) [3,3000,1001,1002] [3,3000,1001,1002] [1,2,3,12,13] [14,1,2,3,12,13] Z (λi T U=>⟨(14,iA i)::T,U⟩) (Lq ?_ ?_)
 .intro i hi;have hy:=zJ xH c.li i hi
  change (c.li.map xH)[i]? =some (xH (xT c i))at hy
  have I:=jP j.cf M i p;rw[J.sy i p zB hp]at I;have hb:=L i hi;clear L B G V;by_cases h1:(xT c i).lamp=0
  .generalize xT c i=t at *;clear hb;refine WW ?_;rfl
  .have C:kX j.cf p i=false:=by
    cases C:kX j.cf p i with
    |false=>rfl
    |true=>
     rw[C,zC3]at hb;exact absurd GP h1
   rw[C]at I;generalize xT c i=t at *;clear hb;refine zQ I ?_;rfl
 .clear L;generalize yH j p=t at *;rw[z,zAx];have et:xQ t= .agg [iA rn,iA t.group,iA t.ming,iA t.maxg,iA t.yel,iA t.red,iA t.walk,iA t.clear]:=by rw[<-z];rfl
  rw[et]at E;rw[z]at G;refine yJ (xV V G) ?_;exact qM [3000,1001,1002,2001] Z Z Z Z
def Dz (j:Jn) (Y:ln j.ph<=1000) (c:Ct) (hc:ln c.li=ln j.ph) (r:Int):zO 293 [wD j,HX c,iA r] [] (bA (TK j c r)) []:=by
 have hl:=zA xQ j.ph;have O:=zA xH c.li
 cases hd:TK j c r with
 | true=>
  have E:∀p,p<ln j.ph->(yH j p).ring=r->(xT c p).lamp=0:=λp R S=>Gz hd R S
  clear hd;refine eM call293 λF hF=>?_
  refine WW ?_;refine zN (ln c.li) [3] [3] [2,3,10,11] [12,2,3,10,11] Z (λi T U=>⟨(12,iA i)::T,U⟩) (Lq ?_ ?_)
  .intro u G;have I:=zJ xQ j.ph u zB
   change (j.ph.map xQ)[u]? =some (xQ (yH j u))at I
   have C:=zJ xH c.li u G
   change (c.li.map xH)[u]? =some (xH (xT c u))at C
   have E:=E u zB;generalize yH j u=p,xT c u=l at *;by_cases h1:p.ring=r
   .have h2:=E h1;clear E;refine WW ?_;rfl
   .clear E;refine WW ?_;rfl
  .clear E;exact lc
 | false=>
  unfold TK at hd;rw[zDj]at hd;obtain⟨V,B,hb⟩:=hd;rw[bZ]at B;obtain⟨k,_,⟨hk,M,L⟩,z⟩:=KD (P:=λp=>p<ln j.ph/\(yH j p).ring=r/\(xT c p).lamp≠0) V ⟨B.1,B.2,by simpa using hb⟩;clear hb;refine eM call293 λF hF=>?_
  refine WW ?_;refine yW (ln c.li) [3] [3] [2,3,10,11] [12,2,3,10,11] Z (λi T U W=>(i<=k)/\W=⟨(12,iA i)::T,U⟩) (Lp ?_ ?_ ?_)
  .exact⟨zAr _,rfl⟩
  .rintro u st G ⟨huk,rfl⟩;have I:=zJ xQ j.ph u zB
   change (j.ph.map xQ)[u]? =some (xQ (yH j u))at I
   have C:=zJ xH c.li u G
   change (c.li.map xH)[u]? =some (xH (xT c u))at C
   by_cases e:u=k
   .subst e;generalize yH j u=p,xT c u=l at *;clear z;exact lc
   .have A:=z u zB;generalize yH j u=p at *;generalize xT c u=l at *;clear z;by_cases h1:p.ring=r
    .have h2:l.lamp=0:=zD6 λh=>A ⟨zB,h1,h⟩
     clear A;refine WW ?_;exact⟨zB,rfl⟩
    .clear A;refine WW ?_;exact⟨zB,rfl⟩
  .rintro st ⟨huk,rfl⟩;exfalso;omega
def wm (j:Jn) (r t:Int) (i:Nat):Int:=match (IL j r i).find? (λp:Nat=>!kX j.cf p t)with
 |some p=>p
 |none=> -1
def vm (j:Jn) (r t:Int) (i:Nat):wm j r t (i+1)=if(yH j i).ring=r/\kX j.cf i t=false then(if wm j r t i<0 then(i:Int)else wm j r t i)else wm j r t i:=by grind [wm,yH,kX,RR,IL]
def Kt {r:Int} {i:Nat} (h:p∈IL j r i):p<i:=by grind [IL]
theorem Cz (j:Jn) (hn:ln j.ph<=1000) (V:ln j.cf<=40) (c:Ct) (hm:ln c.nx=2) (r:Int) (hr:0<=r/\r<2) (t:Nat) (ht:t<ln j.ph) (hx:c.nx.getD r.toNat dd= -1\/0<=c.nx.getD r.toNat dd):zO 292 [wD j,HX c,iA r,iA (t:Int)] [] (iA (YV j c r t)) []:=by
 have hl:=zA xQ j.ph;have ag:=zA iA c.nx;have Y:=zJ xQ j.ph t ht
 change (j.ph.map xQ)[t]? =some (xQ (yH j t))at Y
 have ap:=yF iA c.nx r hr.1 zB;unfold YV;generalize c.nx.getD r.toNat dd=B at *;by_cases O:r=(yH j t).ring
 .rw[Os O];generalize yH j t=pt at *;refine eM call292 λF hF=>?_
  exact lc
 rw[Of O];have ac:¬(yH j t).ring=r:=λh=>O h.symm
 generalize yH j t=pt at *;refine eM call292 λF hF=>?_
 refine WW ?_;refine yW (ln j.ph) [4,5] [4,5] [2,3,4,5,22,23] [9,24,2,3,4,5,22,23] Z (λi T U zs=>(∀p∈IL j r i,(!kX j.cf p t&&decide (B≠ -1/\B<=(p:Int)))=false)/\zs=⟨(9,iA (wm j r t i))::(24,iA i)::T,U⟩) (Lp ?_ ?_ ?_)
 .exact⟨λp G=>absurd (Kt G) (zB7 _),rfl⟩
 .rintro i st hi ⟨hI,rfl⟩;have hy:=zJ xQ j.ph i hi
  change (j.ph.map xQ)[i]? =some (xQ (yH j i))at hy
  have M:=jP j.cf V i t;have E:=vm j r t i;have I:=RR j r i
  have u:(yH j i).ring=r->(!kX j.cf i t&&decide (B≠ -1/\B<=(i:Int)))=false->∀p∈IL j r (i+1),(!kX j.cf p t&&decide (B≠ -1/\B<=(p:Int)))=false:=λh1 hb p G=>by
   rw[I,Os h1,zA5,zBf]at G
   rcases G with G|rfl
   .exact hI p G
   .exact hb
  have C:(yH j i).ring≠r->∀p∈IL j r (i+1),(!kX j.cf p t&&decide (B≠ -1/\B<=(p:Int)))=false:=λh1 p G=>by
   rw[I,Of h1]at G;exact hI p G
  have z:(yH j i).ring=r->(!kX j.cf i t&&decide (B≠ -1/\B<=(i:Int)))=true->CK j B r t=i:=λh1 hb=>by
   obtain⟨l2,L⟩:=EC j r (ln j.ph) (i+1) zB;rw[I,Os h1]at L
   have e:(NG j r).find? (λp:Nat=>!kX j.cf p t&&decide (B≠ -1/\B<=(p:Int)))=some i:=by
    unfold NG;rw[L,zA0,List.find?_append,ME hI,Option.none_or,zEg];exact List.find?_cons_of_pos hb
   unfold CK;rw[e]
  clear hI I;generalize kX j.cf i t=q,wm j r t (i+1)=s2,wm j r t i=s1 at *;by_cases h1:(yH j i).ring=r
  case neg=>
   have A:=C h1;rw[Of (λh=>h1 h.1)]at E;generalize yH j i=p at *;subst E;clear u C z;refine WW ?_;exact⟨A,rfl⟩
  have u:=u h1;have z:=z h1;clear C
  cases q with
  |true=>
   rw[Of (λh=>by cases h.2)]at E;have A:=u Z;generalize yH j i=p at *;subst E;clear u z;refine zQ M ?_;exact⟨A,rfl⟩
  |false=>
  rw[Os ⟨h1,rfl⟩]at E;by_cases h2:s1<0
  .rw[Os h2]at E;subst E;by_cases R:B= -1
   .have A:=u (by rw[zAc (λh=>h.1 R)];rfl);generalize yH j i=p at *;clear u z;refine zQ M ?_;exact⟨A,rfl⟩
   by_cases S:B<=(i:Int)
   .rw[z (by rw[zAd ⟨R,S⟩];rfl)];generalize yH j i=p at *;clear u z;exact lk M
   .have A:=u (by rw[zAc (λh=>S h.2)];rfl);generalize yH j i=p at *;clear u z;refine zQ M ?_;exact⟨A,rfl⟩
  .rw[Of h2]at E;subst E;by_cases R:B= -1
   .have A:=u (by rw[zAc (λh=>h.1 R)];rfl);generalize yH j i=p at *;clear u z;refine zQ M ?_;exact⟨A,rfl⟩
   by_cases S:B<=(i:Int)
   .rw[z (by rw[zAd ⟨R,S⟩];rfl)];generalize yH j i=p at *;clear u z;exact lk M
   .have A:=u (by rw[zAc (λh=>S h.2)];rfl);generalize yH j i=p at *;clear u z;refine zQ M ?_;exact⟨A,rfl⟩
 .rintro st ⟨hI,rfl⟩
  have W:CK j B r t=wm j r t (ln j.ph):=by
   unfold CK wm;rw[show NG j r=IL j r (ln j.ph) from Z,ME hI];rfl
  rw[W];clear hI;generalize wm j r t (ln j.ph)=s1 at *;exact lc
def zi (c:Ct) (h1:ln c.li<=1000) (h2:ln c.nx<=1000):zO 171 [HX c] [] (.agg [.ref 1001 0 (c.li.map xH).length,iA c.gr,.ref 1002 0 (c.nx.map iA).length,iA c.wt]) [(1001,.arr 2 (c.li.map xH) false),(1002,.arr 1 (c.nx.map iA) false)]:=by
 have hl:=zA xH c.li;have u:=zA iA c.nx;refine eM call171 λF hF=>?_
 (repeat' (first|refine uD ?_|apply yZ|apply xM|intro hc|(apply zG;first|(apply yG;first|refine wA 1001 tok Z Z Z Z Z Z (zZ _ _ (λ_=>rfl)) Z Z Z zB Z Z Z ?_|refine wA 1002 tok Z Z Z Z Z Z (zZ _ _ (λ_=>rfl)) Z Z Z zB Z Z Z ?_))|fail))
 exact zP [1001,1002] Z Z Z Z
