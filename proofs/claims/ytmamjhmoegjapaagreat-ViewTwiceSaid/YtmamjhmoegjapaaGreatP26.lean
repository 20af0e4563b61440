/- Part 26. -/
import Derived.Test.YtmamjhmoegjapaaGreatP25
namespace Go.Proofs.YtmamjhmoegjapaaGreat
namespace Av
open Tryz
set_option linter.all false
set_option maxRecDepth 4000
set_option maxHeartbeats 1000000
theorem zKt (j:Jn) (hn:j.ph.length<=1000) (g gr wt:Int) (L:List AV) (nL:Nat):zO 181 [wC j,.ptr 3000 0 0,iA g] [(3000,.box [.ref 1001 0 nL,iA gr,.s (.slice none 0 0),iA wt]),(1001,.arr 2 L false)] (.tup [])
  [(3000,.box [.ref 1001 0 nL,iA g,.ref 2001 0 2,iA wt]),(1001,.arr 2 L false),(2001,.arr 1 [iA (bE j 0 g 0),iA (bE j 1 g 0)] false)]:=by
 have c0:=WP j hn 0 g 0;have c1:=WP j hn 1 g 0;generalize bE j 0 g 0=f0 at *;generalize bE j 1 g 0=f1 at *;obtain⟨N2,hN2⟩:∃n:Nat,n=2:=⟨2,rfl⟩;refine eM call181 λF hF=>?_
 (repeat' (first|refine qS ?_|refine xR (λhc=>?_) (λhc=>?_)|refine wE (λhc=>?_)|(refine zE ?_;first|(refine gT ?_;refine cI 2001 tok rfl rfl rfl rfl rfl rfl rfl rfl rfl rfl rfl rfl rfl zB zB rfl rfl rfl ?_))|fail))
 refine zP (N2) [3000,2001,3,1001] [3,1001] [1,2,3] [20,19,1,2,3] rfl (λi T U=>⟨(20,iA i)::(19,iA N2)::T,(3000,.box [.ref 1001 0 nL,iA g,.ref 2001 0 N2,iA wt])::(2001,.arr 1 (enN f0 f1 i) false)::U⟩) ?_;(conv=>whnf);refine⟨by(rw[hN2];rfl),?_,?_⟩
 ·intro i hi;have:i=0∨i=1:=by omega
  rcases this with rfl|rfl
  ·have hy:(enN f0 f1 0)[((0:Nat):Int).toNat]? =some (iA 0):=rfl;have hl:(enN f0 f1 0).length=2:=rfl;refine zW c0 ?_;rfl
  ·have hy:(enN f0 f1 1)[((1:Nat):Int).toNat]? =some (iA 0):=rfl;have hl:(enN f0 f1 1).length=2:=rfl;refine zW c1 ?_;rfl
 ·have e2:enN f0 f1 N2=[iA f0,iA f1]:=by rw[hN2];rfl
  rw[e2];refine WW ?_;subst hN2;exact jJ [3000,1001,2001] rfl rfl rfl rfl
def inF (j:Jn):Ct:=⟨List.replicate j.ph.length ⟨0,0⟩,0,[bE j 0 0 0,bE j 1 0 0],j.st⟩
theorem zBb (j:Jn) (p:Nat):vI (inF j) p=⟨0,0⟩:=by
 unfold vI inF;simp only[zY0,yAm]
 split<;>rfl
theorem zKu {j:Jn} (J:JV j):CV j (inF j):=by
 refine⟨by simp[inF],λp hp=>by rw[zBb];rfl,λp q hp hq hpq h1 h2=>by rw[zBb]at h1;exact absurd rfl h1,⟨yAu _,?_⟩,rfl,λr hr=>zRp j (inF j) 0 r hr,⟨J.st.1,yAu _⟩,.inr λp hp=>by rw[zBb]⟩;have:=GC J
 show(0:Int)<UY j
 omega
theorem zUu {P:Program} {K0:List Nat} {F:Fr K0} {m:Nat} {ops:Array Oper} {rest:List Oper} {Q:List FP->St->Prop} {dr:Bool} {fs:List FP} {ty T:Nat} {pos:String} {after:Array Edge} {st:St} (hk:zY P F m ops dr (⟨some 3,.alloc T,ty,pos,after,none⟩::rest) st fs Q):zY P F m ops dr (⟨some 3,.alloc T,ty,pos,after,none⟩::rest) st fs Q:=hk
theorem zUv (j:Jn) (hn:j.ph.length<=1000):zO 145 [wC j] [] (ctA (inF j)) []:=by
 have hlp:=zA vE j.ph;have ce:=zKt j hn 0 0 j.st ((List.replicate j.ph.length (⟨0,0⟩:Li)).map vM) ((List.replicate j.ph.length (⟨0,0⟩:Li)).map vM).length;have eL:(List.replicate j.ph.length (⟨0,0⟩:Li)).map vM=List.replicate j.ph.length (vM ⟨0,0⟩):=yCd;have eN:((List.replicate j.ph.length (⟨0,0⟩:Li)).map vM).length=j.ph.length:=by simp
 rw[eN,eL]at ce;rw[<-hlp]at ce;refine eM call145 λF hF=>?_
 repeat' (first|(refine zE ?_;first|(refine zUu ?_;refine uF (nw:=[3000]) (YB tok 3000 rfl rfl) rfl rfl rfl ?_)|refine wZ tok rfl rfl ?_|(refine gT ?_;refine cI 1001 tok rfl rfl rfl rfl rfl rfl rfl rfl rfl rfl rfl rfl rfl zB zB rfl rfl rfl ?_)|refine dX tok rfl rfl rfl rfl ?_|(refine xT ?_;(first|(refine vT 181 ?_;first|refine yF (zH (ce) rfl rfl rfl rfl rfl) rfl ?_|refine uF (zH (ce) rfl rfl rfl rfl rfl) rfl rfl rfl ?_|refine bJ (zH (ce) rfl rfl rfl rfl rfl) rfl rfl rfl ?_)))|(refine dE ?_;refine fY tok rfl rfl rfl ?_)|refine aY OE ?_|refine uM ?_)|first|refine SQ ?_|fail)
 have eF:AV.agg [.sl false ((List.replicate (j.ph.map vE).length (vM ⟨0,0⟩)).take (j.ph.map vE).length),iA 0,.sl false [iA (bE j 0 0 0),iA (bE j 1 0 0)],iA j.st]=ctA (inF j):=by
  rw[zYy zU,hlp,<-eL];rfl
 exact zI [] rfl rfl eF rfl
theorem zXa (p:Nat->Bool) {n q:Nat} (hn:n<=8) (hq:q<n):inS (eV p n) q=p q:=by
 have e:=HW (λi=>decide (i<n)&&p i) n 8 hn (λi h1 h2=>by rw[zYw zB];rfl);have e2:eV p n=eV (λi=>decide (i<n)&&p i) n:=cS _ λi hi=>by rw[zYu hi];rfl
 rw[e2,<-e,zLe _ q zB,zYu hq];rfl
theorem zDe (ps:List Ph) (ex:Bool) (i:Nat):∀n,YU ps ex i n=eV (cnd ps ex i) n
 |0=>rfl
 |n+1=>by
  unfold YU eV;rw[zDe ps ex i n];have:(2:Int) ^ n=p2 n:=by unfold p2;rw[yAc]
  rw[this]
theorem zPy (ps:List Ph) (ex:Bool) {p q:Nat} (hn:ps.length<=8) (hp:p<ps.length) (hq:q<ps.length):eO (gL ps ex ps.length) p q=cnd ps ex p q:=by
 have hl:(gL ps ex ps.length).length=ps.length:=by simp[gL]
 unfold eO;rw[zYu zB,zZh,yAc]
 have e:(gL ps ex ps.length).getD p default=YU ps ex p ps.length:=by
  unfold gL;simp[List.getD,hp]
 rw[e,zDe];exact zXa _ hn hq
theorem zKv (d:Dk) (l:List (Int×Int)):∀i k,k<i->∃e,(KA d l i).1.getD k default=TB e (l.getD k default)
 |0,k,h=>absurd h (yBb _)
 |i+1,k,h=>by
  have hl:=UN d l i;unfold KA;by_cases hk:k=i
  ·subst hk;refine⟨(KA d l k).2,?_⟩;simp[List.getD,hl]
  ·obtain⟨e,he⟩:=zKv d l i k zB;refine⟨e,?_⟩;rw[<-he];simp only[zY0];rw[zZf zB]
def ShB (l:List (Int×Int)):Bool:=(l.all λs=>decide (0<=s.1/\s.1<=1/\0<=s.2/\s.2<=3))&&(l.all λs=>[0,1,2].all λg:Int=>decide (s.2<=g)||(l.any λs'=>s'.2==g))
theorem zKw (n:Int):ShB (qI n)=true:=by
 unfold qI;split
 ·decide
 split
 ·decide
 split
 ·decide
 split
 ·decide
 split
 ·decide
 ·decide
theorem CN (d:Dk) (s:Int×Int):(TB d s).ring=s.1/\(TB d s).group=s.2/\1<=(TB d s).ming/\(TB d s).ming<=(TB d s).maxg/\(TB d s).maxg<=60/\1<=(TB d s).yel/\(TB d s).yel<=60/\0<=(TB d s).red/\(TB d s).red<=60/\0<=(TB d s).walk/\(TB d s).walk<=60/\0<=(TB d s).clear/\(TB d s).clear<=60/\(TB d s).walk+(TB d s).clear<=(TB d s).maxg/\((TB d s).walk=0↔(TB d s).clear=0):=by
 have b1:=yD d (3-1+1) zB;have b2:=yD (ad d) (2-1+1) zB;have b3:=yD (ad (ad d)) 3 zB;have b4:=yD (ad (ad (ad (ad d)))) (2-1+1) zB;have b5:=yD (ad (ad (ad (ad (ad d))))) (2-1+1) zB;have b6:=yD (ad (ad (ad (ad (ad (ad d)))))) 4 zB;have b7:=yD (ad (ad (ad (ad d)))) 4 zB;unfold TB;split
 ·dsimp only;omega
 ·dsimp only;omega
theorem zRm (a b:Int):(a==b)=(b==a):=by rw[yDf,zZ7,zZ7];exact eq_comm
theorem zXb (a b:Int):(a != b)=(b != a):=by unfold bne;rw[zRm]
theorem zXc (a b:Nat):(a != b)=(b != a):=by unfold bne;rw[show(a==b)=(b==a) by rw[yDf,zZ7,zZ7];exact eq_comm]
theorem zUw (d:Dk):JV (jnF d):=by
 have hsl:=ND (nx d 6);have hsb:=zKw (nx d 6);have hst:=yD (ad d) 3 zB;have hlen:(WA d).1.length=(qI (nx d 6)).length:=UN _ _ _
 have hat:∀k,k<(WA d).1.length->∃e,xI (jnF d) k=TB e ((qI (nx d 6)).getD k default):=λk hk=>by
  rw[hlen]at hk;exact zKv _ _ _ k hk
 have hph:(jnF d).ph=(WA d).1:=rfl;generalize qI (nx d 6)=sl at *;generalize hex:(nx (WA d).2 4==3)=ex at *;have hcf:(jnF d).cf=gL (WA d).1 ex (WA d).1.length:=by unfold jnF;rw[hex]
 unfold ShB at hsb;simp only[zY6,zY3,zYx,yAt,yAd,zZ7]at hsb
 have hmem:∀k,k<(WA d).1.length->sl.getD k default∈sl:=λk hk=>by
  rw[hlen]at hk;simp[List.getD,hk]
 have hcd:∀p q:Nat,p<(WA d).1.length->q<(WA d).1.length->eO (jnF d).cf p q=cnd (WA d).1 ex p q:=λp q hp hq=>by
  rw[hcf];exact zPy _ _ zB hp hq
 have hc1:(jnF d).cf.length=(WA d).1.length:=by rw[hcf];simp[gL]
 refine⟨?_,?_,?_,?_,?_,?_,?_,?_,?_,?_,?_⟩
 ·rw[hph];omega
 ·rw[hph];exact hc1
 ·intro i hi;rw[hph]at hi⊢
  have e:(jnF d).cf.getD i default=YU (WA d).1 ex i (WA d).1.length:=by
   rw[hcf];unfold gL;simp[List.getD,hi]
  rw[e];exact QJ _ _ _ _
 ·intro p hp;rw[hph]at hp;rw[hcd p p hp hp];unfold cnd;simp
 ·intro p q hp hq;rw[hph]at hp hq;rw[hcd p q hp hq,hcd q p hq hp];unfold cnd;rw[zXc p q,zRm ((WA d).1.getD p default).ring,zXb ((WA d).1.getD p default).group,show((p:Int)+q)=((q:Int)+p) by omega]
 ·intro p q hp hq hpq h;rw[hph]at hp hq;rw[hcd p q hp hq];unfold cnd;rw[show(p != q)=true by simpa using hpq,zZh]
  rcases h with h|h
  ·rw[show(((WA d).1.getD p default).ring==((WA d).1.getD q default).ring)=true from zZ7.2 h];rfl
  ·rw[show(((WA d).1.getD p default).group != ((WA d).1.getD q default).group)=true from yAy.2 h];simp
 ·intro p hp;obtain⟨e,he⟩:=hat p hp;rw[he,(CN e _).1];have:=hsb.1 _ (hmem p hp);omega
 ·intro p hp;obtain⟨e,he⟩:=hat p hp;rw[he,(CN e _).2.1];have:=hsb.1 _ (hmem p hp);omega
 ·intro p hp;obtain⟨e,he⟩:=hat p hp;rw[he];exact(CN e _).2.2
 ·intro p hp g hg0 hg;obtain⟨e,he⟩:=hat p hp;rw[he,(CN e _).2.1]at hg;have h3:=hsb.1 _ (hmem p hp)
  have hgm:g∈([0,1,2]:List Int):=by
   have:g=0∨g=1∨g=2:=by omega
   rcases this with rfl|rfl|rfl<;>simp
  rcases hsb.2 _ (hmem p hp) g hgm with h|⟨s,hs,hsg⟩
  ·omega
  ·obtain⟨q,hq,hqs⟩:=yAz hs;refine⟨q,by rw[hph,hlen];exact hq,?_⟩;obtain⟨e2,he2⟩:=hat q (by rw[hlen];exact hq);rw[he2,(CN e2 _).2.1];have:sl.getD q default=s:=by rw[<-hqs];simp[List.getD,hq]
   rw[this];exact hsg
 ·show 0<=nx (ad d) 3/\nx (ad d) 3<=60
  omega
def nrB (a:Int):Bool:=decide (a=1∨a=2)
theorem ZQ (a:Int):zO 230 [iA a] [] (bA (nrB a)) []:=by
 unfold nrB
 (cases hb:decide (a=1∨a=2)with|false=>((refine eM call230 λF hF=>?_);((refine WW (I2 (λhc=>?_) (λhc=>?_))));all_goals (first|exact zL|(simp only[nrB,zY9]at hb;first|exact zXO|exact zFB)))|true=>(simp only[nrB,zYx]at hb;(refine eM call230 λF hF=>?_);((refine WW (I2 (λhc=>?_) (λhc=>?_))));all_goals (first|exact zL|exact zXO|exact zFB)))
def snF (li:List Li) (k:Int) (p:Nat):Int:=if(p:Int)=k then 1 else(li.getD p default).lamp
def RF (li:List Li) (k:Int):List Int:=(List.range li.length).map (snF li k)
theorem zKx (li:List Li) (k:Int):(RF li k).length=li.length:=by simp[RF]
theorem zKy (f:Nat->Int) (n i:Nat) (h:i<n) (x:Int) (hx:x=f i):(((List.range i).map f++List.replicate (n-i) 0).map iA).set i (iA x)=((List.range (i+1)).map f++List.replicate (n-(i+1)) 0).map iA:=by
 subst hx;rw[<-yAw,show n-i=(n-(i+1))+1 by omega,yCg,yBr _ _ zU,zYq,yAe,yA0,yC0,yBa];simp
theorem CO (f:Nat->Int) (n i:Nat) (h:i<=n):(((List.range i).map f++List.replicate (n-i) 0).map iA).length=n:=by
 simp;omega
theorem zPz (f:Nat->Int) (n i:Nat) (h:i<n):(((List.range i).map f++List.replicate (n-i) 0).map iA)[i]? =some (iA 0):=by
 simp[show 0<n-i by omega]
theorem zUx (li:List Li) (hn:li.length<=1000) (k:Int):zO 198 [zD vM li,iA k] [] (zD iA (RF li k)) []:=by
 have hl:=zA vM li;have e0:List.replicate li.length (AV.s (.int .i64 0))=((List.range 0).map (snF li k)++List.replicate (li.length-0) 0).map iA:=by simp[iA]
 obtain⟨n,hnn⟩:∃n,li.length=n:=⟨_,rfl⟩;refine eM call198 λF hF=>?_
 refine WW ?_;refine zP (li.length) [10] [] [1,5,11,12] [13,1,5,11,12] rfl (λi T U=>⟨(13,iA i)::T,(10,.arr 1 (((List.range i).map (snF li k)++List.replicate (li.length-i) 0).map iA) false)::U⟩) ?_;(conv=>whnf);refine⟨by(rw[<-e0,<-hl];rfl),?_,?_⟩
 ·intro i hi;have hy:=zN vM li i hi;have hfl:=CO (snF li k) li.length i zB;have hfa:=zPz (snF li k) li.length i hi;have hs:=zKy (snF li k) li.length i hi (snF li k i) rfl
  have hsd:snF li k i=if(i:Int)=k then 1 else(li.getD i default).lamp:=rfl
  generalize ((List.range i).map (snF li k)++List.replicate (li.length-i) 0).map iA=xs at *;generalize ((List.range (i+1)).map (snF li k)++List.replicate (li.length-(i+1)) 0).map iA=ys at *;generalize snF li k i=v at *;generalize li.getD i default=t at *;rw[<-hs];clear hs e0 hnn;by_cases hk:(i:Int)=k
  ·rw[zYp hk]at hsd;subst hsd;have hfb:(xs.set i (iA t.lamp))[i]? =some (iA t.lamp):=by rw[yAg zB]
   have hls:(xs.set i (iA t.lamp)).length=li.length:=by simp[hfl]
   rw[<-yDl (iA t.lamp)];refine WW ?_;rfl
  ·rw[zYo hk]at hsd;subst hsd;refine WW ?_;rfl
 ·have hfl:=CO (snF li k) li.length li.length (zYs _)
  have e:zD iA (RF li k)= .sl false ((((List.range li.length).map (snF li k)++List.replicate (li.length-li.length) 0).map iA).take (li.map vM).length):=by
   rw[zYy zB,yA0,yDe,zZo];rfl
  rw[e];clear e e0;generalize ((List.range li.length).map (snF li k)++List.replicate (li.length-li.length) 0).map iA=xs at *;refine WW ?_;exact zL
def fpB (cf ls:List Int) (p q:Nat):Bool:=nrB (ls.getD p default)&&(nrB (ls.getD q default)&&eO cf p q)
def fbF (cf ls:List Int):Bool:=(List.range ls.length).any λp=>(List.range ls.length).any λq=>fpB cf ls p q
theorem zXd {cf ls:List Int} (h:fbF cf ls=false) (p q:Nat) (hp:p<ls.length) (hq:q<ls.length):fpB cf ls p q=false:=by
 unfold fbF at h;rw[yBq]at h;have h1:=h p (zZi.2 hp);rw[yBc,yBq]at h1;have h2:=h1 q (zZi.2 hq)
 rwa [yBc]at h2
theorem zUy {cf ls:List Int} (h:fbF cf ls=true):∃p q:Nat,p<ls.length/\q<ls.length/\fpB cf ls p q=true/\(∀u,u<p->∀v,v<ls.length->fpB cf ls u v=false)/\(∀v,v<q->fpB cf ls p v=false):=by
 unfold fbF at h;rw[yAd]at h;obtain⟨a,ha,h⟩:=h;rw[yAd]at h;obtain⟨b,hb,h⟩:=h;obtain⟨p,hpa,⟨v,hv,hp⟩,hpm⟩:=KP (P:=λp=>∃v,v<ls.length/\fpB cf ls p v=true) a ⟨b,zZi.1 hb,h⟩;obtain⟨q,hqv,hq,hqm⟩:=KP (P:=λq=>fpB cf ls p q=true) v hp;have:=zZi.1 ha
 exact⟨p,q,zB,zB,hq,λu hu v hv=>by
  have:=hpm u hu
  cases h:fpB cf ls u v with
  |false=>rfl
  |true=>exact absurd ⟨v,hv,h⟩ this,λv hv=>by
  have:=hqm v hv
  rwa [yBc]at this⟩
theorem zUz (cf ls:List Int) (hcf:cf.length<=40) (hn:ls.length<=1000):zO 199 [zD iA cf,zD iA ls] [] (bA (fbF cf ls)) []:=by
 have hl:=zA iA ls
 cases hf:fbF cf ls with
 | false=>
  have hno:=zXd hf;clear hf;refine eM call199 λF hF=>?_
  (repeat' (first|refine WS ?_|refine SG (I2 (λhc=>?_) (λhc=>?_))|refine SG (λhc=>?_)|(refine zE ?_;first|refine SM ?_)|(first|first|refine SR ?_|refine SK (I2 (λhc=>?_) (λhc=>?_))|refine SK (λhc=>?_)|fail|refine vK ?_|refine vL ?_)|fail))
  refine zP (ls.length) [] [] [0,1,10,11] [5,12,0,1,10,11] rfl (λi T U=>⟨(5,bA false)::(12,iA i)::T,U⟩) ?_;(conv=>whnf);refine⟨by rfl,?_,?_⟩
  ·intro u hu;have hy:=zN iA ls u hu;have c1:=ZQ (ls.getD u default);have hnu:=hno u;unfold fpB at hnu;clear hno
   cases hb:nrB (ls.getD u default)with
   |false=>
    rw[hb]at c1;generalize ls.getD u default=a at *;clear hnu;refine zW c1 ?_;rfl
   | true=>
    rw[hb]at c1;generalize ls.getD u default=a at *;refine zW c1 ?_;refine zP (ls.length) [] [] [0,1,6,10,11,12,20,21] [5,22,0,1,6,10,11,12,20,21] rfl (λi T U=>⟨(5,bA false)::(22,iA i)::T,U⟩) ?_;(conv=>whnf);refine⟨by rfl,?_,?_⟩
    ·intro v hv;have hyv:=zN iA ls v hv;have c2:=ZQ (ls.getD v default);have c3:=gD cf hcf u v;have h:=hnu v hu hv;rw[hb,zZh]at h;generalize ls.getD v default=b at *;clear hnu c1
     cases hb2:nrB b with
     |false=>
      rw[hb2]at c2;refine zW c2 ?_;rfl
     |true=>
      rw[hb2,zZh]at h;rw[hb2]at c2;rw[h]at c3;refine xA (vD c2 c3) ?_;rfl
    ·(refine WW ?_)
     rfl
  ·(repeat' (first|refine WS ?_|refine SG (I2 (λhc=>?_) (λhc=>?_))|refine SG (λhc=>?_)|(refine zE ?_;first|refine SM ?_)|(first|first|refine SR ?_|refine SK (I2 (λhc=>?_) (λhc=>?_))|refine SK (λhc=>?_)|fail|refine vK ?_|refine vL ?_)|fail))
   exact zL
 | true=>
  obtain⟨p,q,hp,hq,hpq,hpm,hqm⟩:=zUy hf;clear hf;have hpp:nrB (ls.getD p default)=true:=by unfold fpB at hpq;rw[zY6]at hpq;exact hpq.1
  have hqq:nrB (ls.getD q default)=true:=by unfold fpB at hpq;rw[zY6,zY6]at hpq;exact hpq.2.1
  have hcc:eO cf p q=true:=by unfold fpB at hpq;rw[zY6,zY6]at hpq;exact hpq.2.2
  clear hpq;refine eM call199 λF hF=>?_
  (repeat' (first|refine WS ?_|refine SG (I2 (λhc=>?_) (λhc=>?_))|refine SG (λhc=>?_)|(refine zE ?_;first|refine SM ?_)|(first|first|refine SR ?_|refine SK (I2 (λhc=>?_) (λhc=>?_))|refine SK (λhc=>?_)|fail|refine vK ?_|refine vL ?_)|fail))
  refine xV (ls.length) [] [] [0,1,10,11] [5,12,0,1,10,11] rfl (λi T U zs=>(i<=p)/\zs=⟨(5,bA false)::(12,iA i)::T,U⟩) ?_;(conv=>whnf);refine⟨?_,?_,?_⟩
  ·exact⟨zY4 _,rfl⟩
  ·rintro u st hu ⟨hup,rfl⟩;have hy:=zN iA ls u hu;have c1:=ZQ (ls.getD u default);by_cases hup2:u=p
   ·subst hup2;rw[hpp]at c1
    have hqm2:∀v,v<q->(nrB (ls.getD v default)&&eO cf u v)=false:=λv hv=>by
     have h:=hqm v hv;unfold fpB at h;rw[hpp,zZh]at h;exact h
    clear hpm hqm;generalize ls.getD u default=a at *;refine zW c1 ?_;refine xV (ls.length) [] [] [0,1,6,10,11,12,20,21] [5,22,0,1,6,10,11,12,20,21] rfl (λi T U zs=>(i<=q)/\zs=⟨(5,bA false)::(22,iA i)::T,U⟩) ?_;(conv=>whnf);refine⟨?_,?_,?_⟩
    ·exact⟨zY4 _,rfl⟩
    ·rintro v st hv ⟨hvq,rfl⟩;have hyv:=zN iA ls v hv;have c2:=ZQ (ls.getD v default);have c3:=gD cf hcf u v;by_cases hvq2:v=q
     ·subst hvq2;rw[hqq]at c2;rw[hcc]at c3;clear hqq hcc hqm2 c1;generalize ls.getD v default=b at*
      (have zc1:=c2;have zc2:=c3;(repeat' (first|refine WS ?_|refine SG (I2 (λhc=>?_) (λhc=>?_))|refine SG (λhc=>?_)|(refine zE ?_;first|refine SM ?_)|(first|first|refine SR ?_|refine SK (I2 (λhc=>?_) (λhc=>?_))|refine SK (λhc=>?_)|fail|refine vK ?_|refine vL ?_)|fail))<;>clear zc1 zc2)
      exact zL
     ·have h:=hqm2 v zB;clear hqq hcc hqm2 c1;generalize ls.getD v default=b at*
      cases hb2:nrB b with
      |false=>
       rw[hb2]at c2;refine zW c2 ?_;exact⟨zB,rfl⟩
      |true=>
       rw[hb2,zZh]at h;rw[hb2]at c2;rw[h]at c3;refine xA (vD c2 c3) ?_;exact⟨zB,rfl⟩
    ·rintro st ⟨hvq,rfl⟩;exfalso;omega
   ·have hnu:=hpm u zB;unfold fpB at hnu;clear hpp hqq hcc hpm hqm
    cases hb:nrB (ls.getD u default)with
    |false=>
     rw[hb]at c1;generalize ls.getD u default=a at *;clear hnu;refine zW c1 ?_;exact⟨zB,rfl⟩
    | true=>
     rw[hb]at c1;generalize ls.getD u default=a at *;refine zW c1 ?_;refine zP (ls.length) [] [] [0,1,6,10,11,12,20,21] [5,22,0,1,6,10,11,12,20,21] rfl (λi T U=>⟨(5,bA false)::(22,iA i)::T,U⟩) ?_;(conv=>whnf);refine⟨by rfl,?_,?_⟩
     ·intro v hv;have hyv:=zN iA ls v hv;have c2:=ZQ (ls.getD v default);have c3:=gD cf hcf u v;have h:=hnu v hv;rw[hb,zZh]at h;generalize ls.getD v default=b at *;clear hnu c1
      cases hb2:nrB b with
      |false=>
       rw[hb2]at c2;refine zW c2 ?_;rfl
      |true=>
       rw[hb2,zZh]at h;rw[hb2]at c2;rw[h]at c3;refine xA (vD c2 c3) ?_;rfl
     ·(refine WW ?_)
      exact⟨zB,rfl⟩
  ·rintro st ⟨hup,rfl⟩;exfalso;omega
def BgR (j:Jn) (c c':Ct):Prop:=∀q:Nat,q<j.ph.length->vI c' q=vI c q∨((vI c q).lamp=0/\vI c' q=⟨1,0⟩)
theorem BgR.refl (j:Jn) (c:Ct):BgR j c c:=λq _=> .inl rfl
theorem BgR.trans {j:Jn} {a b c:Ct} (h:BgR j a b) (g:BgR j b c):BgR j a c:=λq hq=>by
 rcases h q hq with h|⟨h1,h2⟩<;>rcases g q hq with g|⟨g1,g2⟩
 ·exact .inl (g.trans h)
 ·exact .inr ⟨by rw[<-h];exact g1,g2⟩
 ·exact .inr ⟨h1,g.trans h2⟩
 ·rw[h2]at g1;exact absurd g1 xN
structure Sg where
 c:Ct
 lat:Bool
def vF (s:Sg):AV:= .agg [zD vM s.c.li,iA s.c.gr,zD iA s.c.nx,iA s.c.wt,bA s.lat]
def fU (j:Jn):Sg:=⟨inF j,false⟩
def sjF (j:Jn) (s:Sg) (t k:Int):Sg:=if s.lat=true then s else⟨stF j s.c t,fbF j.cf (RF (stF j s.c t).li k)⟩
def srF (j:Jn) (s:Sg):Sg:=if s.lat=true then fU j else s
theorem CP {α:Type} (f:α->AV) (l:List α):AV.sl false ((l.map f).take (l.map f).length)=zD f l:=by rw[zYv];rfl
theorem KN (l:List Int) (hl:l.length<=1073741824):zO 107 [zD iA l] [] (zD iA l) []:=by
 have hll:=zA iA l;refine eM call107 λF hF=>?_
 refine xD 0 rfl (λcap hx=>?_) ?_
 ·have:l=[]:=by simpa using hx
  subst this;refine WW ?_;exact zL
 ·(refine WW ?_)
  refine zI [] rfl rfl (CP _ _) rfl
theorem KO (l:List Li) (hl:l.length<=1073741824):zO 155 [zD vM l] [] (zD vM l) []:=by
 have hll:=zA vM l;refine eM call155 λF hF=>?_
 refine xD 0 rfl (λcap hx=>?_) ?_
 ·have:l=[]:=by simpa using hx
  subst this;refine WW ?_;exact zL
 ·(refine WW ?_)
  refine zI [] rfl rfl (CP _ _) rfl
theorem CQ (s:Sg) (h1:s.c.li.length<=1073741824) (h2:s.c.nx.length<=1073741824):zO 111 [vF s] [] (vF s) []:=by
 have c1:=KO s.c.li h1;have c2:=KN s.c.nx h2;refine eM call111 λF hF=>?_
 refine xA (vD c1 c2) ?_;exact zL
theorem zKz (j:Jn) (J:JV j):zO 91 [wC j] [] (vF (fU j)) []:=by
 have c1:=zUv j zB8;unfold fU;generalize inF j=c at *;refine eM call91 λF hF=>?_
 refine zW c1 ?_;exact zL
theorem zP0 (j:Jn) (J:JV j) (s:Sg) (C:CV j s.c) (t k:Int):zO 162 [wC j,vF s,iA t,iA k] [] (vF (sjF j s t k)) []:=by
 have hJ:=J.n;have hc:=J.c;have hn:=C.n;have hm:=C.m;have c0:=CQ s zB zB;have c1:=zU5 j J s.c C t;have C1:=zRs J C t;have c2:=zUx (stF j s.c t).li (by have:=C1.n;omega) k;have c3:=zUz j.cf (RF (stF j s.c t).li k) zB (by rw[zKx];have:=C1.n;omega);unfold sjF;generalize fbF j.cf (RF (stF j s.c t).li k)=f at *;generalize RF (stF j s.c t).li k=ls at *;generalize stF j s.c t=c at *;obtain⟨sc,lat⟩:=s
 cases lat with
 |true=>
  rw[zYp rfl];refine eM call162 λF hF=>?_
  refine zW c0 ?_;exact zL
 |false=>
  rw[zYo zZb];refine eM call162 λF hF=>?_
  refine xA (gK c1 c2 c3) ?_;exact zL
theorem zK0 (j:Jn) (J:JV j) (s:Sg) (h1:s.c.li.length<=1073741824) (h2:s.c.nx.length<=1073741824):zO 63 [wC j,vF s] [] (.tup [vF (srF j s),bA s.lat]) []:=by
 have c0:=CQ s h1 h2;have c1:=zKz j J;unfold srF;generalize fU j=z at *;obtain⟨sc,lat⟩:=s
 cases lat with
 |true=>
  rw[zYp rfl];refine eM call63 λF hF=>?_
  refine zW c1 ?_;exact zL
 |false=>
  rw[zYo zZb];refine eM call63 λF hF=>?_
  refine zW c0 ?_;exact zL
def ph0:Ph:=⟨0,0,2,3,1,1,0,0⟩
def j0:Jn:=⟨[ph0,ph0],[2,1],0⟩
theorem two {p:Nat} (h:p<j0.ph.length):p=0∨p=1:=by
 have:j0.ph.length=2:=rfl;omega
theorem zXe {j:Jn} (J:JV j) {s:Sg} (C:CV j s.c) (t k:Int):CV j (sjF j s t k).c:=by
 unfold sjF;split
 ·exact C
 ·exact zRs J C t
theorem zYf {j:Jn} (J:JV j) {s:Sg} (C:CV j s.c):CV j (srF j s).c:=by
 unfold srF;split
 ·exact zKu J
 ·exact C
def ph1:Ph:=⟨0,0,2,3,1,0,0,0⟩
def j1:Jn:=⟨[ph1,ph1],[2,1],0⟩
theorem WG {p q:Prop} (k:q) (h:aA q->p:=by(intro hq;((repeat' (first|(refine zE ?_;first|refine wZ tok rfl rfl ?_|(refine xT ?_;first|((first|refine XN zc1 ?_|refine aB ?_);first|refine yF (zH (zc1) rfl rfl rfl rfl rfl) rfl ?_|refine uF (zH (zc1) rfl rfl rfl rfl rfl) rfl rfl rfl ?_|refine bJ (zH (zc1) rfl rfl rfl rfl rfl) rfl rfl rfl ?_|refine yF (wG (zc1) rfl rfl rfl rfl rfl) rfl ?_|refine uF (wG (zc1) rfl rfl rfl rfl rfl) rfl rfl rfl ?_)|((first|refine XN zc2 ?_|refine aB ?_);first|refine yF (zH (zc2) rfl rfl rfl rfl rfl) rfl ?_|refine uF (zH (zc2) rfl rfl rfl rfl rfl) rfl rfl rfl ?_|refine bJ (zH (zc2) rfl rfl rfl rfl rfl) rfl rfl rfl ?_|refine yF (wG (zc2) rfl rfl rfl rfl rfl) rfl ?_|refine uF (wG (zc2) rfl rfl rfl rfl rfl) rfl rfl rfl ?_)|((first|refine XN zc3 ?_|refine aB ?_);first|refine yF (zH (zc3) rfl rfl rfl rfl rfl) rfl ?_|refine uF (zH (zc3) rfl rfl rfl rfl rfl) rfl rfl rfl ?_|refine bJ (zH (zc3) rfl rfl rfl rfl rfl) rfl rfl rfl ?_|refine yF (wG (zc3) rfl rfl rfl rfl rfl) rfl ?_|refine uF (wG (zc3) rfl rfl rfl rfl rfl) rfl rfl rfl ?_)|((first|refine XN zc4 ?_|refine aB ?_);first|refine yF (zH (zc4) rfl rfl rfl rfl rfl) rfl ?_|refine uF (zH (zc4) rfl rfl rfl rfl rfl) rfl rfl rfl ?_|refine bJ (zH (zc4) rfl rfl rfl rfl rfl) rfl rfl rfl ?_|refine yF (wG (zc4) rfl rfl rfl rfl rfl) rfl ?_|refine uF (wG (zc4) rfl rfl rfl rfl rfl) rfl rfl rfl ?_)|((first|refine XN zc5 ?_|refine aB ?_);first|refine yF (zH (zc5) rfl rfl rfl rfl rfl) rfl ?_|refine uF (zH (zc5) rfl rfl rfl rfl rfl) rfl rfl rfl ?_|refine bJ (zH (zc5) rfl rfl rfl rfl rfl) rfl rfl rfl ?_|refine yF (wG (zc5) rfl rfl rfl rfl rfl) rfl ?_|refine uF (wG (zc5) rfl rfl rfl rfl rfl) rfl rfl rfl ?_)|((first|refine XN zc6 ?_|refine aB ?_);first|refine yF (zH (zc6) rfl rfl rfl rfl rfl) rfl ?_|refine uF (zH (zc6) rfl rfl rfl rfl rfl) rfl rfl rfl ?_|refine bJ (zH (zc6) rfl rfl rfl rfl rfl) rfl rfl rfl ?_|refine yF (wG (zc6) rfl rfl rfl rfl rfl) rfl ?_|refine uF (wG (zc6) rfl rfl rfl rfl rfl) rfl rfl rfl ?_))|(refine bK ?_;first|refine zHv rfl rfl ?_|refine EB rfl rfl rfl rfl ?_|refine fJ rfl rfl (λhc=>?_) (λhc=>?_))|(refine wS ?_;first|refine yF (cU rfl rfl rfl (by unfold TM;omega)) rfl ?_|refine yF (cV rfl rfl rfl (by unfold TM;omega)) rfl ?_|refine yF (VJ rfl rfl rfl) rfl ?_|refine yF (VZ rfl rfl ⟨zB,zB⟩) rfl ?_|refine yF (UA rfl rfl ⟨zB,zB⟩) rfl ?_|refine yF (UB rfl rfl ⟨zB,zB⟩) rfl ?_|refine yF (UC rfl rfl OF zB) rfl ?_|refine yF (UD rfl rfl zB) rfl ?_|refine yF (UE rfl rfl) rfl ?_|refine yF (uU (.inl ⟨rfl,rfl⟩) rfl rfl zB) rfl ?_|refine yF (uU (.inr ⟨rfl,rfl⟩) rfl rfl zB) rfl ?_|refine yF (kJ tok rfl rfl rfl rfl (.inl ⟨rfl,rfl⟩)) rfl ?_|refine yF (kJ tok rfl rfl rfl rfl (.inr ⟨rfl,rfl⟩)) rfl ?_|refine yF (dG tok (.inl ⟨rfl,rfl⟩) rfl rfl rfl) rfl ?_|refine yF (yM tok (.inl ⟨rfl,rfl⟩) rfl rfl rfl rfl) rfl ?_)|(refine PQ ?_;first|refine yF (qN tok rfl rfl rfl rfl rfl zB kC rfl rfl) rfl ?_|refine yF (qK tok rfl rfl rfl rfl rfl rfl zB zB rfl) rfl ?_|refine yF (qA tok rfl rfl rfl rfl rfl rfl zB zB) rfl ?_)|(refine VQ ?_;first|refine yF (jY tok rfl rfl rfl kC rfl) rfl ?_|refine yF (jX tok rfl rfl rfl kC rfl) rfl ?_|refine yF (jI tok rfl rfl rfl rfl kC rfl) rfl ?_|refine yF (jH tok rfl rfl rfl rfl kC rfl) rfl ?_)|(refine PR ?_;first|refine yF (uZ tok rfl rfl rfl rfl rfl rfl rfl rfl) rfl ?_|refine yF (qM tok rfl kC rfl rfl rfl rfl rfl rfl) rfl ?_)|(refine yW ?_;first|refine uL tok rfl rfl rfl rfl rfl rfl rfl rfl rfl rfl rfl (by first|(intro y hy;cases hy;rfl)|exact yY _ _ (λ_=>rfl)) (by first|omega|(simp;done)|(simp;omega)) rfl ?_)|(refine VL ?_;first|refine yF (UF rfl ⟨zB,zB⟩) rfl ?_)|(refine VK ?_;first|refine yF (fI tok rfl rfl rfl rfl ⟨zB,zB⟩) rfl ?_|refine yF (cZ tok rfl rfl rfl rfl) rfl ?_)|refine dX tok rfl rfl rfl rfl ?_|(refine dE ?_;first|refine OU tok rfl rfl rfl rfl rfl rfl ?_|refine fY tok rfl rfl rfl ?_)|refine uM ?_|refine aY OE ?_)|(first|refine xM ?_|refine xB ?_|refine wU rfl ?_|refine zV rfl ?_|refine zQ rfl ?_|refine xF rfl (λhc=>?_) (λhc=>?_)|refine yV ?_|refine yQ ?_|refine xC ?_|refine yN ?_))));exact hq.h)):p:=h ⟨k⟩
theorem WO {p q:Prop} (k:q) (h:aA q->p:=by(intro hq;(repeat' (first|(refine zE ?_;(first|refine wZ tok rfl rfl ?_|(refine bK ?_;first|refine zHv rfl rfl ?_|refine EB rfl rfl rfl rfl ?_|refine fJ rfl rfl (λhc=>?_) (λhc=>?_))|(refine wS ?_;first|refine yF (cU rfl rfl rfl (by unfold TM;omega)) rfl ?_|refine yF (cV rfl rfl rfl (by unfold TM;omega)) rfl ?_|refine yF (VJ rfl rfl rfl) rfl ?_|refine yF (VZ rfl rfl ⟨zB,zB⟩) rfl ?_|refine yF (UA rfl rfl ⟨zB,zB⟩) rfl ?_|refine yF (UB rfl rfl ⟨zB,zB⟩) rfl ?_|refine yF (UC rfl rfl OF zB) rfl ?_|refine yF (UD rfl rfl zB) rfl ?_|refine yF (UE rfl rfl) rfl ?_|refine yF (uU (.inl ⟨rfl,rfl⟩) rfl rfl zB) rfl ?_|refine yF (uU (.inr ⟨rfl,rfl⟩) rfl rfl zB) rfl ?_|refine yF (kJ tok rfl rfl rfl rfl (.inl ⟨rfl,rfl⟩)) rfl ?_|refine yF (kJ tok rfl rfl rfl rfl (.inr ⟨rfl,rfl⟩)) rfl ?_|refine yF (dG tok (.inl ⟨rfl,rfl⟩) rfl rfl rfl) rfl ?_|refine yF (yM tok (.inl ⟨rfl,rfl⟩) rfl rfl rfl rfl) rfl ?_)|(refine PQ ?_;first|refine yF (qN tok rfl rfl rfl rfl rfl zB kC rfl rfl) rfl ?_|refine yF (qK tok rfl rfl rfl rfl rfl rfl zB zB rfl) rfl ?_|refine yF (qA tok rfl rfl rfl rfl rfl rfl zB zB) rfl ?_)|(refine VQ ?_;first|refine yF (jY tok rfl rfl rfl kC rfl) rfl ?_|refine yF (jX tok rfl rfl rfl kC rfl) rfl ?_|refine yF (jI tok rfl rfl rfl rfl kC rfl) rfl ?_|refine yF (jH tok rfl rfl rfl rfl kC rfl) rfl ?_)|(refine PR ?_;first|refine yF (uZ tok rfl rfl rfl rfl rfl rfl rfl rfl) rfl ?_|refine yF (qM tok rfl kC rfl rfl rfl rfl rfl rfl) rfl ?_)|(refine yW ?_;first|refine uL tok rfl rfl rfl rfl rfl rfl rfl rfl rfl rfl rfl (by first|(intro y hy;cases hy;rfl)|exact yY _ _ (λ_=>rfl)) (by first|omega|(simp;done)|(simp;omega)) rfl ?_)|(refine VL ?_;first|refine yF (UF rfl ⟨zB,zB⟩) rfl ?_)|(refine VK ?_;first|refine yF (fI tok rfl rfl rfl rfl ⟨zB,zB⟩) rfl ?_|refine yF (cZ tok rfl rfl rfl rfl) rfl ?_)|refine dX tok rfl rfl rfl rfl ?_|(refine dE ?_;first|refine OU tok rfl rfl rfl rfl rfl rfl ?_|refine fY tok rfl rfl rfl ?_)|refine uM ?_|refine aY OE ?_))|(first|refine xM ?_|refine xB ?_|refine wU rfl ?_|refine zV rfl ?_|refine zQ rfl ?_|refine xF rfl (λhc=>?_) (λhc=>?_)|refine yV ?_|refine yQ ?_|refine xC ?_|refine yN ?_)));exact hq.h)):p:=h ⟨k⟩
def e1 (d:Dk) (now:Int):Int:=[-1,0,max (-1) (now-nx d 6)].getD (nx (ad d) 3).toNat 0
def d0 (xs:List Int) (hl:xs.length<=9223372036854775807):Dk:=⟨xs,0,zY4 _,hl⟩
def WK (es:List Int) (ph:Int):Int:=if ph<0∨(es.length:Int)<=ph then -1 else es.getD ph.toNat 0
def XD (k:Int):Bool:=k==2||k==3
def US (es:List Int) (ph si:Int):Int:=max si (WK es ph)
theorem QP (s:Sv) (c:Cl):zO 242 [vC s,dR c] [] (iA (WK s.en c.ph)) []:=by
 have hl:(s.en.map iA).length=s.en.length:=by simp
 by_cases h1:c.ph<0
 ·rw[show WK s.en c.ph= -1 by simp[WK,h1]];refine eM call242 λF hF=>?_
  refine WO ?_;exact zL
 ·by_cases h2:(s.en.length:Int)<=c.ph
  ·rw[show WK s.en c.ph= -1 by simp[WK,h2]];refine eM call242 λF hF=>?_
   refine WO ?_;exact zL
  ·rw[show WK s.en c.ph=s.en.getD c.ph.toNat 0 by unfold WK;rw[zYo zB]];have hy:=yP iA s.en c.ph zB zB;refine eM call242 λF hF=>?_
   refine WO ?_;exact zL
theorem kU (c:Cl):zO 222 [dR c] [] (bA (XD c.k)) []:=by
 unfold XD;by_cases h:c.k=2
 ·rw[show(c.k==2||c.k==3)=true by simp[h]];refine eM call222 λF hF=>?_
  refine WO ?_;exact zL
 ·rw[show(c.k==2||c.k==3)=(c.k==3) by simp[h]];refine eM call222 λF hF=>?_
  refine WO ?_;exact zL
theorem UT (s:Sv) (c:Cl):zO 244 [vC s,dR c] [] (iA (US s.en c.ph c.si)) []:=by
 refine eM call244 λF hF=>?_
 (repeat' (first|refine ZY ?_|refine xR (λhc=>?_) (λhc=>?_)|(refine zE ?_;refine xT ?_;refine yF (zH (QP ⟨_,_,_⟩ ⟨_,_,_,_,_⟩) rfl rfl rfl rfl rfl) rfl ?_)|fail))
 exact zL
theorem zBc (n d:Int) (hd:1<=d) (hm:n.tmod d=0):n.tdiv d=n/d:=by
 have h1:=Int.tmod_add_mul_tdiv n d;rw[hm]at h1;have h2:n=d*n.tdiv d:=by omega
 exact(Int.ediv_eq_of_eq_mul_right zB h2).symm
theorem HT (n d:Int) (hn:n<0) (hd:1<=d) (hm:n.tmod d≠0):n.tdiv d-1=n/d:=by
 have h1:=Int.tmod_add_mul_tdiv n d;have h0:n.tmod d= -((-n).tmod d):=by rw[Int.neg_tmod];omega
 have h3: -d<n.tmod d:=by
  have:=yD7 (-n) (show 0<d by omega);omega
 have h4:n.tmod d<=0:=by
  have:=yEh d (show 0<= -n by omega);omega
 clear h0;have h5:n=d*(n.tdiv d-1)+(n.tmod d+d):=by rw[Int.mul_sub];omega
 generalize n.tdiv d=q at *;generalize n.tmod d=r at*
 have h6:n/d=q-1:=by
  rw[h5,Int.mul_add_ediv_left _ _ zB,Int.ediv_eq_zero_of_lt zB zB];omega
 omega
theorem zP1 (n d:Int) (hd:1<=d) (h1: -4611686018427387904<=n) (h2:n<=4611686018427387904): -4611686018427387904<=n.tdiv d/\n.tdiv d<=4611686018427387904:=by
 by_cases h:0<=n
 ·have:=IntWalk.tdiv_le n d h hd;rw[yAh h];omega
 ·have h3:n.tdiv d= -((-n).tdiv d):=by rw[Int.neg_tdiv];omega
  have:=IntWalk.tdiv_le (-n) d zB hd;rw[h3,yAh zB];omega
theorem WM (n d:Int) (hd:1<=d) (h1: -4611686018427387904<=n) (h2:n<=4611686018427387904):zO 273 [iA n,iA d] [] (iA (n/d)) []:=by
 have hb:=zP1 n d hd h1 h2;have hq:XB .i64 (n.tdiv d):=⟨zB,zB⟩;by_cases hm:n.tmod d=0
 ·rw[<-zBc n d hd hm];refine eM call273 λF hF=>?_
  refine WO ?_;exact zL
 ·by_cases h0:n<0
  ·rw[<-HT n d h0 hd hm];refine eM call273 λF hF=>?_
   refine WO ?_;exact zL
  ·rw[<-yAh (show 0<=n by omega)];refine eM call273 λF hF=>?_
   refine WO ?_;exact zL
def zP2 (per cap:Int) (es:List Int) (now ph k si:Int):Int:=min cap (k+(now-US es ph si)/per)
structure COk (per now:Int) (es:List Int) (c:Cl):Prop where
 p:1<=per
 k0: -1000<=c.k
 k1:c.k<=1000
 n0: -1099511627776<=now
 n1:now<=1099511627776
 s0: -1099511627776<=US es c.ph c.si
 s1:US es c.ph c.si<=1099511627776
 e0: -1099511627776<=WK es c.ph
 e1:WK es c.ph<=1099511627776
theorem zU0 (n d:Int) (hd:1<=d) (h1: -4611686018427387904<=n) (h2:n<=4611686018427387904): -4611686018427387904<=n/d/\n/d<=4611686018427387904:=by
 constructor
 ·refine(Int.le_ediv_iff_mul_le zB).2 ?_;have:(4611686018427387904:Int)*1<=4611686018427387904*d:=Int.mul_le_mul_of_nonneg_left hd zB;omega
 ·have:n/d<=4611686018427387904/1:=by
   rw[Int.ediv_one];refine Int.le_of_lt_add_one ((Int.ediv_lt_iff_lt_mul zB).2 ?_);have:(4611686018427387904+1:Int)*1<=(4611686018427387904+1)*d:=Int.mul_le_mul_of_nonneg_left hd zB;omega
  omega
theorem zDf (g:Cf) (s:Sv) (c:Cl) (now:Int) (ok:COk g.per now s.en c):zO 243 [wJ g,vC s,dR c,iA now] [] (iA (zP2 g.per g.cap s.en now c.ph c.k c.si)) []:=by
 obtain⟨p,k0,k1,n0,n1,s0,s1,_,_⟩:=ok;have hq:=zU0 (now-US s.en c.ph c.si) g.per p zB zB;refine eM call243 λF hF=>?_
 (repeat' (first|refine ZY ?_|refine xR (λhc=>?_) (λhc=>?_)|(refine zE ?_;refine xT ?_;(first|(refine vT 244 ?_;first|refine yF (zH (UT s c) rfl rfl rfl rfl rfl) rfl ?_|refine uF (zH (UT s c) rfl rfl rfl rfl rfl) rfl rfl rfl ?_|refine bJ (zH (UT s c) rfl rfl rfl rfl rfl) rfl rfl rfl ?_)|(refine vT 273 ?_;first|refine yF (zH (WM _ _ zB zB zB) rfl rfl rfl rfl rfl) rfl ?_|refine uF (zH (WM _ _ zB zB zB) rfl rfl rfl rfl rfl) rfl rfl rfl ?_|refine bJ (zH (WM _ _ zB zB zB) rfl rfl rfl rfl rfl) rfl rfl rfl ?_)))|fail))
 exact zL
def zK1 (lock:Int) (es:List Int) (now ph k:Int):Bool:=!XD k&&(WK es ph != -1&&decide (now-WK es ph<=lock))
theorem zK2 (g:Cf) (s:Sv) (c:Cl) (now:Int) (ok:COk g.per now s.en c):zO 224 [wJ g,vC s,dR c,iA now] [] (bA (zK1 g.lock s.en now c.ph c.k)) []:=by
 obtain⟨p,k0,k1,n0,n1,s0,s1,e0,e1⟩:=ok;unfold zK1;refine eM call224 λF hF=>?_
 (repeat' (first|refine ZY ?_|refine xR (λhc=>?_) (λhc=>?_)|(refine zE ?_;refine xT ?_;(first|(refine vT 242 ?_;first|refine yF (zH (QP _ _) rfl rfl rfl rfl rfl) rfl ?_|refine uF (zH (QP _ _) rfl rfl rfl rfl rfl) rfl rfl rfl ?_|refine bJ (zH (QP _ _) rfl rfl rfl rfl rfl) rfl rfl rfl ?_)|(refine vT 222 ?_;first|refine yF (zH (kU _) rfl rfl rfl rfl rfl) rfl ?_|refine uF (zH (kU _) rfl rfl rfl rfl rfl) rfl rfl rfl ?_|refine bJ (zH (kU _) rfl rfl rfl rfl rfl) rfl rfl rfl ?_)))|fail))
 all_goals refine zI [] rfl rfl (zZl bA ?_) rfl
 all_goals simp_all [qT]
def RT (per cap:Int) (es:List Int) (now:Int) (x:Cl):Int:=if XD x.k then x.k else zP2 per cap es now x.ph x.k x.si
def cE (per cap:Int) (es:List Int) (now:Int) (x y:Cl):Bool:=
 if XD x.k≠XD y.k then XD x.k
 else if RT per cap es now x≠RT per cap es now y then decide (RT per cap es now y<RT per cap es now x)
 else if US es x.ph x.si≠US es y.ph y.si then decide (US es x.ph x.si<US es y.ph y.si)
 else if x.ag≠y.ag then decide (x.ag<y.ag)else decide (x.id<y.id)
theorem zU1 (g:Cf) (s:Sv) (x y:Cl) (now:Int) (okx:COk g.per now s.en x) (oky:COk g.per now s.en y):zO 225 [wJ g,vC s,iA now,dR x,dR y] [] (bA (cE g.per g.cap s.en now x y)) []:=by
 have ex:=kU x;have ey:=kU y;have lx:=zDf g s x now okx;have ly:=zDf g s y now oky;have sx:=UT s x;have sy:=UT s y
 cases hx:XD x.k<;>cases hy:XD y.k<;>rw[hx]at ex<;>rw[hy]at ey
 ·by_cases h1:zP2 g.per g.cap s.en now x.ph x.k x.si=zP2 g.per g.cap s.en now y.ph y.k y.si
  ·by_cases h2:US s.en x.ph x.si=US s.en y.ph y.si
   ·by_cases h3:x.ag=y.ag
    ·(refine eM call225 λF hF=>?_)
     (have zc1:=ex;have zc2:=ey;have zc3:=lx;have zc4:=ly;have zc5:=sx;have zc6:=sy;refine WG ?_;clear zc1 zc2 zc3 zc4 zc5 zc6)
     refine zI [] rfl rfl (zZl bA ?_) rfl;simp[cE,RT,hx,hy,h1,h2,h3,qT]
    ·(refine eM call225 λF hF=>?_)
     (have zc1:=ex;have zc2:=ey;have zc3:=lx;have zc4:=ly;have zc5:=sx;have zc6:=sy;refine WG ?_;clear zc1 zc2 zc3 zc4 zc5 zc6)
     refine zI [] rfl rfl (zZl bA ?_) rfl;simp[cE,RT,hx,hy,h1,h2,h3,qT]
   ·(refine eM call225 λF hF=>?_)
    (have zc1:=ex;have zc2:=ey;have zc3:=lx;have zc4:=ly;have zc5:=sx;have zc6:=sy;refine WG ?_;clear zc1 zc2 zc3 zc4 zc5 zc6)
    refine zI [] rfl rfl (zZl bA ?_) rfl;simp[cE,RT,hx,hy,h1,h2,qT]
  ·(refine eM call225 λF hF=>?_)
   (have zc1:=ex;have zc2:=ey;have zc3:=lx;have zc4:=ly;have zc5:=sx;have zc6:=sy;refine WG ?_;clear zc1 zc2 zc3 zc4 zc5 zc6)
   refine zI [] rfl rfl (zZl bA ?_) rfl;simp[cE,RT,hx,hy,h1,qT]
 ·(refine eM call225 λF hF=>?_)
  (have zc1:=ex;have zc2:=ey;have zc3:=lx;have zc4:=ly;have zc5:=sx;have zc6:=sy;refine WG ?_;clear zc1 zc2 zc3 zc4 zc5 zc6)
  refine zI [] rfl rfl (zZl bA ?_) rfl;simp[cE,hx,hy]
 ·(refine eM call225 λF hF=>?_)
  (have zc1:=ex;have zc2:=ey;have zc3:=lx;have zc4:=ly;have zc5:=sx;have zc6:=sy;refine WG ?_;clear zc1 zc2 zc3 zc4 zc5 zc6)
  refine zI [] rfl rfl (zZl bA ?_) rfl;simp[cE,hx,hy]
 ·by_cases h1:x.k=y.k
  ·by_cases h2:US s.en x.ph x.si=US s.en y.ph y.si
   ·by_cases h3:x.ag=y.ag
    ·(refine eM call225 λF hF=>?_)
     (have zc1:=ex;have zc2:=ey;have zc3:=lx;have zc4:=ly;have zc5:=sx;have zc6:=sy;refine WG ?_;clear zc1 zc2 zc3 zc4 zc5 zc6)
     refine zI [] rfl rfl (zZl bA ?_) rfl;simp[cE,RT,hx,hy,h1,h2,h3,qT]
    ·(refine eM call225 λF hF=>?_)
     (have zc1:=ex;have zc2:=ey;have zc3:=lx;have zc4:=ly;have zc5:=sx;have zc6:=sy;refine WG ?_;clear zc1 zc2 zc3 zc4 zc5 zc6)
     refine zI [] rfl rfl (zZl bA ?_) rfl;simp[cE,RT,hx,hy,h1,h2,h3,qT]
   ·(refine eM call225 λF hF=>?_)
    (have zc1:=ex;have zc2:=ey;have zc3:=lx;have zc4:=ly;have zc5:=sx;have zc6:=sy;refine WG ?_;clear zc1 zc2 zc3 zc4 zc5 zc6)
    refine zI [] rfl rfl (zZl bA ?_) rfl;simp[cE,RT,hx,hy,h1,h2,qT]
  ·(refine eM call225 λF hF=>?_)
   (have zc1:=ex;have zc2:=ey;have zc3:=lx;have zc4:=ly;have zc5:=sx;have zc6:=sy;refine WG ?_;clear zc1 zc2 zc3 zc4 zc5 zc6)
   refine zI [] rfl rfl (zZl bA ?_) rfl;simp[cE,RT,hx,hy,h1,qT]
def kV (g:Cf) (s:Sv) (now:Int) (xs:List Cl):Nat->Int
 |0=> -1
 |i+1=>if zK1 g.lock s.en now (xs.getD i default).ph (xs.getD i default).k then kV g s now xs i
  else if kV g s now xs i<0 then i
  else if cE g.per g.cap s.en now (xs.getD i default) (xs.getD (kV g s now xs i).toNat default)then i else kV g s now xs i
theorem UU (g:Cf) (s:Sv) (now:Int) (xs:List Cl):∀i,-1<=kV g s now xs i/\kV g s now xs i<i∨kV g s now xs i= -1
 |0=> .inr rfl
 | i+1=>by
  have:=UU g s now xs i;unfold kV;split
  ·omega
  ·split
   ·omega
   ·split<;>omega
theorem zBd (g:Cf) (s:Sv) (now:Int) (xs:List Cl) (i:Nat):kV g s now xs (i+1)=if zK1 g.lock s.en now (xs.getD i default).ph (xs.getD i default).k=true then kV g s now xs i
 else if kV g s now xs i<0 then(i:Int)
 else if cE g.per g.cap s.en now (xs.getD i default) (xs.getD (kV g s now xs i).toNat default)=true then(i:Int)else kV g s now xs i:=rfl
theorem zU2 (g:Cf) (s:Sv) (now:Int) (xs:List Cl) (hlen:xs.length<=1099511627776) (ok:∀i,i<xs.length->COk g.per now s.en (xs.getD i default)):zO 196 [wJ g,vC s,iA now,zD dR xs] [] (iA (kV g s now xs xs.length)) []:=by
 have hl:(xs.map dR).length=xs.length:=by simp
 refine eM call196 λF hF=>?_
 refine WO ?_
 refine vA (λn st=>∃i:Nat,n+i=xs.length/\st=⟨[(2,iA now),(3,zD dR xs),(4,.ptr 4 0 0),(5,.ptr 5 0 0),(9,iA (kV g s now xs i)),(12,zD dR xs),(13,iA xs.length),(14,iA i)],[(4,.box [zD wC g.js,zD wN g.ags,iA g.per,iA g.cap,iA g.hold,iA g.lock]),(5,.box [iA s.ph,iA s.gr,zD iA s.en])]⟩)
  xs.length [4,5] [2,3,4,5,9,12,13,14] rfl ⟨0,rfl,by rw[<-hl];rfl⟩ ?_
 rintro n st ⟨i,hi,rfl⟩;by_cases hlt:i<xs.length
 ·have hy:=yP dR xs i zB zB;have ok1:=ok i hlt;have hb:=UU g s now xs i;have hn:=zBd g s now xs i;have lk:=zK2 g s (xs.getD i default) now ok1;rw[show((i:Int)).toNat=i from rfl]at hy
  cases hL:zK1 g.lock s.en now (xs.getD i default).ph (xs.getD i default).k<;>rw[hL]at lk hn
  ·rw[zYo zU]at hn;by_cases h0:kV g s now xs i<0
   ·rw[zYp h0]at hn
    (have zc1:=lk;refine WG ?_;clear zc1)
    exact⟨n-1,zB,i+1,zB,by rw[hn];rfl⟩
   ·rw[zYo h0]at hn;have hy2:=yP dR xs (kV g s now xs i) zB zB;have ls:=zU1 g s (xs.getD i default) (xs.getD (kV g s now xs i).toNat default) now ok1 (ok _ zB)
    cases hS:cE g.per g.cap s.en now (xs.getD i default) (xs.getD (kV g s now xs i).toNat default)<;>rw[hS]at ls hn
    ·rw[zYo zU]at hn
     (have zc1:=lk;have zc2:=ls;refine WG ?_;clear zc1 zc2)
     exact⟨n-1,zB,i+1,zB,by rw[hn];rfl⟩
    ·rw[zYp rfl]at hn
     (have zc1:=lk;have zc2:=ls;refine WG ?_;clear zc1 zc2)
     exact⟨n-1,zB,i+1,zB,by rw[hn];rfl⟩
  ·rw[zYp rfl]at hn
   (have zc1:=lk;refine WG ?_;clear zc1)
   exact⟨n-1,zB,i+1,zB,by rw[hn];rfl⟩
 ·obtain rfl:i=xs.length:=by omega
  refine WO ?_;exact zL
theorem YM {α:Type} (P:α->Prop) (d:α):∀(l:List α) (i:Nat),(∀x∈l,P x)->i<l.length->P (l.getD i d)
 |l,i,h,hi=>by simp only[zY0,zZd hi,yA1];exact h _ (yBm hi)
theorem zP3 (es:List Int) (now ph:Int) (h:0<=now) (he:∀e∈es,-1<=e/\e<=now): -1<=WK es ph/\WK es ph<=now:=by
 unfold WK;split
 ·omega
 ·exact YM (λe=> -1<=e/\e<=now) 0 es ph.toNat he zB
structure ClB (ph now:Int) (c:Cl):Prop where
 k0:0<=c.k
 k1:c.k<=3
 s0:0<=c.si
 s1:c.si<=now
 a0:0<=c.ag
 a1:c.ag<=2
 i0:0<=c.id
 i1:c.id<=3
 p0:0<=c.ph
 p1:c.ph<ph
theorem zK3 {α:Type} (f:α->AV) (l:List α):AV.sl false ((l.map f).take (l.map f).length)=zD f l:=by rw[zYv];rfl
theorem zBe (l:List Int) (hl:l.length<=1073741824):zO 107 [zD iA l] [] (.ref 1001 0 (l.map iA).length) [(1001,.arr 1 (l.map iA) false)]:=by
 have hll:=zA iA l;refine eM call107 λF hF=>?_
 refine xD 0 rfl (λcap hx=>?_) ?_
 ·have:l=[]:=by simpa using hx
  subst this
  (repeat' (first|refine AX ?_|refine xR (λhc=>?_) (λhc=>?_)|refine wE (λhc=>?_)|fail))
  refine uB 2 1001 1 rfl rfl rfl (yQ ?_);exact zJ [1001] rfl rfl rfl rfl
 ·repeat' (first|(refine zE ?_;first|refine wZ tok rfl rfl ?_|(refine wS ?_;refine yF (yM tok (.inl ⟨rfl,rfl⟩) rfl rfl rfl rfl) rfl ?_)|(refine yZ ?_;refine uF (nw:=[1001]) (yK tok 1001 (xs:=[]) rfl rfl rfl rfl rfl rfl rfl rfl rfl) rfl rfl rfl ?_)|(refine yW ?_;refine xX tok rfl rfl rfl rfl rfl rfl rfl (yY _ _ (λ_=>rfl)) rfl rfl rfl zB rfl ?_)|refine uM ?_)|(first|refine xM ?_|refine xB ?_|refine wU rfl ?_|refine zV rfl ?_|refine zQ rfl ?_|refine xF rfl (λhc=>?_) (λhc=>?_)|refine yV ?_|refine yQ ?_|refine xC ?_|refine yN ?_))
  exact zJ [1001] rfl rfl rfl rfl
theorem zFk (l:List Int) (hl:l.length<=1073741824):zO 107 [zD iA l] [] (zD iA l) []:=by
 have hll:=zA iA l;refine eM call107 λF hF=>?_
 refine xD 0 rfl (λcap hx=>?_) ?_
 ·have:l=[]:=by simpa using hx
  subst this;refine WW ?_;exact zL
 ·(refine WW ?_)
  refine zI [] rfl rfl (zK3 _ _) rfl
structure SvB (s:Sv):Prop where
 n:s.en.length<=100000
theorem zFl (s:Sv) (h:SvB s):zO 106 [vC s] [] (.agg [iA s.ph,iA s.gr,.ref 1001 0 (s.en.map iA).length]) [(1001,.arr 1 (s.en.map iA) false)]:=by
 have c:=zBe s.en (by have:=h.n;omega);refine eM call106 λF hF=>?_
 refine zW c ?_;exact zJ [1001] rfl rfl rfl rfl
theorem UV (s:Sv) (h:SvB s):zO 106 [vC s] [] (vC s) []:=by
 have c:=zFk s.en (by have:=h.n;omega);refine eM call106 λF hF=>?_
 refine zW c ?_;exact zL
def dU (s:Sv) (green:Bool):Sv:=if green=true/\s.ph≠ -1 then⟨s.ph,min s.gr 59+1,s.en⟩else s
theorem zP4 (s:Sv) (h:SvB s) (b:Bool) (hg: -1000000<=s.gr):zO 163 [vC s,bA b] [] (vC (dU s b)) []:=by
 have c:=UV s h;by_cases h1:b=true
 ·subst h1;by_cases h2:s.ph= -1
  ·rw[show dU s true=s by simp[dU,h2]];refine eM call163 λF hF=>?_
   refine zW c ?_;exact zL
  ·rw[show dU s true=⟨s.ph,min s.gr 59+1,s.en⟩ by simp[dU,h2]];refine eM call163 λF hF=>?_
   refine zW c ?_;exact zL
 ·obtain rfl:b=false:=by simpa using h1
  rw[show dU s false=s by simp[dU]];refine eM call163 λF hF=>?_
  refine zW c ?_;exact zL
def fL (s:Sv) (now:Int):Sv:=⟨-1,0,if 0<s.gr/\0<=s.ph/\s.ph<s.en.length then s.en.set s.ph.toNat now else s.en⟩
theorem zK4 {α:Type} (f:α->AV) (l:List α) (i:Nat) (x:α) (n:Nat) (hn:n=l.length):AV.sl false (((l.map f).set i (f x)).take n)=zD f (l.set i x):=by
 rw[<-yAw,zYy wI];rfl
theorem zK5 (s:Sv) (h:SvB s) (now:Int):zO 160 [vC s,iA now] [] (vC (fL s now)) []:=by
 have c:=zFl s h;have hl:=zA iA s.en;by_cases h1:0<s.gr/\0<=s.ph/\s.ph<s.en.length
 ·obtain⟨h2,h3,h4⟩:=h1;have hy:=yP iA s.en s.ph h3 h4;rw[show fL s now=⟨-1,0,s.en.set s.ph.toNat now⟩ by simp[fL,h2,h3,h4]];refine eM call160 λF hF=>?_
  refine zW c ?_;refine zI [] rfl rfl (zZl (λx=>AV.agg [iA (-1),iA 0,x]) (zK4 iA s.en s.ph.toNat now _ hl)) rfl
 ·rw[show fL s now=⟨-1,0,s.en⟩ by unfold fL;rw[zYo h1]];refine eM call160 λF hF=>?_
  (have zc1:=c;(repeat' (first|refine qS ?_|refine xR (λhc=>?_) (λhc=>?_)|refine wE (λhc=>?_)|(refine zE ?_;first|refine SM ?_)|fail))<;>clear zc1)
  all_goals (try omega)
  all_goals refine zI [] rfl rfl (zZl (λx=>AV.agg [iA (-1),iA 0,x]) (zK3 iA s.en)) rfl
def zP5 (n:Nat):Sv:=⟨-1,0,List.replicate n (-1)⟩
theorem zP6 (n i:Nat) (h:i<n):((List.replicate i (-1:Int)++List.replicate (n-i) 0).map iA).set i (iA (-1))=(List.replicate (i+1) (-1:Int)++List.replicate (n-(i+1)) 0).map iA:=by
 rw[<-yAw,show n-i=(n-(i+1))+1 by omega,yCg,yBr _ _ zU,zZ0,yA0,yC0,yD0,zZc];rfl
theorem zU3 (n:Nat) (h:n<=100000):zO 92 [iA n] [] (vC (zP5 n)) []:=by
 by_cases h0:n=0
 ·subst h0;refine eM call92 λF hF=>?_
  refine WW ?_;refine zP (0) [2,3] [2,3] [2,3,17] [18,2,3,17] rfl (λi T U=>⟨(18,iA i)::T,U⟩) ?_;(conv=>whnf);refine⟨by rfl,?_,?_⟩
  ·intro i hi;omega
  ·(refine WW ?_)
   exact zL
 ·have e0:List.replicate n (AV.s (.int .i64 0))=(List.replicate 0 (-1:Int)++List.replicate (n-0) 0).map iA:=by simp[iA]
  refine eM call92 λF hF=>?_
  refine WW ?_;refine zP (n) [13,2,3] [2,3] [2,3,17] [18,2,3,17] rfl (λi T U=>⟨(18,iA i)::T,(13,.arr 1 ((List.replicate i (-1:Int)++List.replicate (n-i) 0).map iA) false)::U⟩) ?_;(conv=>whnf);refine⟨by(rw[<-e0];rfl),?_,?_⟩
  ·intro i hi;have hy:((List.replicate i (-1:Int)++List.replicate (n-i) 0).map iA)[i]? =some (iA 0):=by simp[show 0<n-i by omega]
   have e:=zP6 n i hi;generalize (List.replicate i (-1:Int)++List.replicate (n-i) 0).map iA=xs at *;generalize (List.replicate (i+1) (-1:Int)++List.replicate (n-(i+1)) 0).map iA=ys at *;subst e;refine WW ?_;rfl
  ·rw[show n-n=0 by omega,yDe,zZo];refine WW ?_;exact zI [] rfl rfl (zZl (λx=>AV.agg [iA (-1),iA 0,AV.sl false x]) (zYy zU)) rfl
end Av
end Go.Proofs.YtmamjhmoegjapaaGreat
