/- Part 11. -/
import Derived.Test.YteajjdidebfcjaaGreatV10
import Derived.Scope
namespace Go.Proofs.YteajjdidebfcjaaGreat
namespace Av
open Tryz
set_option linter.all false
set_option maxRecDepth 4000
set_option maxHeartbeats 4000000
def avL (a:Ag):Bool:=a.lim.all λn=>gH n 0 8
def avF (a:Ag):Bool:=decide ((a.sec.length:Int)=8/\(a.lim.length:Int)=4)&&(avL a&&(gH a.rights 0 63&&(gH a.cls 0 3&&(gH a.req 0 4&&(gH a.ses 1 2&&(gH a.burst 0 1000&&gH a.rate 0 a.burst))))))
def zWr {a:Ag} (h:∀s:Nat,s<a.lim.length->gH (a.lim.getD s default) 0 8=true):avL a=true:=by
 unfold avL;rw[zYi];intro x hx;obtain⟨i,hi,rfl⟩:=yAf hx;have:=h i hi;simpa [List.getD,hi]using this
def zWs {a:Ag} {i:Nat} (hi:i<a.lim.length) (h:gH (a.lim.getD i default) 0 8=false):avL a=false:=by
 unfold avL;rw[yA4];exact⟨a.lim.getD i default,by simp[List.getD,hi],by rw[h];decide⟩
def zFi (a:Ag):zO 144 [vU a] [] (bA (avF a)) []:=by
 have hs:=zA yA a.sec;have hl:=zA iA a.lim;have c1:=uO a.rights 0 63;have c2:=uO a.cls 0 3;have c3:=uO a.req 0 4;have c4:=uO a.ses 1 2;have c5:=uO a.burst 0 1000;have c6:=uO a.rate 0 a.burst;by_cases h1:(a.sec.length:Int)=8/\(a.lim.length:Int)=4
 case neg=>
  have e:avF a=false:=by unfold avF;rw[zYb h1];rfl
  rw[e];by_cases g1:(a.sec.length:Int)=8
  ·(refine eM call144 λF hF=>?_)
   refine WW ?_;exact zJ
  ·(refine eM call144 λF hF=>?_)
   refine WW ?_;exact zJ
 obtain⟨h1,h2⟩:=h1
 have e:avF a=(avL a&&(gH a.rights 0 63&&(gH a.cls 0 3&&(gH a.req 0 4&&(gH a.ses 1 2&&(gH a.burst 0 1000&&gH a.rate 0 a.burst)))))):=by
  unfold avF;rw[zYa ⟨h1,h2⟩,zYr]
 rw[e];refine eM call144 λF hF=>?_
 refine WW ?_;refine xT (a.lim.length) [1] [1] [1,16,17] [18,1,16,17] Z (λi T U zs=>(∀s:Nat,s<i->gH (a.lim.getD s default) 0 8=true)/\zs=⟨(18,iA i)::T,U⟩) ?_;(conv=>whnf);refine⟨?_,?_,?_⟩
 ·exact⟨λs hs=>absurd hs (yAp _),rfl⟩
 ·rintro i st hi ⟨hp,rfl⟩;have hy:=zM iA a.lim i hi;have c:=uO (a.lim.getD i default) 0 8
  cases hq:gH (a.lim.getD i default) 0 8 with
  | true=>
   rw[hq]at c
   have hp2:∀s:Nat,s<i+1->gH (a.lim.getD s default) 0 8=true:=λs hs=>by
    by_cases hsi:s=i
    ·subst hsi;assumption
    ·exact hp s zB
   clear hq hp;generalize hx:a.lim.getD i default=x at *;clear hx;refine zY c ?_;exact⟨hp2,rfl⟩
  |false=>
   rw[hq]at c;rw[zWs hi hq,zZv];generalize a.lim.getD i default=x at *;refine zY c ?_;exact zJ
 ·rintro st ⟨hp,rfl⟩;rw[zWr hp,zYr];clear hp;generalize gH a.rights 0 63=q1 at *;generalize gH a.cls 0 3=q2 at *;generalize gH a.req 0 4=q3 at *;generalize gH a.ses 1 2=q4 at *;generalize gH a.burst 0 1000=q5 at *;generalize gH a.rate 0 a.burst=q6 at *;cases q1
  ·(refine zY c1 ?_)
   exact zJ
  cases q2
  ·(refine yR (wZ c1 c2) ?_)
   exact zJ
  cases q3
  ·(refine yR (fQ c1 c2 c3) ?_)
   exact zJ
  cases q4
  ·(refine yR (XU c1 c2 c3 c4) ?_)
   exact zJ
  cases q5
  ·(refine yR (zt5 c1 c2 c3 c4 c5) ?_)
   exact zJ
  ·(refine yR (zt6 c1 c2 c3 c4 c5 c6) ?_)
   exact zJ
def TW (l:List Vh) (hn:l.length<=1000000):zO 263 [zD vY l] [] (bA (GN l)) []:=by
 have hl:=zA vY l;by_cases h8:(l.length:Int)<=8
 case neg=>
  have e:GN l=false:=by unfold GN;rw[zYb h8,yBt]
  rw[e];refine eM call263 λF hF=>?_
  refine WW ?_;exact zJ
 refine eM call263 λF hF=>?_
 refine WW ?_;refine xT (l.length) [] [] [0,8,9] [10,0,8,9] Z (λi T U zs=>(∀s:Nat,s<i->RJ l s=true)/\zs=⟨(10,iA i)::T,U⟩) ?_;(conv=>whnf);refine⟨?_,?_,?_⟩
 ·exact⟨λs hs=>absurd hs (yAp _),rfl⟩
 ·rintro i st hi ⟨hp,rfl⟩
  have next:RJ l i=true->∀s:Nat,s<i+1->RJ l s=true:=λh s hs=>by
   by_cases hsi:s=i
   ·subst hsi;exact h
   ·exact hp s zB
  have stop:=λh=>zT0 (l:=l) hi h
  have hy:=zM vY l i hi;have htok:RJ l i=_:=rfl
  conv at htok=>rhs;unfold RJ
  by_cases hi0:0<i
  ·have hyp:=yN vY l ((i:Int)-1) zB zB;rw[show((i:Int)-1).toNat=i-1 by omega]at hyp;have hyq:(l.map vY)[((i:Int)-1).toNat]? =some (vY (l.getD (i-1) default)):=by rw[show((i:Int)-1).toNat=i-1 by omega];exact hyp
   clear hyp;generalize l.getD i default=t at *;generalize l.getD (i-1) default=p at *;generalize RJ l i=tk at *;by_cases h1:0<=t.id/\t.id<=4294967295/\0<=t.cls/\t.cls<=3/\p.id<t.id
   ·obtain⟨h1,h2,h3,h4,h5⟩:=h1;rw[zYa ⟨h1,h2,h3,h4,λ_=>h5⟩]at htok;refine WW ?_;exact⟨next htok,rfl⟩
   ·rw[zYb (λh=>h1 ⟨h.1,h.2.1,h.2.2.1,h.2.2.2.1,h.2.2.2.2 hi0⟩)]at htok;rw[stop htok]
    by_cases g1:0<=t.id<;>by_cases g2:t.id<=4294967295<;>by_cases g3:0<=t.cls<;>by_cases g4:t.cls<=3<;>by_cases g5:p.id<t.id<;>first|(exfalso;exact h1 ⟨g1,g2,g3,g4,g5⟩)|(exfalso;omega;done)|(clear h1;((refine WW ?_));exact zJ)
  ·obtain rfl:i=0:=by omega
   generalize l.getD 0 default=t at *;generalize RJ l 0=tk at *;by_cases h1:0<=t.id/\t.id<=4294967295/\0<=t.cls/\t.cls<=3
   ·obtain⟨h1,h2,h3,h4⟩:=h1;rw[zYa ⟨h1,h2,h3,h4,λh=>absurd h hi0⟩]at htok;refine WW ?_;exact⟨next htok,rfl⟩
   ·rw[zYb (λh=>h1 ⟨h.1,h.2.1,h.2.2.1,h.2.2.2.1⟩)]at htok;rw[stop htok]
    by_cases g1:0<=t.id<;>by_cases g2:t.id<=4294967295<;>by_cases g3:0<=t.cls<;>by_cases g4:t.cls<=3<;>first|(exfalso;exact h1 ⟨g1,g2,g3,g4⟩)|(exfalso;omega;done)|(clear h1;((refine WW ?_));exact zJ)
 ·rintro st ⟨hp,rfl⟩;have e:((List.range l.length).all λi=>RJ l i)=true:=zYi.2 λi hi=>hp i (zYs.1 hi)
  unfold GN;rw[e,zYr];rw[zYa h8];refine WW ?_;exact zJ
def gvF (r:Rg):Bool:=decide (0<=r.num/\r.num<4)&&(avF r.ag&&(MY r.tk&&(GN r.vh&&(bvF r.bk&&decide (r.bk.rate=r.ag.rate/\r.bk.burst=r.ag.burst)))))
def YP (r:Rg) (hv:r.vh.length<=1000000):zO 235 [qW r] [] (bA (gvF r)) []:=by
 have c1:=zFi r.ag;have c2:=TQ r.tk;have c3:=TW r.vh hv;have c4:=zIr r.bk;unfold gvF;generalize avF r.ag=q1 at *;generalize MY r.tk=q2 at *;generalize GN r.vh=q3 at *;generalize bvF r.bk=q4 at *;by_cases h1:0<=r.num
 case neg=>
  rw[zYb (λh=>h1 h.1)];refine eM call235 λF hF=>?_
  refine WW ?_;exact zJ
 by_cases h2:r.num<4
 case neg=>
  rw[zYb (λh=>h2 h.2)];refine eM call235 λF hF=>?_
  refine WW ?_;exact zJ
 rw[zYa ⟨h1,h2⟩]
 cases q1 with
 |false=>
  refine eM call235 λF hF=>?_
  refine zY c1 ?_;exact zJ
 |true=>
 cases q2 with
 |false=>
  refine eM call235 λF hF=>?_
  refine yR (wZ c1 c2) ?_;exact zJ
 |true=>
 cases q3 with
 |false=>
  refine eM call235 λF hF=>?_
  refine yR (fQ c1 c2 c3) ?_;exact zJ
 |true=>
 cases q4 with
 |false=>
  refine eM call235 λF hF=>?_
  refine yR (XU c1 c2 c3 c4) ?_;exact zJ
 |true=>
 by_cases h3:r.bk.rate=r.ag.rate
 case neg=>
  rw[zYb (λh=>h3 h.1)];refine eM call235 λF hF=>?_
  refine yR (XU c1 c2 c3 c4) ?_;exact zJ
 by_cases h4:r.bk.burst=r.ag.burst
 ·rw[zYa ⟨h3,h4⟩];refine eM call235 λF hF=>?_
  refine yR (XU c1 c2 c3 c4) ?_
  all_goals (first|exact zJ|exact BP)
 ·rw[zYb (λh=>h4 h.2)];refine eM call235 λF hF=>?_
  refine yR (XU c1 c2 c3 c4) ?_
  all_goals (first|exact zJ|exact BP)
def aD (r:Rg) (hv:r.vh.length<=1000000):yV [qW r] [] (bA (gvF r)) []:=yI
def NQ (l:List Vh) (id:Int) (hn:l.length<=1000000) (k:Nat) (k1:k<=l.length) (k2:∀i,i<k->(l.getD i default).id<id) (k3:k<l.length->¬(l.getD k default).id<id):zO 269 [zD vY l,iA id] [] (iA k) []:=by
 have hll:=zA vY l;refine eM call269 λF hF=>?_
 refine WW ?_;refine xT (l.length+1) [] [] [0,1] [5,0,1] Z (λi T U zs=>(i<=k)/\zs=⟨(5,iA i)::T,U⟩) ?_;(conv=>whnf);refine⟨?_,?_,?_⟩
 ·exact⟨zYl _,rfl⟩
 ·rintro i st hi ⟨hik,rfl⟩;by_cases hlt:i<k
  ·have hy:=zM vY l i zB;have hh:=k2 i hlt;generalize l.getD i default=x at *;refine WW ?_;exact⟨zB,rfl⟩
  ·obtain rfl:i=k:=by omega
   by_cases hkl:i<l.length
   ·have hy:=zM vY l i hkl;have hh:=k3 hkl;generalize l.getD i default=x at *;refine WW ?_;exact zJ
   ·(refine WW ?_)
    exact zJ
 ·rintro st ⟨hik,rfl⟩;exfalso;omega
def CS (l:List Vh) (c:Int) (hn:l.length<=1000000):zO 297 [zD vY l,iA c] [] (iA (jR l c)) []:=by
 have hl:=zA vY l;refine eM call297 λF hF=>?_
 refine WW ?_;refine yT (l) [] [] [1,8,9] [5,10,1,8,9] Z (λi pre T U=>⟨(5,iA (jR pre c))::(10,iA i)::T,U⟩) ?_;(conv=>whnf);refine⟨by rfl,?_,?_⟩
 ·intro i pre x post hx hi;have hy:=xQ vY hx hi;have hlt:=yW hx hi;have hle:jR pre c<=i:=by rw[<-hi];exact yAd _ _
  have e:jR (pre++[x]) c=jR pre c+(if x.cls=c then 1 else 0):=by
   unfold jR;rw[yBv,zX4];by_cases h:x.cls=c
   ·simp[h]
   ·simp[h]
  clear hx;by_cases h:x.cls=c
  ·rw[zX3 h]at e;rw[e];generalize jR pre c=m at *;refine WW ?_;rfl
  ·rw[zX2 h,yBa]at e;rw[e];generalize jR pre c=m at *;refine WW ?_;rfl
 ·(refine WW ?_)
  exact zJ
def CT (a:Ag) (c:Int) (h0:0<=c) (h1:c<a.lim.length):zO 298 [vU a,iA c] [] (iA (a.lim.getD c.toNat default)) []:=by
 have hla:=zA iA a.lim;have hy:=yN iA a.lim c h0 h1;refine eM call298 λF hF=>?_
 refine WW ?_;exact zJ
def agC (a:Ag) (c:Int):Ag:=⟨a.sec,a.rights,c,a.lim,a.req,a.ses,a.rate,a.burst⟩
theorem zK8 {l:List Vh} (hv:GN l=true):∀j,j<l.length->∀i,i<j->(l.getD i default).id<(l.getD j default).id
 |0,_,i,hi=>absurd hi (yAp _)
 |j+1,hj,i,hi=>by
  have h1:=((zQ7.1 hv).2 (j+1) hj).2 zB;rw[Nat.add_sub_cancel]at h1;by_cases h:i=j
  ·subst h;exact h1
  ·have:=zK8 hv j zB i zB;omega
def RO {l:List Vh} {id:Int} (hv:GN l=true) {k:Nat} (k1:k<=l.length) (k2:∀i,i<k->(l.getD i default).id<id) (k3:k<l.length->¬(l.getD k default).id<id):RI l id=true↔k<l.length/\(l.getD k default).id=id:=by
 constructor
 ·intro h;obtain⟨x,hx,he⟩:=zZy.1 h;obtain⟨i,hi,rfl⟩:=yAf hx;rw[zZb]at he;have hg:l.getD i default=l[i]:=by simp[List.getD,hi]
  rw[<-hg]at he;by_cases h1:i<k
  ·have:=k2 i h1;omega
  ·have hk:k<l.length:=by omega
   by_cases h2:i=k
   ·subst h2;exact⟨hk,he⟩
   ·have h3:=zK8 hv i hi k zB;have h4:=k3 hk;omega
 ·rintro⟨hk,he⟩;exact zZy.2 ⟨l.getD k default,by simp[List.getD,hk],by rw[zZb];exact he⟩
theorem CU (l:List Vh) (hn:l.length<=1000000) (a:Ag) (hlim:(a.lim.length:Int)=4) (hc3:a.cls<=3) (v:Vh) (hv:GN l=true) (h1:0<=v.id) (h2:v.id<=4294967295) (h3:0<=v.cls) (h4:v.cls<=a.cls) (htw:RI l v.id=false) (h5:(jR l v.cls:Int)<a.lim.getD v.cls.toNat default) (h6:l.length<8)
  (k:Nat) (k1:k<=l.length) (k2:∀i,i<k->(l.getD i default).id<v.id) (k3:k<l.length->¬(l.getD k default).id<v.id):zO 268 [zD vY l,vU a,vY v] [] (.tup [zD vY (l.take k++v::l.drop k),iA 0]) []:=by
 have hll:=zA vY l;have hla:=zA iA a.lim;have c2:=TW l hn;have c3:=NQ l v.id hn k k1 k2 k3;have c4:=CS l v.cls hn;have c5:=CT a v.cls h3 zB
 have hne:k<l.length->(l.getD k default).id≠v.id:=λhk e=>by
  rw[(RO hv k1 k2 k3).2 ⟨hk,e⟩]at htw;cases htw
 rw[hv]at c2;clear hv htw k2 k3
 have hcn:(jR l v.cls:Int)<=1000000:=by
  have:jR l v.cls<=l.length:=yAd _ _;omega
 generalize (jR l v.cls:Int)=cn at *;generalize a.lim.getD v.cls.toNat default=lim at *;have hlK:((l.take (k:Int).toNat).map vY).length=k:=by simp;omega
 have hlD:((l.drop (k:Int).toNat).map vY).length=l.length-k:=by simp
 obtain⟨N,hN⟩:∃N,N=l.length+1:=⟨_,rfl⟩;have hnx:((l.map vY).length:Int)+1=(N:Int):=by omega
 obtain⟨z1,hz1,hz1l⟩:∃z1,z1=(l.take k).map vY++List.replicate (l.length+1-k) (AV.agg [.s (.int .i64 0),.s (.int .i64 0)])/\z1.length=l.length+1:=⟨_,rfl,by simp;omega⟩
 have hcp1:(List.replicate N (AV.agg [.s (.int .i64 0),.s (.int .i64 0)])).take 0++(l.take (k:Int).toNat).map vY++(List.replicate N (AV.agg [.s (.int .i64 0),.s (.int .i64 0)])).drop (0+((l.take (k:Int).toNat).map vY).length)=z1:=by
  rw[hz1,hlK,hN];simp
 have hat:z1[(k:Int).toNat]? =some (AV.agg [.s (.int .i64 0),.s (.int .i64 0)]):=by
  rw[hz1,zYt xX];rw[zZ0,zX3 xX]
 have hcp2:(z1.set (k:Int).toNat (.agg [iA v.id,iA v.cls])).take ((k:Int)+1).toNat++(l.drop (k:Int).toNat).map vY++(z1.set (k:Int).toNat (.agg [iA v.id,iA v.cls])).drop (((k:Int)+1).toNat+((l.drop (k:Int).toNat).map vY).length)=(l.take k++v::l.drop k).map vY:=by
  have e1:z1.set (k:Int).toNat (.agg [iA v.id,iA v.cls])=(l.take k++[v]).map vY++List.replicate (l.length-k) (AV.agg [.s (.int .i64 0),.s (.int .i64 0)]):=by
   rw[hz1,yAy _ _ xX,show l.length+1-k=(l.length-k)+1 by omega,yB1];rw[show(k:Int).toNat-((l.take k).map vY).length=0 by simp;omega];simp[vY]
  have hl1:((l.take k++[v]).map vY).length=k+1:=by simp;omega
  have e2:((l.take k++[v]).map vY++List.replicate (l.length-k) (AV.agg [.s (.int .i64 0),.s (.int .i64 0)])).drop (k+1+(l.length-k))=[]:=yB2 (by rw[zX4,hl1,zZs];exact zX7 _);rw[e1,hlD,show((k:Int)+1).toNat=k+1 by omega,yAu zB,zYe zB,e2];simp
 clear hz1;obtain⟨z3,hz3⟩:∃z3,z3=(l.take k++v::l.drop k).map vY:=⟨_,rfl⟩;have hz3l:z3.length=l.length+1:=by rw[hz3];simp;omega
 rw[<-hz3]at hcp2;rw[show zD vY (l.take k++v::l.drop k)= .sl false z3 by rw[hz3];rfl];clear hz3;rw[show vY v= .agg [iA v.id,iA v.cls]from Z]at *; by_cases hk:k<l.length
 ·have hy:=zM vY l k hk;have hne:=hne hk;generalize l.getD k default=x at *;refine eM call268 λF hF=>?_
  (have zc1:=c2;have zc2:=c3;have zc3:=c4;have zc4:=c5;(repeat' (first|refine uJ ?_|apply xL|apply wB|intro hc|(refine zE ?_;first|(refine eP ?_;refine zI9 tok Z Z Z Z Z Z Z Z Z Z Z Z hnx zB zB Z Z Z ?_)|(refine zDd tok Z Z Z Z Z Z Z (zN _ _ (λ_=>rfl)) Z zB (by first|exact hcp1|exact hcp2) Z ?_)|(refine uB ?_;refine fT tok Z Z Z Z Z Z Z zB zB Z ?_))|fail))<;>clear zc1 zc2 zc3 zc4)
  exact zI [] Z Z (zY3 (λz=>AV.tup [AV.sl false z,iA 0]) zQ1) Z
 ·clear hne;refine eM call268 λF hF=>?_
  (have zc1:=c2;have zc2:=c3;have zc3:=c4;have zc4:=c5;(repeat' (first|refine uJ ?_|apply xL|apply wB|intro hc|(refine zE ?_;first|(refine eP ?_;refine zI9 tok Z Z Z Z Z Z Z Z Z Z Z Z hnx zB zB Z Z Z ?_)|(refine zDd tok Z Z Z Z Z Z Z (zN _ _ (λ_=>rfl)) Z zB (by first|exact hcp1|exact hcp2) Z ?_)|(refine uB ?_;refine fT tok Z Z Z Z Z Z Z zB zB Z ?_))|fail))<;>clear zc1 zc2 zc3 zc4)
  exact zI [] Z Z (zY3 (λz=>AV.tup [AV.sl false z,iA 0]) zQ1) Z
theorem LA (l:List Vh) (hn:l.length<=1000000) (a:Ag) (most:Int) (hlim:(a.lim.length:Int)=4) (hc3:a.cls<=3) (v:Vh):∃(l':List Vh) (e:Int),((0<=e/\e<=100)/\(e≠0->l'=[]))/\(l'.length<=l.length+1/\l'.length<=8)/\zO 268 [zD vY l,vU (agC a (min a.cls most)),vY v] [] (.tup [zD vY l',iA e]) []/\yV [zD vY l,vU a,vY v,iA most] [] (.tup [zD vY l',iA e]) []:=by
 have hll:=zA vY l;have hla:=zA iA a.lim;have p2:=TW l hn;have c1:=zO6 l v.id hn;have c2:=zE8 l hn;have c3:=zKj l v.cls hn;have p4:=CS l v.cls hn;have hcm:min a.cls most<=3:=by omega
 have hcl:min a.cls most<=a.cls:=by omega
 obtain⟨k,k1,k2,k3⟩:=CR l v.id;have hpl:=λhv=>RO (l:=l) (id:=v.id) hv k1 k2 k3
 have p3:=NQ l v.id hn k k1 k2 k3;have hreg:=λhv h1 h2 h3 h4 htw h5 h6=>CU l hn (agC a (min a.cls most)) hlim hcm v hv h1 h2 h3 h4 htw h5 h6 k k1 k2 k3
 have hcn:jR l v.cls<=1000000:=by
  have:jR l v.cls<=l.length:=yAd _ _;omega
 have p5:=λh3 h4=>CT (agC a (min a.cls most)) v.cls h3 h4
 rw[show(agC a (min a.cls most)).lim=a.lim from Z]at hreg p5;rw[show(agC a (min a.cls most)).cls=min a.cls most from Z]at hreg;have hAG:vU (agC a (min a.cls most))= .agg [zD yA a.sec,iA a.rights,iA (min a.cls most),zD iA a.lim,iA a.req,iA a.ses,iA a.rate,iA a.burst]:=rfl;rw[hAG]at *; generalize hf:aC l v.id=fv at *;generalize htw:RI l v.id=tw at *;generalize hok:GN l=ok at *;generalize jR l v.cls=cn at *;cases ok
 ·refine⟨[],1,⟨zB,λ_=>rfl⟩,⟨zYl _,zYl _⟩,?_,?_⟩
  ·clear hpl hreg p5;refine eM call268 λF hF=>?_
   refine zY p2 ?_;exact zJ
  ·clear hpl hreg p5;exact yI
 by_cases h1:0<=v.id/\v.id<=4294967295
 case neg=>
  refine⟨[],8,⟨zB,λ_=>rfl⟩,⟨zYl _,zYl _⟩,?_,?_⟩
  ·clear hpl hreg p5
   by_cases g1:0<=v.id<;>((refine eM call268 λF hF=>?_);((refine zY p2 ?_));exact zJ)
  ·clear hpl hreg p5
   by_cases g1:0<=v.id<;>(exact yI)
 obtain⟨h1,h2⟩:=h1;generalize hmm:min a.cls most=mm at *;by_cases h3:0<=v.cls/\v.cls<=mm
 case neg=>
  refine⟨[],17,⟨zB,λ_=>rfl⟩,⟨zYl _,zYl _⟩,?_,?_⟩
  ·clear hpl hreg p5
   by_cases g1:0<=v.cls<;>((refine eM call268 λF hF=>?_);((refine zY p2 ?_));exact zJ)
  ·clear hpl hreg p5;subst hmm
   by_cases g1:0<=v.cls<;>(exact yI)
 obtain⟨h3,h4⟩:=h3;have hpl:=hpl Z;have hp5:=p5 h3 zB;clear p5;cases tw
 case true=>
  obtain⟨hk,hid⟩:=hpl.1 Z;have hy:=zM vY l k hk;refine⟨[],11,⟨zB,λ_=>rfl⟩,⟨zYl _,zYl _⟩,?_,?_⟩
  ·clear hreg hpl k2 k3;generalize l.getD k default=x at *;refine eM call268 λF hF=>?_
   refine yR (wZ p2 p3) ?_;exact zJ
  ·clear hpl hreg;subst hmm;exact yI
 have hne:∀hk:k<l.length,(l.getD k default).id≠v.id:=λhk e=>by
  have:=hpl.2 ⟨hk,e⟩;cases this
 clear hpl;have hyl:=yN iA a.lim v.cls h3 zB;have hreg:=hreg Z h1 h2 h3 h4 Z;generalize a.lim.getD v.cls.toNat default=lim at *;by_cases h5:lim<=cn
 ·refine⟨[],14,⟨zB,λ_=>rfl⟩,⟨zYl _,zYl _⟩,?_,?_⟩
  ·clear hreg k2 k3;by_cases hk:k<l.length
   ·have hy:=zM vY l k hk;have hne:=hne hk;generalize l.getD k default=x at *;refine eM call268 λF hF=>?_
    refine yR (XU p2 p3 p4 hp5) ?_;exact zJ
   ·clear hne;refine eM call268 λF hF=>?_
    refine yR (XU p2 p3 p4 hp5) ?_;exact zJ
  ·clear hreg hne k2 k3;subst hmm;exact yI
 by_cases h6:l.length<8
 case neg=>
  refine⟨[],10,⟨zB,λ_=>rfl⟩,⟨zYl _,zYl _⟩,?_,?_⟩
  ·clear hreg k2 k3;by_cases hk:k<l.length
   ·have hy:=zM vY l k hk;have hne:=hne hk;generalize l.getD k default=x at *;refine eM call268 λF hF=>?_
    refine yR (XU p2 p3 p4 hp5) ?_;exact zJ
   ·clear hne;refine eM call268 λF hF=>?_
    refine yR (XU p2 p3 p4 hp5) ?_;exact zJ
  ·clear hreg hne k2 k3;subst hmm;exact yI
 refine⟨l.take k++v::l.drop k,0,⟨zB,λh=>absurd Z h⟩,⟨by simp;omega,by simp;omega⟩,hreg zB h6,?_⟩;clear hok htw hreg hne p2 p3 p4 hp5;subst hmm;exact yI
section
variable {b:Frame} {a:Act} {k:List Item} {cs:List Frame} {w:World} {P:Program}
def gG {c:Code}:step P (lone (b.atR a (.code (.scope c)::k)) cs w)= .next (lone (b.atR a (.code c:: .inScope c::k)) cs w):=
 step_lone_go (by simp[stepG,stepG.exec,Frame.atR])
def LB {c:Code}:step P (lone (b.atR a (.inScope c::k)) cs w)= .next (lone (b.atR a k) cs w):=
 step_lone_go (by simp[stepG,stepG.exec,Frame.atR])
end
section
variable {F:Fence} {n:Nat} {P:Program} {Q:Exit->Act->World->Prop} {a:Act} {w:World}
def zBj {c:Code} (h:c.wpIn F n P (Exit.noGoto Q) a w):(Code.scope c).wpIn F n P Q a w:=by
 intro b k cs hro hb hr;have h0:(lone (b.atR a (.code (.scope c)::k)) cs w).fenced P F:=fenced_calm hb hr Z;obtain⟨e,a₁,w₁,hq,harr⟩:=h b (.inScope c::k) cs hro hb hr
 cases e with
 |normal=>exact⟨.normal,a₁,w₁,hq,.head h0 gG (StepsIn.trans harr (.one (fenced_calm hb hr Z) LB))⟩
 | exit id=>
  have hx:exitTo id (.inScope c::k)=exitTo id k:=by simp[exitTo]
  exact⟨.exit id,a₁,w₁,hq,λk' hk=> .head h0 gG (harr.1 k' (by rw[hx];exact hk)),
   λhr' hk=>let ⟨k₁,h1,h2⟩:=harr.2 hr' (by rw[hx];exact hk);⟨k₁,h1,.head h0 gG h2⟩⟩
 |goto l=>exact hq.elim
 |ret=>exact⟨_,a₁,w₁,hq,.of_steps (.one h0 gG) harr⟩
 |panic ch=>exact⟨_,a₁,w₁,hq,.of_steps (.one h0 gG) harr⟩
 |outgrown=>exact⟨_,a₁,w₁,hq,.of_steps (.one h0 gG) harr⟩
end
section
variable {P:Program} {K0:List Nat} {F:Fr K0} {m:Nat} {Q:Exit->St->Prop} {st:St}
def noG (Q:Exit->St->Prop):Exit->St->Prop
 | .goto _,_=>False
 |e,s=>Q e s
def vR {c:Code} (h:uQ P F m c st (noG Q)):uQ P F m (.scope c) st Q:=⟨λa w H=>
 zBj (Code.wpIn_mono (λe a' w' ⟨s,h1,h2⟩=>by
  cases e with
  |goto l=>exact h1.elim
  |_=>exact⟨s,h1,h2⟩) (h.run a w H))⟩
def XI {c:Code} (K ts:List Nat) (st0 st1 st2:St) (hK:K0.all (K.contains ·)=true) (he:restr K ts st=st0)
  (h0:uQ P F m c st0 (λe s=>match e with| .normal=>restr K ts s=st1|e=>Q e s))
  (h1:uQ P F m c st1 (λe s=>match e with| .normal=>restr K ts s=st2|e=>Q e s))
  (h2:uQ P F m c st2 (λe s=>match e with| .normal=>False|e=>Q e s)):uQ P F m (.loop c) st Q:=by
 refine vH (λn s=>(n=2/\s=st0)∨(n=1/\s=st1)∨(n=0/\s=st2)) 2 K ts hK (.inl ⟨rfl,he⟩) ?_;rintro n s (⟨rfl,rfl⟩|⟨rfl,rfl⟩|⟨rfl,rfl⟩)
 ·refine⟨λa w H=>Code.wpIn_mono (λe a' w' ⟨s,q1,q2⟩=>?_) (h0.run a w H)⟩
  cases e with
  |normal=>exact⟨s,⟨1,zB,.inr (.inl ⟨rfl,q1⟩)⟩,q2⟩
  |_=>exact⟨s,q1,q2⟩
 ·refine⟨λa w H=>Code.wpIn_mono (λe a' w' ⟨s,q1,q2⟩=>?_) (h1.run a w H)⟩
  cases e with
  |normal=>exact⟨s,⟨0,zB,.inr (.inr ⟨rfl,q1⟩)⟩,q2⟩
  |_=>exact⟨s,q1,q2⟩
 ·refine⟨λa w H=>Code.wpIn_mono (λe a' w' ⟨s,q1,q2⟩=>?_) (h2.run a w H)⟩
  cases e with
  |normal=>exact q1.elim
  |_=>exact⟨s,q1,q2⟩
def vS {l:Nat} (h:Q .normal st):uQ P F m (.label l) st Q:=⟨λ_ _ H=>wpIn_label ⟨st,h,H⟩⟩
end
def zUm (N:Nat) (h1:1<=N) (h2:N<=1000000):zO 299 [.s (.slice none 0 0),iA N] [] (.ref 1001 0 0) [(1001,.arr 2 [] true)]:=by
 have hnx:(N:Int)-(0-0)=(N:Int):=by omega
 have hn3:(N:Int)-(0-((0:Nat):Int))=(N:Int):=by omega
 refine eM call299 λF hF=>?_
 (repeat' (first|refine WS ?_|refine SG (I2 (λhc=>?_) λhc=>?_)|refine SG λhc=>?_|(refine zE ?_;first|(refine zP (ND tok Z Z Z) Z ?_)|(refine uB ?_;refine zP (zAy tok Z Z Z Z Z) Z ?_)|(refine zOy tok Z Z Z Z Z Z Z Z Z Z Z Z Z Z (by first|exact hnx|exact hn3) h1 zB Z Z Z ?_)|(refine uB ?_;refine zDe tok Z Z Z Z Z Z Z Z ?_))|(first|refine zE1 0 22 1001 Z Z Z ?_|first|refine SR ?_|refine SK (I2 (λhc=>?_) λhc=>?_)|refine SK λhc=>?_|fail)|fail))
 exact zL [1001] Z Z Z Z
def zPy:zO 299 [.s (.slice none 0 0),iA 0] [] (.s (.slice none 0 0)) []:=by
 refine eM call299 λF hF=>?_
 (repeat' (first|refine uJ ?_|apply xL|apply wB|intro hc|(refine zE ?_;first|(refine zP (ND tok Z Z Z) Z ?_))|fail))
 exact zL [] Z Z Z Z
theorem zK9 (a b:List Vh) (ha:a.length<=1000) (hb:b.length<=1000):zO 270 [.sl false [zD vY a,zD vY b]] [] (zD vY (a++b)) []:=by
 have hla:=zA vY a;have hlb:=zA vY b;rw[show zD vY (a++b)= .sl false (a.map vY++b.map vY) by unfold zD;rw[zYd]];have hsa:zD vY a= .sl false (a.map vY):=rfl;have hsb:zD vY b= .sl false (b.map vY):=rfl;rw[hsa,hsb];have hhA:∀y,(a.map vY)[0]? =some y->y.cells.length=2:=zN _ _ (λ_=>rfl);have hhB:∀y,(b.map vY)[0]? =some y->y.cells.length=2:=zN _ _ (λ_=>rfl);generalize a.map vY=A at *;generalize b.map vY=B at *;clear hsa hsb;have hyA:([AV.sl false A,.sl false B]:List AV)[(0:Int).toNat]? =some (.sl false A):=rfl;have hyB:([AV.sl false A,.sl false B]:List AV)[(0+1:Int).toNat]? =some (.sl false B):=rfl;have hl2:([AV.sl false A,.sl false B]:List AV).length=2:=rfl;generalize [AV.sl false A,.sl false B]=X at *;refine eM call270 λF hF=>?_
 refine WW ?_;refine XI [] [3,11,0,9,10] ⟨[(3,iA 0),(11,iA 0),(0,.sl false X),(9,.sl false X),(10,iA X.length)],[]⟩ ⟨[(3,iA (0+(A.length:Int))),(11,iA (0+1)),(0,.sl false X),(9,.sl false X),(10,iA X.length)],[]⟩ ⟨[(3,iA (0+(A.length:Int)+(B.length:Int))),(11,iA (0+1+1)),(0,.sl false X),(9,.sl false X),(10,iA X.length)],[]⟩ rfl Z ?_ ?_ ?_
 ·(refine WW ?_)
  rfl
 ·(refine WW ?_)
  rfl
 by_cases hN:A.length+B.length=0
 ·have c0:=zPy;rw[show iA 0=iA (0+(A.length:Int)+(B.length:Int)) by rw[show(0:Int)+(A.length:Int)+(B.length:Int)=0 by omega]]at c0
  (repeat' (first|refine uJ ?_|apply xL|apply wB|intro hc|(refine zE ?_;refine xJ ?_;(refine vP 299 ?_;first|refine zP (jI c0 Z Z Z Z Z) Z ?_|refine qE (jI c0 Z Z Z Z Z) Z Z Z ?_|refine ZJ (jI c0 Z Z Z Z Z) Z Z Z ?_))|(refine zE ?_;first|refine SM ?_)|fail))
  refine xA 6 1001 2 Z Z Z ?_;refine XI [1001] [6,27,25,26] ⟨[(6,.ref 1001 0 0),(27,iA 0),(25,.sl false X),(26,iA X.length)],[(1001,.arr 2 [] true)]⟩ ⟨[(6,.ref 1001 0 A.length),(27,iA (0+1)),(25,.sl false X),(26,iA X.length)],[(1001,.arr 2 A false)]⟩ ⟨[(6,.ref 1001 0 (A++B).length),(27,iA (0+1+1)),(25,.sl false X),(26,iA X.length)],[(1001,.arr 2 (A++B) true)]⟩ rfl Z ?_ ?_ ?_
  ·(repeat' (first|refine uJ ?_|apply xL|apply wB|intro hc|(refine zE ?_;first|(refine yD ?_;first|refine xF tok Z Z Z Z Z Z Z hhA Z Z Z zB Z ?_|refine uF tok Z Z Z Z Z Z Z Z Z Z Z hhB zB Z ?_))|fail))
   rfl
  ·(repeat' (first|refine uJ ?_|apply xL|apply wB|intro hc|(refine zE ?_;first|(refine yD ?_;first|refine xF tok Z Z Z Z Z Z Z hhA Z Z Z zB Z ?_|refine uF tok Z Z Z Z Z Z Z Z Z Z Z hhB zB Z ?_))|fail))
   rfl
  ·(refine WW ?_)
   exact zI [] Z Z (zY3 (AV.sl false) zJt) Z
 ·have c0:=zUm (A.length+B.length) zB zB;rw[show((A.length+B.length:Nat):Int)=0+(A.length:Int)+(B.length:Int) by omega]at c0
  (repeat' (first|refine uJ ?_|apply xL|apply wB|intro hc|(refine zE ?_;refine xJ ?_;(refine vP 299 ?_;first|refine zP (jI c0 Z Z Z Z Z) Z ?_|refine qE (jI c0 Z Z Z Z Z) Z Z Z ?_|refine ZJ (jI c0 Z Z Z Z Z) Z Z Z ?_))|(refine zE ?_;first|refine SM ?_)|fail))
  refine XI [1001] [6,27,25,26] ⟨[(6,.ref 1001 0 0),(27,iA 0),(25,.sl false X),(26,iA X.length)],[(1001,.arr 2 [] true)]⟩ ⟨[(6,.ref 1001 0 A.length),(27,iA (0+1)),(25,.sl false X),(26,iA X.length)],[(1001,.arr 2 A false)]⟩ ⟨[(6,.ref 1001 0 (A++B).length),(27,iA (0+1+1)),(25,.sl false X),(26,iA X.length)],[(1001,.arr 2 (A++B) true)]⟩ rfl Z ?_ ?_ ?_
  ·(repeat' (first|refine uJ ?_|apply xL|apply wB|intro hc|(refine zE ?_;first|(refine yD ?_;first|refine xF tok Z Z Z Z Z Z Z hhA Z Z Z zB Z ?_|refine uF tok Z Z Z Z Z Z Z Z Z Z Z hhB zB Z ?_))|fail))
   rfl
  ·(repeat' (first|refine uJ ?_|apply xL|apply wB|intro hc|(refine zE ?_;first|(refine yD ?_;first|refine xF tok Z Z Z Z Z Z Z hhA Z Z Z zB Z ?_|refine uF tok Z Z Z Z Z Z Z Z Z Z Z hhB zB Z ?_))|fail))
   rfl
  ·(refine WW ?_)
   exact zI [] Z Z (zY3 (AV.sl false) zJt) Z
def rmV (l:List Vh) (id:Int):List Vh:=l.filter λv=>decide (v.id≠id)
def zLa {l:List Vh} {id:Int} (h:RI l id=false):rmV l id=l:=by
 unfold rmV;refine yDc.2 λx hx=>zYa λe=>?_
 have:=yA5.1 h x hx;exact this (by rw[zZb];exact e)
def zLb {l:List Vh} {id:Int} (hv:GN l=true) {k:Nat} (hk:k<l.length) (he:(l.getD k default).id=id):rmV l id=l.take k++l.drop (k+1):=by
 have e0:l.getD k default=l[k]:=by simp[List.getD,hk]
 have e1:l=l.take k++l[k]::l.drop (k+1):=by rw[List.getElem_cons_drop,yBf]
 have hlt:=zK8 hv
 have h1:rmV (l.take k) id=l.take k:=by
  refine yDc.2 λx hx=>zYa λe=>?_
  obtain⟨i,hi,rfl⟩:=yAf hx;simp only[zYn]at hi;have q1:=hlt k hk i zB;have q2:l.getD i default=l[i]:=by simp[List.getD,show i<l.length by omega]
  rw[List.getElem_take]at e;rw[q2,e,he]at q1;omega
 have h2:rmV (l.drop (k+1)) id=l.drop (k+1):=by
  refine yDc.2 λx hx=>zYa λe=>?_
  obtain⟨i,hi,rfl⟩:=yAf hx;simp only[zYv]at hi;have q1:=hlt (k+1+i) zB k zB;have q2:l.getD (k+1+i) default=l[k+1+i]:=by simp[List.getD,show k+1+i<l.length by omega]
  rw[List.getElem_drop]at e;rw[q2,e,he]at q1;omega
 conv=>lhs;rw[e1]
 unfold rmV at h1 h2⊢;rw[yBv,List.filter_cons,zX2 (by rw[<-e0,he];simp),h1,h2]
def zFj (l:List Vh) (hn:l.length<=1000000) (id:Int):yV [zD vY l,iA id] [] (if GN l=true then(if(rmV l id).length=l.length then .tup [.sl false [],iA 12]else .tup [zD vY (rmV l id),iA 0])else .tup [.sl false [],iA 1]) []:=yI
def CW (l:List Vh) (hn:l.length<=1000) (id:Int):∃(l':List Vh) (e:Int),((0<=e/\e<=100)/\(e≠0->l'=[]))/\l'.length<=l.length/\zO 241 [zD vY l,iA id] [] (.tup [zD vY l',iA e]) []/\yV [zD vY l,iA id] [] (.tup [zD vY l',iA e]) []:=by
 have hll:=zA vY l;have p2:=TW l zB;have c:=zFj l zB id;obtain⟨k,k1,k2,k3⟩:=CR l id;have p3:=NQ l id zB k k1 k2 k3
 cases hv:GN l with
 |false=>
  rw[hv]at p2 c;rw[zX2 zYp]at c;refine⟨[],1,⟨zB,λ_=>rfl⟩,by simp,?_,c⟩;refine eM call241 λF hF=>?_
  refine WLo p2 ?_;exact zJ
 |true=>
 have hpl:=RO (id:=id) hv k1 k2 k3;rw[hv]at p2 c;rw[zX3 Z]at c
 cases hh:RI l id with
 | false=>
  rw[zX3 (by rw[zLa hh])]at c;refine⟨[],12,⟨zB,λ_=>rfl⟩,by simp,?_,c⟩
  have hne:∀hk:k<l.length,(l.getD k default).id≠id:=λhk e=>by
   rw[hpl.2 ⟨hk,e⟩]at hh;cases hh
  clear hpl k2 k3 c;by_cases hk:k<l.length
  ·have hy:=zM vY l k hk;have hne:=hne hk;generalize l.getD k default=x at *;refine eM call241 λF hF=>?_
   refine EV (wZ p2 p3) ?_;exact zJ
  ·clear hne;refine eM call241 λF hF=>?_
   refine EV (wZ p2 p3) ?_;exact zJ
 |true=>
  obtain⟨hk,he⟩:=hpl.1 hh;have er:=zLb hv hk he;have hlen:(rmV l id).length=l.length-1:=by rw[er];simp;omega
  rw[zX2 zB]at c;refine⟨rmV l id,0,⟨zB,λh=>absurd Z h⟩,zB,?_,c⟩;have c4:=zK9 (l.take (k:Int).toNat) (l.drop ((k:Int)+1).toNat) xX xX;rw[show l.take (k:Int).toNat++l.drop ((k:Int)+1).toNat=rmV l id by rw[er];congr 1]at c4;have hy:=zM vY l k hk;clear hpl k2 k3 c er hlen;generalize rmV l id=l' at *;generalize l.getD k default=x at *;refine eM call241 λF hF=>?_
  refine EV (fQ p2 p3 c4) ?_;exact zJ
def zQ8 (t:Tk):zO 296 [yY t] [] (bA (!t.used)) []:=by
 obtain⟨u,a,b,c,d,e⟩:=t
 cases u with
 |true=>
  rw[show yY ⟨true,a,b,c,d,e⟩= .agg [bA true,zD yA a,iA b,iA c,iA d,iA e]from Z];refine eM call296 λF hF=>?_
  refine WW ?_;exact zJ
 |false=>
  rw[show yY ⟨false,a,b,c,d,e⟩= .agg [bA false,zD yA a,iA b,iA c,iA d,iA e]from Z];refine eM call296 λF hF=>?_
  refine WW ?_;exact zJ
def zWt (l:List Tk) (hn:l.length<=1000000) (k:Nat) (hk:k<l.length) (h1:∀i,i<k->(l.getD i default).used=true) (h2:(l.getD k default).used=false):zO 295 [zD yY l,.fn 296 []] [] (iA k) []:=by
 have hl:=zA yY l;refine eM call295 λF hF=>?_
 refine WW ?_;refine xT (l.length) [] [] [0,1,7] [8,0,1,7] Z (λi T U zs=>(i<=k)/\zs=⟨(8,iA i)::T,U⟩) ?_;(conv=>whnf);refine⟨?_,?_,?_⟩
 ·exact⟨zYl _,rfl⟩
 ·rintro i st hi ⟨hik,rfl⟩;have hy:=zM yY l i hi;have c:=zQ8 (l.getD i default);by_cases hie:i=k
  ·subst hie;rw[h2]at c;generalize l.getD i default=t at *;refine zY c ?_;exact zJ
  ·rw[h1 i zB]at c;generalize l.getD i default=t at *;refine zY c ?_;exact⟨zB,rfl⟩
 ·rintro st ⟨hik,rfl⟩;exfalso;omega
def BR (life now:Int):Int:=if 0<life then now+life else 0
def zPz (l:List Tk) (k:Nat) (t:Tk) (n:Nat) (hn:n=l.length):zD yY (l.set k t)= .sl false (((l.map yY).set k (yY t)).take n):=by
 rw[<-zZ8,zYe xX];rfl
def zX {α:Type} [Inhabited α] (l:List α) (i:Nat) (h:i<l.length):l.getD i default∈l:=by
 rw[zYc,zYk h];exact yAr _
def NoT (l:List Tk):Prop:=∀t∈l,t.used=true->peF t.rights 10=false
def T0K (l o:List Tk):Prop:=NoT l->NoT o
def zFk (l:List Tk) (s:Int) (j:Nat):Tk:=if deF l j s=true then frT else l.getD j default
def RP (l:List Tk) (s:Int) (n:Nat):List Tk:=(List.range l.length).map λj=>if j<n then zFk l s j else l.getD j default
def PP (l:List Tk) (s:Int) (n:Nat):(RP l s n).length=l.length:=by simp[RP]
def zLc (l:List Tk) (s:Int):RP l s 0=l:=by
 apply zZf;intro i;unfold RP;rw[zX8];by_cases h:i<l.length
 ·rw[zY5 h];simp[h,List.getD]
 ·rw[zYx (l:=List.range l.length) xX,zYx zB];rfl
def zUn (l:List Tk) (s:Int) (n:Nat) (h:n<l.length):(RP l s n)[n]? =some (l.getD n default):=by
 unfold RP;rw[zX8,zY5 h];simp
def zLd (l:List Tk) (s:Int) (n:Nat) (h:n<l.length):RP l s (n+1)=(RP l s n).set n (zFk l s n):=by
 apply zZf;intro i;rw[yAb];unfold RP;rw[zX8,zX8,zX5,zZr];by_cases hi:i<l.length
 ·rw[zY5 hi];by_cases e:n=i
  ·subst e;rw[zX3 Z,zX3 hi];simp
  ·rw[zX2 e];simp only[Option.map_some];by_cases h1:i<n
   ·rw[zX3 h1,zX3 zB]
   ·rw[zX2 h1,zX2 zB]
 ·rw[zYx (l:=List.range l.length) xX,zX2 zB];rfl
def zFl (l:List Tk) (hb:GJ l) (hv:MY l=true) (s:Int) (hs:1<=s/\s<8) (h8:l.length=8) (hu:(l.getD s.toNat default).used=true):zO 238 [zD yY l,iA s] [] (.tup [zD yY (RP l s l.length),iA 0]) []:=by
 have c1:=TQ l;rw[hv]at c1;have c2:=VA l hb;have hll:=zA yY l;have hy:=yN yY l s zB zB;have hd:=λj=>zKs l j s
 have fc:=zAd;generalize l.getD s.toNat default=t at *;obtain⟨u,a1,a2,a3,a4,a5⟩:=t;dsimp only at hu;subst hu;rw[show yY ⟨true,a1,a2,a3,a4,a5⟩= .agg [bA true,zD yA a1,iA a2,iA a3,iA a4,iA a5]from Z]at hy;refine eM call238 λF hF=>?_
 refine yR (wZ c1 c2) ?_;refine zS (l.length) [1001] [] [0,1,6,26] [27,0,1,6,26] Z (λi T U=>⟨(27,iA i)::T,(1001,.arr 6 ((RP l s i).map yY) false)::U⟩) ?_;(conv=>whnf);refine⟨by(rw[zLc];rfl),?_,?_⟩
 ·intro i hi;have hyi:((RP l s i).map yY)[i]? =some (yY (l.getD i default)):=by rw[zX8,zUn l s i hi];rfl
  have c3:=hd i;have hrl:i<((RP l s i).map yY).length:=by rw[zX5,PP];exact hi
  rw[zLd l s i hi,zZ8];have hset:(l.getD i default)=(l.getD i default):=rfl
  have hsame:((RP l s i).map yY).set i (yY (l.getD i default))=(RP l s i).map yY:=by
   rw[zYu]at hyi;obtain⟨h,e⟩:=hyi;rw[<-e,yC7]
  unfold zFk
  cases hde:deF l i s with
  |true=>
   rw[hde]at c3;rw[zX3 Z];generalize (RP l s i).map yY=xs at *;generalize l.getD i default=ti at *;clear hsame hset hd c1 c2;refine yR (wZ c3 fc) ?_;rfl
  |false=>
   rw[hde]at c3;rw[zX2 zYp,hsame];generalize (RP l s i).map yY=xs at *;clear hsame hset hd c1 c2 fc;refine zY c3 ?_;rfl
 ·have hle:=PP l s l.length;rw[show zD yY (RP l s l.length)= .sl false (((RP l s l.length).map yY).take (l.map yY).length) by rw[zYe (by simp[hle])];rfl];generalize (RP l s l.length).map yY=xs at *;refine WW ?_;exact zJ
def GO (l:List Tk) (k:Nat) (e:Int) (t:Tk):List Tk:=if e=0 then l.set k t else []
def zUo {P:Nat->Prop}:∀n,P n->∃m,m<=n/\P m/\∀k,k<m->¬P k:=by
 intro n
 induction n using Nat.strongRecOn with
 |_ n ih=>
  intro h;by_cases hx:∃k,k<n/\P k
  ·obtain⟨k,h1,h2⟩:=hx;obtain⟨m,h3,h4,h5⟩:=ih k h1 h2;exact⟨m,zB,h4,h5⟩
  ·exact⟨n,zX7 _,h,λk h1 h2=>hx ⟨k,h1,h2⟩⟩
def zUp (l:List Tk) (hn:l.length<=1000000) (h1:∀i,i<l.length->(l.getD i default).used=true):zO 295 [zD yY l,.fn 296 []] [] (iA (-1)) []:=by
 have hl:=zA yY l;refine eM call295 λF hF=>?_
 refine WW ?_;refine zS (l.length) [] [] [0,1,7] [8,0,1,7] Z (λi T U=>⟨(8,iA i)::T,U⟩) ?_;(conv=>whnf);refine⟨by rfl,?_,?_⟩
 ·intro i hi;have hy:=zM yY l i hi;have c:=zQ8 (l.getD i default);rw[h1 i hi]at c;generalize l.getD i default=t at *;refine zY c ?_;rfl
 ·(refine WW ?_)
  exact zJ
def zLe (l:List Tk) (p R c life now:Int):Prop:=∃(k:Nat) (e:Int),(0<=e/\e<=20)/\(k=0∨k<l.length)/\(e=0->MY l=true/\0<=p/\p<l.length/\(l.getD k default).used=false/\wiF R (l.getD p.toNat default).rights=true/\(l.getD p.toNat default).used=true)/\∀sec:List Int,(sec.length:Int)=8->
 zO 265 [zD yY l,iA p,iA R,iA c,iA life,zD yA sec,iA now] [] (.tup [zD yY (GO l k e ⟨true,sec,p,R,c,BR life now⟩),iA k,iA e]) []/\
 yV [zD yY l,iA p,iA R,iA c,iA life,zD yA sec,iA now] [] (.tup [zD yY (GO l k e ⟨true,sec,p,R,c,BR life now⟩),iA k,iA e]) []
def cQ {l:List Tk} {p R c life now:Int} (e:Int) (h1:1<=e) (h2:e<=20) (h:∀sec:List Int,(sec.length:Int)=8->zO 265 [zD yY l,iA p,iA R,iA c,iA life,zD yA sec,iA now] [] (.tup [zD yY [],iA 0,iA e]) []/\yV [zD yY l,iA p,iA R,iA c,iA life,zD yA sec,iA now] [] (.tup [zD yY [],iA 0,iA e]) []):zLe l p R c life now:=
 ⟨0,e,⟨zB,h2⟩,.inl Z,λh0=>by omega,λsec hs=>by
  have hd:GO l 0 e ⟨true,sec,p,R,c,BR life now⟩=[]:=by unfold GO;rw[zX2 zB]
  rw[hd]
  exact h sec hs⟩
theorem CX (l:List Tk) (hb:GJ l) (p R c life now:Int):zLe l p R c life now:=by
 have hn:=hb.n;have hll:=zA yY l;have c1:=TQ l;have r1:=KJ l;rw[<-zKh]at r1
 cases hv:MY l with
 | false=>
  rw[hv]at c1 r1
  exact cQ 1 zB zB λsec hs=>⟨by
   have hls:=zA yA sec;refine eM call265 λF hF=>?_
   refine zY c1 ?_
   exact zJ,by
   have hls:=zA yA sec
   exact yI⟩
 |true=>
 rw[hv]at c1 r1;have h8:(l.length:Int)=8:=by unfold MY at hv;rw[zYg,zX9]at hv;exact hv.1
 by_cases hn0:0<=now
 case neg=>
  exact cQ 1 zB zB λsec hs=>⟨by
   have hls:=zA yA sec;refine eM call265 λF hF=>?_
   refine zY c1 ?_
   exact zJ,by
   have hls:=zA yA sec
   exact yI⟩
 by_cases hn1:now<=1073741824
 case neg=>
  exact cQ 1 zB zB λsec hs=>⟨by
   have hls:=zA yA sec;refine eM call265 λF hF=>?_
   refine zY c1 ?_
   exact zJ,by
   have hls:=zA yA sec
   exact yI⟩
 have c2:=zAc l p;by_cases hp0:0<=p
 case neg=>
  rw[show dW l p=false by unfold dW;rw[zYb (λh=>hp0 h.1)];rfl]at c2
  exact cQ 12 zB zB λsec hs=>⟨by
   have hls:=zA yA sec;refine eM call265 λF hF=>?_
   refine yR (wZ c1 c2) ?_
   exact zJ,by
   have hls:=zA yA sec
   exact yI⟩
 by_cases hp1:p<l.length
 case neg=>
  rw[show dW l p=false by unfold dW;rw[zYb (λh=>hp1 h.2)];rfl]at c2
  exact cQ 12 zB zB λsec hs=>⟨by
   have hls:=zA yA sec;refine eM call265 λF hF=>?_
   refine yR (wZ c1 c2) ?_
   exact zJ,by
   have hls:=zA yA sec
   exact yI⟩
 have hy:=yN yY l p hp0 hp1;have hus:dW l p=(l.getD p.toNat default).used:=by unfold dW;rw[zYa ⟨hp0,hp1⟩,zYr]
 rw[hus]at c2;have c3:=EN R (l.getD p.toNat default).rights;have r3:=zEk R (l.getD p.toNat default).rights;have c4:=zCn (BR life now) (l.getD p.toNat default).til;have r4:=zIs (BR life now) (l.getD p.toNat default).til
 have hun:BR life now=if 0<life then now+life else 0:=rfl
 generalize BR life now=un at *;clear hus;generalize ht9:l.getD p.toNat default=t at *;obtain⟨u,t1,t2,t3,t4,t5⟩:=t;rw[show∀u,yY ⟨u,t1,t2,t3,t4,t5⟩= .agg [bA u,zD yA t1,iA t2,iA t3,iA t4,iA t5]from λ_=>rfl]at hy;dsimp only at*
 cases u with
 | false=>
  exact cQ 12 zB zB λsec hs=>⟨by
   have hls:=zA yA sec;refine eM call265 λF hF=>?_
   refine yR (wZ c1 c2) ?_
   exact zJ,by
   have hls:=zA yA sec
   exact yI⟩
 |true=>
 cases hw:wiF R t3 with
 | false=>
  rw[hw]at c3 r3
  exact cQ 8 zB zB λsec hs=>⟨by
   have hls:=zA yA sec;refine eM call265 λF hF=>?_
   refine yR (fQ c1 c2 c3) ?_
   exact zJ,by
   have hls:=zA yA sec
   exact yI⟩
 |true=>
 rw[hw]at c3 r3;by_cases hc0:0<=c
 case neg=>
  exact cQ 8 zB zB λsec hs=>⟨by
   have hls:=zA yA sec;refine eM call265 λF hF=>?_
   refine yR (fQ c1 c2 c3) ?_
   exact zJ,by
   have hls:=zA yA sec
   exact yI⟩
 by_cases hc1:c<=t4
 case neg=>
  exact cQ 8 zB zB λsec hs=>⟨by
   have hls:=zA yA sec;refine eM call265 λF hF=>?_
   refine yR (fQ c1 c2 c3) ?_
   exact zJ,by
   have hls:=zA yA sec
   exact yI⟩
 by_cases hl0:0<=life
 case neg=>
  exact cQ 8 zB zB λsec hs=>⟨by
   have hls:=zA yA sec;refine eM call265 λF hF=>?_
   refine yR (fQ c1 c2 c3) ?_
   exact zJ,by
   have hls:=zA yA sec
   exact yI⟩
 by_cases hl1:life<=600
 case neg=>
  exact cQ 8 zB zB λsec hs=>⟨by
   have hls:=zA yA sec;refine eM call265 λF hF=>?_
   refine yR (fQ c1 c2 c3) ?_
   exact zJ,by
   have hls:=zA yA sec
   exact yI⟩
 cases hla:laF un t5 with
 | true=>
  rw[hla]at c4 r4;by_cases h0:0<life
  ·rw[zX3 h0]at hun;subst hun
   exact cQ 8 zB zB λsec hs=>⟨by
    have hls:=zA yA sec;refine eM call265 λF hF=>?_
    refine yR (XU c1 c2 c3 c4) ?_
    exact zJ,by
    have hls:=zA yA sec
    exact yI⟩
  ·rw[zX2 h0]at hun;subst hun
   exact cQ 8 zB zB λsec hs=>⟨by
    have hls:=zA yA sec;refine eM call265 λF hF=>?_
    refine yR (XU c1 c2 c3 c4) ?_
    exact zJ,by
    have hls:=zA yA sec
    exact yI⟩
 |false=>
 rw[hla]at c4 r4;have hw9:wiF R (l.getD p.toNat default).rights=true/\(l.getD p.toNat default).used=true:=by rw[ht9];exact⟨hw,rfl⟩
 clear hla hw ht9;by_cases hex:∃k,k<l.length/\(l.getD k default).used=false
 case neg=>
  have hall:∀i,i<l.length->(l.getD i default).used=true:=λi hi=>by
   cases h:(l.getD i default).used with
   |true=>rfl
   |false=>exact absurd ⟨i,hi,h⟩ hex
  have c5:=zUp l hn hall
  rcases(show(0<life/\BR life now=now+life)∨(¬0<life/\BR life now=0) by unfold BR;by_cases h:0<life;exact .inl ⟨h,zX3 h⟩;exact .inr ⟨h,zX2 h⟩)with⟨h0,hu0⟩|⟨h0,hu0⟩
  ·rw[zX3 h0]at hun;subst hun
   exact cQ 10 zB zB λsec hs=>⟨by
    have hls:=zA yA sec;refine eM call265 λF hF=>?_
    refine yR (zt5 c1 c2 c3 c4 c5) ?_
    exact zJ,by
    have hls:=zA yA sec
    exact yI⟩
  ·rw[zX2 h0]at hun;subst hun
   exact cQ 10 zB zB λsec hs=>⟨by
    have hls:=zA yA sec;refine eM call265 λF hF=>?_
    refine yR (zt5 c1 c2 c3 c4 c5) ?_
    exact zJ,by
    have hls:=zA yA sec
    exact yI⟩
 obtain⟨k0,hk0,hu0⟩:=hex;obtain⟨k,_,⟨hk,hkf⟩,hkm⟩:=zUo (P:=λk=>k<l.length/\(l.getD k default).used=false) k0 ⟨hk0,hu0⟩
 have hbe:∀i,i<k->(l.getD i default).used=true:=λi hi=>by
  cases h:(l.getD i default).used with
  |true=>rfl
  |false=>exact absurd ⟨zB,h⟩ (hkm i hi)
 have c5:=zWt l hn k hk hbe hkf;have c6:=VA l hb;have r6:=zA2 l hb;refine⟨k,0,zB,.inr hk,λ_=>⟨hv,hp0,hp1,hkf,hw9⟩,λsec hs=>?_⟩;have hd:∀x:Tk,GO l k 0 x=l.set k x:=λx=>by unfold GO;rw[zX3 Z]
 rw[hd];have c7:=wK sec zB;have hls:=zA yA sec;have hyk:=zM yY l k hk;have eS:=zPz l k ⟨true,sec,p,R,c,BR life now⟩ (l.map yY).length hll;rw[eS];clear eS hd;rw[show BR life now=if 0<life then now+life else 0 from Z];by_cases h0:0<life
 ·rw[zX3 h0]at hun⊢;subst hun;refine⟨?_,?_⟩
  ·clear r1 r3 r4 r6 hbe hkm hkf;generalize l.getD k default=tk at *;refine eM call265 λF hF=>?_
   refine yR (zt7 c1 c2 c3 c4 c5 c6 c7) ?_;exact zJ
  ·clear c1 c2 c3 c4 c5 c6 c7;exact yI
 ·rw[zX2 h0]at hun⊢;subst hun;refine⟨?_,?_⟩
  ·clear r1 r3 r4 r6 hbe hkm hkf;generalize l.getD k default=tk at *;refine eM call265 λF hF=>?_
   refine yR (zt7 c1 c2 c3 c4 c5 c6 c7) ?_;exact zJ
  ·clear c1 c2 c3 c4 c5 c6 c7;exact yI
def zWu (l:List Tk) (s:Int) (h8:l.length=8):RP l s l.length=frB (λi=>ldF l 9 i s) l 8:=by
 unfold RP frB;apply yA3;intro j hj;have hj:=zYs.1 hj;unfold zFk;rw[zX3 hj,zQ3 h8];by_cases h:ldF l 9 j s=true
 ·rw[zX3 h,zX3 ⟨zB,h⟩]
 ·rw[zX2 h,zX2 (λk=>h k.2)]
def XJ:GJ []:=⟨by simp,λt h=>by simp at h⟩
def zUq {l:List Tk} (hb:GJ l) (s:Int) (n:Nat):GJ (RP l s n):=by
 refine⟨by rw[PP];exact hb.n,λt ht=>?_⟩
 have hg:∀j,(l.getD j default).sec.length<=1000000:=λj=>by
  by_cases h:j<l.length
  ·exact hb.s _ (by simp[List.getD,h])
  ·rw[show l.getD j default=default by simp[List.getD,h]];exact zYl _
 unfold RP at ht;rw[zZn]at ht;obtain⟨j,_,rfl⟩:=ht;split
 ·unfold zFk;split
  ·exact zYl _
  ·exact hg j
 ·exact hg j
def zUr {l:List Tk} {s:Int}:T0K l (RP l s l.length):=λh t ht hu=>by
 obtain⟨j,hj,rfl⟩:=zZn.1 ht;rw[zYs]at hj;rw[zX3 hj]at hu⊢;unfold zFk at hu⊢;split at hu
 ·cases hu
 ·rw[zX2 ‹_›];exact h _ (zX l j hj) hu
def CY (l:List Tk) (hb:GJ l) (s:Int):∃(o:List Tk) (e:Int),(0<=e/\e<=20)/\GJ o/\(e=0->o.length=l.length/\T0K l o)/\zO 238 [zD yY l,iA s] [] (.tup [zD yY o,iA e]) []/\yV [zD yY l,iA s] [] (.tup [zD yY o,iA e]) []:=by
 have hn:=hb.n;have hll:=zA yY l;have c1:=TQ l;have r1:=KJ l;rw[<-zKh]at r1
 cases hv:MY l with
 | false=>
  rw[hv]at c1 r1;refine⟨[],1,zB,XJ,λh=>absurd h zV,?_,?_⟩
  ·(refine eM call238 λF hF=>?_)
   refine zY c1 ?_;exact zJ
  ·exact yI
 |true=>
 rw[hv]at c1 r1;have h8:l.length=8:=by unfold MY at hv;rw[zYg,zX9]at hv;omega
 by_cases h1:1<=s
 case neg=>
  refine⟨[],8,zB,XJ,λh=>absurd h zV,?_,?_⟩
  ·(refine eM call238 λF hF=>?_)
   refine zY c1 ?_;exact zJ
  ·exact yI
 by_cases h2:s<8
 case neg=>
  refine⟨[],8,zB,XJ,λh=>absurd h zV,?_,?_⟩
  ·(refine eM call238 λF hF=>?_)
   refine zY c1 ?_;exact zJ
  ·exact yI
 have hy:=yN yY l s zB zB
 cases hu:(l.getD s.toNat default).used with
 | false=>
  rw[show yY (l.getD s.toNat default)=MG false (l.getD s.toNat default) by unfold yY MG;rw[hu]]at hy;unfold MG at hy;generalize l.getD s.toNat default=t at *;refine⟨[],12,zB,XJ,λh=>absurd h zV,?_,?_⟩
  ·(refine eM call238 λF hF=>?_)
   refine zY c1 ?_;exact zJ
  ·exact yI
 |true=>
  have cr:=zFl l hb hv s ⟨h1,h2⟩ h8 hu;have b1:=zO4 l s h8;rw[h8]at b1;have b2:=zO5 l hb (λi=>ldF l 9 i s) h8;rw[<-zWu l s h8]at b2;rw[show yY (l.getD s.toNat default)=MG true (l.getD s.toNat default) by unfold yY MG;rw[hu]]at hy;unfold MG at hy;refine⟨RP l s l.length,0,zB,zUq hb s _,λ_=>⟨PP l s _,zUr⟩,cr,?_⟩;clear cr hu;generalize RP l s l.length=l2 at *;generalize cF (λi=>ldF l 9 i s) 8=b at *;generalize l.getD s.toNat default=t at *;exact yI
def QS (r:Rg):xN:= .box [iA r.num,zD yA r.ag.sec,iA r.ag.rights,iA r.ag.cls,zD iA r.ag.lim,iA r.ag.req,iA r.ag.ses,iA r.ag.rate,iA r.ag.burst,zD yY r.tk,zD vY r.vh,iA r.bk.level,iA r.bk.rate,iA r.bk.burst]
def rgT (r:Rg) (l:List Tk):Rg:=⟨r.num,r.ag,l,r.vh,r.bk⟩
def zQ9 (m:Ms) (a:Int) (ha:m.args=[a]):zO 239 [yF m] [] (yF ⟨14,[],[m.kind,a],[]⟩) []:=by
 obtain⟨k,t,ar,d⟩:=m;dsimp only at ha⊢;subst ha;have hl1:([a].map iA).length=1:=rfl;refine eM call239 λF hF=>?_
 refine WL ?_;exact zJ
end Av
end Go.Proofs.YteajjdidebfcjaaGreat
