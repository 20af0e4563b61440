/- Part 11. -/
import Derived.Test.YteajjdidebfcjaaGreatU10
import Derived.Scope
namespace Go.Proofs.YteajjdidebfcjaaGreat
namespace Av
open Tryz
set_option linter.all false
set_option maxRecDepth 4000
set_option maxHeartbeats 4000000
def avL (a:Ag):Bool:=a.lim.all λn=>jV n 0 8
def avF (a:Ag):Bool:=decide ((a.sec.length:Int)=8/\(a.lim.length:Int)=4)&&(avL a&&(jV a.rights 0 63&&(jV a.cls 0 3&&(jV a.req 0 4&&(jV a.ses 1 2&&(jV a.burst 0 1000&&jV a.rate 0 a.burst))))))
def zXp {a:Ag} (h:∀s:Nat,s<a.lim.length->jV (a.lim.getD s default) 0 8=true):avL a=true:=by
 unfold avL;rw[yAu];intro x hx;obtain⟨i,hi,rfl⟩:=yCp hx;have:=h i hi;simpa [List.getD,hi]using this
def zXq {a:Ag} {i:Nat} (hi:i<a.lim.length) (h:jV (a.lim.getD i default) 0 8=false):avL a=false:=by
 unfold avL;rw[yDd];exact⟨a.lim.getD i default,by simp[List.getD,hi],by rw[h];decide⟩
def zF3 (a:Ag):zN 144 [wK a] [] (bA (avF a)) []:=by
 have hs:=zA yA a.sec;have hl:=zA iA a.lim;have c1:=vV a.rights 0 63;have c2:=vV a.cls 0 3;have c3:=vV a.req 0 4;have c4:=vV a.ses 1 2;have c5:=vV a.burst 0 1000;have c6:=vV a.rate 0 a.burst;by_cases h1:(a.sec.length:Int)=8/\(a.lim.length:Int)=4
 case neg=>
  have e:avF a=false:=by unfold avF;rw[yAl h1];rfl
  rw[e];by_cases g1:(a.sec.length:Int)=8
  ·(refine eM call144 λF hF=>?_)
   refine WW ?_;exact zJ
  ·(refine eM call144 λF hF=>?_)
   refine WW ?_;exact zJ
 obtain⟨h1,h2⟩:=h1
 have e:avF a=(avL a&&(jV a.rights 0 63&&(jV a.cls 0 3&&(jV a.req 0 4&&(jV a.ses 1 2&&(jV a.burst 0 1000&&jV a.rate 0 a.burst)))))):=by
  unfold avF;rw[yAj ⟨h1,h2⟩,yA3]
 rw[e];refine eM call144 λF hF=>?_
 refine WW ?_;refine xS (a.lim.length) [1] [1] [1,16,17] [18,1,16,17] Z (λi T U zs=>(∀s:Nat,s<i->jV (a.lim.getD s default) 0 8=true)/\zs=⟨(18,iA i)::T,U⟩) ?_;(conv=>whnf);refine⟨?_,?_,?_⟩
 ·exact⟨λs hs=>absurd hs (yC3 _),rfl⟩
 ·rintro i st hi ⟨hp,rfl⟩;have hy:=zM iA a.lim i hi;have c:=vV (a.lim.getD i default) 0 8
  cases hq:jV (a.lim.getD i default) 0 8 with
  | true=>
   rw[hq]at c
   have hp2:∀s:Nat,s<i+1->jV (a.lim.getD s default) 0 8=true:=λs hs=>by
    by_cases hsi:s=i
    ·subst hsi;assumption
    ·exact hp s zB
   clear hq hp;generalize hx:a.lim.getD i default=x at *;clear hx;refine zV c ?_;exact⟨hp2,rfl⟩
  |false=>
   rw[hq]at c;rw[zXq hi hq,yB4];generalize a.lim.getD i default=x at *;refine zV c ?_;exact zJ
 ·rintro st ⟨hp,rfl⟩;rw[zXp hp,yA3];clear hp;generalize jV a.rights 0 63=q1 at *;generalize jV a.cls 0 3=q2 at *;generalize jV a.req 0 4=q3 at *;generalize jV a.ses 1 2=q4 at *;generalize jV a.burst 0 1000=q5 at *;generalize jV a.rate 0 a.burst=q6 at *;cases q1
  ·(refine zV c1 ?_)
   exact zJ
  cases q2
  ·(refine yQ (wV c1 c2) ?_)
   exact zJ
  cases q3
  ·(refine yQ (gG c1 c2 c3) ?_)
   exact zJ
  cases q4
  ·(refine yQ (ZB c1 c2 c3 c4) ?_)
   exact zJ
  cases q5
  ·(refine yQ (zt5 c1 c2 c3 c4 c5) ?_)
   exact zJ
  ·(refine yQ (zt6 c1 c2 c3 c4 c5 c6) ?_)
   exact zJ
def TR (l:List Vh) (hn:l.length<=1000000):zN 263 [zC vQ l] [] (bA (FF l)) []:=by
 have hl:=zA vQ l;by_cases h8:(l.length:Int)<=8
 case neg=>
  have e:FF l=false:=by unfold FF;rw[yAl h8,yD5]
  rw[e];refine eM call263 λF hF=>?_
  refine WW ?_;exact zJ
 refine eM call263 λF hF=>?_
 refine WW ?_;refine xS (l.length) [] [] [0,8,9] [10,0,8,9] Z (λi T U zs=>(∀s:Nat,s<i->RJ l s=true)/\zs=⟨(10,iA i)::T,U⟩) ?_;(conv=>whnf);refine⟨?_,?_,?_⟩
 ·exact⟨λs hs=>absurd hs (yC3 _),rfl⟩
 ·rintro i st hi ⟨hp,rfl⟩
  have next:RJ l i=true->∀s:Nat,s<i+1->RJ l s=true:=λh s hs=>by
   by_cases hsi:s=i
   ·subst hsi;exact h
   ·exact hp s zB
  have stop:=λh=>zUc (l:=l) hi h
  have hy:=zM vQ l i hi;have htok:RJ l i=_:=rfl
  conv at htok=>rhs;unfold RJ
  by_cases hi0:0<i
  ·have hyp:=yN vQ l ((i:Int)-1) zB zB;rw[show((i:Int)-1).toNat=i-1 by omega]at hyp;have hyq:(l.map vQ)[((i:Int)-1).toNat]? =some (vQ (l.getD (i-1) default)):=by rw[show((i:Int)-1).toNat=i-1 by omega];exact hyp
   clear hyp;generalize l.getD i default=t at *;generalize l.getD (i-1) default=p at *;generalize RJ l i=tk at *;by_cases h1:0<=t.id/\t.id<=4294967295/\0<=t.cls/\t.cls<=3/\p.id<t.id
   ·obtain⟨h1,h2,h3,h4,h5⟩:=h1;rw[yAj ⟨h1,h2,h3,h4,λ_=>h5⟩]at htok;refine WW ?_;exact⟨next htok,rfl⟩
   ·rw[yAl (λh=>h1 ⟨h.1,h.2.1,h.2.2.1,h.2.2.2.1,h.2.2.2.2 hi0⟩)]at htok;rw[stop htok]
    by_cases g1:0<=t.id<;>by_cases g2:t.id<=4294967295<;>by_cases g3:0<=t.cls<;>by_cases g4:t.cls<=3<;>by_cases g5:p.id<t.id<;>first|(exfalso;exact h1 ⟨g1,g2,g3,g4,g5⟩)|(exfalso;omega;done)|(clear h1;((refine WW ?_));exact zJ)
  ·obtain rfl:i=0:=by omega
   generalize l.getD 0 default=t at *;generalize RJ l 0=tk at *;by_cases h1:0<=t.id/\t.id<=4294967295/\0<=t.cls/\t.cls<=3
   ·obtain⟨h1,h2,h3,h4⟩:=h1;rw[yAj ⟨h1,h2,h3,h4,λh=>absurd h hi0⟩]at htok;refine WW ?_;exact⟨next htok,rfl⟩
   ·rw[yAl (λh=>h1 ⟨h.1,h.2.1,h.2.2.1,h.2.2.2.1⟩)]at htok;rw[stop htok]
    by_cases g1:0<=t.id<;>by_cases g2:t.id<=4294967295<;>by_cases g3:0<=t.cls<;>by_cases g4:t.cls<=3<;>first|(exfalso;exact h1 ⟨g1,g2,g3,g4⟩)|(exfalso;omega;done)|(clear h1;((refine WW ?_));exact zJ)
 ·rintro st ⟨hp,rfl⟩;have e:((List.range l.length).all λi=>RJ l i)=true:=yAu.2 λi hi=>hp i (yA2.1 hi)
  unfold FF;rw[e,yA3];rw[yAj h8];refine WW ?_;exact zJ
def gvF (r:Rg):Bool:=decide (0<=r.num/\r.num<4)&&(avF r.ag&&(LK r.tk&&(FF r.vh&&(bvF r.bk&&decide (r.bk.rate=r.ag.rate/\r.bk.burst=r.ag.burst)))))
def YC (r:Rg) (hv:r.vh.length<=1000000):zN 235 [qG r] [] (bA (gvF r)) []:=by
 have c1:=zF3 r.ag;have c2:=UK r.tk;have c3:=TR r.vh hv;have c4:=zIu r.bk;unfold gvF;generalize avF r.ag=q1 at *;generalize LK r.tk=q2 at *;generalize FF r.vh=q3 at *;generalize bvF r.bk=q4 at *;by_cases h1:0<=r.num
 case neg=>
  rw[yAl (λh=>h1 h.1)];refine eM call235 λF hF=>?_
  refine WW ?_;exact zJ
 by_cases h2:r.num<4
 case neg=>
  rw[yAl (λh=>h2 h.2)];refine eM call235 λF hF=>?_
  refine WW ?_;exact zJ
 rw[yAj ⟨h1,h2⟩]
 cases q1 with
 |false=>
  refine eM call235 λF hF=>?_
  refine zV c1 ?_;exact zJ
 |true=>
 cases q2 with
 |false=>
  refine eM call235 λF hF=>?_
  refine yQ (wV c1 c2) ?_;exact zJ
 |true=>
 cases q3 with
 |false=>
  refine eM call235 λF hF=>?_
  refine yQ (gG c1 c2 c3) ?_;exact zJ
 |true=>
 cases q4 with
 |false=>
  refine eM call235 λF hF=>?_
  refine yQ (ZB c1 c2 c3 c4) ?_;exact zJ
 |true=>
 by_cases h3:r.bk.rate=r.ag.rate
 case neg=>
  rw[yAl (λh=>h3 h.1)];refine eM call235 λF hF=>?_
  refine yQ (ZB c1 c2 c3 c4) ?_;exact zJ
 by_cases h4:r.bk.burst=r.ag.burst
 ·rw[yAj ⟨h3,h4⟩];refine eM call235 λF hF=>?_
  refine yQ (ZB c1 c2 c3 c4) ?_
  all_goals (first|exact zJ|exact AT)
 ·rw[yAl (λh=>h4 h.2)];refine eM call235 λF hF=>?_
  refine yQ (ZB c1 c2 c3 c4) ?_
  all_goals (first|exact zJ|exact AT)
def bQ (r:Rg) (hv:r.vh.length<=1000000):yY [qG r] [] (bA (gvF r)) []:=yF
def MD (l:List Vh) (id:Int) (hn:l.length<=1000000) (k:Nat) (k1:k<=l.length) (k2:∀i,i<k->(l.getD i default).id<id) (k3:k<l.length->¬(l.getD k default).id<id):zN 269 [zC vQ l,iA id] [] (iA k) []:=by
 have hll:=zA vQ l;refine eM call269 λF hF=>?_
 refine WW ?_;refine xS (l.length+1) [] [] [0,1] [5,0,1] Z (λi T U zs=>(i<=k)/\zs=⟨(5,iA i)::T,U⟩) ?_;(conv=>whnf);refine⟨?_,?_,?_⟩
 ·exact⟨yAt _,rfl⟩
 ·rintro i st hi ⟨hik,rfl⟩;by_cases hlt:i<k
  ·have hy:=zM vQ l i zB;have hh:=k2 i hlt;generalize l.getD i default=x at *;refine WW ?_;exact⟨zB,rfl⟩
  ·obtain rfl:i=k:=by omega
   by_cases hkl:i<l.length
   ·have hy:=zM vQ l i hkl;have hh:=k3 hkl;generalize l.getD i default=x at *;refine WW ?_;exact zJ
   ·(refine WW ?_)
    exact zJ
 ·rintro st ⟨hik,rfl⟩;exfalso;omega
def CO (l:List Vh) (c:Int) (hn:l.length<=1000000):zN 297 [zC vQ l,iA c] [] (iA (jH l c)) []:=by
 have hl:=zA vQ l;refine eM call297 λF hF=>?_
 refine WW ?_;refine yM (l) [] [] [1,8,9] [5,10,1,8,9] Z (λi pre T U=>⟨(5,iA (jH pre c))::(10,iA i)::T,U⟩) ?_;(conv=>whnf);refine⟨by rfl,?_,?_⟩
 ·intro i pre x post hx hi;have hy:=xG vQ hx hi;have hlt:=yP hx hi;have hle:jH pre c<=i:=by rw[<-hi];exact yCo _ _
  have e:jH (pre++[x]) c=jH pre c+(if x.cls=c then 1 else 0):=by
   unfold jH;rw[yDx,yAf];by_cases h:x.cls=c
   ·simp[h]
   ·simp[h]
  clear hx;by_cases h:x.cls=c
  ·rw[yAd h]at e;rw[e];generalize jH pre c=m at *;refine WW ?_;rfl
  ·rw[yAc h,yDm]at e;rw[e];generalize jH pre c=m at *;refine WW ?_;rfl
 ·(refine WW ?_)
  exact zJ
def CP (a:Ag) (c:Int) (h0:0<=c) (h1:c<a.lim.length):zN 298 [wK a,iA c] [] (iA (a.lim.getD c.toNat default)) []:=by
 have hla:=zA iA a.lim;have hy:=yN iA a.lim c h0 h1;refine eM call298 λF hF=>?_
 refine WW ?_;exact zJ
def agC (a:Ag) (c:Int):Ag:=⟨a.sec,a.rights,c,a.lim,a.req,a.ses,a.rate,a.burst⟩
theorem zKd {l:List Vh} (hv:FF l=true):∀j,j<l.length->∀i,i<j->(l.getD i default).id<(l.getD j default).id
 |0,_,i,hi=>absurd hi (yC3 _)
 |j+1,hj,i,hi=>by
  have h1:=((zR9.1 hv).2 (j+1) hj).2 zB;rw[Nat.add_sub_cancel]at h1;by_cases h:i=j
  ·subst h;exact h1
  ·have:=zKd hv j zB i zB;omega
def RV {l:List Vh} {id:Int} (hv:FF l=true) {k:Nat} (k1:k<=l.length) (k2:∀i,i<k->(l.getD i default).id<id) (k3:k<l.length->¬(l.getD k default).id<id):RI l id=true↔k<l.length/\(l.getD k default).id=id:=by
 constructor
 ·intro h;obtain⟨x,hx,he⟩:=yB8.1 h;obtain⟨i,hi,rfl⟩:=yCp hx;rw[yBw]at he;have hg:l.getD i default=l[i]:=by simp[List.getD,hi]
  rw[<-hg]at he;by_cases h1:i<k
  ·have:=k2 i h1;omega
  ·have hk:k<l.length:=by omega
   by_cases h2:i=k
   ·subst h2;exact⟨hk,he⟩
   ·have h3:=zKd hv i hi k zB;have h4:=k3 hk;omega
 ·rintro⟨hk,he⟩;exact yB8.2 ⟨l.getD k default,by simp[List.getD,hk],by rw[yBw];exact he⟩
theorem CQ (l:List Vh) (hn:l.length<=1000000) (a:Ag) (hlim:(a.lim.length:Int)=4) (hc3:a.cls<=3) (v:Vh) (hv:FF l=true) (h1:0<=v.id) (h2:v.id<=4294967295) (h3:0<=v.cls) (h4:v.cls<=a.cls) (htw:RI l v.id=false) (h5:(jH l v.cls:Int)<a.lim.getD v.cls.toNat default) (h6:l.length<8)
  (k:Nat) (k1:k<=l.length) (k2:∀i,i<k->(l.getD i default).id<v.id) (k3:k<l.length->¬(l.getD k default).id<v.id):zN 268 [zC vQ l,wK a,vQ v] [] (.tup [zC vQ (l.take k++v::l.drop k),iA 0]) []:=by
 have hll:=zA vQ l;have hla:=zA iA a.lim;have c2:=TR l hn;have c3:=MD l v.id hn k k1 k2 k3;have c4:=CO l v.cls hn;have c5:=CP a v.cls h3 zB
 have hne:k<l.length->(l.getD k default).id≠v.id:=λhk e=>by
  rw[(RV hv k1 k2 k3).2 ⟨hk,e⟩]at htw;cases htw
 rw[hv]at c2;clear hv htw k2 k3
 have hcn:(jH l v.cls:Int)<=1000000:=by
  have:jH l v.cls<=l.length:=yCo _ _;omega
 generalize (jH l v.cls:Int)=cn at *;generalize a.lim.getD v.cls.toNat default=lim at *;have hlK:((l.take (k:Int).toNat).map vQ).length=k:=by simp;omega
 have hlD:((l.drop (k:Int).toNat).map vQ).length=l.length-k:=by simp
 obtain⟨N,hN⟩:∃N,N=l.length+1:=⟨_,rfl⟩;have hnx:((l.map vQ).length:Int)+1=(N:Int):=by omega
 obtain⟨z1,hz1,hz1l⟩:∃z1,z1=(l.take k).map vQ++List.replicate (l.length+1-k) (AV.agg [.s (.int .i64 0),.s (.int .i64 0)])/\z1.length=l.length+1:=⟨_,rfl,by simp;omega⟩
 have hcp1:(List.replicate N (AV.agg [.s (.int .i64 0),.s (.int .i64 0)])).take 0++(l.take (k:Int).toNat).map vQ++(List.replicate N (AV.agg [.s (.int .i64 0),.s (.int .i64 0)])).drop (0+((l.take (k:Int).toNat).map vQ).length)=z1:=by
  rw[hz1,hlK,hN];simp
 have hat:z1[(k:Int).toNat]? =some (AV.agg [.s (.int .i64 0),.s (.int .i64 0)]):=by
  rw[hz1,yA4 wF];rw[yCb,yAd wF]
 have hcp2:(z1.set (k:Int).toNat (.agg [iA v.id,iA v.cls])).take ((k:Int)+1).toNat++(l.drop (k:Int).toNat).map vQ++(z1.set (k:Int).toNat (.agg [iA v.id,iA v.cls])).drop (((k:Int)+1).toNat+((l.drop (k:Int).toNat).map vQ).length)=(l.take k++v::l.drop k).map vQ:=by
  have e1:z1.set (k:Int).toNat (.agg [iA v.id,iA v.cls])=(l.take k++[v]).map vQ++List.replicate (l.length-k) (AV.agg [.s (.int .i64 0),.s (.int .i64 0)]):=by
   rw[hz1,yDk _ _ wF,show l.length+1-k=(l.length-k)+1 by omega,yEc];rw[show(k:Int).toNat-((l.take k).map vQ).length=0 by simp;omega];simp[vQ]
  have hl1:((l.take k++[v]).map vQ).length=k+1:=by simp;omega
  have e2:((l.take k++[v]).map vQ++List.replicate (l.length-k) (AV.agg [.s (.int .i64 0),.s (.int .i64 0)])).drop (k+1+(l.length-k))=[]:=yEv (by rw[yAf,hl1,yB2];exact yAg _);rw[e1,hlD,show((k:Int)+1).toNat=k+1 by omega,yC7 zB,yAo zB,e2];simp
 clear hz1;obtain⟨z3,hz3⟩:∃z3,z3=(l.take k++v::l.drop k).map vQ:=⟨_,rfl⟩;have hz3l:z3.length=l.length+1:=by rw[hz3];simp;omega
 rw[<-hz3]at hcp2;rw[show zC vQ (l.take k++v::l.drop k)= .sl false z3 by rw[hz3];rfl];clear hz3;rw[show vQ v= .agg [iA v.id,iA v.cls]from Z]at *; by_cases hk:k<l.length
 ·have hy:=zM vQ l k hk;have hne:=hne hk;generalize l.getD k default=x at *;refine eM call268 λF hF=>?_
  (have zc1:=c2;have zc2:=c3;have zc3:=c4;have zc4:=c5;(repeat' (first|refine uP ?_|apply xM|apply xZ|intro hc|(refine zE ?_;first|(refine gP ?_;refine zDe tok Z Z Z Z Z Z Z Z Z Z Z Z hnx zB zB Z Z Z ?_)|(refine zDy tok Z Z Z Z Z Z Z (yC _ _ (λ_=>rfl)) Z zB (by first|exact hcp1|exact hcp2) Z ?_)|(refine uR ?_;refine fB tok Z Z Z Z Z Z Z zB zB Z ?_))|fail))<;>clear zc1 zc2 zc3 zc4)
  exact zH [] Z Z (yBa (λz=>AV.tup [AV.sl false z,iA 0]) zSo) Z
 ·clear hne;refine eM call268 λF hF=>?_
  (have zc1:=c2;have zc2:=c3;have zc3:=c4;have zc4:=c5;(repeat' (first|refine uP ?_|apply xM|apply xZ|intro hc|(refine zE ?_;first|(refine gP ?_;refine zDe tok Z Z Z Z Z Z Z Z Z Z Z Z hnx zB zB Z Z Z ?_)|(refine zDy tok Z Z Z Z Z Z Z (yC _ _ (λ_=>rfl)) Z zB (by first|exact hcp1|exact hcp2) Z ?_)|(refine uR ?_;refine fB tok Z Z Z Z Z Z Z zB zB Z ?_))|fail))<;>clear zc1 zc2 zc3 zc4)
  exact zH [] Z Z (yBa (λz=>AV.tup [AV.sl false z,iA 0]) zSo) Z
theorem LV (l:List Vh) (hn:l.length<=1000000) (a:Ag) (most:Int) (hlim:(a.lim.length:Int)=4) (hc3:a.cls<=3) (v:Vh):∃(l':List Vh) (e:Int),((0<=e/\e<=100)/\(e≠0->l'=[]))/\(l'.length<=l.length+1/\l'.length<=8)/\zN 268 [zC vQ l,wK (agC a (min a.cls most)),vQ v] [] (.tup [zC vQ l',iA e]) []/\yY [zC vQ l,wK a,vQ v,iA most] [] (.tup [zC vQ l',iA e]) []:=by
 have hll:=zA vQ l;have hla:=zA iA a.lim;have p2:=TR l hn;have c1:=zO0 l v.id hn;have c2:=zE9 l hn;have c3:=zH9 l v.cls hn;have p4:=CO l v.cls hn;have hcm:min a.cls most<=3:=by omega
 have hcl:min a.cls most<=a.cls:=by omega
 obtain⟨k,k1,k2,k3⟩:=EE l v.id;have hpl:=λhv=>RV (l:=l) (id:=v.id) hv k1 k2 k3
 have p3:=MD l v.id hn k k1 k2 k3;have hreg:=λhv h1 h2 h3 h4 htw h5 h6=>CQ l hn (agC a (min a.cls most)) hlim hcm v hv h1 h2 h3 h4 htw h5 h6 k k1 k2 k3
 have hcn:jH l v.cls<=1000000:=by
  have:jH l v.cls<=l.length:=yCo _ _;omega
 have p5:=λh3 h4=>CP (agC a (min a.cls most)) v.cls h3 h4
 rw[show(agC a (min a.cls most)).lim=a.lim from Z]at hreg p5;rw[show(agC a (min a.cls most)).cls=min a.cls most from Z]at hreg;have hAG:wK (agC a (min a.cls most))= .agg [zC yA a.sec,iA a.rights,iA (min a.cls most),zC iA a.lim,iA a.req,iA a.ses,iA a.rate,iA a.burst]:=rfl;rw[hAG]at *; generalize hf:bF l v.id=fv at *;generalize htw:RI l v.id=tw at *;generalize hok:FF l=ok at *;generalize jH l v.cls=cn at *;cases ok
 ·refine⟨[],1,⟨zB,λ_=>rfl⟩,⟨yAt _,yAt _⟩,?_,?_⟩
  ·clear hpl hreg p5;refine eM call268 λF hF=>?_
   refine zV p2 ?_;exact zJ
  ·clear hpl hreg p5;exact yF
 by_cases h1:0<=v.id/\v.id<=4294967295
 case neg=>
  refine⟨[],8,⟨zB,λ_=>rfl⟩,⟨yAt _,yAt _⟩,?_,?_⟩
  ·clear hpl hreg p5
   by_cases g1:0<=v.id<;>((refine eM call268 λF hF=>?_);((refine zV p2 ?_));exact zJ)
  ·clear hpl hreg p5
   by_cases g1:0<=v.id<;>(exact yF)
 obtain⟨h1,h2⟩:=h1;generalize hmm:min a.cls most=mm at *;by_cases h3:0<=v.cls/\v.cls<=mm
 case neg=>
  refine⟨[],17,⟨zB,λ_=>rfl⟩,⟨yAt _,yAt _⟩,?_,?_⟩
  ·clear hpl hreg p5
   by_cases g1:0<=v.cls<;>((refine eM call268 λF hF=>?_);((refine zV p2 ?_));exact zJ)
  ·clear hpl hreg p5;subst hmm
   by_cases g1:0<=v.cls<;>(exact yF)
 obtain⟨h3,h4⟩:=h3;have hpl:=hpl Z;have hp5:=p5 h3 zB;clear p5;cases tw
 case true=>
  obtain⟨hk,hid⟩:=hpl.1 Z;have hy:=zM vQ l k hk;refine⟨[],11,⟨zB,λ_=>rfl⟩,⟨yAt _,yAt _⟩,?_,?_⟩
  ·clear hreg hpl k2 k3;generalize l.getD k default=x at *;refine eM call268 λF hF=>?_
   refine yQ (wV p2 p3) ?_;exact zJ
  ·clear hpl hreg;subst hmm;exact yF
 have hne:∀hk:k<l.length,(l.getD k default).id≠v.id:=λhk e=>by
  have:=hpl.2 ⟨hk,e⟩;cases this
 clear hpl;have hyl:=yN iA a.lim v.cls h3 zB;have hreg:=hreg Z h1 h2 h3 h4 Z;generalize a.lim.getD v.cls.toNat default=lim at *;by_cases h5:lim<=cn
 ·refine⟨[],14,⟨zB,λ_=>rfl⟩,⟨yAt _,yAt _⟩,?_,?_⟩
  ·clear hreg k2 k3;by_cases hk:k<l.length
   ·have hy:=zM vQ l k hk;have hne:=hne hk;generalize l.getD k default=x at *;refine eM call268 λF hF=>?_
    refine yQ (ZB p2 p3 p4 hp5) ?_;exact zJ
   ·clear hne;refine eM call268 λF hF=>?_
    refine yQ (ZB p2 p3 p4 hp5) ?_;exact zJ
  ·clear hreg hne k2 k3;subst hmm;exact yF
 by_cases h6:l.length<8
 case neg=>
  refine⟨[],10,⟨zB,λ_=>rfl⟩,⟨yAt _,yAt _⟩,?_,?_⟩
  ·clear hreg k2 k3;by_cases hk:k<l.length
   ·have hy:=zM vQ l k hk;have hne:=hne hk;generalize l.getD k default=x at *;refine eM call268 λF hF=>?_
    refine yQ (ZB p2 p3 p4 hp5) ?_;exact zJ
   ·clear hne;refine eM call268 λF hF=>?_
    refine yQ (ZB p2 p3 p4 hp5) ?_;exact zJ
  ·clear hreg hne k2 k3;subst hmm;exact yF
 refine⟨l.take k++v::l.drop k,0,⟨zB,λh=>absurd Z h⟩,⟨by simp;omega,by simp;omega⟩,hreg zB h6,?_⟩;clear hok htw hreg hne p2 p3 p4 hp5;subst hmm;exact yF
section
variable {b:Frame} {a:Act} {k:List Item} {cs:List Frame} {w:World} {P:Program}
def jU {c:Code}:step P (lone (b.atR a (.code (.scope c)::k)) cs w)= .next (lone (b.atR a (.code c:: .inScope c::k)) cs w):=
 step_lone_go (by simp[stepG,stepG.exec,Frame.atR])
def LW {c:Code}:step P (lone (b.atR a (.inScope c::k)) cs w)= .next (lone (b.atR a k) cs w):=
 step_lone_go (by simp[stepG,stepG.exec,Frame.atR])
end
section
variable {F:Fence} {n:Nat} {P:Program} {Q:Exit->Act->World->Prop} {a:Act} {w:World}
def zBm {c:Code} (h:c.wpIn F n P (Exit.noGoto Q) a w):(Code.scope c).wpIn F n P Q a w:=by
 intro b k cs hro hb hr;have h0:(lone (b.atR a (.code (.scope c)::k)) cs w).fenced P F:=fenced_calm hb hr Z;obtain⟨e,a₁,w₁,hq,harr⟩:=h b (.inScope c::k) cs hro hb hr
 cases e with
 |normal=>exact⟨.normal,a₁,w₁,hq,.head h0 jU (StepsIn.trans harr (.one (fenced_calm hb hr Z) LW))⟩
 | exit id=>
  have hx:exitTo id (.inScope c::k)=exitTo id k:=by simp[exitTo]
  exact⟨.exit id,a₁,w₁,hq,λk' hk=> .head h0 jU (harr.1 k' (by rw[hx];exact hk)),
   λhr' hk=>let ⟨k₁,h1,h2⟩:=harr.2 hr' (by rw[hx];exact hk);⟨k₁,h1,.head h0 jU h2⟩⟩
 |goto l=>exact hq.elim
 |ret=>exact⟨_,a₁,w₁,hq,.of_steps (.one h0 jU) harr⟩
 |panic ch=>exact⟨_,a₁,w₁,hq,.of_steps (.one h0 jU) harr⟩
 |outgrown=>exact⟨_,a₁,w₁,hq,.of_steps (.one h0 jU) harr⟩
end
section
variable {P:Program} {K0:List Nat} {F:Fr K0} {m:Nat} {Q:Exit->St->Prop} {st:St}
def noG (Q:Exit->St->Prop):Exit->St->Prop
 | .goto _,_=>False
 |e,s=>Q e s
def vK {c:Code} (h:vZ P F m c st (noG Q)):vZ P F m (.scope c) st Q:=⟨λa w H=>
 zBm (Code.wpIn_mono (λe a' w' ⟨s,h1,h2⟩=>by
  cases e with
  |goto l=>exact h1.elim
  |_=>exact⟨s,h1,h2⟩) (h.run a w H))⟩
def XJ {c:Code} (K ts:List Nat) (st0 st1 st2:St) (hK:K0.all (K.contains ·)=true) (he:restr K ts st=st0)
  (h0:vZ P F m c st0 (λe s=>match e with| .normal=>restr K ts s=st1|e=>Q e s))
  (h1:vZ P F m c st1 (λe s=>match e with| .normal=>restr K ts s=st2|e=>Q e s))
  (h2:vZ P F m c st2 (λe s=>match e with| .normal=>False|e=>Q e s)):vZ P F m (.loop c) st Q:=by
 refine vB (λn s=>(n=2/\s=st0)∨(n=1/\s=st1)∨(n=0/\s=st2)) 2 K ts hK (.inl ⟨rfl,he⟩) ?_;rintro n s (⟨rfl,rfl⟩|⟨rfl,rfl⟩|⟨rfl,rfl⟩)
 ·refine⟨λa w H=>Code.wpIn_mono (λe a' w' ⟨s,q1,q2⟩=>?_) (h0.run a w H)⟩
  cases e with
  |normal=>exact⟨s,⟨1,zB,.inr (.inl ⟨rfl,q1⟩)⟩,q2⟩
  |_=>exact⟨s,q1,q2⟩
 ·refine⟨λa w H=>Code.wpIn_mono (λe a' w' ⟨s,q1,q2⟩=>?_) (h1.run a w H)⟩
  cases e with
  |normal=>exact⟨s,⟨0,zB,.inr (.inr ⟨rfl,q1⟩)⟩,q2⟩
  |_=>exact⟨s,q1,q2⟩
 ·refine⟨λa w H=>Code.wpIn_mono (λe a' w' ⟨s,q1,q2⟩=>?_) (h2.run a w H)⟩
  cases e with
  |normal=>exact q1.elim
  |_=>exact⟨s,q1,q2⟩
def vL {l:Nat} (h:Q .normal st):vZ P F m (.label l) st Q:=⟨λ_ _ H=>wpIn_label ⟨st,h,H⟩⟩
end
def zVa (N:Nat) (h1:1<=N) (h2:N<=1000000):zN 299 [.s (.slice none 0 0),iA N] [] (.ref 1001 0 0) [(1001,.arr 2 [] true)]:=by
 have hnx:(N:Int)-(0-0)=(N:Int):=by omega
 have hn3:(N:Int)-(0-((0:Nat):Int))=(N:Int):=by omega
 refine eM call299 λF hF=>?_
 (repeat' (first|refine WS ?_|refine SG (I2 (λhc=>?_) λhc=>?_)|refine SG λhc=>?_|(refine zE ?_;first|(refine yJ (MA tok Z Z Z) Z ?_)|(refine uR ?_;refine yJ (zBi tok Z Z Z Z Z) Z ?_)|(refine zQa tok Z Z Z Z Z Z Z Z Z Z Z Z Z Z (by first|exact hnx|exact hn3) h1 zB Z Z Z ?_)|(refine uR ?_;refine zDz tok Z Z Z Z Z Z Z Z ?_))|(first|refine zFy 0 22 1001 Z Z Z ?_|first|refine SR ?_|refine SK (I2 (λhc=>?_) λhc=>?_)|refine SK λhc=>?_|fail)|fail))
 exact zK [1001] Z Z Z Z
def zQc:zN 299 [.s (.slice none 0 0),iA 0] [] (.s (.slice none 0 0)) []:=by
 refine eM call299 λF hF=>?_
 (repeat' (first|refine uP ?_|apply xM|apply xZ|intro hc|(refine zE ?_;first|(refine yJ (MA tok Z Z Z) Z ?_))|fail))
 exact zK [] Z Z Z Z
theorem zKe (a b:List Vh) (ha:a.length<=1000) (hb:b.length<=1000):zN 270 [.sl false [zC vQ a,zC vQ b]] [] (zC vQ (a++b)) []:=by
 have hla:=zA vQ a;have hlb:=zA vQ b;rw[show zC vQ (a++b)= .sl false (a.map vQ++b.map vQ) by unfold zC;rw[yAn]];have hsa:zC vQ a= .sl false (a.map vQ):=rfl;have hsb:zC vQ b= .sl false (b.map vQ):=rfl;rw[hsa,hsb];have hhA:∀y,(a.map vQ)[0]? =some y->y.cells.length=2:=yC _ _ (λ_=>rfl);have hhB:∀y,(b.map vQ)[0]? =some y->y.cells.length=2:=yC _ _ (λ_=>rfl);generalize a.map vQ=A at *;generalize b.map vQ=B at *;clear hsa hsb;have hyA:([AV.sl false A,.sl false B]:List AV)[(0:Int).toNat]? =some (.sl false A):=rfl;have hyB:([AV.sl false A,.sl false B]:List AV)[(0+1:Int).toNat]? =some (.sl false B):=rfl;have hl2:([AV.sl false A,.sl false B]:List AV).length=2:=rfl;generalize [AV.sl false A,.sl false B]=X at *;refine eM call270 λF hF=>?_
 refine WW ?_;refine XJ [] [3,11,0,9,10] ⟨[(3,iA 0),(11,iA 0),(0,.sl false X),(9,.sl false X),(10,iA X.length)],[]⟩ ⟨[(3,iA (0+(A.length:Int))),(11,iA (0+1)),(0,.sl false X),(9,.sl false X),(10,iA X.length)],[]⟩ ⟨[(3,iA (0+(A.length:Int)+(B.length:Int))),(11,iA (0+1+1)),(0,.sl false X),(9,.sl false X),(10,iA X.length)],[]⟩ rfl Z ?_ ?_ ?_
 ·(refine WW ?_)
  rfl
 ·(refine WW ?_)
  rfl
 by_cases hN:A.length+B.length=0
 ·have c0:=zQc;rw[show iA 0=iA (0+(A.length:Int)+(B.length:Int)) by rw[show(0:Int)+(A.length:Int)+(B.length:Int)=0 by omega]]at c0
  (repeat' (first|refine uP ?_|apply xM|apply xZ|intro hc|(refine zE ?_;refine xT ?_;(refine vR 299 ?_;first|refine yJ (kZ c0 Z Z Z Z Z) Z ?_|refine uT (kZ c0 Z Z Z Z Z) Z Z Z ?_|refine XF (kZ c0 Z Z Z Z Z) Z Z Z ?_))|(refine zE ?_;first|refine SM ?_)|fail))
  refine xC 6 1001 2 Z Z Z ?_;refine XJ [1001] [6,27,25,26] ⟨[(6,.ref 1001 0 0),(27,iA 0),(25,.sl false X),(26,iA X.length)],[(1001,.arr 2 [] true)]⟩ ⟨[(6,.ref 1001 0 A.length),(27,iA (0+1)),(25,.sl false X),(26,iA X.length)],[(1001,.arr 2 A false)]⟩ ⟨[(6,.ref 1001 0 (A++B).length),(27,iA (0+1+1)),(25,.sl false X),(26,iA X.length)],[(1001,.arr 2 (A++B) true)]⟩ rfl Z ?_ ?_ ?_
  ·(repeat' (first|refine uP ?_|apply xM|apply xZ|intro hc|(refine zE ?_;first|(refine yK ?_;first|refine xU tok Z Z Z Z Z Z Z hhA Z Z Z zB Z ?_|refine uX tok Z Z Z Z Z Z Z Z Z Z Z hhB zB Z ?_))|fail))
   rfl
  ·(repeat' (first|refine uP ?_|apply xM|apply xZ|intro hc|(refine zE ?_;first|(refine yK ?_;first|refine xU tok Z Z Z Z Z Z Z hhA Z Z Z zB Z ?_|refine uX tok Z Z Z Z Z Z Z Z Z Z Z hhB zB Z ?_))|fail))
   rfl
  ·(refine WW ?_)
   exact zH [] Z Z (yBa (AV.sl false) zJy) Z
 ·have c0:=zVa (A.length+B.length) zB zB;rw[show((A.length+B.length:Nat):Int)=0+(A.length:Int)+(B.length:Int) by omega]at c0
  (repeat' (first|refine uP ?_|apply xM|apply xZ|intro hc|(refine zE ?_;refine xT ?_;(refine vR 299 ?_;first|refine yJ (kZ c0 Z Z Z Z Z) Z ?_|refine uT (kZ c0 Z Z Z Z Z) Z Z Z ?_|refine XF (kZ c0 Z Z Z Z Z) Z Z Z ?_))|(refine zE ?_;first|refine SM ?_)|fail))
  refine XJ [1001] [6,27,25,26] ⟨[(6,.ref 1001 0 0),(27,iA 0),(25,.sl false X),(26,iA X.length)],[(1001,.arr 2 [] true)]⟩ ⟨[(6,.ref 1001 0 A.length),(27,iA (0+1)),(25,.sl false X),(26,iA X.length)],[(1001,.arr 2 A false)]⟩ ⟨[(6,.ref 1001 0 (A++B).length),(27,iA (0+1+1)),(25,.sl false X),(26,iA X.length)],[(1001,.arr 2 (A++B) true)]⟩ rfl Z ?_ ?_ ?_
  ·(repeat' (first|refine uP ?_|apply xM|apply xZ|intro hc|(refine zE ?_;first|(refine yK ?_;first|refine xU tok Z Z Z Z Z Z Z hhA Z Z Z zB Z ?_|refine uX tok Z Z Z Z Z Z Z Z Z Z Z hhB zB Z ?_))|fail))
   rfl
  ·(repeat' (first|refine uP ?_|apply xM|apply xZ|intro hc|(refine zE ?_;first|(refine yK ?_;first|refine xU tok Z Z Z Z Z Z Z hhA Z Z Z zB Z ?_|refine uX tok Z Z Z Z Z Z Z Z Z Z Z hhB zB Z ?_))|fail))
   rfl
  ·(refine WW ?_)
   exact zH [] Z Z (yBa (AV.sl false) zJy) Z
def rmV (l:List Vh) (id:Int):List Vh:=l.filter λv=>decide (v.id≠id)
def zKf {l:List Vh} {id:Int} (h:RI l id=false):rmV l id=l:=by
 unfold rmV;refine yFt.2 λx hx=>yAj λe=>?_
 have:=yDe.1 h x hx;exact this (by rw[yBw];exact e)
def zKg {l:List Vh} {id:Int} (hv:FF l=true) {k:Nat} (hk:k<l.length) (he:(l.getD k default).id=id):rmV l id=l.take k++l.drop (k+1):=by
 have e0:l.getD k default=l[k]:=by simp[List.getD,hk]
 have e1:l=l.take k++l[k]::l.drop (k+1):=by rw[List.getElem_cons_drop,yC2]
 have hlt:=zKd hv
 have h1:rmV (l.take k) id=l.take k:=by
  refine yFt.2 λx hx=>yAj λe=>?_
  obtain⟨i,hi,rfl⟩:=yCp hx;simp only[yAw]at hi;have q1:=hlt k hk i zB;have q2:l.getD i default=l[i]:=by simp[List.getD,show i<l.length by omega]
  rw[List.getElem_take]at e;rw[q2,e,he]at q1;omega
 have h2:rmV (l.drop (k+1)) id=l.drop (k+1):=by
  refine yFt.2 λx hx=>yAj λe=>?_
  obtain⟨i,hi,rfl⟩:=yCp hx;simp only[yA7]at hi;have q1:=hlt (k+1+i) zB k zB;have q2:l.getD (k+1+i) default=l[k+1+i]:=by simp[List.getD,show k+1+i<l.length by omega]
  rw[List.getElem_drop]at e;rw[q2,e,he]at q1;omega
 conv=>lhs;rw[e1]
 unfold rmV at h1 h2⊢;rw[yDx,List.filter_cons,yAc (by rw[<-e0,he];simp),h1,h2]
def zF4 (l:List Vh) (hn:l.length<=1000000) (id:Int):yY [zC vQ l,iA id] [] (if FF l=true then(if(rmV l id).length=l.length then .tup [.sl false [],iA 12]else .tup [zC vQ (rmV l id),iA 0])else .tup [.sl false [],iA 1]) []:=yF
def CR (l:List Vh) (hn:l.length<=1000) (id:Int):∃(l':List Vh) (e:Int),((0<=e/\e<=100)/\(e≠0->l'=[]))/\l'.length<=l.length/\zN 241 [zC vQ l,iA id] [] (.tup [zC vQ l',iA e]) []/\yY [zC vQ l,iA id] [] (.tup [zC vQ l',iA e]) []:=by
 have hll:=zA vQ l;have p2:=TR l zB;have c:=zF4 l zB id;obtain⟨k,k1,k2,k3⟩:=EE l id;have p3:=MD l id zB k k1 k2 k3
 cases hv:FF l with
 |false=>
  rw[hv]at p2 c;rw[yAc yAx]at c;refine⟨[],1,⟨zB,λ_=>rfl⟩,by simp,?_,c⟩;refine eM call241 λF hF=>?_
  refine WLo p2 ?_;exact zJ
 |true=>
 have hpl:=RV (id:=id) hv k1 k2 k3;rw[hv]at p2 c;rw[yAd Z]at c
 cases hh:RI l id with
 | false=>
  rw[yAd (by rw[zKf hh])]at c;refine⟨[],12,⟨zB,λ_=>rfl⟩,by simp,?_,c⟩
  have hne:∀hk:k<l.length,(l.getD k default).id≠id:=λhk e=>by
   rw[hpl.2 ⟨hk,e⟩]at hh;cases hh
  clear hpl k2 k3 c;by_cases hk:k<l.length
  ·have hy:=zM vQ l k hk;have hne:=hne hk;generalize l.getD k default=x at *;refine eM call241 λF hF=>?_
   refine IZ (wV p2 p3) ?_;exact zJ
  ·clear hne;refine eM call241 λF hF=>?_
   refine IZ (wV p2 p3) ?_;exact zJ
 |true=>
  obtain⟨hk,he⟩:=hpl.1 hh;have er:=zKg hv hk he;have hlen:(rmV l id).length=l.length-1:=by rw[er];simp;omega
  rw[yAc zB]at c;refine⟨rmV l id,0,⟨zB,λh=>absurd Z h⟩,zB,?_,c⟩;have c4:=zKe (l.take (k:Int).toNat) (l.drop ((k:Int)+1).toNat) wF wF;rw[show l.take (k:Int).toNat++l.drop ((k:Int)+1).toNat=rmV l id by rw[er];congr 1]at c4;have hy:=zM vQ l k hk;clear hpl k2 k3 c er hlen;generalize rmV l id=l' at *;generalize l.getD k default=x at *;refine eM call241 λF hF=>?_
  refine IZ (gG p2 p3 c4) ?_;exact zJ
def zSq (t:Tk):zN 296 [xB t] [] (bA (!t.used)) []:=by
 obtain⟨u,a,b,c,d,e⟩:=t
 cases u with
 |true=>
  rw[show xB ⟨true,a,b,c,d,e⟩= .agg [bA true,zC yA a,iA b,iA c,iA d,iA e]from Z];refine eM call296 λF hF=>?_
  refine WW ?_;exact zJ
 |false=>
  rw[show xB ⟨false,a,b,c,d,e⟩= .agg [bA false,zC yA a,iA b,iA c,iA d,iA e]from Z];refine eM call296 λF hF=>?_
  refine WW ?_;exact zJ
def zXr (l:List Tk) (hn:l.length<=1000000) (k:Nat) (hk:k<l.length) (h1:∀i,i<k->(l.getD i default).used=true) (h2:(l.getD k default).used=false):zN 295 [zC xB l,.fn 296 []] [] (iA k) []:=by
 have hl:=zA xB l;refine eM call295 λF hF=>?_
 refine WW ?_;refine xS (l.length) [] [] [0,1,7] [8,0,1,7] Z (λi T U zs=>(i<=k)/\zs=⟨(8,iA i)::T,U⟩) ?_;(conv=>whnf);refine⟨?_,?_,?_⟩
 ·exact⟨yAt _,rfl⟩
 ·rintro i st hi ⟨hik,rfl⟩;have hy:=zM xB l i hi;have c:=zSq (l.getD i default);by_cases hie:i=k
  ·subst hie;rw[h2]at c;generalize l.getD i default=t at *;refine zV c ?_;exact zJ
  ·rw[h1 i zB]at c;generalize l.getD i default=t at *;refine zV c ?_;exact⟨zB,rfl⟩
 ·rintro st ⟨hik,rfl⟩;exfalso;omega
def AU (life now:Int):Int:=if 0<life then now+life else 0
def zQd (l:List Tk) (k:Nat) (t:Tk) (n:Nat) (hn:n=l.length):zC xB (l.set k t)= .sl false (((l.map xB).set k (xB t)).take n):=by
 rw[<-yCk,yAo wF];rfl
def zQ {α:Type} [Inhabited α] (l:List α) (i:Nat) (h:i<l.length):l.getD i default∈l:=by
 rw[yAk,yAr h];exact yDa _
def NoT (l:List Tk):Prop:=∀t∈l,t.used=true->peF t.rights 10=false
def T0K (l o:List Tk):Prop:=NoT l->NoT o
def zF5 (l:List Tk) (s:Int) (j:Nat):Tk:=if deF l j s=true then frT else l.getD j default
def RW (l:List Tk) (s:Int) (n:Nat):List Tk:=(List.range l.length).map λj=>if j<n then zF5 l s j else l.getD j default
def OF (l:List Tk) (s:Int) (n:Nat):(RW l s n).length=l.length:=by simp[RW]
def zKh (l:List Tk) (s:Int):RW l s 0=l:=by
 apply yBj;intro i;unfold RW;rw[yAi];by_cases h:i<l.length
 ·rw[yBg h];simp[h,List.getD]
 ·rw[yA1 (l:=List.range l.length) wF,yA1 zB];rfl
def zVb (l:List Tk) (s:Int) (n:Nat) (h:n<l.length):(RW l s n)[n]? =some (l.getD n default):=by
 unfold RW;rw[yAi,yBg h];simp
def zKi (l:List Tk) (s:Int) (n:Nat) (h:n<l.length):RW l s (n+1)=(RW l s n).set n (zF5 l s n):=by
 apply yBj;intro i;rw[yCn];unfold RW;rw[yAi,yAi,yAe,yB1];by_cases hi:i<l.length
 ·rw[yBg hi];by_cases e:n=i
  ·subst e;rw[yAd Z,yAd hi];simp
  ·rw[yAc e];simp only[Option.map_some];by_cases h1:i<n
   ·rw[yAd h1,yAd zB]
   ·rw[yAc h1,yAc zB]
 ·rw[yA1 (l:=List.range l.length) wF,yAc zB];rfl
def zF6 (l:List Tk) (hb:FH l) (hv:LK l=true) (s:Int) (hs:1<=s/\s<8) (h8:l.length=8) (hu:(l.getD s.toNat default).used=true):zN 238 [zC xB l,iA s] [] (.tup [zC xB (RW l s l.length),iA 0]) []:=by
 have c1:=UK l;rw[hv]at c1;have c2:=VD l hb;have hll:=zA xB l;have hy:=yN xB l s zB zB;have hd:=λj=>zIi l j s
 have fc:=zAy;generalize l.getD s.toNat default=t at *;obtain⟨u,a1,a2,a3,a4,a5⟩:=t;dsimp only at hu;subst hu;rw[show xB ⟨true,a1,a2,a3,a4,a5⟩= .agg [bA true,zC yA a1,iA a2,iA a3,iA a4,iA a5]from Z]at hy;refine eM call238 λF hF=>?_
 refine yQ (wV c1 c2) ?_;refine zO (l.length) [1001] [] [0,1,6,26] [27,0,1,6,26] Z (λi T U=>⟨(27,iA i)::T,(1001,.arr 6 ((RW l s i).map xB) false)::U⟩) ?_;(conv=>whnf);refine⟨by(rw[zKh];rfl),?_,?_⟩
 ·intro i hi;have hyi:((RW l s i).map xB)[i]? =some (xB (l.getD i default)):=by rw[yAi,zVb l s i hi];rfl
  have c3:=hd i;have hrl:i<((RW l s i).map xB).length:=by rw[yAe,OF];exact hi
  rw[zKi l s i hi,yCk];have hset:(l.getD i default)=(l.getD i default):=rfl
  have hsame:((RW l s i).map xB).set i (xB (l.getD i default))=(RW l s i).map xB:=by
   rw[yA5]at hyi;obtain⟨h,e⟩:=hyi;rw[<-e,yFn]
  unfold zF5
  cases hde:deF l i s with
  |true=>
   rw[hde]at c3;rw[yAd Z];generalize (RW l s i).map xB=xs at *;generalize l.getD i default=ti at *;clear hsame hset hd c1 c2;refine yQ (wV c3 fc) ?_;rfl
  |false=>
   rw[hde]at c3;rw[yAc yAx,hsame];generalize (RW l s i).map xB=xs at *;clear hsame hset hd c1 c2 fc;refine zV c3 ?_;rfl
 ·have hle:=OF l s l.length;rw[show zC xB (RW l s l.length)= .sl false (((RW l s l.length).map xB).take (l.map xB).length) by rw[yAo (by simp[hle])];rfl];generalize (RW l s l.length).map xB=xs at *;refine WW ?_;exact zJ
def FL (l:List Tk) (k:Nat) (e:Int) (t:Tk):List Tk:=if e=0 then l.set k t else []
def zBn {P:Nat->Prop}:∀n,P n->∃m,m<=n/\P m/\∀k,k<m->¬P k:=by
 intro n
 induction n using Nat.strongRecOn with
 |_ n ih=>
  intro h;by_cases hx:∃k,k<n/\P k
  ·obtain⟨k,h1,h2⟩:=hx;obtain⟨m,h3,h4,h5⟩:=ih k h1 h2;exact⟨m,zB,h4,h5⟩
  ·exact⟨n,yAg _,h,λk h1 h2=>hx ⟨k,h1,h2⟩⟩
def zVc (l:List Tk) (hn:l.length<=1000000) (h1:∀i,i<l.length->(l.getD i default).used=true):zN 295 [zC xB l,.fn 296 []] [] (iA (-1)) []:=by
 have hl:=zA xB l;refine eM call295 λF hF=>?_
 refine WW ?_;refine zO (l.length) [] [] [0,1,7] [8,0,1,7] Z (λi T U=>⟨(8,iA i)::T,U⟩) ?_;(conv=>whnf);refine⟨by rfl,?_,?_⟩
 ·intro i hi;have hy:=zM xB l i hi;have c:=zSq (l.getD i default);rw[h1 i hi]at c;generalize l.getD i default=t at *;refine zV c ?_;rfl
 ·(refine WW ?_)
  exact zJ
def zKj (l:List Tk) (p R c life now:Int):Prop:=∃(k:Nat) (e:Int),(0<=e/\e<=20)/\(k=0∨k<l.length)/\(e=0->LK l=true/\0<=p/\p<l.length/\(l.getD k default).used=false/\wiF R (l.getD p.toNat default).rights=true/\(l.getD p.toNat default).used=true)/\∀sec:List Int,(sec.length:Int)=8->
 zN 265 [zC xB l,iA p,iA R,iA c,iA life,zC yA sec,iA now] [] (.tup [zC xB (FL l k e ⟨true,sec,p,R,c,AU life now⟩),iA k,iA e]) []/\
 yY [zC xB l,iA p,iA R,iA c,iA life,zC yA sec,iA now] [] (.tup [zC xB (FL l k e ⟨true,sec,p,R,c,AU life now⟩),iA k,iA e]) []
def dR {l:List Tk} {p R c life now:Int} (e:Int) (h1:1<=e) (h2:e<=20) (h:∀sec:List Int,(sec.length:Int)=8->zN 265 [zC xB l,iA p,iA R,iA c,iA life,zC yA sec,iA now] [] (.tup [zC xB [],iA 0,iA e]) []/\yY [zC xB l,iA p,iA R,iA c,iA life,zC yA sec,iA now] [] (.tup [zC xB [],iA 0,iA e]) []):zKj l p R c life now:=
 ⟨0,e,⟨zB,h2⟩,.inl Z,λh0=>by omega,λsec hs=>by
  have hd:FL l 0 e ⟨true,sec,p,R,c,AU life now⟩=[]:=by unfold FL;rw[yAc zB]
  rw[hd]
  exact h sec hs⟩
theorem CS (l:List Tk) (hb:FH l) (p R c life now:Int):zKj l p R c life now:=by
 have hn:=hb.n;have hll:=zA xB l;have c1:=UK l;have r1:=KJ l;rw[<-zH7]at r1
 cases hv:LK l with
 | false=>
  rw[hv]at c1 r1
  exact dR 1 zB zB λsec hs=>⟨by
   have hls:=zA yA sec;refine eM call265 λF hF=>?_
   refine zV c1 ?_
   exact zJ,by
   have hls:=zA yA sec
   exact yF⟩
 |true=>
 rw[hv]at c1 r1;have h8:(l.length:Int)=8:=by unfold LK at hv;rw[yAs,yAm]at hv;exact hv.1
 by_cases hn0:0<=now
 case neg=>
  exact dR 1 zB zB λsec hs=>⟨by
   have hls:=zA yA sec;refine eM call265 λF hF=>?_
   refine zV c1 ?_
   exact zJ,by
   have hls:=zA yA sec
   exact yF⟩
 by_cases hn1:now<=1073741824
 case neg=>
  exact dR 1 zB zB λsec hs=>⟨by
   have hls:=zA yA sec;refine eM call265 λF hF=>?_
   refine zV c1 ?_
   exact zJ,by
   have hls:=zA yA sec
   exact yF⟩
 have c2:=zAx l p;by_cases hp0:0<=p
 case neg=>
  rw[show eV l p=false by unfold eV;rw[yAl (λh=>hp0 h.1)];rfl]at c2
  exact dR 12 zB zB λsec hs=>⟨by
   have hls:=zA yA sec;refine eM call265 λF hF=>?_
   refine yQ (wV c1 c2) ?_
   exact zJ,by
   have hls:=zA yA sec
   exact yF⟩
 by_cases hp1:p<l.length
 case neg=>
  rw[show eV l p=false by unfold eV;rw[yAl (λh=>hp1 h.2)];rfl]at c2
  exact dR 12 zB zB λsec hs=>⟨by
   have hls:=zA yA sec;refine eM call265 λF hF=>?_
   refine yQ (wV c1 c2) ?_
   exact zJ,by
   have hls:=zA yA sec
   exact yF⟩
 have hy:=yN xB l p hp0 hp1;have hus:eV l p=(l.getD p.toNat default).used:=by unfold eV;rw[yAj ⟨hp0,hp1⟩,yA3]
 rw[hus]at c2;have c3:=EV R (l.getD p.toNat default).rights;have r3:=zFh R (l.getD p.toNat default).rights;have c4:=zC4 (AU life now) (l.getD p.toNat default).til;have r4:=zIv (AU life now) (l.getD p.toNat default).til
 have hun:AU life now=if 0<life then now+life else 0:=rfl
 generalize AU life now=un at *;clear hus;generalize ht9:l.getD p.toNat default=t at *;obtain⟨u,t1,t2,t3,t4,t5⟩:=t;rw[show∀u,xB ⟨u,t1,t2,t3,t4,t5⟩= .agg [bA u,zC yA t1,iA t2,iA t3,iA t4,iA t5]from λ_=>rfl]at hy;dsimp only at*
 cases u with
 | false=>
  exact dR 12 zB zB λsec hs=>⟨by
   have hls:=zA yA sec;refine eM call265 λF hF=>?_
   refine yQ (wV c1 c2) ?_
   exact zJ,by
   have hls:=zA yA sec
   exact yF⟩
 |true=>
 cases hw:wiF R t3 with
 | false=>
  rw[hw]at c3 r3
  exact dR 8 zB zB λsec hs=>⟨by
   have hls:=zA yA sec;refine eM call265 λF hF=>?_
   refine yQ (gG c1 c2 c3) ?_
   exact zJ,by
   have hls:=zA yA sec
   exact yF⟩
 |true=>
 rw[hw]at c3 r3;by_cases hc0:0<=c
 case neg=>
  exact dR 8 zB zB λsec hs=>⟨by
   have hls:=zA yA sec;refine eM call265 λF hF=>?_
   refine yQ (gG c1 c2 c3) ?_
   exact zJ,by
   have hls:=zA yA sec
   exact yF⟩
 by_cases hc1:c<=t4
 case neg=>
  exact dR 8 zB zB λsec hs=>⟨by
   have hls:=zA yA sec;refine eM call265 λF hF=>?_
   refine yQ (gG c1 c2 c3) ?_
   exact zJ,by
   have hls:=zA yA sec
   exact yF⟩
 by_cases hl0:0<=life
 case neg=>
  exact dR 8 zB zB λsec hs=>⟨by
   have hls:=zA yA sec;refine eM call265 λF hF=>?_
   refine yQ (gG c1 c2 c3) ?_
   exact zJ,by
   have hls:=zA yA sec
   exact yF⟩
 by_cases hl1:life<=600
 case neg=>
  exact dR 8 zB zB λsec hs=>⟨by
   have hls:=zA yA sec;refine eM call265 λF hF=>?_
   refine yQ (gG c1 c2 c3) ?_
   exact zJ,by
   have hls:=zA yA sec
   exact yF⟩
 cases hla:laF un t5 with
 | true=>
  rw[hla]at c4 r4;by_cases h0:0<life
  ·rw[yAd h0]at hun;subst hun
   exact dR 8 zB zB λsec hs=>⟨by
    have hls:=zA yA sec;refine eM call265 λF hF=>?_
    refine yQ (ZB c1 c2 c3 c4) ?_
    exact zJ,by
    have hls:=zA yA sec
    exact yF⟩
  ·rw[yAc h0]at hun;subst hun
   exact dR 8 zB zB λsec hs=>⟨by
    have hls:=zA yA sec;refine eM call265 λF hF=>?_
    refine yQ (ZB c1 c2 c3 c4) ?_
    exact zJ,by
    have hls:=zA yA sec
    exact yF⟩
 |false=>
 rw[hla]at c4 r4;have hw9:wiF R (l.getD p.toNat default).rights=true/\(l.getD p.toNat default).used=true:=by rw[ht9];exact⟨hw,rfl⟩
 clear hla hw ht9;by_cases hex:∃k,k<l.length/\(l.getD k default).used=false
 case neg=>
  have hall:∀i,i<l.length->(l.getD i default).used=true:=λi hi=>by
   cases h:(l.getD i default).used with
   |true=>rfl
   |false=>exact absurd ⟨i,hi,h⟩ hex
  have c5:=zVc l hn hall
  rcases(show(0<life/\AU life now=now+life)∨(¬0<life/\AU life now=0) by unfold AU;by_cases h:0<life;exact .inl ⟨h,yAd h⟩;exact .inr ⟨h,yAc h⟩)with⟨h0,hu0⟩|⟨h0,hu0⟩
  ·rw[yAd h0]at hun;subst hun
   exact dR 10 zB zB λsec hs=>⟨by
    have hls:=zA yA sec;refine eM call265 λF hF=>?_
    refine yQ (zt5 c1 c2 c3 c4 c5) ?_
    exact zJ,by
    have hls:=zA yA sec
    exact yF⟩
  ·rw[yAc h0]at hun;subst hun
   exact dR 10 zB zB λsec hs=>⟨by
    have hls:=zA yA sec;refine eM call265 λF hF=>?_
    refine yQ (zt5 c1 c2 c3 c4 c5) ?_
    exact zJ,by
    have hls:=zA yA sec
    exact yF⟩
 obtain⟨k0,hk0,hu0⟩:=hex;obtain⟨k,_,⟨hk,hkf⟩,hkm⟩:=zBn (P:=λk=>k<l.length/\(l.getD k default).used=false) k0 ⟨hk0,hu0⟩
 have hbe:∀i,i<k->(l.getD i default).used=true:=λi hi=>by
  cases h:(l.getD i default).used with
  |true=>rfl
  |false=>exact absurd ⟨zB,h⟩ (hkm i hi)
 have c5:=zXr l hn k hk hbe hkf;have c6:=VD l hb;have r6:=zAk l hb;refine⟨k,0,zB,.inr hk,λ_=>⟨hv,hp0,hp1,hkf,hw9⟩,λsec hs=>?_⟩;have hd:∀x:Tk,FL l k 0 x=l.set k x:=λx=>by unfold FL;rw[yAd Z]
 rw[hd];have c7:=wL sec zB;have hls:=zA yA sec;have hyk:=zM xB l k hk;have eS:=zQd l k ⟨true,sec,p,R,c,AU life now⟩ (l.map xB).length hll;rw[eS];clear eS hd;rw[show AU life now=if 0<life then now+life else 0 from Z];by_cases h0:0<life
 ·rw[yAd h0]at hun⊢;subst hun;refine⟨?_,?_⟩
  ·clear r1 r3 r4 r6 hbe hkm hkf;generalize l.getD k default=tk at *;refine eM call265 λF hF=>?_
   refine yQ (zt7 c1 c2 c3 c4 c5 c6 c7) ?_;exact zJ
  ·clear c1 c2 c3 c4 c5 c6 c7;exact yF
 ·rw[yAc h0]at hun⊢;subst hun;refine⟨?_,?_⟩
  ·clear r1 r3 r4 r6 hbe hkm hkf;generalize l.getD k default=tk at *;refine eM call265 λF hF=>?_
   refine yQ (zt7 c1 c2 c3 c4 c5 c6 c7) ?_;exact zJ
  ·clear c1 c2 c3 c4 c5 c6 c7;exact yF
def zXs (l:List Tk) (s:Int) (h8:l.length=8):RW l s l.length=frB (λi=>ldF l 9 i s) l 8:=by
 unfold RW frB;apply yDt;intro j hj;have hj:=yA2.1 hj;unfold zF5;rw[yAd hj,zSb h8];by_cases h:ldF l 9 j s=true
 ·rw[yAd h,yAd ⟨zB,h⟩]
 ·rw[yAc h,yAc (λk=>h k.2)]
def XK:FH []:=⟨by simp,λt h=>by simp at h⟩
def zVd {l:List Tk} (hb:FH l) (s:Int) (n:Nat):FH (RW l s n):=by
 refine⟨by rw[OF];exact hb.n,λt ht=>?_⟩
 have hg:∀j,(l.getD j default).sec.length<=1000000:=λj=>by
  by_cases h:j<l.length
  ·exact hb.s _ (by simp[List.getD,h])
  ·rw[show l.getD j default=default by simp[List.getD,h]];exact yAt _
 unfold RW at ht;rw[yBl]at ht;obtain⟨j,_,rfl⟩:=ht;split
 ·unfold zF5;split
  ·exact yAt _
  ·exact hg j
 ·exact hg j
def zVe {l:List Tk} {s:Int}:T0K l (RW l s l.length):=λh t ht hu=>by
 obtain⟨j,hj,rfl⟩:=yBl.1 ht;rw[yA2]at hj;rw[yAd hj]at hu⊢;unfold zF5 at hu⊢;split at hu
 ·cases hu
 ·rw[yAc ‹_›];exact h _ (zQ l j hj) hu
def CT (l:List Tk) (hb:FH l) (s:Int):∃(o:List Tk) (e:Int),(0<=e/\e<=20)/\FH o/\(e=0->o.length=l.length/\T0K l o)/\zN 238 [zC xB l,iA s] [] (.tup [zC xB o,iA e]) []/\yY [zC xB l,iA s] [] (.tup [zC xB o,iA e]) []:=by
 have hn:=hb.n;have hll:=zA xB l;have c1:=UK l;have r1:=KJ l;rw[<-zH7]at r1
 cases hv:LK l with
 | false=>
  rw[hv]at c1 r1;refine⟨[],1,zB,XK,λh=>absurd h xL,?_,?_⟩
  ·(refine eM call238 λF hF=>?_)
   refine zV c1 ?_;exact zJ
  ·exact yF
 |true=>
 rw[hv]at c1 r1;have h8:l.length=8:=by unfold LK at hv;rw[yAs,yAm]at hv;omega
 by_cases h1:1<=s
 case neg=>
  refine⟨[],8,zB,XK,λh=>absurd h xL,?_,?_⟩
  ·(refine eM call238 λF hF=>?_)
   refine zV c1 ?_;exact zJ
  ·exact yF
 by_cases h2:s<8
 case neg=>
  refine⟨[],8,zB,XK,λh=>absurd h xL,?_,?_⟩
  ·(refine eM call238 λF hF=>?_)
   refine zV c1 ?_;exact zJ
  ·exact yF
 have hy:=yN xB l s zB zB
 cases hu:(l.getD s.toNat default).used with
 | false=>
  rw[show xB (l.getD s.toNat default)=LA false (l.getD s.toNat default) by unfold xB LA;rw[hu]]at hy;unfold LA at hy;generalize l.getD s.toNat default=t at *;refine⟨[],12,zB,XK,λh=>absurd h xL,?_,?_⟩
  ·(refine eM call238 λF hF=>?_)
   refine zV c1 ?_;exact zJ
  ·exact yF
 |true=>
  have cr:=zF6 l hb hv s ⟨h1,h2⟩ h8 hu;have b1:=zOx l s h8;rw[h8]at b1;have b2:=zOy l hb (λi=>ldF l 9 i s) h8;rw[<-zXs l s h8]at b2;rw[show xB (l.getD s.toNat default)=LA true (l.getD s.toNat default) by unfold xB LA;rw[hu]]at hy;unfold LA at hy;refine⟨RW l s l.length,0,zB,zVd hb s _,λ_=>⟨OF l s _,zVe⟩,cr,?_⟩;clear cr hu;generalize RW l s l.length=l2 at *;generalize dK (λi=>ldF l 9 i s) 8=b at *;generalize l.getD s.toNat default=t at *;exact yF
def PD (r:Rg):xO:= .box [iA r.num,zC yA r.ag.sec,iA r.ag.rights,iA r.ag.cls,zC iA r.ag.lim,iA r.ag.req,iA r.ag.ses,iA r.ag.rate,iA r.ag.burst,zC xB r.tk,zC vQ r.vh,iA r.bk.level,iA r.bk.rate,iA r.bk.burst]
def rgT (r:Rg) (l:List Tk):Rg:=⟨r.num,r.ag,l,r.vh,r.bk⟩
def zSr (m:Ms) (a:Int) (ha:m.args=[a]):zN 239 [yB m] [] (yB ⟨14,[],[m.kind,a],[]⟩) []:=by
 obtain⟨k,t,ar,d⟩:=m;dsimp only at ha⊢;subst ha;have hl1:([a].map iA).length=1:=rfl;refine eM call239 λF hF=>?_
 refine WL ?_;exact zJ
end Av
end Go.Proofs.YteajjdidebfcjaaGreat
