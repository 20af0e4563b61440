/- Part 19. -/
import Derived.Test.YtmamjhmoegjapaaGreatP18
import Derived.Scope
namespace Go.Proofs.YtmamjhmoegjapaaGreat
namespace Av
open Tryz
set_option linter.all false
set_option maxRecDepth 4000
set_option maxHeartbeats 4000000
def avL (a:Ag):Bool:=a.lim.all λn=>jW n 0 8
def avF (a:Ag):Bool:=decide ((a.sec.length:Int)=8/\(a.lim.length:Int)=4)&&(avL a&&(jW a.rights 0 63&&(jW a.cls 0 3&&(jW a.req 0 4&&(jW a.ses 1 2&&(jW a.burst 0 1000&&jW a.rate 0 a.burst))))))
theorem zWq {a:Ag} (h:∀s:Nat,s<a.lim.length->jW (a.lim.getD s default) 0 8=true):avL a=true:=by
 unfold avL;rw[zY3];intro x hx;obtain⟨i,hi,rfl⟩:=yAz hx;have:=h i hi;simpa [List.getD,hi]using this
theorem zWr {a:Ag} {i:Nat} (hi:i<a.lim.length) (h:jW (a.lim.getD i default) 0 8=false):avL a=false:=by
 unfold avL;rw[yBp];exact⟨a.lim.getD i default,by simp[List.getD,hi],by rw[h];decide⟩
theorem zE1 (a:Ag):zO 143 [wN a] [] (bA (avF a)) []:=by
 have hs:=zA yA a.sec;have hl:=zA iA a.lim;have c1:=vV a.rights 0 63;have c2:=vV a.cls 0 3;have c3:=vV a.req 0 4;have c4:=vV a.ses 1 2;have c5:=vV a.burst 0 1000;have c6:=vV a.rate 0 a.burst;by_cases h1:(a.sec.length:Int)=8/\(a.lim.length:Int)=4
 case neg=>
  have e:avF a=false:=by unfold avF;rw[zYw h1];rfl
  rw[e];by_cases g1:(a.sec.length:Int)=8
  ·(refine eM call143 λF hF=>?_)
   refine WW ?_;exact zL
  ·(refine eM call143 λF hF=>?_)
   refine WW ?_;exact zL
 obtain⟨h1,h2⟩:=h1
 have e:avF a=(avL a&&(jW a.rights 0 63&&(jW a.cls 0 3&&(jW a.req 0 4&&(jW a.ses 1 2&&(jW a.burst 0 1000&&jW a.rate 0 a.burst)))))):=by
  unfold avF;rw[zYu ⟨h1,h2⟩,zZh]
 rw[e];refine eM call143 λF hF=>?_
 refine WW ?_;refine xV (a.lim.length) [1] [1] [1,16,17] [18,1,16,17] rfl (λi T U zs=>(∀s:Nat,s<i->jW (a.lim.getD s default) 0 8=true)/\zs=⟨(18,iA i)::T,U⟩) ?_;(conv=>whnf);refine⟨?_,?_,?_⟩
 ·exact⟨λs hs=>absurd hs (yBb _),rfl⟩
 ·rintro i st hi ⟨hp,rfl⟩;have hy:=zN iA a.lim i hi;have c:=vV (a.lim.getD i default) 0 8
  cases hq:jW (a.lim.getD i default) 0 8 with
  | true=>
   rw[hq]at c
   have hp2:∀s:Nat,s<i+1->jW (a.lim.getD s default) 0 8=true:=λs hs=>by
    by_cases hsi:s=i
    ·subst hsi;assumption
    ·exact hp s zB
   clear hq hp;generalize hx:a.lim.getD i default=x at *;clear hx;refine zW c ?_;exact⟨hp2,rfl⟩
  |false=>
   rw[hq]at c;rw[zWr hi hq,yAf];generalize a.lim.getD i default=x at *;refine zW c ?_;exact zL
 ·rintro st ⟨hp,rfl⟩;rw[zWq hp,zZh];clear hp;generalize jW a.rights 0 63=q1 at *;generalize jW a.cls 0 3=q2 at *;generalize jW a.req 0 4=q3 at *;generalize jW a.ses 1 2=q4 at *;generalize jW a.burst 0 1000=q5 at *;generalize jW a.rate 0 a.burst=q6 at *;cases q1
  ·(refine zW c1 ?_)
   exact zL
  cases q2
  ·(refine xA (vD c1 c2) ?_)
   exact zL
  cases q3
  ·(refine xA (gK c1 c2 c3) ?_)
   exact zL
  cases q4
  ·(refine xA (aG c1 c2 c3 c4) ?_)
   exact zL
  cases q5
  ·(refine xA (zt5 c1 c2 c3 c4 c5) ?_)
   exact zL
  ·(refine xA (zt6 c1 c2 c3 c4 c5 c6) ?_)
   exact zL
theorem UO (l:List Vh) (hn:l.length<=1000000):zO 281 [zD vQ l] [] (bA (GI l)) []:=by
 have hl:=zA vQ l;by_cases h8:(l.length:Int)<=8
 case neg=>
  have e:GI l=false:=by unfold GI;rw[zYw h8,yCh]
  rw[e];refine eM call281 λF hF=>?_
  refine WW ?_;exact zL
 refine eM call281 λF hF=>?_
 refine WW ?_;refine xV (l.length) [] [] [0,8,9] [10,0,8,9] rfl (λi T U zs=>(∀s:Nat,s<i->TK l s=true)/\zs=⟨(10,iA i)::T,U⟩) ?_;(conv=>whnf);refine⟨?_,?_,?_⟩
 ·exact⟨λs hs=>absurd hs (yBb _),rfl⟩
 ·rintro i st hi ⟨hp,rfl⟩
  have next:TK l i=true->∀s:Nat,s<i+1->TK l s=true:=λh s hs=>by
   by_cases hsi:s=i
   ·subst hsi;exact h
   ·exact hp s zB
  have stop:=λh=>zSp (l:=l) hi h
  have hy:=zN vQ l i hi;have htok:TK l i=_:=rfl
  conv at htok=>rhs;unfold TK
  by_cases hi0:0<i
  ·have hyp:=yP vQ l ((i:Int)-1) zB zB;rw[show((i:Int)-1).toNat=i-1 by omega]at hyp;have hyq:(l.map vQ)[((i:Int)-1).toNat]? =some (vQ (l.getD (i-1) default)):=by rw[show((i:Int)-1).toNat=i-1 by omega];exact hyp
   clear hyp;generalize l.getD i default=t at *;generalize l.getD (i-1) default=p at *;generalize TK l i=tk at *;by_cases h1:0<=t.id/\t.id<=4294967295/\0<=t.cls/\t.cls<=3/\p.id<t.id
   ·obtain⟨h1,h2,h3,h4,h5⟩:=h1;rw[zYu ⟨h1,h2,h3,h4,λ_=>h5⟩]at htok;refine WW ?_;exact⟨next htok,rfl⟩
   ·rw[zYw (λh=>h1 ⟨h.1,h.2.1,h.2.2.1,h.2.2.2.1,h.2.2.2.2 hi0⟩)]at htok;rw[stop htok]
    by_cases g1:0<=t.id<;>by_cases g2:t.id<=4294967295<;>by_cases g3:0<=t.cls<;>by_cases g4:t.cls<=3<;>by_cases g5:p.id<t.id<;>first|(exfalso;exact h1 ⟨g1,g2,g3,g4,g5⟩)|(exfalso;omega;done)|(clear h1;((refine WW ?_));exact zL)
  ·obtain rfl:i=0:=by omega
   generalize l.getD 0 default=t at *;generalize TK l 0=tk at *;by_cases h1:0<=t.id/\t.id<=4294967295/\0<=t.cls/\t.cls<=3
   ·obtain⟨h1,h2,h3,h4⟩:=h1;rw[zYu ⟨h1,h2,h3,h4,λh=>absurd h hi0⟩]at htok;refine WW ?_;exact⟨next htok,rfl⟩
   ·rw[zYw (λh=>h1 ⟨h.1,h.2.1,h.2.2.1,h.2.2.2.1⟩)]at htok;rw[stop htok]
    by_cases g1:0<=t.id<;>by_cases g2:t.id<=4294967295<;>by_cases g3:0<=t.cls<;>by_cases g4:t.cls<=3<;>first|(exfalso;exact h1 ⟨g1,g2,g3,g4⟩)|(exfalso;omega;done)|(clear h1;((refine WW ?_));exact zL)
 ·rintro st ⟨hp,rfl⟩;have e:((List.range l.length).all λi=>TK l i)=true:=zY3.2 λi hi=>hp i (zZi.1 hi)
  unfold GI;rw[e,zZh];rw[zYu h8];refine WW ?_;exact zL
def gvF (r:Rg):Bool:=decide (0<=r.num/\r.num<4)&&(avF r.ag&&(ML r.tk&&(GI r.vh&&(bvF r.bk&&decide (r.bk.rate=r.ag.rate/\r.bk.burst=r.ag.burst)))))
theorem ZG (r:Rg) (hv:r.vh.length<=1000000):zO 258 [qG r] [] (bA (gvF r)) []:=by
 have c1:=zE1 r.ag;have c2:=VF r.tk;have c3:=UO r.vh hv;have c4:=zHd r.bk;unfold gvF;generalize avF r.ag=q1 at *;generalize ML r.tk=q2 at *;generalize GI r.vh=q3 at *;generalize bvF r.bk=q4 at *;by_cases h1:0<=r.num
 case neg=>
  rw[zYw (λh=>h1 h.1)];refine eM call258 λF hF=>?_
  refine WW ?_;exact zL
 by_cases h2:r.num<4
 case neg=>
  rw[zYw (λh=>h2 h.2)];refine eM call258 λF hF=>?_
  refine WW ?_;exact zL
 rw[zYu ⟨h1,h2⟩]
 cases q1 with
 |false=>
  refine eM call258 λF hF=>?_
  refine zW c1 ?_;exact zL
 |true=>
 cases q2 with
 |false=>
  refine eM call258 λF hF=>?_
  refine xA (vD c1 c2) ?_;exact zL
 |true=>
 cases q3 with
 |false=>
  refine eM call258 λF hF=>?_
  refine xA (gK c1 c2 c3) ?_;exact zL
 |true=>
 cases q4 with
 |false=>
  refine eM call258 λF hF=>?_
  refine xA (aG c1 c2 c3 c4) ?_;exact zL
 |true=>
 by_cases h3:r.bk.rate=r.ag.rate
 case neg=>
  rw[zYw (λh=>h3 h.1)];refine eM call258 λF hF=>?_
  refine xA (aG c1 c2 c3 c4) ?_;exact zL
 by_cases h4:r.bk.burst=r.ag.burst
 ·rw[zYu ⟨h3,h4⟩];refine eM call258 λF hF=>?_
  refine xA (aG c1 c2 c3 c4) ?_
  all_goals (first|exact zL|exact zFB)
 ·rw[zYw (λh=>h4 h.2)];refine eM call258 λF hF=>?_
  refine xA (aG c1 c2 c3 c4) ?_
  all_goals (first|exact zL|exact zFB)
theorem bB (r:Rg) (hv:r.vh.length<=1000000):yU [qG r] [] (bA (gvF r)) []:=yG
theorem NE (l:List Vh) (id:Int) (hn:l.length<=1000000) (k:Nat) (k1:k<=l.length) (k2:∀i,i<k->(l.getD i default).id<id) (k3:k<l.length->¬(l.getD k default).id<id):zO 287 [zD vQ l,iA id] [] (iA k) []:=by
 have hll:=zA vQ l;refine eM call287 λF hF=>?_
 refine WW ?_;refine xV (l.length+1) [] [] [0,1] [5,0,1] rfl (λi T U zs=>(i<=k)/\zs=⟨(5,iA i)::T,U⟩) ?_;(conv=>whnf);refine⟨?_,?_,?_⟩
 ·exact⟨zY4 _,rfl⟩
 ·rintro i st hi ⟨hik,rfl⟩;by_cases hlt:i<k
  ·have hy:=zN vQ l i zB;have hh:=k2 i hlt;generalize l.getD i default=x at *;refine WW ?_;exact⟨zB,rfl⟩
  ·obtain rfl:i=k:=by omega
   by_cases hkl:i<l.length
   ·have hy:=zN vQ l i hkl;have hh:=k3 hkl;generalize l.getD i default=x at *;refine WW ?_;exact zL
   ·(refine WW ?_)
    exact zL
 ·rintro st ⟨hik,rfl⟩;exfalso;omega
theorem DJ (l:List Vh) (c:Int) (hn:l.length<=1000000):zO 303 [zD vQ l,iA c] [] (iA (jB l c)) []:=by
 have hl:=zA vQ l;refine eM call303 λF hF=>?_
 refine WW ?_;refine yS (l) [] [] [1,8,9] [5,10,1,8,9] rfl (λi pre T U=>⟨(5,iA (jB pre c))::(10,iA i)::T,U⟩) ?_;(conv=>whnf);refine⟨by rfl,?_,?_⟩
 ·intro i pre x post hx hi;have hy:=xO vQ hx hi;have hlt:=yX hx hi;have hle:jB pre c<=i:=by rw[<-hi];exact yAv _ _
  have e:jB (pre++[x]) c=jB pre c+(if x.cls=c then 1 else 0):=by
   unfold jB;rw[yBz,zYr];by_cases h:x.cls=c
   ·simp[h]
   ·simp[h]
  clear hx;by_cases h:x.cls=c
  ·rw[zYp h]at e;rw[e];generalize jB pre c=m at *;refine WW ?_;rfl
  ·rw[zYo h,yBi]at e;rw[e];generalize jB pre c=m at *;refine WW ?_;rfl
 ·(refine WW ?_)
  exact zL
theorem DK (a:Ag) (c:Int) (h0:0<=c) (h1:c<a.lim.length):zO 304 [wN a,iA c] [] (iA (a.lim.getD c.toNat default)) []:=by
 have hla:=zA iA a.lim;have hy:=yP iA a.lim c h0 h1;refine eM call304 λF hF=>?_
 refine WW ?_;exact zL
def agC (a:Ag) (c:Int):Ag:=⟨a.sec,a.rights,c,a.lim,a.req,a.ses,a.rate,a.burst⟩
theorem zI3 {l:List Vh} (hv:GI l=true):∀j,j<l.length->∀i,i<j->(l.getD i default).id<(l.getD j default).id
 |0,_,i,hi=>absurd hi (yBb _)
 |j+1,hj,i,hi=>by
  have h1:=((zQz.1 hv).2 (j+1) hj).2 zB;rw[Nat.add_sub_cancel]at h1;by_cases h:i=j
  ·subst h;exact h1
  ·have:=zI3 hv j zB i zB;omega
theorem TY {l:List Vh} {id:Int} (hv:GI l=true) {k:Nat} (k1:k<=l.length) (k2:∀i,i<k->(l.getD i default).id<id) (k3:k<l.length->¬(l.getD k default).id<id):TJ l id=true↔k<l.length/\(l.getD k default).id=id:=by
 constructor
 ·intro h;obtain⟨x,hx,he⟩:=yAd.1 h;obtain⟨i,hi,rfl⟩:=yAz hx;rw[zZ7]at he;have hg:l.getD i default=l[i]:=by simp[List.getD,hi]
  rw[<-hg]at he;by_cases h1:i<k
  ·have:=k2 i h1;omega
  ·have hk:k<l.length:=by omega
   by_cases h2:i=k
   ·subst h2;exact⟨hk,he⟩
   ·have h3:=zI3 hv i hi k zB;have h4:=k3 hk;omega
 ·rintro⟨hk,he⟩;exact yAd.2 ⟨l.getD k default,by simp[List.getD,hk],by rw[zZ7];exact he⟩
theorem DL (l:List Vh) (hn:l.length<=1000000) (a:Ag) (hlim:(a.lim.length:Int)=4) (hc3:a.cls<=3) (v:Vh) (hv:GI l=true) (h1:0<=v.id) (h2:v.id<=4294967295) (h3:0<=v.cls) (h4:v.cls<=a.cls) (htw:TJ l v.id=false) (h5:(jB l v.cls:Int)<a.lim.getD v.cls.toNat default) (h6:l.length<8)
  (k:Nat) (k1:k<=l.length) (k2:∀i,i<k->(l.getD i default).id<v.id) (k3:k<l.length->¬(l.getD k default).id<v.id):zO 286 [zD vQ l,wN a,vQ v] [] (.tup [zD vQ (l.take k++v::l.drop k),iA 0]) []:=by
 have hll:=zA vQ l;have hla:=zA iA a.lim;have c2:=UO l hn;have c3:=NE l v.id hn k k1 k2 k3;have c4:=DJ l v.cls hn;have c5:=DK a v.cls h3 zB
 have hne:k<l.length->(l.getD k default).id≠v.id:=λhk e=>by
  rw[(TY hv k1 k2 k3).2 ⟨hk,e⟩]at htw;cases htw
 rw[hv]at c2;clear hv htw k2 k3
 have hcn:(jB l v.cls:Int)<=1000000:=by
  have:jB l v.cls<=l.length:=yAv _ _;omega
 generalize (jB l v.cls:Int)=cn at *;generalize a.lim.getD v.cls.toNat default=lim at *;have hlK:((l.take (k:Int).toNat).map vQ).length=k:=by simp;omega
 have hlD:((l.drop (k:Int).toNat).map vQ).length=l.length-k:=by simp
 obtain⟨N,hN⟩:∃N,N=l.length+1:=⟨_,rfl⟩;have hnx:((l.map vQ).length:Int)+1=(N:Int):=by omega
 obtain⟨z1,hz1,hz1l⟩:∃z1,z1=(l.take k).map vQ++List.replicate (l.length+1-k) (AV.agg [.s (.int .i64 0),.s (.int .i64 0)])/\z1.length=l.length+1:=⟨_,rfl,by simp;omega⟩
 have hcp1:(List.replicate N (AV.agg [.s (.int .i64 0),.s (.int .i64 0)])).take 0++(l.take (k:Int).toNat).map vQ++(List.replicate N (AV.agg [.s (.int .i64 0),.s (.int .i64 0)])).drop (0+((l.take (k:Int).toNat).map vQ).length)=z1:=by
  rw[hz1,hlK,hN];simp
 have hat:z1[(k:Int).toNat]? =some (AV.agg [.s (.int .i64 0),.s (.int .i64 0)]):=by
  rw[hz1,zZe wI];rw[yAm,zYp wI]
 have hcp2:(z1.set (k:Int).toNat (.agg [iA v.id,iA v.cls])).take ((k:Int)+1).toNat++(l.drop (k:Int).toNat).map vQ++(z1.set (k:Int).toNat (.agg [iA v.id,iA v.cls])).drop (((k:Int)+1).toNat+((l.drop (k:Int).toNat).map vQ).length)=(l.take k++v::l.drop k).map vQ:=by
  have e1:z1.set (k:Int).toNat (.agg [iA v.id,iA v.cls])=(l.take k++[v]).map vQ++List.replicate (l.length-k) (AV.agg [.s (.int .i64 0),.s (.int .i64 0)]):=by
   rw[hz1,yBr _ _ wI,show l.length+1-k=(l.length-k)+1 by omega,yCg];rw[show(k:Int).toNat-((l.take k).map vQ).length=0 by simp;omega];simp[vQ]
  have hl1:((l.take k++[v]).map vQ).length=k+1:=by simp;omega
  have e2:((l.take k++[v]).map vQ++List.replicate (l.length-k) (AV.agg [.s (.int .i64 0),.s (.int .i64 0)])).drop (k+1+(l.length-k))=[]:=yC1 (by rw[zYr,hl1,zZ0];exact zYs _);rw[e1,hlD,show((k:Int)+1).toNat=k+1 by omega,yBg zB,zYy zB,e2];simp
 clear hz1;obtain⟨z3,hz3⟩:∃z3,z3=(l.take k++v::l.drop k).map vQ:=⟨_,rfl⟩;have hz3l:z3.length=l.length+1:=by rw[hz3];simp;omega
 rw[<-hz3]at hcp2;rw[show zD vQ (l.take k++v::l.drop k)= .sl false z3 by rw[hz3];rfl];clear hz3;rw[show vQ v= .agg [iA v.id,iA v.cls]from rfl]at *; by_cases hk:k<l.length
 ·have hy:=zN vQ l k hk;have hne:=hne hk;generalize l.getD k default=x at *;refine eM call286 λF hF=>?_
  (have zc1:=c2;have zc2:=c3;have zc3:=c4;have zc4:=c5;(repeat' (first|refine qS ?_|refine xR (λhc=>?_) (λhc=>?_)|refine wE (λhc=>?_)|(refine zE ?_;first|(refine gT ?_;refine zBz tok rfl rfl rfl rfl rfl rfl rfl rfl rfl rfl rfl rfl hnx zB zB rfl rfl rfl ?_)|(refine zCd tok rfl rfl rfl rfl rfl rfl rfl (yY _ _ (λ_=>rfl)) rfl zB (by first|exact hcp1|exact hcp2) rfl ?_)|(refine qD ?_;refine gZ tok rfl rfl rfl rfl rfl rfl rfl zB zB rfl ?_))|fail))<;>clear zc1 zc2 zc3 zc4)
  exact zI [] rfl rfl (zZl (λz=>AV.tup [AV.sl false z,iA 0]) zRb) rfl
 ·clear hne;refine eM call286 λF hF=>?_
  (have zc1:=c2;have zc2:=c3;have zc3:=c4;have zc4:=c5;(repeat' (first|refine qS ?_|refine xR (λhc=>?_) (λhc=>?_)|refine wE (λhc=>?_)|(refine zE ?_;first|(refine gT ?_;refine zBz tok rfl rfl rfl rfl rfl rfl rfl rfl rfl rfl rfl rfl hnx zB zB rfl rfl rfl ?_)|(refine zCd tok rfl rfl rfl rfl rfl rfl rfl (yY _ _ (λ_=>rfl)) rfl zB (by first|exact hcp1|exact hcp2) rfl ?_)|(refine qD ?_;refine gZ tok rfl rfl rfl rfl rfl rfl rfl zB zB rfl ?_))|fail))<;>clear zc1 zc2 zc3 zc4)
  exact zI [] rfl rfl (zZl (λz=>AV.tup [AV.sl false z,iA 0]) zRb) rfl
theorem MW (l:List Vh) (hn:l.length<=1000000) (a:Ag) (most:Int) (hlim:(a.lim.length:Int)=4) (hc3:a.cls<=3) (v:Vh):∃(l':List Vh) (e:Int),((0<=e/\e<=100)/\(e≠0->l'=[]))/\(l'.length<=l.length+1/\l'.length<=8)/\zO 286 [zD vQ l,wN (agC a (min a.cls most)),vQ v] [] (.tup [zD vQ l',iA e]) []/\yU [zD vQ l,wN a,vQ v,iA most] [] (.tup [zD vQ l',iA e]) []:=by
 have hll:=zA vQ l;have hla:=zA iA a.lim;have p2:=UO l hn;have c1:=zNo l v.id hn;have c2:=zD8 l hn;have c3:=zGm l v.cls hn;have p4:=DJ l v.cls hn;have hcm:min a.cls most<=3:=by omega
 have hcl:min a.cls most<=a.cls:=by omega
 obtain⟨k,k1,k2,k3⟩:=FF l v.id;have hpl:=λhv=>TY (l:=l) (id:=v.id) hv k1 k2 k3
 have p3:=NE l v.id hn k k1 k2 k3;have hreg:=λhv h1 h2 h3 h4 htw h5 h6=>DL l hn (agC a (min a.cls most)) hlim hcm v hv h1 h2 h3 h4 htw h5 h6 k k1 k2 k3
 have hcn:jB l v.cls<=1000000:=by
  have:jB l v.cls<=l.length:=yAv _ _;omega
 have p5:=λh3 h4=>DK (agC a (min a.cls most)) v.cls h3 h4
 rw[show(agC a (min a.cls most)).lim=a.lim from rfl]at hreg p5;rw[show(agC a (min a.cls most)).cls=min a.cls most from rfl]at hreg;have hAG:wN (agC a (min a.cls most))= .agg [zD yA a.sec,iA a.rights,iA (min a.cls most),zD iA a.lim,iA a.req,iA a.ses,iA a.rate,iA a.burst]:=rfl;rw[hAG]at *; generalize hf:cR l v.id=fv at *;generalize htw:TJ l v.id=tw at *;generalize hok:GI l=ok at *;generalize jB l v.cls=cn at *;cases ok
 ·refine⟨[],1,⟨zB,λ_=>rfl⟩,⟨zY4 _,zY4 _⟩,?_,?_⟩
  ·clear hpl hreg p5;refine eM call286 λF hF=>?_
   refine zW p2 ?_;exact zL
  ·clear hpl hreg p5;exact yG
 by_cases h1:0<=v.id/\v.id<=4294967295
 case neg=>
  refine⟨[],8,⟨zB,λ_=>rfl⟩,⟨zY4 _,zY4 _⟩,?_,?_⟩
  ·clear hpl hreg p5
   by_cases g1:0<=v.id<;>((refine eM call286 λF hF=>?_);((refine zW p2 ?_));exact zL)
  ·clear hpl hreg p5
   by_cases g1:0<=v.id<;>(exact yG)
 obtain⟨h1,h2⟩:=h1;generalize hmm:min a.cls most=mm at *;by_cases h3:0<=v.cls/\v.cls<=mm
 case neg=>
  refine⟨[],17,⟨zB,λ_=>rfl⟩,⟨zY4 _,zY4 _⟩,?_,?_⟩
  ·clear hpl hreg p5
   by_cases g1:0<=v.cls<;>((refine eM call286 λF hF=>?_);((refine zW p2 ?_));exact zL)
  ·clear hpl hreg p5;subst hmm
   by_cases g1:0<=v.cls<;>(exact yG)
 obtain⟨h3,h4⟩:=h3;have hpl:=hpl rfl;have hp5:=p5 h3 zB;clear p5;cases tw
 case true=>
  obtain⟨hk,hid⟩:=hpl.1 rfl;have hy:=zN vQ l k hk;refine⟨[],11,⟨zB,λ_=>rfl⟩,⟨zY4 _,zY4 _⟩,?_,?_⟩
  ·clear hreg hpl k2 k3;generalize l.getD k default=x at *;refine eM call286 λF hF=>?_
   refine xA (vD p2 p3) ?_;exact zL
  ·clear hpl hreg;subst hmm;exact yG
 have hne:∀hk:k<l.length,(l.getD k default).id≠v.id:=λhk e=>by
  have:=hpl.2 ⟨hk,e⟩;cases this
 clear hpl;have hyl:=yP iA a.lim v.cls h3 zB;have hreg:=hreg rfl h1 h2 h3 h4 rfl;generalize a.lim.getD v.cls.toNat default=lim at *;by_cases h5:lim<=cn
 ·refine⟨[],14,⟨zB,λ_=>rfl⟩,⟨zY4 _,zY4 _⟩,?_,?_⟩
  ·clear hreg k2 k3;by_cases hk:k<l.length
   ·have hy:=zN vQ l k hk;have hne:=hne hk;generalize l.getD k default=x at *;refine eM call286 λF hF=>?_
    refine xA (aG p2 p3 p4 hp5) ?_;exact zL
   ·clear hne;refine eM call286 λF hF=>?_
    refine xA (aG p2 p3 p4 hp5) ?_;exact zL
  ·clear hreg hne k2 k3;subst hmm;exact yG
 by_cases h6:l.length<8
 case neg=>
  refine⟨[],10,⟨zB,λ_=>rfl⟩,⟨zY4 _,zY4 _⟩,?_,?_⟩
  ·clear hreg k2 k3;by_cases hk:k<l.length
   ·have hy:=zN vQ l k hk;have hne:=hne hk;generalize l.getD k default=x at *;refine eM call286 λF hF=>?_
    refine xA (aG p2 p3 p4 hp5) ?_;exact zL
   ·clear hne;refine eM call286 λF hF=>?_
    refine xA (aG p2 p3 p4 hp5) ?_;exact zL
  ·clear hreg hne k2 k3;subst hmm;exact yG
 refine⟨l.take k++v::l.drop k,0,⟨zB,λh=>absurd rfl h⟩,⟨by simp;omega,by simp;omega⟩,hreg zB h6,?_⟩;clear hok htw hreg hne p2 p3 p4 hp5;subst hmm;exact yG
section
variable {b:Frame} {a:Act} {k:List Item} {cs:List Frame} {w:World} {P:Program}
theorem jV {c:Code}:step P (lone (b.atR a (.code (.scope c)::k)) cs w)= .next (lone (b.atR a (.code c:: .inScope c::k)) cs w):=
 step_lone_go (by simp[stepG,stepG.exec,Frame.atR])
theorem MX {c:Code}:step P (lone (b.atR a (.inScope c::k)) cs w)= .next (lone (b.atR a k) cs w):=
 step_lone_go (by simp[stepG,stepG.exec,Frame.atR])
end
section
variable {F:Fence} {n:Nat} {P:Program} {Q:Exit->Act->World->Prop} {a:Act} {w:World}
theorem zA0 {c:Code} (h:c.wpIn F n P (Exit.noGoto Q) a w):(Code.scope c).wpIn F n P Q a w:=by
 intro b k cs hro hb hr;have h0:(lone (b.atR a (.code (.scope c)::k)) cs w).fenced P F:=fenced_calm hb hr rfl;obtain⟨e,a₁,w₁,hq,harr⟩:=h b (.inScope c::k) cs hro hb hr
 cases e with
 |normal=>exact⟨.normal,a₁,w₁,hq,.head h0 jV (StepsIn.trans harr (.one (fenced_calm hb hr rfl) MX))⟩
 | exit id=>
  have hx:exitTo id (.inScope c::k)=exitTo id k:=by simp[exitTo]
  exact⟨.exit id,a₁,w₁,hq,λk' hk=> .head h0 jV (harr.1 k' (by rw[hx];exact hk)),
   λhr' hk=>let ⟨k₁,h1,h2⟩:=harr.2 hr' (by rw[hx];exact hk);⟨k₁,h1,.head h0 jV h2⟩⟩
 |goto l=>exact hq.elim
 |ret=>exact⟨_,a₁,w₁,hq,.of_steps (.one h0 jV) harr⟩
 |panic ch=>exact⟨_,a₁,w₁,hq,.of_steps (.one h0 jV) harr⟩
 |outgrown=>exact⟨_,a₁,w₁,hq,.of_steps (.one h0 jV) harr⟩
end
section
variable {P:Program} {K0:List Nat} {F:Fr K0} {m:Nat} {Q:Exit->St->Prop} {st:St}
def noG (Q:Exit->St->Prop):Exit->St->Prop
 | .goto _,_=>False
 |e,s=>Q e s
theorem vK {c:Code} (h:uI P F m c st (noG Q)):uI P F m (.scope c) st Q:=⟨λa w H=>
 zA0 (Code.wpIn_mono (λe a' w' ⟨s,h1,h2⟩=>by
  cases e with
  |goto l=>exact h1.elim
  |_=>exact⟨s,h1,h2⟩) (h.run a w H))⟩
theorem YI {c:Code} (K ts:List Nat) (st0 st1 st2:St) (hK:K0.all (K.contains ·)=true) (he:restr K ts st=st0)
  (h0:uI P F m c st0 (λe s=>match e with| .normal=>restr K ts s=st1|e=>Q e s))
  (h1:uI P F m c st1 (λe s=>match e with| .normal=>restr K ts s=st2|e=>Q e s))
  (h2:uI P F m c st2 (λe s=>match e with| .normal=>False|e=>Q e s)):uI P F m (.loop c) st Q:=by
 refine vA (λn s=>(n=2/\s=st0)∨(n=1/\s=st1)∨(n=0/\s=st2)) 2 K ts hK (.inl ⟨rfl,he⟩) ?_;rintro n s (⟨rfl,rfl⟩|⟨rfl,rfl⟩|⟨rfl,rfl⟩)
 ·refine⟨λa w H=>Code.wpIn_mono (λe a' w' ⟨s,q1,q2⟩=>?_) (h0.run a w H)⟩
  cases e with
  |normal=>exact⟨s,⟨1,zB,.inr (.inl ⟨rfl,q1⟩)⟩,q2⟩
  |_=>exact⟨s,q1,q2⟩
 ·refine⟨λa w H=>Code.wpIn_mono (λe a' w' ⟨s,q1,q2⟩=>?_) (h1.run a w H)⟩
  cases e with
  |normal=>exact⟨s,⟨0,zB,.inr (.inr ⟨rfl,q1⟩)⟩,q2⟩
  |_=>exact⟨s,q1,q2⟩
 ·refine⟨λa w H=>Code.wpIn_mono (λe a' w' ⟨s,q1,q2⟩=>?_) (h2.run a w H)⟩
  cases e with
  |normal=>exact q1.elim
  |_=>exact⟨s,q1,q2⟩
theorem vL {l:Nat} (h:Q .normal st):uI P F m (.label l) st Q:=⟨λ_ _ H=>wpIn_label ⟨st,h,H⟩⟩
end
theorem zTr (N:Nat) (h1:1<=N) (h2:N<=1000000):zO 305 [.s (.slice none 0 0),iA N] [] (.ref 1001 0 0) [(1001,.arr 2 [] true)]:=by
 have hnx:(N:Int)-(0-0)=(N:Int):=by omega
 have hn3:(N:Int)-(0-((0:Nat):Int))=(N:Int):=by omega
 refine eM call305 λF hF=>?_
 (repeat' (first|refine WS ?_|refine SG (I2 (λhc=>?_) (λhc=>?_))|refine SG (λhc=>?_)|(refine zE ?_;first|(refine yF (OV tok rfl rfl rfl) rfl ?_)|(refine qD ?_;refine yF (zAt tok rfl rfl rfl rfl rfl) rfl ?_)|(refine zOn tok rfl rfl rfl rfl rfl rfl rfl rfl rfl rfl rfl rfl rfl rfl (by first|exact hnx|exact hn3) h1 zB rfl rfl rfl ?_)|(refine qD ?_;refine zCe tok rfl rfl rfl rfl rfl rfl rfl rfl ?_))|(first|refine zEx 0 22 1001 rfl rfl rfl ?_|first|refine SR ?_|refine SK (I2 (λhc=>?_) (λhc=>?_))|refine SK (λhc=>?_)|fail)|fail))
 exact zJ [1001] rfl rfl rfl rfl
theorem zO6:zO 305 [.s (.slice none 0 0),iA 0] [] (.s (.slice none 0 0)) []:=by
 refine eM call305 λF hF=>?_
 (repeat' (first|refine qS ?_|refine xR (λhc=>?_) (λhc=>?_)|refine wE (λhc=>?_)|(refine zE ?_;first|(refine yF (OV tok rfl rfl rfl) rfl ?_))|fail))
 exact zJ [] rfl rfl rfl rfl
theorem zI4 (a b:List Vh) (ha:a.length<=1000) (hb:b.length<=1000):zO 288 [.sl false [zD vQ a,zD vQ b]] [] (zD vQ (a++b)) []:=by
 have hla:=zA vQ a;have hlb:=zA vQ b;rw[show zD vQ (a++b)= .sl false (a.map vQ++b.map vQ) by unfold zD;rw[zYz]];have hsa:zD vQ a= .sl false (a.map vQ):=rfl;have hsb:zD vQ b= .sl false (b.map vQ):=rfl;rw[hsa,hsb];have hhA:∀y,(a.map vQ)[0]? =some y->y.cells.length=2:=yY _ _ (λ_=>rfl);have hhB:∀y,(b.map vQ)[0]? =some y->y.cells.length=2:=yY _ _ (λ_=>rfl);generalize a.map vQ=A at *;generalize b.map vQ=B at *;clear hsa hsb;have hyA:([AV.sl false A,.sl false B]:List AV)[(0:Int).toNat]? =some (.sl false A):=rfl;have hyB:([AV.sl false A,.sl false B]:List AV)[(0+1:Int).toNat]? =some (.sl false B):=rfl;have hl2:([AV.sl false A,.sl false B]:List AV).length=2:=rfl;generalize [AV.sl false A,.sl false B]=X at *;refine eM call288 λF hF=>?_
 refine WW ?_;refine YI [] [3,11,0,9,10] ⟨[(3,iA 0),(11,iA 0),(0,.sl false X),(9,.sl false X),(10,iA X.length)],[]⟩ ⟨[(3,iA (0+(A.length:Int))),(11,iA (0+1)),(0,.sl false X),(9,.sl false X),(10,iA X.length)],[]⟩ ⟨[(3,iA (0+(A.length:Int)+(B.length:Int))),(11,iA (0+1+1)),(0,.sl false X),(9,.sl false X),(10,iA X.length)],[]⟩ rfl rfl ?_ ?_ ?_
 ·(refine WW ?_)
  rfl
 ·(refine WW ?_)
  rfl
 by_cases hN:A.length+B.length=0
 ·have c0:=zO6;rw[show iA 0=iA (0+(A.length:Int)+(B.length:Int)) by rw[show(0:Int)+(A.length:Int)+(B.length:Int)=0 by omega]]at c0
  (repeat' (first|refine qS ?_|refine xR (λhc=>?_) (λhc=>?_)|refine wE (λhc=>?_)|(refine zE ?_;refine xT ?_;(refine vT 305 ?_;first|refine yF (wG c0 rfl rfl rfl rfl rfl) rfl ?_|refine uF (wG c0 rfl rfl rfl rfl rfl) rfl rfl rfl ?_|refine bJ (wG c0 rfl rfl rfl rfl rfl) rfl rfl rfl ?_))|(refine zE ?_;first|refine SM ?_)|fail))
  refine xK 6 1001 2 rfl rfl rfl ?_;refine YI [1001] [6,27,25,26] ⟨[(6,.ref 1001 0 0),(27,iA 0),(25,.sl false X),(26,iA X.length)],[(1001,.arr 2 [] true)]⟩ ⟨[(6,.ref 1001 0 A.length),(27,iA (0+1)),(25,.sl false X),(26,iA X.length)],[(1001,.arr 2 A false)]⟩ ⟨[(6,.ref 1001 0 (A++B).length),(27,iA (0+1+1)),(25,.sl false X),(26,iA X.length)],[(1001,.arr 2 (A++B) true)]⟩ rfl rfl ?_ ?_ ?_
  ·(repeat' (first|refine qS ?_|refine xR (λhc=>?_) (λhc=>?_)|refine wE (λhc=>?_)|(refine zE ?_;first|(refine yW ?_;first|refine xX tok rfl rfl rfl rfl rfl rfl rfl hhA rfl rfl rfl zB rfl ?_|refine uL tok rfl rfl rfl rfl rfl rfl rfl rfl rfl rfl rfl hhB zB rfl ?_))|fail))
   rfl
  ·(repeat' (first|refine qS ?_|refine xR (λhc=>?_) (λhc=>?_)|refine wE (λhc=>?_)|(refine zE ?_;first|(refine yW ?_;first|refine xX tok rfl rfl rfl rfl rfl rfl rfl hhA rfl rfl rfl zB rfl ?_|refine uL tok rfl rfl rfl rfl rfl rfl rfl rfl rfl rfl rfl hhB zB rfl ?_))|fail))
   rfl
  ·(refine WW ?_)
   exact zI [] rfl rfl (zZl (AV.sl false) zH3) rfl
 ·have c0:=zTr (A.length+B.length) zB zB;rw[show((A.length+B.length:Nat):Int)=0+(A.length:Int)+(B.length:Int) by omega]at c0
  (repeat' (first|refine qS ?_|refine xR (λhc=>?_) (λhc=>?_)|refine wE (λhc=>?_)|(refine zE ?_;refine xT ?_;(refine vT 305 ?_;first|refine yF (wG c0 rfl rfl rfl rfl rfl) rfl ?_|refine uF (wG c0 rfl rfl rfl rfl rfl) rfl rfl rfl ?_|refine bJ (wG c0 rfl rfl rfl rfl rfl) rfl rfl rfl ?_))|(refine zE ?_;first|refine SM ?_)|fail))
  refine YI [1001] [6,27,25,26] ⟨[(6,.ref 1001 0 0),(27,iA 0),(25,.sl false X),(26,iA X.length)],[(1001,.arr 2 [] true)]⟩ ⟨[(6,.ref 1001 0 A.length),(27,iA (0+1)),(25,.sl false X),(26,iA X.length)],[(1001,.arr 2 A false)]⟩ ⟨[(6,.ref 1001 0 (A++B).length),(27,iA (0+1+1)),(25,.sl false X),(26,iA X.length)],[(1001,.arr 2 (A++B) true)]⟩ rfl rfl ?_ ?_ ?_
  ·(repeat' (first|refine qS ?_|refine xR (λhc=>?_) (λhc=>?_)|refine wE (λhc=>?_)|(refine zE ?_;first|(refine yW ?_;first|refine xX tok rfl rfl rfl rfl rfl rfl rfl hhA rfl rfl rfl zB rfl ?_|refine uL tok rfl rfl rfl rfl rfl rfl rfl rfl rfl rfl rfl hhB zB rfl ?_))|fail))
   rfl
  ·(repeat' (first|refine qS ?_|refine xR (λhc=>?_) (λhc=>?_)|refine wE (λhc=>?_)|(refine zE ?_;first|(refine yW ?_;first|refine xX tok rfl rfl rfl rfl rfl rfl rfl hhA rfl rfl rfl zB rfl ?_|refine uL tok rfl rfl rfl rfl rfl rfl rfl rfl rfl rfl rfl hhB zB rfl ?_))|fail))
   rfl
  ·(refine WW ?_)
   exact zI [] rfl rfl (zZl (AV.sl false) zH3) rfl
def rmV (l:List Vh) (id:Int):List Vh:=l.filter λv=>decide (v.id≠id)
theorem zI5 {l:List Vh} {id:Int} (h:TJ l id=false):rmV l id=l:=by
 unfold rmV;refine yD2.2 λx hx=>zYu λe=>?_
 have:=yBq.1 h x hx;exact this (by rw[zZ7];exact e)
theorem zI6 {l:List Vh} {id:Int} (hv:GI l=true) {k:Nat} (hk:k<l.length) (he:(l.getD k default).id=id):rmV l id=l.take k++l.drop (k+1):=by
 have e0:l.getD k default=l[k]:=by simp[List.getD,hk]
 have e1:l=l.take k++l[k]::l.drop (k+1):=by rw[List.getElem_cons_drop,yCe]
 have hlt:=zI3 hv
 have h1:rmV (l.take k) id=l.take k:=by
  refine yD2.2 λx hx=>zYu λe=>?_
  obtain⟨i,hi,rfl⟩:=yAz hx;simp only[zY5]at hi;have q1:=hlt k hk i zB;have q2:l.getD i default=l[i]:=by simp[List.getD,show i<l.length by omega]
  rw[List.getElem_take]at e;rw[q2,e,he]at q1;omega
 have h2:rmV (l.drop (k+1)) id=l.drop (k+1):=by
  refine yD2.2 λx hx=>zYu λe=>?_
  obtain⟨i,hi,rfl⟩:=yAz hx;simp only[zZk]at hi;have q1:=hlt (k+1+i) zB k zB;have q2:l.getD (k+1+i) default=l[k+1+i]:=by simp[List.getD,show k+1+i<l.length by omega]
  rw[List.getElem_drop]at e;rw[q2,e,he]at q1;omega
 conv=>lhs;rw[e1]
 unfold rmV at h1 h2⊢;rw[yBz,List.filter_cons,zYo (by rw[<-e0,he];simp),h1,h2]
theorem zE2 (l:List Vh) (hn:l.length<=1000000) (id:Int):yU [zD vQ l,iA id] [] (if GI l=true then(if(rmV l id).length=l.length then .tup [.sl false [],iA 12]else .tup [zD vQ (rmV l id),iA 0])else .tup [.sl false [],iA 1]) []:=yG
theorem DM (l:List Vh) (hn:l.length<=1000) (id:Int):∃(l':List Vh) (e:Int),((0<=e/\e<=100)/\(e≠0->l'=[]))/\l'.length<=l.length/\zO 264 [zD vQ l,iA id] [] (.tup [zD vQ l',iA e]) []/\yU [zD vQ l,iA id] [] (.tup [zD vQ l',iA e]) []:=by
 have hll:=zA vQ l;have p2:=UO l zB;have c:=zE2 l zB id;obtain⟨k,k1,k2,k3⟩:=FF l id;have p3:=NE l id zB k k1 k2 k3
 cases hv:GI l with
 |false=>
  rw[hv]at p2 c;rw[zYo zZb]at c;refine⟨[],1,⟨zB,λ_=>rfl⟩,by simp,?_,c⟩;refine eM call264 λF hF=>?_
  refine WLo p2 ?_;exact zL
 |true=>
 have hpl:=TY (id:=id) hv k1 k2 k3;rw[hv]at p2 c;rw[zYp rfl]at c
 cases hh:TJ l id with
 | false=>
  rw[zYp (by rw[zI5 hh])]at c;refine⟨[],12,⟨zB,λ_=>rfl⟩,by simp,?_,c⟩
  have hne:∀hk:k<l.length,(l.getD k default).id≠id:=λhk e=>by
   rw[hpl.2 ⟨hk,e⟩]at hh;cases hh
  clear hpl k2 k3 c;by_cases hk:k<l.length
  ·have hy:=zN vQ l k hk;have hne:=hne hk;generalize l.getD k default=x at *;refine eM call264 λF hF=>?_
   refine MM (vD p2 p3) ?_;exact zL
  ·clear hne;refine eM call264 λF hF=>?_
   refine MM (vD p2 p3) ?_;exact zL
 |true=>
  obtain⟨hk,he⟩:=hpl.1 hh;have er:=zI6 hv hk he;have hlen:(rmV l id).length=l.length-1:=by rw[er];simp;omega
  rw[zYo zB]at c;refine⟨rmV l id,0,⟨zB,λh=>absurd rfl h⟩,zB,?_,c⟩;have c4:=zI4 (l.take (k:Int).toNat) (l.drop ((k:Int)+1).toNat) wI wI;rw[show l.take (k:Int).toNat++l.drop ((k:Int)+1).toNat=rmV l id by rw[er];congr 1]at c4;have hy:=zN vQ l k hk;clear hpl k2 k3 c er hlen;generalize rmV l id=l' at *;generalize l.getD k default=x at *;refine eM call264 λF hF=>?_
  refine MM (gK p2 p3 c4) ?_;exact zL
theorem zRe (t:Tk):zO 302 [xE t] [] (bA (!t.used)) []:=by
 obtain⟨u,a,b,c,d,e⟩:=t
 cases u with
 |true=>
  rw[show xE ⟨true,a,b,c,d,e⟩= .agg [bA true,zD yA a,iA b,iA c,iA d,iA e]from rfl];refine eM call302 λF hF=>?_
  refine WW ?_;exact zL
 |false=>
  rw[show xE ⟨false,a,b,c,d,e⟩= .agg [bA false,zD yA a,iA b,iA c,iA d,iA e]from rfl];refine eM call302 λF hF=>?_
  refine WW ?_;exact zL
theorem zWs (l:List Tk) (hn:l.length<=1000000) (k:Nat) (hk:k<l.length) (h1:∀i,i<k->(l.getD i default).used=true) (h2:(l.getD k default).used=false):zO 301 [zD xE l,.fn 302 []] [] (iA k) []:=by
 have hl:=zA xE l;refine eM call301 λF hF=>?_
 refine WW ?_;refine xV (l.length) [] [] [0,1,7] [8,0,1,7] rfl (λi T U zs=>(i<=k)/\zs=⟨(8,iA i)::T,U⟩) ?_;(conv=>whnf);refine⟨?_,?_,?_⟩
 ·exact⟨zY4 _,rfl⟩
 ·rintro i st hi ⟨hik,rfl⟩;have hy:=zN xE l i hi;have c:=zRe (l.getD i default);by_cases hie:i=k
  ·subst hie;rw[h2]at c;generalize l.getD i default=t at *;refine zW c ?_;exact zL
  ·rw[h1 i zB]at c;generalize l.getD i default=t at *;refine zW c ?_;exact⟨zB,rfl⟩
 ·rintro st ⟨hik,rfl⟩;exfalso;omega
def BO (life now:Int):Int:=if 0<life then now+life else 0
theorem zO7 (l:List Tk) (k:Nat) (t:Tk) (n:Nat) (hn:n=l.length):zD xE (l.set k t)= .sl false (((l.map xE).set k (xE t)).take n):=by
 rw[<-yAw,zYy wI];rfl
def T0K (l o:List Tk):Prop:=(l.getD 0 default).used=true->(l.getD 0 default).par= -1->o.getD 0 default=l.getD 0 default
def zE3 (l:List Tk) (s:Int) (j:Nat):Tk:=if deF l j s=true then frT else l.getD j default
def TE (l:List Tk) (s:Int) (n:Nat):List Tk:=(List.range l.length).map λj=>if j<n then zE3 l s j else l.getD j default
theorem QL (l:List Tk) (s:Int) (n:Nat):(TE l s n).length=l.length:=by simp[TE]
theorem zI7 (l:List Tk) (s:Int):TE l s 0=l:=by
 apply zZ9;intro i;unfold TE;rw[zYt];by_cases h:i<l.length
 ·rw[zZr h];simp[h,List.getD]
 ·rw[zZj (l:=List.range l.length) wI,zZj zB];rfl
theorem zTs (l:List Tk) (s:Int) (n:Nat) (h:n<l.length):(TE l s n)[n]? =some (l.getD n default):=by
 unfold TE;rw[zYt,zZr h];simp
theorem zI8 (l:List Tk) (s:Int) (n:Nat) (h:n<l.length):TE l s (n+1)=(TE l s n).set n (zE3 l s n):=by
 apply zZ9;intro i;rw[yAx];unfold TE;rw[zYt,zYt,zYq,yAe];by_cases hi:i<l.length
 ·rw[zZr hi];by_cases e:n=i
  ·subst e;rw[zYp rfl,zYp hi];simp
  ·rw[zYo e];simp only[Option.map_some];by_cases h1:i<n
   ·rw[zYp h1,zYp zB]
   ·rw[zYo h1,zYo zB]
 ·rw[zZj (l:=List.range l.length) wI,zYo zB];rfl
theorem zE4 (l:List Tk) (hb:GJ l) (hv:ML l=true) (s:Int) (hs:1<=s/\s<8) (h8:l.length=8) (hu:(l.getD s.toNat default).used=true):zO 261 [zD xE l,iA s] [] (.tup [zD xE (TE l s l.length),iA 0]) []:=by
 have c1:=VF l;rw[hv]at c1;have c2:=XP l hb;have hll:=zA xE l;have hy:=yP xE l s zB zB;have hd:=λj=>zGs l j s
 have fc:=zAb;generalize l.getD s.toNat default=t at *;obtain⟨u,a1,a2,a3,a4,a5⟩:=t;dsimp only at hu;subst hu;rw[show xE ⟨true,a1,a2,a3,a4,a5⟩= .agg [bA true,zD yA a1,iA a2,iA a3,iA a4,iA a5]from rfl]at hy;refine eM call261 λF hF=>?_
 refine xA (vD c1 c2) ?_;refine zP (l.length) [1001] [] [0,1,6,26] [27,0,1,6,26] rfl (λi T U=>⟨(27,iA i)::T,(1001,.arr 6 ((TE l s i).map xE) false)::U⟩) ?_;(conv=>whnf);refine⟨by(rw[zI7];rfl),?_,?_⟩
 ·intro i hi;have hyi:((TE l s i).map xE)[i]? =some (xE (l.getD i default)):=by rw[zYt,zTs l s i hi];rfl
  have c3:=hd i;have hrl:i<((TE l s i).map xE).length:=by rw[zYq,QL];exact hi
  rw[zI8 l s i hi,yAw];have hset:(l.getD i default)=(l.getD i default):=rfl
  have hsame:((TE l s i).map xE).set i (xE (l.getD i default))=(TE l s i).map xE:=by
   rw[zZg]at hyi;obtain⟨h,e⟩:=hyi;rw[<-e,yDx]
  unfold zE3
  cases hde:deF l i s with
  |true=>
   rw[hde]at c3;rw[zYp rfl];generalize (TE l s i).map xE=xs at *;generalize l.getD i default=ti at *;clear hsame hset hd c1 c2;refine xA (vD c3 fc) ?_;rfl
  |false=>
   rw[hde]at c3;rw[zYo zZb,hsame];generalize (TE l s i).map xE=xs at *;clear hsame hset hd c1 c2 fc;refine zW c3 ?_;rfl
 ·have hle:=QL l s l.length;rw[show zD xE (TE l s l.length)= .sl false (((TE l s l.length).map xE).take (l.map xE).length) by rw[zYy (by simp[hle])];rfl];generalize (TE l s l.length).map xE=xs at *;refine WW ?_;exact zL
def GL (l:List Tk) (k:Nat) (e:Int) (t:Tk):List Tk:=if e=0 then l.set k t else []
theorem zI9 {P:Nat->Prop}:∀n,P n->∃m,m<=n/\P m/\∀k,k<m->¬P k:=by
 intro n
 induction n using Nat.strongRecOn with
 |_ n ih=>
  intro h;by_cases hx:∃k,k<n/\P k
  ·obtain⟨k,h1,h2⟩:=hx;obtain⟨m,h3,h4,h5⟩:=ih k h1 h2;exact⟨m,zB,h4,h5⟩
  ·exact⟨n,zYs _,h,λk h1 h2=>hx ⟨k,h1,h2⟩⟩
theorem zTt (l:List Tk) (hn:l.length<=1000000) (h1:∀i,i<l.length->(l.getD i default).used=true):zO 301 [zD xE l,.fn 302 []] [] (iA (-1)) []:=by
 have hl:=zA xE l;refine eM call301 λF hF=>?_
 refine WW ?_;refine zP (l.length) [] [] [0,1,7] [8,0,1,7] rfl (λi T U=>⟨(8,iA i)::T,U⟩) ?_;(conv=>whnf);refine⟨by rfl,?_,?_⟩
 ·intro i hi;have hy:=zN xE l i hi;have c:=zRe (l.getD i default);rw[h1 i hi]at c;generalize l.getD i default=t at *;refine zW c ?_;rfl
 ·(refine WW ?_)
  exact zL
def zJa (l:List Tk) (p R c life now:Int):Prop:=∃(k:Nat) (e:Int),(0<=e/\e<=20)/\(k=0∨k<l.length)/\(e=0->ML l=true/\0<=p/\p<l.length/\(l.getD k default).used=false)/\∀sec:List Int,(sec.length:Int)=8->
 zO 283 [zD xE l,iA p,iA R,iA c,iA life,zD yA sec,iA now] [] (.tup [zD xE (GL l k e ⟨true,sec,p,R,c,BO life now⟩),iA k,iA e]) []/\
 yU [zD xE l,iA p,iA R,iA c,iA life,zD yA sec,iA now] [] (.tup [zD xE (GL l k e ⟨true,sec,p,R,c,BO life now⟩),iA k,iA e]) []
theorem dL {l:List Tk} {p R c life now:Int} (e:Int) (h1:1<=e) (h2:e<=20) (h:∀sec:List Int,(sec.length:Int)=8->zO 283 [zD xE l,iA p,iA R,iA c,iA life,zD yA sec,iA now] [] (.tup [zD xE [],iA 0,iA e]) []/\yU [zD xE l,iA p,iA R,iA c,iA life,zD yA sec,iA now] [] (.tup [zD xE [],iA 0,iA e]) []):zJa l p R c life now:=
 ⟨0,e,⟨zB,h2⟩,.inl rfl,λh0=>by omega,λsec hs=>by
  have hd:GL l 0 e ⟨true,sec,p,R,c,BO life now⟩=[]:=by unfold GL;rw[zYo zB]
  rw[hd]
  exact h sec hs⟩
theorem DN (l:List Tk) (hb:GJ l) (p R c life now:Int):zJa l p R c life now:=by
 have hn:=hb.n;have hll:=zA xE l;have c1:=VF l;have r1:=LI l;rw[<-zG4]at r1
 cases hv:ML l with
 | false=>
  rw[hv]at c1 r1
  exact dL 1 zB zB λsec hs=>⟨by
   have hls:=zA yA sec;refine eM call283 λF hF=>?_
   refine zW c1 ?_
   exact zL,by
   have hls:=zA yA sec
   exact yG⟩
 |true=>
 rw[hv]at c1 r1;have h8:(l.length:Int)=8:=by unfold ML at hv;rw[zY6,zYx]at hv;exact hv.1
 by_cases hn0:0<=now
 case neg=>
  exact dL 1 zB zB λsec hs=>⟨by
   have hls:=zA yA sec;refine eM call283 λF hF=>?_
   refine zW c1 ?_
   exact zL,by
   have hls:=zA yA sec
   exact yG⟩
 by_cases hn1:now<=1073741824
 case neg=>
  exact dL 1 zB zB λsec hs=>⟨by
   have hls:=zA yA sec;refine eM call283 λF hF=>?_
   refine zW c1 ?_
   exact zL,by
   have hls:=zA yA sec
   exact yG⟩
 have c2:=zAa l p;by_cases hp0:0<=p
 case neg=>
  rw[show fP l p=false by unfold fP;rw[zYw (λh=>hp0 h.1)];rfl]at c2
  exact dL 12 zB zB λsec hs=>⟨by
   have hls:=zA yA sec;refine eM call283 λF hF=>?_
   refine xA (vD c1 c2) ?_
   exact zL,by
   have hls:=zA yA sec
   exact yG⟩
 by_cases hp1:p<l.length
 case neg=>
  rw[show fP l p=false by unfold fP;rw[zYw (λh=>hp1 h.2)];rfl]at c2
  exact dL 12 zB zB λsec hs=>⟨by
   have hls:=zA yA sec;refine eM call283 λF hF=>?_
   refine xA (vD c1 c2) ?_
   exact zL,by
   have hls:=zA yA sec
   exact yG⟩
 have hy:=yP xE l p hp0 hp1;have hus:fP l p=(l.getD p.toNat default).used:=by unfold fP;rw[zYu ⟨hp0,hp1⟩,zZh]
 rw[hus]at c2;have c3:=FO R (l.getD p.toNat default).rights;have r3:=zEf R (l.getD p.toNat default).rights;have c4:=zBy (BO life now) (l.getD p.toNat default).til;have r4:=zHe (BO life now) (l.getD p.toNat default).til
 have hun:BO life now=if 0<life then now+life else 0:=rfl
 generalize BO life now=un at *;clear hus;generalize l.getD p.toNat default=t at *;obtain⟨u,t1,t2,t3,t4,t5⟩:=t;rw[show∀u,xE ⟨u,t1,t2,t3,t4,t5⟩= .agg [bA u,zD yA t1,iA t2,iA t3,iA t4,iA t5]from λ_=>rfl]at hy;dsimp only at*
 cases u with
 | false=>
  exact dL 12 zB zB λsec hs=>⟨by
   have hls:=zA yA sec;refine eM call283 λF hF=>?_
   refine xA (vD c1 c2) ?_
   exact zL,by
   have hls:=zA yA sec
   exact yG⟩
 |true=>
 cases hw:wiF R t3 with
 | false=>
  rw[hw]at c3 r3
  exact dL 8 zB zB λsec hs=>⟨by
   have hls:=zA yA sec;refine eM call283 λF hF=>?_
   refine xA (gK c1 c2 c3) ?_
   exact zL,by
   have hls:=zA yA sec
   exact yG⟩
 |true=>
 rw[hw]at c3 r3;by_cases hc0:0<=c
 case neg=>
  exact dL 8 zB zB λsec hs=>⟨by
   have hls:=zA yA sec;refine eM call283 λF hF=>?_
   refine xA (gK c1 c2 c3) ?_
   exact zL,by
   have hls:=zA yA sec
   exact yG⟩
 by_cases hc1:c<=t4
 case neg=>
  exact dL 8 zB zB λsec hs=>⟨by
   have hls:=zA yA sec;refine eM call283 λF hF=>?_
   refine xA (gK c1 c2 c3) ?_
   exact zL,by
   have hls:=zA yA sec
   exact yG⟩
 by_cases hl0:0<=life
 case neg=>
  exact dL 8 zB zB λsec hs=>⟨by
   have hls:=zA yA sec;refine eM call283 λF hF=>?_
   refine xA (gK c1 c2 c3) ?_
   exact zL,by
   have hls:=zA yA sec
   exact yG⟩
 by_cases hl1:life<=600
 case neg=>
  exact dL 8 zB zB λsec hs=>⟨by
   have hls:=zA yA sec;refine eM call283 λF hF=>?_
   refine xA (gK c1 c2 c3) ?_
   exact zL,by
   have hls:=zA yA sec
   exact yG⟩
 cases hla:laF un t5 with
 | true=>
  rw[hla]at c4 r4;by_cases h0:0<life
  ·rw[zYp h0]at hun;subst hun
   exact dL 8 zB zB λsec hs=>⟨by
    have hls:=zA yA sec;refine eM call283 λF hF=>?_
    refine xA (aG c1 c2 c3 c4) ?_
    exact zL,by
    have hls:=zA yA sec
    exact yG⟩
  ·rw[zYo h0]at hun;subst hun
   exact dL 8 zB zB λsec hs=>⟨by
    have hls:=zA yA sec;refine eM call283 λF hF=>?_
    refine xA (aG c1 c2 c3 c4) ?_
    exact zL,by
    have hls:=zA yA sec
    exact yG⟩
 |false=>
 rw[hla]at c4 r4;clear hla hw;by_cases hex:∃k,k<l.length/\(l.getD k default).used=false
 case neg=>
  have hall:∀i,i<l.length->(l.getD i default).used=true:=λi hi=>by
   cases h:(l.getD i default).used with
   |true=>rfl
   |false=>exact absurd ⟨i,hi,h⟩ hex
  have c5:=zTt l hn hall
  rcases(show(0<life/\BO life now=now+life)∨(¬0<life/\BO life now=0) by unfold BO;by_cases h:0<life;exact .inl ⟨h,zYp h⟩;exact .inr ⟨h,zYo h⟩)with⟨h0,hu0⟩|⟨h0,hu0⟩
  ·rw[zYp h0]at hun;subst hun
   exact dL 10 zB zB λsec hs=>⟨by
    have hls:=zA yA sec;refine eM call283 λF hF=>?_
    refine xA (zt5 c1 c2 c3 c4 c5) ?_
    exact zL,by
    have hls:=zA yA sec
    exact yG⟩
  ·rw[zYo h0]at hun;subst hun
   exact dL 10 zB zB λsec hs=>⟨by
    have hls:=zA yA sec;refine eM call283 λF hF=>?_
    refine xA (zt5 c1 c2 c3 c4 c5) ?_
    exact zL,by
    have hls:=zA yA sec
    exact yG⟩
 obtain⟨k0,hk0,hu0⟩:=hex;obtain⟨k,_,⟨hk,hkf⟩,hkm⟩:=zI9 (P:=λk=>k<l.length/\(l.getD k default).used=false) k0 ⟨hk0,hu0⟩
 have hbe:∀i,i<k->(l.getD i default).used=true:=λi hi=>by
  cases h:(l.getD i default).used with
  |true=>rfl
  |false=>exact absurd ⟨zB,h⟩ (hkm i hi)
 have c5:=zWs l hn k hk hbe hkf;have c6:=XP l hb;have r6:=AT l hb;refine⟨k,0,zB,.inr hk,λ_=>⟨hv,hp0,hp1,hkf⟩,λsec hs=>?_⟩;have hd:∀x:Tk,GL l k 0 x=l.set k x:=λx=>by unfold GL;rw[zYp rfl]
 rw[hd];have c7:=wK sec zB;have hls:=zA yA sec;have hyk:=zN xE l k hk;have eS:=zO7 l k ⟨true,sec,p,R,c,BO life now⟩ (l.map xE).length hll;rw[eS];clear eS hd;rw[show BO life now=if 0<life then now+life else 0 from rfl];by_cases h0:0<life
 ·rw[zYp h0]at hun⊢;subst hun;refine⟨?_,?_⟩
  ·clear r1 r3 r4 r6 hbe hkm hkf;generalize l.getD k default=tk at *;refine eM call283 λF hF=>?_
   refine xA (zt7 c1 c2 c3 c4 c5 c6 c7) ?_;exact zL
  ·clear c1 c2 c3 c4 c5 c6 c7;exact yG
 ·rw[zYo h0]at hun⊢;subst hun;refine⟨?_,?_⟩
  ·clear r1 r3 r4 r6 hbe hkm hkf;generalize l.getD k default=tk at *;refine eM call283 λF hF=>?_
   refine xA (zt7 c1 c2 c3 c4 c5 c6 c7) ?_;exact zL
  ·clear c1 c2 c3 c4 c5 c6 c7;exact yG
theorem zWt (l:List Tk) (s:Int) (h8:l.length=8):TE l s l.length=frB (λi=>ldF l 9 i s) l 8:=by
 unfold TE frB;apply yB7;intro j hj;have hj:=zZi.1 hj;unfold zE3;rw[zYp hj,zQ2 h8];by_cases h:ldF l 9 j s=true
 ·rw[zYp h,zYp ⟨zB,h⟩]
 ·rw[zYo h,zYo (λk=>h k.2)]
theorem YJ:GJ []:=⟨by simp,λt h=>by simp at h⟩
theorem zTu {l:List Tk} (hb:GJ l) (s:Int) (n:Nat):GJ (TE l s n):=by
 refine⟨by rw[QL];exact hb.n,λt ht=>?_⟩
 have hg:∀j,(l.getD j default).sec.length<=1000000:=λj=>by
  by_cases h:j<l.length
  ·exact hb.s _ (by simp[List.getD,h])
  ·rw[show l.getD j default=default by simp[List.getD,h]];exact zY4 _
 unfold TE at ht;rw[zZ3]at ht;obtain⟨j,_,rfl⟩:=ht;split
 ·unfold zE3;split
  ·exact zY4 _
  ·exact hg j
 ·exact hg j
theorem zTv {l:List Tk} {s:Int} (h1:1<=s) (h8:1<=l.length):T0K l (TE l s l.length):=λhu hp=>by
 have e:deF l 0 s=false:=by
  unfold deF;rw[jF,show fP l 0=true by unfold fP;rw[zYu ⟨yAu 0,zB⟩,zZh];exact hu,zZ8];rw[show(0:Int).toNat=0 from rfl,hp];rw[jF,show fP l (-1)=false by unfold fP;rw[zYw zB,yAf],yAp];simp;omega
 unfold TE;rw[zY0,zYt,zZr zB,Option.map_some,yA1,zYp zB];unfold zE3;rw[show((0:Nat):Int)=0 from rfl,e,zYo zZb]
theorem DO (l:List Tk) (hb:GJ l) (s:Int):∃(o:List Tk) (e:Int),(0<=e/\e<=20)/\GJ o/\(e=0->o.length=l.length/\T0K l o)/\zO 261 [zD xE l,iA s] [] (.tup [zD xE o,iA e]) []/\yU [zD xE l,iA s] [] (.tup [zD xE o,iA e]) []:=by
 have hn:=hb.n;have hll:=zA xE l;have c1:=VF l;have r1:=LI l;rw[<-zG4]at r1
 cases hv:ML l with
 | false=>
  rw[hv]at c1 r1;refine⟨[],1,zB,YJ,λh=>absurd h xN,?_,?_⟩
  ·(refine eM call261 λF hF=>?_)
   refine zW c1 ?_;exact zL
  ·exact yG
 |true=>
 rw[hv]at c1 r1;have h8:l.length=8:=by unfold ML at hv;rw[zY6,zYx]at hv;omega
 by_cases h1:1<=s
 case neg=>
  refine⟨[],8,zB,YJ,λh=>absurd h xN,?_,?_⟩
  ·(refine eM call261 λF hF=>?_)
   refine zW c1 ?_;exact zL
  ·exact yG
 by_cases h2:s<8
 case neg=>
  refine⟨[],8,zB,YJ,λh=>absurd h xN,?_,?_⟩
  ·(refine eM call261 λF hF=>?_)
   refine zW c1 ?_;exact zL
  ·exact yG
 have hy:=yP xE l s zB zB
 cases hu:(l.getD s.toNat default).used with
 | false=>
  rw[show xE (l.getD s.toNat default)=NX false (l.getD s.toNat default) by unfold xE NX;rw[hu]]at hy;unfold NX at hy;generalize l.getD s.toNat default=t at *;refine⟨[],12,zB,YJ,λh=>absurd h xN,?_,?_⟩
  ·(refine eM call261 λF hF=>?_)
   refine zW c1 ?_;exact zL
  ·exact yG
 |true=>
  have cr:=zE4 l hb hv s ⟨h1,h2⟩ h8 hu;have b1:=zNz l s h8;rw[h8]at b1;have b2:=zN0 l hb (λi=>ldF l 9 i s) h8;rw[<-zWt l s h8]at b2;rw[show xE (l.getD s.toNat default)=NX true (l.getD s.toNat default) by unfold xE NX;rw[hu]]at hy;unfold NX at hy;refine⟨TE l s l.length,0,zB,zTu hb s _,λ_=>⟨QL l s _,zTv zB zB⟩,cr,?_⟩;clear cr hu;generalize TE l s l.length=l2 at *;generalize eV (λi=>ldF l 9 i s) 8=b at *;generalize l.getD s.toNat default=t at *;exact yG
def RQ (r:Rg):xP:= .box [iA r.num,zD yA r.ag.sec,iA r.ag.rights,iA r.ag.cls,zD iA r.ag.lim,iA r.ag.req,iA r.ag.ses,iA r.ag.rate,iA r.ag.burst,zD xE r.tk,zD vQ r.vh,iA r.bk.level,iA r.bk.rate,iA r.bk.burst]
def rgT (r:Rg) (l:List Tk):Rg:=⟨r.num,r.ag,l,r.vh,r.bk⟩
theorem zRf (m:Ms) (a:Int) (ha:m.args=[a]):zO 262 [yB m] [] (yB ⟨14,[],[m.kind,a],[]⟩) []:=by
 obtain⟨k,t,ar,d⟩:=m;dsimp only at ha⊢;subst ha;have hl1:([a].map iA).length=1:=rfl;refine eM call262 λF hF=>?_
 refine WL ?_;exact zL
end Av
end Go.Proofs.YtmamjhmoegjapaaGreat
