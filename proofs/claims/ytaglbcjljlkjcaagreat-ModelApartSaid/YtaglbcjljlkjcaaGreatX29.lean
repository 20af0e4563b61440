/- Part 29. -/
import Derived.Test.YtaglbcjljlkjcaaGreatX28
namespace Go.Proofs.YtaglbcjljlkjcaaGreat.Av
open Tryz
set_option linter.all false
set_option maxRecDepth 4000
set_option maxHeartbeats 16000000
open List renaming length->ln,replicate->pb,take->pi,getD->py
open Inhabited renaming default->dd
theorem Kg (u z:Nat) (c:Int):∀(l:List Int) (i:Nat),(ZC u z c i l).length=((l.map jQ).flatten).length+(if i<=u/\u<i+ln l/\z≠0 then 1 else 0)
 | [],i=>by
  rw[Os (by rintro⟨h1,h2,_⟩;simp at h2;omega)];rfl
 | x::l,i=>by
  have A:=Kg u z c l (i+1);rw[ZC,zBa,zBa,A,zCo,zD4,zBa,zBl];by_cases h1:i=u/\z≠0
  .rw[zA5 h1,Os zB,zA5 zB];simp only[zBl,zCd];omega
  .rw[Os h1];by_cases h2:i+1<=u/\u<i+1+ln l/\z≠0
   .rw[zA5 h2,zA5 zB];simp only[zCd];omega
   .rw[Os h2,Os zB];simp only[zCd];omega
def lr {k:Int} {u A:List Int} (h:V6 k u A) (B C c:Nat):(dL B C c ⟨k,[],u,A⟩).length<=200:=by
 have E:=h.z
 grind [dL,Kg,List.length_append,List.length_cons,List.length_nil]
theorem oe {k:Int} {u B:List Int} (h:V6 k u B):zO 69 [zX ⟨k,[],u,B⟩] [] (bA true) []:=by
 have E:=A6 k h.kk;have Y:=bC k;have hk:=h.kk;rw[zA7 zB]at Y;have hz:=h.z;have I:=h.n;have hl:=h.l;have au:=zA iA u;have av:=zA yA B;have ap:ln B<=200:=by omega
 have hd:=h.d;have O:=lr h;have G:k=13\/k=14\/k=15\/k=16\/k=17\/k=18\/k=19\/k=20\/k=21:=by omega
 rcases h.g with⟨g1,M⟩|⟨g1,gr,M,g3,g4,g5⟩
 .have ag:(jP k).2.2.2.2= -1\/0<=(jP k).2.2.2.2:=by omega
  generalize (jP k).2.2.1=lo,(jP k).2.2.2.1=hi at *;rw[g1,<-M]at E;have R:=HJ k (ln u) 0 lo hi _ E zB ⟨k,[],u,B⟩ 0 Z zV MK I MK (λh=>absurd Z h) zB;have O:=O (ln u) 0 0;generalize dL (ln u) 0 0 ⟨k,[],u,B⟩=W at *;have S:=zA yA W;generalize (jP k).2.2.2.2=sd at *;clear G g1 hz h;unfold zX at *;dsimp only at*
  rcases ag with hs|hs
  all_goals
   refine eM call69 λF hF=>?_
   refine yJ (xW E Y) ?_;refine zU (u) [1] [1] [1,97,98] [99,1,97,98] Z (λi f4 T U=>⟨(99,iA i)::T,U⟩) (Lq ?_ ?_)
   .intro i f4 x post A hi;have hy:=yG iA A hi;have L:=zW A hi;have V:=I x (yY A);clear A I;refine WW ?_;rfl
   .exact ng R
 .have ac:k=18\/k=19:=by
   rcases G with rfl|rfl|rfl|rfl|rfl|rfl|rfl|rfl|rfl<;>first|exact .inl Z|exact .inr Z|(exfalso;revert g1;decide)
  obtain⟨C,rfl⟩:∃C:Nat,gr=(C:Int):=⟨gr.toNat,zB⟩
  rcases ac with rfl|rfl
  .have M:(ln u:Int)=1+3*(C:Int):=M;have g5:(C:Int)<=16:=g5;have E:zO 141 [iA 18] [] (.agg [iA 1,iA 3,iA 0,iA 16,iA 0]) []:=E;have hd:(ln B:Int)=0:=hd.elim (λh=>absurd h xA) id;have R:=HJ 18 1 3 0 16 0 E zB ⟨18,[],u,B⟩ C Z zV MK I MK (λ_=>by dsimp only;omega) zB;have O:=O 1 3 C;generalize dL 1 3 C ⟨18,[],u,B⟩=W at *;have S:=zA yA W;have hm:(((u.map iA).length:Int)-1).tmod 3=0:=by rw[zCg zB];omega
   clear G hz h;unfold zX at *;dsimp only at *;refine eM call69 λF hF=>?_
   refine yJ (xW E Y) ?_;refine zU (u) [1] [1] [1,97,98] [99,1,97,98] Z (λi f4 T U=>⟨(99,iA i)::T,U⟩) (Lq ?_ ?_)
   .intro i f4 x post A hi;have hy:=yG iA A hi;have L:=zW A hi;have V:=I x (yY A);clear A I;refine WW ?_;rfl
   .exact ng R
  .have M:(ln u:Int)=0+2*(C:Int):=M;have g5:(C:Int)<=4:=g5;have E:zO 141 [iA 19] [] (.agg [iA 0,iA 2,iA 0,iA 4,iA 0]) []:=E;have hd:(ln B:Int)=0:=hd.elim (λh=>absurd h xA) id;have R:=HJ 19 0 2 0 4 0 E zB ⟨19,[],u,B⟩ C Z zV MK I MK (λ_=>by dsimp only;omega) zB;have O:=O 0 2 C;generalize dL 0 2 C ⟨19,[],u,B⟩=W at *;have S:=zA yA W;have hm:(((u.map iA).length:Int)-0).tmod 2=0:=by rw[zCg zB];omega
   clear G hz h;unfold zX at *;dsimp only at *;refine eM call69 λF hF=>?_
   refine yJ (xW E Y) ?_;refine zU (u) [1] [1] [1,97,98] [99,1,97,98] Z (λi f4 T U=>⟨(99,iA i)::T,U⟩) (Lq ?_ ?_)
   .intro i f4 x post A hi;have hy:=yG iA A hi;have L:=zW A hi;have V:=I x (yY A);clear A I;refine WW ?_;rfl
   .exact ng R
def QB (u j:Int) (x:Rq) (g:Lg):List Cl:=if g.jn=j/\g.sc≠ -1 then [⟨u,x.id,g.ph,x.cls,g.sc⟩]else []
def cK (u j:Int) (x:Rq) (l:List Lg):List Cl:=(l.map (QB u j x)).flatten
def gj (u j:Int) (x:Rq) (l:List Lg) (g:Lg):cK u j x (l++[g])=cK u j x l++QB u j x g:=by simp[cK]
theorem SD {u j:Int} {x:Rq}:∀{l:List Lg},(∀g∈l,g.jn≠j)->cK u j x l=[]
 | [],_=>rfl
 |g::l,h=>by
  show QB u j x g++cK u j x l=[]
  rw[SD λy z=>h y (by simp[z])];unfold QB;rw[Os (λe=>h g zV e.1)];rfl
theorem Ea (u j:Int) (x:Rq):∀l:List Lg,(cK u j x l).length<=ln l
 | []=>zBb _
 |g::l=>by
  have z:=Ea u j x l;have e:cK u j x (g::l)=QB u j x g++cK u j x l:=rfl
  have h1:(QB u j x g).length<=1:=by unfold QB;split<;>simp
  rw[e,zBa,zBl];omega
theorem Jg:∀{post q:List Lg} {x:Lg},kO q post=true->x∈q->∀y∈post,y.jn≠x.jn
 |y::post,q,x,h,A,z,u=>by
  unfold kO at h;simp only[zBg,zDo]at h;obtain⟨_,h1,h2⟩:=h
  rcases zCt.1 u with rfl|u
  .intro e;have:=zDp.1 h1 x A;rw[e]at this;simp at this
  .exact Jg h2 (List.mem_append_left _ A) z u
theorem HC:∀(f4:List Lg) {u post:List Lg} {x:Lg},kO u (f4++x::post)=true->∀y∈post,y.jn≠x.jn
 | [],u,post,x,h=>by
  rw[zEf]at h;unfold kO at h;simp only[zBg]at h;exact Jg h.2.2 zV
 |a::f4,u,post,x,h=>by
  rw[zEl]at h;unfold kO at h;simp only[zBg]at h;exact HC f4 h.2.2
def sr {A j:Int} {x:Rq} (h:kO [] x.legs=true):cK A j x x.legs=NA A j x:=by
 unfold NA;generalize hl:x.legs=l at *;by_cases G:∃g∈l,g.jn=j
 case neg=>
  have I:∀g∈l,g.jn≠j:=λg u e=>G ⟨g,u,e⟩
  rw[SD I,bX (λy z=>by simpa using I y z),zA5 xA]
 obtain⟨f4,g,post,e,L,u⟩:∃f4 g post,l=f4++g::post/\(∀y∈f4,y.jn≠j)/\g.jn=j:=by
  clear h hl
  induction l with
  |nil=>obtain⟨g,u,_⟩:=G;cases u
  | cons a l U=>
   by_cases C:a.jn=j
   .exact⟨[],a,l,rfl,(λy z=>(by cases z)),C⟩
   .obtain⟨g,u,e⟩:=G
    rcases zCt.1 u with rfl|u
    .exact absurd e C
    obtain⟨f4,R,post,e1,M,e3⟩:=U ⟨g,u,e⟩;exact⟨a::f4,R,post,(by rw[e1];rfl),(λy z=>(zCt.1 z).elim (λh=>h▸C) (M y)),e3⟩
 have S:=HC f4 (e▸h);have hi:=OI (p:=λr:Lg=>r.jn==j) e (λy z=>by simpa using L y z) (by simpa using u);rw[hi,Os zB,zBx];have E:l.getD (ln f4) dd=g:=by rw[e];simp[py]
 rw[E];have O:cK A j x l=cK A j x f4++(QB A j x g++cK A j x post):=by rw[e];simp[cK]
 rw[O,SD L,SD (λy z=>by rw[<-u];exact S y z),zEf,zB0];unfold QB;by_cases B:g.sc= -1
 .rw[zA5 B,Os (λh=>h.2 B)]
 .rw[Os B,zA5 ⟨u,B⟩]
def Da (l:List Rq) (z j:Int) (hn:ln l<=1000) (hb:∀r∈l,ln r.legs<=1000) (hv:∀r∈l,kO [] r.legs=true):zO 90 [zE zY l,iA z,iA j] [] (zE qZ (fK z j l)) []:=by
 have hl:=zA zY l;refine eM call90 λF hF=>?_
 refine WW ?_;refine zQ 7 1001 5 Z Z Z ?_;refine zU (l) [1001] [] [1,2,12,13] [7,14,1,2,12,13] Z (λi f4 T U=>⟨(7,.ref 1001 0 ((fK z j f4).map qZ).length)::(14,iA i)::T,(1001,.arr 5 ((fK z j f4).map qZ) true)::U⟩) (Lq ?_ ?_)
 .intro i f4 x post B hi;have hy:=yG zY B hi;have R:=zW B hi;have hq:=dX z j f4;have V:ln f4<=ln l:=by rw[B];simp
  have ac:(x.legs.map yO).length=ln x.legs:=zA6 ..;have W:=hb x (yY B);have C:=Ea z j x;rw[JD,<-sr (hv x (yY B))];clear B;generalize fK z j f4=X at *;unfold zY at hy;have I:X++cK z j x []=X:=by simp[cK]
  refine WW ?_;refine zU (x.legs) [1001,9] [9] [1,2,9,12,13,14,19,20] [7,21,1,2,9,12,13,14,19,20] Z (λi f4 T U=>⟨(7,.ref 1001 0 ((X++cK z j x f4).map qZ).length)::(21,iA i)::T,(1001,.arr 5 ((X++cK z j x f4).map qZ) true)::U⟩) ?_;(conv=>whnf);refine⟨by(rw[I];rfl),?_,?_⟩
  .intro k u g G A hk;have E:=yG yO A hk;have L:=zW A hk;have S:ln u<=ln x.legs:=by rw[A];simp
   have O:=C u;have M:((X++cK z j x u).map qZ).length=ln X+(cK z j x u).length:=by simp
   have e1:(X++cK z j x (u++[g])).map qZ=(X++cK z j x u).map qZ++(QB z j x g).map qZ:=by rw[gj,<-zBy,zBd]
   rw[e1];clear A C e1 I;generalize (X++cK z j x u).map qZ=Y,(cK z j x u).length=n2 at *;unfold yO at E;by_cases h1:g.jn=j
   .by_cases h2:g.sc= -1
    .rw[show QB z j x g=[]from Os (λh=>h.2 h2),zCy,zB0];refine WW ?_;rfl
    .rw[show QB z j x g=[⟨z,x.id,g.ph,x.cls,g.sc⟩]from zA5 ⟨h1,h2⟩];refine WW ?_;rfl
   .rw[show QB z j x g=[]from Os (λh=>h1 h.1),zCy,zB0];refine WW ?_;rfl
  ·(refine WW ?_)
   rfl
 ·(refine WW ?_)
  exact zI [] Z Z (zBq (AV.sl false) zA8) Z
def KU (u:List wE):Prop:=∀i,i<ln u->(u.getD i dd).rg.num=(i:Int)
def Ca (c:Cf) (rf:Bool) (f3:Int) (u:List wE) (j:Int) (hd:ln u<=1000) (hb:∀d∈u,dH d) (hv:∀d∈u,∀r∈d.rq,kO [] r.legs=true) (hN:KU u) (A B C:List AV) (a b e:Nat) (V:List Vw):
  zO 39 [ZB c rf f3 (zE zM u) (.ref 1012 0 a) (.ref 1013 0 b) (.ref 1014 0 e) (zE vV V),iA j] [(1012,.arr 5 A false),(1013,.arr 3 B false),(1014,.arr 1 C false)] (zE qZ (jI j u)) [(1012,.arr 5 A false),(1013,.arr 3 B false),(1014,.arr 1 C false)]:=by
 have hl:=zA zM u;unfold ZB;refine eM call39 λF hF=>?_
 refine WW ?_;refine zQ 5 1001 5 Z Z Z ?_;refine zU (u) [1001,1012,1013,1014] [1012,1013,1014] [1,9,10] [5,11,1,9,10] Z (λi f4 T U=>⟨(5,.ref 1001 0 ((jI j f4).map qZ).length)::(11,iA i)::T,(1001,.arr 5 ((jI j f4).map qZ) true)::U⟩) (Lq ?_ ?_)
 .intro i f4 x post z hi;have hy:=yG zM z hi;have I:=zW z hi;have E:=hb x (yY z)
  have G:x.rg.num=(i:Int):=by
   have:=hN i I
   rwa [show u.getD i dd=x by rw[z,<-hi];simp[py]]at this
  have O:=Da x.rq x.rg.num j E.q E.g (hv x (yY z));have hq:=NB j f4 (λd hd=>(hb d (by rw[z];simp[hd])).q);have S:((jI j f4).map qZ).length=(jI j f4).length:=zA6 ..;have L:=dX x.rg.num j x.rq;have M:((fK x.rg.num j x.rq).map qZ).length=(fK x.rg.num j x.rq).length:=zA6 ..;have R:ln f4<=ln u:=by rw[z];simp
  have W:=E.q;rw[JE,zBd];clear z;generalize (jI j f4).map qZ=X at *;unfold zE at O;rw[G]at O L M⊢;generalize fK (i:Int) j x.rq=Y at *;unfold zM xD at hy;refine zS O ?_;rfl
 ·(refine WW ?_)
  exact zI [1012,1013,1014] Z Z (zBq (AV.sl false) zA8) Z
def Ba (m:Ms) (h1:ln m.tok<=1000) (h2:ln m.args<=1000) (z:ln m.data<=1000):zO 128 [zX m] [] (zX m) []:=by
 have e1:=zA yA m.tok;have u:=zA iA m.args;have e3:=zA yA m.data;unfold zX;refine eM call128 λF hF=>?_
 exact nl
def me (xs:List AV) (G:ln xs<=2000) (m:Ms) (h:ZH m):zO 59 [.ref 1053 0 (ln xs),zX m] [(1053,.arr 4 xs true)] (.ref 1053 0 (xs++[zX m]).length) [(1053,.arr 4 (xs++[zX m]) true)]:=by
 obtain⟨u,S⟩:=h;have hd:=S.z;have A:=Ba m (by rw[u];simp) (by have:=S.l;omega) zB;obtain⟨k,I,C,E⟩:=m;dsimp only at *;subst u;have B:=oe S;clear hd S;unfold zX at *;dsimp only at *;refine eM call59 λF hF=>?_
 (have ga:=B;have ge:=A;(repeat' (first|refine jX ?_|apply yW|apply xH|intro hc|(apply zG;first|(apply yI;refine vD tok Z Z ?_))|refine SB ?_|fail))<;>clear ga ge)
 exact zP [1053] Z Z Z Z
def Ux (m:Ms) (h:ZH m):zO 59 [.s (.slice none 0 0),zX m] [] (zE zX [m]) []:=by
 obtain⟨u,S⟩:=h;have hd:=S.z;have A:=Ba m (by rw[u];simp) (by have:=S.l;omega) zB;obtain⟨k,G,C,E⟩:=m;dsimp only at *;subst u;have B:=oe S;clear hd S;unfold zX at *;dsimp only at *;refine eM call59 λF hF=>?_
 exact nm (xW B A)
def Tx (f3:Int) (v:List Vw) (u:ln v<=1000) (hb:∀w∈v,Ua w):zO 60 [iA f3,zE vV v] [] (zX (QC f3 v)) []:=by
 have k:=ig v u hb;unfold QC zX;dsimp only;generalize aH v=r at *;refine eM call60 λF hF=>?_
 refine VZ k ?_;refine zI [] Z Z ?_ Z
 show AV.agg [iA 21,zE yA [],zE iA [f3],.sl false (pi (r.map yA).length (r.map yA))]=_
 rw[zA8];rfl
def tr (f3:Int) (l:List En) (L:ln l<=100000):zO 62 [iA f3,zE kG l] [] (zX (pj f3 l)) []:=by
 have hl:=zA kG l;have A:((f3::((([]:List En).take 16).map fJ).flatten).map iA)=[iA f3]:=rfl
 have u:∀p:List En,((f3::((p.take 16).map fJ).flatten).map iA).length=1+3*(p.take 16).length:=λp=>by
  rw[zA6,zBl];generalize p.take 16=q
  induction q with
  |nil=>rfl
  |cons a q M=>rw[zCo,zD4,zBa,zBl];show 3+_+1=_;omega
 unfold pj zX;dsimp only;refine eM call62 λF hF=>?_
 refine WW ?_;refine vQ 9 Z ?_;refine zU (l) [9,4] [4] [4,10,11] [5,12,4,10,11] Z (λi f4 T U=>⟨(5,.ref 9 0 ((f3::((f4.take 16).map fJ).flatten).map iA).length)::(12,iA i)::T,(9,.arr 1 ((f3::((f4.take 16).map fJ).flatten).map iA) true)::U⟩) (Lq ?_ ?_)
 .intro i f4 x post z hi;have G:=yG kG z hi;have C:=zW z hi;have E:=u f4;have B:(f4.take 16).length<=16:=by rw[zBv];omega
  clear z A u;unfold kG OQ at G;by_cases I:i<16
  .have e1:(f3::(((f4++[x]).take 16).map fJ).flatten).map iA=(f3::((f4.take 16).map fJ).flatten).map iA++[iA x.ag,iA x.ki,iA x.co]:=by
    rw[zBf (l:=f4++[x]) Wy,zBf (l:=f4) zB];simp[fJ]
   rw[e1];generalize (f3::((f4.take 16).map fJ).flatten).map iA=Y at *;refine WW ?_;rfl
  .have e1:(f4++[x]).take 16=f4.take 16:=by rw[zDf zB]
   rw[e1];generalize (f3::((f4.take 16).map fJ).flatten).map iA=Y at *;refine WW ?_;rfl
 ·(refine WW ?_)
  refine zI [] Z Z ?_ Z
  show AV.agg [iA 18,zE yA [],.sl false (pi ((f3::((l.take 16).map fJ).flatten).map iA).length ((f3::((l.take 16).map fJ).flatten).map iA)),zE yA []]=_
  rw[zA8];rfl
def Zr (g:Cf) (j:Jn) (J:JV j) (s:Sg) (C:CV j s.c) (v:Sv) (l:List Cl) (k f3:Int) (H:Nr g v l f3) (I: -1000000<=(uV g v l f3).gr/\(uV g v l f3).gr<=1000000):zO 58 [wD g,wK j,vG s,wW v,zE qZ l,iA k,iA f3] [] (.tup [vG (ab g j s v l k f3).1,wW (ab g j s v l k f3).2]) []:=by
 have hJ:=J.n;have hn:=C.n;have hm:=C.m;have hb:Te v:=⟨by have:=H.sl;omega⟩;have B:Te (uV g v l f3):=⟨by rw[YR];have:=H.sl;omega⟩;have O:=PP s zB zB;have R:=Hb v hb f3;have E:=oh g v l f3 H;have G:=Hk j J s C (uV g v l f3).ph k;have S:=Hb (uV g v l f3) B f3;have L:=Sk (uV g v l f3) B (Bz (Pe j s (uV g v l f3).ph k) (uV g v l f3)) I;have X:=W0 J C (uV g v l f3).ph k;have V:=X.n;unfold ab;generalize qT v f3=v0,uV g v l f3=z at *;generalize qT z f3=v2 at *;generalize Pe j s z.ph k=x at *;have u:Bz x z=(decide (0<=z.ph/\z.ph<ln x.c.li)&&((xS x.c z.ph.toNat).lamp==1)):=rfl;generalize Bz x z=b at *;generalize gO z b=v3 at *;clear H I X C hb B;obtain⟨sc,Y⟩:=s;obtain⟨A,xl⟩:=x;dsimp only at *;have U:=zA xG A.li
 cases Y with
 |true=>
  rw[zA5 Z];refine eM call58 λF hF=>?_
  exact mx (xW O R)
 |false=>
 rw[Os zBm]
 cases xl with
 |true=>
  rw[zA5 Z];refine eM call58 λF hF=>?_
  exact mx (qM E G S)
 |false=>
 rw[Os zBm];dsimp only;rw[show vG ⟨A,false⟩= .agg [zE xG A.li,iA A.gr,zE iA A.nx,iA A.wt,bA false]from Z]at *; by_cases h1:0<=z.ph
 case neg=>
  rw[zA7 (λh=>h1 h.1),zB8]at u;subst u;refine eM call58 λF hF=>?_
  exact mx (qM E G L)
 by_cases h2:z.ph<ln A.li
 case neg=>
  rw[zA7 (λh=>h2 h.2),zB8]at u;subst u;refine eM call58 λF hF=>?_
  exact mx (qM E G L)
 rw[zA9 ⟨h1,h2⟩,zBh]at u;have W:=yF xG A.li z.ph h1 h2
 change (A.li.map xG)[z.ph.toNat]? =some (xG (xS A z.ph.toNat))at W
 generalize xS A z.ph.toNat=a at *;by_cases M:a.lamp=1
 .rw[show(a.lamp==1)=true by rw[zCp];exact M]at u;subst u;refine eM call58 λF hF=>?_
  exact mx (qM E G L)
 .rw[show(a.lamp==1)=false by rw[zB3];exact M]at u;subst u;refine eM call58 λF hF=>?_
  exact mx (qM E G L)
def Sx (ins:List In) (u n:Nat):Aa ins u n=(ins.drop u).take n++pb (n-(ln ins-u)) dd:=by
 unfold Aa;apply zCf;intro k;by_cases hk:k<n
 .rw[zBe,zC1 hk,List.getElem?_append,zCv,zA5 hk,zDe,zBv,zB6];by_cases h:u+k<ln ins
  .rw[zA5 zB,zB2 h];simp[py,h]
  .rw[Os zB,zDq,zA5 zB];simp[py,zCh (Nat.le_of_not_lt h)]
 .rw[zCh qD,zCh qD]
def m6 (xs:List AV) (u n:Nat):(xs.drop (min (u:Int) (ln xs:Int)).toNat).take ((min ((u:Int)+(n:Int)) (ln xs:Int)).toNat-(min (u:Int) (ln xs:Int)).toNat)=(xs.drop u).take n:=by
 apply zCf;intro k;rw[zCv,zCv,zDe,zDe];by_cases h:u+k<ln xs
 .rw[show(min (u:Int) (ln xs:Int)).toNat=u by omega];by_cases hk:k<n
  .rw[zA5 zB,zA5 hk]
  .rw[Os zB,Os hk]
 .rw[zCh (l:=xs) (i:=u+k) zB,zCh (l:=xs) (i:=(min (u:Int) (ln xs:Int)).toNat+k) zB];simp
def Yr (f3:Int) (u:List wE) (R:Nat->DR):PM f3 u (ln u)=dB f3 u R 0:=by
 unfold dB;apply zCf;intro j;unfold PM;rw[vY,zBe];by_cases hj:j<ln u
 .rw[zA5 hj,zA5 hj,zC1 hj];simp
 .rw[Os hj,zCh qD];rfl
def bj (R:Nat->DR) (i:Nat):List (List Ms):=((List.range i).map λa=>(R a).R).flatten
def LU (R:Nat->DR) (i:Nat):bj R (i+1)=bj R i++(R i).R:=by simp[bj,zC5]
theorem OU {l:List Ag} {R:Nat->DR} (u:QT l) (h:∀a,a<ln l->(((R a).R.length:Nat):Int)=(l.getD a dd).ses):∀i,i<=ln l->((bj R i).length:Int)=uF l i
 |0,_=>rfl
 |i+1,hi=>by
  have z:=OU u h i zB;have:=h i zB;rw[LU,zBa]
  show _=uF l i+(l.getD i dd).ses
  omega
theorem Xr {l:List Ag} {R:Nat->DR} (u:QT l) (h:∀a,a<ln l->(((R a).R.length:Nat):Int)=(l.getD a dd).ses):∀n,n<=ln l->∀a k,a<n->k<(R a).R.length->(bj R n).getD ((uF l a).toNat+k) []=(R a).R.getD k []
 |0,_,a,k,z,_=>absurd z (zC3 _)
 |n+1,C,a,k,z,hk=>by
  have hl:=OU u h n zB;rw[LU,zBj];by_cases h1:a=n
  .subst h1;rw[zCe zB,show(uF l a).toNat+k-(bj R a).length=k by omega,<-zBj]
  .have B:=hG u (show a+1<=n by omega) zB;have h2:=h a zB;have E:uF l (a+1)=uF l a+(l.getD a dd).ses:=rfl;have A:=vT u a zB;rw[zB9 zB,<-zBj];exact Xr u h n zB a k zB hk
theorem Wr (y:Cy) (h:LX y) (cd:KU y.ds) (hn:y.f3<1000000000) (ins:List In) (e8:(ln ins:Int)<=uF y.c.ags (ln y.c.ags)) (R:Nat->DR) (L:zh y ins R) (az:∀i,(R i).en.length<=2000) (a3:∀i,(R i).ks.length<=2000):
  zO 13 [qX y,zE uI ins] [] (.tup [qX (uQ y R),f7 (ZK y.c (SJ (uQ y R) ins R (ln y.ds)) (ln y.c.ags)) (QC (y.f3+1) (uQ y R).vw)]) []:=by
 have hb:=h.b;have n0:=h.n0;have S:=h.v.ag;have b2:=h.dl;have k1:=YN y hb;have e7:=zA uI ins;have ci:min (y.f3+1) 1073741824=y.f3+1:=by omega
 have co:=h.rf;have eC:=dY co;have fi:=S.1;have c1:=zA zM y.ds
 have I:∀i,i<ln y.ds->((y.ds.getD i dd).au.length:Int)=(y.c.ags.getD i dd).ses:=λi hi=>by
  have:=(h.di _ (yB y.ds i hi)).au
  rwa [h.dg i hi]at this
 have E:∀a,a<ln y.c.ags->(((R a).R.length:Nat):Int)=(y.c.ags.getD a dd).ses:=λa A=>by
  have:=(L a zB).1.rn;have h2:=I a zB;rw[show(XL (y.ds.getD a dd) (y.f3+1)).au.length=(y.ds.getD a dd).au.length from Z]at this;omega
 unfold GA GB ZB at k1;rw[eC,co]at k1;rw[eC];refine eM call13 λF hF=>?_
 refine zS k1 ?_;have c3:=zA vG y.sg;have dk:=zA wW y.sv;have cr:=zA iA y.st;have ch:=h.gl;have bl:=h.sl;have bk:=h.tl;rw[ci,c3,ch,dk,bl,cr,bk];have b0:∀i,(PM (y.f3+1) y.ds i).length=ln y.ds:=λi=>wP _ _ _
 have b1:∀i,((PM (y.f3+1) y.ds i).map zM).length=ln y.ds:=λi=>by rw[zA6,b0]
 have ax:PM (y.f3+1) y.ds 0=y.ds:=qQ _ _;rw[c1];refine zN (ln y.ds) [1011,2,4,5,6,1012,1013,1014] [2,4,5,6,1012,1013,1014] [1,2,4,5,6,53,54] [55,1,2,4,5,6,53,54] Z (λi T U=>⟨(55,iA i)::T,(1011,.arr 17 ((PM (y.f3+1) y.ds i).map zM) false)::U⟩) ?_;(conv=>whnf);refine⟨by(rw[ax];rfl),?_,?_⟩
 .intro i hi
  have hy:((PM (y.f3+1) y.ds i).map zM)[i]? =some (zM (y.ds.getD i dd)):=by
   rw[zBe];unfold PM;rw[vY,zA5 hi,Os (zD3 i)];rfl
  have e:(PM (y.f3+1) y.ds (i+1)).map zM=((PM (y.f3+1) y.ds i).map zM).set i (zM (XL (y.ds.getD i dd) (y.f3+1))):=by unfold PM;rw[vO _ _ _ _ hi]
  have kb:=aq (h.di _ (yB y.ds i hi)) (y.f3+1);have cv:=b1 i;rw[e];clear e L ax E I k1 eC;generalize XL (y.ds.getD i dd) (y.f3+1)=d2 at *;generalize y.ds.getD i dd=d1 at *;generalize (PM (y.f3+1) y.ds i).map zM=X at *;refine zS kb ?_;rfl
 .rw [Yr (y.f3+1) y.ds R];refine WW ?_;have b7:∀i,((dB (y.f3+1) y.ds R i).map zM).length=ln y.ds:=λi=>by unfold dB;rw[zA6,zA6,zCr]
  refine zQ 9 1041 1 Z Z Z ?_;refine zQ 10 1042 3 Z Z Z ?_;refine zQ 11 1043 1 Z Z Z ?_;refine zN (ln y.ds) [1011,1041,1042,1043,2,4,5,6,1012,1013,1014] [2,4,5,6,1012,1013,1014] [1,2,4,5,6,70,71] [9,10,11,12,72,1,2,4,5,6,70,71] Z (λi T U=>⟨(9,.ref 1041 0 ((bj R i).map kW).length)::(10,.ref 1042 0 ((XT R i).map kG).length)::(11,.ref 1043 0 ((dF R i).map iA).length)::(12,iA (uF y.c.ags i))::(72,iA i)::T,(1011,.arr 17 ((dB (y.f3+1) y.ds R i).map zM) false)::(1041,.arr 1 ((bj R i).map kW) true)::(1042,.arr 3 ((XT R i).map kG) true)::(1043,.arr 1 ((dF R i).map iA) true)::U⟩) (Lq ?_ ?_)
  .intro i hi;have c4:i<ln y.c.ags:=by omega
   have hy:((dB (y.f3+1) y.ds R i).map zM)[i]? =some (zM (XL (y.ds.getD i dd) (y.f3+1))):=by
    rw[zBe];unfold dB;rw[UE _ _ _ _ hi];rfl
   have e1:(dB (y.f3+1) y.ds R (i+1)).map zM=((dB (y.f3+1) y.ds R i).map zM).set i (zM (R i).d):=by
    unfold dB;rw[YO _ _ _ _ hi,zCs]
   obtain⟨u,ac⟩:∃u:Nat,uF y.c.ags i=(u:Int):=⟨(uF y.c.ags i).toNat,by have:=vT S i zB;omega⟩;have db:=vT S i zB;have em:=S.at (i:=i) zB;have I:=I i hi;have a5:uF y.c.ags (i+1)=uF y.c.ags i+(y.c.ags.getD i dd).ses:=rfl;have c8:=hG S (show i+1<=ln y.c.ags by omega) (zBb _);have er:=E i c4;have el:=OU S E i zB;have e2:=UC az i;have c6:=UD a3 i;have az:=az i;have a3:=a3 i;have cv:=b7 i;have fc:=zA kW (bj R i);have fd:=zA kG (XT R i);have ff:=zA iA (dF R i);have e4:=zA kW (R i).R;have e5:=zA kG (R i).en;have e6:=zA iA (R i).ks
   have cj:DJ y.c ins i=(ins.drop u).take (y.ds.getD i dd).au.length++pb ((y.ds.getD i dd).au.length-(ln ins-u)) dd:=by
    unfold DJ;rw[ac,show(y.c.ags.getD i dd).ses.toNat=(y.ds.getD i dd).au.length by omega,zBx,Sx]
   have kt:=(L i hi).2.2 _ _ cj;clear cj;have c0:(XL (y.ds.getD i dd) (y.f3+1)).au=(y.ds.getD i dd).au:=rfl;rw[<-c0]at I kt;have av:=zA bA (XL (y.ds.getD i dd) (y.f3+1)).au;rw[<-av]at I kt;have cq:=m6 (ins.map uI) u ((XL (y.ds.getD i dd) (y.f3+1)).au.map bA).length;rw[show(((ins.map uI).drop u).take ((XL (y.ds.getD i dd) (y.f3+1)).au.map bA).length)=((ins.drop u).take ((XL (y.ds.getD i dd) (y.f3+1)).au.map bA).length).map uI by rw[zEk,zD2]]at cq;rw[e1,LU,OV,OW,a5,ac,<-I,zBd,zBd,zBd];unfold Dj Yw wD at kt;clear e1 L E ax b0 b1 k1 eC b7 av a5 c8;generalize (ins.drop u).take ((XL (y.ds.getD i dd) (y.f3+1)).au.map bA).length=ow at *;generalize XL (y.ds.getD i dd) (y.f3+1)=d1 at *;generalize (dB (y.f3+1) y.ds R i).map zM=X,(bj R i).map kW=X1,(XT R i).map kG=X2,(dF R i).map iA=X3,(R i).R=r1,(R i).en=r2,(R i).ks=r3,(R i).d=d2 at *;unfold zM xD at kt hy;refine zS kt ?_;rfl
  .have a4:∀x∈dF R (ln y.ds),0<=x/\x<(ln y.c.js:Int):=λx B=>by
    obtain⟨a,A,B⟩:=re B;exact(L a A).1.ks x B
   have c6:=UD a3 (ln y.ds);have c5:=zA wK y.c.js;have fb:=zA iA (dF R (ln y.ds));have ei:(dF R (ln y.ds)).length<=10000:=by omega
   refine WW ?_;refine wB [2,4,5,6,1012,1013,1014] [1,2,4,5,6,9,10,121,122,123] Z ?_
   (conv=>whnf)
   simp only[zBr,zA8];rw[zBf (l:=(dB (y.f3+1) y.ds R (ln y.ds)).map zM) (zDc (b7 _))];clear k1 ax b0 b1;refine zU ((dF R (ln y.ds))) [1012,2,4,5,6,1013,1014] [2,4,5,6,1013,1014] [1,2,4,5,6,9,10,121,122] [123,1,2,4,5,6,9,10,121,122] Z (λi f4 T U=>⟨(123,iA i)::T,(1012,.arr 5 ((bE y.c y.sg f4).map vG) false)::U⟩) (Lq ?_ ?_)
   .intro i f4 x post B hi;have hy:=yG iA B hi;have c7:=zW B hi;have b9:=a4 x (yY B);obtain⟨g1,g2⟩:=KX h.v (sv:=y.sv) (f3:=y.f3) f4 y.sg h.gl h.j;have J:=h.v.jv _ (yB y.c.js x.toNat zB);have C:=(g2 x.toNat zB).c;have hJ:=J.n;have hC:=C.n;have hM:=C.m;have kr:=rh (y.c.js.getD x.toNat dd) J ((bE y.c y.sg f4).getD x.toNat dd) zB zB;have dr:=yF wK y.c.js x b9.1 b9.2;have dn:=yF vG (bE y.c y.sg f4) x b9.1 zB;have ef:=zA vG (bE y.c y.sg f4);rw[DN,zCs];clear B a4 L J C g2 eC;generalize (bE y.c y.sg f4).getD x.toNat dd=s,y.c.js.getD x.toNat dd=j at *;generalize bE y.c y.sg f4=X at *;generalize X.map vG=Y at *;refine zS kr ?_;rfl
   .obtain ⟨g1,g2⟩:=KX h.v (sv:=y.sv) (f3:=y.f3) (dF R (ln y.ds)) y.sg h.gl h.j;have hC:=SI;have br:∀D,YP D (bE y.c y.sg (dF R (ln y.ds))) 0=bE y.c y.sg (dF R (ln y.ds)):=λD=>qQ _ _
    have bz:∀D,YQ D y.sv 0=y.sv:=λD=>qQ _ _
    have bu:XU y.st 0=y.st:=qQ _ _;have a1:∀D i,((YP D (bE y.c y.sg (dF R (ln y.ds))) i).map vG).length=ln y.c.js:=λD i=>by unfold YP;rw[zA6,wP];exact g1
    have a7:∀D i,((YQ D y.sv i).map wW).length=ln y.c.js:=λD i=>by unfold YQ;rw[zA6,wP];exact bl
    have a2:∀i,((XU y.st i).map iA).length=ln y.c.js:=λi=>by unfold XU;rw[zA6,wP];exact bk
    have a6:∀D i,((QP y.c.js D i).map vV).length=i:=λD i=>by simp[QP]
    have V:∀d∈dB (y.f3+1) y.ds R (ln y.ds),qE y.c d:=λd hd=>by
     obtain⟨a,A,rfl⟩:=aI hd;exact(L a A).1.i
    have b6:∀d∈dB (y.f3+1) y.ds R (ln y.ds),KV (y.f3+1) d.rq:=λd hd=>by
     obtain⟨a,A,rfl⟩:=aI hd;refine(L a A).1.sc ?_;exact KV.of zB ((h.sc _ (yB y.ds a A)).mono zB) (Ob _ _)
    have bx:KU (dB (y.f3+1) y.ds R (ln y.ds)):=λa A=>by
     rw[gQ]at A;rw[fZ A,(L a A).1.num];exact cd a A
    have ec:(dB (y.f3+1) y.ds R (ln y.ds)).length<=4:=by rw[gQ];omega
    have b4:∀d∈dB (y.f3+1) y.ds R (ln y.ds),∀r∈d.rq,kO [] r.legs=true:=λd hd r hr=>by
     have:=((V d hd).v.ok r hr).lg;unfold BG at this;rw[zBg]at this;exact this.2
    have fa:=h.v.j;refine WW ?_;refine zQ 24 1015 4 Z Z Z ?_;rw[c5];refine zN (ln y.c.js) [1012,1013,1014,1015,2,4,5,6] [2,4,5,6] [1,2,4,5,6,9,10,150,151] [24,152,1,2,4,5,6,9,10,150,151] Z (λi T U=>⟨(24,.ref 1015 0 ((QP y.c.js (eP y R) i).map vV).length)::(152,iA i)::T,(1012,.arr 5 ((YP (eP y R) (bE y.c y.sg (dF R (ln y.ds))) i).map vG) false)::(1013,.arr 3 ((YQ (eP y R) y.sv i).map wW) false)::(1014,.arr 1 ((XU y.st i).map iA) false)::(1015,.arr 4 ((QP y.c.js (eP y R) i).map vV) true)::U⟩) ?_;(conv=>whnf);refine⟨by(rw[br,bz,bu];rfl),?_,?_⟩
    .intro i hi;have dr:=zJ wK y.c.js i hi;have dn:((YP (eP y R) (bE y.c y.sg (dF R (ln y.ds))) i).map vG)[i]? =some (vG ((bE y.c y.sg (dF R (ln y.ds))).getD i dd)):=by rw[zBe];unfold YP;rw[vY,zA5 zB,Os (zD3 i)];rfl
     have ft:((YQ (eP y R) y.sv i).map wW)[i]? =some (wW (y.sv.getD i dd)):=by rw[zBe];unfold YQ;rw[vY,zA5 zB,Os (zD3 i)];rfl
     have fr:((XU y.st i).map iA)[i]? =some (iA (y.st.getD i dd)):=by rw[zBe];unfold XU;rw[vY,zA5 zB,Os (zD3 i)];rfl
     have eg:(YP (eP y R) (bE y.c y.sg (dF R (ln y.ds))) (i+1)).map vG=((YP (eP y R) (bE y.c y.sg (dF R (ln y.ds))) i).map vG).set i (vG (eP y R i).1):=by unfold YP;rw[vO _ _ _ _ zB]
     have ev:(YQ (eP y R) y.sv (i+1)).map wW=((YQ (eP y R) y.sv i).map wW).set i (wW (eP y R i).2):=by unfold YQ;rw[vO _ _ _ _ zB]
     have ek:(XU y.st (i+1)).map iA=((XU y.st i).map iA).set i (iA (-1)):=by unfold XU;rw[vO _ _ _ _ zB]
     have ew:(QP y.c.js (eP y R) (i+1)).map vV=(QP y.c.js (eP y R) i).map vV++[vV (QR (y.c.js.getD i dd) (eP y R i).1 (eP y R i).2)]:=by simp[QP,zC5]
     have J:=h.v.jv _ (yB y.c.js i hi);have H:=g2 i hi;have cl:(jI (i:Int) (dB (y.f3+1) y.ds R (ln y.ds))).length<=4*(dB (y.f3+1) y.ds R (ln y.ds)).length:=hC i _ λd hd=>(V d hd).v.n4
     have cm:=DL (j:=(i:Int)) V (f3:=y.f3+1) zB b6;have hp:=h.v.p;have e0:=h.v.cp;have eu:=J.n;have et:=H.n;have He:∀e∈(y.sv.getD i dd).en,-1<=e/\e<=y.f3+1:=λe he=>by have:=H.e e he;omega
     have HD:Nr y.c (y.sv.getD i dd) (jI (i:Int) (dB (y.f3+1) y.ds R (ln y.ds))) (y.f3+1):=⟨hp.1,zB,zB,zB,zB,He,λx B=>(cm x B).1,λx B=>(cm x B).2,zB,zB⟩
     have kd:zO 58 [wD y.c,wK (y.c.js.getD i dd),vG ((bE y.c y.sg (dF R (ln y.ds))).getD i dd),wW (y.sv.getD i dd),zE qZ (jI (i:Int) (dB (y.f3+1) y.ds R (ln y.ds))),iA (y.st.getD i dd),iA (y.f3+1)] [] (.tup [vG (eP y R i).1,wW (eP y R i).2]) []:=
      Zr y.c _ J _ H.c _ _ _ (y.f3+1) HD (by have:=Rb y.c (y.sv.getD i dd) (jI (i:Int) (dB (y.f3+1) y.ds R (ln y.ds))) (y.f3+1) H.g;omega)
     have ko:=Px (y.c.js.getD i dd) J (eP y R i).1 (Az J H.c _ _ _ _ _) (eP y R i).2;have kc:=Ca y.c false (y.f3+1) (dB (y.f3+1) y.ds R (ln y.ds)) i zB (λd hd=>(V d hd).bd) b4 bx ((YP (eP y R) (bE y.c y.sg (dF R (ln y.ds))) i).map vG) ((YQ (eP y R) y.sv i).map wW) ((XU y.st i).map iA) (ln y.c.js) (ln y.c.js) (ln y.c.js) y.vw;have ed:=a1 (eP y R) i;have ep:=a7 (eP y R) i;have eh:=a2 i;have eo:=a6 (eP y R) i;rw[eg,ev,ek,ew];clear eg ev ek ew br bz bu HD cm hC a1 a7 a2 a6 g2 H J eC L V b6 bx b4 He a4;generalize (YP (eP y R) (bE y.c y.sg (dF R (ln y.ds))) i).map vG=X,(YQ (eP y R) y.sv i).map wW=Y,(XU y.st i).map iA=Z',(QP y.c.js (eP y R) i).map vV=W,eP y R i=p at *;generalize QR (y.c.js.getD i dd) p.1 p.2=w at *;generalize jI (i:Int) (dB (y.f3+1) y.ds R (ln y.ds))=l,(bE y.c y.sg (dF R (ln y.ds))).getD i dd=s,y.sv.getD i dd=v,y.st.getD i dd=k,y.c.js.getD i dd=j at *;unfold ZB at kc;unfold wD at kd
     (have ga:=kd;have ge:=ko;(repeat' (first|refine jX ?_|apply yW|apply xH|intro hc|(apply zG;first|(refine vJ 39 ?_;refine wJ (DK (zL kc Z Z Z Z Z) Z Z) Z ?_)|(apply yI;refine vD tok Z Z ?_))|refine SB ?_|fail))<;>clear ga ge)
     rfl
    .have l4:=a1 (eP y R) (ln y.c.js);have l5:=a7 (eP y R) (ln y.c.js);have l6:=a2 (ln y.c.js);have l7:=a6 (eP y R) (ln y.c.js);refine wB [4,5,6] [1,4,5,6,9,10,24,151,152] Z ?_
     (conv=>whnf)
     simp only[zBr,zA8];rw[zBf (l:=(YP (eP y R) (bE y.c y.sg (dF R (ln y.ds))) (ln y.c.js)).map vG) (zDc l4),zBf (l:=(YQ (eP y R) y.sv (ln y.c.js)).map wW) (zDc l5),zBf (l:=(XU y.st (ln y.c.js)).map iA) (zDc l6)];have hZ:=KY h L;have zn:(uQ y R).f3=y.f3+1:=rfl;have zd:(uQ y R).ds.length=ln y.ds:=gQ ..;have zR:∀a,a<ln y.ds->(uQ y R).ds.getD a dd=(R a).d:=λa A=>fZ A
     have eT:qX (uQ y R)= .agg [zE wK y.c.js,zE vP y.c.ags,iA y.c.per,iA y.c.cap,iA y.c.hold,iA y.c.lock,bA false,iA (y.f3+1),.sl false ((uQ y R).ds.map zM),.sl false ((uQ y R).sg.map vG),.sl false ((uQ y R).sv.map wW),.sl false ((uQ y R).st.map iA),.sl false ((uQ y R).vw.map vV)]:=rfl;have cu:(uQ y R).vw.length<=4:=by have:=hZ.wl;have:=hZ.v.j;omega
     have kf:=Tx (y.f3+1) (uQ y R).vw zB hZ.wb;have kv:=Ux (QC (y.f3+1) (uQ y R).vw) (Wz _ _ zB zB cu hZ.wb)
     have cf:∀a k,SJ (uQ y R) ins R (ln y.ds) a k=if(ins.getD ((uF y.c.ags a).toNat+k) dd).opn=true then Pb ((uQ y R).ds.getD a dd) (uQ y R).vw (uQ y R).f3 k (R a).R (XT R (ln y.ds))else []:=λ_ _=>rfl
     have cc:∀e∈XT R (ln y.ds),Fj e:=λe he=>by
      obtain⟨a,A,he⟩:=HG he;exact(L a A).1.en e he
     have es:=UC az (ln y.ds);rw[show dB (y.f3+1) y.ds R (ln y.ds)=(uQ y R).ds from Z,show YP (eP y R) (bE y.c y.sg (dF R (ln y.ds))) (ln y.c.js)=(uQ y R).sg from Z,show YQ (eP y R) y.sv (ln y.c.js)=(uQ y R).sv from Z,show XU y.st (ln y.c.js)=(uQ y R).st from Z,show QP y.c.js (eP y R) (ln y.c.js)=(uQ y R).vw from Z,eT,show∀T f,f7 T f= .agg [.sl false (T.map kW),zE zX [f]]from λ_ _=>rfl];have bb:=Xr S E;have bf:=OU S E (ln y.c.ags) (zBb _);rw[<-b2]at bf;clear br bz bu a1 a7 a2 a6 V b6 bx b4 hC g1 g2 l4 l5 l6 l7 a4 eC eT;generalize SJ (uQ y R) ins R (ln y.ds)=G at *;generalize uQ y R=z at *;generalize c2:QC (y.f3+1) z.vw=fm at *;clear c2;unfold zE at kf;refine yJ (xW kf kv) ?_;refine zQ 30 1051 1 Z Z Z ?_;have d5:=zA zM z.ds;rw[d5,zd];clear kf kv;refine zN (ln y.ds) [1051,4,5,6,29] [4,5,6,29] [1,4,5,6,9,10,24,29,215,216] [12,30,217,1,4,5,6,9,10,24,29,215,216] Z (λi T U=>⟨(12,iA (uF y.c.ags i))::(30,.ref 1051 0 ((ZK y.c G i).map kW).length)::(217,iA i)::T,(1051,.arr 1 ((ZK y.c G i).map kW) true)::U⟩) (Lq ?_ ?_)
     .intro a A;have b3:a<ln y.ds:=A;obtain⟨u,ac⟩:∃u:Nat,uF y.c.ags a=(u:Int):=⟨(uF y.c.ags a).toNat,by have:=vT S a zB;omega⟩;obtain⟨N,hN⟩:∃N:Nat,(y.c.ags.getD a dd).ses=(N:Int):=⟨(y.c.ags.getD a dd).ses.toNat,by have:=S.at (i:=a) zB;omega⟩;have ex:=S.at (i:=a) zB;have db:=vT S a zB
      have a5:uF y.c.ags (a+1)=((u+N:Nat):Int):=by
       show uF y.c.ags a+(y.c.ags.getD a dd).ses=_
       omega
      have ez:u+N<=(bj R (ln y.ds)).length:=by
       have:=hG S (show a+1<=ln y.c.ags by omega) (zBb _);rw[b2]at bf⊢;omega
      have ar:=(L a b3).1;have hI:=hZ.di _ (yB z.ds a zB);have ba:=hI.au;rw[hZ.dg a zB]at ba;have d4:=zR a b3;have ce:=ar.rv;have eb:=E a zB;have hy:=zJ zM z.ds a zB;have b5:=hI.a.q
      have cg:(z.ds.getD a dd).au.length=N:=by
       have:=ar.i.au;rw[ar.ag]at this;have e9:=h.dg a b3;rw[show(XL (y.ds.getD a dd) (y.f3+1)).rg.ag=(y.ds.getD a dd).rg.ag from Z,e9]at this;rw[d4];omega
      have a8:=Gi (z.ds.getD a dd) hI.bd b5 z.vw (y.f3+1) zB hZ.wb;have d9:=Nx (z.ds.getD a dd) b5 z.vw (y.f3+1) zB zB cu hZ.wb;have cy:=tr (y.f3+1) (XT R (ln y.ds)) zB;have ea:=j7 (y.f3+1) zB zB (XT R (ln y.ds)) cc;have ap:=λk (hk:k<N)=>bb (ln y.ds) zB a k zB zB
      have M:∀k,k<N->G a k=if(ins.getD (u+k) dd).opn=true then Pb (z.ds.getD a dd) z.vw (y.f3+1) k (R a).R (XT R (ln y.ds))else []:=λk hk=>by
       rw[cf a k,ac,zn];rfl
      have fp:=cR S G a zB;rw[UF,show(y.c.ags.getD a dd).ses.toNat=N by omega,a5,ac,zBd];have cv:=zA kW (ZK y.c G a);rw[ac]at ap;clear cf cc E L ar hI zR bb ba;generalize (ZK y.c G a).map kW=X,(R a).R=Ra at *;generalize dc:RY (z.ds.getD a dd) z.vw (y.f3+1)=st0 at *;generalize dj:pj (y.f3+1) (XT R (ln y.ds))=a9 at *;unfold Pb at M;rw[dc,dj]at M;generalize z.ds.getD a dd=d1 at *;have av:(d1.au.map bA).length=N:=by rw[zA6];exact cg
      generalize XT R (ln y.ds)=eq at *;unfold zM xD at hy a8;have cb:=λk (hk:k<N)=>zJ bA d1.au k zB
      unfold zE at hy;refine WW ?_;rw[av];refine zN (N) [1051,4,5,6,29,32] [4,5,6,29,32] [1,4,5,6,9,10,24,29,32,215,216,217,222,223] [12,30,224,1,4,5,6,9,10,24,29,32,215,216,217,222,223] Z (λi T U=>⟨(12,iA ((u+i:Nat):Int))::(30,.ref 1051 0 (X++(OY G a i).map kW).length)::(224,iA i)::T,(1051,.arr 1 (X++(OY G a i).map kW) true)::U⟩) ?_;(conv=>whnf);refine⟨by(rw[show(OY G a 0).map kW=[]from Z,zB0];rfl),?_,?_⟩
      .intro k hk;have fj:((OY G a k).map kW).length=k:=by unfold OY;rw[zA6,zA6,zCr]
       have fq:=cb k hk;have cn:=ap k hk
       have d3:((bj R (ln y.ds)).map kW)[u+k]? =some (kW (Ra.getD k [])):=by
        rw[zJ kW (bj R (ln y.ds)) (u+k) zB];exact zBq (λq=>some (kW q)) cn
       have ck:(Ra.getD k []).length<=1000/\∀m∈Ra.getD k [],ZH m:=by
        refine ce _ ?_;rw[zBj,zB2 zB];exact zE0 _
       rw[DO,zBd,show [G a k].map kW=[zE zX (G a k)]from Z,M k hk,<-zBy];have ey:(X++(OY G a k).map kW).length<=100:=by rw[zBa];omega
       clear M ap cb cn ce b5 hZ;generalize X++(OY G a k).map kW=O,d1.au.getD k dd=da,Ra.getD k []=r0 at *;by_cases hq:u+k<ln ins
       .have cw:=zJ uI ins (u+k) hq;generalize ins.getD (u+k) dd=x at *;obtain⟨xo,xs⟩:=x;unfold uI at cw;unfold kW at d3;dsimp only at cw⊢;cases xo
        .rw[Os zBm]
         (repeat' (first|refine jX ?_|apply yW|apply xH|intro hc|(apply zG;first|(apply yI;refine ZR 272 Z Z Z ?_;refine vD tok Z Z ?_))|refine SB ?_|fail))
         rfl
        .rw[zA5 Z];have ej:=zA zX r0;have ca:=me (r0.map zX) zB st0 d9;have cx:=me (r0.map zX++[zX st0]) Wy a9 ea;refine WW ?_;refine zQ 35 1053 4 Z Z Z ?_;refine zU (r0) [1053,4,5,6,29,32,1051] [4,5,6,29,32,1051] [1,4,5,6,9,10,12,24,29,30,32,33,34,215,216,217,222,223,224,243,244] [35,245,1,4,5,6,9,10,12,24,29,30,32,33,34,215,216,217,222,223,224,243,244] Z (λi f4 T U=>⟨(35,.ref 1053 0 (f4.map zX).length)::(245,iA i)::T,(1053,.arr 4 (f4.map zX) true)::U⟩) (Lq ?_ ?_)
         .intro i f4 m post B hi;have dy:=yG zX B hi;have c7:=zW B hi;have fo:=zA zX f4;have fl:ln f4<=ln r0:=by rw[B];simp
          have km:=me (f4.map zX) zB m (ck.2 m (yY B));rw[show(f4++[m]).map zX=f4.map zX++[zX m] by simp];clear B ca cx a8 cy;generalize f4.map zX=Y at *;unfold zX at dy km;refine zS km ?_;rfl
         .clear ck;cases da
          .rw[show zE zX ((r0++[st0])++if false=true then [a9]else [])= .sl false (r0.map zX++[zX st0]) by simp[zE]];generalize r0.map zX=Y at*
           (have ga:=a8;have ge:=ca;(repeat' (first|refine jX ?_|apply yW|apply xH|intro hc|(apply zG;first|(apply yI;refine vU [4,5,6,29,32,1051] [1,4,5,6,9,10,12,24,29,30,32,215,216,217,222,223,224,271,272] Z ?_;(conv=>whnf);(try simp only[zBr,zA8]);refine vD tok Z Z ?_))|refine SB ?_|fail))<;>clear ga ge)
           rfl
          .rw[show zE zX ((r0++[st0])++if true=true then [a9]else [])= .sl false ((r0.map zX++[zX st0])++[zX a9]) by simp[zE]];generalize r0.map zX=Y at*
           (have ga:=a8;have ge:=ca;have gn:=cy;have gt:=cx;(repeat' (first|refine jX ?_|apply yW|apply xH|intro hc|(apply zG;first|(apply yI;refine vU [4,5,6,29,32,1051] [1,4,5,6,9,10,12,24,29,30,32,215,216,217,222,223,224,271,272] Z ?_;(conv=>whnf);(try simp only[zBr,zA8]);refine vD tok Z Z ?_))|refine SB ?_|fail))<;>clear ga ge gn gt)
           rfl
       .rw[show(ins.getD (u+k) dd).opn=false by rw[zBj,zCh zB];rfl,Os zBm]
        (repeat' (first|refine jX ?_|apply yW|apply xH|intro hc|(apply zG;first|(apply yI;refine ZR 272 Z Z Z ?_;refine vD tok Z Z ?_))|refine SB ?_|fail))
        rfl
      ·(refine WW ?_)
       rfl
     .rw[b2];refine WW ?_;refine zI [] Z Z ?_ Z
      show AV.tup [_,AV.agg [.sl false (pi ((ZK y.c G (ln y.c.ags)).map kW).length ((ZK y.c G (ln y.c.ags)).map kW)),_]]=_
      rw[zA8];rfl
def Vr {b:List Int} (hb:BY b) {p:It×Nat} (h:mj b=some p):(1<=p.2/\p.2<=ln b)/\(ln b<=100000->Ps p.1):=by
 unfold mj at h;split at h
 .cases h
 rename_i z;split at h
 .cases h;exact⟨⟨zBb _,by dsimp only;omega⟩,λ_=>⟨jT,zBn _,by dsimp only;omega,by dsimp only;omega⟩⟩
 split at h
 .cases h
 split at h
 .cases h;exact⟨⟨zBb _,by dsimp only;omega⟩,λ_=>⟨jT,zBn _,by dsimp only;omega,by dsimp only;omega⟩⟩
 split at h
 .cases h
 split at h
 .cases h;exact⟨⟨zBb _,by dsimp only;omega⟩,λ_=>⟨jT,zBn _,by dsimp only;omega,by dsimp only;omega⟩⟩
 split at h
 .cases h;exact⟨⟨by dsimp only;omega,by dsimp only;omega⟩,λ_=>⟨jT,zBn _,by dsimp only;omega,by dsimp only;omega⟩⟩
 split at h
 .cases h;exact⟨⟨by dsimp only;omega,by dsimp only;omega⟩,λ_=>⟨jT,zBn _,by dsimp only;omega,by dsimp only;omega⟩⟩
 .cases h;rename_i hk;refine⟨⟨by dsimp only;omega,by dsimp only;omega⟩,λhl=>⟨λx u=>hb x (zCc (zC2 u)),by dsimp only;rw[zBv,zB6];omega,?_,by dsimp only;omega⟩⟩;dsimp only;omega
def HE:Nat->List Int->List (It×Nat)
 |0,_=>[]
 |n+1,b=>match mj b with
  |none=>[]
  |some p=>p::HE n (b.drop p.2)
def Rx {n:Nat}:∀{b:List Int},BY b->ln b<=100000->∀p∈HE n b,Ps p.1:=by
 induction n with
 |zero=>intro b _ _ p u;cases u
 | succ n B=>
  intro b hb hl p u;unfold HE at u;split at u
  .cases u
  .rename_i q z;have h:=Vr hb z
   rcases zCt.1 u with rfl|u
   .exact h.2 hl
   .exact B (λx A=>hb x (zCc A)) BT p u
structure Ur where
 t:Nat
 g:Bool
 its:List It
def oz (s:Ur) (p:It×Nat):Bool:=decide (p.1.code=2)&&s.g
def HF (s:Ur) (p:It×Nat):Ur:=if oz s p=true then⟨s.t+p.2,s.g,s.its⟩else⟨s.t+p.2,decide (p.1.code=2)||(decide (p.1.code=7)||decide (p.1.code=4)),s.its++[p.1]⟩
def O9 (N:Nat) (s:Ur) (p:It×Nat):Bool:=!oz s p&&decide (N<=ln s.its+1)
def DG (N:Nat):List (It×Nat)->Ur->Ur
 | [],s=>s
 |p::l,s=>if O9 N s p=true then HF s p else DG N l (HF s p)
theorem EU {N:Nat}:∀(l:List (It×Nat)) (s:Ur),ln s.its<N->(DG N l s).its.length<=N
 | [],s,h=>zFk h
 | p::l,s,h=>by
  unfold DG
  have h1:(HF s p).its.length<=ln s.its+1:=by
   unfold HF;split
   .dsimp only;omega
   .dsimp only;rw[zBa];simp
  split
  .omega
  .rename_i u;refine EU l _ ?_;unfold O9 at u;unfold HF;cases hc:oz s p
   .rw[hc]at u;rw[Os zBm];simp only[zE4,zBh,zBc]at u;dsimp only;rw[zBa];simp only[zBl,zCd];omega
   .rw[zA5 Z];exact h
theorem Ig {N:Nat} {Pr:It->Prop}:∀(l:List (It×Nat)) (s:Ur),(∀x∈s.its,Pr x)->(∀p∈l,Pr p.1)->∀x∈(DG N l s).its,Pr x
 | [],s,h,_=>h
 | p::l,s,h,hl=>by
  have h1:∀x∈(HF s p).its,Pr x:=by
   unfold HF;split
   .exact h
   .intro x u
    rcases zBs.1 u with u|u
    .exact h x u
    .rw[zB1.1 u];exact hl p zV
  unfold DG;split
  .exact h1
  .exact Ig l _ h1 λq z=>hl q (by simp[z])
def nz (b:List Int) (g:Bool):AV:= .agg [zE yA b,bA g]
def aE (s:Ss):Ss×In:=if s.op=true then(⟨true,false,s.bf.drop (DG 4 (HE (ln s.bf) s.bf) ⟨0,s.gb,[]⟩).t,(DG 4 (HE (ln s.bf) s.bf) ⟨0,s.gb,[]⟩).g⟩,⟨true,(if s.dr=true then [⟨15,0,[]⟩]else [])++(DG 4 (HE (ln s.bf) s.bf) ⟨0,s.gb,[]⟩).its⟩)else(s,⟨false,[]⟩)
structure i6 (s:Ss):Prop where
 y:BY s.bf
 n:s.bf.length<=256
def Sr {s:Ss} (h:i6 s):i6 (aE s).1/\HL (aE s).2:=by
 have B:=h.n;unfold aE;split
 .refine⟨⟨λx u=>h.y x (zCc u),by dsimp only;rw[zB6];omega⟩,?_⟩;have A:=EU (N:=4) (HE (ln s.bf) s.bf) ⟨0,s.gb,[]⟩ (by show 0<4;omega);have z:=Ig (N:=4) (Pr:=Ps) (HE (ln s.bf) s.bf) ⟨0,s.gb,[]⟩ (λx u=>by cases u) (Rx h.y zB);generalize DG 4 (HE (ln s.bf) s.bf) ⟨0,s.gb,[]⟩=r at *;refine⟨?_,λx u=>?_⟩
  .dsimp only;rw[zBa];split
   .simp only[zBl,zCd];omega
   .simp only[zCd];omega
  .rcases zBs.1 u with u|u
   .split at u
    .rw[zB1.1 u];exact⟨jT,zBn _,by dsimp only;omega,by dsimp only;omega⟩
    .cases u
   .exact z x u
 .exact⟨h,zBn _,λx u=>by cases u⟩
def Z6 {s:Ss} (h:i6 s) {x:List Int} (z:BY x):i6 (Eb s x):=by
 refine⟨?_,rt h.n x⟩;unfold Eb;split
 .intro y u
  rcases zBs.1 u with u|u
  .exact h.y y u
  .exact z y (zC2 u)
 .exact h.y
