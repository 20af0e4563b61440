/- Part 9. -/
import Derived.Test.YtaglbcjljlkjcaaGreatV08
namespace Go.Proofs.YtaglbcjljlkjcaaGreat.Av
open Tryz
set_option linter.all false
set_option maxRecDepth 4000
set_option maxHeartbeats 2000000
open List renaming length->ln,range->pg,getD->pi
open Inhabited renaming default->dd
variable {ga:Int}{l:List Rq}
theorem MX:∀l:List Int,((l.map jI).flatten).length<=5*ln l
 | []=>by simp
 |x::l=>by
  have h1:=MX l;have h2:=jZ x;rw[zBc,zC0,zAf,zAp];omega
theorem Gn (u:Nat) (c:Int):∀(l:List Int) (i:Nat),aV u 0 c i l=(l.map jI).flatten
 | [],i=>rfl
 |x::l,i=>by
  rw[aV,Gn u c l (i+1),hW (λh=>h.2 Z)];rfl
theorem Cn (u y:Nat) (c:Int):∀(l:List Int) (i:Nat),u<i->aV u y c i l=(l.map jI).flatten
 | [],i,_=>rfl
 |x::l,i,h=>by
  rw[aV,Cn u y c l (i+1) zB,hW (λh2=>by omega)];rfl
theorem FD (u y:Nat) (c:Int) (A:y≠0) (f:List Int) (z:f≠[]):∀(a:List Int) (i:Nat),i+ln a=u->aV u y c i (a++f)=(a.map jI).flatten++([c]++(f.map jI).flatten)
 | [],i,h=>by
  cases f with
  |nil=>exact absurd Z z
  |cons x f=>
   have hi:i=u:=by simpa using h
   rw[zC7,aV,Os ⟨hi,A⟩,Cn u y c f (i+1) zB];rfl
 |x::a,i,h=>by
  rw[zDb,aV,FD u y c A f z a (i+1) (by rw[zAp]at h;omega),hW (λh2=>by rw[zAp]at h;omega),zC7,zBc,zC0,zA2]
theorem xh (k:Int) (h0:1<=k) (h1:k<=12) (p:List Int) (hb:BY p) (hn:ln p<=100000):zO 191 [iA k,zE yA p] [] (u9 k (p.take 10) (JT (uD k) (wK k) p)) []:=by
 have hl:=zA yA p;have I:=ib k h0 h1;have V:=cP k;rw[zAc ⟨h0,h1⟩]at V;have hf:=GJ k;have hg:=GI k;by_cases a6:ln p<10
 .rw[show JT (uD k) (wK k) p=none from Os (.inr a6)]
  show zO 191 [iA k,zE yA p] [] (.tup [yO ⟨0,[],[],[]⟩,iA 6]) []
  unfold rb at I;refine eM call191 λF hF=>?_
  exact ng (xH I V)
 have a2:BY (p.drop 10):=λy hy=>hb y (zBo hy)
 have bb:(p.drop 10).length<=100000:=by rw[zBh];omega
 have bu:((p.take 10).map yA).length=10:=by rw[f7,zA0];omega
 have b3:((p.take (10:Int).toNat).map yA).length=10:=bu;have R:=VA (p.drop 10) (uD k) a2 bb zB
 cases u:OE (uD k) (p.drop 10)with
 | none=>
  have e:JT (uD k) (wK k) p=none:=by
   unfold JT;rw[u]
   split<;>rfl
  rw[e];rw[u]at R
  show zO 191 [iA k,zE yA p] [] (.tup [yO ⟨0,[],[],[]⟩,iA 6]) []
  unfold Pz at R;unfold rb at I;refine eM call191 λF hF=>?_
  (have gt:=I;have gv:=V;have ic:=R;(repeat' (first|refine qU ?_|apply yY|apply xN|intro hc|(apply zG;first|(apply yI;refine gH tok Z Z Z Z Z Z (yG _ _ (λ_=>rfl)) Z Z Z zB Z Z Z ?_))|fail))<;>clear gt gv ic)
  exact zI
 |some q=>
 obtain⟨a,r⟩:=q;obtain⟨ha,a3,ar,E⟩:=VC _ _ _ _ a2 u;have b5:=MX a
 have br:ln p=10+(((a.map jI).flatten).length+ln r):=by
  have:=zAt List.length E;rw[zAf,zBh]at this;omega
 have z:p=p.take 10++((a.map jI).flatten++r):=by rw[<-E,zDd]
 have b8:=zA yA r;have b6:=zA iA a;have az:ln r<=100000:=by omega
 rw[u]at R;unfold Pz at R
 rcases Nat.eq_zero_or_pos (wK k)with O|O
 .have U:=MI k h0 h1 ⟨k,p.take 10,a,r⟩ 0 Z EZ az ar (by rw[O];exact ha) zB;have v2:=YS k h0 h1 ⟨k,p.take 10,a,r⟩ 0 Z EZ az ar (by show (ln a)<=1000;omega) (λh=>absurd O h) zB;rw[O]at U v2 I⊢;unfold rb at I;by_cases hr:r=[]
  .subst hr
   have e:JT (uD k) 0 p=some a:=by
    unfold JT;rw[hW (by rw[zBq]at br;omega),u];rfl
   have e2:eP (uD k) 0 0 ⟨k,p.take 10,a,[]⟩=p:=by
    unfold eP;rw[Gn]
    conv=>rhs;rw[z]
    simp
   rw[e];rw[show((0:Nat):Int)=0 from Z,e2]at v2;rw[show qq 0 0 ([]:List Int)=true from Z]at U;have bd:=xS p;clear e2 z u E
   show zO 191 [iA k,zE yA p] [] (.tup [yO ⟨k,p.take 10,a,[]⟩,iA 0]) []
   generalize uD k=fx at *;refine eM call191 λF hF=>?_
   (have gt:=I;have gv:=V;have ic:=R;have io:=U;have kj:=v2;(repeat' (first|refine qU ?_|apply yY|apply xN|intro hc|(apply zG;first|(apply yI;first|(refine vR [4,6,7] [0,1,4,5,6,7,93] Z ?_;(conv=>whnf);(try simp only[zAr,zAa]);refine jE tok Z Z Z Z Z Z (yG _ _ (λ_=>rfl)) Z Z Z zB Z ?_)|refine gH tok Z Z Z Z Z Z (yG _ _ (λ_=>rfl)) Z Z Z zB Z Z Z ?_))|fail))<;>clear gt gv ic io kj)
   exact zI
  .have bs:ln r≠0:=λh=>hr (zA5 h)
   have e:JT (uD k) 0 p=none:=by
    unfold JT;rw[u];split
    .rfl
    .show(if(0:Nat)=0 then(if r=[]then some a else none)else _)=none
     rw[Os Z,hW hr]
   rw[e];rw[show qq 0 0 r=false from zAb (λh=>bs h.1)]at U;clear v2 z u E
   show zO 191 [iA k,zE yA p] [] (.tup [yO ⟨0,[],[],[]⟩,iA 6]) []
   generalize uD k=fx at *;refine eM call191 λF hF=>?_
   (have gt:=I;have gv:=V;have ic:=R;have io:=U;(repeat' (first|refine qU ?_|apply yY|apply xN|intro hc|(apply zG;first|(apply yI;first|(refine vR [4,6,7] [0,1,4,5,6,7,93] Z ?_;(conv=>whnf);(try simp only[zAr,zAa]);refine jE tok Z Z Z Z Z Z (yG _ _ (λ_=>rfl)) Z Z Z zB Z ?_)|refine gH tok Z Z Z Z Z Z (yG _ _ (λ_=>rfl)) Z Z Z zB Z Z Z ?_))|fail))<;>clear gt gv ic io)
   exact zI
 have bl:wK k<=4:=by omega
 have X:=VA r 1 a3 az zB;unfold rb at I;rw[hW zB,hW zB]at I
 cases A:OE 1 r with
 | none=>
  have e:JT (uD k) (wK k) p=none:=by
   unfold JT;rw[u];split
   .rfl
   .show(if wK k=0 then _ else match OE 1 r with|none=>none|some (c,r2)=>_)=none
    rw[hW zB,A]
  rw[e];rw[A]at X;unfold Pz at X
  show zO 191 [iA k,zE yA p] [] (.tup [yO ⟨0,[],[],[]⟩,iA 6]) []
  clear z u E A e;generalize uD k=fx,wK k=gr at *;refine eM call191 λF hF=>?_
  (have gt:=I;have gv:=V;have ic:=R;have io:=X;(repeat' (first|refine qU ?_|apply yY|apply xN|intro hc|(apply zG;first|(apply yI;first|(refine vR [4,6,7] [0,1,4,5,6,7,93] Z ?_;(conv=>whnf);(try simp only[zAr,zAa]);refine jE tok Z Z Z Z Z Z (yG _ _ (λ_=>rfl)) Z Z Z zB Z ?_)|refine gH tok Z Z Z Z Z Z (yG _ _ (λ_=>rfl)) Z Z Z zB Z Z Z ?_))|fail))<;>clear gt gv ic io)
  exact zI
 |some q2=>
 obtain⟨c,r2⟩:=q2;obtain⟨a4,ag,a9,B⟩:=VC _ _ _ _ a3 A
 obtain⟨v,rfl⟩:∃v,c=[v]:=by
  cases c with
  |nil=>cases a4
  |cons v c=>cases c with
   |nil=>exact⟨v,rfl⟩
   |cons w c=>simp at a4
 have bx:=(a9 v yE).1
 have a7:ln r2<=100000:=by
  have:=zAt List.length B;rw[zAf]at this;omega
 rw[A]at X;unfold Pz at X
 have eD:¬(200<ln p\/p.length<10)->JT (uD k) (wK k) p=if v<1\/3<v then none else match OE (v.toNat*wK k) r2 with
   |none=>none
   |some (f,W)=>if W=[]then some (a++f)else none:=λh=>by
  unfold JT;rw[hW h,u]
  show(if wK k=0 then _ else match OE 1 r with|none=>none|some (c,r2)=>_)=_
  rw[hW zB,A];rfl
 by_cases bz:3<v
 .have e:JT (uD k) (wK k) p=none:=by
   by_cases h:200<ln p\/p.length<10
   .exact Os h
   .rw[eD h,Os (.inr bz)]
  rw[e]
  show zO 191 [iA k,zE yA p] [] (.tup [yO ⟨0,[],[],[]⟩,iA 6]) []
  clear z u E A e eD B;generalize uD k=fx,wK k=gr at *;refine eM call191 λF hF=>?_
  (have gt:=I;have gv:=V;have ic:=R;have io:=X;(repeat' (first|refine qU ?_|apply yY|apply xN|intro hc|(apply zG;first|(apply yI;first|(refine vR [4,6,7] [0,1,4,5,6,7,93] Z ?_;(conv=>whnf);(try simp only[zAr,zAa]);refine jE tok Z Z Z Z Z Z (yG _ _ (λ_=>rfl)) Z Z Z zB Z ?_)|refine gH tok Z Z Z Z Z Z (yG _ _ (λ_=>rfl)) Z Z Z zB Z Z Z ?_))|fail))<;>clear gt gv ic io)
  exact zI
 have a1:v.toNat*wK k<=12:=zBf (zDo (show v.toNat<=3 by omega) bl) xG;have M:((v.toNat*wK k:Nat):Int)=v*(wK k:Int):=by rw[zFh,zDz zB]
 have c4:=VA r2 (v.toNat*wK k) ag a7 zB;have hm:0<=v*(wK k:Int)/\v*(wK k:Int)<=12:=by rw[<-M];omega
 cases C:OE (v.toNat*wK k) r2 with
 | none=>
  have e:JT (uD k) (wK k) p=none:=by
   by_cases h:200<ln p\/p.length<10
   .exact Os h
   .rw[eD h,C]
    split<;>rfl
  rw[e];rw[C,M]at c4;unfold Pz at c4
  show zO 191 [iA k,zE yA p] [] (.tup [yO ⟨0,[],[],[]⟩,iA 6]) []
  clear z u E A e eD B C M a1;generalize uD k=fx,wK k=gr at *;refine eM call191 λF hF=>?_
  (have gt:=I;have gv:=V;have ic:=R;have io:=X;have kj:=c4;(repeat' (first|refine qU ?_|apply yY|apply xN|intro hc|(apply zG;first|(apply yI;first|(refine vR [4,6,7] [0,1,4,5,6,7,93] Z ?_;(conv=>whnf);(try simp only[zAr,zAa]);refine jE tok Z Z Z Z Z Z (yG _ _ (λ_=>rfl)) Z Z Z zB Z ?_)|refine gH tok Z Z Z Z Z Z (yG _ _ (λ_=>rfl)) Z Z Z zB Z Z Z ?_))|fail))<;>clear gt gv ic io kj)
  exact zI
 |some q3=>
 obtain⟨f,W⟩:=q3;obtain⟨G,b0,bk,L⟩:=VC _ _ _ _ ag C;have b7:=zA iA f;have b1:ln f<=12:=by omega
 have b2:=zA yA W
 have ap:ln W<=100000:=by
  have:=zAt List.length L;rw[zAf]at this;omega
 rw[C,M]at c4;unfold Pz at c4;have S:(a++f).length=uD k+v.toNat*wK k:=by rw[zAf,ha,G]
 have ac:∀x∈a++f,0<=x/\x<=4294967295:=λx hx=>by
  rcases zAy.1 hx with h|h
  .exact ar x h
  .exact bk x h
 have U:=MI k h0 h1 ⟨k,p.take 10,a++f,W⟩ v.toNat Z EZ ap ac S zB;have v2:=YS k h0 h1 ⟨k,p.take 10,a++f,W⟩ v.toNat Z EZ ap ac (by show(a++f).length<=1000;omega) (λ_=>S) zB
 have Y:∀t:List Int,yO ⟨k,t,a++f,W⟩= .agg [iA k,zE yA t,.sl false (a.map iA++f.map iA),zE yA W]:=λt=>by
  rw[<-zAd];rfl
 rw[Y]at U v2;by_cases au:W=[]/\1<=v
 .obtain⟨rfl,a8⟩:=au;have b4:=MX f;have a5:jI v=[v]:=VB zB
  have ax:r=[v]++(f.map jI).flatten:=by
   rw[B,L,zA6];simp[a5]
  have bf:f≠[]:=λh=>by
   rw[h]at G;have:0<v.toNat*wK k:=Nat.mul_pos zB O;simp at G;omega
  have e2:eP (uD k) (wK k) (v.toNat:Int) ⟨k,p.take 10,a++f,[]⟩=p:=by
   unfold eP;rw[hW (λh=>by have:=h.2;rw[S]at this;have h3:0<v.toNat*wK k:=Nat.mul_pos zB O;omega)]
   show(p.take 10++aV (uD k) (wK k) (v.toNat:Int) 0 (a++f))++([]++[])=p
   rw[FD _ _ _ zB f bf a 0 zB,zDz bx,zA6,zA6,<-ax];exact z.symm
  have av:¬(200<ln p\/p.length<10):=by
   have:=zAt List.length ax;rw[zAf,zCf]at this;omega
  have e:JT (uD k) (wK k) p=some (a++f):=by
   rw[eD av,hW zB,C];rfl
  rw[e];rw[e2]at v2;rw[show qq (wK k) v.toNat ([]:List Int)=true from zAc ⟨rfl,.inr zB⟩]at U;have bd:=xS p
  show zO 191 [iA k,zE yA p] [] (.tup [yO ⟨k,p.take 10,a++f,[]⟩,iA 0]) []
  rw[Y];clear z u E A e eD B C M a1 e2 ax a5 Y S G L;generalize uD k=fx,wK k=gr at *;refine eM call191 λF hF=>?_
  (have gt:=I;have gv:=V;have ic:=R;have io:=X;have kj:=c4;have lb:=U;have lf:=v2;(repeat' (first|refine qU ?_|apply yY|apply xN|intro hc|(apply zG;first|(apply yI;first|(refine vR [4,6,7] [0,1,4,5,6,7,93] Z ?_;(conv=>whnf);(try simp only[zAr,zAa]);refine jE tok Z Z Z Z Z Z (yG _ _ (λ_=>rfl)) Z Z Z zB Z ?_)|refine gH tok Z Z Z Z Z Z (yG _ _ (λ_=>rfl)) Z Z Z zB Z Z Z ?_))|fail))<;>clear gt gv ic io kj lb lf)
  exact zI
 .have e:JT (uD k) (wK k) p=none:=by
   by_cases h:200<ln p\/p.length<10
   .exact Os h
   .rw[eD h];by_cases a8:v<1
    .rw[Os (.inl a8)]
    .rw[hW zB,C];exact hW λh3=>au ⟨h3,zB⟩
  rw[e]
  rw[show qq (wK k) v.toNat W=false from zAb (λh=>by
   rcases h with⟨h3,h4⟩
   exact au ⟨zA5 h3,zB⟩)]at U
  show zO 191 [iA k,zE yA p] [] (.tup [yO ⟨0,[],[],[]⟩,iA 6]) []
  clear z u E A e eD B C M a1 Y S G L v2;generalize uD k=fx,wK k=gr at *;refine eM call191 λF hF=>?_
  (have gt:=I;have gv:=V;have ic:=R;have io:=X;have kj:=c4;have lb:=U;(repeat' (first|refine qU ?_|apply yY|apply xN|intro hc|(apply zG;first|(apply yI;first|(refine vR [4,6,7] [0,1,4,5,6,7,93] Z ?_;(conv=>whnf);(try simp only[zAr,zAa]);refine jE tok Z Z Z Z Z Z (yG _ _ (λ_=>rfl)) Z Z Z zB Z ?_)|refine gH tok Z Z Z Z Z Z (yG _ _ (λ_=>rfl)) Z Z Z zB Z Z Z ?_))|fail))<;>clear gt gv ic io kj lb)
  exact zI
def vc (l:List Rq) (q:Int) (hv:VI l) (V:¬(ln l:Int)<=q):zO 295 [zE yS l,iA q] [] (bA false) []:=by
 have hl:=zA yS l;have S:=hv.n4;refine eM call295 λF hF=>?_
 refine WW ?_;refine zM (ln l) [] [] [0,1,7,8] [9,0,1,7,8] Z (λi T U=>⟨(9,iA i)::T,U⟩) (Lq ?_ ?_)
 .intro i hi;have W:=zJ yS l i hi;have A:l.getD i dd∈l:=by simp[pi,hi]
  obtain⟨X,Y,v0,v1,O,R,t0,t1,y⟩:=hv.ok _ A;have B:=wN (l.getD i dd).id 0 4294967295;have C:=wN (l.getD i dd).vh 0 4294967295;have E:=wN (l.getD i dd).cls 0 3;have I:=wN (l.getD i dd).til 0 2147483648;have G:=GY (l.getD i dd).legs (by have:=TE y;omega);rw[zAc zB]at B C E I;rw[y]at G;by_cases z:0<i
  .have u:=yC yS l ((i:Int)-1) zB zB;rw[show((i:Int)-1).toNat=i-1 by omega]at u;have M:(l.map yS)[((i:Int)-1).toNat]? =some (yS (l.getD (i-1) dd)):=by rw[show((i:Int)-1).toNat=i-1 by omega];exact u
   have L:=hv.lt z hi;clear u A y;generalize l.getD i dd=t,l.getD (i-1) dd=p at *;refine yB (KE B C E I G) ?_;rfl
  .obtain rfl:i=0:=by omega
   clear A y;generalize l.getD 0 dd=t at *;refine yB (KE B C E I G) ?_;rfl
 .exact mx
def uc (l:List Rq) (q id:Int) (v:Vh) (u:Int) (x:List Lg) (ga:Int) (hv:VI l) (z:¬(ln l:Int)<=q):
  zO 293 [zE yS l,iA q,iA id,vB v,iA u,zE xK x,iA ga] [] (.tup [zE yS [],iA 1]) []:=by
 have y:=vc l q hv z;refine eM call293 λF hF=>?_
 exact nl y
def MY {r x:Rq}:x∈bO l r->x=r\/x∈l:=λh=>by
 unfold bO at h
 rcases zAy.1 h with h|h
 .exact .inr (zB6 h)
 .rcases zBx.1 h with h|h
  .exact .inl h
  .exact .inr (zBo h)
def E0 {q id u:Int} {v:Vh} {x:List Lg} (hv:VI l) (y:FX l q id u x=0) (G:0<=v.id) (I:v.id<=4294967295) (L:0<=v.cls) (M:v.cls<=3) (R:0<=ga) (S:ga<=1073741824):VI (bO l (VG id v u x ga)):=by
 have h1:0<=id/\id<=4294967295/\1<=u/\u<=600/\Gb x=true:=by
  grind [FX,bO,VG]
 rw[FX,hW (λh=>h h1)]at y
 have hh:fX l id=false:=by
  grind
 rw[hW (by rw[hh];decide)]at y;have O:¬(q<=ln l\/4<=(ln l:Int)):=λh=>by rw[Os h]at y;cases y
 have C:∀r∈l,r.id≠id:=by simpa [fX]using hh
 have B:=Em l id;refine⟨λr z=>?_,?_,?_⟩
 .rcases MY z with rfl|z
  .exact⟨h1.1,h1.2.1,G,I,L,M,by show 0<=ga+u;omega,by show ga+u<=2147483648;omega,h1.2.2.2.2⟩
  .exact hv.ok r z
 .have E:=hv.so;unfold bO
  show((l.take (PE l id))++VG id v u x ga::l.drop (PE l id)).Pairwise _
  rw[zEa,zE2];have A:=E;rw[<-zDd (PE l id) l,zEa]at A
  grind [FX,bO,VG,PE,List.mem_iff_getElem,List.length_take,Dm,pi,List.mem_of_mem_drop,Cm,List.drop_eq_getElem_cons,List.pairwise_cons,List.drop_eq_nil_of_le]
 all_goals grind [FX,bO,VG]
theorem D0 {g:Lg} {p:Int×Int} (u:GX g=true) (h:Lb ga g p=true):GX (wa ga g p)=true:=by grind [GX,Lb,wa,Bh]
theorem Qe :∀(gs:List Lg) (w:List (Int×Int)) (gd u:List Lg),u.map (·.jn)=gd.map (·.jn)->ln w=ln gs->(gs.zipWith (Lb ga) w).all id=true->kT gd gs=true->kT u (gs.zipWith (wa ga) w)=true
 | [],w,gd,u,_,_,_,_=>by cases w<;>rfl
 |g::gs,[],gd,u,_,hl,_,_=>by simp at hl
 |g::gs,p::w,gd,u,A,hl,z,h=>by
  rw[zC9,zE6,zAi]at z;rw[kT,zAi,zAi]at h;obtain⟨h1,h2,B⟩:=h;rw[zC9,kT,zAi,zAi];refine⟨D0 h1 z.1,?_,Qe gs w (gd++[g]) (u++[wa ga g p]) (by rw[zAd,zAd,A];rfl) (by simpa using hl) z.2 B⟩;have e:∀l:List Lg,(l.any λy=>y.jn==g.jn)=(l.map (·.jn)).any (· ==g.jn):=λl=>by rw[List.any_map];rfl
  show(!(u.any λy=>y.jn==g.jn))=true
  rw[e,A,<-e];exact h2
def B0 {id:Int} {w:List (Int×Int)} (hv:VI l) (E:bP l id w ga=0):VI (VH l id w ga):=by
 have hh:fX l id=true:=by
  grind [bP,VH]
 obtain⟨gd,x,post,z,hx,_,G,_⟩:=JX hh;rw[bP,Os hh,G]at E
 have C:ln w=ln x.legs/\Kb x.legs w ga=true:=by
  grind
 have u:=hv.ok x (by rw[z];simp);rw[re z hv hx];have B:=hv.so;have A:=hv.n4;rw[z]at B A;rw[zEa,zE2]at B;refine⟨λr y=>?_,?_,by simpa using A⟩
 .rw[zAy,zBx]at y
  rcases y with y|rfl|y
  .exact hv.ok r (by rw[z];simp[y])
  .refine⟨u.i0,u.i1,u.v0,u.v1,u.c0,u.c1,u.t0,u.t1,?_⟩;have h1:=TE u.lg
   have h2:kT [] x.legs=true:=by
    have:=u.lg
    grind [bP,VH,Gb]
   unfold Gb;rw[zAi];exact⟨zAc (by rw[List.length_zipWith];omega),Qe x.legs w [] [] Z C.1 C.2 h2⟩
  .exact hv.ok r (by rw[z];simp[y])
 all_goals grind [bP,VH,List.pairwise_cons]
def Pe (r:Rg) (hb:GT r):zO 167 [kD r] [] (kD r) []:=by
 have G:=hb.s;have A:=hb.l;have B:=jU r.ag.sec zB;have C:=TA r.ag.lim zB;have E:=hb.tk.n;have hv:=hb.v;have u:=VE r.tk zB;have y:=BG r.vh zB;have z:=zA yK r.tk;refine eM call167 λF hF=>?_
 refine yB (qS B C u) ?_;refine zM ((r.tk.map yK).length) [1001,1,2] [1,2] [1,2,22] [23,1,2,22] Z (λi T U=>⟨(23,iA i)::T,(1001,.arr 6 (dI i (r.tk.map yK)) false)::U⟩) (Lq ?_ ?_)
 .intro i hi;have hi':i<ln r.tk:=by omega
  have I:(dI i (r.tk.map yK))[i]? =some (yK (r.tk.getD i dd)):=zJ yK r.tk i hi';have e:=fW yK r.tk i hi';have u:=jU (r.tk.getD i dd).sec (by have:=hb.tk.s (r.tk.getD i dd) QT;omega);generalize (r.tk.getD i dd)=t,dI i (r.tk.map yK)=xs,dI (i+1) (r.tk.map yK)=ys at *;subst e;refine zP u ?_;rfl
 ·(refine zP y ?_)
  exact zH [] Z Z (zAt (rgX r) zAa) Z
structure xU where
 rg:Rg
 rq:List Rq
 dr:List (List Int)
 au:List Bool
def uE (l:List Int):AV:=zE yA l
def wG (r:Rg) (a b c:AV):AV:= .agg [iA r.num,zE yA r.ag.sec,iA r.ag.rights,iA r.ag.cls,zE iA r.ag.lim,iA r.ag.req,iA r.ag.ses,iA r.ag.rate,iA r.ag.burst,zE yK r.tk,zE vB r.vh,iA r.bk.level,iA r.bk.rate,iA r.bk.burst,a,b,c]
def zN (d:xU):AV:=wG d.rg (zE yS d.rq) (zE uE d.dr) (zE bA d.au)
structure cY (d:xU):Prop where
 rg:GT d.rg
 q:d.rq.length<=1000
 g:∀r∈d.rq,r.legs.length<=1000
 n:d.dr.length<=1000
 e:∀b∈d.dr,b.length<=1000
 a:d.au.length<=1000
def MZ (l:List Rq) (hl:ln l<=1073741824):zO 168 [zE yS l] [] (.ref 1001 0 (l.map yS).length) [(1001,.arr 5 (l.map yS) false)]:=by
 have u:=zA yS l;refine eM call168 λF hF=>?_
 refine xW 0 Z (λcap hx=>?_) ?_
 .have:l=[]:=by simpa using hx
  subst this
  (repeat' (first|refine Ze ?_|apply yY|apply xN|intro hc|fail))
  refine uN 2 1001 5 Z Z Z (xP ?_);exact zV [1001] Z Z Z Z
 .repeat' (first|(apply zG;first|refine vT tok Z Z ?_|(apply vE;refine wO (xQ tok (.inl ⟨rfl,rfl⟩) Z Z Z Z) Z ?_)|(apply yL;refine qH (nw:=[1001]) (xD tok 1001 (xs:=[]) Z Z Z Z Z Z Z Z Z) Z Z Z ?_)|(apply yI;refine wU tok Z Z Z Z Z Z Z (yG _ _ (λ_=>rfl)) Z Z Z zB Z ?_)|apply qV)|(first|apply wF|apply wB|refine uW Z ?_|refine yT Z ?_|refine yH Z ?_|refine wL Z (λhc=>?_) λhc=>?_|apply xO|apply xP|apply wA|apply xE))
  exact zV [1001] Z Z Z Z
def qc (l:List (List Int)) (hl:ln l<=1073741824):zO 170 [zE uE l] [] (.ref 1002 0 (l.map uE).length) [(1002,.arr 1 (l.map uE) false)]:=by
 have u:=zA uE l;refine eM call170 λF hF=>?_
 refine xW 0 Z (λcap hx=>?_) ?_
 .have:l=[]:=by simpa using hx
  subst this
  (repeat' (first|refine Ze ?_|apply yY|apply xN|intro hc|fail))
  refine uN 2 1002 1 Z Z Z (xP ?_);exact zV [1002] Z Z Z Z
 .repeat' (first|(apply zG;first|refine vT tok Z Z ?_|(apply vE;refine wO (xQ tok (.inl ⟨rfl,rfl⟩) Z Z Z Z) Z ?_)|(apply yL;refine qH (nw:=[1002]) (xD tok 1002 (xs:=[]) Z Z Z Z Z Z Z Z Z) Z Z Z ?_)|(apply yI;refine wU tok Z Z Z Z Z Z Z (yG _ _ (λ_=>rfl)) Z Z Z zB Z ?_)|apply qV)|(first|apply wF|apply wB|refine uW Z ?_|refine yT Z ?_|refine yH Z ?_|refine wL Z (λhc=>?_) λhc=>?_|apply xO|apply xP|apply wA|apply xE))
  exact zV [1002] Z Z Z Z
def BT (l:List Bool) (hl:ln l<=1073741824):zO 171 [zE bA l] [] (zE bA l) []:=by
 have u:=zA bA l;refine eM call171 λF hF=>?_
 refine xW 0 Z (λcap hx=>?_) ?_
 .have:l=[]:=by simpa using hx
  subst this;exact mx
 ·(refine WW ?_)
  refine zH [] Z Z (eU _ _) Z
def TJ (d:xU) (hb:cY d):zO 106 [zN d] [] (zN d) []:=by
 have y:=Pe d.rg hb.rg;have M:=hb.q;have A:=hb.n;have z:=hb.a;have G:=MZ d.rq zB;have I:=qc d.dr zB;have L:=BT d.au zB;have C:=zA yS d.rq;have B:=zA uE d.dr;unfold zN wG;unfold kD at y;refine eM call106 λF hF=>?_
 refine yB (xH y G) ?_;refine zM ((d.rq.map yS).length) [1001,1,2] [1,2] [1,2,15] [16,1,2,15] Z (λi T U=>⟨(16,iA i)::T,(1001,.arr 5 (dI i (d.rq.map yS)) false)::U⟩) (Lq ?_ ?_)
 .intro i hi;have hi':i<ln d.rq:=by omega
  have E:(dI i (d.rq.map yS))[i]? =some (yS (d.rq.getD i dd)):=zJ yS d.rq i hi';have e:=fW yS d.rq i hi';have u:=RD (d.rq.getD i dd).legs (hb.g (d.rq.getD i dd) QT);generalize (d.rq.getD i dd)=t,dI i (d.rq.map yS)=xs,dI (i+1) (d.rq.map yS)=ys at *;subst e;refine zP u ?_;rfl
 ·(refine zP I ?_)
  refine zM ((d.dr.map uE).length) [1002,1,2,1001] [1,2,1001] [1,2,38] [39,1,2,38] Z (λi T U=>⟨(39,iA i)::T,(1002,.arr 1 (dI i (d.dr.map uE)) false)::U⟩) (Lq ?_ ?_)
  .intro i hi;have hi':i<ln d.dr:=by omega
   have E:(dI i (d.dr.map uE))[i]? =some (uE (d.dr.getD i dd)):=zJ uE d.dr i hi';have e:=fW uE d.dr i hi';have u:=jU (d.dr.getD i dd) (by have:=hb.e (d.dr.getD i dd) QT;omega);generalize (d.dr.getD i dd)=t,dI i (d.dr.map uE)=xs,dI (i+1) (d.dr.map uE)=ys at *;subst e;refine zP u ?_;rfl
  ·(refine zP L ?_)
   refine zH [] Z Z ?_ Z
   show wG d.rg (.sl false ((d.rq.map yS).take (d.rq.map yS).length)) (.sl false ((d.dr.map uE).take (d.dr.map uE).length)) (zE bA d.au)=_
   rw[zAa,zAa];rfl
def kB (d:xU) (hb:cY d):zO 125 [zN d] [] (zN d) []:=by
 have u:=fC d.rg hb.rg;have L:=fD d.rq hb.q hb.g;have M:=hb.q;have z:=hb.n;have y:=hb.a;have C:=zA yS d.rq;have B:=zA uE d.dr;have A:=zA bA d.au;unfold zN wG;unfold kD at u;refine eM call125 λF hF=>?_
 refine OJ (xH u L) ?_;refine zW 4 1001 1 Z Z Z ?_;refine zU (d.dr) [1001,2,3] [2,3] [2,3,18,19] [4,20,2,3,18,19] Z (λi gd T U=>⟨(4,.ref 1001 0 (gd.map uE).length)::(20,iA i)::T,(1001,.arr 1 (gd.map uE) true)::U⟩) (Lq ?_ ?_)
 .intro i gd x post hx hi;have R:=zY uE hx hi;have E:=zX hx hi;have G:(gd.map uE).length=i:=by rw[f7,hi]
  have O:=hb.e x (yQ hx);have I:=zA yA x;have e:(gd++[x]).map uE=gd.map uE++[uE x]:=by simp
  clear hx;rw[e];generalize gd.map uE=xs,d.dr.map uE=S at *;refine WL ?_;rfl
 ·(refine WL ?_)
  refine zH [] Z Z ?_ Z
  show wG d.rg (zE yS d.rq) (.sl false ((d.dr.map uE).take (d.dr.map uE).length)) (zE bA d.au)=_
  rw[zAa];rfl
def bQ (l:List Vh) (id:Int):Vh:=(l.find? λv=>v.id==id).getD ⟨0,0⟩
def TK (l:List Vh) (id:Int):Bool:=l.any λv=>v.id==id
theorem wh {l gd post:List Vh} {x:Vh} {id:Int} (h:l=gd++x::post) (u:∀y∈gd,y.id≠id) (hx:x.id=id):bQ l id=x/\TK l id=true:=by grind [bQ,TK]
theorem dc {l:List Vh} {id:Int} (u:∀y∈l,y.id≠id):bQ l id=⟨0,0⟩/\TK l id=false:=by grind [bQ,TK,List.find?_eq_none]
def Oe (l:List Vh) (id:Int) (E:ln l<=1000000):zO 291 [zE vB l,iA id] [] (.tup [vB (bQ l id),bA (TK l id)]) []:=by
 have hl:=zA vB l;refine eM call291 λF hF=>?_
 refine WW ?_;refine kU (l) [4] [] [1,4,8,9] [10,1,4,8,9] Z (λi gd T U C=>(∀y∈gd,y.id≠id)/\C=⟨(10,iA i)::T,(4,.box [.s (.int .i64 0),.s (.int .i64 0)])::U⟩) (Lp ?_ ?_ ?_)
 .exact⟨by simp,rfl⟩
 .rintro i gd x post st hx hi ⟨hp,rfl⟩;have u:=zY vB hx hi;have B:=zX hx hi;by_cases A:x.id=id
  .obtain⟨e1,z⟩:=wh hx hp A;rw[e1,z];clear hx;exact mx
  .clear hx;refine WW ?_;exact⟨λy u=>by simp only[zAy,zA8]at u;rcases u with u|rfl;exact hp y u;exact A,rfl⟩
 .rintro st ⟨hp,rfl⟩;obtain⟨e1,z⟩:=dc hp;rw[e1,z];exact mx
def uS (l:List Vh) (c:Int):Nat:=(l.filter λv=>v.cls==c).length
def Bn (l:List Vh) (c:Int) (z:ln l<=1000000):zO 368 [zE vB l,iA c] [] (iA (uS l c)) []:=by
 have hl:=zA vB l;refine eM call368 λF hF=>?_
 refine WW ?_;refine zU (l) [] [] [1,8,9] [5,10,1,8,9] Z (λi gd T U=>⟨(5,iA (uS gd c))::(10,iA i)::T,U⟩) (Lq ?_ ?_)
 .intro i gd x post hx hi;have A:=zY vB hx hi;have y:=zX hx hi;have u:uS gd c<=i:=by rw[<-hi];exact zBz _ _
  have e:uS (gd++[x]) c=uS gd c+(if x.cls=c then 1 else 0):=by
   unfold uS;rw[zE1,zAf];by_cases h:x.cls=c
   all_goals simp[h]
  clear hx;by_cases h:x.cls=c
  .rw[Os h]at e;rw[e];generalize uS gd c=m at *;refine WW ?_;rfl
  .rw[hW h,zCy]at e;rw[e];generalize uS gd c=m at *;refine WW ?_;rfl
 .exact mx
def bR (l:List Vh) (i:Nat):Bool:=decide (0<=(l.getD i dd).id/\(l.getD i dd).id<=4294967295/\0<=(l.getD i dd).cls/\(l.getD i dd).cls<=3/\(0<i->(l.getD (i-1) dd).id<(l.getD i dd).id))
def LA (l:List Vh):Bool:=((pg (ln l)).all λi=>bR l i)&&decide ((ln l:Int)<=8)
theorem An {l:List Vh} {i:Nat} (hi:i<ln l) (h:bR l i=false):LA l=false:=by grind [bR,LA]
def RK (l:List Vh) (hn:ln l<=1000000):zO 364 [zE vB l] [] (bA (LA l)) []:=by
 have hl:=zA vB l;refine eM call364 λF hF=>?_
 refine WW ?_;refine zZ (ln l) [] [] [0,5,6] [7,0,5,6] Z (λi T U zs=>(∀s:Nat,s<i->bR l s=true)/\zs=⟨(7,iA i)::T,U⟩) (Lp ?_ ?_ ?_)
 .exact⟨λs S=>absurd S (zBa _),rfl⟩
 .rintro i st hi ⟨hp,rfl⟩
  have y:bR l i=true->∀s:Nat,s<i+1->bR l s=true:=λh s S=>by
   by_cases O:s=i
   .subst O;exact h
   .exact hp s zB
  have z:=λh=>An (l:=l) hi h
  have hy:=zJ vB l i hi;have u:bR l i=_:=rfl
  conv at u=>rhs;unfold bR
  by_cases B:0<i
  .have A:=yC vB l ((i:Int)-1) zB zB;rw[show((i:Int)-1).toNat=i-1 by omega]at A;have X:(l.map vB)[((i:Int)-1).toNat]? =some (vB (l.getD (i-1) dd)):=by rw[show((i:Int)-1).toNat=i-1 by omega];exact A
   clear A;generalize l.getD i dd=t,l.getD (i-1) dd=p,bR l i=Y at *;by_cases h1:0<=t.id/\t.id<=4294967295/\0<=t.cls/\t.cls<=3/\p.id<t.id
   .obtain⟨h1,h2,L,M,W⟩:=h1;rw[zAc ⟨h1,h2,L,M,λ_=>W⟩]at u;refine WW ?_;exact⟨y u,rfl⟩
   .rw[zAb (λh=>h1 ⟨h.1,h.2.1,h.2.2.1,h.2.2.2.1,h.2.2.2.2 B⟩)]at u;rw[z u]
    by_cases C:0<=t.id<;>by_cases E:t.id<=4294967295<;>by_cases G:0<=t.cls<;>by_cases I:t.cls<=3<;>by_cases V:p.id<t.id<;>first|(exfalso;exact h1 ⟨C,E,G,I,V⟩)|(exfalso;omega;done)|(clear h1;((refine WW ?_));exact zI)
  .obtain rfl:i=0:=by omega
   generalize l.getD 0 dd=t,bR l 0=Y at *;by_cases h1:0<=t.id/\t.id<=4294967295/\0<=t.cls/\t.cls<=3
   .obtain⟨h1,h2,L,M⟩:=h1;rw[zAc ⟨h1,h2,L,M,λh=>absurd h B⟩]at u;refine WW ?_;exact⟨y u,rfl⟩
   .rw[zAb (λh=>h1 ⟨h.1,h.2.1,h.2.2.1,h.2.2.2.1⟩)]at u;rw[z u]
    by_cases C:0<=t.id<;>by_cases E:t.id<=4294967295<;>by_cases G:0<=t.cls<;>by_cases I:t.cls<=3<;>first|(exfalso;exact h1 ⟨C,E,G,I⟩)|(exfalso;omega;done)|(clear h1;((refine WW ?_));exact zI)
 .rintro st ⟨hp,rfl⟩;have e:((pg (ln l)).all λi=>bR l i)=true:=zAm.2 λi hi=>hp i (zAw.1 hi)
  unfold LA;rw[e,zAj];by_cases R:(ln l:Int)<=8
  .rw[zAc R];exact mx
  .rw[zAb R];exact mx
def dW (k v:Int):Ms:=⟨14,[],[k,v],[]⟩
def FE (l:List Tk):Nat:=(l.filter λt=>!t.used).length
def XW (d:xU):Ms:=⟨20,[],[(FE d.rg.tk:Int),8-(ln d.rg.vh:Int),d.rg.ag.req-(ln d.rq:Int),d.rg.bk.level],[]⟩
theorem uh (gd:List Tk) (x:Tk):FE (gd++[x])=FE gd+(if x.used=true then 0 else 1):=by grind [FE]
def Iu (d:xU) (hb:cY d) (O:0<=d.rg.ag.req) (h1:d.rg.ag.req<=1000):zO 246 [zN d] [] (yO (XW d)) []:=by
 have S:=hb.q;have R:=hb.rg.tk.n;have hv:=hb.rg.v;have G:=zA yK d.rg.tk;have z:=zA vB d.rg.vh;have y:=zA yS d.rq;unfold XW;rw[<-z,<-y];unfold zN wG;refine eM call246 λF hF=>?_
 refine WW ?_;refine zU (d.rg.tk) [1,2] [1,2] [1,2,8,9] [3,10,1,2,8,9] Z (λi gd T U=>⟨(3,iA (FE gd))::(10,iA i)::T,U⟩) (Lq ?_ ?_)
 .intro i gd x post hx hi;have V:=zY yK hx hi;have B:=zX hx hi;have E:FE gd<=i:=by rw[<-hi];exact zBz _ _
  have e:=uh gd x;clear hx
  cases u:x.used with
  |true=>
   rw[u,Os Z,zCy]at e;rw[e];generalize FE gd=m at *;obtain⟨M,A,par,I,C,L⟩:=x;cases u;refine WW ?_;rfl
  |false=>
   rw[u,hW zAs]at e;rw[e];generalize FE gd=m at *;obtain⟨M,A,par,I,C,L⟩:=x;cases u;refine WW ?_;rfl
 .exact ny
def bc (d:xU) (ga:Int):Ms:=⟨13,[],[d.rg.num,ga],[]⟩
def dX (l:List Rq):List Int:=(l.map λr=>[r.id,r.til]).flatten
def BU (d:xU):Ms:=⟨19,[],dX d.rq,[]⟩
def pc (gd:List Rq) (x:Rq):(dX (gd++[x])).map iA=(dX gd).map iA++[iA x.id,iA x.til]:=by simp[dX]
theorem RL:∀l:List Rq,(dX l).length=2*ln l
 | []=>rfl
 |x::l=>by
  have:=RL l
  show(x.id::x.til::dX l).length=_
  rw[zAp,zAp,zAp];omega
def nc (l:List Rq) (q id:Int) (v:Vh) (u:Int) (x:List Lg) (ga:Int) (hv:VI l) (B:(ln l:Int)<=q) (hb:¬((0<=v.id/\v.id<=4294967295)/\(0<=v.cls/\v.cls<=3))):
  zO 293 [zE yS l,iA q,iA id,vB v,iA u,zE xK x,iA ga] [] (.tup [zE yS [],iA 1]) []:=by
 have z:=YX l q hv B;have y:=wN v.id 0 4294967295;have A:=wN v.cls 0 3;by_cases h1:0<=v.id/\v.id<=4294967295
 .have h2:¬(0<=v.cls/\v.cls<=3):=λh=>hb ⟨h1,h⟩
  rw[zAc h1]at y;rw[zAb h2]at A;refine eM call293 λF hF=>?_
  exact ng (qS z y A)
 .rw[zAb h1]at y;refine eM call293 λF hF=>?_
  exact ng (xH z y)
structure Qd where
 j:Int
 p:Int
 f:Int
 t:Int
def q4 (q:Qd):List Int:=[q.j,q.p,q.f,q.t]
def QM (u:List Qd):List Int:=(u.map q4).flatten
def RM (c:Cf) (ga:Int) (q:Qd):Bool:=decide (q.j<(ln c.js:Int))&&(decide (q.p<((c.js.getD q.j.toNat dd).ph.length:Int))&&Bh q.j q.p q.f q.t ga)
def IE (ga:Int) (q:Qd):Lg:=Ig q.j q.p q.f q.t ga
def qh (v:Vh):Bool:=decide ((0<=v.id/\v.id<=4294967295)/\(0<=v.cls/\v.cls<=3))
def A0 (l:List Rq) (q id u:Int) (v:Vh) (x:List Lg):Int:=if(ln l:Int)<=q then(if qh v=true then FX l q id u x else 1)else 1
def Q9 (l:List Rq) (q id u ga:Int) (v:Vh) (x:List Lg):List Rq:=if A0 l q id u v x=0 then bO l (VG id v u x ga)else []
def J6 (l:List Rq) (q id:Int) (v:Vh) (u:Int) (x:List Lg) (ga:Int) (hv:VI l) (A:0<=ga) (B:ga<=1073741824) (hx:ln x<=1000):
  zO 293 [zE yS l,iA q,iA id,vB v,iA u,zE xK x,iA ga] [] (.tup [zE yS (Q9 l q id u ga v x),iA (A0 l q id u v x)]) []:=by
 unfold Q9 A0;by_cases z:(ln l:Int)<=q
 .rw[Os z];by_cases hb:(0<=v.id/\v.id<=4294967295)/\(0<=v.cls/\v.cls<=3)
  .have y:qh v=true:=zAc hb;rw[Os y];exact Og l q id v u x ga hv z hb.1.1 hb.1.2 hb.2.1 hb.2.2 A B hx
  .have y:¬qh v=true:=λh=>hb (zD5 h)
   rw[hW y,hW xG];exact nc l q id v u x ga hv z hb
 .rw[hW z,hW xG];exact uc l q id v u x ga hv z
theorem OK:∀u:List Qd,(QM u).length=4*ln u
 | []=>rfl
 |x::l=>by
  have:=OK l
  show(x.j::x.p::x.f::x.t::QM l).length=_
  simp only[zAp];omega
theorem Hu (a b:List Qd):QM (a++b)=QM a++QM b:=by simp[QM]
theorem zo (x y z:Int) (gd post:List Qd) (i:Nat) (hi:ln gd=i):(x::y::z::QM (gd++post)).drop (3+4*i)=QM post:=by grind [QM,Hu,OK,List.drop_of_length_le]
def Me {α:Type} {l:List α} {n:Nat} {r:List α} (h:l.drop n=r) (k:Nat):l[n+k]? =r[k]? :=by rw[<-h,zCe]
def Z1 (x y z:Int) (gd post:List Qd) (q:Qd) (I:Int) (u:I=3+4*(ln gd:Int)):
  (((x::y::z::QM (gd++q::post)).map iA).drop I.toNat).take ((I+4).toNat-I.toNat)=[iA q.j,iA q.p,iA q.f,iA q.t]:=by
 have h:=zo x y z gd (q::post) (ln gd) Z;rw[<-zC4,show I.toNat=3+4*ln gd by omega,h,show(I+4).toNat-(3+4*ln gd)=4 by omega];rfl
def jh (c:Cf) (d:xU) (y id v u ga:Int) (z:List Qd):Int:=
 if TK d.rg.vh v=true then(if y<(bQ d.rg.vh v).cls then 17 else if z.all (RM c ga)=true then A0 d.rq d.rg.ag.req id u (bQ d.rg.vh v) (z.map (IE ga))else 8)else 12
def Y1 (c:Cf) (d:xU) (y id v u ga:Int) (z:List Qd):List Rq:=
 if jh c d y id v u ga z=0 then bO d.rq (VG id (bQ d.rg.vh v) u (z.map (IE ga)) ga)else []
def W1 {α:Type} {p:α->Bool} {gd post:List α} {x:α} (h:p x=false):¬(gd++x::post).all p=true:=by
 simp[h]
def Ah (d:xU) (l:List Rq):xU:=⟨d.rg,l,d.dr,d.au⟩
theorem mc (c:Cf) (d:xU) (k:Int) (O:List Int) (id v u E ga:Int) (B:List Qd) (hb:cY d) (hv:VI d.rq) (hq:ln B<=3) (hp:∀q∈B,0<=q.j/\0<=q.p) (n0:0<=ga) (n1:ga<=1073741824):
  zO 243 [vL c,zN d,yO ⟨k,O,id::v::u::QM B,[]⟩,iA E,iA ga] [] (.tup [zN (Ah d (if jh c d E id v u ga B=0 then Y1 c d E id v u ga B else d.rq)),iA (jh c d E id v u ga B)]) []:=by
 have G:=Oe d.rg.vh v (by have:=hb.rg.v;omega);have C:=J6 d.rq d.rg.ag.req id (bQ d.rg.vh v) u (B.map (IE ga)) ga hv n0 n1 (by rw[f7];omega);have a2:((id::v::u::QM B).map iA).length=3+4*ln B:=by simp[OK];omega
 have a1:=zA xC c.js;unfold Y1 jh Ah;unfold vL zN wG;rw[show yO ⟨k,O,id::v::u::QM B,[]⟩= .agg [iA k,zE yA O,zE iA (id::v::u::QM B),.sl false []]from Z];generalize TK d.rg.vh v=ap at*
 cases ap with
 |false=>
  rw[hW zAs,hW xG];refine eM call243 λF hF=>?_
  exact nl G
 |true=>
 rw[Os Z];generalize bQ d.rg.vh v=vh at *;unfold vB at G C;by_cases R:E<vh.cls
 .rw[Os R,hW xG];refine eM call243 λF hF=>?_
  exact nl G
 rw[hW R];refine eM call243 λF hF=>?_
 refine zP G ?_;refine zW 14 1001 5 Z Z Z ?_;refine fH (ln B) [1001,5,6,7,12,10] [5,6,7,12,10] [4,5,6,7,10,12] [14,15,4,5,6,7,10,12] Z (λzn T U zs=>∃(gd:List Qd) (post:List Qd),(B=gd++post/\zn=ln post/\gd.all (RM c ga)=true)/\zs=⟨(14,.ref 1001 0 (gd.map λq=>xK (IE ga q)).length)::(15,iA (3+4*(ln gd:Int)))::T,(1001,.arr 5 (gd.map λq=>xK (IE ga q)) true)::U⟩) ?_;(conv=>whnf);refine⟨?_,?_⟩
 .exact⟨[],B,⟨rfl,rfl,rfl⟩,rfl⟩
 .rintro zn st ⟨gd,post,⟨hqs,hzn,hok⟩,rfl⟩;have V:ln B=ln gd+ln post:=by rw[hqs,zAf]
  have a4:=zA (λq=>xK (IE ga q)) gd
  cases post with
  |nil=>
   rw[zA6]at hqs;subst hqs;rw[Os hok];rw[zBq]at V hzn;have e1:(B.map λq=>xK (IE ga q))=(B.map (IE ga)).map xK:=by rw[zFr];rfl
   unfold Q9 at C;rw[e1]at *; generalize B.map (IE ga)=ls at *;generalize A0 d.rq d.rg.ag.req id u vh ls=e at *;generalize bO d.rq (VG id vh u ls ga)=il at *;generalize hI:3+4*(ln B:Int)=I at *;rw[show(id::v::u::QM B).map iA=iA id::iA v::iA u::(QM B).map iA from Z]at *; generalize (QM B).map iA=A at *;refine WD ?_;refine vJ [5,6,7,10,12] [4,5,6,7,10,12,14] Z ?_
   (conv=>whnf)
   simp only[zAr,zAa];by_cases he:e=0
   .subst he;rw[Os Z]at C⊢;exact nl C
   .rw[hW he]at C⊢;exact nl C
  | cons q post=>
   have Y:=hp q (by rw[hqs];simp);have ac:=Z1 id v u gd post q _ Z;rw[<-hqs]at ac;rw[zAp]at V hzn;have y:RM c ga q=false->¬B.all (RM c ga)=true:=λh=>by rw[hqs];exact W1 h
   have z:RM c ga q=true->(gd++[q]).all (RM c ga)=true:=λh=>by rw[List.all_append,hok,zE6,h];rfl
   have L:((gd++[q]).map λq=>xK (IE ga q))=(gd.map λq=>xK (IE ga q))++[xK (IE ga q)]:=by simp
   have M:=BL q.j q.p q.f q.t ga;rw[show RM c ga q=(decide (q.j<(ln c.js:Int))&&(decide (q.p<((c.js.getD q.j.toNat dd).ph.length:Int))&&Bh q.j q.p q.f q.t ga))from Z]at y z;have az:(id::v::u::QM B).length=3+4*ln B:=by simp[OK];omega
   generalize hA:id::v::u::QM B=A at *;have hI:0<=3+4*(ln gd:Int)/\3+4*(ln gd:Int)+4=3+4*((gd++[q]).length:Int)/\3+4*(ln gd:Int)+4<=ln A:=⟨zB,by simp;omega,zB⟩
   cases g3:Bh q.j q.p q.f q.t ga with
   |false=>
    rw[g3]at y M;rw[zB3,zB3]at y;rw[hW zAs]at M;rw[hW (y Z),hW xG];generalize 3+4*(ln gd:Int)=I at *;generalize Ig q.j q.p q.f q.t ga=lg at *;clear y z L hqs;exact nl M
   |true=>
   rw[g3]at z M y;rw[Os Z]at M;by_cases W:q.j<(ln c.js:Int)
   case neg=>
    rw[zAb W]at y;rw[hW (y Z),hW xG];generalize 3+4*(ln gd:Int)=I at *;generalize Ig q.j q.p q.f q.t ga=lg at *;clear y z L hqs;exact nl M
   have au:=yC xC c.js q.j Y.1 W;rw[zAc W]at y z;rw[show xC (c.js.getD q.j.toNat dd)= .agg [zE yU (c.js.getD q.j.toNat dd).ph,zE iA (c.js.getD q.j.toNat dd).cf,iA (c.js.getD q.j.toNat dd).st]from Z]at au;generalize c.js.getD q.j.toNat dd=jn at *;have a3:=zA yU jn.ph;by_cases g2:q.p<(ln jn.ph:Int)
   case neg=>
    rw[zAb g2]at y;rw[hW (y Z),hW xG];generalize 3+4*(ln gd:Int)=I at *;generalize Ig q.j q.p q.f q.t ga=lg at *;clear y z L hqs;exact nl M
   rw[zAc g2]at z;have ar:=z Z;obtain⟨av,X,ax⟩:=hI;have S:B=(gd++[q])++post:=by rw[hqs];simp
   rw[show Ig q.j q.p q.f q.t ga=IE ga q from Z]at M;generalize IE ga q=lg at *;clear y z hqs;generalize a5:gd++[q]=pq at *;generalize (gd.map λq=>xK (IE ga q))=xs at *;generalize 3+4*(ln gd:Int)=I at *;refine zP M ?_;exact⟨ln post,zB,pq,post,⟨S,rfl,ar⟩,by rw[L,<-X];rfl⟩
def TL (n:Int) (a:Ag) (N:Nat):xU:=⟨PD n a,[],[],List.replicate N false⟩
def V1 (n:Int) (a:Ag) (N:Nat) (hN:N=1\/N=2) (z:a.ses=(N:Int)) (C:ln a.sec<=1000000) (hl:ln a.lim<=1000000):zO 80 [iA n,wP a] [] (zN (TL n a N)) []:=by
 have y:=Mz n a C hl;unfold TL;obtain⟨u,I,B,E,L,M,G,A⟩:=a;dsimp only at z;subst z;unfold wP kD at y;unfold wP zN wG;dsimp only at *;generalize PD n ⟨u,I,B,E,L,(N:Int),G,A⟩=r at*
 rcases hN with rfl|rfl
 all_goals
  refine eM call80 λF hF=>?_
  exact nl y
def Gu (n:Int) (a:Ag) (N:Nat) (hN:N=1\/N=2) (z:a.ses=(N:Int)) (C:ln a.sec<=1000000) (hl:ln a.lim<=1000000):zO 85 [iA n,wP a] [] (zN (TL n a N)) []:=by
 have y:=Jt n a C hl;unfold TL;obtain⟨u,I,B,E,L,M,G,A⟩:=a;dsimp only at z;subst z;unfold wP kD at y;unfold wP zN wG;dsimp only at *;generalize PD n ⟨u,I,B,E,L,(N:Int),G,A⟩=r at*
 rcases hN with rfl|rfl
 all_goals
  refine eM call85 λF hF=>?_
  exact nl y
def w2 (p:Int×Int):List Int:=[p.1,p.2]
def KG (u:List (Int×Int)):List Int:=(u.map w2).flatten
theorem FF:∀u:List (Int×Int),(KG u).length=2*ln u
 | []=>rfl
 |x::l=>by
  have:=FF l
  show(x.1::x.2::KG l).length=_
  simp only[zAp];omega
theorem Fu (a b:List (Int×Int)):KG (a++b)=KG a++KG b:=by simp[KG]
theorem H6 (x:Int) (gd post:List (Int×Int)) (q:Int×Int) (I:Int) (u:I=1+2*(ln gd:Int)):
  ((x::KG (gd++q::post)).map iA)[I.toNat]? =some (iA q.1)/\((x::KG (gd++q::post)).map iA)[(I+1).toNat]? =some (iA q.2):=by
 have h:(x::KG (gd++q::post)).drop (1+2*ln gd)=KG (q::post):=by
  grind [KG,iA,Fu,FF,List.drop_of_length_le]
 refine⟨?_,?_⟩<;>rw[zAh]
 .rw[show I.toNat=1+2*ln gd+0 by omega,Me h];rfl
 .rw[show(I+1).toNat=1+2*ln gd+1 by omega,Me h];rfl
def j4 (l:List Rq) (id:Int) (u:List (Int×Int)) (ga:Int):List Rq:=if bP l id u ga=0 then VH l id u ga else []
def U1 (d:xU) (y:List Int) (id ga:Int) (u:List (Int×Int)) (hv:VI d.rq) (hw:ln u<=3) (Y:0<=ga) (n1:ga<=1073741824):
  zO 244 [zN d,yO ⟨7,y,id::KG u,[]⟩,iA ga] [] (.tup [zN (Ah d (if bP d.rq id u ga=0 then j4 d.rq id u ga else d.rq)),iA (bP d.rq id u ga)]) []:=by
 have C:=Mg d.rq id u ga hv zB Y n1;have V:((id::KG u).map iA).length=1+2*ln u:=by simp[FF];omega
 unfold j4 Ah;unfold zN wG;rw[show yO ⟨7,y,id::KG u,[]⟩= .agg [iA 7,zE yA y,zE iA (id::KG u),.sl false []]from Z];generalize bP d.rq id u ga=e,VH d.rq id u ga=ul at *;refine eM call244 λF hF=>?_
 refine WW ?_;refine zW 8 1001 2 Z Z Z ?_;refine fH (ln u) [1001,3,4,6] [3,4,6] [2,3,4,6] [8,9,2,3,4,6] Z (λO T U zs=>∃(gd:List (Int×Int)) (post:List (Int×Int)),(u=gd++post/\O=ln post)/\zs=⟨(8,.ref 1001 0 (gd.map Ng).length)::(9,iA (1+2*(ln gd:Int)))::T,(1001,.arr 2 (gd.map Ng) true)::U⟩) ?_;(conv=>whnf);refine⟨?_,?_⟩
 .exact⟨[],u,⟨rfl,rfl⟩,rfl⟩
 .rintro O st ⟨gd,post,⟨hqs,hzn⟩,rfl⟩;have B:ln u=ln gd+ln post:=by rw[hqs,zAf]
  have W:=zA Ng gd
  cases post with
  |nil=>
   rw[zA6]at hqs;subst hqs;rw[zBq]at B hzn;generalize L:1+2*(ln u:Int)=I at *;rw[show(id::KG u).map iA=iA id::(KG u).map iA from Z]at *; generalize (KG u).map iA=A at *;refine WD ?_;refine vJ [3,4,6] [2,3,4,6,8] Z ?_
   (conv=>whnf)
   simp only[zAr,zAa];by_cases M:e=0
   .subst M;rw[Os Z]at C⊢;exact nl C
   .rw[hW M]at C⊢;exact nl C
  |cons q post=>
   obtain⟨y0,y1⟩:=H6 id gd post q _ Z;rw[<-hqs]at y0 y1;rw[zAp]at B hzn;have G:((gd++[q]).map Ng)=gd.map Ng++[.agg [iA q.1,iA q.2]]:=by simp[Ng]
   have L:0<=1+2*(ln gd:Int)/\1+2*(ln gd:Int)+2=1+2*((gd++[q]).length:Int)/\1+2*(ln gd:Int)+1<((id::KG u).map iA).length:=⟨zB,by simp;omega,zB⟩;have z:u=(gd++[q])++post:=by rw[hqs];simp
   generalize (id::KG u).map iA=A at *;obtain⟨R,E,S⟩:=L;clear hqs;generalize X:gd++[q]=pq at *;generalize gd.map Ng=xs at *;generalize 1+2*(ln gd:Int)=I at *;refine WW ?_;exact⟨ln post,zB,pq,post,⟨z,rfl⟩,by rw[G,<-E];rfl⟩
def TM (l:List Tk) (s:Int):zO 344 [zE yK l,iA s] [] (bA (jQ l s)) []:=by
 have hl:=zA yK l;unfold jQ;by_cases h1:0<=s
 .by_cases h2:s<ln l
  .have u:=yC yK l s h1 h2;rw[zAc ⟨h1,h2⟩,zAj];refine eM call344 λF hF=>?_
   exact mx
  .rw[zAb zB,zA7];refine eM call344 λF hF=>?_
   exact mx
 .rw[zAb zB,zA7];refine eM call344 λF hF=>?_
  exact mx
def yo (g s:Int) (l:List Int) (hl:ln l<=1000000) (y:0<=g) (z:g<256) (A:0<=s) (B:s<256):zO 376 [iA g,iA s,zE yA l] [] (zE yA (g::s::l)) []:=by
 have u:=zA yA l;refine eM call376 λF hF=>?_
 refine WW ?_;exact zH [] Z Z (zAt (AV.sl false) (zAl yE)) Z
theorem P9 (n:Int) (h:0<=n):wY n 7=n/128:=by grind [wY]
def P7:Nat->Int
 |0=>1
 |z+1=>128*P7 z
def o4 (n:Int):Int:=IntKind.u8.wrap ((BitVec.ofInt IntKind.u8.bits (IntKind.u8.wrap (uX n 127)) ||| BitVec.ofInt IntKind.u8.bits 128).toNat)
def zi:Nat->Int->List Int
 |0,n=>[n]
 |z+1,n=>if 128<=n then o4 n::zi z (n/128)else [n]
theorem FG:∀z n,(zi z n).length<=z+1
 |0,n=>zAe _
 |z+1,n=>by
  unfold zi;split
  .have:=FG z (n/128);simp only[zAp];omega
  .simp
def Eu (z:Nat) (n:Int) (h:n<128):zi z n=[n]:=by
 cases z with
 |zero=>rfl
 |succ z=>unfold zi;rw[hW zB]
def RN (n:Int):List Int:=if 0<=n/\n<=4294967295 then zi 5 n else []
def wo (n:Int):Int:=if 0<=n/\n<=4294967295 then 0 else 8
theorem aP (n:Int):(RN n).length<=6:=by grind [RN,FG]
def FH (n:Int):zO 235 [iA n] [] (.tup [zE yA (RN n),iA (wo n)]) []:=by
 unfold RN wo;by_cases h1:0<=n
 case neg=>
  rw[hW (λh=>h1 h.1),hW (λh=>h1 h.1)];refine eM call235 λF hF=>?_
  exact mx
 by_cases h2:n<=4294967295
 case neg=>
  rw[hW (λh=>h2 h.2),hW (λh=>h2 h.2)];refine eM call235 λF hF=>?_
  exact mx
 rw[Os ⟨h1,h2⟩,Os ⟨h1,h2⟩];refine eM call235 λF hF=>?_
 refine WW ?_;refine vY 11 Z ?_;refine fH (5) [11] [] [] [0,4] Z (λy T U O=>∃(u:List Int) (x:Int),(0<=x/\x<P7 y*128/\u++zi y x=zi 5 n/\u.length<=100)/\O=⟨(0,iA x)::(4,.ref 11 0 (u.map yA).length)::T,(11,.arr 1 (u.map yA) true)::U⟩) ?_;(conv=>whnf);refine⟨?_,?_⟩
 .exact⟨[],n,⟨h1,by show n<34359738368*128;omega,rfl,by simp⟩,rfl⟩
 .rintro y st ⟨u,x,⟨b1,b2,b3,b4⟩,rfl⟩;have M:=zA yA u;by_cases hx:128<=x
  .have S:y≠0:=λe=>by
    subst e;have:P7 0=1:=rfl;omega
   obtain⟨z,rfl⟩:∃z,y=z+1:=⟨y-1,zB⟩;have e:=P9 x b1;have I:P7 (z+1)=128*P7 z:=rfl
   have G:zi (z+1) x=o4 x::zi z (x/128):=by
    show(if 128<=x then _ else _)=_
    rw[Os hx]
   rw[G]at b3;have E:(u++[o4 x]).map yA=u.map yA++[yA (o4 x)]:=by simp
   have B:u++[o4 x]++zi z (wY x 7)=zi 5 n:=by rw[e,zA2];exact b3
   have A:0<=wY x 7/\wY x 7<P7 z*128:=by rw[e];rw[I]at b2;omega
   have C:ln u+1<=100:=by
    have L:=zAt List.length b3;have R:=FG 5 n;simp only[zAf,zAp]at L;omega
   clear G b3 I
   (repeat' (first|refine qU ?_|apply yY|apply xN|intro hc|(apply zG;first|(apply vE;refine wO (HB Z Z) Z ?_))|fail))
   exact⟨z,zB,u++[o4 x],wY x 7,⟨A.1,A.2,B,by simpa using C⟩,by rw[E];rfl⟩
  .rw[Eu y x zB]at b3;rw[<-b3];have E:zE yA (u++[x])= .sl false ((u.map yA++[yA (x)]).take (u.map yA++[yA (x)]).length):=by rw[zAa];unfold zE;rw[zAd];rfl
   rw[E];exact mx
