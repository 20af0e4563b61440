/- Part 27. -/
import Derived.Test.YtdjfiebpnmieoaaGreatC26
namespace Go.Proofs.YtdjfiebpnmieoaaGreat.Av
open Tryz
set_option linter.all false
set_option maxRecDepth 4000
set_option maxHeartbeats 16000000
open List renaming length->ln,take->nm,getD->ny
open Inhabited renaming default->dd
variable {n:Nat}
def L5 (k:Int) (h:13<=k/\k<=21):zO 246 [iA k] [] (.agg [iA (gM k).1,iA (gM k).2.1,iA (gM k).2.2.1,iA (gM k).2.2.2.1,iA (gM k).2.2.2.2]) []:=by
 have:k=13\/k=14\/k=15\/k=16\/k=17\/k=18\/k=19\/k=20\/k=21:=by omega
 rcases this with rfl|rfl|rfl|rfl|rfl|rfl|rfl|rfl|rfl
 all_goals
  refine eM call246 λF hF=>?_
  exact lc
theorem FI (k:Int) (B z:Nat) (lo hi sd:Int) (R:zO 246 [iA k] [] (.agg [iA (B:Int),iA (z:Int),iA lo,iA hi,iA sd]) []) (hg:z<=4) (m:Ms) (c:Nat) (hk:m.kind=k) (ht:ln m.tok<=10) (hd:ln m.data<=100000) (ha:∀x∈m.args,0<=x/\x<=4294967295) (hn:ln m.args<=1000) (hc:z≠0->ln m.args=B+c*z) (au:c<=16):
  zO 232 [yC m] [] (zD yA (ZW B z c m)) []:=by
 subst hk;have a1:=zA yA m.tok;have ac:=zA iA m.args;have ax:=zA yA m.data;unfold ZW;generalize hT:m.tok++XT B z c 0 m.args=ap;refine eM call232 λF hF=>?_
 (have gd:=R;(repeat' (first|refine uD ?_|apply yZ|apply xM|intro hc|(apply zG;first|(apply yG;refine wA 1001 tok Z Z Z Z Z Z (zZ _ _ (λ_=>rfl)) Z Z Z zB Z Z Z ?_))|fail))<;>clear gd)
 refine uG 1001 Z ?_;refine qC (m.args) [1001,1,3] [1,3] [1,3,16,17] [4,18,1,3,16,17] Z (λi ga T U zs=>∃u:List Int,(ln u<=10+6*i/\∀post,m.args=ga++post->u++XT B z c i post=ap)/\zs=⟨(4,.ref 1001 0 (u.map yA).length)::(18,iA i)::T,(1001,.arr 1 (u.map yA) true)::U⟩) (Lp ?_ ?_ ?_)
 .exact⟨m.tok,⟨zB,λpost h=>by rw[<-hT,h];rfl⟩,rfl⟩
 .rintro i ga x post st hx hi ⟨u,⟨q0,q1⟩,rfl⟩;have hy:=yI iA hx hi;have ar:=zV hx hi;have M:=ha x (yV hx);have L:=zA yA u;have he:=fD x;have W:=Rx x M.1 M.2;have az:=zA yA (gN x)
  have A:∀p,m.args=ga++[x]++p->p=post:=λp h=>by
   rw[hx,zA0]at h;simpa using h.symm
  have C:=q1 _ hx;clear q1 hT hx;by_cases G:i=B/\z≠0
  .obtain⟨rfl,E⟩:=G;have I:=hc E
   have hq:(((m.args.map iA).length:Int)-(i:Int)).tdiv (z:Int)=(c:Int):=by
    rw[ac,I,show(((i+c*z:Nat):Int)-(i:Int))=(c:Int)*(z:Int) by rw[Int.natCast_add,zE0];omega];exact Int.mul_tdiv_cancel _ zB
   have av:UJ .i64 ((((m.args.map iA).length:Int)-(i:Int)).tdiv (z:Int)):=by rw[hq];exact⟨zB,zB⟩
   have e:XT i z c i (x::post)=[(c:Int)]++(gN x++XT i z c (i+1) post):=by rw[XT,Os ⟨rfl,E⟩]
   rw[e]at C;clear e I hc;generalize gN x=S at *;refine yJ (xV R W) ?_;refine⟨u++[(c:Int)]++S,⟨by simp;omega,λp h=>by rw[A p h,<-C];simp⟩,?_⟩;rw[zAf,zAf,<-hq];rfl
  .have e:XT B z c i (x::post)=gN x++XT B z c (i+1) post:=by rw[XT,Of G];rfl
   rw[e]at C;clear e hc;generalize gN x=S at *;by_cases Y:i=B
   .have E:z=0:=by
     by_cases h:z=0
     .exact h
     .exact absurd ⟨Y,h⟩ G
    refine yJ (xV R W) ?_;refine⟨u++S,⟨by simp;omega,λp h=>by rw[A p h,<-C];simp⟩,?_⟩;rw[zAf];rfl
   ·(refine yJ (xV R W) ?_)
    refine⟨u++S,⟨by simp;omega,λp h=>by rw[A p h,<-C];simp⟩,?_⟩;rw[zAf];rfl
 .rintro st ⟨u,⟨q0,q1⟩,rfl⟩;have e:=q1 [] zW;rw[show XT B z c (ln m.args) []=[]from rfl,zA2]at e;subst e;have L:=zA yA u;clear q1 hT hc;by_cases V:z≠0/\m.args.length=B
  .rw[Os V];obtain⟨O,ag⟩:=V;refine WW ?_;refine zH [] Z Z ?_ Z
   show AV.sl false ((u.map yA++[yA 0]++m.data.map yA).take (u.map yA++[yA 0]++m.data.map yA).length)=_
   rw[zAb];unfold zD;rw[zAf,zAf,zA0];rfl
  .rw[Of V];by_cases O:z=0
   ·(refine WW ?_)
    refine zH [] Z Z ?_ Z
    show AV.sl false ((u.map yA++m.data.map yA).take (u.map yA++m.data.map yA).length)=_
    rw[zAb];unfold zD;rw[zAf];rfl
   .have ag:ln m.args≠B:=λh=>V ⟨O,h⟩
    refine WW ?_;refine zH [] Z Z ?_ Z
    show AV.sl false ((u.map yA++m.data.map yA).take (u.map yA++m.data.map yA).length)=_
    rw[zAb];unfold zD;rw[zAf];rfl
theorem xf (u z:Nat) (c:Int):∀(l:List Int) (i:Nat),(XT u z c i l).length=((l.map gN).flatten).length+(if i<=u/\u<i+ln l/\z≠0 then 1 else 0)
 | [],i=>by
  rw[Of (by rintro⟨h1,h2,_⟩;simp at h2;omega)];rfl
 | x::l,i=>by
  have A:=xf u z c l (i+1);rw[XT,zAh,zAh,A,zBk,zDb,zAh,zAm];by_cases h1:i=u/\z≠0
  .rw[Os h1,Of zB,Os zB];simp only[zAm,zBh];omega
  .rw[Of h1];by_cases h2:i+1<=u/\u<i+1+ln l/\z≠0
   .rw[Os h2,Os zB];simp only[zBh];omega
   .rw[Of h2,Of zB];simp only[zBh];omega
def Dj {k:Int} {u A:List Int} (h:A4 k u A) (B C c:Nat):(ZW B C c ⟨k,[],u,A⟩).length<=200:=by
 have E:=h.z
 grind [ZW,xf,List.length_append,List.length_cons,List.length_nil]
theorem Tc {k:Int} {u A:List Int} (h:A4 k u A):zO 205 [yC ⟨k,[],u,A⟩] [] (bA true) []:=by
 have C:=L5 k h.kk;have W:=aH k;have hk:=h.kk;rw[zAc zB]at W;have hz:=h.z;have G:=h.n;have hl:=h.l;have au:=zA iA u;have av:=zA yA A;have ap:ln A<=200:=by omega
 have hd:=h.d;have M:=Dj h;have E:k=13\/k=14\/k=15\/k=16\/k=17\/k=18\/k=19\/k=20\/k=21:=by omega
 rcases h.g with⟨Y,L⟩|⟨Y,gr,L,g3,g4,g5⟩
 .have ag:(gM k).2.2.2.2= -1\/0<=(gM k).2.2.2.2:=by omega
  generalize (gM k).2.2.1=lo,(gM k).2.2.2.1=hi at *;rw[Y,<-L]at C;have O:=FI k (ln u) 0 lo hi _ C zB ⟨k,[],u,A⟩ 0 Z zW NM G NM (λh=>absurd Z h) zB;have M:=M (ln u) 0 0;generalize ZW (ln u) 0 0 ⟨k,[],u,A⟩=V at *;have R:=zA yA V;generalize (gM k).2.2.2.2=sd at *;clear E Y hz h;unfold yC at *;dsimp only at*
  rcases ag with hs|hs
  all_goals
   refine eM call205 λF hF=>?_
   refine yJ (xV C W) ?_;refine zU (u) [1] [1] [1,97,98] [99,1,97,98] Z (λi ga T U=>⟨(99,iA i)::T,U⟩) (Lq ?_ ?_)
   .intro i ga x post hx hi;have hy:=yI iA hx hi;have I:=zV hx hi;have S:=G x (yV hx);clear hx G;refine WW ?_;rfl
   .exact lk O
 .have ac:k=18\/k=19:=by
   rcases E with rfl|rfl|rfl|rfl|rfl|rfl|rfl|rfl|rfl<;>first|exact .inl Z|exact .inr Z|(exfalso;revert Y;decide)
  obtain⟨B,rfl⟩:∃B:Nat,gr=(B:Int):=⟨gr.toNat,zB⟩
  rcases ac with rfl|rfl
  .have L:(ln u:Int)=1+3*(B:Int):=L;have g5:(B:Int)<=16:=g5;have C:zO 246 [iA 18] [] (.agg [iA 1,iA 3,iA 0,iA 16,iA 0]) []:=C;have hd:(ln A:Int)=0:=hd.elim (λh=>absurd h yX) id;have O:=FI 18 1 3 0 16 0 C zB ⟨18,[],u,A⟩ B Z zW NM G NM (λ_=>by dsimp only;omega) zB;have M:=M 1 3 B;generalize ZW 1 3 B ⟨18,[],u,A⟩=V at *;have R:=zA yA V;have hm:(((u.map iA).length:Int)-1).tmod 3=0:=by rw[zBm zB];omega
   clear E hz h;unfold yC at *;dsimp only at *;refine eM call205 λF hF=>?_
   refine yJ (xV C W) ?_;refine zU (u) [1] [1] [1,97,98] [99,1,97,98] Z (λi ga T U=>⟨(99,iA i)::T,U⟩) (Lq ?_ ?_)
   .intro i ga x post hx hi;have hy:=yI iA hx hi;have I:=zV hx hi;have S:=G x (yV hx);clear hx G;refine WW ?_;rfl
   .exact lk O
  .have L:(ln u:Int)=0+2*(B:Int):=L;have g5:(B:Int)<=4:=g5;have C:zO 246 [iA 19] [] (.agg [iA 0,iA 2,iA 0,iA 4,iA 0]) []:=C;have hd:(ln A:Int)=0:=hd.elim (λh=>absurd h yX) id;have O:=FI 19 0 2 0 4 0 C zB ⟨19,[],u,A⟩ B Z zW NM G NM (λ_=>by dsimp only;omega) zB;have M:=M 0 2 B;generalize ZW 0 2 B ⟨19,[],u,A⟩=V at *;have R:=zA yA V;have hm:(((u.map iA).length:Int)-0).tmod 2=0:=by rw[zBm zB];omega
   clear E hz h;unfold yC at *;dsimp only at *;refine eM call205 λF hF=>?_
   refine yJ (xV C W) ?_;refine zU (u) [1] [1] [1,97,98] [99,1,97,98] Z (λi ga T U=>⟨(99,iA i)::T,U⟩) (Lq ?_ ?_)
   .intro i ga x post hx hi;have hy:=yI iA hx hi;have I:=zV hx hi;have S:=G x (yV hx);clear hx G;refine WW ?_;rfl
   .exact lk O
def PH (u j:Int) (x:Rq) (g:Lg):List Cl:=if g.jn=j/\g.sc≠ -1 then [⟨u,x.id,g.ph,x.cls,g.sc⟩]else []
def cZ (u j:Int) (x:Rq) (l:List Lg):List Cl:=(l.map (PH u j x)).flatten
def Zh (u j:Int) (x:Rq) (l:List Lg) (g:Lg):cZ u j x (l++[g])=cZ u j x l++PH u j x g:=by simp[cZ]
theorem RE {u j:Int} {x:Rq}:∀{l:List Lg},(∀g∈l,g.jn≠j)->cZ u j x l=[]
 | [],_=>rfl
 |g::l,h=>by
  show PH u j x g++cZ u j x l=[]
  rw[RE λy z=>h y (by simp[z])];unfold PH;rw[Of (λe=>h g zW e.1)];rfl
theorem BB (u j:Int) (x:Rq):∀l:List Lg,(cZ u j x l).length<=ln l
 | []=>zAg _
 |g::l=>by
  have z:=BB u j x l;have e:cZ u j x (g::l)=PH u j x g++cZ u j x l:=rfl
  have h1:(PH u j x g).length<=1:=by unfold PH;split<;>simp
  rw[e,zAh,zAm];omega
theorem vf:∀{post q:List Lg} {x:Lg},jG q post=true->x∈q->∀y∈post,y.jn≠x.jn
 |y::post,q,x,h,hx,z,u=>by
  unfold jG at h;simp only[zAn,zCx]at h;obtain⟨_,h1,h2⟩:=h
  rcases zBv.1 u with rfl|u
  .intro e;have:=zCy.1 h1 x hx;rw[e]at this;simp at this
  .exact vf h2 (List.mem_append_left _ hx) z u
theorem HI:∀(ga:List Lg) {u post:List Lg} {x:Lg},jG u (ga++x::post)=true->∀y∈post,y.jn≠x.jn
 | [],u,post,x,h=>by
  rw[zCv]at h;unfold jG at h;simp only[zAn]at h;exact vf h.2.2 zW
 |a::ga,u,post,x,h=>by
  rw[zC0]at h;unfold jG at h;simp only[zAn]at h;exact HI ga h.2.2
def Cj {A j:Int} {x:Rq} (h:jG [] x.legs=true):cZ A j x x.legs=LM A j x:=by
 unfold LM;generalize hl:x.legs=l at *;by_cases E:∃g∈l,g.jn=j
 case neg=>
  have G:∀g∈l,g.jn≠j:=λg u e=>E ⟨g,u,e⟩
  rw[RE G,ZC (λy z=>by simpa using G y z),Os yX]
 obtain⟨ga,g,post,e,I,u⟩:∃ga g post,l=ga++g::post/\(∀y∈ga,y.jn≠j)/\g.jn=j:=by
  clear h hl
  induction l with
  |nil=>obtain⟨g,u,_⟩:=E;cases u
  | cons a l S=>
   by_cases B:a.jn=j
   .exact⟨[],a,l,rfl,(λy z=>(by cases z)),B⟩
   .obtain⟨g,u,e⟩:=E
    rcases zBv.1 u with rfl|u
    .exact absurd e B
    obtain⟨ga,O,post,e1,L,e3⟩:=S ⟨g,u,e⟩;exact⟨a::ga,O,post,(by rw[e1];rfl),(λy z=>(zBv.1 z).elim (λh=>h▸B) (L y)),e3⟩
 have R:=HI ga (e▸h);have hi:=MM (p:=λr:Lg=>r.jn==j) e (λy z=>by simpa using I y z) (by simpa using u);rw[hi,Of zB,zAx];have C:l.getD (ln ga) dd=g:=by rw[e];simp[ny]
 rw[C];have M:cZ A j x l=cZ A j x ga++(PH A j x g++cZ A j x post):=by rw[e];simp[cZ]
 rw[M,RE I,RE (λy z=>by rw[<-u];exact R y z),zCv,zA2];unfold PH;by_cases hs:g.sc= -1
 .rw[Os hs,Of (λh=>h.2 hs)]
 .rw[Of hs,Os ⟨u,hs⟩]
def BC (l:List Rq) (z j:Int) (hn:ln l<=1000) (hb:∀r∈l,ln r.legs<=1000) (hv:∀r∈l,jG [] r.legs=true):zO 51 [zD zX l,iA z,iA j] [] (zD kS (dB z j l)) []:=by
 have hl:=zA zX l;refine eM call51 λF hF=>?_
 refine WW ?_;refine zS 7 1001 5 Z Z Z ?_;refine zU (l) [1001] [] [1,2,12,13] [7,14,1,2,12,13] Z (λi ga T U=>⟨(7,.ref 1001 0 ((dB z j ga).map kS).length)::(14,iA i)::T,(1001,.arr 5 ((dB z j ga).map kS) true)::U⟩) (Lq ?_ ?_)
 .intro i ga x post hx hi;have hy:=yI zX hx hi;have O:=zV hx hi;have hq:=bC z j ga;have S:ln ga<=ln l:=by rw[hx];simp
  have W:(x.legs.map yN).length=ln x.legs:=zAa ..;have V:=hb x (yV hx);have B:=BB z j x;rw[HO,<-Cj (hv x (yV hx))];clear hx;generalize dB z j ga=X at *;unfold zX at hy;have G:X++cZ z j x []=X:=by simp[cZ]
  refine WW ?_;refine zU (x.legs) [1001,9] [9] [1,2,9,12,13,14,19,20] [7,21,1,2,9,12,13,14,19,20] Z (λi ga T U=>⟨(7,.ref 1001 0 ((X++cZ z j x ga).map kS).length)::(21,iA i)::T,(1001,.arr 5 ((X++cZ z j x ga).map kS) true)::U⟩) ?_;(conv=>whnf);refine⟨by(rw[G];rfl),?_,?_⟩
  .intro k u g E A hk;have C:=yI yN A hk;have I:=zV A hk;have R:ln u<=ln x.legs:=by rw[A];simp
   have M:=B u;have L:((X++cZ z j x u).map kS).length=ln X+(cZ z j x u).length:=by simp
   have e1:(X++cZ z j x (u++[g])).map kS=(X++cZ z j x u).map kS++(PH z j x g).map kS:=by rw[Zh,<-zA0,zAf]
   rw[e1];clear A B e1 G;generalize (X++cZ z j x u).map kS=Y,(cZ z j x u).length=n2 at *;unfold yN at C;by_cases h1:g.jn=j
   .by_cases h2:g.sc= -1
    .rw[show PH z j x g=[]from Of (λh=>h.2 h2),zBt,zA2];refine WW ?_;rfl
    .rw[show PH z j x g=[⟨z,x.id,g.ph,x.cls,g.sc⟩]from Os ⟨h1,h2⟩];refine WW ?_;rfl
   .rw[show PH z j x g=[]from Of (λh=>h1 h.1),zBt,zA2];refine WW ?_;rfl
  ·(refine WW ?_)
   rfl
 ·(refine WW ?_)
  exact zH [] Z Z (zAv (AV.sl false) zAb) Z
def LE (u:List xP):Prop:=∀i,i<ln u->(u.getD i dd).rg.num=(i:Int)
def BD (c:Cf) (rf:Bool) (f4:Int) (u:List xP) (j:Int) (hd:ln u<=1000) (hb:∀d∈u,cN d) (hv:∀d∈u,∀r∈d.rq,jG [] r.legs=true) (hN:LE u) (A B C:List AV) (a b e:Nat) (V:List Vw):
  zO 20 [bD c rf f4 (zD zK u) (.ref 1012 0 a) (.ref 1013 0 b) (.ref 1014 0 e) (zD wZ V),iA j] [(1012,.arr 5 A false),(1013,.arr 3 B false),(1014,.arr 1 C false)] (zD kS (gC j u)) [(1012,.arr 5 A false),(1013,.arr 3 B false),(1014,.arr 1 C false)]:=by
 have hl:=zA zK u;unfold bD;refine eM call20 λF hF=>?_
 refine WW ?_;refine zS 5 1001 5 Z Z Z ?_;refine zU (u) [1001,1012,1013,1014] [1012,1013,1014] [1,9,10] [5,11,1,9,10] Z (λi ga T U=>⟨(5,.ref 1001 0 ((gC j ga).map kS).length)::(11,iA i)::T,(1001,.arr 5 ((gC j ga).map kS) true)::U⟩) (Lq ?_ ?_)
 .intro i ga x post hx hi;have W:=yI zK hx hi;have G:=zV hx hi;have z:=hb x (yV hx)
  have E:x.rg.num=(i:Int):=by
   have:=hN i G
   rwa [show u.getD i dd=x by rw[hx,<-hi];simp[ny]]at this
  have M:=BC x.rq x.rg.num j z.q z.g (hv x (yV hx));have hq:=LN j ga (λd hd=>(hb d (by rw[hx];simp[hd])).q);have R:((gC j ga).map kS).length=(gC j ga).length:=zAa ..;have I:=bC x.rg.num j x.rq;have L:((dB x.rg.num j x.rq).map kS).length=(dB x.rg.num j x.rq).length:=zAa ..;have O:ln ga<=ln u:=by rw[hx];simp
  have S:=z.q;rw[HP,zAf];clear hx;generalize (gC j ga).map kS=X at *;unfold zD at M;rw[E]at M I L⊢;generalize dB (i:Int) j x.rq=Y at *;unfold zK xC at W;refine zQ M ?_;rfl
 ·(refine WW ?_)
  exact zH [1012,1013,1014] Z Z (zAv (AV.sl false) zAb) Z
def BE (m:Ms) (h1:ln m.tok<=1000) (h2:ln m.args<=1000) (z:ln m.data<=1000):zO 196 [yC m] [] (yC m) []:=by
 have e1:=zA yA m.tok;have u:=zA iA m.args;have e3:=zA yA m.data;unfold yC;refine eM call196 λF hF=>?_
 exact lp
def Sc (xs:List AV) (G:ln xs<=2000) (m:Ms) (h:VK m):zO 159 [.ref 1053 0 (ln xs),yC m] [(1053,.arr 4 xs true)] (.ref 1053 0 (xs++[yC m]).length) [(1053,.arr 4 (xs++[yC m]) true)]:=by
 obtain⟨u,S⟩:=h;have hd:=S.z;have A:=BE m (by rw[u];simp) (by have:=S.l;omega) zB;obtain⟨k,I,C,E⟩:=m;dsimp only at *;subst u;have B:=Tc S;clear hd S;unfold yC at *;dsimp only at *;refine eM call159 λF hF=>?_
 (have gd:=B;have gn:=A;(repeat' (first|refine dZ ?_|apply yZ|apply xM|intro hc|(apply zG;first|(apply yR;refine kD tok Z Z ?_))|refine SB ?_|fail))<;>clear gd gn)
 exact zP [1053] Z Z Z Z
def Qs (m:Ms) (h:VK m):zO 159 [.s (.slice none 0 0),yC m] [] (zD yC [m]) []:=by
 obtain⟨u,S⟩:=h;have hd:=S.z;have A:=BE m (by rw[u];simp) (by have:=S.l;omega) zB;obtain⟨k,G,C,E⟩:=m;dsimp only at *;subst u;have B:=Tc S;clear hd S;unfold yC at *;dsimp only at *;refine eM call159 λF hF=>?_
 exact ly (xV B A)
def Ps (f4:Int) (v:List Vw) (u:ln v<=1000) (hb:∀w∈v,Qb w):zO 160 [iA f4,zD wZ v] [] (yC (SY f4 v)) []:=by
 have k:=qh v u hb;unfold SY yC;dsimp only;generalize UN v=r at *;refine eM call160 λF hF=>?_
 refine TQ k ?_;refine zH [] Z Z ?_ Z
 show AV.agg [iA 21,zD yA [],zD iA [f4],.sl false (nm (r.map yA).length (r.map yA))]=_
 rw[zAb];rfl
def Bj (f4:Int) (l:List En) (I:ln l<=100000):zO 162 [iA f4,zD kW l] [] (yC (Qh f4 l)) []:=by
 have hl:=zA kW l;have z:((f4::((([]:List En).take 16).map dA).flatten).map iA)=[iA f4]:=rfl
 have u:∀p:List En,((f4::((p.take 16).map dA).flatten).map iA).length=1+3*(p.take 16).length:=λp=>by
  rw[zAa,zAm];generalize p.take 16=q
  induction q with
  |nil=>rfl
  |cons a q L=>rw[zBk,zDb,zAh,zAm];show 3+_+1=_;omega
 unfold Qh yC;dsimp only;refine eM call162 λF hF=>?_
 refine WW ?_;refine uG 9 Z ?_;refine zU (l) [9,4] [4] [4,10,11] [5,12,4,10,11] Z (λi ga T U=>⟨(5,.ref 9 0 ((f4::((ga.take 16).map dA).flatten).map iA).length)::(12,iA i)::T,(9,.arr 1 ((f4::((ga.take 16).map dA).flatten).map iA) true)::U⟩) (Lq ?_ ?_)
 .intro i ga x post hx hi;have E:=yI kW hx hi;have B:=zV hx hi;have C:=u ga;have A:(ga.take 16).length<=16:=by rw[zAw];omega
  clear hx z u;unfold kW MZ at E;by_cases G:i<16
  .have e1:(f4::(((ga++[x]).take 16).map dA).flatten).map iA=(f4::((ga.take 16).map dA).flatten).map iA++[iA x.ag,iA x.ki,iA x.co]:=by
    rw[zAj (l:=ga++[x]) Fx,zAj (l:=ga) zB];simp[dA]
   rw[e1];generalize (f4::((ga.take 16).map dA).flatten).map iA=Y at *;refine WW ?_;rfl
  .have e1:(ga++[x]).take 16=ga.take 16:=by rw[zCd zB]
   rw[e1];generalize (f4::((ga.take 16).map dA).flatten).map iA=Y at *;refine WW ?_;rfl
 ·(refine WW ?_)
  refine zH [] Z Z ?_ Z
  show AV.agg [iA 18,zD yA [],.sl false (nm ((f4::((l.take 16).map dA).flatten).map iA).length ((f4::((l.take 16).map dA).flatten).map iA)),zD yA []]=_
  rw[zAb];rfl
def Aj (g:Cf) (j:Jn) (J:JV j) (s:Sg) (C:CV j s.c) (v:Sv) (l:List Cl) (k f4:Int) (H:Qr g v l f4) (I: -1000000<=(qI g v l f4).gr/\(qI g v l f4).gr<=1000000):zO 158 [wO g,wD j,wC s,xY v,zD kS l,iA k,iA f4] [] (.tup [wC (wc g j s v l k f4).1,xY (wc g j s v l k f4).2]) []:=by
 have hJ:=J.n;have hn:=C.n;have hm:=C.m;have hb:Zf v:=⟨by have:=H.sl;omega⟩;have B:Zf (qI g v l f4):=⟨by rw[VL];have:=H.sl;omega⟩;have O:=MC s zB zB;have R:=Mc v hb f4;have E:=Eh g v l f4 H;have G:=Il j J s C (qI g v l f4).ph k;have S:=Mc (qI g v l f4) B f4;have L:=Tl (qI g v l f4) B (Qz (Vf j s (qI g v l f4).ph k) (qI g v l f4)) I;have X:=Mz J C (qI g v l f4).ph k;have V:=X.n;unfold wc;generalize kO v f4=v0,qI g v l f4=z at *;generalize kO z f4=v2 at *;generalize Vf j s z.ph k=x at *;have u:Qz x z=(decide (0<=z.ph/\z.ph<ln x.c.li)&&((xT x.c z.ph.toNat).lamp==1)):=rfl;generalize Qz x z=b at *;generalize fS z b=v3 at *;clear H I X C hb B;obtain⟨sc,Y⟩:=s;obtain⟨A,xl⟩:=x;dsimp only at *;have U:=zA xH A.li
 cases Y with
 |true=>
  rw[Os Z];refine eM call158 λF hF=>?_
  exact ld (xV O R)
 |false=>
 rw[Of zAp]
 cases xl with
 |true=>
  rw[Os Z];refine eM call158 λF hF=>?_
  exact ld (kC E G S)
 |false=>
 rw[Of zAp];dsimp only;rw[show wC ⟨A,false⟩= .agg [zD xH A.li,iA A.gr,zD iA A.nx,iA A.wt,bA false]from Z]at *; by_cases h1:0<=z.ph
 case neg=>
  rw[zAc (λh=>h1 h.1),zA7]at u;subst u;refine eM call158 λF hF=>?_
  exact ld (kC E G L)
 by_cases h2:z.ph<ln A.li
 case neg=>
  rw[zAc (λh=>h2 h.2),zA7]at u;subst u;refine eM call158 λF hF=>?_
  exact ld (kC E G L)
 rw[zAd ⟨h1,h2⟩,zAo]at u;have W:=yF xH A.li z.ph h1 h2
 change (A.li.map xH)[z.ph.toNat]? =some (xH (xT A z.ph.toNat))at W
 generalize xT A z.ph.toNat=a at *;by_cases M:a.lamp=1
 .rw[show(a.lamp==1)=true by rw[zBl];exact M]at u;subst u;refine eM call158 λF hF=>?_
  exact ld (kC E G L)
 .rw[show(a.lamp==1)=false by rw[zAy];exact M]at u;subst u;refine eM call158 λF hF=>?_
  exact ld (kC E G L)
def Yh (u:List In) (z n:Nat) (h:z+n<=ln u):((u.map qL).drop z).take n=(HL u z n).map qL:=by
 apply zBb;intro k;unfold HL;rw[zEf,zB3,zAi];by_cases hk:k<n
 .rw[Os hk,zCt,zAi,zBu hk,zA4 zB];simp[ny,show z+k<ln u by omega]
 .rw[Of hk,zB2 uH];rfl
def zk (f4:Int) (u:List xP) (R:Nat->DR):NZ f4 u (ln u)=cF f4 u R 0:=by
 unfold cF;apply zBb;intro j;unfold NZ;rw[vZ,zAi];by_cases hj:j<ln u
 .rw[Os hj,Os hj,zBu hj];simp
 .rw[Of hj,zB2 uH];rfl
def Xh (R:Nat->DR) (i:Nat):List (List Ms):=((List.range i).map λa=>(R a).R).flatten
def LF (R:Nat->DR) (i:Nat):Xh R (i+1)=Xh R i++(R i).R:=by simp[Xh,zCf]
theorem NY {l:List Ag} {R:Nat->DR} (u:lf l) (h:∀a,a<ln l->(((R a).R.length:Nat):Int)=(l.getD a dd).ses):∀i,i<=ln l->((Xh R i).length:Int)=jI l i
 |0,_=>rfl
 |i+1,hi=>by
  have z:=NY u h i zB;have:=h i zB;rw[LF,zAh]
  show _=jI l i+(l.getD i dd).ses
  omega
theorem yk {l:List Ag} {R:Nat->DR} (u:lf l) (h:∀a,a<ln l->(((R a).R.length:Nat):Int)=(l.getD a dd).ses):∀n,n<=ln l->∀a k,a<n->k<(R a).R.length->(Xh R n).getD ((jI l a).toNat+k) []=(R a).R.getD k []
 |0,_,a,k,z,_=>absurd z (zB7 _)
 |n+1,C,a,k,z,hk=>by
  have hl:=NY u h n zB;rw[LF,zAl];by_cases h1:a=n
  .subst h1;rw[zBc zB,show(jI l a).toNat+k-(Xh R a).length=k by omega,<-zAl]
  .have B:=XE u (show a+1<=n by omega) zB;have h2:=h a zB;have hs:jI l (a+1)=jI l a+(l.getD a dd).ses:=rfl;have A:=kN u a zB;rw[zBg zB,<-zAl];exact yk u h n zB a k zB hk
theorem xk (y:Cy) (h:CH y) (cd:LE y.ds) (hn:y.f4<1000000000) (u:List In) (fj:(ln u:Int)=jI y.c.ags (ln y.c.ags)) (R:Nat->DR) (L:Bs y u R) (az:∀i,(R i).en.length<=2000) (a3:∀i,(R i).ks.length<=2000):
  zO 95 [uB y,zD qL u] [] (.tup [uB (kU y R),B4 (ND y.c (BM (kU y R) u R (ln y.ds)) (ln y.c.ags)) (SY (y.f4+1) (kU y R).vw)]) []:=by
 have hb:=h.b;have n0:=h.n0;have S:=h.v.ag;have ch:=h.dl;have k1:=VF y hb;have fi:=zA qL u;have cj:min (y.f4+1) 1073741824=y.f4+1:=by omega
 have cq:=h.rf;have eC:=aU cq;have fv:=S.1;have c2:=zA zK y.ds
 have I:∀i,i<ln y.ds->((y.ds.getD i dd).au.length:Int)=(y.c.ags.getD i dd).ses:=λi hi=>by
  have:=(h.di _ (zY y.ds i hi)).au
  rwa [h.dg i hi]at this
 have E:∀a,a<ln y.c.ags->(((R a).R.length:Nat):Int)=(y.c.ags.getD a dd).ses:=λa B=>by
  have:=(L a zB).1.rn;have h2:=I a zB;rw[show(VA (y.ds.getD a dd) (y.f4+1)).au.length=(y.ds.getD a dd).au.length from Z]at this;omega
 unfold IO IP bD at k1;rw[eC,cq]at k1;rw[eC];refine eM call95 λF hF=>?_
 refine zQ k1 ?_;have c4:=zA wC y.sg;have dn:=zA xY y.sv;have cr:=zA iA y.st;have ci:=h.gl;have bl:=h.sl;have bk:=h.tl;rw[cj,c4,ci,dn,bl,cr,bk];have b1:∀i,(NZ (y.f4+1) y.ds i).length=ln y.ds:=λi=>wR _ _ _
 have b2:∀i,((NZ (y.f4+1) y.ds i).map zK).length=ln y.ds:=λi=>by rw[zAa,b1]
 have ax:NZ (y.f4+1) y.ds 0=y.ds:=qP _ _;rw[c2];refine zN (ln y.ds) [1011,2,4,5,6,1012,1013,1014] [2,4,5,6,1012,1013,1014] [1,2,4,5,6,53,54] [55,1,2,4,5,6,53,54] Z (λi T U=>⟨(55,iA i)::T,(1011,.arr 17 ((NZ (y.f4+1) y.ds i).map zK) false)::U⟩) ?_;(conv=>whnf);refine⟨by(rw[ax];rfl),?_,?_⟩
 .intro i hi
  have hy:((NZ (y.f4+1) y.ds i).map zK)[i]? =some (zK (y.ds.getD i dd)):=by
   rw[zAi];unfold NZ;rw[vZ,Os hi,Of (zC5 i)];rfl
  have e:(NZ (y.f4+1) y.ds (i+1)).map zK=((NZ (y.f4+1) y.ds i).map zK).set i (zK (VA (y.ds.getD i dd) (y.f4+1))):=by unfold NZ;rw[vI _ _ _ _ hi]
  have kb:=Sq (h.di _ (zY y.ds i hi)) (y.f4+1);have cv:=b2 i;rw[e];clear e L ax E I k1 eC;generalize VA (y.ds.getD i dd) (y.f4+1)=d2 at *;generalize y.ds.getD i dd=d1 at *;generalize (NZ (y.f4+1) y.ds i).map zK=X at *;refine zQ kb ?_;rfl
 .rw [zk (y.f4+1) y.ds R];refine WW ?_;have b7:∀i,((cF (y.f4+1) y.ds R i).map zK).length=ln y.ds:=λi=>by unfold cF;rw[zAa,zAa,zBo]
  refine zS 9 1041 1 Z Z Z ?_;refine zS 10 1042 3 Z Z Z ?_;refine zS 11 1043 1 Z Z Z ?_;refine zN (ln y.ds) [1011,1041,1042,1043,2,4,5,6,1012,1013,1014] [2,4,5,6,1012,1013,1014] [1,2,4,5,6,70,71] [9,10,11,12,72,1,2,4,5,6,70,71] Z (λi T U=>⟨(9,.ref 1041 0 ((Xh R i).map jO).length)::(10,.ref 1042 0 ((UD R i).map kW).length)::(11,.ref 1043 0 ((cH R i).map iA).length)::(12,iA (jI y.c.ags i))::(72,iA i)::T,(1011,.arr 17 ((cF (y.f4+1) y.ds R i).map zK) false)::(1041,.arr 1 ((Xh R i).map jO) true)::(1042,.arr 3 ((UD R i).map kW) true)::(1043,.arr 1 ((cH R i).map iA) true)::U⟩) (Lq ?_ ?_)
  .intro i hi;have c5:i<ln y.c.ags:=by omega
   have hy:((cF (y.f4+1) y.ds R i).map zK)[i]? =some (zK (VA (y.ds.getD i dd) (y.f4+1))):=by
    rw[zAi];unfold cF;rw[bB _ _ _ _ hi];rfl
   have e1:(cF (y.f4+1) y.ds R (i+1)).map zK=((cF (y.f4+1) y.ds R i).map zK).set i (zK (R i).d):=by
    unfold cF;rw[eX _ _ _ _ hi,zBs]
   obtain⟨A,ac⟩:∃A:Nat,jI y.c.ags i=(A:Int):=⟨(jI y.c.ags i).toNat,by have:=kN S i zB;omega⟩;have dc:=kN S i zB;have es:=S.at (i:=i) zB;have I:=I i hi;have a5:jI y.c.ags (i+1)=jI y.c.ags i+(y.c.ags.getD i dd).ses:=rfl;have db:=XE S (show i+1<=ln y.c.ags by omega) (zAg _);have kt:=(L i hi).2.2;have e0:=E i c5;have er:=NY S E i zB;have fb:=RG az i;have c7:=RH a3 i;have az:=az i;have a3:=a3 i;have cv:=b7 i;have fq:=zA jO (Xh R i);have fr:=zA kW (UD R i);have ft:=zA iA (cH R i);have fc:=zA jO (R i).R;have fd:=zA kW (R i).en;have ff:=zA iA (R i).ks;have a6:=Yh u A (y.ds.getD i dd).au.length zB
   have ck:BG y.c u i=HL u A (y.ds.getD i dd).au.length:=by
    unfold BG;rw[ac,show(y.c.ags.getD i dd).ses.toNat=(y.ds.getD i dd).au.length by omega,zAx]
   rw[ck]at kt;clear ck;have c1:(VA (y.ds.getD i dd) (y.f4+1)).au=(y.ds.getD i dd).au:=rfl;rw[<-c1]at a6 I kt;have ap:=zA bA (VA (y.ds.getD i dd) (y.f4+1)).au;rw[<-ap]at a6 I
   have et:((u.map qL).drop (min (A:Int) ((u.map qL).length:Int)).toNat).take ((min ((A:Int)+(((VA (y.ds.getD i dd) (y.f4+1)).au.map bA).length:Int)) ((u.map qL).length:Int)).toNat-(min (A:Int) ((u.map qL).length:Int)).toNat)=(HL u A (VA (y.ds.getD i dd) (y.f4+1)).au.length).map qL:=by
    rw[show(min (A:Int) ((u.map qL).length:Int)).toNat=A by omega,show(min ((A:Int)+(((VA (y.ds.getD i dd) (y.f4+1)).au.map bA).length:Int)) ((u.map qL).length:Int)).toNat-A=((VA (y.ds.getD i dd) (y.f4+1)).au.map bA).length by omega,a6,ap]
   rw[e1,LF,LI,LJ,a5,ac,<-I,zAf,zAf,zAf];unfold Ck ww wO at kt;clear a6 e1 L E ax b1 b2 k1 eC b7 ap a5 db;generalize HL u A (VA (y.ds.getD i dd) (y.f4+1)).au.length=ow at *;generalize VA (y.ds.getD i dd) (y.f4+1)=d1 at *;generalize (cF (y.f4+1) y.ds R i).map zK=X,(Xh R i).map jO=X1,(UD R i).map kW=X2,(cH R i).map iA=X3,(R i).R=r1,(R i).en=r2,(R i).ks=r3,(R i).d=d2 at *;unfold zK xC at kt hy;refine zQ kt ?_;rfl
  .have a4:∀x∈cH R (ln y.ds),0<=x/\x<(ln y.c.js:Int):=λx hx=>by
    obtain⟨a,B,hx⟩:=qf hx;exact(L a B).1.ks x hx
   have c7:=RH a3 (ln y.ds);have c6:=zA wD y.c.js;have fp:=zA iA (cH R (ln y.ds));have em:(cH R (ln y.ds)).length<=10000:=by omega
   refine WW ?_;refine wJ [2,4,5,6,1012,1013,1014] [1,2,4,5,6,9,10,121,122,123] Z ?_
   (conv=>whnf)
   simp only[zAu,zAb];rw[zAj (l:=(cF (y.f4+1) y.ds R (ln y.ds)).map zK) (zCb (b7 _))];clear k1 ax b1 b2;refine zU ((cH R (ln y.ds))) [1012,2,4,5,6,1013,1014] [2,4,5,6,1013,1014] [1,2,4,5,6,9,10,121,122] [123,1,2,4,5,6,9,10,121,122] Z (λi ga T U=>⟨(123,iA i)::T,(1012,.arr 5 ((aK y.c y.sg ga).map wC) false)::U⟩) (Lq ?_ ?_)
   .intro i ga x post hx hi;have hy:=yI iA hx hi;have c8:=zV hx hi;have b9:=a4 x (yV hx);obtain⟨g1,g2⟩:=HN h.v (sv:=y.sv) (f4:=y.f4) ga y.sg h.gl h.j;have J:=h.v.jv _ (zY y.c.js x.toNat zB);have C:=(g2 x.toNat zB).c;have hJ:=J.n;have hC:=C.n;have hM:=C.m;have kr:=Ch (y.c.js.getD x.toNat dd) J ((aK y.c y.sg ga).getD x.toNat dd) zB zB;have d3:=yF wD y.c.js x b9.1 b9.2;have dr:=yF wC (aK y.c y.sg ga) x b9.1 zB;have ej:=zA wC (aK y.c y.sg ga);rw[BL,zBs];clear hx a4 L J C g2 eC;generalize (aK y.c y.sg ga).getD x.toNat dd=s,y.c.js.getD x.toNat dd=j at *;generalize aK y.c y.sg ga=X at *;generalize X.map wC=Y at *;refine zQ kr ?_;rfl
   .obtain⟨g1,g2⟩:=HN h.v (sv:=y.sv) (f4:=y.f4) (cH R (ln y.ds)) y.sg h.gl h.j;have hC:=PJ;have br:∀D,VH D (aK y.c y.sg (cH R (ln y.ds))) 0=aK y.c y.sg (cH R (ln y.ds)):=λD=>qP _ _
    have b0:∀D,VI D y.sv 0=y.sv:=λD=>qP _ _
    have bu:UP y.st 0=y.st:=qP _ _;have a1:∀D i,((VH D (aK y.c y.sg (cH R (ln y.ds))) i).map wC).length=ln y.c.js:=λD i=>by unfold VH;rw[zAa,wR];exact g1
    have a8:∀D i,((VI D y.sv i).map xY).length=ln y.c.js:=λD i=>by unfold VI;rw[zAa,wR];exact bl
    have a2:∀i,((UP y.st i).map iA).length=ln y.c.js:=λi=>by unfold UP;rw[zAa,wR];exact bk
    have a7:∀D i,((CI y.c.js D i).map wZ).length=i:=λD i=>by simp[CI]
    have V:∀d∈cF (y.f4+1) y.ds R (ln y.ds),qR y.c d:=λd hd=>by
     obtain⟨a,B,rfl⟩:=VJ hd;exact(L a B).1.i
    have b6:∀d∈cF (y.f4+1) y.ds R (ln y.ds),HQ (y.f4+1) d.rq:=λd hd=>by
     obtain⟨a,B,rfl⟩:=VJ hd;refine(L a B).1.sc ?_;exact HQ.of zB ((h.sc _ (zY y.ds a B)).mono zB) (Qc _ _)
    have bx:LE (cF (y.f4+1) y.ds R (ln y.ds)):=λa B=>by
     rw[cR]at B;rw[ZS B,(L a B).1.num];exact cd a B
    have ef:(cF (y.f4+1) y.ds R (ln y.ds)).length<=4:=by rw[cR];omega
    have b4:∀d∈cF (y.f4+1) y.ds R (ln y.ds),∀r∈d.rq,jG [] r.legs=true:=λd hd r hr=>by
     have:=((V d hd).v.ok r hr).lg;unfold sa at this;rw[zAn]at this;exact this.2
    have fo:=h.v.j;refine WW ?_;refine zS 24 1015 4 Z Z Z ?_;rw[c6];refine zN (ln y.c.js) [1012,1013,1014,1015,2,4,5,6] [2,4,5,6] [1,2,4,5,6,9,10,150,151] [24,152,1,2,4,5,6,9,10,150,151] Z (λi T U=>⟨(24,.ref 1015 0 ((CI y.c.js (dX y R) i).map wZ).length)::(152,iA i)::T,(1012,.arr 5 ((VH (dX y R) (aK y.c y.sg (cH R (ln y.ds))) i).map wC) false)::(1013,.arr 3 ((VI (dX y R) y.sv i).map xY) false)::(1014,.arr 1 ((UP y.st i).map iA) false)::(1015,.arr 4 ((CI y.c.js (dX y R) i).map wZ) true)::U⟩) ?_;(conv=>whnf);refine⟨by(rw[br,b0,bu];rfl),?_,?_⟩
    .intro i hi;have d3:=zJ wD y.c.js i hi;have dr:((VH (dX y R) (aK y.c y.sg (cH R (ln y.ds))) i).map wC)[i]? =some (wC ((aK y.c y.sg (cH R (ln y.ds))).getD i dd)):=by rw[zAi];unfold VH;rw[vZ,Os zB,Of (zC5 i)];rfl
     have f3:((VI (dX y R) y.sv i).map xY)[i]? =some (xY (y.sv.getD i dd)):=by rw[zAi];unfold VI;rw[vZ,Os zB,Of (zC5 i)];rfl
     have f2:((UP y.st i).map iA)[i]? =some (iA (y.st.getD i dd)):=by rw[zAi];unfold UP;rw[vZ,Os zB,Of (zC5 i)];rfl
     have eg:(VH (dX y R) (aK y.c y.sg (cH R (ln y.ds))) (i+1)).map wC=((VH (dX y R) (aK y.c y.sg (cH R (ln y.ds))) i).map wC).set i (wC (dX y R i).1):=by unfold VH;rw[vI _ _ _ _ zB]
     have ev:(VI (dX y R) y.sv (i+1)).map xY=((VI (dX y R) y.sv i).map xY).set i (xY (dX y R i).2):=by unfold VI;rw[vI _ _ _ _ zB]
     have ek:(UP y.st (i+1)).map iA=((UP y.st i).map iA).set i (iA (-1)):=by unfold UP;rw[vI _ _ _ _ zB]
     have ew:(CI y.c.js (dX y R) (i+1)).map wZ=(CI y.c.js (dX y R) i).map wZ++[wZ (RA (y.c.js.getD i dd) (dX y R i).1 (dX y R i).2)]:=by simp[CI,zCf]
     have J:=h.v.jv _ (zY y.c.js i hi);have H:=g2 i hi;have cl:(gC (i:Int) (cF (y.f4+1) y.ds R (ln y.ds))).length<=4*(cF (y.f4+1) y.ds R (ln y.ds)).length:=hC i _ λd hd=>(V d hd).v.n4
     have cm:=BI (j:=(i:Int)) V (f4:=y.f4+1) zB b6;have hp:=h.v.p;have fa:=h.v.cp;have e5:=J.n;have e4:=H.n;have He:∀e∈(y.sv.getD i dd).en,-1<=e/\e<=y.f4+1:=λe he=>by have:=H.e e he;omega
     have HD:Qr y.c (y.sv.getD i dd) (gC (i:Int) (cF (y.f4+1) y.ds R (ln y.ds))) (y.f4+1):=⟨hp.1,zB,zB,zB,zB,He,λx hx=>(cm x hx).1,λx hx=>(cm x hx).2,zB,zB⟩
     have kd:zO 158 [wO y.c,wD (y.c.js.getD i dd),wC ((aK y.c y.sg (cH R (ln y.ds))).getD i dd),xY (y.sv.getD i dd),zD kS (gC (i:Int) (cF (y.f4+1) y.ds R (ln y.ds))),iA (y.st.getD i dd),iA (y.f4+1)] [] (.tup [wC (dX y R i).1,xY (dX y R i).2]) []:=
      Aj y.c _ J _ H.c _ _ _ (y.f4+1) HD (by have:=Rc y.c (y.sv.getD i dd) (gC (i:Int) (cF (y.f4+1) y.ds R (ln y.ds))) (y.f4+1) H.g;omega)
     have ko:=vx (y.c.js.getD i dd) J (dX y R i).1 (Pz J H.c _ _ _ _ _) (dX y R i).2;have kc:=BD y.c false (y.f4+1) (cF (y.f4+1) y.ds R (ln y.ds)) i zB (λd hd=>(V d hd).bd) b4 bx ((VH (dX y R) (aK y.c y.sg (cH R (ln y.ds))) i).map wC) ((VI (dX y R) y.sv i).map xY) ((UP y.st i).map iA) (ln y.c.js) (ln y.c.js) (ln y.c.js) y.vw;have ei:=a1 (dX y R) i;have ex:=a8 (dX y R) i;have el:=a2 i;have eu:=a7 (dX y R) i;rw[eg,ev,ek,ew];clear eg ev ek ew br b0 bu HD cm hC a1 a8 a2 a7 g2 H J eC L V b6 bx b4 He a4;generalize (VH (dX y R) (aK y.c y.sg (cH R (ln y.ds))) i).map wC=X,(VI (dX y R) y.sv i).map xY=Y,(UP y.st i).map iA=Z',(CI y.c.js (dX y R) i).map wZ=W,dX y R i=p at *;generalize RA (y.c.js.getD i dd) p.1 p.2=w at *;generalize gC (i:Int) (cF (y.f4+1) y.ds R (ln y.ds))=l,(aK y.c y.sg (cH R (ln y.ds))).getD i dd=s,y.sv.getD i dd=v,y.st.getD i dd=k,y.c.js.getD i dd=j at *;unfold bD at kc;unfold wO at kd
     (have gd:=kd;have gn:=ko;(repeat' (first|refine dZ ?_|apply yZ|apply xM|intro hc|(apply zG;first|(refine vG 20 ?_;refine yE (BH (zL kc Z Z Z Z Z) Z Z) Z ?_)|(apply yR;refine kD tok Z Z ?_))|refine SB ?_|fail))<;>clear gd gn)
     rfl
    .have l4:=a1 (dX y R) (ln y.c.js);have l5:=a8 (dX y R) (ln y.c.js);have l6:=a2 (ln y.c.js);have l7:=a7 (dX y R) (ln y.c.js);refine wJ [4,5,6] [1,4,5,6,9,10,24,151,152] Z ?_
     (conv=>whnf)
     simp only[zAu,zAb];rw[zAj (l:=(VH (dX y R) (aK y.c y.sg (cH R (ln y.ds))) (ln y.c.js)).map wC) (zCb l4),zAj (l:=(VI (dX y R) y.sv (ln y.c.js)).map xY) (zCb l5),zAj (l:=(UP y.st (ln y.c.js)).map iA) (zCb l6)];have hZ:=Pk h L;have zn:(kU y R).f4=y.f4+1:=rfl;have zd:(kU y R).ds.length=ln y.ds:=cR ..;have zR:∀a,a<ln y.ds->(kU y R).ds.getD a dd=(R a).d:=λa B=>ZS B
     have eT:uB (kU y R)= .agg [zD wD y.c.js,zD vX y.c.ags,iA y.c.per,iA y.c.cap,iA y.c.hold,iA y.c.lock,bA false,iA (y.f4+1),.sl false ((kU y R).ds.map zK),.sl false ((kU y R).sg.map wC),.sl false ((kU y R).sv.map xY),.sl false ((kU y R).st.map iA),.sl false ((kU y R).vw.map wZ)]:=rfl;have cu:(kU y R).vw.length<=4:=by have:=hZ.wl;have:=hZ.v.j;omega
     have kf:=Ps (y.f4+1) (kU y R).vw zB hZ.wb;have kv:=Qs (SY (y.f4+1) (kU y R).vw) (qz _ _ zB zB cu hZ.wb)
     have cf:∀a k,BM (kU y R) u R (ln y.ds) a k=if(u.getD ((jI y.c.ags a).toNat+k) dd).opn=true then df ((kU y R).ds.getD a dd) (kU y R).vw (kU y R).f4 k (R a).R (UD R (ln y.ds))else []:=λ_ _=>rfl
     have cc:∀e∈UD R (ln y.ds),Fk e:=λe he=>by
      obtain⟨a,B,he⟩:=FK he;exact(L a B).1.en e he
     have e2:=RG az (ln y.ds);rw[show cF (y.f4+1) y.ds R (ln y.ds)=(kU y R).ds from Z,show VH (dX y R) (aK y.c y.sg (cH R (ln y.ds))) (ln y.c.js)=(kU y R).sg from Z,show VI (dX y R) y.sv (ln y.c.js)=(kU y R).sv from Z,show UP y.st (ln y.c.js)=(kU y R).st from Z,show CI y.c.js (dX y R) (ln y.c.js)=(kU y R).vw from Z,eT,show∀T f,B4 T f= .agg [.sl false (T.map jO),zD yC [f]]from λ_ _=>rfl];have bf:=yk S E
     have eq:(Xh R (ln y.ds)).length=ln u:=by
      have:=NY S E (ln y.c.ags) (zAg _);rw[ch];omega
     clear br b0 bu a1 a8 a2 a7 V b6 bx b4 hC g1 g2 l4 l5 l6 l7 a4 eC eT;generalize BM (kU y R) u R (ln y.ds)=G at *;generalize kU y R=z at *;generalize c3:SY (y.f4+1) z.vw=fm at *;clear c3;unfold zD at kf;refine yJ (xV kf kv) ?_;refine zS 30 1051 1 Z Z Z ?_;have ea:=zA zK z.ds;rw[ea,zd];clear kf kv;refine zN (ln y.ds) [1051,4,5,6,29] [4,5,6,29] [1,4,5,6,9,10,24,29,215,216] [12,30,217,1,4,5,6,9,10,24,29,215,216] Z (λi T U=>⟨(12,iA (jI y.c.ags i))::(30,.ref 1051 0 ((ND y.c G i).map jO).length)::(217,iA i)::T,(1051,.arr 1 ((ND y.c G i).map jO) true)::U⟩) (Lq ?_ ?_)
     .intro a B;have b3:a<ln y.ds:=B;obtain⟨A,ac⟩:∃A:Nat,jI y.c.ags a=(A:Int):=⟨(jI y.c.ags a).toNat,by have:=kN S a zB;omega⟩;obtain⟨N,hN⟩:∃N:Nat,(y.c.ags.getD a dd).ses=(N:Int):=⟨(y.c.ags.getD a dd).ses.toNat,by have:=S.at (i:=a) zB;omega⟩;have e6:=S.at (i:=a) zB;have dc:=kN S a zB
      have a5:jI y.c.ags (a+1)=((A+N:Nat):Int):=by
       show jI y.c.ags a+(y.c.ags.getD a dd).ses=_
       omega
      have e8:A+N<=ln u:=by
       have:=XE S (show a+1<=ln y.c.ags by omega) (zAg _);omega
      have av:=(L a b3).1;have hI:=hZ.di _ (zY z.ds a zB);have bb:=hI.au;rw[hZ.dg a zB]at bb;have d9:=zR a b3;have ce:=av.rv;have ed:=E a zB;have hy:=zJ zK z.ds a zB;have b5:=hI.a.q
      have cg:(z.ds.getD a dd).au.length=N:=by
       have:=av.i.au;rw[av.ag]at this;have e9:=h.dg a b3;rw[show(VA (y.ds.getD a dd) (y.f4+1)).rg.ag=(y.ds.getD a dd).rg.ag from Z,e9]at this;rw[d9];omega
      have a9:=nj (z.ds.getD a dd) hI.bd b5 z.vw (y.f4+1) zB hZ.wb;have eb:=Qk (z.ds.getD a dd) b5 z.vw (y.f4+1) zB zB cu hZ.wb;have c0:=Bj (y.f4+1) (UD R (ln y.ds)) zB;have ec:=G5 (y.f4+1) zB zB (UD R (ln y.ds)) cc;have ar:=λk (hk:k<N)=>bf (ln y.ds) zB a k zB zB
      have M:∀k,k<N->G a k=if(u.getD (A+k) dd).opn=true then df (z.ds.getD a dd) z.vw (y.f4+1) k (R a).R (UD R (ln y.ds))else []:=λk hk=>by
       rw[cf a k,ac,zn];rfl
      have f0:=RJ S G a zB;rw[RI,show(y.c.ags.getD a dd).ses.toNat=N by omega,a5,ac,zAf];have cv:=zA jO (ND y.c G a);rw[ac]at ar;clear cf cc E L av hI zR bf bb;generalize (ND y.c G a).map jO=X,(R a).R=Ra at *;generalize dj:OK (z.ds.getD a dd) z.vw (y.f4+1)=st0 at *;generalize dk:Qh (y.f4+1) (UD R (ln y.ds))=ba at *;unfold df at M;rw[dj,dk]at M;generalize z.ds.getD a dd=d1 at *;have ap:(d1.au.map bA).length=N:=by rw[zAa];exact cg
      generalize UD R (ln y.ds)=ey at *;unfold zK xC at hy a9;have cb:=λk (hk:k<N)=>zJ bA d1.au k zB
      unfold zD at hy;refine WW ?_;rw[ap];refine zN (N) [1051,4,5,6,29,32] [4,5,6,29,32] [1,4,5,6,9,10,24,29,32,215,216,217,222,223] [12,30,224,1,4,5,6,9,10,24,29,32,215,216,217,222,223] Z (λi T U=>⟨(12,iA ((A+i:Nat):Int))::(30,.ref 1051 0 (X++(LL G a i).map jO).length)::(224,iA i)::T,(1051,.arr 1 (X++(LL G a i).map jO) true)::U⟩) ?_;(conv=>whnf);refine⟨by(rw[show(LL G a 0).map jO=[]from Z,zA2];rfl),?_,?_⟩
      .intro k hk;have cw:=zJ qL u (A+k) zB;have fx:((LL G a k).map jO).length=k:=by unfold LL;rw[zAa,zAa,zBo]
       have f1:=cb k hk;have co:=ar k hk
       have d5:((Xh R (ln y.ds)).map jO)[A+k]? =some (jO (Ra.getD k [])):=by
        rw[zJ jO (Xh R (ln y.ds)) (A+k) zB];exact zAv (λq=>some (jO q)) co
       have cn:(Ra.getD k []).length<=1000/\∀m∈Ra.getD k [],VK m:=by
        refine ce _ ?_;rw[zAl,zA4 zB];exact zD9 _
       rw[BN,zAf,show [G a k].map jO=[zD yC (G a k)]from Z,M k hk,<-zA0];have e7:(X++(LL G a k).map jO).length<=100:=by rw[zAh];omega
       clear M ar cb co ce b5 hZ;generalize X++(LL G a k).map jO=O,u.getD (A+k) dd=x,d1.au.getD k dd=da,Ra.getD k []=r0 at *;obtain⟨xo,xs⟩:=x;unfold qL at cw;unfold jO at d5;dsimp only at cw⊢;cases xo
       .rw[Of zAp]
        (repeat' (first|refine dZ ?_|apply yZ|apply xM|intro hc|(apply zG;first|(apply yR;refine QF 272 Z Z Z ?_;refine kD tok Z Z ?_))|refine SB ?_|fail))
        rfl
       .rw[Os Z];have ep:=zA yC r0;have ca:=Sc (r0.map yC) zB st0 eb;have cx:=Sc (r0.map yC++[yC st0]) Fx ba ec;refine WW ?_;refine zS 35 1053 4 Z Z Z ?_;refine zU (r0) [1053,4,5,6,29,32,1051] [4,5,6,29,32,1051] [1,4,5,6,9,10,12,24,29,30,32,33,34,215,216,217,222,223,224,243,244] [35,245,1,4,5,6,9,10,12,24,29,30,32,33,34,215,216,217,222,223,224,243,244] Z (λi ga T U=>⟨(35,.ref 1053 0 (ga.map yC).length)::(245,iA i)::T,(1053,.arr 4 (ga.map yC) true)::U⟩) (Lq ?_ ?_)
        .intro i ga m post hx hi;have d4:=yI yC hx hi;have c8:=zV hx hi;have fz:=zA yC ga;have fy:ln ga<=ln r0:=by rw[hx];simp
         have km:=Sc (ga.map yC) zB m (cn.2 m (yV hx));rw[show(ga++[m]).map yC=ga.map yC++[yC m] by simp];clear hx ca cx a9 c0;generalize ga.map yC=Y at *;unfold yC at d4 km;refine zQ km ?_;rfl
        .clear cn;cases da
         .rw[show zD yC ((r0++[st0])++if false=true then [ba]else [])= .sl false (r0.map yC++[yC st0]) by simp[zD]];generalize r0.map yC=Y at*
          (have gd:=a9;have gn:=ca;(repeat' (first|refine dZ ?_|apply yZ|apply xM|intro hc|(apply zG;first|(apply yR;refine kL [4,5,6,29,32,1051] [1,4,5,6,9,10,12,24,29,30,32,215,216,217,222,223,224,271,272] Z ?_;(conv=>whnf);(try simp only[zAu,zAb]);refine kD tok Z Z ?_))|refine SB ?_|fail))<;>clear gd gn)
          rfl
         .rw[show zD yC ((r0++[st0])++if true=true then [ba]else [])= .sl false ((r0.map yC++[yC st0])++[yC ba]) by simp[zD]];generalize r0.map yC=Y at*
          (have gd:=a9;have gn:=ca;have gt:=c0;have gv:=cx;(repeat' (first|refine dZ ?_|apply yZ|apply xM|intro hc|(apply zG;first|(apply yR;refine kL [4,5,6,29,32,1051] [1,4,5,6,9,10,12,24,29,30,32,215,216,217,222,223,224,271,272] Z ?_;(conv=>whnf);(try simp only[zAu,zAb]);refine kD tok Z Z ?_))|refine SB ?_|fail))<;>clear gd gn gt gv)
          rfl
      ·(refine WW ?_)
       rfl
     .rw[ch];refine WW ?_;refine zH [] Z Z ?_ Z
      show AV.tup [_,AV.agg [.sl false (nm ((ND y.c G (ln y.c.ags)).map jO).length ((ND y.c G (ln y.c.ags)).map jO)),_]]=_
      rw[zAb];rfl
def FJ {b:List Int} (hb:BY b) {p:It×Nat} (h:Ab b=some p):(1<=p.2/\p.2<=ln b)/\(ln b<=100000->pz p.1):=by
 unfold Ab at h;split at h
 .cases h
 rename_i u;split at h
 .cases h;exact⟨⟨zAg _,by dsimp only;omega⟩,λ_=>⟨bF,zAr _,by dsimp only;omega,by dsimp only;omega⟩⟩
 split at h
 .cases h
 split at h
 .cases h;exact⟨⟨zAg _,by dsimp only;omega⟩,λ_=>⟨bF,zAr _,by dsimp only;omega,by dsimp only;omega⟩⟩
 split at h
 .cases h
 split at h
 .cases h;exact⟨⟨zAg _,by dsimp only;omega⟩,λ_=>⟨bF,zAr _,by dsimp only;omega,by dsimp only;omega⟩⟩
 split at h
 .cases h;exact⟨⟨by dsimp only;omega,by dsimp only;omega⟩,λ_=>⟨bF,zAr _,by dsimp only;omega,by dsimp only;omega⟩⟩
 split at h
 .cases h;exact⟨⟨by dsimp only;omega,by dsimp only;omega⟩,λ_=>⟨bF,zAr _,by dsimp only;omega,by dsimp only;omega⟩⟩
 .cases h;rename_i hk;refine⟨⟨by dsimp only;omega,by dsimp only;omega⟩,λhl=>⟨λx hx=>hb x (zBj (zB5 hx)),by dsimp only;rw[zAw,zA8];omega,?_,by dsimp only;omega⟩⟩;dsimp only;omega
def gR:Nat->List Int->List (It×Nat)
 |0,_=>[]
 |n+1,b=>match Ab b with
  |none=>[]
  |some p=>p::gR n (b.drop p.2)
def Ns :∀{b:List Int},BY b->ln b<=100000->∀p∈gR n b,pz p.1:=by
 induction n with
 |zero=>intro b _ _ p u;cases u
 | succ n A=>
  intro b hb hl p u;unfold gR at u;split at u
  .cases u
  .rename_i q z;have h:=FJ hb z
   rcases zBv.1 u with rfl|u
   .exact h.2 hl
   .exact A (λx hx=>hb x (zBj hx)) OU p u
def Wh (l:List (It×Nat)):Nat:=(l.map λp=>p.2).sum
def uf :∀{b:List Int},BY b->Wh (gR n b)<=ln b:=by
 induction n with
 |zero=>intro b _;exact zAr _
 |succ n z=>
  intro b hb;unfold gR;split
  .exact zAr _
  .rename_i q u;have h:=FJ hb u;have h2:=z (b:=b.drop q.2) (λx hx=>hb x (zBj hx));rw[zA8]at h2;simp only[Wh,zBk,List.sum_cons]at *; omega
def K5 (b:List Int):List (Nat×wB):=[(1061,.box [zD yA b])]
def L7 (b:List Int):List (List AV):=(gR (ln b) b).map λp=>[wK p.1,iA (p.2:Int)]
def vk (b:List Int):zO 298 [zD yA b] [] (.fn 339 [.ptr 1061 0 0]) (K5 b):=by
 unfold K5;refine eM call298 λF hF=>?_
 repeat' (first|(apply zG;first|refine qB (fF (v:=AV.sl _ _) 1061 Z Z) Z Z Z ?_|refine wX tok Z Z ?_|apply uT)|(first|apply xK|apply xF|refine vQ Z ?_|refine yM Z ?_|refine yB Z ?_|refine xU Z (λhc=>?_) λhc=>?_|apply xB|apply xG|apply xJ|apply xE))
 exact zP [1061] Z Z Z Z
def uk {b:List Int} (hb:BY b) (z:ln b<=n):gR n b=match Ab b with
  |none=>[]
  |some p=>p::gR (n-1) (b.drop p.2):=by
 cases n with
 |zero=>
  have u:b=[]:=zBa zB;subst u;rfl
 |succ n=>rfl
def Uh (b:List Int) (hb:BY b) (hl:ln b<=1000000):VT prog 339 [.ptr 1061 0 0] (K5 b) (L7 b):=by
 refine YC func339 Z (λargs w=>call339 args w) Z Z Z (λF y R A G=>?_);unfold K5;refine WW ?_;refine gE (ln b+1) [1061] [1061] [0] [3,1000000,0] Z (λL T U S=>∃(r:List Int) (ga:List (It×Nat)) (n:Nat),(gR (ln b) b=ga++gR n r/\BY r/\r.length<=n/\n<=1000000/\L=n+1)/\S=⟨(3,zD yA r)::(1000000,.gh (ln ga))::T,U⟩) ?_;(conv=>whnf);refine⟨?_,?_⟩
 .exact⟨b,[],ln b,⟨rfl,hb,zAg _,hl,rfl⟩,rfl⟩
 rintro L st ⟨r,ga,n,⟨hp,hr,hrn,hn1,rfl⟩,rfl⟩;have u:=xt r hr zB;rw[uk hr hrn]at hp;have O:=zA yA r;unfold L7 at G⊢
 cases h:Ab r with
 |none=>
  rw[h]at u hp;rw[show Lh none= .tup [.agg [iA 0,iA 0,.sl false []],iA 0,bA false]from Z]at u;dsimp only at hp;rw[zA2]at hp;refine zQ u ?_;exact ZD Z (.inl (by rw[zAa,hp]))
 | some p=>
  rw[h]at u hp;obtain⟨B,C⟩:=(FJ hr h).1;obtain⟨z,k⟩:=p;dsimp only at hp B C;rw[show Lh (some (z,k))= .tup [wK z,iA (k:Int),bA true]from Z]at u
  have E:((gR (ln b) b).map λp=>[wK p.1,iA (p.2:Int)])[ln ga]? =some [wK z,iA (k:Int)]:=by
   rw[hp,zAi,zBc (zAg _),zCl];rfl
  have I:ln ga<((gR (ln b) b).map λp=>[wK p.1,iA (p.2:Int)]).length:=by rw[zAa,hp];simp
  have M:1<=n:=by omega
  generalize ((gR (ln b) b).map λp=>[wK p.1,iA (p.2:Int)])=xs at *;unfold wK at*
  (repeat' (first|refine uD ?_|apply yZ|apply xM|intro hc|(apply zG;apply xO;first|(first|(refine vG 340 ?_;first|refine yE (zL (u) Z Z Z Z Z) Z ?_|refine qB (zL (u) Z Z Z Z Z) Z Z Z ?_|refine ZR (zL (u) Z Z Z Z Z) Z Z Z ?_))|(apply ia;refine MP A G Z Z E Z Z Z ?_ ?_))|(apply zG;first|refine SM ?_)|fail))
  .refine⟨n-1+1,zB,r.drop k,ga++[(z,k)],n-1,⟨by rw[hp,zA0];rfl,λx hx=>hr x (zBj hx),by rw[zA8];omega,zB,rfl⟩,?_⟩;rw[zAh,zCi];rfl
  .exact ZD Z (.inr zB)
