/- Part 30. -/
import Derived.Test.YtaglbcjljlkjcaaGreatV29
import Derived.ChangeArms
import Derived.DataReads
namespace Go.Proofs.YtaglbcjljlkjcaaGreat.Av
open Tryz
set_option linter.all false
set_option maxRecDepth 4000
set_option maxHeartbeats 8000000
open List renaming length->ln,replicate->pg,take->pi,drop->py
open Inhabited renaming default->dd
variable {tot:Nat}{α β:Type}
theorem V3 (l:List Int) (ac:ln l<=12):zO 210 [zE iA l] [] (bA (dB (mv l))) []:=by
 have hl:=zA iA l;by_cases hn:1<=ln l/\l.length<=8
 case neg=>
  rw[vC λh=>hn h.1];by_cases h0:1<=ln l
  all_goals
   (refine eM call210 λF hF=>?_)
   exact mx
 have W:=Ey (n:=ln l) zB;rw[<-hl]at W;refine eM call210 λF hF=>?_
 refine WW ?_;refine zZ (ln l) [] [] [0,14,15] [16,0,14,15] Z (λi T U zs=>(∀s:Nat,s<i->nv l s)/\zs=⟨(16,iA i)::T,U⟩) (Lp ?_ ?_ ?_)
 .exact⟨λs X=>absurd X (zBa _),rfl⟩
 .rintro u st hu ⟨hp,rfl⟩;have C:=λh=>uF (P:=nv l) hp h
  have y:¬nv l u->dB (mv l)=false:=λh=>vC λH=>h (H.2 u hu)
  have hy:=zJ iA l u hu;have S:=uT l zB u u;have B:=λv:Nat=>uT l zB u v
  have E:=λv:Nat=>uT l zB v u
  by_cases r0:0<=l.getD u dd
  case neg=>
   rw[y λh=>r0 h.1.1];generalize l.getD u dd=x at *;exact mx
  have L:(2:Int) ^ (ln l)=p2 ((l.map iA).length:Int):=by rw[hl];unfold p2;rw[zAv]
  by_cases r1:l.getD u dd<p2 ((l.map iA).length:Int)
  case neg=>
   rw[y λh=>r1 (by have:=h.1.2;rwa [L]at this)];clear L;generalize l.getD u dd=x at *;exact mx
  cases M:vM l u u with
  |true=>
   rw[y λh=>by rw[h.2.1]at M;cases M];rw[M]at S;clear L B E;generalize l.getD u dd=x at *;exact nl S
  |false=>
  rw[M]at S;have z:(∀t:Nat,t<ln l->vM l u t=vM l t u)->∀s:Nat,s<u+1->nv l s:=λh=>C ⟨⟨r0,by rw[L];exact r1⟩,M,h⟩
  have A:∀v,v<ln l->vM l u v≠vM l v u->dB (mv l)=false:=λv hv h=>y λH=>h (H.2.2 v hv)
  clear C y L;generalize l.getD u dd=x at *;refine zP S ?_;refine zZ (ln l) [] [] [0,3,14,15,16,38] [39,0,3,14,15,16,38] Z (λi T U zs=>(∀t:Nat,t<i->vM l u t=vM l t u)/\zs=⟨(39,iA i)::T,U⟩) (Lp ?_ ?_ ?_)
  .exact⟨λs X=>absurd X (zBa _),rfl⟩
  .rintro v st hv ⟨hp2,rfl⟩;have G:=λh=>uF (P:=λt:Nat=>vM l u t=vM l t u) hp2 h
   have I:=A v hv;have B:=B v;have E:=E v;clear z A hp2 hp;by_cases e:vM l u v=vM l v u
   .have Y:=G e;rw[e]at B;clear G I e;generalize hb:vM l v u=b at B E;clear hb;cases b
    all_goals
     (refine yB (xH B E) ?_)
     exact⟨Y,rfl⟩
   .rw[I e];clear G I
    cases O:vM l u v<;>cases R:vM l v u
    case false.false=>exact absurd (O.trans R.symm) e
    case true.true=>exact absurd (O.trans R.symm) e
    all_goals
     rw[O]at B;rw[R]at E;clear e O R;exact ng (xH B E)
  .rintro st ⟨hp2,rfl⟩;have V:=z hp2;clear z A;refine WW ?_;exact⟨V,rfl⟩
 .rintro st ⟨hp,rfl⟩;rw[LE ⟨hn,hp⟩];exact mx
def M7 (t:Ph):zO 211 [yU t] [] (bA (dB (VS t))) []:=by
 have u:=wC t.ring 0 1;have y:=wC t.group 0 3;have z:=wC t.ming 1 60;have A:=wC t.maxg t.ming 60;have B:=wC t.yel 1 60;have C:=wC t.red 0 60;have E:=wC t.walk 0 60;have G:=wC t.clear 0 60
 cases I:xY t.ring 0 1<;>rw[I]at u
 .rw[vC λh=>uU I h.1];refine eM call211 λF hF=>?_
  exact nl u
 cases L:xY t.group 0 3<;>rw[L]at y
 .rw[vC λh=>uU L h.2.1];refine eM call211 λF hF=>?_
  exact ng (xH u y)
 cases M:xY t.ming 1 60<;>rw[M]at z
 .rw[vC λh=>uU M (by unfold VS at h;omega)];refine eM call211 λF hF=>?_
  exact ng (qS u y z)
 cases q4:xY t.maxg t.ming 60<;>rw[q4]at A
 .rw[vC λh=>uU q4 (by unfold VS at h;omega)];refine eM call211 λF hF=>?_
  exact ng (cX u y z A)
 cases O:xY t.yel 1 60<;>rw[O]at B
 .rw[vC λh=>uU O (by unfold VS at h;omega)];refine eM call211 λF hF=>?_
  exact ng (KE u y z A B)
 cases R:xY t.red 0 60<;>rw[R]at C
 .rw[vC λh=>uU R (by unfold VS at h;omega)];refine eM call211 λF hF=>?_
  exact ng (BJ u y z A B C)
 cases S:xY t.walk 0 60<;>rw[S]at E
 .rw[vC λh=>uU S (by unfold VS at h;omega)];refine eM call211 λF hF=>?_
  exact ng (V6 u y z A B C E)
 cases U:xY t.clear 0 60<;>rw[U]at G
 .rw[vC λh=>uU U (by unfold VS at h;omega)];refine eM call211 λF hF=>?_
  exact ng (Hb u y z A B C E G)
 have w1:=uV I;have w2:=uV L;have w3:=uV M;have w4:=uV q4;have w5:=uV O;have w6:=uV R;have w7:=uV S;have w8:=uV U;clear I L M q4 O R S U;by_cases V:t.walk+t.clear<=t.maxg
 case neg=>
  rw[vC λh=>V (by unfold VS at h;omega)];refine eM call211 λF hF=>?_
  exact ng (Hb u y z A B C E G)
 by_cases W:t.walk=0<;>by_cases X:t.clear=0
 all_goals
  first
  |rw[LE (show VS t from⟨w1,w2,w3.1,w4.1,w4.2,w5.1,w5.2,w6.1,w6.2,w7.1,w7.2,w8.1,w8.2,V,⟨λ_=>by omega,λ_=>by omega⟩⟩)]
  |rw[vC (show¬VS t from λh=>by obtain⟨-,-,-,-,-,-,-,-,-,-,-,-,-,-,Y⟩:=h;first|exact X (Y.1 W)|exact W (Y.2 X))]
  refine eM call211 λF hF=>?_
  exact ng (Hb u y z A B C E G)
def U3 (j:Jn) (s:Nat):Prop:=(∀v:Nat,v<ln j.ph->wi j s v)/\aZ j s (ln j.ph)=true
def Iv {j:Jn} (h:∀s:Nat,s<ln j.ph->U3 j s):Z4 j/\∀s:Nat,s<ln j.ph->aZ j s (ln j.ph)=true:=⟨λp q u y=>(h p u).1 q y,λs z=>(h s z).2⟩
def S3 {j:Jn} (h:IG j) (s:Nat) (u:s<ln j.ph):U3 j s:=⟨λv hv=>h.2.2.2.2.2.1 s v u hv,h.2.2.2.2.2.2 s u⟩
theorem L7 (j:Jn) (au:ln j.ph<=12) (ac:ln j.cf<=12):zO 155 [xC j] [] (bA (dB (IG j))) []:=by
 have hl:=zA yU j.ph;have ax:=zA iA j.cf;have M:=V3 j.cf ac;have O:=wC j.st 0 60;by_cases hn:1<=ln j.ph/\j.ph.length<=8
 case neg=>
  rw[vC λh=>hn h.1];clear M O;by_cases h0:1<=ln j.ph
  all_goals
   (refine eM call155 λF hF=>?_)
   exact mx
 by_cases hc:ln j.cf=ln j.ph
 case neg=>
  rw[vC λh=>hc h.2.1];clear M O;refine eM call155 λF hF=>?_
  exact mx
 cases q1:dB (mv j.cf)<;>rw[q1]at M
 .rw[vC λh=>Uc.1 q1 h.2.2.1];clear O;refine eM call155 λF hF=>?_
  exact nl M
 cases q2:xY j.st 0 60<;>rw[q2]at O
 .rw[vC λh=>uU q2 h.2.2.2.1];refine eM call155 λF hF=>?_
  exact ng (xH M O)
 refine eM call155 λF hF=>?_
 refine yB (xH M O) ?_;refine zZ (ln j.ph) [1] [1] [1,42,43] [44,1,42,43] Z (λi T U zs=>(∀s:Nat,s<i->VS (zS j s))/\zs=⟨(44,iA i)::T,U⟩) (Lp ?_ ?_ ?_)
 .exact⟨λs V=>absurd V (zBa _),rfl⟩
 .rintro u st R ⟨hp,rfl⟩;have W:=zJ yU j.ph u R
  change (j.ph.map yU)[u]? =some (yU (zS j u))at W
  have cp:=M7 (zS j u);have y:¬VS (zS j u)->dB (IG j)=false:=λh=>vC λH=>h (H.2.2.2.2.1 u R)
  clear M O
  cases q:dB (VS (zS j u))<;>rw[q]at cp
  .rw[y (Uc.1 q)];generalize zS j u=t at *;exact nl cp
  .have ar:=uF (P:=λs=>VS (zS j s)) hp (AH.1 q);clear y q;generalize hg:zS j u=t at *;clear hg;refine zP cp ?_;exact⟨ar,rfl⟩
 .rintro st ⟨hP,rfl⟩;clear M O;have Y:∀s:Nat,s<ln j.ph->0<=(zS j s).group/\(zS j s).group<=3:=λs V=>(hP s V).2.1
  have S:(∀s:Nat,s<ln j.ph->U3 j s)->dB (IG j)=true:=λh=>LE ⟨hn,hc,AH.1 q1,uV q2,hP,Iv h⟩
  have y:∀u,u<ln j.ph->¬U3 j u->dB (IG j)=false:=λu R h=>vC λH=>h (S3 H u R)
  clear hP q1 q2;refine WW ?_;refine zZ (ln j.ph) [1] [1] [1,53,54] [55,1,53,54] Z (λi T U zs=>(∀s:Nat,s<i->U3 j s)/\zs=⟨(55,iA i)::T,U⟩) (Lp ?_ ?_ ?_)
  .exact⟨λs V=>absurd V (zBa _),rfl⟩
  .rintro u st R ⟨hp,rfl⟩;have W:=zJ yU j.ph u R
   change (j.ph.map yU)[u]? =some (yU (zS j u))at W
   have I:=λh=>uF (P:=U3 j) hp h
   have y:=y u R;have hg:=Y u R;have G:aZ j u 0=((zS j u).group==0):=by unfold aZ;simp
   have L:=EF j u;clear S hp;refine WW ?_;refine zZ (ln j.ph) [1,7] [1,7] [1,6,7,53,54,55,61,62] [63,1,6,7,53,54,55,61,62] Z (λi T U zs=>(∀v:Nat,v<i->wi j u v)/\zs=⟨(63,iA i)::T,U⟩) (Lp ?_ ?_ ?_)
   .exact⟨λs V=>absurd V (zBa _),rfl⟩
   .rintro v st hv ⟨hp,rfl⟩;have A:=zJ yU j.ph v hv
    change (j.ph.map yU)[v]? =some (yU (zS j v))at A
    have X:=uT j.cf zB u v;have nx:=λh=>uF (P:=wi j u) hp h
    have E:¬wi j u v->dB (IG j)=false:=λh=>y λH=>h (H.1 v hv)
    unfold wi at nx E;clear L G I y hp Y;by_cases ag:u=v
    .have ap:(u:Int)=v:=by omega
     have nx:=nx λh=>absurd ag h
     clear E;generalize B:zS j u=a at W;generalize C:zS j v=b at A;clear B C;refine WW ?_;exact⟨nx,rfl⟩
    have ap:¬(u:Int)=v:=by omega
    by_cases z:(zS j u).ring=(zS j v).ring\/(zS j u).group≠(zS j v).group
    .cases q:vM j.cf u v<;>rw[q]at X
     .rw[E λh=>by rw[h ag z]at q;cases q];clear nx E q;by_cases h1:(zS j u).ring=(zS j v).ring
      .generalize zS j u=a,zS j v=b at *;exact nl X
      .have h2:=z.resolve_left h1;generalize zS j u=a,zS j v=b at *;exact nl X
     .have nx:=nx λ_ _=>q
      clear E q;by_cases h1:(zS j u).ring=(zS j v).ring
      .generalize B:zS j u=a at W hg z h1;generalize C:zS j v=b at A z h1;clear B C;refine zP X ?_;exact⟨nx,rfl⟩
      .have h2:=z.resolve_left h1;generalize B:zS j u=a at W hg z h1 h2;generalize C:zS j v=b at A z h1 h2;clear B C;refine zP X ?_;exact⟨nx,rfl⟩
    .have nx:=nx λ_ h=>absurd h z
     have h1:¬(zS j u).ring=(zS j v).ring:=λh=>z (.inl h)
     have h2:(zS j u).group=(zS j v).group:=by
      by_cases h:(zS j u).group=(zS j v).group
      .exact h
      .exact absurd (.inr h) z
     clear E X z;generalize B:zS j u=a at W hg h1 h2;generalize C:zS j v=b at A h1 h2;clear B C;refine WW ?_;exact⟨nx,rfl⟩
   .rintro st ⟨hp3,rfl⟩;have nx:aZ j u (ln j.ph)=true->∀s:Nat,s<u+1->U3 j s:=λh=>I ⟨hp3,h⟩
    have sp:aZ j u (ln j.ph)=false->dB (IG j)=false:=λh=>y λH=>by rw[H.2]at h;cases h
    clear I y hp3;by_cases h0:(zS j u).group=0
    .have e0:aZ j u 0=true:=by rw[G,zBv];exact h0
     have eN:∀v,aZ j u v=true:=λv=>by unfold aZ;rw[h0];rfl
     have nx:=nx (eN _);clear sp;refine WW ?_;refine zM (ln j.ph) [1,7] [1,7] [1,7,53,54,55,98,99] [10,100,1,7,53,54,55,98,99] Z (λi T U=>⟨(10,bA (aZ j u i))::(100,iA i)::T,U⟩) ?_;(conv=>whnf);refine⟨by(rw[e0];rfl),?_,?_⟩
     .intro v hv;have A:=zJ yU j.ph v hv
      change (j.ph.map yU)[v]? =some (yU (zS j v))at A
      rw[eN,eN];clear L G nx eN Y;generalize zS j u=a,zS j v=b at *;refine WW ?_;rfl
     .rw[eN];refine WW ?_;exact⟨nx,rfl⟩
    .have e0:aZ j u 0=false:=by rw[G,zBd];exact h0
     refine WW ?_;refine zM (ln j.ph) [1,7] [1,7] [1,7,53,54,55,98,99] [10,100,1,7,53,54,55,98,99] Z (λi T U=>⟨(10,bA (aZ j u i))::(100,iA i)::T,U⟩) ?_;(conv=>whnf);refine⟨by(rw[e0];rfl),?_,?_⟩
     .intro v hv;have A:=zJ yU j.ph v hv
      change (j.ph.map yU)[v]? =some (yU (zS j v))at A
      have e8:=L v;rw[e8];have av:=Y v hv;clear nx sp;generalize aZ j u v=bb at *;clear L G e0 Y;generalize zS j u=a,zS j v=b at *;cases bb
      .by_cases hq:b.group=a.group-1
       .rw[show(false||b.group==a.group-1)=true by rw[zCh,zBv];exact hq];refine WW ?_;rfl
       .rw[show(false||b.group==a.group-1)=false by rw[zCh,zBd];exact hq];refine WW ?_;rfl
      .rw[zCt];refine WW ?_;rfl
     .cases hb:aZ j u (ln j.ph) with
      |true=>
       have nx:=nx hb;clear sp hb;refine WW ?_;exact⟨nx,rfl⟩
      |false=>
       rw[sp hb];clear nx sp hb;exact mx
  .rintro st ⟨hp,rfl⟩;rw[S hp];clear S y;exact mx
theorem K7 (c:Cf) (h:iq c):zO 84 [vL c] [] (bA (dB (TW c))) []:=by
 have O:=zA xC c.js;have L:=zA wP c.ags;have ag:=h.1;have ac:=h.2.1;have E:=wC ((c.js.map xC).length:Int) 1 4;have w2:=wC ((c.ags.map wP).length:Int) 1 4;have A:=wC c.per 1 600;have C:=wC c.cap 0 100;have G:=wC c.hold 1 60;have I:=wC c.lock 0 600;unfold vL zE
 cases V:xY ((c.js.map xC).length:Int) 1 4<;>rw[V]at E
 .rw[vC λh=>uU V (by have:=h.j;omega)];refine eM call84 λF hF=>?_
  exact nl E
 cases W:xY ((c.ags.map wP).length:Int) 1 4<;>rw[W]at w2
 .rw[vC λh=>uU W (by have:=h.a;omega)];refine eM call84 λF hF=>?_
  exact ng (xH E w2)
 have g1:=uV V;have g2:=uV W;refine eM call84 λF hF=>?_
 refine yB (xH E w2) ?_;refine zZ ((c.js.map xC).length) [1] [1] [1,20,21] [22,1,20,21] Z (λi T U zs=>(∀s:Nat,s<i->IG (c.js.getD s dd))/\zs=⟨(22,iA i)::T,U⟩) (Lp ?_ ?_ ?_)
 .exact⟨λs R=>absurd R (zBa _),rfl⟩
 .rintro i st hi ⟨hp,rfl⟩;have S:=zJ xC c.js i zB;have hb:=h.2.2.1 _ (zQ c.js i zB);have z:=L7 (c.js.getD i dd) hb.1 hb.2;have u:¬IG (c.js.getD i dd)->dB (TW c)=false:=λh=>vC λH=>h (Tc.1 (H.jv _ (zQ c.js i zB)))
  clear E w2 A C G I
  cases q:dB (IG (c.js.getD i dd))<;>rw[q]at z
  .rw[u (Uc.1 q)];clear hb;generalize c.js.getD i dd=j at *;exact nl z
  .have B:=uF (P:=λs=>IG (c.js.getD s dd)) hp (AH.1 q);clear u q hb;generalize M:c.js.getD i dd=j at S z;clear M;refine zP z ?_;exact⟨B,rfl⟩
 .rintro st ⟨hJ,rfl⟩;refine WW ?_;refine zZ ((c.ags.map wP).length) [1] [1] [1,31,32] [33,1,31,32] rfl (λi T U zs=>(∀s:Nat,s<i->LO (c.ags.getD s dd)=true)/\zs=⟨(33,iA i)::T,U⟩) (Lp ?_ ?_ ?_)
  .exact⟨λs R=>absurd R (zBa _),rfl⟩
  .rintro i st hi ⟨hp,rfl⟩;have S:=zJ wP c.ags i zB;have z:=RO (c.ags.getD i dd);have u:LO (c.ags.getD i dd)=false->dB (TW c)=false:=λh=>vC λH=>by rw[(OM _).2 (H.av _ (zQ c.ags i zB))]at h;cases h
   clear E w2 A C G I
   cases q:LO (c.ags.getD i dd)<;>rw[q]at z
   .rw[u q];clear u q;generalize c.ags.getD i dd=a at *;exact nl z
   .have B:=uF (P:=λs=>LO (c.ags.getD s dd)=true) hp q;clear u q;generalize M:c.ags.getD i dd=a at S z;clear M;refine zP z ?_;exact⟨B,rfl⟩
  .rintro st ⟨hA,rfl⟩;have y:(1<=c.per/\c.per<=600)->(0<=c.cap/\c.cap<=100)->(1<=c.hold/\c.hold<=60)->(0<=c.lock/\c.lock<=600)->dB (TW c)=true:=λf1 f2 f3 f4=>LE (Io zB zB hJ hA f1 f2 f3 f4 O L)
   clear hJ hA
   cases X:xY c.per 1 600<;>rw[X]at A
   .rw[vC λh=>uU X h.p];clear y;exact nl A
   cases q4:xY c.cap 0 100<;>rw[q4]at C
   .rw[vC λh=>uU q4 h.cp];clear y;exact ng (xH A C)
   cases Y:xY c.hold 1 60<;>rw[Y]at G
   .rw[vC λh=>uU Y h.h];clear y;exact ng (qS A C G)
   cases q6:xY c.lock 0 600<;>rw[q6]at I
   .rw[vC λh=>uU q6 h.l];clear y;exact ng (cX A C G I)
   .rw[y (uV X) (uV q4) (uV Y) (uV q6)];clear y;exact ng (cX A C G I)
def vf (l:List Int) (y:ln l<=1000000):zO 75 [zE iA l,zE iA l] [] (bA true) []:=by
 have hl:=zA iA l;refine eM call75 λF hF=>?_
 refine WW ?_;refine zU (l) [] [] [1,12,13] [14,1,12,13] Z (λi gd T U=>⟨(14,iA i)::T,U⟩) (Lq ?_ ?_)
 .intro i gd x post hx hi;have z:=zY iA hx hi;have u:=zX hx hi;clear hx;refine WW ?_
  all_goals (first|rfl|(exfalso;first|(simp[xS]at hc;done)|(revert hc;simp[xS];done)))
 .exact mx
def Np (l:List Vw) (L:ln l<=1000) (hb:∀v∈l,ln v.co<=1000/\v.cn.length<=1000):zO 29 [zE wE l,zE wE l] [] (bA true) []:=by
 have hl:=zA wE l;refine eM call29 λF hF=>?_
 refine WW ?_;refine zU (l) [] [] [1,13,14] [15,1,13,14] Z (λi gd T U=>⟨(15,iA i)::T,U⟩) (Lq ?_ ?_)
 .intro i gd x post hx hi;have y:=zY wE hx hi;have u:=zX hx hi;obtain⟨C,E⟩:=hb x (yQ hx);have z:=vf x.co zB;have A:=vf x.cn zB;clear hx;obtain⟨fl,B,I,G⟩:=x;dsimp only at *;unfold wE at y
  cases fl<;>cases B
  all_goals
   refine yB (xH z A) ?_;rfl
 .exact mx
def OS (y:Cy) (h:xw y):zO 14 [vN y,vN y] [] (bA true) []:=by
 obtain⟨R,B,S,C,V,E,W,G,I⟩:=h;have M:=Np y.vw G I;have hd:=zA zN y.ds;have Y:=zA wD y.sg;have hs:=zA xZ y.sv;have ht:=zA iA y.st;unfold vN eJ;generalize y.rf=O;cases O
 all_goals
  refine eM call14 λF hF=>?_
  refine zP M ?_;refine zU (y.ds) [2,3] [2,3] [2,3,70,71] [72,2,3,70,71] Z (λi gd T U=>⟨(72,iA i)::T,U⟩) (Lq ?_ ?_)
  .intro i gd x post hx hi;have A:=zY zN hx hi;have u:=zX hx hi;have z:=Hs x (B x (yQ hx));clear hx;unfold zN wG at *;refine zP z ?_;rfl
  ·(refine WW ?_)
   refine zU (y.sg) [2,3] [2,3] [2,3,87,88] [89,2,3,87,88] Z (λi gd T U=>⟨(89,iA i)::T,U⟩) (Lq ?_ ?_)
   .intro i gd x post hx hi;have A:=zY wD hx hi;have u:=zX hx hi;obtain⟨L,X⟩:=C x (yQ hx);have z:=Hr x zB zB;clear hx;unfold wD at *;refine zP z ?_;rfl
   ·(refine WW ?_)
    refine zU (y.sv) [2,3] [2,3] [2,3,104,105] [106,2,3,104,105] Z (λi gd T U=>⟨(106,iA i)::T,U⟩) (Lq ?_ ?_)
    .intro i gd x post hx hi;have A:=zY xZ hx hi;have u:=zX hx hi;have L:=E x (yQ hx);have z:=oy x x ⟨zB⟩ ⟨zB⟩;rw[show DQ x x=true from zAc ⟨rfl,rfl,rfl⟩]at z;clear hx;unfold xZ at *;refine zP z ?_;rfl
    ·(refine WW ?_)
     refine zU (y.st) [3] [3] [3,121,122] [123,3,121,122] Z (λi gd T U=>⟨(123,iA i)::T,U⟩) (Lq ?_ ?_)
     .intro i gd x post hx hi;have A:=zY iA hx hi;have u:=zX hx hi;clear hx;refine WW ?_
      all_goals (first|rfl|(exfalso;first|(simp[xS]at hc;done)|(revert hc;simp[xS];done)))
     .exact mx
def J7 (c:Cf):Cy:=⟨c,true,0,[],[],[],[],c.js.map λj=>WU (ln j.ph)⟩
def Mp (j:Jn) (h:ln j.ph<=12):zO 79 [xC j] [] (wE (WU (ln j.ph))) []:=by
 have hl:=zA yU j.ph;have u:∀n,(pg n (0:Int)).map iA=pg n (iA 0):=λn=>by simp
 rw[show wE (WU (ln j.ph))= .agg [bA true,bA false,.sl false (pg (ln j.ph) (iA 0)),.sl false (pg (ln j.ph) (iA 0))] by unfold WU wE zE;rw[u]];rw[<-hl];unfold xC zE;generalize j.ph.map yU=P at *;refine eM call79 λF hF=>?_
 refine WW ?_;refine zH [] Z Z ?_ Z
 show AV.agg [bA true,bA false,.sl false (pi (ln P) (py 0 (pg (ln P) (iA 0)))),.sl false (pi (ln P) (py 0 (pg (ln P) (iA 0))))]=_
 rw[zAr,zAl yE]
def Kp (j:Jn) (h:ln j.ph<=12):zO 76 [xC j] [] (wE (WU (ln j.ph))) []:=by
 have hl:=zA yU j.ph;have u:∀n,(pg n (0:Int)).map iA=pg n (iA 0):=λn=>by simp
 rw[show wE (WU (ln j.ph))= .agg [bA true,bA false,.sl false (pg (ln j.ph) (iA 0)),.sl false (pg (ln j.ph) (iA 0))] by unfold WU wE zE;rw[u]];rw[<-hl];unfold xC zE;generalize j.ph.map yU=P at *;refine eM call76 λF hF=>?_
 refine WW ?_;refine zH [] Z Z ?_ Z
 show AV.agg [bA true,bA false,.sl false (pi (ln P) (py 0 (pg (ln P) (iA 0)))),.sl false (pi (ln P) (py 0 (pg (ln P) (iA 0))))]=_
 rw[zAr,zAl yE]
def Hv (c:Cf) (h:iq c) (hv:¬TW c):zO 33 [vL c] [] (vN (J7 c)) []:=by
 have z:=s7 c h;rw[vC hv]at z;have y:=zA xC c.js;have B:=h.1;have u:vN (J7 c)= .agg [zE xC c.js,zE wP c.ags,iA c.per,iA c.cap,iA c.hold,iA c.lock,bA true,iA 0,.sl false [],.sl false [],.sl false [],.sl false [],zE wE (c.js.map λj=>WU (ln j.ph))]:=rfl;rw[u];unfold vL zE at *;refine eM call33 λF hF=>?_
 refine zP z ?_;refine uY 3 12 1015 4 Z Z Z Z Z ?_;refine zM ((c.js.map xC).length) [3,1015,2] [2] [2,3,19,20] [21,2,3,19,20] Z (λi T U=>⟨(21,iA i)::T,(3,.box [.sl false (c.js.map xC),.sl false (c.ags.map wP),iA c.per,iA c.cap,iA c.hold,iA c.lock,bA true,iA 0,.s (.slice none 0 0),.s (.slice none 0 0),.s (.slice none 0 0),.s (.slice none 0 0),.ref 1015 0 (((c.js.take i).map λj=>WU (ln j.ph)).map wE).length])::(1015,.arr 4 (((c.js.take i).map λj=>WU (ln j.ph)).map wE) true)::U⟩) (Lq ?_ ?_)
 .intro i hi;have hi':i<ln c.js:=by omega
  have I:=zJ xC c.js i hi';have E:=Mp (c.js.getD i dd) (h.2.2.1 _ (zQ c.js i hi')).1
  have A:c.js.take (i+1)=c.js.take i++[c.js.getD i dd]:=by
   rw[zAk,zAu hi',zCo,zCd hi']
  have C:(c.js.take i).length<=6:=by rw[zA0];omega
  rw[A];simp only[zAd,zBc,zBs];have L:(((c.js.take i).map λj=>WU (ln j.ph)).map wE).length=(c.js.take i).length:=by simp
  clear A u z;generalize WU (c.js.getD i dd).ph.length=w at *;generalize c.js.getD i dd=j at *;generalize ((c.js.take i).map λj=>WU (ln j.ph)).map wE=G at *;unfold xC zE wE at*
  (have gt:=E;(repeat' (first|refine gM ?_|apply yY|apply xN|intro hc|(apply zG;first|(apply yL;refine wQ tok Z Z ?_))|refine SB ?_|fail))<;>clear gt)
  rfl
 .rw[y,zAa];refine WW ?_;refine zH [] Z Z ?_ Z
  show AV.agg [.sl false (c.js.map xC),.sl false (c.ags.map wP),iA c.per,iA c.cap,iA c.hold,iA c.lock,bA true,iA 0,.sl false [],.sl false [],.sl false [],.sl false [],.sl false (pi ((c.js.map λj=>WU (ln j.ph)).map wE).length (py 0 ((c.js.map λj=>WU (ln j.ph)).map wE)))]=_
  rw[zAr,zAa]
def Gv (c:Cf) (h:iq c) (hv:¬TW c):zO 34 [vL c] [] (vN (J7 c)) []:=by
 have z:=K7 c h;rw[vC hv]at z;have y:=zA xC c.js;have B:=h.1;have u:vN (J7 c)= .agg [zE xC c.js,zE wP c.ags,iA c.per,iA c.cap,iA c.hold,iA c.lock,bA true,iA 0,.sl false [],.sl false [],.sl false [],.sl false [],zE wE (c.js.map λj=>WU (ln j.ph))]:=rfl;rw[u];unfold vL zE at *;refine eM call34 λF hF=>?_
 refine zP z ?_;refine zW 4 1015 4 Z Z Z ?_;refine zM ((c.js.map xC).length) [1015,2,3] [2,3] [2,3,24,25] [4,26,2,3,24,25] Z (λi T U=>⟨(4,.ref 1015 0 (((c.js.take i).map λj=>WU (ln j.ph)).map wE).length)::(26,iA i)::T,(1015,.arr 4 (((c.js.take i).map λj=>WU (ln j.ph)).map wE) true)::U⟩) (Lq ?_ ?_)
 .intro i hi;have hi':i<ln c.js:=by omega
  have I:=zJ xC c.js i hi';have E:=Kp (c.js.getD i dd) (h.2.2.1 _ (zQ c.js i hi')).1
  have A:c.js.take (i+1)=c.js.take i++[c.js.getD i dd]:=by
   rw[zAk,zAu hi',zCo,zCd hi']
  have C:(c.js.take i).length<=6:=by rw[zA0];omega
  rw[A];simp only[zAd,zBc,zBs];have L:(((c.js.take i).map λj=>WU (ln j.ph)).map wE).length=(c.js.take i).length:=by simp
  clear A u z;generalize WU (c.js.getD i dd).ph.length=w at *;generalize c.js.getD i dd=j at *;generalize ((c.js.take i).map λj=>WU (ln j.ph)).map wE=G at *;unfold xC zE wE at*
  (have gt:=E;(repeat' (first|refine gM ?_|apply yY|apply xN|intro hc|(apply zG;first|(apply yL;refine wQ tok Z Z ?_))|refine SB ?_|fail))<;>clear gt)
  rfl
 .rw[y,zAa];refine WW ?_;refine zH [] Z Z ?_ Z
  show AV.agg [.sl false (c.js.map xC),.sl false (c.ags.map wP),iA c.per,iA c.cap,iA c.hold,iA c.lock,bA true,iA 0,.sl false [],.sl false [],.sl false [],.sl false [],.sl false (pi ((c.js.map λj=>WU (ln j.ph)).map wE).length (py 0 ((c.js.map λj=>WU (ln j.ph)).map wE)))]=_
  rw[zAr,zAa]
def Jp (c:Cf) (h:iq c):∃y:Cy,xw y/\zO 33 [vL c] [] (vN y) []/\zO 34 [vL c] [] (vN y) []:=by
 by_cases hv:TW c
 .exact⟨XD c,(De c hv).b,Ai c hv,IM c hv⟩
 .refine⟨J7 c,⟨zAn _,λd hd=>(by cases hd),zAn _,λd hd=>(by cases hd),zAn _,λd hd=>(by cases hd),zAn _,?_,λv hv=>?_⟩,Hv c h hv,Gv c h hv⟩
  .have:=h.1
   show(c.js.map _).length<=1000
   rw[f7];omega
  .obtain⟨j,hj,rfl⟩:=zBm.1 hv;have:=(h.2.2.1 j hj).1;unfold WU;dsimp only;rw[zB1];omega
def F9 (c:Cf):Prop:=ln c.js<=9223372036854775807/\c.ags.length<=9223372036854775807/\(∀j∈c.js,ln j.ph<=9223372036854775807/\j.cf.length<=9223372036854775807)/\∀a∈c.ags,ln a.sec<=9223372036854775807/\a.lim.length<=9223372036854775807
theorem Fv (c:Cf) (O:F9 c):zO 31 [vL c] [] (bA (dB (iq c))) []:=by
 obtain⟨S,V,G,I⟩:=O;have W:=zA xC c.js;have R:=zA wP c.ags;unfold vL zE;by_cases h1:ln c.js<=6
 case neg=>
  rw[vC λh=>h1 h.1];refine eM call31 λF hF=>?_
  exact mx
 by_cases h2:ln c.ags<=6
 case neg=>
  rw[vC λh=>h2 h.2.1];refine eM call31 λF hF=>?_
  exact mx
 refine eM call31 λF hF=>?_
 refine WW ?_;refine zZ ((c.js.map xC).length) [1] [1] [1,18,19] [20,1,18,19] Z (λi T U M=>(∀s:Nat,s<i->(c.js.getD s dd).ph.length<=12/\(c.js.getD s dd).cf.length<=12)/\M=⟨(20,iA i)::T,U⟩) (Lp ?_ ?_ ?_)
 .exact⟨λs B=>absurd B (zBa _),rfl⟩
 .rintro i st hi ⟨hp,rfl⟩;have hi':i<ln c.js:=by omega
  have C:=zJ xC c.js i hi';have hb:=G _ (zQ c.js i hi');have u:=λh=>uF (P:=λs=>(c.js.getD s dd).ph.length<=12/\(c.js.getD s dd).cf.length<=12) hp h
  have y:¬((c.js.getD i dd).ph.length<=12/\(c.js.getD i dd).cf.length<=12)->dB (iq c)=false:=λh=>vC λH=>h (H.2.2.1 _ (zQ c.js i hi'))
  have e1:=zA yU (c.js.getD i dd).ph;have E:=zA iA (c.js.getD i dd).cf;clear hp;unfold xC zE at C;by_cases z:(c.js.getD i dd).ph.length<=12
  case neg=>
   rw[y λh=>z h.1];clear u y;generalize c.js.getD i dd=j at *;exact mx
  by_cases A:(c.js.getD i dd).cf.length<=12
  case neg=>
   rw[y λh=>A h.2];clear u y;generalize c.js.getD i dd=j at *;exact mx
  have u:=u ⟨z,A⟩;clear y;generalize L:c.js.getD i dd=j at C hb e1 E z A;clear L;refine WW ?_;exact⟨u,rfl⟩
 .rintro st ⟨hJ,rfl⟩;refine WW ?_;refine zZ ((c.ags.map wP).length) [] [] [36,37] [38,36,37] rfl (λi T U M=>(∀s:Nat,s<i->(c.ags.getD s dd).sec.length<=40/\(c.ags.getD s dd).lim.length<=12)/\M=⟨(38,iA i)::T,U⟩) (Lp ?_ ?_ ?_)
  .exact⟨λs B=>absurd B (zBa _),rfl⟩
  .rintro i st hi ⟨hp,rfl⟩;have hi':i<ln c.ags:=by omega
   have C:=zJ wP c.ags i hi';have hb:=I _ (zQ c.ags i hi');have u:=λh=>uF (P:=λs=>(c.ags.getD s dd).sec.length<=40/\(c.ags.getD s dd).lim.length<=12) hp h
   have y:¬((c.ags.getD i dd).sec.length<=40/\(c.ags.getD i dd).lim.length<=12)->dB (iq c)=false:=λh=>vC λH=>h (H.2.2.2 _ (zQ c.ags i hi'))
   have e1:=zA yA (c.ags.getD i dd).sec;have E:=zA iA (c.ags.getD i dd).lim;clear hp hJ;unfold wP zE at C;by_cases z:(c.ags.getD i dd).sec.length<=40
   case neg=>
    rw[y λh=>z h.1];clear u y;generalize c.ags.getD i dd=j at *;exact mx
   by_cases A:(c.ags.getD i dd).lim.length<=12
   case neg=>
    rw[y λh=>A h.2];clear u y;generalize c.ags.getD i dd=j at *;exact mx
   have u:=u ⟨z,A⟩;clear y;generalize L:c.ags.getD i dd=j at C hb e1 E z A;clear L;refine WW ?_;exact⟨u,rfl⟩
  .rintro st ⟨hA,rfl⟩;rw[LE (show iq c from⟨h1,h2,FL λs B=>hJ s zB,FL λs B=>hA s zB⟩)];clear hJ hA;exact mx
def YB (w:World) (D:Nat->Prop) (u:List AV) (cs:List Value):Prop:=
 (ln u)=ln cs/\∀(i:Nat) v c,u[i]? =some v->cs[i]? =some c->xF w D v c/\c.oneCell'=true
def jK {H:Type} (A:TypeId×Value->H) (P:Program) (w:World) (t:TypeId) (z:α->List AV) (B:α->Prop):Prop:=
 ∀u cs y,DataW.trod A P w 0 (λ_=>true) true u t cs=some y->∃x,YB w (xT (λ_=>False) λ_=>[]) (z x) cs/\B x
section
variable {H:Type} {eh:TypeId×Value->H} {P:Program} {w:World} {t:TypeId}
def RU {k:IntKind} (z:P.underlying t=some (.int k)):jK eh P w t (λn:Int=>[.s (.int k n)]) (λn=>(Lit.int k n).wf=true):=λu cs y h=>by
 obtain⟨n,rfl,_,A⟩:=DataW.trod_int z h;refine⟨n,⟨rfl,λi v c hv hc=>?_⟩,A⟩
 cases i with
 |zero=>simp at hv hc;subst hv hc;exact⟨.s _,rfl⟩
 |succ i=>simp at hv
theorem jK.map {z:α->List AV} {B:α->Prop} (h:jK eh P w t z B) {u:β->List AV} {C:β->Prop} (g:α->β) (h1:∀a,u (g a)=z a) (h2:∀a,B a->C (g a)):jK eh P w t u C:=λA cs y E=>by
 obtain⟨x,hx,hb⟩:=h A cs y E;exact⟨g x,by rw[h1];exact hx,h2 x hb⟩
inductive FR (eh:TypeId×Value->H) (P:Program) (w:World):Nat->Nat->List Field->(β:Type)->(β->List AV)->(β->Prop)->Prop
 |nil (off:Nat):FR eh P w off off [] Unit (λ_=>[]) (λ_=>True)
 |cons {off tot:Nat} {f:Field} {fs:List Field} {α β:Type} {enc:α->List AV} {B:α->Prop} {encs:β->List AV} {Bs:β->Prop} (k:Nat) (hr:jK eh P w f.type enc B) (ho:f.offset=off) (hk:P.cellsOf f.type=k) (hl:∀x,(enc x).length=k) (hf:FR eh P w (off+k) tot fs β encs Bs):
  FR eh P w off tot (f::fs) (α×β) (λp=>enc p.1++encs p.2) (λp=>B p.1/\Bs p.2)
theorem FR.le {off:Nat} {fs:List Field} {u:β->List AV} {y:β->Prop} (h:FR eh P w off tot fs β u y):off<=tot/\∀x,off+(u x).length=tot:=by
 induction h with
 |nil off=>exact⟨zAe _,λ_=>rfl⟩
 |cons k C B hk hl A z=>exact⟨zB,λx=>by have:=z.2 x.2;have:=hl x.1;simp;omega⟩
theorem FR.reads {off:Nat} {fs:List Field} {u:β->List AV} {E:β->Prop} (h:FR eh P w off tot fs β u E) {n:Nat} {cs:List Value}
 (hx:∀(i:Nat) (f:Field),fs[i]? =some f->∃y,DataW.trod eh P w 0 (λ_=>true) true n f.type ((cs.drop f.offset).take (P.cellsOf f.type))=some y) (A:tot=ln cs):
  ∃x,YB w (xT (λ_=>False) λ_=>[]) (u x) (cs.drop off)/\E x:=by
 induction h with
 |nil off=>exact⟨(),⟨by simp;omega,λi v c hv=>by simp at hv⟩,trivial⟩
 | @cons off tot f fs α β enc B u E k hr ho hk hl hf ih=>
  obtain⟨y,U⟩:=hx 0 f Z;obtain⟨x,⟨L,C⟩,I⟩:=hr _ _ _ U;have hb:=hf.le.1;rw[ho,hk]at L C;have G:=hl x;obtain⟨z,⟨O,R⟩,M⟩:=ih (λi g S=>hx (i+1) g (by simpa using S)) A;refine⟨(x,z),⟨by simp at O⊢;omega,λi v c hv hc=>?_⟩,I,M⟩;dsimp only at hv;by_cases hi:i<k
  .rw[zA9 zB]at hv;refine C i v c hv ?_;rw[zB0,Os hi];exact hc
  .rw[zBb zB,G]at hv;refine R (i-k) v c hv ?_;rw[zCe]at hc⊢;rw[<-hc]
   congr 1
   omega
def eX {fs:Array Field} {u:β->List AV} {B:β->Prop} (I:P.underlying t=some (.struct fs)) (M:P.cellsOf t=tot) (h:FR eh P w 0 tot fs.toList β u B):jK eh P w t u B:=λC cs y L=>by
 obtain⟨xs,m,_,_,E,A,G⟩:=DataW.trod_struct I L
 have:=h.reads (n:=m) (cs:=cs) (λi f z=>by
  have hi:i<ln xs:=by
   have:=(zAx.1 z).1;rw[A];simpa using this
  refine⟨xs[i],?_⟩;rw[G i f (by simpa using z)]
  simp[hi]) zB
 simpa using this
def one (u:Bool) (y:List AV):AV:=bif u then .agg y else y.headD .bot
def Th {u:Bool} {y:List AV} (h:u=false->∃v,y=[v]/\v.isAgg=false):(one u y).cells=y:=by
 cases u with
 |true=>rfl
 |false=>
  obtain⟨v,rfl,hv⟩:=h Z;simp only[one,zB9,List.headD]
  cases v<;>first|rfl|(simp[AV.isAgg]at hv)
theorem fP {e:TypeId} {u:α->List AV} {B:α->Prop} (ht:P.underlying t=some (.slice e)) (E:Bool) (he:jK eh P w e u B) {sz:Nat} (hs:P.cellsOf e=sz) (hp:Nat.ble 1 sz=true) (ac:∀x,E=false->∃v,u x=[v]/\v.isAgg=false):
  jK eh P w t (λl:List α=>[.sl false (l.map λx=>one E (u x))]) (λl=>ln l<=cD/\∀x∈l,B x):=λax cs y hy=>by
 have hp:=zAq hp
 rcases DataW.trod_slice ht hy with⟨rfl,_⟩|⟨a,len,cap,G,az,n,_,rfl,_,_,au,U,ap,ag,_⟩
 .refine⟨[],⟨rfl,λi v c hv hc=>?_⟩,by simp,by simp⟩
  cases i with
  |zero=>simp at hv hc;subst hv hc;exact⟨.nil _ _,rfl⟩
  |succ i=>simp at hv
 ·
  have S:∀i,i<len->∃(x:α) (A:List Value),w.cells? 0 (a.add (i*sz)) sz=some A/\YB w (xT (λ_=>False) λ_=>[]) (u x) A/\B x:=λi hi=>by
   have h1:=ag i hi;rw[hs]at h1;have h2:G[i]? =some G[i]:=by simp[ap,hi]
   rw[h2]at h1
   cases hc:w.cells? 0 (a.add (i*sz)) sz with
   |none=>rw[hc]at h1;cases h1
   |some A=>
    rw[hc]at h1;obtain⟨x,hx,hb⟩:=he _ _ _ h1;exact⟨x,A,rfl,hx,hb⟩
  have O:∀m,m<=len->∃l:List α,ln l=m/\∀i (h:i<ln l),∃A,w.cells? 0 (a.add (i*sz)) sz=some A/\YB w (xT (λ_=>False) λ_=>[]) (u l[i]) A/\B l[i]:=by
   intro m
   induction m with
   |zero=>exact λ_=>⟨[],rfl,λi h=>by simp at h⟩
   | succ m ih=>
    intro hm;obtain⟨l,hl,hh⟩:=ih zB;obtain⟨x,A,h1,h2,Y⟩:=S m zB;refine⟨l++[x],by simp[hl],λi h=>?_⟩;by_cases hi:i<ln l
    .rw[List.getElem_append_left hi];exact hh i hi
    .obtain rfl:i=m:=by simp at h;omega
     refine⟨A,h1,?_⟩;rw[List.getElem_append_right zB];simpa [hl]using And.intro h2 Y
  obtain⟨l,hl,hh⟩:=O len (zAe _);refine⟨l,⟨rfl,λi v c hv hc=>?_⟩,by unfold maxLen at U;unfold cD;omega,λx hx=>?_⟩
  .cases i with
   |succ i=>simp at hv
   | zero=>
    simp at hv hc;subst hv hc;refine⟨?_,rfl⟩;by_cases h0:len=0
    .subst h0;obtain rfl:l=[]:=zA5 hl;exact .nil _ _
    .obtain⟨X,h1,h2,_⟩:=hh 0 zB;obtain⟨b,off,W⟩:=a;obtain⟨_,g1,g2⟩:=World.cells?_some h1;have hz:0<ln X:=by omega
     have M:=g2 0 zB;rw[zAu hz]at M;have R:W=none:=by simpa [Addr.add]using World.cell?_spot M
     subst R
     have av:b<w.heap.size:=by
      have:=World.block_lt_of_cell? w _ M;simpa [aB]using this
     have C:∀i (h:i<ln l),∃A:List Value,ln A=sz/\YB w (xT (λ_=>False) λ_=>[]) (u l[i]) A/\∀j,j<sz->w.cell? ⟨b,off+i*sz+j,none⟩=A[j]? :=λi h=>by
      obtain⟨A,q1,q2,_⟩:=hh i h;obtain⟨_,q3,q4⟩:=World.cells?_some q1;refine⟨A,q3,q2,λj hj=>?_⟩;have:=q4 j hj
      rwa [aB,aB]at this
     have V:∀(i:Nat) (x:AV),(l.map λx=>one E (u x))[i]? =some x->∃h:i<ln l,x=one E (u l[i])/\x.cells=u l[i]:=λi x hx=>by
      rw[zAh,zAo]at hx;obtain⟨z,hz,rfl⟩:=hx;obtain⟨hi,rfl⟩:=zAx.1 hz;exact⟨hi,rfl,Th (ac _)⟩
     have I:(l.map λx=>one E (u x)).length=len:=by simp[hl]
     have:=xF.sl (w:=w) (D:=xT (λ_=>False) λ_=>[]) false (l.map λx=>one E (u x)) b off sz cap (λi j=>(w.cell? ⟨b,off+i*sz+j,none⟩).getD undef) (λh=>by rw[h]at I;simp at I;omega)
      ⟨av,dom0 b,hp,by rw[I];unfold maxLen at U;unfold cD;omega,λi x hx=>by
       obtain⟨hi,_,hc⟩:=V i x hx;obtain⟨A,e1,L,_⟩:=C i hi
       rw[hc,L.1,e1],λi j hi hj=>by
       obtain⟨A,e1,L,e3⟩:=C i zB
       rw[e3 j hj,zAu zB];rfl,λi j hi hj=>by
       obtain⟨A,e1,L,e3⟩:=C i zB;rw[e3 j hj,zAu zB];have ar:j<(u (l[i]'(by omega))).length:=by rw[L.1,e1];exact hj
       exact(L.2 j _ _ (zAu ar) (zAu zB)).2⟩ (by rw[I];exact au) (λi x j v hx hv=>by
       obtain⟨hi,_,hc⟩:=V i x hx;obtain⟨A,e1,L,e3⟩:=C i hi;rw[hc]at hv
       have hj:j<sz:=by
        have:=(zAx.1 hv).1;rw[L.1,e1]at this;exact this
       rw[e3 j hj,zAu zB]
       exact(L.2 j _ _ hv (zAu zB)).1)
     rwa [I]at this
  .obtain⟨i,hi,rfl⟩:=zCj hx;obtain⟨_,_,_,Y⟩:=hh i hi;exact Y
theorem jK.agg {u:α->List AV} {B:α->Prop} (h:jK eh P w t u B) {cs:Array Value} {d:DataW H} {E:List MemPlace} (C:DataW.Trod eh P w 0 (λ_=>true) true t (.agg cs) d E):∃x,xF w (xT (λ_=>False) λ_=>[]) (.agg (u x)) (.agg cs)/\B x:=by
 obtain⟨y,A⟩:=C;obtain⟨x,⟨hl,z⟩,hb⟩:=h _ _ _ A;have hl:(u x).length=cs.size:=by simpa [Value.cells]using hl
 refine⟨x,.agg _ _ hl.symm (λi hi=>?_) (λi v hv=>?_),hb⟩
 .have h1:i<(u x).length:=by omega
  exact(z i _ _ (zAu h1) (by simpa [Value.cells]using jA cs i hi)).2
 .have h1:=(zAx.1 hv).1;exact(z i _ _ hv (by simpa [Value.cells]using jA cs i zB)).1
theorem jK.cell {u:α->List AV} {B:α->Prop} (h:jK eh P w t u B) {v:Value} (hv:v.cells= #[v]) {d:DataW H} {G:List MemPlace} (E:DataW.Trod eh P w 0 (λ_=>true) true t v d G):∃x,∀a,u x=[a]->xF w (xT (λ_=>False) λ_=>[]) a v/\B x:=by
 obtain⟨y,A⟩:=E;obtain⟨x,⟨hl,C⟩,hb⟩:=h _ _ _ A;refine⟨x,λa z=>⟨(C 0 a v (by rw[z];rfl) (by rw[hv];rfl)).1,hb⟩⟩
end
def Pc (y:Cy) (j:Int) (hd:ln y.ds<=1000) (hb:∀d∈y.ds,cY d):zO 38 [.agg [zE xC y.c.js,zE wP y.c.ags,iA y.c.per,iA y.c.cap,iA y.c.hold,iA y.c.lock,bA false,iA y.ga,zE zN y.ds,zE wD y.sg,zE xZ y.sv,zE iA y.st,zE wE y.vw],iA j] [] (zE uK (uO j y.ds)) []:=by
 have hl:=zA zN y.ds;refine eM call38 λF hF=>?_
 refine WW ?_;refine zW 5 1001 5 Z Z Z ?_;refine zU (y.ds) [1001] [] [1,9,10] [5,11,1,9,10] Z (λi gd T U=>⟨(5,.ref 1001 0 ((uO j gd).map uK).length)::(11,iA i)::T,(1001,.arr 5 ((uO j gd).map uK) true)::U⟩) (Lq ?_ ?_)
 .intro i gd x post hx hi;have L:=zY zN hx hi;have A:=zX hx hi;have u:=hb x (yQ hx);have z:=KR x.rq x.rg.num j u.q u.g;have M:=bB j gd (λd hd=>(hb d md).q);have G:((uO j gd).map uK).length=(uO j gd).length:=f7 ..;have C:=gG x.rg.num j x.rq;have E:((jL x.rg.num j x.rq).map uK).length=(jL x.rg.num j x.rq).length:=f7 ..;have B:ln gd<=ln y.ds:=by rw[hx];simp
  have I:=u.q;rw[YJ,zAd];clear hx;generalize (uO j gd).map uK=X at *;unfold zE at z;generalize jL x.rg.num j x.rq=Y at *;unfold zN wG at L;refine zP z ?_;rfl
 ·(refine WW ?_)
  exact zH [] Z Z (zAt (AV.sl false) zAa) Z
def Oc (y:Cy) (j:Int) (hd:ln y.ds<=1000) (hb:∀d∈y.ds,cY d) (hv:∀d∈y.ds,∀r∈d.rq,kT [] r.legs=true) (hN:RT y.ds):zO 39 [.agg [zE xC y.c.js,zE wP y.c.ags,iA y.c.per,iA y.c.cap,iA y.c.hold,iA y.c.lock,bA false,iA y.ga,zE zN y.ds,zE wD y.sg,zE xZ y.sv,zE iA y.st,zE wE y.vw],iA j] [] (zE uK (uO j y.ds)) []:=by
 have hl:=zA zN y.ds;refine eM call39 λF hF=>?_
 refine WW ?_;refine zW 5 1001 5 Z Z Z ?_;refine zU (y.ds) [1001] [] [1,9,10] [5,11,1,9,10] Z (λi gd T U=>⟨(5,.ref 1001 0 ((uO j gd).map uK).length)::(11,iA i)::T,(1001,.arr 5 ((uO j gd).map uK) true)::U⟩) (Lq ?_ ?_)
 .intro i gd x post hx hi;have M:=zY zN hx hi;have A:=zX hx hi;have u:=hb x (yQ hx)
  have z:x.rg.num=(i:Int):=by
   have:=hN i A
   rwa [show y.ds.getD i dd=x by rw[hx,<-hi];simp[List.getD]]at this
  have E:=QO x.rq x.rg.num j u.q u.g (hv x (yQ hx));have O:=bB j gd (λd hd=>(hb d md).q);have I:((uO j gd).map uK).length=(uO j gd).length:=f7 ..;have B:=gG x.rg.num j x.rq;have C:((jL x.rg.num j x.rq).map uK).length=(jL x.rg.num j x.rq).length:=f7 ..;have G:ln gd<=ln y.ds:=by rw[hx];simp
  have L:=u.q;rw[YJ,zAd];clear hx;generalize (uO j gd).map uK=X at *;unfold zE at E;rw[z]at E B C⊢;generalize jL (i:Int) j x.rq=Y at *;unfold zN wG at M;refine zP E ?_;rfl
 ·(refine WW ?_)
  exact zH [] Z Z (zAt (AV.sl false) zAa) Z
section
variable {H:Type} {eh:TypeId×Value->H} {w:World}
def Ip:jK eh prog w 55 (λl:List Int=>[zE yA l]) (λl=>ln l<=9223372036854775807):=
 (fP (sz:=1) Tryz.underlying55 false (RU (k:= .u8) Tryz.underlying5) vA Z (λx _=>⟨_,rfl,rfl⟩)).map id (λ_=>rfl) (λ_ h=>h.1)
def AP:jK eh prog w 22 (λl:List Int=>[zE iA l]) (λl=>ln l<=9223372036854775807):=
 (fP (sz:=1) Tryz.underlying22 false (RU Tryz.underlying3) vA Z (λx _=>⟨_,rfl,rfl⟩)).map id (λ_=>rfl) (λ_ h=>h.1)
def vK:jK eh prog w 3 (λn:Int=>[.s (.int .i64 n)]) (λn=>(Lit.int .i64 n).wf=true):=RU Tryz.underlying3
def phE (p:Ph):List AV:=[iA p.ring,iA p.group,iA p.ming,iA p.maxg,iA p.yel,iA p.red,iA p.walk,iA p.clear]
def Hp:jK eh prog w 169 phE (λ_=>True):=
 (eX Tryz.underlying169 vA (.cons 1 vK Z vA (λ_=>rfl) (.cons 1 vK Z vA (λ_=>rfl) (.cons 1 vK Z vA (λ_=>rfl) (.cons 1 vK Z vA (λ_=>rfl)
  (.cons 1 vK Z vA (λ_=>rfl) (.cons 1 vK Z vA (λ_=>rfl) (.cons 1 vK Z vA (λ_=>rfl) (.cons 1 vK Z vA (λ_=>rfl) (.nil 8)))))))))).map
  (λp=>⟨p.1,p.2.1,p.2.2.1,p.2.2.2.1,p.2.2.2.2.1,p.2.2.2.2.2.1,p.2.2.2.2.2.2.1,p.2.2.2.2.2.2.2.1⟩) (λ_=>rfl) (λ_ _=>trivial)
def Sh:jK eh prog w 88 (λl:List Ph=>[zE yU l]) (λl=>ln l<=9223372036854775807):=
 (fP (sz:=8) Tryz.underlying88 true Hp vA Z (λx h=>by cases h)).map id (λ_=>rfl) (λ_ h=>h.1)
def jnE (j:Jn):List AV:=[zE yU j.ph,zE iA j.cf,iA j.st]
def Gp:jK eh prog w 90 jnE (λj=>ln j.ph<=9223372036854775807/\j.cf.length<=9223372036854775807):=
 (eX Tryz.underlying90 vA (.cons 1 Sh Z vA (λ_=>rfl) (.cons 1 AP Z vA (λ_=>rfl) (.cons 1 vK Z vA (λ_=>rfl) (.nil 3))))).map
  (λp=>⟨p.1,p.2.1,p.2.2.1⟩) (λ_=>rfl) (λ_ h=>⟨h.1,h.2.1⟩)
def Rh:jK eh prog w 25 (λl:List Jn=>[zE xC l]) (λl=>ln l<=9223372036854775807/\∀j∈l,ln j.ph<=9223372036854775807/\j.cf.length<=9223372036854775807):=
 (fP (sz:=3) Tryz.underlying25 true Gp vA Z (λx h=>by cases h)).map id (λ_=>rfl) (λ_ h=>h)
def E9 (a:Ag):List AV:=[zE yA a.sec,iA a.rights,iA a.cls,zE iA a.lim,iA a.req,iA a.ses,iA a.rate,iA a.burst]
def Qh:jK eh prog w 57 E9 (λa=>ln a.sec<=9223372036854775807/\a.lim.length<=9223372036854775807):=
 (eX Tryz.underlying57 vA (.cons 1 Ip Z vA (λ_=>rfl) (.cons 1 vK Z vA (λ_=>rfl) (.cons 1 vK Z vA (λ_=>rfl) (.cons 1 AP Z vA (λ_=>rfl)
  (.cons 1 vK Z vA (λ_=>rfl) (.cons 1 vK Z vA (λ_=>rfl) (.cons 1 vK Z vA (λ_=>rfl) (.cons 1 vK Z vA (λ_=>rfl) (.nil 8)))))))))).map
  (λp=>⟨p.1,p.2.1,p.2.2.1,p.2.2.2.1,p.2.2.2.2.1,p.2.2.2.2.2.1,p.2.2.2.2.2.2.1,p.2.2.2.2.2.2.2.1⟩) (λ_=>rfl) (λ_ h=>⟨h.1,h.2.2.2.1⟩)
def Oh:jK eh prog w 26 (λl:List Ag=>[zE wP l]) (λl=>ln l<=9223372036854775807/\∀a∈l,ln a.sec<=9223372036854775807/\a.lim.length<=9223372036854775807):=
 (fP (sz:=8) Tryz.underlying26 true Qh vA Z (λx h=>by cases h)).map id (λ_=>rfl) (λ_ h=>h)
def cfE (c:Cf):List AV:=[zE xC c.js,zE wP c.ags,iA c.per,iA c.cap,iA c.hold,iA c.lock]
def reads_cf:jK eh prog w 28 cfE F9:=
 (eX Tryz.underlying28 vA (.cons 1 Rh Z vA (λ_=>rfl) (.cons 1 Oh Z vA (λ_=>rfl) (.cons 1 vK Z vA (λ_=>rfl) (.cons 1 vK Z vA (λ_=>rfl)
  (.cons 1 vK Z vA (λ_=>rfl) (.cons 1 vK Z vA (λ_=>rfl) (.nil 6)))))))).map
  (λp=>⟨p.1,p.2.1,p.2.2.1,p.2.2.2.1,p.2.2.2.2.1,p.2.2.2.2.2.1⟩) (λ_=>rfl) (λ_ h=>⟨h.1.1,h.2.1.1,h.1.2,h.2.1.2⟩)
end
