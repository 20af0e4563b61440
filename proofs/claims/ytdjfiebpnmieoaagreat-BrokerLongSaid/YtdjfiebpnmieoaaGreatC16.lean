/- Part 16. -/
import Derived.Test.YtdjfiebpnmieoaaGreatC15
namespace Go.Proofs.YtdjfiebpnmieoaaGreat.Av
set_option linter.all false
set_option maxRecDepth 4000
set_option maxHeartbeats 8000000
open List renaming length->ln,take->nm,drop->ny,getD->oj
open Inhabited renaming default->dd
variable {c:Cf}{cls life f4 v:Int}{xs:List AV}{qs:List Qd}{α:Type}{d:xP}
theorem Xq:∀{qs:List Qd} {q:Qd},q∈qs->q.j∈aR qs/\q.p∈aR qs/\q.f∈aR qs/\q.t∈aR qs
 |x::l,q,h=>by
  rw[show aR (x::l)=x.j::x.p::x.f::x.t::aR l from Z]
  rcases zBv.1 h with rfl|h
  .simp
  .obtain⟨h1,h2,u,z⟩:=Xq h;simp[h1,h2,u,z]
theorem Pe {β γ:Type} {f:α->β->γ}:∀{a:List α} {b:List β} {g:γ},g∈a.zipWith f b->∃x∈a,∃y,g=f x y
 |x::a,y::b,g,h=>by
  rw[zDp]at h
  rcases zBv.1 h with rfl|h
  .exact⟨x,by simp,y,rfl⟩
  .obtain⟨z,u,w,e⟩:=Pe h;exact⟨z,by simp[u],w,e⟩
 | [],_,_,h=>by simp at h
 |_::_,[],_,h=>by simp at h
def Wq (l:List Rq) (r:Rq):(eE l r).length=ln l+1:=by grind [eE]
def F3 {j p f t:Int} (h:CP j p f t f4=true):(EO j p f t f4).jn=j/\(EO j p f t f4).ph=p:=by grind [CP,EO]
def v7 (h:qs.all (YQ c f4)=true):∀g∈qs.map (UK f4),g.jn<(ln c.js:Int)/\g.ph<((c.js.getD g.jn.toNat dd).ph.length:Int):=by
 intro g u;rw[zB0]at u;obtain⟨q,A,rfl⟩:=u;have h1:=zAq.1 h q A;unfold YQ at h1;simp only[zAn,zAe]at h1;obtain⟨h2,C,z⟩:=h1;obtain⟨e1,B⟩:=F3 z
 grind [YQ,UK]
def f9 {l:List Rq} {q id:Int} {x:List Lg} (h:NI l q id life x=0):(ln l:Int)<q/\(ln l:Int)<4:=by grind [NI]
def c9 {id:Int} (h:Yb c d cls id v life f4 qs=0):ib (cO d.rg.vh v)=true/\qs.all (YQ c f4)=true/\NI d.rq d.rg.ag.req id life (qs.map (UK f4))=0:=by grind [Yb,ib,cO,YQ,NI,UK,Er]
def o9 (u:qR c d) {id:Int} (C:0<=f4) (E:f4<=1073741824) (h:Yb c d cls id v life f4 qs=0):qR c (Hg d (Vp c d cls id v life f4 qs)):=by
 obtain⟨hv,B,hs⟩:=c9 h;unfold ib at hv;rw[zAe]at hv;have hl:=f9 hs;unfold Hg Vp;rw[Os h];refine⟨u.b,C2 u.v hs hv.1.1 hv.1.2 hv.2.1 hv.2.2 C E,?_,λr z g A=>?_,u.a,u.n,u.t8,u.br,u.bb,u.bl,u.au,u.dn,u.dr,u.vh⟩
 .dsimp only;rw[Wq];omega
 .rcases JX z with rfl|z
  .exact v7 B g A
  .exact u.lg r z g A
def n9 (u:qR c d) {id:Int} {C:List (Int×Int)} (h:dD d.rq id C f4=0):qR c (Hg d (jy d.rq id C f4)):=by
 unfold Hg jy;rw[Os h];have hl:(XU d.rq id C f4).length=ln d.rq:=by unfold XU;rw[zAa]
 refine⟨u.b,j3 u.v h,?_,λr A g B=>?_,u.a,u.n,u.t8,u.br,u.bb,u.bl,u.au,u.dn,u.dr,u.vh⟩
 .dsimp only;rw[hl];exact u.q
 .dsimp only at A;unfold XU at A;rw[zB0]at A;obtain⟨E,z,rfl⟩:=A;split at B
  .obtain⟨x,hx,y,rfl⟩:=Pe B;exact u.lg E z x hx
  .exact u.lg E z g B
def u7 (u:qR c d) (p:Rq->Bool):qR c (Hg d (d.rq.filter p)):=by
 have hl:=zBy p d.rq;have B:=u.q;refine⟨u.b,u.v.filter p,?_,λr A g z=>u.lg r ((zD5.1 A).1) g z,u.a,u.n,u.t8,u.br,u.bb,u.bl,u.au,u.dn,u.dr,u.vh⟩
 grind [Hg]
def k7 {id:Int} (h:Yb c d cls id v life f4 qs=0):TA d.rq (Vp c d cls id v life f4 qs):=by
 unfold Vp;rw[Os h];intro r u g z
 rcases JX u with rfl|u
 .refine .inl ?_;obtain⟨q,A,rfl⟩:=zB0.1 z
  grind [Yb,TA,Vp,YQ,UK,EO]
 all_goals grind
def j7 {id:Int} {B:List (Int×Int)} (h:dD d.rq id B f4=0):TA d.rq (jy d.rq id B f4):=by
 unfold jy;rw[Os h];intro r u g A;unfold XU at u;rw[zB0]at u;obtain⟨C,z,rfl⟩:=u;split at A
 .obtain⟨x,hx,y,rfl⟩:=Pe A;exact .inr ⟨C,z,by split<;>rfl,x,hx,rfl,rfl,rfl⟩
 all_goals grind
def f7 (d:xP) (m:Ms) (z:Rg) (u:Bool):TA d.rq (Me d m z u 0).rq:=by
 unfold Me;rw[Os Z];dsimp only;split
 .exact TA.filter _ _
 .exact TA.refl _
def m9 (z:qR c d) {m:Ms} {I:List Int} {C:Rg} {p:Ms} {u:Bool} (hb:EM C) (L:E9 d.rg m I C p u 0):qR c (Me d m C u 0)/\(Me d m C u 0).rg.ag=d.rg.ag/\(Me d m C u 0).rg.num=d.rg.num/\(Me d m C u 0).dr.length<=ln d.dr/\Lb d (Me d m C u 0):=by
 have B:(if u=true then d.dr.drop 1 else d.dr).length<=1000/\∀x∈(if u=true then d.dr.drop 1 else d.dr),ln x=8/\BY x:=by
  split
  .exact⟨by have:=z.dn;rw[zA8];omega,λx hx=>z.dr x (zBj hx)⟩
  .exact⟨z.dn,z.dr⟩
 have A:bW (if m.kind=5 then QA d.rq (m.args.getD 0 0)else d.rq)/\((if m.kind=5 then QA d.rq (m.args.getD 0 0)else d.rq).length:Int)<=d.rg.ag.req/\V7 c (if m.kind=5 then QA d.rq (m.args.getD 0 0)else d.rq):=by
  split
  .have h:=u7 z (λx=>x.vh != m.args.getD 0 0);exact⟨h.v,h.q,h.lg⟩
  .exact⟨z.v,z.q,z.lg⟩
 have E:(if u=true then d.dr.drop 1 else d.dr).length<=ln d.dr:=by
  grind
 unfold Me;rw[Os Z]
 rcases L.2 Z with⟨o,G,hT,rfl,_⟩|⟨o,G,rfl,_⟩
 .refine⟨⟨hb,A.1,A.2.1,A.2.2,z.a,z.n,G,z.br,z.bb,z.bl,z.au,B.1,B.2,z.vh⟩,rfl,rfl,E,λh=>⟨hT h,rfl⟩⟩
 .exact⟨⟨hb,A.1,A.2.1,A.2.2,z.a,z.n,z.t8,z.br,z.bb,z.bl,z.au,B.1,B.2,G⟩,rfl,rfl,E,Lb.refl _⟩
def D3 {i:It} {a:List Int} (u:Dq d i f4 a):(Zc d i f4 a).rg.ag=d.rg.ag/\(Zc d i f4 a).rg.num=d.rg.num/\(Zc d i f4 a).rg.tk=d.rg.tk/\(Zc d i f4 a).rq=d.rq/\(Zc d i f4 a).dr=d.dr/\(Zc d i f4 a).au=d.au:=by grind [Dq,Zc,wN,OM]
def fh {l:List Tk} {g:Int} {b:List Int} {k:Int} (h:GZ l g b k f4=true):gU l (b.getD 1 dd)=true:=by grind [GZ,gU]
def l9 (r:Rg) (m:Ms) (f4:Int):0<=Bg r m f4/\Bg r m f4<=100:=by grind [Bg]
def d7 (c:Cf) (d:xP) (cls id v life f4:Int) (qs:List Qd):0<=Yb c d cls id v life f4 qs/\Yb c d cls id v life f4 qs<=100:=by grind [Yb,Er,NI]
def p7 (l:List Rq) (id:Int) (u:List (Int×Int)) (f4:Int):0<=dD l id u f4/\dD l id u f4<=100:=by grind [dD]
def o7 {i:It} {a:List Int} (h:U4 d.rg.tk) (z:Dq d i f4 a):i.kind≠10:=λhk=>by
 have h1:=(OM z.2.2.2.2).2.1;have h2:=fh h1;unfold GZ at h1;dsimp only at h1;rw[hk]at h1;simp only[zAn]at h1;unfold gU at h2;rw[zAn,zAe]at h2;dsimp only at h2;have u:=h _ (zY d.rg.tk _ (show((i.pay.take 10).getD 1 dd).toNat<ln d.rg.tk by have:=h2.1;omega)) h2.2;rw[show Vj (uj d.rg.tk (i.pay.take 10)).rights 10=false from u]at h1;exact absurd h1.2.2 zAp
theorem mj (c:Cf) (d:xP) (R:qR c d) (s f4:Int) (n0:0<=f4) (n1:f4<=1073741824) (i:It) (a2:BY i.pay) (a5:ln i.pay<=100000):∃h,OL c d s i f4 h/\Py c d s i f4 h:=by
 by_cases hc:i.code=0
 case neg=>exact Kb R hc LB d (.inl Z) (jw c d s f4 i hc) (Rw c d s f4 R.bd i hc) id
 by_cases hk:1<=i.kind/\i.kind<=12
 case neg=>exact Kb R yX LB d (.inl Z) (fw c d s f4 i hc hk) (Qw c d s f4 R.bd i hc hk)
 obtain⟨V,h1⟩:=hk;have W:=Jm i.kind V h1 i.pay a2 a5;have r2:=yj i.kind V h1 i.pay a2 a5;have az:i=⟨0,i.kind,i.pay⟩:=by cases i;simp_all
 cases hd:KE (qQ i.kind) (vD i.kind) i.pay with
 |none=>
  rw[hd]at W r2;have q1:=dw c d s f4 i.kind i.pay V h1 W;have M:=Ow c d s f4 R.bd i.kind i.pay V h1 r2;rw[<-az]at q1 M;exact Kb R yX LB d (.inl Z) q1 M
 |some I=>
 rw[hd]at W r2;obtain⟨_,ck,hv,ac,bu⟩:=Kw a2 hd;have bf:BY (i.pay.take 10):=λx hx=>a2 x (zB5 hx)
 have bx:d.rg.bk.level<=1000000:=by have:=R.bl;have:=R.a.b;omega
 have k3:=U3 d.rg ⟨i.kind,i.pay.take 10,I,[]⟩ f4 R.b bf bx;have r3:=Mw d.rg ⟨i.kind,i.pay.take 10,I,[]⟩ f4 R.b bf bx;by_cases ho:Bg d.rg ⟨i.kind,i.pay.take 10,I,[]⟩ f4=0
 case neg=>
  have q1:=bw c d s f4 i.kind i.pay (i.pay.take 10) I V h1 W _ _ _ ho k3;have M:=Nw c d s f4 R.bd i.kind i.pay (i.pay.take 10) I V h1 r2 _ _ _ ho r3;rw[<-az]at q1 M;exact Kb R ho LB d (.inl Z) q1 M (λ_=>l9 _ _ _)
 have hO:Dq d i f4 I:=⟨hc,V,h1,hd,ho⟩;obtain⟨_,b6,_,b1⟩:=OM ho;rw[ho,b1]at k3 r3;have a4:=fh b6;dsimp only at b1 a4;generalize (i.pay.take 10).getD 1 dd=E at *;have z:=Oy R hO;obtain⟨ea,en,et,eq,er,eu⟩:=D3 hO
 have a3:0<=E/\E<(ln d.rg.tk:Int):=by
  unfold gU at a4;rw[zAn,zAe]at a4;exact a4.1
 have ax:Zc d i f4 I=wN d (xq d.rg ⟨i.kind,i.pay.take 10,I,[]⟩ f4):=rfl;generalize xq d.rg ⟨i.kind,i.pay.take 10,I,[]⟩ f4=B at *;have tl:(i.pay.take 10).length<=1000:=by rw[zAw];omega
 have NO:∀(e:Int),e≠0->0<=e/\e<=100->∀(p p2:Ms) (a9:Int),zO 218 [wO c,zK d,iA s,wK ⟨0,i.kind,i.pay⟩,iA f4] [] (hT (wN d B) p (-1) e) []->
   zO 239 [wO c,zK (wN d B),iA s,yC ⟨i.kind,i.pay.take 10,I,[]⟩,iA E,iA f4] [] (hT (wN d B) p2 a9 e) []->∃h,OL c d s i f4 h/\Py c d s i f4 h:=by
  intro e G cd p p2 a9 q1 M;have q3:=Sy c d s f4 R.bd i.kind i.pay _ I V h1 r2 B E r3 (wN d B) (ax▸z.bd) p2 a9 e M;rw[Cq G]at q3;rw[<-az]at q1 q3;exact Kb R G p _ (.inr ⟨I,hO,ax.symm⟩) q1 q3 (λ_=>cd)
 have Y:∀(d':xP) (p:Ms) (k:Int),qR c d'->d'.rg.ag=d.rg.ag->d'.rg.num=d.rg.num->Y9 d i f4 I ⟨d',p,k,0⟩->(k= -1\/(i.kind=11/\0<=k/\k<(ln c.js:Int)))->ln d'.dr<=ln d.dr->Lb d d'->zO 218 [wO c,zK d,iA s,wK ⟨0,i.kind,i.pay⟩,iA f4] [] (hT d' p k 0) []->
   zO 239 [wO c,zK (wN d B),iA s,yC ⟨i.kind,i.pay.take 10,I,[]⟩,iA E,iA f4] [] (hT d' p k 0) []->d'.au=d.au->TA d.rq d'.rq->∃h,OL c d s i f4 h/\Py c d s i f4 h:=by
  intro d' p k hi ha hn hr hk cb ci q1 M b5 ch;have q3:=Sy c d s f4 R.bd i.kind i.pay _ I V h1 r2 B E r3 d' hi.bd p k 0 M;rw[bh]at q3;rw[<-az]at q1 q3;exact V4 R I hO p k d' hi ha hn hr hk cb ci q1 q3 b5 ch
 rw[ax]at z ea en et eq er eu;have cl:vD i.kind=0\/vD i.kind≠0:=by omega
 have b7:i.kind=1\/(i.kind=2\/i.kind=3\/i.kind=4\/i.kind=5)\/i.kind=6\/i.kind=7\/i.kind=8\/i.kind=9\/i.kind=10\/i.kind=11\/i.kind=12:=by omega
 rcases b7 with hk|hk|hk|hk|hk|hk|hk|hk|hk
 ·
  have av:I=[]:=zBa (by rw[ac GQ,hk];rfl);subst av;have A:=II hO (.inl hk);rw[ax]at A;rw[A]at z;have q1:=CD c d s f4 i.kind i.pay _ [] V h1 W B E k3 (.inl hk) (OG d f4) (by rw[A,hk];exact Ub d f4);have M:=Mq c d s f4 (i.pay.take 10) E;rw[A]at q1;refine Y d _ _ z Z Z (.inl ⟨hk,rfl,rfl⟩) (.inl Z) (zAg _) (Lb.refl _) q1 ?_ Z (TA.refl _);rw[A,hk];exact M
 ·
  obtain⟨a,L,O⟩:∃a L,I=a::L:=by
   cases I with
   |nil=>exfalso;have:=ac Cx;rcases hk with hk|hk|hk|hk<;>rw[hk]at this<;>cases this
   |cons a L=>exact⟨a,L,rfl⟩
  have av:ln I<=1000:=by have:=ac Cx;have:=Ze i.kind;omega
  have hm:M2 ⟨i.kind,i.pay.take 10,I,[]⟩:=⟨tl,av,zAr _⟩
  have b0:(IF (wN d B)).length<=1000:=by
   unfold IF wN;dsimp only
   cases a7:d.dr with
   |nil=>simp
   |cons b bs=>have:=(R.dr b (by rw[a7];simp)).1;simp;omega
  have cg:BY (IF (wN d B)):=by
   unfold IF wN;dsimp only
   cases a7:d.dr with
   |nil=>exact λx hx=>by cases hx
   |cons b bs=>exact(R.dr b (by rw[a7];simp)).2
  have cj:ln B.vh<=1000:=by have:=z.vh;exact zBi this zB
  obtain⟨r',p,u,e,cf,cm,hP,f1,f2⟩:=qw B cj ⟨i.kind,i.pay.take 10,I,[]⟩ hm E f4 (IF (wN d B)) b0
  have h5:i.kind=5->∃a,I=[a]:=λh=>by
   have h9:=ac (by rw[h];rfl);rw[h]at h9;exact Nq h9
  have q1:=u4 (wN d B) ⟨i.kind,i.pay.take 10,I,[]⟩ E f4 z.v z.dn r' p u e f1 h5
  have hu:u=true->(wN d B).dr≠[]:=λhu h9=>by
   have G:e=0:=by
    by_cases G:e=0
    .exact G
    .rw[(hP.1 G).1]at hu;cases hu
   have b2:IF (wN d B)=[]:=by unfold IF;rw[h9];rfl
   rcases hP.2 G with⟨o,_,_,_,U|U⟩|⟨o,_,_,U,_⟩
   .rw[U.1]at hu;cases hu
   .rw[b2]at U;exact absurd U.2.1 yX
   .rw[U]at hu;cases hu
  have M:=kw (wN d B) ⟨i.kind,i.pay.take 10,I,[]⟩ E f4 z.v z.dn r' p u e f2 h5 hu;have S:=j4 c d s f4 i.kind i.pay _ I V h1 W B E k3 hk _ _ e q1;have w2:=o4 c (wN d B) s f4 (i.pay.take 10) E i.kind I a L O hk _ p e M;by_cases G:e=0
  .subst G;rw[Os Z]at S;obtain⟨hi,ha,hn,b9,ca⟩:=m9 (m:=⟨i.kind,i.pay.take 10,I,[]⟩) z cf hP;have C:0<=a/\a<=4294967295:=hv a (by rw[O];simp);refine Y _ p (-1) hi (ha.trans ea) (hn.trans en) ?_ (.inl Z) b9 ((T0.of et eu).trans ca) S w2 (by unfold Me;rw[Os Z];rfl) (f7 (wN d B) _ r' u)
   rcases hP.2 Z with⟨o,_,_,_,U|U⟩|⟨o,_,_,_,U,ap⟩
   .obtain⟨_,ap,a1⟩:=U;dsimp only at a1 ap;exact .inr (.inr (.inr (.inr ⟨zB,a,C.1,C.2,by rw[ap,O,a1];rfl⟩)))
   .obtain⟨_,ap,a1,k,b3,b4⟩:=U;have a6:B.num=d.rg.num:=en;exact .inr (.inr (.inr (.inl ⟨a1,k,_,b3,⟨ap,cg⟩,by rw[b4,a6]⟩)))
   .dsimp only at U ap;exact .inr (.inr (.inr (.inr ⟨zB,a,C.1,C.2,by rw[ap,O];rfl⟩)))
  .have e1:Me (wN d B) ⟨i.kind,i.pay.take 10,I,[]⟩ r' u e=wN d B:=by unfold Me;rw[Of G]
   rw[e1]at S w2;exact NO e G (hP.1 G).2 _ _ _ S w2
 ·
  obtain⟨cc,c1,c3,hl⟩:=bu (by rw[hk];decide);rw[hk,show qQ 6=3 from Z,show vD 6=4 from Z]at hl
  obtain⟨id,v,life,L,O⟩:∃id v life L,I=id::v::life::L:=by
   match I,hl with
   |id::v::life::L,_=>exact⟨id,v,life,L,rfl⟩
   | [],h=>simp at h;omega
   | [_],h=>simp at h;omega
   | [_,_],h=>simp at h;omega
  subst O;obtain⟨qs,a8,ce⟩:=Ry cc L (by simp only[zAm]at hl;omega);subst a8
  have hp:∀q∈qs,0<=q.j/\0<=q.p:=λq hq=>by
   obtain⟨m1,m2,_⟩:=Xq hq;exact⟨(hv q.j (by simp[m1])).1,(hv q.p (by simp[m2])).1⟩
  have C:=hv id zW;have s1:E<((wN d B).rg.tk.length:Int):=by rw[et];exact a3.2
  have q1:=P2 c (wN d B) (i.pay.take 10) id v life E f4 qs z.bd z.v a3.1 s1 zB hp n0 n1;have M:=oe c (wN d B) 6 (i.pay.take 10) id v life ((wN d B).rg.tk.getD E.toNat dd).cls f4 qs z.bd z.v zB hp n0 n1;by_cases G:Yb c (wN d B) ((wN d B).rg.tk.getD E.toNat dd).cls id v life f4 qs=0
  .have hi:=o9 z n0 n1 G;rw[G]at q1;rw[Os G,G]at M;have S:=CB c d s f4 i.kind i.pay _ _ V h1 W B E k3 (.inl hk) id _ Z _ GR;have w2:=Kq c (wN d B) s f4 (i.pay.take 10) E _ id _ Z a3.1 s1 _ 0 M;refine Y _ (jT i.kind id) (-1) hi ea en (.inr (.inr (.inr (.inr ⟨zB,id,C.1,C.2,rfl⟩)))) (.inl Z) (zAg _) (T0.of et eu) S ?_ Z (k7 (d:=wN d B) G);rw[hk];exact w2
  .rw[Of G]at M;have S:=CA c d s f4 i.kind i.pay _ _ V h1 W B E k3 (.inl hk) _ _ G GR;have w2:=Kq c (wN d B) s f4 (i.pay.take 10) E _ id _ Z a3.1 s1 _ _ M;exact NO _ G (by first|exact d7 _ _ _ _ _ _ _ _|exact p7 _ _ _ _) _ _ _ S (by rw[hk];exact w2)
 ·
  obtain⟨cc,c1,c3,hl⟩:=bu (by rw[hk];decide);rw[hk,show qQ 7=1 from Z,show vD 7=2 from Z]at hl
  obtain⟨id,L,O⟩:∃id L,I=id::L:=by
   match I,hl with
   |id::L,_=>exact⟨id,L,rfl⟩
   | [],h=>simp at h;omega
  subst O;obtain⟨ws,a8,ce⟩:=Qy cc L (by simp only[zAm]at hl;omega);subst a8;have C:=hv id zW;have q1:=U2 c (wN d B) (i.pay.take 10) id E f4 ws z.v zB n0 n1;have M:=S2 (wN d B) (i.pay.take 10) id f4 ws z.v zB n0 n1;by_cases G:dD (wN d B).rq id ws f4=0
  .have hi:=n9 z G;rw[G]at q1;rw[Os G,G]at M;have S:=CB c d s f4 i.kind i.pay _ _ V h1 W B E k3 (.inr (.inl hk)) id _ Z _ GR;have w2:=Jq c (wN d B) s f4 (i.pay.take 10) E _ id _ Z _ 0 M;refine Y _ (jT i.kind id) (-1) hi ea en (.inr (.inr (.inr (.inr ⟨zB,id,C.1,C.2,rfl⟩)))) (.inl Z) (zAg _) (T0.of et eu) S ?_ Z (j7 (d:=wN d B) G);rw[hk];exact w2
  .rw[Of G]at M;have S:=CA c d s f4 i.kind i.pay _ _ V h1 W B E k3 (.inr (.inl hk)) _ _ G GR;have w2:=Jq c (wN d B) s f4 (i.pay.take 10) E _ id _ Z _ _ M;exact NO _ G (by first|exact d7 _ _ _ _ _ _ _ _|exact p7 _ _ _ _) _ _ _ S (by rw[hk];exact w2)
 ·
  obtain⟨id,O⟩:=Nq (show (ln I)=1 by rw[ac GQ,hk];rfl);subst O;have C:=hv id zW;have q1:=O2 c (wN d B) (i.pay.take 10) id E f4 z.v;have M:=Z4 c (wN d B) s f4 (i.pay.take 10) E id _ _ (ni (wN d B).rq id z.v);by_cases G:jF (wN d B).rq id=true
  .have hi:=u7 z (λx=>x.id != id);rw[Os G,Os G]at q1;rw[Os G,Os G,Os Z]at M;have S:=CB c d s f4 i.kind i.pay _ _ V h1 W B E k3 (.inr (.inr hk)) id [] Z _ GR;refine Y _ (jT i.kind id) (-1) hi ea en (.inr (.inr (.inr (.inr ⟨zB,id,C.1,C.2,rfl⟩)))) (.inl Z) (zAg _) (T0.of et eu) S ?_ Z (TA.filter _ _);rw[hk];exact M
  .rw[Of G,Of G]at q1;rw[Of G,Of G,Of yX]at M;have S:=CA c d s f4 i.kind i.pay _ _ V h1 W B E k3 (.inr (.inr hk)) _ 12 yX GR;exact NO 12 yX yX _ _ _ S (by rw[hk];exact M)
 ·
  have av:I=[]:=zBa (by rw[ac GQ,hk];rfl);subst av;have A:=II hO (.inr zB);rw[ax]at A;rw[A]at z;have q1:=CD c d s f4 i.kind i.pay _ [] V h1 W B E k3 (.inr (.inl hk)) (OZ d) (by rw[A,hk];exact Ve d f4 R.bd);have M:=Ww c d s f4 (i.pay.take 10) E R.bd;rw[A]at q1;refine Y d _ _ z Z Z (.inr (.inl ⟨hk,rfl,rfl⟩)) (.inl Z) (zAg _) (Lb.refl _) q1 ?_ Z (TA.refl _);rw[A,hk];exact M
 ·
  obtain⟨a,O⟩:=Nq (show (ln I)=1 by rw[ac GQ,hk];rfl);subst O;have C:=hv a zW;by_cases ha:1<a
  .have S:=mw c d s f4 i.kind i.pay _ [a] V h1 W B E k3 hk a Z ha;have w2:=Yw c (wN d B) s f4 (i.pay.take 10) E a ha;exact NO 8 yX yX _ _ _ S (by rw[hk];exact w2)
  by_cases hs:0<=s/\s<(ln d.au:Int)
  case neg=>
   have S:=lw c d s f4 i.kind i.pay _ [a] V h1 W B E k3 hk a Z zB hs;have w2:=Xw c (wN d B) s f4 (i.pay.take 10) E a zB (by rw[eu];exact hs);refine Y _ (jT 10 a) (-1) z ea en (.inr (.inr (.inr (.inr ⟨zB,a,C.1,C.2,by rw[hk]⟩)))) (.inl Z) (zAg _) (T0.of et eu) S ?_ Z (TA.refl _);rw[hk];exact w2
  rw[hk]at W r2 k3 r3;have ba:qR c ⟨B,d.rq,d.dr,d.au.set s.toNat (a==1)⟩:=⟨z.b,z.v,z.q,z.lg,z.a,z.n,z.t8,z.br,z.bb,z.bl,by have:=z.au;dsimp only;rw[zBp];exact this,z.dn,z.dr,z.vh⟩;have S:=Uw c d s f4 i.pay (i.pay.take 10) a C.1 zB W B E k3 hs;have w2:=Tw c (wN d B) s f4 (i.pay.take 10) E a C.1 zB (by rw[eu];exact hs);have q1:=Y4 c d s f4 ⟨0,10,i.pay⟩ R.bd zB _ _ _ S;have M:=W4 c d s f4 R.bd 10 i.pay _ [a] yX yX r2 B E r3 _ ba.bd _ _ w2;have a6:B.num=d.rg.num:=en;rw[show(⟨B,d.rq,d.dr,d.au.set s.toNat (a==1)⟩:xP).rg.num=d.rg.num from a6]at q1;rw[<-hk,<-az]at q1 M;exact⟨⟨⟨B,d.rq,d.dr,d.au.set s.toNat (a==1)⟩,jT i.kind a,-1,0⟩,⟨q1,M⟩,ba,ea,en,λh=>absurd Z h,λ_=>⟨[a],hO,.inr (.inr (.inr (.inr ⟨zB,a,C.1,C.2,rfl⟩)))⟩,.inl Z,zAg _,λh=>absurd (o7 h hO) (λh9=>h9 hk),λ_=>by dsimp only;omega,λk hk'=>by show(d.au.set s.toNat (a==1))[k]? =_;rw[zE1 zB],TA.refl _⟩
 ·
  obtain⟨a,O⟩:=Nq (show (ln I)=1 by rw[ac GQ,hk];rfl);subst O;have C:=hv a zW;by_cases ha:a<(ln c.js:Int)
  .have S:=pw c d s f4 i.kind i.pay _ [a] V h1 W B E k3 hk a Z ha;have w2:=Zw c (wN d B) s f4 (i.pay.take 10) E a ha;refine Y _ (jT 11 a) a z ea en (.inr (.inr (.inr (.inr ⟨zB,a,C.1,C.2,by rw[hk]⟩)))) (.inr ⟨hk,C.1,ha⟩) (zAg _) (T0.of et eu) S ?_ Z (TA.refl _);rw[hk];exact w2
  .have S:=aw c d s f4 i.kind i.pay _ [a] V h1 W B E k3 hk a Z zB;have w2:=iw c (wN d B) s f4 (i.pay.take 10) E a zB;exact NO 8 yX yX _ _ _ S (by rw[hk];exact w2)
 ·
  have av:I=[]:=zBa (by rw[ac GQ,hk];rfl);subst av;have A:=II hO (.inr zB);rw[ax]at A;rw[A]at z;have cn:=R.a.q;have q1:=CD c d s f4 i.kind i.pay _ [] V h1 W B E k3 (.inr (.inr hk)) (ZP d) (by rw[A,hk];exact We d 12 f4 yX yX R.bd zB zB);have M:=sw c d s f4 (i.pay.take 10) E (Uv d R.bd zB zB);rw[A]at q1;refine Y d _ _ z Z Z (.inr (.inr (.inl ⟨hk,rfl,rfl⟩))) (.inl Z) (zAg _) (Lb.refl _) q1 ?_ Z (TA.refl _);rw[A,hk];exact M
theorem eh (d:Dk):∀i,∀j∈(IN d i).1,∃e,j=KG e
 |0=>λj hj=>by simp[IN]at hj
 |i+1=>λj hj=>by
  simp only[IN,zA5,zBf]at hj
  rcases hj with hj|hj
  .exact eh d i j hj
  .exact⟨_,hj⟩
def Vq (d:Dk) (r:Int):(JU d r).js=(IN (ad (dy d)) (W5 d)).1:=by rw[JU,zj]
def dh (d:Dk) (r:Int):(JU d r).ags=(PG (ad (zj d).2) r (K2 d)).1:=by rw[JU,J2]
def n7 (d:Dk) (u:Int):1<=(JU d u).js.length/\(JU d u).js.length<=2/\1<=(JU d u).ags.length/\(JU d u).ags.length<=3:=by
 have h1:=uK (dy d) 2 zB;have h2:=uK (zj d).2 3 zB;rw[Vq,dh,MX,aG];unfold W5 K2;omega
def m7 (d:Dk) (n r:Int) (u:0<=r/\r<=63):Hv (Rn d n r):=by
 have z:=uK d (3-1+1) zB;have w2:=uK (ad d) (3-1+1) zB;have A:=uK (ad (ad d)) 3 zB;have B:=uK (ad (ad (ad d))) 3 zB;have C:=uK (ad (ad (ad (ad d)))) (3-1+1) zB;have E:=uK (ad (ad (ad (ad (ad d))))) (2-1+1) zB;have G:=uK (ad (ad (ad (ad (ad (ad d)))))) (3-1+1) zB;have I:=uK (Hr d) 5 zB;unfold Rn;refine⟨by dsimp only;rw[aq];rfl,rfl,λx hx=>?_,u,by dsimp only;omega,by dsimp only;omega,by dsimp only;omega,by dsimp only;omega,by dsimp only;omega⟩;simp only[zBv,zEw,zFt]at hx
 rcases hx with rfl|rfl|rfl|rfl<;>omega
structure s9 (a:Ag) (n:Int):Prop where
 v:Hv a
 s:a.sec=Id (1000+n)
 q:1<=a.req/\a.req<=3
 b:1<=a.rate/\a.burst<=7
def r7 (d:Dk) (n r:Int) (u:0<=r/\r<=63):s9 (Rn d n r) n:=by
 have z:=uK (ad (ad (ad (ad d)))) (3-1+1) zB;have A:=uK (ad (ad (ad (ad (ad (ad d)))))) (3-1+1) zB;have B:=uK (Hr d) 5 zB;exact⟨m7 d n r u,rfl,by unfold Rn;dsimp only;omega,by unfold Rn;dsimp only;omega⟩
theorem Uq (d:Dk) (r:Int) (u:0<=r/\r<=63):∀i k,k<i->s9 ((PG d r i).1.getD k dd) k/\((PG d r i).1.getD k dd).rights=r
 |0,k,h=>by omega
 | i+1,k,h=>by
  rw[Mp,zAl];by_cases hk:k<i
  .rw[zBg (by rw[aG];exact hk),<-zAl];exact Uq d r u i k hk
  .obtain rfl:k=i:=by omega
   rw[zBc (by rw[aG];omega),aG,zCl];exact⟨r7 _ _ _ u,rfl⟩
def C3 (d:Dk) (r:Int) (u:0<=r/\r<=63) (k:Int) (z:0<=k) (h1:k<((JU d r).ags.length:Int)):s9 ((JU d r).ags.getD k.toNat dd) k/\((JU d r).ags.getD k.toNat dd).rights=r:=by
 rw[dh]at h1⊢;rw[aG]at h1;have:=Uq (ad (zj d).2) r u (K2 d) k.toNat zB;rw[show((k.toNat:Nat):Int)=k by omega]at this;exact this
def A3 {a:Ag} (hv:Hv a) (n:Int) (C:0<=n/\n<4):qR c (QX n a a.ses.toNat):=by
 have E:=hv.e;have G:=hv.q;have hb:=hv.b;have I:=hv.t;have hs:=B6 n a hv;have e1:(NT n a).ag=a:=rfl;have A:(NT n a).num=n:=rfl;have e3:(NT n a).tk.length=8:=by simp[NT,Cg]
 have B:(NT n a).vh=[]:=rfl;have u:(NT n a).bk=⟨a.burst,a.rate,a.burst⟩:=rfl;unfold QX;generalize hN:a.ses.toNat=N;generalize NT n a=r at *;constructor
 .exact hs
 .exact⟨λr z=>by simp at z,List.Pairwise.nil,zAr _⟩
 .dsimp only;rw[e1];simp only[zBh];omega
 .intro r z;simp at z
 .dsimp only;rw[e1];exact hv
 .dsimp only;rw[A];exact C
 .exact e3
 .dsimp only;rw[e1,u]
 .dsimp only;rw[e1,u]
 .dsimp only;rw[e1,u];exact⟨hb.1,zCn _⟩
 .dsimp only;rw[e1,zB6];omega
 .simp
 .intro x hx;simp at hx
 .dsimp only;rw[B];simp
def iy (n:Int) (a:Ag) (hv:Hv a):zO 33 [iA n,vX a] [] (zK (QX n a a.ses.toNat)) []/\zO 39 [iA n,vX a] [] (zK (QX n a a.ses.toNat)) []:=by
 have u:=hv.e;have h1:=hv.s;have h2:=hv.l;exact⟨V2 n a a.ses.toNat zB zB zB zB,Zv n a a.ses.toNat zB zB zB zB⟩
def s7 {l:List Tk} (h:GD l) (f4:Int):GD (WP l f4):=by
 refine⟨by unfold WP;rw[zAa,zBo];exact h.n,λt u=>?_⟩;unfold WP at u;rw[zB0]at u;obtain⟨j,hj,rfl⟩:=u;rw[zA3]at hj;unfold Tb;split
 .exact zAr _
 .rw[zAl,zA4 hj,zC1];exact h.s _ (zD9 _)
def VA (d:xP) (f4:Int):xP:=⟨S3 d.rg f4,IY d.rq f4,d.dr,d.au⟩
def i7 (h:qR c d) (f4:Int):qR c (VA d f4)/\(VA d f4).rg.ag=d.rg.ag/\(VA d f4).rg.num=d.rg.num:=by
 refine⟨?_,rfl,rfl⟩;have hl:=h.bl;have u:=h.br;have z:=h.bb;have E:=h.a.t;have B:=zBy (λx:Rq=>decide (f4<=x.til)) d.rq;have C:=h.q;refine⟨⟨s7 h.b.tk f4,h.b.s,h.b.l,h.b.v⟩,h.v.filter _,?_,λr u g A=>h.lg r (zD5.1 u).1 g A,h.a,h.n,?_,h.br,h.bb,?_,h.au,h.dn,h.dr,h.vh⟩
 .show((d.rq.filter _).length:Int)<=d.rg.ag.req
  omega
 .show(WP d.rg.tk f4).length=8
  unfold WP;rw[zAa,zBo,h.t8]
 .show 0<=min (d.rg.bk.level+d.rg.bk.rate) d.rg.bk.burst/\min (d.rg.bk.level+d.rg.bk.rate) d.rg.bk.burst<=d.rg.ag.burst
  omega
def Tq (h:qR c d) (f4:Int):zO 118 [zK d,iA f4] [] (zK (VA d f4)) []:=by
 have A:=ZN d h.bd;have hl:=h.bl;have C:=h.br;have z:=h.bb;have E:=h.a.t;have hb:=h.a.b;have u:=Ov d.rg f4 h.b zB;have B:=qn d.rq f4 h.v;unfold VA;generalize S3 d.rg f4=r,IY d.rq f4=q at *;unfold zK xC at *;unfold qD at u;refine eM Tryz.call118 λF hF=>?_
 exact ly (kC A u B)
def Sq (h:qR c d) (f4:Int):zO 155 [zK d,iA f4] [] (zK (VA d f4)) []:=by
 have A:=jE d h.bd;have hl:=h.bl;have C:=h.br;have z:=h.bb;have E:=h.a.t;have hb:=h.a.b;have u:=Fq d.rg f4 h.b h.t8 zB;have B:=ai d.rq f4 h.v;unfold VA;generalize S3 d.rg f4=r,IY d.rq f4=q at *;unfold zK xC at *;unfold qD at u;refine eM Tryz.call155 λF hF=>?_
 exact ly (kC A u B)
section
variable {P:Program} {K0:List Nat} {F:Fr K0} {m:Nat}
variable {ops:Array Oper} {rest:List Oper} {Q:List FP->St->Prop} {tm:List (Nat×AV)} {h:List (Nat×wB)} {fs fs':List FP} {TT:List TI} {ty:Nat} {pos:String} {after:Array Edge} {t:Nat}
end
theorem Qq:∀(f:Nat) (n:Int),0<=n->n<128 ^ (f+1)->BY (vd f n)
 |0,n,u,h1=>λx hx=>by
  rw[vd,zBf]at hx;subst hx;simp at h1;omega
 | f+1,n,u,h1=>λx hx=>by
  rw[vd]at hx;split at hx
  .rw[zBf]at hx;subst hx;omega
  .rcases zBv.1 hx with rfl|hx
   .omega
   .exact Qq f (n/128) zB (ud h1) x hx
theorem Oe {n:Int} (u:0<=n) (h1:n<=4294967295):BY (gN n):=Qq 4 n u zB
section
variable {P:Program} {TT:List TI} {st:St}
end
section
variable {P:Program} {TT:List TI} {K0:List Nat} {F:Fr K0} {m:Nat} {ops:Array Oper} {rest:List Oper} {Q:List FP->St->Prop} {tm:List (Nat×AV)} {h:List (Nat×wB)} {dr:Bool} {fs:List FP}
variable {ty:Nat} {pos:String} {after:Array Edge} {t:Nat}
end
section
variable (b:List Int) (a y k:Int) (hl:1<=ln b) (hn:ln b<=1000) (h0: -9223372036854775808<=y/\y<=9223372036854775807) (hk:a % (ln b:Int)=k)
include hl hn h0 hk
end
def Zy (I:Nat->α->Prop) (R:Nat->α->α->Prop) (h:∀i a,I i a->∃b,R i a b/\I (i+1) b) (a0:α) (A:I 0 a0):∃f:Nat->α,f 0=a0/\∀i,I i (f i)/\R i (f i) (f (i+1)):=by
 have u:∀i a,∃b,I i a->R i a b/\I (i+1) b:=λi a=>by
  by_cases hi:I i a
  all_goals grind
 let f:Nat->α:=λn=>Nat.rec a0 (λi a=>(u i a).choose) n
 have z:∀i,I i (f i):=λi=>by
  induction i with
  |zero=>exact A
  |succ i B=>exact((u i (f i)).choose_spec B).2
 exact⟨f,rfl,λi=>⟨z i,((u i (f i)).choose_spec (z i)).1⟩⟩
def Yy:Dk:=⟨[],0,zAr _,zAr _⟩
def XA [Inhabited α] (g:Nat->α->α) (l:List α) (i:Nat):List α:=(List.range (ln l)).map λj=>if j<i then g j (l.getD j dd)else l.getD j dd
theorem wR [Inhabited α] (g:Nat->α->α) (l:List α) (i:Nat):(XA g l i).length=ln l:=by simp[XA]
theorem vZ [Inhabited α] (g:Nat->α->α) (l:List α) (i j:Nat):(XA g l i)[j]? =if j<ln l then some (if j<i then g j (l.getD j dd)else l.getD j dd)else none:=by grind [XA]
def qP [Inhabited α] (g:Nat->α->α) (l:List α):XA g l 0=l:=by apply zBb<;>grind [XA,vZ,oj,List.getElem?_eq_none]
def zw [Inhabited α] (g:Nat->α->α) (l:List α) (i:Nat) (hi:i<ln l):XA g l (i+1)=(XA g l i).set i (g i (l.getD i dd)):=by
 apply zBb
 grind [XA]
def vI [Inhabited α] (f:α->AV) (g:Nat->α->α) (l:List α) (i:Nat) (hi:i<ln l):(XA g l (i+1)).map f=((XA g l i).map f).set i (f (g i (l.getD i dd))):=by
 rw[zw g l i hi,zBs]
structure In where
 opn:Bool
 its:List It
instance:Inhabited In:=⟨⟨false,[]⟩⟩
instance:Inhabited It:=⟨⟨0,0,[]⟩⟩
def qL (i:In):AV:= .agg [bA i.opn,zD wK i.its]
structure En where
 ag:Int
 ki:Int
 co:Int
def kW (e:En):AV:=MZ e.ag e.ki e.co
structure TS where
 d:xP
 rs:List Ms
 en:List En
 ks:List Int
structure SS where
 d:xP
 R:List (List Ms)
 en:List En
 ks:List Int
def jO (l:List Ms):AV:=zD yC l
def Xy (i:In):Prop:=ln i.its<=1000/\∀x∈i.its,BY x.pay/\x.pay.length<=100000
def Z7 (c:Cf) (s f4:Int) (i:It) (a b:TS):Prop:=∃h:Hd,OL c a.d s i f4 h/\Py c a.d s i f4 h/\b=⟨h.d,a.rs++[h.p],a.en++[⟨a.d.rg.num,i.kind,h.e⟩],if 0<=h.k then a.ks++[h.k]else a.ks⟩
structure CT (c:Cf) (d0 d:xP):Prop where
 i:qR c d
 n:d.rg.num=d0.rg.num
 a:d.rg.ag=d0.rg.ag
 t:Lb d0 d
theorem CT.refl (h:qR c d):CT c d d:=⟨h,rfl,rfl,Lb.refl d⟩
theorem CT.trans {a b:xP} (h1:CT c a b) (h2:CT c b d):CT c a d:=⟨h2.i,h2.n.trans h1.n,h2.a.trans h1.a,h1.t.trans h2.t⟩
def v4 (c:Cf) (s f4:Int) (R:0<=f4) (S:f4<=1073741824) (u:List It) (M:∀x∈u,BY x.pay/\x.pay.length<=100000) (st:TS) (L:qR c st.d):
  ∃f:Nat->TS,f 0=st/\∀k,CT c st.d (f k).d/\((f k).rs.length=ln st.rs+k/\(f k).en.length=ln st.en+k/\(f k).ks.length<=ln st.ks+k/\((∀x∈st.ks,0<=x/\x<(ln c.js:Int))->∀x∈(f k).ks,0<=x/\x<(ln c.js:Int)))/\(k<ln u->Z7 c s f4 (u.getD k dd) (f k) (f (k+1))):=by
 have hx:∀k,BY (u.getD k dd).pay/\(u.getD k dd).pay.length<=100000:=λk=>by
  by_cases hk:k<ln u
  .grind
  .rw[zAl,zB2 zB]
   show BY ([]:List Int)/\([]:List Int).length<=100000
   grind [BY,Z7]
 obtain⟨f,G,C⟩:=Zy (λk (a:TS)=>CT c st.d a.d/\(ln a.rs=ln st.rs+k/\a.en.length=ln st.en+k/\a.ks.length<=ln st.ks+k/\((∀x∈st.ks,0<=x/\x<(ln c.js:Int))->∀x∈a.ks,0<=x/\x<(ln c.js:Int)))) (λk a b=>Z7 c s f4 (u.getD k dd) a b)
  (λk a B=>by
   obtain⟨B,h1,h2,U,E⟩:=B;obtain⟨h,I,z⟩:=mj c a.d B.i s f4 R S _ (hx k).1 (hx k).2;refine⟨_,⟨h,I,z,rfl⟩,B.trans ⟨z.inv,z.num,z.ag,z.t0⟩,?_,?_,?_,λA x hx=>?_⟩
   .dsimp only;rw[zAh,zCi];omega
   .dsimp only;rw[zAh,zCi];omega
   .dsimp only;split
    .rw[zAh,zCi];omega
    .omega
   .dsimp only at hx;split at hx
    .rename_i O
     rcases zA5.1 hx with hx|hx
     .exact E A x hx
     .rw[zBf]at hx;subst hx
      rcases z.rst with h9|⟨_,h8,h9⟩
      .omega
      .exact⟨h8,h9⟩
    .exact E A x hx)
  st ⟨CT.refl L,zB,zB,zB,id⟩
 exact⟨f,G,λk=>⟨(C k).1.1,(C k).1.2,λ_=>(C k).2⟩⟩
def cQ (u:List In) (s:Nat):List It:=if s<ln u/\(u.getD s dd).opn=true then(u.getD s dd).its else []
def V5 (c:Cf) (f4:Int) (u:List In) (s:Nat) (a b:SS):Prop:=∃f:Nat->TS,f 0=⟨a.d,[],a.en,a.ks⟩/\(∀k,k<(cQ u s).length->Z7 c (s:Int) f4 ((cQ u s).getD k dd) (f k) (f (k+1)))/\(∀k,CT c a.d (f k).d/\(f k).rs.length=k/\(f k).en.length=ln a.en+k/\(f k).ks.length<=ln a.ks+k)/\
 b=⟨(f (cQ u s).length).d,a.R++[(f (cQ u s).length).rs],(f (cQ u s).length).en,(f (cQ u s).length).ks⟩
def FB {u:List In} (h:∀i∈u,Xy i) (s:Nat):(cQ u s).length<=1000/\∀x∈cQ u s,BY x.pay/\x.pay.length<=100000:=by
 unfold cQ;split
 .grind [Xy,cQ,BY,List.getElem?_eq_getElem,List.getElem_mem]
 all_goals grind
def yw (c:Cf) (f4:Int) (L:0<=f4) (M:f4<=1073741824) (u:List In) (B:∀i∈u,Xy i) (d:xP) (I:qR c d):
  ∃F:Nat->SS,F 0=⟨d,[],[],[]⟩/\∀s,CT c d (F s).d/\((F s).R.length=s/\(F s).en.length<=1000*s/\(F s).ks.length<=1000*s/\∀x∈(F s).ks,0<=x/\x<(ln c.js:Int))/\V5 c f4 u s (F s) (F (s+1)):=by
 obtain⟨F,E,hF⟩:=Zy (λs (a:SS)=>CT c d a.d/\(ln a.R=s/\a.en.length<=1000*s/\a.ks.length<=1000*s/\∀x∈a.ks,0<=x/\x<(ln c.js:Int))) (λs a b=>V5 c f4 u s a b)
  (λs a A=>by
   obtain⟨A,h1,h2,O,G⟩:=A;obtain⟨hl,hb⟩:=FB B s;obtain⟨f,C,z⟩:=v4 c (s:Int) f4 L M (cQ u s) hb ⟨a.d,[],a.en,a.ks⟩ A.i;have hL:=z (cQ u s).length;refine⟨_,⟨f,C,λk hk=>(z k).2.2 hk,λk=>⟨(z k).1,by have:=(z k).2.1.1;simpa using this,(z k).2.1.2.1,(z k).2.1.2.2.1⟩,rfl⟩,A.trans hL.1,?_,?_,?_,hL.2.1.2.2.2 G⟩
   .dsimp only;rw[zAh,zCi];omega
   .have:=hL.2.1.2.1;dsimp only at *;omega
   .have:=hL.2.1.2.2.1;dsimp only at *;omega)
  ⟨d,[],[],[]⟩ ⟨CT.refl I,rfl,zAr _,zAr _,λx hx=>by cases hx⟩
 exact⟨F,E,λs=>⟨(hF s).1.1,(hF s).1.2,(hF s).2⟩⟩
def NV (u:List In) (s:Nat) (b:Bool):Bool:=if s<ln u/\(u.getD s dd).opn=true then b else false
def Br (u:List In) (l:List Bool):List Bool:=XA (NV u) l (ln l)
def Wy (d:xP) (u:List In):xP:=⟨d.rg,d.rq,d.dr,Br u d.au⟩
def Y7 (h:qR c d) (u:List In):qR c (Wy d u):=
 ⟨h.b,h.v,h.q,h.lg,h.a,h.n,h.t8,h.br,h.bb,h.bl,by show((Br u d.au).length:Int)=_;unfold Br;rw[wR];exact h.au,h.dn,h.dr,h.vh⟩
def xw (d:xP) (f4:Int):xP:=⟨d.rg,CS d.rq f4,d.dr,d.au⟩
def X7 (h:qR c d) (f4:Int) (u:0<=f4) (z:f4<=1073741824):qR c (xw d f4):=by
 refine⟨h.b,G6 h.v f4 u z,?_,λr B g A=>?_,h.a,h.n,h.t8,h.br,h.bb,h.bl,h.au,h.dn,h.dr,h.vh⟩
 .show((CS d.rq f4).length:Int)<=_
  unfold CS;rw[zAa];exact h.q
 .obtain⟨x,hx,rfl⟩:=zB0.1 B;obtain⟨y,C,rfl⟩:=zB0.1 A;obtain⟨e1,E,_⟩:=up y f4 u z;have:=h.lg x hx y C
  grind
def VB (x:xP):List AV:=[iA x.rg.num,zD yA x.rg.ag.sec,iA x.rg.ag.rights,iA x.rg.ag.cls,zD iA x.rg.ag.lim,iA x.rg.ag.req,iA x.rg.ag.ses,iA x.rg.ag.rate,iA x.rg.ag.burst,zD yP x.rg.tk,zD vE x.rg.vh,iA x.rg.bk.level,iA x.rg.bk.rate,iA x.rg.bk.burst,zD zX x.rq,zD vW x.dr,zD bA x.au]
def ww (d:xP) (R:List (List Ms)) (E:List En) (K:List Int):AV:= .tup [zK d,zD jO R,zD kW E,zD iA K]
def eO {i:Nat} {y:AV} (h:xs[i]? =some y):xs.set i y=xs:=by
 apply zBb;intro j;rw[zDk];by_cases u:i=j
 .subst u;have hi:=(zAz.1 h).1;rw[Os Z,Os hi,h]
 .rw[Of u]
def W7 (g:Nat->Bool->Bool) (l:List Bool) (k:Nat):nm (l.map bA).length (ny 0 ((XA g l k).map bA))=(XA g l k).map bA:=by
 rw[zAu];exact zAj (by rw[zAa,zAa,wR];exact zAg _)
def Pq {g:Nat->Bool->Bool} {l:List Bool} {k n:Nat} (h:ln l=n):List.take n (List.drop 0 ((XA g l k).map bA))=(XA g l k).map bA:=by
 rw[zAu];exact zAj (by rw[zAa,wR,h];exact zAg _)
theorem uw (hI:qR c d) (u:List In) (bs:ln u<=1000) (a4:∀i∈u,Xy i) (f4:Int) (n0:0<=f4) (n1:f4<=1073741824) (z:Nat->SS) (ap:z 0=⟨Wy d u,[],[],[]⟩)
 (hz:∀s,CT c (Wy d u) (z s).d/\((z s).R.length=s/\(z s).en.length<=1000*s/\(z s).ks.length<=1000*s/\∀x∈(z s).ks,0<=x/\x<(ln c.js:Int))/\V5 c f4 u s (z s) (z (s+1))):
  zO 156 [wO c,zK d,zD qL u,iA f4] [] (ww (xw (z (ln d.au)).d f4) (z (ln d.au)).R (z (ln d.au)).en (z (ln d.au)).ks) []:=by
 have br:1<=ln d.au/\d.au.length<=2:=by have:=hI.au;have:=hI.a.e;omega
 have kc:=IH d hI.bd;have bl:=zA bA d.au;have a9:=zA qL u;have km:=zv (z (ln d.au)).d.rq f4 (hz (ln d.au)).1.i.v;have Y:wO c= .agg [.sl false (c.js.map wD),.sl false (c.ags.map vX),iA c.per,iA c.cap,iA c.hold,iA c.lock]:=rfl;have bf:∀d:xP,zK d= .agg (VB d):=λ_=>rfl
 rw[Y];unfold UO zK xC at kc;have e0:=qP (NV u) d.au;refine eM Tryz.call156 λF hF=>?_
 refine zQ kc ?_;refine zN (ln d.au) [1004,4,5,8,12] [4,5,8,12] [2,3,4,5,8,12,13,14,15,29] [30,2,3,4,5,8,12,13,14,15,29] Z (λi T U=>⟨(30,iA i)::T,(1004,.arr 1 ((XA (NV u) d.au i).map bA) false)::U⟩) ?_;(conv=>whnf);refine⟨by(rw[e0];rfl),?_,?_⟩
 .intro i hi;have a7:((XA (NV u) d.au i).map bA)[i]? =some (bA (d.au.getD i dd)):=by rw[zAi,vZ,Os hi,Of (zC5 i)];rfl
  have ce:((XA (NV u) d.au i).map bA).length=ln d.au:=by rw[zAa,wR]
  rw[vI bA (NV u) d.au i hi];have V:=eO a7;generalize (XA (NV u) d.au i).map bA=xs,d.au.getD i dd=b9 at *;unfold NV;by_cases h1:i<ln u
  .have hy:=zJ qL u i h1;generalize u.getD i dd=x at *;obtain⟨op,A⟩:=x;rw[show qL ⟨op,A⟩= .agg [bA op,zD wK A]from Z]at hy;cases op
   .rw[Of (λh=>by cases h.2)];refine WW ?_;rfl
   .rw[Os ⟨h1,rfl⟩,V];refine WW ?_;rfl
  .rw[Of (λh=>h1 h.1)];refine WW ?_;rfl
 ·(refine WW ?_)
  refine wJ [4,8,12] [2,3,4,8,12,13,14,15,52,53] Z ?_
  (conv=>whnf)
  rw[W7];refine zS 13 1001 1 Z Z Z ?_;refine zS 14 1002 3 Z Z Z ?_;refine zS 15 1003 1 Z Z Z ?_;refine zN (ln d.au) [12,1001,1002,1003,4,8] [4,8] [2,3,4,8,12,52] [13,14,15,53,2,3,4,8,12,52] Z (λi T U=>⟨(13,.ref 1001 0 ((z i).R.map jO).length)::(14,.ref 1002 0 ((z i).en.map kW).length)::(15,.ref 1003 0 ((z i).ks.map iA).length)::(53,iA i)::T,(12,.box (VB (z i).d))::(1001,.arr 1 ((z i).R.map jO) true)::(1002,.arr 3 ((z i).en.map kW) true)::(1003,.arr 1 ((z i).ks.map iA) true)::U⟩) ?_;(conv=>whnf);refine⟨by(rw[ap];rfl),?_,?_⟩
  .intro s hs;obtain⟨hT,⟨az,a1,a2,_⟩,B,L,G,E,C⟩:=hz s;have b7:(z s).R.length<=2:=by omega
   have ba:(z s).en.length<=2000:=by omega
   have bb:(z s).ks.length<=2000:=by omega
   rw[C];dsimp only;clear ap hz km kc az a1 a2;have b3:=zA jO (z s).R;have b4:=zA kW (z s).en;have b5:=zA iA (z s).ks;by_cases O:s<ln u/\(u.getD s dd).opn=true
   .have I:cQ u s=(u.getD s dd).its:=by unfold cQ;rw[Os O]
    have a3:=(FB a4 s).1;rw[I]at G a3⊢;have hy:=zJ qL u s O.1;obtain⟨cd,a5⟩:=O;generalize u.getD s dd=x at *;obtain⟨op,A⟩:=x;dsimp only at *;subst a5;rw[show qL ⟨true,A⟩= .agg [bA true,zD wK A]from Z]at hy;have a8:=zA wK A;have M:∀y:List Ms,((z s).R++[y]).map jO=(z s).R.map jO++[jO y]:=λy=>by simp
    rw[M];clear M C I
    (repeat' (first|refine P8 ?_|apply yZ|apply xM|intro hc|(apply zG;first|refine SM ?_)|fail))
    apply xE
    (repeat' (first|refine Xu ?_|apply yZ|apply xM|intro hc|(apply zG;first|refine SM ?_)|fail))
    refine zS 18 1006 4 Z Z Z ?_;refine WW ?_;refine zU (A) [12,1002,1003,1006,4,8,1001] [4,8,1001] [2,3,4,8,12,13,17,52,53,71,72] [14,15,18,73,2,3,4,8,12,13,17,52,53,71,72] Z (λi ga T U=>⟨(14,.ref 1002 0 ((B i).en.map kW).length)::(15,.ref 1003 0 ((B i).ks.map iA).length)::(18,.ref 1006 0 ((B i).rs.map yC).length)::(73,iA i)::T,(12,.box (VB (B i).d))::(1002,.arr 3 ((B i).en.map kW) true)::(1003,.arr 1 ((B i).ks.map iA) true)::(1006,.arr 4 ((B i).rs.map yC) true)::U⟩) ?_;(conv=>whnf);refine⟨by(rw[L];rfl),?_,?_⟩
    .intro k ga it post hx hk;have a6:=yI wK hx hk;have ag:=zV hx hk;have S:A.getD k dd=it:=by rw[hx,<-hk];simp[oj]
     obtain⟨h,hB,hP,C⟩:=G k ag;rw[S]at hB;obtain⟨bu,bx,b0,b1⟩:=E k;have ca:=zA kW (B k).en;have cb:=zA iA (B k).ks;have cc:=zA yC (B k).rs;have W:=hB.2.1;rw[C];dsimp only;rw[show((B k).rs++[h.p]).map yC=(B k).rs.map yC++[yC h.p] by simp,show∀e:En,((B k).en++[e]).map kW=(B k).en.map kW++[kW e]from λe=>by simp,S];rw[Y]at W;unfold CW zK xC wK at W;unfold wK at a6;clear hx S C G E hB hP hT;generalize (B k).rs.map yC=cf,(B k).en.map kW=ax,h.p=p9,h.e=e9,h.d=d9 at *;generalize b2:h.k=k9 at *;generalize (B k).d=av at *;obtain⟨pk,pt,pa,pd⟩:=p9;unfold yC MZ at W;dsimp only at W;unfold VB kW MZ yC;by_cases h0:0<=k9
     .rw[Os h0,show((B k).ks++[k9]).map iA=(B k).ks.map iA++[iA k9] by simp];generalize (B k).ks.map iA=ar at *;refine zQ W ?_;rfl
     .rw[Of h0];generalize (B k).ks.map iA=ar at *;refine zQ W ?_;rfl
    ·(repeat' (first|refine Xu ?_|apply yZ|apply xM|intro hc|(apply zG;first|refine SM ?_)|fail))
     refine wJ [4,8,12,1001,1002,1003] [2,3,4,8,12,13,14,15,18,52,53,74] Z ?_
     (conv=>whnf)
     simp only[zAu,zAb];have b6:((B (ln A)).rs.map yC).length<=2000:=by rw[zAa];have:=(E (ln A)).2.1;omega
     rw[show jO (B (ln A)).rs= .sl false ((B (ln A)).rs.map yC)from Z];clear G E hT L;generalize B (ln A)=zl at *;refine WW ?_;rfl
   .have I:cQ u s=[]:=by unfold cQ;rw[Of O]
    rw[I,zBh,L];dsimp only;have ac:((z s).R++[([]:List Ms)]).map jO=(z s).R.map jO++[jO []]:=by rw[zAf];rfl
    rw[ac];clear I G E L C hT ac;generalize (z s).R.map jO=r9,(z s).en.map kW=ax,(z s).ks.map iA=ar,(z s).d=av at *;unfold VB;by_cases h1:s<ln u
    .have hy:=zJ qL u s h1
     have O:(u.getD s dd).opn=false:=by
      cases h:(u.getD s dd).opn with
      |false=>rfl
      |true=>exact absurd ⟨h1,h⟩ O
     generalize u.getD s dd=x at *;obtain⟨op,A⟩:=x;dsimp only at O;subst O;rw[show qL ⟨false,A⟩= .agg [bA false,zD wK A]from Z]at hy
     (repeat' (first|refine P8 ?_|apply yZ|apply xM|intro hc|(apply zG;first|refine SM ?_)|fail))
     apply xE
     (repeat' (first|refine Xu ?_|apply yZ|apply xM|intro hc|(apply zG;first|refine SM ?_)|fail))
     refine jo 18 Z Z Z ?_;refine WW ?_;rfl
    ·(repeat' (first|refine P8 ?_|apply yZ|apply xM|intro hc|(apply zG;first|refine SM ?_)|fail))
     apply xE
     (repeat' (first|refine Xu ?_|apply yZ|apply xM|intro hc|(apply zG;first|refine SM ?_)|fail))
     refine jo 18 Z Z Z ?_;refine WW ?_;rfl
  .generalize bk:z (ln d.au)=Fn at *;unfold VB;refine zQ km ?_;refine zH [] Z Z ?_ Z
   show AV.tup [zK (xw Fn.d f4),.sl false (nm _ (ny 0 (Fn.R.map jO))),.sl false (nm _ (ny 0 (Fn.en.map kW))),.sl false (nm _ (ny 0 (Fn.ks.map iA)))]=_
   simp only[zAu,zAb];rfl
section
variable {P:Program} {K0:List Nat} {F:Fr K0} {m:Nat} {tm:List (Nat×AV)} {h:List (Nat×wB)}
theorem wT.recell {a:Act} {w:World} (R:wT F m ⟨tm,h⟩ a w) (k i K:Nat) {ys:List AV} {L:Bool} {W:Nat} {O:Fl} (hk:zE h k=some (.arr 1 xs ⟨L,true⟩)) (hv:xs[i]? =some (.s (.slice none 0 0))) (hK:zE h K=some (.arr W ys O)) (ap:K≠k):
  wT F m ⟨tm,(k,.arr 1 (xs.set i (.ref K 0 0)) ⟨L,true⟩)::h⟩ a w:=by
 obtain⟨⟨X,β,hX,H,Ht,C,hJ,hD⟩,nd,gs,hl⟩:=R;have u:∀j,j≠k->zE ((k,.arr 1 (xs.set i (.ref K 0 0)) ⟨L,true⟩)::h) j=zE h j:=λj hj=>by rw[xN,Of hj]
 have I:zE ((k,.arr 1 (xs.set i (.ref K 0 0)) ⟨L,true⟩)::h) k=some (.arr 1 (xs.set i (.ref K 0 0)) ⟨L,true⟩):=by rw[xN,Os Z]
 have A:(xs.set i (.ref K 0 0)).length=ln xs:=zBp
 have E:CR w (xX X β) (zE h) β w (xX X β) (zE ((k,.arr 1 (xs.set i (.ref K 0 0)) ⟨L,true⟩)::h)) β:=⟨zAg _,λb _ hd=>⟨rfl,hd⟩,λ_ _ _ _=>rfl,λj e B=>by
  by_cases hj:j=k
  .subst hj;rw[hk]at B;cases B;exact .inr ⟨⟨xs.set i (.ref K 0 0),⟨L,true⟩,I,by rw[A];exact zAg _⟩,λb n hm=>⟨n,zAg _,hm⟩⟩
  .have:=jS (zE h) β j e B
   rcases this with h1|h1
   .exact .inl (by rw[u j hj];exact h1)
   .refine .inr ?_
    cases e with
    |dead=>exact h1
    |box cs=>obtain⟨⟨z,h2⟩,G⟩:=h1;exact⟨⟨z,by rw[u j hj];exact h2⟩,G⟩
    |obj cs=>obtain⟨⟨z,h2⟩,G⟩:=h1;exact⟨⟨z,by rw[u j hj];exact h2⟩,G⟩
    |arr V Y st'=>obtain⟨⟨x2,s2,h2,G⟩,h4⟩:=h1;exact⟨⟨x2,s2,by rw[u j hj];exact h2,G⟩,h4⟩⟩
 have H':gW X (zE ((k,.arr 1 (xs.set i (.ref K 0 0)) ⟨L,true⟩)::h)) β w:=by
  refine⟨λj e B=>?_,λj hj=>?_,H.disj,H.free,H.lt⟩
  .by_cases hj:j=k
   .subst hj;rw[I]at B;cases B;obtain⟨e1,e2,e3,e4,e5,f,e6,e7,e8⟩:=H.ent j _ hk;refine⟨e1,by rw[A];exact e2,λhx=>e3 λh0=>hx (by rw[h0];rfl),λS x hx=>?_,λb n r hr=>by rw[A];exact e5 b n r hr,f,λS x l v hx M=>⟨?_,λh=>by cases h⟩,λS j' h1 h2=>e7 S j' (by rw[<-A];exact h1) h2,e8⟩
    .rw[zDk]at hx;split at hx
     .split at hx
      .cases hx;rfl
      .cases hx
     .exact e4 S x hx
    .rw [zDk]at hx;split at hx
     .rename_i ag;subst ag;split at hx
      .cases hx
       cases l with
       |zero=>
        have ar:v= .ref K 0 0:=by simpa [AV.cells]using M.symm
        subst ar;have h6:=e6.toV i _ 0 _ hv Z;rw[h6.s_inv];exact .ref0 K 0 W ys O none (by rw[u K ap];exact hK) (zAr _)
       |succ l=>simp[AV.cells]at M
      .cases hx
     .exact(e6.toV S x l v hx M).evo E
   .rw[u j hj]at B;exact(H.ent j e B).evo E Z λ_ _ _=>rfl
  .rw[xN]at hj;split at hj
   .cases hj
   .exact H.off j hj
 refine⟨⟨X,β,hX,H',λt=>(Ht t).evo E,⟨λj e B=>?_,C.size,C.keep,C.own,C.pas,C.bs,C.os,C.tape,C.output⟩,hJ,hD⟩,λj=>?_,gs,hl⟩
 .have:=C.knd j e B;by_cases hj:j=k
  .subst hj
   cases e with
   |dead=>exact this
   |box cs=>obtain⟨z,h2⟩:=this;(try dsimp only at h2);rw[hk]at h2;cases h2
   |obj cs=>obtain⟨z,h2⟩:=this;(try dsimp only at h2);rw[hk]at h2;cases h2
   |arr V Y au=>obtain⟨ac,U,h2,G⟩:=this;(try dsimp only at h2);rw[hk]at h2;cases h2;exact⟨_,_,I,by rw[A];exact G⟩
  .cases e with
   |dead=>exact this
   |box cs=>obtain⟨z,h2⟩:=this;exact⟨z,by dsimp only;rw[u j hj];exact h2⟩
   |obj cs=>obtain⟨z,h2⟩:=this;exact⟨z,by dsimp only;rw[u j hj];exact h2⟩
   |arr V Y au=>obtain⟨ac,U,h2,G⟩:=this;exact⟨ac,U,by dsimp only;rw[u j hj];exact h2,G⟩
 .dsimp only;by_cases hj:j=k
  .subst hj;rw[I];intro hd;cases hd
  .rw[u j hj];exact nd j
def SP {c:Code} {Q:Exit->St->Prop} (k i K:Nat) {z ys:List AV} {C:Bool} {B:Nat} {A:Fl} (hk:zE h k=some (.arr 1 xs ⟨C,true⟩)) (hv:xs[i]? =some (.s (.slice none 0 0))) (E:zE h K=some (.arr B ys A)) (u:Nat.beq K k=false) (G:xs.set i (.ref K 0 0)=z)
 (hs:uR P F m c ⟨tm,(k,.arr 1 z ⟨C,true⟩)::h⟩ Q):uR P F m c ⟨tm,h⟩ Q:=
 ⟨λa w R=>hs.run a w (G▸R.recell k i K hk hv E (λe=>by rw[e,Nat.beq_refl]at u;cases u))⟩
end
