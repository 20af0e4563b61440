/- Part 21. -/
import Derived.Test.YteajjdidebfcjaaGreatN20
namespace Go.Proofs.YteajjdidebfcjaaGreat
namespace Av
open Tryz
set_option linter.all false
set_option maxRecDepth 4000
set_option maxHeartbeats 4000000
theorem zNu:∀{qs:List Qd} {q:Qd},q∈qs->q.j∈YF qs/\q.p∈YF qs/\q.f∈YF qs/\q.t∈YF qs
 |x::l,q,h=>by
  rw[show YF (x::l)=x.j::x.p::x.f::x.t::YF l from Z]
  rcases yCk.1 h with rfl|h
  ·simp
  ·obtain⟨h1,h2,h3,h4⟩:=zNu h;simp[h1,h2,h3,h4]
theorem zB7 {α β γ:Type} {f:α->β->γ}:∀{a:List α} {b:List β} {g:γ},g∈a.zipWith f b->∃x∈a,∃y,g=f x y
 |x::a,y::b,g,h=>by
  rw[yEu]at h
  rcases yCk.1 h with rfl|h
  ·exact⟨x,by simp,y,rfl⟩
  ·obtain⟨z,hz,w,e⟩:=zB7 h;exact⟨z,by simp[hz],w,e⟩
 | [],_,_,h=>by simp at h
 |_::_,[],_,h=>by simp at h
def zNv (l:List Rq) (r:Rq):(bQ l r).length=l.length+1:=by
 have:=IW l r.id;unfold bQ;rw[yBf,yBp,yB4,yCj];omega
def zXj {j p f t now:Int} (h:mwB j p f t now=true):(mwF j p f t now).jn=j/\(mwF j p f t now).ph=p:=by
 unfold mwF;rw[yBd h];exact⟨rfl,rfl⟩
def zZs {c:Cf} {now:Int} {qs:List Qd} (h:qs.all (NF c now)=true):∀g∈qs.map (GO now),g.jn<(c.js.length:Int)/\g.ph<((c.js.getD g.jn.toNat default).ph.length:Int):=by
 intro g hg;rw[yCc]at hg;obtain⟨q,hq,rfl⟩:=hg;have h1:=yBr.1 h q hq;unfold NF at h1;simp only[yBq,yBi]at h1;obtain⟨h2,h3,h4⟩:=h1;obtain⟨e1,e2⟩:=zXj h4;unfold GO;rw[e1,e2];exact⟨h2,h3⟩
def yA2 {l:List Rq} {q id life:Int} {x:List Lg} (h:suE l q id life x=0):(l.length:Int)<q/\(l.length:Int)<4:=by
 unfold suE at h;split at h
 ·omega
 ·split at h
  ·omega
  ·split at h
   ·omega
   ·omega
def zZt {c:Cf} {d:xH} {cls id v life now:Int} {qs:List Qd} (h:dsE c d cls id v life now qs=0):zNg (cR d.rg.vh v)=true/\qs.all (NF c now)=true/\suE d.rq d.rg.ag.req id life (qs.map (GO now))=0:=by
 unfold dsE sxE at h;split at h
 ·split at h
  ·omega
  ·split at h
   ·rename_i ha;split at h
    ·split at h
     ·rename_i hv;exact⟨hv,ha,h⟩
     ·omega
    ·omega
   ·omega
 ·omega
def yA3 {c:Cf} {d:xH} (hI:uW c d) {cls id v life now:Int} {qs:List Qd} (n0:0<=now) (n1:now<=1073741824) (h:dsE c d cls id v life now qs=0):uW c (dkQ d (dsL c d cls id v life now qs)):=by
 obtain⟨hv,ha,hs⟩:=zZt h;unfold zNg at hv;rw[yBi]at hv;have hl:=yA2 hs;unfold dkQ dsL;rw[yBd h];refine⟨hI.b,zW7 hI.v hs hv.1.1 hv.1.2 hv.2.1 hv.2.2 n0 n1,?_,λr hr g hg=>?_,hI.a,hI.n,hI.t8,hI.br,hI.bb,hI.bl,hI.au,hI.dn,hI.dr,hI.vh⟩
 ·dsimp only;rw[zNv];omega
 ·rcases NB hr with rfl|hr
  ·exact zZs ha g hg
  ·exact hI.lg r hr g hg
def yA4 {c:Cf} {d:xH} (hI:uW c d) {id now:Int} {ws:List (Int×Int)} (h:cW d.rq id ws now=0):uW c (dkQ d (upQ d.rq id ws now)):=by
 unfold dkQ upQ;rw[yBd h];have hl:(MG d.rq id ws now).length=d.rq.length:=by unfold MG;rw[yBe]
 refine⟨hI.b,zW9 hI.v h,?_,λr hr g hg=>?_,hI.a,hI.n,hI.t8,hI.br,hI.bb,hI.bl,hI.au,hI.dn,hI.dr,hI.vh⟩
 ·dsimp only;rw[hl];exact hI.q
 ·dsimp only at hr;unfold MG at hr;rw[yCc]at hr;obtain⟨r0,hr0,rfl⟩:=hr;split at hg
  ·obtain⟨x,hx,y,rfl⟩:=zB7 hg;exact hI.lg r0 hr0 x hx
  ·exact hI.lg r0 hr0 g hg
def zZu {c:Cf} {d:xH} (hI:uW c d) (p:Rq->Bool):uW c (dkQ d (d.rq.filter p)):=by
 have hl:=yDr p d.rq;have hq:=hI.q;refine⟨hI.b,hI.v.filter p,?_,λr hr g hg=>hI.lg r ((yEd.1 hr).1) g hg,hI.a,hI.n,hI.t8,hI.br,hI.bb,hI.bl,hI.au,hI.dn,hI.dr,hI.vh⟩
 show((d.rq.filter p).length:Int)<=d.rg.ag.req
 omega
def zZv {c:Cf} {d:xH} {cls id v life now:Int} {qs:List Qd} (h:dsE c d cls id v life now qs=0):YR d.rq (dsL c d cls id v life now qs):=by
 unfold dsL;rw[yBd h];intro r hr g hg
 rcases NB hr with rfl|hr
 ·refine .inl ?_;obtain⟨q,hq,rfl⟩:=yCc.1 hg;have h1:=yBr.1 (zZt h).2.1 q hq;unfold NF at h1;simp only[yBq,yBi]at h1;unfold GO mwF;rw[yBd h1.2.2]
 ·exact .inr ⟨r,hr,rfl,g,hg,rfl,rfl,rfl⟩
def zZw {d:xH} {id now:Int} {ws:List (Int×Int)} (h:cW d.rq id ws now=0):YR d.rq (upQ d.rq id ws now):=by
 unfold upQ;rw[yBd h];intro r hr g hg;unfold MG at hr;rw[yCc]at hr;obtain⟨r0,hr0,rfl⟩:=hr;split at hg
 ·obtain⟨x,hx,y,rfl⟩:=zB7 hg;exact .inr ⟨r0,hr0,by split<;>rfl,x,hx,rfl,rfl,rfl⟩
 ·exact .inr ⟨r0,hr0,by split<;>rfl,g,hg,rfl,rfl,rfl⟩
def zZx (d:xH) (m:Ms) (r':Rg) (u:Bool):YR d.rq (dgD d m r' u 0).rq:=by
 unfold dgD;rw[yBd Z];dsimp only;split
 ·exact YR.filter _ _
 ·exact YR.refl _
def yA5 {c:Cf} {d:xH} (hI:uW c d) {m:Ms} {sec:List Int} {r':Rg} {p:Ms} {u:Bool} (hb:CP r') (hP:DoP d.rg m sec r' p u 0):uW c (dgD d m r' u 0)/\(dgD d m r' u 0).rg.ag=d.rg.ag/\(dgD d m r' u 0).rg.num=d.rg.num/\(dgD d m r' u 0).dr.length<=d.dr.length/\(T0 d->T0 (dgD d m r' u 0)):=by
 have hdr:(if u=true then d.dr.drop 1 else d.dr).length<=1000/\∀x∈(if u=true then d.dr.drop 1 else d.dr),x.length=8/\BY x:=by
  split
  ·exact⟨by have:=hI.dn;rw[yCj];omega,λx hx=>hI.dr x (yCt hx)⟩
  ·exact⟨hI.dn,hI.dr⟩
 have hrq:bZ (if m.kind=5 then DZ d.rq (m.args.getD 0 0)else d.rq)/\((if m.kind=5 then DZ d.rq (m.args.getD 0 0)else d.rq).length:Int)<=d.rg.ag.req/\yAb c (if m.kind=5 then DZ d.rq (m.args.getD 0 0)else d.rq):=by
  split
  ·have h:=zZu hI (λx=>x.vh != m.args.getD 0 0);exact⟨h.v,h.q,h.lg⟩
  ·exact⟨hI.v,hI.q,hI.lg⟩
 have hdd:(if u=true then d.dr.drop 1 else d.dr).length<=d.dr.length:=by
  split
  ·rw[yCj];omega
  ·exact yBg _
 unfold dgD;rw[yBd Z]
 rcases hP.2 Z with⟨o,ho,hT,rfl,_⟩|⟨o,ho,rfl,_⟩
 ·refine⟨⟨hb,hrq.1,hrq.2.1,hrq.2.2,hI.a,hI.n,ho,hI.br,hI.bb,hI.bl,hI.au,hdr.1,hdr.2,hI.vh⟩,rfl,rfl,hdd,λh=>?_⟩;unfold T0 at h⊢;exact(hT (by rw[h]) (by rw[h])).trans h
 ·exact⟨⟨hb,hrq.1,hrq.2.1,hrq.2.2,hI.a,hI.n,hI.t8,hI.br,hI.bb,hI.bl,hI.au,hdr.1,hdr.2,ho⟩,rfl,rfl,hdd,λh=>h⟩
def zXk {d:xH} {i:It} {now:Int} {a:List Int} (ho:Opn d i now a):(opD d i now a).rg.ag=d.rg.ag/\(opD d i now a).rg.num=d.rg.num/\(opD d i now a).rg.tk=d.rg.tk/\(opD d i now a).rq=d.rq/\(opD d i now a).dr=d.dr/\(opD d i now a).au=d.au:=by
 unfold opD wC;rw[(NK ho.2.2.2.2).1];exact⟨rfl,rfl,rfl,rfl,rfl,rfl⟩
def zSa {l:List Tk} {g:Int} {b:List Int} {k now:Int} (h:ckB l g b k now=true):fN l (b.getD 1 default)=true:=by
 unfold ckB at h;simp only[yBq]at h;exact h.1.2
def yA6 (r:Rg) (m:Ms) (now:Int):0<=opE r m now/\opE r m now<=100:=by
 unfold opE;split
 ·split<;>omega
 ·omega
def zZy (c:Cf) (d:xH) (cls id v life now:Int) (qs:List Qd):0<=dsE c d cls id v life now qs/\dsE c d cls id v life now qs<=100:=by
 unfold dsE sxE suE
 repeat' split
 all_goals omega
def zZz (l:List Rq) (id:Int) (ws:List (Int×Int)) (now:Int):0<=cW l id ws now/\cW l id ws now<=100:=by
 unfold cW
 repeat' split
 all_goals omega
theorem zGu (c:Cf) (d:xH) (hI:uW c d) (s now:Int) (n0:0<=now) (n1:now<=1073741824) (i:It) (hby:BY i.pay) (hlen:i.pay.length<=100000):∃h,SD c d s i now h/\HdP c d s i now h:=by
 by_cases hc:i.code=0
 case neg=>exact AQ hI hc QP d (.inl Z) (zSd c d s now i hc) (zSu c d s now hI.bd i hc) id
 by_cases hk:1<=i.kind/\i.kind<=12
 case neg=>exact AQ hI xO QP d (.inl Z) (zSf c d s now i hc hk) (zSv c d s now hI.bd i hc hk)
 obtain⟨h0,h1⟩:=hk;have k2:=zKi i.kind h0 h1 i.pay hby hlen;have r2:=zGk i.kind h0 h1 i.pay hby hlen;have hii:i=⟨0,i.kind,i.pay⟩:=by cases i;simp_all
 cases hd:PP (vL i.kind) (xW i.kind) i.pay with
 |none=>
  rw[hd]at k2 r2;have q1:=zSg c d s now i.kind i.pay h0 h1 k2;have q2:=zSw c d s now hI.bd i.kind i.pay h0 h1 r2;rw[<-hii]at q1 q2;exact AQ hI xO QP d (.inl Z) q1 q2
 |some ar=>
 rw[hd]at k2 r2;obtain⟨_,hl10,hv,hg0,hg1⟩:=zSz hby hd;have hbt:BY (i.pay.take 10):=λx hx=>hby x (yDb hx)
 have hlv:d.rg.bk.level<=1000000:=by have:=hI.bl;have:=hI.a.b;omega
 have k3:=zWa d.rg ⟨i.kind,i.pay.take 10,ar,[]⟩ now hI.b hbt hlv;have r3:=zSy d.rg ⟨i.kind,i.pay.take 10,ar,[]⟩ now hI.b hbt hlv;by_cases ho:opE d.rg ⟨i.kind,i.pay.take 10,ar,[]⟩ now=0
 case neg=>
  have q1:=zSh c d s now i.kind i.pay (i.pay.take 10) ar h0 h1 k2 _ _ _ ho k3;have q2:=zSx c d s now hI.bd i.kind i.pay (i.pay.take 10) ar h0 h1 r2 _ _ _ ho r3;rw[<-hii]at q1 q2;exact AQ hI ho QP d (.inl Z) q1 q2 (λ_=>yA6 _ _ _)
 have hO:Opn d i now ar:=⟨hc,h0,h1,hd,ho⟩;obtain⟨_,hck,_,hsl⟩:=NK ho;rw[ho,hsl]at k3 r3;have hus:=zSa hck;dsimp only at hsl hus;generalize (i.pay.take 10).getD 1 default=sl at *;have hI1:=zT0 hI hO;obtain⟨ea,en,et,eq,er,eu⟩:=zXk hO
 have hs0:0<=sl/\sl<(d.rg.tk.length:Int):=by
  unfold fN at hus;rw[yBq,yBi]at hus;exact hus.1
 have hsd:opD d i now ar=wC d (opR d.rg ⟨i.kind,i.pay.take 10,ar,[]⟩ now):=rfl;generalize opR d.rg ⟨i.kind,i.pay.take 10,ar,[]⟩ now=r1 at *;have tl:(i.pay.take 10).length<=1000:=by rw[yB4];omega
 have NO:∀(e:Int),e≠0->0<=e/\e<=100->∀(p p2:Ms) (k2':Int),zO 170 [wN c,zI d,iA s,vC ⟨0,i.kind,i.pay⟩,iA now] [] (hT (wC d r1) p (-1) e) []->
   yU [wN c,zI (wC d r1),iA s,yB ⟨i.kind,i.pay.take 10,ar,[]⟩,iA sl,iA now] [] (hT (wC d r1) p2 k2' e) []->∃h,SD c d s i now h/\HdP c d s i now h:=by
  intro e he heb p p2 k2' q1 q2;have q3:=zTx c d s now hI.bd i.kind i.pay _ ar h0 h1 r2 r1 sl r3 (wC d r1) (hsd▸hI1.bd) p2 k2' e q2;rw[zN9 he]at q3;rw[<-hii]at q1 q3;exact AQ hI he p _ (.inr ⟨ar,hO,hsd.symm⟩) q1 q3 (λ_=>heb)
 have YES:∀(d':xH) (p:Ms) (k:Int),uW c d'->d'.rg.ag=d.rg.ag->d'.rg.num=d.rg.num->RpF d i now ar ⟨d',p,k,0⟩->(k= -1∨(i.kind=11/\0<=k/\k<(c.js.length:Int)))->d'.dr.length<=d.dr.length->(T0 d->T0 d')->zO 170 [wN c,zI d,iA s,vC ⟨0,i.kind,i.pay⟩,iA now] [] (hT d' p k 0) []->
   yU [wN c,zI (wC d r1),iA s,yB ⟨i.kind,i.pay.take 10,ar,[]⟩,iA sl,iA now] [] (hT d' p k 0) []->d'.au=d.au->YR d.rq d'.rq->∃h,SD c d s i now h/\HdP c d s i now h:=by
  intro d' p k hi ha hn hr hk hdl ht0 q1 q2 hau hsc;have q3:=zTx c d s now hI.bd i.kind i.pay _ ar h0 h1 r2 r1 sl r3 d' hi.bd p k 0 q2;rw[zEq]at q3;rw[<-hii]at q1 q3;exact zXw hI ar hO p k d' hi ha hn hr hk hdl ht0 q1 q3 hau hsc
 rw[hsd]at hI1 ea en et eq er eu;have hgk:xW i.kind=0∨xW i.kind≠0:=by omega
 have hcs:i.kind=1∨(i.kind=2∨i.kind=3∨i.kind=4∨i.kind=5)∨i.kind=6∨i.kind=7∨i.kind=8∨i.kind=9∨i.kind=10∨i.kind=11∨i.kind=12:=by omega
 rcases hcs with hk|hk|hk|hk|hk|hk|hk|hk|hk
 ·
  have hal:ar=[]:=yCb (by rw[hg0 KG,hk];rfl);subst hal;have hsame:=NL hO (.inl hk);rw[hsd]at hsame;rw[hsame]at hI1;have q1:=GW c d s now i.kind i.pay _ [] h0 h1 k2 r1 sl k3 (.inl hk) (ND d now) (by rw[hsame,hk];exact AH d now);have q2:=zN5 c d s now (i.pay.take 10) sl;rw[hsame]at q1;refine YES d _ _ hI1 Z Z (.inl ⟨hk,rfl,rfl⟩) (.inl Z) (yBg _) id q1 ?_ Z (YR.refl _);rw[hsame,hk];exact q2
 ·
  obtain⟨a,ar1,har⟩:∃a ar1,ar=a::ar1:=by
   cases ar with
   |nil=>exfalso;have:=hg0 zTp;rcases hk with hk|hk|hk|hk<;>rw[hk]at this<;>cases this
   |cons a ar1=>exact⟨a,ar1,rfl⟩
  have hal:ar.length<=1000:=by have:=hg0 zTp;have:=GK i.kind;omega
  have hm:MsB ⟨i.kind,i.pay.take 10,ar,[]⟩:=⟨tl,hal,yBt _⟩
  have hsec:(MY (wC d r1)).length<=1000:=by
   unfold MY wC;dsimp only
   cases hdr:d.dr with
   |nil=>simp
   |cons b bs=>have:=(hI.dr b (by rw[hdr];simp)).1;simp;omega
  have hsb:BY (MY (wC d r1)):=by
   unfold MY wC;dsimp only
   cases hdr:d.dr with
   |nil=>exact λx hx=>by cases hx
   |cons b bs=>exact(hI.dr b (by rw[hdr];simp)).2
  have hvh:r1.vh.length<=1000:=by have:=hI1.vh;exact yCp this zB
  obtain⟨r',p,u,e,hr',hp',hP,f1,f2⟩:=zSb r1 hvh ⟨i.kind,i.pay.take 10,ar,[]⟩ hm sl now (MY (wC d r1)) hsec
  have h5:i.kind=5->∃a,ar=[a]:=λh=>by
   have h9:=hg0 (by rw[h];rfl);rw[h]at h9;exact zGx h9
  have q1:=zXq (wC d r1) ⟨i.kind,i.pay.take 10,ar,[]⟩ sl now hI1.v hI1.dn r' p u e f1 h5
  have hu:u=true->(wC d r1).dr≠[]:=λhu h9=>by
   have he:e=0:=by
    by_cases he:e=0
    ·exact he
    ·rw[(hP.1 he).1]at hu;cases hu
   have h10:MY (wC d r1)=[]:=by unfold MY;rw[h9];rfl
   rcases hP.2 he with⟨o,_,_,_,h11|h11⟩|⟨o,_,_,h11,_⟩
   ·rw[h11.1]at hu;cases hu
   ·rw[h10]at h11;exact absurd h11.2.1 xO
   ·rw[h11]at hu;cases hu
  have q2:=zSc (wC d r1) ⟨i.kind,i.pay.take 10,ar,[]⟩ sl now hI1.v hI1.dn r' p u e f2 h5 hu;have w1:=zXr c d s now i.kind i.pay _ ar h0 h1 k2 r1 sl k3 hk _ _ e q1;have w2:=zXs c (wC d r1) s now (i.pay.take 10) sl i.kind ar a ar1 har hk _ p e q2;by_cases he:e=0
  ·subst he;rw[yBd Z]at w1;obtain⟨hi,ha,hn,hd1,hd2⟩:=yA5 (m:=⟨i.kind,i.pay.take 10,ar,[]⟩) hI1 hr' hP;have hvx:0<=a/\a<=4294967295:=hv a (by rw[har];simp);refine YES _ p (-1) hi (ha.trans ea) (hn.trans en) ?_ (.inl Z) hd1 (λh=>hd2 (T0.of et ea h)) w1 w2 (by unfold dgD;rw[yBd Z];rfl) (zZx (wC d r1) _ r' u)
   rcases hP.2 Z with⟨o,_,_,_,h11|h11⟩|⟨o,_,_,_,h11,h12⟩
   ·obtain⟨_,h12,h13⟩:=h11;dsimp only at h13 h12;exact .inr (.inr (.inr (.inr ⟨zB,a,hvx.1,hvx.2,by rw[h12,har,h13];rfl⟩)))
   ·obtain⟨_,h12,h13,k,h14,h15⟩:=h11;have en':r1.num=d.rg.num:=en;exact .inr (.inr (.inr (.inl ⟨h13,k,_,h14,⟨h12,hsb⟩,by rw[h15,en']⟩)))
   ·dsimp only at h11 h12;exact .inr (.inr (.inr (.inr ⟨zB,a,hvx.1,hvx.2,by rw[h12,har];rfl⟩)))
  ·have e1:dgD (wC d r1) ⟨i.kind,i.pay.take 10,ar,[]⟩ r' u e=wC d r1:=by unfold dgD;rw[yBc he]
   rw[e1]at w1 w2;exact NO e he (hP.1 he).2 _ _ _ w1 w2
 ·
  obtain⟨cc,c1,c3,hl⟩:=hg1 zD8;rw[hk,show vL 6=3 from Z,show xW 6=4 from Z]at hl
  obtain⟨id,v,life,ar1,har⟩:∃id v life ar1,ar=id::v::life::ar1:=by
   match ar,hl with
   |id::v::life::ar1,_=>exact⟨id,v,life,ar1,rfl⟩
   | [],h=>simp at h;omega
   | [_],h=>simp at h;omega
   | [_,_],h=>simp at h;omega
  subst har;obtain⟨qs,hqs,hqn⟩:=zTy cc ar1 (by simp only[yBp]at hl;omega);subst hqs
  have hp:∀q∈qs,0<=q.j/\0<=q.p:=λq hq=>by
   obtain⟨m1,m2,_⟩:=zNu hq;exact⟨(hv q.j (by simp[m1])).1,(hv q.p (by simp[m2])).1⟩
  have hvx:=hv id zQ;have s1:sl<((wC d r1).rg.tk.length:Int):=by rw[et];exact hs0.2
  have q1:=zXf c (wC d r1) (i.pay.take 10) id v life sl now qs hI1.bd hI1.v hs0.1 s1 zB hp n0 n1;have q2:=zB5 c (wC d r1) 6 (i.pay.take 10) id v life ((wC d r1).rg.tk.getD sl.toNat default).cls now qs hI1.bd hI1.v zB hp n0 n1;by_cases he:dsE c (wC d r1) ((wC d r1).rg.tk.getD sl.toNat default).cls id v life now qs=0
  ·have hi:=yA3 hI1 n0 n1 he;rw[he]at q1;rw[yBd he,he]at q2;have w1:=GV c d s now i.kind i.pay _ _ h0 h1 k2 r1 sl k3 (.inl hk) id _ Z _ KH;have w2:=zN6 c (wC d r1) s now (i.pay.take 10) sl _ id _ Z hs0.1 s1 _ 0 q2;refine YES _ (gE i.kind id) (-1) hi ea en (.inr (.inr (.inr (.inr ⟨zB,id,hvx.1,hvx.2,rfl⟩)))) (.inl Z) (yBg _) (T0.of et ea) w1 ?_ Z (zZv (d:=wC d r1) he);rw[hk];exact w2
  ·rw[yBc he]at q2;have w1:=GU c d s now i.kind i.pay _ _ h0 h1 k2 r1 sl k3 (.inl hk) _ _ he KH;have w2:=zN6 c (wC d r1) s now (i.pay.take 10) sl _ id _ Z hs0.1 s1 _ _ q2;exact NO _ he (by first|exact zZy _ _ _ _ _ _ _ _|exact zZz _ _ _ _) _ _ _ w1 (by rw[hk];exact w2)
 ·
  obtain⟨cc,c1,c3,hl⟩:=hg1 zD8;rw[hk,show vL 7=1 from Z,show xW 7=2 from Z]at hl
  obtain⟨id,ar1,har⟩:∃id ar1,ar=id::ar1:=by
   match ar,hl with
   |id::ar1,_=>exact⟨id,ar1,rfl⟩
   | [],h=>simp at h;omega
  subst har;obtain⟨ws,hqs,hqn⟩:=zTz cc ar1 (by simp only[yBp]at hl;omega);subst hqs;have hvx:=hv id zQ;have q1:=zXd c (wC d r1) (i.pay.take 10) id sl now ws hI1.v zB n0 n1;have q2:=zXe (wC d r1) (i.pay.take 10) id now ws hI1.v zB n0 n1;by_cases he:cW (wC d r1).rq id ws now=0
  ·have hi:=yA4 hI1 he;rw[he]at q1;rw[yBd he,he]at q2;have w1:=GV c d s now i.kind i.pay _ _ h0 h1 k2 r1 sl k3 (.inr (.inl hk)) id _ Z _ KH;have w2:=zN7 c (wC d r1) s now (i.pay.take 10) sl _ id _ Z _ 0 q2;refine YES _ (gE i.kind id) (-1) hi ea en (.inr (.inr (.inr (.inr ⟨zB,id,hvx.1,hvx.2,rfl⟩)))) (.inl Z) (yBg _) (T0.of et ea) w1 ?_ Z (zZw (d:=wC d r1) he);rw[hk];exact w2
  ·rw[yBc he]at q2;have w1:=GU c d s now i.kind i.pay _ _ h0 h1 k2 r1 sl k3 (.inr (.inl hk)) _ _ he KH;have w2:=zN7 c (wC d r1) s now (i.pay.take 10) sl _ id _ Z _ _ q2;exact NO _ he (by first|exact zZy _ _ _ _ _ _ _ _|exact zZz _ _ _ _) _ _ _ w1 (by rw[hk];exact w2)
 ·
  obtain⟨id,har⟩:=zGx (show ar.length=1 by rw[hg0 KG,hk];rfl);subst har;have hvx:=hv id zQ;have q1:=zXg c (wC d r1) (i.pay.take 10) id sl now hI1.v;have q2:=zXt c (wC d r1) s now (i.pay.take 10) sl id _ _ (zFr (wC d r1).rq id hI1.v);by_cases he:gB (wC d r1).rq id=true
  ·have hi:=zZu hI1 (λx=>x.id != id);rw[yBd he,yBd he]at q1;rw[yBd he,yBd he,yBd Z]at q2;have w1:=GV c d s now i.kind i.pay _ _ h0 h1 k2 r1 sl k3 (.inr (.inr hk)) id [] Z _ KH;refine YES _ (gE i.kind id) (-1) hi ea en (.inr (.inr (.inr (.inr ⟨zB,id,hvx.1,hvx.2,rfl⟩)))) (.inl Z) (yBg _) (T0.of et ea) w1 ?_ Z (YR.filter _ _);rw[hk];exact q2
  ·rw[yBc he,yBc he]at q1;rw[yBc he,yBc he,yBc xO]at q2;have w1:=GU c d s now i.kind i.pay _ _ h0 h1 k2 r1 sl k3 (.inr (.inr hk)) _ 12 xO KH;exact NO 12 xO xO _ _ _ w1 (by rw[hk];exact q2)
 ·
  have hal:ar=[]:=yCb (by rw[hg0 KG,hk];rfl);subst hal;have hsame:=NL hO (.inr zB);rw[hsd]at hsame;rw[hsame]at hI1;have q1:=GW c d s now i.kind i.pay _ [] h0 h1 k2 r1 sl k3 (.inr (.inl hk)) (NE d) (by rw[hsame,hk];exact zB4 d now hI.bd);have q2:=zSr c d s now (i.pay.take 10) sl hI.bd;rw[hsame]at q1;refine YES d _ _ hI1 Z Z (.inr (.inl ⟨hk,rfl,rfl⟩)) (.inl Z) (yBg _) id q1 ?_ Z (YR.refl _);rw[hsame,hk];exact q2
 ·
  obtain⟨a,har⟩:=zGx (show ar.length=1 by rw[hg0 KG,hk];rfl);subst har;have hvx:=hv a zQ;by_cases ha:1<a
  ·have w1:=zSk c d s now i.kind i.pay _ [a] h0 h1 k2 r1 sl k3 hk a Z ha;have w2:=zSp c (wC d r1) s now (i.pay.take 10) sl a ha;exact NO 8 xO xO _ _ _ w1 (by rw[hk];exact w2)
  by_cases hs:0<=s/\s<(d.au.length:Int)
  case neg=>
   have w1:=zSl c d s now i.kind i.pay _ [a] h0 h1 k2 r1 sl k3 hk a Z zB hs;have w2:=zSq c (wC d r1) s now (i.pay.take 10) sl a zB (by rw[eu];exact hs);refine YES _ (gE 10 a) (-1) hI1 ea en (.inr (.inr (.inr (.inr ⟨zB,a,hvx.1,hvx.2,by rw[hk]⟩)))) (.inl Z) (yBg _) (T0.of et ea) w1 ?_ Z (YR.refl _);rw[hk];exact w2
  rw[hk]at k2 r2 k3 r3;have hI2:uW c ⟨r1,d.rq,d.dr,d.au.set s.toNat (a==1)⟩:=⟨hI1.b,hI1.v,hI1.q,hI1.lg,hI1.a,hI1.n,hI1.t8,hI1.br,hI1.bb,hI1.bl,by have:=hI1.au;dsimp only;rw[yC3];exact this,hI1.dn,hI1.dr,hI1.vh⟩;have w1:=zSs c d s now i.pay (i.pay.take 10) a hvx.1 zB k2 r1 sl k3 hs;have w2:=zSt c (wC d r1) s now (i.pay.take 10) sl a hvx.1 zB (by rw[eu];exact hs);have q1:=zXu c d s now ⟨0,10,i.pay⟩ hI.bd zB _ _ _ w1;have q2:=zXv c d s now hI.bd 10 i.pay _ [a] xO xO r2 r1 sl r3 _ hI2.bd _ _ w2;have en':r1.num=d.rg.num:=en;rw[show(⟨r1,d.rq,d.dr,d.au.set s.toNat (a==1)⟩:xH).rg.num=d.rg.num from en']at q1;rw[<-hk,<-hii]at q1 q2;exact⟨⟨⟨r1,d.rq,d.dr,d.au.set s.toNat (a==1)⟩,gE i.kind a,-1,0⟩,⟨q1,q2⟩,hI2,ea,en,λh=>absurd Z h,λ_=>⟨[a],hO,.inr (.inr (.inr (.inr ⟨zB,a,hvx.1,hvx.2,rfl⟩)))⟩,.inl Z,yBg _,T0.of et ea,λ_=>by dsimp only;omega,λk hk'=>by show(d.au.set s.toNat (a==1))[k]? =_;rw[yFj zB],YR.refl _⟩
 ·
  obtain⟨a,har⟩:=zGx (show ar.length=1 by rw[hg0 KG,hk];rfl);subst har;have hvx:=hv a zQ;by_cases ha:a<(c.js.length:Int)
  ·have w1:=zSj c d s now i.kind i.pay _ [a] h0 h1 k2 r1 sl k3 hk a Z ha;have w2:=zSo c (wC d r1) s now (i.pay.take 10) sl a ha;refine YES _ (gE 11 a) a hI1 ea en (.inr (.inr (.inr (.inr ⟨zB,a,hvx.1,hvx.2,by rw[hk]⟩)))) (.inr ⟨hk,hvx.1,ha⟩) (yBg _) (T0.of et ea) w1 ?_ Z (YR.refl _);rw[hk];exact w2
  ·have w1:=zSi c d s now i.kind i.pay _ [a] h0 h1 k2 r1 sl k3 hk a Z zB;have w2:=zSn c (wC d r1) s now (i.pay.take 10) sl a zB;exact NO 8 xO xO _ _ _ w1 (by rw[hk];exact w2)
 ·
  have hal:ar=[]:=yCb (by rw[hg0 KG,hk];rfl);subst hal;have hsame:=NL hO (.inr zB);rw[hsd]at hsame;rw[hsame]at hI1;have hrq:=hI.a.q;have q1:=GW c d s now i.kind i.pay _ [] h0 h1 k2 r1 sl k3 (.inr (.inr hk)) (bO d) (by rw[hsame,hk];exact zB2 d 12 now xO xO hI.bd zB zB);have q2:=zSm c d s now (i.pay.take 10) sl (zR2 d hI.bd zB zB);rw[hsame]at q1;refine YES d _ _ hI1 Z Z (.inr (.inr (.inl ⟨hk,rfl,rfl⟩))) (.inl Z) (yBg _) id q1 ?_ Z (YR.refl _);rw[hsame,hk];exact q2
theorem zEn (d:Dk):∀i,∀j∈(NW d i).1,∃e,j=jnF e
 |0=>λj hj=>by simp[NW]at hj
 |i+1=>λj hj=>by
  simp only[NW,yBy,yCf]at hj
  rcases hj with hj|hj
  ·exact zEn d i j hj
  ·exact⟨_,hj⟩
def zNw (d:Dk) (r:Int):(PR d r).js=(NW (ad (ad4 d)) (cfN d)).1:=by rw[PR,cfJ]
def zEo (d:Dk) (r:Int):(PR d r).ags=(UK (ad (cfJ d).2) r (cfM d)).1:=by rw[PR,cfG]
def zZ0 (d:Dk) (rights:Int):1<=(PR d rights).js.length/\(PR d rights).js.length<=2/\1<=(PR d rights).ags.length/\(PR d rights).ags.length<=3:=by
 have h1:=yC (ad4 d) 2 zB;have h2:=yC (cfJ d).2 3 zB;rw[zNw,zEo,QD,dO];unfold cfN cfM;omega
def zZ1 (d:Dk) (n r:Int) (hr:0<=r/\r<=63):AgV (agF d n r):=by
 have w1:=yC d (3-1+1) zB;have w2:=yC (ad d) (3-1+1) zB;have w3:=yC (ad (ad d)) 3 zB;have w4:=yC (ad (ad (ad d))) 3 zB;have w5:=yC (ad (ad (ad (ad d)))) (3-1+1) zB;have w6:=yC (ad (ad (ad (ad (ad d))))) (2-1+1) zB;have w7:=yC (ad (ad (ad (ad (ad (ad d)))))) (3-1+1) zB;have w8:=yC (ad7 d) 5 zB;unfold agF;refine⟨by dsimp only;rw[jA];rfl,rfl,λx hx=>?_,hr,by dsimp only;omega,by dsimp only;omega,by dsimp only;omega,by dsimp only;omega,by dsimp only;omega⟩;simp only[yCk,yFo,yGp]at hx
 rcases hx with rfl|rfl|rfl|rfl<;>omega
structure AgD (a:Ag) (n:Int):Prop where
 v:AgV a
 s:a.sec=dK (1000+n)
 q:1<=a.req/\a.req<=3
 b:1<=a.rate/\a.burst<=7
def zZ2 (d:Dk) (n r:Int) (hr:0<=r/\r<=63):AgD (agF d n r) n:=by
 have w5:=yC (ad (ad (ad (ad d)))) (3-1+1) zB;have w7:=yC (ad (ad (ad (ad (ad (ad d)))))) (3-1+1) zB;have w8:=yC (ad7 d) 5 zB;exact⟨zZ1 d n r hr,rfl,by unfold agF;dsimp only;omega,by unfold agF;dsimp only;omega⟩
theorem zNx (d:Dk) (r:Int) (hr:0<=r/\r<=63):∀i k,k<i->AgD ((UK d r i).1.getD k default) k/\((UK d r i).1.getD k default).rights=r
 |0,k,h=>by omega
 | i+1,k,h=>by
  rw[zKk,yBl];by_cases hk:k<i
  ·rw[yCi (by rw[dO];exact hk),<-yBl];exact zNx d r hr i k hk
  ·obtain rfl:k=i:=by omega
   rw[yB9 (by rw[dO];omega),dO,yDh];exact⟨zZ2 _ _ _ hr,rfl⟩
def zXl (d:Dk) (r:Int) (hr:0<=r/\r<=63) (k:Int) (h0:0<=k) (h1:k<((PR d r).ags.length:Int)):AgD ((PR d r).ags.getD k.toNat default) k/\((PR d r).ags.getD k.toNat default).rights=r:=by
 rw[zEo]at h1⊢;rw[dO]at h1;have:=zNx (ad (cfJ d).2) r hr (cfM d) k.toNat zB;rw[show((k.toNat:Nat):Int)=k by omega]at this;exact this
def zXm {c:Cf} {a:Ag} (hv:AgV a) (n:Int) (hn:0<=n/\n<4):uW c (NG n a a.ses.toNat):=by
 have he:=hv.e;have hq:=hv.q;have hb:=hv.b;have ht:=hv.t;have hs:=zY1 n a hv;have e1:(DY n a).ag=a:=rfl;have e2:(DY n a).num=n:=rfl;have e3:(DY n a).tk.length=8:=by simp[DY,tkN]
 have e4:(DY n a).vh=[]:=rfl;have e5:(DY n a).bk=⟨a.burst,a.rate,a.burst⟩:=rfl;unfold NG;generalize hN:a.ses.toNat=N;generalize DY n a=r at *;constructor
 ·exact hs
 ·exact⟨λr hr=>by simp at hr,List.Pairwise.nil,yBt _⟩
 ·dsimp only;rw[e1];simp only[yCr];omega
 ·intro r hr;simp at hr
 ·dsimp only;rw[e1];exact hv
 ·dsimp only;rw[e2];exact hn
 ·exact e3
 ·dsimp only;rw[e1,e5]
 ·dsimp only;rw[e1,e5]
 ·dsimp only;rw[e1,e5];exact⟨hb.1,yC8 _⟩
 ·dsimp only;rw[e1,yCw];omega
 ·simp
 ·intro x hx;simp at hx
 ·dsimp only;rw[e4];simp
def zZ3 (n:Int) (a:Ag) (hv:AgV a):zO 57 [iA n,vB a] [] (zI (NG n a a.ses.toNat)) []/\yU [iA n,vB a] [] (zI (NG n a a.ses.toNat)) []:=by
 have he:=hv.e;have h1:=hv.s;have h2:=hv.l;exact⟨zXc n a a.ses.toNat zB zB zB zB,zR5 n a a.ses.toNat zB zB zB zB⟩
def zZ4 {l:List Tk} (h:FJ l) (now:Int):FJ (MH l now):=by
 refine⟨by unfold MH;rw[yBe,yCy];exact h.n,λt ht=>?_⟩;unfold MH at ht;rw[yCc]at ht;obtain⟨j,hj,rfl⟩:=ht;rw[yBz]at hj;unfold zFq;split
 ·exact yBt _
 ·rw[yBl,yBu hj,yDi];exact h.s _ (yD1 _)
def GR (d:xH) (now:Int):xH:=⟨rtF d.rg now,zLb d.rq now,d.dr,d.au⟩
def zZ5 {c:Cf} {d:xH} (h:uW c d) (now:Int):uW c (GR d now)/\(GR d now).rg.ag=d.rg.ag/\(GR d now).rg.num=d.rg.num:=by
 refine⟨?_,rfl,rfl⟩;have hl:=h.bl;have hr:=h.br;have hbb:=h.bb;have ht:=h.a.t;have hql:=yDr (λx:Rq=>decide (now<=x.til)) d.rq;have hq:=h.q;refine⟨⟨zZ4 h.b.tk now,h.b.s,h.b.l,h.b.v⟩,h.v.filter _,?_,λr hr g hg=>h.lg r (yEd.1 hr).1 g hg,h.a,h.n,?_,h.br,h.bb,?_,h.au,h.dn,h.dr,h.vh⟩
 ·show((d.rq.filter _).length:Int)<=d.rg.ag.req
  omega
 ·show(MH d.rg.tk now).length=8
  unfold MH;rw[yBe,yCy,h.t8]
 ·show 0<=min (d.rg.bk.level+d.rg.bk.rate) d.rg.bk.burst/\min (d.rg.bk.level+d.rg.bk.rate) d.rg.bk.burst<=d.rg.ag.burst
  omega
def zNy {c:Cf} {d:xH} (h:uW c d) (now:Int):zO 95 [zI d,iA now] [] (zI (GR d now)) []:=by
 have k1:=cQ d h.bd;have hl:=h.bl;have hr:=h.br;have hbb:=h.bb;have ht:=h.a.t;have hb:=h.a.b;have k2:=zQo d.rg now h.b zB;have k3:=zLd d.rq now h.v;unfold GR;generalize rtF d.rg now=r at *;generalize zLb d.rq now=q at *;unfold zI wF at *;unfold uZ at k2;refine eM call95 λF hF=>?_
 refine WLc (gW k1 k2 k3) ?_;exact zJ
section
variable {P:Program} {K0:List Nat} {F:Fr K0} {m:Nat}
theorem YC.consume {st:St} {a:Act} {w:World} {X:Nat->Prop} {β:vM} (hX:XOK F X) (H:qX X (zC st.h) β w) (Ht:∀t,zU w (xP X β) (zC st.h) β (zG st.tm t) (a.eval (.tmp t))) (KK:gD F (zC st.h) β w) (hJ:∀i,zG st.tm GS= .gh i->F.J i (Own β) X w) (hD:DOK X F a.defers w)
  (nd:∀k,zC st.h k≠some .dead) (gs:m<=GS) (hl:a.tmps.size=m) (k:Nat) (K ts:List Nat) (hK:K0.all (K.contains ·)=true) (hkK:K.contains k=false) {w':World} {β':vM} (G:yW X w (zC st.h) β w' (over [(k,.dead)] (zC st.h)) β') {v:AV} {c:Value} (hc:xG w' (xP X β') v c)
  (hg:∀i,v≠ .gh i) (t:Nat) (ht:t<m) {st':St} (he:restr K ts ⟨st.tm,(k,.dead)::st.h⟩=st'):xY F m ⟨(t,v)::st'.tm,st'.h⟩ (a.put (some t) c) w':=by
 subst he;have eh:zC ((k,xM.dead)::st.h)=over [(k,.dead)] (zC st.h):=wI [(k,xM.dead)] st.h;rw[<-eh]at G;obtain⟨H',hvv⟩:=G.hok.restr K
 have hkk:∀j,j∈K->j≠k:=λj hj e=>by
  subst e;have:K.contains j=true:=by simpa using hj
  rw[this]at hkK;cases hkK
 have hov:∀j,j≠k->zC ((k,xM.dead)::st.h) j=zC st.h j:=λj hj=>by rw[eh];exact bF _ _ hj
 have hnd:∀j,j∈K->zC ((k,xM.dead)::st.h) j≠some .dead:=λj hj=>by rw[hov j (hkk j hj)];exact nd j
 have hK0:∀j,j∈K0->j∈K:=λj hj=>by
  have:=yBr.1 hK j hj;simpa using this
 have hsub:∀b,xP X (λj=>if j∈K then β' j else []) b->xP X β' b:=λb hd=>by
  rcases hd with hx|⟨j,n,hm⟩
  ·exact .inl hx
  ·(try dsimp only at hm)
   split at hm
   ·exact .inr ⟨j,n,hm⟩
   ·simp at hm
 have hgs:GS≠t:=by omega
 refine⟨⟨X,_,hX,H',λj=>?_,⟨λj e hje=>?_,yCp KK.size G.size,λb hb hi hn=>?_,λj b n hm=>?_,λj b n hm=>?_,λj b n hm=>?_,G.os.trans KK.os,G.tape.trans KK.tape,G.output.trans KK.output⟩,λi hi=>?_,hD.goes H G⟩,λj=>?_,gs,by simp[Act.put,hl]⟩
 ·show zU _ _ _ _ (zG ((t,v)::(restr K ts ⟨st.tm,(k,.dead)::st.h⟩).tm) j) _
  rw[yE];split
  ·rename_i hj;subst hj;have e:(a.put (some j) c).eval (.tmp j)=c:=by simp[Act.put,Act.eval,hl,ht]
   rw[e];exact .fz _ _ (hc.evo (yBg _) λb _ hd=>⟨rfl,λh=>hd (hsub b h)⟩)
  ·rename_i hj;rw[Act.eval_put (λd hd e=>hj (by injection hd with hd;injection e with e;rw[hd,e])),jH];split
   ·exact hvv _ _ ((Ht j).evo G.evo)
   ·exact .fz _ _ (.bot _)
 ·have hj:=hK0 j (F.hh j e hje);have h1:=KK.knd j e hje;have hr:∀e',zC ((k,xM.dead)::st.h) j=some e'->zC (wS K (zC ((k,xM.dead)::st.h))) j=some (qK K (zC ((k,xM.dead)::st.h)) e'):=λe' h2=>by rw[xX,yBd hj,h2];rfl
  cases e with
  |dead=>exact h1
  |box cs=>obtain⟨cs',h2⟩:=h1;exact⟨_,hr _ ((hov j (hkk j hj)).trans h2)⟩
  |obj cs=>obtain⟨cs',h2⟩:=h1;exact⟨_,hr _ ((hov j (hkk j hj)).trans h2)⟩
  |arr sz xs sl=>obtain⟨xs',sl',h2,h3⟩:=h1;obtain⟨xs2,fl2,h4,h5⟩:=jY K (zC ((k,xM.dead)::st.h)) sz xs' sl';exact⟨xs2,fl2,(hr _ ((hov j (hkk j hj)).trans h2)).trans (by rw[h4]),by rw[h5];exact h3⟩
 ·rw[G.keep b (yCo hb KK.size),KK.keep b hb hi hn];intro j n hm
  rcases KK.own j b n hm with⟨k',n',h1⟩|h1
  ·exact hn _ _ h1
  ·omega
 ·(try dsimp only at hm)
  split at hm
  ·rcases G.own j b n hm with⟨k',n',h1⟩|h1
   ·exact KK.own k' b n' h1
   ·exact .inr (yCp KK.size h1)
  ·simp at hm
 ·have hj:=hK0 j (F.hK j b n hm);obtain⟨n',h1,h2⟩:=KK.pas j b n hm
  (try dsimp only)
  rw[yBd hj]
  cases hje:zC st.h j with
  |none=>rw[H.off j hje]at h2;simp at h2
  | some e=>
   have h3:=(G.key j e hje).resolve_left (hnd j hj)
   cases e with
   |dead=>exact h3.elim
   |box cs=>exact⟨n',h1,h3.2 b n' h2⟩
   |obj cs=>exact⟨n',h1,h3.2 b n' h2⟩
   |arr sz xs fl=>
    obtain⟨n'',h4,h5⟩:=h3.2 b n' h2;exact⟨n'',yCp h1 h4,h5⟩
 ·obtain⟨n',_,h2⟩:=KK.pas j b n hm;rw[G.bs j b n' h2,KK.bs j b n hm]
 ·change zG ((t,v)::(restr K ts ⟨st.tm,(k,.dead)::st.h⟩).tm) GS= .gh i at hi
  rw[yE,yBc hgs,jH]at hi;split at hi
  ·have h1:zG st.tm GS= .gh i:=HI hi;refine F.Jst i _ X w' w' _ (F.go G (hJ i h1)) (yBg _) (λ_ _ _=>rfl) (λb hb=>?_) (λb hb=>?_) Z Z Z
   ·obtain⟨j,n,hm⟩:=hb
    (try dsimp only at hm)
    split at hm
    ·exact .inl ⟨j,n,hm⟩
    ·simp at hm
   ·obtain⟨j,n,hm⟩:=hb;exact H'.lt b (.inr ⟨j,n,hm⟩)
  ·cases hi
 ·show zC (wS K (zC ((k,xM.dead)::st.h))) j≠some .dead
  rw[xX];split
  ·rename_i hj;intro h;rw[yBs]at h;obtain⟨e,he,h2⟩:=h
   cases e with
   |dead=>exact hnd j hj he
   |box cs=>cases h2
   |obj cs=>cases h2
   |arr a b c=>obtain⟨xs2,fl2,h4,_⟩:=jY K (zC ((k,xM.dead)::st.h)) a b c;rw[h4]at h2;cases h2
  ·intro h;cases h
variable {ops:Array Oper} {rest:List Oper} {Q:List FP->St->Prop} {tm:List (Nat×AV)} {h:List (Nat×xM)} {fs fs':List FP} {TT:List TI} {ty:Nat} {pos:String} {after:Array Edge} {t:Nat}
theorem zXn (K ts:List Nat) (hP:uG P TT) {T e k sz:Nat} {s x:Operand} {ti te:TI} {xs vs:List AV} {fl:Fl} {xv:AV} (hs:yK (zG tm) s= .ref k 0 0) (hk:zC h k=some (.arr sz xs fl)) (hx:yK (zG tm) x=xv) (hT:TT[T]? =some ti) (hd:ti.d= .slice e) (he:TT[e]? =some te) (hvs:BG (zC h) xv=some vs)
  (hss:Nat.beq sz te.size=true) (hsz:∀y,vs[0]? =some y->y.cells.length=sz) (hb:Nat.ble te.bytes 65536=true) (hz:Nat.beq te.zero.length te.size=true) (hpos:1<=vs.length) (hmax:vs.length<=1073741824) (hm:Nat.blt t m=true) (hK:K0.all (K.contains ·)=true) (hkK:K.contains k=false)
  {st':St} (hst:restr K ts ⟨tm,(k,.dead)::h⟩=st') (hr:zX P F m ops false rest ⟨(t,.sl false vs)::st'.tm,st'.h⟩ fs Q):zX P F m ops false (⟨some t,.call ⟨.builtin .append, #[s,x], #[T,T]⟩,ty,pos,after,none⟩::rest) ⟨tm,h⟩ fs Q:=⟨λa w R=>wpListIn_plain Z λKC hKC=>by
 obtain⟨⟨X,β,hX,HH,Ht,KK,hJ,hD⟩,nd,gs,hl⟩:=R;dsimp only at HH Ht KK hJ nd;have h1:=hG (op:= .call ⟨.builtin .append, #[s,x], #[T,T]⟩) (st:=⟨tm,h⟩) Ht (λ_ _=>rfl) (x:=s) qT hs;have h2:=hG (op:= .call ⟨.builtin .append, #[s,x], #[T,T]⟩) (st:=⟨tm,h⟩) Ht (λ_ _=>rfl) (x:=x) qT hx;have hss:=yB7 hss;have hb:=yBv hb;have hz:=yB7 hz;have hm:=yBv hm;obtain⟨i,z,hu,hi,hzz,e1,e2,e3⟩:=wQ hP hT hd he;obtain⟨g1,g2,g3,g4,g5,f,g6,g7,g8⟩:=HH.ent k _ hk;obtain⟨ad,cap,hcv,_,hmx,hsrc⟩:=dS HH h2 hvs hsz;obtain⟨b2,q,fy,rfl,hS⟩:=hsrc (λh0=>by rw[h0]at hpos;simp at hpos);obtain⟨hf1,hf2⟩:=hS.flat g1
 have FIN:∀{c w'} (_:(Builtin.append_ #[T,T] ty #[a.eval s,a.eval x]).run P w= .ok c w') {β':vM} (_:yW X w (zC h) β w' (over [(k,.dead)] (zC h)) β') (_:xG w' (xP X β') (.sl false vs) c),Oper.wpIn (BF F.ro) 0 P ⟨some t,.call ⟨.builtin .append, #[s,x], #[T,T]⟩,ty,pos,after,none⟩ a w KC (λe a' w'=>e= .normal/\∃st',Q [] st'/\xY F m st' a' w'):=by
  intro c w' hrun β' G hc;refine dB.wp (N:=λc1 w1=>c1=c/\w1=w') ?_ ?_
  ·have:(execOp a.eval ⟨some t,.call ⟨.builtin .append, #[s,x], #[T,T]⟩,ty,pos,after,none⟩).run P w= .ok (.value c) w':=by simp[execOp,resolve,invoke,builtin,hrun]
   rw[this];exact⟨rfl,rfl⟩
  ·rintro _ _ ⟨rfl,rfl⟩;exact hKC _ _ (hr.run _ _ (YC.consume (st:=⟨tm,h⟩) hX HH Ht KK hJ hD nd gs hl k K ts hK hkK G hc (λi hh=>by cases hh) t hm hst))
 have kill:∀{w'},qX X (zC h) β w'->yW X w' (zC h) β w' (over [(k,.dead)] (zC h)) (dL β k []):=λH=>yW.step H k .dead [] (yBg _) (λ_ _ _=>rfl) Z Z Z (λb n hm=>by simp at hm) (λ_ _ _=>rfl) (λe _=> .inl Z) λ_=>zY _ _ _
 have GROW:∀bd cp,a.eval s= .slice bd 0 cp->cp<vs.length->(bd=none->cp=0)->Oper.wpIn (BF F.ro) 0 P ⟨some t,.call ⟨.builtin .append, #[s,x], #[T,T]⟩,ty,pos,after,none⟩ a w KC (λe a' w'=>e= .normal/\∃st',Q [] st'/\xY F m st' a' w'):=by
  intro bd cp hcx hlt hbn
  have hbytes:vs.length*i.bytes<=140737488355328:=by
   have:=yEc (show vs.length<=1073741824 by omega) (show i.bytes<=65536 by omega);omega
  have hrun:(Builtin.append_ #[T,T] ty #[.slice bd 0 cp,.slice (some ⟨b2,q,none⟩) vs.length cap]).run P w= .ok (.slice (some ⟨w.heap.size,0,none⟩) vs.length (grownCap w vs.length cp e)) (w.drew.alloc (.cells ((flat fy vs.length sz).toArray++Builtin.zeroCells z.cells (grownCap w vs.length cp e-vs.length)) e)):=by
   cases bd with
   |none=>
    obtain rfl:=hbn Z;exact run_append_nil (P:=P) w T ty e i z hu hi hzz ⟨b2,q,none⟩ vs.length cap (flat fy vs.length sz) (by rw[zP,hss,e1]) hf1 zB zB zB
   |some b0=>
    have:=run_append_grow (P:=P) w T ty e i z hu hi hzz b0 0 cp [] zQ (λj v h=>by simp at h) ⟨b2,q,none⟩ vs.length cap (flat fy vs.length sz) (by rw[zP,hss,e1]) hf1 zB zB (growslice_fits zB (by simpa using hbytes));simpa using this
  have HD:=HH.drew (w.drawn+1);have hzs:z.cells.size=te.zero.length:=by rw[<-e3];simp
  have hge:=grownCap_ge w vs.length cp e;have G:=yW.newFz HD ((flat fy vs.length sz).toArray++Builtin.zeroCells z.cells (grownCap w vs.length cp e-vs.length)) e
  have hv:=xG.newArr HD ((flat fy vs.length sz).toArray++Builtin.zeroCells z.cells (grownCap w vs.length cp e-vs.length)) e sz vs (grownCap w vs.length cp e) fy g1 (by unfold cB;omega) hge hS.wide
   (λi j hi hj=>by
    rw[yDf (by simp[zP];have:=yB1 sz (show i+1<=vs.length by omega);rw[yCn,yDg]at this;omega)]
    simpa using qS fy hi hj) hS.one (λi y j v hy hv=>xG.evo (w:=w) (w':={w with drawn:=w.drawn+1}) (yBg _) (λ_ _ hd=>⟨rfl,hd⟩) (hS.rep.toF Z i y j v hy hv))
  have G2:=yW.trans HH (yW.drew HH (w.drawn+1)) G;have G3:=kill G2.hok;exact FIN (by rw[hcx,hcv];exact hrun) (yW.trans HH G2 G3) (hv.wkF.evo G3.evo.size G3.evo.fz)
 generalize hcx:a.eval s=cx at h1
 cases h1 with
 |fz _ _ hf=>cases hf
 |dref _ _ _ _ hdd _=>exact absurd hdd (nd k)
 |ref0 _ _ sz' xs' st' bd hk'' hn=>exact GROW bd 0 hcx zB (λ_=>rfl)
 | ref _ _ _ sz' xs' st' b n cp hk'' hbm hn hc hs'=>
  rw[hk]at hk'';cases hk'';by_cases hroom:vs.length<=cp
  case neg=>exact GROW _ cp hcx zB (λh=>by cases h)
  obtain⟨cur,el,c1,c2,c3,c4⟩:=g8 b n hbm
  have hcs:cur.size=cp*sz:=by
   have:wB w b=cur.size:=by unfold wB World.shape?;rw[c1];rfl
   rw[<-this,<-hs',yCv]
  have hfit:vs.length*sz<=cur.size:=by rw[hcs];exact yB1 _ hroom
  have hrun:=cA hP hT hd he w ty b 0 0 cp cur el c1 ⟨b2,q,none⟩ vs.length cap (flat fy vs.length sz) (by rw[zP,hss]) hf1 hf2 zB (by
   rw[zP,yFb];simpa using hfit)
  generalize hcur':(cur.toList.take (0+0*te.size)++flat fy vs.length sz++cur.toList.drop (0+0*te.size+(flat fy vs.length sz).length)).toArray=cur' at hrun;rw[yFb,yCv,yEb,yDk,yCv]at hcur'
  have hsz':cur'.size=cur.size:=by
   rw[<-hcur'];simp only[yEi,yBf,yCj,yEj,zP];omega
  have G:=yW.step (w':=w.setRow b cur') HH k .dead [] zQ (λj hj hn=>setRow_other w b j cur' (λe=>hn n (by rw[e];exact hbm))) Z Z Z (λb n hm=>by simp at hm) (λb n _=>qL c1 hsz' b) (λe _=> .inl Z) λ_=>zY _ _ _
  have hnb:¬xP X (dL β k []) b:=λhd=>by
   rcases hd with hx|⟨j,n',hm⟩
   ·exact HH.free k b n hbm hx
   ·by_cases hjk:j=k
    ·subst hjk;rw[zY]at hm;simp at hm
    ·rw[qD _ _ hjk]at hm;exact hjk (HH.disj _ _ _ _ _ hm hbm)
  refine FIN (by rw[hcx,hcv,yFb];exact hrun) G ?_;rw[yCv];have hne:vs≠[]:=λh0=>by rw[h0]at hpos;simp at hpos
  refine .sl false vs b 0 sz cp fy hne ⟨yCo (HH.lt b (.inr ⟨k,n,hbm⟩)) G.size,hnb,g1,by unfold cB;omega,hS.wide,λi j hi hj=>?_,hS.one⟩ hroom λi y j v hy hv=>(hS.rep.toF Z i y j v hy hv).evo G.evo.size G.evo.fz
  rw[uD (setRow_heap w _ _ _ _ _ c1),<-hcur',yCv,yD9,yCi (by
   rw[zP];have:=yB1 sz (show i+1<=vs.length by omega);rw[yCn,yDg]at this
   omega)]
  exact qS fy hi hj⟩
end
def fG (d:Dk):Nat->List Int×Dk
 |0=>([],d)
 |i+1=>((fG d i).1++[nx (fG d i).2 256],ad (fG d i).2)
theorem zB8 (d:Dk):∀i,(fG d i).1.length=i/\rem (fG d i).2<=rem d/\BY (fG d i).1
 |0=>⟨rfl,yBg _,λx hx=>by cases hx⟩
 |i+1=>by
  obtain⟨h1,h2,h3⟩:=zB8 d i;have r1:=wG (fG d i).2;have w1:=yC (fG d i).2 256 zB;refine⟨by simp only[fG,yBf,yBp,yCr];omega,by simp only[fG];omega,?_⟩;simp only[fG];intro x hx
  rcases yBy.1 hx with hx|hx
  ·exact h3 x hx
  ·rw[yCf]at hx;subst hx;exact w1
def zNz (d:Dk) (n:Int) (h0:0<=n) (h1:n<=1000):zO 27 [.ptr 1000 0 0,iA n] [(1000,dZ d)] (zD yA (fG (ad d) (nx d (n+1)).toNat).1) [(1000,dZ (fG (ad d) (nx d (n+1)).toNat).2)]:=by
 have c1:=yH d (n+1) zB zB;have b1:=yC d (n+1) zB;generalize nx d (n+1)=k at *;generalize ad d=d1 at *;obtain⟨N,hN⟩:∃N:Nat,k.toNat=N:=⟨_,rfl⟩;have hN2:k=(N:Int):=by omega
 rw[hN];subst hN2;refine eM call27 λF hF=>?_
 refine zW c1 ?_;refine xC 5 1001 1 Z Z Z ?_;refine zN (N) [1000,1001] [] [0] [5,6,0] Z (λi T U=>⟨(5,.ref 1001 0 ((fG d1 i).1.map yA).length)::(6,iA ((N:Int)-i))::T,(1000,dZ (fG d1 i).2)::(1001,.arr 1 ((fG d1 i).1.map yA) true)::U⟩) ?_;(conv=>whnf);refine⟨by(rw[show(N:Int)-(0:Nat)=N by omega];rfl),?_,?_⟩
 ·intro i hi;have hl:=(zB8 d1 i).1;have eS:fG d1 (i+1)=((fG d1 i).1++[nx (fG d1 i).2 256],ad (fG d1 i).2):=rfl;rw[show((N:Int)-((i+1:Nat):Int))=(N:Int)-i-1 by omega];generalize (fG d1 i).1=p at *;generalize (fG d1 i).2=e at *;have hk1:1<=(N:Int)-i:=by omega
  have hk2:(N:Int)-i<=1001:=by omega
  have hp:p.length<=1001:=by omega
  generalize (N:Int)-i=q at *;have n1:=yH e 256 zB zB;have w1:=yC e 256 zB;rw[eS];generalize nx e 256=y at *;generalize ad e=e1 at *;refine zW n1 ?_
  show restr _ _ _=_
  rw[yBn];rfl
 ·rw[show(N:Int)-(N:Int)=0 by omega];refine WW ?_;exact zH [1000] Z Z (yB8 (AV.sl false) yBj) Z
theorem zN0:∀(f:Nat) (n:Int),0<=n->n<128 ^ (f+1)->BY (enR f n)
 |0,n,h0,h1=>λx hx=>by
  rw[enR,yCf]at hx;subst hx;simp at h1;omega
 | f+1,n,h0,h1=>λx hx=>by
  rw[enR]at hx;split at hx
  ·rw[yCf]at hx;subst hx;omega
  ·rcases yCk.1 hx with rfl|hx
   ·omega
   ·exact zN0 f (n/128) zB (zA5 h1) x hx
def GT {n:Int} (h0:0<=n) (h1:n<=4294967295):BY (fL n):=zN0 4 n h0 zB
theorem zN1 (fx gr:Nat) (c:Int) (hc:0<=c/\c<256):∀(l:List Int) (i:Nat),RF l->BY (QB fx gr c i l)
 | [],_,_=>λx hx=>by cases hx
 | y::l,i,h=>λx hx=>by
  rw[QB]at hx
  rcases yBy.1 hx with hx|hx
  ·split at hx
   ·rw[yCf]at hx;subst hx;exact hc
   ·cases hx
  ·rcases yBy.1 hx with hx|hx
   ·have:=h y zQ;exact GT this.1 this.2 x hx
   ·exact zN1 fx gr c hc l (i+1) (λz hz=>h z (by simp[hz])) x hx
def zXo (m:Ms) (h:MgP m) (n:Nat) (n2:n<=2) (ng:xW m.kind≠0->1<=n) (nl:m.args.length=vL m.kind+n*xW m.kind):∃p,BY p/\p.length<=200/\p=YZ (vL m.kind) (xW m.kind) n m/\zO 64 [yB m] [] (.tup [zD yA p,iA 0]) []:=by
 have k1:=OZ m.kind h.k.1 h.k.2 m n Z h.l (by rw[h.d];simp) h.n nl zB;have hf:=GK m.kind;have hg:=GJ m.kind
 have hgn:n*xW m.kind<=8:=by rcases hg with e|e|e<;>rw[e]<;>omega
 have k2:=ZL m.kind h.k.1 h.k.2 m n Z h.l (by rw[h.d];simp) h.n zB (λ_=>nl) zB
 have hv:vmF (xW m.kind) n m.data=true:=by
  unfold vmF;rw[yBi,h.d];exact⟨rfl,by by_cases h0:xW m.kind=0;exact .inl h0;exact .inr (ng h0)⟩
 rw[hv]at k1;have hpl:=GH (vL m.kind) (xW m.kind) n m.args 0;have hll:=h.l;refine⟨YZ (vL m.kind) (xW m.kind) n m,λx hx=>?_,?_,rfl,?_⟩
 ·unfold YZ at hx;rw[h.d]at hx
  rcases yBy.1 hx with hx|hx
  ·rcases yBy.1 hx with hx|hx
   ·exact h.t x hx
   ·exact zN1 _ _ _ zB _ _ h.n x hx
  ·rw[yCd]at hx;split at hx
   ·rw[yCf]at hx;omega
   ·cases hx
 ·unfold YZ;rw[h.d,yCd,yBf,yBf]
  have:(if xW m.kind≠0/\m.args.length=vL m.kind then [(0:Int)]else []).length<=1:=by split<;>simp
  omega
 ·generalize YZ (vL m.kind) (xW m.kind) n m=p at *;refine eM call64 λF hF=>?_
  refine yS (vH k1 k2) ?_;exact zJ
def zXp (m:Ms) (h:MgP m):∃p,BY p/\p.length<=200/\zO 64 [yB m] [] (.tup [zD yA p,iA 0]) []:=by
 obtain⟨n,n2,ng,nl⟩:=h.c;obtain⟨p,h1,h2,_,h4⟩:=zXo m h n n2 ng nl;exact⟨p,h1,h2,h4⟩
def zZ6 (y:Int):0<=IntKind.u8.wrap y/\IntKind.u8.wrap y<256:=by
 unfold IntKind.wrap;simp[IntKind.signed,IntKind.bits];omega
section
variable {P:Program} {TT:List TI} {st:St}
def zN2 (hP:uG P TT) {T e k off len sz:Nat} {s x:Operand} {ti te:TI} {xs:List AV} {fl:Fl} {xv:AV} (hs:yK (zG st.tm) s= .ref k off len) (hk:zC st.h k=some (.arr sz xs fl)) (hx:yK (zG st.tm) x=xv) (hT:TT[T]? =some ti) (hd:ti.d= .slice e) (he:TT[e]? =some te) (hvs:BG (zC st.h) xv=some []):
  wP P st (.call ⟨.builtin .append, #[s,x], #[T,T]⟩) (.ref k off len) [] (k::QH xv) []:=by
 refine⟨?_⟩;intro X tm h hg hr _ o a w β ho HH Ht;obtain⟨dst,op',type,pos,after,guard⟩:=o;dsimp only at ho;subst ho;have hk':=(hr k zQ).trans hk;have h1:=hG Ht hg (x:=s) qT hs;have h2:=hG Ht hg (x:=x) qT hx;obtain⟨ad,cap,hcv,_⟩:=dS HH h2 ((gM λk' hk=>hr k' (by simp[hk])).trans hvs) (sz:=0) (λy hy=>by cases hy)
 have hsl:∃bd cp,a.eval s= .slice bd len cp/\len<=cp:=by
  generalize a.eval s=cx at h1
  cases h1 with
  |fz _ _ hf=>cases hf
  |dref _ _ _ _ hd _=>rw[hk']at hd;cases hd
  |ref0 _ _ sz' xs' st' b hk'' hn=>exact⟨_,0,rfl,yBg _⟩
  |ref _ _ _ sz' xs' st' b n cp hk'' hbm hn hc hs'=>exact⟨_,cp,rfl,hc⟩
 obtain⟨bd,cp,hcx,hcp⟩:=hsl;have hrun:=jD hP hT hd he w type bd ad len cp cap hcp
 have hex:(execOp a.eval ⟨dst,.call ⟨.builtin .append, #[s,x], #[T,T]⟩,type,pos,after,guard⟩).run P w= .ok (.value (.slice bd len cp)) w:=by
  rw[yCr]at hcv;simp[execOp,resolve,invoke,builtin,hcx,hcv,hrun]
 rw[hex,kE];exact⟨β,yW.refl HH,by rw[hcx]at h1;exact h1⟩
end
section
variable {P:Program} {TT:List TI} {K0:List Nat} {F:Fr K0} {m:Nat} {ops:Array Oper} {rest:List Oper} {Q:List FP->St->Prop} {tm:List (Nat×AV)} {h:List (Nat×xM)} {dr:Bool} {fs:List FP}
variable {ty:Nat} {pos:String} {after:Array Edge} {t:Nat}
def zEp (hP:uG P TT) {T e key len sz:Nat} {x l:Operand} {ti te:TI} {xs:List AV} {sl:Fl} {k:IntKind} {i:Int} (hx:yK (zG tm) x= .ref key 0 len) (hk:zC h key=some (.arr sz xs sl)) (hl:yK (zG tm) l= .s (.int k i)) (hT:TT[T]? =some ti) (hd:ti.d= .slice e) (he:TT[e]? =some te)
  (hsz:Nat.beq sz te.size=true) (h0:0<=i) (h1:i<=len) (hm:Nat.blt t m=true) (hr:zX P F m ops dr rest ⟨(t,.ref key 0 i.toNat)::tm,h⟩ (⟨true,[],[key]⟩::fs) Q):
  zX P F m ops dr (⟨some t,.slice T x none (some l) none,ty,pos,after,none⟩::rest) ⟨tm,h⟩ fs Q:=by
 have:=gZ (P:=P) (st:=⟨tm,h⟩) (lo:=none) (hi:=some l) (l:=0) (r:=i.toNat) hP hx hk hT hd he Z ⟨k,i,hl,zB⟩ (yBt _) zB hsz;rw[yF6]at this;exact wK this hm hr
end
def yA7 (a y:Int) (h0:0<=y/\y<=1023):zO 30 [zD yA [],iA a,iA y] [] (zD yA [IntKind.u8.wrap y]) []:=by
 refine eM call30 λF hF=>?_
 refine WL ?_;exact zJ
section
variable (b:List Int) (a y k:Int) (hl:1<=b.length) (hn:b.length<=1000) (h0:0<=y/\y<=1023) (hk:a % (b.length:Int)=k)
include hl hn h0 hk
def KP (j:Int) (hj:y.tdiv 256 % 4=j):(b.map yA).length=b.length/\zO 14 [iA a,iA (((b.map yA).length:Nat):Int)] [] (iA k) []/\zO 14 [iA (y.tdiv 256),iA 4] [] (iA j) []/\aA .i64 (y.tdiv 256)/\0<=k/\k<(b.length:Int):=by
 have hbl:=zA yA b;have c1:=CI a (b.length:Int) zB zB;have c2:=CI (y.tdiv 256) 4 zB zB;have hk0:=yEq a (show(b.length:Int)≠0 by omega);have hk1:=yEf a (show 0<(b.length:Int) by omega);rw[hk]at c1 hk0 hk1;rw[hj]at c2;exact⟨hbl,by rw[hbl];exact c1,c2,by rw[yC5 h0.1];unfold aA;omega,hk0,hk1⟩
def yA8 (hj:y.tdiv 256 % 4=3):zO 30 [zD yA b,iA a,iA y] [] (zD yA (b.take k.toNat)) []:=by
 obtain⟨hbl,c1,c2,hq,k0,k1⟩:=KP b a y k hl hn h0 hk 3 hj;clear hk hj;unfold zD;refine eM call30 λF hF=>?_
 refine WLc (vH c1 c2) ?_;exact zJ
def yA9 (hj:y.tdiv 256 % 4=2):zO 30 [zD yA b,iA a,iA y] [] (zD yA (b.take k.toNat++[IntKind.u8.wrap y]++b.drop k.toNat)) []:=by
 obtain⟨hbl,c1,c2,hq,k0,k1⟩:=KP b a y k hl hn h0 hk 2 hj;clear hk hj;have e:zD yA (b.take k.toNat++[IntKind.u8.wrap y]++b.drop k.toNat)= .sl false ((b.take k.toNat).map yA++[yA (IntKind.u8.wrap y)]++(b.drop k.toNat).map yA):=by rw[zD,yBn,yBn];rfl
 rw[e];unfold zD;have hm:(b.take k.toNat).length=k.toNat:=by rw[yB4];omega
 refine eM call30 λF hF=>?_
 (have zc1:=c1;have zc2:=c2;(repeat' (first|refine WYX ?_|((first|apply xE|apply xV)<;>intro hc)|(refine zE ?_;first|refine SL ?_)|refine SB ?_|fail))<;>clear zc1 zc2)
 (repeat' (first|refine bW ?_|((first|apply xE|apply xV)<;>intro hc)|(refine zE ?_;first|(refine yR ?_;refine qH tok Z Z ?_)|(refine yM ?_;refine gQ 1001 tok Z Z Z Z Z Z (yV _ _ (λ_=>rfl)) Z Z Z (by first|omega|(simp;omega)) Z Z Z ?_))|refine SB ?_|fail))
 exact zH [] Z Z (yB8 (AV.sl false) yBj) Z
def zZ7 (hj:y.tdiv 256 % 4=0):zO 30 [zD yA b,iA a,iA y] [] (zD yA (b.set k.toNat (IntKind.u8.wrap y))) []:=by
 obtain⟨hbl,c1,c2,hq,k0,k1⟩:=KP b a y k hl hn h0 hk 0 hj;clear hk hj;have e:zD yA (b.set k.toNat (IntKind.u8.wrap y))= .sl false ((b.map yA).set k.toNat (yA (IntKind.u8.wrap y))):=by rw[zD,yDa]
 rw[e];have hy:=yL yA b k k0 k1;unfold zD;refine eM call30 λF hF=>?_
 (have zc1:=c1;have zc2:=c2;(repeat' (first|refine uC ?_|((first|apply xE|apply xV)<;>intro hc)|(refine zE ?_;first|(refine yM ?_;refine gQ 1001 tok Z Z Z Z Z Z (yV _ _ (λ_=>rfl)) Z Z Z zB Z Z Z ?_))|fail))<;>clear zc1 zc2)
 exact zH [] Z Z (yB8 (AV.sl false) (by rw[yCg];exact yBo zQ)) Z
def zZ8 (hj:y.tdiv 256 % 4=1) (h1:1<=k) (h2:k+1<b.length):zO 30 [zD yA b,iA a,iA y] [] (zD yA (b.take k.toNat++b.drop (k.toNat+1))) []:=by
 obtain⟨hbl,c1,c2,hq,k0,k1⟩:=KP b a y k hl hn h0 hk 1 hj;clear hk hj
 have hB:∀y∈b.map yA,y.cells.length=1:=λy hy=>by
  rw[yCc]at hy;obtain⟨z,_,rfl⟩:=hy;rfl
 have e:zD yA (b.take k.toNat++b.drop (k.toNat+1))= .sl false ((b.map yA).take k.toNat++(b.map yA).drop (k.toNat+1)):=by rw[zD,yBn,yFe,yFd]
 rw[e];unfold zD;refine eM call30 λF hF=>?_
 (have zc1:=c1;have zc2:=c2;(repeat' (first|refine WZX ?_|((first|apply xE|apply xV)<;>intro hc)|(refine zE ?_;first|(refine yM ?_;refine gQ 1001 tok Z Z Z Z Z Z (yV _ _ (λ_=>rfl)) Z Z Z zB Z Z Z ?_))|fail))<;>clear zc1 zc2)
 refine yX ?_
 (repeat' (first|refine uC ?_|((first|apply xE|apply xV)<;>intro hc)|(refine zE ?_;first|(refine jI ?_;first|refine fB tok Z Z Z Z Z Z Z zB zB Z ?_|refine zEp tok Z Z Z Z Z Z Z zB zB Z ?_)|(refine yM ?_;refine zDr tok Z Z Z Z Z Z Z Z (λy hy=>hB y (yCt (yDb (yCz hy)))) wU zB wU zB Z Z ?_))|fail))
 refine zH [] Z Z (yB8 (AV.sl false) ?_) Z
 have hv:List.take ((b.map yA).length-(k+1).toNat) (List.drop (k+1).toNat (b.map yA))=List.drop (k.toNat+1) (b.map yA):=by
  rw[show(k+1).toNat=k.toNat+1 by omega];exact yBo SZ
 rw[hv,yCg];exact List.take_left' (by rw[yBf,yB4];omega)
def zZ9 (hj:y.tdiv 256 % 4=1) (h2:k+1=b.length):zO 30 [zD yA b,iA a,iA y] [] (zD yA (b.take k.toNat)) []:=by
 obtain⟨hbl,c1,c2,hq,k0,k1⟩:=KP b a y k hl hn h0 hk 1 hj;clear hk hj;have e:zD yA (b.take k.toNat)= .sl false ((b.map yA).take k.toNat):=by rw[zD,yFe]
 rw[e]
 have hv:((b.map yA).drop (k+1).toNat).take ((b.map yA).length-(k+1).toNat)=[]:=by
  rw[show(b.map yA).length-(k+1).toNat=0 by omega,yEb]
 unfold zD;refine eM call30 λF hF=>?_
 (have zc1:=c1;have zc2:=c2;(repeat' (first|refine WZX ?_|((first|apply xE|apply xV)<;>intro hc)|(refine zE ?_;first|(refine yM ?_;refine gQ 1001 tok Z Z Z Z Z Z (yV _ _ (λ_=>rfl)) Z Z Z zB Z Z Z ?_))|fail))<;>clear zc1 zc2)
 refine yX ?_
 (repeat' (first|refine uC ?_|((first|apply xE|apply xV)<;>intro hc)|(refine zE ?_;first|(refine jI ?_;first|refine fB tok Z Z Z Z Z Z Z zB zB Z ?_|refine zEp tok Z Z Z Z Z Z Z zB zB Z ?_)|(refine yM ?_;refine wK (zN2 tok Z Z Z Z Z Z ((yB8 some hv:some _=_))) Z ?_))|fail))
 exact zJ
def yAa (hj:y.tdiv 256 % 4=1) (h2:k=0) (h3:1<b.length):zO 30 [zD yA b,iA a,iA y] [] (zD yA (b.drop 1)) []:=by
 obtain⟨hbl,c1,c2,hq,k0,k1⟩:=KP b a y k hl hn h0 hk 1 hj;subst h2;clear hk hj
 have hB:∀y∈b.map yA,y.cells.length=1:=λy hy=>by
  rw[yCc]at hy;obtain⟨z,_,rfl⟩:=hy;rfl
 have e:zD yA (b.drop 1)= .sl false ((b.map yA).drop 1):=by rw[zD,yFd]
 rw[e];unfold zD;refine eM call30 λF hF=>?_
 (have zc1:=c1;have zc2:=c2;(repeat' (first|refine WZX ?_|((first|apply xE|apply xV)<;>intro hc)|(refine zE ?_;first|(refine yM ?_;refine gQ 1001 tok Z Z Z Z Z Z (yV _ _ (λ_=>rfl)) Z Z Z zB Z Z Z ?_))|fail))<;>clear zc1 zc2)
 refine yX ?_
 (repeat' (first|refine WS ?_|refine SG (I2 (λhc=>?_) λhc=>?_)|refine SG λhc=>?_|(refine zE ?_;first|(refine jI ?_;first|refine fB tok Z Z Z Z Z Z Z zB zB Z ?_|refine zEg tok Z Z Z Z Z Z Z Z ?_))|(first|refine zDs 7 9 Z Z ?_|first|refine SR ?_|refine SK (I2 (λhc=>?_) λhc=>?_)|refine SK λhc=>?_|fail)|fail))
 refine zLf TM ?_;refine zXn [] [] tok Z Z Z Z Z Z Z Z (λy hy=>hB y (yCt (yDb (yCz hy)))) Z Z wU wU Z Z Z Z ?_;refine WW ?_;refine zH [] Z Z ?_ Z
 show AV.sl false (List.take ((b.map yA).length-1) (List.drop 1 (b.map yA)))=_
 rw[yBo SZ]
end
def zGv (b:List Int) (hb:BY b) (hn:b.length<=1000) (a y:Int) (h0:0<=y/\y<=1023):∃q,BY q/\q.length<=b.length+1/\zO 30 [zD yA b,iA a,iA y] [] (zD yA q) []:=by
 have hw:=zZ6 y;by_cases hl:1<=b.length
 case neg=>
  have e:b=[]:=yCb zB;subst e;exact⟨_,λx hx=>by rw[yCf]at hx;subst hx;exact hw,by simp,yA7 a y h0⟩
 have k0:=yEq a (show(b.length:Int)≠0 by omega);have k1:=yEf a (show 0<(b.length:Int) by omega);have j0:=yEq (y.tdiv 256) (show(4:Int)≠0 by omega);have j1:=yEf (y.tdiv 256) (show(0:Int)<4 by omega);have hT:BY (b.take (a % (b.length:Int)).toNat):=λx hx=>hb x (yDb hx)
 have hD:∀n,BY (b.drop n):=λn x hx=>hb x (yCt hx)
 have hlt:(b.take (a % (b.length:Int)).toNat).length<=b.length:=by rw[yB4];omega
 obtain hj|hj|hj|hj:y.tdiv 256 % 4=0∨y.tdiv 256 % 4=1∨y.tdiv 256 % 4=2∨y.tdiv 256 % 4=3:=by omega
 ·refine⟨_,λx hx=>?_,by rw[yC3];omega,zZ7 b a y _ hl hn h0 Z hj⟩
  rcases yEk hx with h|rfl
  ·exact hb x h
  ·exact hw
 ·by_cases h2:a % (b.length:Int)+1=b.length
  ·exact⟨_,hT,zB,zZ9 b a y _ hl hn h0 Z hj h2⟩
  ·by_cases h1:1<=a % (b.length:Int)
   ·refine⟨_,λx hx=>?_,?_,zZ8 b a y _ hl hn h0 Z hj h1 zB⟩
    ·rcases yBy.1 hx with h|h
     ·exact hT x h
     ·exact hD _ x h
    ·rw[yBf,yCj,yB4];omega
   ·exact⟨_,hD 1,by rw[yCj];omega,yAa b a y _ hl hn h0 Z hj zB zB⟩
 ·refine⟨_,λx hx=>?_,?_,yA9 b a y _ hl hn h0 Z hj⟩
  ·rcases yBy.1 hx with h|h
   ·rcases yBy.1 h with h|h
    ·exact hT x h
    ·rw[yCf]at h;subst h;exact hw
   ·exact hD _ x h
  ·rw[yBf,yBf,yCj,yB4,yDu];omega
 ·exact⟨_,hT,zB,yA8 b a y _ hl hn h0 Z hj⟩
def zN3 {α:Type} (I:Nat->α->Prop) (R:Nat->α->α->Prop) (h:∀i a,I i a->∃b,R i a b/\I (i+1) b) (a0:α) (h0:I 0 a0):∃f:Nat->α,f 0=a0/\∀i,I i (f i)/\R i (f i) (f (i+1)):=by
 have hg:∀i a,∃b,I i a->R i a b/\I (i+1) b:=λi a=>by
  by_cases hi:I i a
  ·obtain⟨b,hb⟩:=h i a hi;exact⟨b,λ_=>hb⟩
  ·exact⟨a,λh=>absurd h hi⟩
 let f:Nat->α:=λn=>Nat.rec a0 (λi a=>(hg i a).choose) n
 have hf:∀i,I i (f i):=λi=>by
  induction i with
  |zero=>exact h0
  |succ i ih=>exact((hg i (f i)).choose_spec ih).2
 exact⟨f,rfl,λi=>⟨hf i,((hg i (f i)).choose_spec (hf i)).1⟩⟩
def d00:Dk:=⟨[],0,yBt _,yBt _⟩
end Av
end Go.Proofs.YteajjdidebfcjaaGreat
