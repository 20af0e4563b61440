/- Part 15. -/
import Derived.Test.YteajjdidebfcjaaGreatU14
namespace Go.Proofs.YteajjdidebfcjaaGreat
namespace Av
open Tryz
set_option linter.all false
set_option maxRecDepth 4000
set_option maxHeartbeats 4000000
theorem zMg:∀{qs:List Qd} {q:Qd},q∈qs->q.j∈XR qs/\q.p∈XR qs/\q.f∈XR qs/\q.t∈XR qs
 |x::l,q,h=>by
  rw[show XR (x::l)=x.j::x.p::x.f::x.t::XR l from Z]
  rcases yBt.1 h with rfl|h
  ·simp
  ·obtain⟨h1,h2,h3,h4⟩:=zMg h;simp[h1,h2,h3,h4]
theorem zB5 {α β γ:Type} {f:α->β->γ}:∀{a:List α} {b:List β} {g:γ},g∈a.zipWith f b->∃x∈a,∃y,g=f x y
 |x::a,y::b,g,h=>by
  rw[yD2]at h
  rcases yBt.1 h with rfl|h
  ·exact⟨x,by simp,y,rfl⟩
  ·obtain⟨z,hz,w,e⟩:=zB5 h;exact⟨z,by simp[hz],w,e⟩
 | [],_,_,h=>by simp at h
 |_::_,[],_,h=>by simp at h
def zMh (l:List Rq) (r:Rq):(ZE l r).length=l.length+1:=by
 have:=IY l r.id;unfold ZE;rw[yAf,yAp,yAw,yA7];omega
def zWf {j p f t now:Int} (h:mwB j p f t now=true):(mwF j p f t now).jn=j/\(mwF j p f t now).ph=p:=by
 unfold mwF;rw[yAd h];exact⟨rfl,rfl⟩
def zYc {c:Cf} {now:Int} {qs:List Qd} (h:qs.all (OU c now)=true):∀g∈qs.map (IN now),g.jn<(c.js.length:Int)/\g.ph<((c.js.getD g.jn.toNat default).ph.length:Int):=by
 intro g hg;rw[yBl]at hg;obtain⟨q,hq,rfl⟩:=hg;have h1:=yAu.1 h q hq;unfold OU at h1;simp only[yAs,yAm]at h1;obtain⟨h2,h3,h4⟩:=h1;obtain⟨e1,e2⟩:=zWf h4;unfold IN;rw[e1,e2];exact⟨h2,h3⟩
def zZy {l:List Rq} {q id life:Int} {x:List Lg} (h:suE l q id life x=0):(l.length:Int)<q/\(l.length:Int)<4:=by
 unfold suE at h;split at h
 ·omega
 ·split at h
  ·omega
  ·split at h
   ·omega
   ·omega
def zYd {c:Cf} {d:xJ} {cls id v life now:Int} {qs:List Qd} (h:dsE c d cls id v life now qs=0):zIa (bF d.rg.vh v)=true/\qs.all (OU c now)=true/\suE d.rq d.rg.ag.req id life (qs.map (IN now))=0:=by
 unfold dsE sxE at h;split at h
 ·split at h
  ·omega
  ·split at h
   ·rename_i ha;split at h
    ·split at h
     ·rename_i hv;exact⟨hv,ha,h⟩
     ·omega
    ·omega
   ·omega
 ·omega
def zZz {c:Cf} {d:xJ} (hI:uU c d) {cls id v life now:Int} {qs:List Qd} (n0:0<=now) (n1:now<=1073741824) (h:dsE c d cls id v life now qs=0):uU c (dkQ d (dsL c d cls id v life now qs)):=by
 obtain⟨hv,ha,hs⟩:=zYd h;unfold zIa at hv;rw[yAm]at hv;have hl:=zZy hs;unfold dkQ dsL;rw[yAd h];refine⟨hI.b,zUe hI.v hs hv.1.1 hv.1.2 hv.2.1 hv.2.2 n0 n1,?_,λr hr g hg=>?_,hI.a,hI.n,hI.t8,hI.br,hI.bb,hI.bl,hI.au,hI.dn,hI.dr,hI.vh⟩
 ·dsimp only;rw[zMh];omega
 ·rcases OZ hr with rfl|hr
  ·exact zYc ha g hg
  ·exact hI.lg r hr g hg
def zZ0 {c:Cf} {d:xJ} (hI:uU c d) {id now:Int} {ws:List (Int×Int)} (h:aD d.rq id ws now=0):uU c (dkQ d (upQ d.rq id ws now)):=by
 unfold dkQ upQ;rw[yAd h];have hl:(LP d.rq id ws now).length=d.rq.length:=by unfold LP;rw[yAe]
 refine⟨hI.b,zUg hI.v h,?_,λr hr g hg=>?_,hI.a,hI.n,hI.t8,hI.br,hI.bb,hI.bl,hI.au,hI.dn,hI.dr,hI.vh⟩
 ·dsimp only;rw[hl];exact hI.q
 ·dsimp only at hr;unfold LP at hr;rw[yBl]at hr;obtain⟨r0,hr0,rfl⟩:=hr;split at hg
  ·obtain⟨x,hx,y,rfl⟩:=zB5 hg;exact hI.lg r0 hr0 x hx
  ·exact hI.lg r0 hr0 g hg
def zYe {c:Cf} {d:xJ} (hI:uU c d) (p:Rq->Bool):uU c (dkQ d (d.rq.filter p)):=by
 have hl:=yCo p d.rq;have hq:=hI.q;refine⟨hI.b,hI.v.filter p,?_,λr hr g hg=>hI.lg r ((yDz.1 hr).1) g hg,hI.a,hI.n,hI.t8,hI.br,hI.bb,hI.bl,hI.au,hI.dn,hI.dr,hI.vh⟩
 show((d.rq.filter p).length:Int)<=d.rg.ag.req
 omega
def zYf {c:Cf} {d:xJ} {cls id v life now:Int} {qs:List Qd} (h:dsE c d cls id v life now qs=0):UA d.rq (dsL c d cls id v life now qs):=by
 unfold dsL;rw[yAd h];intro r hr g hg
 rcases OZ hr with rfl|hr
 ·refine .inl ?_;obtain⟨q,hq,rfl⟩:=yBl.1 hg;have h1:=yAu.1 (zYd h).2.1 q hq;unfold OU at h1;simp only[yAs,yAm]at h1;unfold IN mwF;rw[yAd h1.2.2]
 ·exact .inr ⟨r,hr,rfl,g,hg,rfl,rfl,rfl⟩
def zYg {d:xJ} {id now:Int} {ws:List (Int×Int)} (h:aD d.rq id ws now=0):UA d.rq (upQ d.rq id ws now):=by
 unfold upQ;rw[yAd h];intro r hr g hg;unfold LP at hr;rw[yBl]at hr;obtain⟨r0,hr0,rfl⟩:=hr;split at hg
 ·obtain⟨x,hx,y,rfl⟩:=zB5 hg;exact .inr ⟨r0,hr0,by split<;>rfl,x,hx,rfl,rfl,rfl⟩
 ·exact .inr ⟨r0,hr0,by split<;>rfl,g,hg,rfl,rfl,rfl⟩
def zYh (d:xJ) (m:Ms) (r':Rg) (u:Bool):UA d.rq (dgD d m r' u 0).rq:=by
 unfold dgD;rw[yAd Z];dsimp only;split
 ·exact UA.filter _ _
 ·exact UA.refl _
def zZ1 {c:Cf} {d:xJ} (hI:uU c d) {m:Ms} {sec:List Int} {r':Rg} {p:Ms} {u:Bool} (hb:EZ r') (hP:DoP d.rg m sec r' p u 0):uU c (dgD d m r' u 0)/\(dgD d m r' u 0).rg.ag=d.rg.ag/\(dgD d m r' u 0).rg.num=d.rg.num/\(dgD d m r' u 0).dr.length<=d.dr.length/\AC d (dgD d m r' u 0):=by
 have hdr:(if u=true then d.dr.drop 1 else d.dr).length<=1000/\∀x∈(if u=true then d.dr.drop 1 else d.dr),x.length=8/\BY x:=by
  split
  ·exact⟨by have:=hI.dn;rw[yA7];omega,λx hx=>hI.dr x (yBc hx)⟩
  ·exact⟨hI.dn,hI.dr⟩
 have hrq:ZL (if m.kind=5 then DB d.rq (m.args.getD 0 0)else d.rq)/\((if m.kind=5 then DB d.rq (m.args.getD 0 0)else d.rq).length:Int)<=d.rg.ag.req/\zYx c (if m.kind=5 then DB d.rq (m.args.getD 0 0)else d.rq):=by
  split
  ·have h:=zYe hI (λx=>x.vh != m.args.getD 0 0);exact⟨h.v,h.q,h.lg⟩
  ·exact⟨hI.v,hI.q,hI.lg⟩
 have hdd:(if u=true then d.dr.drop 1 else d.dr).length<=d.dr.length:=by
  split
  ·rw[yA7];omega
  ·exact yAg _
 unfold dgD;rw[yAd Z]
 rcases hP.2 Z with⟨o,ho,hT,rfl,_⟩|⟨o,ho,rfl,_⟩
 ·refine⟨⟨hb,hrq.1,hrq.2.1,hrq.2.2,hI.a,hI.n,ho,hI.br,hI.bb,hI.bl,hI.au,hdr.1,hdr.2,hI.vh⟩,rfl,rfl,hdd,λh=>⟨hT h,rfl⟩⟩
 ·exact⟨⟨hb,hrq.1,hrq.2.1,hrq.2.2,hI.a,hI.n,hI.t8,hI.br,hI.bb,hI.bl,hI.au,hdr.1,hdr.2,ho⟩,rfl,rfl,hdd,AC.refl _⟩
def zWg {d:xJ} {i:It} {now:Int} {a:List Int} (ho:Opn d i now a):(opD d i now a).rg.ag=d.rg.ag/\(opD d i now a).rg.num=d.rg.num/\(opD d i now a).rg.tk=d.rg.tk/\(opD d i now a).rq=d.rq/\(opD d i now a).dr=d.dr/\(opD d i now a).au=d.au:=by
 unfold opD wB;rw[(QD ho.2.2.2.2).1];exact⟨rfl,rfl,rfl,rfl,rfl,rfl⟩
def zEg {l:List Tk} {g:Int} {b:List Int} {k now:Int} (h:ckB l g b k now=true):eV l (b.getD 1 default)=true:=by
 unfold ckB at h;simp only[yAs]at h;exact h.1.2
def zZ2 (r:Rg) (m:Ms) (now:Int):0<=opE r m now/\opE r m now<=100:=by
 unfold opE;split
 ·split<;>omega
 ·omega
def zYi (c:Cf) (d:xJ) (cls id v life now:Int) (qs:List Qd):0<=dsE c d cls id v life now qs/\dsE c d cls id v life now qs<=100:=by
 unfold dsE sxE suE
 repeat' split
 all_goals omega
def zYj (l:List Rq) (id:Int) (ws:List (Int×Int)) (now:Int):0<=aD l id ws now/\aD l id ws now<=100:=by
 unfold aD
 repeat' split
 all_goals omega
def zYk {d:xJ} {i:It} {now:Int} {a:List Int} (h:NoT d.rg.tk) (ho:Opn d i now a):i.kind≠10:=λhk=>by
 have h1:=(QD ho.2.2.2.2).2.1;have h2:=zEg h1;unfold ckB at h1;dsimp only at h1;rw[hk]at h1;simp only[yAs]at h1;unfold eV at h2;rw[yAs,yAm]at h2;dsimp only at h2;have h3:=h _ (zQ d.rg.tk _ (show((i.pay.take 10).getD 1 default).toNat<d.rg.tk.length by have:=h2.1;omega)) h2.2;rw[show peF (zHz d.rg.tk (i.pay.take 10)).rights 10=false from h3]at h1;exact absurd h1.2.2 yAx
theorem zGm (c:Cf) (d:xJ) (hI:uU c d) (s now:Int) (n0:0<=now) (n1:now<=1073741824) (i:It) (hby:BY i.pay) (hlen:i.pay.length<=100000):∃h,QC c d s i now h/\HdP c d s i now h:=by
 by_cases hc:i.code=0
 case neg=>exact AD hI hc PI d (.inl Z) (zOb c d s now i hc) (zRq c d s now hI.bd i hc) id
 by_cases hk:1<=i.kind/\i.kind<=12
 case neg=>exact AD hI xL PI d (.inl Z) (zOc c d s now i hc hk) (zRr c d s now hI.bd i hc hk)
 obtain⟨h0,h1⟩:=hk;have k2:=zId i.kind h0 h1 i.pay hby hlen;have r2:=zFe i.kind h0 h1 i.pay hby hlen;have hii:i=⟨0,i.kind,i.pay⟩:=by cases i;simp_all
 cases hd:OW (vS i.kind) (xX i.kind) i.pay with
 |none=>
  rw[hd]at k2 r2;have q1:=zOd c d s now i.kind i.pay h0 h1 k2;have q2:=zRs c d s now hI.bd i.kind i.pay h0 h1 r2;rw[<-hii]at q1 q2;exact AD hI xL PI d (.inl Z) q1 q2
 |some ar=>
 rw[hd]at k2 r2;obtain⟨_,hl10,hv,hg0,hg1⟩:=zRv hby hd;have hbt:BY (i.pay.take 10):=λx hx=>hby x (yBy hx)
 have hlv:d.rg.bk.level<=1000000:=by have:=hI.bl;have:=hI.a.b;omega
 have k3:=zT0 d.rg ⟨i.kind,i.pay.take 10,ar,[]⟩ now hI.b hbt hlv;have r3:=zRu d.rg ⟨i.kind,i.pay.take 10,ar,[]⟩ now hI.b hbt hlv;by_cases ho:opE d.rg ⟨i.kind,i.pay.take 10,ar,[]⟩ now=0
 case neg=>
  have q1:=zOe c d s now i.kind i.pay (i.pay.take 10) ar h0 h1 k2 _ _ _ ho k3;have q2:=zRt c d s now hI.bd i.kind i.pay (i.pay.take 10) ar h0 h1 r2 _ _ _ ho r3;rw[<-hii]at q1 q2;exact AD hI ho PI d (.inl Z) q1 q2 (λ_=>zZ2 _ _ _)
 have hO:Opn d i now ar:=⟨hc,h0,h1,hd,ho⟩;obtain⟨_,hck,_,hsl⟩:=QD ho;rw[ho,hsl]at k3 r3;have hus:=zEg hck;dsimp only at hsl hus;generalize (i.pay.take 10).getD 1 default=sl at *;have hI1:=zS6 hI hO;obtain⟨ea,en,et,eq,er,eu⟩:=zWg hO
 have hs0:0<=sl/\sl<(d.rg.tk.length:Int):=by
  unfold eV at hus;rw[yAs,yAm]at hus;exact hus.1
 have hsd:opD d i now ar=wB d (opR d.rg ⟨i.kind,i.pay.take 10,ar,[]⟩ now):=rfl;generalize opR d.rg ⟨i.kind,i.pay.take 10,ar,[]⟩ now=r1 at *;have tl:(i.pay.take 10).length<=1000:=by rw[yAw];omega
 have NO:∀(e:Int),e≠0->0<=e/\e<=100->∀(p p2:Ms) (k2':Int),zN 170 [wD c,zL d,iA s,wI ⟨0,i.kind,i.pay⟩,iA now] [] (hT (wB d r1) p (-1) e) []->
   yY [wD c,zL (wB d r1),iA s,yB ⟨i.kind,i.pay.take 10,ar,[]⟩,iA sl,iA now] [] (hT (wB d r1) p2 k2' e) []->∃h,QC c d s i now h/\HdP c d s i now h:=by
  intro e he heb p p2 k2' q1 q2;have q3:=zS3 c d s now hI.bd i.kind i.pay _ ar h0 h1 r2 r1 sl r3 (wB d r1) (hsd▸hI1.bd) p2 k2' e q2;rw[zMv he]at q3;rw[<-hii]at q1 q3;exact AD hI he p _ (.inr ⟨ar,hO,hsd.symm⟩) q1 q3 (λ_=>heb)
 have YES:∀(d':xJ) (p:Ms) (k:Int),uU c d'->d'.rg.ag=d.rg.ag->d'.rg.num=d.rg.num->RpF d i now ar ⟨d',p,k,0⟩->(k= -1∨(i.kind=11/\0<=k/\k<(c.js.length:Int)))->d'.dr.length<=d.dr.length->AC d d'->zN 170 [wD c,zL d,iA s,wI ⟨0,i.kind,i.pay⟩,iA now] [] (hT d' p k 0) []->
   yY [wD c,zL (wB d r1),iA s,yB ⟨i.kind,i.pay.take 10,ar,[]⟩,iA sl,iA now] [] (hT d' p k 0) []->d'.au=d.au->UA d.rq d'.rq->∃h,QC c d s i now h/\HdP c d s i now h:=by
  intro d' p k hi ha hn hr hk hdl ht0 q1 q2 hau hsc;have q3:=zS3 c d s now hI.bd i.kind i.pay _ ar h0 h1 r2 r1 sl r3 d' hi.bd p k 0 q2;rw[zEk]at q3;rw[<-hii]at q1 q3;exact zWt hI ar hO p k d' hi ha hn hr hk hdl ht0 q1 q3 hau hsc
 rw[hsd]at hI1 ea en et eq er eu;have hgk:xX i.kind=0∨xX i.kind≠0:=by omega
 have hcs:i.kind=1∨(i.kind=2∨i.kind=3∨i.kind=4∨i.kind=5)∨i.kind=6∨i.kind=7∨i.kind=8∨i.kind=9∨i.kind=10∨i.kind=11∨i.kind=12:=by omega
 rcases hcs with hk|hk|hk|hk|hk|hk|hk|hk|hk
 ·
  have hal:ar=[]:=yBb (by rw[hg0 KU,hk];rfl);subst hal;have hsame:=MP hO (.inl hk);rw[hsd]at hsame;rw[hsame]at hI1;have q1:=IA c d s now i.kind i.pay _ [] h0 h1 k2 r1 sl k3 (.inl hk) (OS d now) (by rw[hsame,hk];exact EK d now);have q2:=zMr c d s now (i.pay.take 10) sl;rw[hsame]at q1;refine YES d _ _ hI1 Z Z (.inl ⟨hk,rfl,rfl⟩) (.inl Z) (yAg _) (AC.refl _) q1 ?_ Z (UA.refl _);rw[hsame,hk];exact q2
 ·
  obtain⟨a,ar1,har⟩:∃a ar1,ar=a::ar1:=by
   cases ar with
   |nil=>exfalso;have:=hg0 zSp;rcases hk with hk|hk|hk|hk<;>rw[hk]at this<;>cases this
   |cons a ar1=>exact⟨a,ar1,rfl⟩
  have hal:ar.length<=1000:=by have:=hg0 zSp;have:=IQ i.kind;omega
  have hm:MsB ⟨i.kind,i.pay.take 10,ar,[]⟩:=⟨tl,hal,yAt _⟩
  have hsec:(LJ (wB d r1)).length<=1000:=by
   unfold LJ wB;dsimp only
   cases hdr:d.dr with
   |nil=>simp
   |cons b bs=>have:=(hI.dr b (by rw[hdr];simp)).1;simp;omega
  have hsb:BY (LJ (wB d r1)):=by
   unfold LJ wB;dsimp only
   cases hdr:d.dr with
   |nil=>exact λx hx=>by cases hx
   |cons b bs=>exact(hI.dr b (by rw[hdr];simp)).2
  have hvh:r1.vh.length<=1000:=by have:=hI1.vh;exact yBn this zB
  obtain⟨r',p,u,e,hr',hp',hP,f1,f2⟩:=zN9 r1 hvh ⟨i.kind,i.pay.take 10,ar,[]⟩ hm sl now (LJ (wB d r1)) hsec
  have h5:i.kind=5->∃a,ar=[a]:=λh=>by
   have h9:=hg0 (by rw[h];rfl);rw[h]at h9;exact zE5 h9
  have q1:=zTo (wB d r1) ⟨i.kind,i.pay.take 10,ar,[]⟩ sl now hI1.v hI1.dn r' p u e f1 h5
  have hu:u=true->(wB d r1).dr≠[]:=λhu h9=>by
   have he:e=0:=by
    by_cases he:e=0
    ·exact he
    ·rw[(hP.1 he).1]at hu;cases hu
   have h10:LJ (wB d r1)=[]:=by unfold LJ;rw[h9];rfl
   rcases hP.2 he with⟨o,_,_,_,h11|h11⟩|⟨o,_,_,h11,_⟩
   ·rw[h11.1]at hu;cases hu
   ·rw[h10]at h11;exact absurd h11.2.1 xL
   ·rw[h11]at hu;cases hu
  have q2:=zOa (wB d r1) ⟨i.kind,i.pay.take 10,ar,[]⟩ sl now hI1.v hI1.dn r' p u e f2 h5 hu;have w1:=zTp c d s now i.kind i.pay _ ar h0 h1 k2 r1 sl k3 hk _ _ e q1;have w2:=zWp c (wB d r1) s now (i.pay.take 10) sl i.kind ar a ar1 har hk _ p e q2;by_cases he:e=0
  ·subst he;rw[yAd Z]at w1;obtain⟨hi,ha,hn,hd1,hd2⟩:=zZ1 (m:=⟨i.kind,i.pay.take 10,ar,[]⟩) hI1 hr' hP;have hvx:0<=a/\a<=4294967295:=hv a (by rw[har];simp);refine YES _ p (-1) hi (ha.trans ea) (hn.trans en) ?_ (.inl Z) hd1 ((T0.of et eu).trans hd2) w1 w2 (by unfold dgD;rw[yAd Z];rfl) (zYh (wB d r1) _ r' u)
   rcases hP.2 Z with⟨o,_,_,_,h11|h11⟩|⟨o,_,_,_,h11,h12⟩
   ·obtain⟨_,h12,h13⟩:=h11;dsimp only at h13 h12;exact .inr (.inr (.inr (.inr ⟨zB,a,hvx.1,hvx.2,by rw[h12,har,h13];rfl⟩)))
   ·obtain⟨_,h12,h13,k,h14,h15⟩:=h11;have en':r1.num=d.rg.num:=en;exact .inr (.inr (.inr (.inl ⟨h13,k,_,h14,⟨h12,hsb⟩,by rw[h15,en']⟩)))
   ·dsimp only at h11 h12;exact .inr (.inr (.inr (.inr ⟨zB,a,hvx.1,hvx.2,by rw[h12,har];rfl⟩)))
  ·have e1:dgD (wB d r1) ⟨i.kind,i.pay.take 10,ar,[]⟩ r' u e=wB d r1:=by unfold dgD;rw[yAc he]
   rw[e1]at w1 w2;exact NO e he (hP.1 he).2 _ _ _ w1 w2
 ·
  obtain⟨cc,c1,c3,hl⟩:=hg1 (by rw[hk];decide);rw[hk,show vS 6=3 from Z,show xX 6=4 from Z]at hl
  obtain⟨id,v,life,ar1,har⟩:∃id v life ar1,ar=id::v::life::ar1:=by
   match ar,hl with
   |id::v::life::ar1,_=>exact⟨id,v,life,ar1,rfl⟩
   | [],h=>simp at h;omega
   | [_],h=>simp at h;omega
   | [_,_],h=>simp at h;omega
  subst har;obtain⟨qs,hqs,hqn⟩:=zS4 cc ar1 (by simp only[yAp]at hl;omega);subst hqs
  have hp:∀q∈qs,0<=q.j/\0<=q.p:=λq hq=>by
   obtain⟨m1,m2,_⟩:=zMg hq;exact⟨(hv q.j (by simp[m1])).1,(hv q.p (by simp[m2])).1⟩
  have hvx:=hv id zS;have s1:sl<((wB d r1).rg.tk.length:Int):=by rw[et];exact hs0.2
  have q1:=zTt c (wB d r1) (i.pay.take 10) id v life sl now qs hI1.bd hI1.v hs0.1 s1 zB hp n0 n1;have q2:=zAq c (wB d r1) 6 (i.pay.take 10) id v life ((wB d r1).rg.tk.getD sl.toNat default).cls now qs hI1.bd hI1.v zB hp n0 n1;by_cases he:dsE c (wB d r1) ((wB d r1).rg.tk.getD sl.toNat default).cls id v life now qs=0
  ·have hi:=zZz hI1 n0 n1 he;rw[he]at q1;rw[yAd he,he]at q2;have w1:=JZ c d s now i.kind i.pay _ _ h0 h1 k2 r1 sl k3 (.inl hk) id _ Z _ KV;have w2:=zMs c (wB d r1) s now (i.pay.take 10) sl _ id _ Z hs0.1 s1 _ 0 q2;refine YES _ (gE i.kind id) (-1) hi ea en (.inr (.inr (.inr (.inr ⟨zB,id,hvx.1,hvx.2,rfl⟩)))) (.inl Z) (yAg _) (T0.of et eu) w1 ?_ Z (zYf (d:=wB d r1) he);rw[hk];exact w2
  ·rw[yAc he]at q2;have w1:=JY c d s now i.kind i.pay _ _ h0 h1 k2 r1 sl k3 (.inl hk) _ _ he KV;have w2:=zMs c (wB d r1) s now (i.pay.take 10) sl _ id _ Z hs0.1 s1 _ _ q2;exact NO _ he (by first|exact zYi _ _ _ _ _ _ _ _|exact zYj _ _ _ _) _ _ _ w1 (by rw[hk];exact w2)
 ·
  obtain⟨cc,c1,c3,hl⟩:=hg1 (by rw[hk];decide);rw[hk,show vS 7=1 from Z,show xX 7=2 from Z]at hl
  obtain⟨id,ar1,har⟩:∃id ar1,ar=id::ar1:=by
   match ar,hl with
   |id::ar1,_=>exact⟨id,ar1,rfl⟩
   | [],h=>simp at h;omega
  subst har;obtain⟨ws,hqs,hqn⟩:=zS5 cc ar1 (by simp only[yAp]at hl;omega);subst hqs;have hvx:=hv id zS;have q1:=zTr c (wB d r1) (i.pay.take 10) id sl now ws hI1.v zB n0 n1;have q2:=zTs (wB d r1) (i.pay.take 10) id now ws hI1.v zB n0 n1;by_cases he:aD (wB d r1).rq id ws now=0
  ·have hi:=zZ0 hI1 he;rw[he]at q1;rw[yAd he,he]at q2;have w1:=JZ c d s now i.kind i.pay _ _ h0 h1 k2 r1 sl k3 (.inr (.inl hk)) id _ Z _ KV;have w2:=zMt c (wB d r1) s now (i.pay.take 10) sl _ id _ Z _ 0 q2;refine YES _ (gE i.kind id) (-1) hi ea en (.inr (.inr (.inr (.inr ⟨zB,id,hvx.1,hvx.2,rfl⟩)))) (.inl Z) (yAg _) (T0.of et eu) w1 ?_ Z (zYg (d:=wB d r1) he);rw[hk];exact w2
  ·rw[yAc he]at q2;have w1:=JY c d s now i.kind i.pay _ _ h0 h1 k2 r1 sl k3 (.inr (.inl hk)) _ _ he KV;have w2:=zMt c (wB d r1) s now (i.pay.take 10) sl _ id _ Z _ _ q2;exact NO _ he (by first|exact zYi _ _ _ _ _ _ _ _|exact zYj _ _ _ _) _ _ _ w1 (by rw[hk];exact w2)
 ·
  obtain⟨id,har⟩:=zE5 (show ar.length=1 by rw[hg0 KU,hk];rfl);subst har;have hvx:=hv id zS;have q1:=zTu c (wB d r1) (i.pay.take 10) id sl now hI1.v;have q2:=zWq c (wB d r1) s now (i.pay.take 10) sl id _ _ (zFk (wB d r1).rq id hI1.v);by_cases he:gF (wB d r1).rq id=true
  ·have hi:=zYe hI1 (λx=>x.id != id);rw[yAd he,yAd he]at q1;rw[yAd he,yAd he,yAd Z]at q2;have w1:=JZ c d s now i.kind i.pay _ _ h0 h1 k2 r1 sl k3 (.inr (.inr hk)) id [] Z _ KV;refine YES _ (gE i.kind id) (-1) hi ea en (.inr (.inr (.inr (.inr ⟨zB,id,hvx.1,hvx.2,rfl⟩)))) (.inl Z) (yAg _) (T0.of et eu) w1 ?_ Z (UA.filter _ _);rw[hk];exact q2
  ·rw[yAc he,yAc he]at q1;rw[yAc he,yAc he,yAc xL]at q2;have w1:=JY c d s now i.kind i.pay _ _ h0 h1 k2 r1 sl k3 (.inr (.inr hk)) _ 12 xL KV;exact NO 12 xL xL _ _ _ w1 (by rw[hk];exact q2)
 ·
  have hal:ar=[]:=yBb (by rw[hg0 KU,hk];rfl);subst hal;have hsame:=MP hO (.inr zB);rw[hsd]at hsame;rw[hsame]at hI1;have q1:=IA c d s now i.kind i.pay _ [] h0 h1 k2 r1 sl k3 (.inr (.inl hk)) (OT d) (by rw[hsame,hk];exact zAp d now hI.bd);have q2:=zRn c d s now (i.pay.take 10) sl hI.bd;rw[hsame]at q1;refine YES d _ _ hI1 Z Z (.inr (.inl ⟨hk,rfl,rfl⟩)) (.inl Z) (yAg _) (AC.refl _) q1 ?_ Z (UA.refl _);rw[hsame,hk];exact q2
 ·
  obtain⟨a,har⟩:=zE5 (show ar.length=1 by rw[hg0 KU,hk];rfl);subst har;have hvx:=hv a zS;by_cases ha:1<a
  ·have w1:=zOh c d s now i.kind i.pay _ [a] h0 h1 k2 r1 sl k3 hk a Z ha;have w2:=zRl c (wB d r1) s now (i.pay.take 10) sl a ha;exact NO 8 xL xL _ _ _ w1 (by rw[hk];exact w2)
  by_cases hs:0<=s/\s<(d.au.length:Int)
  case neg=>
   have w1:=zOi c d s now i.kind i.pay _ [a] h0 h1 k2 r1 sl k3 hk a Z zB hs;have w2:=zRm c (wB d r1) s now (i.pay.take 10) sl a zB (by rw[eu];exact hs);refine YES _ (gE 10 a) (-1) hI1 ea en (.inr (.inr (.inr (.inr ⟨zB,a,hvx.1,hvx.2,by rw[hk]⟩)))) (.inl Z) (yAg _) (T0.of et eu) w1 ?_ Z (UA.refl _);rw[hk];exact w2
  rw[hk]at k2 r2 k3 r3;have hI2:uU c ⟨r1,d.rq,d.dr,d.au.set s.toNat (a==1)⟩:=⟨hI1.b,hI1.v,hI1.q,hI1.lg,hI1.a,hI1.n,hI1.t8,hI1.br,hI1.bb,hI1.bl,by have:=hI1.au;dsimp only;rw[yB7];exact this,hI1.dn,hI1.dr,hI1.vh⟩;have w1:=zRo c d s now i.pay (i.pay.take 10) a hvx.1 zB k2 r1 sl k3 hs;have w2:=zRp c (wB d r1) s now (i.pay.take 10) sl a hvx.1 zB (by rw[eu];exact hs);have q1:=zWr c d s now ⟨0,10,i.pay⟩ hI.bd zB _ _ _ w1;have q2:=zWs c d s now hI.bd 10 i.pay _ [a] xL xL r2 r1 sl r3 _ hI2.bd _ _ w2;have en':r1.num=d.rg.num:=en;rw[show(⟨r1,d.rq,d.dr,d.au.set s.toNat (a==1)⟩:xJ).rg.num=d.rg.num from en']at q1;rw[<-hk,<-hii]at q1 q2;exact⟨⟨⟨r1,d.rq,d.dr,d.au.set s.toNat (a==1)⟩,gE i.kind a,-1,0⟩,⟨q1,q2⟩,hI2,ea,en,λh=>absurd Z h,λ_=>⟨[a],hO,.inr (.inr (.inr (.inr ⟨zB,a,hvx.1,hvx.2,rfl⟩)))⟩,.inl Z,yAg _,λh=>absurd (zYk h hO) (λh9=>h9 hk),λ_=>by dsimp only;omega,λk hk'=>by show(d.au.set s.toNat (a==1))[k]? =_;rw[yEg zB],UA.refl _⟩
 ·
  obtain⟨a,har⟩:=zE5 (show ar.length=1 by rw[hg0 KU,hk];rfl);subst har;have hvx:=hv a zS;by_cases ha:a<(c.js.length:Int)
  ·have w1:=zOg c d s now i.kind i.pay _ [a] h0 h1 k2 r1 sl k3 hk a Z ha;have w2:=zRk c (wB d r1) s now (i.pay.take 10) sl a ha;refine YES _ (gE 11 a) a hI1 ea en (.inr (.inr (.inr (.inr ⟨zB,a,hvx.1,hvx.2,by rw[hk]⟩)))) (.inr ⟨hk,hvx.1,ha⟩) (yAg _) (T0.of et eu) w1 ?_ Z (UA.refl _);rw[hk];exact w2
  ·have w1:=zOf c d s now i.kind i.pay _ [a] h0 h1 k2 r1 sl k3 hk a Z zB;have w2:=zRj c (wB d r1) s now (i.pay.take 10) sl a zB;exact NO 8 xL xL _ _ _ w1 (by rw[hk];exact w2)
 ·
  have hal:ar=[]:=yBb (by rw[hg0 KU,hk];rfl);subst hal;have hsame:=MP hO (.inr zB);rw[hsd]at hsame;rw[hsame]at hI1;have hrq:=hI.a.q;have q1:=IA c d s now i.kind i.pay _ [] h0 h1 k2 r1 sl k3 (.inr (.inr hk)) (aZ d) (by rw[hsame,hk];exact zAn d 12 now xL xL hI.bd zB zB);have q2:=zRi c d s now (i.pay.take 10) sl (zO1 d hI.bd zB zB);rw[hsame]at q1;refine YES d _ _ hI1 Z Z (.inr (.inr (.inl ⟨hk,rfl,rfl⟩))) (.inl Z) (yAg _) (AC.refl _) q1 ?_ Z (UA.refl _);rw[hsame,hk];exact q2
theorem zEh (d:Dk):∀i,∀j∈(LD d i).1,∃e,j=jnF e
 |0=>λj hj=>by simp[LD]at hj
 |i+1=>λj hj=>by
  simp only[LD,yAz,yBe]at hj
  rcases hj with hj|hj
  ·exact zEh d i j hj
  ·exact⟨_,hj⟩
def zMi (d:Dk) (r:Int):(QA d r).js=(LD (ad (ad4 d)) (cfN d)).1:=by rw[QA,cfJ]
def zEi (d:Dk) (r:Int):(QA d r).ags=(VV (ad (cfJ d).2) r (cfM d)).1:=by rw[QA,cfG]
def zYl (d:Dk) (rights:Int):1<=(QA d rights).js.length/\(QA d rights).js.length<=2/\1<=(QA d rights).ags.length/\(QA d rights).ags.length<=3:=by
 have h1:=yD (ad4 d) 2 zB;have h2:=yD (cfJ d).2 3 zB;rw[zMi,zEi,OL,cR];unfold cfN cfM;omega
def zYm (d:Dk) (n r:Int) (hr:0<=r/\r<=63):AgV (agF d n r):=by
 have w1:=yD d (3-1+1) zB;have w2:=yD (ad d) (3-1+1) zB;have w3:=yD (ad (ad d)) 3 zB;have w4:=yD (ad (ad (ad d))) 3 zB;have w5:=yD (ad (ad (ad (ad d)))) (3-1+1) zB;have w6:=yD (ad (ad (ad (ad (ad d))))) (2-1+1) zB;have w7:=yD (ad (ad (ad (ad (ad (ad d)))))) (3-1+1) zB;have w8:=yD (ad7 d) 5 zB;unfold agF;refine⟨by dsimp only;rw[jJ];rfl,rfl,λx hx=>?_,hr,by dsimp only;omega,by dsimp only;omega,by dsimp only;omega,by dsimp only;omega,by dsimp only;omega⟩;simp only[yBt,yEk,yFv]at hx
 rcases hx with rfl|rfl|rfl|rfl<;>omega
structure AgD (a:Ag) (n:Int):Prop where
 v:AgV a
 s:a.sec=dY (1000+n)
 q:1<=a.req/\a.req<=3
 b:1<=a.rate/\a.burst<=7
def zYn (d:Dk) (n r:Int) (hr:0<=r/\r<=63):AgD (agF d n r) n:=by
 have w5:=yD (ad (ad (ad (ad d)))) (3-1+1) zB;have w7:=yD (ad (ad (ad (ad (ad (ad d)))))) (3-1+1) zB;have w8:=yD (ad7 d) 5 zB;exact⟨zYm d n r hr,rfl,by unfold agF;dsimp only;omega,by unfold agF;dsimp only;omega⟩
theorem zMj (d:Dk) (r:Int) (hr:0<=r/\r<=63):∀i k,k<i->AgD ((VV d r i).1.getD k default) k/\((VV d r i).1.getD k default).rights=r
 |0,k,h=>by omega
 | i+1,k,h=>by
  rw[zL6,yAk];by_cases hk:k<i
  ·rw[yA9 (by rw[cR];exact hk),<-yAk];exact zMj d r hr i k hk
  ·obtain rfl:k=i:=by omega
   rw[yA4 (by rw[cR];omega),cR,yCm];exact⟨zYn _ _ _ hr,rfl⟩
def zWh (d:Dk) (r:Int) (hr:0<=r/\r<=63) (k:Int) (h0:0<=k) (h1:k<((QA d r).ags.length:Int)):AgD ((QA d r).ags.getD k.toNat default) k/\((QA d r).ags.getD k.toNat default).rights=r:=by
 rw[zEi]at h1⊢;rw[cR]at h1;have:=zMj (ad (cfJ d).2) r hr (cfM d) k.toNat zB;rw[show((k.toNat:Nat):Int)=k by omega]at this;exact this
def zMk {c:Cf} {a:Ag} (hv:AgV a) (n:Int) (hn:0<=n/\n<4):uU c (WP n a a.ses.toNat):=by
 have he:=hv.e;have hq:=hv.q;have hb:=hv.b;have ht:=hv.t;have hs:=zW9 n a hv;have e1:(EF n a).ag=a:=rfl;have e2:(EF n a).num=n:=rfl;have e3:(EF n a).tk.length=8:=by simp[EF,tkN]
 have e4:(EF n a).vh=[]:=rfl;have e5:(EF n a).bk=⟨a.burst,a.rate,a.burst⟩:=rfl;unfold WP;generalize hN:a.ses.toNat=N;generalize EF n a=r at *;constructor
 ·exact hs
 ·exact⟨λr hr=>by simp at hr,List.Pairwise.nil,yAt _⟩
 ·dsimp only;rw[e1];simp only[yBk];omega
 ·intro r hr;simp at hr
 ·dsimp only;rw[e1];exact hv
 ·dsimp only;rw[e2];exact hn
 ·exact e3
 ·dsimp only;rw[e1,e5]
 ·dsimp only;rw[e1,e5]
 ·dsimp only;rw[e1,e5];exact⟨hb.1,yCj _⟩
 ·dsimp only;rw[e1,yB2];omega
 ·simp
 ·intro x hx;simp at hx
 ·dsimp only;rw[e4];simp
def zS0 (n:Int) (a:Ag) (hv:AgV a):zN 57 [iA n,wK a] [] (zL (WP n a a.ses.toNat)) []/\yY [iA n,wK a] [] (zL (WP n a a.ses.toNat)) []:=by
 have he:=hv.e;have h1:=hv.s;have h2:=hv.l;exact⟨zTq n a a.ses.toNat zB zB zB zB,zOj n a a.ses.toNat zB zB zB zB⟩
def zYo {l:List Tk} (h:FH l) (now:Int):FH (NA l now):=by
 refine⟨by unfold NA;rw[yAe,yB1];exact h.n,λt ht=>?_⟩;unfold NA at ht;rw[yBl]at ht;obtain⟨j,hj,rfl⟩:=ht;rw[yA2]at hj;unfold zAu;split
 ·exact yAt _
 ·rw[yAk,yAr hj,yCh];exact h.s _ (yDa _)
def LE (d:xJ) (now:Int):xJ:=⟨rtF d.rg now,zIw d.rq now,d.dr,d.au⟩
def zS1 {c:Cf} {d:xJ} (h:uU c d) (now:Int):uU c (LE d now)/\(LE d now).rg.ag=d.rg.ag/\(LE d now).rg.num=d.rg.num:=by
 refine⟨?_,rfl,rfl⟩;have hl:=h.bl;have hr:=h.br;have hbb:=h.bb;have ht:=h.a.t;have hql:=yCo (λx:Rq=>decide (now<=x.til)) d.rq;have hq:=h.q;refine⟨⟨zYo h.b.tk now,h.b.s,h.b.l,h.b.v⟩,h.v.filter _,?_,λr hr g hg=>h.lg r (yDz.1 hr).1 g hg,h.a,h.n,?_,h.br,h.bb,?_,h.au,h.dn,h.dr,h.vh⟩
 ·show((d.rq.filter _).length:Int)<=d.rg.ag.req
  omega
 ·show(NA d.rg.tk now).length=8
  unfold NA;rw[yAe,yB1,h.t8]
 ·show 0<=min (d.rg.bk.level+d.rg.bk.rate) d.rg.bk.burst/\min (d.rg.bk.level+d.rg.bk.rate) d.rg.bk.burst<=d.rg.ag.burst
  omega
def BW {c:Cf} {d:xJ} (h:uU c d) (now:Int):zN 95 [zL d,iA now] [] (zL (LE d now)) []:=by
 have k1:=bE d h.bd;have hl:=h.bl;have hr:=h.br;have hbb:=h.bb;have ht:=h.a.t;have hb:=h.a.b;have k2:=zOv d.rg now h.b zB;have k3:=zIy d.rq now h.v;unfold LE;generalize rtF d.rg now=r at *;generalize zIw d.rq now=q at *;unfold zL wJ at *;unfold qG at k2;refine eM call95 λF hF=>?_
 refine IZ (gG k1 k2 k3) ?_;exact zJ
section
variable {P:Program} {K0:List Nat} {F:Fr K0} {m:Nat}
theorem VG.consume {st:St} {a:Act} {w:World} {X:Nat->Prop} {β:uG} (hX:XOK F X) (H:jA X (zD st.h) β w) (Ht:∀t,zY w (xP X β) (zD st.h) β (zG st.tm t) (a.eval (.tmp t))) (KK:gH F (zD st.h) β w) (hJ:∀i,zG st.tm GS= .gh i->F.J i (Own β) X w) (hD:DOK X F a.defers w)
  (nd:∀k,zD st.h k≠some .dead) (gs:m<=GS) (hl:a.tmps.size=m) (k:Nat) (K ts:List Nat) (hK:K0.all (K.contains ·)=true) (hkK:K.contains k=false) {w':World} {β':uG} (G:xN X w (zD st.h) β w' (over [(k,.dead)] (zD st.h)) β') {v:AV} {c:Value} (hc:xH w' (xP X β') v c)
  (hg:∀i,v≠ .gh i) (t:Nat) (ht:t<m) {st':St} (he:restr K ts ⟨st.tm,(k,.dead)::st.h⟩=st'):wN F m ⟨(t,v)::st'.tm,st'.h⟩ (a.put (some t) c) w':=by
 subst he;have eh:zD ((k,xO.dead)::st.h)=over [(k,.dead)] (zD st.h):=wY [(k,xO.dead)] st.h;rw[<-eh]at G;obtain⟨H',hvv⟩:=G.hok.restr K
 have hkk:∀j,j∈K->j≠k:=λj hj e=>by
  subst e;have:K.contains j=true:=by simpa using hj
  rw[this]at hkK;cases hkK
 have hov:∀j,j≠k->zD ((k,xO.dead)::st.h) j=zD st.h j:=λj hj=>by rw[eh];exact aQ _ _ hj
 have hnd:∀j,j∈K->zD ((k,xO.dead)::st.h) j≠some .dead:=λj hj=>by rw[hov j (hkk j hj)];exact nd j
 have hK0:∀j,j∈K0->j∈K:=λj hj=>by
  have:=yAu.1 hK j hj;simpa using this
 have hsub:∀b,xP X (λj=>if j∈K then β' j else []) b->xP X β' b:=λb hd=>by
  rcases hd with hx|⟨j,n,hm⟩
  ·exact .inl hx
  ·(try dsimp only at hm)
   split at hm
   ·exact .inr ⟨j,n,hm⟩
   ·simp at hm
 have hgs:GS≠t:=by omega
 refine⟨⟨X,_,hX,H',λj=>?_,⟨λj e hje=>?_,yBn KK.size G.size,λb hb hi hn=>?_,λj b n hm=>?_,λj b n hm=>?_,λj b n hm=>?_,G.os.trans KK.os,G.tape.trans KK.tape,G.output.trans KK.output⟩,λi hi=>?_,hD.goes H G⟩,λj=>?_,gs,by simp[Act.put,hl]⟩
 ·show zY _ _ _ _ (zG ((t,v)::(restr K ts ⟨st.tm,(k,.dead)::st.h⟩).tm) j) _
  rw[yT];split
  ·rename_i hj;subst hj;have e:(a.put (some j) c).eval (.tmp j)=c:=by simp[Act.put,Act.eval,hl,ht]
   rw[e];exact .fz _ _ (hc.evo (yAg _) λb _ hd=>⟨rfl,λh=>hd (hsub b h)⟩)
  ·rename_i hj;rw[Act.eval_put (λd hd e=>hj (by injection hd with hd;injection e with e;rw[hd,e])),jO];split
   ·exact hvv _ _ ((Ht j).evo G.evo)
   ·exact .fz _ _ (.bot _)
 ·have hj:=hK0 j (F.hh j e hje);have h1:=KK.knd j e hje;have hr:∀e',zD ((k,xO.dead)::st.h) j=some e'->zD (wX K (zD ((k,xO.dead)::st.h))) j=some (qW K (zD ((k,xO.dead)::st.h)) e'):=λe' h2=>by rw[xY,yAd hj,h2];rfl
  cases e with
  |dead=>exact h1
  |box cs=>obtain⟨cs',h2⟩:=h1;exact⟨_,hr _ ((hov j (hkk j hj)).trans h2)⟩
  |obj cs=>obtain⟨cs',h2⟩:=h1;exact⟨_,hr _ ((hov j (hkk j hj)).trans h2)⟩
  |arr sz xs sl=>obtain⟨xs',sl',h2,h3⟩:=h1;obtain⟨xs2,fl2,h4,h5⟩:=hH K (zD ((k,xO.dead)::st.h)) sz xs' sl';exact⟨xs2,fl2,(hr _ ((hov j (hkk j hj)).trans h2)).trans (by rw[h4]),by rw[h5];exact h3⟩
 ·rw[G.keep b (yBo hb KK.size),KK.keep b hb hi hn];intro j n hm
  rcases KK.own j b n hm with⟨k',n',h1⟩|h1
  ·exact hn _ _ h1
  ·omega
 ·(try dsimp only at hm)
  split at hm
  ·rcases G.own j b n hm with⟨k',n',h1⟩|h1
   ·exact KK.own k' b n' h1
   ·exact .inr (yBn KK.size h1)
  ·simp at hm
 ·have hj:=hK0 j (F.hK j b n hm);obtain⟨n',h1,h2⟩:=KK.pas j b n hm
  (try dsimp only)
  rw[yAd hj]
  cases hje:zD st.h j with
  |none=>rw[H.off j hje]at h2;simp at h2
  | some e=>
   have h3:=(G.key j e hje).resolve_left (hnd j hj)
   cases e with
   |dead=>exact h3.elim
   |box cs=>exact⟨n',h1,h3.2 b n' h2⟩
   |obj cs=>exact⟨n',h1,h3.2 b n' h2⟩
   |arr sz xs fl=>
    obtain⟨n'',h4,h5⟩:=h3.2 b n' h2;exact⟨n'',yBn h1 h4,h5⟩
 ·obtain⟨n',_,h2⟩:=KK.pas j b n hm;rw[G.bs j b n' h2,KK.bs j b n hm]
 ·change zG ((t,v)::(restr K ts ⟨st.tm,(k,.dead)::st.h⟩).tm) GS= .gh i at hi
  rw[yT,yAc hgs,jO]at hi;split at hi
  ·have h1:zG st.tm GS= .gh i:=HF hi;refine F.Jst i _ X w' w' _ (F.go G (hJ i h1)) (yAg _) (λ_ _ _=>rfl) (λb hb=>?_) (λb hb=>?_) Z Z Z
   ·obtain⟨j,n,hm⟩:=hb
    (try dsimp only at hm)
    split at hm
    ·exact .inl ⟨j,n,hm⟩
    ·simp at hm
   ·obtain⟨j,n,hm⟩:=hb;exact H'.lt b (.inr ⟨j,n,hm⟩)
  ·cases hi
 ·show zD (wX K (zD ((k,xO.dead)::st.h))) j≠some .dead
  rw[xY];split
  ·rename_i hj;intro h;rw[yAq]at h;obtain⟨e,he,h2⟩:=h
   cases e with
   |dead=>exact hnd j hj he
   |box cs=>cases h2
   |obj cs=>cases h2
   |arr a b c=>obtain⟨xs2,fl2,h4,_⟩:=hH K (zD ((k,xO.dead)::st.h)) a b c;rw[h4]at h2;cases h2
  ·intro h;cases h
variable {ops:Array Oper} {rest:List Oper} {Q:List FP->St->Prop} {tm:List (Nat×AV)} {h:List (Nat×xO)} {fs fs':List FP} {TT:List TI} {ty:Nat} {pos:String} {after:Array Edge} {t:Nat}
theorem zWi (K ts:List Nat) (hP:uJ P TT) {T e k sz:Nat} {s x:Operand} {ti te:TI} {xs vs:List AV} {fl:Fl} {xv:AV} (hs:yO (zG tm) s= .ref k 0 0) (hk:zD h k=some (.arr sz xs fl)) (hx:yO (zG tm) x=xv) (hT:TT[T]? =some ti) (hd:ti.d= .slice e) (he:TT[e]? =some te) (hvs:CI (zD h) xv=some vs)
  (hss:Nat.beq sz te.size=true) (hsz:∀y,vs[0]? =some y->y.cells.length=sz) (hb:Nat.ble te.bytes 65536=true) (hz:Nat.beq te.zero.length te.size=true) (hpos:1<=vs.length) (hmax:vs.length<=1073741824) (hm:Nat.blt t m=true) (hK:K0.all (K.contains ·)=true) (hkK:K.contains k=false)
  {st':St} (hst:restr K ts ⟨tm,(k,.dead)::h⟩=st') (hr:zZ P F m ops false rest ⟨(t,.sl false vs)::st'.tm,st'.h⟩ fs Q):zZ P F m ops false (⟨some t,.call ⟨.builtin .append, #[s,x], #[T,T]⟩,ty,pos,after,none⟩::rest) ⟨tm,h⟩ fs Q:=⟨λa w R=>wpListIn_plain Z λKC hKC=>by
 obtain⟨⟨X,β,hX,HH,Ht,KK,hJ,hD⟩,nd,gs,hl⟩:=R;dsimp only at HH Ht KK hJ nd;have h1:=gA (op:= .call ⟨.builtin .append, #[s,x], #[T,T]⟩) (st:=⟨tm,h⟩) Ht (λ_ _=>rfl) (x:=s) qX hs;have h2:=gA (op:= .call ⟨.builtin .append, #[s,x], #[T,T]⟩) (st:=⟨tm,h⟩) Ht (λ_ _=>rfl) (x:=x) qX hx;have hss:=yBd hss;have hb:=yAv hb;have hz:=yBd hz;have hm:=yAv hm;obtain⟨i,z,hu,hi,hzz,e1,e2,e3⟩:=wU hP hT hd he;obtain⟨g1,g2,g3,g4,g5,f,g6,g7,g8⟩:=HH.ent k _ hk;obtain⟨ad,cap,hcv,_,hmx,hsrc⟩:=cP HH h2 hvs hsz;obtain⟨b2,q,fy,rfl,hS⟩:=hsrc (λh0=>by rw[h0]at hpos;simp at hpos);obtain⟨hf1,hf2⟩:=hS.flat g1
 have FIN:∀{c w'} (_:(Builtin.append_ #[T,T] ty #[a.eval s,a.eval x]).run P w= .ok c w') {β':uG} (_:xN X w (zD h) β w' (over [(k,.dead)] (zD h)) β') (_:xH w' (xP X β') (.sl false vs) c),Oper.wpIn (DJ F.ro) 0 P ⟨some t,.call ⟨.builtin .append, #[s,x], #[T,T]⟩,ty,pos,after,none⟩ a w KC (λe a' w'=>e= .normal/\∃st',Q [] st'/\wN F m st' a' w'):=by
  intro c w' hrun β' G hc;refine aN.wp (N:=λc1 w1=>c1=c/\w1=w') ?_ ?_
  ·have:(execOp a.eval ⟨some t,.call ⟨.builtin .append, #[s,x], #[T,T]⟩,ty,pos,after,none⟩).run P w= .ok (.value c) w':=by simp[execOp,resolve,invoke,builtin,hrun]
   rw[this];exact⟨rfl,rfl⟩
  ·rintro _ _ ⟨rfl,rfl⟩;exact hKC _ _ (hr.run _ _ (VG.consume (st:=⟨tm,h⟩) hX HH Ht KK hJ hD nd gs hl k K ts hK hkK G hc (λi hh=>by cases hh) t hm hst))
 have kill:∀{w'},jA X (zD h) β w'->xN X w' (zD h) β w' (over [(k,.dead)] (zD h)) (cN β k []):=λH=>xN.step H k .dead [] (yAg _) (λ_ _ _=>rfl) Z Z Z (λb n hm=>by simp at hm) (λ_ _ _=>rfl) (λe _=> .inl Z) λ_=>zW _ _ _
 have GROW:∀bd cp,a.eval s= .slice bd 0 cp->cp<vs.length->(bd=none->cp=0)->Oper.wpIn (DJ F.ro) 0 P ⟨some t,.call ⟨.builtin .append, #[s,x], #[T,T]⟩,ty,pos,after,none⟩ a w KC (λe a' w'=>e= .normal/\∃st',Q [] st'/\wN F m st' a' w'):=by
  intro bd cp hcx hlt hbn
  have hbytes:vs.length*i.bytes<=140737488355328:=by
   have:=yDn (show vs.length<=1073741824 by omega) (show i.bytes<=65536 by omega);omega
  have hrun:(Builtin.append_ #[T,T] ty #[.slice bd 0 cp,.slice (some ⟨b2,q,none⟩) vs.length cap]).run P w= .ok (.slice (some ⟨w.heap.size,0,none⟩) vs.length (grownCap w vs.length cp e)) (w.drew.alloc (.cells ((flat fy vs.length sz).toArray++Builtin.zeroCells z.cells (grownCap w vs.length cp e-vs.length)) e)):=by
   cases bd with
   |none=>
    obtain rfl:=hbn Z;exact run_append_nil (P:=P) w T ty e i z hu hi hzz ⟨b2,q,none⟩ vs.length cap (flat fy vs.length sz) (by rw[zP,hss,e1]) hf1 zB zB zB
   |some b0=>
    have:=run_append_grow (P:=P) w T ty e i z hu hi hzz b0 0 cp [] zS (λj v h=>by simp at h) ⟨b2,q,none⟩ vs.length cap (flat fy vs.length sz) (by rw[zP,hss,e1]) hf1 zB zB (growslice_fits zB (by simpa using hbytes));simpa using this
  have HD:=HH.drew (w.drawn+1);have hzs:z.cells.size=te.zero.length:=by rw[<-e3];simp
  have hge:=grownCap_ge w vs.length cp e;have G:=xN.newFz HD ((flat fy vs.length sz).toArray++Builtin.zeroCells z.cells (grownCap w vs.length cp e-vs.length)) e
  have hv:=xH.newArr HD ((flat fy vs.length sz).toArray++Builtin.zeroCells z.cells (grownCap w vs.length cp e-vs.length)) e sz vs (grownCap w vs.length cp e) fy g1 (by unfold cA;omega) hge hS.wide
   (λi j hi hj=>by
    rw[yCi (by simp[zP];have:=yA0 sz (show i+1<=vs.length by omega);rw[yBi,yCe]at this;omega)]
    simpa using qM fy hi hj) hS.one (λi y j v hy hv=>xH.evo (w:=w) (w':={w with drawn:=w.drawn+1}) (yAg _) (λ_ _ hd=>⟨rfl,hd⟩) (hS.rep.toF Z i y j v hy hv))
  have G2:=xN.trans HH (xN.drew HH (w.drawn+1)) G;have G3:=kill G2.hok;exact FIN (by rw[hcx,hcv];exact hrun) (xN.trans HH G2 G3) (hv.wkF.evo G3.evo.size G3.evo.fz)
 generalize hcx:a.eval s=cx at h1
 cases h1 with
 |fz _ _ hf=>cases hf
 |dref _ _ _ _ hdd _=>exact absurd hdd (nd k)
 |ref0 _ _ sz' xs' st' bd hk'' hn=>exact GROW bd 0 hcx zB (λ_=>rfl)
 | ref _ _ _ sz' xs' st' b n cp hk'' hbm hn hc hs'=>
  rw[hk]at hk'';cases hk'';by_cases hroom:vs.length<=cp
  case neg=>exact GROW _ cp hcx zB (λh=>by cases h)
  obtain⟨cur,el,c1,c2,c3,c4⟩:=g8 b n hbm
  have hcs:cur.size=cp*sz:=by
   have:wH w b=cur.size:=by unfold wH World.shape?;rw[c1];rfl
   rw[<-this,<-hs',yBv]
  have hfit:vs.length*sz<=cur.size:=by rw[hcs];exact yA0 _ hroom
  have hrun:=cV hP hT hd he w ty b 0 0 cp cur el c1 ⟨b2,q,none⟩ vs.length cap (flat fy vs.length sz) (by rw[zP,hss]) hf1 hf2 zB (by
   rw[zP,yEe];simpa using hfit)
  generalize hcur':(cur.toList.take (0+0*te.size)++flat fy vs.length sz++cur.toList.drop (0+0*te.size+(flat fy vs.length sz).length)).toArray=cur' at hrun;rw[yEe,yBv,yDl,yCc,yBv]at hcur'
  have hsz':cur'.size=cur.size:=by
   rw[<-hcur'];simp only[yDf,yAf,yA7,yDc,zP];omega
  have G:=xN.step (w':=w.setRow b cur') HH k .dead [] zS (λj hj hn=>setRow_other w b j cur' (λe=>hn n (by rw[e];exact hbm))) Z Z Z (λb n hm=>by simp at hm) (λb n _=>uZ c1 hsz' b) (λe _=> .inl Z) λ_=>zW _ _ _
  have hnb:¬xP X (cN β k []) b:=λhd=>by
   rcases hd with hx|⟨j,n',hm⟩
   ·exact HH.free k b n hbm hx
   ·by_cases hjk:j=k
    ·subst hjk;rw[zW]at hm;simp at hm
    ·rw[qK _ _ hjk]at hm;exact hjk (HH.disj _ _ _ _ _ hm hbm)
  refine FIN (by rw[hcx,hcv,yEe];exact hrun) G ?_;rw[yBv];have hne:vs≠[]:=λh0=>by rw[h0]at hpos;simp at hpos
  refine .sl false vs b 0 sz cp fy hne ⟨yBo (HH.lt b (.inr ⟨k,n,hbm⟩)) G.size,hnb,g1,by unfold cA;omega,hS.wide,λi j hi hj=>?_,hS.one⟩ hroom λi y j v hy hv=>(hS.rep.toF Z i y j v hy hv).evo G.evo.size G.evo.fz
  rw[uH (setRow_heap w _ _ _ _ _ c1),<-hcur',yBv,yDb,yA9 (by
   rw[zP];have:=yA0 sz (show i+1<=vs.length by omega);rw[yBi,yCe]at this
   omega)]
  exact qM fy hi hj⟩
end
def fN (d:Dk):Nat->List Int×Dk
 |0=>([],d)
 |i+1=>((fN d i).1++[nx (fN d i).2 256],ad (fN d i).2)
theorem zB6 (d:Dk):∀i,(fN d i).1.length=i/\rem (fN d i).2<=rem d/\BY (fN d i).1
 |0=>⟨rfl,yAg _,λx hx=>by cases hx⟩
 |i+1=>by
  obtain⟨h1,h2,h3⟩:=zB6 d i;have r1:=wO (fN d i).2;have w1:=yD (fN d i).2 256 zB;refine⟨by simp only[fN,yAf,yAp,yBk];omega,by simp only[fN];omega,?_⟩;simp only[fN];intro x hx
  rcases yAz.1 hx with hx|hx
  ·exact h3 x hx
  ·rw[yBe]at hx;subst hx;exact w1
def zMl (d:Dk) (n:Int) (h0:0<=n) (h1:n<=1000):zN 27 [.ptr 1000 0 0,iA n] [(1000,cT d)] (zC yA (fN (ad d) (nx d (n+1)).toNat).1) [(1000,cT (fN (ad d) (nx d (n+1)).toNat).2)]:=by
 have c1:=yH d (n+1) zB zB;have b1:=yD d (n+1) zB;generalize nx d (n+1)=k at *;generalize ad d=d1 at *;obtain⟨N,hN⟩:∃N:Nat,k.toNat=N:=⟨_,rfl⟩;have hN2:k=(N:Int):=by omega
 rw[hN];subst hN2;refine eM call27 λF hF=>?_
 refine zV c1 ?_;refine xC 5 1001 1 Z Z Z ?_;refine zO (N) [1000,1001] [] [0] [5,6,0] Z (λi T U=>⟨(5,.ref 1001 0 ((fN d1 i).1.map yA).length)::(6,iA ((N:Int)-i))::T,(1000,cT (fN d1 i).2)::(1001,.arr 1 ((fN d1 i).1.map yA) true)::U⟩) ?_;(conv=>whnf);refine⟨by(rw[show(N:Int)-(0:Nat)=N by omega];rfl),?_,?_⟩
 ·intro i hi;have hl:=(zB6 d1 i).1;have eS:fN d1 (i+1)=((fN d1 i).1++[nx (fN d1 i).2 256],ad (fN d1 i).2):=rfl;rw[show((N:Int)-((i+1:Nat):Int))=(N:Int)-i-1 by omega];generalize (fN d1 i).1=p at *;generalize (fN d1 i).2=e at *;have hk1:1<=(N:Int)-i:=by omega
  have hk2:(N:Int)-i<=1001:=by omega
  have hp:p.length<=1001:=by omega
  generalize (N:Int)-i=q at *;have n1:=yH e 256 zB zB;have w1:=yD e 256 zB;rw[eS];generalize nx e 256=y at *;generalize ad e=e1 at *;refine zV n1 ?_
  show restr _ _ _=_
  rw[yAn];rfl
 ·rw[show(N:Int)-(N:Int)=0 by omega];refine WW ?_;exact zH [1000] Z Z (yBa (AV.sl false) yAh) Z
theorem zMm:∀(f:Nat) (n:Int),0<=n->n<128 ^ (f+1)->BY (EL f n)
 |0,n,h0,h1=>λx hx=>by
  rw[EL,yBe]at hx;subst hx;simp at h1;omega
 | f+1,n,h0,h1=>λx hx=>by
  rw[EL]at hx;split at hx
  ·rw[yBe]at hx;subst hx;omega
  ·rcases yBt.1 hx with rfl|hx
   ·omega
   ·exact zMm f (n/128) zB (zAr h1) x hx
def GU {n:Int} (h0:0<=n) (h1:n<=4294967295):BY (qQ n):=zMm 4 n h0 zB
theorem zMn (fx gr:Nat) (c:Int) (hc:0<=c/\c<256):∀(l:List Int) (i:Nat),PG l->BY (PN fx gr c i l)
 | [],_,_=>λx hx=>by cases hx
 | y::l,i,h=>λx hx=>by
  rw[PN]at hx
  rcases yAz.1 hx with hx|hx
  ·split at hx
   ·rw[yBe]at hx;subst hx;exact hc
   ·cases hx
  ·rcases yAz.1 hx with hx|hx
   ·have:=h y zS;exact GU this.1 this.2 x hx
   ·exact zMn fx gr c hc l (i+1) (λz hz=>h z (by simp[hz])) x hx
def zWj (m:Ms) (h:MgP m) (n:Nat) (n2:n<=2) (ng:xX m.kind≠0->1<=n) (nl:m.args.length=vS m.kind+n*xX m.kind):∃p,BY p/\p.length<=200/\p=WU (vS m.kind) (xX m.kind) n m/\zN 64 [yB m] [] (.tup [zC yA p,iA 0]) []:=by
 have k1:=OX m.kind h.k.1 h.k.2 m n Z h.l (by rw[h.d];simp) h.n nl zB;have hf:=IQ m.kind;have hg:=IP m.kind
 have hgn:n*xX m.kind<=8:=by rcases hg with e|e|e<;>rw[e]<;>omega
 have k2:=YX m.kind h.k.1 h.k.2 m n Z h.l (by rw[h.d];simp) h.n zB (λ_=>nl) zB
 have hv:vmF (xX m.kind) n m.data=true:=by
  unfold vmF;rw[yAm,h.d];exact⟨rfl,by by_cases h0:xX m.kind=0;exact .inl h0;exact .inr (ng h0)⟩
 rw[hv]at k1;have hpl:=IO (vS m.kind) (xX m.kind) n m.args 0;have hll:=h.l;refine⟨WU (vS m.kind) (xX m.kind) n m,λx hx=>?_,?_,rfl,?_⟩
 ·unfold WU at hx;rw[h.d]at hx
  rcases yAz.1 hx with hx|hx
  ·rcases yAz.1 hx with hx|hx
   ·exact h.t x hx
   ·exact zMn _ _ _ zB _ _ h.n x hx
  ·rw[yA8]at hx;split at hx
   ·rw[yBe]at hx;omega
   ·cases hx
 ·unfold WU;rw[h.d,yA8,yAf,yAf]
  have:(if xX m.kind≠0/\m.args.length=vS m.kind then [(0:Int)]else []).length<=1:=by split<;>simp
  omega
 ·generalize WU (vS m.kind) (xX m.kind) n m=p at *;refine eM call64 λF hF=>?_
  refine yQ (wV k1 k2) ?_;exact zJ
def zWk (m:Ms) (h:MgP m):∃p,BY p/\p.length<=200/\zN 64 [yB m] [] (.tup [zC yA p,iA 0]) []:=by
 obtain⟨n,n2,ng,nl⟩:=h.c;obtain⟨p,h1,h2,_,h4⟩:=zWj m h n n2 ng nl;exact⟨p,h1,h2,h4⟩
def zYp (y:Int):0<=IntKind.u8.wrap y/\IntKind.u8.wrap y<256:=by
 unfold IntKind.wrap;simp[IntKind.signed,IntKind.bits];omega
section
variable {P:Program} {TT:List TI} {st:St}
def zMo (hP:uJ P TT) {T e k off len sz:Nat} {s x:Operand} {ti te:TI} {xs:List AV} {fl:Fl} {xv:AV} (hs:yO (zG st.tm) s= .ref k off len) (hk:zD st.h k=some (.arr sz xs fl)) (hx:yO (zG st.tm) x=xv) (hT:TT[T]? =some ti) (hd:ti.d= .slice e) (he:TT[e]? =some te) (hvs:CI (zD st.h) xv=some []):
  wS P st (.call ⟨.builtin .append, #[s,x], #[T,T]⟩) (.ref k off len) [] (k::OD xv) []:=by
 refine⟨?_⟩;intro X tm h hg hr _ o a w β ho HH Ht;obtain⟨d0,o0,y0,p0,f0,g0⟩:=o;dsimp only at ho;subst ho;have hk':=(hr k zS).trans hk;have h1:=gA Ht hg (x:=s) qX hs;have h2:=gA Ht hg (x:=x) qX hx;obtain⟨ad,cap,hcv,_⟩:=cP HH h2 ((gT λk' hk=>hr k' (by simp[hk])).trans hvs) (sz:=0) (λy hy=>by cases hy)
 have hsl:∃bd cp,a.eval s= .slice bd len cp/\len<=cp:=by
  generalize a.eval s=cx at h1
  cases h1 with
  |fz _ _ hf=>cases hf
  |dref _ _ _ _ hd _=>rw[hk']at hd;cases hd
  |ref0 _ _ sz' xs' st' b hk'' hn=>exact⟨_,0,rfl,yAg _⟩
  |ref _ _ _ sz' xs' st' b n cp hk'' hbm hn hc hs'=>exact⟨_,cp,rfl,hc⟩
 obtain⟨bd,cp,hcx,hcp⟩:=hsl;have hrun:=jM hP hT hd he w y0 bd ad len cp cap hcp
 have hex:(execOp a.eval ⟨d0,.call ⟨.builtin .append, #[s,x], #[T,T]⟩,y0,p0,f0,g0⟩).run P w= .ok (.value (.slice bd len cp)) w:=by
  rw[yBk]at hcv;simp[execOp,resolve,invoke,builtin,hcx,hcv,hrun]
 rw[hex,dP];exact⟨β,xN.refl HH,by rw[hcx]at h1;exact h1⟩
end
section
variable {P:Program} {TT:List TI} {K0:List Nat} {F:Fr K0} {m:Nat} {ops:Array Oper} {rest:List Oper} {Q:List FP->St->Prop} {tm:List (Nat×AV)} {h:List (Nat×xO)} {dr:Bool} {fs:List FP}
variable {ty:Nat} {pos:String} {after:Array Edge} {t:Nat}
def zEj (hP:uJ P TT) {T e key len sz:Nat} {x l:Operand} {ti te:TI} {xs:List AV} {sl:Fl} {k:IntKind} {i:Int} (hx:yO (zG tm) x= .ref key 0 len) (hk:zD h key=some (.arr sz xs sl)) (hl:yO (zG tm) l= .s (.int k i)) (hT:TT[T]? =some ti) (hd:ti.d= .slice e) (he:TT[e]? =some te)
  (hsz:Nat.beq sz te.size=true) (h0:0<=i) (h1:i<=len) (hm:Nat.blt t m=true) (hr:zZ P F m ops dr rest ⟨(t,.ref key 0 i.toNat)::tm,h⟩ (⟨true,[],[key]⟩::fs) Q):
  zZ P F m ops dr (⟨some t,.slice T x none (some l) none,ty,pos,after,none⟩::rest) ⟨tm,h⟩ fs Q:=by
 have:=fA (P:=P) (st:=⟨tm,h⟩) (lo:=none) (hi:=some l) (l:=0) (r:=i.toNat) hP hx hk hT hd he Z ⟨k,i,hl,zB⟩ (yAt _) zB hsz;rw[yFf]at this;exact yJ this hm hr
end
def zZ3 (a y:Int) (h0:0<=y/\y<=1023):zN 30 [zC yA [],iA a,iA y] [] (zC yA [IntKind.u8.wrap y]) []:=by
 refine eM call30 λF hF=>?_
 refine WL ?_;exact zJ
section
variable (b:List Int) (a y k:Int) (hl:1<=b.length) (hn:b.length<=1000) (h0:0<=y/\y<=1023) (hk:a % (b.length:Int)=k)
include hl hn h0 hk
theorem JL (j:Int) (hj:y.tdiv 256 % 4=j):(b.map yA).length=b.length/\zN 14 [iA a,iA (((b.map yA).length:Nat):Int)] [] (iA k) []/\zN 14 [iA (y.tdiv 256),iA 4] [] (iA j) []/\ZM .i64 (y.tdiv 256)/\0<=k/\k<(b.length:Int):=by
 have hbl:=zA yA b;have c1:=DG a (b.length:Int) zB zB;have c2:=DG (y.tdiv 256) 4 zB zB;have hk0:=yD8 a (show(b.length:Int)≠0 by omega);have hk1:=yDw a (show 0<(b.length:Int) by omega);rw[hk]at c1 hk0 hk1;rw[hj]at c2;exact⟨hbl,by rw[hbl];exact c1,c2,by rw[yB6 h0.1];unfold ZM;omega,hk0,hk1⟩
def zZ4 (hj:y.tdiv 256 % 4=3):zN 30 [zC yA b,iA a,iA y] [] (zC yA (b.take k.toNat)) []:=by
 obtain⟨hbl,c1,c2,hq,k0,k1⟩:=JL b a y k hl hn h0 hk 3 hj;clear hk hj;unfold zC;refine eM call30 λF hF=>?_
 refine IZ (wV c1 c2) ?_;exact zJ
def zZ5 (hj:y.tdiv 256 % 4=2):zN 30 [zC yA b,iA a,iA y] [] (zC yA (b.take k.toNat++[IntKind.u8.wrap y]++b.drop k.toNat)) []:=by
 obtain⟨hbl,c1,c2,hq,k0,k1⟩:=JL b a y k hl hn h0 hk 2 hj;clear hk hj;have e:zC yA (b.take k.toNat++[IntKind.u8.wrap y]++b.drop k.toNat)= .sl false ((b.take k.toNat).map yA++[yA (IntKind.u8.wrap y)]++(b.drop k.toNat).map yA):=by rw[zC,yAn,yAn];rfl
 rw[e];unfold zC;have hm:(b.take k.toNat).length=k.toNat:=by rw[yAw];omega
 refine eM call30 λF hF=>?_
 (have zc1:=c1;have zc2:=c2;(repeat' (first|refine WYX ?_|apply xM|apply xZ|intro hc|(refine zE ?_;first|refine SL ?_)|refine SB ?_|fail))<;>clear zc1 zc2)
 (repeat' (first|refine ZJ ?_|apply xM|apply xZ|intro hc|(refine zE ?_;first|(refine yV ?_;refine qS tok Z Z ?_)|(refine yK ?_;refine gQ 1001 tok Z Z Z Z Z Z (yC _ _ (λ_=>rfl)) Z Z Z (by first|omega|(simp;omega)) Z Z Z ?_))|refine SB ?_|fail))
 exact zH [] Z Z (yBa (AV.sl false) yAh) Z
def zYq (hj:y.tdiv 256 % 4=0):zN 30 [zC yA b,iA a,iA y] [] (zC yA (b.set k.toNat (IntKind.u8.wrap y))) []:=by
 obtain⟨hbl,c1,c2,hq,k0,k1⟩:=JL b a y k hl hn h0 hk 0 hj;clear hk hj;have e:zC yA (b.set k.toNat (IntKind.u8.wrap y))= .sl false ((b.map yA).set k.toNat (yA (IntKind.u8.wrap y))):=by rw[zC,yCk]
 rw[e];have hy:=yN yA b k k0 k1;unfold zC;refine eM call30 λF hF=>?_
 (have zc1:=c1;have zc2:=c2;(repeat' (first|refine uP ?_|apply xM|apply xZ|intro hc|(refine zE ?_;first|(refine yK ?_;refine gQ 1001 tok Z Z Z Z Z Z (yC _ _ (λ_=>rfl)) Z Z Z zB Z Z Z ?_))|fail))<;>clear zc1 zc2)
 exact zH [] Z Z (yBa (AV.sl false) (by rw[yBf];exact yAo zS)) Z
def zYr (hj:y.tdiv 256 % 4=1) (h1:1<=k) (h2:k+1<b.length):zN 30 [zC yA b,iA a,iA y] [] (zC yA (b.take k.toNat++b.drop (k.toNat+1))) []:=by
 obtain⟨hbl,c1,c2,hq,k0,k1⟩:=JL b a y k hl hn h0 hk 1 hj;clear hk hj
 have hB:∀y∈b.map yA,y.cells.length=1:=λy hy=>by
  rw[yBl]at hy;obtain⟨z,_,rfl⟩:=hy;rfl
 have e:zC yA (b.take k.toNat++b.drop (k.toNat+1))= .sl false ((b.map yA).take k.toNat++(b.map yA).drop (k.toNat+1)):=by rw[zC,yAn,yDh,yDg]
 rw[e];unfold zC;refine eM call30 λF hF=>?_
 (have zc1:=c1;have zc2:=c2;(repeat' (first|refine WZX ?_|apply xM|apply xZ|intro hc|(refine zE ?_;first|(refine yK ?_;refine gQ 1001 tok Z Z Z Z Z Z (yC _ _ (λ_=>rfl)) Z Z Z zB Z Z Z ?_))|fail))<;>clear zc1 zc2)
 refine yU ?_
 (repeat' (first|refine uP ?_|apply xM|apply xZ|intro hc|(refine zE ?_;first|(refine uR ?_;first|refine fB tok Z Z Z Z Z Z Z zB zB Z ?_|refine zEj tok Z Z Z Z Z Z Z zB zB Z ?_)|(refine yK ?_;refine zC5 tok Z Z Z Z Z Z Z Z (λy hy=>hB y (yBc (yBy (yBp hy)))) wF zB wF zB Z Z ?_))|fail))
 refine zH [] Z Z (yBa (AV.sl false) ?_) Z
 have hv:List.take ((b.map yA).length-(k+1).toNat) (List.drop (k+1).toNat (b.map yA))=List.drop (k.toNat+1) (b.map yA):=by
  rw[show(k+1).toNat=k.toNat+1 by omega];exact yAo RT
 rw[hv,yBf];exact yE7 (by rw[yAf,yAw];omega)
def zYs (hj:y.tdiv 256 % 4=1) (h2:k+1=b.length):zN 30 [zC yA b,iA a,iA y] [] (zC yA (b.take k.toNat)) []:=by
 obtain⟨hbl,c1,c2,hq,k0,k1⟩:=JL b a y k hl hn h0 hk 1 hj;clear hk hj;have e:zC yA (b.take k.toNat)= .sl false ((b.map yA).take k.toNat):=by rw[zC,yDh]
 rw[e]
 have hv:((b.map yA).drop (k+1).toNat).take ((b.map yA).length-(k+1).toNat)=[]:=by
  rw[show(b.map yA).length-(k+1).toNat=0 by omega,yDl]
 unfold zC;refine eM call30 λF hF=>?_
 (have zc1:=c1;have zc2:=c2;(repeat' (first|refine WZX ?_|apply xM|apply xZ|intro hc|(refine zE ?_;first|(refine yK ?_;refine gQ 1001 tok Z Z Z Z Z Z (yC _ _ (λ_=>rfl)) Z Z Z zB Z Z Z ?_))|fail))<;>clear zc1 zc2)
 refine yU ?_
 (repeat' (first|refine uP ?_|apply xM|apply xZ|intro hc|(refine zE ?_;first|(refine uR ?_;first|refine fB tok Z Z Z Z Z Z Z zB zB Z ?_|refine zEj tok Z Z Z Z Z Z Z zB zB Z ?_)|(refine yK ?_;refine yJ (zMo tok Z Z Z Z Z Z ((yBa some hv:some _=_))) Z ?_))|fail))
 exact zJ
def zYt (hj:y.tdiv 256 % 4=1) (h2:k=0) (h3:1<b.length):zN 30 [zC yA b,iA a,iA y] [] (zC yA (b.drop 1)) []:=by
 obtain⟨hbl,c1,c2,hq,k0,k1⟩:=JL b a y k hl hn h0 hk 1 hj;subst h2;clear hk hj
 have hB:∀y∈b.map yA,y.cells.length=1:=λy hy=>by
  rw[yBl]at hy;obtain⟨z,_,rfl⟩:=hy;rfl
 have e:zC yA (b.drop 1)= .sl false ((b.map yA).drop 1):=by rw[zC,yDg]
 rw[e];unfold zC;refine eM call30 λF hF=>?_
 (have zc1:=c1;have zc2:=c2;(repeat' (first|refine WZX ?_|apply xM|apply xZ|intro hc|(refine zE ?_;first|(refine yK ?_;refine gQ 1001 tok Z Z Z Z Z Z (yC _ _ (λ_=>rfl)) Z Z Z zB Z Z Z ?_))|fail))<;>clear zc1 zc2)
 refine yU ?_
 (repeat' (first|refine WS ?_|refine SG (I2 (λhc=>?_) λhc=>?_)|refine SG λhc=>?_|(refine zE ?_;first|(refine uR ?_;first|refine fB tok Z Z Z Z Z Z Z zB zB Z ?_|refine zDz tok Z Z Z Z Z Z Z Z ?_))|(first|refine zC6 7 9 Z Z ?_|first|refine SR ?_|refine SK (I2 (λhc=>?_) λhc=>?_)|refine SK λhc=>?_|fail)|fail))
 refine zI0 WA ?_;refine zWi [] [] tok Z Z Z Z Z Z Z Z (λy hy=>hB y (yBc (yBy (yBp hy)))) Z Z wF wF Z Z Z Z ?_;refine WW ?_;refine zH [] Z Z ?_ Z
 show AV.sl false (List.take ((b.map yA).length-1) (List.drop 1 (b.map yA)))=_
 rw[yAo RT]
end
def zGn (b:List Int) (hb:BY b) (hn:b.length<=1000) (a y:Int) (h0:0<=y/\y<=1023):∃q,BY q/\q.length<=b.length+1/\zN 30 [zC yA b,iA a,iA y] [] (zC yA q) []:=by
 have hw:=zYp y;by_cases hl:1<=b.length
 case neg=>
  have e:b=[]:=yBb zB;subst e;exact⟨_,λx hx=>by rw[yBe]at hx;subst hx;exact hw,by simp,zZ3 a y h0⟩
 have k0:=yD8 a (show(b.length:Int)≠0 by omega);have k1:=yDw a (show 0<(b.length:Int) by omega);have j0:=yD8 (y.tdiv 256) (show(4:Int)≠0 by omega);have j1:=yDw (y.tdiv 256) (show(0:Int)<4 by omega);have hT:BY (b.take (a % (b.length:Int)).toNat):=λx hx=>hb x (yBy hx)
 have hD:∀n,BY (b.drop n):=λn x hx=>hb x (yBc hx)
 have hlt:(b.take (a % (b.length:Int)).toNat).length<=b.length:=by rw[yAw];omega
 obtain hj|hj|hj|hj:y.tdiv 256 % 4=0∨y.tdiv 256 % 4=1∨y.tdiv 256 % 4=2∨y.tdiv 256 % 4=3:=by omega
 ·refine⟨_,λx hx=>?_,by rw[yB7];omega,zYq b a y _ hl hn h0 Z hj⟩
  rcases yC8 hx with h|rfl
  ·exact hb x h
  ·exact hw
 ·by_cases h2:a % (b.length:Int)+1=b.length
  ·exact⟨_,hT,zB,zYs b a y _ hl hn h0 Z hj h2⟩
  ·by_cases h1:1<=a % (b.length:Int)
   ·refine⟨_,λx hx=>?_,?_,zYr b a y _ hl hn h0 Z hj h1 zB⟩
    ·rcases yAz.1 hx with h|h
     ·exact hT x h
     ·exact hD _ x h
    ·rw[yAf,yA7,yAw];omega
   ·exact⟨_,hD 1,by rw[yA7];omega,zYt b a y _ hl hn h0 Z hj zB zB⟩
 ·refine⟨_,λx hx=>?_,?_,zZ5 b a y _ hl hn h0 Z hj⟩
  ·rcases yAz.1 hx with h|h
   ·rcases yAz.1 h with h|h
    ·exact hT x h
    ·rw[yBe]at h;subst h;exact hw
   ·exact hD _ x h
  ·rw[yAf,yAf,yA7,yAw,yCl];omega
 ·exact⟨_,hT,zB,zZ4 b a y _ hl hn h0 Z hj⟩
end Av
end Go.Proofs.YteajjdidebfcjaaGreat
