/- Part 14. -/
import Derived.Test.YteajjdidebfcjaaGreatV13
namespace Go.Proofs.YteajjdidebfcjaaGreat
namespace Av
set_option linter.all false
set_option maxRecDepth 4000
set_option maxHeartbeats 4000000
def zVv (c:Cf) (l:List Rq):Prop:=∀r∈l,∀g∈r.legs,g.jn<(c.js.length:Int)/\g.ph<((c.js.getD g.jn.toNat default).ph.length:Int)
structure qF (c:Cf) (d:xI):Prop where
 b:ER d.rg
 v:ZN d.rq
 q:(d.rq.length:Int)<=d.rg.ag.req
 lg:zVv c d.rq
 a:AgV d.rg.ag
 n:0<=d.rg.num/\d.rg.num<4
 t8:d.rg.tk.length=8
 br:d.rg.bk.rate=d.rg.ag.rate
 bb:d.rg.bk.burst=d.rg.ag.burst
 bl:0<=d.rg.bk.level/\d.rg.bk.level<=d.rg.ag.burst
 au:(d.au.length:Int)=d.rg.ag.ses
 dn:d.dr.length<=1000
 dr:∀x∈d.dr,x.length=8/\BY x
 vh:d.rg.vh.length<=8
theorem qF.bd {c:Cf} {d:xI} (h:qF c d):cO d:=
 ⟨h.b,by have:=h.v.n4;omega,λr hr=>by have:=h.v.lg3 hr;omega,h.dn,λx hx=>by have:=(h.dr x hx).1;omega,by have:=h.au;have:=h.a.e;omega⟩
theorem zQl:∀(n:Nat) (l:List Int),l.length=4*n->∃qs:List Qd,l=XO qs/\qs.length=n
 |0,l,h=>⟨[],zYz zB,rfl⟩
 |n+1,a::b::c::e::l,h=>by
  obtain⟨qs,h1,h2⟩:=zQl n l (by simp only[zYh]at h;omega);exact⟨⟨a,b,c,e⟩::qs,by rw[h1];rfl,by rw[zYh,h2]⟩
 |n+1,[],h=>by simp at h
 |n+1,[_],h=>by simp at h;omega
 |n+1,[_,_],h=>by simp at h;omega
 |n+1,[_,_,_],h=>by simp at h;omega
theorem zQm:∀(n:Nat) (l:List Int),l.length=2*n->∃ws:List (Int×Int),l=HQ ws/\ws.length=n
 |0,l,h=>⟨[],zYz zB,rfl⟩
 |n+1,a::b::l,h=>by
  obtain⟨ws,h1,h2⟩:=zQm n l (by simp only[zYh]at h;omega);exact⟨(a,b)::ws,by rw[h1];rfl,by rw[zYh,h2]⟩
 |n+1,[],h=>by simp at h
 |n+1,[_],h=>by simp at h;omega
def zNf {fx gr:Nat} {p a:List Int} (hb:BY p) (h:PL fx gr p=some a):p.length<=200/\10<=p.length/\(∀x∈a,0<=x/\x<=4294967295)/\(gr=0->a.length=fx)/\(gr≠0->∃c:Nat,1<=c/\c<=3/\a.length=fx+c*gr):=by
 unfold PL at h;by_cases hl:200<p.length∨p.length<10
 ·rw[zX3 hl]at h;cases h
 rw[zX2 hl]at h;have hbd:BY (p.drop 10):=λx hx=>hb x (zY1 hx)
 cases h1:aH fx (p.drop 10)with
 |none=>rw[h1]at h;cases h
 | some ar=>
  obtain⟨a1,r1⟩:=ar;rw[h1]at h;obtain⟨l1,b1,v1,_⟩:=gF fx _ a1 r1 hbd h1;dsimp only at h;by_cases hg:gr=0
  ·rw[zX3 hg]at h;by_cases hr:r1=[]
   ·rw[zX3 hr]at h;cases h;exact⟨zB,zB,v1,λ_=>l1,λh=>absurd hg h⟩
   ·rw[zX2 hr]at h;cases h
  ·rw[zX2 hg]at h
   cases h2:aH 1 r1 with
   |none=>rw[h2]at h;cases h
   | some cr=>
    obtain⟨c1,r2⟩:=cr;rw[h2]at h;obtain⟨l2,b2,v2,_⟩:=gF 1 _ c1 r2 b1 h2;dsimp only at h;by_cases hc:c1.getD 0 0<1∨3<c1.getD 0 0
    ·rw[zX3 hc]at h;cases h
    rw[zX2 hc]at h
    cases h3:aH ((c1.getD 0 0).toNat*gr) r2 with
    |none=>rw[h3]at h;cases h
    |some fr=>
     obtain⟨f1,r3⟩:=fr;rw[h3]at h;obtain⟨l3,b3,v3,_⟩:=gF _ _ f1 r3 b2 h3;dsimp only at h;by_cases hr:r3=[]
     ·rw[zX3 hr]at h;cases h;refine⟨zB,zB,λx hx=>?_,λh=>absurd h hg,λ_=>⟨(c1.getD 0 0).toNat,zB,zB,by rw[zX4,l1,l3]⟩⟩;rw[zYy]at hx;exact hx.elim (v1 x) (v3 x)
     ·rw[zX2 hr]at h;cases h
def Opn (d:xI) (i:It) (now:Int) (a:List Int):Prop:=i.code=0/\1<=i.kind/\i.kind<=12/\PL (qC i.kind) (wY i.kind) i.pay=some a/\opE d.rg ⟨i.kind,i.pay.take 10,a,[]⟩ now=0
def AS (d:xI) (i:It) (now:Int) (a:List Int):xI:=wE d (opR d.rg ⟨i.kind,i.pay.take 10,a,[]⟩ now)
def RB (c:Cf) (d:xI) (s:Int) (i:It) (now:Int) (h:Hd):Prop:=
 zO 128 [vL c,zK d,iA s,wO i,iA now] [] (ED d.rg.num i.kind h) []/\AY c d s now i h
def RpF (d:xI) (i:It) (now:Int) (a:List Int) (h:Hd):Prop:=
 (i.kind=1/\h.p=NJ d now/\h.d=d)∨(i.kind=9/\h.p=NK d/\h.d=d)∨(i.kind=12/\h.p=ZF d/\h.d=d)∨
 (i.kind=2/\∃(k:Nat) (sec:List Int),k<8/\(sec.length=8/\BY sec)/\h.p=⟨16,[],[(k:Int)],d.rg.num::(k:Int)::sec⟩)∨
 ((3<=i.kind/\i.kind<=8∨i.kind=10∨i.kind=11)/\∃x,0<=x/\x<=4294967295/\h.p=fA i.kind x)
def T0 (d:xI):Prop:=d.rg.tk.getD 0 default=⟨true,d.rg.ag.sec,-1,d.rg.ag.rights,d.rg.ag.cls,0⟩
def EA (d d':xI):Prop:=NoT d.rg.tk->NoT d'.rg.tk/\d'.au=d.au
theorem EA.refl (d:xI):EA d d:=λh=>⟨h,rfl⟩
theorem EA.trans {a b d:xI} (h:EA a b) (k:EA b d):EA a d:=λx=>⟨(k (h x).1).1,(k (h x).1).2.trans (h x).2⟩
theorem T0.of {d d':xI} (h1:d'.rg.tk=d.rg.tk) (h3:d'.au=d.au):EA d d':=λh=>⟨h1▸h,h3⟩
def WQ (l l':List Rq):Prop:=∀r∈l',∀g∈r.legs,g.sc= -1∨∃r0∈l,r0.id=r.id/\∃g0∈r0.legs,g0.jn=g.jn/\g0.ph=g.ph/\g0.sc=g.sc
theorem WQ.refl (l:List Rq):WQ l l:=λr hr g hg=> .inr ⟨r,hr,rfl,g,hg,rfl,rfl,rfl⟩
theorem WQ.filter (l:List Rq) (p:Rq->Bool):WQ l (l.filter p):=λr hr g hg=> .inr ⟨r,(yBn.1 hr).1,rfl,g,hg,rfl,rfl,rfl⟩
theorem WQ.trans {a b c:List Rq} (h1:WQ a b) (h2:WQ b c):WQ a c:=λr hr g hg=>by
 rcases h2 r hr g hg with h|⟨r1,hr1,e1,g1,hg1,a1,a2,a3⟩
 ·exact .inl h
 ·rcases h1 r1 hr1 g1 hg1 with h|⟨r0,hr0,e0,g0,hg0,b1,b2,b3⟩
  ·exact .inl (a3▸h)
  ·exact .inr ⟨r0,hr0,e0.trans e1,g0,hg0,b1.trans a1,b2.trans a2,b3.trans a3⟩
structure HdP (c:Cf) (d:xI) (s:Int) (i:It) (now:Int) (h:Hd):Prop where
 inv:qF c h.d
 ag:h.d.rg.ag=d.rg.ag
 num:h.d.rg.num=d.rg.num
 no:h.e≠0->h.k= -1/\h.p=gA i.kind h.e/\(h.d=d∨∃a,Opn d i now a/\h.d=AS d i now a)
 yes:h.e=0->∃a,Opn d i now a/\RpF d i now a h
 rst:h.k= -1∨(i.kind=11/\0<=h.k/\h.k<(c.js.length:Int))
 dl:h.d.dr.length<=d.dr.length
 t0:EA d h.d
 eb:0<=i.code/\i.code<=100->0<=h.e/\h.e<=100
 ax:∀k:Nat,(k:Int)≠s->h.d.au[k]? =d.au[k]?
 sc:WQ d.rq h.d.rq
def RC {r:Rg} {m:Ms} {now:Int} (h:opE r m now=0):opR r m now=⟨r.num,r.ag,r.tk,r.vh,if KH m.kind=true then EO r.bk else r.bk⟩/\ckB r.tk r.num m.tok m.kind now=true/\(KH m.kind=true->0<r.bk.level)/\opS r m now=m.tok.getD 1 default:=by
 have h1:ckB r.tk r.num m.tok m.kind now=true:=by
  cases hc:ckB r.tk r.num m.tok m.kind now with
  |true=>rfl
  |false=>rw[opE,hc,zX2 zYp]at h;omega
 refine⟨?_,h1,λhk=>?_,by rw[opS,zX3 h]⟩
 ·rw[opR,zX3 h]
  split<;>rfl
 ·rw[opE,zX3 h1]at h;by_cases hl:r.bk.level<=0
  ·rw[zX3 ⟨hk,hl⟩]at h;omega
  ·omega
def zQn {c:Cf} {d:xI} (hI:qF c d) {i:It} {now:Int} {a:List Int} (h:Opn d i now a):qF c (AS d i now a):=by
 obtain⟨h1,_,h3,_⟩:=RC h.2.2.2.2;unfold AS wE;rw[h1];have hl:=hI.bl;refine⟨⟨hI.b.tk,hI.b.s,hI.b.l,hI.b.v⟩,hI.v,hI.q,hI.lg,hI.a,hI.n,hI.t8,?_,?_,?_,hI.au,hI.dn,hI.dr,hI.vh⟩
 ·dsimp only;split
  ·unfold EO;split
   ·exact hI.br
   ·exact hI.br
  ·exact hI.br
 ·dsimp only;split
  ·unfold EO;split
   ·exact hI.bb
   ·exact hI.bb
  ·exact hI.bb
 ·dsimp only;split
  ·rename_i hk;have:=h3 hk;unfold EO;split
   ·exact hl
   ·dsimp only;omega
  ·exact hl
def OC {d:xI} {i:It} {now:Int} {a:List Int} (h:Opn d i now a) (hk:i.kind=1∨9<=i.kind):AS d i now a=d:=by
 obtain⟨h1,_,_,_⟩:=RC h.2.2.2.2;unfold AS wE;rw[h1,zX2 (λh=>by unfold KH at h;rw[zX9]at h;dsimp only at h;omega)]
def zH5 {ki:Int} {d:xI} {p:Ms} {k e:Int} (h:e≠0):hdM ki d p k e=⟨d,gA ki e,-1,e⟩:=zX2 h
def zCg {ki:Int} {d:xI} {p:Ms} {k:Int}:hdM ki d p k 0=⟨d,p,k,0⟩:=zX3 Z
def EB {c:Cf} {d:xI} {s now:Int} {i:It} (hI:qF c d) {e:Int} (he:e≠0) (p:Ms) (d':xI) (hd:d'=d∨∃a,Opn d i now a/\d'=AS d i now a)
  (h1:zO 170 [vL c,zK d,iA s,wO i,iA now] [] (hT d' p (-1) e) []) (h2:AY c d s now i ⟨d',gA i.kind e,-1,e⟩) (heb:0<=i.code/\i.code<=100->0<=e/\e<=100:=by(intro _;omega)):∃h,RB c d s i now h/\HdP c d s i now h:=by
 have hi:qF c d'/\d'.rg.ag=d.rg.ag/\d'.rg.num=d.rg.num/\d'.dr=d.dr/\d'.rg.tk=d.rg.tk:=by
  rcases hd with rfl|⟨a,ho,rfl⟩
  ·exact⟨hI,rfl,rfl,rfl,rfl⟩
  ·refine⟨zQn hI ho,?_,?_,?_,?_⟩<;>(unfold AS wE;rw[(RC ho.2.2.2.2).1])
 have h3:=zQq c d s now i hI.bd d' p (-1) e h1;rw[zH5 he,hi.2.2.1]at h3;exact⟨⟨d',gA i.kind e,-1,e⟩,⟨h3,h2⟩,hi.1,hi.2.1,hi.2.2.1,λ_=>⟨rfl,rfl,hd⟩,λh=>absurd h he,.inl Z,by rw[hi.2.2.2.1];exact zX7 _,T0.of hi.2.2.2.2 (by rcases hd with h|⟨a,_,h⟩<;>rw[h];rfl),heb,λ_ _=>by rw[show d'.au=d.au by rcases hd with h|⟨a,_,h⟩<;>rw[h];rfl],by dsimp only;rw[show d'.rq=d.rq by rcases hd with h|⟨a,_,h⟩<;>rw[h];rfl];exact WQ.refl _⟩
def zSp {c:Cf} {d:xI} {s now:Int} {i:It} (hI:qF c d) (a:List Int) (ho:Opn d i now a) (p:Ms) (k:Int) (d':xI) (hi:qF c d') (ha:d'.rg.ag=d.rg.ag) (hn:d'.rg.num=d.rg.num)
  (hr:RpF d i now a ⟨d',p,k,0⟩) (hk:k= -1∨(i.kind=11/\0<=k/\k<(c.js.length:Int))) (hdl:d'.dr.length<=d.dr.length) (ht0:EA d d')
  (h1:zO 170 [vL c,zK d,iA s,wO i,iA now] [] (hT d' p k 0) []) (h2:AY c d s now i ⟨d',p,k,0⟩) (hau:d'.au=d.au) (hsc:WQ d.rq d'.rq):∃h,RB c d s i now h/\HdP c d s i now h:=by
 have h3:=zQq c d s now i hI.bd d' p k 0 h1;rw[zCg,hn]at h3;exact⟨⟨d',p,k,0⟩,⟨h3,h2⟩,hi,ha,hn,λh=>absurd Z h,λ_=>⟨a,ho,hr⟩,hk,hdl,ht0,λ_=>by dsimp only;omega,λ_ _=>by dsimp only;rw[hau],hsc⟩
theorem zH6:∀{qs:List Qd} {q:Qd},q∈qs->q.j∈XO qs/\q.p∈XO qs/\q.f∈XO qs/\q.t∈XO qs
 |x::l,q,h=>by
  rw[show XO (x::l)=x.j::x.p::x.f::x.t::XO l from Z]
  rcases zZg.1 h with rfl|h
  ·simp
  ·obtain⟨h1,h2,h3,h4⟩:=zH6 h;simp[h1,h2,h3,h4]
theorem AT {α β γ:Type} {f:α->β->γ}:∀{a:List α} {b:List β} {g:γ},g∈a.zipWith f b->∃x∈a,∃y,g=f x y
 |x::a,y::b,g,h=>by
  rw[yBr]at h
  rcases zZg.1 h with rfl|h
  ·exact⟨x,by simp,y,rfl⟩
  ·obtain⟨z,hz,w,e⟩:=AT h;exact⟨z,by simp[hz],w,e⟩
 | [],_,_,h=>by simp at h
 |_::_,[],_,h=>by simp at h
def zH7 (l:List Rq) (r:Rq):(ZI l r).length=l.length+1:=by
 have:=IC l r.id;unfold ZI;rw[zX4,zYh,zYn,zYv];omega
def zSq {j p f t now:Int} (h:mwB j p f t now=true):(mwF j p f t now).jn=j/\(mwF j p f t now).ph=p:=by
 unfold mwF;rw[zX3 h];exact⟨rfl,rfl⟩
def zVw {c:Cf} {now:Int} {qs:List Qd} (h:qs.all (NL c now)=true):∀g∈qs.map (HJ now),g.jn<(c.js.length:Int)/\g.ph<((c.js.getD g.jn.toNat default).ph.length:Int):=by
 intro g hg;rw[zZn]at hg;obtain⟨q,hq,rfl⟩:=hg;have h1:=zYi.1 h q hq;unfold NL at h1;simp only[zYg,zX9]at h1;obtain⟨h2,h3,h4⟩:=h1;obtain⟨e1,e2⟩:=zSq h4;unfold HJ;rw[e1,e2];exact⟨h2,h3⟩
def zXh {l:List Rq} {q id life:Int} {x:List Lg} (h:suE l q id life x=0):(l.length:Int)<q/\(l.length:Int)<4:=by
 unfold suE at h;split at h
 ·omega
 ·split at h
  ·omega
  ·split at h
   ·omega
   ·omega
def zVx {c:Cf} {d:xI} {cls id v life now:Int} {qs:List Qd} (h:dsE c d cls id v life now qs=0):zKk (aC d.rg.vh v)=true/\qs.all (NL c now)=true/\suE d.rq d.rg.ag.req id life (qs.map (HJ now))=0:=by
 unfold dsE sxE at h;split at h
 ·split at h
  ·omega
  ·split at h
   ·rename_i ha;split at h
    ·split at h
     ·rename_i hv;exact⟨hv,ha,h⟩
     ·omega
    ·omega
   ·omega
 ·omega
def zXi {c:Cf} {d:xI} (hI:qF c d) {cls id v life now:Int} {qs:List Qd} (n0:0<=now) (n1:now<=1073741824) (h:dsE c d cls id v life now qs=0):qF c (dkQ d (dsL c d cls id v life now qs)):=by
 obtain⟨hv,ha,hs⟩:=zVx h;unfold zKk at hv;rw[zX9]at hv;have hl:=zXh hs;unfold dkQ dsL;rw[zX3 h];refine⟨hI.b,zT9 hI.v hs hv.1.1 hv.1.2 hv.2.1 hv.2.2 n0 n1,?_,λr hr g hg=>?_,hI.a,hI.n,hI.t8,hI.br,hI.bb,hI.bl,hI.au,hI.dn,hI.dr,hI.vh⟩
 ·dsimp only;rw[zH7];omega
 ·rcases NM hr with rfl|hr
  ·exact zVw ha g hg
  ·exact hI.lg r hr g hg
def zXj {c:Cf} {d:xI} (hI:qF c d) {id now:Int} {ws:List (Int×Int)} (h:aK d.rq id ws now=0):qF c (dkQ d (upQ d.rq id ws now)):=by
 unfold dkQ upQ;rw[zX3 h];have hl:(MS d.rq id ws now).length=d.rq.length:=by unfold MS;rw[zX5]
 refine⟨hI.b,zUb hI.v h,?_,λr hr g hg=>?_,hI.a,hI.n,hI.t8,hI.br,hI.bb,hI.bl,hI.au,hI.dn,hI.dr,hI.vh⟩
 ·dsimp only;rw[hl];exact hI.q
 ·dsimp only at hr;unfold MS at hr;rw[zZn]at hr;obtain⟨r0,hr0,rfl⟩:=hr;split at hg
  ·obtain⟨x,hx,y,rfl⟩:=AT hg;exact hI.lg r0 hr0 x hx
  ·exact hI.lg r0 hr0 g hg
def zVy {c:Cf} {d:xI} (hI:qF c d) (p:Rq->Bool):qF c (dkQ d (d.rq.filter p)):=by
 have hl:=yAd p d.rq;have hq:=hI.q;refine⟨hI.b,hI.v.filter p,?_,λr hr g hg=>hI.lg r ((yBn.1 hr).1) g hg,hI.a,hI.n,hI.t8,hI.br,hI.bb,hI.bl,hI.au,hI.dn,hI.dr,hI.vh⟩
 show((d.rq.filter p).length:Int)<=d.rg.ag.req
 omega
def zVz {c:Cf} {d:xI} {cls id v life now:Int} {qs:List Qd} (h:dsE c d cls id v life now qs=0):WQ d.rq (dsL c d cls id v life now qs):=by
 unfold dsL;rw[zX3 h];intro r hr g hg
 rcases NM hr with rfl|hr
 ·refine .inl ?_;obtain⟨q,hq,rfl⟩:=zZn.1 hg;have h1:=zYi.1 (zVx h).2.1 q hq;unfold NL at h1;simp only[zYg,zX9]at h1;unfold HJ mwF;rw[zX3 h1.2.2]
 ·exact .inr ⟨r,hr,rfl,g,hg,rfl,rfl,rfl⟩
def zV0 {d:xI} {id now:Int} {ws:List (Int×Int)} (h:aK d.rq id ws now=0):WQ d.rq (upQ d.rq id ws now):=by
 unfold upQ;rw[zX3 h];intro r hr g hg;unfold MS at hr;rw[zZn]at hr;obtain⟨r0,hr0,rfl⟩:=hr;split at hg
 ·obtain⟨x,hx,y,rfl⟩:=AT hg;exact .inr ⟨r0,hr0,by split<;>rfl,x,hx,rfl,rfl,rfl⟩
 ·exact .inr ⟨r0,hr0,by split<;>rfl,g,hg,rfl,rfl,rfl⟩
def zV1 (d:xI) (m:Ms) (r':Rg) (u:Bool):WQ d.rq (dgD d m r' u 0).rq:=by
 unfold dgD;rw[zX3 Z];dsimp only;split
 ·exact WQ.filter _ _
 ·exact WQ.refl _
def zXk {c:Cf} {d:xI} (hI:qF c d) {m:Ms} {sec:List Int} {r':Rg} {p:Ms} {u:Bool} (hb:ER r') (hP:DoP d.rg m sec r' p u 0):qF c (dgD d m r' u 0)/\(dgD d m r' u 0).rg.ag=d.rg.ag/\(dgD d m r' u 0).rg.num=d.rg.num/\(dgD d m r' u 0).dr.length<=d.dr.length/\EA d (dgD d m r' u 0):=by
 have hdr:(if u=true then d.dr.drop 1 else d.dr).length<=1000/\∀x∈(if u=true then d.dr.drop 1 else d.dr),x.length=8/\BY x:=by
  split
  ·exact⟨by have:=hI.dn;rw[zYv];omega,λx hx=>hI.dr x (zY1 hx)⟩
  ·exact⟨hI.dn,hI.dr⟩
 have hrq:ZN (if m.kind=5 then ET d.rq (m.args.getD 0 0)else d.rq)/\((if m.kind=5 then ET d.rq (m.args.getD 0 0)else d.rq).length:Int)<=d.rg.ag.req/\zVv c (if m.kind=5 then ET d.rq (m.args.getD 0 0)else d.rq):=by
  split
  ·have h:=zVy hI (λx=>x.vh != m.args.getD 0 0);exact⟨h.v,h.q,h.lg⟩
  ·exact⟨hI.v,hI.q,hI.lg⟩
 have hdd:(if u=true then d.dr.drop 1 else d.dr).length<=d.dr.length:=by
  split
  ·rw[zYv];omega
  ·exact zX7 _
 unfold dgD;rw[zX3 Z]
 rcases hP.2 Z with⟨o,ho,hT,rfl,_⟩|⟨o,ho,rfl,_⟩
 ·refine⟨⟨hb,hrq.1,hrq.2.1,hrq.2.2,hI.a,hI.n,ho,hI.br,hI.bb,hI.bl,hI.au,hdr.1,hdr.2,hI.vh⟩,rfl,rfl,hdd,λh=>⟨hT h,rfl⟩⟩
 ·exact⟨⟨hb,hrq.1,hrq.2.1,hrq.2.2,hI.a,hI.n,hI.t8,hI.br,hI.bb,hI.bl,hI.au,hdr.1,hdr.2,ho⟩,rfl,rfl,hdd,EA.refl _⟩
def zSr {d:xI} {i:It} {now:Int} {a:List Int} (ho:Opn d i now a):(AS d i now a).rg.ag=d.rg.ag/\(AS d i now a).rg.num=d.rg.num/\(AS d i now a).rg.tk=d.rg.tk/\(AS d i now a).rq=d.rq/\(AS d i now a).dr=d.dr/\(AS d i now a).au=d.au:=by
 unfold AS wE;rw[(RC ho.2.2.2.2).1];exact⟨rfl,rfl,rfl,rfl,rfl,rfl⟩
def zCh {l:List Tk} {g:Int} {b:List Int} {k now:Int} (h:ckB l g b k now=true):dW l (b.getD 1 default)=true:=by
 unfold ckB at h;simp only[zYg]at h;exact h.1.2
def zXl (r:Rg) (m:Ms) (now:Int):0<=opE r m now/\opE r m now<=100:=by
 unfold opE;split
 ·split<;>omega
 ·omega
def zV2 (c:Cf) (d:xI) (cls id v life now:Int) (qs:List Qd):0<=dsE c d cls id v life now qs/\dsE c d cls id v life now qs<=100:=by
 unfold dsE sxE suE
 repeat' split
 all_goals omega
def zV3 (l:List Rq) (id:Int) (ws:List (Int×Int)) (now:Int):0<=aK l id ws now/\aK l id ws now<=100:=by
 unfold aK
 repeat' split
 all_goals omega
def zV4 {d:xI} {i:It} {now:Int} {a:List Int} (h:NoT d.rg.tk) (ho:Opn d i now a):i.kind≠10:=λhk=>by
 have h1:=(RC ho.2.2.2.2).2.1;have h2:=zCh h1;unfold ckB at h1;dsimp only at h1;rw[hk]at h1;simp only[zYg]at h1;unfold dW at h2;rw[zYg,zX9]at h2;dsimp only at h2;have h3:=h _ (zX d.rg.tk _ (show((i.pay.take 10).getD 1 default).toNat<d.rg.tk.length by have:=h2.1;omega)) h2.2;rw[show peF (zJ9 d.rg.tk (i.pay.take 10)).rights 10=false from h3]at h1;exact absurd h1.2.2 zYp
theorem zEj (c:Cf) (d:xI) (hI:qF c d) (s now:Int) (n0:0<=now) (n1:now<=1073741824) (i:It) (hby:BY i.pay) (hlen:i.pay.length<=100000):∃h,RB c d s i now h/\HdP c d s i now h:=by
 by_cases hc:i.code=0
 case neg=>exact EB hI hc PM d (.inl Z) (zPg c d s now i hc) (zNs c d s now hI.bd i hc) id
 by_cases hk:1<=i.kind/\i.kind<=12
 case neg=>exact EB hI zV PM d (.inl Z) (zPh c d s now i hc hk) (zNt c d s now hI.bd i hc hk)
 obtain⟨h0,h1⟩:=hk;have k2:=zKn i.kind h0 h1 i.pay hby hlen;have r2:=KL i.kind h0 h1 i.pay hby hlen;have hii:i=⟨0,i.kind,i.pay⟩:=by cases i;simp_all
 cases hd:PL (qC i.kind) (wY i.kind) i.pay with
 |none=>
  rw[hd]at k2 r2;have q1:=zPi c d s now i.kind i.pay h0 h1 k2;have q2:=zNu c d s now hI.bd i.kind i.pay h0 h1 r2;rw[<-hii]at q1 q2;exact EB hI zV PM d (.inl Z) q1 q2
 |some ar=>
 rw[hd]at k2 r2;obtain⟨_,hl10,hv,hg0,hg1⟩:=zNf hby hd;have hbt:BY (i.pay.take 10):=λx hx=>hby x (zZl hx)
 have hlv:d.rg.bk.level<=1000000:=by have:=hI.bl;have:=hI.a.b;omega
 have k3:=zTv d.rg ⟨i.kind,i.pay.take 10,ar,[]⟩ now hI.b hbt hlv;have r3:=zNw d.rg ⟨i.kind,i.pay.take 10,ar,[]⟩ now hI.b hbt hlv;by_cases ho:opE d.rg ⟨i.kind,i.pay.take 10,ar,[]⟩ now=0
 case neg=>
  have q1:=zPj c d s now i.kind i.pay (i.pay.take 10) ar h0 h1 k2 _ _ _ ho k3;have q2:=zNv c d s now hI.bd i.kind i.pay (i.pay.take 10) ar h0 h1 r2 _ _ _ ho r3;rw[<-hii]at q1 q2;exact EB hI ho PM d (.inl Z) q1 q2 (λ_=>zXl _ _ _)
 have hO:Opn d i now ar:=⟨hc,h0,h1,hd,ho⟩;obtain⟨_,hck,_,hsl⟩:=RC ho;rw[ho,hsl]at k3 r3;have hus:=zCh hck;dsimp only at hsl hus;generalize (i.pay.take 10).getD 1 default=sl at *;have hI1:=zQn hI hO;obtain⟨ea,en,et,eq,er,eu⟩:=zSr hO
 have hs0:0<=sl/\sl<(d.rg.tk.length:Int):=by
  unfold dW at hus;rw[zYg,zX9]at hus;exact hus.1
 have hsd:AS d i now ar=wE d (opR d.rg ⟨i.kind,i.pay.take 10,ar,[]⟩ now):=rfl;generalize opR d.rg ⟨i.kind,i.pay.take 10,ar,[]⟩ now=r1 at *;have tl:(i.pay.take 10).length<=1000:=by rw[zYn];omega
 have NO:∀(e:Int),e≠0->0<=e/\e<=100->∀(p p2:Ms) (k2':Int),zO 170 [vL c,zK d,iA s,wO ⟨0,i.kind,i.pay⟩,iA now] [] (hT (wE d r1) p (-1) e) []->
   yV [vL c,zK (wE d r1),iA s,yF ⟨i.kind,i.pay.take 10,ar,[]⟩,iA sl,iA now] [] (hT (wE d r1) p2 k2' e) []->∃h,RB c d s i now h/\HdP c d s i now h:=by
  intro e he heb p p2 k2' q1 q2;have q3:=zQr c d s now hI.bd i.kind i.pay _ ar h0 h1 r2 r1 sl r3 (wE d r1) (hsd▸hI1.bd) p2 k2' e q2;rw[zH5 he]at q3;rw[<-hii]at q1 q3;exact EB hI he p _ (.inr ⟨ar,hO,hsd.symm⟩) q1 q3 (λ_=>heb)
 have YES:∀(d':xI) (p:Ms) (k:Int),qF c d'->d'.rg.ag=d.rg.ag->d'.rg.num=d.rg.num->RpF d i now ar ⟨d',p,k,0⟩->(k= -1∨(i.kind=11/\0<=k/\k<(c.js.length:Int)))->d'.dr.length<=d.dr.length->EA d d'->zO 170 [vL c,zK d,iA s,wO ⟨0,i.kind,i.pay⟩,iA now] [] (hT d' p k 0) []->
   yV [vL c,zK (wE d r1),iA s,yF ⟨i.kind,i.pay.take 10,ar,[]⟩,iA sl,iA now] [] (hT d' p k 0) []->d'.au=d.au->WQ d.rq d'.rq->∃h,RB c d s i now h/\HdP c d s i now h:=by
  intro d' p k hi ha hn hr hk hdl ht0 q1 q2 hau hsc;have q3:=zQr c d s now hI.bd i.kind i.pay _ ar h0 h1 r2 r1 sl r3 d' hi.bd p k 0 q2;rw[zCg]at q3;rw[<-hii]at q1 q3;exact zSp hI ar hO p k d' hi ha hn hr hk hdl ht0 q1 q3 hau hsc
 rw[hsd]at hI1 ea en et eq er eu;have hgk:wY i.kind=0∨wY i.kind≠0:=by omega
 have hcs:i.kind=1∨(i.kind=2∨i.kind=3∨i.kind=4∨i.kind=5)∨i.kind=6∨i.kind=7∨i.kind=8∨i.kind=9∨i.kind=10∨i.kind=11∨i.kind=12:=by omega
 rcases hcs with hk|hk|hk|hk|hk|hk|hk|hk|hk
 ·
  have hal:ar=[]:=zYz (by rw[hg0 KA,hk];rfl);subst hal;have hsame:=OC hO (.inl hk);rw[hsd]at hsame;rw[hsame]at hI1;have q1:=HP c d s now i.kind i.pay _ [] h0 h1 k2 r1 sl k3 (.inl hk) (NJ d now) (by rw[hsame,hk];exact CI d now);have q2:=zIf c d s now (i.pay.take 10) sl;rw[hsame]at q1;refine YES d _ _ hI1 Z Z (.inl ⟨hk,rfl,rfl⟩) (.inl Z) (zX7 _) (EA.refl _) q1 ?_ Z (WQ.refl _);rw[hsame,hk];exact q2
 ·
  obtain⟨a,ar1,har⟩:∃a ar1,ar=a::ar1:=by
   cases ar with
   |nil=>exfalso;have:=hg0 zQy;rcases hk with hk|hk|hk|hk<;>rw[hk]at this<;>cases this
   |cons a ar1=>exact⟨a,ar1,rfl⟩
  have hal:ar.length<=1000:=by have:=hg0 zQy;have:=zBd i.kind;omega
  have hm:MsB ⟨i.kind,i.pay.take 10,ar,[]⟩:=⟨tl,hal,zYl _⟩
  have hsec:(MZ (wE d r1)).length<=1000:=by
   unfold MZ wE;dsimp only
   cases hdr:d.dr with
   |nil=>simp
   |cons b bs=>have:=(hI.dr b (by rw[hdr];simp)).1;simp;omega
  have hsb:BY (MZ (wE d r1)):=by
   unfold MZ wE;dsimp only
   cases hdr:d.dr with
   |nil=>exact λx hx=>by cases hx
   |cons b bs=>exact(hI.dr b (by rw[hdr];simp)).2
  have hvh:r1.vh.length<=1000:=by have:=hI1.vh;exact zY9 this zB
  obtain⟨r',p,u,e,hr',hp',hP,f1,f2⟩:=zPe r1 hvh ⟨i.kind,i.pay.take 10,ar,[]⟩ hm sl now (MZ (wE d r1)) hsec
  have h5:i.kind=5->∃a,ar=[a]:=λh=>by
   have h9:=hg0 (by rw[h];rfl);rw[h]at h9;exact len1 h9
  have q1:=zUe (wE d r1) ⟨i.kind,i.pay.take 10,ar,[]⟩ sl now hI1.v hI1.dn r' p u e f1 h5
  have hu:u=true->(wE d r1).dr≠[]:=λhu h9=>by
   have he:e=0:=by
    by_cases he:e=0
    ·exact he
    ·rw[(hP.1 he).1]at hu;cases hu
   have h10:MZ (wE d r1)=[]:=by unfold MZ;rw[h9];rfl
   rcases hP.2 he with⟨o,_,_,_,h11|h11⟩|⟨o,_,_,h11,_⟩
   ·rw[h11.1]at hu;cases hu
   ·rw[h10]at h11;exact absurd h11.2.1 zV
   ·rw[h11]at hu;cases hu
  have q2:=zPf (wE d r1) ⟨i.kind,i.pay.take 10,ar,[]⟩ sl now hI1.v hI1.dn r' p u e f2 h5 hu;have w1:=zUf c d s now i.kind i.pay _ ar h0 h1 k2 r1 sl k3 hk _ _ e q1;have w2:=zSv c (wE d r1) s now (i.pay.take 10) sl i.kind ar a ar1 har hk _ p e q2;by_cases he:e=0
  ·subst he;rw[zX3 Z]at w1;obtain⟨hi,ha,hn,hd1,hd2⟩:=zXk (m:=⟨i.kind,i.pay.take 10,ar,[]⟩) hI1 hr' hP;have hvx:0<=a/\a<=4294967295:=hv a (by rw[har];simp);refine YES _ p (-1) hi (ha.trans ea) (hn.trans en) ?_ (.inl Z) hd1 ((T0.of et eu).trans hd2) w1 w2 (by unfold dgD;rw[zX3 Z];rfl) (zV1 (wE d r1) _ r' u)
   rcases hP.2 Z with⟨o,_,_,_,h11|h11⟩|⟨o,_,_,_,h11,h12⟩
   ·obtain⟨_,h12,h13⟩:=h11;dsimp only at h13 h12;exact .inr (.inr (.inr (.inr ⟨zB,a,hvx.1,hvx.2,by rw[h12,har,h13];rfl⟩)))
   ·obtain⟨_,h12,h13,k,h14,h15⟩:=h11;have en':r1.num=d.rg.num:=en;exact .inr (.inr (.inr (.inl ⟨h13,k,_,h14,⟨h12,hsb⟩,by rw[h15,en']⟩)))
   ·dsimp only at h11 h12;exact .inr (.inr (.inr (.inr ⟨zB,a,hvx.1,hvx.2,by rw[h12,har];rfl⟩)))
  ·have e1:dgD (wE d r1) ⟨i.kind,i.pay.take 10,ar,[]⟩ r' u e=wE d r1:=by unfold dgD;rw[zX2 he]
   rw[e1]at w1 w2;exact NO e he (hP.1 he).2 _ _ _ w1 w2
 ·
  obtain⟨cc,c1,c3,hl⟩:=hg1 (by rw[hk];decide);rw[hk,show qC 6=3 from Z,show wY 6=4 from Z]at hl
  obtain⟨id,v,life,ar1,har⟩:∃id v life ar1,ar=id::v::life::ar1:=by
   match ar,hl with
   |id::v::life::ar1,_=>exact⟨id,v,life,ar1,rfl⟩
   | [],h=>simp at h;omega
   | [_],h=>simp at h;omega
   | [_,_],h=>simp at h;omega
  subst har;obtain⟨qs,hqs,hqn⟩:=zQl cc ar1 (by simp only[zYh]at hl;omega);subst hqs
  have hp:∀q∈qs,0<=q.j/\0<=q.p:=λq hq=>by
   obtain⟨m1,m2,_⟩:=zH6 hq;exact⟨(hv q.j (by simp[m1])).1,(hv q.p (by simp[m2])).1⟩
  have hvx:=hv id zW;have s1:sl<((wE d r1).rg.tk.length:Int):=by rw[et];exact hs0.2
  have q1:=zUj c (wE d r1) (i.pay.take 10) id v life sl now qs hI1.bd hI1.v hs0.1 s1 zB hp n0 n1;have q2:=zA8 c (wE d r1) 6 (i.pay.take 10) id v life ((wE d r1).rg.tk.getD sl.toNat default).cls now qs hI1.bd hI1.v zB hp n0 n1;by_cases he:dsE c (wE d r1) ((wE d r1).rg.tk.getD sl.toNat default).cls id v life now qs=0
  ·have hi:=zXi hI1 n0 n1 he;rw[he]at q1;rw[zX3 he,he]at q2;have w1:=HO c d s now i.kind i.pay _ _ h0 h1 k2 r1 sl k3 (.inl hk) id _ Z _ KB;have w2:=zIg c (wE d r1) s now (i.pay.take 10) sl _ id _ Z hs0.1 s1 _ 0 q2;refine YES _ (fA i.kind id) (-1) hi ea en (.inr (.inr (.inr (.inr ⟨zB,id,hvx.1,hvx.2,rfl⟩)))) (.inl Z) (zX7 _) (T0.of et eu) w1 ?_ Z (zVz (d:=wE d r1) he);rw[hk];exact w2
  ·rw[zX2 he]at q2;have w1:=HN c d s now i.kind i.pay _ _ h0 h1 k2 r1 sl k3 (.inl hk) _ _ he KB;have w2:=zIg c (wE d r1) s now (i.pay.take 10) sl _ id _ Z hs0.1 s1 _ _ q2;exact NO _ he (by first|exact zV2 _ _ _ _ _ _ _ _|exact zV3 _ _ _ _) _ _ _ w1 (by rw[hk];exact w2)
 ·
  obtain⟨cc,c1,c3,hl⟩:=hg1 (by rw[hk];decide);rw[hk,show qC 7=1 from Z,show wY 7=2 from Z]at hl
  obtain⟨id,ar1,har⟩:∃id ar1,ar=id::ar1:=by
   match ar,hl with
   |id::ar1,_=>exact⟨id,ar1,rfl⟩
   | [],h=>simp at h;omega
  subst har;obtain⟨ws,hqs,hqn⟩:=zQm cc ar1 (by simp only[zYh]at hl;omega);subst hqs;have hvx:=hv id zW;have q1:=zUh c (wE d r1) (i.pay.take 10) id sl now ws hI1.v zB n0 n1;have q2:=zUi (wE d r1) (i.pay.take 10) id now ws hI1.v zB n0 n1;by_cases he:aK (wE d r1).rq id ws now=0
  ·have hi:=zXj hI1 he;rw[he]at q1;rw[zX3 he,he]at q2;have w1:=HO c d s now i.kind i.pay _ _ h0 h1 k2 r1 sl k3 (.inr (.inl hk)) id _ Z _ KB;have w2:=zIh c (wE d r1) s now (i.pay.take 10) sl _ id _ Z _ 0 q2;refine YES _ (fA i.kind id) (-1) hi ea en (.inr (.inr (.inr (.inr ⟨zB,id,hvx.1,hvx.2,rfl⟩)))) (.inl Z) (zX7 _) (T0.of et eu) w1 ?_ Z (zV0 (d:=wE d r1) he);rw[hk];exact w2
  ·rw[zX2 he]at q2;have w1:=HN c d s now i.kind i.pay _ _ h0 h1 k2 r1 sl k3 (.inr (.inl hk)) _ _ he KB;have w2:=zIh c (wE d r1) s now (i.pay.take 10) sl _ id _ Z _ _ q2;exact NO _ he (by first|exact zV2 _ _ _ _ _ _ _ _|exact zV3 _ _ _ _) _ _ _ w1 (by rw[hk];exact w2)
 ·
  obtain⟨id,har⟩:=len1 (show ar.length=1 by rw[hg0 KA,hk];rfl);subst har;have hvx:=hv id zW;have q1:=zUk c (wE d r1) (i.pay.take 10) id sl now hI1.v;have q2:=zSw c (wE d r1) s now (i.pay.take 10) sl id _ _ (zEn (wE d r1).rq id hI1.v);by_cases he:gY (wE d r1).rq id=true
  ·have hi:=zVy hI1 (λx=>x.id != id);rw[zX3 he,zX3 he]at q1;rw[zX3 he,zX3 he,zX3 Z]at q2;have w1:=HO c d s now i.kind i.pay _ _ h0 h1 k2 r1 sl k3 (.inr (.inr hk)) id [] Z _ KB;refine YES _ (fA i.kind id) (-1) hi ea en (.inr (.inr (.inr (.inr ⟨zB,id,hvx.1,hvx.2,rfl⟩)))) (.inl Z) (zX7 _) (T0.of et eu) w1 ?_ Z (WQ.filter _ _);rw[hk];exact q2
  ·rw[zX2 he,zX2 he]at q1;rw[zX2 he,zX2 he,zX2 zV]at q2;have w1:=HN c d s now i.kind i.pay _ _ h0 h1 k2 r1 sl k3 (.inr (.inr hk)) _ 12 zV KB;exact NO 12 zV zV _ _ _ w1 (by rw[hk];exact q2)
 ·
  have hal:ar=[]:=zYz (by rw[hg0 KA,hk];rfl);subst hal;have hsame:=OC hO (.inr zB);rw[hsd]at hsame;rw[hsame]at hI1;have q1:=HP c d s now i.kind i.pay _ [] h0 h1 k2 r1 sl k3 (.inr (.inl hk)) (NK d) (by rw[hsame,hk];exact zA7 d now hI.bd);have q2:=zNp c d s now (i.pay.take 10) sl hI.bd;rw[hsame]at q1;refine YES d _ _ hI1 Z Z (.inr (.inl ⟨hk,rfl,rfl⟩)) (.inl Z) (zX7 _) (EA.refl _) q1 ?_ Z (WQ.refl _);rw[hsame,hk];exact q2
 ·
  obtain⟨a,har⟩:=len1 (show ar.length=1 by rw[hg0 KA,hk];rfl);subst har;have hvx:=hv a zW;by_cases ha:1<a
  ·have w1:=zPm c d s now i.kind i.pay _ [a] h0 h1 k2 r1 sl k3 hk a Z ha;have w2:=zNn c (wE d r1) s now (i.pay.take 10) sl a ha;exact NO 8 zV zV _ _ _ w1 (by rw[hk];exact w2)
  by_cases hs:0<=s/\s<(d.au.length:Int)
  case neg=>
   have w1:=zPn c d s now i.kind i.pay _ [a] h0 h1 k2 r1 sl k3 hk a Z zB hs;have w2:=zNo c (wE d r1) s now (i.pay.take 10) sl a zB (by rw[eu];exact hs);refine YES _ (fA 10 a) (-1) hI1 ea en (.inr (.inr (.inr (.inr ⟨zB,a,hvx.1,hvx.2,by rw[hk]⟩)))) (.inl Z) (zX7 _) (T0.of et eu) w1 ?_ Z (WQ.refl _);rw[hk];exact w2
  rw[hk]at k2 r2 k3 r3;have hI2:qF c ⟨r1,d.rq,d.dr,d.au.set s.toNat (a==1)⟩:=⟨hI1.b,hI1.v,hI1.q,hI1.lg,hI1.a,hI1.n,hI1.t8,hI1.br,hI1.bb,hI1.bl,by have:=hI1.au;dsimp only;rw[zZx];exact this,hI1.dn,hI1.dr,hI1.vh⟩;have w1:=zNq c d s now i.pay (i.pay.take 10) a hvx.1 zB k2 r1 sl k3 hs;have w2:=zNr c (wE d r1) s now (i.pay.take 10) sl a hvx.1 zB (by rw[eu];exact hs);have q1:=zSx c d s now ⟨0,10,i.pay⟩ hI.bd zB _ _ _ w1;have q2:=zSy c d s now hI.bd 10 i.pay _ [a] zV zV r2 r1 sl r3 _ hI2.bd _ _ w2;have en':r1.num=d.rg.num:=en;rw[show(⟨r1,d.rq,d.dr,d.au.set s.toNat (a==1)⟩:xI).rg.num=d.rg.num from en']at q1;rw[<-hk,<-hii]at q1 q2;exact⟨⟨⟨r1,d.rq,d.dr,d.au.set s.toNat (a==1)⟩,fA i.kind a,-1,0⟩,⟨q1,q2⟩,hI2,ea,en,λh=>absurd Z h,λ_=>⟨[a],hO,.inr (.inr (.inr (.inr ⟨zB,a,hvx.1,hvx.2,rfl⟩)))⟩,.inl Z,zX7 _,λh=>absurd (zV4 h hO) (λh9=>h9 hk),λ_=>by dsimp only;omega,λk hk'=>by show(d.au.set s.toNat (a==1))[k]? =_;rw[yB9 zB],WQ.refl _⟩
 ·
  obtain⟨a,har⟩:=len1 (show ar.length=1 by rw[hg0 KA,hk];rfl);subst har;have hvx:=hv a zW;by_cases ha:a<(c.js.length:Int)
  ·have w1:=zPl c d s now i.kind i.pay _ [a] h0 h1 k2 r1 sl k3 hk a Z ha;have w2:=zNm c (wE d r1) s now (i.pay.take 10) sl a ha;refine YES _ (fA 11 a) a hI1 ea en (.inr (.inr (.inr (.inr ⟨zB,a,hvx.1,hvx.2,by rw[hk]⟩)))) (.inr ⟨hk,hvx.1,ha⟩) (zX7 _) (T0.of et eu) w1 ?_ Z (WQ.refl _);rw[hk];exact w2
  ·have w1:=zPk c d s now i.kind i.pay _ [a] h0 h1 k2 r1 sl k3 hk a Z zB;have w2:=zNl c (wE d r1) s now (i.pay.take 10) sl a zB;exact NO 8 zV zV _ _ _ w1 (by rw[hk];exact w2)
 ·
  have hal:ar=[]:=zYz (by rw[hg0 KA,hk];rfl);subst hal;have hsame:=OC hO (.inr zB);rw[hsd]at hsame;rw[hsame]at hI1;have hrq:=hI.a.q;have q1:=HP c d s now i.kind i.pay _ [] h0 h1 k2 r1 sl k3 (.inr (.inr hk)) (ZF d) (by rw[hsame,hk];exact zA5 d 12 now zV zV hI.bd zB zB);have q2:=zNk c d s now (i.pay.take 10) sl (zO7 d hI.bd zB zB);rw[hsame]at q1;refine YES d _ _ hI1 Z Z (.inr (.inr (.inl ⟨hk,rfl,rfl⟩))) (.inl Z) (zX7 _) (EA.refl _) q1 ?_ Z (WQ.refl _);rw[hsame,hk];exact q2
theorem zCi (d:Dk):∀i,∀j∈(MD d i).1,∃e,j=jnF e
 |0=>λj hj=>by simp[MD]at hj
 |i+1=>λj hj=>by
  simp only[MD,zYy,zZd]at hj
  rcases hj with hj|hj
  ·exact zCi d i j hj
  ·exact⟨_,hj⟩
def zH8 (d:Dk) (r:Int):(QH d r).js=(MD (ad (ad4 d)) (cfN d)).1:=by rw[QH,cfJ]
def zCj (d:Dk) (r:Int):(QH d r).ags=(SI (ad (cfJ d).2) r (cfM d)).1:=by rw[QH,cfG]
def zV5 (d:Dk) (rights:Int):1<=(QH d rights).js.length/\(QH d rights).js.length<=2/\1<=(QH d rights).ags.length/\(QH d rights).ags.length<=3:=by
 have h1:=wW (ad4 d) 2 zB;have h2:=wW (cfJ d).2 3 zB;rw[zH8,zCj,PA,cX];unfold cfN cfM;omega
def zV6 (d:Dk) (n r:Int) (hr:0<=r/\r<=63):AgV (agF d n r):=by
 have w1:=wW d (3-1+1) zB;have w2:=wW (ad d) (3-1+1) zB;have w3:=wW (ad (ad d)) 3 zB;have w4:=wW (ad (ad (ad d))) 3 zB;have w5:=wW (ad (ad (ad (ad d)))) (3-1+1) zB;have w6:=wW (ad (ad (ad (ad (ad d))))) (2-1+1) zB;have w7:=wW (ad (ad (ad (ad (ad (ad d)))))) (3-1+1) zB;have w8:=wW (ad7 d) 5 zB;unfold agF;refine⟨by dsimp only;rw[zKi];rfl,rfl,λx hx=>?_,hr,by dsimp only;omega,by dsimp only;omega,by dsimp only;omega,by dsimp only;omega,by dsimp only;omega⟩;simp only[zZg,yBj,yCo]at hx
 rcases hx with rfl|rfl|rfl|rfl<;>omega
structure AgD (a:Ag) (n:Int):Prop where
 v:AgV a
 s:a.sec=zAb (1000+n)
 q:1<=a.req/\a.req<=3
 b:1<=a.rate/\a.burst<=7
def zV7 (d:Dk) (n r:Int) (hr:0<=r/\r<=63):AgD (agF d n r) n:=by
 have w5:=wW (ad (ad (ad (ad d)))) (3-1+1) zB;have w7:=wW (ad (ad (ad (ad (ad (ad d)))))) (3-1+1) zB;have w8:=wW (ad7 d) 5 zB;exact⟨zV6 d n r hr,rfl,by unfold agF;dsimp only;omega,by unfold agF;dsimp only;omega⟩
theorem zH9 (d:Dk) (r:Int) (hr:0<=r/\r<=63):∀i k,k<i->AgD ((SI d r i).1.getD k default) k/\((SI d r i).1.getD k default).rights=r
 |0,k,h=>by omega
 | i+1,k,h=>by
  rw[zId,zYc];by_cases hk:k<i
  ·rw[zY0 (by rw[cX];exact hk),<-zYc];exact zH9 d r hr i k hk
  ·obtain rfl:k=i:=by omega
   rw[zYt (by rw[cX];omega),cX,yAa];exact⟨zV7 _ _ _ hr,rfl⟩
def zSs (d:Dk) (r:Int) (hr:0<=r/\r<=63) (k:Int) (h0:0<=k) (h1:k<((QH d r).ags.length:Int)):AgD ((QH d r).ags.getD k.toNat default) k/\((QH d r).ags.getD k.toNat default).rights=r:=by
 rw[zCj]at h1⊢;rw[cX]at h1;have:=zH9 (ad (cfJ d).2) r hr (cfM d) k.toNat zB;rw[show((k.toNat:Nat):Int)=k by omega]at this;exact this
def zIa {c:Cf} {a:Ag} (hv:AgV a) (n:Int) (hn:0<=n/\n<4):qF c (VQ n a a.ses.toNat):=by
 have he:=hv.e;have hq:=hv.q;have hb:=hv.b;have ht:=hv.t;have hs:=zWj n a hv;have e1:(CE n a).ag=a:=rfl;have e2:(CE n a).num=n:=rfl;have e3:(CE n a).tk.length=8:=by simp[CE,tkN]
 have e4:(CE n a).vh=[]:=rfl;have e5:(CE n a).bk=⟨a.burst,a.rate,a.burst⟩:=rfl;unfold VQ;generalize hN:a.ses.toNat=N;generalize CE n a=r at *;constructor
 ·exact hs
 ·exact⟨λr hr=>by simp at hr,List.Pairwise.nil,zYl _⟩
 ·dsimp only;rw[e1];simp only[zZc];omega
 ·intro r hr;simp at hr
 ·dsimp only;rw[e1];exact hv
 ·dsimp only;rw[e2];exact hn
 ·exact e3
 ·dsimp only;rw[e1,e5]
 ·dsimp only;rw[e1,e5]
 ·dsimp only;rw[e1,e5];exact⟨hb.1,yAc _⟩
 ·dsimp only;rw[e1,zZs];omega
 ·simp
 ·intro x hx;simp at hx
 ·dsimp only;rw[e4];simp
def zQo (n:Int) (a:Ag) (hv:AgV a):zO 57 [iA n,vU a] [] (zK (VQ n a a.ses.toNat)) []/\yV [iA n,vU a] [] (zK (VQ n a a.ses.toNat)) []:=by
 have he:=hv.e;have h1:=hv.s;have h2:=hv.l;exact⟨zUg n a a.ses.toNat zB zB zB zB,zPo n a a.ses.toNat zB zB zB zB⟩
def zV8 {l:List Tk} (h:GJ l) (now:Int):GJ (NN l now):=by
 refine⟨by unfold NN;rw[zX5,zZr];exact h.n,λt ht=>?_⟩;unfold NN at ht;rw[zZn]at ht;obtain⟨j,hj,rfl⟩:=ht;rw[zYs]at hj;unfold zBe;split
 ·exact zYl _
 ·rw[zYc,zYk hj,yAg];exact h.s _ (yAr _)
def MC (d:xI) (now:Int):xI:=⟨rtF d.rg now,zIt d.rq now,d.dr,d.au⟩
def zQp {c:Cf} {d:xI} (h:qF c d) (now:Int):qF c (MC d now)/\(MC d now).rg.ag=d.rg.ag/\(MC d now).rg.num=d.rg.num:=by
 refine⟨?_,rfl,rfl⟩;have hl:=h.bl;have hr:=h.br;have hbb:=h.bb;have ht:=h.a.t;have hql:=yAd (λx:Rq=>decide (now<=x.til)) d.rq;have hq:=h.q;refine⟨⟨zV8 h.b.tk now,h.b.s,h.b.l,h.b.v⟩,h.v.filter _,?_,λr hr g hg=>h.lg r (yBn.1 hr).1 g hg,h.a,h.n,?_,h.br,h.bb,?_,h.au,h.dn,h.dr,h.vh⟩
 ·show((d.rq.filter _).length:Int)<=d.rg.ag.req
  omega
 ·show(NN d.rg.tk now).length=8
  unfold NN;rw[zX5,zZr,h.t8]
 ·show 0<=min (d.rg.bk.level+d.rg.bk.rate) d.rg.bk.burst/\min (d.rg.bk.level+d.rg.bk.rate) d.rg.bk.burst<=d.rg.ag.burst
  omega
def EC {c:Cf} {d:xI} (h:qF c d) (now:Int):zO 95 [zK d,iA now] [] (zK (MC d now)) []:=by
 have k1:=aB d h.bd;have hl:=h.bl;have hr:=h.br;have hbb:=h.bb;have ht:=h.a.t;have hb:=h.a.b;have k2:=zO2 d.rg now h.b zB;have k3:=zIv d.rq now h.v;unfold MC;generalize rtF d.rg now=r at *;generalize zIt d.rq now=q at *;unfold zK wI at *;unfold qW at k2;refine eM Tryz.call95 λF hF=>?_
 refine EV (fQ k1 k2 k3) ?_;exact zJ
section
variable {P:Program} {K0:List Nat} {F:Fr K0} {m:Nat}
theorem VD.consume {st:St} {a:Act} {w:World} {X:Nat->Prop} {β:uW} (hX:XOK F X) (H:jK X (zC st.h) β w) (Ht:∀t,yB w (xO X β) (zC st.h) β (zG st.tm t) (a.eval (.tmp t))) (KK:gZ F (zC st.h) β w) (hJ:∀i,zG st.tm GS= .gh i->F.J i (Own β) X w) (hD:DOK X F a.defers w)
  (nd:∀k,zC st.h k≠some .dead) (gs:m<=GS) (hl:a.tmps.size=m) (k:Nat) (K ts:List Nat) (hK:K0.all (K.contains ·)=true) (hkK:K.contains k=false) {w':World} {β':uW} (G:xK X w (zC st.h) β w' (over [(k,.dead)] (zC st.h)) β') {v:AV} {c:Value} (hc:xE w' (xO X β') v c)
  (hg:∀i,v≠ .gh i) (t:Nat) (ht:t<m) {st':St} (he:restr K ts ⟨st.tm,(k,.dead)::st.h⟩=st'):wN F m ⟨(t,v)::st'.tm,st'.h⟩ (a.put (some t) c) w':=by
 subst he;have eh:zC ((k,xN.dead)::st.h)=over [(k,.dead)] (zC st.h):=vG [(k,xN.dead)] st.h;rw[<-eh]at G;obtain⟨H',hvv⟩:=G.hok.restr K
 have hkk:∀j,j∈K->j≠k:=λj hj e=>by
  subst e;have:K.contains j=true:=by simpa using hj
  rw[this]at hkK;cases hkK
 have hov:∀j,j≠k->zC ((k,xN.dead)::st.h) j=zC st.h j:=λj hj=>by rw[eh];exact aV _ _ hj
 have hnd:∀j,j∈K->zC ((k,xN.dead)::st.h) j≠some .dead:=λj hj=>by rw[hov j (hkk j hj)];exact nd j
 have hK0:∀j,j∈K0->j∈K:=λj hj=>by
  have:=zYi.1 hK j hj;simpa using this
 have hsub:∀b,xO X (λj=>if j∈K then β' j else []) b->xO X β' b:=λb hd=>by
  rcases hd with hx|⟨j,n,hm⟩
  ·exact .inl hx
  ·(try dsimp only at hm)
   split at hm
   ·exact .inr ⟨j,n,hm⟩
   ·simp at hm
 have hgs:GS≠t:=by omega
 refine⟨⟨X,_,hX,H',λj=>?_,⟨λj e hje=>?_,zY9 KK.size G.size,λb hb hi hn=>?_,λj b n hm=>?_,λj b n hm=>?_,λj b n hm=>?_,G.os.trans KK.os,G.tape.trans KK.tape,G.output.trans KK.output⟩,λi hi=>?_,hD.goes H G⟩,λj=>?_,gs,by simp[Act.put,hl]⟩
 ·show yB _ _ _ _ (zG ((t,v)::(restr K ts ⟨st.tm,(k,.dead)::st.h⟩).tm) j) _
  rw[yP];split
  ·rename_i hj;subst hj;have e:(a.put (some j) c).eval (.tmp j)=c:=by simp[Act.put,Act.eval,hl,ht]
   rw[e];exact .fz _ _ (hc.evo (zX7 _) λb _ hd=>⟨rfl,λh=>hd (hsub b h)⟩)
  ·rename_i hj;rw[Act.eval_put (λd hd e=>hj (by injection hd with hd;injection e with e;rw[hd,e])),gB];split
   ·exact hvv _ _ ((Ht j).evo G.evo)
   ·exact .fz _ _ (.bot _)
 ·have hj:=hK0 j (F.hh j e hje);have h1:=KK.knd j e hje;have hr:∀e',zC ((k,xN.dead)::st.h) j=some e'->zC (vD K (zC ((k,xN.dead)::st.h))) j=some (kI K (zC ((k,xN.dead)::st.h)) e'):=λe' h2=>by rw[xZ,zX3 hj,h2];rfl
  cases e with
  |dead=>exact h1
  |box cs=>obtain⟨cs',h2⟩:=h1;exact⟨_,hr _ ((hov j (hkk j hj)).trans h2)⟩
  |obj cs=>obtain⟨cs',h2⟩:=h1;exact⟨_,hr _ ((hov j (hkk j hj)).trans h2)⟩
  |arr sz xs sl=>obtain⟨xs',sl',h2,h3⟩:=h1;obtain⟨xs2,fl2,h4,h5⟩:=gT K (zC ((k,xN.dead)::st.h)) sz xs' sl';exact⟨xs2,fl2,(hr _ ((hov j (hkk j hj)).trans h2)).trans (by rw[h4]),by rw[h5];exact h3⟩
 ·rw[G.keep b (zZe hb KK.size),KK.keep b hb hi hn];intro j n hm
  rcases KK.own j b n hm with⟨k',n',h1⟩|h1
  ·exact hn _ _ h1
  ·omega
 ·(try dsimp only at hm)
  split at hm
  ·rcases G.own j b n hm with⟨k',n',h1⟩|h1
   ·exact KK.own k' b n' h1
   ·exact .inr (zY9 KK.size h1)
  ·simp at hm
 ·have hj:=hK0 j (F.hK j b n hm);obtain⟨n',h1,h2⟩:=KK.pas j b n hm
  (try dsimp only)
  rw[zX3 hj]
  cases hje:zC st.h j with
  |none=>rw[H.off j hje]at h2;simp at h2
  | some e=>
   have h3:=(G.key j e hje).resolve_left (hnd j hj)
   cases e with
   |dead=>exact h3.elim
   |box cs=>exact⟨n',h1,h3.2 b n' h2⟩
   |obj cs=>exact⟨n',h1,h3.2 b n' h2⟩
   |arr sz xs fl=>
    obtain⟨n'',h4,h5⟩:=h3.2 b n' h2;exact⟨n'',zY9 h1 h4,h5⟩
 ·obtain⟨n',_,h2⟩:=KK.pas j b n hm;rw[G.bs j b n' h2,KK.bs j b n hm]
 ·change zG ((t,v)::(restr K ts ⟨st.tm,(k,.dead)::st.h⟩).tm) GS= .gh i at hi
  rw[yP,zX2 hgs,gB]at hi;split at hi
  ·have h1:zG st.tm GS= .gh i:=IH hi;refine F.Jst i _ X w' w' _ (F.go G (hJ i h1)) (zX7 _) (λ_ _ _=>rfl) (λb hb=>?_) (λb hb=>?_) Z Z Z
   ·obtain⟨j,n,hm⟩:=hb
    (try dsimp only at hm)
    split at hm
    ·exact .inl ⟨j,n,hm⟩
    ·simp at hm
   ·obtain⟨j,n,hm⟩:=hb;exact H'.lt b (.inr ⟨j,n,hm⟩)
  ·cases hi
 ·show zC (vD K (zC ((k,xN.dead)::st.h))) j≠some .dead
  rw[xZ];split
  ·rename_i hj;intro h;rw[zYf]at h;obtain⟨e,he,h2⟩:=h
   cases e with
   |dead=>exact hnd j hj he
   |box cs=>cases h2
   |obj cs=>cases h2
   |arr a b c=>obtain⟨xs2,fl2,h4,_⟩:=gT K (zC ((k,xN.dead)::st.h)) a b c;rw[h4]at h2;cases h2
  ·intro h;cases h
variable {ops:Array Oper} {rest:List Oper} {Q:List FP->St->Prop} {tm:List (Nat×AV)} {h:List (Nat×xN)} {fs fs':List FP} {TT:List TI} {ty:Nat} {pos:String} {after:Array Edge} {t:Nat}
theorem zSt (K ts:List Nat) (hP:uZ P TT) {T e k sz:Nat} {s x:Operand} {ti te:TI} {xs vs:List AV} {fl:Fl} {xv:AV} (hs:yM (zG tm) s= .ref k 0 0) (hk:zC h k=some (.arr sz xs fl)) (hx:yM (zG tm) x=xv) (hT:TT[T]? =some ti) (hd:ti.d= .slice e) (he:TT[e]? =some te) (hvs:DY (zC h) xv=some vs)
  (hss:Nat.beq sz te.size=true) (hsz:∀y,vs[0]? =some y->y.cells.length=sz) (hb:Nat.ble te.bytes 65536=true) (hz:Nat.beq te.zero.length te.size=true) (hpos:1<=vs.length) (hmax:vs.length<=1073741824) (hm:Nat.blt t m=true) (hK:K0.all (K.contains ·)=true) (hkK:K.contains k=false)
  {st':St} (hst:restr K ts ⟨tm,(k,.dead)::h⟩=st') (hr:yE P F m ops false rest ⟨(t,.sl false vs)::st'.tm,st'.h⟩ fs Q):yE P F m ops false (⟨some t,.call ⟨.builtin .append, #[s,x], #[T,T]⟩,ty,pos,after,none⟩::rest) ⟨tm,h⟩ fs Q:=⟨λa w R=>wpListIn_plain Z λKC hKC=>by
 obtain⟨⟨X,β,hX,HH,Ht,KK,hJ,hD⟩,nd,gs,hl⟩:=R;dsimp only at HH Ht KK hJ nd;have h1:=gU (op:= .call ⟨.builtin .append, #[s,x], #[T,T]⟩) (st:=⟨tm,h⟩) Ht (λ_ _=>rfl) (x:=s) kJ hs;have h2:=gU (op:= .call ⟨.builtin .append, #[s,x], #[T,T]⟩) (st:=⟨tm,h⟩) Ht (λ_ _=>rfl) (x:=x) kJ hx;have hss:=zY2 hss;have hb:=zYm hb;have hz:=zY2 hz;have hm:=zYm hm;obtain⟨i,z,hu,hi,hzz,e1,e2,e3⟩:=wX hP hT hd he;obtain⟨g1,g2,g3,g4,g5,f,g6,g7,g8⟩:=HH.ent k _ hk;obtain⟨ad,cap,hcv,_,hmx,hsrc⟩:=bF HH h2 hvs hsz;obtain⟨b2,q,fy,rfl,hS⟩:=hsrc (λh0=>by rw[h0]at hpos;simp at hpos);obtain⟨hf1,hf2⟩:=hS.flat g1
 have FIN:∀{c w'} (_:(Builtin.append_ #[T,T] ty #[a.eval s,a.eval x]).run P w= .ok c w') {β':uW} (_:xK X w (zC h) β w' (over [(k,.dead)] (zC h)) β') (_:xE w' (xO X β') (.sl false vs) c),Oper.wpIn (DB F.ro) 0 P ⟨some t,.call ⟨.builtin .append, #[s,x], #[T,T]⟩,ty,pos,after,none⟩ a w KC (λe a' w'=>e= .normal/\∃st',Q [] st'/\wN F m st' a' w'):=by
  intro c w' hrun β' G hc;refine aU.wp (N:=λc1 w1=>c1=c/\w1=w') ?_ ?_
  ·have:(execOp a.eval ⟨some t,.call ⟨.builtin .append, #[s,x], #[T,T]⟩,ty,pos,after,none⟩).run P w= .ok (.value c) w':=by simp[execOp,resolve,invoke,builtin,hrun]
   rw[this];exact⟨rfl,rfl⟩
  ·rintro _ _ ⟨rfl,rfl⟩;exact hKC _ _ (hr.run _ _ (VD.consume (st:=⟨tm,h⟩) hX HH Ht KK hJ hD nd gs hl k K ts hK hkK G hc (λi hh=>by cases hh) t hm hst))
 have kill:∀{w'},jK X (zC h) β w'->xK X w' (zC h) β w' (over [(k,.dead)] (zC h)) (bD β k []):=λH=>xK.step H k .dead [] (zX7 _) (λ_ _ _=>rfl) Z Z Z (λb n hm=>by simp at hm) (λ_ _ _=>rfl) (λe _=> .inl Z) λ_=>zZ _ _ _
 have GROW:∀bd cp,a.eval s= .slice bd 0 cp->cp<vs.length->(bd=none->cp=0)->Oper.wpIn (DB F.ro) 0 P ⟨some t,.call ⟨.builtin .append, #[s,x], #[T,T]⟩,ty,pos,after,none⟩ a w KC (λe a' w'=>e= .normal/\∃st',Q [] st'/\wN F m st' a' w'):=by
  intro bd cp hcx hlt hbn
  have hbytes:vs.length*i.bytes<=140737488355328:=by
   have:=yAz (show vs.length<=1073741824 by omega) (show i.bytes<=65536 by omega);omega
  have hrun:(Builtin.append_ #[T,T] ty #[.slice bd 0 cp,.slice (some ⟨b2,q,none⟩) vs.length cap]).run P w= .ok (.slice (some ⟨w.heap.size,0,none⟩) vs.length (grownCap w vs.length cp e)) (w.drew.alloc (.cells ((flat fy vs.length sz).toArray++Builtin.zeroCells z.cells (grownCap w vs.length cp e-vs.length)) e)):=by
   cases bd with
   |none=>
    obtain rfl:=hbn Z;exact run_append_nil (P:=P) w T ty e i z hu hi hzz ⟨b2,q,none⟩ vs.length cap (flat fy vs.length sz) (by rw[zQ,hss,e1]) hf1 zB zB zB
   |some b0=>
    have:=run_append_grow (P:=P) w T ty e i z hu hi hzz b0 0 cp [] zW (λj v h=>by simp at h) ⟨b2,q,none⟩ vs.length cap (flat fy vs.length sz) (by rw[zQ,hss,e1]) hf1 zB zB (growslice_fits zB (by simpa using hbytes));simpa using this
  have HD:=HH.drew (w.drawn+1);have hzs:z.cells.size=te.zero.length:=by rw[<-e3];simp
  have hge:=grownCap_ge w vs.length cp e;have G:=xK.newFz HD ((flat fy vs.length sz).toArray++Builtin.zeroCells z.cells (grownCap w vs.length cp e-vs.length)) e
  have hv:=xE.newArr HD ((flat fy vs.length sz).toArray++Builtin.zeroCells z.cells (grownCap w vs.length cp e-vs.length)) e sz vs (grownCap w vs.length cp e) fy g1 (by unfold cU;omega) hge hS.wide
   (λi j hi hj=>by
    rw[zZ9 (by simp[zQ];have:=zYo sz (show i+1<=vs.length by omega);rw[zY8,zZ3]at this;omega)]
    simpa using kD fy hi hj) hS.one (λi y j v hy hv=>xE.evo (w:=w) (w':={w with drawn:=w.drawn+1}) (zX7 _) (λ_ _ hd=>⟨rfl,hd⟩) (hS.rep.toF Z i y j v hy hv))
  have G2:=xK.trans HH (xK.drew HH (w.drawn+1)) G;have G3:=kill G2.hok;exact FIN (by rw[hcx,hcv];exact hrun) (xK.trans HH G2 G3) (hv.wkF.evo G3.evo.size G3.evo.fz)
 generalize hcx:a.eval s=cx at h1
 cases h1 with
 |fz _ _ hf=>cases hf
 |dref _ _ _ _ hdd _=>exact absurd hdd (nd k)
 |ref0 _ _ sz' xs' st' bd hk'' hn=>exact GROW bd 0 hcx zB (λ_=>rfl)
 | ref _ _ _ sz' xs' st' b n cp hk'' hbm hn hc hs'=>
  rw[hk]at hk'';cases hk'';by_cases hroom:vs.length<=cp
  case neg=>exact GROW _ cp hcx zB (λh=>by cases h)
  obtain⟨cur,el,c1,c2,c3,c4⟩:=g8 b n hbm
  have hcs:cur.size=cp*sz:=by
   have:wG w b=cur.size:=by unfold wG World.shape?;rw[c1];rfl
   rw[<-this,<-hs',zZm]
  have hfit:vs.length*sz<=cur.size:=by rw[hcs];exact zYo _ hroom
  have hrun:=bL hP hT hd he w ty b 0 0 cp cur el c1 ⟨b2,q,none⟩ vs.length cap (flat fy vs.length sz) (by rw[zQ,hss]) hf1 hf2 zB (by
   rw[zQ,yB5];simpa using hfit)
  generalize hcur':(cur.toList.take (0+0*te.size)++flat fy vs.length sz++cur.toList.drop (0+0*te.size+(flat fy vs.length sz).length)).toArray=cur' at hrun;rw[yB5,zZm,yA9,yAm,zZm]at hcur'
  have hsz':cur'.size=cur.size:=by
   rw[<-hcur'];simp only[yA6,zX4,zYv,yA2,zQ];omega
  have G:=xK.step (w':=w.setRow b cur') HH k .dead [] zW (λj hj hn=>setRow_other w b j cur' (λe=>hn n (by rw[e];exact hbm))) Z Z Z (λb n hm=>by simp at hm) (λb n _=>qO c1 hsz' b) (λe _=> .inl Z) λ_=>zZ _ _ _
  have hnb:¬xO X (bD β k []) b:=λhd=>by
   rcases hd with hx|⟨j,n',hm⟩
   ·exact HH.free k b n hbm hx
   ·by_cases hjk:j=k
    ·subst hjk;rw[zZ]at hm;simp at hm
    ·rw[qZ _ _ hjk]at hm;exact hjk (HH.disj _ _ _ _ _ hm hbm)
  refine FIN (by rw[hcx,hcv,yB5];exact hrun) G ?_;rw[zZm];have hne:vs≠[]:=λh0=>by rw[h0]at hpos;simp at hpos
  refine .sl false vs b 0 sz cp fy hne ⟨zZe (HH.lt b (.inr ⟨k,n,hbm⟩)) G.size,hnb,g1,by unfold cU;omega,hS.wide,λi j hi hj=>?_,hS.one⟩ hroom λi y j v hy hv=>(hS.rep.toF Z i y j v hy hv).evo G.evo.size G.evo.fz
  rw[uX (setRow_heap w _ _ _ _ _ c1),<-hcur',zZm,yAx,zY0 (by
   rw[zQ];have:=zYo sz (show i+1<=vs.length by omega);rw[zY8,zZ3]at this
   omega)]
  exact kD fy hi hj⟩
end
end Av
end Go.Proofs.YteajjdidebfcjaaGreat
