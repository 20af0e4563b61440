/- Part 21. -/
import Derived.Test.YtmamjhmoegjapaaGreatP20
namespace Go.Proofs.YtmamjhmoegjapaaGreat
namespace Av
set_option linter.all false
set_option maxRecDepth 4000
set_option maxHeartbeats 4000000
def zVr (c:Cf) (l:List Rq):Prop:=∀r∈l,∀g∈r.legs,g.jn<(c.js.length:Int)/\g.ph<((c.js.getD g.jn.toNat default).ph.length:Int)
structure uW (c:Cf) (d:xQ):Prop where
 b:FT d.rg
 v:aM d.rq
 q:(d.rq.length:Int)<=d.rg.ag.req
 lg:zVr c d.rq
 a:AgV d.rg.ag
 n:0<=d.rg.num/\d.rg.num<4
 t8:d.rg.tk.length=8
 br:d.rg.bk.rate=d.rg.ag.rate
 bb:d.rg.bk.burst=d.rg.ag.burst
 bl:0<=d.rg.bk.level/\d.rg.bk.level<=d.rg.ag.burst
 au:(d.au.length:Int)=d.rg.ag.ses
 dn:d.dr.length<=1000
 dr:∀x∈d.dr,x.length=8/\BY x
 vh:d.rg.vh.length<=8
theorem uW.bd {c:Cf} {d:xQ} (h:uW c d):eU d:=
 ⟨h.b,by have:=h.v.n4;omega,λr hr=>by have:=h.v.lg3 hr;omega,h.dn,λx hx=>by have:=(h.dr x hx).1;omega,by have:=h.au;have:=h.a.e;omega⟩
theorem zQs:∀(n:Nat) (l:List Int),l.length=4*n->∃qs:List Qd,l=YR qs/\qs.length=n
 |0,l,h=>⟨[],zZp zB,rfl⟩
 |n+1,a::b::c::e::l,h=>by
  obtain⟨qs,h1,h2⟩:=zQs n l (by simp only[zY2]at h;omega);exact⟨⟨a,b,c,e⟩::qs,by rw[h1];rfl,by rw[zY2,h2]⟩
 |n+1,[],h=>by simp at h
 |n+1,[_],h=>by simp at h;omega
 |n+1,[_,_],h=>by simp at h;omega
 |n+1,[_,_,_],h=>by simp at h;omega
theorem zQt:∀(n:Nat) (l:List Int),l.length=2*n->∃ws:List (Int×Int),l=KY ws/\ws.length=n
 |0,l,h=>⟨[],zZp zB,rfl⟩
 |n+1,a::b::l,h=>by
  obtain⟨ws,h1,h2⟩:=zQt n l (by simp only[zY2]at h;omega);exact⟨(a,b)::ws,by rw[h1];rfl,by rw[zY2,h2]⟩
 |n+1,[],h=>by simp at h
 |n+1,[_],h=>by simp at h;omega
theorem zMl {fx gr:Nat} {p a:List Int} (hb:BY p) (h:dcF fx gr p=some a):p.length<=200/\10<=p.length/\(∀x∈a,0<=x/\x<=4294967295)/\(gr=0->a.length=fx)/\(gr≠0->∃c:Nat,1<=c/\c<=3/\a.length=fx+c*gr):=by
 unfold dcF at h;by_cases hl:200<p.length∨p.length<10
 ·rw[zYp hl]at h;cases h
 rw[zYo hl]at h;have hbd:BY (p.drop 10):=λx hx=>hb x (zZn hx)
 cases h1:WU fx (p.drop 10)with
 |none=>rw[h1]at h;cases h
 | some ar=>
  obtain⟨a1,r1⟩:=ar;rw[h1]at h;obtain⟨l1,b1,v1,_⟩:=bV fx _ a1 r1 hbd h1;dsimp only at h;by_cases hg:gr=0
  ·rw[zYp hg]at h;by_cases hr:r1=[]
   ·rw[zYp hr]at h;cases h;exact⟨zB,zB,v1,λ_=>l1,λh=>absurd hg h⟩
   ·rw[zYo hr]at h;cases h
  ·rw[zYo hg]at h
   cases h2:WU 1 r1 with
   |none=>rw[h2]at h;cases h
   | some cr=>
    obtain⟨c1,r2⟩:=cr;rw[h2]at h;obtain⟨l2,b2,v2,_⟩:=bV 1 _ c1 r2 b1 h2;dsimp only at h;by_cases hc:c1.getD 0 0<1∨3<c1.getD 0 0
    ·rw[zYp hc]at h;cases h
    rw[zYo hc]at h
    cases h3:WU ((c1.getD 0 0).toNat*gr) r2 with
    |none=>rw[h3]at h;cases h
    |some fr=>
     obtain⟨f1,r3⟩:=fr;rw[h3]at h;obtain⟨l3,b3,v3,_⟩:=bV _ _ f1 r3 b2 h3;dsimp only at h;by_cases hr:r3=[]
     ·rw[zYp hr]at h;cases h;refine⟨zB,zB,λx hx=>?_,λh=>absurd h hg,λ_=>⟨(c1.getD 0 0).toNat,zB,zB,by rw[zYr,l1,l3]⟩⟩;rw[zZa]at hx;exact hx.elim (v1 x) (v3 x)
     ·rw[zYo hr]at h;cases h
def Opn (d:xQ) (i:It) (now:Int) (a:List Int):Prop:=i.code=0/\1<=i.kind/\i.kind<=12/\dcF (jQ i.kind) (uR i.kind) i.pay=some a/\opE d.rg ⟨i.kind,i.pay.take 10,a,[]⟩ now=0
def BZ (d:xQ) (i:It) (now:Int) (a:List Int):xQ:=wB d (opR d.rg ⟨i.kind,i.pay.take 10,a,[]⟩ now)
def TG (c:Cf) (d:xQ) (s:Int) (i:It) (now:Int) (h:Hd):Prop:=
 zO 158 [wJ c,zK d,iA s,vB i,iA now] [] (FC d.rg.num i.kind h) []/\AG c d s now i h
def RpF (d:xQ) (i:It) (now:Int) (a:List Int) (h:Hd):Prop:=
 (i.kind=1/\h.p=PF d now/\h.d=d)∨(i.kind=9/\h.p=PG d/\h.d=d)∨(i.kind=12/\h.p=bY d/\h.d=d)∨
 (i.kind=2/\∃(k:Nat) (sec:List Int),k<8/\(sec.length=8/\BY sec)/\h.p=⟨16,[],[(k:Int)],d.rg.num::(k:Int)::sec⟩)∨
 ((3<=i.kind/\i.kind<=8∨i.kind=10∨i.kind=11)/\∃x,0<=x/\x<=4294967295/\h.p=gG i.kind x)
def T0 (d:xQ):Prop:=d.rg.tk.getD 0 default=⟨true,d.rg.ag.sec,-1,d.rg.ag.rights,d.rg.ag.cls,0⟩
theorem T0.of {d d':xQ} (h1:d'.rg.tk=d.rg.tk) (h2:d'.rg.ag=d.rg.ag) (h:T0 d):T0 d':=by
 unfold T0 at *;rw[h1,h2];exact h
def QX (l l':List Rq):Prop:=∀r∈l',∀g∈r.legs,g.sc<=0∨∃r0∈l,∃g0∈r0.legs,g.sc=g0.sc
theorem QX.refl (l:List Rq):QX l l:=λr hr g hg=> .inr ⟨r,hr,g,hg,rfl⟩
theorem QX.filter (l:List Rq) (p:Rq->Bool):QX l (l.filter p):=λr hr g hg=> .inr ⟨r,(yBl.1 hr).1,g,hg,rfl⟩
structure HdP (c:Cf) (d:xQ) (s:Int) (i:It) (now:Int) (h:Hd):Prop where
 inv:uW c h.d
 ag:h.d.rg.ag=d.rg.ag
 num:h.d.rg.num=d.rg.num
 no:h.e≠0->h.k= -1/\h.p=jL i.kind h.e/\(h.d=d∨∃a,Opn d i now a/\h.d=BZ d i now a)
 yes:h.e=0->∃a,Opn d i now a/\RpF d i now a h
 rst:h.k= -1∨(i.kind=11/\0<=h.k/\h.k<(c.js.length:Int))
 dl:h.d.dr.length<=d.dr.length
 t0:T0 d->T0 h.d
 eb:0<=i.code/\i.code<=100->0<=h.e/\h.e<=100
 ax:∀k:Nat,(k:Int)≠s->h.d.au[k]? =d.au[k]?
 sc:QX d.rq h.d.rq
theorem QY {r:Rg} {m:Ms} {now:Int} (h:opE r m now=0):opR r m now=⟨r.num,r.ag,r.tk,r.vh,if LG m.kind=true then FQ r.bk else r.bk⟩/\ckB r.tk r.num m.tok m.kind now=true/\(LG m.kind=true->0<r.bk.level)/\opS r m now=m.tok.getD 1 default:=by
 have h1:ckB r.tk r.num m.tok m.kind now=true:=by
  cases hc:ckB r.tk r.num m.tok m.kind now with
  |true=>rfl
  |false=>rw[opE,hc,zYo zZb]at h;omega
 refine⟨?_,h1,λhk=>?_,by rw[opS,zYp h]⟩
 ·rw[opR,zYp h]
  split<;>rfl
 ·rw[opE,zYp h1]at h;by_cases hl:r.bk.level<=0
  ·rw[zYp ⟨hk,hl⟩]at h;omega
  ·omega
theorem zQu {c:Cf} {d:xQ} (hI:uW c d) {i:It} {now:Int} {a:List Int} (h:Opn d i now a):uW c (BZ d i now a):=by
 obtain⟨h1,_,h3,_⟩:=QY h.2.2.2.2;unfold BZ wB;rw[h1];have hl:=hI.bl;refine⟨⟨hI.b.tk,hI.b.s,hI.b.l,hI.b.v⟩,hI.v,hI.q,hI.lg,hI.a,hI.n,hI.t8,?_,?_,?_,hI.au,hI.dn,hI.dr,hI.vh⟩
 ·dsimp only;split
  ·unfold FQ;split
   ·exact hI.br
   ·exact hI.br
  ·exact hI.br
 ·dsimp only;split
  ·unfold FQ;split
   ·exact hI.bb
   ·exact hI.bb
  ·exact hI.bb
 ·dsimp only;split
  ·rename_i hk;have:=h3 hk;unfold FQ;split
   ·exact hl
   ·dsimp only;omega
  ·exact hl
theorem QZ {d:xQ} {i:It} {now:Int} {a:List Int} (h:Opn d i now a) (hk:i.kind=1∨9<=i.kind):BZ d i now a=d:=by
 obtain⟨h1,_,_,_⟩:=QY h.2.2.2.2;unfold BZ wB;rw[h1,zYo (λh=>by unfold LG at h;rw[zYx]at h;dsimp only at h;omega)]
theorem zFy {ki:Int} {d:xQ} {p:Ms} {k e:Int} (h:e≠0):hdM ki d p k e=⟨d,jL ki e,-1,e⟩:=zYo h
theorem zBn {ki:Int} {d:xQ} {p:Ms} {k:Int}:hdM ki d p k 0=⟨d,p,k,0⟩:=zYp rfl
theorem GX {c:Cf} {d:xQ} {s now:Int} {i:It} (hI:uW c d) {e:Int} (he:e≠0) (p:Ms) (d':xQ) (hd:d'=d∨∃a,Opn d i now a/\d'=BZ d i now a)
  (h1:zO 192 [wJ c,zK d,iA s,vB i,iA now] [] (hT d' p (-1) e) []) (h2:AG c d s now i ⟨d',jL i.kind e,-1,e⟩) (heb:0<=i.code/\i.code<=100->0<=e/\e<=100:=by(intro _;omega)):∃h,TG c d s i now h/\HdP c d s i now h:=by
 have hi:uW c d'/\d'.rg.ag=d.rg.ag/\d'.rg.num=d.rg.num/\d'.dr=d.dr/\d'.rg.tk=d.rg.tk:=by
  rcases hd with rfl|⟨a,ho,rfl⟩
  ·exact⟨hI,rfl,rfl,rfl,rfl⟩
  ·refine⟨zQu hI ho,?_,?_,?_,?_⟩<;>(unfold BZ wB;rw[(QY ho.2.2.2.2).1])
 have h3:=zQx c d s now i hI.bd d' p (-1) e h1;rw[zFy he,hi.2.2.1]at h3;exact⟨⟨d',jL i.kind e,-1,e⟩,⟨h3,h2⟩,hi.1,hi.2.1,hi.2.2.1,λ_=>⟨rfl,rfl,hd⟩,λh=>absurd h he,.inl rfl,by rw[hi.2.2.2.1];exact zYs _,T0.of hi.2.2.2.2 hi.2.1,heb,λ_ _=>by rw[show d'.au=d.au by rcases hd with h|⟨a,_,h⟩<;>rw[h];rfl],by dsimp only;rw[show d'.rq=d.rq by rcases hd with h|⟨a,_,h⟩<;>rw[h];rfl];exact QX.refl _⟩
theorem zRy {c:Cf} {d:xQ} {s now:Int} {i:It} (hI:uW c d) (a:List Int) (ho:Opn d i now a) (p:Ms) (k:Int) (d':xQ) (hi:uW c d') (ha:d'.rg.ag=d.rg.ag) (hn:d'.rg.num=d.rg.num)
  (hr:RpF d i now a ⟨d',p,k,0⟩) (hk:k= -1∨(i.kind=11/\0<=k/\k<(c.js.length:Int))) (hdl:d'.dr.length<=d.dr.length) (ht0:T0 d->T0 d')
  (h1:zO 192 [wJ c,zK d,iA s,vB i,iA now] [] (hT d' p k 0) []) (h2:AG c d s now i ⟨d',p,k,0⟩) (hau:d'.au=d.au) (hsc:QX d.rq d'.rq):∃h,TG c d s i now h/\HdP c d s i now h:=by
 have h3:=zQx c d s now i hI.bd d' p k 0 h1;rw[zBn,hn]at h3;exact⟨⟨d',p,k,0⟩,⟨h3,h2⟩,hi,ha,hn,λh=>absurd rfl h,λ_=>⟨a,ho,hr⟩,hk,hdl,ht0,λ_=>by dsimp only;omega,λ_ _=>by dsimp only;rw[hau],hsc⟩
theorem zFz:∀{qs:List Qd} {q:Qd},q∈qs->q.j∈YR qs/\q.p∈YR qs/\q.f∈YR qs/\q.t∈YR qs
 |x::l,q,h=>by
  rw[show YR (x::l)=x.j::x.p::x.f::x.t::YR l from rfl]
  rcases zZ5.1 h with rfl|h
  ·simp
  ·obtain⟨h1,h2,h3,h4⟩:=zFz h;simp[h1,h2,h3,h4]
theorem AA {α β γ:Type} {f:α->β->γ}:∀{a:List α} {b:List β} {g:γ},g∈a.zipWith f b->∃x∈a,∃y,g=f x y
 |x::a,y::b,g,h=>by
  rw[yB8]at h
  rcases zZ5.1 h with rfl|h
  ·exact⟨x,by simp,y,rfl⟩
  ·obtain⟨z,hz,w,e⟩:=AA h;exact⟨z,by simp[hz],w,e⟩
 | [],_,_,h=>by simp at h
 |_::_,[],_,h=>by simp at h
theorem zF0 (l:List Rq) (r:Rq):(aI l r).length=l.length+1:=by
 have:=IX l r.id;unfold aI;rw[zYr,zY2,zY5,zZk];omega
theorem zRz {j p f t now:Int} (h:mwB j p f t now=true):(mwF j p f t now).jn=j/\(mwF j p f t now).ph=p:=by
 unfold mwF;rw[zYp h];exact⟨rfl,rfl⟩
theorem zVs {c:Cf} {now:Int} {qs:List Qd} (h:qs.all (MJ c now)=true):∀g∈qs.map (JL now),g.jn<(c.js.length:Int)/\g.ph<((c.js.getD g.jn.toNat default).ph.length:Int):=by
 intro g hg;rw[zZ3]at hg;obtain⟨q,hq,rfl⟩:=hg;have h1:=zY3.1 h q hq;unfold MJ at h1;simp only[zY6,zYx]at h1;obtain⟨h2,h3,h4⟩:=h1;obtain⟨e1,e2⟩:=zRz h4;unfold JL;rw[e1,e2];exact⟨h2,h3⟩
theorem zXs {l:List Rq} {q id life:Int} {x:List Lg} (h:suE l q id life x=0):(l.length:Int)<q/\(l.length:Int)<4:=by
 unfold suE at h;split at h
 ·omega
 ·split at h
  ·omega
  ·split at h
   ·omega
   ·omega
theorem zXt {c:Cf} {d:xQ} {cls id v life now:Int} {qs:List Qd} (h:AQ c d cls id v life now qs=0):zGn (cR d.rg.vh v)=true/\qs.all (MJ c now)=true/\suE d.rq d.rg.ag.req id life (qs.map (JL now))=0:=by
 unfold AQ sxE at h;split at h
 ·split at h
  ·omega
  ·split at h
   ·rename_i ha;split at h
    ·split at h
     ·rename_i hv;exact⟨hv,ha,h⟩
     ·omega
    ·omega
   ·omega
 ·omega
theorem zXu {c:Cf} {d:xQ} (hI:uW c d) {cls id v life now:Int} {qs:List Qd} (n0:0<=now) (n1:now<=1073741824) (h:AQ c d cls id v life now qs=0):uW c (dkQ d (dsL c d cls id v life now qs)):=by
 obtain⟨hv,ha,hs⟩:=zXt h;unfold zGn at hv;rw[zYx]at hv;have hl:=zXs hs;unfold dkQ dsL;rw[zYp h];refine⟨hI.b,zSm hI.v hs hv.1.1 hv.1.2 hv.2.1 hv.2.2 n0 n1,?_,λr hr g hg=>?_,hI.a,hI.n,hI.t8,hI.br,hI.bb,hI.bl,hI.au,hI.dn,hI.dr,hI.vh⟩
 ·dsimp only;rw[zF0];omega
 ·rcases PD hr with rfl|hr
  ·exact zVs ha g hg
  ·exact hI.lg r hr g hg
theorem zXv {c:Cf} {d:xQ} (hI:uW c d) {id now:Int} {ws:List (Int×Int)} (h:bT d.rq id ws now=0):uW c (dkQ d (upQ d.rq id ws now)):=by
 unfold dkQ upQ;rw[zYp h];have hl:(MV d.rq id ws now).length=d.rq.length:=by unfold MV;rw[zYq]
 refine⟨hI.b,zSo hI.v h,?_,λr hr g hg=>?_,hI.a,hI.n,hI.t8,hI.br,hI.bb,hI.bl,hI.au,hI.dn,hI.dr,hI.vh⟩
 ·dsimp only;rw[hl];exact hI.q
 ·dsimp only at hr;unfold MV at hr;rw[zZ3]at hr;obtain⟨r0,hr0,rfl⟩:=hr;split at hg
  ·obtain⟨x,hx,y,rfl⟩:=AA hg;exact hI.lg r0 hr0 x hx
  ·exact hI.lg r0 hr0 g hg
theorem zVt {c:Cf} {d:xQ} (hI:uW c d) (p:Rq->Bool):uW c (dkQ d (d.rq.filter p)):=by
 have hl:=yAv p d.rq;have hq:=hI.q;refine⟨hI.b,hI.v.filter p,?_,λr hr g hg=>hI.lg r ((yBl.1 hr).1) g hg,hI.a,hI.n,hI.t8,hI.br,hI.bb,hI.bl,hI.au,hI.dn,hI.dr,hI.vh⟩
 show((d.rq.filter p).length:Int)<=d.rg.ag.req
 omega
theorem zVu {c:Cf} {d:xQ} {cls id v life now:Int} {qs:List Qd} (h:AQ c d cls id v life now qs=0):QX d.rq (dsL c d cls id v life now qs):=by
 unfold dsL;rw[zYp h];intro r hr g hg
 rcases PD hr with rfl|hr
 ·refine .inl ?_;obtain⟨q,_,rfl⟩:=zZ3.1 hg;unfold JL mwF;split
  ·show(-1:Int)<=0
   decide
  ·show(0:Int)<=0
   decide
 ·exact .inr ⟨r,hr,g,hg,rfl⟩
theorem zVv {d:xQ} {id now:Int} {ws:List (Int×Int)} (h:bT d.rq id ws now=0):QX d.rq (upQ d.rq id ws now):=by
 unfold upQ;rw[zYp h];intro r hr g hg;unfold MV at hr;rw[zZ3]at hr;obtain⟨r0,hr0,rfl⟩:=hr;split at hg
 ·obtain⟨x,hx,y,rfl⟩:=AA hg;exact .inr ⟨r0,hr0,x,hx,rfl⟩
 ·exact .inr ⟨r0,hr0,g,hg,rfl⟩
theorem zVw (d:xQ) (m:Ms) (r':Rg) (u:Bool):QX d.rq (dgD d m r' u 0).rq:=by
 unfold dgD;rw[zYp rfl];dsimp only;split
 ·exact QX.filter _ _
 ·exact QX.refl _
theorem zXw {c:Cf} {d:xQ} (hI:uW c d) {m:Ms} {sec:List Int} {r':Rg} {p:Ms} {u:Bool} (hb:FT r') (hP:DoP d.rg m sec r' p u 0):uW c (dgD d m r' u 0)/\(dgD d m r' u 0).rg.ag=d.rg.ag/\(dgD d m r' u 0).rg.num=d.rg.num/\(dgD d m r' u 0).dr.length<=d.dr.length/\(T0 d->T0 (dgD d m r' u 0)):=by
 have hdr:(if u=true then d.dr.drop 1 else d.dr).length<=1000/\∀x∈(if u=true then d.dr.drop 1 else d.dr),x.length=8/\BY x:=by
  split
  ·exact⟨by have:=hI.dn;rw[zZk];omega,λx hx=>hI.dr x (zZn hx)⟩
  ·exact⟨hI.dn,hI.dr⟩
 have hrq:aM (if m.kind=5 then DE d.rq (m.args.getD 0 0)else d.rq)/\((if m.kind=5 then DE d.rq (m.args.getD 0 0)else d.rq).length:Int)<=d.rg.ag.req/\zVr c (if m.kind=5 then DE d.rq (m.args.getD 0 0)else d.rq):=by
  split
  ·have h:=zVt hI (λx=>x.vh != m.args.getD 0 0);exact⟨h.v,h.q,h.lg⟩
  ·exact⟨hI.v,hI.q,hI.lg⟩
 have hdd:(if u=true then d.dr.drop 1 else d.dr).length<=d.dr.length:=by
  split
  ·rw[zZk];omega
  ·exact zYs _
 unfold dgD;rw[zYp rfl]
 rcases hP.2 rfl with⟨o,ho,hT,rfl,_⟩|⟨o,ho,rfl,_⟩
 ·refine⟨⟨hb,hrq.1,hrq.2.1,hrq.2.2,hI.a,hI.n,ho,hI.br,hI.bb,hI.bl,hI.au,hdr.1,hdr.2,hI.vh⟩,rfl,rfl,hdd,λh=>?_⟩;unfold T0 at h⊢;exact(hT (by rw[h]) (by rw[h])).trans h
 ·exact⟨⟨hb,hrq.1,hrq.2.1,hrq.2.2,hI.a,hI.n,hI.t8,hI.br,hI.bb,hI.bl,hI.au,hdr.1,hdr.2,ho⟩,rfl,rfl,hdd,λh=>h⟩
theorem zR0 {d:xQ} {i:It} {now:Int} {a:List Int} (ho:Opn d i now a):(BZ d i now a).rg.ag=d.rg.ag/\(BZ d i now a).rg.num=d.rg.num/\(BZ d i now a).rg.tk=d.rg.tk/\(BZ d i now a).rq=d.rq/\(BZ d i now a).dr=d.dr/\(BZ d i now a).au=d.au:=by
 unfold BZ wB;rw[(QY ho.2.2.2.2).1];exact⟨rfl,rfl,rfl,rfl,rfl,rfl⟩
theorem zMm {l:List Tk} {g:Int} {b:List Int} {k now:Int} (h:ckB l g b k now=true):fP l (b.getD 1 default)=true:=by
 unfold ckB at h;simp only[zY6]at h;exact h.1.2
theorem zXx (r:Rg) (m:Ms) (now:Int):0<=opE r m now/\opE r m now<=100:=by
 unfold opE;split
 ·split<;>omega
 ·omega
theorem zVx (c:Cf) (d:xQ) (cls id v life now:Int) (qs:List Qd):0<=AQ c d cls id v life now qs/\AQ c d cls id v life now qs<=100:=by
 unfold AQ sxE suE
 repeat' split
 all_goals omega
theorem zVy (l:List Rq) (id:Int) (ws:List (Int×Int)) (now:Int):0<=bT l id ws now/\bT l id ws now<=100:=by
 unfold bT
 repeat' split
 all_goals omega
theorem zDw (c:Cf) (d:xQ) (hI:uW c d) (s now:Int) (n0:0<=now) (n1:now<=1073741824) (i:It) (hby:BY i.pay) (hlen:i.pay.length<=100000):∃h,TG c d s i now h/\HdP c d s i now h:=by
 by_cases hc:i.code=0
 case neg=>exact GX hI hc RX d (.inl rfl) (zMp c d s now i hc) (zM5 c d s now hI.bd i hc) id
 by_cases hk:1<=i.kind/\i.kind<=12
 case neg=>exact GX hI xN RX d (.inl rfl) (zMq c d s now i hc hk) (zM6 c d s now hI.bd i hc hk)
 obtain⟨h0,h1⟩:=hk;have k2:=zIz i.kind h0 h1 i.pay hby hlen;have r2:=zD4 i.kind h0 h1 i.pay hby hlen;have hii:i=⟨0,i.kind,i.pay⟩:=by cases i;simp_all
 cases hd:dcF (jQ i.kind) (uR i.kind) i.pay with
 |none=>
  rw[hd]at k2 r2;have q1:=zMr c d s now i.kind i.pay h0 h1 k2;have q2:=zM7 c d s now hI.bd i.kind i.pay h0 h1 r2;rw[<-hii]at q1 q2;exact GX hI xN RX d (.inl rfl) q1 q2
 |some ar=>
 rw[hd]at k2 r2;obtain⟨_,hl10,hv,hg0,hg1⟩:=zMl hby hd;have hbt:BY (i.pay.take 10):=λx hx=>hby x (zZ1 hx)
 have hlv:d.rg.bk.level<=1000000:=by have:=hI.bl;have:=hI.a.b;omega
 have k3:=zSw d.rg ⟨i.kind,i.pay.take 10,ar,[]⟩ now hI.b hbt hlv;have r3:=zM9 d.rg ⟨i.kind,i.pay.take 10,ar,[]⟩ now hI.b hbt hlv;by_cases ho:opE d.rg ⟨i.kind,i.pay.take 10,ar,[]⟩ now=0
 case neg=>
  have q1:=zMs c d s now i.kind i.pay (i.pay.take 10) ar h0 h1 k2 _ _ _ ho k3;have q2:=zM8 c d s now hI.bd i.kind i.pay (i.pay.take 10) ar h0 h1 r2 _ _ _ ho r3;rw[<-hii]at q1 q2;exact GX hI ho RX d (.inl rfl) q1 q2 (λ_=>zXx _ _ _)
 have hO:Opn d i now ar:=⟨hc,h0,h1,hd,ho⟩;obtain⟨_,hck,_,hsl⟩:=QY ho;rw[ho,hsl]at k3 r3;have hus:=zMm hck;dsimp only at hsl hus;generalize (i.pay.take 10).getD 1 default=sl at *;have hI1:=zQu hI hO;obtain⟨ea,en,et,eq,er,eu⟩:=zR0 hO
 have hs0:0<=sl/\sl<(d.rg.tk.length:Int):=by
  unfold fP at hus;rw[zY6,zYx]at hus;exact hus.1
 have hsd:BZ d i now ar=wB d (opR d.rg ⟨i.kind,i.pay.take 10,ar,[]⟩ now):=rfl;generalize opR d.rg ⟨i.kind,i.pay.take 10,ar,[]⟩ now=r1 at *;have tl:(i.pay.take 10).length<=1000:=by rw[zY5];omega
 have NO:∀(e:Int),e≠0->0<=e/\e<=100->∀(p p2:Ms) (k2':Int),zO 192 [wJ c,zK d,iA s,vB ⟨0,i.kind,i.pay⟩,iA now] [] (hT (wB d r1) p (-1) e) []->
   yU [wJ c,zK (wB d r1),iA s,yB ⟨i.kind,i.pay.take 10,ar,[]⟩,iA sl,iA now] [] (hT (wB d r1) p2 k2' e) []->∃h,TG c d s i now h/\HdP c d s i now h:=by
  intro e he heb p p2 k2' q1 q2;have q3:=zQy c d s now hI.bd i.kind i.pay _ ar h0 h1 r2 r1 sl r3 (wB d r1) (hsd▸hI1.bd) p2 k2' e q2;rw[zFy he]at q3;rw[<-hii]at q1 q3;exact GX hI he p _ (.inr ⟨ar,hO,hsd.symm⟩) q1 q3 (λ_=>heb)
 have YES:∀(d':xQ) (p:Ms) (k:Int),uW c d'->d'.rg.ag=d.rg.ag->d'.rg.num=d.rg.num->RpF d i now ar ⟨d',p,k,0⟩->(k= -1∨(i.kind=11/\0<=k/\k<(c.js.length:Int)))->d'.dr.length<=d.dr.length->(T0 d->T0 d')->zO 192 [wJ c,zK d,iA s,vB ⟨0,i.kind,i.pay⟩,iA now] [] (hT d' p k 0) []->
   yU [wJ c,zK (wB d r1),iA s,yB ⟨i.kind,i.pay.take 10,ar,[]⟩,iA sl,iA now] [] (hT d' p k 0) []->d'.au=d.au->QX d.rq d'.rq->∃h,TG c d s i now h/\HdP c d s i now h:=by
  intro d' p k hi ha hn hr hk hdl ht0 q1 q2 hau hsc;have q3:=zQy c d s now hI.bd i.kind i.pay _ ar h0 h1 r2 r1 sl r3 d' hi.bd p k 0 q2;rw[zBn]at q3;rw[<-hii]at q1 q3;exact zRy hI ar hO p k d' hi ha hn hr hk hdl ht0 q1 q3 hau hsc
 rw[hsd]at hI1 ea en et eq er eu;have hgk:uR i.kind=0∨uR i.kind≠0:=by omega
 have hcs:i.kind=1∨(i.kind=2∨i.kind=3∨i.kind=4∨i.kind=5)∨i.kind=6∨i.kind=7∨i.kind=8∨i.kind=9∨i.kind=10∨i.kind=11∨i.kind=12:=by omega
 rcases hcs with hk|hk|hk|hk|hk|hk|hk|hk|hk
 ·
  have hal:ar=[]:=zZp (by rw[hg0 LQ,hk];rfl);subst hal;have hsame:=QZ hO (.inl hk);rw[hsd]at hsame;rw[hsame]at hI1;have q1:=KX c d s now i.kind i.pay _ [] h0 h1 k2 r1 sl k3 (.inl hk) (PF d now) (by rw[hsame,hk];exact FJ d now);have q2:=zF8 c d s now (i.pay.take 10) sl;rw[hsame]at q1;refine YES d _ _ hI1 rfl rfl (.inl ⟨hk,rfl,rfl⟩) (.inl rfl) (zYs _) id q1 ?_ rfl (QX.refl _);rw[hsame,hk];exact q2
 ·
  obtain⟨a,ar1,har⟩:∃a ar1,ar=a::ar1:=by
   cases ar with
   |nil=>exfalso;have:=hg0 zQ8;rcases hk with hk|hk|hk|hk<;>rw[hk]at this<;>cases this
   |cons a ar1=>exact⟨a,ar1,rfl⟩
  have hal:ar.length<=1000:=by have:=hg0 zQ8;have:=AL i.kind;omega
  have hm:MsB ⟨i.kind,i.pay.take 10,ar,[]⟩:=⟨tl,hal,zY4 _⟩
  have hsec:(MH (wB d r1)).length<=1000:=by
   unfold MH wB;dsimp only
   cases hdr:d.dr with
   |nil=>simp
   |cons b bs=>have:=(hI.dr b (by rw[hdr];simp)).1;simp;omega
  have hsb:BY (MH (wB d r1)):=by
   unfold MH wB;dsimp only
   cases hdr:d.dr with
   |nil=>exact λx hx=>by cases hx
   |cons b bs=>exact(hI.dr b (by rw[hdr];simp)).2
  have hvh:r1.vh.length<=1000:=by have:=hI1.vh;exact zZy this zB
  obtain⟨r',p,u,e,hr',hp',hP,f1,f2⟩:=zMn r1 hvh ⟨i.kind,i.pay.take 10,ar,[]⟩ hm sl now (MH (wB d r1)) hsec
  have h5:i.kind=5->∃a,ar=[a]:=λh=>by
   have h9:=hg0 (by rw[h];rfl);rw[h]at h9;exact zDy h9
  have q1:=zR5 (wB d r1) ⟨i.kind,i.pay.take 10,ar,[]⟩ sl now hI1.v hI1.dn r' p u e f1 h5
  have hu:u=true->(wB d r1).dr≠[]:=λhu h9=>by
   have he:e=0:=by
    by_cases he:e=0
    ·exact he
    ·rw[(hP.1 he).1]at hu;cases hu
   have h10:MH (wB d r1)=[]:=by unfold MH;rw[h9];rfl
   rcases hP.2 he with⟨o,_,_,_,h11|h11⟩|⟨o,_,_,h11,_⟩
   ·rw[h11.1]at hu;cases hu
   ·rw[h10]at h11;exact absurd h11.2.1 xN
   ·rw[h11]at hu;cases hu
  have q2:=zMo (wB d r1) ⟨i.kind,i.pay.take 10,ar,[]⟩ sl now hI1.v hI1.dn r' p u e f2 h5 hu;have w1:=zR6 c d s now i.kind i.pay _ ar h0 h1 k2 r1 sl k3 hk _ _ e q1;have w2:=zR7 c (wB d r1) s now (i.pay.take 10) sl i.kind ar a ar1 har hk _ p e q2;by_cases he:e=0
  ·subst he;rw[zYp rfl]at w1;obtain⟨hi,ha,hn,hd1,hd2⟩:=zXw (m:=⟨i.kind,i.pay.take 10,ar,[]⟩) hI1 hr' hP;have hvx:0<=a/\a<=4294967295:=hv a (by rw[har];simp);refine YES _ p (-1) hi (ha.trans ea) (hn.trans en) ?_ (.inl rfl) hd1 (λh=>hd2 (T0.of et ea h)) w1 w2 (by unfold dgD;rw[zYp rfl];rfl) (zVw (wB d r1) _ r' u)
   rcases hP.2 rfl with⟨o,_,_,_,h11|h11⟩|⟨o,_,_,_,h11,h12⟩
   ·obtain⟨_,h12,h13⟩:=h11;dsimp only at h13 h12;exact .inr (.inr (.inr (.inr ⟨zB,a,hvx.1,hvx.2,by rw[h12,har,h13];rfl⟩)))
   ·obtain⟨_,h12,h13,k,h14,h15⟩:=h11;have en':r1.num=d.rg.num:=en;exact .inr (.inr (.inr (.inl ⟨h13,k,_,h14,⟨h12,hsb⟩,by rw[h15,en']⟩)))
   ·dsimp only at h11 h12;exact .inr (.inr (.inr (.inr ⟨zB,a,hvx.1,hvx.2,by rw[h12,har];rfl⟩)))
  ·have e1:dgD (wB d r1) ⟨i.kind,i.pay.take 10,ar,[]⟩ r' u e=wB d r1:=by unfold dgD;rw[zYo he]
   rw[e1]at w1 w2;exact NO e he (hP.1 he).2 _ _ _ w1 w2
 ·
  obtain⟨cc,c1,c3,hl⟩:=hg1 (by rw[hk];decide);rw[hk,show jQ 6=3 from rfl,show uR 6=4 from rfl]at hl
  obtain⟨id,v,life,ar1,har⟩:∃id v life ar1,ar=id::v::life::ar1:=by
   match ar,hl with
   |id::v::life::ar1,_=>exact⟨id,v,life,ar1,rfl⟩
   | [],h=>simp at h;omega
   | [_],h=>simp at h;omega
   | [_,_],h=>simp at h;omega
  subst har;obtain⟨qs,hqs,hqn⟩:=zQs cc ar1 (by simp only[zY2]at hl;omega);subst hqs
  have hp:∀q∈qs,0<=q.j/\0<=q.p:=λq hq=>by
   obtain⟨m1,m2,_⟩:=zFz hq;exact⟨(hv q.j (by simp[m1])).1,(hv q.p (by simp[m2])).1⟩
  have hvx:=hv id zU;have s1:sl<((wB d r1).rg.tk.length:Int):=by rw[et];exact hs0.2
  have q1:=zSf c (wB d r1) (i.pay.take 10) id v life sl now qs hI1.bd hI1.v hs0.1 s1 zB hp n0 n1;have q2:=AR c (wB d r1) 6 (i.pay.take 10) id v life ((wB d r1).rg.tk.getD sl.toNat default).cls now qs hI1.bd hI1.v zB hp n0 n1;by_cases he:AQ c (wB d r1) ((wB d r1).rg.tk.getD sl.toNat default).cls id v life now qs=0
  ·have hi:=zXu hI1 n0 n1 he;rw[he]at q1;rw[zYp he,he]at q2;have w1:=KW c d s now i.kind i.pay _ _ h0 h1 k2 r1 sl k3 (.inl hk) id _ rfl _ LR;have w2:=zF9 c (wB d r1) s now (i.pay.take 10) sl _ id _ rfl hs0.1 s1 _ 0 q2;refine YES _ (gG i.kind id) (-1) hi ea en (.inr (.inr (.inr (.inr ⟨zB,id,hvx.1,hvx.2,rfl⟩)))) (.inl rfl) (zYs _) (T0.of et ea) w1 ?_ rfl (zVu (d:=wB d r1) he);rw[hk];exact w2
  ·rw[zYo he]at q2;have w1:=KV c d s now i.kind i.pay _ _ h0 h1 k2 r1 sl k3 (.inl hk) _ _ he LR;have w2:=zF9 c (wB d r1) s now (i.pay.take 10) sl _ id _ rfl hs0.1 s1 _ _ q2;exact NO _ he (by first|exact zVx _ _ _ _ _ _ _ _|exact zVy _ _ _ _) _ _ _ w1 (by rw[hk];exact w2)
 ·
  obtain⟨cc,c1,c3,hl⟩:=hg1 (by rw[hk];decide);rw[hk,show jQ 7=1 from rfl,show uR 7=2 from rfl]at hl
  obtain⟨id,ar1,har⟩:∃id ar1,ar=id::ar1:=by
   match ar,hl with
   |id::ar1,_=>exact⟨id,ar1,rfl⟩
   | [],h=>simp at h;omega
  subst har;obtain⟨ws,hqs,hqn⟩:=zQt cc ar1 (by simp only[zY2]at hl;omega);subst hqs;have hvx:=hv id zU;have q1:=zSc c (wB d r1) (i.pay.take 10) id sl now ws hI1.v zB n0 n1;have q2:=zSd (wB d r1) (i.pay.take 10) id now ws hI1.v zB n0 n1;by_cases he:bT (wB d r1).rq id ws now=0
  ·have hi:=zXv hI1 he;rw[he]at q1;rw[zYp he,he]at q2;have w1:=KW c d s now i.kind i.pay _ _ h0 h1 k2 r1 sl k3 (.inr (.inl hk)) id _ rfl _ LR;have w2:=zGa c (wB d r1) s now (i.pay.take 10) sl _ id _ rfl _ 0 q2;refine YES _ (gG i.kind id) (-1) hi ea en (.inr (.inr (.inr (.inr ⟨zB,id,hvx.1,hvx.2,rfl⟩)))) (.inl rfl) (zYs _) (T0.of et ea) w1 ?_ rfl (zVv (d:=wB d r1) he);rw[hk];exact w2
  ·rw[zYo he]at q2;have w1:=KV c d s now i.kind i.pay _ _ h0 h1 k2 r1 sl k3 (.inr (.inl hk)) _ _ he LR;have w2:=zGa c (wB d r1) s now (i.pay.take 10) sl _ id _ rfl _ _ q2;exact NO _ he (by first|exact zVx _ _ _ _ _ _ _ _|exact zVy _ _ _ _) _ _ _ w1 (by rw[hk];exact w2)
 ·
  obtain⟨id,har⟩:=zDy (show ar.length=1 by rw[hg0 LQ,hk];rfl);subst har;have hvx:=hv id zU;have q1:=zSg c (wB d r1) (i.pay.take 10) id sl now hI1.v;have q2:=zR8 c (wB d r1) s now (i.pay.take 10) sl id _ _ (zEy (wB d r1).rq id hI1.v);by_cases he:gI (wB d r1).rq id=true
  ·have hi:=zVt hI1 (λx=>x.id != id);rw[zYp he,zYp he]at q1;rw[zYp he,zYp he,zYp rfl]at q2;have w1:=KW c d s now i.kind i.pay _ _ h0 h1 k2 r1 sl k3 (.inr (.inr hk)) id [] rfl _ LR;refine YES _ (gG i.kind id) (-1) hi ea en (.inr (.inr (.inr (.inr ⟨zB,id,hvx.1,hvx.2,rfl⟩)))) (.inl rfl) (zYs _) (T0.of et ea) w1 ?_ rfl (QX.filter _ _);rw[hk];exact q2
  ·rw[zYo he,zYo he]at q1;rw[zYo he,zYo he,zYo xN]at q2;have w1:=KV c d s now i.kind i.pay _ _ h0 h1 k2 r1 sl k3 (.inr (.inr hk)) _ 12 xN LR;exact NO 12 xN xN _ _ _ w1 (by rw[hk];exact q2)
 ·
  have hal:ar=[]:=zZp (by rw[hg0 LQ,hk];rfl);subst hal;have hsame:=QZ hO (.inr zB);rw[hsd]at hsame;rw[hsame]at hI1;have q1:=KX c d s now i.kind i.pay _ [] h0 h1 k2 r1 sl k3 (.inr (.inl hk)) (PG d) (by rw[hsame,hk];exact AP d now hI.bd);have q2:=zM2 c d s now (i.pay.take 10) sl hI.bd;rw[hsame]at q1;refine YES d _ _ hI1 rfl rfl (.inr (.inl ⟨hk,rfl,rfl⟩)) (.inl rfl) (zYs _) id q1 ?_ rfl (QX.refl _);rw[hsame,hk];exact q2
 ·
  obtain⟨a,har⟩:=zDy (show ar.length=1 by rw[hg0 LQ,hk];rfl);subst har;have hvx:=hv a zU;by_cases ha:1<a
  ·have w1:=zMv c d s now i.kind i.pay _ [a] h0 h1 k2 r1 sl k3 hk a rfl ha;have w2:=zM0 c (wB d r1) s now (i.pay.take 10) sl a ha;exact NO 8 xN xN _ _ _ w1 (by rw[hk];exact w2)
  by_cases hs:0<=s/\s<(d.au.length:Int)
  case neg=>
   have w1:=zMw c d s now i.kind i.pay _ [a] h0 h1 k2 r1 sl k3 hk a rfl zB hs;have w2:=zM1 c (wB d r1) s now (i.pay.take 10) sl a zB (by rw[eu];exact hs);refine YES _ (gG 10 a) (-1) hI1 ea en (.inr (.inr (.inr (.inr ⟨zB,a,hvx.1,hvx.2,by rw[hk]⟩)))) (.inl rfl) (zYs _) (T0.of et ea) w1 ?_ rfl (QX.refl _);rw[hk];exact w2
  rw[hk]at k2 r2 k3 r3;have hI2:uW c ⟨r1,d.rq,d.dr,d.au.set s.toNat (a==1)⟩:=⟨hI1.b,hI1.v,hI1.q,hI1.lg,hI1.a,hI1.n,hI1.t8,hI1.br,hI1.bb,hI1.bl,by have:=hI1.au;dsimp only;rw[yAk];exact this,hI1.dn,hI1.dr,hI1.vh⟩;have w1:=zM3 c d s now i.pay (i.pay.take 10) a hvx.1 zB k2 r1 sl k3 hs;have w2:=zM4 c (wB d r1) s now (i.pay.take 10) sl a hvx.1 zB (by rw[eu];exact hs);have q1:=zR9 c d s now ⟨0,10,i.pay⟩ hI.bd zB _ _ _ w1;have q2:=zSa c d s now hI.bd 10 i.pay _ [a] xN xN r2 r1 sl r3 _ hI2.bd _ _ w2;have en':r1.num=d.rg.num:=en;rw[show(⟨r1,d.rq,d.dr,d.au.set s.toNat (a==1)⟩:xQ).rg.num=d.rg.num from en']at q1;rw[<-hk,<-hii]at q1 q2;exact⟨⟨⟨r1,d.rq,d.dr,d.au.set s.toNat (a==1)⟩,gG i.kind a,-1,0⟩,⟨q1,q2⟩,hI2,ea,en,λh=>absurd rfl h,λ_=>⟨[a],hO,.inr (.inr (.inr (.inr ⟨zB,a,hvx.1,hvx.2,rfl⟩)))⟩,.inl rfl,zYs _,T0.of et ea,λ_=>by dsimp only;omega,λk hk'=>by show(d.au.set s.toNat (a==1))[k]? =_;rw[yC9 zB],QX.refl _⟩
 ·
  obtain⟨a,har⟩:=zDy (show ar.length=1 by rw[hg0 LQ,hk];rfl);subst har;have hvx:=hv a zU;by_cases ha:a<(c.js.length:Int)
  ·have w1:=zMu c d s now i.kind i.pay _ [a] h0 h1 k2 r1 sl k3 hk a rfl ha;have w2:=zMz c (wB d r1) s now (i.pay.take 10) sl a ha;refine YES _ (gG 11 a) a hI1 ea en (.inr (.inr (.inr (.inr ⟨zB,a,hvx.1,hvx.2,by rw[hk]⟩)))) (.inr ⟨hk,hvx.1,ha⟩) (zYs _) (T0.of et ea) w1 ?_ rfl (QX.refl _);rw[hk];exact w2
  ·have w1:=zMt c d s now i.kind i.pay _ [a] h0 h1 k2 r1 sl k3 hk a rfl zB;have w2:=zMy c (wB d r1) s now (i.pay.take 10) sl a zB;exact NO 8 xN xN _ _ _ w1 (by rw[hk];exact w2)
 ·
  have hal:ar=[]:=zZp (by rw[hg0 LQ,hk];rfl);subst hal;have hsame:=QZ hO (.inr zB);rw[hsd]at hsame;rw[hsame]at hI1;have hrq:=hI.a.q;have q1:=KX c d s now i.kind i.pay _ [] h0 h1 k2 r1 sl k3 (.inr (.inr hk)) (bY d) (by rw[hsame,hk];exact AN d 12 now xN xN hI.bd zB zB);have q2:=zMx c d s now (i.pay.take 10) sl (zNp d hI.bd zB zB);rw[hsame]at q1;refine YES d _ _ hI1 rfl rfl (.inr (.inr (.inl ⟨hk,rfl,rfl⟩))) (.inl rfl) (zYs _) id q1 ?_ rfl (QX.refl _);rw[hsame,hk];exact q2
theorem zBo (d:Dk):∀i,∀j∈(NY d i).1,∃e,j=jnF e
 |0=>λj hj=>by simp[NY]at hj
 |i+1=>λj hj=>by
  simp only[NY,zZa,zZu]at hj
  rcases hj with hj|hj
  ·exact zBo d i j hj
  ·exact⟨_,hj⟩
theorem zF1 (d:Dk) (r:Int):(RC d r).js=(NY (ad (ad4 d)) (cfN d)).1:=by rw[RC,cfJ]
theorem zBp (d:Dk) (r:Int):(RC d r).ags=(TC (ad (cfJ d).2) r (cfM d)).1:=by rw[RC,cfG]
theorem zVz (d:Dk) (rights:Int):1<=(RC d rights).js.length/\(RC d rights).js.length<=2/\1<=(RC d rights).ags.length/\(RC d rights).ags.length<=3:=by
 have h1:=yD (ad4 d) 2 zB;have h2:=yD (cfJ d).2 3 zB;rw[zF1,zBp,QK,cC];unfold cfN cfM;omega
theorem zV0 (d:Dk) (n r:Int) (hr:0<=r/\r<=63):AgV (agF d n r):=by
 have w1:=yD d (3-1+1) zB;have w2:=yD (ad d) (3-1+1) zB;have w3:=yD (ad (ad d)) 3 zB;have w4:=yD (ad (ad (ad d))) 3 zB;have w5:=yD (ad (ad (ad (ad d)))) (3-1+1) zB;have w6:=yD (ad (ad (ad (ad (ad d))))) (2-1+1) zB;have w7:=yD (ad (ad (ad (ad (ad (ad d)))))) (3-1+1) zB;have w8:=yD (ad7 d) 5 zB;unfold agF;refine⟨by dsimp only;rw[jG];rfl,rfl,λx hx=>?_,hr,by dsimp only;omega,by dsimp only;omega,by dsimp only;omega,by dsimp only;omega,by dsimp only;omega⟩;simp only[zZ5,yCt,yD5]at hx
 rcases hx with rfl|rfl|rfl|rfl<;>omega
structure AgD (a:Ag) (n:Int):Prop where
 v:AgV a
 s:a.sec=dS (1000+n)
 q:1<=a.req/\a.req<=3
 b:1<=a.rate/\a.burst<=7
theorem zV1 (d:Dk) (n r:Int) (hr:0<=r/\r<=63):AgD (agF d n r) n:=by
 have w5:=yD (ad (ad (ad (ad d)))) (3-1+1) zB;have w7:=yD (ad (ad (ad (ad (ad (ad d)))))) (3-1+1) zB;have w8:=yD (ad7 d) 5 zB;exact⟨zV0 d n r hr,rfl,by unfold agF;dsimp only;omega,by unfold agF;dsimp only;omega⟩
theorem zF2 (d:Dk) (r:Int) (hr:0<=r/\r<=63):∀i k,k<i->AgD ((TC d r i).1.getD k default) k/\((TC d r i).1.getD k default).rights=r
 |0,k,h=>by omega
 | i+1,k,h=>by
  rw[zI2,zY0];by_cases hk:k<i
  ·rw[zZf (by rw[cC];exact hk),<-zY0];exact zF2 d r hr i k hk
  ·obtain rfl:k=i:=by omega
   rw[zZe (by rw[cC];omega),cC,yA0];exact⟨zV1 _ _ _ hr,rfl⟩
theorem zR1 (d:Dk) (r:Int) (hr:0<=r/\r<=63) (k:Int) (h0:0<=k) (h1:k<((RC d r).ags.length:Int)):AgD ((RC d r).ags.getD k.toNat default) k/\((RC d r).ags.getD k.toNat default).rights=r:=by
 rw[zBp]at h1⊢;rw[cC]at h1;have:=zF2 (ad (cfJ d).2) r hr (cfM d) k.toNat zB;rw[show((k.toNat:Nat):Int)=k by omega]at this;exact this
theorem zF3 {c:Cf} {a:Ag} (hv:AgV a) (n:Int) (hn:0<=n/\n<4):uW c (XJ n a a.ses.toNat):=by
 have he:=hv.e;have hq:=hv.q;have hb:=hv.b;have ht:=hv.t;have hs:=zWb n a hv;have e1:(FL n a).ag=a:=rfl;have e2:(FL n a).num=n:=rfl;have e3:(FL n a).tk.length=8:=by simp[FL,tkN]
 have e4:(FL n a).vh=[]:=rfl;have e5:(FL n a).bk=⟨a.burst,a.rate,a.burst⟩:=rfl;unfold XJ;generalize hN:a.ses.toNat=N;generalize FL n a=r at *;constructor
 ·exact hs
 ·exact⟨λr hr=>by simp at hr,List.Pairwise.nil,zY4 _⟩
 ·dsimp only;rw[e1];simp only[zZz];omega
 ·intro r hr;simp at hr
 ·dsimp only;rw[e1];exact hv
 ·dsimp only;rw[e2];exact hn
 ·exact e3
 ·dsimp only;rw[e1,e5]
 ·dsimp only;rw[e1,e5]
 ·dsimp only;rw[e1,e5];exact⟨hb.1,yAu _⟩
 ·dsimp only;rw[e1,zZ0];omega
 ·simp
 ·intro x hx;simp at hx
 ·dsimp only;rw[e4];simp
theorem zQv (n:Int) (a:Ag) (hv:AgV a):zO 90 [iA n,wN a] [] (zK (XJ n a a.ses.toNat)) []/\yU [iA n,wN a] [] (zK (XJ n a a.ses.toNat)) []:=by
 have he:=hv.e;have h1:=hv.s;have h2:=hv.l;exact⟨zSb n a a.ses.toNat zB zB zB zB,zNa n a a.ses.toNat zB zB zB zB⟩
theorem zV2 {l:List Tk} (h:GJ l) (now:Int):GJ (MK l now):=by
 refine⟨by unfold MK;rw[zYq,yAe];exact h.n,λt ht=>?_⟩;unfold MK at ht;rw[zZ3]at ht;obtain⟨j,hj,rfl⟩:=ht;rw[zZi]at hj;unfold zEc;split
 ·exact zY4 _
 ·rw[zY0,zZd hj,yA1];exact h.s _ (yBm _)
def PA (d:xQ) (now:Int):xQ:=⟨rtF d.rg now,zIj d.rq now,d.dr,d.au⟩
theorem zQw {c:Cf} {d:xQ} (h:uW c d) (now:Int):uW c (PA d now)/\(PA d now).rg.ag=d.rg.ag/\(PA d now).rg.num=d.rg.num:=by
 refine⟨?_,rfl,rfl⟩;have hl:=h.bl;have hr:=h.br;have hbb:=h.bb;have ht:=h.a.t;have hql:=yAv (λx:Rq=>decide (now<=x.til)) d.rq;have hq:=h.q;refine⟨⟨zV2 h.b.tk now,h.b.s,h.b.l,h.b.v⟩,h.v.filter _,?_,λr hr g hg=>h.lg r (yBl.1 hr).1 g hg,h.a,h.n,?_,h.br,h.bb,?_,h.au,h.dn,h.dr,h.vh⟩
 ·show((d.rq.filter _).length:Int)<=d.rg.ag.req
  omega
 ·show(MK d.rg.tk now).length=8
  unfold MK;rw[zYq,yAe,h.t8]
 ·show 0<=min (d.rg.bk.level+d.rg.bk.rate) d.rg.bk.burst/\min (d.rg.bk.level+d.rg.bk.rate) d.rg.bk.burst<=d.rg.ag.burst
  omega
theorem GY {c:Cf} {d:xQ} (h:uW c d) (now:Int):zO 109 [zK d,iA now] [] (zK (PA d now)) []:=by
 have k1:=cQ d h.bd;have hl:=h.bl;have hr:=h.br;have hbb:=h.bb;have ht:=h.a.t;have hb:=h.a.b;have k2:=zNx d.rg now h.b zB;have k3:=zIl d.rq now h.v;unfold PA;generalize rtF d.rg now=r at *;generalize zIj d.rq now=q at *;unfold zK wH at *;unfold qG at k2;refine eM Tryz.call109 λF hF=>?_
 refine MM (gK k1 k2 k3) ?_;exact zL
section
variable {P:Program} {K0:List Nat} {F:Fr K0} {m:Nat}
theorem YS.consume {st:St} {a:Act} {w:World} {X:Nat->Prop} {β:uH} (hX:XOK F X) (H:kQ X (zC st.h) β w) (Ht:∀t,zX w (xH X β) (zC st.h) β (zG st.tm t) (a.eval (.tmp t))) (KK:gH F (zC st.h) β w) (hJ:∀i,zG st.tm GS= .gh i->F.J i (Own β) X w) (hD:DOK X F a.defers w)
  (nd:∀k,zC st.h k≠some .dead) (gs:m<=GS) (hl:a.tmps.size=m) (k:Nat) (K ts:List Nat) (hK:K0.all (K.contains ·)=true) (hkK:K.contains k=false) {w':World} {β':uH} (G:xL X w (zC st.h) β w' (over [(k,.dead)] (zC st.h)) β') {v:AV} {c:Value} (hc:xG w' (xH X β') v c)
  (hg:∀i,v≠ .gh i) (t:Nat) (ht:t<m) {st':St} (he:restr K ts ⟨st.tm,(k,.dead)::st.h⟩=st'):wO F m ⟨(t,v)::st'.tm,st'.h⟩ (a.put (some t) c) w':=by
 subst he;have eh:zC ((k,xP.dead)::st.h)=over [(k,.dead)] (zC st.h):=wX [(k,xP.dead)] st.h;rw[<-eh]at G;obtain⟨H',hvv⟩:=G.hok.restr K
 have hkk:∀j,j∈K->j≠k:=λj hj e=>by
  subst e;have:K.contains j=true:=by simpa using hj
  rw[this]at hkK;cases hkK
 have hov:∀j,j≠k->zC ((k,xP.dead)::st.h) j=zC st.h j:=λj hj=>by rw[eh];exact bQ _ _ hj
 have hnd:∀j,j∈K->zC ((k,xP.dead)::st.h) j≠some .dead:=λj hj=>by rw[hov j (hkk j hj)];exact nd j
 have hK0:∀j,j∈K0->j∈K:=λj hj=>by
  have:=zY3.1 hK j hj;simpa using this
 have hsub:∀b,xH X (λj=>if j∈K then β' j else []) b->xH X β' b:=λb hd=>by
  rcases hd with hx|⟨j,n,hm⟩
  ·exact .inl hx
  ·(try dsimp only at hm)
   split at hm
   ·exact .inr ⟨j,n,hm⟩
   ·simp at hm
 have hgs:GS≠t:=by omega
 refine⟨⟨X,_,hX,H',λj=>?_,⟨λj e hje=>?_,zZy KK.size G.size,λb hb hi hn=>?_,λj b n hm=>?_,λj b n hm=>?_,λj b n hm=>?_,G.os.trans KK.os,G.tape.trans KK.tape,G.output.trans KK.output⟩,λi hi=>?_,hD.goes H G⟩,λj=>?_,gs,by simp[Act.put,hl]⟩
 ·show zX _ _ _ _ (zG ((t,v)::(restr K ts ⟨st.tm,(k,.dead)::st.h⟩).tm) j) _
  rw[yT];split
  ·rename_i hj;subst hj;have e:(a.put (some j) c).eval (.tmp j)=c:=by simp[Act.put,Act.eval,hl,ht]
   rw[e];exact .fz _ _ (hc.evo (zYs _) λb _ hd=>⟨rfl,λh=>hd (hsub b h)⟩)
  ·rename_i hj;rw[Act.eval_put (λd hd e=>hj (by injection hd with hd;injection e with e;rw[hd,e])),jN];split
   ·exact hvv _ _ ((Ht j).evo G.evo)
   ·exact .fz _ _ (.bot _)
 ·have hj:=hK0 j (F.hh j e hje);have h1:=KK.knd j e hje;have hr:∀e',zC ((k,xP.dead)::st.h) j=some e'->zC (wV K (zC ((k,xP.dead)::st.h))) j=some (qZ K (zC ((k,xP.dead)::st.h)) e'):=λe' h2=>by rw[xY,zYp hj,h2];rfl
  cases e with
  |dead=>exact h1
  |box cs=>obtain⟨cs',h2⟩:=h1;exact⟨_,hr _ ((hov j (hkk j hj)).trans h2)⟩
  |arr sz xs sl=>obtain⟨xs',sl',h2,h3⟩:=h1;obtain⟨xs2,fl2,h4,h5⟩:=hG K (zC ((k,xP.dead)::st.h)) sz xs' sl';exact⟨xs2,fl2,(hr _ ((hov j (hkk j hj)).trans h2)).trans (by rw[h4]),by rw[h5];exact h3⟩
 ·rw[G.keep b (zZx hb KK.size),KK.keep b hb hi hn];intro j n hm
  rcases KK.own j b n hm with⟨k',n',h1⟩|h1
  ·exact hn _ _ h1
  ·omega
 ·(try dsimp only at hm)
  split at hm
  ·rcases G.own j b n hm with⟨k',n',h1⟩|h1
   ·exact KK.own k' b n' h1
   ·exact .inr (zZy KK.size h1)
  ·simp at hm
 ·have hj:=hK0 j (F.hK j b n hm);obtain⟨n',h1,h2⟩:=KK.pas j b n hm
  (try dsimp only)
  rw[zYp hj]
  cases hje:zC st.h j with
  |none=>rw[H.off j hje]at h2;simp at h2
  | some e=>
   have h3:=(G.key j e hje).resolve_left (hnd j hj)
   cases e with
   |dead=>exact h3.elim
   |box cs=>exact⟨n',h1,h3.2 b n' h2⟩
   |arr sz xs fl=>
    obtain⟨n'',h4,h5⟩:=h3.2 b n' h2;exact⟨n'',zZy h1 h4,h5⟩
 ·obtain⟨n',_,h2⟩:=KK.pas j b n hm;rw[G.bs j b n' h2,KK.bs j b n hm]
 ·change zG ((t,v)::(restr K ts ⟨st.tm,(k,.dead)::st.h⟩).tm) GS= .gh i at hi
  rw[yT,zYo hgs,jN]at hi;split at hi
  ·have h1:zG st.tm GS= .gh i:=IA hi;refine F.Jst i _ X w' w' _ (F.go G (hJ i h1)) (zYs _) (λ_ _ _=>rfl) (λb hb=>?_) (λb hb=>?_) rfl rfl rfl
   ·obtain⟨j,n,hm⟩:=hb
    (try dsimp only at hm)
    split at hm
    ·exact .inl ⟨j,n,hm⟩
    ·simp at hm
   ·obtain⟨j,n,hm⟩:=hb;exact H'.lt b (.inr ⟨j,n,hm⟩)
  ·cases hi
 ·show zC (wV K (zC ((k,xP.dead)::st.h))) j≠some .dead
  rw[xY];split
  ·rename_i hj;intro h;rw[zY1]at h;obtain⟨e,he,h2⟩:=h
   cases e with
   |dead=>exact hnd j hj he
   |box cs=>cases h2
   |arr a b c=>obtain⟨xs2,fl2,h4,_⟩:=hG K (zC ((k,xP.dead)::st.h)) a b c;rw[h4]at h2;cases h2
  ·intro h;cases h
variable {ops:Array Oper} {rest:List Oper} {Q:List FP->St->Prop} {tm:List (Nat×AV)} {h:List (Nat×xP)} {fs fs':List FP} {TT:List TI} {ty:Nat} {pos:String} {after:Array Edge} {t:Nat}
theorem zR2 (K ts:List Nat) (hP:uN P TT) {T e k sz:Nat} {s x:Operand} {ti te:TI} {xs vs:List AV} {fl:Fl} {xv:AV} (hs:yO (zG tm) s= .ref k 0 0) (hk:zC h k=some (.arr sz xs fl)) (hx:yO (zG tm) x=xv) (hT:TT[T]? =some ti) (hd:ti.d= .slice e) (he:TT[e]? =some te) (hvs:BL (zC h) xv=some vs)
  (hss:Nat.beq sz te.size=true) (hsz:∀y,vs[0]? =some y->y.cells.length=sz) (hb:Nat.ble te.bytes 65536=true) (hz:Nat.beq te.zero.length te.size=true) (hpos:1<=vs.length) (hmax:vs.length<=1073741824) (hm:Nat.blt t m=true) (hK:K0.all (K.contains ·)=true) (hkK:K.contains k=false)
  {st':St} (hst:restr K ts ⟨tm,(k,.dead)::h⟩=st') (hr:zY P F m ops false rest ⟨(t,.sl false vs)::st'.tm,st'.h⟩ fs Q):zY P F m ops false (⟨some t,.call ⟨.builtin .append, #[s,x], #[T,T]⟩,ty,pos,after,none⟩::rest) ⟨tm,h⟩ fs Q:=⟨λa w R=>wpListIn_plain rfl λKC hKC=>by
 obtain⟨⟨X,β,hX,HH,Ht,KK,hJ,hD⟩,nd,gs,hl⟩:=R;dsimp only at HH Ht KK hJ nd;have h1:=jP (op:= .call ⟨.builtin .append, #[s,x], #[T,T]⟩) (st:=⟨tm,h⟩) Ht (λ_ _=>rfl) (x:=s) qH hs;have h2:=jP (op:= .call ⟨.builtin .append, #[s,x], #[T,T]⟩) (st:=⟨tm,h⟩) Ht (λ_ _=>rfl) (x:=x) qH hx;have hss:=zZm hss;have hb:=zY7 hb;have hz:=zZm hz;have hm:=zY7 hm;obtain⟨i,z,hu,hi,hzz,e1,e2,e3⟩:=wL hP hT hd he;obtain⟨g1,g2,g3,g4,g5,f,g6,g7,g8⟩:=HH.ent k _ hk;obtain⟨ad,cap,hcv,_,hmx,hsrc⟩:=eE HH h2 hvs hsz;obtain⟨b2,q,fy,rfl,hS⟩:=hsrc (λh0=>by rw[h0]at hpos;simp at hpos);obtain⟨hf1,hf2⟩:=hS.flat g1
 have FIN:∀{c w'} (_:(Builtin.append_ #[T,T] ty #[a.eval s,a.eval x]).run P w= .ok c w') {β':uH} (_:xL X w (zC h) β w' (over [(k,.dead)] (zC h)) β') (_:xG w' (xH X β') (.sl false vs) c),Oper.wpIn (LO F.ro) 0 P ⟨some t,.call ⟨.builtin .append, #[s,x], #[T,T]⟩,ty,pos,after,none⟩ a w KC (λe a' w'=>e= .normal/\∃st',Q [] st'/\wO F m st' a' w'):=by
  intro c w' hrun β' G hc;refine bP.wp (N:=λc1 w1=>c1=c/\w1=w') ?_ ?_
  ·have:(execOp a.eval ⟨some t,.call ⟨.builtin .append, #[s,x], #[T,T]⟩,ty,pos,after,none⟩).run P w= .ok (.value c) w':=by simp[execOp,resolve,invoke,builtin,hrun]
   rw[this];exact⟨rfl,rfl⟩
  ·rintro _ _ ⟨rfl,rfl⟩;exact hKC _ _ (hr.run _ _ (YS.consume (st:=⟨tm,h⟩) hX HH Ht KK hJ hD nd gs hl k K ts hK hkK G hc (λi hh=>by cases hh) t hm hst))
 have kill:∀{w'},kQ X (zC h) β w'->xL X w' (zC h) β w' (over [(k,.dead)] (zC h)) (cA β k []):=λH=>xL.step H k .dead [] (zYs _) (λ_ _ _=>rfl) rfl rfl rfl (λb n hm=>by simp at hm) (λ_ _ _=>rfl) (λe _=> .inl rfl) λ_=>zS _ _ _
 have GROW:∀bd cp,a.eval s= .slice bd 0 cp->cp<vs.length->(bd=none->cp=0)->Oper.wpIn (LO F.ro) 0 P ⟨some t,.call ⟨.builtin .append, #[s,x], #[T,T]⟩,ty,pos,after,none⟩ a w KC (λe a' w'=>e= .normal/\∃st',Q [] st'/\wO F m st' a' w'):=by
  intro bd cp hcx hlt hbn
  have hbytes:vs.length*i.bytes<=140737488355328:=by
   have:=yBw (show vs.length<=1073741824 by omega) (show i.bytes<=65536 by omega);omega
  have hrun:(Builtin.append_ #[T,T] ty #[.slice bd 0 cp,.slice (some ⟨b2,q,none⟩) vs.length cap]).run P w= .ok (.slice (some ⟨w.heap.size,0,none⟩) vs.length (grownCap w vs.length cp e)) (w.drew.alloc (.cells ((flat fy vs.length sz).toArray++Builtin.zeroCells z.cells (grownCap w vs.length cp e-vs.length)) e)):=by
   cases bd with
   |none=>
    obtain rfl:=hbn rfl;exact run_append_nil (P:=P) w T ty e i z hu hi hzz ⟨b2,q,none⟩ vs.length cap (flat fy vs.length sz) (by rw[zM,hss,e1]) hf1 zB zB zB
   |some b0=>
    have:=run_append_grow (P:=P) w T ty e i z hu hi hzz b0 0 cp [] zU (λj v h=>by simp at h) ⟨b2,q,none⟩ vs.length cap (flat fy vs.length sz) (by rw[zM,hss,e1]) hf1 zB zB (growslice_fits zB (by simpa using hbytes));simpa using this
  have HD:=HH.drew (w.drawn+1);have hzs:z.cells.size=te.zero.length:=by rw[<-e3];simp
  have hge:=grownCap_ge w vs.length cp e;have G:=xL.newFz HD ((flat fy vs.length sz).toArray++Builtin.zeroCells z.cells (grownCap w vs.length cp e-vs.length)) e
  have hv:=xG.newArr HD ((flat fy vs.length sz).toArray++Builtin.zeroCells z.cells (grownCap w vs.length cp e-vs.length)) e sz vs (grownCap w vs.length cp e) fy g1 (by unfold dT;omega) hge hS.wide
   (λi j hi hj=>by
    rw[yAr (by simp[zM];have:=zY8 sz (show i+1<=vs.length by omega);rw[zZs,yAl]at this;omega)]
    simpa using uY fy hi hj) hS.one (λi y j v hy hv=>xG.evo (w:=w) (w':={w with drawn:=w.drawn+1}) (zYs _) (λ_ _ hd=>⟨rfl,hd⟩) (hS.rep.toF rfl i y j v hy hv))
  have G2:=xL.trans HH (xL.drew HH (w.drawn+1)) G;have G3:=kill G2.hok;exact FIN (by rw[hcx,hcv];exact hrun) (xL.trans HH G2 G3) (hv.wkF.evo G3.evo.size G3.evo.fz)
 generalize hcx:a.eval s=cx at h1
 cases h1 with
 |fz _ _ hf=>cases hf
 |dref _ _ _ _ hdd _=>exact absurd hdd (nd k)
 |ref0 _ _ sz' xs' st' bd hk'' hn=>exact GROW bd 0 hcx zB (λ_=>rfl)
 | ref _ _ _ sz' xs' st' b n cp hk'' hbm hn hc hs'=>
  rw[hk]at hk'';cases hk'';by_cases hroom:vs.length<=cp
  case neg=>exact GROW _ cp hcx zB (λh=>by cases h)
  obtain⟨cur,el,c1,c2,c3,c4⟩:=g8 b n hbm
  have hcs:cur.size=cp*sz:=by
   have:xZ w b=cur.size:=by unfold xZ World.shape?;rw[c1];rfl
   rw[<-this,<-hs',zZt]
  have hfit:vs.length*sz<=cur.size:=by rw[hcs];exact zY8 _ hroom
  have hrun:=cH hP hT hd he w ty b 0 0 cp cur el c1 ⟨b2,q,none⟩ vs.length cap (flat fy vs.length sz) (by rw[zM,hss]) hf1 hf2 zB (by
   rw[zM,yCm];simpa using hfit)
  generalize hcur':(cur.toList.take (0+0*te.size)++flat fy vs.length sz++cur.toList.drop (0+0*te.size+(flat fy vs.length sz).length)).toArray=cur' at hrun;rw[yCm,zZt,yBs,yA9,zZt]at hcur'
  have hsz':cur'.size=cur.size:=by
   rw[<-hcur'];simp only[yBk,zYr,zZk,yBj,zM];omega
  have G:=xL.step (w':=w.setRow b cur') HH k .dead [] zU (λj hj hn=>setRow_other w b j cur' (λe=>hn n (by rw[e];exact hbm))) rfl rfl rfl (λb n hm=>by simp at hm) (λb n _=>uK c1 hsz' b) (λe _=> .inl rfl) λ_=>zS _ _ _
  have hnb:¬xH X (cA β k []) b:=λhd=>by
   rcases hd with hx|⟨j,n',hm⟩
   ·exact HH.free k b n hbm hx
   ·by_cases hjk:j=k
    ·subst hjk;rw[zS]at hm;simp at hm
    ·rw[qQ _ _ hjk]at hm;exact hjk (HH.disj _ _ _ _ _ hm hbm)
  refine FIN (by rw[hcx,hcv,yCm];exact hrun) G ?_;rw[zZt];have hne:vs≠[]:=λh0=>by rw[h0]at hpos;simp at hpos
  refine .sl false vs b 0 sz cp fy hne ⟨zZx (HH.lt b (.inr ⟨k,n,hbm⟩)) G.size,hnb,g1,by unfold dT;omega,hS.wide,λi j hi hj=>?_,hS.one⟩ hroom λi y j v hy hv=>(hS.rep.toF rfl i y j v hy hv).evo G.evo.size G.evo.fz
  rw[uJ (setRow_heap w _ _ _ _ _ c1),<-hcur',zZt,yA7,zZf (by
   rw[zM];have:=zY8 sz (show i+1<=vs.length by omega);rw[zZs,yAl]at this
   omega)]
  exact uY fy hi hj⟩
end
end Av
end Go.Proofs.YtmamjhmoegjapaaGreat
