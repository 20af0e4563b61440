/- Part 21. -/
import Derived.Test.YtmamjhmoegjapaaGreatP20
import Derived.Test.YtmamjhmoegjapaaGreatP12
import Derived.Test.YtmamjhmoegjapaaGreatP17
import Derived.Test.YtmamjhmoegjapaaGreatP15
import Derived.Test.YtmamjhmoegjapaaGreatP09
import Derived.Test.YtmamjhmoegjapaaGreatP13
namespace Go.Proofs.YtmamjhmoegjapaaGreat
namespace Av
open Tryz
set_option linter.unusedSimpArgs false
set_option linter.unusedVariables false
set_option linter.unusedSectionVars false
set_option maxRecDepth 4000
set_option maxHeartbeats 4000000
def jI (k e:Int):Ms:=⟨15,[],[k,e],[]⟩
def NZ (a k e:Int):AV:= .agg [iA a,iA k,iA e]
structure Hd where
 d:xQ
 p:Ms
 k:Int
 e:Int
def FZ (n ki:Int) (h:Hd):AV:= .tup [zK h.d,yE h.p,NZ n ki h.e,iA h.k]
def PH (d:xQ):AV:=wI d.rg (zD yK d.rq) (.ref 1005 0 (d.dr.map kH).length) (zD bA d.au)
def dkD (d:xQ):xN:= .arr 1 (d.dr.map kH) true
def EA (n ki:Int) (h:Hd):AV:= .tup [PH h.d,yE h.p,NZ n ki h.e,iA h.k]
theorem gJ (d:xQ) (hb:eE d):yR [zK d] [] (PH d) [(1005,dkD d)]:=yG
def AG (c:Cf) (d:xQ) (s now:Int) (i:It) (h:Hd):Prop:=
 yR [wP c,zK d,iA s,vE i,iA now] [] (FZ d.rg.num i.kind h) []/\yR [wP c,zK d,iA s,vE i,iA now] [] (EA d.rg.num i.kind h) [(1005,dkD h.d)]
def hdM (ki:Int) (d:xQ) (p:Ms) (k e:Int):Hd:=if e=0 then⟨d,p,k,0⟩else⟨d,jI ki e,-1,e⟩
theorem zQg (c:Cf) (d:xQ) (s now:Int) (i:It) (hb:eE d) (d':xQ) (p:Ms) (k e:Int) (k4:zN 192 [wP c,zK d,iA s,vE i,iA now] [] (hT d' p k e) []):
  zN 158 [wP c,zK d,iA s,vE i,iA now] [] (FZ d'.rg.num i.kind (hdM i.kind d' p k e)) []:=by
 have k1:=cS d hb;unfold hT wP vE at k4;unfold wP vE;unfold zK wI yE at *;by_cases he:e=0
 ·subst he;unfold hdM FZ NZ zK wI yE;rw[zX1 rfl];refine eM call158 λF hF=>?_
  refine LO (wZ k1 k4) ?_;exact zJ
 ·unfold hdM FZ NZ jI zK wI yE;rw[zX0 he];refine eM call158 λF hF=>?_
  refine LO (wZ k1 k4) ?_;exact zJ
theorem zSj (c:Cf) (d:xQ) (s now:Int) (i:It) (hb:eE d) (h1:1<=d.au.length) (d':xQ) (p:Ms) (k:Int) (k4:zN 192 [wP c,UY d,iA s,vE i,iA now] [(1004,BE d.au)] (hTO d' p k 0) [(1004,BE d'.au)]):
  zN 158 [wP c,zK d,iA s,vE i,iA now] [] (FZ d'.rg.num i.kind ⟨d',p,k,0⟩) []:=by
 have k1:=PM d hb h1;unfold hTO wP vE at k4;unfold wP vE;unfold BE UY at *;unfold zK wI yE at *;unfold FZ NZ zK wI yE;refine eM call158 λF hF=>?_
 refine LO (wZ k1 k4) ?_;refine zI [] rfl rfl ?_ rfl
 show AV.tup [wI d'.rg (zD yK d'.rq) (zD kH d'.dr) (.sl false ((d'.au.map bA).take (d'.au.map bA).length)),yE p,NZ d'.rg.num i.kind 0,iA k]=_
 rw[zX7];rfl
section
variable (c:Cf) (d:xQ) (s now:Int) (hb:eE d)
include hb
theorem zMu (i:It) (hc:i.code≠0):AG c d s now i ⟨d,jI i.kind i.code,-1,i.code⟩:=by
 have kd:=gJ d hb;have k1:=jJ d hb;unfold AG wP FZ EA jI NZ vE zK PH dkD wI yE at *;refine⟨?_,?_⟩
 ·exact yG
 ·exact yG
theorem zMv (i:It) (hc:i.code=0) (hk:¬(1<=i.kind/\i.kind<=12)):AG c d s now i ⟨d,jI i.kind 5,-1,5⟩:=by
 have kd:=gJ d hb;have k1:=jJ d hb;have k2:=YC i.kind;rw[zYa hk]at k2;obtain⟨co,ki,pa⟩:=i;dsimp only at *;subst hc;unfold AG wP FZ EA jI NZ vE zK PH dkD wI yE at *;refine⟨?_,?_⟩
 ·exact yG
 ·exact yG
theorem zMw (k:Int) (pa:List Int) (h0:1<=k) (h1:k<=12) (k3:yR [iA k,zD yA pa] [] (deT k (pa.take 10) none) []):AG c d s now ⟨0,k,pa⟩ ⟨d,jI k 6,-1,6⟩:=by
 have kd:=gJ d hb;have k1:=jJ d hb;have k2:=YC k;rw[zX8 ⟨h0,h1⟩]at k2;unfold deT yE at k3;unfold AG wP FZ EA jI NZ vE zK PH dkD wI yE at *;refine⟨?_,?_⟩
 ·exact yG
 ·exact yG
variable (k:Int) (pa tk0 ar:List Int) (h0:1<=k) (h1:k<=12) (k3:yR [iA k,zD yA pa] [] (.tup [yE ⟨k,tk0,ar,[]⟩,iA 0]) [])
include h0 h1 k3
theorem zMx (r:Rg) (sl e:Int) (he:e≠0) (k4:yR [uX d.rg,yE ⟨k,tk0,ar,[]⟩,iA now] [] (.tup [uX r,iA sl,iA e]) []):
  AG c d s now ⟨0,k,pa⟩ ⟨d,jI k e,-1,e⟩:=by
 have kd:=gJ d hb;have k1:=jJ d hb;have k2:=YC k;rw[zX8 ⟨h0,h1⟩]at k2;unfold uX at k4;unfold AG wP FZ EA jI NZ vE zK PH dkD wI yE at *;refine⟨?_,?_⟩
 ·exact yG
 ·exact yG
theorem zQh (r:Rg) (sl:Int) (k4:yR [uX d.rg,yE ⟨k,tk0,ar,[]⟩,iA now] [] (.tup [uX r,iA sl,iA 0]) []) (d':xQ) (hb':eE d') (p:Ms) (kk e:Int)
  (k5:yR [wP c,zK (wC d r),iA s,yE ⟨k,tk0,ar,[]⟩,iA sl,iA now] [] (hT d' p kk e) []):
  AG c d s now ⟨0,k,pa⟩ (hdM k d' p kk e):=by
 have kd:=gJ d' hb';have k1:=jJ d hb;have k6:=jJ d' hb';have k2:=YC k;rw[zX8 ⟨h0,h1⟩]at k2;unfold uX at k4;unfold hT wC at k5;unfold AG wP vE zK PH dkD wI yE at *;by_cases he:e=0
 ·subst he;unfold hdM FZ EA NZ zK PH wI yE;rw[zX1 rfl];refine⟨?_,?_⟩
  ·exact yG
  ·exact yG
 ·unfold hdM FZ EA NZ jI zK PH wI yE;rw[zX0 he];refine⟨?_,?_⟩
  ·exact yG
  ·exact yG
theorem zSk (r:Rg) (sl:Int) (k4:yR [uX d.rg,yE ⟨k,tk0,ar,[]⟩,iA now] [] (.tup [uX r,iA sl,iA 0]) []) (d':xQ) (hb':eE d') (p:Ms) (kk:Int)
  (k5:yR [wP c,UY (wC d r),iA s,yE ⟨k,tk0,ar,[]⟩,iA sl,iA now] [(1004,BE d.au)] (hTO d' p kk 0) [(1004,BE d'.au)]):
  AG c d s now ⟨0,k,pa⟩ ⟨d',p,kk,0⟩:=by
 have kd:=gJ d' hb';have k1:=AN d hb;have k6:=jJ d' hb';have k2:=YC k;rw[zX8 ⟨h0,h1⟩]at k2;unfold uX at k4;unfold hTO wC at k5;unfold BE UY at *;unfold AG wP vE zK PH dkD wI yE at *;unfold FZ EA NZ zK PH wI yE;refine⟨?_,?_⟩
 ·exact yG
 ·exact yG
end
theorem zMy (r:Rg) (m:Ms) (now:Int) (hr:GM r) (hm:BY m.tok) (hl:r.bk.level<=1000000):yR [uX r,yE m,iA now] [] (.tup [uX (opR r m now),iA (opS r m now),iA (opE r m now)]) []:=yG
def zVu (c:Cf) (l:List Rq):Prop:=∀r∈l,∀g∈r.legs,g.jn<(c.js.length:Int)/\g.ph<((c.js.getD g.jn.toNat default).ph.length:Int)
structure qC (c:Cf) (d:xQ):Prop where
 b:GM d.rg
 v:aM d.rq
 q:(d.rq.length:Int)<=d.rg.ag.req
 lg:zVu c d.rq
 a:AgV d.rg.ag
 n:0<=d.rg.num/\d.rg.num<4
 t8:d.rg.tk.length=8
 br:d.rg.bk.rate=d.rg.ag.rate
 bb:d.rg.bk.burst=d.rg.ag.burst
 bl:0<=d.rg.bk.level/\d.rg.bk.level<=d.rg.ag.burst
 au:(d.au.length:Int)=d.rg.ag.ses
 dn:d.dr.length<=1000
 dr:∀x∈d.dr,x.length=8/\BY x
 vh:d.rg.vh.length<=8
theorem qC.bd {c:Cf} {d:xQ} (h:qC c d):eE d:=
 ⟨h.b,by have:=h.v.n4;omega,λr hr=>by have:=h.v.lg3 hr;omega,h.dn,λx hx=>by have:=(h.dr x hx).1;omega,by have:=h.au;have:=h.a.e;omega⟩
theorem zQi:∀(n:Nat) (l:List Int),l.length=4*n->∃qs:List Qd,l=YR qs/\qs.length=n
 |0,l,h=>⟨[],zY1 zB,rfl⟩
 |n+1,a::b::c::e::l,h=>by
  obtain⟨qs,h1,h2⟩:=zQi n l (by simp only[zYd]at h;omega);exact⟨⟨a,b,c,e⟩::qs,by rw[h1];rfl,by rw[zYd,h2]⟩
 |n+1,[],h=>by simp at h
 |n+1,[_],h=>by simp at h;omega
 |n+1,[_,_],h=>by simp at h;omega
 |n+1,[_,_,_],h=>by simp at h;omega
theorem zQj:∀(n:Nat) (l:List Int),l.length=2*n->∃ws:List (Int×Int),l=IC ws/\ws.length=n
 |0,l,h=>⟨[],zY1 zB,rfl⟩
 |n+1,a::b::l,h=>by
  obtain⟨ws,h1,h2⟩:=zQj n l (by simp only[zYd]at h;omega);exact⟨(a,b)::ws,by rw[h1];rfl,by rw[zYd,h2]⟩
 |n+1,[],h=>by simp at h
 |n+1,[_],h=>by simp at h;omega
theorem zMz {fx gr:Nat} {p a:List Int} (hb:BY p) (h:dcF fx gr p=some a):p.length<=200/\10<=p.length/\(∀x∈a,0<=x/\x<=4294967295)/\(gr=0->a.length=fx)/\(gr≠0->∃c:Nat,1<=c/\c<=3/\a.length=fx+c*gr):=by
 unfold dcF at h;by_cases hl:200<p.length∨p.length<10
 ·rw[zX1 hl]at h;cases h
 rw[zX0 hl]at h;have hbd:BY (p.drop 10):=λx hx=>hb x (zZe hx)
 cases h1:RC fx (p.drop 10)with
 |none=>rw[h1]at h;cases h
 | some ar=>
  obtain⟨a1,r1⟩:=ar;rw[h1]at h;obtain⟨l1,b1,v1,_⟩:=XZ fx _ a1 r1 hbd h1;dsimp only at h;by_cases hg:gr=0
  ·rw[zX1 hg]at h;by_cases hr:r1=[]
   ·rw[zX1 hr]at h;cases h;exact⟨zB,zB,v1,λ_=>l1,λh=>absurd hg h⟩
   ·rw[zX0 hr]at h;cases h
  ·rw[zX0 hg]at h
   cases h2:RC 1 r1 with
   |none=>rw[h2]at h;cases h
   | some cr=>
    obtain⟨c1,r2⟩:=cr;rw[h2]at h;obtain⟨l2,b2,v2,_⟩:=XZ 1 _ c1 r2 b1 h2;dsimp only at h;by_cases hc:c1.getD 0 0<1∨3<c1.getD 0 0
    ·rw[zX1 hc]at h;cases h
    rw[zX0 hc]at h
    cases h3:RC ((c1.getD 0 0).toNat*gr) r2 with
    |none=>rw[h3]at h;cases h
    |some fr=>
     obtain⟨f1,r3⟩:=fr;rw[h3]at h;obtain⟨l3,b3,v3,_⟩:=XZ _ _ f1 r3 b2 h3;dsimp only at h;by_cases hr:r3=[]
     ·rw[zX1 hr]at h;cases h;refine⟨zB,zB,λx hx=>?_,λh=>absurd h hg,λ_=>⟨(c1.getD 0 0).toNat,zB,zB,by rw[zX3,l1,l3]⟩⟩;rw[zYl]at hx;exact hx.elim (v1 x) (v3 x)
     ·rw[zX0 hr]at h;cases h
def Opn (d:xQ) (i:It) (now:Int) (a:List Int):Prop:=i.code=0/\1<=i.kind/\i.kind<=12/\dcF (jK i.kind) (uP i.kind) i.pay=some a/\opE d.rg ⟨i.kind,i.pay.take 10,a,[]⟩ now=0
def AH (d:xQ) (i:It) (now:Int) (a:List Int):xQ:=wC d (opR d.rg ⟨i.kind,i.pay.take 10,a,[]⟩ now)
def UX (c:Cf) (d:xQ) (s:Int) (i:It) (now:Int) (h:Hd):Prop:=
 zN 158 [wP c,zK d,iA s,vE i,iA now] [] (FZ d.rg.num i.kind h) []/\AG c d s now i h
def RpF (d:xQ) (i:It) (now:Int) (a:List Int) (h:Hd):Prop:=
 (i.kind=1/\h.p=PS d now/\h.d=d)∨(i.kind=9/\h.p=PU d/\h.d=d)∨(i.kind=12/\h.p=aA d/\h.d=d)∨
 (i.kind=2/\∃(k:Nat) (sec:List Int),k<8/\(sec.length=8/\BY sec)/\h.p=⟨16,[],[(k:Int)],d.rg.num::(k:Int)::sec⟩)∨
 ((3<=i.kind/\i.kind<=8∨i.kind=10∨i.kind=11)/\∃x,0<=x/\x<=4294967295/\h.p=gD i.kind x)
def T0 (d:xQ):Prop:=d.rg.tk.getD 0 default=⟨true,d.rg.ag.sec,-1,d.rg.ag.rights,d.rg.ag.cls,0⟩
theorem T0.of {d d':xQ} (h1:d'.rg.tk=d.rg.tk) (h2:d'.rg.ag=d.rg.ag) (h:T0 d):T0 d':=by
 unfold T0 at *;rw[h1,h2];exact h
def PI (l l':List Rq):Prop:=∀r∈l',∀g∈r.legs,g.sc<=0∨∃r0∈l,∃g0∈r0.legs,g.sc=g0.sc
theorem PI.refl (l:List Rq):PI l l:=λr hr g hg=> .inr ⟨r,hr,g,hg,rfl⟩
theorem PI.filter (l:List Rq) (p:Rq->Bool):PI l (l.filter p):=λr hr g hg=> .inr ⟨r,(yA7.1 hr).1,g,hg,rfl⟩
structure HdP (c:Cf) (d:xQ) (s:Int) (i:It) (now:Int) (h:Hd):Prop where
 inv:qC c h.d
 ag:h.d.rg.ag=d.rg.ag
 num:h.d.rg.num=d.rg.num
 no:h.e≠0->h.k= -1/\h.p=jI i.kind h.e/\(h.d=d∨∃a,Opn d i now a/\h.d=AH d i now a)
 yes:h.e=0->∃a,Opn d i now a/\RpF d i now a h
 rst:h.k= -1∨(i.kind=11/\0<=h.k/\h.k<(c.js.length:Int))
 dl:h.d.dr.length<=d.dr.length
 t0:T0 d->T0 h.d
 eb:0<=i.code/\i.code<=100->0<=h.e/\h.e<=100
 ax:∀k:Nat,(k:Int)≠s->h.d.au[k]? =d.au[k]?
 sc:PI d.rq h.d.rq
theorem PJ {r:Rg} {m:Ms} {now:Int} (h:opE r m now=0):opR r m now=⟨r.num,r.ag,r.tk,r.vh,if LK m.kind=true then DE r.bk else r.bk⟩/\ckB r.tk r.num m.tok m.kind now=true/\(LK m.kind=true->0<r.bk.level)/\opS r m now=m.tok.getD 1 default:=by
 have h1:ckB r.tk r.num m.tok m.kind now=true:=by
  cases hc:ckB r.tk r.num m.tok m.kind now with
  |true=>rfl
  |false=>rw[opE,hc,zX0 zYk]at h;omega
 refine⟨?_,h1,λhk=>?_,by rw[opS,zX1 h]⟩
 ·rw[opR,zX1 h]
  split<;>rfl
 ·rw[opE,zX1 h1]at h;by_cases hl:r.bk.level<=0
  ·rw[zX1 ⟨hk,hl⟩]at h;omega
  ·omega
theorem zQk {c:Cf} {d:xQ} (hI:qC c d) {i:It} {now:Int} {a:List Int} (h:Opn d i now a):qC c (AH d i now a):=by
 obtain⟨h1,_,h3,_⟩:=PJ h.2.2.2.2;unfold AH wC;rw[h1];have hl:=hI.bl;refine⟨⟨hI.b.tk,hI.b.s,hI.b.l,hI.b.v⟩,hI.v,hI.q,hI.lg,hI.a,hI.n,hI.t8,?_,?_,?_,hI.au,hI.dn,hI.dr,hI.vh⟩
 ·dsimp only;split
  ·unfold DE;split
   ·exact hI.br
   ·exact hI.br
  ·exact hI.br
 ·dsimp only;split
  ·unfold DE;split
   ·exact hI.bb
   ·exact hI.bb
  ·exact hI.bb
 ·dsimp only;split
  ·rename_i hk;have:=h3 hk;unfold DE;split
   ·exact hl
   ·dsimp only;omega
  ·exact hl
theorem PK {d:xQ} {i:It} {now:Int} {a:List Int} (h:Opn d i now a) (hk:i.kind=1∨9<=i.kind):AH d i now a=d:=by
 obtain⟨h1,_,_,_⟩:=PJ h.2.2.2.2;unfold AH wC;rw[h1,zX0 (λh=>by unfold LK at h;rw[zX9]at h;dsimp only at h;omega)]
theorem zHv {ki:Int} {d:xQ} {p:Ms} {k e:Int} (h:e≠0):hdM ki d p k e=⟨d,jI ki e,-1,e⟩:=zX0 h
theorem zB3 {ki:Int} {d:xQ} {p:Ms} {k:Int}:hdM ki d p k 0=⟨d,p,k,0⟩:=zX1 rfl
theorem EB {c:Cf} {d:xQ} {s now:Int} {i:It} (hI:qC c d) {e:Int} (he:e≠0) (p:Ms) (d':xQ) (hd:d'=d∨∃a,Opn d i now a/\d'=AH d i now a)
  (h1:zN 192 [wP c,zK d,iA s,vE i,iA now] [] (hT d' p (-1) e) []) (h2:AG c d s now i ⟨d',jI i.kind e,-1,e⟩) (heb:0<=i.code/\i.code<=100->0<=e/\e<=100:=by(intro _;omega)):∃h,UX c d s i now h/\HdP c d s i now h:=by
 have hi:qC c d'/\d'.rg.ag=d.rg.ag/\d'.rg.num=d.rg.num/\d'.dr=d.dr/\d'.rg.tk=d.rg.tk:=by
  rcases hd with rfl|⟨a,ho,rfl⟩
  ·exact⟨hI,rfl,rfl,rfl,rfl⟩
  ·refine⟨zQk hI ho,?_,?_,?_,?_⟩<;>(unfold AH wC;rw[(PJ ho.2.2.2.2).1])
 have h3:=zQg c d s now i hI.bd d' p (-1) e h1;rw[zHv he,hi.2.2.1]at h3;exact⟨⟨d',jI i.kind e,-1,e⟩,⟨h3,h2⟩,hi.1,hi.2.1,hi.2.2.1,λ_=>⟨rfl,rfl,hd⟩,λh=>absurd h he,.inl rfl,by rw[hi.2.2.2.1];exact zX6 _,T0.of hi.2.2.2.2 hi.2.1,heb,λ_ _=>by rw[show d'.au=d.au by rcases hd with h|⟨a,_,h⟩<;>rw[h];rfl],by dsimp only;rw[show d'.rq=d.rq by rcases hd with h|⟨a,_,h⟩<;>rw[h];rfl];exact PI.refl _⟩
theorem zSl {c:Cf} {d:xQ} {s now:Int} {i:It} (hI:qC c d) (a:List Int) (ho:Opn d i now a) (p:Ms) (k:Int) (d':xQ) (hi:qC c d') (ha:d'.rg.ag=d.rg.ag) (hn:d'.rg.num=d.rg.num)
  (hr:RpF d i now a ⟨d',p,k,0⟩) (hk:k= -1∨(i.kind=11/\0<=k/\k<(c.js.length:Int))) (hdl:d'.dr.length<=d.dr.length) (ht0:T0 d->T0 d')
  (h1:zN 192 [wP c,zK d,iA s,vE i,iA now] [] (hT d' p k 0) []) (h2:AG c d s now i ⟨d',p,k,0⟩) (hau:d'.au=d.au) (hsc:PI d.rq d'.rq):∃h,UX c d s i now h/\HdP c d s i now h:=by
 have h3:=zQg c d s now i hI.bd d' p k 0 h1;rw[zB3,hn]at h3;exact⟨⟨d',p,k,0⟩,⟨h3,h2⟩,hi,ha,hn,λh=>absurd rfl h,λ_=>⟨a,ho,hr⟩,hk,hdl,ht0,λ_=>by dsimp only;omega,λ_ _=>by dsimp only;rw[hau],hsc⟩
theorem zHw:∀{qs:List Qd} {q:Qd},q∈qs->q.j∈YR qs/\q.p∈YR qs/\q.f∈YR qs/\q.t∈YR qs
 |x::l,q,h=>by
  rw[show YR (x::l)=x.j::x.p::x.f::x.t::YR l from rfl]
  rcases zZi.1 h with rfl|h
  ·simp
  ·obtain⟨h1,h2,h3,h4⟩:=zHw h;simp[h1,h2,h3,h4]
theorem AI {α β γ:Type} {f:α->β->γ}:∀{a:List α} {b:List β} {g:γ},g∈a.zipWith f b->∃x∈a,∃y,g=f x y
 |x::a,y::b,g,h=>by
  rw[yBg]at h
  rcases zZi.1 h with rfl|h
  ·exact⟨x,by simp,y,rfl⟩
  ·obtain⟨z,hz,w,e⟩:=AI h;exact⟨z,by simp[hz],w,e⟩
 | [],_,_,h=>by simp at h
 |_::_,[],_,h=>by simp at h
theorem zHx (l:List Rq) (r:Rq):(aG l r).length=l.length+1:=by
 have:=IG l r.id;unfold aG;rw[zX3,zYd,zYo,zY4];omega
theorem zSm {j p f t now:Int} (h:mwB j p f t now=true):(mwF j p f t now).jn=j/\(mwF j p f t now).ph=p:=by
 unfold mwF;rw[zX1 h];exact⟨rfl,rfl⟩
theorem zVv {c:Cf} {now:Int} {qs:List Qd} (h:qs.all (MF c now)=true):∀g∈qs.map (IB now),g.jn<(c.js.length:Int)/\g.ph<((c.js.getD g.jn.toNat default).ph.length:Int):=by
 intro g hg;rw[zZj]at hg;obtain⟨q,hq,rfl⟩:=hg;have h1:=zYf.1 h q hq;unfold MF at h1;simp only[zYh,zX9]at h1;obtain⟨h2,h3,h4⟩:=h1;obtain⟨e1,e2⟩:=zSm h4;unfold IB;rw[e1,e2];exact⟨h2,h3⟩
theorem zXk {l:List Rq} {q id life:Int} {x:List Lg} (h:suE l q id life x=0):(l.length:Int)<q/\(l.length:Int)<4:=by
 unfold suE at h;split at h
 ·omega
 ·split at h
  ·omega
  ·split at h
   ·omega
   ·omega
theorem zXl {c:Cf} {d:xQ} {cls id v life now:Int} {qs:List Qd} (h:dsE c d cls id v life now qs=0):zI3 (cT d.rg.vh v)=true/\qs.all (MF c now)=true/\suE d.rq d.rg.ag.req id life (qs.map (IB now))=0:=by
 unfold dsE sxE at h;split at h
 ·split at h
  ·omega
  ·split at h
   ·rename_i ha;split at h
    ·split at h
     ·rename_i hv;exact⟨hv,ha,h⟩
     ·omega
    ·omega
   ·omega
 ·omega
theorem zXm {c:Cf} {d:xQ} (hI:qC c d) {cls id v life now:Int} {qs:List Qd} (n0:0<=now) (n1:now<=1073741824) (h:dsE c d cls id v life now qs=0):qC c (dkQ d (dsL c d cls id v life now qs)):=by
 obtain⟨hv,ha,hs⟩:=zXl h;unfold zI3 at hv;rw[zX9]at hv;have hl:=zXk hs;unfold dkQ dsL;rw[zX1 h];refine⟨hI.b,zTk hI.v hs hv.1.1 hv.1.2 hv.2.1 hv.2.2 n0 n1,?_,λr hr g hg=>?_,hI.a,hI.n,hI.t8,hI.br,hI.bb,hI.bl,hI.au,hI.dn,hI.dr,hI.vh⟩
 ·dsimp only;rw[zHx];omega
 ·rcases PY hr with rfl|hr
  ·exact zVv ha g hg
  ·exact hI.lg r hr g hg
theorem zXn {c:Cf} {d:xQ} (hI:qC c d) {id now:Int} {ws:List (Int×Int)} (h:bL d.rq id ws now=0):qC c (dkQ d (upQ d.rq id ws now)):=by
 unfold dkQ upQ;rw[zX1 h];have hl:(ML d.rq id ws now).length=d.rq.length:=by unfold ML;rw[zX2]
 refine⟨hI.b,zTm hI.v h,?_,λr hr g hg=>?_,hI.a,hI.n,hI.t8,hI.br,hI.bb,hI.bl,hI.au,hI.dn,hI.dr,hI.vh⟩
 ·dsimp only;rw[hl];exact hI.q
 ·dsimp only at hr;unfold ML at hr;rw[zZj]at hr;obtain⟨r0,hr0,rfl⟩:=hr;split at hg
  ·obtain⟨x,hx,y,rfl⟩:=AI hg;exact hI.lg r0 hr0 x hx
  ·exact hI.lg r0 hr0 g hg
theorem zVw {c:Cf} {d:xQ} (hI:qC c d) (p:Rq->Bool):qC c (dkQ d (d.rq.filter p)):=by
 have hl:=yAd p d.rq;have hq:=hI.q;refine⟨hI.b,hI.v.filter p,?_,λr hr g hg=>hI.lg r ((yA7.1 hr).1) g hg,hI.a,hI.n,hI.t8,hI.br,hI.bb,hI.bl,hI.au,hI.dn,hI.dr,hI.vh⟩
 show((d.rq.filter p).length:Int)<=d.rg.ag.req
 omega
theorem zVx {c:Cf} {d:xQ} {cls id v life now:Int} {qs:List Qd} (h:dsE c d cls id v life now qs=0):PI d.rq (dsL c d cls id v life now qs):=by
 unfold dsL;rw[zX1 h];intro r hr g hg
 rcases PY hr with rfl|hr
 ·refine .inl ?_;obtain⟨q,_,rfl⟩:=zZj.1 hg;unfold IB mwF;split
  ·show(-1:Int)<=0
   decide
  ·show(0:Int)<=0
   decide
 ·exact .inr ⟨r,hr,g,hg,rfl⟩
theorem zVy {d:xQ} {id now:Int} {ws:List (Int×Int)} (h:bL d.rq id ws now=0):PI d.rq (upQ d.rq id ws now):=by
 unfold upQ;rw[zX1 h];intro r hr g hg;unfold ML at hr;rw[zZj]at hr;obtain⟨r0,hr0,rfl⟩:=hr;split at hg
 ·obtain⟨x,hx,y,rfl⟩:=AI hg;exact .inr ⟨r0,hr0,x,hx,rfl⟩
 ·exact .inr ⟨r0,hr0,g,hg,rfl⟩
theorem zVz (d:xQ) (m:Ms) (r':Rg) (u:Bool):PI d.rq (dgD d m r' u 0).rq:=by
 unfold dgD;rw[zX1 rfl];dsimp only;split
 ·exact PI.filter _ _
 ·exact PI.refl _
theorem zXo {c:Cf} {d:xQ} (hI:qC c d) {m:Ms} {sec:List Int} {r':Rg} {p:Ms} {u:Bool} (hb:GM r') (hP:DoP d.rg m sec r' p u 0):qC c (dgD d m r' u 0)/\(dgD d m r' u 0).rg.ag=d.rg.ag/\(dgD d m r' u 0).rg.num=d.rg.num/\(dgD d m r' u 0).dr.length<=d.dr.length/\(T0 d->T0 (dgD d m r' u 0)):=by
 have hdr:(if u=true then d.dr.drop 1 else d.dr).length<=1000/\∀x∈(if u=true then d.dr.drop 1 else d.dr),x.length=8/\BY x:=by
  split
  ·exact⟨by have:=hI.dn;rw[zY4];omega,λx hx=>hI.dr x (zZe hx)⟩
  ·exact⟨hI.dn,hI.dr⟩
 have hrq:aM (if m.kind=5 then DI d.rq (m.args.getD 0 0)else d.rq)/\((if m.kind=5 then DI d.rq (m.args.getD 0 0)else d.rq).length:Int)<=d.rg.ag.req/\zVu c (if m.kind=5 then DI d.rq (m.args.getD 0 0)else d.rq):=by
  split
  ·have h:=zVw hI (λx=>x.vh != m.args.getD 0 0);exact⟨h.v,h.q,h.lg⟩
  ·exact⟨hI.v,hI.q,hI.lg⟩
 have hdd:(if u=true then d.dr.drop 1 else d.dr).length<=d.dr.length:=by
  split
  ·rw[zY4];omega
  ·exact zX6 _
 unfold dgD;rw[zX1 rfl]
 rcases hP.2 rfl with⟨o,ho,hT,rfl,_⟩|⟨o,ho,rfl,_⟩
 ·refine⟨⟨hb,hrq.1,hrq.2.1,hrq.2.2,hI.a,hI.n,ho,hI.br,hI.bb,hI.bl,hI.au,hdr.1,hdr.2,hI.vh⟩,rfl,rfl,hdd,λh=>?_⟩;unfold T0 at h⊢;exact(hT (by rw[h]) (by rw[h])).trans h
 ·exact⟨⟨hb,hrq.1,hrq.2.1,hrq.2.2,hI.a,hI.n,hI.t8,hI.br,hI.bb,hI.bl,hI.au,hdr.1,hdr.2,ho⟩,rfl,rfl,hdd,λh=>h⟩
theorem zSn {d:xQ} {i:It} {now:Int} {a:List Int} (ho:Opn d i now a):(AH d i now a).rg.ag=d.rg.ag/\(AH d i now a).rg.num=d.rg.num/\(AH d i now a).rg.tk=d.rg.tk/\(AH d i now a).rq=d.rq/\(AH d i now a).dr=d.dr/\(AH d i now a).au=d.au:=by
 unfold AH wC;rw[(PJ ho.2.2.2.2).1];exact⟨rfl,rfl,rfl,rfl,rfl,rfl⟩
theorem zM0 {l:List Tk} {g:Int} {b:List Int} {k now:Int} (h:ckB l g b k now=true):fT l (b.getD 1 default)=true:=by
 unfold ckB at h;simp only[zYh]at h;exact h.1.2
theorem zXp (r:Rg) (m:Ms) (now:Int):0<=opE r m now/\opE r m now<=100:=by
 unfold opE;split
 ·split<;>omega
 ·omega
theorem zV0 (c:Cf) (d:xQ) (cls id v life now:Int) (qs:List Qd):0<=dsE c d cls id v life now qs/\dsE c d cls id v life now qs<=100:=by
 unfold dsE sxE suE
 repeat' split
 all_goals omega
theorem zV1 (l:List Rq) (id:Int) (ws:List (Int×Int)) (now:Int):0<=bL l id ws now/\bL l id ws now<=100:=by
 unfold bL
 repeat' split
 all_goals omega
theorem zDt (c:Cf) (d:xQ) (hI:qC c d) (s now:Int) (n0:0<=now) (n1:now<=1073741824) (i:It) (hby:BY i.pay) (hlen:i.pay.length<=100000):∃h,UX c d s i now h/\HdP c d s i now h:=by
 by_cases hc:i.code=0
 case neg=>exact EB hI hc RY d (.inl rfl) (zNh c d s now i hc) (zMu c d s now hI.bd i hc) id
 by_cases hk:1<=i.kind/\i.kind<=12
 case neg=>exact EB hI yZ RY d (.inl rfl) (zNi c d s now i hc hk) (zMv c d s now hI.bd i hc hk)
 obtain⟨h0,h1⟩:=hk;have k2:=zJa i.kind h0 h1 i.pay hby hlen;have r2:=zEb i.kind h0 h1 i.pay hby hlen;have hii:i=⟨0,i.kind,i.pay⟩:=by cases i;simp_all
 cases hd:dcF (jK i.kind) (uP i.kind) i.pay with
 |none=>
  rw[hd]at k2 r2;have q1:=zNj c d s now i.kind i.pay h0 h1 k2;have q2:=zMw c d s now hI.bd i.kind i.pay h0 h1 r2;rw[<-hii]at q1 q2;exact EB hI yZ RY d (.inl rfl) q1 q2
 |some ar=>
 rw[hd]at k2 r2;obtain⟨_,hl10,hv,hg0,hg1⟩:=zMz hby hd;have hbt:BY (i.pay.take 10):=λx hx=>hby x (zZv hx)
 have hlv:d.rg.bk.level<=1000000:=by have:=hI.bl;have:=hI.a.b;omega
 have k3:=zTr d.rg ⟨i.kind,i.pay.take 10,ar,[]⟩ now hI.b hbt hlv;have r3:=zMy d.rg ⟨i.kind,i.pay.take 10,ar,[]⟩ now hI.b hbt hlv;by_cases ho:opE d.rg ⟨i.kind,i.pay.take 10,ar,[]⟩ now=0
 case neg=>
  have q1:=zNk c d s now i.kind i.pay (i.pay.take 10) ar h0 h1 k2 _ _ _ ho k3;have q2:=zMx c d s now hI.bd i.kind i.pay (i.pay.take 10) ar h0 h1 r2 _ _ _ ho r3;rw[<-hii]at q1 q2;exact EB hI ho RY d (.inl rfl) q1 q2 (λ_=>zXp _ _ _)
 have hO:Opn d i now ar:=⟨hc,h0,h1,hd,ho⟩;obtain⟨_,hck,_,hsl⟩:=PJ ho;rw[ho,hsl]at k3 r3;have hus:=zM0 hck;dsimp only at hsl hus;generalize (i.pay.take 10).getD 1 default=sl at *;have hI1:=zQk hI hO;obtain⟨ea,en,et,eq,er,eu⟩:=zSn hO
 have hs0:0<=sl/\sl<(d.rg.tk.length:Int):=by
  unfold fT at hus;rw[zYh,zX9]at hus;exact hus.1
 have hsd:AH d i now ar=wC d (opR d.rg ⟨i.kind,i.pay.take 10,ar,[]⟩ now):=rfl;generalize opR d.rg ⟨i.kind,i.pay.take 10,ar,[]⟩ now=r1 at *;have tl:(i.pay.take 10).length<=1000:=by rw[zYo];omega
 have NO:∀(e:Int),e≠0->0<=e/\e<=100->∀(p p2:Ms) (k2':Int),zN 192 [wP c,zK d,iA s,vE ⟨0,i.kind,i.pay⟩,iA now] [] (hT (wC d r1) p (-1) e) []->
   yR [wP c,zK (wC d r1),iA s,yE ⟨i.kind,i.pay.take 10,ar,[]⟩,iA sl,iA now] [] (hT (wC d r1) p2 k2' e) []->∃h,UX c d s i now h/\HdP c d s i now h:=by
  intro e he heb p p2 k2' q1 q2;have q3:=zQh c d s now hI.bd i.kind i.pay _ ar h0 h1 r2 r1 sl r3 (wC d r1) (hsd▸hI1.bd) p2 k2' e q2;rw[zHv he]at q3;rw[<-hii]at q1 q3;exact EB hI he p _ (.inr ⟨ar,hO,hsd.symm⟩) q1 q3 (λ_=>heb)
 have YES:∀(d':xQ) (p:Ms) (k:Int),qC c d'->d'.rg.ag=d.rg.ag->d'.rg.num=d.rg.num->RpF d i now ar ⟨d',p,k,0⟩->(k= -1∨(i.kind=11/\0<=k/\k<(c.js.length:Int)))->d'.dr.length<=d.dr.length->(T0 d->T0 d')->zN 192 [wP c,zK d,iA s,vE ⟨0,i.kind,i.pay⟩,iA now] [] (hT d' p k 0) []->
   yR [wP c,zK (wC d r1),iA s,yE ⟨i.kind,i.pay.take 10,ar,[]⟩,iA sl,iA now] [] (hT d' p k 0) []->d'.au=d.au->PI d.rq d'.rq->∃h,UX c d s i now h/\HdP c d s i now h:=by
  intro d' p k hi ha hn hr hk hdl ht0 q1 q2 hau hsc;have q3:=zQh c d s now hI.bd i.kind i.pay _ ar h0 h1 r2 r1 sl r3 d' hi.bd p k 0 q2;rw[zB3]at q3;rw[<-hii]at q1 q3;exact zSl hI ar hO p k d' hi ha hn hr hk hdl ht0 q1 q3 hau hsc
 rw[hsd]at hI1 ea en et eq er eu;have hgk:uP i.kind=0∨uP i.kind≠0:=by omega
 have hcs:i.kind=1∨(i.kind=2∨i.kind=3∨i.kind=4∨i.kind=5)∨i.kind=6∨i.kind=7∨i.kind=8∨i.kind=9∨i.kind=10∨i.kind=11∨i.kind=12:=by omega
 rcases hcs with hk|hk|hk|hk|hk|hk|hk|hk|hk
 ·
  have hal:ar=[]:=zY1 (by rw[hg0 LV,hk];rfl);subst hal;have hsame:=PK hO (.inl hk);rw[hsd]at hsame;rw[hsame]at hI1;have q1:=JN c d s now i.kind i.pay _ [] h0 h1 k2 r1 sl k3 (.inl hk) (PS d now) (by rw[hsame,hk];exact ET d now);have q2:=zH7 c d s now (i.pay.take 10) sl;rw[hsame]at q1;refine YES d _ _ hI1 rfl rfl (.inl ⟨hk,rfl,rfl⟩) (.inl rfl) (zX6 _) id q1 ?_ rfl (PI.refl _);rw[hsame,hk];exact q2
 ·
  obtain⟨a,ar1,har⟩:∃a ar1,ar=a::ar1:=by
   cases ar with
   |nil=>exfalso;have:=hg0 zQx;rcases hk with hk|hk|hk|hk<;>rw[hk]at this<;>cases this
   |cons a ar1=>exact⟨a,ar1,rfl⟩
  have hal:ar.length<=1000:=by have:=hg0 zQx;have:=zAe i.kind;omega
  have hm:MsB ⟨i.kind,i.pay.take 10,ar,[]⟩:=⟨tl,hal,zYe _⟩
  have hsec:(MB (wC d r1)).length<=1000:=by
   unfold MB wC;dsimp only
   cases hdr:d.dr with
   |nil=>simp
   |cons b bs=>have:=(hI.dr b (by rw[hdr];simp)).1;simp;omega
  have hsb:BY (MB (wC d r1)):=by
   unfold MB wC;dsimp only
   cases hdr:d.dr with
   |nil=>exact λx hx=>by cases hx
   |cons b bs=>exact(hI.dr b (by rw[hdr];simp)).2
  have hvh:r1.vh.length<=1000:=by have:=hI1.vh;exact zY8 this zB
  obtain⟨r',p,u,e,hr',hp',hP,f1,f2⟩:=zNf r1 hvh ⟨i.kind,i.pay.take 10,ar,[]⟩ hm sl now (MB (wC d r1)) hsec
  have h5:i.kind=5->∃a,ar=[a]:=λh=>by
   have h9:=hg0 (by rw[h];rfl);rw[h]at h9;exact len1 h9
  have q1:=zSy (wC d r1) ⟨i.kind,i.pay.take 10,ar,[]⟩ sl now hI1.v hI1.dn r' p u e f1 h5
  have hu:u=true->(wC d r1).dr≠[]:=λhu h9=>by
   have he:e=0:=by
    by_cases he:e=0
    ·exact he
    ·rw[(hP.1 he).1]at hu;cases hu
   have h10:MB (wC d r1)=[]:=by unfold MB;rw[h9];rfl
   rcases hP.2 he with⟨o,_,_,_,h11|h11⟩|⟨o,_,_,h11,_⟩
   ·rw[h11.1]at hu;cases hu
   ·rw[h10]at h11;exact absurd h11.2.1 yZ
   ·rw[h11]at hu;cases hu
  have q2:=zNg (wC d r1) ⟨i.kind,i.pay.take 10,ar,[]⟩ sl now hI1.v hI1.dn r' p u e f2 h5 hu;have w1:=zSz c d s now i.kind i.pay _ ar h0 h1 k2 r1 sl k3 hk _ _ e q1;have w2:=zSw c (wC d r1) s now (i.pay.take 10) sl i.kind ar a ar1 har hk _ p e q2;by_cases he:e=0
  ·subst he;rw[zX1 rfl]at w1;obtain⟨hi,ha,hn,hd1,hd2⟩:=zXo (m:=⟨i.kind,i.pay.take 10,ar,[]⟩) hI1 hr' hP;have hvx:0<=a/\a<=4294967295:=hv a (by rw[har];simp);refine YES _ p (-1) hi (ha.trans ea) (hn.trans en) ?_ (.inl rfl) hd1 (λh=>hd2 (T0.of et ea h)) w1 w2 (by unfold dgD;rw[zX1 rfl];rfl) (zVz (wC d r1) _ r' u)
   rcases hP.2 rfl with⟨o,_,_,_,h11|h11⟩|⟨o,_,_,_,h11,h12⟩
   ·obtain⟨_,h12,h13⟩:=h11;dsimp only at h13 h12;exact .inr (.inr (.inr (.inr ⟨zB,a,hvx.1,hvx.2,by rw[h12,har,h13];rfl⟩)))
   ·obtain⟨_,h12,h13,k,h14,h15⟩:=h11;have en':r1.num=d.rg.num:=en;exact .inr (.inr (.inr (.inl ⟨h13,k,_,h14,⟨h12,hsb⟩,by rw[h15,en']⟩)))
   ·dsimp only at h11 h12;exact .inr (.inr (.inr (.inr ⟨zB,a,hvx.1,hvx.2,by rw[h12,har];rfl⟩)))
  ·have e1:dgD (wC d r1) ⟨i.kind,i.pay.take 10,ar,[]⟩ r' u e=wC d r1:=by unfold dgD;rw[zX0 he]
   rw[e1]at w1 w2;exact NO e he (hP.1 he).2 _ _ _ w1 w2
 ·
  obtain⟨cc,c1,c3,hl⟩:=hg1 (by rw[hk];decide);rw[hk,show jK 6=3 from rfl,show uP 6=4 from rfl]at hl
  obtain⟨id,v,life,ar1,har⟩:∃id v life ar1,ar=id::v::life::ar1:=by
   match ar,hl with
   |id::v::life::ar1,_=>exact⟨id,v,life,ar1,rfl⟩
   | [],h=>simp at h;omega
   | [_],h=>simp at h;omega
   | [_,_],h=>simp at h;omega
  subst har;obtain⟨qs,hqs,hqn⟩:=zQi cc ar1 (by simp only[zYd]at hl;omega);subst hqs
  have hp:∀q∈qs,0<=q.j/\0<=q.p:=λq hq=>by
   obtain⟨m1,m2,_⟩:=zHw hq;exact⟨(hv q.j (by simp[m1])).1,(hv q.p (by simp[m2])).1⟩
  have hvx:=hv id zS;have s1:sl<((wC d r1).rg.tk.length:Int):=by rw[et];exact hs0.2
  have q1:=zTh c (wC d r1) (i.pay.take 10) id v life sl now qs hI1.bd hI1.v hs0.1 s1 zB hp n0 n1;have q2:=zAa c (wC d r1) 6 (i.pay.take 10) id v life ((wC d r1).rg.tk.getD sl.toNat default).cls now qs hI1.bd hI1.v zB hp n0 n1;by_cases he:dsE c (wC d r1) ((wC d r1).rg.tk.getD sl.toNat default).cls id v life now qs=0
  ·have hi:=zXm hI1 n0 n1 he;rw[he]at q1;rw[zX1 he,he]at q2;have w1:=JM c d s now i.kind i.pay _ _ h0 h1 k2 r1 sl k3 (.inl hk) id _ rfl _ LW;have w2:=zH8 c (wC d r1) s now (i.pay.take 10) sl _ id _ rfl hs0.1 s1 _ 0 q2;refine YES _ (gD i.kind id) (-1) hi ea en (.inr (.inr (.inr (.inr ⟨zB,id,hvx.1,hvx.2,rfl⟩)))) (.inl rfl) (zX6 _) (T0.of et ea) w1 ?_ rfl (zVx (d:=wC d r1) he);rw[hk];exact w2
  ·rw[zX0 he]at q2;have w1:=JL c d s now i.kind i.pay _ _ h0 h1 k2 r1 sl k3 (.inl hk) _ _ he LW;have w2:=zH8 c (wC d r1) s now (i.pay.take 10) sl _ id _ rfl hs0.1 s1 _ _ q2;exact NO _ he (by first|exact zV0 _ _ _ _ _ _ _ _|exact zV1 _ _ _ _) _ _ _ w1 (by rw[hk];exact w2)
 ·
  obtain⟨cc,c1,c3,hl⟩:=hg1 (by rw[hk];decide);rw[hk,show jK 7=1 from rfl,show uP 7=2 from rfl]at hl
  obtain⟨id,ar1,har⟩:∃id ar1,ar=id::ar1:=by
   match ar,hl with
   |id::ar1,_=>exact⟨id,ar1,rfl⟩
   | [],h=>simp at h;omega
  subst har;obtain⟨ws,hqs,hqn⟩:=zQj cc ar1 (by simp only[zYd]at hl;omega);subst hqs;have hvx:=hv id zS;have q1:=zTf c (wC d r1) (i.pay.take 10) id sl now ws hI1.v zB n0 n1;have q2:=zTg (wC d r1) (i.pay.take 10) id now ws hI1.v zB n0 n1;by_cases he:bL (wC d r1).rq id ws now=0
  ·have hi:=zXn hI1 he;rw[he]at q1;rw[zX1 he,he]at q2;have w1:=JM c d s now i.kind i.pay _ _ h0 h1 k2 r1 sl k3 (.inr (.inl hk)) id _ rfl _ LW;have w2:=zH9 c (wC d r1) s now (i.pay.take 10) sl _ id _ rfl _ 0 q2;refine YES _ (gD i.kind id) (-1) hi ea en (.inr (.inr (.inr (.inr ⟨zB,id,hvx.1,hvx.2,rfl⟩)))) (.inl rfl) (zX6 _) (T0.of et ea) w1 ?_ rfl (zVy (d:=wC d r1) he);rw[hk];exact w2
  ·rw[zX0 he]at q2;have w1:=JL c d s now i.kind i.pay _ _ h0 h1 k2 r1 sl k3 (.inr (.inl hk)) _ _ he LW;have w2:=zH9 c (wC d r1) s now (i.pay.take 10) sl _ id _ rfl _ _ q2;exact NO _ he (by first|exact zV0 _ _ _ _ _ _ _ _|exact zV1 _ _ _ _) _ _ _ w1 (by rw[hk];exact w2)
 ·
  obtain⟨id,har⟩:=len1 (show ar.length=1 by rw[hg0 LV,hk];rfl);subst har;have hvx:=hv id zS;have q1:=zTi c (wC d r1) (i.pay.take 10) id sl now hI1.v;have q2:=zSx c (wC d r1) s now (i.pay.take 10) sl id _ _ (zEi (wC d r1).rq id hI1.v);by_cases he:gE (wC d r1).rq id=true
  ·have hi:=zVw hI1 (λx=>x.id != id);rw[zX1 he,zX1 he]at q1;rw[zX1 he,zX1 he,zX1 rfl]at q2;have w1:=JM c d s now i.kind i.pay _ _ h0 h1 k2 r1 sl k3 (.inr (.inr hk)) id [] rfl _ LW;refine YES _ (gD i.kind id) (-1) hi ea en (.inr (.inr (.inr (.inr ⟨zB,id,hvx.1,hvx.2,rfl⟩)))) (.inl rfl) (zX6 _) (T0.of et ea) w1 ?_ rfl (PI.filter _ _);rw[hk];exact q2
  ·rw[zX0 he,zX0 he]at q1;rw[zX0 he,zX0 he,zX0 yZ]at q2;have w1:=JL c d s now i.kind i.pay _ _ h0 h1 k2 r1 sl k3 (.inr (.inr hk)) _ 12 yZ LW;exact NO 12 yZ yZ _ _ _ w1 (by rw[hk];exact q2)
 ·
  have hal:ar=[]:=zY1 (by rw[hg0 LV,hk];rfl);subst hal;have hsame:=PK hO (.inr zB);rw[hsd]at hsame;rw[hsame]at hI1;have q1:=JN c d s now i.kind i.pay _ [] h0 h1 k2 r1 sl k3 (.inr (.inl hk)) (PU d) (by rw[hsame,hk];exact AZ d now hI.bd);have q2:=zNc c d s now (i.pay.take 10) sl hI.bd;rw[hsame]at q1;refine YES d _ _ hI1 rfl rfl (.inr (.inl ⟨hk,rfl,rfl⟩)) (.inl rfl) (zX6 _) id q1 ?_ rfl (PI.refl _);rw[hsame,hk];exact q2
 ·
  obtain⟨a,har⟩:=len1 (show ar.length=1 by rw[hg0 LV,hk];rfl);subst har;have hvx:=hv a zS;by_cases ha:1<a
  ·have w1:=zNn c d s now i.kind i.pay _ [a] h0 h1 k2 r1 sl k3 hk a rfl ha;have w2:=zNa c (wC d r1) s now (i.pay.take 10) sl a ha;exact NO 8 yZ yZ _ _ _ w1 (by rw[hk];exact w2)
  by_cases hs:0<=s/\s<(d.au.length:Int)
  case neg=>
   have w1:=zNo c d s now i.kind i.pay _ [a] h0 h1 k2 r1 sl k3 hk a rfl zB hs;have w2:=zNb c (wC d r1) s now (i.pay.take 10) sl a zB (by rw[eu];exact hs);refine YES _ (gD 10 a) (-1) hI1 ea en (.inr (.inr (.inr (.inr ⟨zB,a,hvx.1,hvx.2,by rw[hk]⟩)))) (.inl rfl) (zX6 _) (T0.of et ea) w1 ?_ rfl (PI.refl _);rw[hk];exact w2
  rw[hk]at k2 r2 k3 r3;have hI2:qC c ⟨r1,d.rq,d.dr,d.au.set s.toNat (a==1)⟩:=⟨hI1.b,hI1.v,hI1.q,hI1.lg,hI1.a,hI1.n,hI1.t8,hI1.br,hI1.bb,hI1.bl,by have:=hI1.au;dsimp only;rw[zZm];exact this,hI1.dn,hI1.dr,hI1.vh⟩;have w1:=zNd c d s now i.pay (i.pay.take 10) a hvx.1 zB k2 r1 sl k3 hs;have w2:=zNe c (wC d r1) s now (i.pay.take 10) sl a hvx.1 zB (by rw[eu];exact hs);have q1:=zSj c d s now ⟨0,10,i.pay⟩ hI.bd zB _ _ _ w1;have q2:=zSk c d s now hI.bd 10 i.pay _ [a] yZ yZ r2 r1 sl r3 _ hI2.bd _ _ w2;have en':r1.num=d.rg.num:=en;rw[show(⟨r1,d.rq,d.dr,d.au.set s.toNat (a==1)⟩:xQ).rg.num=d.rg.num from en']at q1;rw[<-hk,<-hii]at q1 q2;exact⟨⟨⟨r1,d.rq,d.dr,d.au.set s.toNat (a==1)⟩,gD i.kind a,-1,0⟩,⟨q1,q2⟩,hI2,ea,en,λh=>absurd rfl h,λ_=>⟨[a],hO,.inr (.inr (.inr (.inr ⟨zB,a,hvx.1,hvx.2,rfl⟩)))⟩,.inl rfl,zX6 _,T0.of et ea,λ_=>by dsimp only;omega,λk hk'=>by show(d.au.set s.toNat (a==1))[k]? =_;rw[yCg zB],PI.refl _⟩
 ·
  obtain⟨a,har⟩:=len1 (show ar.length=1 by rw[hg0 LV,hk];rfl);subst har;have hvx:=hv a zS;by_cases ha:a<(c.js.length:Int)
  ·have w1:=zNm c d s now i.kind i.pay _ [a] h0 h1 k2 r1 sl k3 hk a rfl ha;have w2:=zM9 c (wC d r1) s now (i.pay.take 10) sl a ha;refine YES _ (gD 11 a) a hI1 ea en (.inr (.inr (.inr (.inr ⟨zB,a,hvx.1,hvx.2,by rw[hk]⟩)))) (.inr ⟨hk,hvx.1,ha⟩) (zX6 _) (T0.of et ea) w1 ?_ rfl (PI.refl _);rw[hk];exact w2
  ·have w1:=zNl c d s now i.kind i.pay _ [a] h0 h1 k2 r1 sl k3 hk a rfl zB;have w2:=zM8 c (wC d r1) s now (i.pay.take 10) sl a zB;exact NO 8 yZ yZ _ _ _ w1 (by rw[hk];exact w2)
 ·
  have hal:ar=[]:=zY1 (by rw[hg0 LV,hk];rfl);subst hal;have hsame:=PK hO (.inr zB);rw[hsd]at hsame;rw[hsame]at hI1;have hrq:=hI.a.q;have q1:=JN c d s now i.kind i.pay _ [] h0 h1 k2 r1 sl k3 (.inr (.inr hk)) (aA d) (by rw[hsame,hk];exact AX d 12 now yZ yZ hI.bd zB zB);have q2:=zM7 c d s now (i.pay.take 10) sl (zN9 d hI.bd zB zB);rw[hsame]at q1;refine YES d _ _ hI1 rfl rfl (.inr (.inr (.inl ⟨hk,rfl,rfl⟩))) (.inl rfl) (zX6 _) id q1 ?_ rfl (PI.refl _);rw[hsame,hk];exact q2
theorem zB4 (d:Dk):∀i,∀j∈(NT d i).1,∃e,j=jnF e
 |0=>λj hj=>by simp[NT]at hj
 |i+1=>λj hj=>by
  simp only[NT,zYl,zYz]at hj
  rcases hj with hj|hj
  ·exact zB4 d i j hj
  ·exact⟨_,hj⟩
theorem zHy (d:Dk) (r:Int):(XU d r).js=(NT (ad (ad4 d)) (cfN d)).1:=by rw[XU,cfJ]
theorem zB5 (d:Dk) (r:Int):(XU d r).ags=(UN (ad (cfJ d).2) r (cfM d)).1:=by rw[XU,cfG]
theorem zV2 (d:Dk) (rights:Int):1<=(XU d rights).js.length/\(XU d rights).js.length<=2/\1<=(XU d rights).ags.length/\(XU d rights).ags.length<=3:=by
 have h1:=yF (ad4 d) 2 zB;have h2:=yF (cfJ d).2 3 zB;rw[zHy,zB5,RV,dX];unfold cfN cfM;omega
theorem zV3 (d:Dk) (n r:Int) (hr:0<=r/\r<=63):AgV (agF d n r):=by
 have w1:=yF d (3-1+1) zB;have w2:=yF (ad d) (3-1+1) zB;have w3:=yF (ad (ad d)) 3 zB;have w4:=yF (ad (ad (ad d))) 3 zB;have w5:=yF (ad (ad (ad (ad d)))) (3-1+1) zB;have w6:=yF (ad (ad (ad (ad (ad d))))) (2-1+1) zB;have w7:=yF (ad (ad (ad (ad (ad (ad d)))))) (3-1+1) zB;have w8:=yF (ad7 d) 5 zB;unfold agF;refine⟨by dsimp only;rw[jB];rfl,rfl,λx hx=>?_,hr,by dsimp only;omega,by dsimp only;omega,by dsimp only;omega,by dsimp only;omega,by dsimp only;omega⟩;simp only[zZi,yBn,yCy]at hx
 rcases hx with rfl|rfl|rfl|rfl<;>omega
structure AgD (a:Ag) (n:Int):Prop where
 v:AgV a
 s:a.sec=dS (1000+n)
 q:1<=a.req/\a.req<=3
 b:1<=a.rate/\a.burst<=7
theorem zV4 (d:Dk) (n r:Int) (hr:0<=r/\r<=63):AgD (agF d n r) n:=by
 have w5:=yF (ad (ad (ad (ad d)))) (3-1+1) zB;have w7:=yF (ad (ad (ad (ad (ad (ad d)))))) (3-1+1) zB;have w8:=yF (ad7 d) 5 zB;exact⟨zV3 d n r hr,rfl,by unfold agF;dsimp only;omega,by unfold agF;dsimp only;omega⟩
theorem zHz (d:Dk) (r:Int) (hr:0<=r/\r<=63):∀i k,k<i->AgD ((UN d r i).1.getD k default) k/\((UN d r i).1.getD k default).rights=r
 |0,k,h=>by omega
 | i+1,k,h=>by
  rw[zH4,zX5];by_cases hk:k<i
  ·rw[zYw (by rw[dX];exact hk),<-zX5];exact zHz d r hr i k hk
  ·obtain rfl:k=i:=by omega
   rw[zYs (by rw[dX];omega),dX,yAe];exact⟨zV4 _ _ _ hr,rfl⟩
theorem zSo (d:Dk) (r:Int) (hr:0<=r/\r<=63) (k:Int) (h0:0<=k) (h1:k<((XU d r).ags.length:Int)):AgD ((XU d r).ags.getD k.toNat default) k/\((XU d r).ags.getD k.toNat default).rights=r:=by
 rw[zB5]at h1⊢;rw[dX]at h1;have:=zHz (ad (cfJ d).2) r hr (cfM d) k.toNat zB;rw[show((k.toNat:Nat):Int)=k by omega]at this;exact this
theorem zSp {c:Cf} {a:Ag} (hv:AgV a) (n:Int) (hn:0<=n/\n<4):qC c (PV n a a.ses.toNat):=by
 have he:=hv.e;have hq:=hv.q;have hb:=hv.b;have ht:=hv.t;have hs:=zWi n a hv;have e1:(EW n a).ag=a:=rfl;have e2:(EW n a).num=n:=rfl;have e3:(EW n a).tk.length=8:=by simp[EW,tkN]
 have e4:(EW n a).vh=[]:=rfl;have e5:(EW n a).bk=⟨a.burst,a.rate,a.burst⟩:=rfl;unfold PV;generalize hN:a.ses.toNat=N;generalize EW n a=r at *;constructor
 ·exact hs
 ·exact⟨λr hr=>by simp at hr,List.Pairwise.nil,zYe _⟩
 ·dsimp only;rw[e1];simp only[zZa];omega
 ·intro r hr;simp at hr
 ·dsimp only;rw[e1];exact hv
 ·dsimp only;rw[e2];exact hn
 ·exact e3
 ·dsimp only;rw[e1,e5]
 ·dsimp only;rw[e1,e5]
 ·dsimp only;rw[e1,e5];exact⟨hb.1,zZ8 _⟩
 ·dsimp only;rw[e1,zZd];omega
 ·simp
 ·intro x hx;simp at hx
 ·dsimp only;rw[e4];simp
theorem zV5 (n:Int) (a:Ag) (hv:AgV a):zN 90 [iA n,vC a] [] (zK (PV n a a.ses.toNat)) []/\yR [iA n,vC a] [] (zK (PV n a a.ses.toNat)) []:=by
 have he:=hv.e;have h1:=hv.s;have h2:=hv.l;exact⟨zTe n a a.ses.toNat zB zB zB zB,zOc n a a.ses.toNat zB zB zB zB⟩
theorem zV6 {l:List Tk} (h:GL l) (now:Int):GL (MG l now):=by
 refine⟨by unfold MG;rw[zX2,zZk];exact h.n,λt ht=>?_⟩;unfold MG at ht;rw[zZj]at ht;obtain⟨j,hj,rfl⟩:=ht;rw[zYr]at hj;unfold zEe;split
 ·exact zYe _
 ·rw[zX5,zYi hj,zZ3];exact h.s _ (yAn _)
def MA (d:xQ) (now:Int):xQ:=⟨rtF d.rg now,zJw d.rq now,d.dr,d.au⟩
theorem zV7 {c:Cf} {d:xQ} (h:qC c d) (now:Int):qC c (MA d now)/\(MA d now).rg.ag=d.rg.ag/\(MA d now).rg.num=d.rg.num:=by
 refine⟨?_,rfl,rfl⟩;have hl:=h.bl;have hr:=h.br;have hbb:=h.bb;have ht:=h.a.t;have hql:=yAd (λx:Rq=>decide (now<=x.til)) d.rq;have hq:=h.q;refine⟨⟨zV6 h.b.tk now,h.b.s,h.b.l,h.b.v⟩,h.v.filter _,?_,λr hr g hg=>h.lg r (yA7.1 hr).1 g hg,h.a,h.n,?_,h.br,h.bb,?_,h.au,h.dn,h.dr,h.vh⟩
 ·show((d.rq.filter _).length:Int)<=d.rg.ag.req
  omega
 ·show(MG d.rg.tk now).length=8
  unfold MG;rw[zX2,zZk,h.t8]
 ·show 0<=min (d.rg.bk.level+d.rg.bk.rate) d.rg.bk.burst/\min (d.rg.bk.level+d.rg.bk.rate) d.rg.bk.burst<=d.rg.ag.burst
  omega
theorem zH0 {c:Cf} {d:xQ} (h:qC c d) (now:Int):zN 109 [zK d,iA now] [] (zK (MA d now)) []:=by
 have k1:=cS d h.bd;have hl:=h.bl;have hr:=h.br;have hbb:=h.bb;have ht:=h.a.t;have hb:=h.a.b;have k2:=zOk d.rg now h.b zB;have k3:=zJy d.rq now h.v;unfold MA;generalize rtF d.rg now=r at *;generalize zJw d.rq now=q at *;unfold zK wI at *;unfold uX at k2;refine eM call109 λF hF=>?_
 refine LO (fB k1 k2 k3) ?_;exact zJ
theorem zM1 (l:List Rq) (hn:l.length<=1000) (hb:∀r∈l,r.legs.length<=1000):zN 122 [zD yK l,zD yK l] [] (bA true) []:=by
 have hl:=zA yK l;refine eM call122 λF hF=>?_
 refine WW ?_;refine zY (l) [] [] [1,15,16] [17,1,15,16] rfl (λi pre T U=>⟨(17,iA i)::T,U⟩) ?_;(conv=>whnf);refine⟨by rfl,?_,?_⟩
 ·intro i pre x post hx hi;have hy:=yI yK hx hi;have hlt:=yB hx hi;have hlx:=hb x (xX hx);have hl2:=zA xU x.legs;unfold yK zD at hy;refine WW ?_;refine zY (x.legs) [7] [7] [1,7,15,16,17,62,63] [64,1,7,15,16,17,62,63] rfl (λi pre T U=>⟨(64,iA i)::T,U⟩) ?_;(conv=>whnf);refine⟨by rfl,?_,?_⟩
  ·intro k pre2 g post2 hx2 hi2;have hy2:=yI xU hx2 hi2;have hlt2:=yB hx2 hi2;unfold xU at hy2;clear hx hx2
   (repeat' (first|refine qB ?_|refine xO (λhc=>?_) (λhc=>?_)|refine wB (λhc=>?_)|(refine zE ?_;first|refine SF ?_)|fail))
   all_goals (first|rfl|(exfalso;first|(simp[xL]at hc;done)|(revert hc;simp[xL];done)))
  ·clear hx;refine WW ?_
   all_goals (first|rfl|(exfalso;first|(simp[xL]at hc;done)|(revert hc;simp[xL];done)))
 ·(refine WW ?_)
  exact zJ
theorem zM2 (d:xQ) (h:eE d):zN 69 [zK d,zK d] [] (bA true) []:=by
 have k1:=zOo d.rg h.rg;have k2:=zM1 d.rq h.q h.g;have hl:=zA kH d.dr;have hl2:=zA bA d.au;have hdn:=h.n;have hau:=h.a;unfold zK wI at *;unfold uX at k1;refine eM call69 λF hF=>?_
 refine yQ (wZ k1 k2) ?_;refine zY (d.dr) [2,3] [2,3] [2,3,42,43] [44,2,3,42,43] rfl (λi pre T U=>⟨(44,iA i)::T,U⟩) ?_;(conv=>whnf);refine⟨by rfl,?_,?_⟩
 ·intro i pre x post hx hi;have hy:=yI kH hx hi;have hlt:=yB hx hi;have hxl:=h.e x (xX hx);have hl3:=zA yA x;unfold kH zD at hy;clear hx;refine WW (I2 (λhc=>?_) (λhc=>?_))
  all_goals (first|rfl|(exfalso;first|(simp[xL]at hc;done)|(revert hc;simp[xL];done)))
 ·(refine WW ?_)
  refine zY (d.au) [3] [3] [3,60,61] [62,3,60,61] rfl (λi pre T U=>⟨(62,iA i)::T,U⟩) ?_;(conv=>whnf);refine⟨by rfl,?_,?_⟩
  ·intro i pre x post hx hi;have hy:=yI bA hx hi;have hlt:=yB hx hi;unfold bA at hy;clear hx;refine WW (I2 (λhc=>?_) (λhc=>?_))
   all_goals (first|rfl|(exfalso;first|(simp[xL]at hc;done)|(revert hc;simp[xL];done)))
  ·(refine WW ?_)
   exact zJ
section
variable {P:Program} {K0:List Nat} {F:Fr K0} {m:Nat}
theorem YS.consume {st:St} {a:Act} {w:World} {X:Nat->Prop} {β:uE} (hX:XOK F X) (H:kQ X (zC st.h) β w) (Ht:∀t,zV w (xH X β) (zC st.h) β (zG st.tm t) (a.eval (.tmp t))) (KK:gF F (zC st.h) β w) (hJ:∀i,zG st.tm GS= .gh i->F.J i (Own β) X w) (hD:DOK X F a.defers w)
  (nd:∀k,zC st.h k≠some .dead) (gs:m<=GS) (hl:a.tmps.size=m) (k:Nat) (K ts:List Nat) (hK:K0.all (K.contains ·)=true) (hkK:K.contains k=false) {w':World} {β':uE} (G:xM X w (zC st.h) β w' (over [(k,.dead)] (zC st.h)) β') {v:AV} {c:Value} (hc:xG w' (xH X β') v c)
  (hg:∀i,v≠ .gh i) (t:Nat) (ht:t<m) {st':St} (he:restr K ts ⟨st.tm,(k,.dead)::st.h⟩=st'):wK F m ⟨(t,v)::st'.tm,st'.h⟩ (a.put (some t) c) w':=by
 subst he;have eh:zC ((k,xN.dead)::st.h)=over [(k,.dead)] (zC st.h):=wY [(k,xN.dead)] st.h;rw[<-eh]at G;obtain⟨H',hvv⟩:=G.hok.restr K
 have hkk:∀j,j∈K->j≠k:=λj hj e=>by
  subst e;have:K.contains j=true:=by simpa using hj
  rw[this]at hkK;cases hkK
 have hov:∀j,j≠k->zC ((k,xN.dead)::st.h) j=zC st.h j:=λj hj=>by rw[eh];exact bX _ _ hj
 have hnd:∀j,j∈K->zC ((k,xN.dead)::st.h) j≠some .dead:=λj hj=>by rw[hov j (hkk j hj)];exact nd j
 have hK0:∀j,j∈K0->j∈K:=λj hj=>by
  have:=zYf.1 hK j hj;simpa using this
 have hsub:∀b,xH X (λj=>if j∈K then β' j else []) b->xH X β' b:=λb hd=>by
  rcases hd with hx|⟨j,n,hm⟩
  ·exact .inl hx
  ·(try dsimp only at hm)
   split at hm
   ·exact .inr ⟨j,n,hm⟩
   ·simp at hm
 have hgs:GS≠t:=by omega
 refine⟨⟨X,_,hX,H',λj=>?_,⟨λj e hje=>?_,zY8 KK.size G.size,λb hb hi hn=>?_,λj b n hm=>?_,λj b n hm=>?_,λj b n hm=>?_,G.os.trans KK.os,G.tape.trans KK.tape,G.output.trans KK.output⟩,λi hi=>?_,hD.goes H G⟩,λj=>?_,gs,by simp[Act.put,hl]⟩
 ·show zV _ _ _ _ (zG ((t,v)::(restr K ts ⟨st.tm,(k,.dead)::st.h⟩).tm) j) _
  rw[yP];split
  ·rename_i hj;subst hj;have e:(a.put (some j) c).eval (.tmp j)=c:=by simp[Act.put,Act.eval,hl,ht]
   rw[e];exact .fz _ _ (hc.evo (zX6 _) λb _ hd=>⟨rfl,λh=>hd (hsub b h)⟩)
  ·rename_i hj;rw[Act.eval_put (λd hd e=>hj (by injection hd with hd;injection e with e;rw[hd,e])),jL];split
   ·exact hvv _ _ ((Ht j).evo G.evo)
   ·exact .fz _ _ (.bot _)
 ·have hj:=hK0 j (F.hh j e hje);have h1:=KK.knd j e hje;have hr:∀e',zC ((k,xN.dead)::st.h) j=some e'->zC (wX K (zC ((k,xN.dead)::st.h))) j=some (qU K (zC ((k,xN.dead)::st.h)) e'):=λe' h2=>by rw[xW,zX1 hj,h2];rfl
  cases e with
  |dead=>exact h1
  |box cs=>obtain⟨cs',h2⟩:=h1;exact⟨_,hr _ ((hov j (hkk j hj)).trans h2)⟩
  |arr sz xs sl=>obtain⟨xs',sl',h2,h3⟩:=h1;obtain⟨xs2,fl2,h4,h5⟩:=jY K (zC ((k,xN.dead)::st.h)) sz xs' sl';exact⟨xs2,fl2,(hr _ ((hov j (hkk j hj)).trans h2)).trans (by rw[h4]),by rw[h5];exact h3⟩
 ·rw[G.keep b (zY7 hb KK.size),KK.keep b hb hi hn];intro j n hm
  rcases KK.own j b n hm with⟨k',n',h1⟩|h1
  ·exact hn _ _ h1
  ·omega
 ·(try dsimp only at hm)
  split at hm
  ·rcases G.own j b n hm with⟨k',n',h1⟩|h1
   ·exact KK.own k' b n' h1
   ·exact .inr (zY8 KK.size h1)
  ·simp at hm
 ·have hj:=hK0 j (F.hK j b n hm);obtain⟨n',h1,h2⟩:=KK.pas j b n hm
  (try dsimp only)
  rw[zX1 hj]
  cases hje:zC st.h j with
  |none=>rw[H.off j hje]at h2;simp at h2
  | some e=>
   have h3:=(G.key j e hje).resolve_left (hnd j hj)
   cases e with
   |dead=>exact h3.elim
   |box cs=>exact⟨n',h1,h3.2 b n' h2⟩
   |arr sz xs fl=>
    obtain⟨n'',h4,h5⟩:=h3.2 b n' h2;exact⟨n'',zY8 h1 h4,h5⟩
 ·obtain⟨n',_,h2⟩:=KK.pas j b n hm;rw[G.bs j b n' h2,KK.bs j b n hm]
 ·change zG ((t,v)::(restr K ts ⟨st.tm,(k,.dead)::st.h⟩).tm) GS= .gh i at hi
  rw[yP,zX0 hgs,jL]at hi;split at hi
  ·have h1:zG st.tm GS= .gh i:=IW hi;refine F.Jst i _ X w' w' _ (F.go G (hJ i h1)) (zX6 _) (λ_ _ _=>rfl) (λb hb=>?_) (λb hb=>?_) rfl rfl rfl
   ·obtain⟨j,n,hm⟩:=hb
    (try dsimp only at hm)
    split at hm
    ·exact .inl ⟨j,n,hm⟩
    ·simp at hm
   ·obtain⟨j,n,hm⟩:=hb;exact H'.lt b (.inr ⟨j,n,hm⟩)
  ·cases hi
 ·show zC (wX K (zC ((k,xN.dead)::st.h))) j≠some .dead
  rw[xW];split
  ·rename_i hj;intro h;rw[zYg]at h;obtain⟨e,he,h2⟩:=h
   cases e with
   |dead=>exact hnd j hj he
   |box cs=>cases h2
   |arr a b c=>obtain⟨xs2,fl2,h4,_⟩:=jY K (zC ((k,xN.dead)::st.h)) a b c;rw[h4]at h2;cases h2
  ·intro h;cases h
variable {ops:Array Oper} {rest:List Oper} {Q:List FP->St->Prop} {tm:List (Nat×AV)} {h:List (Nat×xN)} {fs fs':List FP} {TT:List TI} {ty:Nat} {pos:String} {after:Array Edge} {t:Nat}
theorem zSq (K ts:List Nat) (hP:uR P TT) {T e k sz:Nat} {s x:Operand} {ti te:TI} {xs vs:List AV} {fl:Fl} {xv:AV} (hs:yN (zG tm) s= .ref k 0 0) (hk:zC h k=some (.arr sz xs fl)) (hx:yN (zG tm) x=xv) (hT:TT[T]? =some ti) (hd:ti.d= .slice e) (he:TT[e]? =some te) (hvs:BL (zC h) xv=some vs)
  (hss:Nat.beq sz te.size=true) (hsz:∀y,vs[0]? =some y->y.cells.length=sz) (hb:Nat.ble te.bytes 65536=true) (hz:Nat.beq te.zero.length te.size=true) (hpos:1<=vs.length) (hmax:vs.length<=1073741824) (hm:Nat.blt t m=true) (hK:K0.all (K.contains ·)=true) (hkK:K.contains k=false)
  {st':St} (hst:restr K ts ⟨tm,(k,.dead)::h⟩=st') (hr:yC P F m ops false rest ⟨(t,.sl false vs)::st'.tm,st'.h⟩ fs Q):yC P F m ops false (⟨some t,.call ⟨.builtin .append, #[s,x], #[T,T]⟩,ty,pos,after,none⟩::rest) ⟨tm,h⟩ fs Q:=⟨λa w R=>wpListIn_plain rfl λKC hKC=>by
 obtain⟨⟨X,β,hX,HH,Ht,KK,hJ,hD⟩,nd,gs,hl⟩:=R;dsimp only at HH Ht KK hJ nd;have h1:=jM (op:= .call ⟨.builtin .append, #[s,x], #[T,T]⟩) (st:=⟨tm,h⟩) Ht (λ_ _=>rfl) (x:=s) qI hs;have h2:=jM (op:= .call ⟨.builtin .append, #[s,x], #[T,T]⟩) (st:=⟨tm,h⟩) Ht (λ_ _=>rfl) (x:=x) qI hx;have hss:=zYu hss;have hb:=zYj hb;have hz:=zYu hz;have hm:=zYj hm;obtain⟨i,z,hu,hi,hzz,e1,e2,e3⟩:=wJ hP hT hd he;obtain⟨g1,g2,g3,g4,g5,f,g6,g7,g8⟩:=HH.ent k _ hk;obtain⟨ad,cap,hcv,_,hmx,hsrc⟩:=eJ HH h2 hvs hsz;obtain⟨b2,q,fy,rfl,hS⟩:=hsrc (λh0=>by rw[h0]at hpos;simp at hpos);obtain⟨hf1,hf2⟩:=hS.flat g1
 have FIN:∀{c w'} (_:(Builtin.append_ #[T,T] ty #[a.eval s,a.eval x]).run P w= .ok c w') {β':uE} (_:xM X w (zC h) β w' (over [(k,.dead)] (zC h)) β') (_:xG w' (xH X β') (.sl false vs) c),Oper.wpIn (LS F.ro) 0 P ⟨some t,.call ⟨.builtin .append, #[s,x], #[T,T]⟩,ty,pos,after,none⟩ a w KC (λe a' w'=>e= .normal/\∃st',Q [] st'/\wK F m st' a' w'):=by
  intro c w' hrun β' G hc;refine bW.wp (N:=λc1 w1=>c1=c/\w1=w') ?_ ?_
  ·have:(execOp a.eval ⟨some t,.call ⟨.builtin .append, #[s,x], #[T,T]⟩,ty,pos,after,none⟩).run P w= .ok (.value c) w':=by simp[execOp,resolve,invoke,builtin,hrun]
   rw[this];exact⟨rfl,rfl⟩
  ·rintro _ _ ⟨rfl,rfl⟩;exact hKC _ _ (hr.run _ _ (YS.consume (st:=⟨tm,h⟩) hX HH Ht KK hJ hD nd gs hl k K ts hK hkK G hc (λi hh=>by cases hh) t hm hst))
 have kill:∀{w'},kQ X (zC h) β w'->xM X w' (zC h) β w' (over [(k,.dead)] (zC h)) (cJ β k []):=λH=>xM.step H k .dead [] (zX6 _) (λ_ _ _=>rfl) rfl rfl rfl (λb n hm=>by simp at hm) (λ_ _ _=>rfl) (λe _=> .inl rfl) λ_=>zW _ _ _
 have GROW:∀bd cp,a.eval s= .slice bd 0 cp->cp<vs.length->(bd=none->cp=0)->Oper.wpIn (LS F.ro) 0 P ⟨some t,.call ⟨.builtin .append, #[s,x], #[T,T]⟩,ty,pos,after,none⟩ a w KC (λe a' w'=>e= .normal/\∃st',Q [] st'/\wK F m st' a' w'):=by
  intro bd cp hcx hlt hbn
  have hbytes:vs.length*i.bytes<=140737488355328:=by
   have:=yA4 (show vs.length<=1073741824 by omega) (show i.bytes<=65536 by omega);omega
  have hrun:(Builtin.append_ #[T,T] ty #[.slice bd 0 cp,.slice (some ⟨b2,q,none⟩) vs.length cap]).run P w= .ok (.slice (some ⟨w.heap.size,0,none⟩) vs.length (grownCap w vs.length cp e)) (w.drew.alloc (.cells ((flat fy vs.length sz).toArray++Builtin.zeroCells z.cells (grownCap w vs.length cp e-vs.length)) e)):=by
   cases bd with
   |none=>
    obtain rfl:=hbn rfl;exact run_append_nil (P:=P) w T ty e i z hu hi hzz ⟨b2,q,none⟩ vs.length cap (flat fy vs.length sz) (by rw[zO,hss,e1]) hf1 zB zB zB
   |some b0=>
    have:=run_append_grow (P:=P) w T ty e i z hu hi hzz b0 0 cp [] zS (λj v h=>by simp at h) ⟨b2,q,none⟩ vs.length cap (flat fy vs.length sz) (by rw[zO,hss,e1]) hf1 zB zB (growslice_fits zB (by simpa using hbytes));simpa using this
  have HD:=HH.drew (w.drawn+1);have hzs:z.cells.size=te.zero.length:=by rw[<-e3];simp
  have hge:=grownCap_ge w vs.length cp e;have G:=xM.newFz HD ((flat fy vs.length sz).toArray++Builtin.zeroCells z.cells (grownCap w vs.length cp e-vs.length)) e
  have hv:=xG.newArr HD ((flat fy vs.length sz).toArray++Builtin.zeroCells z.cells (grownCap w vs.length cp e-vs.length)) e sz vs (grownCap w vs.length cp e) fy g1 (by unfold cI;omega) hge hS.wide
   (λi j hi hj=>by
    rw[zZ4 (by simp[zO];have:=zYm sz (show i+1<=vs.length by omega);rw[zY3,zZ0]at this;omega)]
    simpa using qH fy hi hj) hS.one (λi y j v hy hv=>xG.evo (w:=w) (w':={w with drawn:=w.drawn+1}) (zX6 _) (λ_ _ hd=>⟨rfl,hd⟩) (hS.rep.toF rfl i y j v hy hv))
  have G2:=xM.trans HH (xM.drew HH (w.drawn+1)) G;have G3:=kill G2.hok;exact FIN (by rw[hcx,hcv];exact hrun) (xM.trans HH G2 G3) (hv.wkF.evo G3.evo.size G3.evo.fz)
 generalize hcx:a.eval s=cx at h1
 cases h1 with
 |fz _ _ hf=>cases hf
 |dref _ _ _ _ hdd _=>exact absurd hdd (nd k)
 |ref0 _ _ sz' xs' st' bd hk'' hn=>exact GROW bd 0 hcx zB (λ_=>rfl)
 | ref _ _ _ sz' xs' st' b n cp hk'' hbm hn hc hs'=>
  rw[hk]at hk'';cases hk'';by_cases hroom:vs.length<=cp
  case neg=>exact GROW _ cp hcx zB (λh=>by cases h)
  obtain⟨cur,el,c1,c2,c3,c4⟩:=g8 b n hbm
  have hcs:cur.size=cp*sz:=by
   have:xZ w b=cur.size:=by unfold xZ World.shape?;rw[c1];rfl
   rw[<-this,<-hs',zY6]
  have hfit:vs.length*sz<=cur.size:=by rw[hcs];exact zYm _ hroom
  have hrun:=cG hP hT hd he w ty b 0 0 cp cur el c1 ⟨b2,q,none⟩ vs.length cap (flat fy vs.length sz) (by rw[zO,hss]) hf1 hf2 zB (by
   rw[zO,yBr];simpa using hfit)
  generalize hcur':(cur.toList.take (0+0*te.size)++flat fy vs.length sz++cur.toList.drop (0+0*te.size+(flat fy vs.length sz).length)).toArray=cur' at hrun;rw[yBr,zY6,yAp,yAq,zY6]at hcur'
  have hsz':cur'.size=cur.size:=by
   rw[<-hcur'];simp only[yAy,zX3,zY4,yAv,zO];omega
  have G:=xM.step (w':=w.setRow b cur') HH k .dead [] zS (λj hj hn=>setRow_other w b j cur' (λe=>hn n (by rw[e];exact hbm))) rfl rfl rfl (λb n hm=>by simp at hm) (λb n _=>uV c1 hsz' b) (λe _=> .inl rfl) λ_=>zW _ _ _
  have hnb:¬xH X (cJ β k []) b:=λhd=>by
   rcases hd with hx|⟨j,n',hm⟩
   ·exact HH.free k b n hbm hx
   ·by_cases hjk:j=k
    ·subst hjk;rw[zW]at hm;simp at hm
    ·rw[qK _ _ hjk]at hm;exact hjk (HH.disj _ _ _ _ _ hm hbm)
  refine FIN (by rw[hcx,hcv,yBr];exact hrun) G ?_;rw[zY6];have hne:vs≠[]:=λh0=>by rw[h0]at hpos;simp at hpos
  refine .sl false vs b 0 sz cp fy hne ⟨zY7 (HH.lt b (.inr ⟨k,n,hbm⟩)) G.size,hnb,g1,by unfold cI;omega,hS.wide,λi j hi hj=>?_,hS.one⟩ hroom λi y j v hy hv=>(hS.rep.toF rfl i y j v hy hv).evo G.evo.size G.evo.fz
  rw[uH (setRow_heap w _ _ _ _ _ c1),<-hcur',zY6,yAo,zYw (by
   rw[zO];have:=zYm sz (show i+1<=vs.length by omega);rw[zY3,zZ0]at this
   omega)]
  exact qH fy hi hj⟩
end
end Av
end Go.Proofs.YtmamjhmoegjapaaGreat
