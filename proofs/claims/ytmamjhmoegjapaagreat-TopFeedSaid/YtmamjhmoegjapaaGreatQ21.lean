/- Part 21. -/
import Derived.Test.YtmamjhmoegjapaaGreatQ20
namespace Go.Proofs.YtmamjhmoegjapaaGreat
namespace Av
set_option linter.all false
set_option maxRecDepth 4000
set_option maxHeartbeats 4000000
def kZ (k e:Int):Ms:=⟨15,[],[k,e],[]⟩
def OY (a k e:Int):AV:= .agg [iA a,iA k,iA e]
structure Hd where
 d:xP
 p:Ms
 k:Int
 e:Int
def GK (n ki:Int) (h:Hd):AV:= .tup [zJ h.d,zY h.p,OY n ki h.e,iA h.k]
def QB (d:xP):AV:=wL d.rg (zD yK d.rq) (.ref 1005 0 (d.dr.map kL).length) (zD bA d.au)
def dkD (d:xP):xN:= .arr 1 (d.dr.map kL) true
def GL (n ki:Int) (h:Hd):AV:= .tup [QB h.d,zY h.p,OY n ki h.e,iA h.k]
theorem gE (d:xP) (hb:eU d):yR [zJ d] [] (QB d) [(1005,dkD d)]:=yG
def CY (c:Cf) (d:xP) (s now:Int) (i:It) (h:Hd):Prop:=
 yR [wT c,zJ d,iA s,wI i,iA now] [] (GK d.rg.num i.kind h) []/\yR [wT c,zJ d,iA s,wI i,iA now] [] (GL d.rg.num i.kind h) [(1005,dkD h.d)]
def hdM (ki:Int) (d:xP) (p:Ms) (k e:Int):Hd:=if e=0 then⟨d,p,k,0⟩else⟨d,kZ ki e,-1,e⟩
theorem zPe (c:Cf) (d:xP) (s now:Int) (i:It) (hb:eU d) (d':xP) (p:Ms) (k e:Int) (k4:zN 192 [wT c,zJ d,iA s,wI i,iA now] [] (hT d' p k e) []):
  zN 158 [wT c,zJ d,iA s,wI i,iA now] [] (GK d'.rg.num i.kind (hdM i.kind d' p k e)) []:=by
 have k1:=cK d hb;unfold hT wT wI at k4;unfold wT wI;unfold zJ wL zY at *;by_cases he:e=0
 ·subst he;unfold hdM GK OY zJ wL zY;rw[zW9 rfl];refine eM Tryz.call158 λF hF=>?_
  refine WLc (wW k1 k4) ?_;exact zK
 ·unfold hdM GK OY kZ zJ wL zY;rw[zW8 he];refine eM Tryz.call158 λF hF=>?_
  refine WLc (wW k1 k4) ?_;exact zK
theorem zQ9 (c:Cf) (d:xP) (s now:Int) (i:It) (hb:eU d) (h1:1<=d.au.length) (d':xP) (p:Ms) (k:Int) (k4:zN 192 [wT c,UI d,iA s,wI i,iA now] [(1004,DY d.au)] (hTO d' p k 0) [(1004,DY d'.au)]):
  zN 158 [wT c,zJ d,iA s,wI i,iA now] [] (GK d'.rg.num i.kind ⟨d',p,k,0⟩) []:=by
 have k1:=QH d hb h1;unfold hTO wT wI at k4;unfold wT wI;unfold DY UI at *;unfold zJ wL zY at *;unfold GK OY zJ wL zY;refine eM Tryz.call158 λF hF=>?_
 refine WLc (wW k1 k4) ?_;refine zH [] rfl rfl ?_ rfl
 show AV.tup [wL d'.rg (zD yK d'.rq) (zD kL d'.dr) (.sl false ((d'.au.map bA).take (d'.au.map bA).length)),zY p,OY d'.rg.num i.kind 0,iA k]=_
 rw[zXe];rfl
section
variable (c:Cf) (d:xP) (s now:Int) (hb:eU d)
include hb
theorem zLp (i:It) (hc:i.code≠0):CY c d s now i ⟨d,kZ i.kind i.code,-1,i.code⟩:=by
 have kd:=gE d hb;have k1:=jA d hb;unfold CY wT GK GL kZ OY wI zJ QB dkD wL zY at *;refine⟨?_,?_⟩
 ·exact yG
 ·exact yG
theorem zLq (i:It) (hc:i.code=0) (hk:¬(1<=i.kind/\i.kind<=12)):CY c d s now i ⟨d,kZ i.kind 5,-1,5⟩:=by
 have kd:=gE d hb;have k1:=jA d hb;have k2:=cY i.kind;rw[zXj hk]at k2;obtain⟨co,ki,pa⟩:=i;dsimp only at *;subst hc;unfold CY wT GK GL kZ OY wI zJ QB dkD wL zY at *;refine⟨?_,?_⟩
 ·exact yG
 ·exact yG
theorem zLr (k:Int) (pa:List Int) (h0:1<=k) (h1:k<=12) (k3:yR [iA k,zD yA pa] [] (deT k (pa.take 10) none) []):CY c d s now ⟨0,k,pa⟩ ⟨d,kZ k 6,-1,6⟩:=by
 have kd:=gE d hb;have k1:=jA d hb;have k2:=cY k;rw[zXg ⟨h0,h1⟩]at k2;unfold deT zY at k3;unfold CY wT GK GL kZ OY wI zJ QB dkD wL zY at *;refine⟨?_,?_⟩
 ·exact yG
 ·exact yG
variable (k:Int) (pa tk0 ar:List Int) (h0:1<=k) (h1:k<=12) (k3:yR [iA k,zD yA pa] [] (.tup [zY ⟨k,tk0,ar,[]⟩,iA 0]) [])
include h0 h1 k3
theorem zLs (r:Rg) (sl e:Int) (he:e≠0) (k4:yR [uW d.rg,zY ⟨k,tk0,ar,[]⟩,iA now] [] (.tup [uW r,iA sl,iA e]) []):
  CY c d s now ⟨0,k,pa⟩ ⟨d,kZ k e,-1,e⟩:=by
 have kd:=gE d hb;have k1:=jA d hb;have k2:=cY k;rw[zXg ⟨h0,h1⟩]at k2;unfold uW at k4;unfold CY wT GK GL kZ OY wI zJ QB dkD wL zY at *;refine⟨?_,?_⟩
 ·exact yG
 ·exact yG
theorem zPf (r:Rg) (sl:Int) (k4:yR [uW d.rg,zY ⟨k,tk0,ar,[]⟩,iA now] [] (.tup [uW r,iA sl,iA 0]) []) (d':xP) (hb':eU d') (p:Ms) (kk e:Int)
  (k5:yR [wT c,zJ (xZ d r),iA s,zY ⟨k,tk0,ar,[]⟩,iA sl,iA now] [] (hT d' p kk e) []):
  CY c d s now ⟨0,k,pa⟩ (hdM k d' p kk e):=by
 have kd:=gE d' hb';have k1:=jA d hb;have k6:=jA d' hb';have k2:=cY k;rw[zXg ⟨h0,h1⟩]at k2;unfold uW at k4;unfold hT xZ at k5;unfold CY wT wI zJ QB dkD wL zY at *;by_cases he:e=0
 ·subst he;unfold hdM GK GL OY zJ QB wL zY;rw[zW9 rfl];refine⟨?_,?_⟩
  ·exact yG
  ·exact yG
 ·unfold hdM GK GL OY kZ zJ QB wL zY;rw[zW8 he];refine⟨?_,?_⟩
  ·exact yG
  ·exact yG
theorem zRa (r:Rg) (sl:Int) (k4:yR [uW d.rg,zY ⟨k,tk0,ar,[]⟩,iA now] [] (.tup [uW r,iA sl,iA 0]) []) (d':xP) (hb':eU d') (p:Ms) (kk:Int)
  (k5:yR [wT c,UI (xZ d r),iA s,zY ⟨k,tk0,ar,[]⟩,iA sl,iA now] [(1004,DY d.au)] (hTO d' p kk 0) [(1004,DY d'.au)]):
  CY c d s now ⟨0,k,pa⟩ ⟨d',p,kk,0⟩:=by
 have kd:=gE d' hb';have k1:=BF d hb;have k6:=jA d' hb';have k2:=cY k;rw[zXg ⟨h0,h1⟩]at k2;unfold uW at k4;unfold hTO xZ at k5;unfold DY UI at *;unfold CY wT wI zJ QB dkD wL zY at *;unfold GK GL OY zJ QB wL zY;refine⟨?_,?_⟩
 ·exact yG
 ·exact yG
end
theorem zLt (r:Rg) (m:Ms) (now:Int) (hr:FU r) (hm:BY m.tok) (hl:r.bk.level<=1000000):yR [uW r,zY m,iA now] [] (.tup [uW (opR r m now),iA (opS r m now),iA (opE r m now)]) []:=yG
def zUu (c:Cf) (l:List Rq):Prop:=∀r∈l,∀g∈r.legs,g.jn<(c.js.length:Int)/\g.ph<((c.js.getD g.jn.toNat default).ph.length:Int)
structure uV (c:Cf) (d:xP):Prop where
 b:FU d.rg
 v:aC d.rq
 q:(d.rq.length:Int)<=d.rg.ag.req
 lg:zUu c d.rq
 a:AgV d.rg.ag
 n:0<=d.rg.num/\d.rg.num<4
 t8:d.rg.tk.length=8
 br:d.rg.bk.rate=d.rg.ag.rate
 bb:d.rg.bk.burst=d.rg.ag.burst
 bl:0<=d.rg.bk.level/\d.rg.bk.level<=d.rg.ag.burst
 au:(d.au.length:Int)=d.rg.ag.ses
 dn:d.dr.length<=1000
 dr:∀x∈d.dr,x.length=8/\BY x
 vh:d.rg.vh.length<=8
theorem uV.bd {c:Cf} {d:xP} (h:uV c d):eU d:=
 ⟨h.b,by have:=h.v.n4;omega,λr hr=>by have:=h.v.lg3 hr;omega,h.dn,λx hx=>by have:=(h.dr x hx).1;omega,by have:=h.au;have:=h.a.e;omega⟩
theorem zPg:∀(n:Nat) (l:List Int),l.length=4*n->∃qs:List Qd,l=YE qs/\qs.length=n
 |0,l,h=>⟨[],zYc zB,rfl⟩
 |n+1,a::b::c::e::l,h=>by
  obtain⟨qs,h1,h2⟩:=zPg n l (by simp only[zXl]at h;omega);exact⟨⟨a,b,c,e⟩::qs,by rw[h1];rfl,by rw[zXl,h2]⟩
 |n+1,[],h=>by simp at h
 |n+1,[_],h=>by simp at h;omega
 |n+1,[_,_],h=>by simp at h;omega
 |n+1,[_,_,_],h=>by simp at h;omega
theorem zPh:∀(n:Nat) (l:List Int),l.length=2*n->∃ws:List (Int×Int),l=KP ws/\ws.length=n
 |0,l,h=>⟨[],zYc zB,rfl⟩
 |n+1,a::b::l,h=>by
  obtain⟨ws,h1,h2⟩:=zPh n l (by simp only[zXl]at h;omega);exact⟨(a,b)::ws,by rw[h1];rfl,by rw[zXl,h2]⟩
 |n+1,[],h=>by simp at h
 |n+1,[_],h=>by simp at h;omega
theorem zLu {fx gr:Nat} {p a:List Int} (hb:BY p) (h:dcF fx gr p=some a):p.length<=200/\10<=p.length/\(∀x∈a,0<=x/\x<=4294967295)/\(gr=0->a.length=fx)/\(gr≠0->∃c:Nat,1<=c/\c<=3/\a.length=fx+c*gr):=by
 unfold dcF at h;by_cases hl:200<p.length∨p.length<10
 ·rw[zW9 hl]at h;cases h
 rw[zW8 hl]at h;have hbd:BY (p.drop 10):=λx hx=>hb x (zYl hx)
 cases h1:YM fx (p.drop 10)with
 |none=>rw[h1]at h;cases h
 | some ar=>
  obtain⟨a1,r1⟩:=ar;rw[h1]at h;obtain⟨l1,b1,v1,_⟩:=XD fx _ a1 r1 hbd h1;dsimp only at h;by_cases hg:gr=0
  ·rw[zW9 hg]at h;by_cases hr:r1=[]
   ·rw[zW9 hr]at h;cases h;exact⟨zB,zB,v1,λ_=>l1,λh=>absurd hg h⟩
   ·rw[zW8 hr]at h;cases h
  ·rw[zW8 hg]at h
   cases h2:YM 1 r1 with
   |none=>rw[h2]at h;cases h
   | some cr=>
    obtain⟨c1,r2⟩:=cr;rw[h2]at h;obtain⟨l2,b2,v2,_⟩:=XD 1 _ c1 r2 b1 h2;dsimp only at h;by_cases hc:c1.getD 0 0<1∨3<c1.getD 0 0
    ·rw[zW9 hc]at h;cases h
    rw[zW8 hc]at h
    cases h3:YM ((c1.getD 0 0).toNat*gr) r2 with
    |none=>rw[h3]at h;cases h
    |some fr=>
     obtain⟨f1,r3⟩:=fr;rw[h3]at h;obtain⟨l3,b3,v3,_⟩:=XD _ _ f1 r3 b2 h3;dsimp only at h;by_cases hr:r3=[]
     ·rw[zW9 hr]at h;cases h;refine⟨zB,zB,λx hx=>?_,λh=>absurd h hg,λ_=>⟨(c1.getD 0 0).toNat,zB,zB,by rw[zXb,l1,l3]⟩⟩;rw[zXs]at hx;exact hx.elim (v1 x) (v3 x)
     ·rw[zW8 hr]at h;cases h
def Opn (d:xP) (i:It) (now:Int) (a:List Int):Prop:=i.code=0/\1<=i.kind/\i.kind<=12/\dcF (jB i.kind) (uH i.kind) i.pay=some a/\opE d.rg ⟨i.kind,i.pay.take 10,a,[]⟩ now=0
def CZ (d:xP) (i:It) (now:Int) (a:List Int):xP:=xZ d (opR d.rg ⟨i.kind,i.pay.take 10,a,[]⟩ now)
def UH (c:Cf) (d:xP) (s:Int) (i:It) (now:Int) (h:Hd):Prop:=
 zN 158 [wT c,zJ d,iA s,wI i,iA now] [] (GK d.rg.num i.kind h) []/\CY c d s now i h
def RpF (d:xP) (i:It) (now:Int) (a:List Int) (h:Hd):Prop:=
 (i.kind=1/\h.p=QN d now/\h.d=d)∨(i.kind=9/\h.p=QO d/\h.d=d)∨(i.kind=12/\h.p=bR d/\h.d=d)∨
 (i.kind=2/\∃(k:Nat) (sec:List Int),k<8/\(sec.length=8/\BY sec)/\h.p=⟨16,[],[(k:Int)],d.rg.num::(k:Int)::sec⟩)∨
 ((3<=i.kind/\i.kind<=8∨i.kind=10∨i.kind=11)/\∃x,0<=x/\x<=4294967295/\h.p=hG i.kind x)
def T0 (d:xP):Prop:=d.rg.tk.getD 0 default=⟨true,d.rg.ag.sec,-1,d.rg.ag.rights,d.rg.ag.cls,0⟩
theorem T0.of {d d':xP} (h1:d'.rg.tk=d.rg.tk) (h2:d'.rg.ag=d.rg.ag) (h:T0 d):T0 d':=by
 unfold T0 at *;rw[h1,h2];exact h
def QC (l l':List Rq):Prop:=∀r∈l',∀g∈r.legs,g.sc<=0∨∃r0∈l,∃g0∈r0.legs,g.sc=g0.sc
theorem QC.refl (l:List Rq):QC l l:=λr hr g hg=> .inr ⟨r,hr,g,hg,rfl⟩
theorem QC.filter (l:List Rq) (p:Rq->Bool):QC l (l.filter p):=λr hr g hg=> .inr ⟨r,(yAj.1 hr).1,g,hg,rfl⟩
structure HdP (c:Cf) (d:xP) (s:Int) (i:It) (now:Int) (h:Hd):Prop where
 inv:uV c h.d
 ag:h.d.rg.ag=d.rg.ag
 num:h.d.rg.num=d.rg.num
 no:h.e≠0->h.k= -1/\h.p=kZ i.kind h.e/\(h.d=d∨∃a,Opn d i now a/\h.d=CZ d i now a)
 yes:h.e=0->∃a,Opn d i now a/\RpF d i now a h
 rst:h.k= -1∨(i.kind=11/\0<=h.k/\h.k<(c.js.length:Int))
 dl:h.d.dr.length<=d.dr.length
 t0:T0 d->T0 h.d
 eb:0<=i.code/\i.code<=100->0<=h.e/\h.e<=100
 ax:∀k:Nat,(k:Int)≠s->h.d.au[k]? =d.au[k]?
 sc:QC d.rq h.d.rq
theorem QD {r:Rg} {m:Ms} {now:Int} (h:opE r m now=0):opR r m now=⟨r.num,r.ag,r.tk,r.vh,if MJ m.kind=true then FR r.bk else r.bk⟩/\ckB r.tk r.num m.tok m.kind now=true/\(MJ m.kind=true->0<r.bk.level)/\opS r m now=m.tok.getD 1 default:=by
 have h1:ckB r.tk r.num m.tok m.kind now=true:=by
  cases hc:ckB r.tk r.num m.tok m.kind now with
  |true=>rfl
  |false=>rw[opE,hc,zW8 zXx]at h;omega
 refine⟨?_,h1,λhk=>?_,by rw[opS,zW9 h]⟩
 ·rw[opR,zW9 h]
  split<;>rfl
 ·rw[opE,zW9 h1]at h;by_cases hl:r.bk.level<=0
  ·rw[zW9 ⟨hk,hl⟩]at h;omega
  ·omega
theorem zPi {c:Cf} {d:xP} (hI:uV c d) {i:It} {now:Int} {a:List Int} (h:Opn d i now a):uV c (CZ d i now a):=by
 obtain⟨h1,_,h3,_⟩:=QD h.2.2.2.2;unfold CZ xZ;rw[h1];have hl:=hI.bl;refine⟨⟨hI.b.tk,hI.b.s,hI.b.l,hI.b.v⟩,hI.v,hI.q,hI.lg,hI.a,hI.n,hI.t8,?_,?_,?_,hI.au,hI.dn,hI.dr,hI.vh⟩
 ·dsimp only;split
  ·unfold FR;split
   ·exact hI.br
   ·exact hI.br
  ·exact hI.br
 ·dsimp only;split
  ·unfold FR;split
   ·exact hI.bb
   ·exact hI.bb
  ·exact hI.bb
 ·dsimp only;split
  ·rename_i hk;have:=h3 hk;unfold FR;split
   ·exact hl
   ·dsimp only;omega
  ·exact hl
theorem QE {d:xP} {i:It} {now:Int} {a:List Int} (h:Opn d i now a) (hk:i.kind=1∨9<=i.kind):CZ d i now a=d:=by
 obtain⟨h1,_,_,_⟩:=QD h.2.2.2.2;unfold CZ xZ;rw[h1,zW8 (λh=>by unfold MJ at h;rw[zXi]at h;dsimp only at h;omega)]
theorem zF3 {ki:Int} {d:xP} {p:Ms} {k e:Int} (h:e≠0):hdM ki d p k e=⟨d,kZ ki e,-1,e⟩:=zW8 h
theorem zA0 {ki:Int} {d:xP} {p:Ms} {k:Int}:hdM ki d p k 0=⟨d,p,k,0⟩:=zW9 rfl
theorem GM {c:Cf} {d:xP} {s now:Int} {i:It} (hI:uV c d) {e:Int} (he:e≠0) (p:Ms) (d':xP) (hd:d'=d∨∃a,Opn d i now a/\d'=CZ d i now a)
  (h1:zN 192 [wT c,zJ d,iA s,wI i,iA now] [] (hT d' p (-1) e) []) (h2:CY c d s now i ⟨d',kZ i.kind e,-1,e⟩) (heb:0<=i.code/\i.code<=100->0<=e/\e<=100:=by(intro _;omega)):∃h,UH c d s i now h/\HdP c d s i now h:=by
 have hi:uV c d'/\d'.rg.ag=d.rg.ag/\d'.rg.num=d.rg.num/\d'.dr=d.dr/\d'.rg.tk=d.rg.tk:=by
  rcases hd with rfl|⟨a,ho,rfl⟩
  ·exact⟨hI,rfl,rfl,rfl,rfl⟩
  ·refine⟨zPi hI ho,?_,?_,?_,?_⟩<;>(unfold CZ xZ;rw[(QD ho.2.2.2.2).1])
 have h3:=zPe c d s now i hI.bd d' p (-1) e h1;rw[zF3 he,hi.2.2.1]at h3;exact⟨⟨d',kZ i.kind e,-1,e⟩,⟨h3,h2⟩,hi.1,hi.2.1,hi.2.2.1,λ_=>⟨rfl,rfl,hd⟩,λh=>absurd h he,.inl rfl,by rw[hi.2.2.2.1];exact zXc _,T0.of hi.2.2.2.2 hi.2.1,heb,λ_ _=>by rw[show d'.au=d.au by rcases hd with h|⟨a,_,h⟩<;>rw[h];rfl],by dsimp only;rw[show d'.rq=d.rq by rcases hd with h|⟨a,_,h⟩<;>rw[h];rfl];exact QC.refl _⟩
theorem zRb {c:Cf} {d:xP} {s now:Int} {i:It} (hI:uV c d) (a:List Int) (ho:Opn d i now a) (p:Ms) (k:Int) (d':xP) (hi:uV c d') (ha:d'.rg.ag=d.rg.ag) (hn:d'.rg.num=d.rg.num)
  (hr:RpF d i now a ⟨d',p,k,0⟩) (hk:k= -1∨(i.kind=11/\0<=k/\k<(c.js.length:Int))) (hdl:d'.dr.length<=d.dr.length) (ht0:T0 d->T0 d')
  (h1:zN 192 [wT c,zJ d,iA s,wI i,iA now] [] (hT d' p k 0) []) (h2:CY c d s now i ⟨d',p,k,0⟩) (hau:d'.au=d.au) (hsc:QC d.rq d'.rq):∃h,UH c d s i now h/\HdP c d s i now h:=by
 have h3:=zPe c d s now i hI.bd d' p k 0 h1;rw[zA0,hn]at h3;exact⟨⟨d',p,k,0⟩,⟨h3,h2⟩,hi,ha,hn,λh=>absurd rfl h,λ_=>⟨a,ho,hr⟩,hk,hdl,ht0,λ_=>by dsimp only;omega,λ_ _=>by dsimp only;rw[hau],hsc⟩
theorem zF4:∀{qs:List Qd} {q:Qd},q∈qs->q.j∈YE qs/\q.p∈YE qs/\q.f∈YE qs/\q.t∈YE qs
 |x::l,q,h=>by
  rw[show YE (x::l)=x.j::x.p::x.f::x.t::YE l from rfl]
  rcases zYq.1 h with rfl|h
  ·simp
  ·obtain⟨h1,h2,h3,h4⟩:=zF4 h;simp[h1,h2,h3,h4]
theorem BA {α β γ:Type} {f:α->β->γ}:∀{a:List α} {b:List β} {g:γ},g∈a.zipWith f b->∃x∈a,∃y,g=f x y
 |x::a,y::b,g,h=>by
  rw[yAq]at h
  rcases zYq.1 h with rfl|h
  ·exact⟨x,by simp,y,rfl⟩
  ·obtain⟨z,hz,w,e⟩:=BA h;exact⟨z,by simp[hz],w,e⟩
 | [],_,_,h=>by simp at h
 |_::_,[],_,h=>by simp at h
theorem zF5 (l:List Rq) (r:Rq):(bX l r).length=l.length+1:=by
 have:=KS l r.id;unfold bX;rw[zXb,zXl,zXw,zYd];omega
theorem zRc {j p f t now:Int} (h:mwB j p f t now=true):(mwF j p f t now).jn=j/\(mwF j p f t now).ph=p:=by
 unfold mwF;rw[zW9 h];exact⟨rfl,rfl⟩
theorem zUv {c:Cf} {now:Int} {qs:List Qd} (h:qs.all (ND c now)=true):∀g∈qs.map (KO now),g.jn<(c.js.length:Int)/\g.ph<((c.js.getD g.jn.toNat default).ph.length:Int):=by
 intro g hg;rw[zYo]at hg;obtain⟨q,hq,rfl⟩:=hg;have h1:=zXm.1 h q hq;unfold ND at h1;simp only[zXo,zXi]at h1;obtain⟨h2,h3,h4⟩:=h1;obtain⟨e1,e2⟩:=zRc h4;unfold KO;rw[e1,e2];exact⟨h2,h3⟩
theorem zWk {l:List Rq} {q id life:Int} {x:List Lg} (h:BX l q id life x=0):(l.length:Int)<q/\(l.length:Int)<4:=by
 unfold BX at h;split at h
 ·omega
 ·split at h
  ·omega
  ·split at h
   ·omega
   ·omega
theorem zWl {c:Cf} {d:xP} {cls id v life now:Int} {qs:List Qd} (h:BQ c d cls id v life now qs=0):zHb (cL d.rg.vh v)=true/\qs.all (ND c now)=true/\BX d.rq d.rg.ag.req id life (qs.map (KO now))=0:=by
 unfold BQ sxE at h;split at h
 ·split at h
  ·omega
  ·split at h
   ·rename_i ha;split at h
    ·split at h
     ·rename_i hv;exact⟨hv,ha,h⟩
     ·omega
    ·omega
   ·omega
 ·omega
theorem zWm {c:Cf} {d:xP} (hI:uV c d) {cls id v life now:Int} {qs:List Qd} (n0:0<=now) (n1:now<=1073741824) (h:BQ c d cls id v life now qs=0):uV c (dkQ d (dsL c d cls id v life now qs)):=by
 obtain⟨hv,ha,hs⟩:=zWl h;unfold zHb at hv;rw[zXi]at hv;have hl:=zWk hs;unfold dkQ dsL;rw[zW9 h];refine⟨hI.b,zSb hI.v hs hv.1.1 hv.1.2 hv.2.1 hv.2.2 n0 n1,?_,λr hr g hg=>?_,hI.a,hI.n,hI.t8,hI.br,hI.bb,hI.bl,hI.au,hI.dn,hI.dr,hI.vh⟩
 ·dsimp only;rw[zF5];omega
 ·rcases QS hr with rfl|hr
  ·exact zUv ha g hg
  ·exact hI.lg r hr g hg
theorem zWn {c:Cf} {d:xP} (hI:uV c d) {id now:Int} {ws:List (Int×Int)} (h:bC d.rq id ws now=0):uV c (dkQ d (upQ d.rq id ws now)):=by
 unfold dkQ upQ;rw[zW9 h];have hl:(NJ d.rq id ws now).length=d.rq.length:=by unfold NJ;rw[zXa]
 refine⟨hI.b,zSd hI.v h,?_,λr hr g hg=>?_,hI.a,hI.n,hI.t8,hI.br,hI.bb,hI.bl,hI.au,hI.dn,hI.dr,hI.vh⟩
 ·dsimp only;rw[hl];exact hI.q
 ·dsimp only at hr;unfold NJ at hr;rw[zYo]at hr;obtain⟨r0,hr0,rfl⟩:=hr;split at hg
  ·obtain⟨x,hx,y,rfl⟩:=BA hg;exact hI.lg r0 hr0 x hx
  ·exact hI.lg r0 hr0 g hg
theorem zUw {c:Cf} {d:xP} (hI:uV c d) (p:Rq->Bool):uV c (dkQ d (d.rq.filter p)):=by
 have hl:=zZn p d.rq;have hq:=hI.q;refine⟨hI.b,hI.v.filter p,?_,λr hr g hg=>hI.lg r ((yAj.1 hr).1) g hg,hI.a,hI.n,hI.t8,hI.br,hI.bb,hI.bl,hI.au,hI.dn,hI.dr,hI.vh⟩
 show((d.rq.filter p).length:Int)<=d.rg.ag.req
 omega
theorem zUx {c:Cf} {d:xP} {cls id v life now:Int} {qs:List Qd} (h:BQ c d cls id v life now qs=0):QC d.rq (dsL c d cls id v life now qs):=by
 unfold dsL;rw[zW9 h];intro r hr g hg
 rcases QS hr with rfl|hr
 ·refine .inl ?_;obtain⟨q,_,rfl⟩:=zYo.1 hg;unfold KO mwF;split
  ·show(-1:Int)<=0
   decide
  ·show(0:Int)<=0
   decide
 ·exact .inr ⟨r,hr,g,hg,rfl⟩
theorem zUy {d:xP} {id now:Int} {ws:List (Int×Int)} (h:bC d.rq id ws now=0):QC d.rq (upQ d.rq id ws now):=by
 unfold upQ;rw[zW9 h];intro r hr g hg;unfold NJ at hr;rw[zYo]at hr;obtain⟨r0,hr0,rfl⟩:=hr;split at hg
 ·obtain⟨x,hx,y,rfl⟩:=BA hg;exact .inr ⟨r0,hr0,x,hx,rfl⟩
 ·exact .inr ⟨r0,hr0,g,hg,rfl⟩
theorem zUz (d:xP) (m:Ms) (r':Rg) (u:Bool):QC d.rq (dgD d m r' u 0).rq:=by
 unfold dgD;rw[zW9 rfl];dsimp only;split
 ·exact QC.filter _ _
 ·exact QC.refl _
theorem zWo {c:Cf} {d:xP} (hI:uV c d) {m:Ms} {sec:List Int} {r':Rg} {p:Ms} {u:Bool} (hb:FU r') (hP:DoP d.rg m sec r' p u 0):uV c (dgD d m r' u 0)/\(dgD d m r' u 0).rg.ag=d.rg.ag/\(dgD d m r' u 0).rg.num=d.rg.num/\(dgD d m r' u 0).dr.length<=d.dr.length/\(T0 d->T0 (dgD d m r' u 0)):=by
 have hdr:(if u=true then d.dr.drop 1 else d.dr).length<=1000/\∀x∈(if u=true then d.dr.drop 1 else d.dr),x.length=8/\BY x:=by
  split
  ·exact⟨by have:=hI.dn;rw[zYd];omega,λx hx=>hI.dr x (zYl hx)⟩
  ·exact⟨hI.dn,hI.dr⟩
 have hrq:aC (if m.kind=5 then FW d.rq (m.args.getD 0 0)else d.rq)/\((if m.kind=5 then FW d.rq (m.args.getD 0 0)else d.rq).length:Int)<=d.rg.ag.req/\zUu c (if m.kind=5 then FW d.rq (m.args.getD 0 0)else d.rq):=by
  split
  ·have h:=zUw hI (λx=>x.vh != m.args.getD 0 0);exact⟨h.v,h.q,h.lg⟩
  ·exact⟨hI.v,hI.q,hI.lg⟩
 have hdd:(if u=true then d.dr.drop 1 else d.dr).length<=d.dr.length:=by
  split
  ·rw[zYd];omega
  ·exact zXc _
 unfold dgD;rw[zW9 rfl]
 rcases hP.2 rfl with⟨o,ho,hT,rfl,_⟩|⟨o,ho,rfl,_⟩
 ·refine⟨⟨hb,hrq.1,hrq.2.1,hrq.2.2,hI.a,hI.n,ho,hI.br,hI.bb,hI.bl,hI.au,hdr.1,hdr.2,hI.vh⟩,rfl,rfl,hdd,λh=>?_⟩;unfold T0 at h⊢;exact(hT (by rw[h]) (by rw[h])).trans h
 ·exact⟨⟨hb,hrq.1,hrq.2.1,hrq.2.2,hI.a,hI.n,hI.t8,hI.br,hI.bb,hI.bl,hI.au,hdr.1,hdr.2,ho⟩,rfl,rfl,hdd,λh=>h⟩
theorem zRd {d:xP} {i:It} {now:Int} {a:List Int} (ho:Opn d i now a):(CZ d i now a).rg.ag=d.rg.ag/\(CZ d i now a).rg.num=d.rg.num/\(CZ d i now a).rg.tk=d.rg.tk/\(CZ d i now a).rq=d.rq/\(CZ d i now a).dr=d.dr/\(CZ d i now a).au=d.au:=by
 unfold CZ xZ;rw[(QD ho.2.2.2.2).1];exact⟨rfl,rfl,rfl,rfl,rfl,rfl⟩
theorem zLv {l:List Tk} {g:Int} {b:List Int} {k now:Int} (h:ckB l g b k now=true):fJ l (b.getD 1 default)=true:=by
 unfold ckB at h;simp only[zXo]at h;exact h.1.2
theorem zWp (r:Rg) (m:Ms) (now:Int):0<=opE r m now/\opE r m now<=100:=by
 unfold opE;split
 ·split<;>omega
 ·omega
theorem zU0 (c:Cf) (d:xP) (cls id v life now:Int) (qs:List Qd):0<=BQ c d cls id v life now qs/\BQ c d cls id v life now qs<=100:=by
 unfold BQ sxE BX
 repeat' split
 all_goals omega
theorem zU1 (l:List Rq) (id:Int) (ws:List (Int×Int)) (now:Int):0<=bC l id ws now/\bC l id ws now<=100:=by
 unfold bC
 repeat' split
 all_goals omega
theorem zCu (c:Cf) (d:xP) (hI:uV c d) (s now:Int) (n0:0<=now) (n1:now<=1073741824) (i:It) (hby:BY i.pay) (hlen:i.pay.length<=100000):∃h,UH c d s i now h/\HdP c d s i now h:=by
 by_cases hc:i.code=0
 case neg=>exact GM hI hc RD d (.inl rfl) (zMa c d s now i hc) (zLp c d s now hI.bd i hc) id
 by_cases hk:1<=i.kind/\i.kind<=12
 case neg=>exact GM hI xL RD d (.inl rfl) (zMb c d s now i hc hk) (zLq c d s now hI.bd i hc hk)
 obtain⟨h0,h1⟩:=hk;have k2:=zHi i.kind h0 h1 i.pay hby hlen;have r2:=zDd i.kind h0 h1 i.pay hby hlen;have hii:i=⟨0,i.kind,i.pay⟩:=by cases i;simp_all
 cases hd:dcF (jB i.kind) (uH i.kind) i.pay with
 |none=>
  rw[hd]at k2 r2;have q1:=zMc c d s now i.kind i.pay h0 h1 k2;have q2:=zLr c d s now hI.bd i.kind i.pay h0 h1 r2;rw[<-hii]at q1 q2;exact GM hI xL RD d (.inl rfl) q1 q2
 |some ar=>
 rw[hd]at k2 r2;obtain⟨_,hl10,hv,hg0,hg1⟩:=zLu hby hd;have hbt:BY (i.pay.take 10):=λx hx=>hby x (zY1 hx)
 have hlv:d.rg.bk.level<=1000000:=by have:=hI.bl;have:=hI.a.b;omega
 have k3:=zSj d.rg ⟨i.kind,i.pay.take 10,ar,[]⟩ now hI.b hbt hlv;have r3:=zLt d.rg ⟨i.kind,i.pay.take 10,ar,[]⟩ now hI.b hbt hlv;by_cases ho:opE d.rg ⟨i.kind,i.pay.take 10,ar,[]⟩ now=0
 case neg=>
  have q1:=zMd c d s now i.kind i.pay (i.pay.take 10) ar h0 h1 k2 _ _ _ ho k3;have q2:=zLs c d s now hI.bd i.kind i.pay (i.pay.take 10) ar h0 h1 r2 _ _ _ ho r3;rw[<-hii]at q1 q2;exact GM hI ho RD d (.inl rfl) q1 q2 (λ_=>zWp _ _ _)
 have hO:Opn d i now ar:=⟨hc,h0,h1,hd,ho⟩;obtain⟨_,hck,_,hsl⟩:=QD ho;rw[ho,hsl]at k3 r3;have hus:=zLv hck;dsimp only at hsl hus;generalize (i.pay.take 10).getD 1 default=sl at *;have hI1:=zPi hI hO;obtain⟨ea,en,et,eq,er,eu⟩:=zRd hO
 have hs0:0<=sl/\sl<(d.rg.tk.length:Int):=by
  unfold fJ at hus;rw[zXo,zXi]at hus;exact hus.1
 have hsd:CZ d i now ar=xZ d (opR d.rg ⟨i.kind,i.pay.take 10,ar,[]⟩ now):=rfl;generalize opR d.rg ⟨i.kind,i.pay.take 10,ar,[]⟩ now=r1 at *;have tl:(i.pay.take 10).length<=1000:=by rw[zXw];omega
 have NO:∀(e:Int),e≠0->0<=e/\e<=100->∀(p p2:Ms) (k2':Int),zN 192 [wT c,zJ d,iA s,wI ⟨0,i.kind,i.pay⟩,iA now] [] (hT (xZ d r1) p (-1) e) []->
   yR [wT c,zJ (xZ d r1),iA s,zY ⟨i.kind,i.pay.take 10,ar,[]⟩,iA sl,iA now] [] (hT (xZ d r1) p2 k2' e) []->∃h,UH c d s i now h/\HdP c d s i now h:=by
  intro e he heb p p2 k2' q1 q2;have q3:=zPf c d s now hI.bd i.kind i.pay _ ar h0 h1 r2 r1 sl r3 (xZ d r1) (hsd▸hI1.bd) p2 k2' e q2;rw[zF3 he]at q3;rw[<-hii]at q1 q3;exact GM hI he p _ (.inr ⟨ar,hO,hsd.symm⟩) q1 q3 (λ_=>heb)
 have YES:∀(d':xP) (p:Ms) (k:Int),uV c d'->d'.rg.ag=d.rg.ag->d'.rg.num=d.rg.num->RpF d i now ar ⟨d',p,k,0⟩->(k= -1∨(i.kind=11/\0<=k/\k<(c.js.length:Int)))->d'.dr.length<=d.dr.length->(T0 d->T0 d')->zN 192 [wT c,zJ d,iA s,wI ⟨0,i.kind,i.pay⟩,iA now] [] (hT d' p k 0) []->
   yR [wT c,zJ (xZ d r1),iA s,zY ⟨i.kind,i.pay.take 10,ar,[]⟩,iA sl,iA now] [] (hT d' p k 0) []->d'.au=d.au->QC d.rq d'.rq->∃h,UH c d s i now h/\HdP c d s i now h:=by
  intro d' p k hi ha hn hr hk hdl ht0 q1 q2 hau hsc;have q3:=zPf c d s now hI.bd i.kind i.pay _ ar h0 h1 r2 r1 sl r3 d' hi.bd p k 0 q2;rw[zA0]at q3;rw[<-hii]at q1 q3;exact zRb hI ar hO p k d' hi ha hn hr hk hdl ht0 q1 q3 hau hsc
 rw[hsd]at hI1 ea en et eq er eu;have hgk:uH i.kind=0∨uH i.kind≠0:=by omega
 have hcs:i.kind=1∨(i.kind=2∨i.kind=3∨i.kind=4∨i.kind=5)∨i.kind=6∨i.kind=7∨i.kind=8∨i.kind=9∨i.kind=10∨i.kind=11∨i.kind=12:=by omega
 rcases hcs with hk|hk|hk|hk|hk|hk|hk|hk|hk
 ·
  have hal:ar=[]:=zYc (by rw[hg0 MS,hk];rfl);subst hal;have hsame:=QE hO (.inl hk);rw[hsd]at hsame;rw[hsame]at hI1;have q1:=LZ c d s now i.kind i.pay _ [] h0 h1 k2 r1 sl k3 (.inl hk) (QN d now) (by rw[hsame,hk];exact FF d now);have q2:=zGf c d s now (i.pay.take 10) sl;rw[hsame]at q1;refine YES d _ _ hI1 rfl rfl (.inl ⟨hk,rfl,rfl⟩) (.inl rfl) (zXc _) id q1 ?_ rfl (QC.refl _);rw[hsame,hk];exact q2
 ·
  obtain⟨a,ar1,har⟩:∃a ar1,ar=a::ar1:=by
   cases ar with
   |nil=>exfalso;have:=hg0 zPx;rcases hk with hk|hk|hk|hk<;>rw[hk]at this<;>cases this
   |cons a ar1=>exact⟨a,ar1,rfl⟩
  have hal:ar.length<=1000:=by have:=hg0 zPx;have:=BV i.kind;omega
  have hm:MsB ⟨i.kind,i.pay.take 10,ar,[]⟩:=⟨tl,hal,zXp _⟩
  have hsec:(OZ (xZ d r1)).length<=1000:=by
   unfold OZ xZ;dsimp only
   cases hdr:d.dr with
   |nil=>simp
   |cons b bs=>have:=(hI.dr b (by rw[hdr];simp)).1;simp;omega
  have hsb:BY (OZ (xZ d r1)):=by
   unfold OZ xZ;dsimp only
   cases hdr:d.dr with
   |nil=>exact λx hx=>by cases hx
   |cons b bs=>exact(hI.dr b (by rw[hdr];simp)).2
  have hvh:r1.vh.length<=1000:=by have:=hI1.vh;exact zYg this zB
  obtain⟨r',p,u,e,hr',hp',hP,f1,f2⟩:=zL8 r1 hvh ⟨i.kind,i.pay.take 10,ar,[]⟩ hm sl now (OZ (xZ d r1)) hsec
  have h5:i.kind=5->∃a,ar=[a]:=λh=>by
   have h9:=hg0 (by rw[h];rfl);rw[h]at h9;exact zC0 h9
  have q1:=zRo (xZ d r1) ⟨i.kind,i.pay.take 10,ar,[]⟩ sl now hI1.v hI1.dn r' p u e f1 h5
  have hu:u=true->(xZ d r1).dr≠[]:=λhu h9=>by
   have he:e=0:=by
    by_cases he:e=0
    ·exact he
    ·rw[(hP.1 he).1]at hu;cases hu
   have h10:OZ (xZ d r1)=[]:=by unfold OZ;rw[h9];rfl
   rcases hP.2 he with⟨o,_,_,_,h11|h11⟩|⟨o,_,_,h11,_⟩
   ·rw[h11.1]at hu;cases hu
   ·rw[h10]at h11;exact absurd h11.2.1 xL
   ·rw[h11]at hu;cases hu
  have q2:=zL9 (xZ d r1) ⟨i.kind,i.pay.take 10,ar,[]⟩ sl now hI1.v hI1.dn r' p u e f2 h5 hu;have w1:=zRp c d s now i.kind i.pay _ ar h0 h1 k2 r1 sl k3 hk _ _ e q1;have w2:=zRm c (xZ d r1) s now (i.pay.take 10) sl i.kind ar a ar1 har hk _ p e q2;by_cases he:e=0
  ·subst he;rw[zW9 rfl]at w1;obtain⟨hi,ha,hn,hd1,hd2⟩:=zWo (m:=⟨i.kind,i.pay.take 10,ar,[]⟩) hI1 hr' hP;have hvx:0<=a/\a<=4294967295:=hv a (by rw[har];simp);refine YES _ p (-1) hi (ha.trans ea) (hn.trans en) ?_ (.inl rfl) hd1 (λh=>hd2 (T0.of et ea h)) w1 w2 (by unfold dgD;rw[zW9 rfl];rfl) (zUz (xZ d r1) _ r' u)
   rcases hP.2 rfl with⟨o,_,_,_,h11|h11⟩|⟨o,_,_,_,h11,h12⟩
   ·obtain⟨_,h12,h13⟩:=h11;dsimp only at h13 h12;exact .inr (.inr (.inr (.inr ⟨zB,a,hvx.1,hvx.2,by rw[h12,har,h13];rfl⟩)))
   ·obtain⟨_,h12,h13,k,h14,h15⟩:=h11;have en':r1.num=d.rg.num:=en;exact .inr (.inr (.inr (.inl ⟨h13,k,_,h14,⟨h12,hsb⟩,by rw[h15,en']⟩)))
   ·dsimp only at h11 h12;exact .inr (.inr (.inr (.inr ⟨zB,a,hvx.1,hvx.2,by rw[h12,har];rfl⟩)))
  ·have e1:dgD (xZ d r1) ⟨i.kind,i.pay.take 10,ar,[]⟩ r' u e=xZ d r1:=by unfold dgD;rw[zW8 he]
   rw[e1]at w1 w2;exact NO e he (hP.1 he).2 _ _ _ w1 w2
 ·
  obtain⟨cc,c1,c3,hl⟩:=hg1 (by rw[hk];decide);rw[hk,show jB 6=3 from rfl,show uH 6=4 from rfl]at hl
  obtain⟨id,v,life,ar1,har⟩:∃id v life ar1,ar=id::v::life::ar1:=by
   match ar,hl with
   |id::v::life::ar1,_=>exact⟨id,v,life,ar1,rfl⟩
   | [],h=>simp at h;omega
   | [_],h=>simp at h;omega
   | [_,_],h=>simp at h;omega
  subst har;obtain⟨qs,hqs,hqn⟩:=zPg cc ar1 (by simp only[zXl]at hl;omega);subst hqs
  have hp:∀q∈qs,0<=q.j/\0<=q.p:=λq hq=>by
   obtain⟨m1,m2,_⟩:=zF4 hq;exact⟨(hv q.j (by simp[m1])).1,(hv q.p (by simp[m2])).1⟩
  have hvx:=hv id zS;have s1:sl<((xZ d r1).rg.tk.length:Int):=by rw[et];exact hs0.2
  have q1:=zR8 c (xZ d r1) (i.pay.take 10) id v life sl now qs hI1.bd hI1.v hs0.1 s1 zB hp n0 n1;have q2:=BR c (xZ d r1) 6 (i.pay.take 10) id v life ((xZ d r1).rg.tk.getD sl.toNat default).cls now qs hI1.bd hI1.v zB hp n0 n1;by_cases he:BQ c (xZ d r1) ((xZ d r1).rg.tk.getD sl.toNat default).cls id v life now qs=0
  ·have hi:=zWm hI1 n0 n1 he;rw[he]at q1;rw[zW9 he,he]at q2;have w1:=LY c d s now i.kind i.pay _ _ h0 h1 k2 r1 sl k3 (.inl hk) id _ rfl _ MT;have w2:=zGg c (xZ d r1) s now (i.pay.take 10) sl _ id _ rfl hs0.1 s1 _ 0 q2;refine YES _ (hG i.kind id) (-1) hi ea en (.inr (.inr (.inr (.inr ⟨zB,id,hvx.1,hvx.2,rfl⟩)))) (.inl rfl) (zXc _) (T0.of et ea) w1 ?_ rfl (zUx (d:=xZ d r1) he);rw[hk];exact w2
  ·rw[zW8 he]at q2;have w1:=LX c d s now i.kind i.pay _ _ h0 h1 k2 r1 sl k3 (.inl hk) _ _ he MT;have w2:=zGg c (xZ d r1) s now (i.pay.take 10) sl _ id _ rfl hs0.1 s1 _ _ q2;exact NO _ he (by first|exact zU0 _ _ _ _ _ _ _ _|exact zU1 _ _ _ _) _ _ _ w1 (by rw[hk];exact w2)
 ·
  obtain⟨cc,c1,c3,hl⟩:=hg1 (by rw[hk];decide);rw[hk,show jB 7=1 from rfl,show uH 7=2 from rfl]at hl
  obtain⟨id,ar1,har⟩:∃id ar1,ar=id::ar1:=by
   match ar,hl with
   |id::ar1,_=>exact⟨id,ar1,rfl⟩
   | [],h=>simp at h;omega
  subst har;obtain⟨ws,hqs,hqn⟩:=zPh cc ar1 (by simp only[zXl]at hl;omega);subst hqs;have hvx:=hv id zS;have q1:=zR6 c (xZ d r1) (i.pay.take 10) id sl now ws hI1.v zB n0 n1;have q2:=zR7 (xZ d r1) (i.pay.take 10) id now ws hI1.v zB n0 n1;by_cases he:bC (xZ d r1).rq id ws now=0
  ·have hi:=zWn hI1 he;rw[he]at q1;rw[zW9 he,he]at q2;have w1:=LY c d s now i.kind i.pay _ _ h0 h1 k2 r1 sl k3 (.inr (.inl hk)) id _ rfl _ MT;have w2:=zGh c (xZ d r1) s now (i.pay.take 10) sl _ id _ rfl _ 0 q2;refine YES _ (hG i.kind id) (-1) hi ea en (.inr (.inr (.inr (.inr ⟨zB,id,hvx.1,hvx.2,rfl⟩)))) (.inl rfl) (zXc _) (T0.of et ea) w1 ?_ rfl (zUy (d:=xZ d r1) he);rw[hk];exact w2
  ·rw[zW8 he]at q2;have w1:=LX c d s now i.kind i.pay _ _ h0 h1 k2 r1 sl k3 (.inr (.inl hk)) _ _ he MT;have w2:=zGh c (xZ d r1) s now (i.pay.take 10) sl _ id _ rfl _ _ q2;exact NO _ he (by first|exact zU0 _ _ _ _ _ _ _ _|exact zU1 _ _ _ _) _ _ _ w1 (by rw[hk];exact w2)
 ·
  obtain⟨id,har⟩:=zC0 (show ar.length=1 by rw[hg0 MS,hk];rfl);subst har;have hvx:=hv id zS;have q1:=zR9 c (xZ d r1) (i.pay.take 10) id sl now hI1.v;have q2:=zRn c (xZ d r1) s now (i.pay.take 10) sl id _ _ (zDk (xZ d r1).rq id hI1.v);by_cases he:hH (xZ d r1).rq id=true
  ·have hi:=zUw hI1 (λx=>x.id != id);rw[zW9 he,zW9 he]at q1;rw[zW9 he,zW9 he,zW9 rfl]at q2;have w1:=LY c d s now i.kind i.pay _ _ h0 h1 k2 r1 sl k3 (.inr (.inr hk)) id [] rfl _ MT;refine YES _ (hG i.kind id) (-1) hi ea en (.inr (.inr (.inr (.inr ⟨zB,id,hvx.1,hvx.2,rfl⟩)))) (.inl rfl) (zXc _) (T0.of et ea) w1 ?_ rfl (QC.filter _ _);rw[hk];exact q2
  ·rw[zW8 he,zW8 he]at q1;rw[zW8 he,zW8 he,zW8 xL]at q2;have w1:=LX c d s now i.kind i.pay _ _ h0 h1 k2 r1 sl k3 (.inr (.inr hk)) _ 12 xL MT;exact NO 12 xL xL _ _ _ w1 (by rw[hk];exact q2)
 ·
  have hal:ar=[]:=zYc (by rw[hg0 MS,hk];rfl);subst hal;have hsame:=QE hO (.inr zB);rw[hsd]at hsame;rw[hsame]at hI1;have q1:=LZ c d s now i.kind i.pay _ [] h0 h1 k2 r1 sl k3 (.inr (.inl hk)) (QO d) (by rw[hsame,hk];exact BP d now hI.bd);have q2:=zL5 c d s now (i.pay.take 10) sl hI.bd;rw[hsame]at q1;refine YES d _ _ hI1 rfl rfl (.inr (.inl ⟨hk,rfl,rfl⟩)) (.inl rfl) (zXc _) id q1 ?_ rfl (QC.refl _);rw[hsame,hk];exact q2
 ·
  obtain⟨a,har⟩:=zC0 (show ar.length=1 by rw[hg0 MS,hk];rfl);subst har;have hvx:=hv a zS;by_cases ha:1<a
  ·have w1:=zMg c d s now i.kind i.pay _ [a] h0 h1 k2 r1 sl k3 hk a rfl ha;have w2:=zL3 c (xZ d r1) s now (i.pay.take 10) sl a ha;exact NO 8 xL xL _ _ _ w1 (by rw[hk];exact w2)
  by_cases hs:0<=s/\s<(d.au.length:Int)
  case neg=>
   have w1:=zMh c d s now i.kind i.pay _ [a] h0 h1 k2 r1 sl k3 hk a rfl zB hs;have w2:=zL4 c (xZ d r1) s now (i.pay.take 10) sl a zB (by rw[eu];exact hs);refine YES _ (hG 10 a) (-1) hI1 ea en (.inr (.inr (.inr (.inr ⟨zB,a,hvx.1,hvx.2,by rw[hk]⟩)))) (.inl rfl) (zXc _) (T0.of et ea) w1 ?_ rfl (QC.refl _);rw[hk];exact w2
  rw[hk]at k2 r2 k3 r3;have hI2:uV c ⟨r1,d.rq,d.dr,d.au.set s.toNat (a==1)⟩:=⟨hI1.b,hI1.v,hI1.q,hI1.lg,hI1.a,hI1.n,hI1.t8,hI1.br,hI1.bb,hI1.bl,by have:=hI1.au;dsimp only;rw[zY3];exact this,hI1.dn,hI1.dr,hI1.vh⟩;have w1:=zL6 c d s now i.pay (i.pay.take 10) a hvx.1 zB k2 r1 sl k3 hs;have w2:=zL7 c (xZ d r1) s now (i.pay.take 10) sl a hvx.1 zB (by rw[eu];exact hs);have q1:=zQ9 c d s now ⟨0,10,i.pay⟩ hI.bd zB _ _ _ w1;have q2:=zRa c d s now hI.bd 10 i.pay _ [a] xL xL r2 r1 sl r3 _ hI2.bd _ _ w2;have en':r1.num=d.rg.num:=en;rw[show(⟨r1,d.rq,d.dr,d.au.set s.toNat (a==1)⟩:xP).rg.num=d.rg.num from en']at q1;rw[<-hk,<-hii]at q1 q2;exact⟨⟨⟨r1,d.rq,d.dr,d.au.set s.toNat (a==1)⟩,hG i.kind a,-1,0⟩,⟨q1,q2⟩,hI2,ea,en,λh=>absurd rfl h,λ_=>⟨[a],hO,.inr (.inr (.inr (.inr ⟨zB,a,hvx.1,hvx.2,rfl⟩)))⟩,.inl rfl,zXc _,T0.of et ea,λ_=>by dsimp only;omega,λk hk'=>by show(d.au.set s.toNat (a==1))[k]? =_;rw[yBs zB],QC.refl _⟩
 ·
  obtain⟨a,har⟩:=zC0 (show ar.length=1 by rw[hg0 MS,hk];rfl);subst har;have hvx:=hv a zS;by_cases ha:a<(c.js.length:Int)
  ·have w1:=zMf c d s now i.kind i.pay _ [a] h0 h1 k2 r1 sl k3 hk a rfl ha;have w2:=zL2 c (xZ d r1) s now (i.pay.take 10) sl a ha;refine YES _ (hG 11 a) a hI1 ea en (.inr (.inr (.inr (.inr ⟨zB,a,hvx.1,hvx.2,by rw[hk]⟩)))) (.inr ⟨hk,hvx.1,ha⟩) (zXc _) (T0.of et ea) w1 ?_ rfl (QC.refl _);rw[hk];exact w2
  ·have w1:=zMe c d s now i.kind i.pay _ [a] h0 h1 k2 r1 sl k3 hk a rfl zB;have w2:=zL1 c (xZ d r1) s now (i.pay.take 10) sl a zB;exact NO 8 xL xL _ _ _ w1 (by rw[hk];exact w2)
 ·
  have hal:ar=[]:=zYc (by rw[hg0 MS,hk];rfl);subst hal;have hsame:=QE hO (.inr zB);rw[hsd]at hsame;rw[hsame]at hI1;have hrq:=hI.a.q;have q1:=LZ c d s now i.kind i.pay _ [] h0 h1 k2 r1 sl k3 (.inr (.inr hk)) (bR d) (by rw[hsame,hk];exact BN d 12 now xL xL hI.bd zB zB);have q2:=zL0 c d s now (i.pay.take 10) sl (zM2 d hI.bd zB zB);rw[hsame]at q1;refine YES d _ _ hI1 rfl rfl (.inr (.inr (.inl ⟨hk,rfl,rfl⟩))) (.inl rfl) (zXc _) id q1 ?_ rfl (QC.refl _);rw[hsame,hk];exact q2
theorem zA1 (d:Dk):∀i,∀j∈(OL d i).1,∃e,j=jnF e
 |0=>λj hj=>by simp[OL]at hj
 |i+1=>λj hj=>by
  simp only[OL,zXs,zX9]at hj
  rcases hj with hj|hj
  ·exact zA1 d i j hj
  ·exact⟨_,hj⟩
theorem zF6 (d:Dk) (r:Int):(QG d r).js=(OL (ad (ad4 d)) (cfN d)).1:=by rw[QG,cfJ]
theorem zA2 (d:Dk) (r:Int):(QG d r).ags=(VY (ad (cfJ d).2) r (cfM d)).1:=by rw[QG,cfG]
theorem zU2 (d:Dk) (rights:Int):1<=(QG d rights).js.length/\(QG d rights).js.length<=2/\1<=(QG d rights).ags.length/\(QG d rights).ags.length<=3:=by
 have h1:=yE (ad4 d) 2 zB;have h2:=yE (cfJ d).2 3 zB;rw[zF6,zA2,RA,dO];unfold cfN cfM;omega
theorem zU3 (d:Dk) (n r:Int) (hr:0<=r/\r<=63):AgV (agF d n r):=by
 have w1:=yE d (3-1+1) zB;have w2:=yE (ad d) (3-1+1) zB;have w3:=yE (ad (ad d)) 3 zB;have w4:=yE (ad (ad (ad d))) 3 zB;have w5:=yE (ad (ad (ad (ad d)))) (3-1+1) zB;have w6:=yE (ad (ad (ad (ad (ad d))))) (2-1+1) zB;have w7:=yE (ad (ad (ad (ad (ad (ad d)))))) (3-1+1) zB;have w8:=yE (ad7 d) 5 zB;unfold agF;refine⟨by dsimp only;rw[kU];rfl,rfl,λx hx=>?_,hr,by dsimp only;omega,by dsimp only;omega,by dsimp only;omega,by dsimp only;omega,by dsimp only;omega⟩;simp only[zYq,yBd,yCo]at hx
 rcases hx with rfl|rfl|rfl|rfl<;>omega
structure AgD (a:Ag) (n:Int):Prop where
 v:AgV a
 s:a.sec=dK (1000+n)
 q:1<=a.req/\a.req<=3
 b:1<=a.rate/\a.burst<=7
theorem zU4 (d:Dk) (n r:Int) (hr:0<=r/\r<=63):AgD (agF d n r) n:=by
 have w5:=yE (ad (ad (ad (ad d)))) (3-1+1) zB;have w7:=yE (ad (ad (ad (ad (ad (ad d)))))) (3-1+1) zB;have w8:=yE (ad7 d) 5 zB;exact⟨zU3 d n r hr,rfl,by unfold agF;dsimp only;omega,by unfold agF;dsimp only;omega⟩
theorem zF7 (d:Dk) (r:Int) (hr:0<=r/\r<=63):∀i k,k<i->AgD ((VY d r i).1.getD k default) k/\((VY d r i).1.getD k default).rights=r
 |0,k,h=>by omega
 | i+1,k,h=>by
  rw[zGc,zXh];by_cases hk:k<i
  ·rw[zX3 (by rw[dO];exact hk),<-zXh];exact zF7 d r hr i k hk
  ·obtain rfl:k=i:=by omega
   rw[zX2 (by rw[dO];omega),dO,zZo];exact⟨zU4 _ _ _ hr,rfl⟩
theorem zRe (d:Dk) (r:Int) (hr:0<=r/\r<=63) (k:Int) (h0:0<=k) (h1:k<((QG d r).ags.length:Int)):AgD ((QG d r).ags.getD k.toNat default) k/\((QG d r).ags.getD k.toNat default).rights=r:=by
 rw[zA2]at h1⊢;rw[dO]at h1;have:=zF7 (ad (cfJ d).2) r hr (cfM d) k.toNat zB;rw[show((k.toNat:Nat):Int)=k by omega]at this;exact this
theorem zRf {c:Cf} {a:Ag} (hv:AgV a) (n:Int) (hn:0<=n/\n<4):uV c (QP n a a.ses.toNat):=by
 have he:=hv.e;have hq:=hv.q;have hb:=hv.b;have ht:=hv.t;have hs:=zVi n a hv;have e1:(FI n a).ag=a:=rfl;have e2:(FI n a).num=n:=rfl;have e3:(FI n a).tk.length=8:=by simp[FI,tkN]
 have e4:(FI n a).vh=[]:=rfl;have e5:(FI n a).bk=⟨a.burst,a.rate,a.burst⟩:=rfl;unfold QP;generalize hN:a.ses.toNat=N;generalize FI n a=r at *;constructor
 ·exact hs
 ·exact⟨λr hr=>by simp at hr,List.Pairwise.nil,zXp _⟩
 ·dsimp only;rw[e1];simp only[zYa];omega
 ·intro r hr;simp at hr
 ·dsimp only;rw[e1];exact hv
 ·dsimp only;rw[e2];exact hn
 ·exact e3
 ·dsimp only;rw[e1,e5]
 ·dsimp only;rw[e1,e5]
 ·dsimp only;rw[e1,e5];exact⟨hb.1,zZf _⟩
 ·dsimp only;rw[e1,zYz];omega
 ·simp
 ·intro x hx;simp at hx
 ·dsimp only;rw[e4];simp
theorem zU5 (n:Int) (a:Ag) (hv:AgV a):zN 90 [iA n,vH a] [] (zJ (QP n a a.ses.toNat)) []/\yR [iA n,vH a] [] (zJ (QP n a a.ses.toNat)) []:=by
 have he:=hv.e;have h1:=hv.s;have h2:=hv.l;exact⟨zR5 n a a.ses.toNat zB zB zB zB,zM5 n a a.ses.toNat zB zB zB zB⟩
theorem zU6 {l:List Tk} (h:HE l) (now:Int):HE (NE l now):=by
 refine⟨by unfold NE;rw[zXa,zYu];exact h.n,λt ht=>?_⟩;unfold NE at ht;rw[zYo]at ht;obtain⟨j,hj,rfl⟩:=ht;rw[zXz]at hj;unfold zDg;split
 ·exact zXp _
 ·rw[zXh,zXr hj,zZg];exact h.s _ (zZy _)
def ME (d:xP) (now:Int):xP:=⟨rtF d.rg now,zH4 d.rq now,d.dr,d.au⟩
theorem zU7 {c:Cf} {d:xP} (h:uV c d) (now:Int):uV c (ME d now)/\(ME d now).rg.ag=d.rg.ag/\(ME d now).rg.num=d.rg.num:=by
 refine⟨?_,rfl,rfl⟩;have hl:=h.bl;have hr:=h.br;have hbb:=h.bb;have ht:=h.a.t;have hql:=zZn (λx:Rq=>decide (now<=x.til)) d.rq;have hq:=h.q;refine⟨⟨zU6 h.b.tk now,h.b.s,h.b.l,h.b.v⟩,h.v.filter _,?_,λr hr g hg=>h.lg r (yAj.1 hr).1 g hg,h.a,h.n,?_,h.br,h.bb,?_,h.au,h.dn,h.dr,h.vh⟩
 ·show((d.rq.filter _).length:Int)<=d.rg.ag.req
  omega
 ·show(NE d.rg.tk now).length=8
  unfold NE;rw[zXa,zYu,h.t8]
 ·show 0<=min (d.rg.bk.level+d.rg.bk.rate) d.rg.bk.burst/\min (d.rg.bk.level+d.rg.bk.rate) d.rg.bk.burst<=d.rg.ag.burst
  omega
theorem zF8 {c:Cf} {d:xP} (h:uV c d) (now:Int):zN 109 [zJ d,iA now] [] (zJ (ME d now)) []:=by
 have k1:=cK d h.bd;have hl:=h.bl;have hr:=h.br;have hbb:=h.bb;have ht:=h.a.t;have hb:=h.a.b;have k2:=zNd d.rg now h.b zB;have k3:=zH6 d.rq now h.v;unfold ME;generalize rtF d.rg now=r at *;generalize zH4 d.rq now=q at *;unfold zJ wL at *;unfold uW at k2;refine eM Tryz.call109 λF hF=>?_
 refine WLc (gU k1 k2 k3) ?_;exact zK
section
variable {P:Program} {K0:List Nat} {F:Fr K0} {m:Nat}
theorem YF.consume {st:St} {a:Act} {w:World} {X:Nat->Prop} {β:uB} (hX:XOK F X) (H:kI X (zC st.h) β w) (Ht:∀t,zV w (xF X β) (zC st.h) β (zG st.tm t) (a.eval (.tmp t))) (KK:gA F (zC st.h) β w) (hJ:∀i,zG st.tm GS= .gh i->F.J i (Own β) X w) (hD:DOK X F a.defers w)
  (nd:∀k,zC st.h k≠some .dead) (gs:m<=GS) (hl:a.tmps.size=m) (k:Nat) (K ts:List Nat) (hK:K0.all (K.contains ·)=true) (hkK:K.contains k=false) {w':World} {β':uB} (G:xM X w (zC st.h) β w' (over [(k,.dead)] (zC st.h)) β') {v:AV} {c:Value} (hc:xE w' (xF X β') v c)
  (hg:∀i,v≠ .gh i) (t:Nat) (ht:t<m) {st':St} (he:restr K ts ⟨st.tm,(k,.dead)::st.h⟩=st'):wH F m ⟨(t,v)::st'.tm,st'.h⟩ (a.put (some t) c) w':=by
 subst he;have eh:zC ((k,xN.dead)::st.h)=over [(k,.dead)] (zC st.h):=wU [(k,xN.dead)] st.h;rw[<-eh]at G;obtain⟨H',hvv⟩:=G.hok.restr K
 have hkk:∀j,j∈K->j≠k:=λj hj e=>by
  subst e;have:K.contains j=true:=by simpa using hj
  rw[this]at hkK;cases hkK
 have hov:∀j,j≠k->zC ((k,xN.dead)::st.h) j=zC st.h j:=λj hj=>by rw[eh];exact bO _ _ hj
 have hnd:∀j,j∈K->zC ((k,xN.dead)::st.h) j≠some .dead:=λj hj=>by rw[hov j (hkk j hj)];exact nd j
 have hK0:∀j,j∈K0->j∈K:=λj hj=>by
  have:=zXm.1 hK j hj;simpa using this
 have hsub:∀b,xF X (λj=>if j∈K then β' j else []) b->xF X β' b:=λb hd=>by
  rcases hd with hx|⟨j,n,hm⟩
  ·exact .inl hx
  ·(try dsimp only at hm)
   split at hm
   ·exact .inr ⟨j,n,hm⟩
   ·simp at hm
 have hgs:GS≠t:=by omega
 refine⟨⟨X,_,hX,H',λj=>?_,⟨λj e hje=>?_,zYg KK.size G.size,λb hb hi hn=>?_,λj b n hm=>?_,λj b n hm=>?_,λj b n hm=>?_,G.os.trans KK.os,G.tape.trans KK.tape,G.output.trans KK.output⟩,λi hi=>?_,hD.goes H G⟩,λj=>?_,gs,by simp[Act.put,hl]⟩
 ·show zV _ _ _ _ (zG ((t,v)::(restr K ts ⟨st.tm,(k,.dead)::st.h⟩).tm) j) _
  rw[yN];split
  ·rename_i hj;subst hj;have e:(a.put (some j) c).eval (.tmp j)=c:=by simp[Act.put,Act.eval,hl,ht]
   rw[e];exact .fz _ _ (hc.evo (zXc _) λb _ hd=>⟨rfl,λh=>hd (hsub b h)⟩)
  ·rename_i hj;rw[Act.eval_put (λd hd e=>hj (by injection hd with hd;injection e with e;rw[hd,e])),jC];split
   ·exact hvv _ _ ((Ht j).evo G.evo)
   ·exact .fz _ _ (.bot _)
 ·have hj:=hK0 j (F.hh j e hje);have h1:=KK.knd j e hje;have hr:∀e',zC ((k,xN.dead)::st.h) j=some e'->zC (wS K (zC ((k,xN.dead)::st.h))) j=some (qR K (zC ((k,xN.dead)::st.h)) e'):=λe' h2=>by rw[xW,zW9 hj,h2];rfl
  cases e with
  |dead=>exact h1
  |box cs=>obtain⟨cs',h2⟩:=h1;exact⟨_,hr _ ((hov j (hkk j hj)).trans h2)⟩
  |arr sz xs sl=>obtain⟨xs',sl',h2,h3⟩:=h1;obtain⟨xs2,fl2,h4,h5⟩:=jU K (zC ((k,xN.dead)::st.h)) sz xs' sl';exact⟨xs2,fl2,(hr _ ((hov j (hkk j hj)).trans h2)).trans (by rw[h4]),by rw[h5];exact h3⟩
 ·rw[G.keep b (zYh hb KK.size),KK.keep b hb hi hn];intro j n hm
  rcases KK.own j b n hm with⟨k',n',h1⟩|h1
  ·exact hn _ _ h1
  ·omega
 ·(try dsimp only at hm)
  split at hm
  ·rcases G.own j b n hm with⟨k',n',h1⟩|h1
   ·exact KK.own k' b n' h1
   ·exact .inr (zYg KK.size h1)
  ·simp at hm
 ·have hj:=hK0 j (F.hK j b n hm);obtain⟨n',h1,h2⟩:=KK.pas j b n hm
  (try dsimp only)
  rw[zW9 hj]
  cases hje:zC st.h j with
  |none=>rw[H.off j hje]at h2;simp at h2
  | some e=>
   have h3:=(G.key j e hje).resolve_left (hnd j hj)
   cases e with
   |dead=>exact h3.elim
   |box cs=>exact⟨n',h1,h3.2 b n' h2⟩
   |arr sz xs fl=>
    obtain⟨n'',h4,h5⟩:=h3.2 b n' h2;exact⟨n'',zYg h1 h4,h5⟩
 ·obtain⟨n',_,h2⟩:=KK.pas j b n hm;rw[G.bs j b n' h2,KK.bs j b n hm]
 ·change zG ((t,v)::(restr K ts ⟨st.tm,(k,.dead)::st.h⟩).tm) GS= .gh i at hi
  rw[yN,zW8 hgs,jC]at hi;split at hi
  ·have h1:zG st.tm GS= .gh i:=JK hi;refine F.Jst i _ X w' w' _ (F.go G (hJ i h1)) (zXc _) (λ_ _ _=>rfl) (λb hb=>?_) (λb hb=>?_) rfl rfl rfl
   ·obtain⟨j,n,hm⟩:=hb
    (try dsimp only at hm)
    split at hm
    ·exact .inl ⟨j,n,hm⟩
    ·simp at hm
   ·obtain⟨j,n,hm⟩:=hb;exact H'.lt b (.inr ⟨j,n,hm⟩)
  ·cases hi
 ·show zC (wS K (zC ((k,xN.dead)::st.h))) j≠some .dead
  rw[xW];split
  ·rename_i hj;intro h;rw[zXn]at h;obtain⟨e,he,h2⟩:=h
   cases e with
   |dead=>exact hnd j hj he
   |box cs=>cases h2
   |arr a b c=>obtain⟨xs2,fl2,h4,_⟩:=jU K (zC ((k,xN.dead)::st.h)) a b c;rw[h4]at h2;cases h2
  ·intro h;cases h
variable {ops:Array Oper} {rest:List Oper} {Q:List FP->St->Prop} {tm:List (Nat×AV)} {h:List (Nat×xN)} {fs fs':List FP} {TT:List TI} {ty:Nat} {pos:String} {after:Array Edge} {t:Nat}
theorem zRg (K ts:List Nat) (hP:uL P TT) {T e k sz:Nat} {s x:Operand} {ti te:TI} {xs vs:List AV} {fl:Fl} {xv:AV} (hs:yL (zG tm) s= .ref k 0 0) (hk:zC h k=some (.arr sz xs fl)) (hx:yL (zG tm) x=xv) (hT:TT[T]? =some ti) (hd:ti.d= .slice e) (he:TT[e]? =some te) (hvs:CF (zC h) xv=some vs)
  (hss:Nat.beq sz te.size=true) (hsz:∀y,vs[0]? =some y->y.cells.length=sz) (hb:Nat.ble te.bytes 65536=true) (hz:Nat.beq te.zero.length te.size=true) (hpos:1<=vs.length) (hmax:vs.length<=1073741824) (hm:Nat.blt t m=true) (hK:K0.all (K.contains ·)=true) (hkK:K.contains k=false)
  {st':St} (hst:restr K ts ⟨tm,(k,.dead)::h⟩=st') (hr:zZ P F m ops false rest ⟨(t,.sl false vs)::st'.tm,st'.h⟩ fs Q):zZ P F m ops false (⟨some t,.call ⟨.builtin .append, #[s,x], #[T,T]⟩,ty,pos,after,none⟩::rest) ⟨tm,h⟩ fs Q:=⟨λa w R=>wpListIn_plain rfl λKC hKC=>by
 obtain⟨⟨X,β,hX,HH,Ht,KK,hJ,hD⟩,nd,gs,hl⟩:=R;dsimp only at HH Ht KK hJ nd;have h1:=jL (op:= .call ⟨.builtin .append, #[s,x], #[T,T]⟩) (st:=⟨tm,h⟩) Ht (λ_ _=>rfl) (x:=s) qF hs;have h2:=jL (op:= .call ⟨.builtin .append, #[s,x], #[T,T]⟩) (st:=⟨tm,h⟩) Ht (λ_ _=>rfl) (x:=x) qF hx;have hss:=zX4 hss;have hb:=zXq hb;have hz:=zX4 hz;have hm:=zXq hm;obtain⟨i,z,hu,hi,hzz,e1,e2,e3⟩:=wG hP hT hd he;obtain⟨g1,g2,g3,g4,g5,f,g6,g7,g8⟩:=HH.ent k _ hk;obtain⟨ad,cap,hcv,_,hmx,hsrc⟩:=fT HH h2 hvs hsz;obtain⟨b2,q,fy,rfl,hS⟩:=hsrc (λh0=>by rw[h0]at hpos;simp at hpos);obtain⟨hf1,hf2⟩:=hS.flat g1
 have FIN:∀{c w'} (_:(Builtin.append_ #[T,T] ty #[a.eval s,a.eval x]).run P w= .ok c w') {β':uB} (_:xM X w (zC h) β w' (over [(k,.dead)] (zC h)) β') (_:xE w' (xF X β') (.sl false vs) c),Oper.wpIn (MQ F.ro) 0 P ⟨some t,.call ⟨.builtin .append, #[s,x], #[T,T]⟩,ty,pos,after,none⟩ a w KC (λe a' w'=>e= .normal/\∃st',Q [] st'/\wH F m st' a' w'):=by
  intro c w' hrun β' G hc;refine bN.wp (N:=λc1 w1=>c1=c/\w1=w') ?_ ?_
  ·have:(execOp a.eval ⟨some t,.call ⟨.builtin .append, #[s,x], #[T,T]⟩,ty,pos,after,none⟩).run P w= .ok (.value c) w':=by simp[execOp,resolve,invoke,builtin,hrun]
   rw[this];exact⟨rfl,rfl⟩
  ·rintro _ _ ⟨rfl,rfl⟩;exact hKC _ _ (hr.run _ _ (YF.consume (st:=⟨tm,h⟩) hX HH Ht KK hJ hD nd gs hl k K ts hK hkK G hc (λi hh=>by cases hh) t hm hst))
 have kill:∀{w'},kI X (zC h) β w'->xM X w' (zC h) β w' (over [(k,.dead)] (zC h)) (cD β k []):=λH=>xM.step H k .dead [] (zXc _) (λ_ _ _=>rfl) rfl rfl rfl (λb n hm=>by simp at hm) (λ_ _ _=>rfl) (λe _=> .inl rfl) λ_=>zW _ _ _
 have GROW:∀bd cp,a.eval s= .slice bd 0 cp->cp<vs.length->(bd=none->cp=0)->Oper.wpIn (MQ F.ro) 0 P ⟨some t,.call ⟨.builtin .append, #[s,x], #[T,T]⟩,ty,pos,after,none⟩ a w KC (λe a' w'=>e= .normal/\∃st',Q [] st'/\wH F m st' a' w'):=by
  intro bd cp hcx hlt hbn
  have hbytes:vs.length*i.bytes<=140737488355328:=by
   have:=yAe (show vs.length<=1073741824 by omega) (show i.bytes<=65536 by omega);omega
  have hrun:(Builtin.append_ #[T,T] ty #[.slice bd 0 cp,.slice (some ⟨b2,q,none⟩) vs.length cap]).run P w= .ok (.slice (some ⟨w.heap.size,0,none⟩) vs.length (grownCap w vs.length cp e)) (w.drew.alloc (.cells ((flat fy vs.length sz).toArray++Builtin.zeroCells z.cells (grownCap w vs.length cp e-vs.length)) e)):=by
   cases bd with
   |none=>
    obtain rfl:=hbn rfl;exact run_append_nil (P:=P) w T ty e i z hu hi hzz ⟨b2,q,none⟩ vs.length cap (flat fy vs.length sz) (by rw[zO,hss,e1]) hf1 zB zB zB
   |some b0=>
    have:=run_append_grow (P:=P) w T ty e i z hu hi hzz b0 0 cp [] zS (λj v h=>by simp at h) ⟨b2,q,none⟩ vs.length cap (flat fy vs.length sz) (by rw[zO,hss,e1]) hf1 zB zB (growslice_fits zB (by simpa using hbytes));simpa using this
  have HD:=HH.drew (w.drawn+1);have hzs:z.cells.size=te.zero.length:=by rw[<-e3];simp
  have hge:=grownCap_ge w vs.length cp e;have G:=xM.newFz HD ((flat fy vs.length sz).toArray++Builtin.zeroCells z.cells (grownCap w vs.length cp e-vs.length)) e
  have hv:=xE.newArr HD ((flat fy vs.length sz).toArray++Builtin.zeroCells z.cells (grownCap w vs.length cp e-vs.length)) e sz vs (grownCap w vs.length cp e) fy g1 (by unfold cC;omega) hge hS.wide
   (λi j hi hj=>by
    rw[zZc (by simp[zO];have:=zXt sz (show i+1<=vs.length by omega);rw[zYb,zY9]at this;omega)]
    simpa using qE fy hi hj) hS.one (λi y j v hy hv=>xE.evo (w:=w) (w':={w with drawn:=w.drawn+1}) (zXc _) (λ_ _ hd=>⟨rfl,hd⟩) (hS.rep.toF rfl i y j v hy hv))
  have G2:=xM.trans HH (xM.drew HH (w.drawn+1)) G;have G3:=kill G2.hok;exact FIN (by rw[hcx,hcv];exact hrun) (xM.trans HH G2 G3) (hv.wkF.evo G3.evo.size G3.evo.fz)
 generalize hcx:a.eval s=cx at h1
 cases h1 with
 |fz _ _ hf=>cases hf
 |dref _ _ _ _ hdd _=>exact absurd hdd (nd k)
 |ref0 _ _ sz' xs' st' bd hk'' hn=>exact GROW bd 0 hcx zB (λ_=>rfl)
 | ref _ _ _ sz' xs' st' b n cp hk'' hbm hn hc hs'=>
  rw[hk]at hk'';cases hk'';by_cases hroom:vs.length<=cp
  case neg=>exact GROW _ cp hcx zB (λh=>by cases h)
  obtain⟨cur,el,c1,c2,c3,c4⟩:=g8 b n hbm
  have hcs:cur.size=cp*sz:=by
   have:xX w b=cur.size:=by unfold xX World.shape?;rw[c1];rfl
   rw[<-this,<-hs',zYe]
  have hfit:vs.length*sz<=cur.size:=by rw[hcs];exact zXt _ hroom
  have hrun:=cA hP hT hd he w ty b 0 0 cp cur el c1 ⟨b2,q,none⟩ vs.length cap (flat fy vs.length sz) (by rw[zO,hss]) hf1 hf2 zB (by
   rw[zO,yA1];simpa using hfit)
  generalize hcur':(cur.toList.take (0+0*te.size)++flat fy vs.length sz++cur.toList.drop (0+0*te.size+(flat fy vs.length sz).length)).toArray=cur' at hrun;rw[yA1,zYe,yAc,zZj,zYe]at hcur'
  have hsz':cur'.size=cur.size:=by
   rw[<-hcur'];simp only[yAa,zXb,zYd,zZ6,zO];omega
  have G:=xM.step (w':=w.setRow b cur') HH k .dead [] zS (λj hj hn=>setRow_other w b j cur' (λe=>hn n (by rw[e];exact hbm))) rfl rfl rfl (λb n hm=>by simp at hm) (λb n _=>uP c1 hsz' b) (λe _=> .inl rfl) λ_=>zW _ _ _
  have hnb:¬xF X (cD β k []) b:=λhd=>by
   rcases hd with hx|⟨j,n',hm⟩
   ·exact HH.free k b n hbm hx
   ·by_cases hjk:j=k
    ·subst hjk;rw[zW]at hm;simp at hm
    ·rw[qG _ _ hjk]at hm;exact hjk (HH.disj _ _ _ _ _ hm hbm)
  refine FIN (by rw[hcx,hcv,yA1];exact hrun) G ?_;rw[zYe];have hne:vs≠[]:=λh0=>by rw[h0]at hpos;simp at hpos
  refine .sl false vs b 0 sz cp fy hne ⟨zYh (HH.lt b (.inr ⟨k,n,hbm⟩)) G.size,hnb,g1,by unfold cC;omega,hS.wide,λi j hi hj=>?_,hS.one⟩ hroom λi y j v hy hv=>(hS.rep.toF rfl i y j v hy hv).evo G.evo.size G.evo.fz
  rw[uD (setRow_heap w _ _ _ _ _ c1),<-hcur',zYe,zZz,zX3 (by
   rw[zO];have:=zXt sz (show i+1<=vs.length by omega);rw[zYb,zY9]at this
   omega)]
  exact qE fy hi hj⟩
end
end Av
end Go.Proofs.YtmamjhmoegjapaaGreat
