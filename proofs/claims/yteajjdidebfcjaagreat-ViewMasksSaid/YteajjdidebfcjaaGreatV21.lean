/- Part 21. -/
import Derived.Test.YteajjdidebfcjaaGreatV20
namespace Go.Proofs.YteajjdidebfcjaaGreat
namespace Av
open Tryz
set_option linter.all false
set_option maxRecDepth 4000
set_option maxHeartbeats 4000000
section
def RT (m:Ms):Prop:=m.tok=[]/\SvM m.kind m.args m.data
structure ItK (i:It):Prop where
 y:BY i.pay
 n:i.pay.length<=100000
 k:0<=i.kind/\i.kind<=255
 c:0<=i.code/\i.code<=100
def InS (i:In):Prop:=i.its.length<=1000/\∀x∈i.its,ItK x
theorem InS.b {i:In} (h:InS i):InB i:=⟨h.1,λx hx=>⟨(h.2 x hx).y,(h.2 x hx).n⟩⟩
structure EnK (e:En):Prop where
 a:0<=e.ag/\e.ag<4
 k:0<=e.ki/\e.ki<=255
 c:0<=e.co/\e.co<=100
def dT (l:List Int):((l.map gW).flatten).length<=5*l.length:=by
 induction l with
 |nil=>simp
 |cons a l ih=>
  have:=(hH a).2;rw[zZj,yAt,zX4,zYh];omega
def sv2 (k a b:Int) (hk:k=13∨k=14∨k=15) (ha:0<=a/\a<=4294967295) (hb:0<=b/\b<=4294967295):RT ⟨k,[],[a,b],[]⟩:=by
 have h:=dT [a,b];refine⟨rfl,?_⟩;dsimp only
 have hs:eI k=(2,0,0,0,0):=by rcases hk with rfl|rfl|rfl<;>rfl
 refine⟨zB,.cons ha (.cons hb .nil),by simp,λx hx=>(by cases hx),?_,?_,by simp only[zYh,zZc]at *; omega⟩
 ·rw[hs];exact .inr Z
 ·rw[hs];exact .inl ⟨rfl,rfl⟩
def zRn {c:Cf} {d:xI} (hI:qF c d):JU (fY d.rq):=by
 have ho:=hI.v.ok;generalize d.rq=l at *;intro x hx;unfold fY at hx;obtain⟨y,hy,hx⟩:=yBi.1 hx;obtain⟨r,hr,rfl⟩:=zZn.1 hy;have h:=ho r hr;have h0:=h.i0;have h1:=h.i1;have h2:=h.t0;have h3:=h.t1;simp only[zZg,yBj,yCo]at hx;omega
def zW4 {c:Cf} {d:xI} (hI:qF c d) {s now:Int} (n0:0<=now) (n1:now<=1073741824) {i:It} (hK:ItK i) {h:Hd} (hP:HdP c d s i now h):RT h.p:=by
 have hn:=hI.n;by_cases he:h.e=0
 ·obtain⟨a,_,hr⟩:=hP.yes he
  rcases hr with⟨_,e,_⟩|⟨_,e,_⟩|⟨_,e,_⟩|⟨_,k,sec,hk,⟨hs,hy⟩,e⟩|⟨_,x,x0,x1,e⟩
  ·rw[e];exact sv2 13 _ _ (.inl Z) zB zB
  ·have h4:=hI.v.n4;have hb:=zRn hI;have hl:=RK d.rq;have hf:=dT (fY d.rq);rw[e];refine⟨rfl,by dsimp only[NK];omega,hb,by dsimp only[NK];omega,λx hx=>(by cases hx),.inr Z,.inr ⟨.inl Z,(d.rq.length:Int),?_,zB,by show(0:Int)<=_;omega,by show _<=(4:Int);omega⟩,?_⟩
   ·show((fY d.rq).length:Int)=0+2*(d.rq.length:Int)
    omega
   ·show(((fY d.rq).map gW).flatten).length+1+0<=200
    omega
  ·have h8:=hI.t8;have hv:=hI.vh;have hq:=hI.q;have ha:=hI.a.q;have hl:=hI.bl;have hb:=hI.a.b;have hfr:HI d.rg.tk<=8:=by rw[<-h8];exact yAd _ _
   rw[e];have hf:=dT (ZF d).args;refine⟨rfl,by dsimp only[ZF];omega,.cons zB (.cons zB (.cons zB (.cons zB .nil))),by simp[ZF],λx hx=>(by cases hx),.inr Z,.inl ⟨rfl,rfl⟩,?_⟩
   show(((ZF d).args.map gW).flatten).length+1+0<=200
   have:(ZF d).args.length=4:=rfl;omega
  ·rw[e];have hf:=dT [(k:Int)];refine⟨rfl,by dsimp only;omega,.cons zB .nil,by simp,?_,.inr ?_,.inl ⟨rfl,rfl⟩,?_⟩
   ·intro x hx;simp only[zZg]at hx
    rcases hx with rfl|rfl|hx
    ·omega
    ·omega
    ·exact hy x hx
   ·show((d.rg.num::(k:Int)::sec).length:Int)=10
    simp only[zYh];omega
   ·show(([(k:Int)].map gW).flatten).length+1+(d.rg.num::(k:Int)::sec).length<=200
    simp only[zYh,zZc]at hf⊢;omega
  ·rw[e];exact sv2 14 _ _ (.inr (.inl Z)) (by have:=hK.k;omega) ⟨x0,x1⟩
 ·have hb:=hP.eb hK.c;rw[(hP.no he).2.1];exact sv2 15 _ _ (.inr (.inr Z)) (by have:=hK.k;omega) zB
def zW5 {c:Cf} {d:xI} {s now:Int} {i:It} {h:Hd} (hP:HdP c d s i now h):h.p.kind≠17:=by
 by_cases he:h.e=0
 ·obtain⟨a,_,hr⟩:=hP.yes he
  rcases hr with⟨_,e,_⟩|⟨_,e,_⟩|⟨_,e,_⟩|⟨_,k,sec,hk,⟨hs,hy⟩,e⟩|⟨_,x,x0,x1,e⟩
  all_goals (rw[e];intro h17;revert h17;first|decide|(intro h17;cases h17))
 ·obtain⟨_,e,_⟩:=hP.no he;rw[e];intro h17;cases h17
def GD (now:Int) (l:List Rq):Prop:=∀r∈l,∀g∈r.legs,g.sc<=now
theorem GD.mono {a b:Int} {l:List Rq} (h:GD a l) (hab:a<=b):GD b l:=λr hr g hg=>Int.le_trans (h r hr g hg) hab
theorem GD.of {now:Int} (n0:0<=now) {l l':List Rq} (h:GD now l) (hs:WQ l l'):GD now l':=λr hr g hg=>by
 rcases hs r hr g hg with h1|⟨r0,h1,_,g0,h2,_,_,h3⟩
 ·omega
 ·rw[<-h3];exact h r0 h1 g0 h2
theorem GD.mk {now:Int} (n0:0<=now) {l:List Rq} (h:GD now l):GD now (mkQ l now):=λr hr g hg=>by
 unfold mkQ at hr;obtain⟨r0,hr0,rfl⟩:=zZn.1 hr;unfold mkR at hg;obtain⟨g0,hg0,rfl⟩:=zZn.1 hg;unfold YD;have:=h r0 hr0 g0 hg0;split
 ·split
  ·exact yAc _
  ·exact this
 ·show(-1:Int)<=now
  omega
theorem zF7 {c:Cf} {s:Nat} {now:Int} (n0:0<=now) (n1:now<=1073741824) {its:List It} (hK:∀x∈its,ItK x) {f:Nat->TS} {d:xI} (he:∀e∈(f 0).en,EnK e) (h0:(f 0).rs=[])
  (hs:∀k,k<its.length->StR c (s:Int) now (its.getD k default) (f k) (f (k+1))) (hd:∀k,FX c d (f k).d):∀k,k<=its.length->(∀m∈(f k).rs,RT m/\m.kind≠17)/\(∀e∈(f k).en,EnK e)/\(∀j:Nat,j≠s->(f k).d.au[j]? =(f 0).d.au[j]?)/\WQ (f 0).d.rq (f k).d.rq
 |0,_=>⟨λm hm=>(by rw[h0]at hm;cases hm),he,λ_ _=>rfl,WQ.refl _⟩
 | k+1,hk=>by
  obtain⟨i1,i2,i3,i4⟩:=zF7 n0 n1 hK he h0 hs hd k zB;obtain⟨h,_,hP,hb⟩:=hs k zB;have hI:=(hd k).i;have hit:=hK _ (zX its k zB);have hn:=hI.n;rw[hb];refine⟨λm hm=>?_,λe he=>?_,λj hj=>?_,i4.trans hP.sc⟩
  ·rcases zYy.1 hm with hm|hm
   ·exact i1 m hm
   ·rw[zZd.1 hm];exact⟨zW4 hI n0 n1 hit hP,zW5 hP⟩
  ·rcases zYy.1 he with he|he
   ·exact i2 e he
   ·rw[zZd.1 he];exact⟨hn,hit.k,hP.eb hit.c⟩
  ·dsimp only;rw[hP.ax j zB,i3 j hj]
structure DR where
 d:xI
 R:List (List Ms)
 en:List En
 ks:List Int
def drT (r:DR):AV:=tkT r.d r.R r.en r.ks
structure DtP (c:Cf) (now:Int) (d:xI) (ins:List In) (r:DR):Prop where
 i:qF c r.d
 ag:r.d.rg.ag=d.rg.ag
 num:r.d.rg.num=d.rg.num
 rn:r.R.length=d.au.length
 rl:∀s,s<d.au.length->(r.R.getD s []).length=(cS ins s).length
 rv:∀l∈r.R,l.length<=1000/\∀m∈l,RT m
 rk:∀l∈r.R,∀m∈l,m.kind≠17
 el:r.en.length<=2000
 en:∀e∈r.en,EnK e
 kl:r.ks.length<=2000
 ks:∀x∈r.ks,0<=x/\x<(c.js.length:Int)
 sc:GD now d.rq->GD now r.d.rq
 au:∀s,s<d.au.length->cS ins s=[]->r.d.au[s]? =some (RA ins s (d.au.getD s default))
 na:NoT d.rg.tk->NoT r.d.rg.tk/\r.d.au=auF ins d.au
def zU5 {ins:List In} (h:∀i∈ins,InS i) (s:Nat):∀x∈cS ins s,ItK x:=by
 unfold cS;split
 ·rename_i hs;exact(h _ (zX ins s hs.1)).2
 ·exact λx hx=>by cases hx
theorem zF8 {c:Cf} {now:Int} (n0:0<=now) (n1:now<=1073741824) {ins:List In} (hin:∀i∈ins,InS i) {d:xI} {zF:Nat->SS} (h0:zF 0=⟨d,[],[],[]⟩) (hz:∀s,FX c d (zF s).d/\SeR c now ins s (zF s) (zF (s+1))):
  ∀s,(zF s).R.length=s/\(∀j,j<s->((zF s).R.getD j []).length=(cS ins j).length)/\(∀l∈(zF s).R,l.length<=1000/\∀m∈l,RT m/\m.kind≠17)/\(∀e∈(zF s).en,EnK e)/\(∀j,(s<=j∨cS ins j=[])->(zF s).d.au[j]? =d.au[j]?)/\WQ d.rq (zF s).d.rq
 |0=>by rw[h0];exact⟨rfl,λj hj=>absurd hj (yAp _),λl hl=>(by cases hl),λe he=>(by cases he),λ_ _=>rfl,WQ.refl _⟩
 | s+1=>by
  obtain⟨i0,i1,i2,i3,i4,i5⟩:=zF8 n0 n1 hin h0 hz s;obtain⟨f,f0,f1,f2,f3⟩:=(hz s).2;have hsb:=(FY (λi hi=>(hin i hi).b) s).1;obtain⟨r1,r2,r3,r4⟩:=zF7 n0 n1 (zU5 hin s) (d:=(zF s).d) (f:=f) (by rw[f0];exact i3) (by rw[f0]) f1 (λk=>(f2 k).1) _ (zX7 _);rw[f3];dsimp only;have hrl:=(f2 (cS ins s).length).2.1;refine⟨by rw[zX4,yAk,i0],λj hj=>?_,λl hl=>?_,r2,λj hj=>?_,i5.trans (by rw[f0]at r4;exact r4)⟩
  ·rw[zYc];by_cases h:j=s
   ·subst h;rw[zYt zB,i0,yAa];exact hrl
   ·rw[zY0 zB,<-zYc];exact i1 j zB
  ·rcases zYy.1 hl with hl|hl
   ·exact i2 l hl
   ·rw[zZd.1 hl];exact⟨zB,r1⟩
  ·by_cases h:j=s
   ·subst h;have he:cS ins j=[]:=hj.elim (λh=>absurd h zB) id;rw[he,zZc,f0];exact i4 j (.inl (zX7 _))
   ·rw[r3 j h,f0];exact i4 j (hj.imp (λh=>by omega) id)
def zF9 (c:Cf) (d:xI) (hI:qF c d) (ins:List In) (hil:ins.length=d.au.length) (hin:∀i∈ins,InS i) (now:Int) (n0:0<=now) (n1:now<=1073741824):
  ∃r:DR,DtP c now d ins r/\zO 94 [vL c,zK d,zD kX ins,iA now] [] (drT r) []:=by
 have hib:∀i∈ins,InB i:=λi hi=>(hin i hi).b
 have hau:d.au.length=1∨d.au.length=2:=by have:=hI.au;have:=hI.a.e;omega
 obtain⟨zF,z0,hz⟩:=zNe c now n0 n1 ins hib (dkU d ins) (zH4 hI ins);have hs:=zF8 n0 n1 hin z0 (λs=>⟨(hz s).1,(hz s).2.2⟩) d.au.length;obtain⟨hT,⟨_,e2,e3,e4⟩,_⟩:=hz d.au.length;refine⟨⟨dkM (zF d.au.length).d now,(zF d.au.length).R,(zF d.au.length).en,(zF d.au.length).ks⟩,⟨zQk hT.i now n0 n1,hT.a,hT.n,hs.1,hs.2.1,λl h=>⟨(hs.2.2.1 l h).1,λm hm=>((hs.2.2.1 l h).2 m hm).1⟩,λl h m hm=>((hs.2.2.1 l h).2 m hm).2,by dsimp only;omega,hs.2.2.2.1,by dsimp only;omega,e4,λh9=>GD.mk n0 (GD.of n0 h9 hs.2.2.2.2.2),λs hsl he=>?_,hT.t⟩,?_⟩
 ·show(zF d.au.length).d.au[s]? =_
  rw[hs.2.2.2.2.1 s (.inr he)]
  show(auF ins d.au)[s]? =_
  unfold auF;rw[qD,zX3 hsl,zX3 hsl]
 ·show zO 94 [vL c,zK d,zD kX ins,iA now] [] (tkT (dkM (zF d.au.length).d now) (zF d.au.length).R (zF d.au.length).en (zF d.au.length).ks) []
  rcases hau with hn|hn
  ·rw[hn];exact zEh hI ins zB hib now n0 n1 zF z0 hn zB hz
  ·rw[hn];exact zEi hI ins zB hib now n0 n1 zF z0 hn zB hz
open Classical in
noncomputable def WC (c:Cf) (d:xI) (ins:List In) (now:Int):DR:=if h:∃r:DR,DtP c now d ins r/\zO 94 [vL c,zK d,zD kX ins,iA now] [] (drT r) []then h.choose else⟨default,[],[],[]⟩
def zD1 (c:Cf) (d:xI) (hI:qF c d) (ins:List In) (hil:ins.length=d.au.length) (hin:∀i∈ins,InS i) (now:Int) (n0:0<=now) (n1:now<=1073741824):
  DtP c now d ins (WC c d ins now)/\zO 94 [vL c,zK d,zD kX ins,iA now] [] (drT (WC c d ins now)) []:=by
 have h:=zF9 c d hI ins hil hin now n0 n1;unfold WC;rw[dif_pos h];exact h.choose_spec
def GZ (c:Cf) (d:xI) (ins:List In) (now:Int):(WC c d ins now).en.length<=2000/\(WC c d ins now).ks.length<=2000:=by
 unfold WC;split
 ·rename_i h;have:=h.choose_spec.1;exact⟨this.el,this.kl⟩
 ·exact⟨zYl _,zYl _⟩
end
def SV {b:List Int} (hb:BY b) {p:It×Nat} (h:ZG b=some p):(1<=p.2/\p.2<=b.length)/\(b.length<=100000->ItK p.1):=by
 unfold ZG at h;split at h
 ·cases h
 rename_i h0;split at h
 ·cases h;exact⟨⟨zX7 _,by dsimp only;omega⟩,λ_=>⟨jP,zYl _,by dsimp only;omega,by dsimp only;omega⟩⟩
 split at h
 ·cases h
 split at h
 ·cases h;exact⟨⟨zX7 _,by dsimp only;omega⟩,λ_=>⟨jP,zYl _,by dsimp only;omega,by dsimp only;omega⟩⟩
 split at h
 ·cases h
 split at h
 ·cases h;exact⟨⟨zX7 _,by dsimp only;omega⟩,λ_=>⟨jP,zYl _,by dsimp only;omega,by dsimp only;omega⟩⟩
 split at h
 ·cases h;exact⟨⟨by dsimp only;omega,by dsimp only;omega⟩,λ_=>⟨jP,zYl _,by dsimp only;omega,by dsimp only;omega⟩⟩
 split at h
 ·cases h;exact⟨⟨by dsimp only;omega,by dsimp only;omega⟩,λ_=>⟨jP,zYl _,by dsimp only;omega,by dsimp only;omega⟩⟩
 ·cases h;rename_i hk;refine⟨⟨by dsimp only;omega,by dsimp only;omega⟩,λhl=>⟨λx hx=>hb x (zY1 (zZl hx)),by dsimp only;rw[zYn,zYv];omega,?_,by dsimp only;omega⟩⟩;dsimp only;omega
def fB:Nat->List Int->List (It×Nat)
 |0,_=>[]
 |n+1,b=>match ZG b with
  |none=>[]
  |some p=>p::fB n (b.drop p.2)
def zMi {n:Nat}:∀{b:List Int},BY b->b.length<=100000->∀p∈fB n b,ItK p.1:=by
 induction n with
 |zero=>intro b _ _ p hp;cases hp
 | succ n ih=>
  intro b hb hl p hp;unfold fB at hp;split at hp
  ·cases hp
  ·rename_i q hq;have h:=SV hb hq
   rcases zZg.1 hp with rfl|hp
   ·exact h.2 hl
   ·exact ih (λx hx=>hb x (zY1 hx)) QL p hp
def zD2 (l:List (It×Nat)):Nat:=(l.map λp=>p.2).sum
def zBv {n:Nat}:∀{b:List Int},BY b->zD2 (fB n b)<=b.length:=by
 induction n with
 |zero=>intro b _;exact zYl _
 |succ n ih=>
  intro b hb;unfold fB;split
  ·exact zYl _
  ·rename_i q hq;have h:=SV hb hq;have h2:=ih (b:=b.drop q.2) (λx hx=>hb x (zY1 hx));rw[zYv]at h2;simp only[zD2,zZj,List.sum_cons]at *; omega
def psH (b:List Int):List (Nat×xN):=[(1061,.box [zD yA b])]
def psL (b:List Int):List (List AV):=(fB b.length b).map λp=>[wO p.1,iA (p.2:Int)]
def zGa (b:List Int):zO 196 [zD yA b] [] (.fn 217 [.ptr 1061 0 0]) (psH b):=by
 unfold psH;refine eM call196 λF hF=>?_
 repeat' (first|(refine zE ?_;first|refine qE (jM (v:=AV.sl _ _) 1061 Z Z) Z Z Z ?_|refine wL tok Z Z ?_|refine uI ?_)|(first|refine xS ?_|refine xC ?_|refine vQ Z ?_|refine yC Z ?_|refine zU Z ?_|refine xH Z (λhc=>?_) λhc=>?_|refine yZ ?_|refine yU ?_|refine xB ?_|refine yQ ?_))
 exact zL [1061] Z Z Z Z
def zGb {n:Nat} {b:List Int} (hb:BY b) (hn:b.length<=n):fB n b=match ZG b with
  |none=>[]
  |some p=>p::fB (n-1) (b.drop p.2):=by
 cases n with
 |zero=>
  have h0:b=[]:=zYz zB;subst h0;rfl
 |succ n=>rfl
def zD3 (b:List Int) (hb:BY b) (hl:b.length<=1000000):aP prog 217 [.ptr 1061 0 0] (psH b) (psL b):=by
 refine cI func217 Z (λargs w=>call217 args w) Z Z Z (λF y hro hit hY=>?_);unfold psH;refine WW ?_;refine gM (b.length+1) [1061] [1061] [0] [3,1000000,0] Z (λzn T U zs=>∃(r:List Int) (pre:List (It×Nat)) (n:Nat),(fB b.length b=pre++fB n r/\BY r/\r.length<=n/\n<=1000000/\zn=n+1)/\zs=⟨(3,zD yA r)::(1000000,.gh pre.length)::T,U⟩) ?_;(conv=>whnf);refine⟨?_,?_⟩
 ·exact⟨b,[],b.length,⟨rfl,hb,zX7 _,hl,rfl⟩,rfl⟩
 rintro zn st ⟨r,pre,n,⟨hp,hr,hrn,hn1,rfl⟩,rfl⟩;have kp:=zDl r hr zB;rw[zGb hr hrn]at hp;have hrl:=zA yA r;unfold psL at hY⊢
 cases h:ZG r with
 |none=>
  rw[h]at kp hp;rw[show zFg none= .tup [.agg [iA 0,iA 0,.sl false []],iA 0,bA false]from Z]at kp;dsimp only at hp;rw[zY4]at hp;refine zY kp ?_;exact gN Z (.inl zC5)
 | some p=>
  rw[h]at kp hp;obtain⟨hp1,hp2⟩:=(SV hr h).1;obtain⟨it,k⟩:=p;dsimp only at hp hp1 hp2;rw[show zFg (some (it,k))= .tup [wO it,iA (k:Int),bA true]from Z]at kp
  have hys:((fB b.length b).map λp=>[wO p.1,iA (p.2:Int)])[pre.length]? =some [wO it,iA (k:Int)]:=by
   rw[hp,zX8,zYt (zX7 _),yAa];rfl
  have hlen:pre.length<((fB b.length b).map λp=>[wO p.1,iA (p.2:Int)]).length:=by rw[zX5,hp];simp
  have hn0:1<=n:=by omega
  generalize ((fB b.length b).map λp=>[wO p.1,iA (p.2:Int)])=xs at *;unfold wO at*
  (repeat' (first|refine uJ ?_|apply xL|apply wB|intro hc|(refine zE ?_;refine xJ ?_;first|(first|(refine vP 102 ?_;first|refine zP (zH (kp) Z Z Z Z Z) Z ?_|refine qE (zH (kp) Z Z Z Z Z) Z Z Z ?_|refine ZJ (zH (kp) Z Z Z Z Z) Z Z Z ?_))|(refine LU ?_;refine UU hit hY Z Z hys Z Z Z ?_ ?_))|(refine zE ?_;first|refine SM ?_)|fail))
  ·refine⟨n-1+1,zB,r.drop k,pre++[(it,k)],n-1,⟨by rw[hp,zYw];rfl,λx hx=>hr x (zY1 hx),by rw[zYv];omega,zB,rfl⟩,?_⟩;rw[zX4,yAk];rfl
  ·exact gN Z (.inr zB)
structure Pc where
 fr:Nat
 k:Nat
 it:It
def pcA (p:Pc):AV:= .agg [iA (p.fr:Int),iA ((p.fr:Int)+(p.k:Int)),iA p.it.code,iA p.it.kind,zD yA p.it.pay]
def uP:Nat->List Int->Nat->List Pc
 |0,_,_=>[]
 |n+1,r,a=>match ZG r with
  |none=>[]
  |some p=>if p.1.code=0 then⟨a,p.2,p.1⟩::uP n (r.drop p.2) (a+p.2)else []
def vfL (b:List Int):List (List AV):=(uP b.length b 0).map λp=>[pcA p]
def LE (b:List Int):zO 68 [zD yA b] [] (.fn 101 [.ptr 1061 0 0]) (psH b):=by
 unfold psH;refine eM call68 λF hF=>?_
 repeat' (first|(refine zE ?_;first|refine qE (jM (v:=AV.sl _ _) 1061 Z Z) Z Z Z ?_|refine wL tok Z Z ?_|refine uI ?_)|(first|refine xS ?_|refine xC ?_|refine vQ Z ?_|refine yC Z ?_|refine zU Z ?_|refine xH Z (λhc=>?_) λhc=>?_|refine yZ ?_|refine yU ?_|refine xB ?_|refine yQ ?_))
 exact zL [1061] Z Z Z Z
def zGc {n:Nat} {b:List Int} (hn:b.length<=n) (a:Nat):uP n b a=match ZG b with
  |none=>[]
  |some p=>if p.1.code=0 then⟨a,p.2,p.1⟩::uP (n-1) (b.drop p.2) (a+p.2)else []:=by
 cases n with
 |zero=>
  have h0:b=[]:=zYz zB;subst h0;rfl
 |succ n=>rfl
def QU {b:List Int} {p:It×Nat} (h:ZG b=some p):1<=p.2:=by
 unfold ZG at h
 repeat' split at h
 all_goals (cases h)
 all_goals (dsimp only;omega)
theorem FA:∀{n m:Nat} {r:List Int} {a:Nat},r.length<=n->r.length<=m->uP n r a=uP m r a
 |0,m,r,a,h,_=>by
  have h0:r=[]:=zYz zB;subst h0
  cases m<;>rfl
 |n+1,0,r,a,_,h=>by
  have h0:r=[]:=zYz zB;subst h0;rfl
 | n+1,m+1,r,a,h1,h2=>by
  unfold uP
  cases hp:ZG r with
  |none=>rfl
  | some p=>
   dsimp only;have hk:1<=p.2:=QU hp
   have h0:r.length≠0:=λh0=>by
    have h0:r=[]:=zYz h0;subst h0;cases hp
   rw[FA (n:=n) (m:=m) QL QL]
def PR (b:List Int) (hb:BY b) (hl:b.length<=1000000):aP prog 101 [.ptr 1061 0 0] (psH b) (vfL b):=by
 refine cI func101 Z (λargs w=>call101 args w) Z Z Z (λF y hro hit hY=>?_);unfold psH;refine WW ?_;refine gM (b.length+1) [1061] [1061] [0,1] [3,1000000,0,1] Z (λzn T U zs=>∃(a:Nat) (pre:List Pc) (n:Nat),(uP b.length b 0=pre++uP n (b.drop a) a/\a+n=b.length/\zn=n+1)/\zs=⟨(3,iA (a:Int))::(1000000,.gh pre.length)::T,U⟩) ?_;(conv=>whnf);refine⟨?_,?_⟩
 ·exact⟨0,[],b.length,⟨rfl,zB,rfl⟩,rfl⟩
 rintro zn st ⟨a,pre,n,⟨hp,han,rfl⟩,rfl⟩;have hbl:=zA yA b;by_cases hn:n=0
 ·subst hn;have hp:uP b.length b 0=pre:=by rw[hp];exact zY4 _
  unfold vfL at hY⊢;refine WW ?_;exact bB Z (.inl zC5)
 have hr:BY (b.drop (a:Int).toNat):=λx hx=>hb x (zY1 hx)
 have hdl:(b.drop (a:Int).toNat).length=n:=by rw[zYv];omega
 have kp:=zDl (b.drop (a:Int).toNat) hr zB;rw[show b.drop a=b.drop (a:Int).toNat from Z,zGc (n:=n) (b:=b.drop (a:Int).toNat) zB]at hp;unfold vfL at hY⊢
 cases h:ZG (b.drop (a:Int).toNat)with
 |none=>
  rw[h]at kp hp;rw[show zFg none= .tup [.agg [iA 0,iA 0,.sl false []],iA 0,bA false]from Z]at kp;dsimp only at hp;rw[zY4]at hp;refine zY kp ?_;exact gN Z (.inl zC5)
 | some p=>
  rw[h]at kp hp;obtain⟨hp1,hp2⟩:=(SV hr h).1;obtain⟨it,k⟩:=p;dsimp only at hp hp1 hp2;rw[show zFg (some (it,k))= .tup [wO it,iA (k:Int),bA true]from Z]at kp;by_cases hc:it.code=0
  ·rw[zX3 hc]at hp
   have hys:((uP b.length b 0).map λp=>[pcA p])[pre.length]? =some [pcA ⟨a,k,it⟩]:=by
    rw[hp,zX8,zYt (zX7 _),yAa];rfl
   have hlen:pre.length<((uP b.length b 0).map λp=>[pcA p]).length:=by rw[zX5,hp];simp
   have hnx:uP b.length b 0=(pre++[⟨a,k,it⟩])++uP (n-k) (b.drop (a+k)) (a+k):=by
    rw[hp,zYw,show(b.drop (a:Int).toNat).drop k=b.drop (a+k)from yCc]
    show _++(_::uP (n-1) _ _)=_++(_::uP (n-k) _ _)
    rw[FA (n:=n-1) (m:=n-k) QL QL]
   generalize ((uP b.length b 0).map λp=>[pcA p])=xs at *;unfold pcA at hys;dsimp only at hys;unfold wO at*
   (repeat' (first|refine uJ ?_|apply xL|apply wB|intro hc|(refine zE ?_;refine xJ ?_;first|(first|(refine vP 102 ?_;first|refine zP (zH (kp) Z Z Z Z Z) Z ?_|refine qE (zH (kp) Z Z Z Z Z) Z Z Z ?_|refine ZJ (zH (kp) Z Z Z Z Z) Z Z Z ?_))|(refine LU ?_;refine UU hit hY Z Z hys Z Z Z ?_ ?_))|(refine zE ?_;first|refine SM ?_)|fail))
   ·refine⟨n-k+1,zB,a+k,pre++[⟨a,k,it⟩],n-k,⟨hnx,zB,rfl⟩,?_⟩;rw[zX4,yAk,yDa];rfl
   ·exact gN Z (.inr zB)
  ·rw[zX2 hc,zY4]at hp;unfold wO at *;refine zY kp ?_;exact gN Z (.inl zC5)
def whE (l:List Pc):Nat:=l.foldl (λ_ p=>p.fr+p.k) 0
def whF (b:List Int):Bool:=decide (whE (uP b.length b 0)=b.length)
def PS {l:List Pc} {i:Nat} {p:Pc} (h:l[i]? =some p):whE (l.take (i+1))=p.fr+p.k:=by
 unfold whE;rw[yAj,h,yC3];rfl
def zRo {n:Nat}:∀{r:List Int} {a:Nat},BY r->∀p∈uP n r a,a<=p.fr/\1<=p.k/\p.fr+p.k<=a+r.length/\p.it.code=0:=by
 induction n with
 |zero=>intro r a _ p hp;cases hp
 | succ n ih=>
  intro r a hr p hp;unfold uP at hp;split at hp
  ·cases hp
  ·rename_i q hq;have h:=(SV hr hq).1;split at hp
   ·rename_i hc
    rcases zZg.1 hp with rfl|hp
    ·exact⟨zX7 _,h.1,by dsimp only;omega,hc⟩
    ·obtain⟨h1,h2,h3,h4⟩:=ih (λx hx=>hr x (zY1 hx)) p hp;rw[zYv]at h3;exact⟨zB,h2,zB,h4⟩
   ·cases hp
def zMj (b:List Int) (hb:BY b) (hl:b.length<=1000000):zO 67 [zD yA b] [] (bA (whF b)) []:=by
 have kp:=LE b;have ht:=PR b hb hl;have hL:vfL b=(uP b.length b 0).map λp=>[pcA p]:=rfl
 have hbd:=zRo (n:=b.length) (a:=0) hb;have hbl:=zA yA b
 have hw:whF b=decide (whE ((uP b.length b 0).take (vfL b).length)=b.length):=by
  rw[hL,zX5,zX6];rfl
 rw[hw];unfold psH at kp ht;refine eM call67 λF hF=>?_
 refine zY kp ?_
 refine vM hF ht Z [3] [0,3] Z Z Z Z Z Z Z Z Z (λk ys h=>?_) (λi=>[(3,.box [iA (whE ((uP b.length b 0).take i):Int)])]) (λi=>whE ((uP b.length b 0).take i)<=b.length)
  (T:=[(0,zD yA b),(3,.ptr 3 0 0)]) Z (zYl _) (λi ys q hys hI F1 h1 h2=>?_) (λhI=>?_)
 ·rw[hL,zX8,zYf]at h;obtain⟨x,_,rfl⟩:=h;rfl
 ·rw[hL,zX8,zYf]at hys;obtain⟨p,hp,rfl⟩:=hys;rw[PS hp];obtain⟨b1,b2,b3,_⟩:=hbd p (zZk hp);clear hL hbd hp hw ht kp;unfold pcA;refine WW ?_;refine⟨rfl,λF2 g1 g2=>?_⟩;dsimp only;refine WW ?_;rw[yDa];exact⟨rfl,zB⟩
 ·generalize whE ((uP b.length b 0).take (vfL b).length)=e at *;by_cases h:e=b.length
  ·rw[zYa h];refine WW ?_;exact zJ
  ·rw[zYb h];refine WW ?_;exact zJ
def owR:List Ag->Int->Nat->Int×Int
 | [],_,_=>(-1,-1)
 |a::l,s,i=>if s<a.ses then((i:Int),s)else owR l (s-a.ses) (i+1)
def owF (c:Cf) (s:Int):Int×Int:=if s<0 then(-1,-1)else owR c.ags s 0
def zBw (c:Cf) (hw:AD c.ags) (s:Int) (hs:s<=1000000):zO 61 [vL c,iA s] [] (.tup [iA (owF c s).1,iA (owF c s).2]) []:=by
 have hal:=zA vU c.ags;have h4:=hw.1;unfold vL zD;by_cases h0:s<0
 ·rw[show owF c s=(-1,-1)from zX3 h0];refine eM call61 λF hF=>?_
  refine WW ?_;exact zJ
 rw[show owF c s=owR c.ags s 0 from zX2 h0];refine eM call61 λF hF=>?_
 refine WW ?_;refine kN (c.ags) [] [] [11,12] [1,13,11,12] Z (λi pre T U zs=>∃(z:Int),(owR c.ags s 0=owR (c.ags.drop pre.length) z pre.length/\0<=z/\z<=s)/\zs=⟨(1,iA z)::(13,iA i)::T,U⟩) ?_;(conv=>whnf);refine⟨?_,?_,?_⟩
 ·exact⟨s,⟨rfl,zB,yAc _⟩,rfl⟩
 ·rintro i pre x post st hx hi ⟨z,⟨q1,q2,q3⟩,rfl⟩;have hy:=xQ vU hx hi;have hlt:=yW hx hi;have hxs:=hw.2 x (vF hx);rw[show c.ags.drop pre.length=x::post by rw[hx,yDy],hi]at q1;have hd:c.ags.drop (pre++[x]).length=post:=by rw[hx,show pre++x::post=(pre++[x])++post by simp,yDy]
  have hl1:(pre++[x]).length=i+1:=by simp[hi]
  rw[show owR (x::post) z i=if z<x.ses then((i:Int),z)else owR post (z-x.ses) (i+1)from Z]at q1;clear hx;unfold vU at hy;by_cases h:z<x.ses
  ·rw[zX3 h]at q1;rw[q1];dsimp only;refine WW ?_;exact zJ
  ·rw[zX2 h]at q1;refine WW ?_;exact⟨z-x.ses,⟨by rw[hd,hl1];exact q1,zB,zB⟩,rfl⟩
 ·rintro st ⟨z,⟨q1,q2,q3⟩,rfl⟩;rw[yBs]at q1;rw[q1];refine WW ?_;exact zJ
def KT (c:Cf) (a:Int) (e:Ev):Bool:=decide (1<=e.k/\e.k<=3)&&decide ((owF c e.s).1≠ -1/\(owF c e.s).1=a)
def zGd (c:Cf) (hw:AD c.ags) (a:Int) (e:Ev) (he:LG e):zO 60 [vL c,iA a,dU e] [] (bA (KT c a e)) []:=by
 have k:=zBw c hw e.s (by have:=he.s;omega);unfold KT;have hk:=he.k;generalize owF c e.s=o at *;obtain⟨o1,o2⟩:=o;obtain⟨ek,es,ea,eb,ey⟩:=e;dsimp only at *;unfold dU;dsimp only;unfold vL at *;by_cases h:1<=ek/\ek<=3
 ·rw [zYa h,zYr];have h3:ek=1∨ek=2∨ek=3:=by omega
  by_cases h1:o1= -1
  ·subst h1;rw[zYb zW]
   rcases h3 with rfl|rfl|rfl
   all_goals
    refine eM call60 λF hF=>?_
    refine zY k ?_;exact zJ
  ·by_cases h2:o1=a
   ·rw[zYa ⟨h1,h2⟩]
    rcases h3 with rfl|rfl|rfl
    all_goals
     refine eM call60 λF hF=>?_
     refine zY k ?_;exact zJ
   ·rw[zYb (λh=>h2 h.2)]
    rcases h3 with rfl|rfl|rfl
    all_goals
     refine eM call60 λF hF=>?_
     refine zY k ?_;exact zJ
 ·rw[zYb h,zZv];have h3:3<ek:=by omega
  refine eM call60 λF hF=>?_
  refine WW ?_;exact zJ
def mnB (c:Cf) (a:Int) (e:Ev):Bool:=decide (e.k=6)||((decide (e.k=4)&&decide (e.a=a))||KT c a e)
def mnF (c:Cf) (a:Int) (l:List Ev):List Ev:=l.filter (mnB c a)
def zMk (c:Cf) (hw:AD c.ags) (a:Int) (l:List Ev) (hl:l.length<=400) (he:∀e∈l,LG e):zO 25 [vL c,zD dU l,iA a] [] (zD dU (mnF c a l)) []:=by
 have hll:=zA dU l;have hko:=λe (h:LG e)=>zGd c hw a e h
 unfold vL zD at *;refine eM call25 λF hF=>?_
 refine WW ?_;have tk4:l.take (min ((l.map dU).length:Int) 400).toNat=l:=zYe LZ;rw[tk4];refine xA 7 1001 5 Z Z Z ?_;refine yT (l) [1001,3] [3] [2,3,14,15] [7,16,2,3,14,15] Z (λi pre T U=>⟨(7,.ref 1001 0 ((mnF c a pre).map dU).length)::(16,iA i)::T,(1001,.arr 5 ((mnF c a pre).map dU) true)::U⟩) ?_;(conv=>whnf);refine⟨by rfl,?_,?_⟩
 ·intro i pre x post hx hi;have hy:=xQ dU hx hi;have hlt:=yW hx hi;have hxe:=he x (vF hx);have kx:=hko x hxe;have kc:=zR6 x (by have:=hxe.n;omega);have hfl:(mnF c a pre).length<=pre.length:=yAd _ _;have hfm:=zA dU (mnF c a pre)
  have e1:mnF c a (pre++[x])=mnF c a pre++(if mnB c a x=true then [x]else []):=by
   unfold mnF;rw[yBv]
   congr 1
   by_cases h:mnB c a x=true
   ·rw[zX3 h,List.filter_cons_of_pos h];rfl
   ·rw[zX2 h,List.filter_cons_of_neg h];rfl
  rw[e1,zYd];have hb:mnB c a x=(decide (x.k=6)||((decide (x.k=4)&&decide (x.a=a))||KT c a x)):=rfl;have hk:=hxe.k;clear hx e1;generalize (mnF c a pre).map dU=X at *;generalize KT c a x=ob at *;generalize mnB c a x=mb at *;by_cases h6:x.k=6
  ·rw[zYa h6,yBh]at hb;subst hb;rw[zX3 Z];unfold dU at *;refine EV (wZ kx kc) ?_;rfl
  ·rw[zYb h6,yA7]at hb;by_cases h4:x.k=4
   ·by_cases ha:x.a=a
    ·rw[zYa h4,zYa ha,zYr,yBh]at hb;subst hb;rw[zX3 Z];unfold dU at *;refine EV (wZ kx kc) ?_;rfl
    ·rw[zYb ha,yBt,yA7]at hb;subst hb;unfold dU at *;cases mb
     ·rw[zX2 zYp,yAl,zY4];refine EV (wZ kx kc) ?_;rfl
     ·rw[zX3 Z];refine EV (wZ kx kc) ?_;rfl
   ·rw[zYb h4,zZv,yA7]at hb;subst hb;unfold dU at *;cases mb
    ·rw[zX2 zYp,yAl,zY4];refine EV (wZ kx kc) ?_;rfl
    ·rw[zX3 Z];refine EV (wZ kx kc) ?_;rfl
 ·(refine WW ?_)
  exact zI [] Z Z (zY3 (AV.sl false) zX6) Z
def wkK (k:Int):Bool:=!(decide (k=6)||(decide (k=7)||decide (k=8)))
def wkQ (p:Pc):Bool:=wkK p.it.kind
def AB (b:List Int) (p:Pc):List Int:=(b.drop p.fr).take p.k
def wpL (b:List Int) (l:List Pc):List Int:=((l.filter wkQ).map (AB b)).flatten
def wkF (b:List Int):List Int:=wpL b (uP b.length b 0)
def woB (c:Cf) (a:Int) (e:Ev):Bool:=decide (e.k=3)&&(KT c a e&&whF e.y)
def BH (c:Cf) (a:Int) (e:Ev):Ev:=if woB c a e=true then⟨e.k,e.s,e.a,e.b,wkF e.y⟩else e
theorem KU:∀(n:Nat) (r:List Int) (a:Nat),(uP n r a).length<=n
 |0,_,_=>zX7 _
 | n+1,r,a=>by
  unfold uP;split
  ·exact zYl _
  ·rename_i q _;split
   ·rw[zYh];have:=KU n (r.drop q.2) (a+q.2);omega
   ·exact zYl _
def tkd {l z:List Int} {n i k:Nat} (h:i+k<=n) (hn:n<=l.length):((l.take n++z).drop i).take k=(l.drop i).take k:=by
 apply zZf;intro j;rw[zZi,zZi];split
 ·rw[zZt,zZt,zY0 OV,zZi,zX3 zB]
 ·rfl
def tkg {l z:List Int} {n i:Nat} (h:i<n) (hn:n<=l.length):(l.take n++z).getD i 0=l.getD i 0:=by
 rw[zYc,zYc,zY0 OV,zZi,zX3 h]
def zRp {b c:List Int} (h4:c.getD 4 0=b.getD 4 0) (h5:c.getD 5 0=b.getD 5 0):jS c=jS b:=by
 unfold jS;rw[h4,h5]
def zBx {b:List Int} {p:It×Nat} (h:ZG b=some p) (hc:p.1.code=0) (z:List Int):ZG (b.take p.2++z)=some p/\p.2<=b.length:=by
 unfold ZG at h;by_cases c1:b.length=0
 ·rw[zX3 c1]at h;cases h
 rw[zX2 c1]at h;by_cases c2:b.getD 0 0≠90∨(1<b.length/\b.getD 1 0≠165)
 ·rw[zX3 c2]at h;cases h;cases hc
 rw[zX2 c2]at h;by_cases c3:b.length<6
 ·rw[zX3 c3]at h;cases h
 rw[zX2 c3]at h;by_cases c4:200<jS b
 ·rw[zX3 c4]at h;cases h;cases hc
 rw[zX2 c4]at h;by_cases c5:b.length<jS b+10
 ·rw[zX3 c5]at h;cases h
 rw[zX2 c5]at h;by_cases c6:eK ((b.drop 2).take (jS b+4))≠XM ((b.drop (jS b+6)).take 4)
 ·rw[zX3 c6]at h;cases h;cases hc
 rw[zX2 c6]at h;by_cases c7:b.getD 2 0≠1
 ·rw[zX3 c7]at h;cases h;cases hc
 rw[zX2 c7]at h;by_cases c8:b.getD 3 0<1∨22<b.getD 3 0
 ·rw[zX3 c8]at h;cases h;cases hc
 rw[zX2 c8]at h;cases h;dsimp only;have hn:jS b+10<=b.length:=by omega
 refine⟨?_,hn⟩;have hl:(b.take (jS b+10)++z).length=jS b+10+z.length:=by rw[zX4,zYn];omega
 have g:∀i,i<jS b+10->(b.take (jS b+10)++z).getD i 0=b.getD i 0:=λi hi=>tkg hi hn
 have hp:jS (b.take (jS b+10)++z)=jS b:=zRp (g 4 zB) (g 5 zB);unfold ZG;rw[zX2 (by rw[hl];omega),zX2 (by rw[hl,g 0 zB,g 1 zB];intro h;exact c2 (h.imp id λh=>⟨zB,h.2⟩)),zX2 (by rw[hl];omega),hp,zX2 c4,zX2 (by rw[hl];omega),tkd zB hn,tkd zB hn,zX2 c6,g 2 zB,zX2 c7,g 3 zB,zX2 c8,tkd zB hn]
def zRq (q:It×List Int):Prop:=ZG q.2=some (q.1,q.2.length)/\q.1.code=0
theorem FB {b:List Int}:∀(n a:Nat),∀p∈uP n (b.drop a) a,zRq (p.it,AB b p)/\(AB b p).length=p.k
 |0,a,p,hp=>by cases hp
 | n +1,a,p,hp=>by
  unfold uP at hp;split at hp
  ·cases hp
  ·rename_i q hq;split at hp
   ·rename_i hc
    rcases zZg.1 hp with rfl|hp
    ·have h:=zBx hq hc [];rw[zY4]at h
     have hl:(AB b ⟨a,q.2,q.1⟩).length=q.2:=by
      have:=h.2;unfold AB;dsimp only;rw[zYn];omega
     refine⟨⟨?_,hc⟩,hl⟩;dsimp only;rw[hl];exact h.1
    ·rw[yCc]at hp;exact FB n (a+q.2) p hp
   ·cases hp
theorem zBy:∀(n:Nat) (r:List Int) (a:Nat) (b:List Int),BY r->(wpL b (uP n r a)).length<=r.length
 |0,r,a,b,_=>zYl _
 | n +1,r,a,b,hr=>by
  unfold uP;split
  ·exact zYl _
  ·rename_i q hq;have h:=(SV hr hq).1;split
   ·have ih:=zBy n (r.drop q.2) (a+q.2) b λx hx=>hr x (zY1 hx)
    rw[zYv]at ih;unfold wpL at ih⊢;by_cases hk:wkQ ⟨a,q.2,q.1⟩=true
    ·rw[List.filter_cons_of_pos hk,zZj,yAt,zX4];have:(AB b ⟨a,q.2,q.1⟩).length<=q.2:=by unfold AB;rw[zYn];dsimp only;omega
     omega
    ·rw[List.filter_cons_of_neg hk];omega
   ·exact zYl _
def zGe {b:List Int} (h:BY b):BY (wkF b)/\(wkF b).length<=b.length:=by
 refine⟨λx hx=>?_,zBy _ _ _ _ h⟩;unfold wkF wpL at hx;obtain⟨l,hl,hxl⟩:=yBi.1 hx;obtain⟨p,_,rfl⟩:=zZn.1 hl;exact h x (zY1 (zZl hxl))
def zU6 {c:Cf} {a:Int} {e:Ev} (h:LG e):LG (BH c a e):=by
 unfold BH;split
 ·have:=zGe h.y;have:=h.n;exact evb h.k h.s h.a h.b (zGe h.y).1 zB
 ·exact h
structure TaS where
 t:Nat
 g:Bool
 its:List It
def taC (s:TaS) (p:It×Nat):Bool:=decide (p.1.code=2)&&s.g
def MA (s:TaS) (p:It×Nat):TaS:=if taC s p=true then⟨s.t+p.2,s.g,s.its⟩else⟨s.t+p.2,decide (p.1.code=2)||(decide (p.1.code=7)||decide (p.1.code=4)),s.its++[p.1]⟩
def taX (N:Nat) (s:TaS) (p:It×Nat):Bool:=!taC s p&&decide (N<=s.its.length+1)
def XQ (N:Nat):List (It×Nat)->TaS->TaS
 | [],s=>s
 |p::l,s=>if taX N s p=true then MA s p else XQ N l (MA s p)
def AC (s0:TaS) (l:List (It×Nat)) (i:Nat):TaS:=(l.take i).foldl MA s0
def FC (s0:TaS) {l:List (It×Nat)} {i:Nat} {p:It×Nat} (h:l[i]? =some p):AC s0 l (i+1)=MA (AC s0 l i) p:=by
 unfold AC;rw[yAj,h,yC3];rfl
theorem KV {N:Nat}:∀(l:List (It×Nat)) (s:TaS),s.its.length<N->(XQ N l s).its.length<=N
 | [],s,h=>yC0 h
 | p::l,s,h=>by
  unfold XQ
  have h1:(MA s p).its.length<=s.its.length+1:=by
   unfold MA;split
   ·dsimp only;omega
   ·dsimp only;rw[zX4];simp
  split
  ·omega
  ·rename_i hx;refine KV l _ ?_;unfold taX at hx;unfold MA;cases hc:taC s p
   ·rw[hc]at hx;rw[zX2 zYp];simp only[yC1,zYr,zX9]at hx;dsimp only;rw[zX4];simp only[zYh,zZc];omega
   ·rw[zX3 Z];exact h
theorem zBz {N:Nat} {Pr:It->Prop}:∀(l:List (It×Nat)) (s:TaS),(∀x∈s.its,Pr x)->(∀p∈l,Pr p.1)->∀x∈(XQ N l s).its,Pr x
 | [],s,h,_=>h
 | p::l,s,h,hl=>by
  have h1:∀x∈(MA s p).its,Pr x:=by
   unfold MA;split
   ·exact h
   ·intro x hx
    rcases zYy.1 hx with hx|hx
    ·exact h x hx
    ·rw[zZd.1 hx];exact hl p zW
  unfold XQ;split
  ·exact h1
  ·exact zBz l _ h1 λq hq=>hl q (by simp[hq])
theorem zGf {N:Nat}:∀(l:List (It×Nat)) (s:TaS),s.t<=(XQ N l s).t/\(XQ N l s).t<=s.t+zD2 l
 | [],s=>⟨zX7 _,Nat.le_add_right _ _⟩
 |p::l,s=>by
  have h1:(MA s p).t=s.t+p.2:=by unfold MA;split<;>rfl
  have h2:=zGf (N:=N) l (MA s p);have h3:zD2 (p::l)=p.2+zD2 l:=by simp[zD2]
  unfold XQ
  split<;>omega
theorem zB0:∀(n:Nat) (b:List Int),(fB n b).length<=n
 |0,_=>zX7 _
 |n+1,b=>by
  unfold fB;split
  ·exact zYl _
  ·rename_i q _;have:=zB0 n (b.drop q.2);rw[zYh];omega
def stA (b:List Int) (g:Bool):AV:= .agg [zD yA b,bA g]
def KW (k N:Nat):zO 164 [iA k,.ptr 1053 0 0] [(1053,.box [iA N])] (bA (decide (N<=k))) [(1053,.box [iA N])]:=by
 by_cases h:N<=k
 ·rw[zYa h];refine eM call164 λF hF=>?_
  refine WW ?_;exact zL [1053] Z Z Z Z
 ·rw[zYb h];refine eM call164 λF hF=>?_
  refine WW ?_;exact zL [1053] Z Z Z Z
theorem zMl (b:List Int) (hb:BY b) (hl:b.length<=1000) (g:Bool) (N:Nat) (hN:1<=N/\N<=1000):zO 163 [stA b g,.fn 164 [.ptr 1053 0 0]] [(1053,.box [iA N])]
  (.tup [stA (b.drop (XQ N (fB b.length b) ⟨0,g,[]⟩).t) (XQ N (fB b.length b) ⟨0,g,[]⟩).g,zD wO (XQ N (fB b.length b) ⟨0,g,[]⟩).its]) [(1053,.box [iA N])]:=by
 have kp:=zGa b;have ht:=zD3 b hb zB;have hbl:=zA yA b;have hr1:=(zGf (N:=N) (fB b.length b) ⟨0,g,[]⟩).2;have hr2:=zBv (n:=b.length) hb;dsimp only at hr1;have hL:psL b=(fB b.length b).map λp=>[wO p.1,iA (p.2:Int)]:=rfl
 have hG0:AC ⟨0,g,[]⟩ (fB b.length b) 0=⟨0,g,[]⟩:=rfl
 have hGn:∀i,(AC ⟨0,g,[]⟩ (fB b.length b) i).its.length<=i:=λi=>by
  induction i with
  |zero=>exact zX7 _
  | succ i ih=>
   cases h:(fB b.length b)[i]? with
   | none=>
    have:AC ⟨0,g,[]⟩ (fB b.length b) (i+1)=AC ⟨0,g,[]⟩ (fB b.length b) i:=by
     unfold AC;rw[yAj,h];simp
    rw[this];omega
   |some p=>
    rw[FC _ h];unfold MA;split
    ·dsimp only;omega
    ·dsimp only;rw[zX4];simp only[zYh,zZc];omega
 rw[show stA b g= .agg [zD yA b,bA g]from Z];rw[show stA (b.drop (XQ N (fB b.length b) ⟨0,g,[]⟩).t) (XQ N (fB b.length b) ⟨0,g,[]⟩).g= .agg [zD yA (b.drop (XQ N (fB b.length b) ⟨0,g,[]⟩).t),bA (XQ N (fB b.length b) ⟨0,g,[]⟩).g]from Z];generalize hr:XQ N (fB b.length b) ⟨0,g,[]⟩=r at *;unfold psH at kp ht;refine eM call163 λF hF=>?_
 (have zc1:=kp;(repeat' (first|refine WS ?_|refine SG (I2 (λhc=>?_) λhc=>?_)|refine SG λhc=>?_|(refine zE ?_;first|refine SM ?_)|(first|first|refine SR ?_|refine SK (I2 (λhc=>?_) λhc=>?_)|refine SK λhc=>?_|fail|refine vR ?_|refine vS ?_)|fail))<;>clear zc1)
 refine uY 6 0 1051 3 Z Z Z Z Z ?_
 refine vM hF ht Z [2,3,4,6,7,8,1051,1053] [2,3,4,6,7,8] Z Z Z Z Z Z Z Z Z (λk ys h=>?_) (λi=>[(2,.box [zD yA b,bA g]),(3,.box [.fn 164 [.ptr 1053 0 0]]),(4,.box [.s (.slice none 0 0),bA false]),(6,.box [.ref 1051 0 ((AC ⟨0,g,[]⟩ (fB b.length b) i).its.map wO).length]),(7,.box [iA ((AC ⟨0,g,[]⟩ (fB b.length b) i).t:Int)]),(8,.box [bA (AC ⟨0,g,[]⟩ (fB b.length b) i).g]),(1051,.arr 3 ((AC ⟨0,g,[]⟩ (fB b.length b) i).its.map wO) true),(1053,.box [iA N])]) (λi=>XQ N ((fB b.length b).drop i) (AC ⟨0,g,[]⟩ (fB b.length b) i)=r)
  (T:=[(2,.ptr 2 0 0),(3,.ptr 3 0 0),(4,.ptr 4 0 0),(6,.ptr 6 0 0),(7,.ptr 7 0 0),(8,.ptr 8 0 0)]) Z hr (λi ys q hys hI F1 h1 h2=>?_) (λhI=>?_)
 ·rw[hL,zX8,zYf]at h;obtain⟨x,_,rfl⟩:=h;rfl
 ·rw [hL,zX8,zYf]at hys;obtain⟨p,hp,rfl⟩:=hys;have e1:=FC (⟨0,g,[]⟩:TaS) hp;have hil:i<(fB b.length b).length:=(zYu.1 hp).1
  have e2:(fB b.length b).drop i=p::(fB b.length b).drop (i+1):=by
   rw[yAe hil]
   congr 1
   exact(zYu.1 hp).2
  rw[e2]at hI;rw[e1];have hgi:=hGn i;have hps:=zBv (n:=b.length) hb;generalize AC ⟨0,g,[]⟩ (fB b.length b) i=s at*
  have hst:s.t+p.2<=b.length:=by
   have h9:(MA s p).t=s.t+p.2:=by unfold MA;split<;>rfl
   unfold XQ at hI;split at hI
   ·rw[<-h9,hI];omega
   ·have:=(zGf (N:=N) ((fB b.length b).drop (i+1)) (MA s p)).1;rw[hI]at this;omega
  have hpl:=zB0 b.length b;have hi3:i<=1000:=by omega
  clear hp hil e1 e2 hL hG0 hGn hps ht kp;generalize (fB b.length b).drop (i+1)=l2 at *;generalize (fB b.length b).length=L at *;obtain⟨t0,g0,its⟩:=s;obtain⟨⟨cd,kd,py⟩,n⟩:=p;dsimp only at hst hgi;have him:=zA wO its;rw[show wO (({code:=cd,kind:=kd,pay:=py}:It),n).fst= .agg [iA cd,iA kd,zD yA py]from Z];refine WW ?_;refine⟨rfl,λF2 g1 g2=>?_⟩;dsimp only;by_cases hc:cd=2
  ·subst hc;cases g0
   ·have e3:MA ⟨t0,false,its⟩ (⟨2,kd,py⟩,n)=⟨t0+n,true,its++[⟨2,kd,py⟩]⟩:=rfl;have e4:taX N ⟨t0,false,its⟩ (⟨2,kd,py⟩,n)=decide (N<=its.length+1):=rfl;unfold XQ at hI;rw[e3,e4]at hI;rw[e3];have kst:=KW (its.map wO++[AV.agg [iA 2,iA kd,zD yA py]]).length N;rw[show decide (N<=(its.map wO++[AV.agg [iA 2,iA kd,zD yA py]]).length)=decide (N<=its.length+1) by simp]at kst;by_cases hs:N<=its.length+1
    ·rw[zYa hs]at kst;rw[zX3 (zYa hs)]at hI;subst hI;have hbt:=zA yA b;have kc:=wK (b.drop ((t0:Int)+(n:Int)).toNat) QL;have eD:zD yA (b.drop (t0+n))=zD yA (b.drop ((t0:Int)+(n:Int)).toNat):=by rw[show((t0:Int)+(n:Int)).toNat=t0+n by omega]
     dsimp only;rw[eD];rw[show zD wO (its++[⟨2,kd,py⟩])= .sl false (its.map wO++[AV.agg [iA 2,iA kd,zD yA py]]) by unfold zD;rw[zYd];rfl]
     (have zc1:=kst;have zc2:=kc;(repeat' (first|refine WS ?_|refine SG (I2 (λhc=>?_) λhc=>?_)|refine SG λhc=>?_|(refine zE ?_;first|refine SM ?_)|(first|first|refine SR ?_|refine SK (I2 (λhc=>?_) λhc=>?_)|refine SK λhc=>?_|fail|refine vR ?_|refine vS ?_)|fail))<;>clear zc1 zc2)
     refine zI [1053] Z Z ?_ Z
     show AV.tup [_,AV.sl false (List.take (its.map wO++[AV.agg [iA 2,iA kd,zD yA py]]).length (its.map wO++[AV.agg [iA 2,iA kd,zD yA py]]))]=_
     rw[zX6];rfl
    ·rw[zYb hs]at kst;rw[zX2 zC6]at hI;dsimp only;rw[zYd,show [(⟨2,kd,py⟩:It)].map wO=[AV.agg [iA 2,iA kd,zD yA py]]from Z]
     (have zc1:=kst;(repeat' (first|refine WS ?_|refine SG (I2 (λhc=>?_) λhc=>?_)|refine SG λhc=>?_|(refine zE ?_;first|refine SM ?_)|(first|first|refine SR ?_|refine SK (I2 (λhc=>?_) λhc=>?_)|refine SK λhc=>?_|fail|refine vR ?_|refine vS ?_)|fail))<;>clear zc1)
     exact⟨rfl,hI⟩
   ·have e3:MA ⟨t0,true,its⟩ (⟨2,kd,py⟩,n)=⟨t0+n,true,its⟩:=rfl;have e4:taX N ⟨t0,true,its⟩ (⟨2,kd,py⟩,n)=false:=rfl;unfold XQ at hI;rw[e3,e4,zX2 zYp]at hI;rw[e3];dsimp only
    (repeat' (first|refine WS ?_|refine SG (I2 (λhc=>?_) λhc=>?_)|refine SG λhc=>?_|(refine zE ?_;first|refine SM ?_)|(first|first|refine SR ?_|refine SK (I2 (λhc=>?_) λhc=>?_)|refine SK λhc=>?_|fail|refine vR ?_|refine vS ?_)|fail))
    exact⟨rfl,hI⟩
  ·have ex:taC ⟨t0,g0,its⟩ (⟨cd,kd,py⟩,n)=false:=by
    unfold taC;rw[zYb hc,zZv]
   have e4:taX N ⟨t0,g0,its⟩ (⟨cd,kd,py⟩,n)=decide (N<=its.length+1):=by
    unfold taX;rw[ex];rfl
   by_cases h7:cd=7
   ·subst h7;have e3:MA ⟨t0,g0,its⟩ (⟨7,kd,py⟩,n)=⟨t0+n,true,its++[⟨7,kd,py⟩]⟩:=rfl;unfold XQ at hI;rw[e3,e4]at hI;rw[e3];have kst:=KW (its.map wO++[AV.agg [iA 7,iA kd,zD yA py]]).length N;rw[show decide (N<=(its.map wO++[AV.agg [iA 7,iA kd,zD yA py]]).length)=decide (N<=its.length+1) by simp]at kst;by_cases hs:N<=its.length+1
    ·rw[zYa hs]at kst;rw[zX3 (zYa hs)]at hI;subst hI;have hbt:=zA yA b;have kc:=wK (b.drop ((t0:Int)+(n:Int)).toNat) QL;have eD:zD yA (b.drop (t0+n))=zD yA (b.drop ((t0:Int)+(n:Int)).toNat):=by rw[show((t0:Int)+(n:Int)).toNat=t0+n by omega]
     dsimp only;rw[eD];rw[show zD wO (its++[⟨7,kd,py⟩])= .sl false (its.map wO++[AV.agg [iA 7,iA kd,zD yA py]]) by unfold zD;rw[zYd];rfl]
     (have zc1:=kst;have zc2:=kc;(repeat' (first|refine WS ?_|refine SG (I2 (λhc=>?_) λhc=>?_)|refine SG λhc=>?_|(refine zE ?_;first|refine SM ?_)|(first|first|refine SR ?_|refine SK (I2 (λhc=>?_) λhc=>?_)|refine SK λhc=>?_|fail|refine vR ?_|refine vS ?_)|fail))<;>clear zc1 zc2)
     refine zI [1053] Z Z ?_ Z
     show AV.tup [_,AV.sl false (List.take (its.map wO++[AV.agg [iA 7,iA kd,zD yA py]]).length (its.map wO++[AV.agg [iA 7,iA kd,zD yA py]]))]=_
     rw[zX6];rfl
    ·rw[zYb hs]at kst;rw[zX2 zC6]at hI;dsimp only;rw[zYd,show [(⟨7,kd,py⟩:It)].map wO=[AV.agg [iA 7,iA kd,zD yA py]]from Z]
     (have zc1:=kst;(repeat' (first|refine WS ?_|refine SG (I2 (λhc=>?_) λhc=>?_)|refine SG λhc=>?_|(refine zE ?_;first|refine SM ?_)|(first|first|refine SR ?_|refine SK (I2 (λhc=>?_) λhc=>?_)|refine SK λhc=>?_|fail|refine vR ?_|refine vS ?_)|fail))<;>clear zc1)
     exact⟨rfl,hI⟩
   by_cases h4:cd=4
   ·subst h4;have e3:MA ⟨t0,g0,its⟩ (⟨4,kd,py⟩,n)=⟨t0+n,true,its++[⟨4,kd,py⟩]⟩:=rfl;unfold XQ at hI;rw[e3,e4]at hI;rw[e3];have kst:=KW (its.map wO++[AV.agg [iA 4,iA kd,zD yA py]]).length N;rw[show decide (N<=(its.map wO++[AV.agg [iA 4,iA kd,zD yA py]]).length)=decide (N<=its.length+1) by simp]at kst;by_cases hs:N<=its.length+1
    ·rw[zYa hs]at kst;rw[zX3 (zYa hs)]at hI;subst hI;have hbt:=zA yA b;have kc:=wK (b.drop ((t0:Int)+(n:Int)).toNat) QL;have eD:zD yA (b.drop (t0+n))=zD yA (b.drop ((t0:Int)+(n:Int)).toNat):=by rw[show((t0:Int)+(n:Int)).toNat=t0+n by omega]
     dsimp only;rw[eD];rw[show zD wO (its++[⟨4,kd,py⟩])= .sl false (its.map wO++[AV.agg [iA 4,iA kd,zD yA py]]) by unfold zD;rw[zYd];rfl]
     (have zc1:=kst;have zc2:=kc;(repeat' (first|refine WS ?_|refine SG (I2 (λhc=>?_) λhc=>?_)|refine SG λhc=>?_|(refine zE ?_;first|refine SM ?_)|(first|first|refine SR ?_|refine SK (I2 (λhc=>?_) λhc=>?_)|refine SK λhc=>?_|fail|refine vR ?_|refine vS ?_)|fail))<;>clear zc1 zc2)
     refine zI [1053] Z Z ?_ Z
     show AV.tup [_,AV.sl false (List.take (its.map wO++[AV.agg [iA 4,iA kd,zD yA py]]).length (its.map wO++[AV.agg [iA 4,iA kd,zD yA py]]))]=_
     rw[zX6];rfl
    ·rw[zYb hs]at kst;rw[zX2 zC6]at hI;dsimp only;rw[zYd,show [(⟨4,kd,py⟩:It)].map wO=[AV.agg [iA 4,iA kd,zD yA py]]from Z]
     (have zc1:=kst;(repeat' (first|refine WS ?_|refine SG (I2 (λhc=>?_) λhc=>?_)|refine SG λhc=>?_|(refine zE ?_;first|refine SM ?_)|(first|first|refine SR ?_|refine SK (I2 (λhc=>?_) λhc=>?_)|refine SK λhc=>?_|fail|refine vR ?_|refine vS ?_)|fail))<;>clear zc1)
     exact⟨rfl,hI⟩
   ·have e3:MA ⟨t0,g0,its⟩ (⟨cd,kd,py⟩,n)=⟨t0+n,false,its++[⟨cd,kd,py⟩]⟩:=by
     unfold MA;rw[ex,zX2 zYp];dsimp only;rw[zYb hc,zYb h7,zYb h4];rfl
    unfold XQ at hI;rw[e3,e4]at hI;rw[e3];have kst:=KW (its.map wO++[AV.agg [iA cd,iA kd,zD yA py]]).length N;rw[show decide (N<=(its.map wO++[AV.agg [iA cd,iA kd,zD yA py]]).length)=decide (N<=its.length+1) by simp]at kst;by_cases hs:N<=its.length+1
    ·rw[zYa hs]at kst;rw[zX3 (zYa hs)]at hI;subst hI;have hbt:=zA yA b;have kc:=wK (b.drop ((t0:Int)+(n:Int)).toNat) QL;have eD:zD yA (b.drop (t0+n))=zD yA (b.drop ((t0:Int)+(n:Int)).toNat):=by rw[show((t0:Int)+(n:Int)).toNat=t0+n by omega]
     dsimp only;rw[eD];rw[show zD wO (its++[⟨cd,kd,py⟩])= .sl false (its.map wO++[AV.agg [iA cd,iA kd,zD yA py]]) by unfold zD;rw[zYd];rfl]
     (have zc1:=kst;have zc2:=kc;(repeat' (first|refine WS ?_|refine SG (I2 (λhc=>?_) λhc=>?_)|refine SG λhc=>?_|(refine zE ?_;first|refine SM ?_)|(first|first|refine SR ?_|refine SK (I2 (λhc=>?_) λhc=>?_)|refine SK λhc=>?_|fail|refine vR ?_|refine vS ?_)|fail))<;>clear zc1 zc2)
     refine zI [1053] Z Z ?_ Z
     show AV.tup [_,AV.sl false (List.take (its.map wO++[AV.agg [iA cd,iA kd,zD yA py]]).length (its.map wO++[AV.agg [iA cd,iA kd,zD yA py]]))]=_
     rw[zX6];rfl
    ·rw[zYb hs]at kst;rw[zX2 zC6]at hI;dsimp only;rw[zYd,show [(⟨cd,kd,py⟩:It)].map wO=[AV.agg [iA cd,iA kd,zD yA py]]from Z]
     (have zc1:=kst;(repeat' (first|refine WS ?_|refine SG (I2 (λhc=>?_) λhc=>?_)|refine SG λhc=>?_|(refine zE ?_;first|refine SM ?_)|(first|first|refine SR ?_|refine SK (I2 (λhc=>?_) λhc=>?_)|refine SK λhc=>?_|fail|refine vR ?_|refine vS ?_)|fail))<;>clear zc1)
     exact⟨rfl,hI⟩
 ·have e1:AC ⟨0,g,[]⟩ (fB b.length b) (psL b).length=r:=by
   rw[hL,zX5]at hI⊢;rw[yBs]at hI;exact hI
  rw[e1];have hbt:=zA yA b;have kc:=wK (b.drop ((r.t:Nat):Int).toNat) QL
  (have zc1:=kc;(repeat' (first|refine WS ?_|refine SG (I2 (λhc=>?_) λhc=>?_)|refine SG λhc=>?_|(refine zE ?_;first|refine SM ?_)|(first|first|refine SR ?_|refine SK (I2 (λhc=>?_) λhc=>?_)|refine SK λhc=>?_|fail|refine vR ?_|refine vS ?_)|fail))<;>clear zc1)
  refine zI [1053] Z Z ?_ Z
  show AV.tup [_,AV.sl false (List.take (r.its.map wO).length (r.its.map wO))]=_
  rw[zX6];rfl
end Av
end Go.Proofs.YteajjdidebfcjaaGreat
