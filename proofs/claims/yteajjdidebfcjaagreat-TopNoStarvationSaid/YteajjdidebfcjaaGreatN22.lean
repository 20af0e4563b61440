/- Part 22. -/
import Derived.Test.YteajjdidebfcjaaGreatN21
namespace Go.Proofs.YteajjdidebfcjaaGreat
namespace Av
open Tryz
set_option linter.all false
set_option maxRecDepth 4000
set_option maxHeartbeats 8000000
def WA {α:Type} [Inhabited α] (g:Nat->α->α) (l:List α) (i:Nat):List α:=(List.range l.length).map λj=>if j<i then g j (l.getD j default)else l.getD j default
def vA {α:Type} [Inhabited α] (g:Nat->α->α) (l:List α) (i:Nat):(WA g l i).length=l.length:=by simp[WA]
def uP {α:Type} [Inhabited α] (g:Nat->α->α) (l:List α) (i j:Nat):(WA g l i)[j]? =if j<l.length then some (if j<i then g j (l.getD j default)else l.getD j default)else none:=by
 unfold WA;rw[yBh];by_cases hj:j<l.length
 ·rw[yCe hj,yBd hj];rfl
 ·rw[yB6 wU,yBc hj];rfl
def jC {α:Type} [Inhabited α] (g:Nat->α->α) (l:List α):WA g l 0=l:=by
 apply yCs;intro j;rw[uP];by_cases hj:j<l.length
 ·rw[yBd hj,yBc zB];simp[List.getD,hj]
 ·rw[yBc hj,yB6 zB]
def zEl {α:Type} [Inhabited α] (g:Nat->α->α) (l:List α) (i:Nat) (hi:i<l.length):WA g l (i+1)=(WA g l i).set i (g i (l.getD i default)):=by
 apply yCs;intro j;rw[yDe,uP,uP,vA];by_cases he:i=j
 ·subst he;rw[yBd hi,yBd Z,yBd hi,yBd (yHa i)]
 ·rw[yBc he];by_cases hj:j<l.length
  ·rw[yBd hj,yBd hj];by_cases h2:j<i
   ·rw[yBd zB,yBd h2]
   ·rw[yBc zB,yBc h2]
  ·rw[yBc hj,yBc hj]
def qN {α:Type} [Inhabited α] (f:α->AV) (g:Nat->α->α) (l:List α) (i:Nat) (hi:i<l.length):(WA g l (i+1)).map f=((WA g l i).map f).set i (f (g i (l.getD i default))):=by
 rw[zEl g l i hi,yDa]
structure In where
 opn:Bool
 its:List It
instance:Inhabited In:=⟨⟨false,[]⟩⟩
instance:Inhabited It:=⟨⟨0,0,[]⟩⟩
def jR (i:In):AV:= .agg [bA i.opn,zD vC i.its]
structure En where
 ag:Int
 ki:Int
 co:Int
def gF (e:En):AV:=MZ e.ag e.ki e.co
structure TS where
 d:xH
 rs:List Ms
 en:List En
 ks:List Int
structure SS where
 d:xH
 R:List (List Ms)
 en:List En
 ks:List Int
def ZF (l:List Ms):AV:=zD yB l
def InB (i:In):Prop:=i.its.length<=1000/\∀x∈i.its,BY x.pay/\x.pay.length<=100000
def StR (c:Cf) (s now:Int) (i:It) (a b:TS):Prop:=∃h:Hd,SD c a.d s i now h/\HdP c a.d s i now h/\b=⟨h.d,a.rs++[h.p],a.en++[⟨a.d.rg.num,i.kind,h.e⟩],if 0<=h.k then a.ks++[h.k]else a.ks⟩
structure AI (c:Cf) (d0 d:xH):Prop where
 i:uW c d
 n:d.rg.num=d0.rg.num
 a:d.rg.ag=d0.rg.ag
 t:T0 d0->T0 d
theorem AI.refl {c:Cf} {d:xH} (h:uW c d):AI c d d:=⟨h,rfl,rfl,id⟩
theorem AI.trans {c:Cf} {a b d:xH} (h1:AI c a b) (h2:AI c b d):AI c a d:=⟨h2.i,h2.n.trans h1.n,h2.a.trans h1.a,λh=>h2.t (h1.t h)⟩
def zXh (c:Cf) (s now:Int) (n0:0<=now) (n1:now<=1073741824) (its:List It) (hib:∀x∈its,BY x.pay/\x.pay.length<=100000) (st:TS) (hI:uW c st.d):
  ∃f:Nat->TS,f 0=st/\∀k,AI c st.d (f k).d/\((f k).rs.length=st.rs.length+k/\(f k).en.length=st.en.length+k/\(f k).ks.length<=st.ks.length+k/\((∀x∈st.ks,0<=x/\x<(c.js.length:Int))->∀x∈(f k).ks,0<=x/\x<(c.js.length:Int)))/\(k<its.length->StR c s now (its.getD k default) (f k) (f (k+1))):=by
 have hx:∀k,BY (its.getD k default).pay/\(its.getD k default).pay.length<=100000:=λk=>by
  by_cases hk:k<its.length
  ·refine hib _ ?_;rw[yBl,yBu hk];exact yD1 _
  ·rw[yBl,yB6 zB]
   show BY ([]:List Int)/\([]:List Int).length<=100000
   exact⟨λy hy=>absurd hy zQ,yBt _⟩
 obtain⟨f,h0,hf⟩:=zN3 (λk (a:TS)=>AI c st.d a.d/\(a.rs.length=st.rs.length+k/\a.en.length=st.en.length+k/\a.ks.length<=st.ks.length+k/\((∀x∈st.ks,0<=x/\x<(c.js.length:Int))->∀x∈a.ks,0<=x/\x<(c.js.length:Int)))) (λk a b=>StR c s now (its.getD k default) a b)
  (λk a ha=>by
   obtain⟨ha,h1,h2,h3,h4⟩:=ha;obtain⟨h,hB,hP⟩:=zGu c a.d ha.i s now n0 n1 _ (hx k).1 (hx k).2;refine⟨_,⟨h,hB,hP,rfl⟩,ha.trans ⟨hP.inv,hP.num,hP.ag,hP.t0⟩,?_,?_,?_,λhks x hx=>?_⟩
   ·dsimp only;rw[yBf,yDu];omega
   ·dsimp only;rw[yBf,yDu];omega
   ·dsimp only;split
    ·rw[yBf,yDu];omega
    ·omega
   ·dsimp only at hx;split at hx
    ·rename_i hk0
     rcases yBy.1 hx with hx|hx
     ·exact h4 hks x hx
     ·rw[yCf]at hx;subst hx
      rcases hP.rst with h9|⟨_,h8,h9⟩
      ·omega
      ·exact⟨h8,h9⟩
    ·exact h4 hks x hx)
  st ⟨AI.refl hI,zB,zB,zB,id⟩
 exact⟨f,h0,λk=>⟨(hf k).1.1,(hf k).1.2,λ_=>(hf k).2⟩⟩
def dM (ins:List In) (s:Nat):List It:=if s<ins.length/\(ins.getD s default).opn=true then(ins.getD s default).its else []
def SeR (c:Cf) (now:Int) (ins:List In) (s:Nat) (a b:SS):Prop:=∃f:Nat->TS,f 0=⟨a.d,[],a.en,a.ks⟩/\(∀k,k<(dM ins s).length->StR c (s:Int) now ((dM ins s).getD k default) (f k) (f (k+1)))/\(∀k,AI c a.d (f k).d/\(f k).rs.length=k/\(f k).en.length=a.en.length+k/\(f k).ks.length<=a.ks.length+k)/\
 b=⟨(f (dM ins s).length).d,a.R++[(f (dM ins s).length).rs],(f (dM ins s).length).en,(f (dM ins s).length).ks⟩
def AJ {ins:List In} (h:∀i∈ins,InB i) (s:Nat):(dM ins s).length<=1000/\∀x∈dM ins s,BY x.pay/\x.pay.length<=100000:=by
 unfold dM;split
 ·rename_i hs;refine h _ ?_;rw[yBl,yBu hs.1];exact yD1 _
 ·exact⟨yBt _,λx hx=>by cases hx⟩
def zR7 (c:Cf) (now:Int) (n0:0<=now) (n1:now<=1073741824) (ins:List In) (hin:∀i∈ins,InB i) (d:xH) (hI:uW c d):
  ∃F:Nat->SS,F 0=⟨d,[],[],[]⟩/\∀s,AI c d (F s).d/\((F s).R.length=s/\(F s).en.length<=1000*s/\(F s).ks.length<=1000*s/\∀x∈(F s).ks,0<=x/\x<(c.js.length:Int))/\SeR c now ins s (F s) (F (s+1)):=by
 obtain⟨F,h0,hF⟩:=zN3 (λs (a:SS)=>AI c d a.d/\(a.R.length=s/\a.en.length<=1000*s/\a.ks.length<=1000*s/\∀x∈a.ks,0<=x/\x<(c.js.length:Int))) (λs a b=>SeR c now ins s a b)
  (λs a ha=>by
   obtain⟨ha,h1,h2,h3,h4⟩:=ha;obtain⟨hl,hb⟩:=AJ hin s;obtain⟨f,f0,hf⟩:=zXh c (s:Int) now n0 n1 (dM ins s) hb ⟨a.d,[],a.en,a.ks⟩ ha.i;have hL:=hf (dM ins s).length;refine⟨_,⟨f,f0,λk hk=>(hf k).2.2 hk,λk=>⟨(hf k).1,by have:=(hf k).2.1.1;simpa using this,(hf k).2.1.2.1,(hf k).2.1.2.2.1⟩,rfl⟩,ha.trans hL.1,?_,?_,?_,hL.2.1.2.2.2 h4⟩
   ·dsimp only;rw[yBf,yDu];omega
   ·have:=hL.2.1.2.1;dsimp only at *;omega
   ·have:=hL.2.1.2.2.1;dsimp only at *;omega)
  ⟨d,[],[],[]⟩ ⟨AI.refl hI,rfl,yBt _,yBt _,λx hx=>by cases hx⟩
 exact⟨F,h0,λs=>⟨(hF s).1.1,(hF s).1.2,(hF s).2⟩⟩
def FO (ins:List In) (s:Nat) (b:Bool):Bool:=if s<ins.length/\(ins.getD s default).opn=true then b else false
def auF (ins:List In) (l:List Bool):List Bool:=WA (FO ins) l l.length
def dkU (d:xH) (ins:List In):xH:=⟨d.rg,d.rq,d.dr,auF ins d.au⟩
def zZo {c:Cf} {d:xH} (h:uW c d) (ins:List In):uW c (dkU d ins):=
 ⟨h.b,h.v,h.q,h.lg,h.a,h.n,h.t8,h.br,h.bb,h.bl,by show((auF ins d.au).length:Int)=_;unfold auF;rw[vA];exact h.au,h.dn,h.dr,h.vh⟩
def dkM (d:xH) (now:Int):xH:=⟨d.rg,DW d.rq now,d.dr,d.au⟩
def zZp {c:Cf} {d:xH} (h:uW c d) (now:Int) (n0:0<=now) (n1:now<=1073741824):uW c (dkM d now):=by
 refine⟨h.b,zZa h.v now n0 n1,?_,λr hr g hg=>?_,h.a,h.n,h.t8,h.br,h.bb,h.bl,h.au,h.dn,h.dr,h.vh⟩
 ·show((DW d.rq now).length:Int)<=_
  unfold DW;rw[yBe];exact h.q
 ·obtain⟨x,hx,rfl⟩:=yCc.1 hr;obtain⟨y,hy,rfl⟩:=yCc.1 hg;obtain⟨e1,e2,_⟩:=zK2 y now n0 n1;have:=h.lg x hx y hy;rw[e1,e2];exact this
def NH (x:xH):List AV:=[iA x.rg.num,zD yA x.rg.ag.sec,iA x.rg.ag.rights,iA x.rg.ag.cls,zD iA x.rg.ag.lim,iA x.rg.ag.req,iA x.rg.ag.ses,iA x.rg.ag.rate,iA x.rg.ag.burst,zD xB x.rg.tk,zD vY x.rg.vh,iA x.rg.bk.level,iA x.rg.bk.rate,iA x.rg.bk.burst,zD yI x.rq,zD kI x.dr,zD bA x.au]
def tkT (d:xH) (R:List (List Ms)) (E:List En) (K:List Int):AV:= .tup [zI d,zD ZF R,zD gF E,zD iA K]
def dG {xs:List AV} {i:Nat} {y:AV} (h:xs[i]? =some y):xs.set i y=xs:=by
 apply yCs;intro j;rw[yDe];by_cases he:i=j
 ·subst he;have hi:=(yB0.1 h).1;rw[yBd Z,yBd hi,h]
 ·rw[yBc he]
def zNj {g:Nat->Bool->Bool} {l:List Bool} {k n:Nat} (h:l.length=n):List.take n (List.drop 0 ((WA g l k).map bA))=(WA g l k).map bA:=by
 rw[yCg];exact yBo (by rw[yBe,vA,h];exact yBg _)
section
variable {P:Program} {K0:List Nat} {F:Fr K0} {m:Nat} {tm:List (Nat×AV)} {h:List (Nat×xM)}
theorem xY.recell {a:Act} {w:World} (R:xY F m ⟨tm,h⟩ a w) (k i K:Nat) {xs ys:List AV} {sb:Bool} {sz2:Nat} {fl2:Fl} (hk:zC h k=some (.arr 1 xs ⟨sb,true⟩)) (hv:xs[i]? =some (.s (.slice none 0 0))) (hK:zC h K=some (.arr sz2 ys fl2)) (hne:K≠k):
  xY F m ⟨tm,(k,.arr 1 (xs.set i (.ref K 0 0)) ⟨sb,true⟩)::h⟩ a w:=by
 obtain⟨⟨X,β,hX,H,Ht,KK,hJ,hD⟩,nd,gs,hl⟩:=R;have hh':∀j,j≠k->zC ((k,.arr 1 (xs.set i (.ref K 0 0)) ⟨sb,true⟩)::h) j=zC h j:=λj hj=>by rw[xF,yBc hj]
 have hhk:zC ((k,.arr 1 (xs.set i (.ref K 0 0)) ⟨sb,true⟩)::h) k=some (.arr 1 (xs.set i (.ref K 0 0)) ⟨sb,true⟩):=by rw[xF,yBd Z]
 have hlen:(xs.set i (.ref K 0 0)).length=xs.length:=yC3
 have E:FL w (xP X β) (zC h) β w (xP X β) (zC ((k,.arr 1 (xs.set i (.ref K 0 0)) ⟨sb,true⟩)::h)) β:=⟨yBg _,λb _ hd=>⟨rfl,hd⟩,λ_ _ _ _=>rfl,λj e he=>by
  by_cases hj:j=k
  ·subst hj;rw[hk]at he;cases he;exact .inr ⟨⟨xs.set i (.ref K 0 0),⟨sb,true⟩,hhk,by rw[hlen];exact yBg _⟩,λb n hm=>⟨n,yBg _,hm⟩⟩
  ·have:=qV (zC h) β j e he
   rcases this with h1|h1
   ·exact .inl (by rw[hh' j hj];exact h1)
   ·refine .inr ?_
    cases e with
    |dead=>exact h1
    |box cs=>obtain⟨⟨cs',h2⟩,h3⟩:=h1;exact⟨⟨cs',by rw[hh' j hj];exact h2⟩,h3⟩
    |obj cs=>obtain⟨⟨cs',h2⟩,h3⟩:=h1;exact⟨⟨cs',by rw[hh' j hj];exact h2⟩,h3⟩
    |arr sz' xs' st'=>obtain⟨⟨x2,s2,h2,h3⟩,h4⟩:=h1;exact⟨⟨x2,s2,by rw[hh' j hj];exact h2,h3⟩,h4⟩⟩
 have H':qX X (zC ((k,.arr 1 (xs.set i (.ref K 0 0)) ⟨sb,true⟩)::h)) β w:=by
  refine⟨λj e he=>?_,λj hj=>?_,H.disj,H.free,H.lt⟩
  ·by_cases hj:j=k
   ·subst hj;rw[hhk]at he;cases he;obtain⟨e1,e2,e3,e4,e5,f,e6,e7,e8⟩:=H.ent j _ hk;refine⟨e1,by rw[hlen];exact e2,λhx=>e3 λh0=>hx (by rw[h0];rfl),λi' x hx=>?_,λb n r hr=>by rw[hlen];exact e5 b n r hr,f,λi' x l v hx hv'=>⟨?_,λh=>by cases h⟩,λi' j' h1 h2=>e7 i' j' (by rw[<-hlen];exact h1) h2,e8⟩
    ·rw[yDe]at hx;split at hx
     ·split at hx
      ·cases hx;rfl
      ·cases hx
     ·exact e4 i' x hx
    ·rw [yDe]at hx;split at hx
     ·rename_i hij;subst hij;split at hx
      ·cases hx
       cases l with
       |zero=>
        have hv2:v= .ref K 0 0:=by simpa [AV.cells]using hv'.symm
        subst hv2;have h6:=e6.toV i _ 0 _ hv Z;rw[h6.s_inv];exact .ref0 K 0 sz2 ys fl2 none (by rw[hh' K hne];exact hK) (yBt _)
       |succ l=>simp[AV.cells]at hv'
      ·cases hx
     ·exact(e6.toV i' x l v hx hv').evo E
   ·rw[hh' j hj]at he;exact(H.ent j e he).evo E Z λ_ _ _=>rfl
  ·rw[xF]at hj;split at hj
   ·cases hj
   ·exact H.off j hj
 refine⟨⟨X,β,hX,H',λt=>(Ht t).evo E,⟨λj e he=>?_,KK.size,KK.keep,KK.own,KK.pas,KK.bs,KK.os,KK.tape,KK.output⟩,hJ,hD⟩,λj=>?_,gs,hl⟩
 ·have:=KK.knd j e he;by_cases hj:j=k
  ·subst hj
   cases e with
   |dead=>exact this
   |box cs=>obtain⟨cs',h2⟩:=this;(try dsimp only at h2);rw[hk]at h2;cases h2
   |obj cs=>obtain⟨cs',h2⟩:=this;(try dsimp only at h2);rw[hk]at h2;cases h2
   |arr sz' xs' sl'=>obtain⟨xs2,sl2,h2,h3⟩:=this;(try dsimp only at h2);rw[hk]at h2;cases h2;exact⟨_,_,hhk,by rw[hlen];exact h3⟩
  ·cases e with
   |dead=>exact this
   |box cs=>obtain⟨cs',h2⟩:=this;exact⟨cs',by dsimp only;rw[hh' j hj];exact h2⟩
   |obj cs=>obtain⟨cs',h2⟩:=this;exact⟨cs',by dsimp only;rw[hh' j hj];exact h2⟩
   |arr sz' xs' sl'=>obtain⟨xs2,sl2,h2,h3⟩:=this;exact⟨xs2,sl2,by dsimp only;rw[hh' j hj];exact h2,h3⟩
 ·dsimp only;by_cases hj:j=k
  ·subst hj;rw[hhk];intro hd;cases hd
  ·rw[hh' j hj];exact nd j
def XU {c:Code} {Q:Exit->St->Prop} (k i K:Nat) {xs xs' ys:List AV} {sb:Bool} {sz2:Nat} {fl2:Fl} (hk:zC h k=some (.arr 1 xs ⟨sb,true⟩)) (hv:xs[i]? =some (.s (.slice none 0 0))) (hK:zC h K=some (.arr sz2 ys fl2)) (hne:Nat.beq K k=false) (he:xs.set i (.ref K 0 0)=xs')
  (hs:vO P F m c ⟨tm,(k,.arr 1 xs' ⟨sb,true⟩)::h⟩ Q):vO P F m c ⟨tm,h⟩ Q:=
 ⟨λa w R=>hs.run a w (he▸R.recell k i K hk hv hK (λe=>by rw[e,Nat.beq_refl]at hne;cases hne))⟩
end
def zNk:List AV:=[iA 0,.s (.slice none 0 0),iA 0,iA 0,.s (.slice none 0 0),iA 0,iA 0,iA 0,iA 0,.s (.slice none 0 0),.s (.slice none 0 0),iA 0,iA 0,iA 0,.s (.slice none 0 0),.s (.slice none 0 0),.s (.slice none 0 0)]
theorem zGs {c:Cf} {d:xH} (hI:uW c d) (ins:List In) (hil:ins.length<=1000) (hin:∀i∈ins,InB i) (now:Int) (n0:0<=now) (n1:now<=1073741824) (zF:Nat->SS) (hz0:zF 0=⟨dkU d ins,[],[],[]⟩) (hn:d.au.length=1) (hm:1<=ins.length)
  (hz:∀s,AI c (dkU d ins) (zF s).d/\((zF s).R.length=s/\(zF s).en.length<=1000*s/\(zF s).ks.length<=1000*s/\∀x∈(zF s).ks,0<=x/\x<(c.js.length:Int))/\SeR c now ins s (zF s) (zF (s+1))):
  zO 94 [wN c,zI d,zD jR ins,iA now] [] (tkT (dkM (zF 1).d now) (zF 1).R (zF 1).en (zF 1).ks) []:=by
 have kc:=NI d hI.bd zB;have hal:(d.au.map bA).length=1:=by rw[yBe,hn]
 have hinl:=zA jR ins;have km:=zK1 (zF 1).d.rq now (hz 1).1.i.v;have cfe:wN c= .agg [.sl false (c.js.map wE),.sl false (c.ags.map vB),iA c.per,iA c.cap,iA c.hold,iA c.lock]:=rfl;rw[cfe];unfold SA zI wF at kc;have e0:=jC (FO ins) d.au;have hkM:(min ((ins.map jR).length:Int) ((d.au.map bA).length:Int)).toNat=1:=by omega
 have htl:((ins.take 1).map jR).length=1:=by rw[yBe,yB4];omega
 have hty:∀s,s<1->((ins.take 1).map jR)[s]? =some (jR (ins.getD s default)):=λs hs=>by
  rw[yBh,yC6,yBd hs,yBl,yBu zB];rfl
 obtain⟨hT0,⟨ha0,hb0,hc0,_⟩,zf0,hf0,hs0,hl0,hx0⟩:=hz 0;have hy0:=hty 0 zB;refine eM call94 λF hF=>?_
 refine zW kc ?_;rw[hkM,hal];refine zN (1) [1004,4,5,8,28] [4,5,8,28] [2,3,4,5,8,12,13,14,39] [40,9,10,2,3,4,5,8,12,13,14,39] Z (λi T U=>⟨(40,iA i)::(9,.s (.slice none 0 0))::(10,.s (.slice none 0 0))::T,(1004,.arr 1 ((WA (FO ins) d.au i).map bA) false)::U⟩) ?_;(conv=>whnf);refine⟨by(rw[e0];rfl),?_,?_⟩
 ·intro i hi;have hya:((WA (FO ins) d.au i).map bA)[i]? =some (bA (d.au.getD i default)):=by rw[yBh,uP,yBd zB,yBc (yFf i)];rfl
  have hxl:((WA (FO ins) d.au i).map bA).length=1:=by rw[yBe,vA,hn]
  rw[qN bA (FO ins) d.au i zB];have hsame:=dG hya;clear kc km;generalize (WA (FO ins) d.au i).map bA=xs at *;generalize d.au.getD i default=b9 at *;unfold FO;by_cases h1:i<1
  ·have hy:=hty i h1;have hlt:i<ins.length:=by omega
   generalize ins.getD i default=x at *;obtain⟨op,its⟩:=x;rw[show jR ⟨op,its⟩= .agg [bA op,zD vC its]from Z]at hy;cases op
   ·rw[yBc (λh=>by cases h.2)];refine WW ?_;rfl
   ·rw[yBd ⟨hlt,rfl⟩,hsame];refine WW ?_;rfl
  ·rw[yBc (λh=>by omega)];refine WW ?_;rfl
 ·(refine WW ?_)
  refine kG [4,5,8,28] [2,3,4,5,8,9,10,12,13,14,61,62] Z ?_
  (conv=>whnf)
  rw[zNj (by omega:d.au.length=1),show WA (FO ins) d.au 1=auF ins d.au by unfold auF;rw[hn],htl];refine xC 13 1002 3 Z Z Z ?_;refine xC 14 1003 1 Z Z Z ?_;refine xC 9 1006 4 Z Z Z ?_;refine OS 28 Z ?_;refine XU 28 0 1006 Z Z Z Z Z ?_;refine uN 2 [5,28,1002,1003,1006,4,8] [13,14,62,2,3,4,5,8,12,61] Z ?_;refine xA (st0:=⟨[(13,.ref 1002 0 ((zF 0).en.map gF).length),(14,.ref 1003 0 ((zF 0).ks.map iA).length),(62,iA 0),(2,.sl false ((ins.take 1).map jR)),(3,iA now),(4,.ptr 4 0 0),(5,.ptr 5 0 0),(8,.ptr 8 0 0),(12,.ref 28 0 1),(61,iA 1)],[(5,.box (NH (zF 0).d)),(28,.arr 1 [.ref 1006 0 ([]:List AV).length] ⟨false,true⟩),(1002,.arr 3 ((zF 0).en.map gF) true),(1003,.arr 1 ((zF 0).ks.map iA) true),(1006,.arr 4 ([]:List AV) true),(4,.box [.sl false (c.js.map wE),.sl false (c.ags.map vB),iA c.per,iA c.cap,iA c.hold,iA c.lock]),(8,.box zNk)]⟩) (by rw[hz0];rfl) ?_;obtain⟨r0,hr0⟩:∃r,r=(zf0 (dM ins 0).length).rs:=⟨_,rfl⟩;have hR0:(zF 1).R=(zF 0).R++[r0]:=by rw[hr0,hx0]
  have q0:(zF 1).d=(zf0 (dM ins 0).length).d/\(zF 1).en=(zf0 (dM ins 0).length).en/\(zF 1).ks=(zf0 (dM ins 0).length).ks:=by rw[hx0];exact⟨rfl,rfl,rfl⟩
  have ml1:=zA gF (zF 0).en;have ml2:=zA iA (zF 0).ks;by_cases ho:(ins.getD 0 default).opn=true
  case' pos=>
   have hse:dM ins 0=(ins.getD 0 default).its:=by unfold dM;rw[yBd ⟨zB,ho⟩]
   have hib:=(AJ hin 0).1;rw[hse]at hib q0 hs0 hr0;clear hse;generalize ins.getD 0 default=x at *;obtain⟨op,its⟩:=x;dsimp only at *;subst ho;rw[show jR ⟨true,its⟩= .agg [bA true,zD vC its]from Z]at hy0;have hil2:=zA vC its;refine WW ?_;refine yO (its) [5,1002,1003,28,1006,4,8] [4,8] [2,3,4,5,8,12,16,61,62,75,76] [13,14,77,2,3,4,5,8,12,16,61,62,75,76] Z (λi pre T U=>⟨(13,.ref 1002 0 ((zf0 i).en.map gF).length)::(14,.ref 1003 0 ((zf0 i).ks.map iA).length)::(77,iA i)::T,(5,.box (NH (zf0 i).d))::(1002,.arr 3 ((zf0 i).en.map gF) true)::(1003,.arr 1 ((zf0 i).ks.map iA) true)::(28,.arr 1 [.ref 1006 0 ((zf0 i).rs.map yB).length] ⟨false,true⟩)::(1006,.arr 4 ((zf0 i).rs.map yB) true)::U⟩) ?_;(conv=>whnf);refine⟨by(rw[hf0];rfl),?_,?_⟩
   ·intro k pre it post hx hk;have hy3:=xL vC hx hk;have hlt3:=yQ hx hk;have hgt:its.getD k default=it:=by rw[hx,<-hk];simp[List.getD]
    obtain⟨h,hB,hP,hnx⟩:=hs0 k hlt3;rw[hgt]at hB;obtain⟨hk1,hk2,hk3,hk4⟩:=hl0 k;have hm1:=zA gF (zf0 k).en;have hm2:=zA iA (zf0 k).ks;have hm3:=zA yB (zf0 k).rs;have kh:=hB.1;rw[hnx];dsimp only;rw[show((zf0 k).rs++[h.p]).map yB=(zf0 k).rs.map yB++[yB h.p] by simp,show∀e:En,((zf0 k).en++[e]).map gF=(zf0 k).en.map gF++[gF e]from λe=>by simp,hgt];rw[cfe]at kh;unfold AO zI wF vC at kh;unfold vC at hy3;have hen:(zF 0).en.length<=2000/\(zF 0).ks.length<=2000:=by omega
    clear hx hgt hnx hB hP hty kc km;generalize (zf0 k).rs.map yB=rs9 at *;generalize (zf0 k).en.map gF=en9 at *;generalize h.p=p9 at *;generalize h.e=e9 at *;generalize h.d=d9 at *;generalize hkk:h.k=k9 at *;generalize (zf0 k).d=dk9 at *;obtain⟨pk,pt,pa,pd⟩:=p9;unfold yB MZ at kh;dsimp only at kh;unfold NH gF MZ yB;by_cases h0:0<=k9
    ·rw[yBd h0,show((zf0 k).ks++[k9]).map iA=(zf0 k).ks.map iA++[iA k9] by simp];generalize (zf0 k).ks.map iA=ks9 at *;refine zW kh ?_;rfl
    ·rw[yBc h0];generalize (zf0 k).ks.map iA=ks9 at *;refine zW kh ?_;rfl
   obtain⟨w1,w2,w3⟩:=q0;refine WW ?_
  case' neg=>
   have hse:dM ins 0=[]:=by unfold dM;rw[yBc (λh=>ho h.2)]
   rw[hse,yCr,hf0]at q0 hr0;obtain⟨w1,w2,w3⟩:=q0;have hop:(ins.getD 0 default).opn=false:=by simpa using ho
   clear hse ho;generalize ins.getD 0 default=x at *;obtain⟨op,its⟩:=x;dsimp only at *;subst hop;rw[show jR ⟨false,its⟩= .agg [bA false,zD vC its]from Z]at hy0;refine WW ?_
  all_goals clear hy0 ml1 ml2
  all_goals
   refine xA (st0:=⟨[(13,.ref 1002 0 ((zF 1).en.map gF).length),(14,.ref 1003 0 ((zF 1).ks.map iA).length),(62,iA 1),(2,.sl false ((ins.take 1).map jR)),(3,iA now),(4,.ptr 4 0 0),(5,.ptr 5 0 0),(8,.ptr 8 0 0),(12,.ref 28 0 1),(61,iA 1)],[(5,.box (NH (zF 1).d)),(28,.arr 1 [.ref 1006 0 (r0.map yB).length] ⟨false,true⟩),(1002,.arr 3 ((zF 1).en.map gF) true),(1003,.arr 1 ((zF 1).ks.map iA) true),(1006,.arr 4 (r0.map yB) true),(4,.box [.sl false (c.js.map wE),.sl false (c.ags.map vB),iA c.per,iA c.cap,iA c.hold,iA c.lock]),(8,.box zNk)]⟩) (by rw[w1,w2,w3,hr0];rfl) ?_;refine zW km ?_;refine zH [] Z Z ?_ Z
   show AV.tup [zI (dkM (zF 1).d now),.sl false [.sl false (List.take _ (List.drop 0 (r0.map yB)))],.sl false (List.take _ (List.drop 0 ((zF 1).en.map gF))),.sl false (List.take _ (List.drop 0 ((zF 1).ks.map iA)))]=_
   simp only[yCg,yBj];unfold tkT;rw[hR0,hz0];rfl
theorem zGt {c:Cf} {d:xH} (hI:uW c d) (ins:List In) (hil:ins.length<=1000) (hin:∀i∈ins,InB i) (now:Int) (n0:0<=now) (n1:now<=1073741824) (zF:Nat->SS) (hz0:zF 0=⟨dkU d ins,[],[],[]⟩) (hn:d.au.length=2) (hm:2<=ins.length)
  (hz:∀s,AI c (dkU d ins) (zF s).d/\((zF s).R.length=s/\(zF s).en.length<=1000*s/\(zF s).ks.length<=1000*s/\∀x∈(zF s).ks,0<=x/\x<(c.js.length:Int))/\SeR c now ins s (zF s) (zF (s+1))):
  zO 94 [wN c,zI d,zD jR ins,iA now] [] (tkT (dkM (zF 2).d now) (zF 2).R (zF 2).en (zF 2).ks) []:=by
 have kc:=NI d hI.bd zB;have hal:(d.au.map bA).length=2:=by rw[yBe,hn]
 have hinl:=zA jR ins;have km:=zK1 (zF 2).d.rq now (hz 2).1.i.v;have cfe:wN c= .agg [.sl false (c.js.map wE),.sl false (c.ags.map vB),iA c.per,iA c.cap,iA c.hold,iA c.lock]:=rfl;rw[cfe];unfold SA zI wF at kc;have e0:=jC (FO ins) d.au;have hkM:(min ((ins.map jR).length:Int) ((d.au.map bA).length:Int)).toNat=2:=by omega
 have htl:((ins.take 2).map jR).length=2:=by rw[yBe,yB4];omega
 have hty:∀s,s<2->((ins.take 2).map jR)[s]? =some (jR (ins.getD s default)):=λs hs=>by
  rw[yBh,yC6,yBd hs,yBl,yBu zB];rfl
 obtain⟨hT0,⟨ha0,hb0,hc0,_⟩,zf0,hf0,hs0,hl0,hx0⟩:=hz 0;have hy0:=hty 0 zB;obtain⟨hT1,⟨ha1,hb1,hc1,_⟩,zf1,hf1,hs1,hl1,hx1⟩:=hz 1;have hy1:=hty 1 zB;refine eM call94 λF hF=>?_
 refine zW kc ?_;rw[hkM,hal];refine zN (2) [1004,4,5,8,28] [4,5,8,28] [2,3,4,5,8,12,13,14,39] [40,9,10,2,3,4,5,8,12,13,14,39] Z (λi T U=>⟨(40,iA i)::(9,.s (.slice none 0 0))::(10,.s (.slice none 0 0))::T,(1004,.arr 1 ((WA (FO ins) d.au i).map bA) false)::U⟩) ?_;(conv=>whnf);refine⟨by(rw[e0];rfl),?_,?_⟩
 ·intro i hi;have hya:((WA (FO ins) d.au i).map bA)[i]? =some (bA (d.au.getD i default)):=by rw[yBh,uP,yBd zB,yBc (yFf i)];rfl
  have hxl:((WA (FO ins) d.au i).map bA).length=2:=by rw[yBe,vA,hn]
  rw[qN bA (FO ins) d.au i zB];have hsame:=dG hya;clear kc km;generalize (WA (FO ins) d.au i).map bA=xs at *;generalize d.au.getD i default=b9 at *;unfold FO;by_cases h1:i<2
  ·have hy:=hty i h1;have hlt:i<ins.length:=by omega
   generalize ins.getD i default=x at *;obtain⟨op,its⟩:=x;rw[show jR ⟨op,its⟩= .agg [bA op,zD vC its]from Z]at hy;cases op
   ·rw[yBc (λh=>by cases h.2)];refine WW ?_;rfl
   ·rw[yBd ⟨hlt,rfl⟩,hsame];refine WW ?_;rfl
  ·rw[yBc (λh=>by omega)];refine WW ?_;rfl
 ·(refine WW ?_)
  refine kG [4,5,8,28] [2,3,4,5,8,9,10,12,13,14,61,62] Z ?_
  (conv=>whnf)
  rw[zNj (by omega:d.au.length=2),show WA (FO ins) d.au 2=auF ins d.au by unfold auF;rw[hn],htl];refine xC 13 1002 3 Z Z Z ?_;refine xC 14 1003 1 Z Z Z ?_;refine xC 9 1006 4 Z Z Z ?_;refine xC 10 1007 4 Z Z Z ?_;refine OS 28 Z ?_;refine XU 28 0 1006 Z Z Z Z Z ?_;refine XU 28 1 1007 Z Z Z Z Z ?_;refine uN 3 [5,28,1002,1003,1006,1007,4,8] [13,14,62,2,3,4,5,8,12,61] Z ?_;refine xA (st0:=⟨[(13,.ref 1002 0 ((zF 0).en.map gF).length),(14,.ref 1003 0 ((zF 0).ks.map iA).length),(62,iA 0),(2,.sl false ((ins.take 2).map jR)),(3,iA now),(4,.ptr 4 0 0),(5,.ptr 5 0 0),(8,.ptr 8 0 0),(12,.ref 28 0 2),(61,iA 2)],[(5,.box (NH (zF 0).d)),(28,.arr 1 [.ref 1006 0 ([]:List AV).length,.ref 1007 0 ([]:List AV).length] ⟨false,true⟩),(1002,.arr 3 ((zF 0).en.map gF) true),(1003,.arr 1 ((zF 0).ks.map iA) true),(1006,.arr 4 ([]:List AV) true),(1007,.arr 4 ([]:List AV) true),(4,.box [.sl false (c.js.map wE),.sl false (c.ags.map vB),iA c.per,iA c.cap,iA c.hold,iA c.lock]),(8,.box zNk)]⟩) (by rw[hz0];rfl) ?_;obtain⟨r0,hr0⟩:∃r,r=(zf0 (dM ins 0).length).rs:=⟨_,rfl⟩;have hR0:(zF 1).R=(zF 0).R++[r0]:=by rw[hr0,hx0]
  have q0:(zF 1).d=(zf0 (dM ins 0).length).d/\(zF 1).en=(zf0 (dM ins 0).length).en/\(zF 1).ks=(zf0 (dM ins 0).length).ks:=by rw[hx0];exact⟨rfl,rfl,rfl⟩
  have ml1:=zA gF (zF 0).en;have ml2:=zA iA (zF 0).ks;by_cases ho:(ins.getD 0 default).opn=true
  case' pos=>
   have hse:dM ins 0=(ins.getD 0 default).its:=by unfold dM;rw[yBd ⟨zB,ho⟩]
   have hib:=(AJ hin 0).1;rw[hse]at hib q0 hs0 hr0;clear hse;generalize ins.getD 0 default=x at *;obtain⟨op,its⟩:=x;dsimp only at *;subst ho;rw[show jR ⟨true,its⟩= .agg [bA true,zD vC its]from Z]at hy0;have hil2:=zA vC its;refine WW ?_;refine yO (its) [5,1002,1003,28,1006,4,8,1007] [4,8,1007] [2,3,4,5,8,12,16,61,62,75,76] [13,14,77,2,3,4,5,8,12,16,61,62,75,76] Z (λi pre T U=>⟨(13,.ref 1002 0 ((zf0 i).en.map gF).length)::(14,.ref 1003 0 ((zf0 i).ks.map iA).length)::(77,iA i)::T,(5,.box (NH (zf0 i).d))::(1002,.arr 3 ((zf0 i).en.map gF) true)::(1003,.arr 1 ((zf0 i).ks.map iA) true)::(28,.arr 1 [.ref 1006 0 ((zf0 i).rs.map yB).length,.ref 1007 0 ([]:List AV).length] ⟨false,true⟩)::(1006,.arr 4 ((zf0 i).rs.map yB) true)::U⟩) ?_;(conv=>whnf);refine⟨by(rw[hf0];rfl),?_,?_⟩
   ·intro k pre it post hx hk;have hy3:=xL vC hx hk;have hlt3:=yQ hx hk;have hgt:its.getD k default=it:=by rw[hx,<-hk];simp[List.getD]
    obtain⟨h,hB,hP,hnx⟩:=hs0 k hlt3;rw[hgt]at hB;obtain⟨hk1,hk2,hk3,hk4⟩:=hl0 k;have hm1:=zA gF (zf0 k).en;have hm2:=zA iA (zf0 k).ks;have hm3:=zA yB (zf0 k).rs;have kh:=hB.1;rw[hnx];dsimp only;rw[show((zf0 k).rs++[h.p]).map yB=(zf0 k).rs.map yB++[yB h.p] by simp,show∀e:En,((zf0 k).en++[e]).map gF=(zf0 k).en.map gF++[gF e]from λe=>by simp,hgt];rw[cfe]at kh;unfold AO zI wF vC at kh;unfold vC at hy3;have hen:(zF 0).en.length<=2000/\(zF 0).ks.length<=2000:=by omega
    clear hx hgt hnx hB hP hty kc km;generalize (zf0 k).rs.map yB=rs9 at *;generalize (zf0 k).en.map gF=en9 at *;generalize h.p=p9 at *;generalize h.e=e9 at *;generalize h.d=d9 at *;generalize hkk:h.k=k9 at *;generalize (zf0 k).d=dk9 at *;obtain⟨pk,pt,pa,pd⟩:=p9;unfold yB MZ at kh;dsimp only at kh;unfold NH gF MZ yB;by_cases h0:0<=k9
    ·rw[yBd h0,show((zf0 k).ks++[k9]).map iA=(zf0 k).ks.map iA++[iA k9] by simp];generalize (zf0 k).ks.map iA=ks9 at *;refine zW kh ?_;rfl
    ·rw[yBc h0];generalize (zf0 k).ks.map iA=ks9 at *;refine zW kh ?_;rfl
   obtain⟨w1,w2,w3⟩:=q0;refine WW ?_
  case' neg=>
   have hse:dM ins 0=[]:=by unfold dM;rw[yBc (λh=>ho h.2)]
   rw[hse,yCr,hf0]at q0 hr0;obtain⟨w1,w2,w3⟩:=q0;have hop:(ins.getD 0 default).opn=false:=by simpa using ho
   clear hse ho;generalize ins.getD 0 default=x at *;obtain⟨op,its⟩:=x;dsimp only at *;subst hop;rw[show jR ⟨false,its⟩= .agg [bA false,zD vC its]from Z]at hy0;refine WW ?_
  all_goals clear hy0 ml1 ml2
  all_goals
   refine xA (st0:=⟨[(13,.ref 1002 0 ((zF 1).en.map gF).length),(14,.ref 1003 0 ((zF 1).ks.map iA).length),(62,iA 1),(2,.sl false ((ins.take 2).map jR)),(3,iA now),(4,.ptr 4 0 0),(5,.ptr 5 0 0),(8,.ptr 8 0 0),(12,.ref 28 0 2),(61,iA 2)],[(5,.box (NH (zF 1).d)),(28,.arr 1 [.ref 1006 0 (r0.map yB).length,.ref 1007 0 ([]:List AV).length] ⟨false,true⟩),(1002,.arr 3 ((zF 1).en.map gF) true),(1003,.arr 1 ((zF 1).ks.map iA) true),(1006,.arr 4 (r0.map yB) true),(1007,.arr 4 ([]:List AV) true),(4,.box [.sl false (c.js.map wE),.sl false (c.ags.map vB),iA c.per,iA c.cap,iA c.hold,iA c.lock]),(8,.box zNk)]⟩) (by rw[w1,w2,w3,hr0];rfl) ?_;obtain⟨r1,hr1⟩:∃r,r=(zf1 (dM ins 1).length).rs:=⟨_,rfl⟩;have hR1:(zF 2).R=(zF 1).R++[r1]:=by rw[hr1,hx1]
   have q1:(zF 2).d=(zf1 (dM ins 1).length).d/\(zF 2).en=(zf1 (dM ins 1).length).en/\(zF 2).ks=(zf1 (dM ins 1).length).ks:=by rw[hx1];exact⟨rfl,rfl,rfl⟩
   have ml1:=zA gF (zF 1).en;have ml2:=zA iA (zF 1).ks;by_cases ho:(ins.getD 1 default).opn=true
   case' pos=>
    have hse:dM ins 1=(ins.getD 1 default).its:=by unfold dM;rw[yBd ⟨zB,ho⟩]
    have hib:=(AJ hin 1).1;rw[hse]at hib q1 hs1 hr1;clear hse;generalize ins.getD 1 default=x at *;obtain⟨op,its⟩:=x;dsimp only at *;subst ho;rw[show jR ⟨true,its⟩= .agg [bA true,zD vC its]from Z]at hy1;have hil2:=zA vC its;refine WW ?_;refine yO (its) [5,1002,1003,28,1007,4,8,1006] [4,8,1006] [2,3,4,5,8,12,16,61,62,75,76] [13,14,77,2,3,4,5,8,12,16,61,62,75,76] Z (λi pre T U=>⟨(13,.ref 1002 0 ((zf1 i).en.map gF).length)::(14,.ref 1003 0 ((zf1 i).ks.map iA).length)::(77,iA i)::T,(5,.box (NH (zf1 i).d))::(1002,.arr 3 ((zf1 i).en.map gF) true)::(1003,.arr 1 ((zf1 i).ks.map iA) true)::(28,.arr 1 [.ref 1006 0 (r0.map yB).length,.ref 1007 0 ((zf1 i).rs.map yB).length] ⟨false,true⟩)::(1007,.arr 4 ((zf1 i).rs.map yB) true)::U⟩) ?_;(conv=>whnf);refine⟨by(rw[hf1];rfl),?_,?_⟩
    ·intro k pre it post hx hk;have hy3:=xL vC hx hk;have hlt3:=yQ hx hk;have hgt:its.getD k default=it:=by rw[hx,<-hk];simp[List.getD]
     obtain⟨h,hB,hP,hnx⟩:=hs1 k hlt3;rw[hgt]at hB;obtain⟨hk1,hk2,hk3,hk4⟩:=hl1 k;have hm1:=zA gF (zf1 k).en;have hm2:=zA iA (zf1 k).ks;have hm3:=zA yB (zf1 k).rs;have kh:=hB.1;rw[hnx];dsimp only;rw[show((zf1 k).rs++[h.p]).map yB=(zf1 k).rs.map yB++[yB h.p] by simp,show∀e:En,((zf1 k).en++[e]).map gF=(zf1 k).en.map gF++[gF e]from λe=>by simp,hgt];rw[cfe]at kh;unfold AO zI wF vC at kh;unfold vC at hy3;have hen:(zF 1).en.length<=2000/\(zF 1).ks.length<=2000:=by omega
     clear hx hgt hnx hB hP hty kc km;generalize (zf1 k).rs.map yB=rs9 at *;generalize (zf1 k).en.map gF=en9 at *;generalize h.p=p9 at *;generalize h.e=e9 at *;generalize h.d=d9 at *;generalize hkk:h.k=k9 at *;generalize (zf1 k).d=dk9 at *;obtain⟨pk,pt,pa,pd⟩:=p9;unfold yB MZ at kh;dsimp only at kh;unfold NH gF MZ yB;by_cases h0:0<=k9
     ·rw[yBd h0,show((zf1 k).ks++[k9]).map iA=(zf1 k).ks.map iA++[iA k9] by simp];generalize (zf1 k).ks.map iA=ks9 at *;refine zW kh ?_;rfl
     ·rw[yBc h0];generalize (zf1 k).ks.map iA=ks9 at *;refine zW kh ?_;rfl
    obtain⟨w1,w2,w3⟩:=q1;refine WW ?_
   case' neg=>
    have hse:dM ins 1=[]:=by unfold dM;rw[yBc (λh=>ho h.2)]
    rw[hse,yCr,hf1]at q1 hr1;obtain⟨w1,w2,w3⟩:=q1;have hop:(ins.getD 1 default).opn=false:=by simpa using ho
    clear hse ho;generalize ins.getD 1 default=x at *;obtain⟨op,its⟩:=x;dsimp only at *;subst hop;rw[show jR ⟨false,its⟩= .agg [bA false,zD vC its]from Z]at hy1;refine WW ?_
   all_goals clear hy1 ml1 ml2
   all_goals
    refine xA (st0:=⟨[(13,.ref 1002 0 ((zF 2).en.map gF).length),(14,.ref 1003 0 ((zF 2).ks.map iA).length),(62,iA 2),(2,.sl false ((ins.take 2).map jR)),(3,iA now),(4,.ptr 4 0 0),(5,.ptr 5 0 0),(8,.ptr 8 0 0),(12,.ref 28 0 2),(61,iA 2)],[(5,.box (NH (zF 2).d)),(28,.arr 1 [.ref 1006 0 (r0.map yB).length,.ref 1007 0 (r1.map yB).length] ⟨false,true⟩),(1002,.arr 3 ((zF 2).en.map gF) true),(1003,.arr 1 ((zF 2).ks.map iA) true),(1006,.arr 4 (r0.map yB) true),(1007,.arr 4 (r1.map yB) true),(4,.box [.sl false (c.js.map wE),.sl false (c.ags.map vB),iA c.per,iA c.cap,iA c.hold,iA c.lock]),(8,.box zNk)]⟩) (by rw[w1,w2,w3,hr1];rfl) ?_;refine zW km ?_;refine zH [] Z Z ?_ Z
    show AV.tup [zI (dkM (zF 2).d now),.sl false [.sl false (List.take _ (List.drop 0 (r0.map yB))),.sl false (List.take _ (List.drop 0 (r1.map yB)))],.sl false (List.take _ (List.drop 0 ((zF 2).en.map gF))),.sl false (List.take _ (List.drop 0 ((zF 2).ks.map iA)))]=_
    simp only[yCg,yBj];unfold tkT;rw[hR1,hR0,hz0];rfl
structure Vw where
 fl:Bool
 ov:Bool
 co:List Int
 cn:List Int
instance:Inhabited Vw:=⟨⟨false,false,[],[]⟩⟩
def vQ (v:Vw):AV:= .agg [bA v.fl,bA v.ov,zD iA v.co,zD iA v.cn]
structure VwB (v:Vw):Prop where
 n:v.co.length<=8
 m:v.cn.length<=8
 c:∀c∈v.co,0<=c/\c<=2
def XV (n:Int):Int:=IntKind.u8.wrap n
def hdF (a b:Bool):Int:=(if a=true then 1 else 0)+(if b=true then 2 else 0)
def kH (l:List Int):Nat->Int
 |0=>0
 |i+1=>kH l i+l.getD i 0*p2 (2*(i:Int))
def vwF (v:Vw):List Int:=[hdF v.fl v.ov,uQ (kH v.co v.co.length) 8,XV (kH v.co v.co.length)]++v.cn.map XV
def NZ (l:List Vw):List Int:=(l.map vwF).flatten
def zNl (i:Nat):p2 (2*((i+1:Nat):Int))=p2 (2*(i:Int))*4:=by
 unfold p2;rw[show(2*((i+1:Nat):Int)).toNat=(2*(i:Int)).toNat+2 by omega,Int.pow_add];rfl
def XW (i:Nat) (h:i<=8):1<=p2 (2*(i:Int))/\p2 (2*(i:Int))<=65536:=by
 have:i=0∨i=1∨i=2∨i=3∨i=4∨i=5∨i=6∨i=7∨i=8:=by omega
 rcases this with rfl|rfl|rfl|rfl|rfl|rfl|rfl|rfl|rfl<;>decide
theorem GQ {l:List Int} (h:∀c∈l,0<=c/\c<=2):∀i,i<=l.length->i<=8->0<=kH l i/\kH l i<p2 (2*(i:Int))
 |0,_,_=>by simp[kH,p2]
 | i+1,h1,h2=>by
  have ih:=GQ h i zB zB
  have hm:l.getD i 0∈l:=by
   rw[yBl,yBu zB];exact yD1 _
  have hc:=h _ hm;have hp:=XW i zB;rw[zNl,kH];generalize l.getD i 0=c at *;generalize p2 (2*(i:Int))=w at *;have:c=0∨c=1∨c=2:=by omega
  rcases this with rfl|rfl|rfl<;>omega
def zZq {n:Int} (h0:0<=n) (h1:n<65536):0<=uQ n 8/\uQ n 8<=255:=by
 unfold uQ;rw[show(2:Int) ^ (8:Int).toNat=256 from Z,yEw _ zB];omega
def zNm (pre:List Vw) (v:Vw):(NZ (pre++[v])).map yA=(NZ pre).map yA++[yA (hdF v.fl v.ov),yA (uQ (kH v.co v.co.length) 8),yA (XV (kH v.co v.co.length))]++v.cn.map (λn=>yA (XV n)):=by
 unfold NZ vwF;simp
def UI {l:List Vw} (h:∀v∈l,VwB v):(NZ l).length<=11*l.length:=by
 unfold NZ
 induction l with
 |nil=>simp
 |cons v l ih=>
  have h1:=ih λx hx=>h x MT
  have h2:=(h v zQ).m;rw[yCh,yDv,yBf,yBp];unfold vwF;rw[yBf,yBe];simp only[yBp,yCr];unfold vwF at h1;omega
theorem zNn (l:List Vw) (hn:l.length<=1000) (hb:∀v∈l,VwB v):zO 178 [zD vQ l] [] (.ref 1001 0 ((NZ l).map yA).length) [(1001,.arr 1 ((NZ l).map yA) true)]:=by
 have hl:=zA vQ l;have hfin:=UI hb;refine eM call178 λF hF=>?_
 refine WW ?_;refine xC 3 1001 1 Z Z Z ?_;refine yO (l) [1001] [] [13,14] [3,15,13,14] Z (λi pre T U=>⟨(3,.ref 1001 0 ((NZ pre).map yA).length)::(15,iA i)::T,(1001,.arr 1 ((NZ pre).map yA) true)::U⟩) ?_;(conv=>whnf);refine⟨by rfl,?_,?_⟩
 ·intro i pre v post hx hi;have hy:=xL vQ hx hi;have hlt:=yQ hx hi;have hv:=hb v (wZ hx);have hpl:=UI (l:=pre) (λw hw=>hb w (by rw[hx];simp[hw]));have hxl:((NZ pre).map yA).length<=11000:=by rw[yBe];omega
  rw[zNm];clear hx hpl hfin;generalize (NZ pre).map yA=xs at *;have hc1:=zA iA v.co;have hc2:=zA iA v.cn;have hbd:=λk hk=>GQ hv.c k hk (yCp hk hv.n)
  have hn8:=hv.n;have hm8:=hv.m;obtain⟨fl,ov,co,cn⟩:=v;dsimp only at *;rw[show vQ ⟨fl,ov,co,cn⟩= .agg [bA fl,bA ov,zD iA co,zD iA cn]from Z]at hy;have hlast:=hbd co.length (yBg _);have hpl8:=XW co.length hn8;have hs8:=zZq (n:=kH co co.length) hlast.1 zB
  cases fl<;>cases ov
  ·(refine WW ?_)
   refine yO (co) [5,1001] [5,1001] [3,5,6,13,14,15,28,29] [7,8,30,3,5,6,13,14,15,28,29] Z (λi pre T U=>⟨(7,iA (kH co i))::(8,iA (p2 (2*(i:Int))))::(30,iA i)::T,U⟩) ?_;(conv=>whnf);refine⟨by rfl,?_,?_⟩
   ·intro k pre2 c post2 hx2 hk;have hy2:=xL iA hx2 hk;have hlt2:=yQ hx2 hk;have hcm:=hv.c c (wZ hx2);have hg:co.getD k 0=c:=by rw[hx2,<-hk];simp[List.getD]
    have hb1:=hbd k zB;have hp1:=XW k zB;have e1:kH co (k+1)=kH co k+c*p2 (2*(k:Int)):=by rw[kH,hg]
    rw[e1,zNl];clear hx2 hbd hlast hpl8 hs8 e1 hv;generalize kH co k=s at *;generalize p2 (2*(k:Int))=w at *;have:c=0∨c=1∨c=2:=by omega
    rcases this with rfl|rfl|rfl
    all_goals
     refine WW ?_;rfl
   ·clear hbd hv;generalize kH co co.length=s at *;refine WW ?_;refine yO (cn) [1001] [] [13,14,15,53,54] [3,55,13,14,15,53,54] Z (λi pre T U=>⟨(3,.ref 1001 0 (xs++[yA (hdF false false),yA (uQ s 8),yA (XV s)]++pre.map (λn=>yA (XV n))).length)::(55,iA i)::T,(1001,.arr 1 (xs++[yA (hdF false false),yA (uQ s 8),yA (XV s)]++pre.map (λn=>yA (XV n))) true)::U⟩) ?_;(conv=>whnf);refine⟨by(simp only[yD2,yCd];rfl),?_,?_⟩
    ·intro k pre2 c post2 hx2 hk;have hy2:=xL iA hx2 hk;have hlt2:=yQ hx2 hk;have hpk:(pre2.map (λn=>yA (XV n))).length=k:=by rw[yBe];exact hk
     rw[yBn,yCh,yD2,<-yCa];clear hx2;generalize pre2.map (λn=>yA (XV n))=zs2 at *;refine WW ?_;rfl
    ·(refine WW ?_)
     rfl
  ·(refine WW ?_)
   refine yO (co) [5,1001] [5,1001] [3,5,6,13,14,15,28,29] [7,8,30,3,5,6,13,14,15,28,29] Z (λi pre T U=>⟨(7,iA (kH co i))::(8,iA (p2 (2*(i:Int))))::(30,iA i)::T,U⟩) ?_;(conv=>whnf);refine⟨by rfl,?_,?_⟩
   ·intro k pre2 c post2 hx2 hk;have hy2:=xL iA hx2 hk;have hlt2:=yQ hx2 hk;have hcm:=hv.c c (wZ hx2);have hg:co.getD k 0=c:=by rw[hx2,<-hk];simp[List.getD]
    have hb1:=hbd k zB;have hp1:=XW k zB;have e1:kH co (k+1)=kH co k+c*p2 (2*(k:Int)):=by rw[kH,hg]
    rw[e1,zNl];clear hx2 hbd hlast hpl8 hs8 e1 hv;generalize kH co k=s at *;generalize p2 (2*(k:Int))=w at *;have:c=0∨c=1∨c=2:=by omega
    rcases this with rfl|rfl|rfl
    all_goals
     refine WW ?_;rfl
   ·clear hbd hv;generalize kH co co.length=s at *;refine WW ?_;refine yO (cn) [1001] [] [13,14,15,53,54] [3,55,13,14,15,53,54] Z (λi pre T U=>⟨(3,.ref 1001 0 (xs++[yA (hdF false true),yA (uQ s 8),yA (XV s)]++pre.map (λn=>yA (XV n))).length)::(55,iA i)::T,(1001,.arr 1 (xs++[yA (hdF false true),yA (uQ s 8),yA (XV s)]++pre.map (λn=>yA (XV n))) true)::U⟩) ?_;(conv=>whnf);refine⟨by(simp only[yD2,yCd];rfl),?_,?_⟩
    ·intro k pre2 c post2 hx2 hk;have hy2:=xL iA hx2 hk;have hlt2:=yQ hx2 hk;have hpk:(pre2.map (λn=>yA (XV n))).length=k:=by rw[yBe];exact hk
     rw[yBn,yCh,yD2,<-yCa];clear hx2;generalize pre2.map (λn=>yA (XV n))=zs2 at *;refine WW ?_;rfl
    ·(refine WW ?_)
     rfl
  ·(refine WW ?_)
   refine yO (co) [5,1001] [5,1001] [3,5,6,13,14,15,28,29] [7,8,30,3,5,6,13,14,15,28,29] Z (λi pre T U=>⟨(7,iA (kH co i))::(8,iA (p2 (2*(i:Int))))::(30,iA i)::T,U⟩) ?_;(conv=>whnf);refine⟨by rfl,?_,?_⟩
   ·intro k pre2 c post2 hx2 hk;have hy2:=xL iA hx2 hk;have hlt2:=yQ hx2 hk;have hcm:=hv.c c (wZ hx2);have hg:co.getD k 0=c:=by rw[hx2,<-hk];simp[List.getD]
    have hb1:=hbd k zB;have hp1:=XW k zB;have e1:kH co (k+1)=kH co k+c*p2 (2*(k:Int)):=by rw[kH,hg]
    rw[e1,zNl];clear hx2 hbd hlast hpl8 hs8 e1 hv;generalize kH co k=s at *;generalize p2 (2*(k:Int))=w at *;have:c=0∨c=1∨c=2:=by omega
    rcases this with rfl|rfl|rfl
    all_goals
     refine WW ?_;rfl
   ·clear hbd hv;generalize kH co co.length=s at *;refine WW ?_;refine yO (cn) [1001] [] [13,14,15,53,54] [3,55,13,14,15,53,54] Z (λi pre T U=>⟨(3,.ref 1001 0 (xs++[yA (hdF true false),yA (uQ s 8),yA (XV s)]++pre.map (λn=>yA (XV n))).length)::(55,iA i)::T,(1001,.arr 1 (xs++[yA (hdF true false),yA (uQ s 8),yA (XV s)]++pre.map (λn=>yA (XV n))) true)::U⟩) ?_;(conv=>whnf);refine⟨by(simp only[yD2,yCd];rfl),?_,?_⟩
    ·intro k pre2 c post2 hx2 hk;have hy2:=xL iA hx2 hk;have hlt2:=yQ hx2 hk;have hpk:(pre2.map (λn=>yA (XV n))).length=k:=by rw[yBe];exact hk
     rw[yBn,yCh,yD2,<-yCa];clear hx2;generalize pre2.map (λn=>yA (XV n))=zs2 at *;refine WW ?_;rfl
    ·(refine WW ?_)
     rfl
  ·(refine WW ?_)
   refine yO (co) [5,1001] [5,1001] [3,5,6,13,14,15,28,29] [7,8,30,3,5,6,13,14,15,28,29] Z (λi pre T U=>⟨(7,iA (kH co i))::(8,iA (p2 (2*(i:Int))))::(30,iA i)::T,U⟩) ?_;(conv=>whnf);refine⟨by rfl,?_,?_⟩
   ·intro k pre2 c post2 hx2 hk;have hy2:=xL iA hx2 hk;have hlt2:=yQ hx2 hk;have hcm:=hv.c c (wZ hx2);have hg:co.getD k 0=c:=by rw[hx2,<-hk];simp[List.getD]
    have hb1:=hbd k zB;have hp1:=XW k zB;have e1:kH co (k+1)=kH co k+c*p2 (2*(k:Int)):=by rw[kH,hg]
    rw[e1,zNl];clear hx2 hbd hlast hpl8 hs8 e1 hv;generalize kH co k=s at *;generalize p2 (2*(k:Int))=w at *;have:c=0∨c=1∨c=2:=by omega
    rcases this with rfl|rfl|rfl
    all_goals
     refine WW ?_;rfl
   ·clear hbd hv;generalize kH co co.length=s at *;refine WW ?_;refine yO (cn) [1001] [] [13,14,15,53,54] [3,55,13,14,15,53,54] Z (λi pre T U=>⟨(3,.ref 1001 0 (xs++[yA (hdF true true),yA (uQ s 8),yA (XV s)]++pre.map (λn=>yA (XV n))).length)::(55,iA i)::T,(1001,.arr 1 (xs++[yA (hdF true true),yA (uQ s 8),yA (XV s)]++pre.map (λn=>yA (XV n))) true)::U⟩) ?_;(conv=>whnf);refine⟨by(simp only[yD2,yCd];rfl),?_,?_⟩
    ·intro k pre2 c post2 hx2 hk;have hy2:=xL iA hx2 hk;have hlt2:=yQ hx2 hk;have hpk:(pre2.map (λn=>yA (XV n))).length=k:=by rw[yBe];exact hk
     rw[yBn,yCh,yD2,<-yCa];clear hx2;generalize pre2.map (λn=>yA (XV n))=zs2 at *;refine WW ?_;rfl
    ·(refine WW ?_)
     rfl
 ·(refine WW ?_)
  exact zK [1001] Z Z Z Z
def cdW (g:Lg) (w:Vw):Int:=if 0<=g.ph/\g.ph<(w.co.length:Int)then(if w.ov=true/\w.fl=false/\w.co.getD g.ph.toNat default=1 then 3 else 2)else 1
def cdF (g:Lg) (v:List Vw) (now:Int):Int:=if CJ g now=true/\0<=g.jn/\g.jn<(v.length:Int)then cdW g (v.getD g.jn.toNat default)else 1
def zNo (g:Lg) (v:List Vw) (now:Int):1<=cdF g v now/\cdF g v now<=3:=by
 unfold cdF cdW
 repeat' split
 all_goals omega
def zNp (g:Lg) (v:List Vw) (now:Int) {Q:Int->Prop} (q1:CJ g now=false->Q 1) (q2:CJ g now=true->g.jn<0->Q 1) (q3:CJ g now=true->0<=g.jn->(v.length:Int)<=g.jn->Q 1)
  (q4:∀w,CJ g now=true->0<=g.jn->g.jn<(v.length:Int)->(v.map vQ)[g.jn.toNat]? =some (vQ w)->g.ph<0->Q 1)
  (q5:∀w,CJ g now=true->0<=g.jn->g.jn<(v.length:Int)->(v.map vQ)[g.jn.toNat]? =some (vQ w)->0<=g.ph->(w.co.length:Int)<=g.ph->Q 1)
  (q6:∀w c,CJ g now=true->0<=g.jn->g.jn<(v.length:Int)->(v.map vQ)[g.jn.toNat]? =some (vQ w)->0<=g.ph->g.ph<(w.co.length:Int)->(w.co.map iA)[g.ph.toNat]? =some (iA c)->Q (if w.ov=true/\w.fl=false/\c=1 then 3 else 2)):Q (cdF g v now):=by
 unfold cdF
 cases hl:CJ g now with
 |false=>rw[yBc (λh=>by cases h.1)];exact q1 hl
 |true=>
  by_cases j0:g.jn<0
  ·rw[yBc (λh=>by omega)];exact q2 hl j0
  by_cases j1:(v.length:Int)<=g.jn
  ·rw[yBc (λh=>by omega)];exact q3 hl zB j1
  have hy:=yL vQ v g.jn zB zB;rw[yBd ⟨rfl,zB,zB⟩];generalize v.getD g.jn.toNat default=w at *;unfold cdW;by_cases p0:g.ph<0
  ·rw[yBc (λh=>by omega)];exact q4 w hl zB zB hy p0
  by_cases p1:(w.co.length:Int)<=g.ph
  ·rw[yBc (λh=>by omega)];exact q5 w hl zB zB hy zB p1
  have hy2:=yL iA w.co g.ph zB zB;rw[yBd ⟨zB,zB⟩];exact q6 w _ hl zB zB hy zB zB hy2
def zNq (g:Lg) (v:List Vw) (now:Int) (hn:v.length<=1000) (hb:∀w∈v,w.co.length<=1000):zO 88 [xS g,zD vQ v,iA now] [] (iA (cdF g v now)) []:=by
 have cl:=zLn g now;have hvl:=zA vQ v;have hb:∀w,(v.map vQ)[g.jn.toNat]? =some (vQ w)->(w.co.map iA).length=w.co.length:=λw _=>zA iA w.co
 unfold xS at *;refine zNp (Q:=λr=>zO 88 [.agg [iA g.jn,iA g.ph,iA g.fr,iA g.to,iA g.sc],zD vQ v,iA now] [] (iA r) []) g v now (λh1=>?_) (λh1 h2=>?_) (λh1 h2 h3=>?_) (λw h1 h2 h3 hy h4=>?_) (λw h1 h2 h3 hy h4 h5=>?_) (λw c h1 h2 h3 hy h4 h5 hy2=>?_)
 ·rw[h1]at cl;refine eM call88 λF hF=>?_
  refine zW cl ?_;exact zJ
 ·rw[h1]at cl;refine eM call88 λF hF=>?_
  refine zW cl ?_;exact zJ
 ·rw[h1]at cl;refine eM call88 λF hF=>?_
  refine zW cl ?_;exact zJ
 ·rw[h1]at cl;unfold vQ at hy;refine eM call88 λF hF=>?_
  refine zW cl ?_;exact zJ
 ·rw[h1]at cl;have hwl:=hb w hy;unfold vQ zD at hy;refine eM call88 λF hF=>?_
  refine zW cl ?_;exact zJ
 ·rw[h1]at cl;have hwl:=hb w hy;clear hb;obtain⟨fl,ov,co,cn⟩:=w;rw[show vQ ⟨fl,ov,co,cn⟩= .agg [bA fl,bA ov,zD iA co,zD iA cn]from Z]at hy;dsimp only at *;cases ov
  ·(refine eM call88 λF hF=>?_)
   refine zW cl ?_;exact zJ
  cases fl
  case true=>
   refine eM call88 λF hF=>?_
   refine zW cl ?_;exact zJ
  by_cases hc1:c=1
  ·rw[yBd ⟨rfl,rfl,hc1⟩];refine eM call88 λF hF=>?_
   refine zW cl ?_;exact zJ
  ·rw[yBc (λh=>hc1 h.2.2)];refine eM call88 λF hF=>?_
   refine zW cl ?_;exact zJ
def cqF (l:List Rq) (v:List Vw) (now:Int) (i:Nat):Int:=if i/3<l.length/\i % 3<(l.getD (i/3) default).legs.length then cdF ((l.getD (i/3) default).legs.getD (i % 3) default) v now else 0
def cqL (l:List Rq) (v:List Vw) (now:Int) (n:Nat):List Int:=(List.range n).map (cqF l v now)
def AK (l:List Rq) (v:List Vw) (now:Int) (N i:Nat):List Int:=(List.range N).map λj=>if j<i then cqF l v now j else 0
def zEm (l:List Rq) (v:List Vw) (now:Int) (N i:Nat):(AK l v now N i).length=N:=by simp[AK]
def zNr (l:List Rq) (v:List Vw) (now:Int) (N:Nat):(AK l v now N 0).map yA=List.replicate N (yA 0):=by
 apply yCs;intro j;unfold AK;rw[yBh,yBh,yC7];by_cases hj:j<N
 ·rw[yCe hj,yBd hj];simp
 ·rw[yB6 wU,yBc hj];rfl
def zB6 (l:List Rq) (v:List Vw) (now:Int) (N k j:Nat):((AK l v now N k).map yA)[j]? =if j<N then some (yA (if j<k then cqF l v now j else 0))else none:=by
 unfold AK;rw[yBh,yBh];by_cases hj:j<N
 ·rw[yCe hj,yBd hj];rfl
 ·rw[yB6 wU,yBc hj];rfl
def zNs (l:List Rq) (v:List Vw) (now:Int) (N i:Nat) (hi:i<N):(AK l v now N (i+1)).map yA=((AK l v now N i).map yA).set i (yA (cqF l v now i)):=by
 apply yCs;intro j;rw[yDe,zB6,zB6,yBe,zEm];by_cases he:i=j
 ·subst he;rw[yBd hi,yBd Z,yBd hi,yBd (yHa i)]
 ·rw[yBc he];by_cases hj:j<N
  ·rw[yBd hj,yBd hj];by_cases h2:j<i
   ·rw[yBd zB,yBd h2]
   ·rw[yBc zB,yBc h2]
  ·rw[yBc hj,yBc hj]
def zR8 (l:List Rq) (v:List Vw) (now:Int) (N:Nat):AK l v now N N=cqL l v now N:=by
 unfold AK cqL;apply yEt;intro j hj;rw[yBd (yBz.1 hj)]
theorem zR9 (l:List Rq) (q:Nat) (v:List Vw) (now:Int) (hq:q<=1000) (hl:l.length<=1000) (hlg:∀r∈l,r.legs.length<=1000) (hn:v.length<=1000) (hb:∀w∈v,w.co.length<=1000):
  zO 132 [zD yI l,iA q,zD vQ v,iA now] [] (zD yA (cqL l v now (q*3))) []:=by
 have hll:=zA yI l;by_cases h0:q=0
 ·subst h0;refine eM call132 λF hF=>?_
  refine WW ?_;exact zJ
 have e0:=zNr l v now (q*3);have hvl:=zA vQ v;refine eM call132 λF hF=>?_
 refine WW ?_;have hN9:q*3<=3000:=by omega
 generalize q*3=N at *;refine zN (N) [21] [] [0,2,3,9,23] [24,0,2,3,9,23] Z (λi T U=>⟨(24,iA i)::T,(21,.arr 1 ((AK l v now N i).map yA) false)::U⟩) ?_;(conv=>whnf);refine⟨by(rw[e0];rfl),?_,?_⟩
 ·intro i hi;have hr:(i:Int).tdiv 3=((i/3:Nat):Int):=by rw[yC5 zB];omega
  have hk:(i:Int).tmod 3=((i % 3:Nat):Int):=by rw[yC2 zB];omega
  have hin:aA .i64 ((i:Int).tdiv 3):=⟨by show -9223372036854775808<=_;omega,by show _<=9223372036854775807;omega⟩;have hnl:((AK l v now N i).map yA).length=N:=by rw[yBe,zEm]
  have e:=zNs l v now N i hi;rw[e];have hyx:((AK l v now N i).map yA)[i]? =some (yA (if i<i then cqF l v now i else 0)):=by rw[zB6,yBd hi]
  have hset:∀y:AV,(((AK l v now N i).map yA).set i y)[i]? =some y:=λy=>yC0 zB
  by_cases hr1:i/3<l.length
  ·have hy:(l.map yI)[((i:Int).tdiv 3).toNat]? =some (yI (l.getD (i/3) default)):=by rw[hr];exact zM yI l _ hr1
   have hxl:(l.getD (i/3) default).legs.length<=1000:=hlg _ (by rw[yBl,yBu hr1];exact yD1 _);have hxm:=zA xS (l.getD (i/3) default).legs
   have ec:cqF l v now i=if i % 3<(l.getD (i/3) default).legs.length then cdF ((l.getD (i/3) default).legs.getD (i % 3) default) v now else 0:=by
    unfold cqF;by_cases h:i % 3<(l.getD (i/3) default).legs.length
    ·rw[yBd ⟨hr1,h⟩,yBd h]
    ·rw[yBc (λh9=>h h9.2),yBc h]
   rw[ec];clear e ec e0;generalize l.getD (i/3) default=x at *;unfold yI zD at hy;by_cases hk1:i % 3<x.legs.length
   ·have hy2:(x.legs.map xS)[((i:Int).tmod 3).toNat]? =some (xS (x.legs.getD (i % 3) default)):=by rw[hk];exact zM xS x.legs _ hk1
    have cc:=zNq (x.legs.getD (i % 3) default) v now hn hb;have hcb:=zNo (x.legs.getD (i % 3) default) v now;rw[yBd hk1];generalize cdF (x.legs.getD (i % 3) default) v now=c at *;generalize x.legs.getD (i % 3) default=g at *;generalize (AK l v now N i).map yA=xs at*
    (have zc1:=cc;(repeat' (first|refine WTR ?_|((first|apply xE|apply xV)<;>intro hc)|(refine zE ?_;first|(refine XN ?_;refine zBs tok Z Z Z (hset _) Z Z Z Z Z Z Z Z ?_)|refine SM ?_)|refine SB ?_|fail))<;>clear zc1)
    refine yB8 (St.mk _) ?_
    show [(21,xM.arr 1 ((xs.set i _).set i _) _)]=_
    rw[yGi];rfl
   ·rw[yBc hk1];generalize (AK l v now N i).map yA=xs at *;refine WW ?_;rfl
  ·have ec:cqF l v now i=0:=by unfold cqF;rw[yBc (λh=>hr1 h.1)]
   rw[ec];clear e ec e0;generalize (AK l v now N i).map yA=xs at *;refine WW ?_;rfl
 ·rw[zR8];refine WW ?_;refine zH [] Z Z ?_ Z;exact yB8 (AV.sl false) (yBo (by simp[cqL]))
def stM (now:Int) (v:List Vw) (b:List Int):Ms:=⟨17,[],[now],NZ v++b⟩
def zXi (now:Int) (v:List Vw) (b:List Int) (hn:v.length<=1000) (hb:∀w∈v,VwB w) (hl:b.length<=10000):zO 133 [iA now,zD vQ v,zD yA b] [] (yB (stM now v b)) []:=by
 have kr:=zNn v hn hb;have h1:=UI hb;have hrl:=zA yA (NZ v);have hbl:=zA yA b;rw[show yB (stM now v b)= .agg [iA 17,.sl false [],.sl false [iA now],.sl false ((NZ v).map yA++b.map yA)] by unfold stM yB zD;rw[yBn];rfl];generalize (NZ v).map yA=xs at *;refine eM call133 λF hF=>?_
 refine WLo kr ?_;refine zH [] Z Z ?_ Z;exact yB8 (λz=>AV.agg [iA 17,AV.sl false [],AV.sl false [iA now],AV.sl false z]) yBj
def MX (d:xH) (v:List Vw) (now:Int):Ms:=stM now v (cqL d.rq v now (d.rg.ag.req.toNat*3))
def zNt (d:xH) (hd:fY d) (hq:0<=d.rg.ag.req/\d.rg.ag.req<=4) (v:List Vw) (now:Int) (hn:v.length<=1000) (hb:∀w∈v,VwB w):zO 96 [zI d,zD vQ v,iA now] [] (yB (MX d v now)) []:=by
 have c1:=zR9 d.rq d.rg.ag.req.toNat v now zB hd.q hd.g hn (λw hw=>yCp (hb w hw).n xO);rw[show((d.rg.ag.req.toNat:Nat):Int)=d.rg.ag.req by omega]at c1;have c2:=zXi now v (cqL d.rq v now (d.rg.ag.req.toNat*3)) hn hb (by simp[cqL];omega);unfold MX;generalize cqL d.rq v now (d.rg.ag.req.toNat*3)=cs at *;unfold yB at *;unfold zI wF;generalize NZ v=rc at *;refine eM call96 λF hF=>?_
 refine yS (vH c1 c2) ?_;exact zJ
def vwZ (n:Nat):Vw:=⟨true,false,List.replicate n 0,List.replicate n 0⟩
def zZr {n:Nat} (h:n<=8):VwB (vwZ n):=⟨by simp[vwZ];exact h,by simp[vwZ];exact h,λc hc=>by
 have:=(yFa.1 hc).2
 omega⟩
end Av
end Go.Proofs.YteajjdidebfcjaaGreat
