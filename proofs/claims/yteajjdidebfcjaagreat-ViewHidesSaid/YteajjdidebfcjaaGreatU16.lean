/- Part 16. -/
import Derived.Test.YteajjdidebfcjaaGreatU15
namespace Go.Proofs.YteajjdidebfcjaaGreat
namespace Av
open Tryz
set_option linter.all false
set_option maxRecDepth 4000
set_option maxHeartbeats 8000000
def zL7 {α:Type} (I:Nat->α->Prop) (R:Nat->α->α->Prop) (h:∀i a,I i a->∃b,R i a b/\I (i+1) b) (a0:α) (h0:I 0 a0):∃f:Nat->α,f 0=a0/\∀i,I i (f i)/\R i (f i) (f (i+1)):=by
 have hg:∀i a,∃b,I i a->R i a b/\I (i+1) b:=λi a=>by
  by_cases hi:I i a
  ·obtain⟨b,hb⟩:=h i a hi;exact⟨b,λ_=>hb⟩
  ·exact⟨a,λh=>absurd h hi⟩
 let f:Nat->α:=λn=>Nat.rec a0 (λi a=>(hg i a).choose) n
 have hf:∀i,I i (f i):=λi=>by
  induction i with
  |zero=>exact h0
  |succ i ih=>exact((hg i (f i)).choose_spec ih).2
 exact⟨f,rfl,λi=>⟨hf i,((hg i (f i)).choose_spec (hf i)).1⟩⟩
def d00:Dk:=⟨[],0,yAt _,yAt _⟩
def XP {α:Type} [Inhabited α] (g:Nat->α->α) (l:List α) (i:Nat):List α:=(List.range l.length).map λj=>if j<i then g j (l.getD j default)else l.getD j default
def wZ {α:Type} [Inhabited α] (g:Nat->α->α) (l:List α) (i:Nat):(XP g l i).length=l.length:=by simp[XP]
def uO {α:Type} [Inhabited α] (g:Nat->α->α) (l:List α) (i j:Nat):(XP g l i)[j]? =if j<l.length then some (if j<i then g j (l.getD j default)else l.getD j default)else none:=by
 unfold XP;rw[yAi];by_cases hj:j<l.length
 ·rw[yBg hj,yAd hj];rfl
 ·rw[yA1 wF,yAc hj];rfl
def jL {α:Type} [Inhabited α] (g:Nat->α->α) (l:List α):XP g l 0=l:=by
 apply yBj;intro j;rw[uO];by_cases hj:j<l.length
 ·rw[yAd hj,yAc zB];simp[List.getD,hj]
 ·rw[yAc hj,yA1 zB]
def zRa {α:Type} [Inhabited α] (g:Nat->α->α) (l:List α) (i:Nat) (hi:i<l.length):XP g l (i+1)=(XP g l i).set i (g i (l.getD i default)):=by
 apply yBj;intro j;rw[yCn,uO,uO,wZ];by_cases he:i=j
 ·subst he;rw[yAd hi,yAd Z,yAd hi,yAd (Nat.lt_succ_self i)]
 ·rw[yAc he];by_cases hj:j<l.length
  ·rw[yAd hj,yAd hj];by_cases h2:j<i
   ·rw[yAd zB,yAd h2]
   ·rw[yAc zB,yAc h2]
  ·rw[yAc hj,yAc hj]
def qE {α:Type} [Inhabited α] (f:α->AV) (g:Nat->α->α) (l:List α) (i:Nat) (hi:i<l.length):(XP g l (i+1)).map f=((XP g l i).map f).set i (f (g i (l.getD i default))):=by
 rw[zRa g l i hi,yCk]
structure In where
 opn:Bool
 its:List It
instance:Inhabited In:=⟨⟨false,[]⟩⟩
instance:Inhabited It:=⟨⟨0,0,[]⟩⟩
def kL (i:In):AV:= .agg [bA i.opn,zC wI i.its]
structure En where
 ag:Int
 ki:Int
 co:Int
def gI (e:En):AV:=KB e.ag e.ki e.co
structure TS where
 d:xJ
 rs:List Ms
 en:List En
 ks:List Int
structure SS where
 d:xJ
 R:List (List Ms)
 en:List En
 ks:List Int
def YO (l:List Ms):AV:=zC yB l
def InB (i:In):Prop:=i.its.length<=1000/\∀x∈i.its,BY x.pay/\x.pay.length<=100000
def StR (c:Cf) (s now:Int) (i:It) (a b:TS):Prop:=∃h:Hd,QC c a.d s i now h/\HdP c a.d s i now h/\b=⟨h.d,a.rs++[h.p],a.en++[⟨a.d.rg.num,i.kind,h.e⟩],if 0<=h.k then a.ks++[h.k]else a.ks⟩
structure BR (c:Cf) (d0 d:xJ):Prop where
 i:uU c d
 n:d.rg.num=d0.rg.num
 a:d.rg.ag=d0.rg.ag
 t:AC d0 d
theorem BR.refl {c:Cf} {d:xJ} (h:uU c d):BR c d d:=⟨h,rfl,rfl,AC.refl d⟩
theorem BR.trans {c:Cf} {a b d:xJ} (h1:BR c a b) (h2:BR c b d):BR c a d:=⟨h2.i,h2.n.trans h1.n,h2.a.trans h1.a,h1.t.trans h2.t⟩
def zWc (c:Cf) (s now:Int) (n0:0<=now) (n1:now<=1073741824) (its:List It) (hib:∀x∈its,BY x.pay/\x.pay.length<=100000) (st:TS) (hI:uU c st.d):
  ∃f:Nat->TS,f 0=st/\∀k,BR c st.d (f k).d/\((f k).rs.length=st.rs.length+k/\(f k).en.length=st.en.length+k/\(f k).ks.length<=st.ks.length+k/\((∀x∈st.ks,0<=x/\x<(c.js.length:Int))->∀x∈(f k).ks,0<=x/\x<(c.js.length:Int)))/\(k<its.length->StR c s now (its.getD k default) (f k) (f (k+1))):=by
 have hx:∀k,BY (its.getD k default).pay/\(its.getD k default).pay.length<=100000:=λk=>by
  by_cases hk:k<its.length
  ·refine hib _ ?_;rw[yAk,yAr hk];exact yDa _
  ·rw[yAk,yA1 zB]
   show BY ([]:List Int)/\([]:List Int).length<=100000
   exact⟨λy hy=>absurd hy zS,yAt _⟩
 obtain⟨f,h0,hf⟩:=zL7 (λk (a:TS)=>BR c st.d a.d/\(a.rs.length=st.rs.length+k/\a.en.length=st.en.length+k/\a.ks.length<=st.ks.length+k/\((∀x∈st.ks,0<=x/\x<(c.js.length:Int))->∀x∈a.ks,0<=x/\x<(c.js.length:Int)))) (λk a b=>StR c s now (its.getD k default) a b)
  (λk a ha=>by
   obtain⟨ha,h1,h2,h3,h4⟩:=ha;obtain⟨h,hB,hP⟩:=zGm c a.d ha.i s now n0 n1 _ (hx k).1 (hx k).2;refine⟨_,⟨h,hB,hP,rfl⟩,ha.trans ⟨hP.inv,hP.num,hP.ag,hP.t0⟩,?_,?_,?_,λhks x hx=>?_⟩
   ·dsimp only;rw[yAf,yCl];omega
   ·dsimp only;rw[yAf,yCl];omega
   ·dsimp only;split
    ·rw[yAf,yCl];omega
    ·omega
   ·dsimp only at hx;split at hx
    ·rename_i hk0
     rcases yAz.1 hx with hx|hx
     ·exact h4 hks x hx
     ·rw[yBe]at hx;subst hx
      rcases hP.rst with h9|⟨_,h8,h9⟩
      ·omega
      ·exact⟨h8,h9⟩
    ·exact h4 hks x hx)
  st ⟨BR.refl hI,zB,zB,zB,id⟩
 exact⟨f,h0,λk=>⟨(hf k).1.1,(hf k).1.2,λ_=>(hf k).2⟩⟩
def cC (ins:List In) (s:Nat):List It:=if s<ins.length/\(ins.getD s default).opn=true then(ins.getD s default).its else []
def SeR (c:Cf) (now:Int) (ins:List In) (s:Nat) (a b:SS):Prop:=∃f:Nat->TS,f 0=⟨a.d,[],a.en,a.ks⟩/\(∀k,k<(cC ins s).length->StR c (s:Int) now ((cC ins s).getD k default) (f k) (f (k+1)))/\(∀k,BR c a.d (f k).d/\(f k).rs.length=k/\(f k).en.length=a.en.length+k/\(f k).ks.length<=a.ks.length+k)/\
 b=⟨(f (cC ins s).length).d,a.R++[(f (cC ins s).length).rs],(f (cC ins s).length).en,(f (cC ins s).length).ks⟩
def BS {ins:List In} (h:∀i∈ins,InB i) (s:Nat):(cC ins s).length<=1000/\∀x∈cC ins s,BY x.pay/\x.pay.length<=100000:=by
 unfold cC;split
 ·rename_i hs;refine h _ ?_;rw[yAk,yAr hs.1];exact yDa _
 ·exact⟨yAt _,λx hx=>by cases hx⟩
def zRb (c:Cf) (now:Int) (n0:0<=now) (n1:now<=1073741824) (ins:List In) (hin:∀i∈ins,InB i) (d:xJ) (hI:uU c d):
  ∃F:Nat->SS,F 0=⟨d,[],[],[]⟩/\∀s,BR c d (F s).d/\((F s).R.length=s/\(F s).en.length<=1000*s/\(F s).ks.length<=1000*s/\∀x∈(F s).ks,0<=x/\x<(c.js.length:Int))/\SeR c now ins s (F s) (F (s+1)):=by
 obtain⟨F,h0,hF⟩:=zL7 (λs (a:SS)=>BR c d a.d/\(a.R.length=s/\a.en.length<=1000*s/\a.ks.length<=1000*s/\∀x∈a.ks,0<=x/\x<(c.js.length:Int))) (λs a b=>SeR c now ins s a b)
  (λs a ha=>by
   obtain⟨ha,h1,h2,h3,h4⟩:=ha;obtain⟨hl,hb⟩:=BS hin s;obtain⟨f,f0,hf⟩:=zWc c (s:Int) now n0 n1 (cC ins s) hb ⟨a.d,[],a.en,a.ks⟩ ha.i;have hL:=hf (cC ins s).length;refine⟨_,⟨f,f0,λk hk=>(hf k).2.2 hk,λk=>⟨(hf k).1,by have:=(hf k).2.1.1;simpa using this,(hf k).2.1.2.1,(hf k).2.1.2.2.1⟩,rfl⟩,ha.trans hL.1,?_,?_,?_,hL.2.1.2.2.2 h4⟩
   ·dsimp only;rw[yAf,yCl];omega
   ·have:=hL.2.1.2.1;dsimp only at *;omega
   ·have:=hL.2.1.2.2.1;dsimp only at *;omega)
  ⟨d,[],[],[]⟩ ⟨BR.refl hI,rfl,yAt _,yAt _,λx hx=>by cases hx⟩
 exact⟨F,h0,λs=>⟨(hF s).1.1,(hF s).1.2,(hF s).2⟩⟩
def QB (ins:List In) (s:Nat) (b:Bool):Bool:=if s<ins.length/\(ins.getD s default).opn=true then b else false
def auF (ins:List In) (l:List Bool):List Bool:=XP (QB ins) l l.length
def dkU (d:xJ) (ins:List In):xJ:=⟨d.rg,d.rq,d.dr,auF ins d.au⟩
def zL8 {c:Cf} {d:xJ} (h:uU c d) (ins:List In):uU c (dkU d ins):=
 ⟨h.b,h.v,h.q,h.lg,h.a,h.n,h.t8,h.br,h.bb,h.bl,by show((auF ins d.au).length:Int)=_;unfold auF;rw[wZ];exact h.au,h.dn,h.dr,h.vh⟩
def dkM (d:xJ) (now:Int):xJ:=⟨d.rg,mkQ d.rq now,d.dr,d.au⟩
def zSz {c:Cf} {d:xJ} (h:uU c d) (now:Int) (n0:0<=now) (n1:now<=1073741824):uU c (dkM d now):=by
 refine⟨h.b,zX9 h.v now n0 n1,?_,λr hr g hg=>?_,h.a,h.n,h.t8,h.br,h.bb,h.bl,h.au,h.dn,h.dr,h.vh⟩
 ·show((mkQ d.rq now).length:Int)<=_
  unfold mkQ;rw[yAe];exact h.q
 ·obtain⟨x,hx,rfl⟩:=yBl.1 hr;obtain⟨y,hy,rfl⟩:=yBl.1 hg;obtain⟨e1,e2,_⟩:=zL4 y now n0 n1;have:=h.lg x hx y hy;rw[e1,e2];exact this
def SF (x:xJ):List AV:=[iA x.rg.num,zC yA x.rg.ag.sec,iA x.rg.ag.rights,iA x.rg.ag.cls,zC iA x.rg.ag.lim,iA x.rg.ag.req,iA x.rg.ag.ses,iA x.rg.ag.rate,iA x.rg.ag.burst,zC xB x.rg.tk,zC vQ x.rg.vh,iA x.rg.bk.level,iA x.rg.bk.rate,iA x.rg.bk.burst,zC yL x.rq,zC qR x.dr,zC bA x.au]
def tkT (d:xJ) (R:List (List Ms)) (E:List En) (K:List Int):AV:= .tup [zL d,zC YO R,zC gI E,zC iA K]
def fM {xs:List AV} {i:Nat} {y:AV} (h:xs[i]? =some y):xs.set i y=xs:=by
 apply yBj;intro j;rw[yCn];by_cases he:i=j
 ·subst he;have hi:=(yA5.1 h).1;rw[yAd Z,yAd hi,h]
 ·rw[yAc he]
def zB3 {g:Nat->Bool->Bool} {l:List Bool} {k n:Nat} (h:l.length=n):List.take n (List.drop 0 ((XP g l k).map bA))=(XP g l k).map bA:=by
 rw[yBf];exact yAo (by rw[yAe,wZ,h];exact yAg _)
section
variable {P:Program} {K0:List Nat} {F:Fr K0} {m:Nat} {tm:List (Nat×AV)} {h:List (Nat×xO)}
theorem wN.recell {a:Act} {w:World} (R:wN F m ⟨tm,h⟩ a w) (k i K:Nat) {xs ys:List AV} {sb:Bool} {sz2:Nat} {fl2:Fl} (hk:zD h k=some (.arr 1 xs ⟨sb,true⟩)) (hv:xs[i]? =some (.s (.slice none 0 0))) (hK:zD h K=some (.arr sz2 ys fl2)) (hne:K≠k):
  wN F m ⟨tm,(k,.arr 1 (xs.set i (.ref K 0 0)) ⟨sb,true⟩)::h⟩ a w:=by
 obtain⟨⟨X,β,hX,H,Ht,KK,hJ,hD⟩,nd,gs,hl⟩:=R;have hh':∀j,j≠k->zD ((k,.arr 1 (xs.set i (.ref K 0 0)) ⟨sb,true⟩)::h) j=zD h j:=λj hj=>by rw[xI,yAc hj]
 have hhk:zD ((k,.arr 1 (xs.set i (.ref K 0 0)) ⟨sb,true⟩)::h) k=some (.arr 1 (xs.set i (.ref K 0 0)) ⟨sb,true⟩):=by rw[xI,yAd Z]
 have hlen:(xs.set i (.ref K 0 0)).length=xs.length:=yB7
 have E:FK w (xP X β) (zD h) β w (xP X β) (zD ((k,.arr 1 (xs.set i (.ref K 0 0)) ⟨sb,true⟩)::h)) β:=⟨yAg _,λb _ hd=>⟨rfl,hd⟩,λ_ _ _ _=>rfl,λj e he=>by
  by_cases hj:j=k
  ·subst hj;rw[hk]at he;cases he;exact .inr ⟨⟨xs.set i (.ref K 0 0),⟨sb,true⟩,hhk,by rw[hlen];exact yAg _⟩,λb n hm=>⟨n,yAg _,hm⟩⟩
  ·have:=kF (zD h) β j e he
   rcases this with h1|h1
   ·exact .inl (by rw[hh' j hj];exact h1)
   ·refine .inr ?_
    cases e with
    |dead=>exact h1
    |box cs=>obtain⟨⟨cs',h2⟩,h3⟩:=h1;exact⟨⟨cs',by rw[hh' j hj];exact h2⟩,h3⟩
    |obj cs=>obtain⟨⟨cs',h2⟩,h3⟩:=h1;exact⟨⟨cs',by rw[hh' j hj];exact h2⟩,h3⟩
    |arr sz' xs' st'=>obtain⟨⟨x2,s2,h2,h3⟩,h4⟩:=h1;exact⟨⟨x2,s2,by rw[hh' j hj];exact h2,h3⟩,h4⟩⟩
 have H':jA X (zD ((k,.arr 1 (xs.set i (.ref K 0 0)) ⟨sb,true⟩)::h)) β w:=by
  refine⟨λj e he=>?_,λj hj=>?_,H.disj,H.free,H.lt⟩
  ·by_cases hj:j=k
   ·subst hj;rw[hhk]at he;cases he;obtain⟨e1,e2,e3,e4,e5,f,e6,e7,e8⟩:=H.ent j _ hk;refine⟨e1,by rw[hlen];exact e2,λhx=>e3 λh0=>hx (by rw[h0];rfl),λi' x hx=>?_,λb n r hr=>by rw[hlen];exact e5 b n r hr,f,λi' x l v hx hv'=>⟨?_,λh=>by cases h⟩,λi' j' h1 h2=>e7 i' j' (by rw[<-hlen];exact h1) h2,e8⟩
    ·rw[yCn]at hx;split at hx
     ·split at hx
      ·cases hx;rfl
      ·cases hx
     ·exact e4 i' x hx
    ·rw [yCn]at hx;split at hx
     ·rename_i hij;subst hij;split at hx
      ·cases hx
       cases l with
       |zero=>
        have hv2:v= .ref K 0 0:=by simpa [AV.cells]using hv'.symm
        subst hv2;have h6:=e6.toV i _ 0 _ hv Z;rw[h6.s_inv];exact .ref0 K 0 sz2 ys fl2 none (by rw[hh' K hne];exact hK) (yAt _)
       |succ l=>simp[AV.cells]at hv'
      ·cases hx
     ·exact(e6.toV i' x l v hx hv').evo E
   ·rw[hh' j hj]at he;exact(H.ent j e he).evo E Z λ_ _ _=>rfl
  ·rw[xI]at hj;split at hj
   ·cases hj
   ·exact H.off j hj
 refine⟨⟨X,β,hX,H',λt=>(Ht t).evo E,⟨λj e he=>?_,KK.size,KK.keep,KK.own,KK.pas,KK.bs,KK.os,KK.tape,KK.output⟩,hJ,hD⟩,λj=>?_,gs,hl⟩
 ·have:=KK.knd j e he;by_cases hj:j=k
  ·subst hj
   cases e with
   |dead=>exact this
   |box cs=>obtain⟨cs',h2⟩:=this;(try dsimp only at h2);rw[hk]at h2;cases h2
   |obj cs=>obtain⟨cs',h2⟩:=this;(try dsimp only at h2);rw[hk]at h2;cases h2
   |arr sz' xs' sl'=>obtain⟨xs2,sl2,h2,h3⟩:=this;(try dsimp only at h2);rw[hk]at h2;cases h2;exact⟨_,_,hhk,by rw[hlen];exact h3⟩
  ·cases e with
   |dead=>exact this
   |box cs=>obtain⟨cs',h2⟩:=this;exact⟨cs',by dsimp only;rw[hh' j hj];exact h2⟩
   |obj cs=>obtain⟨cs',h2⟩:=this;exact⟨cs',by dsimp only;rw[hh' j hj];exact h2⟩
   |arr sz' xs' sl'=>obtain⟨xs2,sl2,h2,h3⟩:=this;exact⟨xs2,sl2,by dsimp only;rw[hh' j hj];exact h2,h3⟩
 ·dsimp only;by_cases hj:j=k
  ·subst hj;rw[hhk];intro hd;cases hd
  ·rw[hh' j hj];exact nd j
def VW {c:Code} {Q:Exit->St->Prop} (k i K:Nat) {xs xs' ys:List AV} {sb:Bool} {sz2:Nat} {fl2:Fl} (hk:zD h k=some (.arr 1 xs ⟨sb,true⟩)) (hv:xs[i]? =some (.s (.slice none 0 0))) (hK:zD h K=some (.arr sz2 ys fl2)) (hne:Nat.beq K k=false) (he:xs.set i (.ref K 0 0)=xs')
  (hs:vZ P F m c ⟨tm,(k,.arr 1 xs' ⟨sb,true⟩)::h⟩ Q):vZ P F m c ⟨tm,h⟩ Q:=
 ⟨λa w R=>hs.run a w (he▸R.recell k i K hk hv hK (λe=>by rw[e,Nat.beq_refl]at hne;cases hne))⟩
end
def BT:List AV:=[iA 0,.s (.slice none 0 0),iA 0,iA 0,.s (.slice none 0 0),iA 0,iA 0,iA 0,iA 0,.s (.slice none 0 0),.s (.slice none 0 0),iA 0,iA 0,iA 0,.s (.slice none 0 0),.s (.slice none 0 0),.s (.slice none 0 0)]
theorem zGk {c:Cf} {d:xJ} (hI:uU c d) (ins:List In) (hil:ins.length<=1000) (hin:∀i∈ins,InB i) (now:Int) (n0:0<=now) (n1:now<=1073741824) (zF:Nat->SS) (hz0:zF 0=⟨dkU d ins,[],[],[]⟩) (hn:d.au.length=1) (hm:1<=ins.length)
  (hz:∀s,BR c (dkU d ins) (zF s).d/\((zF s).R.length=s/\(zF s).en.length<=1000*s/\(zF s).ks.length<=1000*s/\∀x∈(zF s).ks,0<=x/\x<(c.js.length:Int))/\SeR c now ins s (zF s) (zF (s+1))):
  zN 94 [wD c,zL d,zC kL ins,iA now] [] (tkT (dkM (zF 1).d now) (zF 1).R (zF 1).en (zF 1).ks) []:=by
 have kc:=SJ d hI.bd zB;have hal:(d.au.map bA).length=1:=by rw[yAe,hn]
 have hinl:=zA kL ins;have km:=zB1 (zF 1).d.rq now (hz 1).1.i.v;have cfe:wD c= .agg [.sl false (c.js.map wC),.sl false (c.ags.map wK),iA c.per,iA c.cap,iA c.hold,iA c.lock]:=rfl;rw[cfe];unfold SI zL wJ at kc;have e0:=jL (QB ins) d.au;have hkM:(min ((ins.map kL).length:Int) ((d.au.map bA).length:Int)).toNat=1:=by omega
 have htl:((ins.take 1).map kL).length=1:=by rw[yAe,yAw];omega
 have hty:∀s,s<1->((ins.take 1).map kL)[s]? =some (kL (ins.getD s default)):=λs hs=>by
  rw[yAi,yBr,yAd hs,yAk,yAr zB];rfl
 obtain⟨hT0,⟨ha0,hb0,hc0,_⟩,zf0,hf0,hs0,hl0,hx0⟩:=hz 0;have hy0:=hty 0 zB;refine eM call94 λF hF=>?_
 refine zV kc ?_;rw[hkM,hal];refine zO (1) [1004,4,5,8,28] [4,5,8,28] [2,3,4,5,8,12,13,14,39] [40,9,10,2,3,4,5,8,12,13,14,39] Z (λi T U=>⟨(40,iA i)::(9,.s (.slice none 0 0))::(10,.s (.slice none 0 0))::T,(1004,.arr 1 ((XP (QB ins) d.au i).map bA) false)::U⟩) ?_;(conv=>whnf);refine⟨by(rw[e0];rfl),?_,?_⟩
 ·intro i hi;have hya:((XP (QB ins) d.au i).map bA)[i]? =some (bA (d.au.getD i default)):=by rw[yAi,uO,yAd zB,yAc (yEf i)];rfl
  have hxl:((XP (QB ins) d.au i).map bA).length=1:=by rw[yAe,wZ,hn]
  rw[qE bA (QB ins) d.au i zB];have hsame:=fM hya;clear kc km;generalize (XP (QB ins) d.au i).map bA=xs at *;generalize d.au.getD i default=b9 at *;unfold QB;by_cases h1:i<1
  ·have hy:=hty i h1;have hlt:i<ins.length:=by omega
   generalize ins.getD i default=x at *;obtain⟨op,its⟩:=x;rw[show kL ⟨op,its⟩= .agg [bA op,zC wI its]from Z]at hy;cases op
   ·rw[yAc (λh=>by cases h.2)];refine WW ?_;rfl
   ·rw[yAd ⟨hlt,rfl⟩,hsame];refine WW ?_;rfl
  ·rw[yAc (λh=>by omega)];refine WW ?_;rfl
 ·(refine WW ?_)
  refine uM [4,5,8,28] [2,3,4,5,8,9,10,12,13,14,61,62] Z ?_
  (conv=>whnf)
  rw[zB3 (by omega:d.au.length=1),show XP (QB ins) d.au 1=auF ins d.au by unfold auF;rw[hn],htl];refine xC 13 1002 3 Z Z Z ?_;refine xC 14 1003 1 Z Z Z ?_;refine xC 9 1006 4 Z Z Z ?_;refine NL 28 Z ?_;refine VW 28 0 1006 Z Z Z Z Z ?_;refine wM 2 [5,28,1002,1003,1006,4,8] [13,14,62,2,3,4,5,8,12,61] Z ?_;refine yE (st0:=⟨[(13,.ref 1002 0 ((zF 0).en.map gI).length),(14,.ref 1003 0 ((zF 0).ks.map iA).length),(62,iA 0),(2,.sl false ((ins.take 1).map kL)),(3,iA now),(4,.ptr 4 0 0),(5,.ptr 5 0 0),(8,.ptr 8 0 0),(12,.ref 28 0 1),(61,iA 1)],[(5,.box (SF (zF 0).d)),(28,.arr 1 [.ref 1006 0 ([]:List AV).length] ⟨false,true⟩),(1002,.arr 3 ((zF 0).en.map gI) true),(1003,.arr 1 ((zF 0).ks.map iA) true),(1006,.arr 4 ([]:List AV) true),(4,.box [.sl false (c.js.map wC),.sl false (c.ags.map wK),iA c.per,iA c.cap,iA c.hold,iA c.lock]),(8,.box BT)]⟩) (by rw[hz0];rfl) ?_;obtain⟨r0,hr0⟩:∃r,r=(zf0 (cC ins 0).length).rs:=⟨_,rfl⟩;have hR0:(zF 1).R=(zF 0).R++[r0]:=by rw[hr0,hx0]
  have q0:(zF 1).d=(zf0 (cC ins 0).length).d/\(zF 1).en=(zf0 (cC ins 0).length).en/\(zF 1).ks=(zf0 (cC ins 0).length).ks:=by rw[hx0];exact⟨rfl,rfl,rfl⟩
  have ml1:=zA gI (zF 0).en;have ml2:=zA iA (zF 0).ks;by_cases ho:(ins.getD 0 default).opn=true
  case' pos=>
   have hse:cC ins 0=(ins.getD 0 default).its:=by unfold cC;rw[yAd ⟨zB,ho⟩]
   have hib:=(BS hin 0).1;rw[hse]at hib q0 hs0 hr0;clear hse;generalize ins.getD 0 default=x at *;obtain⟨op,its⟩:=x;dsimp only at *;subst ho;rw[show kL ⟨true,its⟩= .agg [bA true,zC wI its]from Z]at hy0;have hil2:=zA wI its;refine WW ?_;refine yM (its) [5,1002,1003,28,1006,4,8] [4,8] [2,3,4,5,8,12,16,61,62,75,76] [13,14,77,2,3,4,5,8,12,16,61,62,75,76] Z (λi pre T U=>⟨(13,.ref 1002 0 ((zf0 i).en.map gI).length)::(14,.ref 1003 0 ((zf0 i).ks.map iA).length)::(77,iA i)::T,(5,.box (SF (zf0 i).d))::(1002,.arr 3 ((zf0 i).en.map gI) true)::(1003,.arr 1 ((zf0 i).ks.map iA) true)::(28,.arr 1 [.ref 1006 0 ((zf0 i).rs.map yB).length] ⟨false,true⟩)::(1006,.arr 4 ((zf0 i).rs.map yB) true)::U⟩) ?_;(conv=>whnf);refine⟨by(rw[hf0];rfl),?_,?_⟩
   ·intro k pre it post hx hk;have hy3:=xG wI hx hk;have hlt3:=yP hx hk;have hgt:its.getD k default=it:=by rw[hx,<-hk];simp[List.getD]
    obtain⟨h,hB,hP,hnx⟩:=hs0 k hlt3;rw[hgt]at hB;obtain⟨hk1,hk2,hk3,hk4⟩:=hl0 k;have hm1:=zA gI (zf0 k).en;have hm2:=zA iA (zf0 k).ks;have hm3:=zA yB (zf0 k).rs;have kh:=hB.1;rw[hnx];dsimp only;rw[show((zf0 k).rs++[h.p]).map yB=(zf0 k).rs.map yB++[yB h.p] by simp,show∀e:En,((zf0 k).en++[e]).map gI=(zf0 k).en.map gI++[gI e]from λe=>by simp,hgt];rw[cfe]at kh;unfold AA zL wJ wI at kh;unfold wI at hy3;have hen:(zF 0).en.length<=2000/\(zF 0).ks.length<=2000:=by omega
    clear hx hgt hnx hB hP hty kc km;generalize (zf0 k).rs.map yB=rs9 at *;generalize (zf0 k).en.map gI=en9 at *;generalize h.p=p9 at *;generalize h.e=e9 at *;generalize h.d=d9 at *;generalize hkk:h.k=k9 at *;generalize (zf0 k).d=dk9 at *;obtain⟨pk,pt,pa,pd⟩:=p9;unfold yB KB at kh;dsimp only at kh;unfold SF gI KB yB;by_cases h0:0<=k9
    ·rw[yAd h0,show((zf0 k).ks++[k9]).map iA=(zf0 k).ks.map iA++[iA k9] by simp];generalize (zf0 k).ks.map iA=ks9 at *;refine zV kh ?_;rfl
    ·rw[yAc h0];generalize (zf0 k).ks.map iA=ks9 at *;refine zV kh ?_;rfl
   obtain⟨w1,w2,w3⟩:=q0;refine WW ?_
  case' neg=>
   have hse:cC ins 0=[]:=by unfold cC;rw[yAc (λh=>ho h.2)]
   rw[hse,yBk,hf0]at q0 hr0;obtain⟨w1,w2,w3⟩:=q0;have hop:(ins.getD 0 default).opn=false:=by simpa using ho
   clear hse ho;generalize ins.getD 0 default=x at *;obtain⟨op,its⟩:=x;dsimp only at *;subst hop;rw[show kL ⟨false,its⟩= .agg [bA false,zC wI its]from Z]at hy0;refine WW ?_
  all_goals clear hy0 ml1 ml2
  all_goals
   refine yE (st0:=⟨[(13,.ref 1002 0 ((zF 1).en.map gI).length),(14,.ref 1003 0 ((zF 1).ks.map iA).length),(62,iA 1),(2,.sl false ((ins.take 1).map kL)),(3,iA now),(4,.ptr 4 0 0),(5,.ptr 5 0 0),(8,.ptr 8 0 0),(12,.ref 28 0 1),(61,iA 1)],[(5,.box (SF (zF 1).d)),(28,.arr 1 [.ref 1006 0 (r0.map yB).length] ⟨false,true⟩),(1002,.arr 3 ((zF 1).en.map gI) true),(1003,.arr 1 ((zF 1).ks.map iA) true),(1006,.arr 4 (r0.map yB) true),(4,.box [.sl false (c.js.map wC),.sl false (c.ags.map wK),iA c.per,iA c.cap,iA c.hold,iA c.lock]),(8,.box BT)]⟩) (by rw[w1,w2,w3,hr0];rfl) ?_;refine zV km ?_;refine zH [] Z Z ?_ Z
   show AV.tup [zL (dkM (zF 1).d now),.sl false [.sl false (List.take _ (List.drop 0 (r0.map yB)))],.sl false (List.take _ (List.drop 0 ((zF 1).en.map gI))),.sl false (List.take _ (List.drop 0 ((zF 1).ks.map iA)))]=_
   simp only[yBf,yAh];unfold tkT;rw[hR0,hz0];rfl
theorem zGl {c:Cf} {d:xJ} (hI:uU c d) (ins:List In) (hil:ins.length<=1000) (hin:∀i∈ins,InB i) (now:Int) (n0:0<=now) (n1:now<=1073741824) (zF:Nat->SS) (hz0:zF 0=⟨dkU d ins,[],[],[]⟩) (hn:d.au.length=2) (hm:2<=ins.length)
  (hz:∀s,BR c (dkU d ins) (zF s).d/\((zF s).R.length=s/\(zF s).en.length<=1000*s/\(zF s).ks.length<=1000*s/\∀x∈(zF s).ks,0<=x/\x<(c.js.length:Int))/\SeR c now ins s (zF s) (zF (s+1))):
  zN 94 [wD c,zL d,zC kL ins,iA now] [] (tkT (dkM (zF 2).d now) (zF 2).R (zF 2).en (zF 2).ks) []:=by
 have kc:=SJ d hI.bd zB;have hal:(d.au.map bA).length=2:=by rw[yAe,hn]
 have hinl:=zA kL ins;have km:=zB1 (zF 2).d.rq now (hz 2).1.i.v;have cfe:wD c= .agg [.sl false (c.js.map wC),.sl false (c.ags.map wK),iA c.per,iA c.cap,iA c.hold,iA c.lock]:=rfl;rw[cfe];unfold SI zL wJ at kc;have e0:=jL (QB ins) d.au;have hkM:(min ((ins.map kL).length:Int) ((d.au.map bA).length:Int)).toNat=2:=by omega
 have htl:((ins.take 2).map kL).length=2:=by rw[yAe,yAw];omega
 have hty:∀s,s<2->((ins.take 2).map kL)[s]? =some (kL (ins.getD s default)):=λs hs=>by
  rw[yAi,yBr,yAd hs,yAk,yAr zB];rfl
 obtain⟨hT0,⟨ha0,hb0,hc0,_⟩,zf0,hf0,hs0,hl0,hx0⟩:=hz 0;have hy0:=hty 0 zB;obtain⟨hT1,⟨ha1,hb1,hc1,_⟩,zf1,hf1,hs1,hl1,hx1⟩:=hz 1;have hy1:=hty 1 zB;refine eM call94 λF hF=>?_
 refine zV kc ?_;rw[hkM,hal];refine zO (2) [1004,4,5,8,28] [4,5,8,28] [2,3,4,5,8,12,13,14,39] [40,9,10,2,3,4,5,8,12,13,14,39] Z (λi T U=>⟨(40,iA i)::(9,.s (.slice none 0 0))::(10,.s (.slice none 0 0))::T,(1004,.arr 1 ((XP (QB ins) d.au i).map bA) false)::U⟩) ?_;(conv=>whnf);refine⟨by(rw[e0];rfl),?_,?_⟩
 ·intro i hi;have hya:((XP (QB ins) d.au i).map bA)[i]? =some (bA (d.au.getD i default)):=by rw[yAi,uO,yAd zB,yAc (yEf i)];rfl
  have hxl:((XP (QB ins) d.au i).map bA).length=2:=by rw[yAe,wZ,hn]
  rw[qE bA (QB ins) d.au i zB];have hsame:=fM hya;clear kc km;generalize (XP (QB ins) d.au i).map bA=xs at *;generalize d.au.getD i default=b9 at *;unfold QB;by_cases h1:i<2
  ·have hy:=hty i h1;have hlt:i<ins.length:=by omega
   generalize ins.getD i default=x at *;obtain⟨op,its⟩:=x;rw[show kL ⟨op,its⟩= .agg [bA op,zC wI its]from Z]at hy;cases op
   ·rw[yAc (λh=>by cases h.2)];refine WW ?_;rfl
   ·rw[yAd ⟨hlt,rfl⟩,hsame];refine WW ?_;rfl
  ·rw[yAc (λh=>by omega)];refine WW ?_;rfl
 ·(refine WW ?_)
  refine uM [4,5,8,28] [2,3,4,5,8,9,10,12,13,14,61,62] Z ?_
  (conv=>whnf)
  rw[zB3 (by omega:d.au.length=2),show XP (QB ins) d.au 2=auF ins d.au by unfold auF;rw[hn],htl];refine xC 13 1002 3 Z Z Z ?_;refine xC 14 1003 1 Z Z Z ?_;refine xC 9 1006 4 Z Z Z ?_;refine xC 10 1007 4 Z Z Z ?_;refine NL 28 Z ?_;refine VW 28 0 1006 Z Z Z Z Z ?_;refine VW 28 1 1007 Z Z Z Z Z ?_;refine wM 3 [5,28,1002,1003,1006,1007,4,8] [13,14,62,2,3,4,5,8,12,61] Z ?_;refine yE (st0:=⟨[(13,.ref 1002 0 ((zF 0).en.map gI).length),(14,.ref 1003 0 ((zF 0).ks.map iA).length),(62,iA 0),(2,.sl false ((ins.take 2).map kL)),(3,iA now),(4,.ptr 4 0 0),(5,.ptr 5 0 0),(8,.ptr 8 0 0),(12,.ref 28 0 2),(61,iA 2)],[(5,.box (SF (zF 0).d)),(28,.arr 1 [.ref 1006 0 ([]:List AV).length,.ref 1007 0 ([]:List AV).length] ⟨false,true⟩),(1002,.arr 3 ((zF 0).en.map gI) true),(1003,.arr 1 ((zF 0).ks.map iA) true),(1006,.arr 4 ([]:List AV) true),(1007,.arr 4 ([]:List AV) true),(4,.box [.sl false (c.js.map wC),.sl false (c.ags.map wK),iA c.per,iA c.cap,iA c.hold,iA c.lock]),(8,.box BT)]⟩) (by rw[hz0];rfl) ?_;obtain⟨r0,hr0⟩:∃r,r=(zf0 (cC ins 0).length).rs:=⟨_,rfl⟩;have hR0:(zF 1).R=(zF 0).R++[r0]:=by rw[hr0,hx0]
  have q0:(zF 1).d=(zf0 (cC ins 0).length).d/\(zF 1).en=(zf0 (cC ins 0).length).en/\(zF 1).ks=(zf0 (cC ins 0).length).ks:=by rw[hx0];exact⟨rfl,rfl,rfl⟩
  have ml1:=zA gI (zF 0).en;have ml2:=zA iA (zF 0).ks;by_cases ho:(ins.getD 0 default).opn=true
  case' pos=>
   have hse:cC ins 0=(ins.getD 0 default).its:=by unfold cC;rw[yAd ⟨zB,ho⟩]
   have hib:=(BS hin 0).1;rw[hse]at hib q0 hs0 hr0;clear hse;generalize ins.getD 0 default=x at *;obtain⟨op,its⟩:=x;dsimp only at *;subst ho;rw[show kL ⟨true,its⟩= .agg [bA true,zC wI its]from Z]at hy0;have hil2:=zA wI its;refine WW ?_;refine yM (its) [5,1002,1003,28,1006,4,8,1007] [4,8,1007] [2,3,4,5,8,12,16,61,62,75,76] [13,14,77,2,3,4,5,8,12,16,61,62,75,76] Z (λi pre T U=>⟨(13,.ref 1002 0 ((zf0 i).en.map gI).length)::(14,.ref 1003 0 ((zf0 i).ks.map iA).length)::(77,iA i)::T,(5,.box (SF (zf0 i).d))::(1002,.arr 3 ((zf0 i).en.map gI) true)::(1003,.arr 1 ((zf0 i).ks.map iA) true)::(28,.arr 1 [.ref 1006 0 ((zf0 i).rs.map yB).length,.ref 1007 0 ([]:List AV).length] ⟨false,true⟩)::(1006,.arr 4 ((zf0 i).rs.map yB) true)::U⟩) ?_;(conv=>whnf);refine⟨by(rw[hf0];rfl),?_,?_⟩
   ·intro k pre it post hx hk;have hy3:=xG wI hx hk;have hlt3:=yP hx hk;have hgt:its.getD k default=it:=by rw[hx,<-hk];simp[List.getD]
    obtain⟨h,hB,hP,hnx⟩:=hs0 k hlt3;rw[hgt]at hB;obtain⟨hk1,hk2,hk3,hk4⟩:=hl0 k;have hm1:=zA gI (zf0 k).en;have hm2:=zA iA (zf0 k).ks;have hm3:=zA yB (zf0 k).rs;have kh:=hB.1;rw[hnx];dsimp only;rw[show((zf0 k).rs++[h.p]).map yB=(zf0 k).rs.map yB++[yB h.p] by simp,show∀e:En,((zf0 k).en++[e]).map gI=(zf0 k).en.map gI++[gI e]from λe=>by simp,hgt];rw[cfe]at kh;unfold AA zL wJ wI at kh;unfold wI at hy3;have hen:(zF 0).en.length<=2000/\(zF 0).ks.length<=2000:=by omega
    clear hx hgt hnx hB hP hty kc km;generalize (zf0 k).rs.map yB=rs9 at *;generalize (zf0 k).en.map gI=en9 at *;generalize h.p=p9 at *;generalize h.e=e9 at *;generalize h.d=d9 at *;generalize hkk:h.k=k9 at *;generalize (zf0 k).d=dk9 at *;obtain⟨pk,pt,pa,pd⟩:=p9;unfold yB KB at kh;dsimp only at kh;unfold SF gI KB yB;by_cases h0:0<=k9
    ·rw[yAd h0,show((zf0 k).ks++[k9]).map iA=(zf0 k).ks.map iA++[iA k9] by simp];generalize (zf0 k).ks.map iA=ks9 at *;refine zV kh ?_;rfl
    ·rw[yAc h0];generalize (zf0 k).ks.map iA=ks9 at *;refine zV kh ?_;rfl
   obtain⟨w1,w2,w3⟩:=q0;refine WW ?_
  case' neg=>
   have hse:cC ins 0=[]:=by unfold cC;rw[yAc (λh=>ho h.2)]
   rw[hse,yBk,hf0]at q0 hr0;obtain⟨w1,w2,w3⟩:=q0;have hop:(ins.getD 0 default).opn=false:=by simpa using ho
   clear hse ho;generalize ins.getD 0 default=x at *;obtain⟨op,its⟩:=x;dsimp only at *;subst hop;rw[show kL ⟨false,its⟩= .agg [bA false,zC wI its]from Z]at hy0;refine WW ?_
  all_goals clear hy0 ml1 ml2
  all_goals
   refine yE (st0:=⟨[(13,.ref 1002 0 ((zF 1).en.map gI).length),(14,.ref 1003 0 ((zF 1).ks.map iA).length),(62,iA 1),(2,.sl false ((ins.take 2).map kL)),(3,iA now),(4,.ptr 4 0 0),(5,.ptr 5 0 0),(8,.ptr 8 0 0),(12,.ref 28 0 2),(61,iA 2)],[(5,.box (SF (zF 1).d)),(28,.arr 1 [.ref 1006 0 (r0.map yB).length,.ref 1007 0 ([]:List AV).length] ⟨false,true⟩),(1002,.arr 3 ((zF 1).en.map gI) true),(1003,.arr 1 ((zF 1).ks.map iA) true),(1006,.arr 4 (r0.map yB) true),(1007,.arr 4 ([]:List AV) true),(4,.box [.sl false (c.js.map wC),.sl false (c.ags.map wK),iA c.per,iA c.cap,iA c.hold,iA c.lock]),(8,.box BT)]⟩) (by rw[w1,w2,w3,hr0];rfl) ?_;obtain⟨r1,hr1⟩:∃r,r=(zf1 (cC ins 1).length).rs:=⟨_,rfl⟩;have hR1:(zF 2).R=(zF 1).R++[r1]:=by rw[hr1,hx1]
   have q1:(zF 2).d=(zf1 (cC ins 1).length).d/\(zF 2).en=(zf1 (cC ins 1).length).en/\(zF 2).ks=(zf1 (cC ins 1).length).ks:=by rw[hx1];exact⟨rfl,rfl,rfl⟩
   have ml1:=zA gI (zF 1).en;have ml2:=zA iA (zF 1).ks;by_cases ho:(ins.getD 1 default).opn=true
   case' pos=>
    have hse:cC ins 1=(ins.getD 1 default).its:=by unfold cC;rw[yAd ⟨zB,ho⟩]
    have hib:=(BS hin 1).1;rw[hse]at hib q1 hs1 hr1;clear hse;generalize ins.getD 1 default=x at *;obtain⟨op,its⟩:=x;dsimp only at *;subst ho;rw[show kL ⟨true,its⟩= .agg [bA true,zC wI its]from Z]at hy1;have hil2:=zA wI its;refine WW ?_;refine yM (its) [5,1002,1003,28,1007,4,8,1006] [4,8,1006] [2,3,4,5,8,12,16,61,62,75,76] [13,14,77,2,3,4,5,8,12,16,61,62,75,76] Z (λi pre T U=>⟨(13,.ref 1002 0 ((zf1 i).en.map gI).length)::(14,.ref 1003 0 ((zf1 i).ks.map iA).length)::(77,iA i)::T,(5,.box (SF (zf1 i).d))::(1002,.arr 3 ((zf1 i).en.map gI) true)::(1003,.arr 1 ((zf1 i).ks.map iA) true)::(28,.arr 1 [.ref 1006 0 (r0.map yB).length,.ref 1007 0 ((zf1 i).rs.map yB).length] ⟨false,true⟩)::(1007,.arr 4 ((zf1 i).rs.map yB) true)::U⟩) ?_;(conv=>whnf);refine⟨by(rw[hf1];rfl),?_,?_⟩
    ·intro k pre it post hx hk;have hy3:=xG wI hx hk;have hlt3:=yP hx hk;have hgt:its.getD k default=it:=by rw[hx,<-hk];simp[List.getD]
     obtain⟨h,hB,hP,hnx⟩:=hs1 k hlt3;rw[hgt]at hB;obtain⟨hk1,hk2,hk3,hk4⟩:=hl1 k;have hm1:=zA gI (zf1 k).en;have hm2:=zA iA (zf1 k).ks;have hm3:=zA yB (zf1 k).rs;have kh:=hB.1;rw[hnx];dsimp only;rw[show((zf1 k).rs++[h.p]).map yB=(zf1 k).rs.map yB++[yB h.p] by simp,show∀e:En,((zf1 k).en++[e]).map gI=(zf1 k).en.map gI++[gI e]from λe=>by simp,hgt];rw[cfe]at kh;unfold AA zL wJ wI at kh;unfold wI at hy3;have hen:(zF 1).en.length<=2000/\(zF 1).ks.length<=2000:=by omega
     clear hx hgt hnx hB hP hty kc km;generalize (zf1 k).rs.map yB=rs9 at *;generalize (zf1 k).en.map gI=en9 at *;generalize h.p=p9 at *;generalize h.e=e9 at *;generalize h.d=d9 at *;generalize hkk:h.k=k9 at *;generalize (zf1 k).d=dk9 at *;obtain⟨pk,pt,pa,pd⟩:=p9;unfold yB KB at kh;dsimp only at kh;unfold SF gI KB yB;by_cases h0:0<=k9
     ·rw[yAd h0,show((zf1 k).ks++[k9]).map iA=(zf1 k).ks.map iA++[iA k9] by simp];generalize (zf1 k).ks.map iA=ks9 at *;refine zV kh ?_;rfl
     ·rw[yAc h0];generalize (zf1 k).ks.map iA=ks9 at *;refine zV kh ?_;rfl
    obtain⟨w1,w2,w3⟩:=q1;refine WW ?_
   case' neg=>
    have hse:cC ins 1=[]:=by unfold cC;rw[yAc (λh=>ho h.2)]
    rw[hse,yBk,hf1]at q1 hr1;obtain⟨w1,w2,w3⟩:=q1;have hop:(ins.getD 1 default).opn=false:=by simpa using ho
    clear hse ho;generalize ins.getD 1 default=x at *;obtain⟨op,its⟩:=x;dsimp only at *;subst hop;rw[show kL ⟨false,its⟩= .agg [bA false,zC wI its]from Z]at hy1;refine WW ?_
   all_goals clear hy1 ml1 ml2
   all_goals
    refine yE (st0:=⟨[(13,.ref 1002 0 ((zF 2).en.map gI).length),(14,.ref 1003 0 ((zF 2).ks.map iA).length),(62,iA 2),(2,.sl false ((ins.take 2).map kL)),(3,iA now),(4,.ptr 4 0 0),(5,.ptr 5 0 0),(8,.ptr 8 0 0),(12,.ref 28 0 2),(61,iA 2)],[(5,.box (SF (zF 2).d)),(28,.arr 1 [.ref 1006 0 (r0.map yB).length,.ref 1007 0 (r1.map yB).length] ⟨false,true⟩),(1002,.arr 3 ((zF 2).en.map gI) true),(1003,.arr 1 ((zF 2).ks.map iA) true),(1006,.arr 4 (r0.map yB) true),(1007,.arr 4 (r1.map yB) true),(4,.box [.sl false (c.js.map wC),.sl false (c.ags.map wK),iA c.per,iA c.cap,iA c.hold,iA c.lock]),(8,.box BT)]⟩) (by rw[w1,w2,w3,hr1];rfl) ?_;refine zV km ?_;refine zH [] Z Z ?_ Z
    show AV.tup [zL (dkM (zF 2).d now),.sl false [.sl false (List.take _ (List.drop 0 (r0.map yB))),.sl false (List.take _ (List.drop 0 (r1.map yB)))],.sl false (List.take _ (List.drop 0 ((zF 2).en.map gI))),.sl false (List.take _ (List.drop 0 ((zF 2).ks.map iA)))]=_
    simp only[yBf,yAh];unfold tkT;rw[hR1,hR0,hz0];rfl
structure Vw where
 fl:Bool
 ov:Bool
 co:List Int
 cn:List Int
instance:Inhabited Vw:=⟨⟨false,false,[],[]⟩⟩
def vA (v:Vw):AV:= .agg [bA v.fl,bA v.ov,zC iA v.co,zC iA v.cn]
structure AZ (v:Vw):Prop where
 n:v.co.length<=8
 m:v.cn.length<=8
 c:∀c∈v.co,0<=c/\c<=2
def VX (n:Int):Int:=IntKind.u8.wrap n
def hdF (a b:Bool):Int:=(if a=true then 1 else 0)+(if b=true then 2 else 0)
def kV (l:List Int):Nat->Int
 |0=>0
 |i+1=>kV l i+l.getD i 0*p2 (2*(i:Int))
def vwF (v:Vw):List Int:=[hdF v.fl v.ov,uS (kV v.co v.co.length) 8,VX (kV v.co v.co.length)]++v.cn.map VX
def YP (l:List Vw):List Int:=(l.map vwF).flatten
def zL9 (i:Nat):p2 (2*((i+1:Nat):Int))=p2 (2*(i:Int))*4:=by
 unfold p2;rw[show(2*((i+1:Nat):Int)).toNat=(2*(i:Int)).toNat+2 by omega,Int.pow_add];rfl
def VY (i:Nat) (h:i<=8):1<=p2 (2*(i:Int))/\p2 (2*(i:Int))<=65536:=by
 have:i=0∨i=1∨i=2∨i=3∨i=4∨i=5∨i=6∨i=7∨i=8:=by omega
 rcases this with rfl|rfl|rfl|rfl|rfl|rfl|rfl|rfl|rfl<;>decide
theorem GT {l:List Int} (h:∀c∈l,0<=c/\c<=2):∀i,i<=l.length->i<=8->0<=kV l i/\kV l i<p2 (2*(i:Int))
 |0,_,_=>by simp[kV,p2]
 | i+1,h1,h2=>by
  have ih:=GT h i zB zB
  have hm:l.getD i 0∈l:=by
   rw[yAk,yAr zB];exact yDa _
  have hc:=h _ hm;have hp:=VY i zB;rw[zL9,kV];generalize l.getD i 0=c at *;generalize p2 (2*(i:Int))=w at *;have:c=0∨c=1∨c=2:=by omega
  rcases this with rfl|rfl|rfl<;>omega
def zYa {n:Int} (h0:0<=n) (h1:n<65536):0<=uS n 8/\uS n 8<=255:=by
 unfold uS;rw[show(2:Int) ^ (8:Int).toNat=256 from Z,yCu _ zB];omega
def zMa (pre:List Vw) (v:Vw):(YP (pre++[v])).map yA=(YP pre).map yA++[yA (hdF v.fl v.ov),yA (uS (kV v.co v.co.length) 8),yA (VX (kV v.co v.co.length))]++v.cn.map (λn=>yA (VX n)):=by
 unfold YP vwF;simp
def SH {l:List Vw} (h:∀v∈l,AZ v):(YP l).length<=11*l.length:=by
 unfold YP
 induction l with
 |nil=>simp
 |cons v l ih=>
  have h1:=ih λx hx=>h x RS
  have h2:=(h v zS).m;rw[yBs,yC0,yAf,yAp];unfold vwF;rw[yAf,yAe];simp only[yAp,yBk];unfold vwF at h1;omega
theorem zMb (l:List Vw) (hn:l.length<=1000) (hb:∀v∈l,AZ v):zN 178 [zC vA l] [] (.ref 1001 0 ((YP l).map yA).length) [(1001,.arr 1 ((YP l).map yA) true)]:=by
 have hl:=zA vA l;have hfin:=SH hb;refine eM call178 λF hF=>?_
 refine WW ?_;refine xC 3 1001 1 Z Z Z ?_;refine yM (l) [1001] [] [13,14] [3,15,13,14] Z (λi pre T U=>⟨(3,.ref 1001 0 ((YP pre).map yA).length)::(15,iA i)::T,(1001,.arr 1 ((YP pre).map yA) true)::U⟩) ?_;(conv=>whnf);refine⟨by rfl,?_,?_⟩
 ·intro i pre v post hx hi;have hy:=xG vA hx hi;have hlt:=yP hx hi;have hv:=hb v (wT hx);have hpl:=SH (l:=pre) (λw hw=>hb w (by rw[hx];simp[hw]));have hxl:((YP pre).map yA).length<=11000:=by rw[yAe];omega
  rw[zMa];clear hx hpl hfin;generalize (YP pre).map yA=xs at *;have hc1:=zA iA v.co;have hc2:=zA iA v.cn;have hbd:=λk hk=>GT hv.c k hk (yBn hk hv.n)
  have hn8:=hv.n;have hm8:=hv.m;obtain⟨fl,ov,co,cn⟩:=v;dsimp only at *;rw[show vA ⟨fl,ov,co,cn⟩= .agg [bA fl,bA ov,zC iA co,zC iA cn]from Z]at hy;have hlast:=hbd co.length (yAg _);have hpl8:=VY co.length hn8;have hs8:=zYa (n:=kV co co.length) hlast.1 zB
  cases fl<;>cases ov
  ·(refine WW ?_)
   refine yM (co) [5,1001] [5,1001] [3,5,6,13,14,15,28,29] [7,8,30,3,5,6,13,14,15,28,29] Z (λi pre T U=>⟨(7,iA (kV co i))::(8,iA (p2 (2*(i:Int))))::(30,iA i)::T,U⟩) ?_;(conv=>whnf);refine⟨by rfl,?_,?_⟩
   ·intro k pre2 c post2 hx2 hk;have hy2:=xG iA hx2 hk;have hlt2:=yP hx2 hk;have hcm:=hv.c c (wT hx2);have hg:co.getD k 0=c:=by rw[hx2,<-hk];simp[List.getD]
    have hb1:=hbd k zB;have hp1:=VY k zB;have e1:kV co (k+1)=kV co k+c*p2 (2*(k:Int)):=by rw[kV,hg]
    rw[e1,zL9];clear hx2 hbd hlast hpl8 hs8 e1 hv;generalize kV co k=s at *;generalize p2 (2*(k:Int))=w at *;have:c=0∨c=1∨c=2:=by omega
    rcases this with rfl|rfl|rfl
    all_goals
     refine WW ?_;rfl
   ·clear hbd hv;generalize kV co co.length=s at *;refine WW ?_;refine yM (cn) [1001] [] [13,14,15,53,54] [3,55,13,14,15,53,54] Z (λi pre T U=>⟨(3,.ref 1001 0 (xs++[yA (hdF false false),yA (uS s 8),yA (VX s)]++pre.map (λn=>yA (VX n))).length)::(55,iA i)::T,(1001,.arr 1 (xs++[yA (hdF false false),yA (uS s 8),yA (VX s)]++pre.map (λn=>yA (VX n))) true)::U⟩) ?_;(conv=>whnf);refine⟨by(simp only[yCq,yA8];rfl),?_,?_⟩
    ·intro k pre2 c post2 hx2 hk;have hy2:=xG iA hx2 hk;have hlt2:=yP hx2 hk;have hpk:(pre2.map (λn=>yA (VX n))).length=k:=by rw[yAe];exact hk
     rw[yAn,yBs,yCq,<-yA6];clear hx2;generalize pre2.map (λn=>yA (VX n))=zs2 at *;refine WW ?_;rfl
    ·(refine WW ?_)
     rfl
  ·(refine WW ?_)
   refine yM (co) [5,1001] [5,1001] [3,5,6,13,14,15,28,29] [7,8,30,3,5,6,13,14,15,28,29] Z (λi pre T U=>⟨(7,iA (kV co i))::(8,iA (p2 (2*(i:Int))))::(30,iA i)::T,U⟩) ?_;(conv=>whnf);refine⟨by rfl,?_,?_⟩
   ·intro k pre2 c post2 hx2 hk;have hy2:=xG iA hx2 hk;have hlt2:=yP hx2 hk;have hcm:=hv.c c (wT hx2);have hg:co.getD k 0=c:=by rw[hx2,<-hk];simp[List.getD]
    have hb1:=hbd k zB;have hp1:=VY k zB;have e1:kV co (k+1)=kV co k+c*p2 (2*(k:Int)):=by rw[kV,hg]
    rw[e1,zL9];clear hx2 hbd hlast hpl8 hs8 e1 hv;generalize kV co k=s at *;generalize p2 (2*(k:Int))=w at *;have:c=0∨c=1∨c=2:=by omega
    rcases this with rfl|rfl|rfl
    all_goals
     refine WW ?_;rfl
   ·clear hbd hv;generalize kV co co.length=s at *;refine WW ?_;refine yM (cn) [1001] [] [13,14,15,53,54] [3,55,13,14,15,53,54] Z (λi pre T U=>⟨(3,.ref 1001 0 (xs++[yA (hdF false true),yA (uS s 8),yA (VX s)]++pre.map (λn=>yA (VX n))).length)::(55,iA i)::T,(1001,.arr 1 (xs++[yA (hdF false true),yA (uS s 8),yA (VX s)]++pre.map (λn=>yA (VX n))) true)::U⟩) ?_;(conv=>whnf);refine⟨by(simp only[yCq,yA8];rfl),?_,?_⟩
    ·intro k pre2 c post2 hx2 hk;have hy2:=xG iA hx2 hk;have hlt2:=yP hx2 hk;have hpk:(pre2.map (λn=>yA (VX n))).length=k:=by rw[yAe];exact hk
     rw[yAn,yBs,yCq,<-yA6];clear hx2;generalize pre2.map (λn=>yA (VX n))=zs2 at *;refine WW ?_;rfl
    ·(refine WW ?_)
     rfl
  ·(refine WW ?_)
   refine yM (co) [5,1001] [5,1001] [3,5,6,13,14,15,28,29] [7,8,30,3,5,6,13,14,15,28,29] Z (λi pre T U=>⟨(7,iA (kV co i))::(8,iA (p2 (2*(i:Int))))::(30,iA i)::T,U⟩) ?_;(conv=>whnf);refine⟨by rfl,?_,?_⟩
   ·intro k pre2 c post2 hx2 hk;have hy2:=xG iA hx2 hk;have hlt2:=yP hx2 hk;have hcm:=hv.c c (wT hx2);have hg:co.getD k 0=c:=by rw[hx2,<-hk];simp[List.getD]
    have hb1:=hbd k zB;have hp1:=VY k zB;have e1:kV co (k+1)=kV co k+c*p2 (2*(k:Int)):=by rw[kV,hg]
    rw[e1,zL9];clear hx2 hbd hlast hpl8 hs8 e1 hv;generalize kV co k=s at *;generalize p2 (2*(k:Int))=w at *;have:c=0∨c=1∨c=2:=by omega
    rcases this with rfl|rfl|rfl
    all_goals
     refine WW ?_;rfl
   ·clear hbd hv;generalize kV co co.length=s at *;refine WW ?_;refine yM (cn) [1001] [] [13,14,15,53,54] [3,55,13,14,15,53,54] Z (λi pre T U=>⟨(3,.ref 1001 0 (xs++[yA (hdF true false),yA (uS s 8),yA (VX s)]++pre.map (λn=>yA (VX n))).length)::(55,iA i)::T,(1001,.arr 1 (xs++[yA (hdF true false),yA (uS s 8),yA (VX s)]++pre.map (λn=>yA (VX n))) true)::U⟩) ?_;(conv=>whnf);refine⟨by(simp only[yCq,yA8];rfl),?_,?_⟩
    ·intro k pre2 c post2 hx2 hk;have hy2:=xG iA hx2 hk;have hlt2:=yP hx2 hk;have hpk:(pre2.map (λn=>yA (VX n))).length=k:=by rw[yAe];exact hk
     rw[yAn,yBs,yCq,<-yA6];clear hx2;generalize pre2.map (λn=>yA (VX n))=zs2 at *;refine WW ?_;rfl
    ·(refine WW ?_)
     rfl
  ·(refine WW ?_)
   refine yM (co) [5,1001] [5,1001] [3,5,6,13,14,15,28,29] [7,8,30,3,5,6,13,14,15,28,29] Z (λi pre T U=>⟨(7,iA (kV co i))::(8,iA (p2 (2*(i:Int))))::(30,iA i)::T,U⟩) ?_;(conv=>whnf);refine⟨by rfl,?_,?_⟩
   ·intro k pre2 c post2 hx2 hk;have hy2:=xG iA hx2 hk;have hlt2:=yP hx2 hk;have hcm:=hv.c c (wT hx2);have hg:co.getD k 0=c:=by rw[hx2,<-hk];simp[List.getD]
    have hb1:=hbd k zB;have hp1:=VY k zB;have e1:kV co (k+1)=kV co k+c*p2 (2*(k:Int)):=by rw[kV,hg]
    rw[e1,zL9];clear hx2 hbd hlast hpl8 hs8 e1 hv;generalize kV co k=s at *;generalize p2 (2*(k:Int))=w at *;have:c=0∨c=1∨c=2:=by omega
    rcases this with rfl|rfl|rfl
    all_goals
     refine WW ?_;rfl
   ·clear hbd hv;generalize kV co co.length=s at *;refine WW ?_;refine yM (cn) [1001] [] [13,14,15,53,54] [3,55,13,14,15,53,54] Z (λi pre T U=>⟨(3,.ref 1001 0 (xs++[yA (hdF true true),yA (uS s 8),yA (VX s)]++pre.map (λn=>yA (VX n))).length)::(55,iA i)::T,(1001,.arr 1 (xs++[yA (hdF true true),yA (uS s 8),yA (VX s)]++pre.map (λn=>yA (VX n))) true)::U⟩) ?_;(conv=>whnf);refine⟨by(simp only[yCq,yA8];rfl),?_,?_⟩
    ·intro k pre2 c post2 hx2 hk;have hy2:=xG iA hx2 hk;have hlt2:=yP hx2 hk;have hpk:(pre2.map (λn=>yA (VX n))).length=k:=by rw[yAe];exact hk
     rw[yAn,yBs,yCq,<-yA6];clear hx2;generalize pre2.map (λn=>yA (VX n))=zs2 at *;refine WW ?_;rfl
    ·(refine WW ?_)
     rfl
 ·(refine WW ?_)
  exact zK [1001] Z Z Z Z
def cdW (g:Lg) (w:Vw):Int:=if 0<=g.ph/\g.ph<(w.co.length:Int)then(if w.ov=true/\w.fl=false/\w.co.getD g.ph.toNat default=1 then 3 else 2)else 1
def cdF (g:Lg) (v:List Vw) (now:Int):Int:=if liB g now=true/\0<=g.jn/\g.jn<(v.length:Int)then cdW g (v.getD g.jn.toNat default)else 1
def zMc (g:Lg) (v:List Vw) (now:Int):1<=cdF g v now/\cdF g v now<=3:=by
 unfold cdF cdW
 repeat' split
 all_goals omega
def zMd (g:Lg) (v:List Vw) (now:Int) {Q:Int->Prop} (q1:liB g now=false->Q 1) (q2:liB g now=true->g.jn<0->Q 1) (q3:liB g now=true->0<=g.jn->(v.length:Int)<=g.jn->Q 1)
  (q4:∀w,liB g now=true->0<=g.jn->g.jn<(v.length:Int)->(v.map vA)[g.jn.toNat]? =some (vA w)->g.ph<0->Q 1)
  (q5:∀w,liB g now=true->0<=g.jn->g.jn<(v.length:Int)->(v.map vA)[g.jn.toNat]? =some (vA w)->0<=g.ph->(w.co.length:Int)<=g.ph->Q 1)
  (q6:∀w c,liB g now=true->0<=g.jn->g.jn<(v.length:Int)->(v.map vA)[g.jn.toNat]? =some (vA w)->0<=g.ph->g.ph<(w.co.length:Int)->(w.co.map iA)[g.ph.toNat]? =some (iA c)->Q (if w.ov=true/\w.fl=false/\c=1 then 3 else 2)):Q (cdF g v now):=by
 unfold cdF
 cases hl:liB g now with
 |false=>rw[yAc (λh=>by cases h.1)];exact q1 hl
 |true=>
  by_cases j0:g.jn<0
  ·rw[yAc (λh=>by omega)];exact q2 hl j0
  by_cases j1:(v.length:Int)<=g.jn
  ·rw[yAc (λh=>by omega)];exact q3 hl zB j1
  have hy:=yN vA v g.jn zB zB;rw[yAd ⟨rfl,zB,zB⟩];generalize v.getD g.jn.toNat default=w at *;unfold cdW;by_cases p0:g.ph<0
  ·rw[yAc (λh=>by omega)];exact q4 w hl zB zB hy p0
  by_cases p1:(w.co.length:Int)<=g.ph
  ·rw[yAc (λh=>by omega)];exact q5 w hl zB zB hy zB p1
  have hy2:=yN iA w.co g.ph zB zB;rw[yAd ⟨zB,zB⟩];exact q6 w _ hl zB zB hy zB zB hy2
def zWd (g:Lg) (v:List Vw) (now:Int) (hn:v.length<=1000) (hb:∀w∈v,w.co.length<=1000):zN 88 [xW g,zC vA v,iA now] [] (iA (cdF g v now)) []:=by
 have cl:=zJc g now;have hvl:=zA vA v;have hb:∀w,(v.map vA)[g.jn.toNat]? =some (vA w)->(w.co.map iA).length=w.co.length:=λw _=>zA iA w.co
 unfold xW at *;refine zMd (Q:=λr=>zN 88 [.agg [iA g.jn,iA g.ph,iA g.fr,iA g.to,iA g.sc],zC vA v,iA now] [] (iA r) []) g v now (λh1=>?_) (λh1 h2=>?_) (λh1 h2 h3=>?_) (λw h1 h2 h3 hy h4=>?_) (λw h1 h2 h3 hy h4 h5=>?_) (λw c h1 h2 h3 hy h4 h5 hy2=>?_)
 ·rw[h1]at cl;refine eM call88 λF hF=>?_
  refine zV cl ?_;exact zJ
 ·rw[h1]at cl;refine eM call88 λF hF=>?_
  refine zV cl ?_;exact zJ
 ·rw[h1]at cl;refine eM call88 λF hF=>?_
  refine zV cl ?_;exact zJ
 ·rw[h1]at cl;unfold vA at hy;refine eM call88 λF hF=>?_
  refine zV cl ?_;exact zJ
 ·rw[h1]at cl;have hwl:=hb w hy;unfold vA zC at hy;refine eM call88 λF hF=>?_
  refine zV cl ?_;exact zJ
 ·rw[h1]at cl;have hwl:=hb w hy;clear hb;obtain⟨fl,ov,co,cn⟩:=w;rw[show vA ⟨fl,ov,co,cn⟩= .agg [bA fl,bA ov,zC iA co,zC iA cn]from Z]at hy;dsimp only at *;cases ov
  ·(refine eM call88 λF hF=>?_)
   refine zV cl ?_;exact zJ
  cases fl
  case true=>
   refine eM call88 λF hF=>?_
   refine zV cl ?_;exact zJ
  by_cases hc1:c=1
  ·rw[yAd ⟨rfl,rfl,hc1⟩];refine eM call88 λF hF=>?_
   refine zV cl ?_;exact zJ
  ·rw[yAc (λh=>hc1 h.2.2)];refine eM call88 λF hF=>?_
   refine zV cl ?_;exact zJ
def cqF (l:List Rq) (v:List Vw) (now:Int) (i:Nat):Int:=if i/3<l.length/\i % 3<(l.getD (i/3) default).legs.length then cdF ((l.getD (i/3) default).legs.getD (i % 3) default) v now else 0
def cqL (l:List Rq) (v:List Vw) (now:Int) (n:Nat):List Int:=(List.range n).map (cqF l v now)
def BU (l:List Rq) (v:List Vw) (now:Int) (N i:Nat):List Int:=(List.range N).map λj=>if j<i then cqF l v now j else 0
def zEf (l:List Rq) (v:List Vw) (now:Int) (N i:Nat):(BU l v now N i).length=N:=by simp[BU]
def zMe (l:List Rq) (v:List Vw) (now:Int) (N:Nat):(BU l v now N 0).map yA=List.replicate N (yA 0):=by
 apply yBj;intro j;unfold BU;rw[yAi,yAi,yCb];by_cases hj:j<N
 ·rw[yBg hj,yAd hj];simp
 ·rw[yA1 wF,yAc hj];rfl
def zB4 (l:List Rq) (v:List Vw) (now:Int) (N k j:Nat):((BU l v now N k).map yA)[j]? =if j<N then some (yA (if j<k then cqF l v now j else 0))else none:=by
 unfold BU;rw[yAi,yAi];by_cases hj:j<N
 ·rw[yBg hj,yAd hj];rfl
 ·rw[yA1 wF,yAc hj];rfl
def zMf (l:List Rq) (v:List Vw) (now:Int) (N i:Nat) (hi:i<N):(BU l v now N (i+1)).map yA=((BU l v now N i).map yA).set i (yA (cqF l v now i)):=by
 apply yBj;intro j;rw[yCn,zB4,zB4,yAe,zEf];by_cases he:i=j
 ·subst he;rw[yAd hi,yAd Z,yAd hi,yAd (Nat.lt_succ_self i)]
 ·rw[yAc he];by_cases hj:j<N
  ·rw[yAd hj,yAd hj];by_cases h2:j<i
   ·rw[yAd zB,yAd h2]
   ·rw[yAc zB,yAc h2]
  ·rw[yAc hj,yAc hj]
def zRc (l:List Rq) (v:List Vw) (now:Int) (N:Nat):BU l v now N N=cqL l v now N:=by
 unfold BU cqL;apply yDt;intro j hj;rw[yAd (yA2.1 hj)]
theorem zRd (l:List Rq) (q:Nat) (v:List Vw) (now:Int) (hq:q<=1000) (hl:l.length<=1000) (hlg:∀r∈l,r.legs.length<=1000) (hn:v.length<=1000) (hb:∀w∈v,w.co.length<=1000):
  zN 132 [zC yL l,iA q,zC vA v,iA now] [] (zC yA (cqL l v now (q*3))) []:=by
 have hll:=zA yL l;by_cases h0:q=0
 ·subst h0;refine eM call132 λF hF=>?_
  refine WW ?_;exact zJ
 have e0:=zMe l v now (q*3);have hvl:=zA vA v;refine eM call132 λF hF=>?_
 refine WW ?_;have hN9:q*3<=3000:=by omega
 generalize q*3=N at *;refine zO (N) [21] [] [0,2,3,9,23] [24,0,2,3,9,23] Z (λi T U=>⟨(24,iA i)::T,(21,.arr 1 ((BU l v now N i).map yA) false)::U⟩) ?_;(conv=>whnf);refine⟨by(rw[e0];rfl),?_,?_⟩
 ·intro i hi;have hr:(i:Int).tdiv 3=((i/3:Nat):Int):=by rw[yB6 zB];omega
  have hk:(i:Int).tmod 3=((i % 3:Nat):Int):=by rw[yBz zB];omega
  have hin:ZM .i64 ((i:Int).tdiv 3):=⟨by show -9223372036854775808<=_;omega,by show _<=9223372036854775807;omega⟩;have hnl:((BU l v now N i).map yA).length=N:=by rw[yAe,zEf]
  have e:=zMf l v now N i hi;rw[e];have hyx:((BU l v now N i).map yA)[i]? =some (yA (if i<i then cqF l v now i else 0)):=by rw[zB4,yAd hi]
  have hset:∀y:AV,(((BU l v now N i).map yA).set i y)[i]? =some y:=λy=>yB5 zB
  by_cases hr1:i/3<l.length
  ·have hy:(l.map yL)[((i:Int).tdiv 3).toNat]? =some (yL (l.getD (i/3) default)):=by rw[hr];exact zM yL l _ hr1
   have hxl:(l.getD (i/3) default).legs.length<=1000:=hlg _ (by rw[yAk,yAr hr1];exact yDa _);have hxm:=zA xW (l.getD (i/3) default).legs
   have ec:cqF l v now i=if i % 3<(l.getD (i/3) default).legs.length then cdF ((l.getD (i/3) default).legs.getD (i % 3) default) v now else 0:=by
    unfold cqF;by_cases h:i % 3<(l.getD (i/3) default).legs.length
    ·rw[yAd ⟨hr1,h⟩,yAd h]
    ·rw[yAc (λh9=>h h9.2),yAc h]
   rw[ec];clear e ec e0;generalize l.getD (i/3) default=x at *;unfold yL zC at hy;by_cases hk1:i % 3<x.legs.length
   ·have hy2:(x.legs.map xW)[((i:Int).tmod 3).toNat]? =some (xW (x.legs.getD (i % 3) default)):=by rw[hk];exact zM xW x.legs _ hk1
    have cc:=zWd (x.legs.getD (i % 3) default) v now hn hb;have hcb:=zMc (x.legs.getD (i % 3) default) v now;rw[yAd hk1];generalize cdF (x.legs.getD (i % 3) default) v now=c at *;generalize x.legs.getD (i % 3) default=g at *;generalize (BU l v now N i).map yA=xs at*
    (have zc1:=cc;(repeat' (first|refine WTR ?_|apply xM|apply xZ|intro hc|(refine zE ?_;first|(refine cU ?_;refine RO tok Z Z Z (hset _) Z Z Z Z Z Z Z Z ?_)|refine SM ?_)|refine SB ?_|fail))<;>clear zc1)
    refine yBa (St.mk _) ?_
    show [(21,xO.arr 1 ((xs.set i _).set i _) _)]=_
    rw[yFc];rfl
   ·rw[yAc hk1];generalize (BU l v now N i).map yA=xs at *;refine WW ?_;rfl
  ·have ec:cqF l v now i=0:=by unfold cqF;rw[yAc (λh=>hr1 h.1)]
   rw[ec];clear e ec e0;generalize (BU l v now N i).map yA=xs at *;refine WW ?_;rfl
 ·rw[zRc];refine WW ?_;refine zH [] Z Z ?_ Z;exact yBa (AV.sl false) (yAo (by simp[cqL]))
def stM (now:Int) (v:List Vw) (b:List Int):Ms:=⟨17,[],[now],YP v++b⟩
def zWe (now:Int) (v:List Vw) (b:List Int) (hn:v.length<=1000) (hb:∀w∈v,AZ w) (hl:b.length<=10000):zN 133 [iA now,zC vA v,zC yA b] [] (yB (stM now v b)) []:=by
 have kr:=zMb v hn hb;have h1:=SH hb;have hrl:=zA yA (YP v);have hbl:=zA yA b;rw[show yB (stM now v b)= .agg [iA 17,.sl false [],.sl false [iA now],.sl false ((YP v).map yA++b.map yA)] by unfold stM yB zC;rw[yAn];rfl];generalize (YP v).map yA=xs at *;refine eM call133 λF hF=>?_
 refine WLo kr ?_;refine zH [] Z Z ?_ Z;exact yBa (λz=>AV.agg [iA 17,AV.sl false [],AV.sl false [iA now],AV.sl false z]) yAh
def jQ (d:xJ) (v:List Vw) (now:Int):Ms:=stM now v (cqL d.rq v now (d.rg.ag.req.toNat*3))
def BV (d:xJ) (hd:dH d) (hq:0<=d.rg.ag.req/\d.rg.ag.req<=4) (v:List Vw) (now:Int) (hn:v.length<=1000) (hb:∀w∈v,AZ w):zN 96 [zL d,zC vA v,iA now] [] (yB (jQ d v now)) []:=by
 have c1:=zRd d.rq d.rg.ag.req.toNat v now zB hd.q hd.g hn (λw hw=>yBn (hb w hw).n xL);rw[show((d.rg.ag.req.toNat:Nat):Int)=d.rg.ag.req by omega]at c1;have c2:=zWe now v (cqL d.rq v now (d.rg.ag.req.toNat*3)) hn hb (by simp[cqL];omega);unfold jQ;generalize cqL d.rq v now (d.rg.ag.req.toNat*3)=cs at *;unfold yB at *;unfold zL wJ;generalize YP v=rc at *;refine eM call96 λF hF=>?_
 refine yQ (wV c1 c2) ?_;exact zJ
def vwZ (n:Nat):Vw:=⟨true,false,List.replicate n 0,List.replicate n 0⟩
def zYb {n:Nat} (h:n<=8):AZ (vwZ n):=⟨by simp[vwZ];exact h,by simp[vwZ];exact h,λc hc=>by
 have:=(yEs.1 hc).2
 omega⟩
end Av
end Go.Proofs.YteajjdidebfcjaaGreat
