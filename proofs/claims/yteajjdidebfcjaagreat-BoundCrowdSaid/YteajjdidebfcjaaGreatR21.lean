/- Part 21. -/
import Derived.Test.YteajjdidebfcjaaGreatR20
namespace Go.Proofs.YteajjdidebfcjaaGreat
namespace Av
open Tryz
set_option linter.all false
set_option maxRecDepth 4000
set_option maxHeartbeats 8000000
theorem zCx (d:Dk):∀i,∀j∈(ND d i).1,∃e,j=jnF e
 |0=>λj hj=>by simp[ND]at hj
 |i+1=>λj hj=>by
  simp only[ND,yAw,yA8]at hj
  rcases hj with hj|hj
  ·exact zCx d i j hj
  ·exact⟨_,hj⟩
def zJt (d:Dk) (r:Int):(LA d r).js=(ND (ad (ad4 d)) (cfN d)).1:=by rw[LA,cfJ]
def zCy (d:Dk) (r:Int):(LA d r).ags=(YP (ad (cfJ d).2) r (cfM d)).1:=by rw[LA,cfG]
def zX3 (d:Dk) (rights:Int):1<=(LA d rights).js.length/\(LA d rights).js.length<=2/\1<=(LA d rights).ags.length/\(LA d rights).ags.length<=3:=by
 have h1:=xZ (ad4 d) 2 zB;have h2:=xZ (cfJ d).2 3 zB;rw[zJt,zCy,RM,eV];unfold cfN cfM;omega
def zX4 (d:Dk) (n r:Int) (hr:0<=r/\r<=63):AgV (agF d n r):=by
 have w1:=xZ d (3-1+1) zB;have w2:=xZ (ad d) (3-1+1) zB;have w3:=xZ (ad (ad d)) 3 zB;have w4:=xZ (ad (ad (ad d))) 3 zB;have w5:=xZ (ad (ad (ad (ad d)))) (3-1+1) zB;have w6:=xZ (ad (ad (ad (ad (ad d))))) (2-1+1) zB;have w7:=xZ (ad (ad (ad (ad (ad (ad d)))))) (3-1+1) zB;have w8:=xZ (ad7 d) 5 zB;unfold agF;refine⟨by dsimp only;rw[PG];rfl,rfl,λx hx=>?_,hr,by dsimp only;omega,by dsimp only;omega,by dsimp only;omega,by dsimp only;omega,by dsimp only;omega⟩;simp only[yBd,yDo,yEy]at hx
 rcases hx with rfl|rfl|rfl|rfl<;>omega
structure AgD (a:Ag) (n:Int):Prop where
 v:AgV a
 s:a.sec=US (1000+n)
 q:1<=a.req/\a.req<=3
 b:1<=a.rate/\a.burst<=7
def zX5 (d:Dk) (n r:Int) (hr:0<=r/\r<=63):AgD (agF d n r) n:=by
 have w5:=xZ (ad (ad (ad (ad d)))) (3-1+1) zB;have w7:=xZ (ad (ad (ad (ad (ad (ad d)))))) (3-1+1) zB;have w8:=xZ (ad7 d) 5 zB;exact⟨zX4 d n r hr,rfl,by unfold agF;dsimp only;omega,by unfold agF;dsimp only;omega⟩
theorem zJu (d:Dk) (r:Int) (hr:0<=r/\r<=63):∀i k,k<i->AgD ((YP d r i).1.getD k default) k/\((YP d r i).1.getD k default).rights=r
 |0,k,h=>by omega
 | i+1,k,h=>by
  rw[zJ8,yAg];by_cases hk:k<i
  ·rw[yBe (by rw[eV];exact hk),<-yAg];exact zJu d r hr i k hk
  ·obtain rfl:k=i:=by omega
   rw[yA1 (by rw[eV];omega),eV,yB9];exact⟨zX5 _ _ _ hr,rfl⟩
def zUw (d:Dk) (r:Int) (hr:0<=r/\r<=63) (k:Int) (h0:0<=k) (h1:k<((LA d r).ags.length:Int)):AgD ((LA d r).ags.getD k.toNat default) k/\((LA d r).ags.getD k.toNat default).rights=r:=by
 rw[zCy]at h1⊢;rw[eV]at h1;have:=zJu (ad (cfJ d).2) r hr (cfM d) k.toNat zB;rw[show((k.toNat:Nat):Int)=k by omega]at this;exact this
def zUx {c:Cf} {a:Ag} (hv:AgV a) (n:Int) (hn:0<=n/\n<4):uV c (OS n a a.ses.toNat):=by
 have he:=hv.e;have hq:=hv.q;have hb:=hv.b;have ht:=hv.t;have hs:=zYc n a hv;have e1:(EW n a).ag=a:=rfl;have e2:(EW n a).num=n:=rfl;have e3:(EW n a).tk.length=8:=by simp[EW,tkN]
 have e4:(EW n a).vh=[]:=rfl;have e5:(EW n a).bk=⟨a.burst,a.rate,a.burst⟩:=rfl;unfold OS;generalize hN:a.ses.toNat=N;generalize EW n a=r at *;constructor
 ·exact hs
 ·exact⟨λr hr=>by simp at hr,List.Pairwise.nil,yAp _⟩
 ·dsimp only;rw[e1];simp only[yBr];omega
 ·intro r hr;simp at hr
 ·dsimp only;rw[e1];exact hv
 ·dsimp only;rw[e2];exact hn
 ·exact e3
 ·dsimp only;rw[e1,e5]
 ·dsimp only;rw[e1,e5]
 ·dsimp only;rw[e1,e5];exact⟨hb.1,yB6 _⟩
 ·dsimp only;rw[e1,yB0];omega
 ·simp
 ·intro x hx;simp at hx
 ·dsimp only;rw[e4];simp
def zX6 (n:Int) (a:Ag) (hv:AgV a):zN 57 [iA n,wK a] [] (zI (OS n a a.ses.toNat)) []/\yP [iA n,wK a] [] (zI (OS n a a.ses.toNat)) []:=by
 have he:=hv.e;have h1:=hv.s;have h2:=hv.l;exact⟨zWk n a a.ses.toNat zB zB zB zB,zRp n a a.ses.toNat zB zB zB zB⟩
def zX7 {l:List Tk} (h:GM l) (now:Int):GM (NR l now):=by
 refine⟨by unfold NR;rw[zZ9,yBp];exact h.n,λt ht=>?_⟩;unfold NR at ht;rw[yA5]at ht;obtain⟨j,hj,rfl⟩:=ht;rw[yAt]at hj;unfold zEw;split
 ·exact yAp _
 ·rw[yAg,yAn hj,yCd];exact h.s _ (yCv _)
def JT (d:yY) (now:Int):yY:=⟨rtF d.rg now,zKy d.rq now,d.dr,d.au⟩
def zX8 {c:Cf} {d:yY} (h:uV c d) (now:Int):uV c (JT d now)/\(JT d now).rg.ag=d.rg.ag/\(JT d now).rg.num=d.rg.num:=by
 refine⟨?_,rfl,rfl⟩;have hl:=h.bl;have hr:=h.br;have hbb:=h.bb;have ht:=h.a.t;have hql:=yCl (λx:Rq=>decide (now<=x.til)) d.rq;have hq:=h.q;refine⟨⟨zX7 h.b.tk now,h.b.s,h.b.l,h.b.v⟩,h.v.filter _,?_,λr hr g hg=>h.lg r (yC5.1 hr).1 g hg,h.a,h.n,?_,h.br,h.bb,?_,h.au,h.dn,h.dr,h.vh⟩
 ·show((d.rq.filter _).length:Int)<=d.rg.ag.req
  omega
 ·show(NR d.rg.tk now).length=8
  unfold NR;rw[zZ9,yBp,h.t8]
 ·show 0<=min (d.rg.bk.level+d.rg.bk.rate) d.rg.bk.burst/\min (d.rg.bk.level+d.rg.bk.rate) d.rg.bk.burst<=d.rg.ag.burst
  omega
def zJv {c:Cf} {d:yY} (h:uV c d) (now:Int):zN 95 [zI d,iA now] [] (zI (JT d now)) []:=by
 have k1:=dW d h.bd;have hl:=h.bl;have hr:=h.br;have hbb:=h.bb;have ht:=h.a.t;have hb:=h.a.b;have k2:=zPr d.rg now h.b zB;have k3:=zK0 d.rq now h.v;unfold JT;generalize rtF d.rg now=r at *;generalize zKy d.rq now=q at *;unfold zI wC at *;unfold uX at k2;refine eM call95 λF hF=>?_
 refine WLc (gK k1 k2 k3) ?_;exact zJ
section
variable {P:Program} {K0:List Nat} {F:Fr K0} {m:Nat}
variable {ops:Array Oper} {rest:List Oper} {Q:List FP->St->Prop} {tm:List (Nat×AV)} {h:List (Nat×xN)} {fs fs':List FP} {TT:List TI} {ty:Nat} {pos:String} {after:Array Edge} {t:Nat}
end
theorem zJw:∀(f:Nat) (n:Int),0<=n->n<128 ^ (f+1)->BY (enR f n)
 |0,n,h0,h1=>λx hx=>by
  rw[enR,yA8]at hx;subst hx;simp at h1;omega
 | f+1,n,h0,h1=>λx hx=>by
  rw[enR]at hx;split at hx
  ·rw[yA8]at hx;subst hx;omega
  ·rcases yBd.1 hx with rfl|hx
   ·omega
   ·exact zJw f (n/128) zB (zAl h1) x hx
def JU {n:Int} (h0:0<=n) (h1:n<=4294967295):BY (gV n):=zJw 4 n h0 zB
theorem zJx (fx gr:Nat) (c:Int) (hc:0<=c/\c<256):∀(l:List Int) (i:Nat),BU l->BY (RK fx gr c i l)
 | [],_,_=>λx hx=>by cases hx
 | y::l,i,h=>λx hx=>by
  rw[RK]at hx
  rcases yAw.1 hx with hx|hx
  ·split at hx
   ·rw[yA8]at hx;subst hx;exact hc
   ·cases hx
  ·rcases yAw.1 hx with hx|hx
   ·have:=h y zU;exact JU this.1 this.2 x hx
   ·exact zJx fx gr c hc l (i+1) (λz hz=>h z (by simp[hz])) x hx
def zUy (m:Ms) (h:MgP m) (n:Nat) (n2:n<=2) (ng:xU m.kind≠0->1<=n) (nl:m.args.length=vL m.kind+n*xU m.kind):∃p,BY p/\p.length<=200/\p=YN (vL m.kind) (xU m.kind) n m/\zN 64 [yB m] [] (.tup [zD yA p,iA 0]) []:=by
 have k1:=PB m.kind h.k.1 h.k.2 m n Z h.l (by rw[h.d];simp) h.n nl zB;have hf:=JZ m.kind;have hg:=JY m.kind
 have hgn:n*xU m.kind<=8:=by rcases hg with e|e|e<;>rw[e]<;>omega
 have k2:=aT m.kind h.k.1 h.k.2 m n Z h.l (by rw[h.d];simp) h.n zB (λ_=>nl) zB
 have hv:vmF (xU m.kind) n m.data=true:=by
  unfold vmF;rw[yAc,h.d];exact⟨rfl,by by_cases h0:xU m.kind=0;exact .inl h0;exact .inr (ng h0)⟩
 rw[hv]at k1;have hpl:=JX (vL m.kind) (xU m.kind) n m.args 0;have hll:=h.l;refine⟨YN (vL m.kind) (xU m.kind) n m,λx hx=>?_,?_,rfl,?_⟩
 ·unfold YN at hx;rw[h.d]at hx
  rcases yAw.1 hx with hx|hx
  ·rcases yAw.1 hx with hx|hx
   ·exact h.t x hx
   ·exact zJx _ _ _ zB _ _ h.n x hx
  ·rw[yBc]at hx;split at hx
   ·rw[yA8]at hx;omega
   ·cases hx
 ·unfold YN;rw[h.d,yBc,yAd,yAd]
  have:(if xU m.kind≠0/\m.args.length=vL m.kind then [(0:Int)]else []).length<=1:=by split<;>simp
  omega
 ·generalize YN (vL m.kind) (xU m.kind) n m=p at *;refine eM call64 λF hF=>?_
  refine yR (vH k1 k2) ?_;exact zJ
def zUz (m:Ms) (h:MgP m):∃p,BY p/\p.length<=200/\zN 64 [yB m] [] (.tup [zD yA p,iA 0]) []:=by
 obtain⟨n,n2,ng,nl⟩:=h.c;obtain⟨p,h1,h2,_,h4⟩:=zUy m h n n2 ng nl;exact⟨p,h1,h2,h4⟩
section
variable {P:Program} {TT:List TI} {st:St}
end
section
variable {P:Program} {TT:List TI} {K0:List Nat} {F:Fr K0} {m:Nat} {ops:Array Oper} {rest:List Oper} {Q:List FP->St->Prop} {tm:List (Nat×AV)} {h:List (Nat×xN)} {dr:Bool} {fs:List FP}
variable {ty:Nat} {pos:String} {after:Array Edge} {t:Nat}
end
section
variable (b:List Int) (a y k:Int) (hl:1<=b.length) (hn:b.length<=1000) (h0:0<=y/\y<=1023) (hk:a % (b.length:Int)=k)
include hl hn h0 hk
end
def zSi {α:Type} (I:Nat->α->Prop) (R:Nat->α->α->Prop) (h:∀i a,I i a->∃b,R i a b/\I (i+1) b) (a0:α) (h0:I 0 a0):∃f:Nat->α,f 0=a0/\∀i,I i (f i)/\R i (f i) (f (i+1)):=by
 have hg:∀i a,∃b,I i a->R i a b/\I (i+1) b:=λi a=>by
  by_cases hi:I i a
  ·obtain⟨b,hb⟩:=h i a hi;exact⟨b,λ_=>hb⟩
  ·exact⟨a,λh=>absurd h hi⟩
 let f:Nat->α:=λn=>Nat.rec a0 (λi a=>(hg i a).choose) n
 have hf:∀i,I i (f i):=λi=>by
  induction i with
  |zero=>exact h0
  |succ i ih=>exact((hg i (f i)).choose_spec ih).2
 exact⟨f,rfl,λi=>⟨hf i,((hg i (f i)).choose_spec (hf i)).1⟩⟩
def bB {α:Type} [Inhabited α] (g:Nat->α->α) (l:List α) (i:Nat):List α:=(List.range l.length).map λj=>if j<i then g j (l.getD j default)else l.getD j default
def wP {α:Type} [Inhabited α] (g:Nat->α->α) (l:List α) (i:Nat):(bB g l i).length=l.length:=by simp[bB]
def vQ {α:Type} [Inhabited α] (g:Nat->α->α) (l:List α) (i j:Nat):(bB g l i)[j]? =if j<l.length then some (if j<i then g j (l.getD j default)else l.getD j default)else none:=by
 unfold bB;rw[yAa];by_cases hj:j<l.length
 ·rw[yA4 hj,zZ8 hj];rfl
 ·rw[yAz vA,zZ7 hj];rfl
def qR {α:Type} [Inhabited α] (g:Nat->α->α) (l:List α):bB g l 0=l:=by
 apply yBi;intro j;rw[vQ];by_cases hj:j<l.length
 ·rw[zZ8 hj,zZ7 zB];simp[List.getD,hj]
 ·rw[zZ7 hj,yAz zB]
def zCz {α:Type} [Inhabited α] (g:Nat->α->α) (l:List α) (i:Nat) (hi:i<l.length):bB g l (i+1)=(bB g l i).set i (g i (l.getD i default)):=by
 apply yBi;intro j;rw[yB8,vQ,vQ,wP];by_cases he:i=j
 ·subst he;rw[zZ8 hi,zZ8 Z,zZ8 hi,zZ8 (yF3 i)]
 ·rw[zZ7 he];by_cases hj:j<l.length
  ·rw[zZ8 hj,zZ8 hj];by_cases h2:j<i
   ·rw[zZ8 zB,zZ8 h2]
   ·rw[zZ7 zB,zZ7 h2]
  ·rw[zZ7 hj,zZ7 hj]
def uR {α:Type} [Inhabited α] (f:α->AV) (g:Nat->α->α) (l:List α) (i:Nat) (hi:i<l.length):(bB g l (i+1)).map f=((bB g l i).map f).set i (f (g i (l.getD i default))):=by
 rw[zCz g l i hi,yB4]
structure In where
 opn:Bool
 its:List It
instance:Inhabited In:=⟨⟨false,[]⟩⟩
instance:Inhabited It:=⟨⟨0,0,[]⟩⟩
def jG (i:In):AV:= .agg [bA i.opn,zD wZ i.its]
structure En where
 ag:Int
 ki:Int
 co:Int
def jP (e:En):AV:=MG e.ag e.ki e.co
structure TS where
 d:yY
 rs:List Ms
 en:List En
 ks:List Int
structure SS where
 d:yY
 R:List (List Ms)
 en:List En
 ks:List Int
def bZ (l:List Ms):AV:=zD yB l
def InB (i:In):Prop:=i.its.length<=1000/\∀x∈i.its,BY x.pay/\x.pay.length<=100000
def StR (c:Cf) (s now:Int) (i:It) (a b:TS):Prop:=∃h:Hd,TC c a.d s i now h/\HdP c a.d s i now h/\b=⟨h.d,a.rs++[h.p],a.en++[⟨a.d.rg.num,i.kind,h.e⟩],if 0<=h.k then a.ks++[h.k]else a.ks⟩
structure EM (c:Cf) (d0 d:yY):Prop where
 i:uV c d
 n:d.rg.num=d0.rg.num
 a:d.rg.ag=d0.rg.ag
 t:T0 d0->T0 d
theorem EM.refl {c:Cf} {d:yY} (h:uV c d):EM c d d:=⟨h,rfl,rfl,id⟩
theorem EM.trans {c:Cf} {a b d:yY} (h1:EM c a b) (h2:EM c b d):EM c a d:=⟨h2.i,h2.n.trans h1.n,h2.a.trans h1.a,λh=>h2.t (h1.t h)⟩
def zU0 (c:Cf) (s now:Int) (n0:0<=now) (n1:now<=1073741824) (its:List It) (hib:∀x∈its,BY x.pay/\x.pay.length<=100000) (st:TS) (hI:uV c st.d):
  ∃f:Nat->TS,f 0=st/\∀k,EM c st.d (f k).d/\((f k).rs.length=st.rs.length+k/\(f k).en.length=st.en.length+k/\(f k).ks.length<=st.ks.length+k/\((∀x∈st.ks,0<=x/\x<(c.js.length:Int))->∀x∈(f k).ks,0<=x/\x<(c.js.length:Int)))/\(k<its.length->StR c s now (its.getD k default) (f k) (f (k+1))):=by
 have hx:∀k,BY (its.getD k default).pay/\(its.getD k default).pay.length<=100000:=λk=>by
  by_cases hk:k<its.length
  ·refine hib _ ?_;rw[yAg,yAn hk];exact yCv _
  ·rw[yAg,yAz zB]
   show BY ([]:List Int)/\([]:List Int).length<=100000
   exact⟨λy hy=>absurd hy zU,yAp _⟩
 obtain⟨f,h0,hf⟩:=zSi (λk (a:TS)=>EM c st.d a.d/\(a.rs.length=st.rs.length+k/\a.en.length=st.en.length+k/\a.ks.length<=st.ks.length+k/\((∀x∈st.ks,0<=x/\x<(c.js.length:Int))->∀x∈a.ks,0<=x/\x<(c.js.length:Int)))) (λk a b=>StR c s now (its.getD k default) a b)
  (λk a ha=>by
   obtain⟨ha,h1,h2,h3,h4⟩:=ha;obtain⟨h,hB,hP⟩:=zFm c a.d ha.i s now n0 n1 _ (hx k).1 (hx k).2;refine⟨_,⟨h,hB,hP,rfl⟩,ha.trans ⟨hP.inv,hP.num,hP.ag,hP.t0⟩,?_,?_,?_,λhks x hx=>?_⟩
   ·dsimp only;rw[yAd,yC3];omega
   ·dsimp only;rw[yAd,yC3];omega
   ·dsimp only;split
    ·rw[yAd,yC3];omega
    ·omega
   ·dsimp only at hx;split at hx
    ·rename_i hk0
     rcases yAw.1 hx with hx|hx
     ·exact h4 hks x hx
     ·rw[yA8]at hx;subst hx
      rcases hP.rst with h9|⟨_,h8,h9⟩
      ·omega
      ·exact⟨h8,h9⟩
    ·exact h4 hks x hx)
  st ⟨EM.refl hI,zB,zB,zB,id⟩
 exact⟨f,h0,λk=>⟨(hf k).1.1,(hf k).1.2,λ_=>(hf k).2⟩⟩
def eP (ins:List In) (s:Nat):List It:=if s<ins.length/\(ins.getD s default).opn=true then(ins.getD s default).its else []
def SeR (c:Cf) (now:Int) (ins:List In) (s:Nat) (a b:SS):Prop:=∃f:Nat->TS,f 0=⟨a.d,[],a.en,a.ks⟩/\(∀k,k<(eP ins s).length->StR c (s:Int) now ((eP ins s).getD k default) (f k) (f (k+1)))/\(∀k,EM c a.d (f k).d/\(f k).rs.length=k/\(f k).en.length=a.en.length+k/\(f k).ks.length<=a.ks.length+k)/\
 b=⟨(f (eP ins s).length).d,a.R++[(f (eP ins s).length).rs],(f (eP ins s).length).en,(f (eP ins s).length).ks⟩
def EN {ins:List In} (h:∀i∈ins,InB i) (s:Nat):(eP ins s).length<=1000/\∀x∈eP ins s,BY x.pay/\x.pay.length<=100000:=by
 unfold eP;split
 ·rename_i hs;refine h _ ?_;rw[yAg,yAn hs.1];exact yCv _
 ·exact⟨yAp _,λx hx=>by cases hx⟩
def zO3 (c:Cf) (now:Int) (n0:0<=now) (n1:now<=1073741824) (ins:List In) (hin:∀i∈ins,InB i) (d:yY) (hI:uV c d):
  ∃F:Nat->SS,F 0=⟨d,[],[],[]⟩/\∀s,EM c d (F s).d/\((F s).R.length=s/\(F s).en.length<=1000*s/\(F s).ks.length<=1000*s/\∀x∈(F s).ks,0<=x/\x<(c.js.length:Int))/\SeR c now ins s (F s) (F (s+1)):=by
 obtain⟨F,h0,hF⟩:=zSi (λs (a:SS)=>EM c d a.d/\(a.R.length=s/\a.en.length<=1000*s/\a.ks.length<=1000*s/\∀x∈a.ks,0<=x/\x<(c.js.length:Int))) (λs a b=>SeR c now ins s a b)
  (λs a ha=>by
   obtain⟨ha,h1,h2,h3,h4⟩:=ha;obtain⟨hl,hb⟩:=EN hin s;obtain⟨f,f0,hf⟩:=zU0 c (s:Int) now n0 n1 (eP ins s) hb ⟨a.d,[],a.en,a.ks⟩ ha.i;have hL:=hf (eP ins s).length;refine⟨_,⟨f,f0,λk hk=>(hf k).2.2 hk,λk=>⟨(hf k).1,by have:=(hf k).2.1.1;simpa using this,(hf k).2.1.2.1,(hf k).2.1.2.2.1⟩,rfl⟩,ha.trans hL.1,?_,?_,?_,hL.2.1.2.2.2 h4⟩
   ·dsimp only;rw[yAd,yC3];omega
   ·have:=hL.2.1.2.1;dsimp only at *;omega
   ·have:=hL.2.1.2.2.1;dsimp only at *;omega)
  ⟨d,[],[],[]⟩ ⟨EM.refl hI,rfl,yAp _,yAp _,λx hx=>by cases hx⟩
 exact⟨F,h0,λs=>⟨(hF s).1.1,(hF s).1.2,(hF s).2⟩⟩
def GL (ins:List In) (s:Nat) (b:Bool):Bool:=if s<ins.length/\(ins.getD s default).opn=true then b else false
def auF (ins:List In) (l:List Bool):List Bool:=bB (GL ins) l l.length
def dkU (d:yY) (ins:List In):yY:=⟨d.rg,d.rq,d.dr,auF ins d.au⟩
def zX9 {c:Cf} {d:yY} (h:uV c d) (ins:List In):uV c (dkU d ins):=
 ⟨h.b,h.v,h.q,h.lg,h.a,h.n,h.t8,h.br,h.bb,h.bl,by show((auF ins d.au).length:Int)=_;unfold auF;rw[wP];exact h.au,h.dn,h.dr,h.vh⟩
def dkM (d:yY) (now:Int):yY:=⟨d.rg,EU d.rq now,d.dr,d.au⟩
def zYa {c:Cf} {d:yY} (h:uV c d) (now:Int) (n0:0<=now) (n1:now<=1073741824):uV c (dkM d now):=by
 refine⟨h.b,zYl h.v now n0 n1,?_,λr hr g hg=>?_,h.a,h.n,h.t8,h.br,h.bb,h.bl,h.au,h.dn,h.dr,h.vh⟩
 ·show((EU d.rq now).length:Int)<=_
  unfold EU;rw[zZ9];exact h.q
 ·obtain⟨x,hx,rfl⟩:=yA5.1 hr;obtain⟨y,hy,rfl⟩:=yA5.1 hg;obtain⟨e1,e2,_⟩:=zKo y now n0 n1;have:=h.lg x hx y hy;rw[e1,e2];exact this
def QY (x:yY):List AV:=[iA x.rg.num,zD yA x.rg.ag.sec,iA x.rg.ag.rights,iA x.rg.ag.cls,zD iA x.rg.ag.lim,iA x.rg.ag.req,iA x.rg.ag.ses,iA x.rg.ag.rate,iA x.rg.ag.burst,zD yV x.rg.tk,zD vZ x.rg.vh,iA x.rg.bk.level,iA x.rg.bk.rate,iA x.rg.bk.burst,zD yG x.rq,zD qY x.dr,zD bA x.au]
def tkT (d:yY) (R:List (List Ms)) (E:List En) (K:List Int):AV:= .tup [zI d,zD bZ R,zD jP E,zD iA K]
def fS {xs:List AV} {i:Nat} {y:AV} (h:xs[i]? =some y):xs.set i y=xs:=by
 apply yBi;intro j;rw[yB8];by_cases he:i=j
 ·subst he;have hi:=(yAu.1 h).1;rw[zZ8 Z,zZ8 hi,h]
 ·rw[zZ7 he]
def zJy {g:Nat->Bool->Bool} {l:List Bool} {k n:Nat} (h:l.length=n):List.take n (List.drop 0 ((bB g l k).map bA))=(bB g l k).map bA:=by
 rw[yA9];exact yAj (by rw[zZ9,wP,h];exact yAb _)
section
variable {P:Program} {K0:List Nat} {F:Fr K0} {m:Nat} {tm:List (Nat×AV)} {h:List (Nat×xN)}
theorem xV.recell {a:Act} {w:World} (R:xV F m ⟨tm,h⟩ a w) (k i K:Nat) {xs ys:List AV} {sb:Bool} {sz2:Nat} {fl2:Fl} (hk:zC h k=some (.arr 1 xs ⟨sb,true⟩)) (hv:xs[i]? =some (.s (.slice none 0 0))) (hK:zC h K=some (.arr sz2 ys fl2)) (hne:K≠k):
  xV F m ⟨tm,(k,.arr 1 (xs.set i (.ref K 0 0)) ⟨sb,true⟩)::h⟩ a w:=by
 obtain⟨⟨X,β,hX,H,Ht,KK,hJ,hD⟩,nd,gs,hl⟩:=R;have hh':∀j,j≠k->zC ((k,.arr 1 (xs.set i (.ref K 0 0)) ⟨sb,true⟩)::h) j=zC h j:=λj hj=>by rw[yQ,zZ7 hj]
 have hhk:zC ((k,.arr 1 (xs.set i (.ref K 0 0)) ⟨sb,true⟩)::h) k=some (.arr 1 (xs.set i (.ref K 0 0)) ⟨sb,true⟩):=by rw[yQ,zZ8 Z]
 have hlen:(xs.set i (.ref K 0 0)).length=xs.length:=yBv
 have E:GO w (xK X β) (zC h) β w (xK X β) (zC ((k,.arr 1 (xs.set i (.ref K 0 0)) ⟨sb,true⟩)::h)) β:=⟨yAb _,λb _ hd=>⟨rfl,hd⟩,λ_ _ _ _=>rfl,λj e he=>by
  by_cases hj:j=k
  ·subst hj;rw[hk]at he;cases he;exact .inr ⟨⟨xs.set i (.ref K 0 0),⟨sb,true⟩,hhk,by rw[hlen];exact yAb _⟩,λb n hm=>⟨n,yAb _,hm⟩⟩
  ·have:=qO (zC h) β j e he
   rcases this with h1|h1
   ·exact .inl (by rw[hh' j hj];exact h1)
   ·refine .inr ?_
    cases e with
    |dead=>exact h1
    |box cs=>obtain⟨⟨cs',h2⟩,h3⟩:=h1;exact⟨⟨cs',by rw[hh' j hj];exact h2⟩,h3⟩
    |obj cs=>obtain⟨⟨cs',h2⟩,h3⟩:=h1;exact⟨⟨cs',by rw[hh' j hj];exact h2⟩,h3⟩
    |arr sz' xs' st'=>obtain⟨⟨x2,s2,h2,h3⟩,h4⟩:=h1;exact⟨⟨x2,s2,by rw[hh' j hj];exact h2,h3⟩,h4⟩⟩
 have H':qV X (zC ((k,.arr 1 (xs.set i (.ref K 0 0)) ⟨sb,true⟩)::h)) β w:=by
  refine⟨λj e he=>?_,λj hj=>?_,H.disj,H.free,H.lt⟩
  ·by_cases hj:j=k
   ·subst hj;rw[hhk]at he;cases he;obtain⟨e1,e2,e3,e4,e5,f,e6,e7,e8⟩:=H.ent j _ hk;refine⟨e1,by rw[hlen];exact e2,λhx=>e3 λh0=>hx (by rw[h0];rfl),λi' x hx=>?_,λb n r hr=>by rw[hlen];exact e5 b n r hr,f,λi' x l v hx hv'=>⟨?_,λh=>by cases h⟩,λi' j' h1 h2=>e7 i' j' (by rw[<-hlen];exact h1) h2,e8⟩
    ·rw[yB8]at hx;split at hx
     ·split at hx
      ·cases hx;rfl
      ·cases hx
     ·exact e4 i' x hx
    ·rw [yB8]at hx;split at hx
     ·rename_i hij;subst hij;split at hx
      ·cases hx
       cases l with
       |zero=>
        have hv2:v= .ref K 0 0:=by simpa [AV.cells]using hv'.symm
        subst hv2;have h6:=e6.toV i _ 0 _ hv Z;rw[h6.s_inv];exact .ref0 K 0 sz2 ys fl2 none (by rw[hh' K hne];exact hK) (yAp _)
       |succ l=>simp[AV.cells]at hv'
      ·cases hx
     ·exact(e6.toV i' x l v hx hv').evo E
   ·rw[hh' j hj]at he;exact(H.ent j e he).evo E Z λ_ _ _=>rfl
  ·rw[yQ]at hj;split at hj
   ·cases hj
   ·exact H.off j hj
 refine⟨⟨X,β,hX,H',λt=>(Ht t).evo E,⟨λj e he=>?_,KK.size,KK.keep,KK.own,KK.pas,KK.bs,KK.os,KK.tape,KK.output⟩,hJ,hD⟩,λj=>?_,gs,hl⟩
 ·have:=KK.knd j e he;by_cases hj:j=k
  ·subst hj
   cases e with
   |dead=>exact this
   |box cs=>obtain⟨cs',h2⟩:=this;(try dsimp only at h2);rw[hk]at h2;cases h2
   |obj cs=>obtain⟨cs',h2⟩:=this;(try dsimp only at h2);rw[hk]at h2;cases h2
   |arr sz' xs' sl'=>obtain⟨xs2,sl2,h2,h3⟩:=this;(try dsimp only at h2);rw[hk]at h2;cases h2;exact⟨_,_,hhk,by rw[hlen];exact h3⟩
  ·cases e with
   |dead=>exact this
   |box cs=>obtain⟨cs',h2⟩:=this;exact⟨cs',by dsimp only;rw[hh' j hj];exact h2⟩
   |obj cs=>obtain⟨cs',h2⟩:=this;exact⟨cs',by dsimp only;rw[hh' j hj];exact h2⟩
   |arr sz' xs' sl'=>obtain⟨xs2,sl2,h2,h3⟩:=this;exact⟨xs2,sl2,by dsimp only;rw[hh' j hj];exact h2,h3⟩
 ·dsimp only;by_cases hj:j=k
  ·subst hj;rw[hhk];intro hd;cases hd
  ·rw[hh' j hj];exact nd j
def YJ {c:Code} {Q:Exit->St->Prop} (k i K:Nat) {xs xs' ys:List AV} {sb:Bool} {sz2:Nat} {fl2:Fl} (hk:zC h k=some (.arr 1 xs ⟨sb,true⟩)) (hv:xs[i]? =some (.s (.slice none 0 0))) (hK:zC h K=some (.arr sz2 ys fl2)) (hne:Nat.beq K k=false) (he:xs.set i (.ref K 0 0)=xs')
  (hs:vK P F m c ⟨tm,(k,.arr 1 xs' ⟨sb,true⟩)::h⟩ Q):vK P F m c ⟨tm,h⟩ Q:=
 ⟨λa w R=>hs.run a w (he▸R.recell k i K hk hv hK (λe=>by rw[e,Nat.beq_refl]at hne;cases hne))⟩
end
def zJz:List AV:=[iA 0,.s (.slice none 0 0),iA 0,iA 0,.s (.slice none 0 0),iA 0,iA 0,iA 0,iA 0,.s (.slice none 0 0),.s (.slice none 0 0),iA 0,iA 0,iA 0,.s (.slice none 0 0),.s (.slice none 0 0),.s (.slice none 0 0)]
theorem zEp {c:Cf} {d:yY} (hI:uV c d) (ins:List In) (hil:ins.length<=1000) (hin:∀i∈ins,InB i) (now:Int) (n0:0<=now) (n1:now<=1073741824) (zF:Nat->SS) (hz0:zF 0=⟨dkU d ins,[],[],[]⟩) (hn:d.au.length=1) (hm:1<=ins.length)
  (hz:∀s,EM c (dkU d ins) (zF s).d/\((zF s).R.length=s/\(zF s).en.length<=1000*s/\(zF s).ks.length<=1000*s/\∀x∈(zF s).ks,0<=x/\x<(c.js.length:Int))/\SeR c now ins s (zF s) (zF (s+1))):
  zN 94 [vG c,zI d,zD jG ins,iA now] [] (tkT (dkM (zF 1).d now) (zF 1).R (zF 1).en (zF 1).ks) []:=by
 have kc:=OK d hI.bd zB;have hal:(d.au.map bA).length=1:=by rw[zZ9,hn]
 have hinl:=zA jG ins;have km:=zKn (zF 1).d.rq now (hz 1).1.i.v;have cfe:vG c= .agg [.sl false (c.js.map wJ),.sl false (c.ags.map wK),iA c.per,iA c.cap,iA c.hold,iA c.lock]:=rfl;rw[cfe];unfold TB zI wC at kc;have e0:=qR (GL ins) d.au;have hkM:(min ((ins.map jG).length:Int) ((d.au.map bA).length:Int)).toNat=1:=by omega
 have htl:((ins.take 1).map jG).length=1:=by rw[zZ9,yA3];omega
 have hty:∀s,s<1->((ins.take 1).map jG)[s]? =some (jG (ins.getD s default)):=λs hs=>by
  rw[yAa,yBz,zZ8 hs,yAg,yAn zB];rfl
 obtain⟨hT0,⟨ha0,hb0,hc0,_⟩,zf0,hf0,hs0,hl0,hx0⟩:=hz 0;have hy0:=hty 0 zB;refine eM call94 λF hF=>?_
 refine zV kc ?_;rw[hkM,hal];refine zO (1) [1004,4,5,8,28] [4,5,8,28] [2,3,4,5,8,12,13,14,39] [40,9,10,2,3,4,5,8,12,13,14,39] Z (λi T U=>⟨(40,iA i)::(9,.s (.slice none 0 0))::(10,.s (.slice none 0 0))::T,(1004,.arr 1 ((bB (GL ins) d.au i).map bA) false)::U⟩) ?_;(conv=>whnf);refine⟨by(rw[e0];rfl),?_,?_⟩
 ·intro i hi;have hya:((bB (GL ins) d.au i).map bA)[i]? =some (bA (d.au.getD i default)):=by rw[yAa,vQ,zZ8 zB,zZ7 (yDx i)];rfl
  have hxl:((bB (GL ins) d.au i).map bA).length=1:=by rw[zZ9,wP,hn]
  rw[uR bA (GL ins) d.au i zB];have hsame:=fS hya;clear kc km;generalize (bB (GL ins) d.au i).map bA=xs at *;generalize d.au.getD i default=b9 at *;unfold GL;by_cases h1:i<1
  ·have hy:=hty i h1;have hlt:i<ins.length:=by omega
   generalize ins.getD i default=x at *;obtain⟨op,its⟩:=x;rw[show jG ⟨op,its⟩= .agg [bA op,zD wZ its]from Z]at hy;cases op
   ·rw[zZ7 (λh=>by cases h.2)];refine WW ?_;rfl
   ·rw[zZ8 ⟨hlt,rfl⟩,hsame];refine WW ?_;rfl
  ·rw[zZ7 (λh=>by omega)];refine WW ?_;rfl
 ·(refine WW ?_)
  refine qH [4,5,8,28] [2,3,4,5,8,9,10,12,13,14,61,62] Z ?_
  (conv=>whnf)
  rw[zJy (by omega:d.au.length=1),show bB (GL ins) d.au 1=auF ins d.au by unfold auF;rw[hn],htl];refine yZ 13 1002 3 Z Z Z ?_;refine yZ 14 1003 1 Z Z Z ?_;refine yZ 9 1006 4 Z Z Z ?_;refine OG 28 Z ?_;refine YJ 28 0 1006 Z Z Z Z Z ?_;refine uK 2 [5,28,1002,1003,1006,4,8] [13,14,62,2,3,4,5,8,12,61] Z ?_;refine yU (st0:=⟨[(13,.ref 1002 0 ((zF 0).en.map jP).length),(14,.ref 1003 0 ((zF 0).ks.map iA).length),(62,iA 0),(2,.sl false ((ins.take 1).map jG)),(3,iA now),(4,.ptr 4 0 0),(5,.ptr 5 0 0),(8,.ptr 8 0 0),(12,.ref 28 0 1),(61,iA 1)],[(5,.box (QY (zF 0).d)),(28,.arr 1 [.ref 1006 0 ([]:List AV).length] ⟨false,true⟩),(1002,.arr 3 ((zF 0).en.map jP) true),(1003,.arr 1 ((zF 0).ks.map iA) true),(1006,.arr 4 ([]:List AV) true),(4,.box [.sl false (c.js.map wJ),.sl false (c.ags.map wK),iA c.per,iA c.cap,iA c.hold,iA c.lock]),(8,.box zJz)]⟩) (by rw[hz0];rfl) ?_;obtain⟨r0,hr0⟩:∃r,r=(zf0 (eP ins 0).length).rs:=⟨_,rfl⟩;have hR0:(zF 1).R=(zF 0).R++[r0]:=by rw[hr0,hx0]
  have q0:(zF 1).d=(zf0 (eP ins 0).length).d/\(zF 1).en=(zf0 (eP ins 0).length).en/\(zF 1).ks=(zf0 (eP ins 0).length).ks:=by rw[hx0];exact⟨rfl,rfl,rfl⟩
  have ml1:=zA jP (zF 0).en;have ml2:=zA iA (zF 0).ks;by_cases ho:(ins.getD 0 default).opn=true
  case' pos=>
   have hse:eP ins 0=(ins.getD 0 default).its:=by unfold eP;rw[zZ8 ⟨zB,ho⟩]
   have hib:=(EN hin 0).1;rw[hse]at hib q0 hs0 hr0;clear hse;generalize ins.getD 0 default=x at *;obtain⟨op,its⟩:=x;dsimp only at *;subst ho;rw[show jG ⟨true,its⟩= .agg [bA true,zD wZ its]from Z]at hy0;have hil2:=zA wZ its;refine WW ?_;refine yL (its) [5,1002,1003,28,1006,4,8] [4,8] [2,3,4,5,8,12,16,61,62,75,76] [13,14,77,2,3,4,5,8,12,16,61,62,75,76] Z (λi pre T U=>⟨(13,.ref 1002 0 ((zf0 i).en.map jP).length)::(14,.ref 1003 0 ((zf0 i).ks.map iA).length)::(77,iA i)::T,(5,.box (QY (zf0 i).d))::(1002,.arr 3 ((zf0 i).en.map jP) true)::(1003,.arr 1 ((zf0 i).ks.map iA) true)::(28,.arr 1 [.ref 1006 0 ((zf0 i).rs.map yB).length] ⟨false,true⟩)::(1006,.arr 4 ((zf0 i).rs.map yB) true)::U⟩) ?_;(conv=>whnf);refine⟨by(rw[hf0];rfl),?_,?_⟩
   ·intro k pre it post hx hk;have hy3:=xI wZ hx hk;have hlt3:=yN hx hk;have hgt:its.getD k default=it:=by rw[hx,<-hk];simp[List.getD]
    obtain⟨h,hB,hP,hnx⟩:=hs0 k hlt3;rw[hgt]at hB;obtain⟨hk1,hk2,hk3,hk4⟩:=hl0 k;have hm1:=zA jP (zf0 k).en;have hm2:=zA iA (zf0 k).ks;have hm3:=zA yB (zf0 k).rs;have kh:=hB.1;rw[hnx];dsimp only;rw[show((zf0 k).rs++[h.p]).map yB=(zf0 k).rs.map yB++[yB h.p] by simp,show∀e:En,((zf0 k).en++[e]).map jP=(zf0 k).en.map jP++[jP e]from λe=>by simp,hgt];rw[cfe]at kh;unfold CU zI wC wZ at kh;unfold wZ at hy3;have hen:(zF 0).en.length<=2000/\(zF 0).ks.length<=2000:=by omega
    clear hx hgt hnx hB hP hty kc km;generalize (zf0 k).rs.map yB=rs9 at *;generalize (zf0 k).en.map jP=en9 at *;generalize h.p=p9 at *;generalize h.e=e9 at *;generalize h.d=d9 at *;generalize hkk:h.k=k9 at *;generalize (zf0 k).d=dk9 at *;obtain⟨pk,pt,pa,pd⟩:=p9;unfold yB MG at kh;dsimp only at kh;unfold QY jP MG yB;by_cases h0:0<=k9
    ·rw[zZ8 h0,show((zf0 k).ks++[k9]).map iA=(zf0 k).ks.map iA++[iA k9] by simp];generalize (zf0 k).ks.map iA=ks9 at *;refine zV kh ?_;rfl
    ·rw[zZ7 h0];generalize (zf0 k).ks.map iA=ks9 at *;refine zV kh ?_;rfl
   obtain⟨w1,w2,w3⟩:=q0;refine WW ?_
  case' neg=>
   have hse:eP ins 0=[]:=by unfold eP;rw[zZ7 (λh=>ho h.2)]
   rw[hse,yBr,hf0]at q0 hr0;obtain⟨w1,w2,w3⟩:=q0;have hop:(ins.getD 0 default).opn=false:=by simpa using ho
   clear hse ho;generalize ins.getD 0 default=x at *;obtain⟨op,its⟩:=x;dsimp only at *;subst hop;rw[show jG ⟨false,its⟩= .agg [bA false,zD wZ its]from Z]at hy0;refine WW ?_
  all_goals clear hy0 ml1 ml2
  all_goals
   refine yU (st0:=⟨[(13,.ref 1002 0 ((zF 1).en.map jP).length),(14,.ref 1003 0 ((zF 1).ks.map iA).length),(62,iA 1),(2,.sl false ((ins.take 1).map jG)),(3,iA now),(4,.ptr 4 0 0),(5,.ptr 5 0 0),(8,.ptr 8 0 0),(12,.ref 28 0 1),(61,iA 1)],[(5,.box (QY (zF 1).d)),(28,.arr 1 [.ref 1006 0 (r0.map yB).length] ⟨false,true⟩),(1002,.arr 3 ((zF 1).en.map jP) true),(1003,.arr 1 ((zF 1).ks.map iA) true),(1006,.arr 4 (r0.map yB) true),(4,.box [.sl false (c.js.map wJ),.sl false (c.ags.map wK),iA c.per,iA c.cap,iA c.hold,iA c.lock]),(8,.box zJz)]⟩) (by rw[w1,w2,w3,hr0];rfl) ?_;refine zV km ?_;refine zK [] Z Z ?_ Z
   show AV.tup [zI (dkM (zF 1).d now),.sl false [.sl false (List.take _ (List.drop 0 (r0.map yB)))],.sl false (List.take _ (List.drop 0 ((zF 1).en.map jP))),.sl false (List.take _ (List.drop 0 ((zF 1).ks.map iA)))]=_
   simp only[yA9,yAf];unfold tkT;rw[hR0,hz0];rfl
theorem zEq {c:Cf} {d:yY} (hI:uV c d) (ins:List In) (hil:ins.length<=1000) (hin:∀i∈ins,InB i) (now:Int) (n0:0<=now) (n1:now<=1073741824) (zF:Nat->SS) (hz0:zF 0=⟨dkU d ins,[],[],[]⟩) (hn:d.au.length=2) (hm:2<=ins.length)
  (hz:∀s,EM c (dkU d ins) (zF s).d/\((zF s).R.length=s/\(zF s).en.length<=1000*s/\(zF s).ks.length<=1000*s/\∀x∈(zF s).ks,0<=x/\x<(c.js.length:Int))/\SeR c now ins s (zF s) (zF (s+1))):
  zN 94 [vG c,zI d,zD jG ins,iA now] [] (tkT (dkM (zF 2).d now) (zF 2).R (zF 2).en (zF 2).ks) []:=by
 have kc:=OK d hI.bd zB;have hal:(d.au.map bA).length=2:=by rw[zZ9,hn]
 have hinl:=zA jG ins;have km:=zKn (zF 2).d.rq now (hz 2).1.i.v;have cfe:vG c= .agg [.sl false (c.js.map wJ),.sl false (c.ags.map wK),iA c.per,iA c.cap,iA c.hold,iA c.lock]:=rfl;rw[cfe];unfold TB zI wC at kc;have e0:=qR (GL ins) d.au;have hkM:(min ((ins.map jG).length:Int) ((d.au.map bA).length:Int)).toNat=2:=by omega
 have htl:((ins.take 2).map jG).length=2:=by rw[zZ9,yA3];omega
 have hty:∀s,s<2->((ins.take 2).map jG)[s]? =some (jG (ins.getD s default)):=λs hs=>by
  rw[yAa,yBz,zZ8 hs,yAg,yAn zB];rfl
 obtain⟨hT0,⟨ha0,hb0,hc0,_⟩,zf0,hf0,hs0,hl0,hx0⟩:=hz 0;have hy0:=hty 0 zB;obtain⟨hT1,⟨ha1,hb1,hc1,_⟩,zf1,hf1,hs1,hl1,hx1⟩:=hz 1;have hy1:=hty 1 zB;refine eM call94 λF hF=>?_
 refine zV kc ?_;rw[hkM,hal];refine zO (2) [1004,4,5,8,28] [4,5,8,28] [2,3,4,5,8,12,13,14,39] [40,9,10,2,3,4,5,8,12,13,14,39] Z (λi T U=>⟨(40,iA i)::(9,.s (.slice none 0 0))::(10,.s (.slice none 0 0))::T,(1004,.arr 1 ((bB (GL ins) d.au i).map bA) false)::U⟩) ?_;(conv=>whnf);refine⟨by(rw[e0];rfl),?_,?_⟩
 ·intro i hi;have hya:((bB (GL ins) d.au i).map bA)[i]? =some (bA (d.au.getD i default)):=by rw[yAa,vQ,zZ8 zB,zZ7 (yDx i)];rfl
  have hxl:((bB (GL ins) d.au i).map bA).length=2:=by rw[zZ9,wP,hn]
  rw[uR bA (GL ins) d.au i zB];have hsame:=fS hya;clear kc km;generalize (bB (GL ins) d.au i).map bA=xs at *;generalize d.au.getD i default=b9 at *;unfold GL;by_cases h1:i<2
  ·have hy:=hty i h1;have hlt:i<ins.length:=by omega
   generalize ins.getD i default=x at *;obtain⟨op,its⟩:=x;rw[show jG ⟨op,its⟩= .agg [bA op,zD wZ its]from Z]at hy;cases op
   ·rw[zZ7 (λh=>by cases h.2)];refine WW ?_;rfl
   ·rw[zZ8 ⟨hlt,rfl⟩,hsame];refine WW ?_;rfl
  ·rw[zZ7 (λh=>by omega)];refine WW ?_;rfl
 ·(refine WW ?_)
  refine qH [4,5,8,28] [2,3,4,5,8,9,10,12,13,14,61,62] Z ?_
  (conv=>whnf)
  rw[zJy (by omega:d.au.length=2),show bB (GL ins) d.au 2=auF ins d.au by unfold auF;rw[hn],htl];refine yZ 13 1002 3 Z Z Z ?_;refine yZ 14 1003 1 Z Z Z ?_;refine yZ 9 1006 4 Z Z Z ?_;refine yZ 10 1007 4 Z Z Z ?_;refine OG 28 Z ?_;refine YJ 28 0 1006 Z Z Z Z Z ?_;refine YJ 28 1 1007 Z Z Z Z Z ?_;refine uK 3 [5,28,1002,1003,1006,1007,4,8] [13,14,62,2,3,4,5,8,12,61] Z ?_;refine yU (st0:=⟨[(13,.ref 1002 0 ((zF 0).en.map jP).length),(14,.ref 1003 0 ((zF 0).ks.map iA).length),(62,iA 0),(2,.sl false ((ins.take 2).map jG)),(3,iA now),(4,.ptr 4 0 0),(5,.ptr 5 0 0),(8,.ptr 8 0 0),(12,.ref 28 0 2),(61,iA 2)],[(5,.box (QY (zF 0).d)),(28,.arr 1 [.ref 1006 0 ([]:List AV).length,.ref 1007 0 ([]:List AV).length] ⟨false,true⟩),(1002,.arr 3 ((zF 0).en.map jP) true),(1003,.arr 1 ((zF 0).ks.map iA) true),(1006,.arr 4 ([]:List AV) true),(1007,.arr 4 ([]:List AV) true),(4,.box [.sl false (c.js.map wJ),.sl false (c.ags.map wK),iA c.per,iA c.cap,iA c.hold,iA c.lock]),(8,.box zJz)]⟩) (by rw[hz0];rfl) ?_;obtain⟨r0,hr0⟩:∃r,r=(zf0 (eP ins 0).length).rs:=⟨_,rfl⟩;have hR0:(zF 1).R=(zF 0).R++[r0]:=by rw[hr0,hx0]
  have q0:(zF 1).d=(zf0 (eP ins 0).length).d/\(zF 1).en=(zf0 (eP ins 0).length).en/\(zF 1).ks=(zf0 (eP ins 0).length).ks:=by rw[hx0];exact⟨rfl,rfl,rfl⟩
  have ml1:=zA jP (zF 0).en;have ml2:=zA iA (zF 0).ks;by_cases ho:(ins.getD 0 default).opn=true
  case' pos=>
   have hse:eP ins 0=(ins.getD 0 default).its:=by unfold eP;rw[zZ8 ⟨zB,ho⟩]
   have hib:=(EN hin 0).1;rw[hse]at hib q0 hs0 hr0;clear hse;generalize ins.getD 0 default=x at *;obtain⟨op,its⟩:=x;dsimp only at *;subst ho;rw[show jG ⟨true,its⟩= .agg [bA true,zD wZ its]from Z]at hy0;have hil2:=zA wZ its;refine WW ?_;refine yL (its) [5,1002,1003,28,1006,4,8,1007] [4,8,1007] [2,3,4,5,8,12,16,61,62,75,76] [13,14,77,2,3,4,5,8,12,16,61,62,75,76] Z (λi pre T U=>⟨(13,.ref 1002 0 ((zf0 i).en.map jP).length)::(14,.ref 1003 0 ((zf0 i).ks.map iA).length)::(77,iA i)::T,(5,.box (QY (zf0 i).d))::(1002,.arr 3 ((zf0 i).en.map jP) true)::(1003,.arr 1 ((zf0 i).ks.map iA) true)::(28,.arr 1 [.ref 1006 0 ((zf0 i).rs.map yB).length,.ref 1007 0 ([]:List AV).length] ⟨false,true⟩)::(1006,.arr 4 ((zf0 i).rs.map yB) true)::U⟩) ?_;(conv=>whnf);refine⟨by(rw[hf0];rfl),?_,?_⟩
   ·intro k pre it post hx hk;have hy3:=xI wZ hx hk;have hlt3:=yN hx hk;have hgt:its.getD k default=it:=by rw[hx,<-hk];simp[List.getD]
    obtain⟨h,hB,hP,hnx⟩:=hs0 k hlt3;rw[hgt]at hB;obtain⟨hk1,hk2,hk3,hk4⟩:=hl0 k;have hm1:=zA jP (zf0 k).en;have hm2:=zA iA (zf0 k).ks;have hm3:=zA yB (zf0 k).rs;have kh:=hB.1;rw[hnx];dsimp only;rw[show((zf0 k).rs++[h.p]).map yB=(zf0 k).rs.map yB++[yB h.p] by simp,show∀e:En,((zf0 k).en++[e]).map jP=(zf0 k).en.map jP++[jP e]from λe=>by simp,hgt];rw[cfe]at kh;unfold CU zI wC wZ at kh;unfold wZ at hy3;have hen:(zF 0).en.length<=2000/\(zF 0).ks.length<=2000:=by omega
    clear hx hgt hnx hB hP hty kc km;generalize (zf0 k).rs.map yB=rs9 at *;generalize (zf0 k).en.map jP=en9 at *;generalize h.p=p9 at *;generalize h.e=e9 at *;generalize h.d=d9 at *;generalize hkk:h.k=k9 at *;generalize (zf0 k).d=dk9 at *;obtain⟨pk,pt,pa,pd⟩:=p9;unfold yB MG at kh;dsimp only at kh;unfold QY jP MG yB;by_cases h0:0<=k9
    ·rw[zZ8 h0,show((zf0 k).ks++[k9]).map iA=(zf0 k).ks.map iA++[iA k9] by simp];generalize (zf0 k).ks.map iA=ks9 at *;refine zV kh ?_;rfl
    ·rw[zZ7 h0];generalize (zf0 k).ks.map iA=ks9 at *;refine zV kh ?_;rfl
   obtain⟨w1,w2,w3⟩:=q0;refine WW ?_
  case' neg=>
   have hse:eP ins 0=[]:=by unfold eP;rw[zZ7 (λh=>ho h.2)]
   rw[hse,yBr,hf0]at q0 hr0;obtain⟨w1,w2,w3⟩:=q0;have hop:(ins.getD 0 default).opn=false:=by simpa using ho
   clear hse ho;generalize ins.getD 0 default=x at *;obtain⟨op,its⟩:=x;dsimp only at *;subst hop;rw[show jG ⟨false,its⟩= .agg [bA false,zD wZ its]from Z]at hy0;refine WW ?_
  all_goals clear hy0 ml1 ml2
  all_goals
   refine yU (st0:=⟨[(13,.ref 1002 0 ((zF 1).en.map jP).length),(14,.ref 1003 0 ((zF 1).ks.map iA).length),(62,iA 1),(2,.sl false ((ins.take 2).map jG)),(3,iA now),(4,.ptr 4 0 0),(5,.ptr 5 0 0),(8,.ptr 8 0 0),(12,.ref 28 0 2),(61,iA 2)],[(5,.box (QY (zF 1).d)),(28,.arr 1 [.ref 1006 0 (r0.map yB).length,.ref 1007 0 ([]:List AV).length] ⟨false,true⟩),(1002,.arr 3 ((zF 1).en.map jP) true),(1003,.arr 1 ((zF 1).ks.map iA) true),(1006,.arr 4 (r0.map yB) true),(1007,.arr 4 ([]:List AV) true),(4,.box [.sl false (c.js.map wJ),.sl false (c.ags.map wK),iA c.per,iA c.cap,iA c.hold,iA c.lock]),(8,.box zJz)]⟩) (by rw[w1,w2,w3,hr0];rfl) ?_;obtain⟨r1,hr1⟩:∃r,r=(zf1 (eP ins 1).length).rs:=⟨_,rfl⟩;have hR1:(zF 2).R=(zF 1).R++[r1]:=by rw[hr1,hx1]
   have q1:(zF 2).d=(zf1 (eP ins 1).length).d/\(zF 2).en=(zf1 (eP ins 1).length).en/\(zF 2).ks=(zf1 (eP ins 1).length).ks:=by rw[hx1];exact⟨rfl,rfl,rfl⟩
   have ml1:=zA jP (zF 1).en;have ml2:=zA iA (zF 1).ks;by_cases ho:(ins.getD 1 default).opn=true
   case' pos=>
    have hse:eP ins 1=(ins.getD 1 default).its:=by unfold eP;rw[zZ8 ⟨zB,ho⟩]
    have hib:=(EN hin 1).1;rw[hse]at hib q1 hs1 hr1;clear hse;generalize ins.getD 1 default=x at *;obtain⟨op,its⟩:=x;dsimp only at *;subst ho;rw[show jG ⟨true,its⟩= .agg [bA true,zD wZ its]from Z]at hy1;have hil2:=zA wZ its;refine WW ?_;refine yL (its) [5,1002,1003,28,1007,4,8,1006] [4,8,1006] [2,3,4,5,8,12,16,61,62,75,76] [13,14,77,2,3,4,5,8,12,16,61,62,75,76] Z (λi pre T U=>⟨(13,.ref 1002 0 ((zf1 i).en.map jP).length)::(14,.ref 1003 0 ((zf1 i).ks.map iA).length)::(77,iA i)::T,(5,.box (QY (zf1 i).d))::(1002,.arr 3 ((zf1 i).en.map jP) true)::(1003,.arr 1 ((zf1 i).ks.map iA) true)::(28,.arr 1 [.ref 1006 0 (r0.map yB).length,.ref 1007 0 ((zf1 i).rs.map yB).length] ⟨false,true⟩)::(1007,.arr 4 ((zf1 i).rs.map yB) true)::U⟩) ?_;(conv=>whnf);refine⟨by(rw[hf1];rfl),?_,?_⟩
    ·intro k pre it post hx hk;have hy3:=xI wZ hx hk;have hlt3:=yN hx hk;have hgt:its.getD k default=it:=by rw[hx,<-hk];simp[List.getD]
     obtain⟨h,hB,hP,hnx⟩:=hs1 k hlt3;rw[hgt]at hB;obtain⟨hk1,hk2,hk3,hk4⟩:=hl1 k;have hm1:=zA jP (zf1 k).en;have hm2:=zA iA (zf1 k).ks;have hm3:=zA yB (zf1 k).rs;have kh:=hB.1;rw[hnx];dsimp only;rw[show((zf1 k).rs++[h.p]).map yB=(zf1 k).rs.map yB++[yB h.p] by simp,show∀e:En,((zf1 k).en++[e]).map jP=(zf1 k).en.map jP++[jP e]from λe=>by simp,hgt];rw[cfe]at kh;unfold CU zI wC wZ at kh;unfold wZ at hy3;have hen:(zF 1).en.length<=2000/\(zF 1).ks.length<=2000:=by omega
     clear hx hgt hnx hB hP hty kc km;generalize (zf1 k).rs.map yB=rs9 at *;generalize (zf1 k).en.map jP=en9 at *;generalize h.p=p9 at *;generalize h.e=e9 at *;generalize h.d=d9 at *;generalize hkk:h.k=k9 at *;generalize (zf1 k).d=dk9 at *;obtain⟨pk,pt,pa,pd⟩:=p9;unfold yB MG at kh;dsimp only at kh;unfold QY jP MG yB;by_cases h0:0<=k9
     ·rw[zZ8 h0,show((zf1 k).ks++[k9]).map iA=(zf1 k).ks.map iA++[iA k9] by simp];generalize (zf1 k).ks.map iA=ks9 at *;refine zV kh ?_;rfl
     ·rw[zZ7 h0];generalize (zf1 k).ks.map iA=ks9 at *;refine zV kh ?_;rfl
    obtain⟨w1,w2,w3⟩:=q1;refine WW ?_
   case' neg=>
    have hse:eP ins 1=[]:=by unfold eP;rw[zZ7 (λh=>ho h.2)]
    rw[hse,yBr,hf1]at q1 hr1;obtain⟨w1,w2,w3⟩:=q1;have hop:(ins.getD 1 default).opn=false:=by simpa using ho
    clear hse ho;generalize ins.getD 1 default=x at *;obtain⟨op,its⟩:=x;dsimp only at *;subst hop;rw[show jG ⟨false,its⟩= .agg [bA false,zD wZ its]from Z]at hy1;refine WW ?_
   all_goals clear hy1 ml1 ml2
   all_goals
    refine yU (st0:=⟨[(13,.ref 1002 0 ((zF 2).en.map jP).length),(14,.ref 1003 0 ((zF 2).ks.map iA).length),(62,iA 2),(2,.sl false ((ins.take 2).map jG)),(3,iA now),(4,.ptr 4 0 0),(5,.ptr 5 0 0),(8,.ptr 8 0 0),(12,.ref 28 0 2),(61,iA 2)],[(5,.box (QY (zF 2).d)),(28,.arr 1 [.ref 1006 0 (r0.map yB).length,.ref 1007 0 (r1.map yB).length] ⟨false,true⟩),(1002,.arr 3 ((zF 2).en.map jP) true),(1003,.arr 1 ((zF 2).ks.map iA) true),(1006,.arr 4 (r0.map yB) true),(1007,.arr 4 (r1.map yB) true),(4,.box [.sl false (c.js.map wJ),.sl false (c.ags.map wK),iA c.per,iA c.cap,iA c.hold,iA c.lock]),(8,.box zJz)]⟩) (by rw[w1,w2,w3,hr1];rfl) ?_;refine zV km ?_;refine zK [] Z Z ?_ Z
    show AV.tup [zI (dkM (zF 2).d now),.sl false [.sl false (List.take _ (List.drop 0 (r0.map yB))),.sl false (List.take _ (List.drop 0 (r1.map yB)))],.sl false (List.take _ (List.drop 0 ((zF 2).en.map jP))),.sl false (List.take _ (List.drop 0 ((zF 2).ks.map iA)))]=_
    simp only[yA9,yAf];unfold tkT;rw[hR1,hR0,hz0];rfl
structure Vw where
 fl:Bool
 ov:Bool
 co:List Int
 cn:List Int
instance:Inhabited Vw:=⟨⟨false,false,[],[]⟩⟩
def vO (v:Vw):AV:= .agg [bA v.fl,bA v.ov,zD iA v.co,zD iA v.cn]
structure VwB (v:Vw):Prop where
 n:v.co.length<=8
 m:v.cn.length<=8
 c:∀c∈v.co,0<=c/\c<=2
def YL (n:Int):Int:=IntKind.u8.wrap n
def hdF (a b:Bool):Int:=(if a=true then 1 else 0)+(if b=true then 2 else 0)
def qS (l:List Int):Nat->Int
 |0=>0
 |i+1=>qS l i+l.getD i 0*p2 (2*(i:Int))
def vwF (v:Vw):List Int:=[hdF v.fl v.ov,uM (qS v.co v.co.length) 8,YL (qS v.co v.co.length)]++v.cn.map YL
def NC (l:List Vw):List Int:=(l.map vwF).flatten
def zJ0 (i:Nat):p2 (2*((i+1:Nat):Int))=p2 (2*(i:Int))*4:=by
 unfold p2;rw[show(2*((i+1:Nat):Int)).toNat=(2*(i:Int)).toNat+2 by omega,Int.pow_add];rfl
def YM (i:Nat) (h:i<=8):1<=p2 (2*(i:Int))/\p2 (2*(i:Int))<=65536:=by
 have:i=0∨i=1∨i=2∨i=3∨i=4∨i=5∨i=6∨i=7∨i=8:=by omega
 rcases this with rfl|rfl|rfl|rfl|rfl|rfl|rfl|rfl|rfl<;>decide
theorem JW {l:List Int} (h:∀c∈l,0<=c/\c<=2):∀i,i<=l.length->i<=8->0<=qS l i/\qS l i<p2 (2*(i:Int))
 |0,_,_=>by simp[qS,p2]
 | i+1,h1,h2=>by
  have ih:=JW h i zB zB
  have hm:l.getD i 0∈l:=by
   rw[yAg,yAn zB];exact yCv _
  have hc:=h _ hm;have hp:=YM i zB;rw[zJ0,qS];generalize l.getD i 0=c at *;generalize p2 (2*(i:Int))=w at *;have:c=0∨c=1∨c=2:=by omega
  rcases this with rfl|rfl|rfl<;>omega
def zYb {n:Int} (h0:0<=n) (h1:n<65536):0<=uM n 8/\uM n 8<=255:=by
 unfold uM;rw[show(2:Int) ^ (8:Int).toNat=256 from Z,yDn _ zB];omega
def zJ1 (pre:List Vw) (v:Vw):(NC (pre++[v])).map yA=(NC pre).map yA++[yA (hdF v.fl v.ov),yA (uM (qS v.co v.co.length) 8),yA (YL (qS v.co v.co.length))]++v.cn.map (λn=>yA (YL n)):=by
 unfold NC vwF;simp
def WB {l:List Vw} (h:∀v∈l,VwB v):(NC l).length<=11*l.length:=by
 unfold NC
 induction l with
 |nil=>simp
 |cons v l ih=>
  have h1:=ih λx hx=>h x MD
  have h2:=(h v zU).m;rw[yBb,yCp,yAd,yAl];unfold vwF;rw[yAd,zZ9];simp only[yAl,yBr];unfold vwF at h1;omega
theorem zJ2 (l:List Vw) (hn:l.length<=1000) (hb:∀v∈l,VwB v):zN 178 [zD vO l] [] (.ref 1001 0 ((NC l).map yA).length) [(1001,.arr 1 ((NC l).map yA) true)]:=by
 have hl:=zA vO l;have hfin:=WB hb;refine eM call178 λF hF=>?_
 refine WW ?_;refine yZ 3 1001 1 Z Z Z ?_;refine yL (l) [1001] [] [13,14] [3,15,13,14] Z (λi pre T U=>⟨(3,.ref 1001 0 ((NC pre).map yA).length)::(15,iA i)::T,(1001,.arr 1 ((NC pre).map yA) true)::U⟩) ?_;(conv=>whnf);refine⟨by rfl,?_,?_⟩
 ·intro i pre v post hx hi;have hy:=xI vO hx hi;have hlt:=yN hx hi;have hv:=hb v (wR hx);have hpl:=WB (l:=pre) (λw hw=>hb w (by rw[hx];simp[hw]));have hxl:((NC pre).map yA).length<=11000:=by rw[zZ9];omega
  rw[zJ1];clear hx hpl hfin;generalize (NC pre).map yA=xs at *;have hc1:=zA iA v.co;have hc2:=zA iA v.cn;have hbd:=λk hk=>JW hv.c k hk (yBm hk hv.n)
  have hn8:=hv.n;have hm8:=hv.m;obtain⟨fl,ov,co,cn⟩:=v;dsimp only at *;rw[show vO ⟨fl,ov,co,cn⟩= .agg [bA fl,bA ov,zD iA co,zD iA cn]from Z]at hy;have hlast:=hbd co.length (yAb _);have hpl8:=YM co.length hn8;have hs8:=zYb (n:=qS co co.length) hlast.1 zB
  cases fl<;>cases ov
  ·(refine WW ?_)
   refine yL (co) [5,1001] [5,1001] [3,5,6,13,14,15,28,29] [7,8,30,3,5,6,13,14,15,28,29] Z (λi pre T U=>⟨(7,iA (qS co i))::(8,iA (p2 (2*(i:Int))))::(30,iA i)::T,U⟩) ?_;(conv=>whnf);refine⟨by rfl,?_,?_⟩
   ·intro k pre2 c post2 hx2 hk;have hy2:=xI iA hx2 hk;have hlt2:=yN hx2 hk;have hcm:=hv.c c (wR hx2);have hg:co.getD k 0=c:=by rw[hx2,<-hk];simp[List.getD]
    have hb1:=hbd k zB;have hp1:=YM k zB;have e1:qS co (k+1)=qS co k+c*p2 (2*(k:Int)):=by rw[qS,hg]
    rw[e1,zJ0];clear hx2 hbd hlast hpl8 hs8 e1 hv;generalize qS co k=s at *;generalize p2 (2*(k:Int))=w at *;have:c=0∨c=1∨c=2:=by omega
    rcases this with rfl|rfl|rfl
    all_goals
     refine WW ?_;rfl
   ·clear hbd hv;generalize qS co co.length=s at *;refine WW ?_;refine yL (cn) [1001] [] [13,14,15,53,54] [3,55,13,14,15,53,54] Z (λi pre T U=>⟨(3,.ref 1001 0 (xs++[yA (hdF false false),yA (uM s 8),yA (YL s)]++pre.map (λn=>yA (YL n))).length)::(55,iA i)::T,(1001,.arr 1 (xs++[yA (hdF false false),yA (uM s 8),yA (YL s)]++pre.map (λn=>yA (YL n))) true)::U⟩) ?_;(conv=>whnf);refine⟨by(simp only[yCz,yBc];rfl),?_,?_⟩
    ·intro k pre2 c post2 hx2 hk;have hy2:=xI iA hx2 hk;have hlt2:=yN hx2 hk;have hpk:(pre2.map (λn=>yA (YL n))).length=k:=by rw[zZ9];exact hk
     rw[yAi,yBb,yCz,<-yA7];clear hx2;generalize pre2.map (λn=>yA (YL n))=zs2 at *;refine WW ?_;rfl
    ·(refine WW ?_)
     rfl
  ·(refine WW ?_)
   refine yL (co) [5,1001] [5,1001] [3,5,6,13,14,15,28,29] [7,8,30,3,5,6,13,14,15,28,29] Z (λi pre T U=>⟨(7,iA (qS co i))::(8,iA (p2 (2*(i:Int))))::(30,iA i)::T,U⟩) ?_;(conv=>whnf);refine⟨by rfl,?_,?_⟩
   ·intro k pre2 c post2 hx2 hk;have hy2:=xI iA hx2 hk;have hlt2:=yN hx2 hk;have hcm:=hv.c c (wR hx2);have hg:co.getD k 0=c:=by rw[hx2,<-hk];simp[List.getD]
    have hb1:=hbd k zB;have hp1:=YM k zB;have e1:qS co (k+1)=qS co k+c*p2 (2*(k:Int)):=by rw[qS,hg]
    rw[e1,zJ0];clear hx2 hbd hlast hpl8 hs8 e1 hv;generalize qS co k=s at *;generalize p2 (2*(k:Int))=w at *;have:c=0∨c=1∨c=2:=by omega
    rcases this with rfl|rfl|rfl
    all_goals
     refine WW ?_;rfl
   ·clear hbd hv;generalize qS co co.length=s at *;refine WW ?_;refine yL (cn) [1001] [] [13,14,15,53,54] [3,55,13,14,15,53,54] Z (λi pre T U=>⟨(3,.ref 1001 0 (xs++[yA (hdF false true),yA (uM s 8),yA (YL s)]++pre.map (λn=>yA (YL n))).length)::(55,iA i)::T,(1001,.arr 1 (xs++[yA (hdF false true),yA (uM s 8),yA (YL s)]++pre.map (λn=>yA (YL n))) true)::U⟩) ?_;(conv=>whnf);refine⟨by(simp only[yCz,yBc];rfl),?_,?_⟩
    ·intro k pre2 c post2 hx2 hk;have hy2:=xI iA hx2 hk;have hlt2:=yN hx2 hk;have hpk:(pre2.map (λn=>yA (YL n))).length=k:=by rw[zZ9];exact hk
     rw[yAi,yBb,yCz,<-yA7];clear hx2;generalize pre2.map (λn=>yA (YL n))=zs2 at *;refine WW ?_;rfl
    ·(refine WW ?_)
     rfl
  ·(refine WW ?_)
   refine yL (co) [5,1001] [5,1001] [3,5,6,13,14,15,28,29] [7,8,30,3,5,6,13,14,15,28,29] Z (λi pre T U=>⟨(7,iA (qS co i))::(8,iA (p2 (2*(i:Int))))::(30,iA i)::T,U⟩) ?_;(conv=>whnf);refine⟨by rfl,?_,?_⟩
   ·intro k pre2 c post2 hx2 hk;have hy2:=xI iA hx2 hk;have hlt2:=yN hx2 hk;have hcm:=hv.c c (wR hx2);have hg:co.getD k 0=c:=by rw[hx2,<-hk];simp[List.getD]
    have hb1:=hbd k zB;have hp1:=YM k zB;have e1:qS co (k+1)=qS co k+c*p2 (2*(k:Int)):=by rw[qS,hg]
    rw[e1,zJ0];clear hx2 hbd hlast hpl8 hs8 e1 hv;generalize qS co k=s at *;generalize p2 (2*(k:Int))=w at *;have:c=0∨c=1∨c=2:=by omega
    rcases this with rfl|rfl|rfl
    all_goals
     refine WW ?_;rfl
   ·clear hbd hv;generalize qS co co.length=s at *;refine WW ?_;refine yL (cn) [1001] [] [13,14,15,53,54] [3,55,13,14,15,53,54] Z (λi pre T U=>⟨(3,.ref 1001 0 (xs++[yA (hdF true false),yA (uM s 8),yA (YL s)]++pre.map (λn=>yA (YL n))).length)::(55,iA i)::T,(1001,.arr 1 (xs++[yA (hdF true false),yA (uM s 8),yA (YL s)]++pre.map (λn=>yA (YL n))) true)::U⟩) ?_;(conv=>whnf);refine⟨by(simp only[yCz,yBc];rfl),?_,?_⟩
    ·intro k pre2 c post2 hx2 hk;have hy2:=xI iA hx2 hk;have hlt2:=yN hx2 hk;have hpk:(pre2.map (λn=>yA (YL n))).length=k:=by rw[zZ9];exact hk
     rw[yAi,yBb,yCz,<-yA7];clear hx2;generalize pre2.map (λn=>yA (YL n))=zs2 at *;refine WW ?_;rfl
    ·(refine WW ?_)
     rfl
  ·(refine WW ?_)
   refine yL (co) [5,1001] [5,1001] [3,5,6,13,14,15,28,29] [7,8,30,3,5,6,13,14,15,28,29] Z (λi pre T U=>⟨(7,iA (qS co i))::(8,iA (p2 (2*(i:Int))))::(30,iA i)::T,U⟩) ?_;(conv=>whnf);refine⟨by rfl,?_,?_⟩
   ·intro k pre2 c post2 hx2 hk;have hy2:=xI iA hx2 hk;have hlt2:=yN hx2 hk;have hcm:=hv.c c (wR hx2);have hg:co.getD k 0=c:=by rw[hx2,<-hk];simp[List.getD]
    have hb1:=hbd k zB;have hp1:=YM k zB;have e1:qS co (k+1)=qS co k+c*p2 (2*(k:Int)):=by rw[qS,hg]
    rw[e1,zJ0];clear hx2 hbd hlast hpl8 hs8 e1 hv;generalize qS co k=s at *;generalize p2 (2*(k:Int))=w at *;have:c=0∨c=1∨c=2:=by omega
    rcases this with rfl|rfl|rfl
    all_goals
     refine WW ?_;rfl
   ·clear hbd hv;generalize qS co co.length=s at *;refine WW ?_;refine yL (cn) [1001] [] [13,14,15,53,54] [3,55,13,14,15,53,54] Z (λi pre T U=>⟨(3,.ref 1001 0 (xs++[yA (hdF true true),yA (uM s 8),yA (YL s)]++pre.map (λn=>yA (YL n))).length)::(55,iA i)::T,(1001,.arr 1 (xs++[yA (hdF true true),yA (uM s 8),yA (YL s)]++pre.map (λn=>yA (YL n))) true)::U⟩) ?_;(conv=>whnf);refine⟨by(simp only[yCz,yBc];rfl),?_,?_⟩
    ·intro k pre2 c post2 hx2 hk;have hy2:=xI iA hx2 hk;have hlt2:=yN hx2 hk;have hpk:(pre2.map (λn=>yA (YL n))).length=k:=by rw[zZ9];exact hk
     rw[yAi,yBb,yCz,<-yA7];clear hx2;generalize pre2.map (λn=>yA (YL n))=zs2 at *;refine WW ?_;rfl
    ·(refine WW ?_)
     rfl
 ·(refine WW ?_)
  exact zL [1001] Z Z Z Z
def cdW (g:Lg) (w:Vw):Int:=if 0<=g.ph/\g.ph<(w.co.length:Int)then(if w.ov=true/\w.fl=false/\w.co.getD g.ph.toNat default=1 then 3 else 2)else 1
def cdF (g:Lg) (v:List Vw) (now:Int):Int:=if DE g now=true/\0<=g.jn/\g.jn<(v.length:Int)then cdW g (v.getD g.jn.toNat default)else 1
def zJ3 (g:Lg) (v:List Vw) (now:Int):1<=cdF g v now/\cdF g v now<=3:=by
 unfold cdF cdW
 repeat' split
 all_goals omega
def zJ4 (g:Lg) (v:List Vw) (now:Int) {Q:Int->Prop} (q1:DE g now=false->Q 1) (q2:DE g now=true->g.jn<0->Q 1) (q3:DE g now=true->0<=g.jn->(v.length:Int)<=g.jn->Q 1)
  (q4:∀w,DE g now=true->0<=g.jn->g.jn<(v.length:Int)->(v.map vO)[g.jn.toNat]? =some (vO w)->g.ph<0->Q 1)
  (q5:∀w,DE g now=true->0<=g.jn->g.jn<(v.length:Int)->(v.map vO)[g.jn.toNat]? =some (vO w)->0<=g.ph->(w.co.length:Int)<=g.ph->Q 1)
  (q6:∀w c,DE g now=true->0<=g.jn->g.jn<(v.length:Int)->(v.map vO)[g.jn.toNat]? =some (vO w)->0<=g.ph->g.ph<(w.co.length:Int)->(w.co.map iA)[g.ph.toNat]? =some (iA c)->Q (if w.ov=true/\w.fl=false/\c=1 then 3 else 2)):Q (cdF g v now):=by
 unfold cdF
 cases hl:DE g now with
 |false=>rw[zZ7 (λh=>by cases h.1)];exact q1 hl
 |true=>
  by_cases j0:g.jn<0
  ·rw[zZ7 (λh=>by omega)];exact q2 hl j0
  by_cases j1:(v.length:Int)<=g.jn
  ·rw[zZ7 (λh=>by omega)];exact q3 hl zB j1
  have hy:=yI vO v g.jn zB zB;rw[zZ8 ⟨rfl,zB,zB⟩];generalize v.getD g.jn.toNat default=w at *;unfold cdW;by_cases p0:g.ph<0
  ·rw[zZ7 (λh=>by omega)];exact q4 w hl zB zB hy p0
  by_cases p1:(w.co.length:Int)<=g.ph
  ·rw[zZ7 (λh=>by omega)];exact q5 w hl zB zB hy zB p1
  have hy2:=yI iA w.co g.ph zB zB;rw[zZ8 ⟨zB,zB⟩];exact q6 w _ hl zB zB hy zB zB hy2
def zJ5 (g:Lg) (v:List Vw) (now:Int) (hn:v.length<=1000) (hb:∀w∈v,w.co.length<=1000):zN 88 [xP g,zD vO v,iA now] [] (iA (cdF g v now)) []:=by
 have cl:=zLa g now;have hvl:=zA vO v;have hb:∀w,(v.map vO)[g.jn.toNat]? =some (vO w)->(w.co.map iA).length=w.co.length:=λw _=>zA iA w.co
 unfold xP at *;refine zJ4 (Q:=λr=>zN 88 [.agg [iA g.jn,iA g.ph,iA g.fr,iA g.to,iA g.sc],zD vO v,iA now] [] (iA r) []) g v now (λh1=>?_) (λh1 h2=>?_) (λh1 h2 h3=>?_) (λw h1 h2 h3 hy h4=>?_) (λw h1 h2 h3 hy h4 h5=>?_) (λw c h1 h2 h3 hy h4 h5 hy2=>?_)
 ·rw[h1]at cl;refine eM call88 λF hF=>?_
  refine zV cl ?_;exact zJ
 ·rw[h1]at cl;refine eM call88 λF hF=>?_
  refine zV cl ?_;exact zJ
 ·rw[h1]at cl;refine eM call88 λF hF=>?_
  refine zV cl ?_;exact zJ
 ·rw[h1]at cl;unfold vO at hy;refine eM call88 λF hF=>?_
  refine zV cl ?_;exact zJ
 ·rw[h1]at cl;have hwl:=hb w hy;unfold vO zD at hy;refine eM call88 λF hF=>?_
  refine zV cl ?_;exact zJ
 ·rw[h1]at cl;have hwl:=hb w hy;clear hb;obtain⟨fl,ov,co,cn⟩:=w;rw[show vO ⟨fl,ov,co,cn⟩= .agg [bA fl,bA ov,zD iA co,zD iA cn]from Z]at hy;dsimp only at *;cases ov
  ·(refine eM call88 λF hF=>?_)
   refine zV cl ?_;exact zJ
  cases fl
  case true=>
   refine eM call88 λF hF=>?_
   refine zV cl ?_;exact zJ
  by_cases hc1:c=1
  ·rw[zZ8 ⟨rfl,rfl,hc1⟩];refine eM call88 λF hF=>?_
   refine zV cl ?_;exact zJ
  ·rw[zZ7 (λh=>hc1 h.2.2)];refine eM call88 λF hF=>?_
   refine zV cl ?_;exact zJ
end Av
end Go.Proofs.YteajjdidebfcjaaGreat
