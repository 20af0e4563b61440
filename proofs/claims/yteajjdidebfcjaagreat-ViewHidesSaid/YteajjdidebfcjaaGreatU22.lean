/- Part 22. -/
import Derived.Test.YteajjdidebfcjaaGreatU21
namespace Go.Proofs.YteajjdidebfcjaaGreat
namespace Av
open Tryz
set_option linter.all false
set_option maxRecDepth 4000
set_option maxHeartbeats 4000000
def RF {b:List Int} (hb:BY b) {p:It×Nat} (h:UG b=some p):(1<=p.2/\p.2<=b.length)/\(b.length<=100000->ItK p.1):=by
 unfold UG at h;split at h
 ·cases h
 rename_i h0;split at h
 ·cases h;exact⟨⟨yAg _,by dsimp only;omega⟩,λ_=>⟨qY,yAt _,by dsimp only;omega,by dsimp only;omega⟩⟩
 split at h
 ·cases h
 split at h
 ·cases h;exact⟨⟨yAg _,by dsimp only;omega⟩,λ_=>⟨qY,yAt _,by dsimp only;omega,by dsimp only;omega⟩⟩
 split at h
 ·cases h
 split at h
 ·cases h;exact⟨⟨yAg _,by dsimp only;omega⟩,λ_=>⟨qY,yAt _,by dsimp only;omega,by dsimp only;omega⟩⟩
 split at h
 ·cases h;exact⟨⟨by dsimp only;omega,by dsimp only;omega⟩,λ_=>⟨qY,yAt _,by dsimp only;omega,by dsimp only;omega⟩⟩
 split at h
 ·cases h;exact⟨⟨by dsimp only;omega,by dsimp only;omega⟩,λ_=>⟨qY,yAt _,by dsimp only;omega,by dsimp only;omega⟩⟩
 ·cases h;rename_i hk;refine⟨⟨by dsimp only;omega,by dsimp only;omega⟩,λhl=>⟨λx hx=>hb x (yBc (yBy hx)),by dsimp only;rw[yAw,yA7];omega,?_,by dsimp only;omega⟩⟩;dsimp only;omega
def gJ:Nat->List Int->List (It×Nat)
 |0,_=>[]
 |n+1,b=>match UG b with
  |none=>[]
  |some p=>p::gJ n (b.drop p.2)
def zN5 {n:Nat}:∀{b:List Int},BY b->b.length<=100000->∀p∈gJ n b,ItK p.1:=by
 induction n with
 |zero=>intro b _ _ p hp;cases hp
 | succ n ih=>
  intro b hb hl p hp;unfold gJ at hp;split at hp
  ·cases hp
  ·rename_i q hq;have h:=RF hb hq
   rcases yBt.1 hp with rfl|hp
   ·exact h.2 hl
   ·exact ih (λx hx=>hb x (yBc hx)) RT p hp
def zE1 (l:List (It×Nat)):Nat:=(l.map λp=>p.2).sum
def zCm {n:Nat}:∀{b:List Int},BY b->zE1 (gJ n b)<=b.length:=by
 induction n with
 |zero=>intro b _;exact yAt _
 |succ n ih=>
  intro b hb;unfold gJ;split
  ·exact yAt _
  ·rename_i q hq;have h:=RF hb hq;have h2:=ih (b:=b.drop q.2) (λx hx=>hb x (yBc hx));rw[yA7]at h2;simp only[zE1,yBs,List.sum_cons]at *; omega
def psH (b:List Int):List (Nat×xO):=[(1061,.box [zC yA b])]
def psL (b:List Int):List (List AV):=(gJ b.length b).map λp=>[wI p.1,iA (p.2:Int)]
def zHf (b:List Int):zN 196 [zC yA b] [] (.fn 217 [.ptr 1061 0 0]) (psH b):=by
 unfold psH;refine eM call196 λF hF=>?_
 repeat' (first|(refine zE ?_;first|refine uT (jC (v:=AV.sl _ _) 1061 Z Z) Z Z Z ?_|refine vF tok Z Z ?_|refine uQ ?_)|(first|refine xQ ?_|refine xE ?_|refine vG Z ?_|refine zX Z ?_|refine zU Z ?_|refine xK Z (λhc=>?_) λhc=>?_|refine xA ?_|refine yW ?_|refine xD ?_|refine yU ?_))
 exact zK [1061] Z Z Z Z
def zHg {n:Nat} {b:List Int} (hb:BY b) (hn:b.length<=n):gJ n b=match UG b with
  |none=>[]
  |some p=>p::gJ (n-1) (b.drop p.2):=by
 cases n with
 |zero=>
  have h0:b=[]:=yBb zB;subst h0;rfl
 |succ n=>rfl
def zE2 (b:List Int) (hb:BY b) (hl:b.length<=1000000):aJ prog 217 [.ptr 1061 0 0] (psH b) (psL b):=by
 refine dL func217 Z (λargs w=>call217 args w) Z Z Z (λF y hro hit hY=>?_);unfold psH;refine WW ?_;refine jZ (b.length+1) [1061] [1061] [0] [3,1000000,0] Z (λzn T U zs=>∃(r:List Int) (pre:List (It×Nat)) (n:Nat),(gJ b.length b=pre++gJ n r/\BY r/\r.length<=n/\n<=1000000/\zn=n+1)/\zs=⟨(3,zC yA r)::(1000000,.gh pre.length)::T,U⟩) ?_;(conv=>whnf);refine⟨?_,?_⟩
 ·exact⟨b,[],b.length,⟨rfl,hb,yAg _,hl,rfl⟩,rfl⟩
 rintro zn st ⟨r,pre,n,⟨hp,hr,hrn,hn1,rfl⟩,rfl⟩;have kp:=zCv r hr zB;rw[zHg hr hrn]at hp;have hrl:=zA yA r;unfold psL at hY⊢
 cases h:UG r with
 |none=>
  rw[h]at kp hp;rw[show zHr none= .tup [.agg [iA 0,iA 0,.sl false []],iA 0,bA false]from Z]at kp;dsimp only at hp;rw[yA8]at hp;refine zV kp ?_;exact hG Z (.inl zDq)
 | some p=>
  rw[h]at kp hp;obtain⟨hp1,hp2⟩:=(RF hr h).1;obtain⟨it,k⟩:=p;dsimp only at hp hp1 hp2;rw[show zHr (some (it,k))= .tup [wI it,iA (k:Int),bA true]from Z]at kp
  have hys:((gJ b.length b).map λp=>[wI p.1,iA (p.2:Int)])[pre.length]? =some [wI it,iA (k:Int)]:=by
   rw[hp,yAi,yA4 (yAg _),yCm];rfl
  have hlen:pre.length<((gJ b.length b).map λp=>[wI p.1,iA (p.2:Int)]).length:=by rw[yAe,hp];simp
  have hn0:1<=n:=by omega
  generalize ((gJ b.length b).map λp=>[wI p.1,iA (p.2:Int)])=xs at *;unfold wI at*
  (repeat' (first|refine uP ?_|apply xM|apply xZ|intro hc|(refine zE ?_;refine xT ?_;first|(first|(refine vR 102 ?_;first|refine yJ (zI (kp) Z Z Z Z Z) Z ?_|refine uT (zI (kp) Z Z Z Z Z) Z Z Z ?_|refine XF (zI (kp) Z Z Z Z Z) Z Z Z ?_))|(refine KP ?_;refine US hit hY Z Z hys Z Z Z ?_ ?_))|(refine zE ?_;first|refine SM ?_)|fail))
  ·refine⟨n-1+1,zB,r.drop k,pre++[(it,k)],n-1,⟨by rw[hp,yA6];rfl,λx hx=>hr x (yBc hx),by rw[yA7];omega,zB,rfl⟩,?_⟩;rw[yAf,yCl];rfl
  ·exact hG Z (.inr zB)
structure Pc where
 fr:Nat
 k:Nat
 it:It
def pcA (p:Pc):AV:= .agg [iA (p.fr:Int),iA ((p.fr:Int)+(p.k:Int)),iA p.it.code,iA p.it.kind,zC yA p.it.pay]
def gK:Nat->List Int->Nat->List Pc
 |0,_,_=>[]
 |n+1,r,a=>match UG r with
  |none=>[]
  |some p=>if p.1.code=0 then⟨a,p.2,p.1⟩::gK n (r.drop p.2) (a+p.2)else []
def vfL (b:List Int):List (List AV):=(gK b.length b 0).map λp=>[pcA p]
def RG (b:List Int):zN 68 [zC yA b] [] (.fn 101 [.ptr 1061 0 0]) (psH b):=by
 unfold psH;refine eM call68 λF hF=>?_
 repeat' (first|(refine zE ?_;first|refine uT (jC (v:=AV.sl _ _) 1061 Z Z) Z Z Z ?_|refine vF tok Z Z ?_|refine uQ ?_)|(first|refine xQ ?_|refine xE ?_|refine vG Z ?_|refine zX Z ?_|refine zU Z ?_|refine xK Z (λhc=>?_) λhc=>?_|refine xA ?_|refine yW ?_|refine xD ?_|refine yU ?_))
 exact zK [1061] Z Z Z Z
def OM {n:Nat} {b:List Int} (hn:b.length<=n) (a:Nat):gK n b a=match UG b with
  |none=>[]
  |some p=>if p.1.code=0 then⟨a,p.2,p.1⟩::gK (n-1) (b.drop p.2) (a+p.2)else []:=by
 cases n with
 |zero=>
  have h0:b=[]:=yBb zB;subst h0;rfl
 |succ n=>rfl
def PH {b:List Int} {p:It×Nat} (h:UG b=some p):1<=p.2:=by
 unfold UG at h
 repeat' split at h
 all_goals (cases h)
 all_goals (dsimp only;omega)
theorem FX:∀{n m:Nat} {r:List Int} {a:Nat},r.length<=n->r.length<=m->gK n r a=gK m r a
 |0,m,r,a,h,_=>by
  have h0:r=[]:=yBb zB;subst h0
  cases m<;>rfl
 |n+1,0,r,a,_,h=>by
  have h0:r=[]:=yBb zB;subst h0;rfl
 | n+1,m+1,r,a,h1,h2=>by
  unfold gK
  cases hp:UG r with
  |none=>rfl
  | some p=>
   dsimp only;have hk:1<=p.2:=PH hp
   have h0:r.length≠0:=λh0=>by
    have h0:r=[]:=yBb h0;subst h0;cases hp
   rw[FX (n:=n) (m:=m) RT RT]
def WK (b:List Int) (hb:BY b) (hl:b.length<=1000000):aJ prog 101 [.ptr 1061 0 0] (psH b) (vfL b):=by
 refine dL func101 Z (λargs w=>call101 args w) Z Z Z (λF y hro hit hY=>?_);unfold psH;refine WW ?_;refine jZ (b.length+1) [1061] [1061] [0,1] [3,1000000,0,1] Z (λzn T U zs=>∃(a:Nat) (pre:List Pc) (n:Nat),(gK b.length b 0=pre++gK n (b.drop a) a/\a+n=b.length/\zn=n+1)/\zs=⟨(3,iA (a:Int))::(1000000,.gh pre.length)::T,U⟩) ?_;(conv=>whnf);refine⟨?_,?_⟩
 ·exact⟨0,[],b.length,⟨rfl,zB,rfl⟩,rfl⟩
 rintro zn st ⟨a,pre,n,⟨hp,han,rfl⟩,rfl⟩;have hbl:=zA yA b;by_cases hn:n=0
 ·subst hn;have hp:gK b.length b 0=pre:=by rw[hp];exact yA8 _
  unfold vfL at hY⊢;refine WW ?_;exact cK Z (.inl zDq)
 have hr:BY (b.drop (a:Int).toNat):=λx hx=>hb x (yBc hx)
 have hdl:(b.drop (a:Int).toNat).length=n:=by rw[yA7];omega
 have kp:=zCv (b.drop (a:Int).toNat) hr zB;rw[show b.drop a=b.drop (a:Int).toNat from Z,OM (n:=n) (b:=b.drop (a:Int).toNat) zB]at hp;unfold vfL at hY⊢
 cases h:UG (b.drop (a:Int).toNat)with
 |none=>
  rw[h]at kp hp;rw[show zHr none= .tup [.agg [iA 0,iA 0,.sl false []],iA 0,bA false]from Z]at kp;dsimp only at hp;rw[yA8]at hp;refine zV kp ?_;exact hG Z (.inl zDq)
 | some p=>
  rw[h]at kp hp;obtain⟨hp1,hp2⟩:=(RF hr h).1;obtain⟨it,k⟩:=p;dsimp only at hp hp1 hp2;rw[show zHr (some (it,k))= .tup [wI it,iA (k:Int),bA true]from Z]at kp;by_cases hc:it.code=0
  ·rw[yAd hc]at hp
   have hys:((gK b.length b 0).map λp=>[pcA p])[pre.length]? =some [pcA ⟨a,k,it⟩]:=by
    rw[hp,yAi,yA4 (yAg _),yCm];rfl
   have hlen:pre.length<((gK b.length b 0).map λp=>[pcA p]).length:=by rw[yAe,hp];simp
   have hnx:gK b.length b 0=(pre++[⟨a,k,it⟩])++gK (n-k) (b.drop (a+k)) (a+k):=by
    rw[hp,yA6,show(b.drop (a:Int).toNat).drop k=b.drop (a+k)from List.drop_drop]
    show _++(_::gK (n-1) _ _)=_++(_::gK (n-k) _ _)
    rw[FX (n:=n-1) (m:=n-k) RT RT]
   generalize ((gK b.length b 0).map λp=>[pcA p])=xs at *;unfold pcA at hys;dsimp only at hys;unfold wI at*
   (repeat' (first|refine uP ?_|apply xM|apply xZ|intro hc|(refine zE ?_;refine xT ?_;first|(first|(refine vR 102 ?_;first|refine yJ (zI (kp) Z Z Z Z Z) Z ?_|refine uT (zI (kp) Z Z Z Z Z) Z Z Z ?_|refine XF (zI (kp) Z Z Z Z Z) Z Z Z ?_))|(refine KP ?_;refine US hit hY Z Z hys Z Z Z ?_ ?_))|(refine zE ?_;first|refine SM ?_)|fail))
   ·refine⟨n-k+1,zB,a+k,pre++[⟨a,k,it⟩],n-k,⟨hnx,zB,rfl⟩,?_⟩;rw[yAf,yCl,yFq];rfl
   ·exact hG Z (.inr zB)
  ·rw[yAc hc,yA8]at hp;unfold wI at *;refine zV kp ?_;exact hG Z (.inl zDq)
def whE (l:List Pc):Nat:=l.foldl (λ_ p=>p.fr+p.k) 0
def whF (b:List Int):Bool:=decide (whE (gK b.length b 0)=b.length)
def zHh {l:List Pc} {i:Nat} {p:Pc} (h:l[i]? =some p):whE (l.take (i+1))=p.fr+p.k:=by
 unfold whE;rw[yCt,h,yFi];rfl
def zHi {n:Nat}:∀{r:List Int} {a:Nat},BY r->∀p∈gK n r a,a<=p.fr/\1<=p.k/\p.fr+p.k<=a+r.length/\p.it.code=0:=by
 induction n with
 |zero=>intro r a _ p hp;cases hp
 | succ n ih=>
  intro r a hr p hp;unfold gK at hp;split at hp
  ·cases hp
  ·rename_i q hq;have h:=(RF hr hq).1;split at hp
   ·rename_i hc
    rcases yBt.1 hp with rfl|hp
    ·exact⟨yAg _,h.1,by dsimp only;omega,hc⟩
    ·obtain⟨h1,h2,h3,h4⟩:=ih (λx hx=>hr x (yBc hx)) p hp;rw[yA7]at h3;exact⟨zB,h2,zB,h4⟩
   ·cases hp
def zCn (b:List Int) (hb:BY b) (hl:b.length<=1000000):zN 67 [zC yA b] [] (bA (whF b)) []:=by
 have kp:=RG b;have ht:=WK b hb hl;have hL:vfL b=(gK b.length b 0).map λp=>[pcA p]:=rfl
 have hbd:=zHi (n:=b.length) (a:=0) hb;have hbl:=zA yA b
 have hw:whF b=decide (whE ((gK b.length b 0).take (vfL b).length)=b.length):=by
  rw[hL,yAe,yAh];rfl
 rw[hw];unfold psH at kp ht;refine eM call67 λF hF=>?_
 refine zV kp ?_
 refine wW hF ht Z [3] [0,3] Z Z Z Z Z Z Z Z Z (λk ys h=>?_) (λi=>[(3,.box [iA (whE ((gK b.length b 0).take i):Int)])]) (λi=>whE ((gK b.length b 0).take i)<=b.length)
  (T:=[(0,zC yA b),(3,.ptr 3 0 0)]) Z (yAt _) (λi ys q hys hI F1 h1 h2=>?_) (λhI=>?_)
 ·rw[hL,yAi,yAq]at h;obtain⟨x,_,rfl⟩:=h;rfl
 ·rw[hL,yAi,yAq]at hys;obtain⟨p,hp,rfl⟩:=hys;rw[zHh hp];obtain⟨b1,b2,b3,_⟩:=hbd p (yBp hp);clear hL hbd hp hw ht kp;unfold pcA;refine WW ?_;refine⟨rfl,λF2 g1 g2=>?_⟩;dsimp only;refine WW ?_;rw[yFq];exact⟨rfl,zB⟩
 ·generalize whE ((gK b.length b 0).take (vfL b).length)=e at *;by_cases h:e=b.length
  ·rw[yAj h];refine WW ?_;exact zJ
  ·rw[yAl h];refine WW ?_;exact zJ
def owR:List Ag->Int->Nat->Int×Int
 | [],_,_=>(-1,-1)
 |a::l,s,i=>if s<a.ses then((i:Int),s)else owR l (s-a.ses) (i+1)
def owF (c:Cf) (s:Int):Int×Int:=if s<0 then(-1,-1)else owR c.ags s 0
def zCo (c:Cf) (hw:QP c.ags) (s:Int) (hs:s<=1000000):zN 61 [wD c,iA s] [] (.tup [iA (owF c s).1,iA (owF c s).2]) []:=by
 have hal:=zA wK c.ags;have h4:=hw.1;unfold wD zC;by_cases h0:s<0
 ·rw[show owF c s=(-1,-1)from yAd h0];refine eM call61 λF hF=>?_
  refine WW ?_;exact zJ
 rw[show owF c s=owR c.ags s 0 from yAc h0];refine eM call61 λF hF=>?_
 refine WW ?_;refine kO (c.ags) [] [] [11,12] [1,13,11,12] Z (λi pre T U zs=>∃(z:Int),(owR c.ags s 0=owR (c.ags.drop pre.length) z pre.length/\0<=z/\z<=s)/\zs=⟨(1,iA z)::(13,iA i)::T,U⟩) ?_;(conv=>whnf);refine⟨?_,?_,?_⟩
 ·exact⟨s,⟨rfl,zB,yCj _⟩,rfl⟩
 ·rintro i pre x post st hx hi ⟨z,⟨q1,q2,q3⟩,rfl⟩;have hy:=xG wK hx hi;have hlt:=yP hx hi;have hxs:=hw.2 x (wT hx);rw[show c.ags.drop pre.length=x::post by rw[hx,yEj],hi]at q1;have hd:c.ags.drop (pre++[x]).length=post:=by rw[hx,show pre++x::post=(pre++[x])++post by simp,yEj]
  have hl1:(pre++[x]).length=i+1:=by simp[hi]
  rw[show owR (x::post) z i=if z<x.ses then((i:Int),z)else owR post (z-x.ses) (i+1)from Z]at q1;clear hx;unfold wK at hy;by_cases h:z<x.ses
  ·rw[yAd h]at q1;rw[q1];dsimp only;refine WW ?_;exact zJ
  ·rw[yAc h]at q1;refine WW ?_;exact⟨z-x.ses,⟨by rw[hd,hl1];exact q1,zB,zB⟩,rfl⟩
 ·rintro st ⟨z,⟨q1,q2,q3⟩,rfl⟩;rw[yDp]at q1;rw[q1];refine WW ?_;exact zJ
def ON (c:Cf) (a:Int) (e:Ev):Bool:=decide (1<=e.k/\e.k<=3)&&decide ((owF c e.s).1≠ -1/\(owF c e.s).1=a)
def zAf (c:Cf) (hw:QP c.ags) (a:Int) (e:Ev) (he:bX e):zN 60 [wD c,iA a,vC e] [] (bA (ON c a e)) []:=by
 have k:=zCo c hw e.s (by have:=he.s;omega);unfold ON;have hk:=he.k;generalize owF c e.s=o at *;obtain⟨o1,o2⟩:=o;obtain⟨ek,es,ea,eb,ey⟩:=e;dsimp only at *;unfold vC;dsimp only;unfold wD at *;by_cases h:1<=ek/\ek<=3
 ·rw [yAj h,yA3];have h3:ek=1∨ek=2∨ek=3:=by omega
  by_cases h1:o1= -1
  ·subst h1;rw[yAl zS]
   rcases h3 with rfl|rfl|rfl
   all_goals
    refine eM call60 λF hF=>?_
    refine zV k ?_;exact zJ
  ·by_cases h2:o1=a
   ·rw[yAj ⟨h1,h2⟩]
    rcases h3 with rfl|rfl|rfl
    all_goals
     refine eM call60 λF hF=>?_
     refine zV k ?_;exact zJ
   ·rw[yAl (λh=>h2 h.2)]
    rcases h3 with rfl|rfl|rfl
    all_goals
     refine eM call60 λF hF=>?_
     refine zV k ?_;exact zJ
 ·rw[yAl h,yB4];have h3:3<ek:=by omega
  refine eM call60 λF hF=>?_
  refine WW ?_;exact zJ
def mnB (c:Cf) (a:Int) (e:Ev):Bool:=decide (e.k=6)||((decide (e.k=4)&&decide (e.a=a))||ON c a e)
def mnF (c:Cf) (a:Int) (l:List Ev):List Ev:=l.filter (mnB c a)
def zN6 (c:Cf) (hw:QP c.ags) (a:Int) (l:List Ev) (hl:l.length<=400) (he:∀e∈l,bX e):zN 25 [wD c,zC vC l,iA a] [] (zC vC (mnF c a l)) []:=by
 have hll:=zA vC l;have hko:=λe (h:bX e)=>zAf c hw a e h
 unfold wD zC at *;refine eM call25 λF hF=>?_
 refine WW ?_;have tk4:l.take (min ((l.map vC).length:Int) 400).toNat=l:=yAo QL;rw[tk4];refine xC 7 1001 5 Z Z Z ?_;refine yM (l) [1001,3] [3] [2,3,14,15] [7,16,2,3,14,15] Z (λi pre T U=>⟨(7,.ref 1001 0 ((mnF c a pre).map vC).length)::(16,iA i)::T,(1001,.arr 5 ((mnF c a pre).map vC) true)::U⟩) ?_;(conv=>whnf);refine⟨by rfl,?_,?_⟩
 ·intro i pre x post hx hi;have hy:=xG vC hx hi;have hlt:=yP hx hi;have hxe:=he x (wT hx);have kx:=hko x hxe;have kc:=zKz x (by have:=hxe.n;omega);have hfl:(mnF c a pre).length<=pre.length:=yCo _ _;have hfm:=zA vC (mnF c a pre)
  have e1:mnF c a (pre++[x])=mnF c a pre++(if mnB c a x=true then [x]else []):=by
   unfold mnF;rw[yDx]
   congr 1
   by_cases h:mnB c a x=true
   ·rw[yAd h,yEo h];rfl
   ·rw[yAc h,yEn h];rfl
  rw[e1,yAn];have hb:mnB c a x=(decide (x.k=6)||((decide (x.k=4)&&decide (x.a=a))||ON c a x)):=rfl;have hk:=hxe.k;clear hx e1;generalize (mnF c a pre).map vC=X at *;generalize ON c a x=ob at *;generalize mnB c a x=mb at *;by_cases h6:x.k=6
  ·rw[yAj h6,yDi]at hb;subst hb;rw[yAd Z];unfold vC at *;refine IZ (wV kx kc) ?_;rfl
  ·rw[yAl h6,yC9]at hb;by_cases h4:x.k=4
   ·by_cases ha:x.a=a
    ·rw[yAj h4,yAj ha,yA3,yDi]at hb;subst hb;rw[yAd Z];unfold vC at *;refine IZ (wV kx kc) ?_;rfl
    ·rw[yAl ha,yD5,yC9]at hb;subst hb;unfold vC at *;cases mb
     ·rw[yAc yAx,yCq,yA8];refine IZ (wV kx kc) ?_;rfl
     ·rw[yAd Z];refine IZ (wV kx kc) ?_;rfl
   ·rw[yAl h4,yB4,yC9]at hb;subst hb;unfold vC at *;cases mb
    ·rw[yAc yAx,yCq,yA8];refine IZ (wV kx kc) ?_;rfl
    ·rw[yAd Z];refine IZ (wV kx kc) ?_;rfl
 ·(refine WW ?_)
  exact zH [] Z Z (yBa (AV.sl false) yAh) Z
def wkK (k:Int):Bool:=!(decide (k=6)||(decide (k=7)||decide (k=8)))
def wkQ (p:Pc):Bool:=wkK p.it.kind
def pcB (b:List Int) (p:Pc):List Int:=(b.drop p.fr).take p.k
def wpL (b:List Int) (l:List Pc):List Int:=((l.filter wkQ).map (pcB b)).flatten
def wkF (b:List Int):List Int:=wpL b (gK b.length b 0)
def woB (c:Cf) (a:Int) (e:Ev):Bool:=decide (e.k=3)&&(ON c a e&&whF e.y)
def KG (c:Cf) (a:Int) (e:Ev):Ev:=if woB c a e=true then⟨e.k,e.s,e.a,e.b,wkF e.y⟩else e
def UF (c:Cf) (a:Int) (l:List Ev):List Ev:=l.map (KG c a)
def zHj (b:List Int) {l:List Pc} {i:Nat} {p:Pc} (h:l[i]? =some p):wpL b (l.take (i+1))=wpL b (l.take i)++(if wkQ p=true then pcB b p else []):=by
 unfold wpL;rw[yCt,h,yDx,yAn,yCv]
 congr 1
 show(List.map (pcB b) (List.filter _ [p])).flatten=_
 by_cases hk:wkQ p=true
 ·rw[yAd hk,yEo hk];simp
 ·rw[yAc hk,yEn hk];rfl
theorem zCp (b:List Int):∀(l:List Pc),(∀p∈l,p.k<=100000)->(wpL b l).length<=100000*l.length
 | [],_=>yAg _
 | p::l,h=>by
  have ih:=zCp b l λq hq=>h q (by simp[hq])
  have hp:=h p zS;unfold wpL at ih⊢;by_cases hk:wkQ p=true
  ·rw[yEo hk,yBs,yC0,yAf,yAp];have:(pcB b p).length<=p.k:=by unfold pcB;rw[yAw];omega
   omega
  ·rw[yEn hk,yAp];omega
theorem zCq:∀(n:Nat) (r:List Int) (a:Nat),(gK n r a).length<=n
 |0,_,_=>yAg _
 | n+1,r,a=>by
  unfold gK;split
  ·exact yAt _
  ·rename_i q _;split
   ·rw[yAp];have:=zCq n (r.drop q.2) (a+q.2);omega
   ·exact yAt _
theorem zE3 (c:Cf) (hw:QP c.ags) (a:Int) (l:List Ev) (hl:l.length<=400) (he:∀e∈l,bX e):zN 33 [wD c,zC vC l,iA a] [] (zC vC (UF c a l)) []:=by
 have hll:=zA vC l;have hko:=λe (h:bX e)=>zAf c hw a e h
 unfold wD zC at *;refine eM call33 λF hF=>?_
 refine WW ?_;refine vY 14 Z ?_;refine yM (l) [14,3] [3] [2,3,15,16,40] [7,17,2,3,15,16,40] Z (λi pre T U=>⟨(7,.ref 14 0 ((UF c a pre).map vC).length)::(17,iA i)::T,(14,.arr 5 ((UF c a pre).map vC) true)::U⟩) ?_;(conv=>whnf);refine⟨by rfl,?_,?_⟩
 ·intro i pre x post hx hi;have hy:=xG vC hx hi;have hlt:=yP hx hi;have hxe:=he x (wT hx);have kx:=hko x hxe;have hxn:=hxe.n;have kc:=zKz x zB;have kw:=zCn x.y hxe.y zB;have kp:=RG x.y;have ht:=WK x.y hxe.y zB;have hbd:=zHi (n:=x.y.length) (a:=0) hxe.y;have hfl:(UF c a pre).length=pre.length:=yAe ..;have hfm:=zA vC (UF c a pre);have e1:UF c a (pre++[x])=UF c a pre++[KG c a x]:=by unfold UF;rw[yAn];rfl
  rw[e1,yAn]
  have hwo:KG c a x=if woB c a x=true then⟨x.k,x.s,x.a,x.b,wkF x.y⟩else x:=rfl
  have hb:woB c a x=(decide (x.k=3)&&(ON c a x&&whF x.y)):=rfl;have hL:vfL x.y=(gK x.y.length x.y 0).map λp=>[pcA p]:=rfl
  clear hx e1 he hko hxe;generalize (UF c a pre).map vC=X at *;generalize ON c a x=ob at *;generalize whF x.y=wb at *;generalize woB c a x=mb at *;by_cases h3:x.k=3
  ·rw [yAj h3,yA3]at hb;cases ob
   ·rw[yB4]at hb;subst hb;rw[yAc yAx]at hwo;rw[hwo];unfold vC at *;refine IZ (wV kx kc) ?_;rfl
   ·rw [yA3]at hb;subst hb;cases mb
    ·rw[yAc yAx]at hwo;rw[hwo];unfold vC zC at *;refine IZ (gG kx kc kw) ?_;rfl
    ·rw[yAd Z]at hwo;rw[hwo];unfold psH at kp ht;unfold vC zC at *;refine yQ (ZB kx kc kw kp) ?_;refine vW 10 0 1051 1 Z Z Z Z Z ?_
     refine wW hF ht Z [3,9,10,14,1051] [2,3,7,9,10,15,16,17] Z Z Z Z Z Z Z Z Z (λk ys h=>?_) (λj=>[(3,.box [.sl false (c.js.map wC),.sl false (c.ags.map wK),iA c.per,iA c.cap,iA c.hold,iA c.lock]),(9,.box [iA x.k,iA x.s,iA x.a,iA x.b,.sl false (x.y.map yA)]),(10,.box [.ref 1051 0 ((wpL x.y ((gK x.y.length x.y 0).take j)).map yA).length]),(14,.arr 5 X true),(1051,.arr 1 ((wpL x.y ((gK x.y.length x.y 0).take j)).map yA) true)]) (λ_=>True)
      (T:=[(2,iA a),(3,.ptr 3 0 0),(7,.ref 14 0 X.length),(9,.ptr 9 0 0),(10,.ptr 10 0 0),(15,.sl false (l.map λe=> .agg [iA e.k,iA e.s,iA e.a,iA e.b,.sl false (e.y.map yA)])),(16,iA ((l.map λe=>AV.agg [iA e.k,iA e.s,iA e.a,iA e.b,.sl false (e.y.map yA)]).length:Int)),(17,iA i)]) Z trivial (λj ys q hys hI F1 h1 h2=>?_) (λhI=>?_)
     ·rw[hL,yAi,yAq]at h;obtain⟨x,_,rfl⟩:=h;rfl
     ·rw[hL,yAi,yAq]at hys;obtain⟨p,hp,rfl⟩:=hys;have hjl:j<(gK x.y.length x.y 0).length:=(yA5.1 hp).1;rw[zHj x.y hp];obtain⟨b1,b2,b3,_⟩:=hbd p (yBp hp);have hyl:=zA yA x.y
      have hWl:=zCp x.y ((gK x.y.length x.y 0).take j) λq hq=>by
       have:=hbd q (yBy hq);omega
      have hvl:=zCq x.y.length x.y 0;rw[yAw]at hWl;have hWm:=zA yA (wpL x.y ((gK x.y.length x.y 0).take j));clear hL hbd hp ht kp kw kx;generalize wpL x.y ((gK x.y.length x.y 0).take j)=W at *;unfold pcA;refine WW ?_;refine⟨rfl,λF2 g1 g2=>?_⟩;dsimp only;have hq:wkQ p= !(decide (p.it.kind=6)||(decide (p.it.kind=7)||decide (p.it.kind=8))):=rfl;by_cases k6:p.it.kind=6
      ·rw[yAj k6,yDi]at hq;rw[yAc zJz,yA8];refine WW ?_;exact⟨rfl,trivial⟩
      rw[yAl k6,yC9]at hq;by_cases k7:p.it.kind=7
      ·rw[yAj k7,yDi]at hq;rw[yAc zJz,yA8];refine WW ?_;exact⟨rfl,trivial⟩
      rw[yAl k7,yC9]at hq;by_cases k8:p.it.kind=8
      ·rw[yAj k8]at hq;rw[yAc zJz,yA8];refine WW ?_;exact⟨rfl,trivial⟩
      rw[yAl k8]at hq;rw[yAd (by rw[hq];rfl),yAn];refine WW ?_
      have eS:List.take (((p.fr:Int)+(p.k:Int)).toNat-(p.fr:Int).toNat) (List.drop (p.fr:Int).toNat (x.y.map yA))=(pcB x.y p).map yA:=by
       unfold pcB;rw[yDh,yDg,show((p.fr:Int)+(p.k:Int)).toNat-(p.fr:Int).toNat=p.k by omega];rfl
      rw[eS];have hPl:=zA yA (pcB x.y p);have hPb:(pcB x.y p).length<=p.k:=by unfold pcB;rw[yAw];omega
      generalize pcB x.y p=Z' at *;refine WW ?_;exact⟨rfl,trivial⟩
     ·have eW:wpL x.y ((gK x.y.length x.y 0).take (vfL x.y).length)=wkF x.y:=by
       rw[hL,yAe,yAh];rfl
      rw[eW];have hWm:=zA yA (wkF x.y);clear hL hbd ht kp kw kx eW;generalize wkF x.y=W at*
      show vZ _ _ _ _ ⟨_,_⟩ _
      refine uM [3,9,10,14] [2,3,7,9,10,15,16,17] Z ?_
      (conv=>whnf)
      simp only[yBf,yAh];refine WL ?_;rfl
  ·rw[yAl h3,yB4]at hb;subst hb;rw[yAc yAx]at hwo;rw[hwo];unfold vC at *;refine WLo kc ?_;rfl
 ·(refine WW ?_)
  exact zH [] Z Z (yBa (AV.sl false) yAh) Z
def tkd {l z:List Int} {n i k:Nat} (h:i+k<=n) (hn:n<=l.length):((l.take n++z).drop i).take k=(l.drop i).take k:=by
 apply yBj;intro j;rw[yBr,yBr];split
 ·rw[yB3,yB3,yA9 NS,yBr,yAd zB]
 ·rfl
def tkg {l z:List Int} {n i:Nat} (h:i<n) (hn:n<=l.length):(l.take n++z).getD i 0=l.getD i 0:=by
 rw[yAk,yAk,yA9 NS,yBr,yAd h]
def zTl {b c:List Int} (h4:c.getD 4 0=b.getD 4 0) (h5:c.getD 5 0=b.getD 5 0):dG c=dG b:=by
 unfold dG;rw[h4,h5]
def JU {b:List Int} {p:It×Nat} (h:UG b=some p) (hc:p.1.code=0) (z:List Int):UG (b.take p.2++z)=some p/\p.2<=b.length:=by
 unfold UG at h;by_cases c1:b.length=0
 ·rw[yAd c1]at h;cases h
 rw[yAc c1]at h;by_cases c2:b.getD 0 0≠90∨(1<b.length/\b.getD 1 0≠165)
 ·rw[yAd c2]at h;cases h;cases hc
 rw[yAc c2]at h;by_cases c3:b.length<6
 ·rw[yAd c3]at h;cases h
 rw[yAc c3]at h;by_cases c4:200<dG b
 ·rw[yAd c4]at h;cases h;cases hc
 rw[yAc c4]at h;by_cases c5:b.length<dG b+10
 ·rw[yAd c5]at h;cases h
 rw[yAc c5]at h;by_cases c6:gN ((b.drop 2).take (dG b+4))≠XS ((b.drop (dG b+6)).take 4)
 ·rw[yAd c6]at h;cases h;cases hc
 rw[yAc c6]at h;by_cases c7:b.getD 2 0≠1
 ·rw[yAd c7]at h;cases h;cases hc
 rw[yAc c7]at h;by_cases c8:b.getD 3 0<1∨22<b.getD 3 0
 ·rw[yAd c8]at h;cases h;cases hc
 rw[yAc c8]at h;cases h;dsimp only;have hn:dG b+10<=b.length:=by omega
 refine⟨?_,hn⟩;have hl:(b.take (dG b+10)++z).length=dG b+10+z.length:=by rw[yAf,yAw];omega
 have g:∀i,i<dG b+10->(b.take (dG b+10)++z).getD i 0=b.getD i 0:=λi hi=>tkg hi hn
 have hp:dG (b.take (dG b+10)++z)=dG b:=zTl (g 4 zB) (g 5 zB);unfold UG;rw[yAc (by rw[hl];omega),yAc (by rw[hl,g 0 zB,g 1 zB];intro h;exact c2 (h.imp id λh=>⟨zB,h.2⟩)),yAc (by rw[hl];omega),hp,yAc c4,yAc (by rw[hl];omega),tkd zB hn,tkd zB hn,yAc c6,g 2 zB,yAc c7,g 3 zB,yAc c8,tkd zB hn]
def gpF:List (It×List Int)->Nat->List Pc
 | [],_=>[]
 |q::l,a=>⟨a,q.2.length,q.1⟩::gpF l (a+q.2.length)
def zHk (q:It×List Int):Prop:=UG q.2=some (q.1,q.2.length)/\q.1.code=0
theorem FY:∀(l:List (It×List Int)) (n a:Nat),(∀q∈l,zHk q)->((l.map (·.2)).flatten).length<=n->gK n (l.map (·.2)).flatten a=gpF l a
 | [],n,a,_,_=>by
  rw[OM (yAt _)];rfl
 |q::l,n,a,hg,hn=>by
  obtain⟨h1,h2⟩:=hg q zS;have h3:=(JU h1 h2 (l.map (·.2)).flatten).1;rw[show(q.1,q.2.length).2=q.2.length from Z,yAo (yAg _)]at h3;have e:((q::l).map (·.2)).flatten=q.2++(l.map (·.2)).flatten:=by simp
  rw[e]at hn⊢;rw[OM hn,h3];have hp:=PH h1;dsimp only at hp⊢;rw[yAd h2,yEj,FY l (n-1) _ (λx hx=>hg x RS) (by rw[yAf]at hn;omega)];rfl
theorem zCr:∀(n:Nat) (r:List Int) (a:Nat) (b:List Int),BY r->(wpL b (gK n r a)).length<=r.length
 |0,r,a,b,_=>yAt _
 | n +1,r,a,b,hr=>by
  unfold gK;split
  ·exact yAt _
  ·rename_i q hq;have h:=(RF hr hq).1;split
   ·have ih:=zCr n (r.drop q.2) (a+q.2) b λx hx=>hr x (yBc hx)
    rw[yA7]at ih;unfold wpL at ih⊢;by_cases hk:wkQ ⟨a,q.2,q.1⟩=true
    ·rw[yEo hk,yBs,yC0,yAf];have:(pcB b ⟨a,q.2,q.1⟩).length<=q.2:=by unfold pcB;rw[yAw];dsimp only;omega
     omega
    ·rw[yEn hk];omega
   ·exact yAt _
def zHl {b:List Int} (h:BY b):BY (wkF b)/\(wkF b).length<=b.length:=by
 refine⟨λx hx=>?_,zCr _ _ _ _ h⟩;unfold wkF wpL at hx;obtain⟨l,hl,hxl⟩:=yD4.1 hx;obtain⟨p,_,rfl⟩:=yBl.1 hl;exact h x (yBc (yBy hxl))
def zCs {c:Cf} {a:Int} {e:Ev} (h:bX e):bX (KG c a e):=by
 unfold KG;split
 ·have:=zHl h.y;have:=h.n;exact evb h.k h.s h.a h.b (zHl h.y).1 zB
 ·exact h
structure TaS where
 t:Nat
 g:Bool
 its:List It
def taC (s:TaS) (p:It×Nat):Bool:=decide (p.1.code=2)&&s.g
def MZ (s:TaS) (p:It×Nat):TaS:=if taC s p=true then⟨s.t+p.2,s.g,s.its⟩else⟨s.t+p.2,decide (p.1.code=2)||(decide (p.1.code=7)||decide (p.1.code=4)),s.its++[p.1]⟩
def taX (N:Nat) (s:TaS) (p:It×Nat):Bool:=!taC s p&&decide (N<=s.its.length+1)
def XW (N:Nat):List (It×Nat)->TaS->TaS
 | [],s=>s
 |p::l,s=>if taX N s p=true then MZ s p else XW N l (MZ s p)
def taG (s0:TaS) (l:List (It×Nat)) (i:Nat):TaS:=(l.take i).foldl MZ s0
def FZ (s0:TaS) {l:List (It×Nat)} {i:Nat} {p:It×Nat} (h:l[i]? =some p):taG s0 l (i+1)=MZ (taG s0 l i) p:=by
 unfold taG;rw[yCt,h,yFi];rfl
theorem JW {N:Nat}:∀(l:List (It×Nat)) (s:TaS),s.its.length<N->(XW N l s).its.length<=N
 | [],s,h=>yFe h
 | p::l,s,h=>by
  unfold XW
  have h1:(MZ s p).its.length<=s.its.length+1:=by
   unfold MZ;split
   ·dsimp only;omega
   ·dsimp only;rw[yAf];simp
  split
  ·omega
  ·rename_i hx;refine JW l _ ?_;unfold taX at hx;unfold MZ;cases hc:taC s p
   ·rw[hc]at hx;rw[yAc yAx];simp only[yFg,yA3,yAm]at hx;dsimp only;rw[yAf];simp only[yAp,yBk];omega
   ·rw[yAd Z];exact h
theorem zCt {N:Nat} {Pr:It->Prop}:∀(l:List (It×Nat)) (s:TaS),(∀x∈s.its,Pr x)->(∀p∈l,Pr p.1)->∀x∈(XW N l s).its,Pr x
 | [],s,h,_=>h
 | p::l,s,h,hl=>by
  have h1:∀x∈(MZ s p).its,Pr x:=by
   unfold MZ;split
   ·exact h
   ·intro x hx
    rcases yAz.1 hx with hx|hx
    ·exact h x hx
    ·rw[yBe.1 hx];exact hl p zS
  unfold XW;split
  ·exact h1
  ·exact zCt l _ h1 λq hq=>hl q (by simp[hq])
theorem zHm {N:Nat}:∀(l:List (It×Nat)) (s:TaS),s.t<=(XW N l s).t/\(XW N l s).t<=s.t+zE1 l
 | [],s=>⟨yAg _,Nat.le_add_right _ _⟩
 |p::l,s=>by
  have h1:(MZ s p).t=s.t+p.2:=by unfold MZ;split<;>rfl
  have h2:=zHm (N:=N) l (MZ s p);have h3:zE1 (p::l)=p.2+zE1 l:=by simp[zE1]
  unfold XW
  split<;>omega
theorem zCu:∀(n:Nat) (b:List Int),(gJ n b).length<=n
 |0,_=>yAg _
 |n+1,b=>by
  unfold gJ;split
  ·exact yAt _
  ·rename_i q _;have:=zCu n (b.drop q.2);rw[yAp];omega
def stA (b:List Int) (g:Bool):AV:= .agg [zC yA b,bA g]
def JX (k N:Nat):zN 164 [iA k,.ptr 1053 0 0] [(1053,.box [iA N])] (bA (decide (N<=k))) [(1053,.box [iA N])]:=by
 by_cases h:N<=k
 ·rw[yAj h];refine eM call164 λF hF=>?_
  refine WW ?_;exact zK [1053] Z Z Z Z
 ·rw[yAl h];refine eM call164 λF hF=>?_
  refine WW ?_;exact zK [1053] Z Z Z Z
theorem zN7 (b:List Int) (hb:BY b) (hl:b.length<=1000) (g:Bool) (N:Nat) (hN:1<=N/\N<=1000):zN 163 [stA b g,.fn 164 [.ptr 1053 0 0]] [(1053,.box [iA N])]
  (.tup [stA (b.drop (XW N (gJ b.length b) ⟨0,g,[]⟩).t) (XW N (gJ b.length b) ⟨0,g,[]⟩).g,zC wI (XW N (gJ b.length b) ⟨0,g,[]⟩).its]) [(1053,.box [iA N])]:=by
 have kp:=zHf b;have ht:=zE2 b hb zB;have hbl:=zA yA b;have hr1:=(zHm (N:=N) (gJ b.length b) ⟨0,g,[]⟩).2;have hr2:=zCm (n:=b.length) hb;dsimp only at hr1;have hL:psL b=(gJ b.length b).map λp=>[wI p.1,iA (p.2:Int)]:=rfl
 have hG0:taG ⟨0,g,[]⟩ (gJ b.length b) 0=⟨0,g,[]⟩:=rfl
 have hGn:∀i,(taG ⟨0,g,[]⟩ (gJ b.length b) i).its.length<=i:=λi=>by
  induction i with
  |zero=>exact yAg _
  | succ i ih=>
   cases h:(gJ b.length b)[i]? with
   | none=>
    have:taG ⟨0,g,[]⟩ (gJ b.length b) (i+1)=taG ⟨0,g,[]⟩ (gJ b.length b) i:=by
     unfold taG;rw[yCt,h];simp
    rw[this];omega
   |some p=>
    rw[FZ _ h];unfold MZ;split
    ·dsimp only;omega
    ·dsimp only;rw[yAf];simp only[yAp,yBk];omega
 rw[show stA b g= .agg [zC yA b,bA g]from Z];rw[show stA (b.drop (XW N (gJ b.length b) ⟨0,g,[]⟩).t) (XW N (gJ b.length b) ⟨0,g,[]⟩).g= .agg [zC yA (b.drop (XW N (gJ b.length b) ⟨0,g,[]⟩).t),bA (XW N (gJ b.length b) ⟨0,g,[]⟩).g]from Z];generalize hr:XW N (gJ b.length b) ⟨0,g,[]⟩=r at *;unfold psH at kp ht;refine eM call163 λF hF=>?_
 (have zc1:=kp;(repeat' (first|refine WS ?_|refine SG (I2 (λhc=>?_) λhc=>?_)|refine SG λhc=>?_|(refine zE ?_;first|refine SM ?_)|(first|first|refine SR ?_|refine SK (I2 (λhc=>?_) λhc=>?_)|refine SK λhc=>?_|fail|refine vK ?_|refine vL ?_)|fail))<;>clear zc1)
 refine vW 6 0 1051 3 Z Z Z Z Z ?_
 refine wW hF ht Z [2,3,4,6,7,8,1051,1053] [2,3,4,6,7,8] Z Z Z Z Z Z Z Z Z (λk ys h=>?_) (λi=>[(2,.box [zC yA b,bA g]),(3,.box [.fn 164 [.ptr 1053 0 0]]),(4,.box [.s (.slice none 0 0),bA false]),(6,.box [.ref 1051 0 ((taG ⟨0,g,[]⟩ (gJ b.length b) i).its.map wI).length]),(7,.box [iA ((taG ⟨0,g,[]⟩ (gJ b.length b) i).t:Int)]),(8,.box [bA (taG ⟨0,g,[]⟩ (gJ b.length b) i).g]),(1051,.arr 3 ((taG ⟨0,g,[]⟩ (gJ b.length b) i).its.map wI) true),(1053,.box [iA N])]) (λi=>XW N ((gJ b.length b).drop i) (taG ⟨0,g,[]⟩ (gJ b.length b) i)=r)
  (T:=[(2,.ptr 2 0 0),(3,.ptr 3 0 0),(4,.ptr 4 0 0),(6,.ptr 6 0 0),(7,.ptr 7 0 0),(8,.ptr 8 0 0)]) Z hr (λi ys q hys hI F1 h1 h2=>?_) (λhI=>?_)
 ·rw[hL,yAi,yAq]at h;obtain⟨x,_,rfl⟩:=h;rfl
 ·rw [hL,yAi,yAq]at hys;obtain⟨p,hp,rfl⟩:=hys;have e1:=FZ (⟨0,g,[]⟩:TaS) hp;have hil:i<(gJ b.length b).length:=(yA5.1 hp).1
  have e2:(gJ b.length b).drop i=p::(gJ b.length b).drop (i+1):=by
   rw[yCw hil]
   congr 1
   exact(yA5.1 hp).2
  rw[e2]at hI;rw[e1];have hgi:=hGn i;have hps:=zCm (n:=b.length) hb;generalize taG ⟨0,g,[]⟩ (gJ b.length b) i=s at*
  have hst:s.t+p.2<=b.length:=by
   have h9:(MZ s p).t=s.t+p.2:=by unfold MZ;split<;>rfl
   unfold XW at hI;split at hI
   ·rw[<-h9,hI];omega
   ·have:=(zHm (N:=N) ((gJ b.length b).drop (i+1)) (MZ s p)).1;rw[hI]at this;omega
  have hpl:=zCu b.length b;have hi3:i<=1000:=by omega
  clear hp hil e1 e2 hL hG0 hGn hps ht kp;generalize (gJ b.length b).drop (i+1)=l2 at *;generalize (gJ b.length b).length=L at *;obtain⟨t0,g0,its⟩:=s;obtain⟨⟨cd,kd,py⟩,n⟩:=p;dsimp only at hst hgi;have him:=zA wI its;rw[show wI (({code:=cd,kind:=kd,pay:=py}:It),n).fst= .agg [iA cd,iA kd,zC yA py]from Z];refine WW ?_;refine⟨rfl,λF2 g1 g2=>?_⟩;dsimp only;by_cases hc:cd=2
  ·subst hc;cases g0
   ·have e3:MZ ⟨t0,false,its⟩ (⟨2,kd,py⟩,n)=⟨t0+n,true,its++[⟨2,kd,py⟩]⟩:=rfl;have e4:taX N ⟨t0,false,its⟩ (⟨2,kd,py⟩,n)=decide (N<=its.length+1):=rfl;unfold XW at hI;rw[e3,e4]at hI;rw[e3];have kst:=JX (its.map wI++[AV.agg [iA 2,iA kd,zC yA py]]).length N;rw[show decide (N<=(its.map wI++[AV.agg [iA 2,iA kd,zC yA py]]).length)=decide (N<=its.length+1) by simp]at kst;by_cases hs:N<=its.length+1
    ·rw[yAj hs]at kst;rw[yAd (yAj hs)]at hI;subst hI;have hbt:=zA yA b;have kc:=wL (b.drop ((t0:Int)+(n:Int)).toNat) RT;have eD:zC yA (b.drop (t0+n))=zC yA (b.drop ((t0:Int)+(n:Int)).toNat):=by rw[show((t0:Int)+(n:Int)).toNat=t0+n by omega]
     dsimp only;rw[eD];rw[show zC wI (its++[⟨2,kd,py⟩])= .sl false (its.map wI++[AV.agg [iA 2,iA kd,zC yA py]]) by unfold zC;rw[yAn];rfl]
     (have zc1:=kst;have zc2:=kc;(repeat' (first|refine WS ?_|refine SG (I2 (λhc=>?_) λhc=>?_)|refine SG λhc=>?_|(refine zE ?_;first|refine SM ?_)|(first|first|refine SR ?_|refine SK (I2 (λhc=>?_) λhc=>?_)|refine SK λhc=>?_|fail|refine vK ?_|refine vL ?_)|fail))<;>clear zc1 zc2)
     refine zH [1053] Z Z ?_ Z
     show AV.tup [_,AV.sl false (List.take (its.map wI++[AV.agg [iA 2,iA kd,zC yA py]]).length (its.map wI++[AV.agg [iA 2,iA kd,zC yA py]]))]=_
     rw[yAh];rfl
    ·rw[yAl hs]at kst;rw[yAc zDr]at hI;dsimp only;rw[yAn,show [(⟨2,kd,py⟩:It)].map wI=[AV.agg [iA 2,iA kd,zC yA py]]from Z]
     (have zc1:=kst;(repeat' (first|refine WS ?_|refine SG (I2 (λhc=>?_) λhc=>?_)|refine SG λhc=>?_|(refine zE ?_;first|refine SM ?_)|(first|first|refine SR ?_|refine SK (I2 (λhc=>?_) λhc=>?_)|refine SK λhc=>?_|fail|refine vK ?_|refine vL ?_)|fail))<;>clear zc1)
     exact⟨rfl,hI⟩
   ·have e3:MZ ⟨t0,true,its⟩ (⟨2,kd,py⟩,n)=⟨t0+n,true,its⟩:=rfl;have e4:taX N ⟨t0,true,its⟩ (⟨2,kd,py⟩,n)=false:=rfl;unfold XW at hI;rw[e3,e4,yAc yAx]at hI;rw[e3];dsimp only
    (repeat' (first|refine WS ?_|refine SG (I2 (λhc=>?_) λhc=>?_)|refine SG λhc=>?_|(refine zE ?_;first|refine SM ?_)|(first|first|refine SR ?_|refine SK (I2 (λhc=>?_) λhc=>?_)|refine SK λhc=>?_|fail|refine vK ?_|refine vL ?_)|fail))
    exact⟨rfl,hI⟩
  ·have ex:taC ⟨t0,g0,its⟩ (⟨cd,kd,py⟩,n)=false:=by
    unfold taC;rw[yAl hc,yB4]
   have e4:taX N ⟨t0,g0,its⟩ (⟨cd,kd,py⟩,n)=decide (N<=its.length+1):=by
    unfold taX;rw[ex];rfl
   by_cases h7:cd=7
   ·subst h7;have e3:MZ ⟨t0,g0,its⟩ (⟨7,kd,py⟩,n)=⟨t0+n,true,its++[⟨7,kd,py⟩]⟩:=rfl;unfold XW at hI;rw[e3,e4]at hI;rw[e3];have kst:=JX (its.map wI++[AV.agg [iA 7,iA kd,zC yA py]]).length N;rw[show decide (N<=(its.map wI++[AV.agg [iA 7,iA kd,zC yA py]]).length)=decide (N<=its.length+1) by simp]at kst;by_cases hs:N<=its.length+1
    ·rw[yAj hs]at kst;rw[yAd (yAj hs)]at hI;subst hI;have hbt:=zA yA b;have kc:=wL (b.drop ((t0:Int)+(n:Int)).toNat) RT;have eD:zC yA (b.drop (t0+n))=zC yA (b.drop ((t0:Int)+(n:Int)).toNat):=by rw[show((t0:Int)+(n:Int)).toNat=t0+n by omega]
     dsimp only;rw[eD];rw[show zC wI (its++[⟨7,kd,py⟩])= .sl false (its.map wI++[AV.agg [iA 7,iA kd,zC yA py]]) by unfold zC;rw[yAn];rfl]
     (have zc1:=kst;have zc2:=kc;(repeat' (first|refine WS ?_|refine SG (I2 (λhc=>?_) λhc=>?_)|refine SG λhc=>?_|(refine zE ?_;first|refine SM ?_)|(first|first|refine SR ?_|refine SK (I2 (λhc=>?_) λhc=>?_)|refine SK λhc=>?_|fail|refine vK ?_|refine vL ?_)|fail))<;>clear zc1 zc2)
     refine zH [1053] Z Z ?_ Z
     show AV.tup [_,AV.sl false (List.take (its.map wI++[AV.agg [iA 7,iA kd,zC yA py]]).length (its.map wI++[AV.agg [iA 7,iA kd,zC yA py]]))]=_
     rw[yAh];rfl
    ·rw[yAl hs]at kst;rw[yAc zDr]at hI;dsimp only;rw[yAn,show [(⟨7,kd,py⟩:It)].map wI=[AV.agg [iA 7,iA kd,zC yA py]]from Z]
     (have zc1:=kst;(repeat' (first|refine WS ?_|refine SG (I2 (λhc=>?_) λhc=>?_)|refine SG λhc=>?_|(refine zE ?_;first|refine SM ?_)|(first|first|refine SR ?_|refine SK (I2 (λhc=>?_) λhc=>?_)|refine SK λhc=>?_|fail|refine vK ?_|refine vL ?_)|fail))<;>clear zc1)
     exact⟨rfl,hI⟩
   by_cases h4:cd=4
   ·subst h4;have e3:MZ ⟨t0,g0,its⟩ (⟨4,kd,py⟩,n)=⟨t0+n,true,its++[⟨4,kd,py⟩]⟩:=rfl;unfold XW at hI;rw[e3,e4]at hI;rw[e3];have kst:=JX (its.map wI++[AV.agg [iA 4,iA kd,zC yA py]]).length N;rw[show decide (N<=(its.map wI++[AV.agg [iA 4,iA kd,zC yA py]]).length)=decide (N<=its.length+1) by simp]at kst;by_cases hs:N<=its.length+1
    ·rw[yAj hs]at kst;rw[yAd (yAj hs)]at hI;subst hI;have hbt:=zA yA b;have kc:=wL (b.drop ((t0:Int)+(n:Int)).toNat) RT;have eD:zC yA (b.drop (t0+n))=zC yA (b.drop ((t0:Int)+(n:Int)).toNat):=by rw[show((t0:Int)+(n:Int)).toNat=t0+n by omega]
     dsimp only;rw[eD];rw[show zC wI (its++[⟨4,kd,py⟩])= .sl false (its.map wI++[AV.agg [iA 4,iA kd,zC yA py]]) by unfold zC;rw[yAn];rfl]
     (have zc1:=kst;have zc2:=kc;(repeat' (first|refine WS ?_|refine SG (I2 (λhc=>?_) λhc=>?_)|refine SG λhc=>?_|(refine zE ?_;first|refine SM ?_)|(first|first|refine SR ?_|refine SK (I2 (λhc=>?_) λhc=>?_)|refine SK λhc=>?_|fail|refine vK ?_|refine vL ?_)|fail))<;>clear zc1 zc2)
     refine zH [1053] Z Z ?_ Z
     show AV.tup [_,AV.sl false (List.take (its.map wI++[AV.agg [iA 4,iA kd,zC yA py]]).length (its.map wI++[AV.agg [iA 4,iA kd,zC yA py]]))]=_
     rw[yAh];rfl
    ·rw[yAl hs]at kst;rw[yAc zDr]at hI;dsimp only;rw[yAn,show [(⟨4,kd,py⟩:It)].map wI=[AV.agg [iA 4,iA kd,zC yA py]]from Z]
     (have zc1:=kst;(repeat' (first|refine WS ?_|refine SG (I2 (λhc=>?_) λhc=>?_)|refine SG λhc=>?_|(refine zE ?_;first|refine SM ?_)|(first|first|refine SR ?_|refine SK (I2 (λhc=>?_) λhc=>?_)|refine SK λhc=>?_|fail|refine vK ?_|refine vL ?_)|fail))<;>clear zc1)
     exact⟨rfl,hI⟩
   ·have e3:MZ ⟨t0,g0,its⟩ (⟨cd,kd,py⟩,n)=⟨t0+n,false,its++[⟨cd,kd,py⟩]⟩:=by
     unfold MZ;rw[ex,yAc yAx];dsimp only;rw[yAl hc,yAl h7,yAl h4];rfl
    unfold XW at hI;rw[e3,e4]at hI;rw[e3];have kst:=JX (its.map wI++[AV.agg [iA cd,iA kd,zC yA py]]).length N;rw[show decide (N<=(its.map wI++[AV.agg [iA cd,iA kd,zC yA py]]).length)=decide (N<=its.length+1) by simp]at kst;by_cases hs:N<=its.length+1
    ·rw[yAj hs]at kst;rw[yAd (yAj hs)]at hI;subst hI;have hbt:=zA yA b;have kc:=wL (b.drop ((t0:Int)+(n:Int)).toNat) RT;have eD:zC yA (b.drop (t0+n))=zC yA (b.drop ((t0:Int)+(n:Int)).toNat):=by rw[show((t0:Int)+(n:Int)).toNat=t0+n by omega]
     dsimp only;rw[eD];rw[show zC wI (its++[⟨cd,kd,py⟩])= .sl false (its.map wI++[AV.agg [iA cd,iA kd,zC yA py]]) by unfold zC;rw[yAn];rfl]
     (have zc1:=kst;have zc2:=kc;(repeat' (first|refine WS ?_|refine SG (I2 (λhc=>?_) λhc=>?_)|refine SG λhc=>?_|(refine zE ?_;first|refine SM ?_)|(first|first|refine SR ?_|refine SK (I2 (λhc=>?_) λhc=>?_)|refine SK λhc=>?_|fail|refine vK ?_|refine vL ?_)|fail))<;>clear zc1 zc2)
     refine zH [1053] Z Z ?_ Z
     show AV.tup [_,AV.sl false (List.take (its.map wI++[AV.agg [iA cd,iA kd,zC yA py]]).length (its.map wI++[AV.agg [iA cd,iA kd,zC yA py]]))]=_
     rw[yAh];rfl
    ·rw[yAl hs]at kst;rw[yAc zDr]at hI;dsimp only;rw[yAn,show [(⟨cd,kd,py⟩:It)].map wI=[AV.agg [iA cd,iA kd,zC yA py]]from Z]
     (have zc1:=kst;(repeat' (first|refine WS ?_|refine SG (I2 (λhc=>?_) λhc=>?_)|refine SG λhc=>?_|(refine zE ?_;first|refine SM ?_)|(first|first|refine SR ?_|refine SK (I2 (λhc=>?_) λhc=>?_)|refine SK λhc=>?_|fail|refine vK ?_|refine vL ?_)|fail))<;>clear zc1)
     exact⟨rfl,hI⟩
 ·have e1:taG ⟨0,g,[]⟩ (gJ b.length b) (psL b).length=r:=by
   rw[hL,yAe]at hI⊢;rw[yDp]at hI;exact hI
  rw[e1];have hbt:=zA yA b;have kc:=wL (b.drop ((r.t:Nat):Int).toNat) RT
  (have zc1:=kc;(repeat' (first|refine WS ?_|refine SG (I2 (λhc=>?_) λhc=>?_)|refine SG λhc=>?_|(refine zE ?_;first|refine SM ?_)|(first|first|refine SR ?_|refine SK (I2 (λhc=>?_) λhc=>?_)|refine SK λhc=>?_|fail|refine vK ?_|refine vL ?_)|fail))<;>clear zc1)
  refine zH [1053] Z Z ?_ Z
  show AV.tup [_,AV.sl false (List.take (r.its.map wI).length (r.its.map wI))]=_
  rw[yAh];rfl
end Av
end Go.Proofs.YteajjdidebfcjaaGreat
