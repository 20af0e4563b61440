/- Part 26. -/
import Derived.Test.YteajjdidebfcjaaGreatU25
namespace Go.Proofs.YteajjdidebfcjaaGreat
namespace Av
open Tryz
set_option linter.all false
set_option maxRecDepth 4000
set_option maxHeartbeats 4000000
def zEz (l:List Int) (hl:l.length<=1073741824):zN 66 [zC yA l] [] (.ref 1001 0 (l.map yA).length) [(1001,.arr 1 (l.map yA) false)]:=by
 have hll:=zA yA l;refine eM call66 λF hF=>?_
 refine yZ 0 Z (λcap hx=>?_) ?_
 ·have:l=[]:=by simpa using hx
  subst this
  (repeat' (first|refine WZN ?_|apply xM|apply xZ|intro hc|fail))
  refine vX 2 1001 1 Z Z Z (yW ?_);exact zK [1001] Z Z Z Z
 ·repeat' (first|(refine zE ?_;first|refine vF tok Z Z ?_|(refine wE ?_;refine yJ (yS tok (.inl ⟨rfl,rfl⟩) Z Z Z Z) Z ?_)|(refine yV ?_;refine uT (nw:=[1001]) (yI tok 1001 (xs:=[]) Z Z Z Z Z Z Z Z Z) Z Z Z ?_)|(refine yK ?_;refine xU tok Z Z Z Z Z Z Z (yC _ _ (λ_=>rfl)) Z Z Z zB Z ?_)|refine uQ ?_)|(first|refine xQ ?_|refine xE ?_|refine vG Z ?_|refine zX Z ?_|refine zU Z ?_|refine xK Z (λhc=>?_) λhc=>?_|refine xA ?_|refine yW ?_|refine xD ?_|refine yU ?_))
  exact zK [1001] Z Z Z Z
def zE0 (k:Int) (h:k=17∨k=21):zN 103 [iA k] [] (.tup [.agg [iA 0,iA 1,iA 0,iA 0,iA 0,iA (-1)],bA true]) []:=by
 obtain rfl|rfl:=h
 all_goals (refine eM call103 λF hF=>?_)
 all_goals (refine WW ?_)
 all_goals exact zJ
def dtF (p:List Int):Option (List Int×List Int):=if 200<p.length then none else aE 1 p
def dtT (k:Int):Option (List Int×List Int)->AV
 |none=> .tup [yB ⟨0,[],[],[]⟩,iA 6]
 |some q=> .tup [yB ⟨k,[],q.1,q.2⟩,iA 0]
def zNz (k:Int) (h:k=17∨k=21) (p:List Int) (hb:BY p) (hn:p.length<=100000):zN 69 [iA k,zC yA p] [] (dtT k (dtF p)) []:=by
 have hl:=zA yA p;have c1:=zE0 k h;by_cases h2:200<p.length
 ·rw[show dtF p=none from yAd h2]
  show zN 69 [iA k,zC yA p] [] (.tup [yB ⟨0,[],[],[]⟩,iA 6]) []
  refine eM call69 λF hF=>?_
  refine zV c1 ?_;exact zJ
 rw[show dtF p=aE 1 p from yAc h2];have c2:=YZ p 1 hb hn zB
 cases hnb:aE 1 p with
 |none=>
  rw[hnb]at c2
  show zN 69 [iA k,zC yA p] [] (.tup [yB ⟨0,[],[],[]⟩,iA 6]) []
  unfold AR at c2;refine eM call69 λF hF=>?_
  (have zc1:=c1;have zc2:=c2;(repeat' (first|refine uP ?_|apply xM|apply xZ|intro hc|(refine zE ?_;first|refine SM ?_|(refine uR ?_;first|refine RR tok Z Z Z Z Z (yC _ _ (λ_=>rfl)) zB (yE9 _) Z Z ?_|refine aK tok Z Z Z Z Z (yC _ _ (λ_=>rfl)) zB (yE9 _) Z Z ?_))|fail))<;>clear zc1 zc2)
  exact zJ
 | some q=>
  obtain⟨a,r⟩:=q;obtain⟨ha,hbr,har,hsp⟩:=fQ _ _ _ _ hb hnb
  have hrl:r.length<=100000:=by
   have:=yBa List.length hsp;rw[yAf]at this;omega
  have hlr:=zA yA r;have hla:=zA iA a;rw[hnb]at c2;unfold AR at c2;have k1:=wL [] zS;have k2:=wL r zB
  show zN 69 [iA k,zC yA p] [] (.tup [yB ⟨k,[],a,r⟩,iA 0]) []
  refine eM call69 λF hF=>?_
  (have zc1:=c1;have zc2:=c2;have zc3:=k1;have zc4:=k2;(repeat' (first|refine uP ?_|apply xM|apply xZ|intro hc|(refine zE ?_;first|refine SM ?_|(refine uR ?_;first|refine RR tok Z Z Z Z Z (yC _ _ (λ_=>rfl)) zB (yE9 _) Z Z ?_|refine aK tok Z Z Z Z Z (yC _ _ (λ_=>rfl)) zB (yE9 _) Z Z ?_))|fail))<;>clear zc1 zc2 zc3 zc4)
  exact zJ
def mdF (i:It):Option Nat:=if i.kind=17∨i.kind=21 then(dtF i.pay).map (λq=>q.2.length)else none
def zeF (b:List Int) (p:Pc):List Int:=match mdF p.it with
 |none=>b
 |some n=>b.take (p.fr+p.k-4-n)++List.replicate (n+4) 0++b.drop (p.fr+p.k)
def msL (b:List Int) (l:List Pc):List Int:=l.foldl zeF b
def AN (b:List Int):List Int:=if whF b=true then msL b (gK b.length b 0)else b
def zG7 (b:List Int) {l:List Pc} {i:Nat} {p:Pc} (h:l[i]? =some p):msL b (l.take (i+1))=zeF (msL b (l.take i)) p:=by
 unfold msL;rw[yCt,h,yFi];rfl
def JQ {b:List Int} {p:It×Nat} (h:UG b=some p) (hc:p.1.code=0):p.1.pay.length+10=p.2/\p.2<=b.length/\p.1.pay=(b.drop 6).take (p.2-10)/\p.1.pay.length<=200:=by
 unfold UG at h
 repeat' split at h
 all_goals (first|(cases h;done)|(cases h;cases hc;done)|skip)
 all_goals (cases h;dsimp only;refine⟨?_,zB,rfl,?_⟩<;>(rw[yAw,yA7];omega))
def zCf {p:List Int} (hb:BY p) {q:List Int×List Int} (h:dtF p=some q):q.2.length<=p.length:=by
 unfold dtF at h;split at h
 ·cases h
 ·obtain⟨a,r⟩:=q;obtain⟨_,_,_,h4⟩:=fQ _ _ _ _ hb h;have:=yBa List.length h4;rw[yAf]at this;dsimp only;omega
structure PcB (L:Nat) (p:Pc):Prop where
 c:p.it.code=0
 y:BY p.it.pay
 l:p.it.pay.length+10=p.k
 e:p.fr+p.k<=L
 u:p.it.pay.length<=200
def zCg {n:Nat}:∀{r:List Int} {a:Nat},BY r->∀p∈gK n r a,PcB (a+r.length) p:=by
 induction n with
 |zero=>intro r a _ p hp;cases hp
 | succ n ih=>
  intro r a hr p hp;unfold gK at hp;split at hp
  ·cases hp
  ·rename_i q hq;split at hp
   ·rename_i hc;obtain⟨h1,h2,h3,h4⟩:=JQ hq hc
    rcases yBt.1 hp with rfl|hp
    ·exact⟨hc,by dsimp only;rw[h3];exact λx hx=>hr x (yBc (yBy hx)),h1,by dsimp only;omega,h4⟩
    ·have h:=ih (λx hx=>hr x (yBc hx)) p hp;rw[yA7]at h;exact⟨h.c,h.y,h.l,by have:=h.e;omega,h.u⟩
   ·cases hp
def zG8 {L:Nat} {p:Pc} (h:PcB L p) {n:Nat} (hm:mdF p.it=some n):n+10<=p.k:=by
 unfold mdF at hm;split at hm
 ·rw[yAq]at hm;obtain⟨q,hq,rfl⟩:=hm;have:=zCf h.y hq;have:=h.l;omega
 ·cases hm
def zN0 {b:List Int} {p:Pc} (h:PcB b.length p):(zeF b p).length=b.length:=by
 unfold zeF;split
 ·rfl
 ·rename_i n hn;have:=zG8 h hn;have:=h.e;simp only[yAf,yAw,yA7,yB2];omega
def JR (b:List Int) (l:List Pc):∀(L:Nat),b.length=L->(∀p∈l,PcB L p)->(msL b l).length=L:=by
 induction l generalizing b with
 |nil=>intro L h _;exact h
 |cons p l ih=>
  intro L h hp;subst h;exact ih (zeF b p) b.length (zN0 (hp p zS)) λq hq=>hp q (by simp[hq])
def zTf {X:List Int} {o n c:Nat} (h:o+n+4<=X.length) (hc:c=n) (z:AV) (hz:z=yA 0):(((X.map yA).take o++List.replicate c z++(X.map yA).drop (o+c)).take (o+n)++[z,z,z,z]++((X.map yA).take o++List.replicate c z++(X.map yA).drop (o+c)).drop (o+n+4))=(X.take o++List.replicate (n+4) 0++X.drop (o+n+4)).map yA:=by
 subst hz hc;have e1:((X.map yA).take o++List.replicate c (yA 0)).length=o+c:=by simp;omega
 have e2:((X.map yA).take o++List.replicate c (yA 0)++(X.map yA).drop (o+c)).take (o+c)=(X.map yA).take o++List.replicate c (yA 0):=by
  rw[<-e1];exact yGf
 have e3:((X.map yA).take o++List.replicate c (yA 0)++(X.map yA).drop (o+c)).drop (o+c+4)=(X.map yA).drop (o+c+4):=by
  rw[List.drop_append,e1,yDr zB,yCc,List.drop_drop]
  congr 1
  omega
 rw[e2,e3,yAn,yAn,yDh,yDg,yD6,yA6 (List.take o _),show([yA 0,yA 0,yA 0,yA 0]:List AV)=List.replicate 4 (yA 0)from Z,List.replicate_append_replicate]
theorem zAb (b:List Int) (hb:BY b) (hl:b.length<=1000000):zN 31 [zC yA b] [] (.ref 1001 0 (b.map yA).length) [(1001,.arr 1 ((AN b).map yA) false)]:=by
 have hbl:=zA yA b;have kw:=zCn b hb hl;have kc:=zEz b zB;by_cases hw:whF b=true
 case neg=>
  rw[show AN b=b from yAc hw];have hw:whF b=false:=by simpa using hw
  rw[hw]at kw;refine eM call31 λF hF=>?_
  refine yQ (wV kc kw) ?_;exact zK [1001] Z Z Z Z
 rw[show AN b=msL b (gK b.length b 0)from yAd hw];rw[hw]at kw;clear hw;have kp:=RG b;have ht:=WK b hb hl;have hL:vfL b=(gK b.length b 0).map λp=>[pcA p]:=rfl
 have hbd:=zCg (n:=b.length) (a:=0) hb;rw[yBv]at hbd;unfold psH at kp ht;refine eM call31 λF hF=>?_
 refine yQ (gG kc kw kp) ?_
 refine wW hF ht Z [3,1001] [3] Z Z Z Z Z Z Z Z Z (λk ys h=>?_) (λj=>[(3,.box [.ref 1001 0 (b.map yA).length]),(1001,.arr 1 ((msL b ((gK b.length b 0).take j)).map yA) false)]) (λ_=>True)
  (T:=[(3,.ptr 3 0 0)]) Z trivial (λj ys q hys hI F1 h1 h2=>?_) (λhI=>?_)
 ·rw[hL,yAi,yAq]at h;obtain⟨x,_,rfl⟩:=h;rfl
 ·rw[hL,yAi,yAq]at hys;obtain⟨p,hp,rfl⟩:=hys;rw[zG7 b hp];have hP:=hbd p (yBp hp);have hpl:=hP.l;have hpe:=hP.e;have hpu:=hP.u;have hlen:=JR b ((gK b.length b 0).take j) b.length Z λq hq=>hbd q (yBy hq)
  have hpy:=hP.y;have hmd:=λn (h:mdF p.it=some n)=>zG8 hP h
  have hxl:=zA yA (msL b ((gK b.length b 0).take j));have hpp:=zA yA p.it.pay;clear hL hbd hp ht kp kw kc hP;generalize msL b ((gK b.length b 0).take j)=X at *;unfold pcA;refine WW ?_;refine⟨rfl,λF2 g1 g2=>?_⟩;dsimp only;by_cases hk:p.it.kind=17∨p.it.kind=21
  case neg=>
   rw[show zeF X p=X by unfold zeF mdF;rw[yAc hk]];have hk1:p.it.kind≠17:=λh=>hk (.inl h)
   have hk2:p.it.kind≠21:=λh=>hk (.inr h)
   refine WW ?_;exact⟨rfl,trivial⟩
  have kd:=zNz p.it.kind hk p.it.pay hpy zB
  cases hd:dtF p.it.pay with
  | none=>
   rw[hd]at kd;rw[show zeF X p=X by unfold zeF mdF;rw[yAd hk,hd];rfl];unfold dtT yB at kd
   rcases hk with hk|hk
   ·(refine zV kd ?_)
    exact⟨rfl,trivial⟩
   ·(refine zV kd ?_)
    exact⟨rfl,trivial⟩
  | some q=>
   rw[hd]at kd;have hm:mdF p.it=some q.2.length:=by unfold mdF;rw[yAd hk,hd];rfl
   have hn:=hmd _ hm;rw[show zeF X p=X.take (p.fr+p.k-4-q.2.length)++List.replicate (q.2.length+4) 0++X.drop (p.fr+p.k) by unfold zeF;rw[hm]];unfold dtT yB at kd;dsimp only at kd;have hql:=zA yA q.2;obtain⟨o,ho⟩:∃o:Nat,p.fr+p.k=o+q.2.length+4:=⟨p.fr+p.k-q.2.length-4,zB⟩;rw[show p.fr+p.k-4-q.2.length=o by omega,show X.drop (p.fr+p.k)=X.drop (o+q.2.length+4) by rw[ho],<-zTf (X:=X) (o:=o) (n:=q.2.length) (c:=o+q.2.length-o) zB zB (.s (.int .u8 0)) Z]
   rcases hk with hk|hk
   ·(repeat' (first|(refine zE ?_;first|refine yJ (MU (T:=144) tok Z Z Z Z) Z ?_|refine vF tok Z Z ?_|(refine xT ?_;(first|(refine vR 69 ?_;first|refine yJ (zI (kd) Z Z Z Z Z) Z ?_|refine uT (zI (kd) Z Z Z Z Z) Z Z Z ?_|refine XF (zI (kd) Z Z Z Z Z) Z Z Z ?_)))|(refine ZW ?_;first|refine zP4 Z Z ?_|refine zDm Z Z Z Z ?_|(refine dO Z Z (λhc=>?_) λhc=>?_<;>(try simp only[qT,yAm,yAy,yBw,yCs,yD3,yCy,yBm,yB0,yEr,yEq,yDs]at hc)))|(refine wE ?_;first|refine yJ (XB Z Z Z (by unfold NI;omega)) Z ?_|refine yJ (XC Z Z Z (by unfold NI;omega)) Z ?_|refine yJ (PQ Z Z Z) Z ?_|refine yJ (aO Z Z ⟨zB,zB⟩) Z ?_|refine yJ (PW Z Z ⟨zB,zB⟩) Z ?_|refine yJ (aP Z Z ⟨zB,zB⟩) Z ?_|refine yJ (PX Z Z QY zB) Z ?_|refine yJ (PY Z Z zB) Z ?_|refine yJ (OA Z Z) Z ?_|refine yJ (UX Z Z zB) Z ?_|refine yJ (UY Z Z zB) Z ?_|refine yJ (kE (.inl ⟨rfl,rfl⟩) Z Z zB) Z ?_|refine yJ (kE (.inr ⟨rfl,rfl⟩) Z Z zB) Z ?_|refine yJ (jT tok Z Z Z Z (.inl ⟨rfl,rfl⟩)) Z ?_|refine yJ (jT tok Z Z Z Z (.inr ⟨rfl,rfl⟩)) Z ?_|refine yJ (aT tok (.inl ⟨rfl,rfl⟩) Z Z Z) Z ?_|refine yJ (yS tok (.inl ⟨rfl,rfl⟩) Z Z Z Z) Z ?_|refine yJ (UT Z Z) Z ?_|refine yJ (UU Z Z) Z ?_|refine yJ (UV Z Z) Z ?_|refine yJ (aU Z Z QY) Z ?_|refine yJ (bI Z Z) Z ?_|refine yJ (aV Z Z QY) Z ?_|refine yJ (bJ Z Z) Z ?_)|(refine HJ ?_;first|refine yJ (jE tok Z Z Z Z Z zB kK Z Z) Z ?_|refine yJ (kX tok Z Z Z Z Z Z zB zB Z) Z ?_|refine yJ (kJ tok Z Z Z Z Z Z zB zB) Z ?_)|(refine PU ?_;first|refine yJ (eK tok Z Z Z kK Z) Z ?_|refine yJ (eJ tok Z Z Z kK Z) Z ?_|refine yJ (gZ tok Z Z Z Z kK Z) Z ?_|refine yJ (gY tok Z Z Z Z kK Z) Z ?_)|(refine HL ?_;first|refine yJ (kI tok Z Z Z Z Z Z Z Z) Z ?_|refine yJ (jD tok Z kK Z Z Z Z Z Z) Z ?_)|(refine yK ?_;first|refine xU tok Z Z Z Z Z Z Z (by first|(intro y hy;cases hy;rfl)|exact yC _ _ (λ_=>rfl)) Z Z Z (by first|omega|(simp;done)|(simp;omega)) Z ?_|refine uX tok Z Z Z Z Z Z Z Z Z Z Z (by first|(intro y hy;cases hy;rfl)|exact yC _ _ (λ_=>rfl)) (by first|omega|(simp;done)|(simp;omega)) Z ?_)|(refine QJ ?_;first|refine yJ (OB Z ⟨zB,zB⟩) Z ?_)|(refine PR ?_;first|refine yJ (cJ tok Z Z Z Z ⟨zB,zB⟩) Z ?_|refine yJ (ZX tok Z Z Z Z) Z ?_|refine yJ (cL tok Z Z Z Z Z Z Z kK) Z ?_)|(refine uR ?_;first|refine aK tok Z Z Z Z Z (by first|(intro y hy;cases hy;rfl)|exact yC _ _ (λ_=>rfl)|assumption|(simp;done)) zB wF zDn Z ?_|refine RR tok Z Z Z Z Z (by first|(intro y hy;cases hy;rfl)|exact yC _ _ (λ_=>rfl)|assumption|(simp;done)) zB wF zDo Z ?_|refine PS tok Z Z Z Z Z Z (by first|(intro y hy;cases hy;rfl)|exact yC _ _ (λ_=>rfl)|assumption|(simp;done)) zB zB (by first|omega|(simp;omega)) zDp Z ?_)|refine SM ?_|(refine uR ?_;first|refine ZS tok Z Z Z Z Z Z Z Z o (o+q.2.length) zB zB zB zB Z ?_|refine ZS tok Z Z Z Z Z Z Z Z (o+q.2.length) (o+q.2.length+4) zB zB zB zB Z ?_|refine yJ (JN tok Z Z Z Z Z) Z ?_)|(refine x_s (nw:=[]) (JM tok Z Z Z Z Z Z Z) Z Z ?_)|(refine zDy tok Z Z Z Z Z Z Z (λy hy=>by cases hy;rfl) Z (by show 4<=_;omega) Z Z ?_)|(refine RN ?_;refine yJ (uI Z Z Z) Z ?_)|refine aH tok Z Z Z Z ?_|(refine cU ?_;first|refine GC tok Z Z Z Z Z Z ?_|refine cI tok Z Z Z ?_|refine HE tok Z Z Z kK Z Z Z Z Z Z ?_|refine RO tok Z Z Z kK Z Z Z Z Z Z Z Z ?_)|refine uQ ?_|refine VM WA ?_)|first|refine SR ?_|refine SK (I2 (λhc=>?_) λhc=>?_)|refine SK λhc=>?_|fail))
    exact⟨rfl,trivial⟩
   ·(repeat' (first|(refine zE ?_;first|refine yJ (MU (T:=144) tok Z Z Z Z) Z ?_|refine vF tok Z Z ?_|(refine xT ?_;(first|(refine vR 69 ?_;first|refine yJ (zI (kd) Z Z Z Z Z) Z ?_|refine uT (zI (kd) Z Z Z Z Z) Z Z Z ?_|refine XF (zI (kd) Z Z Z Z Z) Z Z Z ?_)))|(refine ZW ?_;first|refine zP4 Z Z ?_|refine zDm Z Z Z Z ?_|(refine dO Z Z (λhc=>?_) λhc=>?_<;>(try simp only[qT,yAm,yAy,yBw,yCs,yD3,yCy,yBm,yB0,yEr,yEq,yDs]at hc)))|(refine wE ?_;first|refine yJ (XB Z Z Z (by unfold NI;omega)) Z ?_|refine yJ (XC Z Z Z (by unfold NI;omega)) Z ?_|refine yJ (PQ Z Z Z) Z ?_|refine yJ (aO Z Z ⟨zB,zB⟩) Z ?_|refine yJ (PW Z Z ⟨zB,zB⟩) Z ?_|refine yJ (aP Z Z ⟨zB,zB⟩) Z ?_|refine yJ (PX Z Z QY zB) Z ?_|refine yJ (PY Z Z zB) Z ?_|refine yJ (OA Z Z) Z ?_|refine yJ (UX Z Z zB) Z ?_|refine yJ (UY Z Z zB) Z ?_|refine yJ (kE (.inl ⟨rfl,rfl⟩) Z Z zB) Z ?_|refine yJ (kE (.inr ⟨rfl,rfl⟩) Z Z zB) Z ?_|refine yJ (jT tok Z Z Z Z (.inl ⟨rfl,rfl⟩)) Z ?_|refine yJ (jT tok Z Z Z Z (.inr ⟨rfl,rfl⟩)) Z ?_|refine yJ (aT tok (.inl ⟨rfl,rfl⟩) Z Z Z) Z ?_|refine yJ (yS tok (.inl ⟨rfl,rfl⟩) Z Z Z Z) Z ?_|refine yJ (UT Z Z) Z ?_|refine yJ (UU Z Z) Z ?_|refine yJ (UV Z Z) Z ?_|refine yJ (aU Z Z QY) Z ?_|refine yJ (bI Z Z) Z ?_|refine yJ (aV Z Z QY) Z ?_|refine yJ (bJ Z Z) Z ?_)|(refine HJ ?_;first|refine yJ (jE tok Z Z Z Z Z zB kK Z Z) Z ?_|refine yJ (kX tok Z Z Z Z Z Z zB zB Z) Z ?_|refine yJ (kJ tok Z Z Z Z Z Z zB zB) Z ?_)|(refine PU ?_;first|refine yJ (eK tok Z Z Z kK Z) Z ?_|refine yJ (eJ tok Z Z Z kK Z) Z ?_|refine yJ (gZ tok Z Z Z Z kK Z) Z ?_|refine yJ (gY tok Z Z Z Z kK Z) Z ?_)|(refine HL ?_;first|refine yJ (kI tok Z Z Z Z Z Z Z Z) Z ?_|refine yJ (jD tok Z kK Z Z Z Z Z Z) Z ?_)|(refine yK ?_;first|refine xU tok Z Z Z Z Z Z Z (by first|(intro y hy;cases hy;rfl)|exact yC _ _ (λ_=>rfl)) Z Z Z (by first|omega|(simp;done)|(simp;omega)) Z ?_|refine uX tok Z Z Z Z Z Z Z Z Z Z Z (by first|(intro y hy;cases hy;rfl)|exact yC _ _ (λ_=>rfl)) (by first|omega|(simp;done)|(simp;omega)) Z ?_)|(refine QJ ?_;first|refine yJ (OB Z ⟨zB,zB⟩) Z ?_)|(refine PR ?_;first|refine yJ (cJ tok Z Z Z Z ⟨zB,zB⟩) Z ?_|refine yJ (ZX tok Z Z Z Z) Z ?_|refine yJ (cL tok Z Z Z Z Z Z Z kK) Z ?_)|(refine uR ?_;first|refine aK tok Z Z Z Z Z (by first|(intro y hy;cases hy;rfl)|exact yC _ _ (λ_=>rfl)|assumption|(simp;done)) zB wF zDn Z ?_|refine RR tok Z Z Z Z Z (by first|(intro y hy;cases hy;rfl)|exact yC _ _ (λ_=>rfl)|assumption|(simp;done)) zB wF zDo Z ?_|refine PS tok Z Z Z Z Z Z (by first|(intro y hy;cases hy;rfl)|exact yC _ _ (λ_=>rfl)|assumption|(simp;done)) zB zB (by first|omega|(simp;omega)) zDp Z ?_)|refine SM ?_|(refine uR ?_;first|refine ZS tok Z Z Z Z Z Z Z Z o (o+q.2.length) zB zB zB zB Z ?_|refine ZS tok Z Z Z Z Z Z Z Z (o+q.2.length) (o+q.2.length+4) zB zB zB zB Z ?_|refine yJ (JN tok Z Z Z Z Z) Z ?_)|(refine x_s (nw:=[]) (JM tok Z Z Z Z Z Z Z) Z Z ?_)|(refine zDy tok Z Z Z Z Z Z Z (λy hy=>by cases hy;rfl) Z (by show 4<=_;omega) Z Z ?_)|(refine RN ?_;refine yJ (uI Z Z Z) Z ?_)|refine aH tok Z Z Z Z ?_|(refine cU ?_;first|refine GC tok Z Z Z Z Z Z ?_|refine cI tok Z Z Z ?_|refine HE tok Z Z Z kK Z Z Z Z Z Z ?_|refine RO tok Z Z Z kK Z Z Z Z Z Z Z Z ?_)|refine uQ ?_|refine VM WA ?_)|first|refine SR ?_|refine SK (I2 (λhc=>?_) λhc=>?_)|refine SK λhc=>?_|fail))
    exact⟨rfl,trivial⟩
 ·have eW:msL b ((gK b.length b 0).take (vfL b).length)=msL b (gK b.length b 0):=by
   rw[hL,yAe,yAh]
  rw[eW];have hlen:=JR b (gK b.length b 0) b.length Z hbd;have hxl:=zA yA (msL b (gK b.length b 0));clear hL hbd ht kp kw eW;generalize msL b (gK b.length b 0)=X at *;refine WW ?_;exact zK [1001] Z Z Z Z
def FV (b:List Int) (hb:BY b) (hl:b.length<=1000000):zN 31 [zC yA b] [] (zC yA (AN b)) []:=by
 have hlen:(AN b).length=b.length:=by
  unfold AN;split
  ·exact JR b _ b.length Z λp hp=>by have:=zCg (n:=b.length) (a:=0) hb p hp;rw[yBv]at this;exact this
  ·rfl
 refine(zAb b hb hl).frz [] ?_ Z Z;have e:(b.map yA).length=((AN b).map yA).length:=by rw[yAe,yAe,hlen]
 rw[e];exact yBa (AV.sl false) zJy
def zeR (b:List Int) (it:It):List Int:=match mdF it with
 |none=>b
 |some n=>b.take (b.length-4-n)++List.replicate (n+4) 0
def zR:Nat->List Int->List Int
 |0,r=>r
 |n+1,r=>match UG r with
  |none=>r
  |some q=>if q.1.code=0 then zeR (r.take q.2) q.1++zR n (r.drop q.2)else r
def wA (s:Nat) (l:List Pc):Nat:=l.foldl (λ_ p=>p.fr+p.k) s
def FW {b:List Int} {p:It×Nat} (h:UG b=some p) (hc:p.1.code=0):p=(⟨0,b.getD 3 0,(b.drop 6).take (dG b)⟩,dG b+10)/\dG b+10<=b.length:=by
 unfold UG at h
 repeat' split at h
 all_goals (first|(cases h;done)|(cases h;cases hc;done)|skip)
 all_goals (cases h;exact⟨rfl,zB⟩)
def zN1 {b:List Int} {it:It} (h:∀n,mdF it=some n->n+4<=b.length):(zeR b it).length=b.length:=by
 unfold zeR;split
 ·rfl
 ·rename_i n hn;have:=h n hn;rw[yAf,yAw,yB2];omega
def zW4 {r:List Int} {q:It×Nat} (hb:BY r) (h:UG r=some q) (hc:q.1.code=0) {n:Nat} (hm:mdF q.1=some n):n+10<=q.2:=by
 obtain⟨h1,h2,h3,_⟩:=JQ h hc;have hy:BY q.1.pay:=by rw[h3];exact λx hx=>hb x (yBc (yBy hx))
 unfold mdF at hm;split at hm
 ·rw[yAq]at hm;obtain⟨d,hd,rfl⟩:=hm;have:=zCf hy hd;omega
 ·cases hm
theorem zG9:∀(n:Nat) (r pre:List Int),BY r->msL (pre++r) (gK n r pre.length)=pre++zR n r
 |0,r,pre,_=>rfl
 | n +1,r,pre,hb=>by
  unfold gK zR
  cases hp:UG r with
  |none=>rfl
  | some q=>
   dsimp only;by_cases hc:q.1.code=0
   ·rw[yAd hc,yAd hc];obtain⟨h1,h2,h3,_⟩:=JQ hp hc;have hmd:=λn=>zW4 (n:=n) hb hp hc
    have hkl:(r.take q.2).length=q.2:=by rw[yAw];omega
    have hz:(zeR (r.take q.2) q.1).length=q.2:=by rw[zN1 λn hn=>by have:=hmd n hn;omega,hkl]
    have e:zeF (pre++r) ⟨pre.length,q.2,q.1⟩=(pre++zeR (r.take q.2) q.1)++r.drop q.2:=by
     unfold zeF zeR;dsimp only
     cases hm:mdF q.1 with
     |none=>
      dsimp only;rw[yA6,yC2]
     |some m=>
      dsimp only;have:=hmd m hm;rw[hkl,show pre.length+q.2-4-m=pre.length+(q.2-4-m) by omega,List.take_length_add_append,List.drop_length_add_append,List.take_take,yGc zB];simp only[yA6]
    show msL (zeF (pre++r) ⟨pre.length,q.2,q.1⟩) (gK n (r.drop q.2) (pre.length+q.2))=_
    have ih:=zG9 n (r.drop q.2) (pre++zeR (r.take q.2) q.1) λx hx=>hb x (yBc hx)
    rw[yAf,hz]at ih;rw[e,ih,yA6]
   ·rw[yAc hc,yAc hc];rfl
def zTg {b:List Int} (hb:BY b):AN b=if whF b=true then zR b.length b else b:=by
 have:=zG9 b.length b [] hb;rw[yCc,yCc]at this;unfold AN;rw[<-this];rfl
def zTh {m:Ms} (h:bS m):BY (bT m):=by
 have hs:=(dT h.2).choose_spec;have e:bT m=FI m.kind (dT h.2).choose:=by unfold bT;rw[yFo h]
 rw[e];generalize (dT h.2).choose=p at *;obtain⟨h1,h2,_⟩:=hs;have hk:=h.2.kk;have h3:=h2.1;intro x hx;simp only[FI,eG,LB,yC5,yCc,yBt,yAz,yBl]at hx
 rcases hx with rfl|rfl|rfl|rfl|rfl|rfl|hx|⟨i,_,rfl⟩
 ·omega
 ·omega
 ·omega
 ·omega
 ·omega
 ·omega
 ·exact h1.1 x hx
 ·exact zK4 _
theorem WJ:∀{l:List Ms},(∀m∈l,bS m)->BY (qN l)
 | [],_=>qY
 |m::l,h=>λx hx=>by
  have e:qN (m::l)=bT m++qN l:=rfl;rw[e]at hx
  rcases yAz.1 hx with hx|hx
  ·exact zTh (h m zS) x hx
  ·exact WJ (λm hm=>h m (by simp[hm])) x hx
theorem zAc:∀(l:List Ev) {b:WI},LF b->(∀e∈l,bX e)->b.y.now+(l.length:Int)<1000000000->∀p∈SP b l,p.1.length=b.ss.length/\∀x∈p.1,BY x/\x.length<=400000
 | [],b,_,_,_,p,hp=>by cases hp
 | e::l,b,h,he,hn,p,hp=>by
  rw[yAp]at hn;have k:=fY h zB (he e zS);have kn:=k.n;have hl:((gW b e).b.ss.length:Int)=b.ss.length:=by rw[k.i.l,h.l,k.c]
  have ih:=zAc l k.i (λx hx=>he x RS) zB;have hp:p∈(if(gW b e).fl=true then [((gW b e).S,(gW b e).f)]else [])++SP (gW b e).b l:=hp
  rcases yAz.1 hp with hp|hp
  ·by_cases hf:(gW b e).fl=true
   ·rw[yAd hf]at hp;obtain rfl:=yBe.1 hp;refine⟨k.t hf,λx hx=>?_⟩;obtain⟨y',Td,hM,h3,_⟩:=k.t6 (k.f6 hf);have eS:(gW b e).S=Td.map qN:=by rw[h3]
    rw[eS]at hx;obtain⟨z,hz,rfl⟩:=yBl.1 hx;obtain⟨v1,v2⟩:=hM.v z hz;have:=aX v2;exact⟨WJ v2,zB⟩
   ·rw[yAc hf]at hp;cases hp
  ·obtain⟨i1,i2⟩:=ih p hp;exact⟨zB,i2⟩
def zCh {i:Nat} {n q:Int} (h5:i<=4) (q0:0<=q) (q1:0<i->0<q) (hq:q<128) (hb:n+q*128 ^ i<=4294967295) (r:List Int):ZI (q::r) i n=(n+q*128 ^ i,(i:Int)+1,0):=by
 have ht:q.tmod 128=q:=by rw[yBz q0];omega
 rw[ZI,yAc zB,yAc zB,ht,yAc (by
  rintro(h|⟨h1,h2⟩)
  ·omega
  ·have:=q1 h1;omega)]
theorem zHa:∀(f:Nat) (q:Int) (i:Nat) (n:Int) (r:List Int),i+f=4->0<=q->(0<i->0<q)->0<=n->n+q*128 ^ i<=4294967295->ZI (EL f q++r) i n=(n+q*128 ^ i,(i:Int)+((EL f q).length:Int),0)
 | 0,q,i,n,r,h,q0,q1,n0,hb=>by
  obtain rfl:i=4:=by omega
  have hq:q<128:=by
   have:q*268435456<=4294967295:=by
    have h1:(128:Int) ^ 4=268435456:=by decide
    rw[h1]at hb;omega
   omega
  exact zCh zB q0 q1 hq hb r
 | f+1,q,i,n,r,h,q0,q1,n0,hb=>by
  by_cases hq:q<128
  ·rw[WR hq];exact zCh zB q0 q1 hq hb r
  ·rw[OV zB];have ht:(q % 128+128).tmod 128=q % 128:=by rw[yBz zB];omega
   have e:(q % 128)*128 ^ i+(q/128)*128 ^ (i+1)=q*128 ^ i:=by
    rw[yFr,Int.mul_comm (128 ^ i) 128,<-Int.mul_assoc,<-Int.add_mul]
    congr 1
    omega
   have hp:(0:Int)<=128 ^ i:=Int.pow_nonneg zB;have hm:0<=(q % 128)*128 ^ i:=yGd zB hp;rw[yC5,ZI,yAc zB,yAd zB,ht,zHa f (q/128) (i+1) _ r zB zB (λ_=>by omega) zB zB,yAp,Int.add_assoc,e]
   congr 1
   congr 1
   omega
def zTi {q:Int} (q0:0<=q) (q1:q<=4294967295) (r:List Int):cF (qQ q++r)=(q,((qQ q).length:Int),0):=by
 have h:=zHa 4 q 0 0 r Z q0 (λh=>absurd h zB) (yCj _) wF;simp at h;exact h
theorem zR7:∀(l:List Int) (r:List Int),(∀x∈l,0<=x/\x<=4294967295)->aE l.length ((l.map qQ).flatten++r)=some (l,r)
 | [],r,_=>rfl
 |v::l,r,h=>by
  obtain⟨v0,v1⟩:=h v zS;have e:((v::l).map qQ).flatten++r=qQ v++((l.map qQ).flatten++r):=by simp
  rw[e,yAp,aE,zTi v0 v1];dsimp only;rw[yAd Z,show((qQ v).length:Int).toNat=(qQ v).length from Z,yEj,zR7 l r λx hx=>h x RS]
theorem zHb (f g gr:Int) (ar:List Int) (f0:0<=f):∀i,i<=ar.length->KZ f g gr ar i=if(i:Int)<=f∨g<=0 then((ar.take i).map qQ).flatten else((ar.take f.toNat).map qQ).flatten++(qQ gr++(((ar.drop f.toNat).take (i-f.toNat)).map qQ).flatten)
 |0,_=>by rw[yAd zB];rfl
 | i +1,hi=>by
  have ih:=zHb f g gr ar f0 i zB
  have e:ar.take (i+1)=ar.take i++[ar.getD i default]:=by
   rw[yAk,yAr zB,yCh,yDq zB]
  unfold KZ;by_cases hg:g<=0
  ·rw[yAc zB,ih,yAd (.inr hg),yAd (.inr hg),e,yAn,yCv];simp
  ·by_cases h1:(i:Int)<f
   ·rw[yAc zB,ih,yAd zB,yAd zB,e,yAn,yCv];simp
   ·rw[yAc (show¬(((i+1:Nat):Int)<=f∨g<=0) by omega)]
    have e2:(ar.drop f.toNat).take (i+1-f.toNat)=(ar.drop f.toNat).take (i-f.toNat)++[ar.getD i default]:=by
     rw[show i+1-f.toNat=(i-f.toNat)+1 by omega,yDq RT,List.getElem_drop,yAk,yAr zB,yCh]
     congr 3
     omega
    rw[e2,yAn,yCv];by_cases h2:(i:Int)=f
    ·subst h2;rw[yAd ⟨rfl,zB⟩,ih,yAd zB];simp
    ·rw[yAc zB,ih,yAc zB];simp
def zTj (f g gr:Int) (ar:List Int) (f0:0<=f) (hf:f<=ar.length):MF f g gr ar ar.length=((ar.take f.toNat).map qQ).flatten++((if 0<g then qQ gr else [])++((ar.drop f.toNat).map qQ).flatten):=by
 have ih:=zHb f g gr ar f0 ar.length (yAg _);have ed:(ar.drop f.toNat).take (ar.length-f.toNat)=ar.drop f.toNat:=yAo (by rw[yA7];exact yAg _);rw[ed,yAh]at ih;unfold MF;by_cases hg:g<=0
 ·rw[yAc zB,ih,yAd (.inr hg),yAc zB,yCc,<-yCv,<-yAn,yC2]
 ·rw[yAd (show 0<g by omega)];by_cases h2:(ar.length:Int)=f
  ·rw[yAd ⟨h2,zB⟩,ih,yAd zB,yAo zB,yDr zB];simp
  ·rw[yAc zB,ih,yAc zB]
def u32_in {n:Int} (h:0<=n/\n<4294967296):IntKind.u32.wrap n=n:=by
 unfold IntKind.wrap;simp[IntKind.signed,IntKind.bits];omega
def zCi (a c:Nat) (ha:a<4294967296) (hc:c<4294967296):orU (a:Int) (c:Int)=((a ||| c:Nat):Int):=by
 unfold orU
 have h1:(BitVec.ofInt IntKind.u32.bits (a:Int) ||| BitVec.ofInt IntKind.u32.bits (c:Int)).toNat=a ||| c:=by
  rw[yF6,yDy,yDy,yDv,yDv,yC6 (show a<2 ^ IntKind.u32.bits from ha),yC6 (show c<2 ^ IntKind.u32.bits from hc)]
 rw[h1]
 have h2:a ||| c<2 ^ 32:=yF2 ha hc
 exact u32_in ⟨zB,zB⟩
def fF {n x:Int} (hn:0<=n/\n<16777216) (hx:0<=x/\x<256):orU (IntKind.u32.wrap (n*2 ^ (min (8:Int).toNat IntKind.u32.bits))) x=n*256+x:=by
 rw[show n*2 ^ (min (8:Int).toNat IntKind.u32.bits)=n*256 from Z,u32_in zB];obtain⟨a,rfl⟩:=yCa hn.1;obtain⟨c,rfl⟩:=yCa hx.1;have h2:=zCi (a*256) c zB zB;have h3:=yEb (show c<2 ^ 8 by omega) a;rw[yFm]at h3;rw[show((a:Int)*256)=((a*256:Nat):Int) by omega,h2,<-h3];omega
def zTk (y:Int):IntKind.u8.wrap y=y % 256:=by
 unfold IntKind.wrap;simp[IntKind.signed,IntKind.bits]
def zN2 {c:Int} (h:0<=c/\c<4294967296):XS (LB c)=c:=by
 have e:LB c=[c/16777216 % 256,c/65536 % 256,c/256 % 256,c % 256]:=by
  unfold LB;simp only[show List.range 4=[0,1,2,3]from Z,yBs,yCq,zTk];rw[show c.fdiv (2 ^ (min (8*(3-((0:Nat):Int))).toNat IntKind.u32.bits))=c.fdiv 16777216 from Z,show c.fdiv (2 ^ (min (8*(3-((1:Nat):Int))).toNat IntKind.u32.bits))=c.fdiv 65536 from Z,show c.fdiv (2 ^ (min (8*(3-((2:Nat):Int))).toNat IntKind.u32.bits))=c.fdiv 256 from Z,show c.fdiv (2 ^ (min (8*(3-((3:Nat):Int))).toNat IntKind.u32.bits))=c.fdiv 1 from Z];rw[yCu _ zB,yCu _ zB,yCu _ zB,yCu _ zB,Int.ediv_one]
 rw[e];unfold XS;simp only[yGb,List.foldl_nil];have a1:0<=c/16777216 % 256/\c/16777216 % 256<256/\c/16777216 % 256=c/16777216:=by omega
 have a2:0<=c/65536 % 256/\c/65536 % 256<256/\c/65536=c/16777216*256+c/65536 % 256:=by omega
 have a3:0<=c/256 % 256/\c/256 % 256<256/\c/256=c/65536*256+c/256 % 256:=by omega
 have a4:0<=c % 256/\c % 256<256/\c=c/256*256+c % 256:=by omega
 have b2:c/65536<=65535:=by omega
 have b3:c/256<=16777215:=by omega
 generalize c/16777216 % 256=x1 at *;generalize c/65536 % 256=x2 at *;generalize c/256 % 256=x3 at *;generalize c % 256=x4 at *;rw[fF (n:=0) (x:=x1) ⟨zB,zB⟩ ⟨zB,zB⟩,fF (n:=0*256+x1) (x:=x2) ⟨zB,zB⟩ ⟨zB,zB⟩,fF (n:=(0*256+x1)*256+x2) (x:=x3) ⟨zB,zB⟩ ⟨zB,zB⟩,fF (n:=((0*256+x1)*256+x2)*256+x3) (x:=x4) ⟨zB,zB⟩ ⟨zB,zB⟩];omega
def zN3 {k:Int} {p:List Int} (hk:1<=k/\k<=22) (hp:p.length<=200) (r:List Int):UG (FI k p++r)=some (⟨0,k,p⟩,p.length+10):=by
 have hc:=zI9 (eG k p.length++p);have hn:=zN2 hc;have hl4:(LB (gN (eG k p.length++p))).length=4:=by unfold LB;simp
 obtain⟨b4,hb4⟩:∃b,b=LB (gN (eG k p.length++p)):=⟨_,rfl⟩;have e:FI k p++r=90::165::1::k::0::(p.length:Int)::(p++(b4++r)):=by rw[hb4];simp[FI,eG]
 rw[<-hb4]at hn hl4;have hd:eG k p.length++p=1::k::0::(p.length:Int)::p:=rfl;rw[hd]at hn;rw[e]
 have hpn:dG (90::165::1::k::0::(p.length:Int)::(p++(b4++r)))=p.length:=by
  unfold dG
  show(0:Int).toNat*256+((p.length:Nat):Int).toNat=p.length
  simp
 have hlen:(90::165::1::k::0::(p.length:Int)::(p++(b4++r))).length=p.length+10+r.length:=by simp only[yAp,yAf];omega
 have e1:((90::165::1::k::0::(p.length:Int)::(p++(b4++r))).drop 2).take (p.length+4)=1::k::0::(p.length:Int)::p:=by
  show(1::k::0::(p.length:Int)::(p++(b4++r))).take (p.length+4)=_
  simp only[yE4];rw[yGf]
 have e2:((90::165::1::k::0::(p.length:Int)::(p++(b4++r))).drop (p.length+6)).take 4=b4:=by
  show((p++(b4++r)).drop p.length).take 4=b4
  rw[yEj];exact yE7 hl4
 have e3:((90::165::1::k::0::(p.length:Int)::(p++(b4++r))).drop 6).take p.length=p:=by
  show(p++(b4++r)).take p.length=p
  exact yGf
 unfold UG;rw[hlen,hpn,yAc zB,yAc (by rintro(h|⟨_,h⟩)<;>exact h rfl),yAc zB,yAc zB,yAc zB,e1,e2,yAc (by rw[hn];exact λh=>h rfl),yAc (λh=>h rfl),yAc (by show¬(k<1∨22<k);omega),e3];rfl
section
open Classical in
noncomputable def pyM (m:Ms):List Int:=if h:bS m then(dT h.2).choose else []
def zAd {m:Ms} (h:bS m):bT m=FI m.kind (pyM m)/\(BY (pyM m)/\PyF m.kind m.args m.data (pyM m))/\(pyM m).length<=200:=by
 have hs:=(dT h.2).choose_spec;have e1:bT m=FI m.kind (dT h.2).choose:=by unfold bT;rw[yFo h]
 have e2:pyM m=(dT h.2).choose:=by unfold pyM;rw[yFo h]
 rw[e1,e2];exact⟨rfl,hs.1,hs.2.1.1⟩
noncomputable def RA (m:Ms):It×Nat:=(⟨0,m.kind,pyM m⟩,(pyM m).length+10)
def zCj (k:Int) (p:List Int):(FI k p).length=p.length+10:=by
 simp only[FI,LB,eG,yAp,yAf,yAe,yB1,yBk];omega
end
theorem zHc {h:Int} {c:Cf}:∀(l:List Ev) {b b':WI},LF b->LF b'->NaC b.y->b.y.c=c->Tw h b b'->(∀e∈l,bX e)->b.y.now+(l.length:Int)<1000000000->
  (SP b' (UF c h l)).length=(SP b l).length/\(UB b l).length=(SP b l).length/\(UB b' (UF c h l)).length=(SP b l).length/\
  ∀(i:Nat) p q v w,(SP b l)[i]? =some p->(SP b' (UF c h l))[i]? =some q->(UB b l)[i]? =some v->(UB b' (UF c h l))[i]? =some w->TwO c h p.1 q.1 v w
 | [],_,_,_,_,_,_,_,_,_=>⟨rfl,rfl,rfl,λi p q v w h1=>by cases h1⟩
 | e::l,b,b',hb,hb',N,hc,T,he,hn=>by
  subst hc;rw[yAp]at hn;have D:=fY hb zB (he e zS);have D':=fY hb' (by rw[T.n];omega) (zCs (c:=b.y.c) (a:=h) (he e zS));have Dn:=D.n;obtain⟨T1,N1,f1,o1⟩:=T.step hb hb' N zB (he e zS);obtain⟨i1,i2,i3,i4⟩:=zHc (c:=b.y.c) l D.i D'.i N1 D.c T1 (λx hx=>he x RS) zB;rw[show UF b.y.c h (e::l)=KG b.y.c h e::UF b.y.c h l from Z];unfold SP UB;rw[f1]
  cases hf:(gW b e).fl with
  |false=>
   rw[yAc yAx,yAc yAx,yAc yAx,yAc yAx,yCc,yCc,yCc,yCc];exact⟨i1,i2,i3,i4⟩
  |true=>
   rw[yAd Z,yAd Z,yAd Z,yAd Z,yDu,yDu,yDu,yDu];refine⟨by rw[yAp,yAp,i1],by rw[yAp,yAp,i2],by rw[yAp,yAp,i3],λi p q v w a1 a2 a3 a4=>?_⟩
   cases i with
   |zero=>cases a1;cases a2;cases a3;cases a4;exact o1 hf
   |succ i=>exact i4 i p q v w (by simpa using a1) (by simpa using a2) (by simpa using a3) (by simpa using a4)
theorem zCk:∀(l:List (It×List Int)) (n:Nat),(∀q∈l,zHk q)->((l.map (·.2)).flatten).length<=n->zR n (l.map (·.2)).flatten=(l.map λq=>zeR q.2 q.1).flatten
 | [],0,_,_=>rfl
 | [],n+1,_,_=>rfl
 |q::l,n,hg,hn=>by
  obtain⟨h1,h2⟩:=hg q zS;have h3:=(JU h1 h2 (l.map (·.2)).flatten).1;rw[show(q.1,q.2.length).2=q.2.length from Z,yAo (yAg _)]at h3;have e:((q::l).map (·.2)).flatten=q.2++(l.map (·.2)).flatten:=by simp
  rw[e]at hn⊢;rw[yAf]at hn;have hp:1<=q.2.length:=PH h1;obtain⟨n,rfl⟩:∃m,n=m+1:=⟨n-1,zB⟩;unfold zR;rw[h3];dsimp only;rw[yAd h2,yE7 Z,List.drop_left' Z,zCk l n (λx hx=>hg x RS) zB];simp
theorem zR8:∀(l:List (It×List Int)) (a:Nat),wA a (gpF l a)=a+((l.map (·.2)).flatten).length
 | [],a=>by simp[gpF,wA]
 |q::l,a=>by
  show wA (a+q.2.length) (gpF l (a+q.2.length))=_
  rw[zR8 l];simp;omega
def zHd {l:List (It×List Int)} (hg:∀q∈l,zHk q):whF (l.map (·.2)).flatten=true:=by
 unfold whF;rw[FY l _ 0 hg (yAg _)];have:=zR8 l 0;rw[yBv]at this;exact yAj this
def zAe {m:Ms} (h:bS m):zHk ((RA m).1,bT m):=by
 obtain⟨e1,_,e3⟩:=zAd h;have hk:=h.2.kk;have:=zN3 (k:=m.kind) (p:=pyM m) zB e3 [];rw[yA8]at this;refine⟨?_,rfl⟩;dsimp only;rw[e1,this,zCj];rfl
def zCl {l:List Ms} (h:∀m∈l,bS m):AN (qN l)=(l.map λm=>zeR (bT m) (RA m).1).flatten:=by
 have hg:∀q∈l.map (λm=>((RA m).1,bT m)),zHk q:=λq hq=>by
  obtain⟨m,hm,rfl⟩:=yBl.1 hq;exact zAe (h m hm)
 have e:((l.map (λm=>((RA m).1,bT m))).map (·.2)).flatten=qN l:=by rw[yEz];rfl
 have h1:=zCk _ (qN l).length hg (by rw[e];exact yAg _);have h2:=zHd hg;rw[e]at h1 h2;rw[zTg (WJ h),yAd h2,h1,yEz];rfl
def JT {u:Int} {z:List Int} (h:bS ⟨17,[],[u],z⟩):pyM ⟨17,[],[u],z⟩=qQ u++z:=by
 obtain⟨_,⟨_,gr,_,_,e⟩,_⟩:=zAd h;rw[e]
 show MF 1 0 gr [u] ([u]:List Int).length++z=_
 rw[zTj 1 0 gr [u] zB zS];simp
def zHe {u:Int} {z:List Int} (h:bS ⟨17,[],[u],z⟩):zeR (bT ⟨17,[],[u],z⟩) (RA ⟨17,[],[u],z⟩).1=90::165::(eG 17 ((qQ u).length+z.length)++qQ u)++List.replicate (z.length+4) 0/\(bT ⟨17,[],[u],z⟩).length=(qQ u).length+z.length+10:=by
 obtain⟨e1,_,e3⟩:=zAd h;have hu:=h.2.n u zS;rw[JT h]at e3;have hl:(qQ u++z).length=(qQ u).length+z.length:=yAf
 have hm:mdF (RA ⟨17,[],[u],z⟩).1=some z.length:=by
  unfold RA mdF dtF;rw[JT h];dsimp only;rw[yAd (.inl Z),yAc zB];have:=zR7 [u] z (λx hx=>by rw[yBe.1 hx];exact hu);rw[show(([u].map qQ).flatten:List Int)=qQ u by simp]at this;rw[show(1:Nat)=[u].length from Z,this];rfl
 have hb:bT ⟨17,[],[u],z⟩=(90::165::(eG 17 ((qQ u).length+z.length)++qQ u))++(z++LB (gN (eG 17 (qQ u++z).length++(qQ u++z)))):=by
  rw[e1,JT h];unfold FI;rw[hl];simp
 have hbl:(bT ⟨17,[],[u],z⟩).length=(qQ u).length+z.length+10:=by rw[e1,zCj,JT h,hl]
 refine⟨?_,hbl⟩;unfold zeR;rw[hm];dsimp only;rw[hbl,hb,show(qQ u).length+z.length+10-4-z.length=(qQ u).length+6 by omega,yE7 (by simp[eG])]
def zN4 {L:List Ms} {d:xJ} {u:Int} {v w:List Vw} (h1:∀m∈L++[jQ d v u],bS m) (h2:bS (jQ d w u)) (hl:(YP v).length=(YP w).length):
  (qN (L++[jQ d v u])).length=(qN (L++[jQ d w u])).length/\AN (qN (L++[jQ d v u]))=AN (qN (L++[jQ d w u])):=by
 have h3:∀m∈L++[jQ d w u],bS m:=λm hm=>by
  rcases yAz.1 hm with hm|hm
  ·exact h1 m (by simp[hm])
  ·rw[yBe.1 hm];exact h2
 obtain⟨a1,a2⟩:=zHe (h1 (jQ d v u) zS);obtain⟨b1,b2⟩:=zHe h2;have hz:∀v,(YP v++cqL d.rq v u (d.rg.ag.req.toNat*3)).length=(YP v).length+d.rg.ag.req.toNat*3:=λv=>by rw[yAf];simp[cqL]
 rw[hz]at a1 a2 b1 b2;rw[<-hl]at b1 b2;refine⟨?_,?_⟩
 ·rw[YQ,YQ,yAf,yAf]
  show _+(bT ⟨17,[],[u],_⟩).length=_+(bT ⟨17,[],[u],_⟩).length
  rw[a2,b2]
 ·rw[zCl h1,zCl h3,yAn,yAn,yCv,yCv]
  congr 1
  show List.flatten [zeR (bT ⟨17,[],[u],_⟩) (RA ⟨17,[],[u],_⟩).1]=List.flatten [zeR (bT ⟨17,[],[u],_⟩) (RA ⟨17,[],[u],_⟩).1]
  rw[a1,b1]
end Av
end Go.Proofs.YteajjdidebfcjaaGreat
