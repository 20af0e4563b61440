/- Part 25. -/
import Derived.Test.YteajjdidebfcjaaGreatV24
namespace Go.Proofs.YteajjdidebfcjaaGreat
namespace Av
open Tryz
set_option linter.all false
set_option maxRecDepth 4000
set_option maxHeartbeats 4000000
def zDz (l:List Int) (hl:l.length<=1073741824):zO 66 [zD yA l] [] (.ref 1001 0 (l.map yA).length) [(1001,.arr 1 (l.map yA) false)]:=by
 have hll:=zA yA l;refine eM call66 λF hF=>?_
 refine yX 0 Z (λcap hx=>?_) ?_
 ·have:l=[]:=by simpa using hx
  subst this
  (repeat' (first|refine WZN ?_|apply xL|apply wB|intro hc|fail))
  refine uK 2 1001 1 Z Z Z (yU ?_);exact zL [1001] Z Z Z Z
 ·repeat' (first|(refine zE ?_;first|refine wL tok Z Z ?_|(refine xM ?_;refine zP (yG tok (.inl ⟨rfl,rfl⟩) Z Z Z Z) Z ?_)|(refine xR ?_;refine qE (nw:=[1001]) (yK tok 1001 (xs:=[]) Z Z Z Z Z Z Z Z Z) Z Z Z ?_)|(refine yD ?_;refine xF tok Z Z Z Z Z Z Z (zN _ _ (λ_=>rfl)) Z Z Z zB Z ?_)|refine uI ?_)|(first|refine xS ?_|refine xC ?_|refine vQ Z ?_|refine yC Z ?_|refine zU Z ?_|refine xH Z (λhc=>?_) λhc=>?_|refine yZ ?_|refine yU ?_|refine xB ?_|refine yQ ?_))
  exact zL [1001] Z Z Z Z
def zD0 (k:Int) (h:k=17∨k=21):zO 103 [iA k] [] (.tup [.agg [iA 0,iA 1,iA 0,iA 0,iA 0,iA (-1)],bA true]) []:=by
 obtain rfl|rfl:=h
 all_goals (refine eM call103 λF hF=>?_)
 all_goals (refine WW ?_)
 all_goals exact zJ
def GW (p:List Int):Option (List Int×List Int):=if 200<p.length then none else aH 1 p
def dtT (k:Int):Option (List Int×List Int)->AV
 |none=> .tup [yF ⟨0,[],[],[]⟩,iA 6]
 |some q=> .tup [yF ⟨k,[],q.1,q.2⟩,iA 0]
def zMg (k:Int) (h:k=17∨k=21) (p:List Int) (hb:BY p) (hn:p.length<=100000):zO 69 [iA k,zD yA p] [] (dtT k (GW p)) []:=by
 have hl:=zA yA p;have c1:=zD0 k h;by_cases h2:200<p.length
 ·rw[show GW p=none from zX3 h2]
  show zO 69 [iA k,zD yA p] [] (.tup [yF ⟨0,[],[],[]⟩,iA 6]) []
  refine eM call69 λF hF=>?_
  refine zY c1 ?_;exact zJ
 rw[show GW p=aH 1 p from zX2 h2];have c2:=XA p 1 hb hn zB
 cases hnb:aH 1 p with
 |none=>
  rw[hnb]at c2
  show zO 69 [iA k,zD yA p] [] (.tup [yF ⟨0,[],[],[]⟩,iA 6]) []
  unfold ME at c2;refine eM call69 λF hF=>?_
  (have zc1:=c1;have zc2:=c2;(repeat' (first|refine uJ ?_|apply xL|apply wB|intro hc|(refine zE ?_;first|refine SM ?_|(refine uB ?_;first|refine cJ tok Z Z Z Z Z (zN _ _ (λ_=>rfl)) zB (yCw _) Z Z ?_|refine gQ tok Z Z Z Z Z (zN _ _ (λ_=>rfl)) zB (yCw _) Z Z ?_))|fail))<;>clear zc1 zc2)
  exact zJ
 | some q=>
  obtain⟨a,r⟩:=q;obtain⟨ha,hbr,har,hsp⟩:=gF _ _ _ _ hb hnb
  have hrl:r.length<=100000:=by
   have:=zY3 List.length hsp;rw[zX4]at this;omega
  have hlr:=zA yA r;have hla:=zA iA a;rw[hnb]at c2;unfold ME at c2;have k1:=wK [] zW;have k2:=wK r zB
  show zO 69 [iA k,zD yA p] [] (.tup [yF ⟨k,[],a,r⟩,iA 0]) []
  refine eM call69 λF hF=>?_
  (have zc1:=c1;have zc2:=c2;have zc3:=k1;have zc4:=k2;(repeat' (first|refine uJ ?_|apply xL|apply wB|intro hc|(refine zE ?_;first|refine SM ?_|(refine uB ?_;first|refine cJ tok Z Z Z Z Z (zN _ _ (λ_=>rfl)) zB (yCw _) Z Z ?_|refine gQ tok Z Z Z Z Z (zN _ _ (λ_=>rfl)) zB (yCw _) Z Z ?_))|fail))<;>clear zc1 zc2 zc3 zc4)
  exact zJ
def GX (i:It):Option Nat:=if i.kind=17∨i.kind=21 then(GW i.pay).map (λq=>q.2.length)else none
def zeF (b:List Int) (p:Pc):List Int:=match GX p.it with
 |none=>b
 |some n=>b.take (p.fr+p.k-4-n)++List.replicate (n+4) 0++b.drop (p.fr+p.k)
def BW (b:List Int) (l:List Pc):List Int:=l.foldl zeF b
def BX (b:List Int):List Int:=if whF b=true then BW b (uP b.length b 0)else b
def zF1 (b:List Int) {l:List Pc} {i:Nat} {p:Pc} (h:l[i]? =some p):BW b (l.take (i+1))=zeF (BW b (l.take i)) p:=by
 unfold BW;rw[yAj,h,yC3];rfl
def YT {b:List Int} {p:It×Nat} (h:ZG b=some p) (hc:p.1.code=0):p.1.pay.length+10=p.2/\p.2<=b.length/\p.1.pay=(b.drop 6).take (p.2-10)/\p.1.pay.length<=200:=by
 unfold ZG at h
 repeat' split at h
 all_goals (first|(cases h;done)|(cases h;cases hc;done)|skip)
 all_goals (cases h;dsimp only;refine⟨?_,zB,rfl,?_⟩<;>(rw[zYn,zYv];omega))
def QT {p:List Int} (hb:BY p) {q:List Int×List Int} (h:GW p=some q):q.2.length<=p.length:=by
 unfold GW at h;split at h
 ·cases h
 ·obtain⟨a,r⟩:=q;obtain⟨_,_,_,h4⟩:=gF _ _ _ _ hb h;have:=zY3 List.length h4;rw[zX4]at this;dsimp only;omega
structure PcB (L:Nat) (p:Pc):Prop where
 c:p.it.code=0
 y:BY p.it.pay
 l:p.it.pay.length+10=p.k
 e:p.fr+p.k<=L
 u:p.it.pay.length<=200
def zBq {n:Nat}:∀{r:List Int} {a:Nat},BY r->∀p∈uP n r a,PcB (a+r.length) p:=by
 induction n with
 |zero=>intro r a _ p hp;cases hp
 | succ n ih=>
  intro r a hr p hp;unfold uP at hp;split at hp
  ·cases hp
  ·rename_i q hq;split at hp
   ·rename_i hc;obtain⟨h1,h2,h3,h4⟩:=YT hq hc
    rcases zZg.1 hp with rfl|hp
    ·exact⟨hc,by dsimp only;rw[h3];exact λx hx=>hr x (zY1 (zZl hx)),h1,by dsimp only;omega,h4⟩
    ·have h:=ih (λx hx=>hr x (zY1 hx)) p hp;rw[zYv]at h;exact⟨h.c,h.y,h.l,by have:=h.e;omega,h.u⟩
   ·cases hp
def zF2 {L:Nat} {p:Pc} (h:PcB L p) {n:Nat} (hm:GX p.it=some n):n+10<=p.k:=by
 unfold GX at hm;split at hm
 ·rw[zYf]at hm;obtain⟨q,hq,rfl⟩:=hm;have:=QT h.y hq;have:=h.l;omega
 ·cases hm
def zMh {b:List Int} {p:Pc} (h:PcB b.length p):(zeF b p).length=b.length:=by
 unfold zeF;split
 ·rfl
 ·rename_i n hn;have:=zF2 h hn;have:=h.e;simp only[zX4,zYn,zYv,zZs];omega
def KS (b:List Int) (l:List Pc):∀(L:Nat),b.length=L->(∀p∈l,PcB L p)->(BW b l).length=L:=by
 induction l generalizing b with
 |nil=>intro L h _;exact h
 |cons p l ih=>
  intro L h hp;subst h;exact ih (zeF b p) b.length (zMh (hp p zW)) λq hq=>hp q (by simp[hq])
def zRk {X:List Int} {o n c:Nat} (h:o+n+4<=X.length) (hc:c=n) (z:AV) (hz:z=yA 0):(((X.map yA).take o++List.replicate c z++(X.map yA).drop (o+c)).take (o+n)++[z,z,z,z]++((X.map yA).take o++List.replicate c z++(X.map yA).drop (o+c)).drop (o+n+4))=(X.take o++List.replicate (n+4) 0++X.drop (o+n+4)).map yA:=by
 subst hz hc;have e1:((X.map yA).take o++List.replicate c (yA 0)).length=o+c:=by simp;omega
 have e2:((X.map yA).take o++List.replicate c (yA 0)++(X.map yA).drop (o+c)).take (o+c)=(X.map yA).take o++List.replicate c (yA 0):=by
  rw[<-e1];exact List.take_left
 have e3:((X.map yA).take o++List.replicate c (yA 0)++(X.map yA).drop (o+c)).drop (o+c+4)=(X.map yA).drop (o+c+4):=by
  rw[List.drop_append,e1,yBq zB,yAm,yCc]
  congr 1
  omega
 rw[e2,e3,zYd,zYd,yBd,yBc,yCh,zYw (List.take o _),show([yA 0,yA 0,yA 0,yA 0]:List AV)=List.replicate 4 (yA 0)from Z,List.replicate_append_replicate]
theorem BZ (b:List Int) (hb:BY b) (hl:b.length<=1000000):zO 31 [zD yA b] [] (.ref 1001 0 (b.map yA).length) [(1001,.arr 1 ((BX b).map yA) false)]:=by
 have hbl:=zA yA b;have kw:=zMj b hb hl;have kc:=zDz b zB;by_cases hw:whF b=true
 case neg=>
  rw[show BX b=b from zX2 hw];have hw:whF b=false:=by simpa using hw
  rw[hw]at kw;refine eM call31 λF hF=>?_
  refine yR (wZ kc kw) ?_;exact zL [1001] Z Z Z Z
 rw[show BX b=BW b (uP b.length b 0)from zX3 hw];rw[hw]at kw;clear hw;have kp:=LE b;have ht:=PR b hb hl;have hL:vfL b=(uP b.length b 0).map λp=>[pcA p]:=rfl
 have hbd:=zBq (n:=b.length) (a:=0) hb;rw[zZm]at hbd;unfold psH at kp ht;refine eM call31 λF hF=>?_
 refine yR (fQ kc kw kp) ?_
 refine vM hF ht Z [3,1001] [3] Z Z Z Z Z Z Z Z Z (λk ys h=>?_) (λj=>[(3,.box [.ref 1001 0 (b.map yA).length]),(1001,.arr 1 ((BW b ((uP b.length b 0).take j)).map yA) false)]) (λ_=>True)
  (T:=[(3,.ptr 3 0 0)]) Z trivial (λj ys q hys hI F1 h1 h2=>?_) (λhI=>?_)
 ·rw[hL,zX8,zYf]at h;obtain⟨x,_,rfl⟩:=h;rfl
 ·rw[hL,zX8,zYf]at hys;obtain⟨p,hp,rfl⟩:=hys;rw[zF1 b hp];have hP:=hbd p (zZk hp);have hpl:=hP.l;have hpe:=hP.e;have hpu:=hP.u;have hlen:=KS b ((uP b.length b 0).take j) b.length Z λq hq=>hbd q (zZl hq)
  have hpy:=hP.y;have hmd:=λn (h:GX p.it=some n)=>zF2 hP h
  have hxl:=zA yA (BW b ((uP b.length b 0).take j));have hpp:=zA yA p.it.pay;clear hL hbd hp ht kp kw kc hP;generalize BW b ((uP b.length b 0).take j)=X at *;unfold pcA;refine WW ?_;refine⟨rfl,λF2 g1 g2=>?_⟩;dsimp only;by_cases hk:p.it.kind=17∨p.it.kind=21
  case neg=>
   rw[show zeF X p=X by unfold zeF GX;rw[zX2 hk]];have hk1:p.it.kind≠17:=λh=>hk (.inl h)
   have hk2:p.it.kind≠21:=λh=>hk (.inr h)
   refine WW ?_;exact⟨rfl,trivial⟩
  have kd:=zMg p.it.kind hk p.it.pay hpy zB
  cases hd:GW p.it.pay with
  | none=>
   rw[hd]at kd;rw[show zeF X p=X by unfold zeF GX;rw[zX3 hk,hd];rfl];unfold dtT yF at kd
   rcases hk with hk|hk
   ·(refine zY kd ?_)
    exact⟨rfl,trivial⟩
   ·(refine zY kd ?_)
    exact⟨rfl,trivial⟩
  | some q=>
   rw[hd]at kd;have hm:GX p.it=some q.2.length:=by unfold GX;rw[zX3 hk,hd];rfl
   have hn:=hmd _ hm;rw[show zeF X p=X.take (p.fr+p.k-4-q.2.length)++List.replicate (q.2.length+4) 0++X.drop (p.fr+p.k) by unfold zeF;rw[hm]];unfold dtT yF at kd;dsimp only at kd;have hql:=zA yA q.2;obtain⟨o,ho⟩:∃o:Nat,p.fr+p.k=o+q.2.length+4:=⟨p.fr+p.k-q.2.length-4,zB⟩;rw[show p.fr+p.k-4-q.2.length=o by omega,show X.drop (p.fr+p.k)=X.drop (o+q.2.length+4) by rw[ho],<-zRk (X:=X) (o:=o) (n:=q.2.length) (c:=o+q.2.length-o) zB zB (.s (.int .u8 0)) Z]
   rcases hk with hk|hk
   ·(repeat' (first|(refine zE ?_;first|refine zP (NV (T:=144) tok Z Z Z Z) Z ?_|refine wL tok Z Z ?_|(refine xJ ?_;(first|(refine vP 69 ?_;first|refine zP (zH (kd) Z Z Z Z Z) Z ?_|refine qE (zH (kd) Z Z Z Z Z) Z Z Z ?_|refine ZJ (zH (kd) Z Z Z Z Z) Z Z Z ?_)))|(refine fI ?_;first|refine IK Z Z ?_|refine TE Z Z Z Z ?_|(refine kO Z Z (λhc=>?_) λhc=>?_<;>(try simp only[qQ,zX9,zYj,zZb,zZ7,yBe,zZ4,zY6,zZa,yBm,yBl,yAi]at hc)))|(refine xM ?_;first|refine zP (jG Z Z Z (by unfold bK;omega)) Z ?_|refine zP (jH Z Z Z (by unfold bK;omega)) Z ?_|refine zP (dG Z Z Z) Z ?_|refine zP (jY Z Z ⟨zB,zB⟩) Z ?_|refine zP (dK Z Z ⟨zB,zB⟩) Z ?_|refine zP (jZ Z Z ⟨zB,zB⟩) Z ?_|refine zP (dL Z Z fJ zB) Z ?_|refine zP (dM Z Z zB) Z ?_|refine zP (dN Z Z) Z ?_|refine zP (gR Z Z zB) Z ?_|refine zP (gS Z Z zB) Z ?_|refine zP (wH (.inl ⟨rfl,rfl⟩) Z Z zB) Z ?_|refine zP (wH (.inr ⟨rfl,rfl⟩) Z Z zB) Z ?_|refine zP (vB tok Z Z Z Z (.inl ⟨rfl,rfl⟩)) Z ?_|refine zP (vB tok Z Z Z Z (.inr ⟨rfl,rfl⟩)) Z ?_|refine zP (kK tok (.inl ⟨rfl,rfl⟩) Z Z Z) Z ?_|refine zP (yG tok (.inl ⟨rfl,rfl⟩) Z Z Z Z) Z ?_|refine zP (gO Z Z) Z ?_|refine zP (kG Z Z) Z ?_|refine zP (gP Z Z) Z ?_|refine zP (kL Z Z fJ) Z ?_|refine zP (kS Z Z) Z ?_|refine zP (kM Z Z fJ) Z ?_|refine zP (kT Z Z) Z ?_)|(refine aS ?_;first|refine zP (wS tok Z Z Z Z Z zB xY Z Z) Z ?_|refine zP (wP tok Z Z Z Z Z Z zB zB Z) Z ?_|refine zP (wD tok Z Z Z Z Z Z zB zB) Z ?_)|(refine dJ ?_;first|refine zP (uV tok Z Z Z xY Z) Z ?_|refine zP (uU tok Z Z Z xY Z) Z ?_|refine zP (uD tok Z Z Z Z xY Z) Z ?_|refine zP (uC tok Z Z Z Z xY Z) Z ?_)|(refine aT ?_;first|refine zP (wC tok Z Z Z Z Z Z Z Z) Z ?_|refine zP (wR tok Z xY Z Z Z Z Z Z) Z ?_)|(refine yD ?_;first|refine xF tok Z Z Z Z Z Z Z (by first|(intro y hy;cases hy;rfl)|exact zN _ _ (λ_=>rfl)) Z Z Z (by first|omega|(simp;done)|(simp;omega)) Z ?_|refine uF tok Z Z Z Z Z Z Z Z Z Z Z (by first|(intro y hy;cases hy;rfl)|exact zN _ _ (λ_=>rfl)) (by first|omega|(simp;done)|(simp;omega)) Z ?_)|(refine bU ?_;first|refine zP (dO Z ⟨zB,zB⟩) Z ?_)|(refine dH ?_;first|refine zP (qL tok Z Z Z Z ⟨zB,zB⟩) Z ?_|refine zP (jV tok Z Z Z Z) Z ?_|refine zP (qM tok Z Z Z Z Z Z Z xY) Z ?_)|(refine uB ?_;first|refine gQ tok Z Z Z Z Z (by first|(intro y hy;cases hy;rfl)|exact zN _ _ (λ_=>rfl)|assumption|(simp;done)) zB xX TF Z ?_|refine cJ tok Z Z Z Z Z (by first|(intro y hy;cases hy;rfl)|exact zN _ _ (λ_=>rfl)|assumption|(simp;done)) zB xX TG Z ?_|refine dI tok Z Z Z Z Z Z (by first|(intro y hy;cases hy;rfl)|exact zN _ _ (λ_=>rfl)|assumption|(simp;done)) zB zB (by first|omega|(simp;omega)) TH Z ?_)|refine SM ?_|(refine uB ?_;first|refine YC tok Z Z Z Z Z Z Z Z o (o+q.2.length) zB zB zB zB Z ?_|refine YC tok Z Z Z Z Z Z Z Z (o+q.2.length) (o+q.2.length+4) zB zB zB zB Z ?_|refine zP (KN tok Z Z Z Z Z) Z ?_)|(refine x_s (nw:=[]) (KM tok Z Z Z Z Z Z Z) Z Z ?_)|(refine zDd tok Z Z Z Z Z Z Z (λy hy=>by cases hy;rfl) Z (by show 4<=_;omega) Z Z ?_)|(refine cG ?_;refine zP (xV Z Z Z) Z ?_)|refine jX tok Z Z Z Z ?_|(refine gC ?_;first|refine aY tok Z Z Z Z Z Z ?_|refine jF tok Z Z Z ?_|refine aO tok Z Z Z xY Z Z Z Z Z Z ?_|refine cH tok Z Z Z xY Z Z Z Z Z Z Z Z ?_)|refine uI ?_|refine eU VJ ?_)|first|refine SR ?_|refine SK (I2 (λhc=>?_) λhc=>?_)|refine SK λhc=>?_|fail))
    exact⟨rfl,trivial⟩
   ·(repeat' (first|(refine zE ?_;first|refine zP (NV (T:=144) tok Z Z Z Z) Z ?_|refine wL tok Z Z ?_|(refine xJ ?_;(first|(refine vP 69 ?_;first|refine zP (zH (kd) Z Z Z Z Z) Z ?_|refine qE (zH (kd) Z Z Z Z Z) Z Z Z ?_|refine ZJ (zH (kd) Z Z Z Z Z) Z Z Z ?_)))|(refine fI ?_;first|refine IK Z Z ?_|refine TE Z Z Z Z ?_|(refine kO Z Z (λhc=>?_) λhc=>?_<;>(try simp only[qQ,zX9,zYj,zZb,zZ7,yBe,zZ4,zY6,zZa,yBm,yBl,yAi]at hc)))|(refine xM ?_;first|refine zP (jG Z Z Z (by unfold bK;omega)) Z ?_|refine zP (jH Z Z Z (by unfold bK;omega)) Z ?_|refine zP (dG Z Z Z) Z ?_|refine zP (jY Z Z ⟨zB,zB⟩) Z ?_|refine zP (dK Z Z ⟨zB,zB⟩) Z ?_|refine zP (jZ Z Z ⟨zB,zB⟩) Z ?_|refine zP (dL Z Z fJ zB) Z ?_|refine zP (dM Z Z zB) Z ?_|refine zP (dN Z Z) Z ?_|refine zP (gR Z Z zB) Z ?_|refine zP (gS Z Z zB) Z ?_|refine zP (wH (.inl ⟨rfl,rfl⟩) Z Z zB) Z ?_|refine zP (wH (.inr ⟨rfl,rfl⟩) Z Z zB) Z ?_|refine zP (vB tok Z Z Z Z (.inl ⟨rfl,rfl⟩)) Z ?_|refine zP (vB tok Z Z Z Z (.inr ⟨rfl,rfl⟩)) Z ?_|refine zP (kK tok (.inl ⟨rfl,rfl⟩) Z Z Z) Z ?_|refine zP (yG tok (.inl ⟨rfl,rfl⟩) Z Z Z Z) Z ?_|refine zP (gO Z Z) Z ?_|refine zP (kG Z Z) Z ?_|refine zP (gP Z Z) Z ?_|refine zP (kL Z Z fJ) Z ?_|refine zP (kS Z Z) Z ?_|refine zP (kM Z Z fJ) Z ?_|refine zP (kT Z Z) Z ?_)|(refine aS ?_;first|refine zP (wS tok Z Z Z Z Z zB xY Z Z) Z ?_|refine zP (wP tok Z Z Z Z Z Z zB zB Z) Z ?_|refine zP (wD tok Z Z Z Z Z Z zB zB) Z ?_)|(refine dJ ?_;first|refine zP (uV tok Z Z Z xY Z) Z ?_|refine zP (uU tok Z Z Z xY Z) Z ?_|refine zP (uD tok Z Z Z Z xY Z) Z ?_|refine zP (uC tok Z Z Z Z xY Z) Z ?_)|(refine aT ?_;first|refine zP (wC tok Z Z Z Z Z Z Z Z) Z ?_|refine zP (wR tok Z xY Z Z Z Z Z Z) Z ?_)|(refine yD ?_;first|refine xF tok Z Z Z Z Z Z Z (by first|(intro y hy;cases hy;rfl)|exact zN _ _ (λ_=>rfl)) Z Z Z (by first|omega|(simp;done)|(simp;omega)) Z ?_|refine uF tok Z Z Z Z Z Z Z Z Z Z Z (by first|(intro y hy;cases hy;rfl)|exact zN _ _ (λ_=>rfl)) (by first|omega|(simp;done)|(simp;omega)) Z ?_)|(refine bU ?_;first|refine zP (dO Z ⟨zB,zB⟩) Z ?_)|(refine dH ?_;first|refine zP (qL tok Z Z Z Z ⟨zB,zB⟩) Z ?_|refine zP (jV tok Z Z Z Z) Z ?_|refine zP (qM tok Z Z Z Z Z Z Z xY) Z ?_)|(refine uB ?_;first|refine gQ tok Z Z Z Z Z (by first|(intro y hy;cases hy;rfl)|exact zN _ _ (λ_=>rfl)|assumption|(simp;done)) zB xX TF Z ?_|refine cJ tok Z Z Z Z Z (by first|(intro y hy;cases hy;rfl)|exact zN _ _ (λ_=>rfl)|assumption|(simp;done)) zB xX TG Z ?_|refine dI tok Z Z Z Z Z Z (by first|(intro y hy;cases hy;rfl)|exact zN _ _ (λ_=>rfl)|assumption|(simp;done)) zB zB (by first|omega|(simp;omega)) TH Z ?_)|refine SM ?_|(refine uB ?_;first|refine YC tok Z Z Z Z Z Z Z Z o (o+q.2.length) zB zB zB zB Z ?_|refine YC tok Z Z Z Z Z Z Z Z (o+q.2.length) (o+q.2.length+4) zB zB zB zB Z ?_|refine zP (KN tok Z Z Z Z Z) Z ?_)|(refine x_s (nw:=[]) (KM tok Z Z Z Z Z Z Z) Z Z ?_)|(refine zDd tok Z Z Z Z Z Z Z (λy hy=>by cases hy;rfl) Z (by show 4<=_;omega) Z Z ?_)|(refine cG ?_;refine zP (xV Z Z Z) Z ?_)|refine jX tok Z Z Z Z ?_|(refine gC ?_;first|refine aY tok Z Z Z Z Z Z ?_|refine jF tok Z Z Z ?_|refine aO tok Z Z Z xY Z Z Z Z Z Z ?_|refine cH tok Z Z Z xY Z Z Z Z Z Z Z Z ?_)|refine uI ?_|refine eU VJ ?_)|first|refine SR ?_|refine SK (I2 (λhc=>?_) λhc=>?_)|refine SK λhc=>?_|fail))
    exact⟨rfl,trivial⟩
 ·have eW:BW b ((uP b.length b 0).take (vfL b).length)=BW b (uP b.length b 0):=by
   rw[hL,zX5,zX6]
  rw[eW];have hlen:=KS b (uP b.length b 0) b.length Z hbd;have hxl:=zA yA (BW b (uP b.length b 0));clear hL hbd ht kp kw eW;generalize BW b (uP b.length b 0)=X at *;refine WW ?_;exact zL [1001] Z Z Z Z
def zF3 (b:List Int) (hb:BY b) (hl:b.length<=1000000):zO 31 [zD yA b] [] (zD yA (BX b)) []:=by
 have hlen:(BX b).length=b.length:=by
  unfold BX;split
  ·exact KS b _ b.length Z λp hp=>by have:=zBq (n:=b.length) (a:=0) hb p hp;rw[zZm]at this;exact this
  ·rfl
 refine(BZ b hb hl).frz [] ?_ Z Z;have e:(b.map yA).length=((BX b).map yA).length:=by rw[zX5,zX5,hlen]
 rw[e];exact zY3 (AV.sl false) zJt
def AA (b:List Int) (it:It):List Int:=match GX it with
 |none=>b
 |some n=>b.take (b.length-4-n)++List.replicate (n+4) 0
def zR:Nat->List Int->List Int
 |0,r=>r
 |n+1,r=>match ZG r with
  |none=>r
  |some q=>if q.1.code=0 then AA (r.take q.2) q.1++zR n (r.drop q.2)else r
def wA (s:Nat) (l:List Pc):Nat:=l.foldl (λ_ p=>p.fr+p.k) s
def PQ {b:List Int} {p:It×Nat} (h:ZG b=some p) (hc:p.1.code=0):p=(⟨0,b.getD 3 0,(b.drop 6).take (jS b)⟩,jS b+10)/\jS b+10<=b.length:=by
 unfold ZG at h
 repeat' split at h
 all_goals (first|(cases h;done)|(cases h;cases hc;done)|skip)
 all_goals (cases h;exact⟨rfl,zB⟩)
def zBr {b:List Int} {it:It} (h:∀n,GX it=some n->n+4<=b.length):(AA b it).length=b.length:=by
 unfold AA;split
 ·rfl
 ·rename_i n hn;have:=h n hn;rw[zX4,zYn,zZs];omega
def zU3 {r:List Int} {q:It×Nat} (hb:BY r) (h:ZG r=some q) (hc:q.1.code=0) {n:Nat} (hm:GX q.1=some n):n+10<=q.2:=by
 obtain⟨h1,h2,h3,_⟩:=YT h hc;have hy:BY q.1.pay:=by rw[h3];exact λx hx=>hb x (zY1 (zZl hx))
 unfold GX at hm;split at hm
 ·rw[zYf]at hm;obtain⟨d,hd,rfl⟩:=hm;have:=QT hy hd;omega
 ·cases hm
theorem zF4:∀(n:Nat) (r pre:List Int),BY r->BW (pre++r) (uP n r pre.length)=pre++zR n r
 |0,r,pre,_=>rfl
 | n +1,r,pre,hb=>by
  unfold uP zR
  cases hp:ZG r with
  |none=>rfl
  | some q=>
   dsimp only;by_cases hc:q.1.code=0
   ·rw[zX3 hc,zX3 hc];obtain⟨h1,h2,h3,_⟩:=YT hp hc;have hmd:=λn=>zU3 (n:=n) hb hp hc
    have hkl:(r.take q.2).length=q.2:=by rw[zYn];omega
    have hz:(AA (r.take q.2) q.1).length=q.2:=by rw[zBr λn hn=>by have:=hmd n hn;omega,hkl]
    have e:zeF (pre++r) ⟨pre.length,q.2,q.1⟩=(pre++AA (r.take q.2) q.1)++r.drop q.2:=by
     unfold zeF AA;dsimp only
     cases hm:GX q.1 with
     |none=>
      dsimp only;rw[zYw,yBf]
     |some m=>
      dsimp only;have:=hmd m hm;rw[hkl,show pre.length+q.2-4-m=pre.length+(q.2-4-m) by omega,List.take_length_add_append,List.drop_length_add_append,yD0,yDx zB];simp only[zYw]
    show BW (zeF (pre++r) ⟨pre.length,q.2,q.1⟩) (uP n (r.drop q.2) (pre.length+q.2))=_
    have ih:=zF4 n (r.drop q.2) (pre++AA (r.take q.2) q.1) λx hx=>hb x (zY1 hx)
    rw[zX4,hz]at ih;rw[e,ih,zYw]
   ·rw[zX2 hc,zX2 hc];rfl
def zRl {b:List Int} (hb:BY b):BX b=if whF b=true then zR b.length b else b:=by
 have:=zF4 b.length b [] hb;rw[yAm,yAm]at this;unfold BX;rw[<-this];rfl
def u32_in {n:Int} (h:0<=n/\n<4294967296):IntKind.u32.wrap n=n:=by
 unfold IntKind.wrap;simp[IntKind.signed,IntKind.bits];omega
def zBs (a c:Nat) (ha:a<4294967296) (hc:c<4294967296):orU (a:Int) (c:Int)=((a ||| c:Nat):Int):=by
 unfold orU
 have h1:(BitVec.ofInt IntKind.u32.bits (a:Int) ||| BitVec.ofInt IntKind.u32.bits (c:Int)).toNat=a ||| c:=by
  rw[yDt,yBk,yBk,yBg,yBg,yAs (show a<2 ^ IntKind.u32.bits from ha),yAs (show c<2 ^ IntKind.u32.bits from hc)]
 rw[h1]
 have h2:a ||| c<2 ^ 32:=yDo ha hc
 exact u32_in ⟨zB,zB⟩
def VY {n x:Int} (hn:0<=n/\n<16777216) (hx:0<=x/\x<256):orU (IntKind.u32.wrap (n*2 ^ (min (8:Int).toNat IntKind.u32.bits))) x=n*256+x:=by
 rw[show n*2 ^ (min (8:Int).toNat IntKind.u32.bits)=n*256 from Z,u32_in zB];obtain⟨a,rfl⟩:=zZz hn.1;obtain⟨c,rfl⟩:=zZz hx.1;have h2:=zBs (a*256) c zB zB;have h3:=yBz (show c<2 ^ 8 by omega) a;rw[yC6]at h3;rw[show((a:Int)*256)=((a*256:Nat):Int) by omega,h2,<-h3];omega
def zF5 (y:Int):IntKind.u8.wrap y=y % 256:=by
 unfold IntKind.wrap;simp[IntKind.signed,IntKind.bits]
def VZ (k:Int) (p:List Int):(YB k p).length=p.length+10:=by
 simp only[YB,GK,aI,zYh,zX4,zX5,zZr,zZc];omega
theorem zBt:∀(l:List (It×List Int)) (n:Nat),(∀q∈l,zRq q)->((l.map (·.2)).flatten).length<=n->zR n (l.map (·.2)).flatten=(l.map λq=>AA q.2 q.1).flatten
 | [],0,_,_=>rfl
 | [],n+1,_,_=>rfl
 |q::l,n,hg,hn=>by
  obtain⟨h1,h2⟩:=hg q zW;have h3:=(zBx h1 h2 (l.map (·.2)).flatten).1;rw[show(q.1,q.2.length).2=q.2.length from Z,zYe (zX7 _)]at h3;have e:((q::l).map (·.2)).flatten=q.2++(l.map (·.2)).flatten:=by simp
  rw[e]at hn⊢;rw[zX4]at hn;have hp:1<=q.2.length:=QU h1;obtain⟨n,rfl⟩:∃m,n=m+1:=⟨n-1,zB⟩;unfold zR;rw[h3];dsimp only;rw[zX3 h2,yDw Z,List.drop_left' Z,zBt l n (λx hx=>hg x OU) zB];simp
def zBu {b:List Int} {q:It×Nat} (h:ZG b=some q) (hc:q.1.code=0):b.getD 0 0=90/\b.getD 1 0=165/\jS b<=200/\eK ((b.drop 2).take (jS b+4))=XM ((b.drop (jS b+6)).take 4)/\b.getD 2 0=1/\1<=b.getD 3 0/\b.getD 3 0<=22:=by
 have hg:=PQ h hc;unfold ZG at h;by_cases c1:b.length=0
 ·rw[zX3 c1]at h;cases h
 rw[zX2 c1]at h;by_cases c2:b.getD 0 0≠90∨(1<b.length/\b.getD 1 0≠165)
 ·rw[zX3 c2]at h;cases h;cases hc
 rw[zX2 c2]at h;by_cases c3:b.length<6
 ·omega
 rw[zX2 c3]at h;by_cases c4:200<jS b
 ·rw[zX3 c4]at h;cases h;cases hc
 rw[zX2 c4]at h;by_cases c5:b.length<jS b+10
 ·omega
 rw[zX2 c5]at h;by_cases c6:eK ((b.drop 2).take (jS b+4))≠XM ((b.drop (jS b+6)).take 4)
 ·rw[zX3 c6]at h;cases h;cases hc
 rw[zX2 c6]at h;by_cases c7:b.getD 2 0≠1
 ·rw[zX3 c7]at h;cases h;cases hc
 rw[zX2 c7]at h;by_cases c8:b.getD 3 0<1∨22<b.getD 3 0
 ·rw[zX3 c8]at h;cases h;cases hc
 refine⟨?_,?_,zB,?_,?_,zB,zB⟩
 ·exact yA1 λh=>c2 (.inl h)
 ·exact yA1 λh=>c2 (.inr ⟨zB,h⟩)
 ·exact yA1 c6
 ·exact yA1 c7
def zU4 {a b c d:Int} (ha:0<=a/\a<256) (hb:0<=b/\b<256) (hc:0<=c/\c<256) (hd:0<=d/\d<256):XM [a,b,c,d]=((a*256+b)*256+c)*256+d:=by
 unfold XM;simp only[List.foldl_cons,List.foldl_nil];rw[VY (n:=0) (x:=a) ⟨zB,zB⟩ ha,VY (n:=0*256+a) (x:=b) ⟨zB,zB⟩ hb,VY (n:=(0*256+a)*256+b) (x:=c) ⟨zB,zB⟩ hc,VY (n:=((0*256+a)*256+b)*256+c) (x:=d) ⟨zB,zB⟩ hd];omega
def zRm (a c k:Nat) (hc:c<2 ^ k) (h:a*2 ^ k+c<4294967296):orU ((a*2 ^ k:Nat):Int) (c:Int)=((a*2 ^ k+c:Nat):Int):=by
 have h3:=yBz hc a;rw[yC6]at h3;rw[zBs (a*2 ^ k) c zB zB,<-h3]
def or4 {a b c d:Int} (ha:0<=a/\a<256) (hb:0<=b/\b<256) (hc:0<=c/\c<256) (hd:0<=d/\d<256):orU (orU (orU (IntKind.u32.wrap (a*2 ^ (min (24:Int).toNat IntKind.u32.bits))) (IntKind.u32.wrap (b*2 ^ (min (16:Int).toNat IntKind.u32.bits)))) (IntKind.u32.wrap (c*2 ^ (min (8:Int).toNat IntKind.u32.bits)))) d=XM [a,b,c,d]:=by
 have w:∀(x y:Int) (k:Nat),0<=x/\x<256->(2:Int) ^ k=y->0<=x*y/\x*y<4294967296->IntKind.u32.wrap (x*2 ^ k)=x*y:=λx y k _ h1 h2=>by rw[h1];exact u32_in h2
 rw[zU4 ha hb hc hd,w a 16777216 _ ha zV zB,w b 65536 _ hb zV zB,w c 256 _ hc zV zB];obtain⟨a,rfl⟩:=zZz ha.1;obtain⟨b,rfl⟩:=zZz hb.1;obtain⟨c,rfl⟩:=zZz hc.1;obtain⟨d,rfl⟩:=zZz hd.1;have s:∀(x y z:Int) (m n k:Nat),x=((m*2 ^ k:Nat):Int)->y=(n:Int)->n<2 ^ k->m*2 ^ k+n<4294967296->z=((m*2 ^ k+n:Nat):Int)->orU x y=z:=λx y z m n k e1 e2 h1 h2 e3=>by rw[e1,e2,e3];exact zRm m n k h1 h2
 rw[s ((a:Int)*16777216) ((b:Int)*65536) ((a:Int)*16777216+b*65536) a (b*65536) 24 zB zB zB zB zB,
  s ((a:Int)*16777216+b*65536) ((c:Int)*256) ((a:Int)*16777216+b*65536+c*256) (a*256+b) (c*256) 16 zB zB zB zB zB,
  s ((a:Int)*16777216+b*65536+c*256) (d:Int) ((a:Int)*16777216+b*65536+c*256+d) ((a*256+b)*256+c) d 8 zB zB zB zB zB]
 omega
def GY (l:List Int) (i:Nat) (h:i+4<=l.length):(l.drop i).take 4=[l.getD i 0,l.getD (i+1) 0,l.getD (i+2) 0,l.getD (i+3) 0]:=by
 apply zZf;intro j;rw[zZi];have g:∀k,k<l.length->l[k]? =some (l.getD k 0):=λk hk=>by rw[zYc,zYk hk];rfl
 match j with
 |0=>rw[zX3 zB,zZt,g _ zB];rfl
 |1=>rw[zX3 zB,zZt,g _ zB];rfl
 |2=>rw[zX3 zB,zZt,g _ zB];rfl
 |3=>rw[zX3 zB,zZt,g _ zB];rfl
 |j+4=>rw[zX2 zB];rfl
theorem zF6 (b:List Int) (hb:BY b) (hl:b.length<=1000000) {q:It×Nat} (hq:ZG b=some q) (hc:q.1.code=0):zO 105 [zD yA b] [] (.tup [wO q.1,iA q.2,bA true]) []:=by
 have hlb:=zA yA b;obtain⟨i0,i1,iN,ic,i2,i3,i4⟩:=zBu hq hc;obtain⟨eq,hn⟩:=PQ hq hc;rw[eq];clear eq hq hc;obtain⟨y0,_⟩:=WB b hb 0 zB;obtain⟨y1,_⟩:=WB b hb 1 zB;obtain⟨y2,_⟩:=WB b hb 2 zB;obtain⟨y3,z3⟩:=WB b hb 3 zB;obtain⟨y4,z4⟩:=WB b hb 4 zB;obtain⟨y5,z5⟩:=WB b hb 5 zB;obtain⟨y6,z6⟩:=WB b hb (jS b+6) zB;obtain⟨y7,z7⟩:=WB b hb (jS b+7) zB;obtain⟨y8,z8⟩:=WB b hb (jS b+8) zB;obtain⟨y9,z9⟩:=WB b hb (jS b+9) zB;rw[i0]at y0;rw[i1]at y1;rw[i2]at y2;have hor:=or8 z4 z5;have hpn:b.getD 4 0*256+b.getD 5 0=(jS b:Int):=by unfold jS;omega
 rw[hpn]at hor;rw[GY b (jS b+6) zB]at ic;have hs:=or4 z6 z7 z8 z9;have hu:=ID ((b.drop 2).take (jS b+4));have bd:∀i k,BY ((b.drop i).take k):=λi k x hx=>hb x (zY1 (zZl hx))
 generalize b.getD 4 0=x4 at *;generalize b.getD 5 0=x5 at *;generalize hN:jS b=N at *;have kc:=zAi ((b.drop 2).take (N+4)) zC4 (bd _ _);rw[ic]at kc
 have e1:((b.map yA).drop (2:Int).toNat).take (((N:Int)+6).toNat-(2:Int).toNat)=((b.drop 2).take (N+4)).map yA:=by
  rw[yBd,yBc,show((N:Int)+6).toNat-(2:Int).toNat=N+4 by omega];rfl
 have e3:((b.map yA).drop (6:Int).toNat).take (((N:Int)+6).toNat-(6:Int).toNat)=((b.drop 6).take N).map yA:=by
  rw[yBd,yBc,show((N:Int)+6).toNat-(6:Int).toNat=N by omega];rfl
 have hpl:(((b.drop 6).take N).map yA).length=N:=by rw[zX5,zYn,zYv];omega
 have hph:∀y,(((b.drop 6).take N).map yA)[0]? =some y->y.cells.length=1:=zN _ _ (λ_=>rfl);clear ic;generalize (b.drop 2).take (N+4)=B1 at *;generalize (b.drop 6).take N=B3 at *;clear bd hu;generalize b.getD 3 0=x3 at *;generalize b.getD (N+6) 0=x6 at *;generalize b.getD (N+7) 0=x7 at *;generalize b.getD (N+8) 0=x8 at *;generalize b.getD (N+9) 0=x9 at *;refine eM call105 λF hF=>?_
 (repeat' (first|(refine zE ?_;first|((refine xM ?_;first|refine zP (kG Z Z) Z ?_|refine zP (US Z Z) Z ?_);(try rw[hor]);(try rw[hs]))|refine wL tok Z Z ?_|(refine xJ ?_;(first|(refine vP 65 ?_;first|refine zP (zH (kc) Z Z Z Z Z) Z ?_|refine qE (zH (kc) Z Z Z Z Z) Z Z Z ?_|refine ZJ (zH (kc) Z Z Z Z Z) Z Z Z ?_)))|(refine fI ?_;first|refine IK Z Z ?_|refine TE Z Z Z Z ?_|(refine kO Z Z (λhc=>?_) λhc=>?_<;>(try simp only[qQ,zX9,zYj,zZb,zZ7,yBe,zZ4,zY6,zZa,yBm,yBl,yAi]at hc)))|(refine xM ?_;first|refine zP (jG Z Z Z (by unfold bK;omega)) Z ?_|refine zP (jH Z Z Z (by unfold bK;omega)) Z ?_|refine zP (dG Z Z Z) Z ?_|refine zP (jY Z Z ⟨zB,zB⟩) Z ?_|refine zP (dK Z Z ⟨zB,zB⟩) Z ?_|refine zP (jZ Z Z ⟨zB,zB⟩) Z ?_|refine zP (dL Z Z fJ zB) Z ?_|refine zP (dM Z Z zB) Z ?_|refine zP (dN Z Z) Z ?_|refine zP (gR Z Z zB) Z ?_|refine zP (gS Z Z zB) Z ?_|refine zP (wH (.inl ⟨rfl,rfl⟩) Z Z zB) Z ?_|refine zP (wH (.inr ⟨rfl,rfl⟩) Z Z zB) Z ?_|refine zP (vB tok Z Z Z Z (.inl ⟨rfl,rfl⟩)) Z ?_|refine zP (vB tok Z Z Z Z (.inr ⟨rfl,rfl⟩)) Z ?_|refine zP (kK tok (.inl ⟨rfl,rfl⟩) Z Z Z) Z ?_|refine zP (yG tok (.inl ⟨rfl,rfl⟩) Z Z Z Z) Z ?_|refine zP (gO Z Z) Z ?_|refine zP (kG Z Z) Z ?_|refine zP (gP Z Z) Z ?_|refine zP (kL Z Z fJ) Z ?_|refine zP (kS Z Z) Z ?_|refine zP (kM Z Z fJ) Z ?_|refine zP (kT Z Z) Z ?_)|(refine aS ?_;first|refine zP (wS tok Z Z Z Z Z zB xY Z Z) Z ?_|refine zP (wP tok Z Z Z Z Z Z zB zB Z) Z ?_|refine zP (wD tok Z Z Z Z Z Z zB zB) Z ?_)|(refine dJ ?_;first|refine zP (uV tok Z Z Z xY Z) Z ?_|refine zP (uU tok Z Z Z xY Z) Z ?_|refine zP (uD tok Z Z Z Z xY Z) Z ?_|refine zP (uC tok Z Z Z Z xY Z) Z ?_)|(refine aT ?_;first|refine zP (wC tok Z Z Z Z Z Z Z Z) Z ?_|refine zP (wR tok Z xY Z Z Z Z Z Z) Z ?_)|(refine yD ?_;first|refine xF tok Z Z Z Z Z Z Z (by first|(intro y hy;cases hy;rfl)|exact zN _ _ (λ_=>rfl)) Z Z Z (by first|omega|(simp;done)|(simp;omega)) Z ?_|refine uF tok Z Z Z Z Z Z Z Z Z Z Z (by first|(intro y hy;cases hy;rfl)|exact zN _ _ (λ_=>rfl)) (by first|omega|(simp;done)|(simp;omega)) Z ?_)|(refine bU ?_;first|refine zP (dO Z ⟨zB,zB⟩) Z ?_)|(refine dH ?_;first|refine zP (qL tok Z Z Z Z ⟨zB,zB⟩) Z ?_|refine zP (jV tok Z Z Z Z) Z ?_|refine zP (qM tok Z Z Z Z Z Z Z xY) Z ?_)|(refine uB ?_;first|refine gQ tok Z Z Z Z Z (by first|(intro y hy;cases hy;rfl)|exact zN _ _ (λ_=>rfl)|assumption|(simp;done)) zB xX TF Z ?_|refine cJ tok Z Z Z Z Z (by first|(intro y hy;cases hy;rfl)|exact zN _ _ (λ_=>rfl)|assumption|(simp;done)) zB xX TG Z ?_|refine dI tok Z Z Z Z Z Z (by first|(intro y hy;cases hy;rfl)|exact zN _ _ (λ_=>rfl)|assumption|(simp;done)) zB zB (by first|omega|(simp;omega)) TH Z ?_)|refine SL ?_|(refine cG ?_;refine zP (xV Z Z Z) Z ?_)|refine jX tok Z Z Z Z ?_|(refine gC ?_;first|refine aY tok Z Z Z Z Z Z ?_|refine jF tok Z Z Z ?_|refine aO tok Z Z Z xY Z Z Z Z Z Z ?_|refine cH tok Z Z Z xY Z Z Z Z Z Z Z Z ?_)|refine uI ?_|refine eU VJ ?_)|first|refine SR ?_|refine SK (I2 (λhc=>?_) λhc=>?_)|refine SK λhc=>?_|fail))
 exact zI [] Z Z (zY3 (λz=>AV.tup [.agg [iA 0,iA x3,zD yA B3],iA z,bA true]) (show(N:Int)+10=((N+10:Nat):Int) by omega)) Z
end Av
end Go.Proofs.YteajjdidebfcjaaGreat
