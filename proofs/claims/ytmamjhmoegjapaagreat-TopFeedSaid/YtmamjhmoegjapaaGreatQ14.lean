/- Part 14. -/
import Derived.Test.YtmamjhmoegjapaaGreatQ13
namespace Go.Proofs.YtmamjhmoegjapaaGreat
namespace Av
open Tryz
set_option linter.all false
set_option maxRecDepth 4000
set_option maxHeartbeats 2000000
section
variable {P:Program} {K0:List Nat} {F:Fr K0} {m:Nat}
theorem zBa (n len:Nat) {Q:Exit->St->Prop} {id:Nat} {l:List Oper} {st:St} (hlen:Nat.beq l.length len=true) (hm:P.follows .mixedOrders=true)
 (hk:zZ P F m l.toArray true (l.take n) st [] (λfs s=>US l n (PC l) fs.reverse=true/\zZ P F m l.toArray false (l.drop n) s [] (λ_ s=>Q .normal s))):uC P F m (.region id l.toArray true) st Q:=zNt n hm hk
end
def TM (l:List Rq) (id:Int):Nat:=l.findIdx λr=>!decide (r.id<id)
theorem KS (l:List Rq) (id:Int):TM l id<=l.length:=List.findIdx_le_length
theorem zHt {l:List Rq} {id:Int} {i:Nat} (h:i<TM l id):(l.getD i default).id<id:=by
 have h1:=KS l id;have:=List.not_of_lt_findIdx h;simpa [List.getD,show i<l.length by omega]using this
theorem zHu {l:List Rq} {id:Int} (h:TM l id<l.length):¬(l.getD (TM l id) default).id<id:=by
 have:=List.findIdx_getElem (p:=λr:Rq=>!decide (r.id<id)) (w:=h);have h2:TM l id<l.length:=h;simp only[zZl,zXu]at this;intro h3;refine this ?_;rw[zXh,zXr h2]at h3;exact h3
def cZ (id:Int) (v:Vh) (life:Int) (x:List Lg) (now:Int):Rq:=⟨id,v.id,v.cls,now+life,x⟩
def bX (l:List Rq) (r:Rq):List Rq:=l.take (TM l r.id)++r::l.drop (TM l r.id)
def BX (l:List Rq) (q id life:Int) (x:List Lg):Int:=
 if¬(0<=id/\id<=4294967295/\1<=life/\life<=600/\vgF x=true)then 8 else if hH l id=true then 11 else if q<=l.length∨4<=(l.length:Int)then 14 else 0
theorem zHv (l:List Rq) (q id:Int) (v:Vh) (life:Int) (x:List Lg) (now:Int) (hv:aC l) (hq:(l.length:Int)<=q) (v0:0<=v.id) (v1:v.id<=4294967295) (w0:0<=v.cls) (w1:v.cls<=3) (n0:0<=now) (n1:now<=1073741824):
  zN 268 [zD yK l,iA q,iA id,vZ v,iA life,zD xU x,iA now] [] (.tup [zD yK (if BX l q id life x=0 then bX l (cZ id v life x now)else []),iA (BX l q id life x)]) []:=by
 have h4:=hv.n4;have hl:=zA yK l;have c1:=VB l q hv hq;have c2:=QY v.id;have c3:=AI v.cls;have c4:=zBl now;have c5:=QY id;have c6:=zBk x;have c7:=QV l id zB;rw[zXg ⟨v0,v1⟩]at c2;rw[zXg ⟨w0,w1⟩]at c3;rw[zXg ⟨n0,n1⟩]at c4;by_cases g1:0<=id/\id<=4294967295
 case neg=>
  rw[zXj g1]at c5;have e:BX l q id life x=8:=zW9 λh=>g1 ⟨h.1,h.2.1⟩
  rw[e,zW8 xL];refine eM call268 λF hF=>?_
  refine yO (zt5 c1 c2 c3 c4 c5) ?_;exact zK
 rw[zXg g1]at c5;by_cases g2:1<=life/\life<=600
 case neg=>
  have e:BX l q id life x=8:=zW9 λh=>g2 ⟨h.2.2.1,h.2.2.2.1⟩
  rw[e,zW8 xL];by_cases g3:1<=life
  ·(refine eM call268 λF hF=>?_)
   refine yO (zt5 c1 c2 c3 c4 c5) ?_;exact zK
  ·(refine eM call268 λF hF=>?_)
   refine yO (zt5 c1 c2 c3 c4 c5) ?_;exact zK
 obtain⟨g2,g3⟩:=g2
 cases hg:vgF x with
 |false=>
  rw[hg]at c6;have e:BX l q id life x=8:=zW9 λh=>zXx (hg.symm.trans h.2.2.2.2)
  rw[e,zW8 xL];refine eM call268 λF hF=>?_
  refine yO (zt6 c1 c2 c3 c4 c5 c6) ?_;exact zK
 |true=>
 rw[hg]at c6
 have e0:BX l q id life x=if hH l id=true then 11 else if q<=l.length∨4<=(l.length:Int)then 14 else 0:=zW8 λh=>h ⟨g1.1,g1.2,g2,g3,hg⟩
 cases hh:hH l id with
 |true=>
  have hx:=AD (p:=λx:Rq=>x.id==id) (l:=l) hh;generalize UB (λx:Rq=>x.id==id) l=n at *;have e:BX l q id life x=11:=by rw[e0,zW9 hh]
  rw[e,zW8 xL];refine eM call268 λF hF=>?_
  refine yO (zt7 c1 c2 c3 c4 c5 c6 c7) ?_;exact zK
 |false=>
 have hx:=aT (p:=λx:Rq=>x.id==id) (l:=l) (by simpa [hH]using hh);rw[hx]at c7;rw[zW8 (by rw[hh];decide)]at e0;by_cases g4:q<=l.length∨4<=(l.length:Int)
 case pos=>
  rw[zW9 g4]at e0;rw[e0,zW8 xL];by_cases g5:q<=l.length
  ·(refine eM call268 λF hF=>?_)
   refine yO (zt7 c1 c2 c3 c4 c5 c6 c7) ?_;exact zK
  ·have g6:4<=(l.length:Int):=g4.resolve_left g5;refine eM call268 λF hF=>?_
   refine yO (zt7 c1 c2 c3 c4 c5 c6 c7) ?_;exact zK
 rw[zW8 g4]at e0;rw[e0,zW9 rfl];have hxl:=KZ hg;have c8:=cM x zB;have hk:=KS l id;have hk1:=λi h=>zHt (l:=l) (id:=id) (i:=i) h
 have hk2:=zHu (l:=l) (id:=id)
 have hiQ:(l.map yK).take (TM l id)++yK (cZ id v life x now)::(l.map yK).drop (TM l id)=(bX l (cZ id v life x now)).map yK:=by
  unfold bX cZ;rw[zXf,zYi,yA5,yA4]
 have hiL:((bX l (cZ id v life x now)).map yK).length=(l.map yK).length+1:=by
  rw[<-hiQ,zXb,zXl,zXw,zYd];omega
 have h5:∀y∈l.map yK,y.cells.length=5:=λy hy=>by
  obtain⟨r,_,rfl⟩:=zYo.1 hy;rfl
 have r1:=λh=>zH9 (l.map yK) (yK (cZ id v life x now)) (TM l id) rfl h5 h zB zB
 have r2:=λh c hc=>zIa (l.map yK) (yK (cZ id v life x now)) (TM l id) c rfl h5 h zB zB hc
 have r3:=zNu (yK (cZ id v life x now)) rfl;rw[hiQ]at r1 r2;have d1:=KW l zB (λr hr=>by have:=hv.lg3 hr;omega);clear hv hg;have hR:zD yK (bX l (cZ id v life x now))=AV.sl false ((bX l (cZ id v life x now)).map yK):=rfl;rw[hR];by_cases hn0:l=[]
 ·subst hn0;have d0:=WX;have hY:(bX [] (cZ id v life x now)).map yK=[yK (cZ id v life x now)]:=rfl;rw[hY];clear r1 r2 hY hR hiQ hiL;refine eM call268 λF hF=>?_
  refine yO (zt7 c1 c2 c3 c4 c5 c6 c7) ?_;refine zP (0) [10] [10] [0,2,4,5,6,10] [16,0,2,4,5,6,10] rfl (λi T U=>⟨(16,iA i)::T,U⟩) ?_;(conv=>whnf);refine⟨by rfl,?_,?_⟩
  ·intro i hi;omega
  ·(refine yO (gU c8 d0 r3) ?_)
   exact zK
 have hl1:1<=l.length:=by
  cases l with
  |nil=>exact absurd rfl hn0
  |cons a b=>simp
 have r1:=r1 zB;have r2:=r2 zB;clear r3 hR hiQ;generalize (bX l (cZ id v life x now)).map yK=Y at *;refine eM call268 λF hF=>?_
 refine yO (zt7 c1 c2 c3 c4 c5 c6 c7) ?_;refine zP (TM l id) [10] [10] [0,2,4,5,6,10] [16,0,2,4,5,6,10] rfl (λi T U=>⟨(16,iA i)::T,U⟩) ?_;(conv=>whnf);refine⟨by rfl,?_,?_⟩
 ·intro i hi;have hy:=zM yK l i zB;have hlt:=hk1 i hi;generalize l.getD i default=r at *;refine WW ?_;rfl
 ·clear hk1;by_cases hkl:TM l id<l.length
  case' pos=>
   have hy:=zM yK l (TM l id) hkl;have hge:=hk2 hkl;generalize l.getD (TM l id) default=r at*
  all_goals clear hk2
  all_goals generalize TM l id=k at*
  all_goals (have zc1:=c8;have zc2:=d1;(repeat' (first|refine WS ?_|refine SG (I2 (λhc=>?_) (λhc=>?_))|refine SG (λhc=>?_)|(refine zE ?_;first|refine SM ?_)|(first|refine zBa 5 8 rfl rfl ?_|first|refine SR ?_|refine SK (I2 (λhc=>?_) (λhc=>?_))|refine SK (λhc=>?_)|fail)|fail))<;>clear zc1 zc2)
  all_goals refine zH8 VL ?_
  all_goals refine zTd 95 1001 ((l.map yK).length+1) [98] [96,98] (st':=⟨[(96,iA k),(98,.ref 98 0 1)],[(98,.arr 5 [yK (cZ id v life x now)] false)]⟩) rfl rfl zB zB zB rfl rfl rfl (λc hc=>?_) ?_
  case' pos.refine_1|neg.refine_1=>
   have r2:=r2 c hc;refine zU r2 ?_;exact zK
  all_goals rw[show(l.map yK).length+1-(l.map yK).length=1 by omega]
  all_goals (refine zU r1 ?_)
  all_goals (refine zH [] rfl rfl ?_ rfl;show AV.tup [AV.sl false (Y.take ((l.map yK).length+1)),iA 0]=_;rw[zXk zB])
def fdQ (l:List Rq) (id:Int):Rq:=(l.find? λx=>x.id==id).getD ⟨0,0,0,0,[]⟩
theorem zBb {l pre post:List Rq} {x:Rq} {id:Int} (h:l=pre++x::post) (hn:∀y∈pre,y.id≠id) (hx:x.id=id):fdQ l id=x/\hH l id=true:=by
 subst h;have h1:pre.find? (λv=>v.id==id)=none:=yB0.2 λy hy=>by simpa using hn y hy
 refine⟨?_,by simp[hH,hx]⟩;unfold fdQ;rw[yCv,h1];simp[hx]
def uU (r:Rq) (k:Nat):AV:= .agg [iA r.id,iA r.vh,iA r.cls,iA r.til,.ref k 0 (r.legs.map xU).length]
def fF (r:Rq):xN:= .arr 5 (r.legs.map xU) false
theorem NF (l:List Lg) (h1:1<=l.length) (hl:l.length<=1000):zN 152 [zD xU l] [] (.ref 1101 0 (l.map xU).length) [(1101,.arr 5 (l.map xU) false)]:=by
 have hll:=zA xU l;refine eM call152 λF hF=>?_
 refine yY 0 rfl (λcap hx=>?_) ?_
 ·have:l=[]:=by simpa using hx
  subst this;simp at h1
 ·(repeat' (first|refine WV ?_|refine SG (I2 (λhc=>?_) (λhc=>?_))|refine SG (λhc=>?_)|(refine zE ?_;first|(refine yT ?_;refine uG (nw:=[1101]) (yJ tok 1101 (xs:=[]) rfl rfl rfl rfl rfl rfl rfl rfl rfl) rfl rfl rfl ?_))|refine SB ?_|(first|refine xS ?_|refine yZ ?_|refine vA rfl ?_|refine zX rfl ?_|refine zQ rfl ?_|refine xJ rfl (λhc=>?_) (λhc=>?_)|refine yX ?_|refine yU ?_|refine xA ?_|refine yS ?_)|fail))
  exact zL [1101] rfl rfl rfl rfl
theorem jS (r:Rq) (h1:1<=r.legs.length) (hl:r.legs.length<=1000):zN 211 [yK r] [] (uU r 1101) [(1101,fF r)]:=by
 have c:=NF r.legs h1 hl;have hll:=zA xU r.legs;refine eM call211 λF hF=>?_
 refine zU c ?_;exact zL [1101] rfl rfl rfl rfl
theorem NG (l:List Lg) (h1:1<=l.length) (hl:l.length<=1000):zN 152 [zD xU l] [] (.ref 1102 0 (l.map xU).length) [(1102,.arr 5 (l.map xU) false)]:=by
 have hll:=zA xU l;refine eM call152 λF hF=>?_
 refine yY 0 rfl (λcap hx=>?_) ?_
 ·have:l=[]:=by simpa using hx
  subst this;simp at h1
 ·(repeat' (first|refine WV ?_|refine SG (I2 (λhc=>?_) (λhc=>?_))|refine SG (λhc=>?_)|(refine zE ?_;first|(refine yT ?_;refine uG (nw:=[1102]) (yJ tok 1102 (xs:=[]) rfl rfl rfl rfl rfl rfl rfl rfl rfl) rfl rfl rfl ?_))|refine SB ?_|(first|refine xS ?_|refine yZ ?_|refine vA rfl ?_|refine zX rfl ?_|refine zQ rfl ?_|refine xJ rfl (λhc=>?_) (λhc=>?_)|refine yX ?_|refine yU ?_|refine xA ?_|refine yS ?_)|fail))
  exact zL [1102] rfl rfl rfl rfl
theorem bB (r:Rq) (h1:1<=r.legs.length) (hl:r.legs.length<=1000):zN 211 [yK r] [] (uU r 1102) [(1102,fF r)]:=by
 have c:=NG r.legs h1 hl;have hll:=zA xU r.legs;refine eM call211 λF hF=>?_
 refine zU c ?_;exact zL [1102] rfl rfl rfl rfl
theorem NH (l:List Lg) (h1:1<=l.length) (hl:l.length<=1000):zN 152 [zD xU l] [] (.ref 1103 0 (l.map xU).length) [(1103,.arr 5 (l.map xU) false)]:=by
 have hll:=zA xU l;refine eM call152 λF hF=>?_
 refine yY 0 rfl (λcap hx=>?_) ?_
 ·have:l=[]:=by simpa using hx
  subst this;simp at h1
 ·(repeat' (first|refine WV ?_|refine SG (I2 (λhc=>?_) (λhc=>?_))|refine SG (λhc=>?_)|(refine zE ?_;first|(refine yT ?_;refine uG (nw:=[1103]) (yJ tok 1103 (xs:=[]) rfl rfl rfl rfl rfl rfl rfl rfl rfl) rfl rfl rfl ?_))|refine SB ?_|(first|refine xS ?_|refine yZ ?_|refine vA rfl ?_|refine zX rfl ?_|refine zQ rfl ?_|refine xJ rfl (λhc=>?_) (λhc=>?_)|refine yX ?_|refine yU ?_|refine xA ?_|refine yS ?_)|fail))
  exact zL [1103] rfl rfl rfl rfl
theorem WP (r:Rq) (h1:1<=r.legs.length) (hl:r.legs.length<=1000):zN 211 [yK r] [] (uU r 1103) [(1103,fF r)]:=by
 have c:=NH r.legs h1 hl;have hll:=zA xU r.legs;refine eM call211 λF hF=>?_
 refine zU c ?_;exact zL [1103] rfl rfl rfl rfl
theorem NI (l:List Lg) (h1:1<=l.length) (hl:l.length<=1000):zN 152 [zD xU l] [] (.ref 1104 0 (l.map xU).length) [(1104,.arr 5 (l.map xU) false)]:=by
 have hll:=zA xU l;refine eM call152 λF hF=>?_
 refine yY 0 rfl (λcap hx=>?_) ?_
 ·have:l=[]:=by simpa using hx
  subst this;simp at h1
 ·(repeat' (first|refine WV ?_|refine SG (I2 (λhc=>?_) (λhc=>?_))|refine SG (λhc=>?_)|(refine zE ?_;first|(refine yT ?_;refine uG (nw:=[1104]) (yJ tok 1104 (xs:=[]) rfl rfl rfl rfl rfl rfl rfl rfl rfl) rfl rfl rfl ?_))|refine SB ?_|(first|refine xS ?_|refine yZ ?_|refine vA rfl ?_|refine zX rfl ?_|refine zQ rfl ?_|refine xJ rfl (λhc=>?_) (λhc=>?_)|refine yX ?_|refine yU ?_|refine xA ?_|refine yS ?_)|fail))
  exact zL [1104] rfl rfl rfl rfl
theorem KT (r:Rq) (h1:1<=r.legs.length) (hl:r.legs.length<=1000):zN 211 [yK r] [] (uU r 1104) [(1104,fF r)]:=by
 have c:=NI r.legs h1 hl;have hll:=zA xU r.legs;refine eM call211 λF hF=>?_
 refine zU c ?_;exact zL [1104] rfl rfl rfl rfl
theorem zNe (a:Rq) (ha:1<=a.legs.length) (ga:a.legs.length<=1000):zN 190 [zD yK [a],.fn 218 []] [] (.ref 1001 0 1) [(1001,.arr 5 [uU a 1101] ⟨false,true⟩),(1101,fF a)]:=by
 have ca:=vE a;have da:=jS a ha ga;refine eM call190 λF hF=>?_
 refine WW ?_;refine xG 5 1001 5 rfl rfl rfl ?_;refine uK 2 [1001,1101] [5,10,1,8,9] rfl ?_;refine xB (st0:=⟨[(5,.ref 1001 0 0),(10,iA 0),(1,.fn 218 []),(8,.sl false [yK a]),(9,iA 1)],[(1001,.arr 5 [] ⟨true,false⟩)]⟩) rfl ?_
 (have zc1:=ca;have zc2:=da;(repeat' (first|refine aU ?_|refine xQ (λhc=>?_) (λhc=>?_)|refine wD (λhc=>?_)|(refine zE ?_;first|(refine yT ?_;refine dF (xs:=[_]) 1002 tok rfl rfl rfl rfl rfl rfl rfl rfl rfl rfl rfl rfl ?_)|(refine yV ?_;first|refine uS tok rfl rfl rfl rfl rfl rfl rfl (by intro y hy;cases hy;rfl) rfl rfl rfl zS rfl ?_|refine qY tok rfl rfl rfl rfl rfl rfl rfl rfl rfl rfl rfl (by intro y hy;cases hy;rfl) zS rfl ?_))|refine SB ?_|fail))<;>clear zc1 zc2)
 refine xB (st0:=⟨[(5,.ref 1001 0 1),(10,iA 1),(1,.fn 218 []),(8,.sl false [yK a]),(9,iA 1)],[(1001,.arr 5 [uU a 1101] ⟨false,true⟩),(1101,fF a)]⟩) rfl ?_;refine WW ?_;exact zL [1001,1101] rfl rfl rfl rfl
theorem FJ (a:Rq) (ha:1<=a.legs.length) (ga:a.legs.length<=1000):zN 193 [zD yK [a]] [] (.ref 1001 0 1) [(1001,.arr 5 [uU a 1101] ⟨false,true⟩),(1101,fF a)]:=by
 have c:=zNe a ha ga;refine eM call193 λF hF=>?_
 refine zU c ?_;exact zL [1001,1101] rfl rfl rfl rfl
theorem zNf (a b:Rq) (ha:1<=a.legs.length) (ga:a.legs.length<=1000) (hb:1<=b.legs.length) (gb:b.legs.length<=1000):zN 190 [zD yK [a,b],.fn 218 []] [] (.ref 1001 0 2) [(1001,.arr 5 [uU a 1101,uU b 1102] ⟨true,true⟩),(1101,fF a),(1102,fF b)]:=by
 have ca:=vE a;have da:=jS a ha ga;have cb:=vE b;have db:=bB b hb gb;refine eM call190 λF hF=>?_
 refine WW ?_;refine xG 5 1001 5 rfl rfl rfl ?_;refine uK 3 [1001,1101,1102] [5,10,1,8,9] rfl ?_;refine xB (st0:=⟨[(5,.ref 1001 0 0),(10,iA 0),(1,.fn 218 []),(8,.sl false [yK a,yK b]),(9,iA 2)],[(1001,.arr 5 [] ⟨true,false⟩)]⟩) rfl ?_
 (have zc1:=ca;have zc2:=da;(repeat' (first|refine aU ?_|refine xQ (λhc=>?_) (λhc=>?_)|refine wD (λhc=>?_)|(refine zE ?_;first|(refine yT ?_;refine dF (xs:=[_]) 1002 tok rfl rfl rfl rfl rfl rfl rfl rfl rfl rfl rfl rfl ?_)|(refine yV ?_;first|refine uS tok rfl rfl rfl rfl rfl rfl rfl (by intro y hy;cases hy;rfl) rfl rfl rfl zS rfl ?_|refine qY tok rfl rfl rfl rfl rfl rfl rfl rfl rfl rfl rfl (by intro y hy;cases hy;rfl) zS rfl ?_))|refine SB ?_|fail))<;>clear zc1 zc2)
 refine xB (st0:=⟨[(5,.ref 1001 0 1),(10,iA 1),(1,.fn 218 []),(8,.sl false [yK a,yK b]),(9,iA 2)],[(1001,.arr 5 [uU a 1101] ⟨false,true⟩),(1101,fF a)]⟩) rfl ?_
 (have zc1:=cb;have zc2:=db;(repeat' (first|refine aU ?_|refine xQ (λhc=>?_) (λhc=>?_)|refine wD (λhc=>?_)|(refine zE ?_;first|(refine yT ?_;refine dF (xs:=[_]) 1002 tok rfl rfl rfl rfl rfl rfl rfl rfl rfl rfl rfl rfl ?_)|(refine yV ?_;first|refine uS tok rfl rfl rfl rfl rfl rfl rfl (by intro y hy;cases hy;rfl) rfl rfl rfl zS rfl ?_|refine qY tok rfl rfl rfl rfl rfl rfl rfl rfl rfl rfl rfl (by intro y hy;cases hy;rfl) zS rfl ?_))|refine SB ?_|fail))<;>clear zc1 zc2)
 refine xB (st0:=⟨[(5,.ref 1001 0 2),(10,iA 2),(1,.fn 218 []),(8,.sl false [yK a,yK b]),(9,iA 2)],[(1001,.arr 5 [uU a 1101,uU b 1102] ⟨true,true⟩),(1101,fF a),(1102,fF b)]⟩) rfl ?_;refine WW ?_;exact zL [1001,1101,1102] rfl rfl rfl rfl
theorem FK (a b:Rq) (ha:1<=a.legs.length) (ga:a.legs.length<=1000) (hb:1<=b.legs.length) (gb:b.legs.length<=1000):zN 193 [zD yK [a,b]] [] (.ref 1001 0 2) [(1001,.arr 5 [uU a 1101,uU b 1102] ⟨true,true⟩),(1101,fF a),(1102,fF b)]:=by
 have c:=zNf a b ha ga hb gb;refine eM call193 λF hF=>?_
 refine zU c ?_;exact zL [1001,1101,1102] rfl rfl rfl rfl
theorem zNg (a b c:Rq) (ha:1<=a.legs.length) (ga:a.legs.length<=1000) (hb:1<=b.legs.length) (gb:b.legs.length<=1000) (hc:1<=c.legs.length) (gc:c.legs.length<=1000):zN 190 [zD yK [a,b,c],.fn 218 []] [] (.ref 1001 0 3) [(1001,.arr 5 [uU a 1101,uU b 1102,uU c 1103] ⟨true,true⟩),(1101,fF a),(1102,fF b),(1103,fF c)]:=by
 have ca:=vE a;have da:=jS a ha ga;have cb:=vE b;have db:=bB b hb gb;have cc:=vE c;have dc:=WP c hc gc;refine eM call190 λF hF=>?_
 refine WW ?_;refine xG 5 1001 5 rfl rfl rfl ?_;refine uK 4 [1001,1101,1102,1103] [5,10,1,8,9] rfl ?_;refine xB (st0:=⟨[(5,.ref 1001 0 0),(10,iA 0),(1,.fn 218 []),(8,.sl false [yK a,yK b,yK c]),(9,iA 3)],[(1001,.arr 5 [] ⟨true,false⟩)]⟩) rfl ?_
 (have zc1:=ca;have zc2:=da;(repeat' (first|refine aU ?_|refine xQ (λhc=>?_) (λhc=>?_)|refine wD (λhc=>?_)|(refine zE ?_;first|(refine yT ?_;refine dF (xs:=[_]) 1002 tok rfl rfl rfl rfl rfl rfl rfl rfl rfl rfl rfl rfl ?_)|(refine yV ?_;first|refine uS tok rfl rfl rfl rfl rfl rfl rfl (by intro y hy;cases hy;rfl) rfl rfl rfl zS rfl ?_|refine qY tok rfl rfl rfl rfl rfl rfl rfl rfl rfl rfl rfl (by intro y hy;cases hy;rfl) zS rfl ?_))|refine SB ?_|fail))<;>clear zc1 zc2)
 refine xB (st0:=⟨[(5,.ref 1001 0 1),(10,iA 1),(1,.fn 218 []),(8,.sl false [yK a,yK b,yK c]),(9,iA 3)],[(1001,.arr 5 [uU a 1101] ⟨false,true⟩),(1101,fF a)]⟩) rfl ?_
 (have zc1:=cb;have zc2:=db;(repeat' (first|refine aU ?_|refine xQ (λhc=>?_) (λhc=>?_)|refine wD (λhc=>?_)|(refine zE ?_;first|(refine yT ?_;refine dF (xs:=[_]) 1002 tok rfl rfl rfl rfl rfl rfl rfl rfl rfl rfl rfl rfl ?_)|(refine yV ?_;first|refine uS tok rfl rfl rfl rfl rfl rfl rfl (by intro y hy;cases hy;rfl) rfl rfl rfl zS rfl ?_|refine qY tok rfl rfl rfl rfl rfl rfl rfl rfl rfl rfl rfl (by intro y hy;cases hy;rfl) zS rfl ?_))|refine SB ?_|fail))<;>clear zc1 zc2)
 refine xB (st0:=⟨[(5,.ref 1001 0 2),(10,iA 2),(1,.fn 218 []),(8,.sl false [yK a,yK b,yK c]),(9,iA 3)],[(1001,.arr 5 [uU a 1101,uU b 1102] ⟨true,true⟩),(1101,fF a),(1102,fF b)]⟩) rfl ?_
 (have zc1:=cc;have zc2:=dc;(repeat' (first|refine aU ?_|refine xQ (λhc=>?_) (λhc=>?_)|refine wD (λhc=>?_)|(refine zE ?_;first|(refine yT ?_;refine dF (xs:=[_]) 1002 tok rfl rfl rfl rfl rfl rfl rfl rfl rfl rfl rfl rfl ?_)|(refine yV ?_;first|refine uS tok rfl rfl rfl rfl rfl rfl rfl (by intro y hy;cases hy;rfl) rfl rfl rfl zS rfl ?_|refine qY tok rfl rfl rfl rfl rfl rfl rfl rfl rfl rfl rfl (by intro y hy;cases hy;rfl) zS rfl ?_))|refine SB ?_|fail))<;>clear zc1 zc2)
 refine xB (st0:=⟨[(5,.ref 1001 0 3),(10,iA 3),(1,.fn 218 []),(8,.sl false [yK a,yK b,yK c]),(9,iA 3)],[(1001,.arr 5 [uU a 1101,uU b 1102,uU c 1103] ⟨true,true⟩),(1101,fF a),(1102,fF b),(1103,fF c)]⟩) rfl ?_;refine WW ?_;exact zL [1001,1101,1102,1103] rfl rfl rfl rfl
theorem FL (a b c:Rq) (ha:1<=a.legs.length) (ga:a.legs.length<=1000) (hb:1<=b.legs.length) (gb:b.legs.length<=1000) (hc:1<=c.legs.length) (gc:c.legs.length<=1000):zN 193 [zD yK [a,b,c]] [] (.ref 1001 0 3) [(1001,.arr 5 [uU a 1101,uU b 1102,uU c 1103] ⟨true,true⟩),(1101,fF a),(1102,fF b),(1103,fF c)]:=by
 have c:=zNg a b c ha ga hb gb hc gc;refine eM call193 λF hF=>?_
 refine zU c ?_;exact zL [1001,1101,1102,1103] rfl rfl rfl rfl
theorem zNh (a b c d:Rq) (ha:1<=a.legs.length) (ga:a.legs.length<=1000) (hb:1<=b.legs.length) (gb:b.legs.length<=1000) (hc:1<=c.legs.length) (gc:c.legs.length<=1000) (hd:1<=d.legs.length) (gd:d.legs.length<=1000):zN 190 [zD yK [a,b,c,d],.fn 218 []] [] (.ref 1001 0 4) [(1001,.arr 5 [uU a 1101,uU b 1102,uU c 1103,uU d 1104] ⟨true,true⟩),(1101,fF a),(1102,fF b),(1103,fF c),(1104,fF d)]:=by
 have ca:=vE a;have da:=jS a ha ga;have cb:=vE b;have db:=bB b hb gb;have cc:=vE c;have dc:=WP c hc gc;have cd:=vE d;have dd:=KT d hd gd;refine eM call190 λF hF=>?_
 refine WW ?_;refine xG 5 1001 5 rfl rfl rfl ?_;refine uK 5 [1001,1101,1102,1103,1104] [5,10,1,8,9] rfl ?_;refine xB (st0:=⟨[(5,.ref 1001 0 0),(10,iA 0),(1,.fn 218 []),(8,.sl false [yK a,yK b,yK c,yK d]),(9,iA 4)],[(1001,.arr 5 [] ⟨true,false⟩)]⟩) rfl ?_
 (have zc1:=ca;have zc2:=da;(repeat' (first|refine aU ?_|refine xQ (λhc=>?_) (λhc=>?_)|refine wD (λhc=>?_)|(refine zE ?_;first|(refine yT ?_;refine dF (xs:=[_]) 1002 tok rfl rfl rfl rfl rfl rfl rfl rfl rfl rfl rfl rfl ?_)|(refine yV ?_;first|refine uS tok rfl rfl rfl rfl rfl rfl rfl (by intro y hy;cases hy;rfl) rfl rfl rfl zS rfl ?_|refine qY tok rfl rfl rfl rfl rfl rfl rfl rfl rfl rfl rfl (by intro y hy;cases hy;rfl) zS rfl ?_))|refine SB ?_|fail))<;>clear zc1 zc2)
 refine xB (st0:=⟨[(5,.ref 1001 0 1),(10,iA 1),(1,.fn 218 []),(8,.sl false [yK a,yK b,yK c,yK d]),(9,iA 4)],[(1001,.arr 5 [uU a 1101] ⟨false,true⟩),(1101,fF a)]⟩) rfl ?_
 (have zc1:=cb;have zc2:=db;(repeat' (first|refine aU ?_|refine xQ (λhc=>?_) (λhc=>?_)|refine wD (λhc=>?_)|(refine zE ?_;first|(refine yT ?_;refine dF (xs:=[_]) 1002 tok rfl rfl rfl rfl rfl rfl rfl rfl rfl rfl rfl rfl ?_)|(refine yV ?_;first|refine uS tok rfl rfl rfl rfl rfl rfl rfl (by intro y hy;cases hy;rfl) rfl rfl rfl zS rfl ?_|refine qY tok rfl rfl rfl rfl rfl rfl rfl rfl rfl rfl rfl (by intro y hy;cases hy;rfl) zS rfl ?_))|refine SB ?_|fail))<;>clear zc1 zc2)
 refine xB (st0:=⟨[(5,.ref 1001 0 2),(10,iA 2),(1,.fn 218 []),(8,.sl false [yK a,yK b,yK c,yK d]),(9,iA 4)],[(1001,.arr 5 [uU a 1101,uU b 1102] ⟨true,true⟩),(1101,fF a),(1102,fF b)]⟩) rfl ?_
 (have zc1:=cc;have zc2:=dc;(repeat' (first|refine aU ?_|refine xQ (λhc=>?_) (λhc=>?_)|refine wD (λhc=>?_)|(refine zE ?_;first|(refine yT ?_;refine dF (xs:=[_]) 1002 tok rfl rfl rfl rfl rfl rfl rfl rfl rfl rfl rfl rfl ?_)|(refine yV ?_;first|refine uS tok rfl rfl rfl rfl rfl rfl rfl (by intro y hy;cases hy;rfl) rfl rfl rfl zS rfl ?_|refine qY tok rfl rfl rfl rfl rfl rfl rfl rfl rfl rfl rfl (by intro y hy;cases hy;rfl) zS rfl ?_))|refine SB ?_|fail))<;>clear zc1 zc2)
 refine xB (st0:=⟨[(5,.ref 1001 0 3),(10,iA 3),(1,.fn 218 []),(8,.sl false [yK a,yK b,yK c,yK d]),(9,iA 4)],[(1001,.arr 5 [uU a 1101,uU b 1102,uU c 1103] ⟨true,true⟩),(1101,fF a),(1102,fF b),(1103,fF c)]⟩) rfl ?_
 (have zc1:=cd;have zc2:=dd;(repeat' (first|refine aU ?_|refine xQ (λhc=>?_) (λhc=>?_)|refine wD (λhc=>?_)|(refine zE ?_;first|(refine yT ?_;refine dF (xs:=[_]) 1002 tok rfl rfl rfl rfl rfl rfl rfl rfl rfl rfl rfl rfl ?_)|(refine yV ?_;first|refine uS tok rfl rfl rfl rfl rfl rfl rfl (by intro y hy;cases hy;rfl) rfl rfl rfl zS rfl ?_|refine qY tok rfl rfl rfl rfl rfl rfl rfl rfl rfl rfl rfl (by intro y hy;cases hy;rfl) zS rfl ?_))|refine SB ?_|fail))<;>clear zc1 zc2)
 refine xB (st0:=⟨[(5,.ref 1001 0 4),(10,iA 4),(1,.fn 218 []),(8,.sl false [yK a,yK b,yK c,yK d]),(9,iA 4)],[(1001,.arr 5 [uU a 1101,uU b 1102,uU c 1103,uU d 1104] ⟨true,true⟩),(1101,fF a),(1102,fF b),(1103,fF c),(1104,fF d)]⟩) rfl ?_;refine WW ?_;exact zL [1001,1101,1102,1103,1104] rfl rfl rfl rfl
theorem FM (a b c d:Rq) (ha:1<=a.legs.length) (ga:a.legs.length<=1000) (hb:1<=b.legs.length) (gb:b.legs.length<=1000) (hc:1<=c.legs.length) (gc:c.legs.length<=1000) (hd:1<=d.legs.length) (gd:d.legs.length<=1000):zN 193 [zD yK [a,b,c,d]] [] (.ref 1001 0 4) [(1001,.arr 5 [uU a 1101,uU b 1102,uU c 1103,uU d 1104] ⟨true,true⟩),(1101,fF a),(1102,fF b),(1103,fF c),(1104,fF d)]:=by
 have c:=zNh a b c d ha ga hb gb hc gc hd gd;refine eM call193 λF hF=>?_
 refine zU c ?_;exact zL [1001,1101,1102,1103,1104] rfl rfl rfl rfl
theorem QT (K:List Nat) (h:yH):∀a b:List AV,uO K h (a++b)=uO K h a++uO K h b
 | [],b=>rfl
 |v::a,b=>by rw[zZx,uO,uO,QT K h a b];rfl
theorem KU (K:List Nat) (h:yH):∀l:List Rq,uO K h (l.map yK)=l.map yK
 | []=>rfl
 |r::l=>by rw[zYi,uO,KU K h l];rfl
theorem UQ (K:List Nat) (h:yH):∀a b:List AV,wE K h (a++b)=wE K h a++wE K h b
 | [],b=>rfl
 |v::a,b=>by rw[zZx,wE,wE,UQ K h a b];rfl
theorem QU (K:List Nat) (h:yH):∀l:List Rq,wE K h (l.map yK)=l.map yK
 | []=>rfl
 |r::l=>by rw[zYi,wE,QU K h l];rfl
theorem XF:∀a b:List AV,wC (a++b)=(wC a&&wC b)
 | [],b=>rfl
 |v::a,b=>by rw[zZx,wC,wC,XF a b,Bool.and_assoc]
theorem UR:∀l:List Rq,wC (l.map yK)=true
 | []=>rfl
 |r::l=>by rw[zYi,wC,UR l];rfl
def bZ (pre:List Rq) (x:Rq) (post:List Rq) (k:Nat):List AV:=pre.map yK++uU x k::post.map yK
theorem ZT (pre:List Rq) (x:Rq) (post:List Rq) (k:Nat):(bZ pre x post k).length=pre.length+1+post.length:=by simp[bZ];omega
theorem WQ (h:yH) (pre:List Rq) (x:Rq) (post:List Rq) (b:Bool):qR [1001,1101] h (.arr 5 (bZ pre x post 1101) ⟨b,true⟩)= .arr 5 (bZ pre x post 1101) ⟨b,true⟩:=by
 have e:uO [1001,1101] h (bZ pre x post 1101)=bZ pre x post 1101:=by
  unfold bZ;rw[QT,KU,uO,KU];rfl
 have e2:wC (bZ pre x post 1101)=false:=by
  unfold bZ;rw[XF,UR,wC];rfl
 show xN.arr 5 (uO [1001,1101] h (bZ pre x post 1101)) ⟨b,!wC (uO [1001,1101] h (bZ pre x post 1101))⟩=_
 rw[e,e2];rfl
theorem zNi (pre:List Rq) (x:Rq) (post:List Rq) (k:Nat) (y:Rq):bZ pre x post k++[yK y]=bZ pre x (post++[y]) k:=by
 unfold bZ;rw[zXf,zXy];rfl
theorem zNj (pre:List Rq) (x:Rq) (post:List Rq) (l:List Rq) (hL:l=pre++x::post) (hn:l.length<=1000) (hb:∀r∈l,1<=r.legs.length/\r.legs.length<=1000):
  zN 190 [zD yK l,.fn 218 []] [] (.ref 1001 0 (bZ pre x post 1101).length) [(1001,.arr 5 (bZ pre x post 1101) ⟨true,true⟩),(1101,fF x)]:=by
 have hl:=zA yK l;have hlen:l.length=pre.length+1+post.length:=by rw[hL];simp;omega
 refine eM call190 λF hF=>?_
 refine WW ?_;refine xG 5 1001 5 rfl rfl rfl ?_;refine wV (λn st=>∃i,n+i=l.length/\st=if i<=pre.length then(⟨[(5,.ref 1001 0 ((l.take i).map yK).length),(10,iA i),(1,.fn 218 []),(8,zD yK l),(9,iA (l.map yK).length)],[(1001,.arr 5 ((l.take i).map yK) true)]⟩:St)else⟨[(5,.ref 1001 0 (bZ pre x (post.take (i-pre.length-1)) 1101).length),(10,iA i),(1,.fn 218 []),(8,zD yK l),(9,iA (l.map yK).length)],[(1001,.arr 5 (bZ pre x (post.take (i-pre.length-1)) 1101) ⟨true,true⟩),(1101,fF x)]⟩) l.length [1001,1101] [5,10,1,8,9] rfl ⟨0,zB,by rw[zW9 (zXp _)];rfl⟩ ?_;rintro n st ⟨i,hi,rfl⟩;by_cases hip:i<pre.length
 ·rw[zW9 zB];have hy:=zM yK l i zB;have hm:l.getD i default∈l:=by simp[List.getD,show i<l.length by omega]
  have hs:=hb _ hm
  have e:(l.take (i+1)).map yK=(l.take i).map yK++[yK (l.getD i default)]:=by
   rw[zZv,zXf,zXr zB];simp[List.getD,show i<l.length by omega]
  have hpl:((l.take i).map yK).length=i:=by rw[zXa,zXw];omega
  have hil:i<l.length:=by omega
  clear hm;generalize l.getD i default=r at *;have c1:=vE r;have c2:=WU r zB
  (have zc1:=c1;have zc2:=c2;(repeat' (first|refine qA ?_|refine xQ (λhc=>?_) (λhc=>?_)|refine wD (λhc=>?_)|(refine zE ?_;first|(refine yV ?_;refine uG (nw:=[]) (vY true false tok rfl rfl rfl rfl rfl rfl (λh=>by cases h) rfl (by intro y hy;cases hy;rfl) rfl rfl rfl rfl (by simp only[ZT,zXa,zXw,zXl,zYa,zYd];omega) (λh=>by cases h)) rfl rfl rfl ?_)|refine SM ?_)|fail))<;>clear zc1 zc2)
  exact⟨n-1,zB,i+1,zB,by rw[zW9 zB,e];rfl⟩
 by_cases hie:i=pre.length
 ·rw[zW9 zB];subst hie;have hil:pre.length<l.length:=by omega
  have ht:(l.take pre.length).map yK=pre.map yK:=by rw[hL];simp
  have hy:(l.map yK)[pre.length]? =some (yK x):=by rw[hL];simp
  have hs:=hb x (by rw[hL];simp);rw[ht];clear hL;have c1:=vE x;have c2:=jS x zB zB;have hpt:pre.length<=1000:=by omega
  (have zc1:=c1;have zc2:=c2;(repeat' (first|refine aU ?_|refine xQ (λhc=>?_) (λhc=>?_)|refine wD (λhc=>?_)|(refine zE ?_;first|(refine yT ?_;refine dF (xs:=[_]) 1002 tok rfl rfl rfl rfl rfl rfl rfl rfl rfl rfl rfl rfl ?_)|(refine yV ?_;refine uG (nw:=[]) (vY true true tok rfl rfl rfl rfl rfl rfl (λh=>by cases h) rfl (by intro y hy;cases hy;rfl) rfl rfl rfl rfl (by simp only[ZT,zXa,zXw,zXl,zYa,zYd];omega) (λh=>by cases h)) rfl rfl rfl ?_))|refine SB ?_|fail))<;>clear zc1 zc2)
  refine⟨n-1,zB,pre.length+1,zB,?_⟩;rw[zW8 zB,show pre.length+1-pre.length-1=0 by omega];refine zX7 (St.mk _) ?_
  show [(1001,qR [1001,1101] _ (.arr 5 (bZ pre x [] 1101) ⟨true,true⟩)),(1101,fF x)]=_
  rw[WQ];rfl
 rw[zW8 zB];by_cases hil:i<l.length
 ·have hy:=zM yK l i hil;have hm:l.getD i default∈l:=by simp[List.getD,hil]
  have hs:=hb _ hm
  have hg:post[i-pre.length-1]? =some (l.getD i default):=by
   have h1:l[i]? =some (l.getD i default):=by simp[List.getD,hil]
   rw[hL,zX2 zB]at h1;rw[show i-pre.length=(i-pre.length-1)+1 by omega,List.getElem?_cons_succ]at h1;rw[<-hL]at h1;exact h1
  have e:bZ pre x (post.take (i+1-pre.length-1)) 1101=bZ pre x (post.take (i-pre.length-1)) 1101++[yK (l.getD i default)]:=by
   rw[zNi,show i+1-pre.length-1=(i-pre.length-1)+1 by omega,zZv,hg];rfl
  have hcl:=ZT pre x (post.take (i-pre.length-1)) 1101;have hpt:(post.take (i-pre.length-1)).length<=1000:=by rw[zXw];omega
  have hf:=λh=>WQ h pre x (post.take (i+1-pre.length-1)) true
  rw[e]at hf;clear hm hg hL;generalize l.getD i default=r at *;generalize bZ pre x (post.take (i-pre.length-1)) 1101=cs at *;have c1:=vE r;have c2:=WU r zB
  (have zc1:=c1;have zc2:=c2;(repeat' (first|refine qA ?_|refine xQ (λhc=>?_) (λhc=>?_)|refine wD (λhc=>?_)|(refine zE ?_;first|(refine yV ?_;refine uG (nw:=[]) (vY true true tok rfl rfl rfl rfl rfl rfl (λh=>by cases h) rfl (by intro y hy;cases hy;rfl) rfl rfl rfl rfl (by simp only[ZT,zXa,zXw,zXl,zYa,zYd];omega) (λh=>by cases h)) rfl rfl rfl ?_)|refine SM ?_)|fail))<;>clear zc1 zc2)
  refine⟨n-1,zB,i+1,zB,?_⟩;rw[zW8 zB,e];refine zX7 (St.mk _) ?_
  show [(1001,qR [1001,1101] _ (.arr 5 (cs++[yK r]) ⟨true,true⟩)),(1101,fF x)]=_
  rw[hf]
 ·have hf:=λh=>WQ h pre x post true
  rw[show i-pre.length-1=post.length by omega,zXe];generalize bZ pre x post 1101=cs at *;refine WW ?_;refine zL [1001,1101] rfl rfl rfl ?_
  show [(1001,qR [1001,1101] _ (.arr 5 cs ⟨true,true⟩)),(1101,fF x)]=_
  rw[hf]
theorem FN (pre:List Rq) (x:Rq) (post:List Rq) (l:List Rq) (hL:l=pre++x::post) (hn:l.length<=1000) (hb:∀r∈l,1<=r.legs.length/\r.legs.length<=1000):
  zN 193 [zD yK l] [] (.ref 1001 0 (bZ pre x post 1101).length) [(1001,.arr 5 (bZ pre x post 1101) ⟨true,true⟩),(1101,fF x)]:=by
 have c:=zNj pre x post l hL hn hb;have hf:=λh=>WQ h pre x post true
 generalize bZ pre x post 1101=cs at *;refine eM call193 λF hF=>?_
 refine zU c ?_;refine zL [1001,1101] rfl rfl rfl ?_
 show [(1001,qR [1001,1101] _ (.arr 5 cs ⟨true,true⟩)),(1101,fF x)]=_
 rw[hf]
def wnA (p:Int×Int):AV:= .agg [iA p.1,iA p.2]
def nwL (now:Int) (g:Lg) (p:Int×Int):Lg:=⟨g.jn,g.ph,now+p.1,now+p.2,g.sc⟩
def okW (now:Int) (g:Lg) (p:Int×Int):Bool:=mwB g.jn g.ph p.1 p.2 now
def FO (gs:List Lg) (w:List (Int×Int)) (now:Int):Bool:=(gs.zipWith (okW now) w).all id
def bC (l:List Rq) (id:Int) (w:List (Int×Int)) (now:Int):Int:=
 if hH l id=true then(if w.length=(fdQ l id).legs.length/\FO (fdQ l id).legs w now=true then 0 else 8)else 12
def NJ (l:List Rq) (id:Int) (w:List (Int×Int)) (now:Int):List Rq:=l.map λr=>if r.id=id then⟨r.id,r.vh,r.cls,r.til,r.legs.zipWith (nwL now) w⟩else r
def CB (gs:List Lg) (w:List (Int×Int)) (now:Int) (i:Nat):List Lg:=(gs.take i).zipWith (nwL now) (w.take i)++gs.drop i
theorem zBc {gs:List Lg} {w:List (Int×Int)} {now:Int} {i:Nat} (h:w.length=gs.length) (hi:i<=gs.length):(CB gs w now i).length=gs.length:=by
 unfold CB;rw[zXb,yBe,zXw,zXw,zYd];omega
theorem zSk {gs:List Lg} {w:List (Int×Int)} {now:Int} {i:Nat} (h:w.length=gs.length) (hi:i<gs.length):((CB gs w now i).map xU)[i]? =some (xU (gs.getD i default)):=by
 unfold CB;have e:((gs.take i).zipWith (nwL now) (w.take i)).length=i:=by rw[yBe,zXw,zXw];omega
 rw[zXd,zX2 zB,e,zZo,zZb];simp[List.getD,hi]
theorem zNk {gs:List Lg} {w:List (Int×Int)} {now:Int} {i:Nat} (h:w.length=gs.length) (hi:i<gs.length):((CB gs w now i).map xU).set i (xU (nwL now (gs.getD i default) (w.getD i default)))=(CB gs w now (i+1)).map xU:=by
 unfold CB;have e:((gs.take i).zipWith (nwL now) (w.take i)).length=i:=by rw[yBe,zXw,zXw];omega
 rw[<-zZh,yAb _ _ zB,e,zZo,zZ5 hi,yBk];rw[zZv,zZv,List.zipWith_append (by rw[zXw,zXw];omega)];rw[zXr hi,zXr zB];simp[List.getD,hi,show i<w.length by omega]
theorem zVo (gs:List Lg) (w:List (Int×Int)) (now:Int):CB gs w now 0=gs:=by simp[CB]
theorem zNl {gs:List Lg} {w:List (Int×Int)} {now:Int} (h:w.length=gs.length):CB gs w now gs.length=gs.zipWith (nwL now) w:=by
 unfold CB;rw[zXe,<-h,zXe,h,yBb,zX8]
theorem zNm {gs:List Lg} {w:List (Int×Int)} {now:Int} (h:w.length=gs.length) (ha:∀i,i<gs.length->okW now (gs.getD i default) (w.getD i default)=true):FO gs w now=true:=by
 unfold FO;rw[zXm];intro b hb;obtain⟨i,hi,rfl⟩:=yA7.1 hb;rw[yBe]at hi;have:=ha i zB;rw[List.getElem_zipWith];simpa [List.getD,show i<gs.length by omega,show i<w.length by omega]using this
theorem zSl {gs:List Lg} {w:List (Int×Int)} {now:Int} {i:Nat} (h:w.length=gs.length) (hi:i<gs.length) (ha:okW now (gs.getD i default) (w.getD i default)=false):FO gs w now=false:=by
 unfold FO;rw[zZ7];refine⟨okW now (gs.getD i default) (w.getD i default),?_,by rw[ha];decide⟩
 have:(gs.zipWith (okW now) w)[i]? =some (okW now (gs.getD i default) (w.getD i default)):=by
  rw[yCb,zXr hi,zXr zB];simp[List.getD,hi,show i<w.length by omega]
 exact zYt this
theorem zBd {l pre post:List Rq} {x:Rq} {id:Int} {w:List (Int×Int)} {now:Int} (hL:l=pre++x::post) (hv:aC l) (hx:x.id=id):NJ l id w now=pre++⟨x.id,x.vh,x.cls,x.til,x.legs.zipWith (nwL now) w⟩::post:=by
 have hs:=hv.so;rw[hL,yA8,yBj]at hs;obtain⟨_,⟨h2,_⟩,h3⟩:=hs;unfold NJ;rw[hL,zXf,zYi,zW9 hx]
 congr 1
 ·conv=>rhs;rw[<-List.map_id pre]
  refine yAp λy hy=>?_
  have:=h3 y hy x zS;rw[zW8 zB];rfl
 ·congr 1
  conv=>rhs;rw[<-List.map_id post]
  refine yAp λy hy=>?_
  have:=h2 y hy;rw[zW8 zB];rfl
theorem zNn {h:yH} {pre post:List Rq} {x:Rq} {b:Bool} {gs:List Lg} (h1:h 1001=some (.arr 5 (bZ pre x post 1101) ⟨b,true⟩)) (h2:h 1101=some (.arr 5 (gs.map xU) false)) (hl:gs.length=x.legs.length):
  wN [] h (.ref 1001 0 (bZ pre x post 1101).length)=zD yK (pre++⟨x.id,x.vh,x.cls,x.til,gs⟩::post):=by
 have e:wE [] h (bZ pre x post 1101)=(pre++⟨x.id,x.vh,x.cls,x.til,gs⟩::post).map yK:=by
  unfold bZ;rw[UQ,QU,wE,QU,zXf,zYi]
  congr 1
  congr 1
  show AV.agg [iA x.id,iA x.vh,iA x.cls,iA x.til,vN [] h (.ref 1101 0 (x.legs.map xU).length)]=_
  have e2:vN [] h (.ref 1101 0 (x.legs.map xU).length)=zD xU gs:=by
   simp only[vN,h2]
   show AV.sl false (((gs.map xU).drop 0).take (x.legs.map xU).length)=_
   rw[zYf,zXa,zXk (by rw[zXa,hl];exact zXc _)];rfl
  rw[e2];rfl
 have hl2:(bZ pre x post 1101).length=((pre++⟨x.id,x.vh,x.cls,x.til,gs⟩::post).map yK).length:=by rw[ZT];simp;omega
 rw[hl2];simp only[wN,h1]
 show(bif wC (wE [] h (bZ pre x post 1101))then AV.sl false (((wE [] h (bZ pre x post 1101)).drop 0).take _)else .bot)=_
 rw[e,UR,zYf,zXe];rfl
theorem MK {l:List Rq} {id:Int} (h:hH l id=true):∃pre x post,l=pre++x::post/\x.id=id/\(∀y∈pre,y.id≠id)/\fdQ l id=x/\UB (λr:Rq=>r.id==id) l=(pre.length:Int):=by
 induction l with
 |nil=>cases h
 | cons a l ih=>
  by_cases ha:a.id=id
  ·refine⟨[],a,l,rfl,ha,by simp,(zBb (pre:=[]) rfl zS ha).1,RI (pre:=[]) rfl zS (by simpa using ha)⟩
  ·have h2:hH l id=true:=by simpa [hH,ha]using h
   obtain⟨pre,x,post,e1,e2,e3,_,_⟩:=ih h2
   have hp:∀y∈a::pre,y.id≠id:=λy hy=>by
    rcases zYq.1 hy with rfl|hy
    ·exact ha
    ·exact e3 y hy
   have e:a::l=(a::pre)++x::post:=by rw[e1];rfl
   exact⟨a::pre,x,post,e,e2,hp,(zBb e hp e2).1,RI e (λy hy=>by simpa using hp y hy) (by simpa using e2)⟩
theorem zHw (l:List Rq) (id:Int) (w:List (Int×Int)) (now:Int) (hv:aC l) (hw:w.length<=1000) (n0:0<=now) (n1:now<=1073741824):
  zN 239 [zD yK l,iA id,zD wnA w,iA now] [] (.tup [zD yK (if bC l id w now=0 then NJ l id w now else []),iA (bC l id w now)]) []:=by
 have h4:=hv.n4;have hlw:=zA wnA w;have c1:=VB l 4 hv zB;have c2:=zBl now;have c3:=QV l id zB;rw[zXg ⟨n0,n1⟩]at c2
 cases hh:hH l id with
 |false=>
  have hx:=aT (p:=λx:Rq=>x.id==id) (l:=l) (by simpa [hH]using hh);rw[hx]at c3;have e:bC l id w now=12:=zW8 (by rw[hh];decide);rw[e,zW8 xL];refine eM call239 λF hF=>?_
  refine yO (gU c1 c2 c3) ?_;exact zK
 |true=>
 obtain⟨pre,x,post,hL,hx,_,hf,hix⟩:=MK hh;rw[hix]at c3;have hup:=zBd (w:=w) (now:=now) hL hv hx
 have e0:bC l id w now=if w.length=x.legs.length/\FO x.legs w now=true then 0 else 8:=by unfold bC;rw[zW9 hh,hf]
 have hlen:l.length=pre.length+1+post.length:=by rw[hL];simp;omega
 have hxl:=hv.lg3 (r:=x) (by rw[hL];simp);have c4:=FN pre x post l hL zB (λr hr=>by have:=hv.lg3 hr;omega);have hcl:=ZT pre x post 1101;have hfr:=λh=>WQ h pre x post true
 have hat:(bZ pre x post 1101)[((pre.length:Int)).toNat]? =some (uU x 1101):=by unfold bZ;simp
 have hfin:=λh gs=>zNn (h:=h) (pre:=pre) (post:=post) (x:=x) (b:=true) (gs:=gs)
 have hlx:=zA xU x.legs;generalize bZ pre x post 1101=cs at *;clear hL hv hix hf hh hx;by_cases hwl:w.length=x.legs.length
 case neg=>
  rw[zW8 (λh=>hwl h.1)]at e0;rw[e0,zW8 xL];refine eM call239 λF hF=>?_
  refine yO (aB c1 c2 c3 c4) ?_;exact zK
 refine eM call239 λF hF=>?_
 refine yO (aB c1 c2 c3 c4) ?_;refine wV (λn st=>∃i,n+i=x.legs.length/\(∀j,j<i->okW now (x.legs.getD j default) (w.getD j default)=true)/\st=(⟨[(44,iA i),(3,iA now),(11,.ref 1001 0 cs.length),(12,.ref 1101 0 (x.legs.map xU).length),(42,zD wnA w),(43,iA (w.map wnA).length)],[(1001,.arr 5 cs ⟨true,true⟩),(1101,.arr 5 ((CB x.legs w now i).map xU) false)]⟩:St)) x.legs.length [1001,1101] [44,3,11,12,42,43] rfl ⟨0,zB,λj hj=>absurd hj (zZq _),?_⟩ ?_
 ·rw[zVo];refine zX7 (St.mk _) ?_
  show [(1001,qR [1001,1101] _ (.arr 5 cs ⟨true,true⟩)),(1101,fF x)]=_
  rw[hfr];rfl
 rintro n st ⟨i,hi,hok,rfl⟩;by_cases hil:i<x.legs.length
 ·have hul:=zBc (i:=i) (now:=now) hwl zB;have hlu:=zA xU (CB x.legs w now i);have hy2:=zM wnA w i zB;have hy:=zSk (now:=now) hwl hil;have hst:=zNk (now:=now) hwl hil;have c5:=zBj (x.legs.getD i default).jn (x.legs.getD i default).ph (w.getD i default).1 (w.getD i default).2 now
  cases hb:okW now (x.legs.getD i default) (w.getD i default)with
  |false=>
   have hno:=zSl hwl hil hb;rw[zW8 (λh=>by rw[hno]at h;cases h.2)]at e0;rw[e0,zW8 xL];unfold okW at hb;unfold mwF at c5;rw[hb,zW8 zXx,zW8 zXx]at c5;clear hok hfin hup hno hst;generalize x.legs.getD i default=g at *;generalize w.getD i default=q at *;generalize (CB x.legs w now i).map xU=ys at *;refine zU c5 ?_;exact zK
  | true=>
   have hok2:∀j,j<i+1->okW now (x.legs.getD j default) (w.getD j default)=true:=λj hj=>by
    by_cases hji:j=i
    ·rw[hji];exact hb
    ·exact hok j zB
   unfold okW at hb;unfold mwF at c5;rw[hb,zW9 rfl,zW9 rfl]at c5;have hset:∀y:AV,(((CB x.legs w now i).map xU).set i y)[i]? =some y:=λy=>zYw zB
   clear hok hfin hup e0 hb;generalize x.legs.getD i default=g at *;generalize w.getD i default=q at *;generalize (CB x.legs w now i).map xU=ys at*
   (have zc1:=c5;(repeat' (first|refine WTR ?_|refine xQ (λhc=>?_) (λhc=>?_)|refine wD (λhc=>?_)|(refine zE ?_;first|(refine bI ?_;refine AZ tok rfl rfl rfl (hset _) rfl rfl rfl rfl rfl rfl rfl rfl ?_)|refine SM ?_)|refine SB ?_|fail))<;>clear zc1)
   refine⟨n-1,zB,i+1,zB,hok2,?_⟩;refine zX7 (St.mk _) ?_
   show [(1001,qR [1001,1101] _ (.arr 5 cs ⟨true,true⟩)),(1101,.arr 5 ((ys.set i _).set i (xU (nwL now g q))) false)]=_
   rw[hfr,yB1,hst]
 ·obtain rfl:i=x.legs.length:=by omega
  have hul:=zBc (i:=x.legs.length) (now:=now) hwl (zXc _);have hyes:=zNm hwl hok;rw[zW9 ⟨hwl,hyes⟩]at e0;rw[e0,zW9 rfl,hup];rw[zNl hwl]at hul⊢;generalize x.legs.zipWith (nwL now) w=gs at *;refine WW ?_;refine zH [] rfl rfl ?_ rfl
  show AV.tup [XO (wN [] _ (.ref 1001 0 cs.length)),iA 0]=_
  rw[hfin _ gs rfl rfl hul];rfl
def XX:List Int->Nat->Int->Int×Int×Int
 | [],_,_=>(0,0,6)
 |x::r,i,n=>if i=5 then(0,0,6)else if 128<=x then XX r (i+1) (n+x.tmod 128*128 ^ i)else if 4294967295<n+x.tmod 128*128 ^ i∨(0<i/\x=0)then(0,0,6)else(n+x.tmod 128*128 ^ i,i+1,0)
def aA (b:List Int):Int×Int×Int:=XX b 0 0
def szF (n:Int):Int:=if n<0∨4294967295<n then 0 else if n<128 then 1 else if n<16384 then 2 else if n<2097152 then 3 else if n<268435456 then 4 else 5
def lgF (m:Int):Int:=if m<128 then 0 else if m<16384 then 1 else if m<2097152 then 2 else if m<268435456 then 3 else 4
theorem zHx {n:Int} (h0:0<=n) (h1:n<=4294967295):szF n=1+lgF n:=by
 unfold szF lgF;rw[zW8 zB]
 repeat' split
 all_goals omega
theorem zNo {m:Int} (h0:128<=m) (h1:m<=4294967295):lgF m=1+lgF (m/128):=by
 unfold lgF;rw[zW8 zB]
 repeat' split
 all_goals omega
theorem zSm {m:Int} (h:m<128):lgF m=0:=zW9 h
theorem zHy (n:Int):zN 203 [iA n] [] (iA (szF n)) []:=by
 by_cases h:n<0∨4294967295<n
 ·have e:szF n=0:=zW9 h;rw[e];by_cases h1:n<0
  ·(refine eM call203 λF hF=>?_)
   refine WW ?_;exact zK
  ·have h2:=h.resolve_left h1;refine eM call203 λF hF=>?_
   refine WW ?_;exact zK
 have h1:0<=n:=by omega
 have h2:n<=4294967295:=by omega
 rw[zHx h1 h2];generalize hs:1+lgF n=s;refine eM call203 λF hF=>?_
 refine WW ?_;refine fW (5) [] [] [] [0,3] rfl (λzn T U zs=>∃(m:Int) (k:Int),(0<=m/\m<=4294967295/\k=6-zn/\1<=k/\k<=5/\(k=2->m<=33554431)/\(k=3->m<=262143)/\(k=4->m<=2047)/\(k=5->m<=15)/\s=k+lgF m)/\zs=⟨(0,iA m)::(3,iA k)::T,U⟩) ?_;(conv=>whnf);refine⟨?_,?_⟩
 ·exact⟨n,1,⟨h1,h2,zB,zB,zB,zB,zB,zB,zB,hs.symm⟩,rfl⟩
 ·rintro zn st ⟨m,k,⟨q0,q1,q2,q3,q4,q5,q6,q7,q8,q9⟩,rfl⟩;by_cases hm:128<=m
  ·have hd:=zNo hm q1;have hmd:m.tdiv 128=m/128:=zY0 q0;have hir:YI .i64 (m.tdiv 128):=⟨zB,zB⟩;refine WW ?_;refine⟨zn-1,zB,m.tdiv 128,k+1,⟨zB,zB,zB,zB,zB,zB,zB,zB,zB,by rw[hmd];omega⟩,rfl⟩
  ·rw[zSm zB]at q9;obtain rfl:s=k:=by omega
   refine WW ?_;exact zK
theorem zVp {i:Nat} (h:i<=4):((128:Int) ^ i=1/\i=0)∨((128:Int) ^ i=128/\i=1)∨((128:Int) ^ i=16384/\i=2)∨((128:Int) ^ i=2097152/\i=3)∨((128:Int) ^ i=268435456/\i=4):=by
 obtain rfl|rfl|rfl|rfl|rfl:i=0∨i=1∨i=2∨i=3∨i=4:=by omega
 all_goals simp
theorem zPr {x P:Int} (x0:0<=x) (x1:x<128) (P0:1<=P) (P1:P<=268435456):0<=x*P/\x*P<=127*P:=by
 refine⟨yC6 x0 zB,Int.mul_le_mul_of_nonneg_right zB zB⟩
section
variable {P:Program} {tm:List (Nat×AV)} {h:List (Nat×xN)} {tx ty:Nat} {x y:Operand}
theorem zSn:∀k:_root_.Fin 256,IntKind.u8.wrap (BitVec.ofInt IntKind.u8.bits (k.val:Int) &&& BitVec.ofInt IntKind.u8.bits 127).toNat=((k.val:Int)).tmod 128:=by decide +kernel
theorem aS {m:Int} (hx:yL (zG tm) x= .s (.int .u8 m)) (hy:yL (zG tm) y= .s (.int .u8 127)) (h0:0<=m/\m<256):wR P ⟨tm,h⟩ (.binOp .and tx x y ty) (.s (.int .u8 (m.tmod 128))) [] [] []:=by
 have e:=zSn ⟨m.toNat,zB⟩;simp only[show((m.toNat:Nat):Int)=m by omega]at e;rw[<-e];exact RN hx hy
end
theorem zNp (a b:Nat) (ha:a<2 ^ 60) (hb:b<2 ^ 60):orI a b=((a ||| b:Nat):Int):=by
 have h:=yCw ha hb;unfold orI;rw[show BitVec.ofInt IntKind.i64.bits (a:Int)=BitVec.ofNat IntKind.i64.bits a from yAm ..];rw[show BitVec.ofInt IntKind.i64.bits (b:Int)=BitVec.ofNat IntKind.i64.bits b from yAm ..];rw[yC1,yAl,yAl,zZt (zYh ha (yA9 xL xL)),zZt (zYh hb (yA9 xL xL))];refine qT ⟨?_,?_⟩
 ·show(-9223372036854775808:Int)<=_
  omega
 ·show _<=(9223372036854775807:Int)
  have:(2:Nat) ^ 60=1152921504606846976:=rfl;omega
theorem zSo {i:Nat} {n y:Int} (h:i<=4) (h0:0<=n) (h1:n<128 ^ i) (y0:0<=y) (y1:y<128):orI n (IntKind.i64.wrap (y*2 ^ (min ((7*(i:Int)).toNat) IntKind.i64.bits)))=n+y*128 ^ i:=by
 have hb:IntKind.i64.bits=64:=rfl;have e1:min ((7*(i:Int)).toNat) 64=7*i:=by omega
 have e2:(2:Int) ^ (7*i)=128 ^ i:=by rw[Int.pow_mul];rfl
 rw[hb,e1,e2];have hP:1<=(128:Int) ^ i/\(128:Int) ^ i<=268435456:=by have:=zVp h;omega
 have hz:=zPr y0 y1 hP.1 hP.2;rw[show IntKind.i64.wrap (y*128 ^ i)=y*128 ^ i from qT (k:= .i64) (by unfold YI;generalize y*128 ^ i=Z at *;generalize (128:Int) ^ i=Pw at *;omega)];obtain⟨a,rfl⟩:=zZ2 h0;obtain⟨c,rfl⟩:=zZ2 y0;have hPn:(128:Int) ^ i=((128 ^ i:Nat):Int):=by simp
 rw[hPn]at h1 hz hP⊢;have ha:a<128 ^ i:=by omega
 rw[show((c:Int)*((128 ^ i:Nat):Int))=((c*128 ^ i:Nat):Int) by simp]at hz⊢;rw[zNp a (c*128 ^ i) (by have:(2:Nat) ^ 60=1152921504606846976:=rfl;omega) (by have:(2:Nat) ^ 60=1152921504606846976:=rfl;omega)];have e3:(128:Nat) ^ i=2 ^ (7*i):=by rw[Nat.pow_mul]
 rw[e3]at ha⊢;have:=yBn ha c;rw[yC0]at this;rw[Nat.or_comm,<-this];omega
theorem zVq (b:List Int) (hb:BY b) (hn:b.length<=100000):zN 173 [zD yA b] [] (.tup [iA (aA b).1,iA (aA b).2.1,iA (aA b).2.2]) []:=by
 have hl:=zA yA b;refine eM call173 λF hF=>?_
 refine WW ?_;refine kJ (b) [] [] [8,9] [5,10,8,9] rfl (λi pre T U zs=>∃n:Int,(0<=n/\n<128 ^ i/\i<=5/\∀post,b=pre++post->aA b=XX post i n)/\zs=⟨(5,iA n)::(10,iA i)::T,U⟩) ?_;(conv=>whnf);refine⟨?_,?_,?_⟩
 ·exact⟨0,⟨zB,by decide,zB,λpost h=>by rw[h];rfl⟩,rfl⟩
 ·rintro i pre x r st hx hi ⟨n,⟨q0,q1,q2,q3⟩,rfl⟩;have hy:=yP yA hx hi;have hlt:=yF hx hi;have hxb:=hb x (xV hx);rw[q3 _ hx]
  have q4:∀post,b=pre++[x]++post->post=r:=λpost h=>by
   rw[hx,zXy]at h;simpa using h.symm
  clear q3 hx;by_cases hi5:i=5
  ·subst hi5
   show uC _ _ _ _ _ (XS (inB 0 (MR _ _ _ _ (Fin _ _ [] (.tup [iA 0,iA 0,iA 6]) []))) _)
   clear q4;refine WW ?_;exact zK
  have ht:x.tmod 128=x % 128:=zYn hxb.1;have hPb:=zVp (i:=i) zB;have hPw:1<=(128:Int) ^ i/\(128:Int) ^ i<=268435456:=by omega
  have hz:=zPr (x:=x.tmod 128) (P:=128 ^ i) zB zB zB zB;have hE:=zSo (i:=i) (n:=n) (y:=x.tmod 128) zB q0 q1 zB zB;have hP1:(128:Int) ^ (i+1)=128 ^ i*128:=rfl;by_cases h128:128<=x
  ·have e:XX (x::r) i n=XX r (i+1) (n+x.tmod 128*128 ^ i):=by rw[XX,zW8 hi5,zW9 h128]
   rw[e]
   have hm1:0<=n+x.tmod 128*128 ^ i/\n+x.tmod 128*128 ^ i<128 ^ (i+1):=by
    rw[hP1];generalize x.tmod 128*128 ^ i=Z at *;omega
   clear hPb e hz;generalize n+x.tmod 128*128 ^ i=M at*
   (repeat' (first|refine qA ?_|refine xQ (λhc=>?_) (λhc=>?_)|refine wD (λhc=>?_)|(refine zE ?_;first|(refine wZ ?_;refine xK (aS rfl rfl hxb) rfl ?_)|refine SM ?_)|fail))
   refine⟨M,⟨hm1.1,hm1.2,zB,λpost h=>by rw[q4 post h]⟩,?_⟩;rw[<-hE];rfl
  ·have e:XX (x::r) i n=if 4294967295<n+x.tmod 128*128 ^ i∨(0<i/\x=0)then(0,0,6)else(n+x.tmod 128*128 ^ i,(i:Int)+1,0):=by rw[XX,zW8 hi5,zW8 h128]
   rw[e]
   have hm1:0<=n+x.tmod 128*128 ^ i/\n+x.tmod 128*128 ^ i<128 ^ (i+1):=by
    rw[hP1];generalize x.tmod 128*128 ^ i=Z at *;omega
   clear hPb e hz q4 hP1;generalize n+x.tmod 128*128 ^ i=M at *;by_cases hbad:4294967295<M∨(0<i/\x=0)
   ·rw[zW9 hbad];by_cases hM:4294967295<M
    ·clear hbad
     (repeat' (first|refine qA ?_|refine xQ (λhc=>?_) (λhc=>?_)|refine wD (λhc=>?_)|(refine zE ?_;first|(refine wZ ?_;refine xK (aS rfl rfl hxb) rfl ?_)|refine SM ?_)|fail))
     exact zK
    ·obtain⟨h1,h2⟩:=hbad.resolve_left hM
     (repeat' (first|refine qA ?_|refine xQ (λhc=>?_) (λhc=>?_)|refine wD (λhc=>?_)|(refine zE ?_;first|(refine wZ ?_;refine xK (aS rfl rfl hxb) rfl ?_)|refine SM ?_)|fail))
     exact zK
   ·rw[zW8 hbad];by_cases hi0:0<i
    ·have hx0:x≠0:=λh=>hbad (.inr ⟨hi0,h⟩)
     (repeat' (first|refine qA ?_|refine xQ (λhc=>?_) (λhc=>?_)|refine wD (λhc=>?_)|(refine zE ?_;first|(refine wZ ?_;refine xK (aS rfl rfl hxb) rfl ?_)|refine SM ?_)|fail))
     rw[<-hE];exact zK
    ·(repeat' (first|refine qA ?_|refine xQ (λhc=>?_) (λhc=>?_)|refine wD (λhc=>?_)|(refine zE ?_;first|(refine wZ ?_;refine xK (aS rfl rfl hxb) rfl ?_)|refine SM ?_)|fail))
     rw[<-hE];exact zK
 ·rintro st ⟨n,⟨q0,q1,q2,q3⟩,rfl⟩;rw[q3 [] zS]
  show uC _ _ _ _ _ (XS (inB 0 (MR _ _ _ _ (Fin _ _ [] (.tup [iA 0,iA 0,iA 6]) []))) _)
  refine WW ?_;exact zK
end Av
end Go.Proofs.YtmamjhmoegjapaaGreat
