/- Part 14. -/
import Derived.Test.YtmamjhmoegjapaaGreatP13
namespace Go.Proofs.YtmamjhmoegjapaaGreat
namespace Av
open Tryz
set_option linter.unusedSimpArgs false
set_option linter.unusedVariables false
set_option linter.unusedSectionVars false
set_option maxRecDepth 4000
set_option maxHeartbeats 2000000
section
variable {P:Program} {K0:List Nat} {F:Fr K0} {m:Nat}
theorem zCe (n len:Nat) {Q:Exit->St->Prop} {id:Nat} {l:List Oper} {st:St} (hlen:Nat.beq l.length len=true) (hm:P.follows .mixedOrders=true)
 (hk:yC P F m l.toArray true (l.take n) st [] (λfs s=>TJ l n (OK l) fs.reverse=true/\yC P F m l.toArray false (l.drop n) s [] (λ_ s=>Q .normal s))):uG P F m (.region id l.toArray true) st Q:=zO4 n hm hk
end
def SD (l:List Rq) (id:Int):Nat:=l.findIdx λr=>!decide (r.id<id)
theorem IG (l:List Rq) (id:Int):SD l id<=l.length:=List.findIdx_le_length
theorem zJl {l:List Rq} {id:Int} {i:Nat} (h:i<SD l id):(l.getD i default).id<id:=by
 have h1:=IG l id;have:=List.not_of_lt_findIdx h;simpa [List.getD,show i<l.length by omega]using this
theorem zJm {l:List Rq} {id:Int} (h:SD l id<l.length):¬(l.getD (SD l id) default).id<id:=by
 have:=List.findIdx_getElem (p:=λr:Rq=>!decide (r.id<id)) (w:=h);have h2:SD l id<l.length:=h;simp only[yAb,zYn]at this;intro h3;refine this ?_;rw[zX5,zYi h2]at h3;exact h3
def bJ (id:Int) (v:Vh) (life:Int) (x:List Lg) (now:Int):Rq:=⟨id,v.id,v.cls,now+life,x⟩
def aG (l:List Rq) (r:Rq):List Rq:=l.take (SD l r.id)++r::l.drop (SD l r.id)
def suE (l:List Rq) (q id life:Int) (x:List Lg):Int:=
 if¬(0<=id/\id<=4294967295/\1<=life/\life<=600/\vgF x=true)then 8 else if gE l id=true then 11 else if q<=l.length∨4<=(l.length:Int)then 14 else 0
theorem zJn (l:List Rq) (q id:Int) (v:Vh) (life:Int) (x:List Lg) (now:Int) (hv:aM l) (hq:(l.length:Int)<=q) (v0:0<=v.id) (v1:v.id<=4294967295) (w0:0<=v.cls) (w1:v.cls<=3) (n0:0<=now) (n1:now<=1073741824):
  zN 268 [zD yK l,iA q,iA id,vT v,iA life,zD xU x,iA now] [] (.tup [zD yK (if suE l q id life x=0 then aG l (bJ id v life x now)else []),iA (suE l q id life x)]) []:=by
 have h4:=hv.n4;have hl:=zA yK l;have c1:=VU l q hv hq;have c2:=OG v.id;have c3:=zAm v.cls;have c4:=zCo now;have c5:=OG id;have c6:=zCn x;have c7:=OB l id zB;rw[zX8 ⟨v0,v1⟩]at c2;rw[zX8 ⟨w0,w1⟩]at c3;rw[zX8 ⟨n0,n1⟩]at c4;by_cases g1:0<=id/\id<=4294967295
 case neg=>
  rw[zYa g1]at c5;have e:suE l q id life x=8:=zX1 λh=>g1 ⟨h.1,h.2.1⟩
  rw[e,zX0 yZ];refine eM call268 λF hF=>?_
  refine yQ (zt5 c1 c2 c3 c4 c5) ?_;exact zJ
 rw[zX8 g1]at c5;by_cases g2:1<=life/\life<=600
 case neg=>
  have e:suE l q id life x=8:=zX1 λh=>g2 ⟨h.2.2.1,h.2.2.2.1⟩
  rw[e,zX0 yZ];by_cases g3:1<=life
  ·(refine eM call268 λF hF=>?_)
   refine yQ (zt5 c1 c2 c3 c4 c5) ?_;exact zJ
  ·(refine eM call268 λF hF=>?_)
   refine yQ (zt5 c1 c2 c3 c4 c5) ?_;exact zJ
 obtain⟨g2,g3⟩:=g2
 cases hg:vgF x with
 |false=>
  rw[hg]at c6;have e:suE l q id life x=8:=zX1 λh=>zYk (hg.symm.trans h.2.2.2.2)
  rw[e,zX0 yZ];refine eM call268 λF hF=>?_
  refine yQ (zt6 c1 c2 c3 c4 c5 c6) ?_;exact zJ
 |true=>
 rw[hg]at c6
 have e0:suE l q id life x=if gE l id=true then 11 else if q<=l.length∨4<=(l.length:Int)then 14 else 0:=zX0 λh=>h ⟨g1.1,g1.2,g2,g3,hg⟩
 cases hh:gE l id with
 |true=>
  have hx:=zAj (p:=λx:Rq=>x.id==id) (l:=l) hh;generalize UP (λx:Rq=>x.id==id) l=n at *;have e:suE l q id life x=11:=by rw[e0,zX1 hh]
  rw[e,zX0 yZ];refine eM call268 λF hF=>?_
  refine yQ (zt7 c1 c2 c3 c4 c5 c6 c7) ?_;exact zJ
 |false=>
 have hx:=ZF (p:=λx:Rq=>x.id==id) (l:=l) (by simpa [gE]using hh);rw[hx]at c7;rw[zX0 (by rw[hh];decide)]at e0;by_cases g4:q<=l.length∨4<=(l.length:Int)
 case pos=>
  rw[zX1 g4]at e0;rw[e0,zX0 yZ];by_cases g5:q<=l.length
  ·(refine eM call268 λF hF=>?_)
   refine yQ (zt7 c1 c2 c3 c4 c5 c6 c7) ?_;exact zJ
  ·have g6:4<=(l.length:Int):=g4.resolve_left g5;refine eM call268 λF hF=>?_
   refine yQ (zt7 c1 c2 c3 c4 c5 c6 c7) ?_;exact zJ
 rw[zX0 g4]at e0;rw[e0,zX1 rfl];have hxl:=IO hg;have c8:=cU x zB;have hk:=IG l id;have hk1:=λi h=>zJl (l:=l) (id:=id) (i:=i) h
 have hk2:=zJm (l:=l) (id:=id)
 have hiQ:(l.map yK).take (SD l id)++yK (bJ id v life x now)::(l.map yK).drop (SD l id)=(aG l (bJ id v life x now)).map yK:=by
  unfold aG bJ;rw[zYc,zZl,yBt,yBs]
 have hiL:((aG l (bJ id v life x now)).map yK).length=(l.map yK).length+1:=by
  rw[<-hiQ,zX3,zYd,zYo,zY4];omega
 have h5:∀y∈l.map yK,y.cells.length=5:=λy hy=>by
  obtain⟨r,_,rfl⟩:=zZj.1 hy;rfl
 have r1:=λh=>zJ1 (l.map yK) (yK (bJ id v life x now)) (SD l id) rfl h5 h zB zB
 have r2:=λh c hc=>zJ2 (l.map yK) (yK (bJ id v life x now)) (SD l id) c rfl h5 h zB zB hc
 have r3:=zO5 (yK (bJ id v life x now)) rfl;rw[hiQ]at r1 r2;have d1:=IK l zB (λr hr=>by have:=hv.lg3 hr;omega);clear hv hg;have hR:zD yK (aG l (bJ id v life x now))=AV.sl false ((aG l (bJ id v life x now)).map yK):=rfl;rw[hR];by_cases hn0:l=[]
 ·subst hn0;have d0:=VS;have hY:(aG [] (bJ id v life x now)).map yK=[yK (bJ id v life x now)]:=rfl;rw[hY];clear r1 r2 hY hR hiQ hiL;refine eM call268 λF hF=>?_
  refine yQ (zt7 c1 c2 c3 c4 c5 c6 c7) ?_;refine zP (0) [10] [10] [0,2,4,5,6,10] [16,0,2,4,5,6,10] rfl (λi T U=>⟨(16,iA i)::T,U⟩) ?_;(conv=>whnf);refine⟨by rfl,?_,?_⟩
  ·intro i hi;omega
  ·(refine yQ (fB c8 d0 r3) ?_)
   exact zJ
 have hl1:1<=l.length:=by
  cases l with
  |nil=>exact absurd rfl hn0
  |cons a b=>simp
 have r1:=r1 zB;have r2:=r2 zB;clear r3 hR hiQ;generalize (aG l (bJ id v life x now)).map yK=Y at *;refine eM call268 λF hF=>?_
 refine yQ (zt7 c1 c2 c3 c4 c5 c6 c7) ?_;refine zP (SD l id) [10] [10] [0,2,4,5,6,10] [16,0,2,4,5,6,10] rfl (λi T U=>⟨(16,iA i)::T,U⟩) ?_;(conv=>whnf);refine⟨by rfl,?_,?_⟩
 ·intro i hi;have hy:=zM yK l i zB;have hlt:=hk1 i hi;generalize l.getD i default=r at *;refine WW ?_;rfl
 ·clear hk1;by_cases hkl:SD l id<l.length
  case' pos=>
   have hy:=zM yK l (SD l id) hkl;have hge:=hk2 hkl;generalize l.getD (SD l id) default=r at*
  all_goals clear hk2
  all_goals generalize SD l id=k at*
  all_goals (have zc1:=c8;have zc2:=d1;(repeat' (first|refine WS ?_|refine SG (I2 (λhc=>?_) (λhc=>?_))|refine SG (λhc=>?_)|(refine zE ?_;first|refine SM ?_)|(first|refine zCe 5 8 rfl rfl ?_|first|refine SR ?_|refine SK (I2 (λhc=>?_) (λhc=>?_))|refine SK (λhc=>?_)|fail)|fail))<;>clear zc1 zc2)
  all_goals refine zJ0 gS ?_
  all_goals refine zUt 95 1001 ((l.map yK).length+1) [98] [96,98] (st':=⟨[(96,iA k),(98,.ref 98 0 1)],[(98,.arr 5 [yK (bJ id v life x now)] false)]⟩) rfl rfl zB zB zB rfl rfl rfl (λc hc=>?_) ?_
  case' pos.refine_1|neg.refine_1=>
   have r2:=r2 c hc;refine zU r2 ?_;exact zJ
  all_goals rw[show(l.map yK).length+1-(l.map yK).length=1 by omega]
  all_goals (refine zU r1 ?_)
  all_goals (refine zI [] rfl rfl ?_ rfl;show AV.tup [AV.sl false (Y.take ((l.map yK).length+1)),iA 0]=_;rw[zYb zB])
def fdQ (l:List Rq) (id:Int):Rq:=(l.find? λx=>x.id==id).getD ⟨0,0,0,0,[]⟩
theorem zCf {l pre post:List Rq} {x:Rq} {id:Int} (h:l=pre++x::post) (hn:∀y∈pre,y.id≠id) (hx:x.id=id):fdQ l id=x/\gE l id=true:=by
 subst h;have h1:pre.find? (λv=>v.id==id)=none:=yCo.2 λy hy=>by simpa using hn y hy
 refine⟨?_,by simp[gE,hx]⟩;unfold fdQ;rw[yDj,h1];simp[hx]
def qA (r:Rq) (k:Nat):AV:= .agg [iA r.id,iA r.vh,iA r.cls,iA r.til,.ref k 0 (r.legs.map xU).length]
def fP (r:Rq):xN:= .arr 5 (r.legs.map xU) false
theorem MH (l:List Lg) (h1:1<=l.length) (hl:l.length<=1000):zN 152 [zD xU l] [] (.ref 1101 0 (l.map xU).length) [(1101,.arr 5 (l.map xU) false)]:=by
 have hll:=zA xU l;refine eM call152 λF hF=>?_
 refine xA 0 rfl (λcap hx=>?_) ?_
 ·have:l=[]:=by simpa using hx
  subst this;simp at h1
 ·(repeat' (first|refine WV ?_|refine SG (I2 (λhc=>?_) (λhc=>?_))|refine SG (λhc=>?_)|(refine zE ?_;first|(refine yS ?_;refine uN (nw:=[1101]) (yL tok 1101 (xs:=[]) rfl rfl rfl rfl rfl rfl rfl rfl rfl) rfl rfl rfl ?_))|refine SB ?_|(first|refine xS ?_|refine xD ?_|refine vD rfl ?_|refine zX rfl ?_|refine zQ rfl ?_|refine xK rfl (λhc=>?_) (λhc=>?_)|refine yY ?_|refine yU ?_|refine xE ?_|refine yT ?_)|fail))
  exact zL [1101] rfl rfl rfl rfl
theorem jW (r:Rq) (h1:1<=r.legs.length) (hl:r.legs.length<=1000):zN 211 [yK r] [] (qA r 1101) [(1101,fP r)]:=by
 have c:=MH r.legs h1 hl;have hll:=zA xU r.legs;refine eM call211 λF hF=>?_
 refine zU c ?_;exact zL [1101] rfl rfl rfl rfl
theorem MI (l:List Lg) (h1:1<=l.length) (hl:l.length<=1000):zN 152 [zD xU l] [] (.ref 1102 0 (l.map xU).length) [(1102,.arr 5 (l.map xU) false)]:=by
 have hll:=zA xU l;refine eM call152 λF hF=>?_
 refine xA 0 rfl (λcap hx=>?_) ?_
 ·have:l=[]:=by simpa using hx
  subst this;simp at h1
 ·(repeat' (first|refine WV ?_|refine SG (I2 (λhc=>?_) (λhc=>?_))|refine SG (λhc=>?_)|(refine zE ?_;first|(refine yS ?_;refine uN (nw:=[1102]) (yL tok 1102 (xs:=[]) rfl rfl rfl rfl rfl rfl rfl rfl rfl) rfl rfl rfl ?_))|refine SB ?_|(first|refine xS ?_|refine xD ?_|refine vD rfl ?_|refine zX rfl ?_|refine zQ rfl ?_|refine xK rfl (λhc=>?_) (λhc=>?_)|refine yY ?_|refine yU ?_|refine xE ?_|refine yT ?_)|fail))
  exact zL [1102] rfl rfl rfl rfl
theorem bK (r:Rq) (h1:1<=r.legs.length) (hl:r.legs.length<=1000):zN 211 [yK r] [] (qA r 1102) [(1102,fP r)]:=by
 have c:=MI r.legs h1 hl;have hll:=zA xU r.legs;refine eM call211 λF hF=>?_
 refine zU c ?_;exact zL [1102] rfl rfl rfl rfl
theorem MJ (l:List Lg) (h1:1<=l.length) (hl:l.length<=1000):zN 152 [zD xU l] [] (.ref 1103 0 (l.map xU).length) [(1103,.arr 5 (l.map xU) false)]:=by
 have hll:=zA xU l;refine eM call152 λF hF=>?_
 refine xA 0 rfl (λcap hx=>?_) ?_
 ·have:l=[]:=by simpa using hx
  subst this;simp at h1
 ·(repeat' (first|refine WV ?_|refine SG (I2 (λhc=>?_) (λhc=>?_))|refine SG (λhc=>?_)|(refine zE ?_;first|(refine yS ?_;refine uN (nw:=[1103]) (yL tok 1103 (xs:=[]) rfl rfl rfl rfl rfl rfl rfl rfl rfl) rfl rfl rfl ?_))|refine SB ?_|(first|refine xS ?_|refine xD ?_|refine vD rfl ?_|refine zX rfl ?_|refine zQ rfl ?_|refine xK rfl (λhc=>?_) (λhc=>?_)|refine yY ?_|refine yU ?_|refine xE ?_|refine yT ?_)|fail))
  exact zL [1103] rfl rfl rfl rfl
theorem VO (r:Rq) (h1:1<=r.legs.length) (hl:r.legs.length<=1000):zN 211 [yK r] [] (qA r 1103) [(1103,fP r)]:=by
 have c:=MJ r.legs h1 hl;have hll:=zA xU r.legs;refine eM call211 λF hF=>?_
 refine zU c ?_;exact zL [1103] rfl rfl rfl rfl
theorem MK (l:List Lg) (h1:1<=l.length) (hl:l.length<=1000):zN 152 [zD xU l] [] (.ref 1104 0 (l.map xU).length) [(1104,.arr 5 (l.map xU) false)]:=by
 have hll:=zA xU l;refine eM call152 λF hF=>?_
 refine xA 0 rfl (λcap hx=>?_) ?_
 ·have:l=[]:=by simpa using hx
  subst this;simp at h1
 ·(repeat' (first|refine WV ?_|refine SG (I2 (λhc=>?_) (λhc=>?_))|refine SG (λhc=>?_)|(refine zE ?_;first|(refine yS ?_;refine uN (nw:=[1104]) (yL tok 1104 (xs:=[]) rfl rfl rfl rfl rfl rfl rfl rfl rfl) rfl rfl rfl ?_))|refine SB ?_|(first|refine xS ?_|refine xD ?_|refine vD rfl ?_|refine zX rfl ?_|refine zQ rfl ?_|refine xK rfl (λhc=>?_) (λhc=>?_)|refine yY ?_|refine yU ?_|refine xE ?_|refine yT ?_)|fail))
  exact zL [1104] rfl rfl rfl rfl
theorem IH (r:Rq) (h1:1<=r.legs.length) (hl:r.legs.length<=1000):zN 211 [yK r] [] (qA r 1104) [(1104,fP r)]:=by
 have c:=MK r.legs h1 hl;have hll:=zA xU r.legs;refine eM call211 λF hF=>?_
 refine zU c ?_;exact zL [1104] rfl rfl rfl rfl
theorem zOp (a:Rq) (ha:1<=a.legs.length) (ga:a.legs.length<=1000):zN 190 [zD yK [a],.fn 218 []] [] (.ref 1001 0 1) [(1001,.arr 5 [qA a 1101] ⟨false,true⟩),(1101,fP a)]:=by
 have ca:=vG a;have da:=jW a ha ga;refine eM call190 λF hF=>?_
 refine WW ?_;refine xC 5 1001 5 rfl rfl rfl ?_;refine uT 2 [1001,1101] [5,10,1,8,9] rfl ?_;refine xF (st0:=⟨[(5,.ref 1001 0 0),(10,iA 0),(1,.fn 218 []),(8,.sl false [yK a]),(9,iA 1)],[(1001,.arr 5 [] ⟨true,false⟩)]⟩) rfl ?_
 (have zc1:=ca;have zc2:=da;(repeat' (first|refine aL ?_|refine xO (λhc=>?_) (λhc=>?_)|refine wB (λhc=>?_)|(refine zE ?_;first|(refine yS ?_;refine dK (xs:=[_]) 1002 tok rfl rfl rfl rfl rfl rfl rfl rfl rfl rfl rfl rfl ?_)|(refine yV ?_;first|refine uZ tok rfl rfl rfl rfl rfl rfl rfl (by intro y hy;cases hy;rfl) rfl rfl rfl zS rfl ?_|refine qZ tok rfl rfl rfl rfl rfl rfl rfl rfl rfl rfl rfl (by intro y hy;cases hy;rfl) zS rfl ?_))|refine SB ?_|fail))<;>clear zc1 zc2)
 refine xF (st0:=⟨[(5,.ref 1001 0 1),(10,iA 1),(1,.fn 218 []),(8,.sl false [yK a]),(9,iA 1)],[(1001,.arr 5 [qA a 1101] ⟨false,true⟩),(1101,fP a)]⟩) rfl ?_;refine WW ?_;exact zL [1001,1101] rfl rfl rfl rfl
theorem EX (a:Rq) (ha:1<=a.legs.length) (ga:a.legs.length<=1000):zN 193 [zD yK [a]] [] (.ref 1001 0 1) [(1001,.arr 5 [qA a 1101] ⟨false,true⟩),(1101,fP a)]:=by
 have c:=zOp a ha ga;refine eM call193 λF hF=>?_
 refine zU c ?_;exact zL [1001,1101] rfl rfl rfl rfl
theorem zOq (a b:Rq) (ha:1<=a.legs.length) (ga:a.legs.length<=1000) (hb:1<=b.legs.length) (gb:b.legs.length<=1000):zN 190 [zD yK [a,b],.fn 218 []] [] (.ref 1001 0 2) [(1001,.arr 5 [qA a 1101,qA b 1102] ⟨true,true⟩),(1101,fP a),(1102,fP b)]:=by
 have ca:=vG a;have da:=jW a ha ga;have cb:=vG b;have db:=bK b hb gb;refine eM call190 λF hF=>?_
 refine WW ?_;refine xC 5 1001 5 rfl rfl rfl ?_;refine uT 3 [1001,1101,1102] [5,10,1,8,9] rfl ?_;refine xF (st0:=⟨[(5,.ref 1001 0 0),(10,iA 0),(1,.fn 218 []),(8,.sl false [yK a,yK b]),(9,iA 2)],[(1001,.arr 5 [] ⟨true,false⟩)]⟩) rfl ?_
 (have zc1:=ca;have zc2:=da;(repeat' (first|refine aL ?_|refine xO (λhc=>?_) (λhc=>?_)|refine wB (λhc=>?_)|(refine zE ?_;first|(refine yS ?_;refine dK (xs:=[_]) 1002 tok rfl rfl rfl rfl rfl rfl rfl rfl rfl rfl rfl rfl ?_)|(refine yV ?_;first|refine uZ tok rfl rfl rfl rfl rfl rfl rfl (by intro y hy;cases hy;rfl) rfl rfl rfl zS rfl ?_|refine qZ tok rfl rfl rfl rfl rfl rfl rfl rfl rfl rfl rfl (by intro y hy;cases hy;rfl) zS rfl ?_))|refine SB ?_|fail))<;>clear zc1 zc2)
 refine xF (st0:=⟨[(5,.ref 1001 0 1),(10,iA 1),(1,.fn 218 []),(8,.sl false [yK a,yK b]),(9,iA 2)],[(1001,.arr 5 [qA a 1101] ⟨false,true⟩),(1101,fP a)]⟩) rfl ?_
 (have zc1:=cb;have zc2:=db;(repeat' (first|refine aL ?_|refine xO (λhc=>?_) (λhc=>?_)|refine wB (λhc=>?_)|(refine zE ?_;first|(refine yS ?_;refine dK (xs:=[_]) 1002 tok rfl rfl rfl rfl rfl rfl rfl rfl rfl rfl rfl rfl ?_)|(refine yV ?_;first|refine uZ tok rfl rfl rfl rfl rfl rfl rfl (by intro y hy;cases hy;rfl) rfl rfl rfl zS rfl ?_|refine qZ tok rfl rfl rfl rfl rfl rfl rfl rfl rfl rfl rfl (by intro y hy;cases hy;rfl) zS rfl ?_))|refine SB ?_|fail))<;>clear zc1 zc2)
 refine xF (st0:=⟨[(5,.ref 1001 0 2),(10,iA 2),(1,.fn 218 []),(8,.sl false [yK a,yK b]),(9,iA 2)],[(1001,.arr 5 [qA a 1101,qA b 1102] ⟨true,true⟩),(1101,fP a),(1102,fP b)]⟩) rfl ?_;refine WW ?_;exact zL [1001,1101,1102] rfl rfl rfl rfl
theorem EY (a b:Rq) (ha:1<=a.legs.length) (ga:a.legs.length<=1000) (hb:1<=b.legs.length) (gb:b.legs.length<=1000):zN 193 [zD yK [a,b]] [] (.ref 1001 0 2) [(1001,.arr 5 [qA a 1101,qA b 1102] ⟨true,true⟩),(1101,fP a),(1102,fP b)]:=by
 have c:=zOq a b ha ga hb gb;refine eM call193 λF hF=>?_
 refine zU c ?_;exact zL [1001,1101,1102] rfl rfl rfl rfl
theorem zOr (a b c:Rq) (ha:1<=a.legs.length) (ga:a.legs.length<=1000) (hb:1<=b.legs.length) (gb:b.legs.length<=1000) (hc:1<=c.legs.length) (gc:c.legs.length<=1000):zN 190 [zD yK [a,b,c],.fn 218 []] [] (.ref 1001 0 3) [(1001,.arr 5 [qA a 1101,qA b 1102,qA c 1103] ⟨true,true⟩),(1101,fP a),(1102,fP b),(1103,fP c)]:=by
 have ca:=vG a;have da:=jW a ha ga;have cb:=vG b;have db:=bK b hb gb;have cc:=vG c;have dc:=VO c hc gc;refine eM call190 λF hF=>?_
 refine WW ?_;refine xC 5 1001 5 rfl rfl rfl ?_;refine uT 4 [1001,1101,1102,1103] [5,10,1,8,9] rfl ?_;refine xF (st0:=⟨[(5,.ref 1001 0 0),(10,iA 0),(1,.fn 218 []),(8,.sl false [yK a,yK b,yK c]),(9,iA 3)],[(1001,.arr 5 [] ⟨true,false⟩)]⟩) rfl ?_
 (have zc1:=ca;have zc2:=da;(repeat' (first|refine aL ?_|refine xO (λhc=>?_) (λhc=>?_)|refine wB (λhc=>?_)|(refine zE ?_;first|(refine yS ?_;refine dK (xs:=[_]) 1002 tok rfl rfl rfl rfl rfl rfl rfl rfl rfl rfl rfl rfl ?_)|(refine yV ?_;first|refine uZ tok rfl rfl rfl rfl rfl rfl rfl (by intro y hy;cases hy;rfl) rfl rfl rfl zS rfl ?_|refine qZ tok rfl rfl rfl rfl rfl rfl rfl rfl rfl rfl rfl (by intro y hy;cases hy;rfl) zS rfl ?_))|refine SB ?_|fail))<;>clear zc1 zc2)
 refine xF (st0:=⟨[(5,.ref 1001 0 1),(10,iA 1),(1,.fn 218 []),(8,.sl false [yK a,yK b,yK c]),(9,iA 3)],[(1001,.arr 5 [qA a 1101] ⟨false,true⟩),(1101,fP a)]⟩) rfl ?_
 (have zc1:=cb;have zc2:=db;(repeat' (first|refine aL ?_|refine xO (λhc=>?_) (λhc=>?_)|refine wB (λhc=>?_)|(refine zE ?_;first|(refine yS ?_;refine dK (xs:=[_]) 1002 tok rfl rfl rfl rfl rfl rfl rfl rfl rfl rfl rfl rfl ?_)|(refine yV ?_;first|refine uZ tok rfl rfl rfl rfl rfl rfl rfl (by intro y hy;cases hy;rfl) rfl rfl rfl zS rfl ?_|refine qZ tok rfl rfl rfl rfl rfl rfl rfl rfl rfl rfl rfl (by intro y hy;cases hy;rfl) zS rfl ?_))|refine SB ?_|fail))<;>clear zc1 zc2)
 refine xF (st0:=⟨[(5,.ref 1001 0 2),(10,iA 2),(1,.fn 218 []),(8,.sl false [yK a,yK b,yK c]),(9,iA 3)],[(1001,.arr 5 [qA a 1101,qA b 1102] ⟨true,true⟩),(1101,fP a),(1102,fP b)]⟩) rfl ?_
 (have zc1:=cc;have zc2:=dc;(repeat' (first|refine aL ?_|refine xO (λhc=>?_) (λhc=>?_)|refine wB (λhc=>?_)|(refine zE ?_;first|(refine yS ?_;refine dK (xs:=[_]) 1002 tok rfl rfl rfl rfl rfl rfl rfl rfl rfl rfl rfl rfl ?_)|(refine yV ?_;first|refine uZ tok rfl rfl rfl rfl rfl rfl rfl (by intro y hy;cases hy;rfl) rfl rfl rfl zS rfl ?_|refine qZ tok rfl rfl rfl rfl rfl rfl rfl rfl rfl rfl rfl (by intro y hy;cases hy;rfl) zS rfl ?_))|refine SB ?_|fail))<;>clear zc1 zc2)
 refine xF (st0:=⟨[(5,.ref 1001 0 3),(10,iA 3),(1,.fn 218 []),(8,.sl false [yK a,yK b,yK c]),(9,iA 3)],[(1001,.arr 5 [qA a 1101,qA b 1102,qA c 1103] ⟨true,true⟩),(1101,fP a),(1102,fP b),(1103,fP c)]⟩) rfl ?_;refine WW ?_;exact zL [1001,1101,1102,1103] rfl rfl rfl rfl
theorem EZ (a b c:Rq) (ha:1<=a.legs.length) (ga:a.legs.length<=1000) (hb:1<=b.legs.length) (gb:b.legs.length<=1000) (hc:1<=c.legs.length) (gc:c.legs.length<=1000):zN 193 [zD yK [a,b,c]] [] (.ref 1001 0 3) [(1001,.arr 5 [qA a 1101,qA b 1102,qA c 1103] ⟨true,true⟩),(1101,fP a),(1102,fP b),(1103,fP c)]:=by
 have c:=zOr a b c ha ga hb gb hc gc;refine eM call193 λF hF=>?_
 refine zU c ?_;exact zL [1001,1101,1102,1103] rfl rfl rfl rfl
theorem zOs (a b c d:Rq) (ha:1<=a.legs.length) (ga:a.legs.length<=1000) (hb:1<=b.legs.length) (gb:b.legs.length<=1000) (hc:1<=c.legs.length) (gc:c.legs.length<=1000) (hd:1<=d.legs.length) (gd:d.legs.length<=1000):zN 190 [zD yK [a,b,c,d],.fn 218 []] [] (.ref 1001 0 4) [(1001,.arr 5 [qA a 1101,qA b 1102,qA c 1103,qA d 1104] ⟨true,true⟩),(1101,fP a),(1102,fP b),(1103,fP c),(1104,fP d)]:=by
 have ca:=vG a;have da:=jW a ha ga;have cb:=vG b;have db:=bK b hb gb;have cc:=vG c;have dc:=VO c hc gc;have cd:=vG d;have dd:=IH d hd gd;refine eM call190 λF hF=>?_
 refine WW ?_;refine xC 5 1001 5 rfl rfl rfl ?_;refine uT 5 [1001,1101,1102,1103,1104] [5,10,1,8,9] rfl ?_;refine xF (st0:=⟨[(5,.ref 1001 0 0),(10,iA 0),(1,.fn 218 []),(8,.sl false [yK a,yK b,yK c,yK d]),(9,iA 4)],[(1001,.arr 5 [] ⟨true,false⟩)]⟩) rfl ?_
 (have zc1:=ca;have zc2:=da;(repeat' (first|refine aL ?_|refine xO (λhc=>?_) (λhc=>?_)|refine wB (λhc=>?_)|(refine zE ?_;first|(refine yS ?_;refine dK (xs:=[_]) 1002 tok rfl rfl rfl rfl rfl rfl rfl rfl rfl rfl rfl rfl ?_)|(refine yV ?_;first|refine uZ tok rfl rfl rfl rfl rfl rfl rfl (by intro y hy;cases hy;rfl) rfl rfl rfl zS rfl ?_|refine qZ tok rfl rfl rfl rfl rfl rfl rfl rfl rfl rfl rfl (by intro y hy;cases hy;rfl) zS rfl ?_))|refine SB ?_|fail))<;>clear zc1 zc2)
 refine xF (st0:=⟨[(5,.ref 1001 0 1),(10,iA 1),(1,.fn 218 []),(8,.sl false [yK a,yK b,yK c,yK d]),(9,iA 4)],[(1001,.arr 5 [qA a 1101] ⟨false,true⟩),(1101,fP a)]⟩) rfl ?_
 (have zc1:=cb;have zc2:=db;(repeat' (first|refine aL ?_|refine xO (λhc=>?_) (λhc=>?_)|refine wB (λhc=>?_)|(refine zE ?_;first|(refine yS ?_;refine dK (xs:=[_]) 1002 tok rfl rfl rfl rfl rfl rfl rfl rfl rfl rfl rfl rfl ?_)|(refine yV ?_;first|refine uZ tok rfl rfl rfl rfl rfl rfl rfl (by intro y hy;cases hy;rfl) rfl rfl rfl zS rfl ?_|refine qZ tok rfl rfl rfl rfl rfl rfl rfl rfl rfl rfl rfl (by intro y hy;cases hy;rfl) zS rfl ?_))|refine SB ?_|fail))<;>clear zc1 zc2)
 refine xF (st0:=⟨[(5,.ref 1001 0 2),(10,iA 2),(1,.fn 218 []),(8,.sl false [yK a,yK b,yK c,yK d]),(9,iA 4)],[(1001,.arr 5 [qA a 1101,qA b 1102] ⟨true,true⟩),(1101,fP a),(1102,fP b)]⟩) rfl ?_
 (have zc1:=cc;have zc2:=dc;(repeat' (first|refine aL ?_|refine xO (λhc=>?_) (λhc=>?_)|refine wB (λhc=>?_)|(refine zE ?_;first|(refine yS ?_;refine dK (xs:=[_]) 1002 tok rfl rfl rfl rfl rfl rfl rfl rfl rfl rfl rfl rfl ?_)|(refine yV ?_;first|refine uZ tok rfl rfl rfl rfl rfl rfl rfl (by intro y hy;cases hy;rfl) rfl rfl rfl zS rfl ?_|refine qZ tok rfl rfl rfl rfl rfl rfl rfl rfl rfl rfl rfl (by intro y hy;cases hy;rfl) zS rfl ?_))|refine SB ?_|fail))<;>clear zc1 zc2)
 refine xF (st0:=⟨[(5,.ref 1001 0 3),(10,iA 3),(1,.fn 218 []),(8,.sl false [yK a,yK b,yK c,yK d]),(9,iA 4)],[(1001,.arr 5 [qA a 1101,qA b 1102,qA c 1103] ⟨true,true⟩),(1101,fP a),(1102,fP b),(1103,fP c)]⟩) rfl ?_
 (have zc1:=cd;have zc2:=dd;(repeat' (first|refine aL ?_|refine xO (λhc=>?_) (λhc=>?_)|refine wB (λhc=>?_)|(refine zE ?_;first|(refine yS ?_;refine dK (xs:=[_]) 1002 tok rfl rfl rfl rfl rfl rfl rfl rfl rfl rfl rfl rfl ?_)|(refine yV ?_;first|refine uZ tok rfl rfl rfl rfl rfl rfl rfl (by intro y hy;cases hy;rfl) rfl rfl rfl zS rfl ?_|refine qZ tok rfl rfl rfl rfl rfl rfl rfl rfl rfl rfl rfl (by intro y hy;cases hy;rfl) zS rfl ?_))|refine SB ?_|fail))<;>clear zc1 zc2)
 refine xF (st0:=⟨[(5,.ref 1001 0 4),(10,iA 4),(1,.fn 218 []),(8,.sl false [yK a,yK b,yK c,yK d]),(9,iA 4)],[(1001,.arr 5 [qA a 1101,qA b 1102,qA c 1103,qA d 1104] ⟨true,true⟩),(1101,fP a),(1102,fP b),(1103,fP c),(1104,fP d)]⟩) rfl ?_;refine WW ?_;exact zL [1001,1101,1102,1103,1104] rfl rfl rfl rfl
theorem DA (a b c d:Rq) (ha:1<=a.legs.length) (ga:a.legs.length<=1000) (hb:1<=b.legs.length) (gb:b.legs.length<=1000) (hc:1<=c.legs.length) (gc:c.legs.length<=1000) (hd:1<=d.legs.length) (gd:d.legs.length<=1000):zN 193 [zD yK [a,b,c,d]] [] (.ref 1001 0 4) [(1001,.arr 5 [qA a 1101,qA b 1102,qA c 1103,qA d 1104] ⟨true,true⟩),(1101,fP a),(1102,fP b),(1103,fP c),(1104,fP d)]:=by
 have c:=zOs a b c d ha ga hb gb hc gc hd gd;refine eM call193 λF hF=>?_
 refine zU c ?_;exact zL [1001,1101,1102,1103,1104] rfl rfl rfl rfl
theorem PZ (K:List Nat) (h:yJ):∀a b:List AV,uU K h (a++b)=uU K h a++uU K h b
 | [],b=>rfl
 |v::a,b=>by rw[yA3,uU,uU,PZ K h a b];rfl
theorem II (K:List Nat) (h:yJ):∀l:List Rq,uU K h (l.map yK)=l.map yK
 | []=>rfl
 |r::l=>by rw[zZl,uU,II K h l];rfl
theorem TG (K:List Nat) (h:yJ):∀a b:List AV,wF K h (a++b)=wF K h a++wF K h b
 | [],b=>rfl
 |v::a,b=>by rw[yA3,wF,wF,TG K h a b];rfl
theorem OA (K:List Nat) (h:yJ):∀l:List Rq,wF K h (l.map yK)=l.map yK
 | []=>rfl
 |r::l=>by rw[zZl,wF,OA K h l];rfl
theorem WB:∀a b:List AV,wE (a++b)=(wE a&&wE b)
 | [],b=>rfl
 |v::a,b=>by rw[yA3,wE,wE,WB a b,Bool.and_assoc]
theorem TH:∀l:List Rq,wE (l.map yK)=true
 | []=>rfl
 |r::l=>by rw[zZl,wE,TH l];rfl
def aK (pre:List Rq) (x:Rq) (post:List Rq) (k:Nat):List AV:=pre.map yK++qA x k::post.map yK
theorem YD (pre:List Rq) (x:Rq) (post:List Rq) (k:Nat):(aK pre x post k).length=pre.length+1+post.length:=by simp[aK];omega
theorem VP (h:yJ) (pre:List Rq) (x:Rq) (post:List Rq) (b:Bool):qU [1001,1101] h (.arr 5 (aK pre x post 1101) ⟨b,true⟩)= .arr 5 (aK pre x post 1101) ⟨b,true⟩:=by
 have e:uU [1001,1101] h (aK pre x post 1101)=aK pre x post 1101:=by
  unfold aK;rw[PZ,II,uU,II];rfl
 have e2:wE (aK pre x post 1101)=false:=by
  unfold aK;rw[WB,TH,wE];rfl
 show xN.arr 5 (uU [1001,1101] h (aK pre x post 1101)) ⟨b,!wE (uU [1001,1101] h (aK pre x post 1101))⟩=_
 rw[e,e2];rfl
theorem zOt (pre:List Rq) (x:Rq) (post:List Rq) (k:Nat) (y:Rq):aK pre x post k++[yK y]=aK pre x (post++[y]) k:=by
 unfold aK;rw[zYc,zYv];rfl
theorem zOu (pre:List Rq) (x:Rq) (post:List Rq) (l:List Rq) (hL:l=pre++x::post) (hn:l.length<=1000) (hb:∀r∈l,1<=r.legs.length/\r.legs.length<=1000):
  zN 190 [zD yK l,.fn 218 []] [] (.ref 1001 0 (aK pre x post 1101).length) [(1001,.arr 5 (aK pre x post 1101) ⟨true,true⟩),(1101,fP x)]:=by
 have hl:=zA yK l;have hlen:l.length=pre.length+1+post.length:=by rw[hL];simp;omega
 refine eM call190 λF hF=>?_
 refine WW ?_;refine xC 5 1001 5 rfl rfl rfl ?_;refine vA (λn st=>∃i,n+i=l.length/\st=if i<=pre.length then(⟨[(5,.ref 1001 0 ((l.take i).map yK).length),(10,iA i),(1,.fn 218 []),(8,zD yK l),(9,iA (l.map yK).length)],[(1001,.arr 5 ((l.take i).map yK) true)]⟩:St)else⟨[(5,.ref 1001 0 (aK pre x (post.take (i-pre.length-1)) 1101).length),(10,iA i),(1,.fn 218 []),(8,zD yK l),(9,iA (l.map yK).length)],[(1001,.arr 5 (aK pre x (post.take (i-pre.length-1)) 1101) ⟨true,true⟩),(1101,fP x)]⟩) l.length [1001,1101] [5,10,1,8,9] rfl ⟨0,zB,by rw[zX1 (zYe _)];rfl⟩ ?_;rintro n st ⟨i,hi,rfl⟩;by_cases hip:i<pre.length
 ·rw[zX1 zB];have hy:=zM yK l i zB;have hm:l.getD i default∈l:=by simp[List.getD,show i<l.length by omega]
  have hs:=hb _ hm
  have e:(l.take (i+1)).map yK=(l.take i).map yK++[yK (l.getD i default)]:=by
   rw[yAz,zYc,zYi zB];simp[List.getD,show i<l.length by omega]
  have hpl:((l.take i).map yK).length=i:=by rw[zX2,zYo];omega
  have hil:i<l.length:=by omega
  clear hm;generalize l.getD i default=r at *;have c1:=vG r;have c2:=VR r zB
  (have zc1:=c1;have zc2:=c2;(repeat' (first|refine qB ?_|refine xO (λhc=>?_) (λhc=>?_)|refine wB (λhc=>?_)|(refine zE ?_;first|(refine yV ?_;refine uN (nw:=[]) (vY true false tok rfl rfl rfl rfl rfl rfl (λh=>by cases h) rfl (by intro y hy;cases hy;rfl) rfl rfl rfl rfl (by simp only[YD,zX2,zYo,zYd,zZa,zY4];omega) (λh=>by cases h)) rfl rfl rfl ?_)|refine SM ?_)|fail))<;>clear zc1 zc2)
  exact⟨n-1,zB,i+1,zB,by rw[zX1 zB,e];rfl⟩
 by_cases hie:i=pre.length
 ·rw[zX1 zB];subst hie;have hil:pre.length<l.length:=by omega
  have ht:(l.take pre.length).map yK=pre.map yK:=by rw[hL];simp
  have hy:(l.map yK)[pre.length]? =some (yK x):=by rw[hL];simp
  have hs:=hb x (by rw[hL];simp);rw[ht];clear hL;have c1:=vG x;have c2:=jW x zB zB;have hpt:pre.length<=1000:=by omega
  (have zc1:=c1;have zc2:=c2;(repeat' (first|refine aL ?_|refine xO (λhc=>?_) (λhc=>?_)|refine wB (λhc=>?_)|(refine zE ?_;first|(refine yS ?_;refine dK (xs:=[_]) 1002 tok rfl rfl rfl rfl rfl rfl rfl rfl rfl rfl rfl rfl ?_)|(refine yV ?_;refine uN (nw:=[]) (vY true true tok rfl rfl rfl rfl rfl rfl (λh=>by cases h) rfl (by intro y hy;cases hy;rfl) rfl rfl rfl rfl (by simp only[YD,zX2,zYo,zYd,zZa,zY4];omega) (λh=>by cases h)) rfl rfl rfl ?_))|refine SB ?_|fail))<;>clear zc1 zc2)
  refine⟨n-1,zB,pre.length+1,zB,?_⟩;rw[zX0 zB,show pre.length+1-pre.length-1=0 by omega];refine zY0 (St.mk _) ?_
  show [(1001,qU [1001,1101] _ (.arr 5 (aK pre x [] 1101) ⟨true,true⟩)),(1101,fP x)]=_
  rw[VP];rfl
 rw[zX0 zB];by_cases hil:i<l.length
 ·have hy:=zM yK l i hil;have hm:l.getD i default∈l:=by simp[List.getD,hil]
  have hs:=hb _ hm
  have hg:post[i-pre.length-1]? =some (l.getD i default):=by
   have h1:l[i]? =some (l.getD i default):=by simp[List.getD,hil]
   rw[hL,zYs zB]at h1;rw[show i-pre.length=(i-pre.length-1)+1 by omega,List.getElem?_cons_succ]at h1;rw[<-hL]at h1;exact h1
  have e:aK pre x (post.take (i+1-pre.length-1)) 1101=aK pre x (post.take (i-pre.length-1)) 1101++[yK (l.getD i default)]:=by
   rw[zOt,show i+1-pre.length-1=(i-pre.length-1)+1 by omega,yAz,hg];rfl
  have hcl:=YD pre x (post.take (i-pre.length-1)) 1101;have hpt:(post.take (i-pre.length-1)).length<=1000:=by rw[zYo];omega
  have hf:=λh=>VP h pre x (post.take (i+1-pre.length-1)) true
  rw[e]at hf;clear hm hg hL;generalize l.getD i default=r at *;generalize aK pre x (post.take (i-pre.length-1)) 1101=cs at *;have c1:=vG r;have c2:=VR r zB
  (have zc1:=c1;have zc2:=c2;(repeat' (first|refine qB ?_|refine xO (λhc=>?_) (λhc=>?_)|refine wB (λhc=>?_)|(refine zE ?_;first|(refine yV ?_;refine uN (nw:=[]) (vY true true tok rfl rfl rfl rfl rfl rfl (λh=>by cases h) rfl (by intro y hy;cases hy;rfl) rfl rfl rfl rfl (by simp only[YD,zX2,zYo,zYd,zZa,zY4];omega) (λh=>by cases h)) rfl rfl rfl ?_)|refine SM ?_)|fail))<;>clear zc1 zc2)
  refine⟨n-1,zB,i+1,zB,?_⟩;rw[zX0 zB,e];refine zY0 (St.mk _) ?_
  show [(1001,qU [1001,1101] _ (.arr 5 (cs++[yK r]) ⟨true,true⟩)),(1101,fP x)]=_
  rw[hf]
 ·have hf:=λh=>VP h pre x post true
  rw[show i-pre.length-1=post.length by omega,zX7];generalize aK pre x post 1101=cs at *;refine WW ?_;refine zL [1001,1101] rfl rfl rfl ?_
  show [(1001,qU [1001,1101] _ (.arr 5 cs ⟨true,true⟩)),(1101,fP x)]=_
  rw[hf]
theorem DB (pre:List Rq) (x:Rq) (post:List Rq) (l:List Rq) (hL:l=pre++x::post) (hn:l.length<=1000) (hb:∀r∈l,1<=r.legs.length/\r.legs.length<=1000):
  zN 193 [zD yK l] [] (.ref 1001 0 (aK pre x post 1101).length) [(1001,.arr 5 (aK pre x post 1101) ⟨true,true⟩),(1101,fP x)]:=by
 have c:=zOu pre x post l hL hn hb;have hf:=λh=>VP h pre x post true
 generalize aK pre x post 1101=cs at *;refine eM call193 λF hF=>?_
 refine zU c ?_;refine zL [1001,1101] rfl rfl rfl ?_
 show [(1001,qU [1001,1101] _ (.arr 5 cs ⟨true,true⟩)),(1101,fP x)]=_
 rw[hf]
def wnA (p:Int×Int):AV:= .agg [iA p.1,iA p.2]
def nwL (now:Int) (g:Lg) (p:Int×Int):Lg:=⟨g.jn,g.ph,now+p.1,now+p.2,g.sc⟩
def okW (now:Int) (g:Lg) (p:Int×Int):Bool:=mwB g.jn g.ph p.1 p.2 now
def DC (gs:List Lg) (w:List (Int×Int)) (now:Int):Bool:=(gs.zipWith (okW now) w).all id
def bL (l:List Rq) (id:Int) (w:List (Int×Int)) (now:Int):Int:=
 if gE l id=true then(if w.length=(fdQ l id).legs.length/\DC (fdQ l id).legs w now=true then 0 else 8)else 12
def ML (l:List Rq) (id:Int) (w:List (Int×Int)) (now:Int):List Rq:=l.map λr=>if r.id=id then⟨r.id,r.vh,r.cls,r.til,r.legs.zipWith (nwL now) w⟩else r
def BI (gs:List Lg) (w:List (Int×Int)) (now:Int) (i:Nat):List Lg:=(gs.take i).zipWith (nwL now) (w.take i)++gs.drop i
theorem zCg {gs:List Lg} {w:List (Int×Int)} {now:Int} {i:Nat} (h:w.length=gs.length) (hi:i<=gs.length):(BI gs w now i).length=gs.length:=by
 unfold BI;rw[zX3,yB4,zYo,zYo,zY4];omega
theorem zTs {gs:List Lg} {w:List (Int×Int)} {now:Int} {i:Nat} (h:w.length=gs.length) (hi:i<gs.length):((BI gs w now i).map xU)[i]? =some (xU (gs.getD i default)):=by
 unfold BI;have e:((gs.take i).zipWith (nwL now) (w.take i)).length=i:=by rw[yB4,zYo,zYo];omega
 rw[zX4,zYs zB,e,yAe,zZ2];simp[List.getD,hi]
theorem zOv {gs:List Lg} {w:List (Int×Int)} {now:Int} {i:Nat} (h:w.length=gs.length) (hi:i<gs.length):((BI gs w now i).map xU).set i (xU (nwL now (gs.getD i default) (w.getD i default)))=(BI gs w now (i+1)).map xU:=by
 unfold BI;have e:((gs.take i).zipWith (nwL now) (w.take i)).length=i:=by rw[yB4,zYo,zYo];omega
 rw[<-zZ9,yA0 _ _ zB,e,yAe,yAu hi,yB8];rw[yAz,yAz,List.zipWith_append (by rw[zYo,zYo];omega)];rw[zYi hi,zYi zB];simp[List.getD,hi,show i<w.length by omega]
theorem zWo (gs:List Lg) (w:List (Int×Int)) (now:Int):BI gs w now 0=gs:=by simp[BI]
theorem zOw {gs:List Lg} {w:List (Int×Int)} {now:Int} (h:w.length=gs.length):BI gs w now gs.length=gs.zipWith (nwL now) w:=by
 unfold BI;rw[zX7,<-h,zX7,h,yB0,zY5]
theorem zOx {gs:List Lg} {w:List (Int×Int)} {now:Int} (h:w.length=gs.length) (ha:∀i,i<gs.length->okW now (gs.getD i default) (w.getD i default)=true):DC gs w now=true:=by
 unfold DC;rw[zYf];intro b hb;obtain⟨i,hi,rfl⟩:=yCi.1 hb;rw[yB4]at hi;have:=ha i zB;rw[List.getElem_zipWith];simpa [List.getD,show i<gs.length by omega,show i<w.length by omega]using this
theorem zTt {gs:List Lg} {w:List (Int×Int)} {now:Int} {i:Nat} (h:w.length=gs.length) (hi:i<gs.length) (ha:okW now (gs.getD i default) (w.getD i default)=false):DC gs w now=false:=by
 unfold DC;rw[yAw];refine⟨okW now (gs.getD i default) (w.getD i default),?_,by rw[ha];decide⟩
 have:(gs.zipWith (okW now) w)[i]? =some (okW now (gs.getD i default) (w.getD i default)):=by
  rw[yCz,zYi hi,zYi zB];simp[List.getD,hi,show i<w.length by omega]
 exact zZn this
theorem zCh {l pre post:List Rq} {x:Rq} {id:Int} {w:List (Int×Int)} {now:Int} (hL:l=pre++x::post) (hv:aM l) (hx:x.id=id):ML l id w now=pre++⟨x.id,x.vh,x.cls,x.til,x.legs.zipWith (nwL now) w⟩::post:=by
 have hs:=hv.so;rw[hL,yBx,yB7]at hs;obtain⟨_,⟨h2,_⟩,h3⟩:=hs;unfold ML;rw[hL,zYc,zZl,zX1 hx]
 congr 1
 ·conv=>rhs;rw[<-List.map_id pre]
  refine yBf λy hy=>?_
  have:=h3 y hy x zS;rw[zX0 zB];rfl
 ·congr 1
  conv=>rhs;rw[<-List.map_id post]
  refine yBf λy hy=>?_
  have:=h2 y hy;rw[zX0 zB];rfl
theorem zOy {h:yJ} {pre post:List Rq} {x:Rq} {b:Bool} {gs:List Lg} (h1:h 1001=some (.arr 5 (aK pre x post 1101) ⟨b,true⟩)) (h2:h 1101=some (.arr 5 (gs.map xU) false)) (hl:gs.length=x.legs.length):
  wN [] h (.ref 1001 0 (aK pre x post 1101).length)=zD yK (pre++⟨x.id,x.vh,x.cls,x.til,gs⟩::post):=by
 have e:wF [] h (aK pre x post 1101)=(pre++⟨x.id,x.vh,x.cls,x.til,gs⟩::post).map yK:=by
  unfold aK;rw[TG,OA,wF,OA,zYc,zZl]
  congr 1
  congr 1
  show AV.agg [iA x.id,iA x.vh,iA x.cls,iA x.til,vQ [] h (.ref 1101 0 (x.legs.map xU).length)]=_
  have e2:vQ [] h (.ref 1101 0 (x.legs.map xU).length)=zD xU gs:=by
   simp only[vQ,h2]
   show AV.sl false (((gs.map xU).drop 0).take (x.legs.map xU).length)=_
   rw[zY2,zX2,zYb (by rw[zX2,hl];exact zX6 _)];rfl
  rw[e2];rfl
 have hl2:(aK pre x post 1101).length=((pre++⟨x.id,x.vh,x.cls,x.til,gs⟩::post).map yK).length:=by rw[YD];simp;omega
 rw[hl2];simp only[wN,h1]
 show(bif wE (wF [] h (aK pre x post 1101))then AV.sl false (((wF [] h (aK pre x post 1101)).drop 0).take _)else .bot)=_
 rw[e,TH,zY2,zX7];rfl
theorem LL {l:List Rq} {id:Int} (h:gE l id=true):∃pre x post,l=pre++x::post/\x.id=id/\(∀y∈pre,y.id≠id)/\fdQ l id=x/\UP (λr:Rq=>r.id==id) l=(pre.length:Int):=by
 induction l with
 |nil=>cases h
 | cons a l ih=>
  by_cases ha:a.id=id
  ·refine⟨[],a,l,rfl,ha,by simp,(zCf (pre:=[]) rfl zS ha).1,QD (pre:=[]) rfl zS (by simpa using ha)⟩
  ·have h2:gE l id=true:=by simpa [gE,ha]using h
   obtain⟨pre,x,post,e1,e2,e3,_,_⟩:=ih h2
   have hp:∀y∈a::pre,y.id≠id:=λy hy=>by
    rcases zZi.1 hy with rfl|hy
    ·exact ha
    ·exact e3 y hy
   have e:a::l=(a::pre)++x::post:=by rw[e1];rfl
   exact⟨a::pre,x,post,e,e2,hp,(zCf e hp e2).1,QD e (λy hy=>by simpa using hp y hy) (by simpa using e2)⟩
theorem zJo (l:List Rq) (id:Int) (w:List (Int×Int)) (now:Int) (hv:aM l) (hw:w.length<=1000) (n0:0<=now) (n1:now<=1073741824):
  zN 239 [zD yK l,iA id,zD wnA w,iA now] [] (.tup [zD yK (if bL l id w now=0 then ML l id w now else []),iA (bL l id w now)]) []:=by
 have h4:=hv.n4;have hlw:=zA wnA w;have c1:=VU l 4 hv zB;have c2:=zCo now;have c3:=OB l id zB;rw[zX8 ⟨n0,n1⟩]at c2
 cases hh:gE l id with
 |false=>
  have hx:=ZF (p:=λx:Rq=>x.id==id) (l:=l) (by simpa [gE]using hh);rw[hx]at c3;have e:bL l id w now=12:=zX0 (by rw[hh];decide);rw[e,zX0 yZ];refine eM call239 λF hF=>?_
  refine yQ (fB c1 c2 c3) ?_;exact zJ
 |true=>
 obtain⟨pre,x,post,hL,hx,_,hf,hix⟩:=LL hh;rw[hix]at c3;have hup:=zCh (w:=w) (now:=now) hL hv hx
 have e0:bL l id w now=if w.length=x.legs.length/\DC x.legs w now=true then 0 else 8:=by unfold bL;rw[zX1 hh,hf]
 have hlen:l.length=pre.length+1+post.length:=by rw[hL];simp;omega
 have hxl:=hv.lg3 (r:=x) (by rw[hL];simp);have c4:=DB pre x post l hL zB (λr hr=>by have:=hv.lg3 hr;omega);have hcl:=YD pre x post 1101;have hfr:=λh=>VP h pre x post true
 have hat:(aK pre x post 1101)[((pre.length:Int)).toNat]? =some (qA x 1101):=by unfold aK;simp
 have hfin:=λh gs=>zOy (h:=h) (pre:=pre) (post:=post) (x:=x) (b:=true) (gs:=gs)
 have hlx:=zA xU x.legs;generalize aK pre x post 1101=cs at *;clear hL hv hix hf hh hx;by_cases hwl:w.length=x.legs.length
 case neg=>
  rw[zX0 (λh=>hwl h.1)]at e0;rw[e0,zX0 yZ];refine eM call239 λF hF=>?_
  refine yQ (aB c1 c2 c3 c4) ?_;exact zJ
 refine eM call239 λF hF=>?_
 refine yQ (aB c1 c2 c3 c4) ?_;refine vA (λn st=>∃i,n+i=x.legs.length/\(∀j,j<i->okW now (x.legs.getD j default) (w.getD j default)=true)/\st=(⟨[(44,iA i),(3,iA now),(11,.ref 1001 0 cs.length),(12,.ref 1101 0 (x.legs.map xU).length),(42,zD wnA w),(43,iA (w.map wnA).length)],[(1001,.arr 5 cs ⟨true,true⟩),(1101,.arr 5 ((BI x.legs w now i).map xU) false)]⟩:St)) x.legs.length [1001,1101] [44,3,11,12,42,43] rfl ⟨0,zB,λj hj=>absurd hj (yAi _),?_⟩ ?_
 ·rw[zWo];refine zY0 (St.mk _) ?_
  show [(1001,qU [1001,1101] _ (.arr 5 cs ⟨true,true⟩)),(1101,fP x)]=_
  rw[hfr];rfl
 rintro n st ⟨i,hi,hok,rfl⟩;by_cases hil:i<x.legs.length
 ·have hul:=zCg (i:=i) (now:=now) hwl zB;have hlu:=zA xU (BI x.legs w now i);have hy2:=zM wnA w i zB;have hy:=zTs (now:=now) hwl hil;have hst:=zOv (now:=now) hwl hil;have c5:=zCm (x.legs.getD i default).jn (x.legs.getD i default).ph (w.getD i default).1 (w.getD i default).2 now
  cases hb:okW now (x.legs.getD i default) (w.getD i default)with
  |false=>
   have hno:=zTt hwl hil hb;rw[zX0 (λh=>by rw[hno]at h;cases h.2)]at e0;rw[e0,zX0 yZ];unfold okW at hb;unfold mwF at c5;rw[hb,zX0 zYk,zX0 zYk]at c5;clear hok hfin hup hno hst;generalize x.legs.getD i default=g at *;generalize w.getD i default=q at *;generalize (BI x.legs w now i).map xU=ys at *;refine zU c5 ?_;exact zJ
  | true=>
   have hok2:∀j,j<i+1->okW now (x.legs.getD j default) (w.getD j default)=true:=λj hj=>by
    by_cases hji:j=i
    ·rw[hji];exact hb
    ·exact hok j zB
   unfold okW at hb;unfold mwF at c5;rw[hb,zX1 rfl,zX1 rfl]at c5;have hset:∀y:AV,(((BI x.legs w now i).map xU).set i y)[i]? =some y:=λy=>zZo zB
   clear hok hfin hup e0 hb;generalize x.legs.getD i default=g at *;generalize w.getD i default=q at *;generalize (BI x.legs w now i).map xU=ys at*
   (have zc1:=c5;(repeat' (first|refine WTR ?_|refine xO (λhc=>?_) (λhc=>?_)|refine wB (λhc=>?_)|(refine zE ?_;first|(refine bR ?_;refine zA2 tok rfl rfl rfl (hset _) rfl rfl rfl rfl rfl rfl rfl rfl ?_)|refine SM ?_)|refine SB ?_|fail))<;>clear zc1)
   refine⟨n-1,zB,i+1,zB,hok2,?_⟩;refine zY0 (St.mk _) ?_
   show [(1001,qU [1001,1101] _ (.arr 5 cs ⟨true,true⟩)),(1101,.arr 5 ((ys.set i _).set i (xU (nwL now g q))) false)]=_
   rw[hfr,yB1,hst]
 ·obtain rfl:i=x.legs.length:=by omega
  have hul:=zCg (i:=x.legs.length) (now:=now) hwl (zX6 _);have hyes:=zOx hwl hok;rw[zX1 ⟨hwl,hyes⟩]at e0;rw[e0,zX1 rfl,hup];rw[zOw hwl]at hul⊢;generalize x.legs.zipWith (nwL now) w=gs at *;refine WW ?_;refine zI [] rfl rfl ?_ rfl
  show AV.tup [WN (wN [] _ (.ref 1001 0 cs.length)),iA 0]=_
  rw[hfin _ gs rfl rfl hul];rfl
def SH:List Int->Nat->Int->Int×Int×Int
 | [],_,_=>(0,0,6)
 |x::r,i,n=>if i=5 then(0,0,6)else if 128<=x then SH r (i+1) (n+x.tmod 128*128 ^ i)else if 4294967295<n+x.tmod 128*128 ^ i∨(0<i/\x=0)then(0,0,6)else(n+x.tmod 128*128 ^ i,i+1,0)
def ZD (b:List Int):Int×Int×Int:=SH b 0 0
def szF (n:Int):Int:=if n<0∨4294967295<n then 0 else if n<128 then 1 else if n<16384 then 2 else if n<2097152 then 3 else if n<268435456 then 4 else 5
def lgF (m:Int):Int:=if m<128 then 0 else if m<16384 then 1 else if m<2097152 then 2 else if m<268435456 then 3 else 4
theorem zJp {n:Int} (h0:0<=n) (h1:n<=4294967295):szF n=1+lgF n:=by
 unfold szF lgF;rw[zX0 zB]
 repeat' split
 all_goals omega
theorem zOz {m:Int} (h0:128<=m) (h1:m<=4294967295):lgF m=1+lgF (m/128):=by
 unfold lgF;rw[zX0 zB]
 repeat' split
 all_goals omega
theorem zTu {m:Int} (h:m<128):lgF m=0:=zX1 h
theorem zJq (n:Int):zN 203 [iA n] [] (iA (szF n)) []:=by
 by_cases h:n<0∨4294967295<n
 ·have e:szF n=0:=zX1 h;rw[e];by_cases h1:n<0
  ·(refine eM call203 λF hF=>?_)
   refine WW ?_;exact zJ
  ·have h2:=h.resolve_left h1;refine eM call203 λF hF=>?_
   refine WW ?_;exact zJ
 have h1:0<=n:=by omega
 have h2:n<=4294967295:=by omega
 rw[zJp h1 h2];generalize hs:1+lgF n=s;refine eM call203 λF hF=>?_
 refine WW ?_;refine fF (5) [] [] [] [0,3] rfl (λzn T U zs=>∃(m:Int) (k:Int),(0<=m/\m<=4294967295/\k=6-zn/\1<=k/\k<=5/\(k=2->m<=33554431)/\(k=3->m<=262143)/\(k=4->m<=2047)/\(k=5->m<=15)/\s=k+lgF m)/\zs=⟨(0,iA m)::(3,iA k)::T,U⟩) ?_;(conv=>whnf);refine⟨?_,?_⟩
 ·exact⟨n,1,⟨h1,h2,zB,zB,zB,zB,zB,zB,zB,hs.symm⟩,rfl⟩
 ·rintro zn st ⟨m,k,⟨q0,q1,q2,q3,q4,q5,q6,q7,q8,q9⟩,rfl⟩;by_cases hm:128<=m
  ·have hd:=zOz hm q1;have hmd:m.tdiv 128=m/128:=zZt q0;have hir:XC .i64 (m.tdiv 128):=⟨zB,zB⟩;refine WW ?_;refine⟨zn-1,zB,m.tdiv 128,k+1,⟨zB,zB,zB,zB,zB,zB,zB,zB,zB,by rw[hmd];omega⟩,rfl⟩
  ·rw[zTu zB]at q9;obtain rfl:s=k:=by omega
   refine WW ?_;exact zJ
theorem zWp {i:Nat} (h:i<=4):((128:Int) ^ i=1/\i=0)∨((128:Int) ^ i=128/\i=1)∨((128:Int) ^ i=16384/\i=2)∨((128:Int) ^ i=2097152/\i=3)∨((128:Int) ^ i=268435456/\i=4):=by
 obtain rfl|rfl|rfl|rfl|rfl:i=0∨i=1∨i=2∨i=3∨i=4:=by omega
 all_goals simp
theorem zQs {x P:Int} (x0:0<=x) (x1:x<128) (P0:1<=P) (P1:P<=268435456):0<=x*P/\x*P<=127*P:=by
 refine⟨Int.mul_nonneg x0 zB,Int.mul_le_mul_of_nonneg_right zB zB⟩
section
variable {P:Program} {tm:List (Nat×AV)} {h:List (Nat×xN)} {tx ty:Nat} {x y:Operand}
theorem zTv:∀k:_root_.Fin 256,IntKind.u8.wrap (BitVec.ofInt IntKind.u8.bits (k.val:Int) &&& BitVec.ofInt IntKind.u8.bits 127).toNat=((k.val:Int)).tmod 128:=by decide +kernel
theorem ZE {m:Int} (hx:yN (zG tm) x= .s (.int .u8 m)) (hy:yN (zG tm) y= .s (.int .u8 127)) (h0:0<=m/\m<256):wR P ⟨tm,h⟩ (.binOp .and tx x y ty) (.s (.int .u8 (m.tmod 128))) [] [] []:=by
 have e:=zTv ⟨m.toNat,zB⟩;simp only[show((m.toNat:Nat):Int)=m by omega]at e;rw[<-e];exact QI hx hy
end
theorem zO0 (a b:Nat) (ha:a<2 ^ 60) (hb:b<2 ^ 60):orI a b=((a ||| b:Nat):Int):=by
 have h:=Nat.or_lt_two_pow ha hb;unfold orI;rw[show BitVec.ofInt IntKind.i64.bits (a:Int)=BitVec.ofNat IntKind.i64.bits a from yBw ..];rw[show BitVec.ofInt IntKind.i64.bits (b:Int)=BitVec.ofNat IntKind.i64.bits b from yBw ..];rw[BitVec.toNat_or,yBp,yBp,yAt (zY7 ha (yBy yZ yZ)),yAt (zY7 hb (yBy yZ yZ))];refine kF ⟨?_,?_⟩
 ·show(-9223372036854775808:Int)<=_
  omega
 ·show _<=(9223372036854775807:Int)
  have:(2:Nat) ^ 60=1152921504606846976:=rfl;omega
theorem zTw {i:Nat} {n y:Int} (h:i<=4) (h0:0<=n) (h1:n<128 ^ i) (y0:0<=y) (y1:y<128):orI n (IntKind.i64.wrap (y*2 ^ (min ((7*(i:Int)).toNat) IntKind.i64.bits)))=n+y*128 ^ i:=by
 have hb:IntKind.i64.bits=64:=rfl;have e1:min ((7*(i:Int)).toNat) 64=7*i:=by omega
 have e2:(2:Int) ^ (7*i)=128 ^ i:=by rw[Int.pow_mul];rfl
 rw[hb,e1,e2];have hP:1<=(128:Int) ^ i/\(128:Int) ^ i<=268435456:=by have:=zWp h;omega
 have hz:=zQs y0 y1 hP.1 hP.2;rw[show IntKind.i64.wrap (y*128 ^ i)=y*128 ^ i from kF (k:= .i64) (by unfold XC;generalize y*128 ^ i=Z at *;generalize (128:Int) ^ i=Pw at *;omega)];obtain⟨a,rfl⟩:=yBc h0;obtain⟨c,rfl⟩:=yBc y0;have hPn:(128:Int) ^ i=((128 ^ i:Nat):Int):=by simp
 rw[hPn]at h1 hz hP⊢;have ha:a<128 ^ i:=by omega
 rw[show((c:Int)*((128 ^ i:Nat):Int))=((c*128 ^ i:Nat):Int) by simp]at hz⊢;rw[zO0 a (c*128 ^ i) (by have:(2:Nat) ^ 60=1152921504606846976:=rfl;omega) (by have:(2:Nat) ^ 60=1152921504606846976:=rfl;omega)];have e3:(128:Nat) ^ i=2 ^ (7*i):=by rw[Nat.pow_mul]
 rw[e3]at ha⊢;have:=Nat.shiftLeft_add_eq_or_of_lt ha c;rw[Nat.shiftLeft_eq]at this;rw[Nat.or_comm,<-this];omega
theorem zWq (b:List Int) (hb:BY b) (hn:b.length<=100000):zN 173 [zD yA b] [] (.tup [iA (ZD b).1,iA (ZD b).2.1,iA (ZD b).2.2]) []:=by
 have hl:=zA yA b;refine eM call173 λF hF=>?_
 refine WW ?_;refine qM (b) [] [] [8,9] [5,10,8,9] rfl (λi pre T U zs=>∃n:Int,(0<=n/\n<128 ^ i/\i<=5/\∀post,b=pre++post->ZD b=SH post i n)/\zs=⟨(5,iA n)::(10,iA i)::T,U⟩) ?_;(conv=>whnf);refine⟨?_,?_,?_⟩
 ·exact⟨0,⟨zB,by decide,zB,λpost h=>by rw[h];rfl⟩,rfl⟩
 ·rintro i pre x r st hx hi ⟨n,⟨q0,q1,q2,q3⟩,rfl⟩;have hy:=yI yA hx hi;have hlt:=yB hx hi;have hxb:=hb x (xX hx);rw[q3 _ hx]
  have q4:∀post,b=pre++[x]++post->post=r:=λpost h=>by
   rw[hx,zYv]at h;simpa using h.symm
  clear q3 hx;by_cases hi5:i=5
  ·subst hi5
   show uG _ _ _ _ _ (WR (inB 0 (LT _ _ _ _ (Fin _ _ [] (.tup [iA 0,iA 0,iA 6]) []))) _)
   clear q4;refine WW ?_;exact zJ
  have ht:x.tmod 128=x % 128:=zZu hxb.1;have hPb:=zWp (i:=i) zB;have hPw:1<=(128:Int) ^ i/\(128:Int) ^ i<=268435456:=by omega
  have hz:=zQs (x:=x.tmod 128) (P:=128 ^ i) zB zB zB zB;have hE:=zTw (i:=i) (n:=n) (y:=x.tmod 128) zB q0 q1 zB zB;have hP1:(128:Int) ^ (i+1)=128 ^ i*128:=rfl;by_cases h128:128<=x
  ·have e:SH (x::r) i n=SH r (i+1) (n+x.tmod 128*128 ^ i):=by rw[SH,zX0 hi5,zX1 h128]
   rw[e]
   have hm1:0<=n+x.tmod 128*128 ^ i/\n+x.tmod 128*128 ^ i<128 ^ (i+1):=by
    rw[hP1];generalize x.tmod 128*128 ^ i=Z at *;omega
   clear hPb e hz;generalize n+x.tmod 128*128 ^ i=M at*
   (repeat' (first|refine qB ?_|refine xO (λhc=>?_) (λhc=>?_)|refine wB (λhc=>?_)|(refine zE ?_;first|(refine wW ?_;refine xI (ZE rfl rfl hxb) rfl ?_)|refine SM ?_)|fail))
   refine⟨M,⟨hm1.1,hm1.2,zB,λpost h=>by rw[q4 post h]⟩,?_⟩;rw[<-hE];rfl
  ·have e:SH (x::r) i n=if 4294967295<n+x.tmod 128*128 ^ i∨(0<i/\x=0)then(0,0,6)else(n+x.tmod 128*128 ^ i,(i:Int)+1,0):=by rw[SH,zX0 hi5,zX0 h128]
   rw[e]
   have hm1:0<=n+x.tmod 128*128 ^ i/\n+x.tmod 128*128 ^ i<128 ^ (i+1):=by
    rw[hP1];generalize x.tmod 128*128 ^ i=Z at *;omega
   clear hPb e hz q4 hP1;generalize n+x.tmod 128*128 ^ i=M at *;by_cases hbad:4294967295<M∨(0<i/\x=0)
   ·rw[zX1 hbad];by_cases hM:4294967295<M
    ·clear hbad
     (repeat' (first|refine qB ?_|refine xO (λhc=>?_) (λhc=>?_)|refine wB (λhc=>?_)|(refine zE ?_;first|(refine wW ?_;refine xI (ZE rfl rfl hxb) rfl ?_)|refine SM ?_)|fail))
     exact zJ
    ·obtain⟨h1,h2⟩:=hbad.resolve_left hM
     (repeat' (first|refine qB ?_|refine xO (λhc=>?_) (λhc=>?_)|refine wB (λhc=>?_)|(refine zE ?_;first|(refine wW ?_;refine xI (ZE rfl rfl hxb) rfl ?_)|refine SM ?_)|fail))
     exact zJ
   ·rw[zX0 hbad];by_cases hi0:0<i
    ·have hx0:x≠0:=λh=>hbad (.inr ⟨hi0,h⟩)
     (repeat' (first|refine qB ?_|refine xO (λhc=>?_) (λhc=>?_)|refine wB (λhc=>?_)|(refine zE ?_;first|(refine wW ?_;refine xI (ZE rfl rfl hxb) rfl ?_)|refine SM ?_)|fail))
     rw[<-hE];exact zJ
    ·(repeat' (first|refine qB ?_|refine xO (λhc=>?_) (λhc=>?_)|refine wB (λhc=>?_)|(refine zE ?_;first|(refine wW ?_;refine xI (ZE rfl rfl hxb) rfl ?_)|refine SM ?_)|fail))
     rw[<-hE];exact zJ
 ·rintro st ⟨n,⟨q0,q1,q2,q3⟩,rfl⟩;rw[q3 [] zS]
  show uG _ _ _ _ _ (WR (inB 0 (LT _ _ _ _ (Fin _ _ [] (.tup [iA 0,iA 0,iA 6]) []))) _)
  refine WW ?_;exact zJ
end Av
end Go.Proofs.YtmamjhmoegjapaaGreat
