/- Part 14. -/
import Derived.Test.YteajjdidebfcjaaGreatN13
namespace Go.Proofs.YteajjdidebfcjaaGreat
namespace Av
open Tryz
set_option linter.all false
set_option maxRecDepth 4000
set_option maxHeartbeats 4000000
def wnA (p:Int×Int):AV:= .agg [iA p.1,iA p.2]
def nwL (now:Int) (g:Lg) (p:Int×Int):Lg:=⟨g.jn,g.ph,now+p.1,now+p.2,g.sc⟩
def okW (now:Int) (g:Lg) (p:Int×Int):Bool:=mwB g.jn g.ph p.1 p.2 now
def DV (gs:List Lg) (w:List (Int×Int)) (now:Int):Bool:=(gs.zipWith (okW now) w).all id
def cW (l:List Rq) (id:Int) (w:List (Int×Int)) (now:Int):Int:=
 if gB l id=true then(if w.length=(fdQ l id).legs.length/\DV (fdQ l id).legs w now=true then 0 else 8)else 12
def MG (l:List Rq) (id:Int) (w:List (Int×Int)) (now:Int):List Rq:=l.map λr=>if r.id=id then⟨r.id,r.vh,r.cls,r.til,r.legs.zipWith (nwL now) w⟩else r
def upN (gs:List Lg) (w:List (Int×Int)) (now:Int) (i:Nat):List Lg:=(gs.take i).zipWith (nwL now) (w.take i)++gs.drop i
def zDo {gs:List Lg} {w:List (Int×Int)} {now:Int} {i:Nat} (h:w.length=gs.length) (hi:i<=gs.length):(upN gs w now i).length=gs.length:=by
 unfold upN;rw[yBf,yFs,yB4,yB4,yCj];omega
def zV3 {gs:List Lg} {w:List (Int×Int)} {now:Int} {i:Nat} (h:w.length=gs.length) (hi:i<gs.length):((upN gs w now i).map xS)[i]? =some (xS (gs.getD i default)):=by
 unfold upN;have e:((gs.take i).zipWith (nwL now) (w.take i)).length=i:=by rw[yFs,yB4,yB4];omega
 rw[yBh,yB9 zB,e,yDh,yDl];simp[List.getD,hi]
def zQb {gs:List Lg} {w:List (Int×Int)} {now:Int} {i:Nat} (h:w.length=gs.length) (hi:i<gs.length):((upN gs w now i).map xS).set i (xS (nwL now (gs.getD i default) (w.getD i default)))=(upN gs w now (i+1)).map xS:=by
 unfold upN;have e:((gs.take i).zipWith (nwL now) (w.take i)).length=i:=by rw[yFs,yB4,yB4];omega
 rw[<-yDa,yEa _ _ zB,e,yDh,yDx hi,yFx];rw[yD8,yD8,List.zipWith_append (by rw[yB4,yB4];omega)];rw[yBu hi,yBu zB];simp[List.getD,hi,show i<w.length by omega]
def zY9 (gs:List Lg) (w:List (Int×Int)) (now:Int):upN gs w now 0=gs:=by simp[upN]
def zQc {gs:List Lg} {w:List (Int×Int)} {now:Int} (h:w.length=gs.length):upN gs w now gs.length=gs.zipWith (nwL now) w:=by
 unfold upN;rw[yBj,<-h,yBj,h,yE6,yCd]
def zQd {gs:List Lg} {w:List (Int×Int)} {now:Int} (h:w.length=gs.length) (ha:∀i,i<gs.length->okW now (gs.getD i default) (w.getD i default)=true):DV gs w now=true:=by
 unfold DV;rw[yBr];intro b hb;obtain⟨i,hi,rfl⟩:=yEo.1 hb;rw[yFs]at hi;have:=ha i zB;rw[List.getElem_zipWith];simpa [List.getD,show i<gs.length by omega,show i<w.length by omega]using this
def zV4 {gs:List Lg} {w:List (Int×Int)} {now:Int} {i:Nat} (h:w.length=gs.length) (hi:i<gs.length) (ha:okW now (gs.getD i default) (w.getD i default)=false):DV gs w now=false:=by
 unfold DV;rw[yD7];refine⟨okW now (gs.getD i default) (w.getD i default),?_,by rw[ha];decide⟩
 have:(gs.zipWith (okW now) w)[i]? =some (okW now (gs.getD i default) (w.getD i default)):=by
  rw[List.getElem?_zipWith,yBu hi,yBu zB];simp[List.getD,hi,show i<w.length by omega]
 exact yCz this
def zDp {l pre post:List Rq} {x:Rq} {id:Int} {w:List (Int×Int)} {now:Int} (hL:l=pre++x::post) (hv:bZ l) (hx:x.id=id):MG l id w now=pre++⟨x.id,x.vh,x.cls,x.til,x.legs.zipWith (nwL now) w⟩::post:=by
 have hs:=hv.so;rw[hL,yFl,yFw]at hs;obtain⟨_,⟨h2,_⟩,h3⟩:=hs;unfold MG;rw[hL,yBn,yCh,yBd hx]
 congr 1
 ·conv=>rhs;rw[<-List.map_id pre]
  refine yEt λy hy=>?_
  have:=h3 y hy x zQ;rw[yBc zB];rfl
 ·congr 1
  conv=>rhs;rw[<-List.map_id post]
  refine yEt λy hy=>?_
  have:=h2 y hy;rw[yBc zB];rfl
def zQe {h:yD} {pre post:List Rq} {x:Rq} {b:Bool} {gs:List Lg} (h1:h 1001=some (.arr 5 (bV pre x post 1101) ⟨b,true⟩)) (h2:h 1101=some (.arr 5 (gs.map xS) false)) (hl:gs.length=x.legs.length):
  wH [] h (.ref 1001 0 (bV pre x post 1101).length)=zD yI (pre++⟨x.id,x.vh,x.cls,x.til,gs⟩::post):=by
 have e:wL [] h (bV pre x post 1101)=(pre++⟨x.id,x.vh,x.cls,x.til,gs⟩::post).map yI:=by
  unfold bV;rw[TF,PY,wL,PY,yBn,yCh]
  congr 1
  congr 1
  show AV.agg [iA x.id,iA x.vh,iA x.cls,iA x.til,uU [] h (.ref 1101 0 (x.legs.map xS).length)]=_
  have e2:uU [] h (.ref 1101 0 (x.legs.map xS).length)=zD xS gs:=by
   simp only[uU,h2]
   show AV.sl false (((gs.map xS).drop 0).take (x.legs.map xS).length)=_
   rw[yCg,yBe,yBo (by rw[yBe,hl];exact yBg _)];rfl
  rw[e2];rfl
 have hl2:(bV pre x post 1101).length=((pre++⟨x.id,x.vh,x.cls,x.til,gs⟩::post).map yI).length:=by rw[ZO];simp;omega
 rw[hl2];simp only[wH,h1]
 show(bif wD (wL [] h (bV pre x post 1101))then AV.sl false (((wL [] h (bV pre x post 1101)).drop 0).take _)else .bot)=_
 rw[e,TG,yCg,yBj];rfl
def LU {l:List Rq} {id:Int} (h:gB l id=true):∃pre x post,l=pre++x::post/\x.id=id/\(∀y∈pre,y.id≠id)/\fdQ l id=x/\XE (λr:Rq=>r.id==id) l=(pre.length:Int):=by
 induction l with
 |nil=>cases h
 | cons a l ih=>
  by_cases ha:a.id=id
  ·refine⟨[],a,l,rfl,ha,by simp,(zDt (pre:=[]) Z zQ ha).1,VF (pre:=[]) Z zQ (by simpa using ha)⟩
  ·have h2:gB l id=true:=by simpa [gB,ha]using h
   obtain⟨pre,x,post,e1,e2,e3,_,_⟩:=ih h2
   have hp:∀y∈a::pre,y.id≠id:=λy hy=>by
    rcases yCk.1 hy with rfl|hy
    ·exact ha
    ·exact e3 y hy
   have e:a::l=(a::pre)++x::post:=by rw[e1];rfl
   exact⟨a::pre,x,post,e,e2,hp,(zDt e hp e2).1,VF e (λy hy=>by simpa using hp y hy) (by simpa using e2)⟩
theorem zK0 (l:List Rq) (id:Int) (w:List (Int×Int)) (now:Int) (hv:bZ l) (hw:w.length<=1000) (n0:0<=now) (n1:now<=1073741824):
  zO 223 [zD yI l,iA id,zD wnA w,iA now] [] (.tup [zD yI (if cW l id w now=0 then MG l id w now else []),iA (cW l id w now)]) []:=by
 have h4:=hv.n4;have hlw:=zA wnA w;have c1:=VJ l 4 hv zB;have c2:=zDy now;have c3:=PW l id zB;rw[yBk ⟨n0,n1⟩]at c2
 cases hh:gB l id with
 |false=>
  have hx:=aW (p:=λx:Rq=>x.id==id) (l:=l) (by simpa [gB]using hh);rw[hx]at c3;have e:cW l id w now=12:=yBc (by rw[hh];decide);rw[e,yBc xO];refine eM call223 λF hF=>?_
  refine yS (gW c1 c2 c3) ?_;exact zJ
 |true=>
 obtain⟨pre,x,post,hL,hx,_,hf,hix⟩:=LU hh;rw[hix]at c3;have hup:=zDp (w:=w) (now:=now) hL hv hx
 have e0:cW l id w now=if w.length=x.legs.length/\DV x.legs w now=true then 0 else 8:=by unfold cW;rw[yBd hh,hf]
 have hlen:l.length=pre.length+1+post.length:=by rw[hL];simp;omega
 have hxl:=hv.lg3 (r:=x) (by rw[hL];simp);have c4:=CH pre x post l hL zB (λr hr=>by have:=hv.lg3 hr;omega);have hcl:=ZO pre x post 1101;have hfr:=λh=>VI h pre x post true
 have hat:(bV pre x post 1101)[((pre.length:Int)).toNat]? =some (uX x 1101):=by unfold bV;simp
 have hfin:=λh gs=>zQe (h:=h) (pre:=pre) (post:=post) (x:=x) (b:=true) (gs:=gs)
 have hlx:=zA xS x.legs;generalize bV pre x post 1101=cs at *;clear hL hv hix hf hh hx;by_cases hwl:w.length=x.legs.length
 case neg=>
  rw[yBc (λh=>hwl h.1)]at e0;rw[e0,yBc xO];refine eM call223 λF hF=>?_
  refine yS (bY c1 c2 c3 c4) ?_;exact zJ
 refine eM call223 λF hF=>?_
 refine yS (bY c1 c2 c3 c4) ?_;refine wW (λn st=>∃i,n+i=x.legs.length/\(∀j,j<i->okW now (x.legs.getD j default) (w.getD j default)=true)/\st=(⟨[(44,iA i),(3,iA now),(11,.ref 1001 0 cs.length),(12,.ref 1101 0 (x.legs.map xS).length),(42,zD wnA w),(43,iA (w.map wnA).length)],[(1001,.arr 5 cs ⟨true,true⟩),(1101,.arr 5 ((upN x.legs w now i).map xS) false)]⟩:St)) x.legs.length [1001,1101] [44,3,11,12,42,43] Z ⟨0,zB,λj hj=>absurd hj (yDp _),?_⟩ ?_
 ·rw[zY9];refine yB8 (St.mk _) ?_
  show [(1001,qK [1001,1101] _ (.arr 5 cs ⟨true,true⟩)),(1101,fH x)]=_
  rw[hfr];rfl
 rintro n st ⟨i,hi,hok,rfl⟩;by_cases hil:i<x.legs.length
 ·have hul:=zDo (i:=i) (now:=now) hwl zB;have hlu:=zA xS (upN x.legs w now i);have hy2:=zM wnA w i zB;have hy:=zV3 (now:=now) hwl hil;have hst:=zQb (now:=now) hwl hil;have c5:=zDv (x.legs.getD i default).jn (x.legs.getD i default).ph (w.getD i default).1 (w.getD i default).2 now
  cases hb:okW now (x.legs.getD i default) (w.getD i default)with
  |false=>
   have hno:=zV4 hwl hil hb;rw[yBc (λh=>by rw[hno]at h;cases h.2)]at e0;rw[e0,yBc xO];unfold okW at hb;unfold mwF at c5;rw[hb,yBc yBw,yBc yBw]at c5;clear hok hfin hup hno hst;generalize x.legs.getD i default=g at *;generalize w.getD i default=q at *;generalize (upN x.legs w now i).map xS=ys at *;refine zW c5 ?_;exact zJ
  | true=>
   have hok2:∀j,j<i+1->okW now (x.legs.getD j default) (w.getD j default)=true:=λj hj=>by
    by_cases hji:j=i
    ·rw[hji];exact hb
    ·exact hok j zB
   unfold okW at hb;unfold mwF at c5;rw[hb,yBd Z,yBd Z]at c5;have hset:∀y:AV,(((upN x.legs w now i).map xS).set i y)[i]? =some y:=λy=>yC0 zB
   clear hok hfin hup e0 hb;generalize x.legs.getD i default=g at *;generalize w.getD i default=q at *;generalize (upN x.legs w now i).map xS=ys at*
   (have zc1:=c5;(repeat' (first|refine WTR ?_|((first|apply xE|apply xV)<;>intro hc)|(refine zE ?_;first|(refine XN ?_;refine zBs tok Z Z Z (hset _) Z Z Z Z Z Z Z Z ?_)|refine SM ?_)|refine SB ?_|fail))<;>clear zc1)
   refine⟨n-1,zB,i+1,zB,hok2,?_⟩;refine yB8 (St.mk _) ?_
   show [(1001,qK [1001,1101] _ (.arr 5 cs ⟨true,true⟩)),(1101,.arr 5 ((ys.set i _).set i (xS (nwL now g q))) false)]=_
   rw[hfr,yGi,hst]
 ·obtain rfl:i=x.legs.length:=by omega
  have hul:=zDo (i:=x.legs.length) (now:=now) hwl (yBg _);have hyes:=zQd hwl hok;rw[yBd ⟨hwl,hyes⟩]at e0;rw[e0,yBd Z,hup];rw[zQc hwl]at hul⊢;generalize x.legs.zipWith (nwL now) w=gs at *;refine WW ?_;refine zH [] Z Z ?_ Z
  show AV.tup [XO (wH [] _ (.ref 1001 0 cs.length)),iA 0]=_
  rw[hfin _ gs Z Z hul];rfl
def mkR (now:Int) (r:Rq):Rq:=⟨r.id,r.vh,r.cls,r.til,r.legs.map λg=>bR g now⟩
def DW (l:List Rq) (now:Int):List Rq:=l.map (mkR now)
def fV (l:List Lg) (now:Int) (k:Nat):List Lg:=(l.take k).map (λg=>bR g now)++l.drop k
def QE (l:List Lg) (now:Int):fV l now l.length=l.map λg=>bR g now:=by simp[fV]
def gT (l:List Lg) (now:Int) (k:Nat):(fV l now k).length=l.length:=by simp[fV];omega
def dY {l pre post:List Lg} {g:Lg} {k:Nat} (now:Int) (hx:l=pre++g::post) (hk:pre.length=k):((fV l now k).map xS)[k]? =some (xS g):=by
 subst hx hk;simp[fV]
def gU {l pre post:List Lg} {g:Lg} {k:Nat} (now:Int) (hx:l=pre++g::post) (hk:pre.length=k):(fV l now (k+1)).map xS=((fV l now k).map xS).set k (xS (bR g now)):=by
 subst hx hk;have e1:(pre++g::post).take (pre.length+1)=pre++[g]:=by rw[List.take_append,yBo zB];simp
 have e2:(pre++g::post).drop (pre.length+1)=post:=by rw[List.drop_append];simp
 have e3:(pre++g::post).take pre.length=pre:=by simp
 have e4:(pre++g::post).drop pre.length=g::post:=by simp
 unfold fV;rw[e1,e2,e3,e4];simp
def tkM (l:List Lg) (now:Int):List.take (l.map xS).length (List.drop 0 ((l.map λg=>bR g now).map xS))=(l.map λg=>bR g now).map xS:=by
 rw[yCg];exact yBo zQ
def gV (r:Rq) (now:Int) (k:Nat):xM:= .arr 5 ((fV r.legs now k).map xS) false
def zQf (a:Rq) (ha:1<=a.legs.length) (ga:a.legs.length<=1000) (now:Int):zO 129 [zD yI [a],iA now] [] (zD yI (DW [a] now)) []:=by
 have kc:=CD a ha ga;have la:=zA xS a.legs;refine eM call129 λF hF=>?_
 refine zW kc ?_;refine uN 2 [1001,1101] [13,11,12,1,5] Z ?_;refine xA (st0:=⟨[(13,iA 0),(11,.ref 1001 0 1),(12,iA 1),(1,iA now),(5,.ref 1001 0 1)],[(1001,.arr 5 [uX a 1101] ⟨false,true⟩),(1101,gV a now 0)]⟩) Z ?_;unfold gV;refine WW ?_;refine yO (a.legs) [1101,7,1001] [7,1001] [1,5,7,11,12,13,19] [20,1,5,7,11,12,13,19] Z (λi pre T U=>⟨(20,iA i)::T,(1101,.arr 5 ((fV a.legs now i).map xS) false)::U⟩) ?_;(conv=>whnf);refine⟨by rfl,?_,?_⟩
 ·intro k pre g post hx hk;have hlt:=yQ hx hk;have hy:=dY now hx hk;have hs:=gU now hx hk;have hyl:((fV a.legs now k).map xS).length=a.legs.length:=by rw[yBe,gT]
  have hset:∀y:AV,(((fV a.legs now k).map xS).set k y)[k]? =some y:=λy=>yC0 zB
  have cw:=gX g now;rw[hs];clear hx hs;generalize (fV a.legs now k).map xS=ys at *;generalize bR g now=g2 at*
  (have zc1:=cw;(repeat' (first|refine uC ?_|((first|apply xE|apply xV)<;>intro hc)|fail))<;>clear zc1)
  rfl
 refine WW ?_;refine xA (st0:=⟨[(13,iA 1),(11,.ref 1001 0 1),(12,iA 1),(1,iA now),(5,.ref 1001 0 1)],[(1001,.arr 5 [uX a 1101] ⟨false,true⟩),(1101,gV a now a.legs.length)]⟩) Z ?_;unfold gV;simp only[QE];refine WW ?_;refine zH [] Z Z ?_ Z
 show AV.sl false [.agg [iA a.id,iA a.vh,iA a.cls,iA a.til,.sl false (List.take (a.legs.map xS).length (List.drop 0 ((a.legs.map λg=>bR g now).map xS)))]]=_
 simp only[tkM];rfl
theorem zQg (a b:Rq) (ha:1<=a.legs.length) (ga:a.legs.length<=1000) (hb:1<=b.legs.length) (gb:b.legs.length<=1000) (now:Int):zO 129 [zD yI [a,b],iA now] [] (zD yI (DW [a,b] now)) []:=by
 have kc:=CE a b ha ga hb gb;have la:=zA xS a.legs;have lb:=zA xS b.legs;refine eM call129 λF hF=>?_
 refine zW kc ?_;refine uN 3 [1001,1101,1102] [13,11,12,1,5] Z ?_;refine xA (st0:=⟨[(13,iA 0),(11,.ref 1001 0 2),(12,iA 2),(1,iA now),(5,.ref 1001 0 2)],[(1001,.arr 5 [uX a 1101,uX b 1102] ⟨true,true⟩),(1101,gV a now 0),(1102,gV b now 0)]⟩) Z ?_;unfold gV;refine WW ?_;refine yO (a.legs) [1101,7,1001,1102] [7,1001,1102] [1,5,7,11,12,13,19] [20,1,5,7,11,12,13,19] Z (λi pre T U=>⟨(20,iA i)::T,(1101,.arr 5 ((fV a.legs now i).map xS) false)::U⟩) ?_;(conv=>whnf);refine⟨by rfl,?_,?_⟩
 ·intro k pre g post hx hk;have hlt:=yQ hx hk;have hy:=dY now hx hk;have hs:=gU now hx hk;have hyl:((fV a.legs now k).map xS).length=a.legs.length:=by rw[yBe,gT]
  have hset:∀y:AV,(((fV a.legs now k).map xS).set k y)[k]? =some y:=λy=>yC0 zB
  have cw:=gX g now;rw[hs];clear hx hs;generalize (fV a.legs now k).map xS=ys at *;generalize bR g now=g2 at*
  (have zc1:=cw;(repeat' (first|refine uC ?_|((first|apply xE|apply xV)<;>intro hc)|fail))<;>clear zc1)
  rfl
 refine WW ?_;refine xA (st0:=⟨[(13,iA 1),(11,.ref 1001 0 2),(12,iA 2),(1,iA now),(5,.ref 1001 0 2)],[(1001,.arr 5 [uX a 1101,uX b 1102] ⟨true,true⟩),(1101,gV a now a.legs.length),(1102,gV b now 0)]⟩) Z ?_;unfold gV;refine WW ?_;refine yO (b.legs) [1102,7,1001,1101] [7,1001,1101] [1,5,7,11,12,13,19] [20,1,5,7,11,12,13,19] Z (λi pre T U=>⟨(20,iA i)::T,(1102,.arr 5 ((fV b.legs now i).map xS) false)::U⟩) ?_;(conv=>whnf);refine⟨by rfl,?_,?_⟩
 ·intro k pre g post hx hk;have hlt:=yQ hx hk;have hy:=dY now hx hk;have hs:=gU now hx hk;have hyl:((fV b.legs now k).map xS).length=b.legs.length:=by rw[yBe,gT]
  have hset:∀y:AV,(((fV b.legs now k).map xS).set k y)[k]? =some y:=λy=>yC0 zB
  have cw:=gX g now;rw[hs];clear hx hs;generalize (fV b.legs now k).map xS=ys at *;generalize bR g now=g2 at*
  (have zc1:=cw;(repeat' (first|refine uC ?_|((first|apply xE|apply xV)<;>intro hc)|fail))<;>clear zc1)
  rfl
 refine WW ?_;refine xA (st0:=⟨[(13,iA 2),(11,.ref 1001 0 2),(12,iA 2),(1,iA now),(5,.ref 1001 0 2)],[(1001,.arr 5 [uX a 1101,uX b 1102] ⟨true,true⟩),(1101,gV a now a.legs.length),(1102,gV b now b.legs.length)]⟩) Z ?_;unfold gV;simp only[QE];refine WW ?_;refine zH [] Z Z ?_ Z
 show AV.sl false [.agg [iA a.id,iA a.vh,iA a.cls,iA a.til,.sl false (List.take (a.legs.map xS).length (List.drop 0 ((a.legs.map λg=>bR g now).map xS)))],.agg [iA b.id,iA b.vh,iA b.cls,iA b.til,.sl false (List.take (b.legs.map xS).length (List.drop 0 ((b.legs.map λg=>bR g now).map xS)))]]=_
 simp only[tkM];rfl
theorem zQh (a b c:Rq) (ha:1<=a.legs.length) (ga:a.legs.length<=1000) (hb:1<=b.legs.length) (gb:b.legs.length<=1000) (hc:1<=c.legs.length) (gc:c.legs.length<=1000) (now:Int):zO 129 [zD yI [a,b,c],iA now] [] (zD yI (DW [a,b,c] now)) []:=by
 have kc:=CF a b c ha ga hb gb hc gc;have la:=zA xS a.legs;have lb:=zA xS b.legs;have lc:=zA xS c.legs;refine eM call129 λF hF=>?_
 refine zW kc ?_;refine uN 4 [1001,1101,1102,1103] [13,11,12,1,5] Z ?_;refine xA (st0:=⟨[(13,iA 0),(11,.ref 1001 0 3),(12,iA 3),(1,iA now),(5,.ref 1001 0 3)],[(1001,.arr 5 [uX a 1101,uX b 1102,uX c 1103] ⟨true,true⟩),(1101,gV a now 0),(1102,gV b now 0),(1103,gV c now 0)]⟩) Z ?_;unfold gV;refine WW ?_;refine yO (a.legs) [1101,7,1001,1102,1103] [7,1001,1102,1103] [1,5,7,11,12,13,19] [20,1,5,7,11,12,13,19] Z (λi pre T U=>⟨(20,iA i)::T,(1101,.arr 5 ((fV a.legs now i).map xS) false)::U⟩) ?_;(conv=>whnf);refine⟨by rfl,?_,?_⟩
 ·intro k pre g post hx hk;have hlt:=yQ hx hk;have hy:=dY now hx hk;have hs:=gU now hx hk;have hyl:((fV a.legs now k).map xS).length=a.legs.length:=by rw[yBe,gT]
  have hset:∀y:AV,(((fV a.legs now k).map xS).set k y)[k]? =some y:=λy=>yC0 zB
  have cw:=gX g now;rw[hs];clear hx hs;generalize (fV a.legs now k).map xS=ys at *;generalize bR g now=g2 at*
  (have zc1:=cw;(repeat' (first|refine uC ?_|((first|apply xE|apply xV)<;>intro hc)|fail))<;>clear zc1)
  rfl
 refine WW ?_;refine xA (st0:=⟨[(13,iA 1),(11,.ref 1001 0 3),(12,iA 3),(1,iA now),(5,.ref 1001 0 3)],[(1001,.arr 5 [uX a 1101,uX b 1102,uX c 1103] ⟨true,true⟩),(1101,gV a now a.legs.length),(1102,gV b now 0),(1103,gV c now 0)]⟩) Z ?_;unfold gV;refine WW ?_;refine yO (b.legs) [1102,7,1001,1101,1103] [7,1001,1101,1103] [1,5,7,11,12,13,19] [20,1,5,7,11,12,13,19] Z (λi pre T U=>⟨(20,iA i)::T,(1102,.arr 5 ((fV b.legs now i).map xS) false)::U⟩) ?_;(conv=>whnf);refine⟨by rfl,?_,?_⟩
 ·intro k pre g post hx hk;have hlt:=yQ hx hk;have hy:=dY now hx hk;have hs:=gU now hx hk;have hyl:((fV b.legs now k).map xS).length=b.legs.length:=by rw[yBe,gT]
  have hset:∀y:AV,(((fV b.legs now k).map xS).set k y)[k]? =some y:=λy=>yC0 zB
  have cw:=gX g now;rw[hs];clear hx hs;generalize (fV b.legs now k).map xS=ys at *;generalize bR g now=g2 at*
  (have zc1:=cw;(repeat' (first|refine uC ?_|((first|apply xE|apply xV)<;>intro hc)|fail))<;>clear zc1)
  rfl
 refine WW ?_;refine xA (st0:=⟨[(13,iA 2),(11,.ref 1001 0 3),(12,iA 3),(1,iA now),(5,.ref 1001 0 3)],[(1001,.arr 5 [uX a 1101,uX b 1102,uX c 1103] ⟨true,true⟩),(1101,gV a now a.legs.length),(1102,gV b now b.legs.length),(1103,gV c now 0)]⟩) Z ?_;unfold gV;refine WW ?_;refine yO (c.legs) [1103,7,1001,1101,1102] [7,1001,1101,1102] [1,5,7,11,12,13,19] [20,1,5,7,11,12,13,19] Z (λi pre T U=>⟨(20,iA i)::T,(1103,.arr 5 ((fV c.legs now i).map xS) false)::U⟩) ?_;(conv=>whnf);refine⟨by rfl,?_,?_⟩
 ·intro k pre g post hx hk;have hlt:=yQ hx hk;have hy:=dY now hx hk;have hs:=gU now hx hk;have hyl:((fV c.legs now k).map xS).length=c.legs.length:=by rw[yBe,gT]
  have hset:∀y:AV,(((fV c.legs now k).map xS).set k y)[k]? =some y:=λy=>yC0 zB
  have cw:=gX g now;rw[hs];clear hx hs;generalize (fV c.legs now k).map xS=ys at *;generalize bR g now=g2 at*
  (have zc1:=cw;(repeat' (first|refine uC ?_|((first|apply xE|apply xV)<;>intro hc)|fail))<;>clear zc1)
  rfl
 refine WW ?_;refine xA (st0:=⟨[(13,iA 3),(11,.ref 1001 0 3),(12,iA 3),(1,iA now),(5,.ref 1001 0 3)],[(1001,.arr 5 [uX a 1101,uX b 1102,uX c 1103] ⟨true,true⟩),(1101,gV a now a.legs.length),(1102,gV b now b.legs.length),(1103,gV c now c.legs.length)]⟩) Z ?_;unfold gV;simp only[QE];refine WW ?_;refine zH [] Z Z ?_ Z
 show AV.sl false [.agg [iA a.id,iA a.vh,iA a.cls,iA a.til,.sl false (List.take (a.legs.map xS).length (List.drop 0 ((a.legs.map λg=>bR g now).map xS)))],.agg [iA b.id,iA b.vh,iA b.cls,iA b.til,.sl false (List.take (b.legs.map xS).length (List.drop 0 ((b.legs.map λg=>bR g now).map xS)))],.agg [iA c.id,iA c.vh,iA c.cls,iA c.til,.sl false (List.take (c.legs.map xS).length (List.drop 0 ((c.legs.map λg=>bR g now).map xS)))]]=_
 simp only[tkM];rfl
theorem zQi (a b c d:Rq) (ha:1<=a.legs.length) (ga:a.legs.length<=1000) (hb:1<=b.legs.length) (gb:b.legs.length<=1000) (hc:1<=c.legs.length) (gc:c.legs.length<=1000) (hd:1<=d.legs.length) (gd:d.legs.length<=1000) (now:Int):zO 129 [zD yI [a,b,c,d],iA now] [] (zD yI (DW [a,b,c,d] now)) []:=by
 have kc:=CG a b c d ha ga hb gb hc gc hd gd;have la:=zA xS a.legs;have lb:=zA xS b.legs;have lc:=zA xS c.legs;have ld:=zA xS d.legs;refine eM call129 λF hF=>?_
 refine zW kc ?_;refine uN 5 [1001,1101,1102,1103,1104] [13,11,12,1,5] Z ?_;refine xA (st0:=⟨[(13,iA 0),(11,.ref 1001 0 4),(12,iA 4),(1,iA now),(5,.ref 1001 0 4)],[(1001,.arr 5 [uX a 1101,uX b 1102,uX c 1103,uX d 1104] ⟨true,true⟩),(1101,gV a now 0),(1102,gV b now 0),(1103,gV c now 0),(1104,gV d now 0)]⟩) Z ?_;unfold gV;refine WW ?_;refine yO (a.legs) [1101,7,1001,1102,1103,1104] [7,1001,1102,1103,1104] [1,5,7,11,12,13,19] [20,1,5,7,11,12,13,19] Z (λi pre T U=>⟨(20,iA i)::T,(1101,.arr 5 ((fV a.legs now i).map xS) false)::U⟩) ?_;(conv=>whnf);refine⟨by rfl,?_,?_⟩
 ·intro k pre g post hx hk;have hlt:=yQ hx hk;have hy:=dY now hx hk;have hs:=gU now hx hk;have hyl:((fV a.legs now k).map xS).length=a.legs.length:=by rw[yBe,gT]
  have hset:∀y:AV,(((fV a.legs now k).map xS).set k y)[k]? =some y:=λy=>yC0 zB
  have cw:=gX g now;rw[hs];clear hx hs;generalize (fV a.legs now k).map xS=ys at *;generalize bR g now=g2 at*
  (have zc1:=cw;(repeat' (first|refine uC ?_|((first|apply xE|apply xV)<;>intro hc)|fail))<;>clear zc1)
  rfl
 refine WW ?_;refine xA (st0:=⟨[(13,iA 1),(11,.ref 1001 0 4),(12,iA 4),(1,iA now),(5,.ref 1001 0 4)],[(1001,.arr 5 [uX a 1101,uX b 1102,uX c 1103,uX d 1104] ⟨true,true⟩),(1101,gV a now a.legs.length),(1102,gV b now 0),(1103,gV c now 0),(1104,gV d now 0)]⟩) Z ?_;unfold gV;refine WW ?_;refine yO (b.legs) [1102,7,1001,1101,1103,1104] [7,1001,1101,1103,1104] [1,5,7,11,12,13,19] [20,1,5,7,11,12,13,19] Z (λi pre T U=>⟨(20,iA i)::T,(1102,.arr 5 ((fV b.legs now i).map xS) false)::U⟩) ?_;(conv=>whnf);refine⟨by rfl,?_,?_⟩
 ·intro k pre g post hx hk;have hlt:=yQ hx hk;have hy:=dY now hx hk;have hs:=gU now hx hk;have hyl:((fV b.legs now k).map xS).length=b.legs.length:=by rw[yBe,gT]
  have hset:∀y:AV,(((fV b.legs now k).map xS).set k y)[k]? =some y:=λy=>yC0 zB
  have cw:=gX g now;rw[hs];clear hx hs;generalize (fV b.legs now k).map xS=ys at *;generalize bR g now=g2 at*
  (have zc1:=cw;(repeat' (first|refine uC ?_|((first|apply xE|apply xV)<;>intro hc)|fail))<;>clear zc1)
  rfl
 refine WW ?_;refine xA (st0:=⟨[(13,iA 2),(11,.ref 1001 0 4),(12,iA 4),(1,iA now),(5,.ref 1001 0 4)],[(1001,.arr 5 [uX a 1101,uX b 1102,uX c 1103,uX d 1104] ⟨true,true⟩),(1101,gV a now a.legs.length),(1102,gV b now b.legs.length),(1103,gV c now 0),(1104,gV d now 0)]⟩) Z ?_;unfold gV;refine WW ?_;refine yO (c.legs) [1103,7,1001,1101,1102,1104] [7,1001,1101,1102,1104] [1,5,7,11,12,13,19] [20,1,5,7,11,12,13,19] Z (λi pre T U=>⟨(20,iA i)::T,(1103,.arr 5 ((fV c.legs now i).map xS) false)::U⟩) ?_;(conv=>whnf);refine⟨by rfl,?_,?_⟩
 ·intro k pre g post hx hk;have hlt:=yQ hx hk;have hy:=dY now hx hk;have hs:=gU now hx hk;have hyl:((fV c.legs now k).map xS).length=c.legs.length:=by rw[yBe,gT]
  have hset:∀y:AV,(((fV c.legs now k).map xS).set k y)[k]? =some y:=λy=>yC0 zB
  have cw:=gX g now;rw[hs];clear hx hs;generalize (fV c.legs now k).map xS=ys at *;generalize bR g now=g2 at*
  (have zc1:=cw;(repeat' (first|refine uC ?_|((first|apply xE|apply xV)<;>intro hc)|fail))<;>clear zc1)
  rfl
 refine WW ?_;refine xA (st0:=⟨[(13,iA 3),(11,.ref 1001 0 4),(12,iA 4),(1,iA now),(5,.ref 1001 0 4)],[(1001,.arr 5 [uX a 1101,uX b 1102,uX c 1103,uX d 1104] ⟨true,true⟩),(1101,gV a now a.legs.length),(1102,gV b now b.legs.length),(1103,gV c now c.legs.length),(1104,gV d now 0)]⟩) Z ?_;unfold gV;refine WW ?_;refine yO (d.legs) [1104,7,1001,1101,1102,1103] [7,1001,1101,1102,1103] [1,5,7,11,12,13,19] [20,1,5,7,11,12,13,19] Z (λi pre T U=>⟨(20,iA i)::T,(1104,.arr 5 ((fV d.legs now i).map xS) false)::U⟩) ?_;(conv=>whnf);refine⟨by rfl,?_,?_⟩
 ·intro k pre g post hx hk;have hlt:=yQ hx hk;have hy:=dY now hx hk;have hs:=gU now hx hk;have hyl:((fV d.legs now k).map xS).length=d.legs.length:=by rw[yBe,gT]
  have hset:∀y:AV,(((fV d.legs now k).map xS).set k y)[k]? =some y:=λy=>yC0 zB
  have cw:=gX g now;rw[hs];clear hx hs;generalize (fV d.legs now k).map xS=ys at *;generalize bR g now=g2 at*
  (have zc1:=cw;(repeat' (first|refine uC ?_|((first|apply xE|apply xV)<;>intro hc)|fail))<;>clear zc1)
  rfl
 refine WW ?_;refine xA (st0:=⟨[(13,iA 4),(11,.ref 1001 0 4),(12,iA 4),(1,iA now),(5,.ref 1001 0 4)],[(1001,.arr 5 [uX a 1101,uX b 1102,uX c 1103,uX d 1104] ⟨true,true⟩),(1101,gV a now a.legs.length),(1102,gV b now b.legs.length),(1103,gV c now c.legs.length),(1104,gV d now d.legs.length)]⟩) Z ?_;unfold gV;simp only[QE];refine WW ?_;refine zH [] Z Z ?_ Z
 show AV.sl false [.agg [iA a.id,iA a.vh,iA a.cls,iA a.til,.sl false (List.take (a.legs.map xS).length (List.drop 0 ((a.legs.map λg=>bR g now).map xS)))],.agg [iA b.id,iA b.vh,iA b.cls,iA b.til,.sl false (List.take (b.legs.map xS).length (List.drop 0 ((b.legs.map λg=>bR g now).map xS)))],.agg [iA c.id,iA c.vh,iA c.cls,iA c.til,.sl false (List.take (c.legs.map xS).length (List.drop 0 ((c.legs.map λg=>bR g now).map xS)))],.agg [iA d.id,iA d.vh,iA d.cls,iA d.til,.sl false (List.take (d.legs.map xS).length (List.drop 0 ((d.legs.map λg=>bR g now).map xS)))]]=_
 simp only[tkM];rfl
def zK1 (l:List Rq) (now:Int) (hv:bZ l):zO 129 [zD yI l,iA now] [] (zD yI (DW l now)) []:=by
 have h4:=hv.n4;have hb:∀r∈l,1<=r.legs.length/\r.legs.length<=1000:=λr hr=>by have:=hv.lg3 hr;omega
 match l,h4,hb with
 | [],_,_=>
  have kc:=VG;refine eM call129 λF hF=>?_
  refine zW kc ?_;refine uN 1 [] [13,11,12,1,5] Z ?_;refine xA (st0:=⟨[(13,iA 0),(11,.s (.slice none 0 0)),(12,iA 0),(1,iA now),(5,.s (.slice none 0 0))],[]⟩) Z ?_;refine WW ?_;exact zJ
 | [a],_,hb=>exact zQf a (hb a zQ).1 (hb a zQ).2 now
 | [a,b],_,hb=>exact zQg a b (hb a zQ).1 (hb a zQ).2 (hb b zQ).1 (hb b zQ).2 now
 | [a,b,c],_,hb=>exact zQh a b c (hb a zQ).1 (hb a zQ).2 (hb b zQ).1 (hb b zQ).2 (hb c zQ).1 (hb c zQ).2 now
 | [a,b,c,d],_,hb=>exact zQi a b c d (hb a zQ).1 (hb a zQ).2 (hb b zQ).1 (hb b zQ).2 (hb c zQ).1 (hb c zQ).2 (hb d zQ).1 (hb d zQ).2 now
 |_::_::_::_::_::_,h,_=>simp at h
def zK2 (g:Lg) (now:Int) (n0:0<=now) (n1:now<=1073741824):(bR g now).jn=g.jn/\(bR g now).ph=g.ph/\(NY g=true->NY (bR g now)=true):=by
 unfold bR;split
 ·split
  ·refine⟨rfl,rfl,λh=>?_⟩;unfold NY at *;rw[yBi]at *; dsimp only;omega
  ·exact⟨rfl,rfl,id⟩
 ·refine⟨rfl,rfl,λh=>?_⟩;unfold NY at *;rw[yBi]at *; dsimp only;omega
theorem zDq {now:Int} (n0:0<=now) (n1:now<=1073741824):∀(gs pre pre':List Lg),pre'.map (·.jn)=pre.map (·.jn)->gC pre gs=true->gC pre' (gs.map λg=>bR g now)=true
 | [],_,_,_,_=>rfl
 |x::post,pre,pre',hp,h=>by
  obtain⟨e1,_,e3⟩:=zK2 x now n0 n1;have ha:∀(l:List Lg),(l.any λy=>y.jn==x.jn)=(l.map (·.jn)).any λn=>n==x.jn:=λl=>by rw[List.any_map];rfl
  rw[gC,yBq,yBq]at h;rw[yCh,gC,e3 h.1,e1,ha,hp,<-ha,h.2.1,yB2,yB2];exact zDq n0 n1 post (pre++[x]) (pre'++[bR x now]) (by rw[yBn,yBn,hp];simp[e1]) h.2.2
def zZa {l:List Rq} (hv:bZ l) (now:Int) (n0:0<=now) (n1:now<=1073741824):bZ (DW l now):=by
 refine⟨λr hr=>?_,?_,by unfold DW;rw[yBe];exact hv.n4⟩
 ·obtain⟨x,hx,rfl⟩:=yCc.1 hr;have h:=hv.ok x hx;refine⟨h.i0,h.i1,h.v0,h.v1,h.c0,h.c1,h.t0,h.t1,?_⟩;have h1:=h.lg;rw[MM,yBq]at h1;unfold MM mkR;dsimp only;rw[yBq,yBe];exact⟨h1.1,zDq n0 n1 x.legs [] [] Z h1.2⟩
 ·unfold DW;rw[List.pairwise_map];exact hv.so
def eQ (p:Nat->Bool):Nat->Int
 |0=>0
 |n+1=>if p n=true then eQ p n+p2 n else eQ p n
theorem zA6 (p:Nat->Bool):∀n:Nat,n<=30->0<=eQ p n/\eQ p n<p2 n
 |0,_=>⟨yC8 0,by show(0:Int)<1;decide⟩
 | n+1,h=>by
  have ih:=zA6 p n zB
  have h2:p2 ((n+1:Nat):Int)=2*p2 (n:Int):=by
   unfold p2;rw[yB5,yB5,yG8];omega
  have:=zTq n zB;unfold eQ
  split<;>omega
theorem cH {p q:Nat->Bool}:∀n:Nat,(∀i,i<n->p i=q i)->eQ p n=eQ q n
 |0,_=>rfl
 |n+1,h=>by unfold eQ;rw[h n zB,cH n λi hi=>h i zB]
def bq (b0 b1 b2 b3 b4 b5 b6 b7:Bool):Nat->Bool
 |0=>b0|1=>b1|2=>b2|3=>b3|4=>b4|5=>b5|6=>b6|7=>b7|_=>false
def zZb:∀b0 b1 b2 b3 b4 b5 b6 b7:Bool,∀i:_root_.Fin 8,(fX (uQ (eQ (bq b0 b1 b2 b3 b4 b5 b6 b7) 8) i.val) 1==1)=bq b0 b1 b2 b3 b4 b5 b6 b7 i.val:=by decide +kernel
def zQj (p:Nat->Bool) (i:Nat) (hi:i<8):(fX (uQ (eQ p 8) i) 1==1)=p i:=by
 have e:∀j,j<8->p j=bq (p 0) (p 1) (p 2) (p 3) (p 4) (p 5) (p 6) (p 7) j:=λj hj=>by
  match j,hj with
  |0,_=>rfl|1,_=>rfl|2,_=>rfl|3,_=>rfl|4,_=>rfl|5,_=>rfl|6,_=>rfl|7,_=>rfl
  |j+8,h=>omega
 rw[cH 8 e,e i hi];exact zZb _ _ _ _ _ _ _ _ ⟨i,hi⟩
def bsN (p:Nat->Bool):Nat->Nat
 |0=>0
 |n+1=>if p n=true then bsN p n+2 ^ n else bsN p n
theorem DX (p:Nat->Bool):∀n,eQ p n=(bsN p n:Int)
 |0=>rfl
 |n+1=>by
  unfold eQ bsN;rw[DX p n];split
  ·unfold p2;simp
  ·rfl
theorem PV (p:Nat->Bool):∀n,bsN p n<2 ^ n
 |0=>(show 0<1 by omega)
 |n+1=>by
  have:=PV p n;unfold bsN;rw[Nat.pow_succ]
  split<;>omega
theorem cX (p:Nat->Bool):∀n i,(bsN p n).testBit i=(decide (i<n)&&p i)
 |0,i=>by simp[bsN]
 | n+1,i=>by
  have hlt:=PV p n;unfold bsN
  rcases Nat.lt_trichotomy i n with h|h|h
  ·rw[yBk zB,yB2];split
   ·rw[Nat.add_comm,Nat.testBit_two_pow_add_gt h,cX p n i,yBk h,yB2]
   ·rw[cX p n i,yBk h,yB2]
  ·subst h;rw[yBk zB,yB2];split
   ·rename_i hp;rw[Nat.add_comm,Nat.testBit_two_pow_add_eq,cX p i i,yBm zB,hp];rfl
   ·rename_i hp;rw[cX p i i,yBm zB];simpa using hp
  ·rw[yBm zB,yC4];refine Nat.testBit_lt_two_pow ?_;have h2:2 ^ (n+1)<=2 ^ i:=yFm zB zB;rw[Nat.pow_succ]at h2
   split<;>omega
def IS (a b:Nat) (ha:a<2 ^ 30) (hb:b<2 ^ 30):orI a b=((a ||| b:Nat):Int):=by
 have h:=Nat.or_lt_two_pow ha hb;unfold orI;rw[yFi,yFi,BitVec.toNat_or,yE9,yE9];have e:(2:Nat) ^ IntKind.i64.bits=18446744073709551616:=by decide
 rw[e,yD5 zB,yD5 zB];exact qW (k:= .i64) (by unfold aA;omega)
def zV5 (p q:Nat->Bool):orI (eQ p 8) (eQ q 8)=eQ (λi=>p i||q i) 8:=by
 have h1:=PV p 8;have h2:=PV q 8;rw[DX,DX,DX,IS _ _ zB zB]
 congr 1
 apply Nat.eq_of_testBit_eq;intro i;rw[yHk,cX,cX,cX]
 cases decide (i<8)<;>simp
def YM (l:List Tk):Nat->Int->List Int
 |0,_=>[]
 |n+1,s=>bif fN l s then s::YM l n (l.getD s.toNat default).par else []
def jB (l:List Tk) (k:Nat) (a:Int):YM l (k+1) a=bif fN l a then a::YM l k (l.getD a.toNat default).par else []:=rfl
def XD {l:List Tk} {s:Int} (h:fN l s=true):0<=s/\s<l.length:=by
 unfold fN at h;simp only[yBq,yBi]at h;exact h.1
theorem zK3 {l:List Tk}:∀(n:Nat) (s x:Int),x∈YM l n s->fN l x=true
 |0,s,x,h=>by simp[YM]at h
 | n+1,s,x,h=>by
  unfold YM at h
  cases hu:fN l s<;>rw[hu]at h
  ·simp at h
  ·rw[yCu,yCk]at h
   rcases h with rfl|h
   ·exact hu
   ·exact zK3 n _ x h
def zK4 (l:List Tk) (s:Int):List (Nat×xM):=[(1003,.box [iA s]),(1004,.box [zD xB l])]
def zTf (l:List Tk) (s:Int):zO 207 [zD xB l,iA s] [] (.fn 225 [.ptr 1003 0 0,.ptr 1004 0 0]) (zK4 l s):=by
 refine eM call207 λF hF=>?_
 repeat' (first|(refine zE ?_;first|refine qA (jE (v:=AV.sl _ _) 1004 Z Z) Z Z Z ?_|refine qA (jE (v:=AV.s _) 1003 Z Z) Z Z Z ?_|refine vV tok Z Z ?_|refine qR ?_)|(first|refine xT ?_|refine xI ?_|refine vJ Z ?_|refine zZ Z ?_|refine zV Z ?_|refine xQ Z (λhc=>?_) λhc=>?_|refine xD ?_|refine yZ ?_|refine xJ ?_|refine yX ?_))
 exact zK [1003,1004] Z Z Z Z
def zK5 (l:List Tk) (s:Int):ZW prog 225 [.ptr 1003 0 0,.ptr 1004 0 0] (zK4 l s) ((YM l 8 s).map λx=>[iA x]):=by
 have hl:=zA xB l;refine bI func225 Z (λargs w=>call225 args w) Z Z Z (λF y hro hit hY=>?_);unfold zK4;refine WW ?_;refine xR (8) [1003,1004] [1003,1004] [0,2] [4,6,1000000,0,2] Z (λi T U zs=>∃(a:Int) (pre:List Int),(YM l 8 s=pre++YM l (8-i) a/\pre.length=i)/\zs=⟨(4,iA a)::(6,iA i)::(1000000,.gh i)::T,U⟩) ?_;(conv=>whnf);refine⟨?_,?_,?_⟩
 ·exact⟨s,[],⟨rfl,rfl⟩,rfl⟩
 ·rintro i st hi ⟨a,pre,⟨hp,hpl⟩,rfl⟩;have c:=zBb l a;obtain⟨k,hk⟩:∃k,8-i=k+1:=⟨7-i,zB⟩;rw[hk,jB l k a]at hp
  cases hu:fN l a<;>rw[hu]at c hp
  ·rw[yDc,yCd]at hp;refine zW c ?_;exact cO Z (.inl (by rw[yBe,hp,hpl]))
  ·rw[yCu]at hp;obtain⟨h0,h1⟩:=XD hu;have hy:=yL xB l a h0 h1;have hys:((YM l 8 s).map λx=>[iA x])[i]? =some [iA a]:=by rw[hp];simp[<-hpl]
   have hlen:i<((YM l 8 s).map λx=>[iA x]).length:=(yB0.1 hys).1;generalize ((YM l 8 s).map λx=>[iA x])=xs at *;have hp':YM l 8 s=(pre++[a])++YM l (8-(i+1)) (l.getD a.toNat default).par:=by rw[hp,show 8-(i+1)=k by omega];simp
   generalize l.getD a.toNat default=t at*
   (repeat' (first|refine uC ?_|((first|apply xE|apply xV)<;>intro hc)|(refine zE ?_;refine wA ?_;first|(first|(refine uF 226 ?_;first|refine wK (zL (c) Z Z Z Z Z) Z ?_|refine qA (zL (c) Z Z Z Z Z) Z Z Z ?_|refine XZ (zL (c) Z Z Z Z Z) Z Z Z ?_))|(refine BV ?_;refine QM hit hY Z Z hys Z Z Z ?_ ?_))|(refine zE ?_;first|refine SM ?_)|fail))
   ·exact⟨t.par,pre++[a],⟨hp',by simp[hpl]⟩,rfl⟩
   ·exact cO Z (.inr zB)
 ·rintro st ⟨a,pre,⟨hp,hpl⟩,rfl⟩;rw[show YM l (8-8) a=[]from rfl,yCd]at hp;refine WW ?_;exact ZD rfl (.inl (by rw[yBe,hp,hpl]))
def deF (l:List Tk) (s top:Int):Bool:=(YM l 8 s).any λa=>a==top
def zK6 (l:List Tk) (s top:Int):zO 267 [zD xB l,iA s,iA top] [] (bA (deF l s top)) []:=by
 have c:=zTf l s;unfold zK4 at c;refine eM call267 λF hF=>?_
 refine zW c ?_;refine uH hF (zK5 l s) Z [5,6] [5,6] Z Z Z Z Z Z Z Z Z (λi ys h=>?_) (λ_=>[(5,.box [iA top]),(6,.box [.s (.bool false)])]) (λi=>∀x∈(YM l 8 s).take i,x≠top) (T:=[(5,.ptr 5 0 0),(6,.ptr 6 0 0)]) Z zQ (λi ys y hys hI F1 h1 h2=>?_) (λhI=>?_)
 ·rw[yBh,yBs]at h;obtain⟨x,_,rfl⟩:=h;rfl
 ·rw[yBh,yBs]at hys;obtain⟨x,hx,rfl⟩:=hys
  show vO _ F1 _ _ ⟨[(11,iA x),(5,.ptr 5 0 0),(6,.ptr 6 0 0)],[(5,.box [iA top]),(6,.box [.s (.bool false)])]⟩ _
  have hmem:x∈YM l 8 s:=yCz hx;refine WW ?_;refine⟨rfl,λF2 g1 g2=>?_⟩;by_cases ht:x=top
  ·have hd:deF l s top=true:=yCx.2 ⟨x,hmem,by simpa using ht⟩;rw[hd];refine WW ?_;exact zJ
  ·(refine WW ?_)
   refine⟨rfl,λz hz=>?_⟩;rw[yD8,hx]at hz;simp only[yG2,yBy,yCf]at hz
   rcases hz with hz|rfl
   ·exact hI z hz
   ·exact ht
 ·rw[yBe,yBj]at hI;have hd:deF l s top=false:=yD4.2 λx hx=>by simpa using hI x hx
  rw[hd];refine WW ?_;exact zJ
def zFq (l:List Tk) (now:Int) (j:Nat):Tk:=if(YM l 8 j).any (λa=>exF (l.getD a.toNat default) now)=true then frT else l.getD j default
def RG (l:List Tk) (now:Int) (s:Nat):List Tk:=(List.range l.length).map λj=>if j<s then zFq l now j else l.getD j default
def MH (l:List Tk) (now:Int):List Tk:=(List.range l.length).map (zFq l now)
def IT (l:List Tk) (now:Int) (s:Nat):(RG l now s).length=l.length:=by simp[RG]
def zK7 (l:List Tk) (now:Int):RG l now 0=l:=by
 unfold RG;apply yCs;intro j;rw[yBh];by_cases h:j<l.length
 ·rw[yCe h];simp[List.getD,h]
 ·rw[yB6 wU,yB6 zB];rfl
def zQk (l:List Tk) (now:Int):RG l now l.length=MH l now:=by
 unfold RG MH;apply yEt;intro j hj;rw[yBz]at hj;rw[yBd hj]
def zK8 (l:List Tk) (now:Int) (s:Nat) (h:s<l.length):(RG l now s)[s]? =some (l.getD s default):=by
 unfold RG;rw[yBh,yCe h];simp
def zK9 (l:List Tk) (now:Int) (s:Nat):RG l now (s+1)=(RG l now s).set s (zFq l now s):=by
 unfold RG;apply yCs;intro j;rw[yDe,yBh,yBh];by_cases h:j<l.length
 ·rw[yCe h];by_cases hs:s=j
  ·subst hs;simp[h]
  ·rw[yBc hs];by_cases hj:j<s
   ·simp[hj,show j<s+1 by omega]
   ·simp[hj,show¬j<s+1 by omega]
 ·rw[yB6 wU]
  split<;>simp;omega
theorem zLa (l:List Tk) (hb:FJ l) (now:Int):zO 174 [zD xB l,iA now] [] (zD xB (MH l now)) []:=by
 have c:=XH l hb;have hn:=hb.n;have hll:=zA xB l;refine eM call174 λF hF=>?_
 refine zW c ?_;refine zN ((l.map xB).length) [1001,2,3,5] [2,3,5] [2,3,5,11,18] [12,2,3,5,11,18] Z (λi T U=>⟨(12,iA i)::T,(1001,.arr 6 ((RG l now i).map xB) false)::U⟩) ?_;(conv=>whnf);refine⟨by(rw[zK7];rfl),?_,?_⟩
 ·intro i hi;have hi':i<l.length:=by omega
  have c1:=zTf l i;unfold zK4 at c1;have hy:((RG l now i).map xB)[i]? =some (xB (l.getD i default)):=by rw[yBh,zK8 l now i hi'];rfl
  have es:=zK9 l now i;have hif:=zBc;have hrl:i<((RG l now i).map xB).length:=by rw[yBe,IT];exact hi'
  refine zW c1 ?_
  refine uH hF (zK5 l i) Z [2,3,5,6,1001] [2,3,5,6,11,12] Z Z Z Z Z Z Z Z Z (λk ys h=>?_) (λ_=>[(2,.box [zD xB l]),(3,.box [iA now]),(5,.box [.ref 1001 0 (l.map xB).length]),(6,.box [iA i]),(1001,.arr 6 ((RG l now i).map xB) false)]) (λk=>∀x∈(YM l 8 i).take k,exF (l.getD x.toNat default) now=false)
   (T:=[(2,.ptr 2 0 0),(3,.ptr 3 0 0),(5,.ptr 5 0 0),(6,.ptr 6 0 0),(11,iA (l.map xB).length),(12,iA i)]) Z zQ (λk ys y hys hI F1 h1 h2=>?_) (λhI=>?_)
  ·rw[yBh,yBs]at h;obtain⟨x,_,rfl⟩:=h;rfl
  ·rw[yBh,yBs]at hys;obtain⟨x,hx,rfl⟩:=hys
   show vO _ F1 _ _ ⟨[(18,iA x),(2,.ptr 2 0 0),(3,.ptr 3 0 0),(5,.ptr 5 0 0),(6,.ptr 6 0 0),(11,iA (l.map xB).length),(12,iA i)],[(2,.box [zD xB l]),(3,.box [iA now]),(5,.box [.ref 1001 0 (l.map xB).length]),(6,.box [iA i]),(1001,.arr 6 ((RG l now i).map xB) false)]⟩ _
   have hmem:x∈YM l 8 i:=yCz hx;obtain⟨b1,b2⟩:=XD (zK3 _ _ _ hmem);have hy2:=yL xB l x b1 b2;have ce:=LX (l.getD x.toNat default) now;refine WW ?_;refine⟨rfl,λF2 g1 g2=>?_⟩
   cases he:exF (l.getD x.toNat default) now<;>rw[he]at ce
   ·(refine zW ce ?_)
    refine⟨rfl,λz hz=>?_⟩;rw[yD8,hx]at hz;simp only[yG2,yBy,yCf]at hz
    rcases hz with hz|rfl
    ·exact hI z hz
    ·exact he
   ·have e2:(RG l now (i+1)).map xB=((RG l now i).map xB).set i (xB frT):=by
     rw[es,zFq,yBd (yCx.2 ⟨x,hmem,he⟩),yDa]
    generalize (RG l now i).map xB=xs at *;generalize (RG l now (i+1)).map xB=ys at *;subst e2;refine yS (vH ce hif) ?_;rfl
  ·rw[yBe,yBj]at hI
   have e2:(RG l now (i+1)).map xB=(RG l now i).map xB:=by
    rw[es,zFq,yBc (by simpa using hI)]
    congr 1
    have:=zK8 l now i hi';rw[yB0]at this;obtain⟨h,e⟩:=this;rw[<-e,yGq]
   generalize (RG l now i).map xB=xs at *;generalize (RG l now (i+1)).map xB=ys at *;subst e2;refine WW ?_;rfl
 ·have hl2:(l.map xB).length=((RG l now l.length).map xB).length:=by simp[IT]
  rw[<-zQk];rw[hll]at *; refine WW ?_;exact zH [] Z Z (yB8 (AV.sl false) (yBo (by simp[IT]))) Z
def tkN (a:Ag):List Tk:=⟨true,a.sec,-1,a.rights,a.cls,0⟩::List.replicate 7 frT
def zT:AV:= .agg [.s (.bool false),.s (.slice none 0 0),.s (.int .i64 0),.s (.int .i64 0),.s (.int .i64 0),.s (.int .i64 0)]
def mkT (i:Nat):List AV:=List.replicate i (xB frT)++List.replicate (8-i) zT
def zV6 (i:Nat) (h:i<8):(mkT i)[i]? =some zT:=by
 unfold mkT;rw[yB9 zQ];simp[show 0<8-i by omega]
def zQl (i:Nat) (h:i<8):(mkT i).set i (xB frT)=mkT (i+1):=by
 unfold mkT;rw[show 8-i=(8-(i+1))+1 by omega,yE5 (n:=8-(i+1)),yEa _ _ zQ,yCw,yDh,yFx,yF9 (n:=i),yCa];rfl
def zV7 (a:Ag) (hs:a.sec.length<=1000000):zO 124 [vB a] [] (zD xB (tkN a)) []:=by
 have cf:=zBc;have cs:=wX a.sec zB;obtain⟨N,hN⟩:∃N:Nat,N=8:=⟨8,rfl⟩;refine eM call124 λF hF=>?_
 refine WW ?_;refine zN (N) [5,1] [1] [1] [8,7,3,1] Z (λi T U=>⟨(8,iA i)::(7,iA N)::(3,.ref 5 0 N)::T,(5,.arr 6 (mkT i) false)::U⟩) ?_;(conv=>whnf);refine⟨by(rw[hN];rfl),?_,?_⟩
 ·intro i hi;have hy:=zV6 i zB;have e:=zQl i zB;have hln:(mkT i).length=8:=by unfold mkT;simp;omega
  generalize mkT i=xs at *;generalize mkT (i+1)=ys at *;subst e;unfold zT at hy;refine zW cf ?_;rfl
 ·rw[show mkT N=mkT 8 by rw[hN]];have hy:(mkT 8)[0]? =some (xB frT):=rfl;have e8:(mkT 8).set 0 (xB ⟨true,a.sec,-1,a.rights,a.cls,0⟩)=(tkN a).map xB:=rfl;have hln:(mkT 8).length=8:=rfl;generalize mkT 8=xs at *;unfold xB at hy;refine zW cs ?_;exact zH [] Z Z (yB8 (AV.sl false) ((yBo wU).trans e8)) Z
def DY (n:Int) (a:Ag):Rg:=⟨n,a,tkN a,[],⟨a.burst,a.rate,a.burst⟩⟩
def zV8 (n:Int) (a:Ag) (hs:a.sec.length<=1000000) (hl:a.lim.length<=1000000):zO 92 [iA n,vB a] [] (uZ (DY n a)) []:=by
 have c1:=CO a hs hl;have c2:=zV7 a hs;have c3:=zWj a.rate a.burst;unfold DY;generalize tkN a=tk at *;refine eM call92 λF hF=>?_
 refine yS (gW c1 c2 c3) ?_;exact zJ
def aV (g s:Int) (l:List Int) (hl:l.length<=1000000) (g0:0<=g) (g1:g<256) (s0:0<=s) (s1:s<256):zO 51 [iA g,iA s,zD yA l] [] (zD yA (g::s::l)) []:=by
 have hll:=zA yA l;refine eM call51 λF hF=>?_
 refine WW ?_;exact zH [] Z Z (yB8 (AV.sl false) (yBo zQ)) Z
def zV9 (a b:List Int):zO 233 [zD yA a,zD yA b] [] (bA (eqY a b)) []:=by
 refine eM call233 λF hF=>?_
 refine WW ?_;exact zJ
def zQm (l:List Tk) (b:List Int):Tk:=l.getD (b.getD 1 default).toNat default
def ckB (l:List Tk) (g:Int) (b:List Int) (k now:Int):Bool:=decide ((b.length:Int)=10/\b.getD 0 default=g)&&fN l (b.getD 1 default)&&(eqY (b.drop 2) (zQm l b).sec&& !exF (zQm l b) now&&peF (zQm l b).rights k)
def zQn (l:List Tk) (g:Int) (b:List Int) (k now:Int) (hb:BY b):zO 218 [zD xB l,iA g,zD yA b,iA k,iA now] [] (.tup [iA (if ckB l g b k now=true then b.getD 1 default else 0),iA (if ckB l g b k now=true then 0 else 9)]) []:=by
 have hll:=zA yA b;have hlt:=zA xB l;by_cases h1:(b.length:Int)=10
 case neg=>
  have e:ckB l g b k now=false:=by unfold ckB;rw[yBm (λh=>h1 h.1)];rfl
  rw[e];refine eM call218 λF hF=>?_
  refine WW ?_;exact zJ
 have hy0:=yL yA b 0 zB zB;have hy1:=yL yA b 1 zB zB;have b0:0<=b.getD 0 default/\b.getD 0 default<256:=hb _ zTm;have b1:0<=b.getD 1 default/\b.getD 1 default<256:=hb _ zTm
 change (b.map yA)[0]? =some (yA (b.getD 0 default))at hy0
 change (b.map yA)[1]? =some (yA (b.getD 1 default))at hy1
 unfold ckB zQm;generalize b.getD 0 default=x0 at *;generalize b.getD 1 default=x1 at *;by_cases h2:x0=g
 case neg=>
  rw[yBm (λh=>h2 h.2)];refine eM call218 λF hF=>?_
  refine WW ?_;exact zJ
 rw[yBk ⟨h1,h2⟩];have cu:=zBb l x1;cases hu:fN l x1
 ·rw[hu]at cu;refine eM call218 λF hF=>?_
  refine zW cu ?_;exact zJ
 rw[hu]at cu;obtain⟨u0,u1⟩:=XD hu;have hyt:=yL xB l x1 u0 u1;generalize l.getD x1.toNat default=t at *;have ce:=zV9 (b.drop 2) t.sec;have cx:=LX t now;have cp:=zFv t.rights k;generalize eqY (b.drop 2) t.sec=q1 at *;generalize exF t now=q2 at *;generalize peF t.rights k=q3 at*
 cases q1<;>cases q2<;>cases q3<;>((refine eM call218 λF hF=>?_);(refine yS (bY cu ce cx cp) ?_);exact zJ)
def rgZ:Rg:=⟨0,⟨[],0,0,[],0,0,0,0⟩,[],[],⟨0,0,0⟩⟩
def LV (k:Int):Bool:=decide (2<=k/\k<=8)
def opE (r:Rg) (m:Ms) (now:Int):Int:=if ckB r.tk r.num m.tok m.kind now=true then(if LV m.kind=true/\r.bk.level<=0 then 13 else 0)else 9
def opR (r:Rg) (m:Ms) (now:Int):Rg:=if opE r m now=0 then(if LV m.kind=true then⟨r.num,r.ag,r.tk,r.vh,CM r.bk⟩else r)else rgZ
def opS (r:Rg) (m:Ms) (now:Int):Int:=if opE r m now=0 then m.tok.getD 1 default else 0
def zWa (r:Rg) (m:Ms) (now:Int) (hr:CP r) (hm:BY m.tok) (hl:r.bk.level<=1000000):zO 200 [uZ r,yB m,iA now] [] (.tup [uZ (opR r m now),iA (opS r m now),iA (opE r m now)]) []:=by
 have c1:=zQn r.tk r.num m.tok m.kind now hm;have c2:=eV r hr;have c3:=zQ1 r.bk zB;unfold opR opS opE
 cases hc1:ckB r.tk r.num m.tok m.kind now<;>rw[hc1]at c1
 ·(refine eM call200 λF hF=>?_)
  refine zW c1 ?_;exact zJ
 ·generalize m.tok.getD 1 default=slot at *;cases hk:LV m.kind
  ·have hk':¬(2<=m.kind/\m.kind<=8):=of_decide_eq_false hk;refine eM call200 λF hF=>?_
   refine yS (vH c1 c2) (I2 (λhc=>?_) λhc=>?_)
   all_goals (first|exact zXO|exact zJ)
  ·have hk':2<=m.kind/\m.kind<=8:=yFh hk;by_cases hv:r.bk.level<=0
   ·rw[yBm zB]at c3;simp only[hv,and_self,yGb];refine eM call200 λF hF=>?_
    refine yS (gW c1 c2 c3) ?_;exact zJ
   ·rw[yBk zB]at c3;simp only[hv,yHg,yGo,yGb];generalize hb:CM r.bk=b2 at *;refine eM call200 λF hF=>?_
    refine yS (gW c1 c2 c3) ?_;exact zJ
def rtF (r:Rg) (now:Int):Rg:=⟨r.num,r.ag,MH r.tk now,r.vh,btF r.bk⟩
def zQo (r:Rg) (now:Int) (hr:CP r) (hl: -1000000<=r.bk.level+r.bk.rate/\r.bk.level+r.bk.rate<=1000000):zO 130 [uZ r,iA now] [] (uZ (rtF r now)) []:=by
 have c1:=eV r hr;have c2:=zLa r.tk hr.tk now;have c3:=zQ0 r.bk zB;unfold rtF;generalize MH r.tk now=tk at *;generalize btF r.bk=bk at *;refine eM call130 λF hF=>?_
 refine yS (gW c1 c2 c3) ?_;exact zJ
def zA7 (l:List Tk) (hb:FJ l):yU [zD xB l] [] (.ref 1001 0 (l.map xB).length) [(1001,.arr 6 (l.map xB) false)]:=yF
def QF (r:Rg) (hb:CP r):yU [uZ r] [] (uZ r) []:=yF
end Av
end Go.Proofs.YteajjdidebfcjaaGreat
