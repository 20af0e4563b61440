/- Part 14. -/
import Derived.Test.YteajjdidebfcjaaGreatR13
namespace Go.Proofs.YteajjdidebfcjaaGreat
namespace Av
open Tryz
set_option linter.all false
set_option maxRecDepth 4000
set_option maxHeartbeats 4000000
def wnA (p:Int×Int):AV:= .agg [iA p.1,iA p.2]
def nwL (now:Int) (g:Lg) (p:Int×Int):Lg:=⟨g.jn,g.ph,now+p.1,now+p.2,g.sc⟩
def okW (now:Int) (g:Lg) (p:Int×Int):Bool:=mwB g.jn g.ph p.1 p.2 now
def ET (gs:List Lg) (w:List (Int×Int)) (now:Int):Bool:=(gs.zipWith (okW now) w).all id
def cI (l:List Rq) (id:Int) (w:List (Int×Int)) (now:Int):Int:=
 if jQ l id=true then(if w.length=(fdQ l id).legs.length/\ET (fdQ l id).legs w now=true then 0 else 8)else 12
def NQ (l:List Rq) (id:Int) (w:List (Int×Int)) (now:Int):List Rq:=l.map λr=>if r.id=id then⟨r.id,r.vh,r.cls,r.til,r.legs.zipWith (nwL now) w⟩else r
def BV (gs:List Lg) (w:List (Int×Int)) (now:Int) (i:Nat):List Lg:=(gs.take i).zipWith (nwL now) (w.take i)++gs.drop i
def zC4 {gs:List Lg} {w:List (Int×Int)} {now:Int} {i:Nat} (h:w.length=gs.length) (hi:i<=gs.length):(BV gs w now i).length=gs.length:=by
 unfold BV;rw[yAd,yEi,yA3,yA3,yBh];omega
def zVc {gs:List Lg} {w:List (Int×Int)} {now:Int} {i:Nat} (h:w.length=gs.length) (hi:i<gs.length):((BV gs w now i).map xP)[i]? =some (xP (gs.getD i default)):=by
 unfold BV;have e:((gs.take i).zipWith (nwL now) (w.take i)).length=i:=by rw[yEi,yA3,yA3];omega
 rw[yAa,yA1 zB,e,yB9,yCf];simp[List.getD,hi]
def zPe {gs:List Lg} {w:List (Int×Int)} {now:Int} {i:Nat} (h:w.length=gs.length) (hi:i<gs.length):((BV gs w now i).map xP).set i (xP (nwL now (gs.getD i default) (w.getD i default)))=(BV gs w now (i+1)).map xP:=by
 unfold BV;have e:((gs.take i).zipWith (nwL now) (w.take i)).length=i:=by rw[yEi,yA3,yA3];omega
 rw[<-yB4,yC4 _ _ zB,e,yB9,yCr hi,yEn];rw[yC2,yC2,List.zipWith_append (by rw[yA3,yA3];omega)];rw[yAn hi,yAn zB];simp[List.getD,hi,show i<w.length by omega]
def zYk (gs:List Lg) (w:List (Int×Int)) (now:Int):BV gs w now 0=gs:=by simp[BV]
def zPf {gs:List Lg} {w:List (Int×Int)} {now:Int} (h:w.length=gs.length):BV gs w now gs.length=gs.zipWith (nwL now) w:=by
 unfold BV;rw[yAf,<-h,yAf,h,yEd,yBc]
def zPg {gs:List Lg} {w:List (Int×Int)} {now:Int} (h:w.length=gs.length) (ha:∀i,i<gs.length->okW now (gs.getD i default) (w.getD i default)=true):ET gs w now=true:=by
 unfold ET;rw[yAm];intro b hb;obtain⟨i,hi,rfl⟩:=yDe.1 hb;rw[yEi]at hi;have:=ha i zB;rw[List.getElem_zipWith];simpa [List.getD,show i<gs.length by omega,show i<w.length by omega]using this
def zVd {gs:List Lg} {w:List (Int×Int)} {now:Int} {i:Nat} (h:w.length=gs.length) (hi:i<gs.length) (ha:okW now (gs.getD i default) (w.getD i default)=false):ET gs w now=false:=by
 unfold ET;rw[yC1];refine⟨okW now (gs.getD i default) (w.getD i default),?_,by rw[ha];decide⟩
 have:(gs.zipWith (okW now) w)[i]? =some (okW now (gs.getD i default) (w.getD i default)):=by
  rw[List.getElem?_zipWith,yAn hi,yAn zB];simp[List.getD,hi,show i<w.length by omega]
 exact yBx this
def zC5 {l pre post:List Rq} {x:Rq} {id:Int} {w:List (Int×Int)} {now:Int} (hL:l=pre++x::post) (hv:bJ l) (hx:x.id=id):NQ l id w now=pre++⟨x.id,x.vh,x.cls,x.til,x.legs.zipWith (nwL now) w⟩::post:=by
 have hs:=hv.so;rw[hL,yEa,yEm]at hs;obtain⟨_,⟨h2,_⟩,h3⟩:=hs;unfold NQ;rw[hL,yAi,yBb,zZ8 hx]
 congr 1
 ·conv=>rhs;rw[<-List.map_id pre]
  refine yDk λy hy=>?_
  have:=h3 y hy x zU;rw[zZ7 zB];rfl
 ·congr 1
  conv=>rhs;rw[<-List.map_id post]
  refine yDk λy hy=>?_
  have:=h2 y hy;rw[zZ7 zB];rfl
def zPh {h:yC} {pre post:List Rq} {x:Rq} {b:Bool} {gs:List Lg} (h1:h 1001=some (.arr 5 (bH pre x post 1101) ⟨b,true⟩)) (h2:h 1101=some (.arr 5 (gs.map xP) false)) (hl:gs.length=x.legs.length):
  wD [] h (.ref 1001 0 (bH pre x post 1101).length)=zD yG (pre++⟨x.id,x.vh,x.cls,x.til,gs⟩::post):=by
 have e:wH [] h (bH pre x post 1101)=(pre++⟨x.id,x.vh,x.cls,x.til,gs⟩::post).map yG:=by
  unfold bH;rw[UQ,PK,wH,PK,yAi,yBb]
  congr 1
  congr 1
  show AV.agg [iA x.id,iA x.vh,iA x.cls,iA x.til,uT [] h (.ref 1101 0 (x.legs.map xP).length)]=_
  have e2:uT [] h (.ref 1101 0 (x.legs.map xP).length)=zD xP gs:=by
   simp only[uT,h2]
   show AV.sl false (((gs.map xP).drop 0).take (x.legs.map xP).length)=_
   rw[yA9,zZ9,yAj (by rw[zZ9,hl];exact yAb _)];rfl
  rw[e2];rfl
 have hl2:(bH pre x post 1101).length=((pre++⟨x.id,x.vh,x.cls,x.til,gs⟩::post).map yG).length:=by rw[aV];simp;omega
 rw[hl2];simp only[wD,h1]
 show(bif xY (wH [] h (bH pre x post 1101))then AV.sl false (((wH [] h (bH pre x post 1101)).drop 0).take _)else .bot)=_
 rw[e,UR,yA9,yAf];rfl
def LD {l:List Rq} {id:Int} (h:jQ l id=true):∃pre x post,l=pre++x::post/\x.id=id/\(∀y∈pre,y.id≠id)/\fdQ l id=x/\YS (λr:Rq=>r.id==id) l=(pre.length:Int):=by
 induction l with
 |nil=>cases h
 | cons a l ih=>
  by_cases ha:a.id=id
  ·refine⟨[],a,l,rfl,ha,by simp,(zC7 (pre:=[]) Z zU ha).1,WF (pre:=[]) Z zU (by simpa using ha)⟩
  ·have h2:jQ l id=true:=by simpa [jQ,ha]using h
   obtain⟨pre,x,post,e1,e2,e3,_,_⟩:=ih h2
   have hp:∀y∈a::pre,y.id≠id:=λy hy=>by
    rcases yBd.1 hy with rfl|hy
    ·exact ha
    ·exact e3 y hy
   have e:a::l=(a::pre)++x::post:=by rw[e1];rfl
   exact⟨a::pre,x,post,e,e2,hp,(zC7 e hp e2).1,WF e (λy hy=>by simpa using hp y hy) (by simpa using e2)⟩
theorem zKm (l:List Rq) (id:Int) (w:List (Int×Int)) (now:Int) (hv:bJ l) (hw:w.length<=1000) (n0:0<=now) (n1:now<=1073741824):
  zN 223 [zD yG l,iA id,zD wnA w,iA now] [] (.tup [zD yG (if cI l id w now=0 then NQ l id w now else []),iA (cI l id w now)]) []:=by
 have h4:=hv.n4;have hlw:=zA wnA w;have c1:=WN l 4 hv zB;have c2:=zDc now;have c3:=PI l id zB;rw[yAe ⟨n0,n1⟩]at c2
 cases hh:jQ l id with
 |false=>
  have hx:=aD (p:=λx:Rq=>x.id==id) (l:=l) (by simpa [jQ]using hh);rw[hx]at c3;have e:cI l id w now=12:=zZ7 (by rw[hh];decide);rw[e,zZ7 xG];refine eM call223 λF hF=>?_
  refine yR (gK c1 c2 c3) ?_;exact zJ
 |true=>
 obtain⟨pre,x,post,hL,hx,_,hf,hix⟩:=LD hh;rw[hix]at c3;have hup:=zC5 (w:=w) (now:=now) hL hv hx
 have e0:cI l id w now=if w.length=x.legs.length/\ET x.legs w now=true then 0 else 8:=by unfold cI;rw[zZ8 hh,hf]
 have hlen:l.length=pre.length+1+post.length:=by rw[hL];simp;omega
 have hxl:=hv.lg3 (r:=x) (by rw[hL];simp);have c4:=DD pre x post l hL zB (λr hr=>by have:=hv.lg3 hr;omega);have hcl:=aV pre x post 1101;have hfr:=λh=>WM h pre x post true
 have hat:(bH pre x post 1101)[((pre.length:Int)).toNat]? =some (uW x 1101):=by unfold bH;simp
 have hfin:=λh gs=>zPh (h:=h) (pre:=pre) (post:=post) (x:=x) (b:=true) (gs:=gs)
 have hlx:=zA xP x.legs;generalize bH pre x post 1101=cs at *;clear hL hv hix hf hh hx;by_cases hwl:w.length=x.legs.length
 case neg=>
  rw[zZ7 (λh=>hwl h.1)]at e0;rw[e0,zZ7 xG];refine eM call223 λF hF=>?_
  refine yR (ZK c1 c2 c3 c4) ?_;exact zJ
 refine eM call223 λF hF=>?_
 refine yR (ZK c1 c2 c3 c4) ?_;refine wT (λn st=>∃i,n+i=x.legs.length/\(∀j,j<i->okW now (x.legs.getD j default) (w.getD j default)=true)/\st=(⟨[(44,iA i),(3,iA now),(11,.ref 1001 0 cs.length),(12,.ref 1101 0 (x.legs.map xP).length),(42,zD wnA w),(43,iA (w.map wnA).length)],[(1001,.arr 5 cs ⟨true,true⟩),(1101,.arr 5 ((BV x.legs w now i).map xP) false)]⟩:St)) x.legs.length [1001,1101] [44,3,11,12,42,43] Z ⟨0,zB,λj hj=>absurd hj (yCj _),?_⟩ ?_
 ·rw[zYk];refine yA6 (St.mk _) ?_
  show [(1001,qK [1001,1101] _ (.arr 5 cs ⟨true,true⟩)),(1101,gQ x)]=_
  rw[hfr];rfl
 rintro n st ⟨i,hi,hok,rfl⟩;by_cases hil:i<x.legs.length
 ·have hul:=zC4 (i:=i) (now:=now) hwl zB;have hlu:=zA xP (BV x.legs w now i);have hy2:=zM wnA w i zB;have hy:=zVc (now:=now) hwl hil;have hst:=zPe (now:=now) hwl hil;have c5:=zC9 (x.legs.getD i default).jn (x.legs.getD i default).ph (w.getD i default).1 (w.getD i default).2 now
  cases hb:okW now (x.legs.getD i default) (w.getD i default)with
  |false=>
   have hno:=zVd hwl hil hb;rw[zZ7 (λh=>by rw[hno]at h;cases h.2)]at e0;rw[e0,zZ7 xG];unfold okW at hb;unfold mwF at c5;rw[hb,zZ7 yAs,zZ7 yAs]at c5;clear hok hfin hup hno hst;generalize x.legs.getD i default=g at *;generalize w.getD i default=q at *;generalize (BV x.legs w now i).map xP=ys at *;refine zV c5 ?_;exact zJ
  | true=>
   have hok2:∀j,j<i+1->okW now (x.legs.getD j default) (w.getD j default)=true:=λj hj=>by
    by_cases hji:j=i
    ·rw[hji];exact hb
    ·exact hok j zB
   unfold okW at hb;unfold mwF at c5;rw[hb,zZ8 Z,zZ8 Z]at c5;have hset:∀y:AV,(((BV x.legs w now i).map xP).set i y)[i]? =some y:=λy=>yBq zB
   clear hok hfin hup e0 hb;generalize x.legs.getD i default=g at *;generalize w.getD i default=q at *;generalize (BV x.legs w now i).map xP=ys at*
   (have zc1:=c5;(repeat' (first|refine WTR ?_|((first|apply xM|apply wA)<;>intro hc)|(refine zE ?_;first|(refine XB ?_;refine zA8 tok Z Z Z (hset _) Z Z Z Z Z Z Z Z ?_)|refine SM ?_)|refine SB ?_|fail))<;>clear zc1)
   refine⟨n-1,zB,i+1,zB,hok2,?_⟩;refine yA6 (St.mk _) ?_
   show [(1001,qK [1001,1101] _ (.arr 5 cs ⟨true,true⟩)),(1101,.arr 5 ((ys.set i _).set i (xP (nwL now g q))) false)]=_
   rw[hfr,yEe,hst]
 ·obtain rfl:i=x.legs.length:=by omega
  have hul:=zC4 (i:=x.legs.length) (now:=now) hwl (yAb _);have hyes:=zPg hwl hok;rw[zZ8 ⟨hwl,hyes⟩]at e0;rw[e0,zZ8 Z,hup];rw[zPf hwl]at hul⊢;generalize x.legs.zipWith (nwL now) w=gs at *;refine WW ?_;refine zK [] Z Z ?_ Z
  show AV.tup [XC (wD [] _ (.ref 1001 0 cs.length)),iA 0]=_
  rw[hfin _ gs Z Z hul];rfl
def mkR (now:Int) (r:Rq):Rq:=⟨r.id,r.vh,r.cls,r.til,r.legs.map λg=>bD g now⟩
def EU (l:List Rq) (now:Int):List Rq:=l.map (mkR now)
def fF (l:List Lg) (now:Int) (k:Nat):List Lg:=(l.take k).map (λg=>bD g now)++l.drop k
def RN (l:List Lg) (now:Int):fF l now l.length=l.map λg=>bD g now:=by simp[fF]
def gE (l:List Lg) (now:Int) (k:Nat):(fF l now k).length=l.length:=by simp[fF];omega
def dF {l pre post:List Lg} {g:Lg} {k:Nat} (now:Int) (hx:l=pre++g::post) (hk:pre.length=k):((fF l now k).map xP)[k]? =some (xP g):=by
 subst hx hk;simp[fF]
def gF {l pre post:List Lg} {g:Lg} {k:Nat} (now:Int) (hx:l=pre++g::post) (hk:pre.length=k):(fF l now (k+1)).map xP=((fF l now k).map xP).set k (xP (bD g now)):=by
 subst hx hk;have e1:(pre++g::post).take (pre.length+1)=pre++[g]:=by rw[List.take_append,yAj zB];simp
 have e2:(pre++g::post).drop (pre.length+1)=post:=by rw[List.drop_append];simp
 have e3:(pre++g::post).take pre.length=pre:=by simp
 have e4:(pre++g::post).drop pre.length=g::post:=by simp
 unfold fF;rw[e1,e2,e3,e4];simp
def tkM (l:List Lg) (now:Int):List.take (l.map xP).length (List.drop 0 ((l.map λg=>bD g now).map xP))=(l.map λg=>bD g now).map xP:=by
 rw[yA9];exact yAj zU
def gG (r:Rq) (now:Int) (k:Nat):xN:= .arr 5 ((fF r.legs now k).map xP) false
def zPi (a:Rq) (ha:1<=a.legs.length) (ga:a.legs.length<=1000) (now:Int):zN 129 [zD yG [a],iA now] [] (zD yG (EU [a] now)) []:=by
 have kc:=EZ a ha ga;have la:=zA xP a.legs;refine eM call129 λF hF=>?_
 refine zV kc ?_;refine uK 2 [1001,1101] [13,11,12,1,5] Z ?_;refine yU (st0:=⟨[(13,iA 0),(11,.ref 1001 0 1),(12,iA 1),(1,iA now),(5,.ref 1001 0 1)],[(1001,.arr 5 [uW a 1101] ⟨false,true⟩),(1101,gG a now 0)]⟩) Z ?_;unfold gG;refine WW ?_;refine yL (a.legs) [1101,7,1001] [7,1001] [1,5,7,11,12,13,19] [20,1,5,7,11,12,13,19] Z (λi pre T U=>⟨(20,iA i)::T,(1101,.arr 5 ((fF a.legs now i).map xP) false)::U⟩) ?_;(conv=>whnf);refine⟨by rfl,?_,?_⟩
 ·intro k pre g post hx hk;have hlt:=yN hx hk;have hy:=dF now hx hk;have hs:=gF now hx hk;have hyl:((fF a.legs now k).map xP).length=a.legs.length:=by rw[zZ9,gE]
  have hset:∀y:AV,(((fF a.legs now k).map xP).set k y)[k]? =some y:=λy=>yBq zB
  have cw:=gH g now;rw[hs];clear hx hs;generalize (fF a.legs now k).map xP=ys at *;generalize bD g now=g2 at*
  (have zc1:=cw;(repeat' (first|refine uL ?_|((first|apply xM|apply wA)<;>intro hc)|fail))<;>clear zc1)
  rfl
 refine WW ?_;refine yU (st0:=⟨[(13,iA 1),(11,.ref 1001 0 1),(12,iA 1),(1,iA now),(5,.ref 1001 0 1)],[(1001,.arr 5 [uW a 1101] ⟨false,true⟩),(1101,gG a now a.legs.length)]⟩) Z ?_;unfold gG;simp only[RN];refine WW ?_;refine zK [] Z Z ?_ Z
 show AV.sl false [.agg [iA a.id,iA a.vh,iA a.cls,iA a.til,.sl false (List.take (a.legs.map xP).length (List.drop 0 ((a.legs.map λg=>bD g now).map xP)))]]=_
 simp only[tkM];rfl
theorem zPj (a b:Rq) (ha:1<=a.legs.length) (ga:a.legs.length<=1000) (hb:1<=b.legs.length) (gb:b.legs.length<=1000) (now:Int):zN 129 [zD yG [a,b],iA now] [] (zD yG (EU [a,b] now)) []:=by
 have kc:=DA a b ha ga hb gb;have la:=zA xP a.legs;have lb:=zA xP b.legs;refine eM call129 λF hF=>?_
 refine zV kc ?_;refine uK 3 [1001,1101,1102] [13,11,12,1,5] Z ?_;refine yU (st0:=⟨[(13,iA 0),(11,.ref 1001 0 2),(12,iA 2),(1,iA now),(5,.ref 1001 0 2)],[(1001,.arr 5 [uW a 1101,uW b 1102] ⟨true,true⟩),(1101,gG a now 0),(1102,gG b now 0)]⟩) Z ?_;unfold gG;refine WW ?_;refine yL (a.legs) [1101,7,1001,1102] [7,1001,1102] [1,5,7,11,12,13,19] [20,1,5,7,11,12,13,19] Z (λi pre T U=>⟨(20,iA i)::T,(1101,.arr 5 ((fF a.legs now i).map xP) false)::U⟩) ?_;(conv=>whnf);refine⟨by rfl,?_,?_⟩
 ·intro k pre g post hx hk;have hlt:=yN hx hk;have hy:=dF now hx hk;have hs:=gF now hx hk;have hyl:((fF a.legs now k).map xP).length=a.legs.length:=by rw[zZ9,gE]
  have hset:∀y:AV,(((fF a.legs now k).map xP).set k y)[k]? =some y:=λy=>yBq zB
  have cw:=gH g now;rw[hs];clear hx hs;generalize (fF a.legs now k).map xP=ys at *;generalize bD g now=g2 at*
  (have zc1:=cw;(repeat' (first|refine uL ?_|((first|apply xM|apply wA)<;>intro hc)|fail))<;>clear zc1)
  rfl
 refine WW ?_;refine yU (st0:=⟨[(13,iA 1),(11,.ref 1001 0 2),(12,iA 2),(1,iA now),(5,.ref 1001 0 2)],[(1001,.arr 5 [uW a 1101,uW b 1102] ⟨true,true⟩),(1101,gG a now a.legs.length),(1102,gG b now 0)]⟩) Z ?_;unfold gG;refine WW ?_;refine yL (b.legs) [1102,7,1001,1101] [7,1001,1101] [1,5,7,11,12,13,19] [20,1,5,7,11,12,13,19] Z (λi pre T U=>⟨(20,iA i)::T,(1102,.arr 5 ((fF b.legs now i).map xP) false)::U⟩) ?_;(conv=>whnf);refine⟨by rfl,?_,?_⟩
 ·intro k pre g post hx hk;have hlt:=yN hx hk;have hy:=dF now hx hk;have hs:=gF now hx hk;have hyl:((fF b.legs now k).map xP).length=b.legs.length:=by rw[zZ9,gE]
  have hset:∀y:AV,(((fF b.legs now k).map xP).set k y)[k]? =some y:=λy=>yBq zB
  have cw:=gH g now;rw[hs];clear hx hs;generalize (fF b.legs now k).map xP=ys at *;generalize bD g now=g2 at*
  (have zc1:=cw;(repeat' (first|refine uL ?_|((first|apply xM|apply wA)<;>intro hc)|fail))<;>clear zc1)
  rfl
 refine WW ?_;refine yU (st0:=⟨[(13,iA 2),(11,.ref 1001 0 2),(12,iA 2),(1,iA now),(5,.ref 1001 0 2)],[(1001,.arr 5 [uW a 1101,uW b 1102] ⟨true,true⟩),(1101,gG a now a.legs.length),(1102,gG b now b.legs.length)]⟩) Z ?_;unfold gG;simp only[RN];refine WW ?_;refine zK [] Z Z ?_ Z
 show AV.sl false [.agg [iA a.id,iA a.vh,iA a.cls,iA a.til,.sl false (List.take (a.legs.map xP).length (List.drop 0 ((a.legs.map λg=>bD g now).map xP)))],.agg [iA b.id,iA b.vh,iA b.cls,iA b.til,.sl false (List.take (b.legs.map xP).length (List.drop 0 ((b.legs.map λg=>bD g now).map xP)))]]=_
 simp only[tkM];rfl
theorem zPk (a b c:Rq) (ha:1<=a.legs.length) (ga:a.legs.length<=1000) (hb:1<=b.legs.length) (gb:b.legs.length<=1000) (hc:1<=c.legs.length) (gc:c.legs.length<=1000) (now:Int):zN 129 [zD yG [a,b,c],iA now] [] (zD yG (EU [a,b,c] now)) []:=by
 have kc:=DB a b c ha ga hb gb hc gc;have la:=zA xP a.legs;have lb:=zA xP b.legs;have lc:=zA xP c.legs;refine eM call129 λF hF=>?_
 refine zV kc ?_;refine uK 4 [1001,1101,1102,1103] [13,11,12,1,5] Z ?_;refine yU (st0:=⟨[(13,iA 0),(11,.ref 1001 0 3),(12,iA 3),(1,iA now),(5,.ref 1001 0 3)],[(1001,.arr 5 [uW a 1101,uW b 1102,uW c 1103] ⟨true,true⟩),(1101,gG a now 0),(1102,gG b now 0),(1103,gG c now 0)]⟩) Z ?_;unfold gG;refine WW ?_;refine yL (a.legs) [1101,7,1001,1102,1103] [7,1001,1102,1103] [1,5,7,11,12,13,19] [20,1,5,7,11,12,13,19] Z (λi pre T U=>⟨(20,iA i)::T,(1101,.arr 5 ((fF a.legs now i).map xP) false)::U⟩) ?_;(conv=>whnf);refine⟨by rfl,?_,?_⟩
 ·intro k pre g post hx hk;have hlt:=yN hx hk;have hy:=dF now hx hk;have hs:=gF now hx hk;have hyl:((fF a.legs now k).map xP).length=a.legs.length:=by rw[zZ9,gE]
  have hset:∀y:AV,(((fF a.legs now k).map xP).set k y)[k]? =some y:=λy=>yBq zB
  have cw:=gH g now;rw[hs];clear hx hs;generalize (fF a.legs now k).map xP=ys at *;generalize bD g now=g2 at*
  (have zc1:=cw;(repeat' (first|refine uL ?_|((first|apply xM|apply wA)<;>intro hc)|fail))<;>clear zc1)
  rfl
 refine WW ?_;refine yU (st0:=⟨[(13,iA 1),(11,.ref 1001 0 3),(12,iA 3),(1,iA now),(5,.ref 1001 0 3)],[(1001,.arr 5 [uW a 1101,uW b 1102,uW c 1103] ⟨true,true⟩),(1101,gG a now a.legs.length),(1102,gG b now 0),(1103,gG c now 0)]⟩) Z ?_;unfold gG;refine WW ?_;refine yL (b.legs) [1102,7,1001,1101,1103] [7,1001,1101,1103] [1,5,7,11,12,13,19] [20,1,5,7,11,12,13,19] Z (λi pre T U=>⟨(20,iA i)::T,(1102,.arr 5 ((fF b.legs now i).map xP) false)::U⟩) ?_;(conv=>whnf);refine⟨by rfl,?_,?_⟩
 ·intro k pre g post hx hk;have hlt:=yN hx hk;have hy:=dF now hx hk;have hs:=gF now hx hk;have hyl:((fF b.legs now k).map xP).length=b.legs.length:=by rw[zZ9,gE]
  have hset:∀y:AV,(((fF b.legs now k).map xP).set k y)[k]? =some y:=λy=>yBq zB
  have cw:=gH g now;rw[hs];clear hx hs;generalize (fF b.legs now k).map xP=ys at *;generalize bD g now=g2 at*
  (have zc1:=cw;(repeat' (first|refine uL ?_|((first|apply xM|apply wA)<;>intro hc)|fail))<;>clear zc1)
  rfl
 refine WW ?_;refine yU (st0:=⟨[(13,iA 2),(11,.ref 1001 0 3),(12,iA 3),(1,iA now),(5,.ref 1001 0 3)],[(1001,.arr 5 [uW a 1101,uW b 1102,uW c 1103] ⟨true,true⟩),(1101,gG a now a.legs.length),(1102,gG b now b.legs.length),(1103,gG c now 0)]⟩) Z ?_;unfold gG;refine WW ?_;refine yL (c.legs) [1103,7,1001,1101,1102] [7,1001,1101,1102] [1,5,7,11,12,13,19] [20,1,5,7,11,12,13,19] Z (λi pre T U=>⟨(20,iA i)::T,(1103,.arr 5 ((fF c.legs now i).map xP) false)::U⟩) ?_;(conv=>whnf);refine⟨by rfl,?_,?_⟩
 ·intro k pre g post hx hk;have hlt:=yN hx hk;have hy:=dF now hx hk;have hs:=gF now hx hk;have hyl:((fF c.legs now k).map xP).length=c.legs.length:=by rw[zZ9,gE]
  have hset:∀y:AV,(((fF c.legs now k).map xP).set k y)[k]? =some y:=λy=>yBq zB
  have cw:=gH g now;rw[hs];clear hx hs;generalize (fF c.legs now k).map xP=ys at *;generalize bD g now=g2 at*
  (have zc1:=cw;(repeat' (first|refine uL ?_|((first|apply xM|apply wA)<;>intro hc)|fail))<;>clear zc1)
  rfl
 refine WW ?_;refine yU (st0:=⟨[(13,iA 3),(11,.ref 1001 0 3),(12,iA 3),(1,iA now),(5,.ref 1001 0 3)],[(1001,.arr 5 [uW a 1101,uW b 1102,uW c 1103] ⟨true,true⟩),(1101,gG a now a.legs.length),(1102,gG b now b.legs.length),(1103,gG c now c.legs.length)]⟩) Z ?_;unfold gG;simp only[RN];refine WW ?_;refine zK [] Z Z ?_ Z
 show AV.sl false [.agg [iA a.id,iA a.vh,iA a.cls,iA a.til,.sl false (List.take (a.legs.map xP).length (List.drop 0 ((a.legs.map λg=>bD g now).map xP)))],.agg [iA b.id,iA b.vh,iA b.cls,iA b.til,.sl false (List.take (b.legs.map xP).length (List.drop 0 ((b.legs.map λg=>bD g now).map xP)))],.agg [iA c.id,iA c.vh,iA c.cls,iA c.til,.sl false (List.take (c.legs.map xP).length (List.drop 0 ((c.legs.map λg=>bD g now).map xP)))]]=_
 simp only[tkM];rfl
theorem zPl (a b c d:Rq) (ha:1<=a.legs.length) (ga:a.legs.length<=1000) (hb:1<=b.legs.length) (gb:b.legs.length<=1000) (hc:1<=c.legs.length) (gc:c.legs.length<=1000) (hd:1<=d.legs.length) (gd:d.legs.length<=1000) (now:Int):zN 129 [zD yG [a,b,c,d],iA now] [] (zD yG (EU [a,b,c,d] now)) []:=by
 have kc:=DC a b c d ha ga hb gb hc gc hd gd;have la:=zA xP a.legs;have lb:=zA xP b.legs;have lc:=zA xP c.legs;have ld:=zA xP d.legs;refine eM call129 λF hF=>?_
 refine zV kc ?_;refine uK 5 [1001,1101,1102,1103,1104] [13,11,12,1,5] Z ?_;refine yU (st0:=⟨[(13,iA 0),(11,.ref 1001 0 4),(12,iA 4),(1,iA now),(5,.ref 1001 0 4)],[(1001,.arr 5 [uW a 1101,uW b 1102,uW c 1103,uW d 1104] ⟨true,true⟩),(1101,gG a now 0),(1102,gG b now 0),(1103,gG c now 0),(1104,gG d now 0)]⟩) Z ?_;unfold gG;refine WW ?_;refine yL (a.legs) [1101,7,1001,1102,1103,1104] [7,1001,1102,1103,1104] [1,5,7,11,12,13,19] [20,1,5,7,11,12,13,19] Z (λi pre T U=>⟨(20,iA i)::T,(1101,.arr 5 ((fF a.legs now i).map xP) false)::U⟩) ?_;(conv=>whnf);refine⟨by rfl,?_,?_⟩
 ·intro k pre g post hx hk;have hlt:=yN hx hk;have hy:=dF now hx hk;have hs:=gF now hx hk;have hyl:((fF a.legs now k).map xP).length=a.legs.length:=by rw[zZ9,gE]
  have hset:∀y:AV,(((fF a.legs now k).map xP).set k y)[k]? =some y:=λy=>yBq zB
  have cw:=gH g now;rw[hs];clear hx hs;generalize (fF a.legs now k).map xP=ys at *;generalize bD g now=g2 at*
  (have zc1:=cw;(repeat' (first|refine uL ?_|((first|apply xM|apply wA)<;>intro hc)|fail))<;>clear zc1)
  rfl
 refine WW ?_;refine yU (st0:=⟨[(13,iA 1),(11,.ref 1001 0 4),(12,iA 4),(1,iA now),(5,.ref 1001 0 4)],[(1001,.arr 5 [uW a 1101,uW b 1102,uW c 1103,uW d 1104] ⟨true,true⟩),(1101,gG a now a.legs.length),(1102,gG b now 0),(1103,gG c now 0),(1104,gG d now 0)]⟩) Z ?_;unfold gG;refine WW ?_;refine yL (b.legs) [1102,7,1001,1101,1103,1104] [7,1001,1101,1103,1104] [1,5,7,11,12,13,19] [20,1,5,7,11,12,13,19] Z (λi pre T U=>⟨(20,iA i)::T,(1102,.arr 5 ((fF b.legs now i).map xP) false)::U⟩) ?_;(conv=>whnf);refine⟨by rfl,?_,?_⟩
 ·intro k pre g post hx hk;have hlt:=yN hx hk;have hy:=dF now hx hk;have hs:=gF now hx hk;have hyl:((fF b.legs now k).map xP).length=b.legs.length:=by rw[zZ9,gE]
  have hset:∀y:AV,(((fF b.legs now k).map xP).set k y)[k]? =some y:=λy=>yBq zB
  have cw:=gH g now;rw[hs];clear hx hs;generalize (fF b.legs now k).map xP=ys at *;generalize bD g now=g2 at*
  (have zc1:=cw;(repeat' (first|refine uL ?_|((first|apply xM|apply wA)<;>intro hc)|fail))<;>clear zc1)
  rfl
 refine WW ?_;refine yU (st0:=⟨[(13,iA 2),(11,.ref 1001 0 4),(12,iA 4),(1,iA now),(5,.ref 1001 0 4)],[(1001,.arr 5 [uW a 1101,uW b 1102,uW c 1103,uW d 1104] ⟨true,true⟩),(1101,gG a now a.legs.length),(1102,gG b now b.legs.length),(1103,gG c now 0),(1104,gG d now 0)]⟩) Z ?_;unfold gG;refine WW ?_;refine yL (c.legs) [1103,7,1001,1101,1102,1104] [7,1001,1101,1102,1104] [1,5,7,11,12,13,19] [20,1,5,7,11,12,13,19] Z (λi pre T U=>⟨(20,iA i)::T,(1103,.arr 5 ((fF c.legs now i).map xP) false)::U⟩) ?_;(conv=>whnf);refine⟨by rfl,?_,?_⟩
 ·intro k pre g post hx hk;have hlt:=yN hx hk;have hy:=dF now hx hk;have hs:=gF now hx hk;have hyl:((fF c.legs now k).map xP).length=c.legs.length:=by rw[zZ9,gE]
  have hset:∀y:AV,(((fF c.legs now k).map xP).set k y)[k]? =some y:=λy=>yBq zB
  have cw:=gH g now;rw[hs];clear hx hs;generalize (fF c.legs now k).map xP=ys at *;generalize bD g now=g2 at*
  (have zc1:=cw;(repeat' (first|refine uL ?_|((first|apply xM|apply wA)<;>intro hc)|fail))<;>clear zc1)
  rfl
 refine WW ?_;refine yU (st0:=⟨[(13,iA 3),(11,.ref 1001 0 4),(12,iA 4),(1,iA now),(5,.ref 1001 0 4)],[(1001,.arr 5 [uW a 1101,uW b 1102,uW c 1103,uW d 1104] ⟨true,true⟩),(1101,gG a now a.legs.length),(1102,gG b now b.legs.length),(1103,gG c now c.legs.length),(1104,gG d now 0)]⟩) Z ?_;unfold gG;refine WW ?_;refine yL (d.legs) [1104,7,1001,1101,1102,1103] [7,1001,1101,1102,1103] [1,5,7,11,12,13,19] [20,1,5,7,11,12,13,19] Z (λi pre T U=>⟨(20,iA i)::T,(1104,.arr 5 ((fF d.legs now i).map xP) false)::U⟩) ?_;(conv=>whnf);refine⟨by rfl,?_,?_⟩
 ·intro k pre g post hx hk;have hlt:=yN hx hk;have hy:=dF now hx hk;have hs:=gF now hx hk;have hyl:((fF d.legs now k).map xP).length=d.legs.length:=by rw[zZ9,gE]
  have hset:∀y:AV,(((fF d.legs now k).map xP).set k y)[k]? =some y:=λy=>yBq zB
  have cw:=gH g now;rw[hs];clear hx hs;generalize (fF d.legs now k).map xP=ys at *;generalize bD g now=g2 at*
  (have zc1:=cw;(repeat' (first|refine uL ?_|((first|apply xM|apply wA)<;>intro hc)|fail))<;>clear zc1)
  rfl
 refine WW ?_;refine yU (st0:=⟨[(13,iA 4),(11,.ref 1001 0 4),(12,iA 4),(1,iA now),(5,.ref 1001 0 4)],[(1001,.arr 5 [uW a 1101,uW b 1102,uW c 1103,uW d 1104] ⟨true,true⟩),(1101,gG a now a.legs.length),(1102,gG b now b.legs.length),(1103,gG c now c.legs.length),(1104,gG d now d.legs.length)]⟩) Z ?_;unfold gG;simp only[RN];refine WW ?_;refine zK [] Z Z ?_ Z
 show AV.sl false [.agg [iA a.id,iA a.vh,iA a.cls,iA a.til,.sl false (List.take (a.legs.map xP).length (List.drop 0 ((a.legs.map λg=>bD g now).map xP)))],.agg [iA b.id,iA b.vh,iA b.cls,iA b.til,.sl false (List.take (b.legs.map xP).length (List.drop 0 ((b.legs.map λg=>bD g now).map xP)))],.agg [iA c.id,iA c.vh,iA c.cls,iA c.til,.sl false (List.take (c.legs.map xP).length (List.drop 0 ((c.legs.map λg=>bD g now).map xP)))],.agg [iA d.id,iA d.vh,iA d.cls,iA d.til,.sl false (List.take (d.legs.map xP).length (List.drop 0 ((d.legs.map λg=>bD g now).map xP)))]]=_
 simp only[tkM];rfl
def zKn (l:List Rq) (now:Int) (hv:bJ l):zN 129 [zD yG l,iA now] [] (zD yG (EU l now)) []:=by
 have h4:=hv.n4;have hb:∀r∈l,1<=r.legs.length/\r.legs.length<=1000:=λr hr=>by have:=hv.lg3 hr;omega
 match l,h4,hb with
 | [],_,_=>
  have kc:=WH;refine eM call129 λF hF=>?_
  refine zV kc ?_;refine uK 1 [] [13,11,12,1,5] Z ?_;refine yU (st0:=⟨[(13,iA 0),(11,.s (.slice none 0 0)),(12,iA 0),(1,iA now),(5,.s (.slice none 0 0))],[]⟩) Z ?_;refine WW ?_;exact zJ
 | [a],_,hb=>exact zPi a (hb a zU).1 (hb a zU).2 now
 | [a,b],_,hb=>exact zPj a b (hb a zU).1 (hb a zU).2 (hb b zU).1 (hb b zU).2 now
 | [a,b,c],_,hb=>exact zPk a b c (hb a zU).1 (hb a zU).2 (hb b zU).1 (hb b zU).2 (hb c zU).1 (hb c zU).2 now
 | [a,b,c,d],_,hb=>exact zPl a b c d (hb a zU).1 (hb a zU).2 (hb b zU).1 (hb b zU).2 (hb c zU).1 (hb c zU).2 (hb d zU).1 (hb d zU).2 now
 |_::_::_::_::_::_,h,_=>simp at h
def zKo (g:Lg) (now:Int) (n0:0<=now) (n1:now<=1073741824):(bD g now).jn=g.jn/\(bD g now).ph=g.ph/\(NG g=true->NG (bD g now)=true):=by
 unfold bD;split
 ·split
  ·refine⟨rfl,rfl,λh=>?_⟩;unfold NG at *;rw[yAc]at *; dsimp only;omega
  ·exact⟨rfl,rfl,id⟩
 ·refine⟨rfl,rfl,λh=>?_⟩;unfold NG at *;rw[yAc]at *; dsimp only;omega
theorem zC6 {now:Int} (n0:0<=now) (n1:now<=1073741824):∀(gs pre pre':List Lg),pre'.map (·.jn)=pre.map (·.jn)->jR pre gs=true->jR pre' (gs.map λg=>bD g now)=true
 | [],_,_,_,_=>rfl
 |x::post,pre,pre',hp,h=>by
  obtain⟨e1,_,e3⟩:=zKo x now n0 n1;have ha:∀(l:List Lg),(l.any λy=>y.jn==x.jn)=(l.map (·.jn)).any λn=>n==x.jn:=λl=>by rw[List.any_map];rfl
  rw[jR,yAk,yAk]at h;rw[yBb,jR,e3 h.1,e1,ha,hp,<-ha,h.2.1,yAv,yAv];exact zC6 n0 n1 post (pre++[x]) (pre'++[bD x now]) (by rw[yAi,yAi,hp];simp[e1]) h.2.2
def zYl {l:List Rq} (hv:bJ l) (now:Int) (n0:0<=now) (n1:now<=1073741824):bJ (EU l now):=by
 refine⟨λr hr=>?_,?_,by unfold EU;rw[zZ9];exact hv.n4⟩
 ·obtain⟨x,hx,rfl⟩:=yA5.1 hr;have h:=hv.ok x hx;refine⟨h.i0,h.i1,h.v0,h.v1,h.c0,h.c1,h.t0,h.t1,?_⟩;have h1:=h.lg;rw[NW,yAk]at h1;unfold NW mkR;dsimp only;rw[yAk,zZ9];exact⟨h1.1,zC6 n0 n1 x.legs [] [] Z h1.2⟩
 ·unfold EU;rw[List.pairwise_map];exact hv.so
def fT (p:Nat->Bool):Nat->Int
 |0=>0
 |n+1=>if p n=true then fT p n+p2 n else fT p n
theorem zAm (p:Nat->Bool):∀n:Nat,n<=30->0<=fT p n/\fT p n<p2 n
 |0,_=>⟨yB6 0,by show(0:Int)<1;decide⟩
 | n+1,h=>by
  have ih:=zAm p n zB
  have h2:p2 ((n+1:Nat):Int)=2*p2 (n:Int):=by
   unfold p2;rw[yAx,yAx,yF1];omega
  have:=zSx n zB;unfold fT
  split<;>omega
theorem dO {p q:Nat->Bool}:∀n:Nat,(∀i,i<n->p i=q i)->fT p n=fT q n
 |0,_=>rfl
 |n+1,h=>by unfold fT;rw[h n zB,dO n λi hi=>h i zB]
def bq (b0 b1 b2 b3 b4 b5 b6 b7:Bool):Nat->Bool
 |0=>b0|1=>b1|2=>b2|3=>b3|4=>b4|5=>b5|6=>b6|7=>b7|_=>false
def zYm:∀b0 b1 b2 b3 b4 b5 b6 b7:Bool,∀i:_root_.Fin 8,(fH (uM (fT (bq b0 b1 b2 b3 b4 b5 b6 b7) 8) i.val) 1==1)=bq b0 b1 b2 b3 b4 b5 b6 b7 i.val:=by decide +kernel
def zPm (p:Nat->Bool) (i:Nat) (hi:i<8):(fH (uM (fT p 8) i) 1==1)=p i:=by
 have e:∀j,j<8->p j=bq (p 0) (p 1) (p 2) (p 3) (p 4) (p 5) (p 6) (p 7) j:=λj hj=>by
  match j,hj with
  |0,_=>rfl|1,_=>rfl|2,_=>rfl|3,_=>rfl|4,_=>rfl|5,_=>rfl|6,_=>rfl|7,_=>rfl
  |j+8,h=>omega
 rw[dO 8 e,e i hi];exact zYm _ _ _ _ _ _ _ _ ⟨i,hi⟩
def bsN (p:Nat->Bool):Nat->Nat
 |0=>0
 |n+1=>if p n=true then bsN p n+2 ^ n else bsN p n
theorem EV (p:Nat->Bool):∀n,fT p n=(bsN p n:Int)
 |0=>rfl
 |n+1=>by
  unfold fT bsN;rw[EV p n];split
  ·unfold p2;simp
  ·rfl
theorem PH (p:Nat->Bool):∀n,bsN p n<2 ^ n
 |0=>(show 0<1 by omega)
 |n+1=>by
  have:=PH p n;unfold bsN;rw[Nat.pow_succ]
  split<;>omega
theorem cJ (p:Nat->Bool):∀n i,(bsN p n).testBit i=(decide (i<n)&&p i)
 |0,i=>by simp[bsN]
 | n+1,i=>by
  have hlt:=PH p n;unfold bsN
  rcases Nat.lt_trichotomy i n with h|h|h
  ·rw[yAe zB,yAv];split
   ·rw[Nat.add_comm,Nat.testBit_two_pow_add_gt h,cJ p n i,yAe h,yAv]
   ·rw[cJ p n i,yAe h,yAv]
  ·subst h;rw[yAe zB,yAv];split
   ·rename_i hp;rw[Nat.add_comm,Nat.testBit_two_pow_add_eq,cJ p i i,yAh zB,hp];rfl
   ·rename_i hp;rw[cJ p i i,yAh zB];simpa using hp
  ·rw[yAh zB,yBy];refine Nat.testBit_lt_two_pow ?_;have h2:2 ^ (n+1)<=2 ^ i:=yEb zB zB;rw[Nat.pow_succ]at h2
   split<;>omega
def IG (a b:Nat) (ha:a<2 ^ 30) (hb:b<2 ^ 30):orI a b=((a ||| b:Nat):Int):=by
 have h:=Nat.or_lt_two_pow ha hb;unfold orI;rw[yD6,yD6,BitVec.toNat_or,yD1,yD1];have e:(2:Nat) ^ IntKind.i64.bits=18446744073709551616:=by decide
 rw[e,yC0 zB,yC0 zB];exact qP (k:= .i64) (by unfold XN;omega)
def zVe (p q:Nat->Bool):orI (fT p 8) (fT q 8)=fT (λi=>p i||q i) 8:=by
 have h1:=PH p 8;have h2:=PH q 8;rw[EV,EV,EV,IG _ _ zB zB]
 congr 1
 apply Nat.eq_of_testBit_eq;intro i;rw[yGd,cJ,cJ,cJ]
 cases decide (i<8)<;>simp
def ZT (l:List Tk):Nat->Int->List Int
 |0,_=>[]
 |n+1,s=>bif gX l s then s::ZT l n (l.getD s.toNat default).par else []
def kS (l:List Tk) (k:Nat) (a:Int):ZT l (k+1) a=bif gX l a then a::ZT l k (l.getD a.toNat default).par else []:=rfl
def YR {l:List Tk} {s:Int} (h:gX l s=true):0<=s/\s<l.length:=by
 unfold gX at h;simp only[yAk,yAc]at h;exact h.1
theorem zKp {l:List Tk}:∀(n:Nat) (s x:Int),x∈ZT l n s->gX l x=true
 |0,s,x,h=>by simp[ZT]at h
 | n+1,s,x,h=>by
  unfold ZT at h
  cases hu:gX l s<;>rw[hu]at h
  ·simp at h
  ·rw[yBn,yBd]at h
   rcases h with rfl|h
   ·exact hu
   ·exact zKp n _ x h
def zKq (l:List Tk) (s:Int):List (Nat×xN):=[(1003,.box [iA s]),(1004,.box [zD yV l])]
def zSn (l:List Tk) (s:Int):zN 207 [zD yV l,iA s] [] (.fn 225 [.ptr 1003 0 0,.ptr 1004 0 0]) (zKq l s):=by
 refine eM call207 λF hF=>?_
 repeat' (first|(refine zE ?_;first|refine uS (kW (v:=AV.sl _ _) 1004 Z Z) Z Z Z ?_|refine uS (kW (v:=AV.s _) 1003 Z Z) Z Z Z ?_|refine vW tok Z Z ?_|refine qJ ?_)|(first|refine xS ?_|refine xD ?_|refine vI Z ?_|refine zY Z ?_|refine zS Z ?_|refine xL Z (λhc=>?_) λhc=>?_|refine xA ?_|refine yT ?_|refine xF ?_|refine yW ?_))
 exact zL [1003,1004] Z Z Z Z
def zKr (l:List Tk) (s:Int):ZE prog 225 [.ptr 1003 0 0,.ptr 1004 0 0] (zKq l s) ((ZT l 8 s).map λx=>[iA x]):=by
 have hl:=zA yV l;refine cT func225 Z (λargs w=>call225 args w) Z Z Z (λF y hro hit hY=>?_);unfold zKq;refine WW ?_;refine xR (8) [1003,1004] [1003,1004] [0,2] [4,6,1000000,0,2] Z (λi T U zs=>∃(a:Int) (pre:List Int),(ZT l 8 s=pre++ZT l (8-i) a/\pre.length=i)/\zs=⟨(4,iA a)::(6,iA i)::(1000000,.gh i)::T,U⟩) ?_;(conv=>whnf);refine⟨?_,?_,?_⟩
 ·exact⟨s,[],⟨rfl,rfl⟩,rfl⟩
 ·rintro i st hi ⟨a,pre,⟨hp,hpl⟩,rfl⟩;have c:=zAr l a;obtain⟨k,hk⟩:∃k,8-i=k+1:=⟨7-i,zB⟩;rw[hk,kS l k a]at hp
  cases hu:gX l a<;>rw[hu]at c hp
  ·rw[yB5,yBc]at hp;refine zV c ?_;exact dV Z (.inl (by rw[zZ9,hp,hpl]))
  ·rw[yBn]at hp;obtain⟨h0,h1⟩:=YR hu;have hy:=yI yV l a h0 h1;have hys:((ZT l 8 s).map λx=>[iA x])[i]? =some [iA a]:=by rw[hp];simp[<-hpl]
   have hlen:i<((ZT l 8 s).map λx=>[iA x]).length:=(yAu.1 hys).1;generalize ((ZT l 8 s).map λx=>[iA x])=xs at *;have hp':ZT l 8 s=(pre++[a])++ZT l (8-(i+1)) (l.getD a.toNat default).par:=by rw[hp,show 8-(i+1)=k by omega];simp
   generalize l.getD a.toNat default=t at*
   (repeat' (first|refine uL ?_|((first|apply xM|apply wA)<;>intro hc)|(refine zE ?_;refine xT ?_;first|(first|(refine vS 226 ?_;first|refine wG (zH (c) Z Z Z Z Z) Z ?_|refine uS (zH (c) Z Z Z Z Z) Z Z Z ?_|refine ZU (zH (c) Z Z Z Z Z) Z Z Z ?_))|(refine CS ?_;refine RV hit hY Z Z hys Z Z Z ?_ ?_))|(refine zE ?_;first|refine SM ?_)|fail))
   ·exact⟨t.par,pre++[a],⟨hp',by simp[hpl]⟩,rfl⟩
   ·exact dV Z (.inr zB)
 ·rintro st ⟨a,pre,⟨hp,hpl⟩,rfl⟩;rw[show ZT l (8-8) a=[]from rfl,yBc]at hp;refine WW ?_;exact aL rfl (.inl (by rw[zZ9,hp,hpl]))
def deF (l:List Tk) (s top:Int):Bool:=(ZT l 8 s).any λa=>a==top
def zKs (l:List Tk) (s top:Int):zN 267 [zD yV l,iA s,iA top] [] (bA (deF l s top)) []:=by
 have c:=zSn l s;unfold zKq at c;refine eM call267 λF hF=>?_
 refine zV c ?_;refine uE hF (zKr l s) Z [5,6] [5,6] Z Z Z Z Z Z Z Z Z (λi ys h=>?_) (λ_=>[(5,.box [iA top]),(6,.box [.s (.bool false)])]) (λi=>∀x∈(ZT l 8 s).take i,x≠top) (T:=[(5,.ptr 5 0 0),(6,.ptr 6 0 0)]) Z zU (λi ys y hys hI F1 h1 h2=>?_) (λhI=>?_)
 ·rw[yAa,yAo]at h;obtain⟨x,_,rfl⟩:=h;rfl
 ·rw[yAa,yAo]at hys;obtain⟨x,hx,rfl⟩:=hys
  show vK _ F1 _ _ ⟨[(11,iA x),(5,.ptr 5 0 0),(6,.ptr 6 0 0)],[(5,.box [iA top]),(6,.box [.s (.bool false)])]⟩ _
  have hmem:x∈ZT l 8 s:=yBx hx;refine WW ?_;refine⟨rfl,λF2 g1 g2=>?_⟩;by_cases ht:x=top
  ·have hd:deF l s top=true:=yBo.2 ⟨x,hmem,by simpa using ht⟩;rw[hd];refine WW ?_;exact zJ
  ·(refine WW ?_)
   refine⟨rfl,λz hz=>?_⟩;rw[yC2,hx]at hz;simp only[yFv,yAw,yA8]at hz
   rcases hz with hz|rfl
   ·exact hI z hz
   ·exact ht
 ·rw[zZ9,yAf]at hI;have hd:deF l s top=false:=yCy.2 λx hx=>by simpa using hI x hx
  rw[hd];refine WW ?_;exact zJ
def zEw (l:List Tk) (now:Int) (j:Nat):Tk:=if(ZT l 8 j).any (λa=>exF (l.getD a.toNat default) now)=true then frT else l.getD j default
def SF (l:List Tk) (now:Int) (s:Nat):List Tk:=(List.range l.length).map λj=>if j<s then zEw l now j else l.getD j default
def NR (l:List Tk) (now:Int):List Tk:=(List.range l.length).map (zEw l now)
def IH (l:List Tk) (now:Int) (s:Nat):(SF l now s).length=l.length:=by simp[SF]
def zKt (l:List Tk) (now:Int):SF l now 0=l:=by
 unfold SF;apply yBi;intro j;rw[yAa];by_cases h:j<l.length
 ·rw[yA4 h];simp[List.getD,h]
 ·rw[yAz vA,yAz zB];rfl
def zPn (l:List Tk) (now:Int):SF l now l.length=NR l now:=by
 unfold SF NR;apply yDk;intro j hj;rw[yAt]at hj;rw[zZ8 hj]
def zKu (l:List Tk) (now:Int) (s:Nat) (h:s<l.length):(SF l now s)[s]? =some (l.getD s default):=by
 unfold SF;rw[yAa,yA4 h];simp
def zKv (l:List Tk) (now:Int) (s:Nat):SF l now (s+1)=(SF l now s).set s (zEw l now s):=by
 unfold SF;apply yBi;intro j;rw[yB8,yAa,yAa];by_cases h:j<l.length
 ·rw[yA4 h];by_cases hs:s=j
  ·subst hs;simp[h]
  ·rw[zZ7 hs];by_cases hj:j<s
   ·simp[hj,show j<s+1 by omega]
   ·simp[hj,show¬j<s+1 by omega]
 ·rw[yAz vA]
  split<;>simp;omega
theorem zKw (l:List Tk) (hb:GM l) (now:Int):zN 174 [zD yV l,iA now] [] (zD yV (NR l now)) []:=by
 have c:=YV l hb;have hn:=hb.n;have hll:=zA yV l;refine eM call174 λF hF=>?_
 refine zV c ?_;refine zO ((l.map yV).length) [1001,2,3,5] [2,3,5] [2,3,5,11,18] [12,2,3,5,11,18] Z (λi T U=>⟨(12,iA i)::T,(1001,.arr 6 ((SF l now i).map yV) false)::U⟩) ?_;(conv=>whnf);refine⟨by(rw[zKt];rfl),?_,?_⟩
 ·intro i hi;have hi':i<l.length:=by omega
  have c1:=zSn l i;unfold zKq at c1;have hy:((SF l now i).map yV)[i]? =some (yV (l.getD i default)):=by rw[yAa,zKu l now i hi'];rfl
  have es:=zKv l now i;have hif:=zAs;have hrl:i<((SF l now i).map yV).length:=by rw[zZ9,IH];exact hi'
  refine zV c1 ?_
  refine uE hF (zKr l i) Z [2,3,5,6,1001] [2,3,5,6,11,12] Z Z Z Z Z Z Z Z Z (λk ys h=>?_) (λ_=>[(2,.box [zD yV l]),(3,.box [iA now]),(5,.box [.ref 1001 0 (l.map yV).length]),(6,.box [iA i]),(1001,.arr 6 ((SF l now i).map yV) false)]) (λk=>∀x∈(ZT l 8 i).take k,exF (l.getD x.toNat default) now=false)
   (T:=[(2,.ptr 2 0 0),(3,.ptr 3 0 0),(5,.ptr 5 0 0),(6,.ptr 6 0 0),(11,iA (l.map yV).length),(12,iA i)]) Z zU (λk ys y hys hI F1 h1 h2=>?_) (λhI=>?_)
  ·rw[yAa,yAo]at h;obtain⟨x,_,rfl⟩:=h;rfl
  ·rw[yAa,yAo]at hys;obtain⟨x,hx,rfl⟩:=hys
   show vK _ F1 _ _ ⟨[(18,iA x),(2,.ptr 2 0 0),(3,.ptr 3 0 0),(5,.ptr 5 0 0),(6,.ptr 6 0 0),(11,iA (l.map yV).length),(12,iA i)],[(2,.box [zD yV l]),(3,.box [iA now]),(5,.box [.ref 1001 0 (l.map yV).length]),(6,.box [iA i]),(1001,.arr 6 ((SF l now i).map yV) false)]⟩ _
   have hmem:x∈ZT l 8 i:=yBx hx;obtain⟨b1,b2⟩:=YR (zKp _ _ _ hmem);have hy2:=yI yV l x b1 b2;have ce:=LG (l.getD x.toNat default) now;refine WW ?_;refine⟨rfl,λF2 g1 g2=>?_⟩
   cases he:exF (l.getD x.toNat default) now<;>rw[he]at ce
   ·(refine zV ce ?_)
    refine⟨rfl,λz hz=>?_⟩;rw[yC2,hx]at hz;simp only[yFv,yAw,yA8]at hz
    rcases hz with hz|rfl
    ·exact hI z hz
    ·exact he
   ·have e2:(SF l now (i+1)).map yV=((SF l now i).map yV).set i (yV frT):=by
     rw[es,zEw,zZ8 (yBo.2 ⟨x,hmem,he⟩),yB4]
    generalize (SF l now i).map yV=xs at *;generalize (SF l now (i+1)).map yV=ys at *;subst e2;refine yR (vH ce hif) ?_;rfl
  ·rw[zZ9,yAf]at hI
   have e2:(SF l now (i+1)).map yV=(SF l now i).map yV:=by
    rw[es,zEw,zZ7 (by simpa using hI)]
    congr 1
    have:=zKu l now i hi';rw[yAu]at this;obtain⟨h,e⟩:=this;rw[<-e,yFj]
   generalize (SF l now i).map yV=xs at *;generalize (SF l now (i+1)).map yV=ys at *;subst e2;refine WW ?_;rfl
 ·have hl2:(l.map yV).length=((SF l now l.length).map yV).length:=by simp[IH]
  rw[<-zPn];rw[hll]at *; refine WW ?_;exact zK [] Z Z (yA6 (AV.sl false) (yAj (by simp[IH]))) Z
def tkN (a:Ag):List Tk:=⟨true,a.sec,-1,a.rights,a.cls,0⟩::List.replicate 7 frT
def zT:AV:= .agg [.s (.bool false),.s (.slice none 0 0),.s (.int .i64 0),.s (.int .i64 0),.s (.int .i64 0),.s (.int .i64 0)]
def BW (i:Nat):List AV:=List.replicate i (yV frT)++List.replicate (8-i) zT
def zVf (i:Nat) (h:i<8):(BW i)[i]? =some zT:=by
 unfold BW;rw[yA1 zU];simp[show 0<8-i by omega]
def zPo (i:Nat) (h:i<8):(BW i).set i (yV frT)=BW (i+1):=by
 unfold BW;rw[show 8-i=(8-(i+1))+1 by omega,yDy (n:=8-(i+1)),yC4 _ _ zU,yB0,yB9,yEn,List.replicate_succ' (n:=i),yA7];rfl
def zVg (a:Ag) (hs:a.sec.length<=1000000):zN 124 [wK a] [] (zD yV (tkN a)) []:=by
 have cf:=zAs;have cs:=wV a.sec zB;obtain⟨N,hN⟩:∃N:Nat,N=8:=⟨8,rfl⟩;refine eM call124 λF hF=>?_
 refine WW ?_;refine zO (N) [5,1] [1] [1] [8,7,3,1] Z (λi T U=>⟨(8,iA i)::(7,iA N)::(3,.ref 5 0 N)::T,(5,.arr 6 (BW i) false)::U⟩) ?_;(conv=>whnf);refine⟨by(rw[hN];rfl),?_,?_⟩
 ·intro i hi;have hy:=zVf i zB;have e:=zPo i zB;have hln:(BW i).length=8:=by unfold BW;simp;omega
  generalize BW i=xs at *;generalize BW (i+1)=ys at *;subst e;unfold zT at hy;refine zV cf ?_;rfl
 ·rw[show BW N=BW 8 by rw[hN]];have hy:(BW 8)[0]? =some (yV frT):=rfl;have e8:(BW 8).set 0 (yV ⟨true,a.sec,-1,a.rights,a.cls,0⟩)=(tkN a).map yV:=rfl;have hln:(BW 8).length=8:=rfl;generalize BW 8=xs at *;unfold yV at hy;refine zV cs ?_;exact zK [] Z Z (yA6 (AV.sl false) ((yAj vA).trans e8)) Z
def EW (n:Int) (a:Ag):Rg:=⟨n,a,tkN a,[],⟨a.burst,a.rate,a.burst⟩⟩
def zVh (n:Int) (a:Ag) (hs:a.sec.length<=1000000) (hl:a.lim.length<=1000000):zN 92 [iA n,wK a] [] (uX (EW n a)) []:=by
 have c1:=DJ a hs hl;have c2:=zVg a hs;have c3:=zVt a.rate a.burst;unfold EW;generalize tkN a=tk at *;refine eM call92 λF hF=>?_
 refine yR (gK c1 c2 c3) ?_;exact zJ
def zKx (g s:Int) (l:List Int) (hl:l.length<=1000000) (g0:0<=g) (g1:g<256) (s0:0<=s) (s1:s<256):zN 51 [iA g,iA s,zD yA l] [] (zD yA (g::s::l)) []:=by
 have hll:=zA yA l;refine eM call51 λF hF=>?_
 refine WW ?_;exact zK [] Z Z (yA6 (AV.sl false) (yAj zU)) Z
def zVi (a b:List Int):zN 233 [zD yA a,zD yA b] [] (bA (eqY a b)) []:=by
 refine eM call233 λF hF=>?_
 refine WW ?_;exact zJ
def zPp (l:List Tk) (b:List Int):Tk:=l.getD (b.getD 1 default).toNat default
def ckB (l:List Tk) (g:Int) (b:List Int) (k now:Int):Bool:=decide ((b.length:Int)=10/\b.getD 0 default=g)&&gX l (b.getD 1 default)&&(eqY (b.drop 2) (zPp l b).sec&& !exF (zPp l b) now&&peF (zPp l b).rights k)
def zPq (l:List Tk) (g:Int) (b:List Int) (k now:Int) (hb:BY b):zN 218 [zD yV l,iA g,zD yA b,iA k,iA now] [] (.tup [iA (if ckB l g b k now=true then b.getD 1 default else 0),iA (if ckB l g b k now=true then 0 else 9)]) []:=by
 have hll:=zA yA b;have hlt:=zA yV l;by_cases h1:(b.length:Int)=10
 case neg=>
  have e:ckB l g b k now=false:=by unfold ckB;rw[yAh (λh=>h1 h.1)];rfl
  rw[e];refine eM call218 λF hF=>?_
  refine WW ?_;exact zJ
 have hy0:=yI yA b 0 zB zB;have hy1:=yI yA b 1 zB zB;have b0:0<=b.getD 0 default/\b.getD 0 default<256:=hb _ zSt;have b1:0<=b.getD 1 default/\b.getD 1 default<256:=hb _ zSt
 change (b.map yA)[0]? =some (yA (b.getD 0 default))at hy0
 change (b.map yA)[1]? =some (yA (b.getD 1 default))at hy1
 unfold ckB zPp;generalize b.getD 0 default=x0 at *;generalize b.getD 1 default=x1 at *;by_cases h2:x0=g
 case neg=>
  rw[yAh (λh=>h2 h.2)];refine eM call218 λF hF=>?_
  refine WW ?_;exact zJ
 rw[yAe ⟨h1,h2⟩];have cu:=zAr l x1;cases hu:gX l x1
 ·rw[hu]at cu;refine eM call218 λF hF=>?_
  refine zV cu ?_;exact zJ
 rw[hu]at cu;obtain⟨u0,u1⟩:=YR hu;have hyt:=yI yV l x1 u0 u1;generalize l.getD x1.toNat default=t at *;have ce:=zVi (b.drop 2) t.sec;have cx:=LG t now;have cp:=zE1 t.rights k;generalize eqY (b.drop 2) t.sec=q1 at *;generalize exF t now=q2 at *;generalize peF t.rights k=q3 at*
 cases q1<;>cases q2<;>cases q3<;>((refine eM call218 λF hF=>?_);(refine yR (ZK cu ce cx cp) ?_);exact zJ)
def rgZ:Rg:=⟨0,⟨[],0,0,[],0,0,0,0⟩,[],[],⟨0,0,0⟩⟩
def LE (k:Int):Bool:=decide (2<=k/\k<=8)
def opE (r:Rg) (m:Ms) (now:Int):Int:=if ckB r.tk r.num m.tok m.kind now=true then(if LE m.kind=true/\r.bk.level<=0 then 13 else 0)else 9
def opR (r:Rg) (m:Ms) (now:Int):Rg:=if opE r m now=0 then(if LE m.kind=true then⟨r.num,r.ag,r.tk,r.vh,DH r.bk⟩else r)else rgZ
def opS (r:Rg) (m:Ms) (now:Int):Int:=if opE r m now=0 then m.tok.getD 1 default else 0
def zVj (r:Rg) (m:Ms) (now:Int) (hr:DK r) (hm:BY m.tok) (hl:r.bk.level<=1000000):zN 200 [uX r,yB m,iA now] [] (.tup [uX (opR r m now),iA (opS r m now),iA (opE r m now)]) []:=by
 have c1:=zPq r.tk r.num m.tok m.kind now hm;have c2:=fU r hr;have c3:=zP6 r.bk zB;unfold opR opS opE
 cases hc1:ckB r.tk r.num m.tok m.kind now<;>rw[hc1]at c1
 ·(refine eM call200 λF hF=>?_)
  refine zV c1 ?_;exact zJ
 ·generalize m.tok.getD 1 default=slot at *;cases hk:LE m.kind
  ·have hk':¬(2<=m.kind/\m.kind<=8):=of_decide_eq_false hk;refine eM call200 λF hF=>?_
   refine yR (vH c1 c2) (I2 (λhc=>?_) λhc=>?_)
   all_goals (first|exact zXO|exact zJ)
  ·have hk':2<=m.kind/\m.kind<=8:=yD5 hk;by_cases hv:r.bk.level<=0
   ·rw[yAh zB]at c3;simp only[hv,and_self,yE2];refine eM call200 λF hF=>?_
    refine yR (gK c1 c2 c3) ?_;exact zJ
   ·rw[yAe zB]at c3;simp only[hv,yF9,yFi,yE2];generalize hb:DH r.bk=b2 at *;refine eM call200 λF hF=>?_
    refine yR (gK c1 c2 c3) ?_;exact zJ
def rtF (r:Rg) (now:Int):Rg:=⟨r.num,r.ag,NR r.tk now,r.vh,btF r.bk⟩
def zPr (r:Rg) (now:Int) (hr:DK r) (hl: -1000000<=r.bk.level+r.bk.rate/\r.bk.level+r.bk.rate<=1000000):zN 130 [uX r,iA now] [] (uX (rtF r now)) []:=by
 have c1:=fU r hr;have c2:=zKw r.tk hr.tk now;have c3:=zP5 r.bk zB;unfold rtF;generalize NR r.tk now=tk at *;generalize btF r.bk=bk at *;refine eM call130 λF hF=>?_
 refine yR (gK c1 c2 c3) ?_;exact zJ
def zAn (l:List Tk) (hb:GM l):yP [zD yV l] [] (.ref 1001 0 (l.map yV).length) [(1001,.arr 6 (l.map yV) false)]:=yD
def RO (r:Rg) (hb:DK r):yP [uX r] [] (uX r) []:=yD
end Av
end Go.Proofs.YteajjdidebfcjaaGreat
