/- Part 13. -/
import Derived.Test.YtaglbcjljlkjcaaGreatV12
namespace Go.Proofs.YtaglbcjljlkjcaaGreat.Av
open Tryz
set_option linter.all false
set_option maxRecDepth 4000
set_option maxHeartbeats 4000000
def yh (d:xU) (m:Ms) (y:Rg) (u:Bool) (e:Int):xU:=if e=0 then⟨y,(if m.kind=5 then KB d.rq (m.args.getD 0 0)else d.rq),(if u=true then d.dr.drop 1 else d.dr),d.au⟩else d
def FC (d:xU):List Int:=d.dr.headD []
def Ju (d:xU) (m:Ms) (z ga:Int) (hv:VI d.rq) (U:d.dr.length<=1000) (S:Rg) (p:Ms) (u:Bool) (e:Int)
  (y:zO 289 [kD d.rg,yO m,iA z,iA ga,zE yA (FC d)] [] (.tup [kD S,yO p,bA u,iA e]) []) (B:m.kind=5->∃a,m.args=[a]) (R:u=true->d.dr≠[]):
  zO 242 [zN d,yO m,iA z,iA ga] [] (.tup [zN (yh d m S u e),yO p,iA e]) []:=by
 unfold yh;obtain⟨rg,I,G,Y⟩:=d;obtain⟨k,W,X,da⟩:=m;unfold FC at y;dsimp only at *;have L:(G.map uE).length=G.length:=zA uE G
 cases G with
 | nil=>
  have M:u=false:=by
   cases u with
   |false=>rfl
   |true=>exact absurd Z (R Z)
  subst M;rw[List.headD_nil]at y;by_cases C:e=0
  .subst C;rw[Os Z];by_cases hk:k=5
   .subst hk;obtain⟨a,rfl⟩:=B Z;have O:=MO I a hv;rw[Os Z,show([a]:List Int).getD 0 0=a from Z];generalize KB I a=V at *;unfold kD yO at y;unfold zN wG yO;refine eM call242 λF hF=>?_
    exact ng (xH y O)
   .rw[hW hk];clear B;unfold kD yO at y;unfold zN wG yO;refine eM call242 λF hF=>?_
    exact nl y
  .rw[hW C];clear B;unfold kD yO at y;unfold zN wG yO;refine eM call242 λF hF=>?_
   exact nl y
 | cons b E=>
  clear R;rw[List.headD_cons]at y;have L:(uE b::E.map uE).length=E.length+1:=by rw[zAp,f7]
  rw[zAp]at U;have A:zE uE (b::E)= .sl false (uE b::E.map uE):=rfl;by_cases C:e=0
  .subst C;rw[Os Z];by_cases hk:k=5
   .subst hk;obtain⟨a,rfl⟩:=B Z;have O:=MO I a hv;rw[Os Z,show([a]:List Int).getD 0 0=a from Z];generalize KB I a=V at *;unfold kD yO at y;unfold zN wG yO;rw[A];cases u
    all_goals
     (refine eM call242 λF hF=>?_)
     exact ng (xH y O)
   .rw[hW hk];clear B;unfold kD yO at y;unfold zN wG yO;rw[A];cases u
    all_goals
     (refine eM call242 λF hF=>?_)
     exact nl y
  .rw[hW C];clear B;unfold kD yO at y;unfold zN wG yO;rw[A];refine eM call242 λF hF=>?_
   exact nl y
structure It where
 code:Int
 kind:Int
 pay:List Int
def cF (i:It):AV:= .agg [iA i.code,iA i.kind,zE yA i.pay]
def hT (d:xU) (p:Ms) (k e:Int):AV:= .tup [zN d,yO p,iA k,iA e]
def uR (d:xU) (r:Rg):xU:=⟨r,d.rq,d.dr,d.au⟩
section
variable (c:Cf) (d:xU) (s ga k:Int) (pa tk0 ar:List Int) (h0:1<=k) (h1:k<=12) (k2:zO 267 [iA k,zE yA pa] [] (.tup [yO ⟨k,tk0,ar,[]⟩,iA 0]) []) (r:Rg) (sl:Int)
 (k3:zO 268 [kD d.rg,yO ⟨k,tk0,ar,[]⟩,iA ga] [] (.tup [kD r,iA sl,iA 0]) [])
include h0 h1 k2 k3
end
