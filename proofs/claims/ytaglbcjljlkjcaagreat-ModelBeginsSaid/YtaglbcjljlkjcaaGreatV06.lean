/- Part 6. -/
import Derived.Test.YtaglbcjljlkjcaaGreatV05
namespace Go.Proofs.YtaglbcjljlkjcaaGreat.Av
open Tryz
set_option linter.all false
set_option maxRecDepth 4000
set_option maxHeartbeats 4000000
open List renaming length->ln,replicate->pg,range->pi,take->py,drop->p5
open Inhabited renaming default->dd
def jm (a:Rq) (A:1<=ln a.legs) (z:ln a.legs<=1000):zO 187 [zE yS [a]] [] (.ref 1001 0 1) [(1001,.arr 5 [kI a 1101] ⟨false,true⟩),(1101,aH a)]:=by
 have B:=zA xK a.legs;refine eM call187 λF hF=>?_
 refine WW ?_;refine zW 3 1001 5 Z Z Z ?_;refine qY 2 [1001,1101] [3,8,6,7] Z ?_;refine xR (st0:=⟨[(3,.ref 1001 0 0),(8,iA 0),(6,.sl false [yS a]),(7,iA 1)],[(1001,.arr 5 [] ⟨true,false⟩)]⟩) Z ?_
 (repeat' (first|refine gM ?_|apply yY|apply xN|intro hc|(apply zG;first|(apply yI;refine xB 1101 tok Z Z Z Z Z Z (yG _ _ (λ_=>rfl)) Z Z Z zB Z Z Z ?_)|(apply yL;refine dU (xs:=[_]) 1002 tok Z Z Z Z Z Z Z Z Z Z Z Z ?_)|(apply yI;first|refine qE tok Z Z Z Z Z Z Z (by intro y u;cases u;rfl) Z Z Z yE Z ?_|refine kF tok Z Z Z Z Z Z Z Z Z Z Z (by intro y u;cases u;rfl) yE Z ?_))|refine SB ?_|fail))
 refine xR (st0:=⟨[(3,.ref 1001 0 1),(8,iA 1),(6,.sl false [yS a]),(7,iA 1)],[(1001,.arr 5 [kI a 1101] ⟨false,true⟩),(1101,aH a)]⟩) Z ?_;refine WW ?_;exact zV [1001,1101] Z Z Z Z
def dm (a b:Rq) (B:1<=ln a.legs) (z:ln a.legs<=1000) (hb:1<=ln b.legs) (A:ln b.legs<=1000):zO 187 [zE yS [a,b]] [] (.ref 1001 0 2) [(1001,.arr 5 [kI a 1101,kI b 1102] ⟨true,true⟩),(1101,aH a),(1102,aH b)]:=by
 have C:=zA xK a.legs;have E:=zA xK b.legs;refine eM call187 λF hF=>?_
 refine WW ?_;refine zW 3 1001 5 Z Z Z ?_;refine qY 3 [1001,1101,1102] [3,8,6,7] Z ?_;refine xR (st0:=⟨[(3,.ref 1001 0 0),(8,iA 0),(6,.sl false [yS a,yS b]),(7,iA 2)],[(1001,.arr 5 [] ⟨true,false⟩)]⟩) Z ?_
 (repeat' (first|refine gM ?_|apply yY|apply xN|intro hc|(apply zG;first|(apply yI;refine xB 1101 tok Z Z Z Z Z Z (yG _ _ (λ_=>rfl)) Z Z Z zB Z Z Z ?_)|(apply yL;refine dU (xs:=[_]) 1002 tok Z Z Z Z Z Z Z Z Z Z Z Z ?_)|(apply yI;first|refine qE tok Z Z Z Z Z Z Z (by intro y u;cases u;rfl) Z Z Z yE Z ?_|refine kF tok Z Z Z Z Z Z Z Z Z Z Z (by intro y u;cases u;rfl) yE Z ?_))|refine SB ?_|fail))
 refine xR (st0:=⟨[(3,.ref 1001 0 1),(8,iA 1),(6,.sl false [yS a,yS b]),(7,iA 2)],[(1001,.arr 5 [kI a 1101] ⟨false,true⟩),(1101,aH a)]⟩) Z ?_
 (repeat' (first|refine gM ?_|apply yY|apply xN|intro hc|(apply zG;first|(apply yI;refine xB 1102 tok Z Z Z Z Z Z (yG _ _ (λ_=>rfl)) Z Z Z zB Z Z Z ?_)|(apply yL;refine dU (xs:=[_]) 1002 tok Z Z Z Z Z Z Z Z Z Z Z Z ?_)|(apply yI;first|refine qE tok Z Z Z Z Z Z Z (by intro y u;cases u;rfl) Z Z Z yE Z ?_|refine kF tok Z Z Z Z Z Z Z Z Z Z Z (by intro y u;cases u;rfl) yE Z ?_))|refine SB ?_|fail))
 refine xR (st0:=⟨[(3,.ref 1001 0 2),(8,iA 2),(6,.sl false [yS a,yS b]),(7,iA 2)],[(1001,.arr 5 [kI a 1101,kI b 1102] ⟨true,true⟩),(1101,aH a),(1102,aH b)]⟩) Z ?_;refine WW ?_;exact zV [1001,1101,1102] Z Z Z Z
def bm (a b c:Rq) (C:1<=ln a.legs) (z:ln a.legs<=1000) (hb:1<=ln b.legs) (A:ln b.legs<=1000) (hc:1<=ln c.legs) (B:ln c.legs<=1000):zO 187 [zE yS [a,b,c]] [] (.ref 1001 0 3) [(1001,.arr 5 [kI a 1101,kI b 1102,kI c 1103] ⟨true,true⟩),(1101,aH a),(1102,aH b),(1103,aH c)]:=by
 have E:=zA xK a.legs;have G:=zA xK b.legs;have I:=zA xK c.legs;refine eM call187 λF hF=>?_
 refine WW ?_;refine zW 3 1001 5 Z Z Z ?_;refine qY 4 [1001,1101,1102,1103] [3,8,6,7] Z ?_;refine xR (st0:=⟨[(3,.ref 1001 0 0),(8,iA 0),(6,.sl false [yS a,yS b,yS c]),(7,iA 3)],[(1001,.arr 5 [] ⟨true,false⟩)]⟩) Z ?_
 (repeat' (first|refine gM ?_|apply yY|apply xN|intro hc|(apply zG;first|(apply yI;refine xB 1101 tok Z Z Z Z Z Z (yG _ _ (λ_=>rfl)) Z Z Z zB Z Z Z ?_)|(apply yL;refine dU (xs:=[_]) 1002 tok Z Z Z Z Z Z Z Z Z Z Z Z ?_)|(apply yI;first|refine qE tok Z Z Z Z Z Z Z (by intro y u;cases u;rfl) Z Z Z yE Z ?_|refine kF tok Z Z Z Z Z Z Z Z Z Z Z (by intro y u;cases u;rfl) yE Z ?_))|refine SB ?_|fail))
 refine xR (st0:=⟨[(3,.ref 1001 0 1),(8,iA 1),(6,.sl false [yS a,yS b,yS c]),(7,iA 3)],[(1001,.arr 5 [kI a 1101] ⟨false,true⟩),(1101,aH a)]⟩) Z ?_
 (repeat' (first|refine gM ?_|apply yY|apply xN|intro hc|(apply zG;first|(apply yI;refine xB 1102 tok Z Z Z Z Z Z (yG _ _ (λ_=>rfl)) Z Z Z zB Z Z Z ?_)|(apply yL;refine dU (xs:=[_]) 1002 tok Z Z Z Z Z Z Z Z Z Z Z Z ?_)|(apply yI;first|refine qE tok Z Z Z Z Z Z Z (by intro y u;cases u;rfl) Z Z Z yE Z ?_|refine kF tok Z Z Z Z Z Z Z Z Z Z Z (by intro y u;cases u;rfl) yE Z ?_))|refine SB ?_|fail))
 refine xR (st0:=⟨[(3,.ref 1001 0 2),(8,iA 2),(6,.sl false [yS a,yS b,yS c]),(7,iA 3)],[(1001,.arr 5 [kI a 1101,kI b 1102] ⟨true,true⟩),(1101,aH a),(1102,aH b)]⟩) Z ?_
 (repeat' (first|refine gM ?_|apply yY|apply xN|intro hc|(apply zG;first|(apply yI;refine xB 1103 tok Z Z Z Z Z Z (yG _ _ (λ_=>rfl)) Z Z Z zB Z Z Z ?_)|(apply yL;refine dU (xs:=[_]) 1002 tok Z Z Z Z Z Z Z Z Z Z Z Z ?_)|(apply yI;first|refine qE tok Z Z Z Z Z Z Z (by intro y u;cases u;rfl) Z Z Z yE Z ?_|refine kF tok Z Z Z Z Z Z Z Z Z Z Z (by intro y u;cases u;rfl) yE Z ?_))|refine SB ?_|fail))
 refine xR (st0:=⟨[(3,.ref 1001 0 3),(8,iA 3),(6,.sl false [yS a,yS b,yS c]),(7,iA 3)],[(1001,.arr 5 [kI a 1101,kI b 1102,kI c 1103] ⟨true,true⟩),(1101,aH a),(1102,aH b),(1103,aH c)]⟩) Z ?_;refine WW ?_;exact zV [1001,1101,1102,1103] Z Z Z Z
theorem am (a b c d:Rq) (E:1<=ln a.legs) (z:ln a.legs<=1000) (hb:1<=ln b.legs) (A:ln b.legs<=1000) (hc:1<=ln c.legs) (B:ln c.legs<=1000) (hd:1<=ln d.legs) (C:ln d.legs<=1000):zO 187 [zE yS [a,b,c,d]] [] (.ref 1001 0 4) [(1001,.arr 5 [kI a 1101,kI b 1102,kI c 1103,kI d 1104] ⟨true,true⟩),(1101,aH a),(1102,aH b),(1103,aH c),(1104,aH d)]:=by
 have G:=zA xK a.legs;have I:=zA xK b.legs;have L:=zA xK c.legs;have M:=zA xK d.legs;refine eM call187 λF hF=>?_
 refine WW ?_;refine zW 3 1001 5 Z Z Z ?_;refine qY 5 [1001,1101,1102,1103,1104] [3,8,6,7] Z ?_;refine xR (st0:=⟨[(3,.ref 1001 0 0),(8,iA 0),(6,.sl false [yS a,yS b,yS c,yS d]),(7,iA 4)],[(1001,.arr 5 [] ⟨true,false⟩)]⟩) Z ?_
 (repeat' (first|refine gM ?_|apply yY|apply xN|intro hc|(apply zG;first|(apply yI;refine xB 1101 tok Z Z Z Z Z Z (yG _ _ (λ_=>rfl)) Z Z Z zB Z Z Z ?_)|(apply yL;refine dU (xs:=[_]) 1002 tok Z Z Z Z Z Z Z Z Z Z Z Z ?_)|(apply yI;first|refine qE tok Z Z Z Z Z Z Z (by intro y u;cases u;rfl) Z Z Z yE Z ?_|refine kF tok Z Z Z Z Z Z Z Z Z Z Z (by intro y u;cases u;rfl) yE Z ?_))|refine SB ?_|fail))
 refine xR (st0:=⟨[(3,.ref 1001 0 1),(8,iA 1),(6,.sl false [yS a,yS b,yS c,yS d]),(7,iA 4)],[(1001,.arr 5 [kI a 1101] ⟨false,true⟩),(1101,aH a)]⟩) Z ?_
 (repeat' (first|refine gM ?_|apply yY|apply xN|intro hc|(apply zG;first|(apply yI;refine xB 1102 tok Z Z Z Z Z Z (yG _ _ (λ_=>rfl)) Z Z Z zB Z Z Z ?_)|(apply yL;refine dU (xs:=[_]) 1002 tok Z Z Z Z Z Z Z Z Z Z Z Z ?_)|(apply yI;first|refine qE tok Z Z Z Z Z Z Z (by intro y u;cases u;rfl) Z Z Z yE Z ?_|refine kF tok Z Z Z Z Z Z Z Z Z Z Z (by intro y u;cases u;rfl) yE Z ?_))|refine SB ?_|fail))
 refine xR (st0:=⟨[(3,.ref 1001 0 2),(8,iA 2),(6,.sl false [yS a,yS b,yS c,yS d]),(7,iA 4)],[(1001,.arr 5 [kI a 1101,kI b 1102] ⟨true,true⟩),(1101,aH a),(1102,aH b)]⟩) Z ?_
 (repeat' (first|refine gM ?_|apply yY|apply xN|intro hc|(apply zG;first|(apply yI;refine xB 1103 tok Z Z Z Z Z Z (yG _ _ (λ_=>rfl)) Z Z Z zB Z Z Z ?_)|(apply yL;refine dU (xs:=[_]) 1002 tok Z Z Z Z Z Z Z Z Z Z Z Z ?_)|(apply yI;first|refine qE tok Z Z Z Z Z Z Z (by intro y u;cases u;rfl) Z Z Z yE Z ?_|refine kF tok Z Z Z Z Z Z Z Z Z Z Z (by intro y u;cases u;rfl) yE Z ?_))|refine SB ?_|fail))
 refine xR (st0:=⟨[(3,.ref 1001 0 3),(8,iA 3),(6,.sl false [yS a,yS b,yS c,yS d]),(7,iA 4)],[(1001,.arr 5 [kI a 1101,kI b 1102,kI c 1103] ⟨true,true⟩),(1101,aH a),(1102,aH b),(1103,aH c)]⟩) Z ?_
 (repeat' (first|refine gM ?_|apply yY|apply xN|intro hc|(apply zG;first|(apply yI;refine xB 1104 tok Z Z Z Z Z Z (yG _ _ (λ_=>rfl)) Z Z Z zB Z Z Z ?_)|(apply yL;refine dU (xs:=[_]) 1002 tok Z Z Z Z Z Z Z Z Z Z Z Z ?_)|(apply yI;first|refine qE tok Z Z Z Z Z Z Z (by intro y u;cases u;rfl) Z Z Z yE Z ?_|refine kF tok Z Z Z Z Z Z Z Z Z Z Z (by intro y u;cases u;rfl) yE Z ?_))|refine SB ?_|fail))
 refine xR (st0:=⟨[(3,.ref 1001 0 4),(8,iA 4),(6,.sl false [yS a,yS b,yS c,yS d]),(7,iA 4)],[(1001,.arr 5 [kI a 1101,kI b 1102,kI c 1103,kI d 1104] ⟨true,true⟩),(1101,aH a),(1102,aH b),(1103,aH c),(1104,aH d)]⟩) Z ?_;refine WW ?_;exact zV [1001,1101,1102,1103,1104] Z Z Z Z
def pm (a:Rq) (C:1<=ln a.legs) (B:ln a.legs<=1000) (ga:Int):zO 132 [zE yS [a],iA ga] [] (zE yS (Kg [a] ga)) []:=by
 have I:=jm a C B;have O:=zA xK a.legs;refine eM call132 λF hF=>?_
 refine zP I ?_;refine qY 2 [1001,1101] [14,12,13,1,5] Z ?_;refine xR (st0:=⟨[(14,iA 0),(12,.ref 1001 0 1),(13,iA 1),(1,iA ga),(5,.ref 1001 0 1)],[(1001,.arr 5 [kI a 1101] ⟨false,true⟩),(1101,fG a ga 0)]⟩) Z ?_;unfold fG;refine WW ?_;refine zU (a.legs) [1101,7,1001] [7,1001] [1,5,7,12,13,14,19,20] [21,1,5,7,12,13,14,19,20] Z (λi gd T U=>⟨(21,iA i)::T,(1101,.arr 5 ((eG a.legs ga i).map xK) false)::U⟩) (Lq ?_ ?_)
 .intro k gd g post hx hk;have E:=zX hx hk;have M:=cW ga hx hk;have u:=fF ga hx hk;have G:((eG a.legs ga k).map xK).length=ln a.legs:=by rw[f7,fE]
  have z:∀y:AV,(((eG a.legs ga k).map xK).set k y)[k]? =some y:=λy=>zBy zB
  have A:=jV g ga;rw[u];clear hx u;generalize (eG a.legs ga k).map xK=ys,ZB g ga=L at *
  (have gt:=A;(repeat' (first|refine qU ?_|apply yY|apply xN|intro hc|fail))<;>clear gt)
  rfl
 refine WW ?_;refine xR (st0:=⟨[(14,iA 1),(12,.ref 1001 0 1),(13,iA 1),(1,iA ga),(5,.ref 1001 0 1)],[(1001,.arr 5 [kI a 1101] ⟨false,true⟩),(1101,fG a ga (ln a.legs))]⟩) Z ?_;unfold fG;simp only[OH];refine WW ?_;refine zH [] Z Z ?_ Z
 show AV.sl false [.agg [iA a.id,iA a.vh,iA a.cls,iA a.til,.sl false (py (a.legs.map xK).length (p5 0 ((a.legs.map λg=>ZB g ga).map xK)))]]=_
 simp only[B7];rfl
theorem om (a b:Rq) (L:1<=ln a.legs) (G:ln a.legs<=1000) (hb:1<=ln b.legs) (I:ln b.legs<=1000) (ga:Int):zO 132 [zE yS [a,b],iA ga] [] (zE yS (Kg [a,b] ga)) []:=by
 have O:=dm a b L G hb I;have R:=zA xK a.legs;have S:=zA xK b.legs;refine eM call132 λF hF=>?_
 refine zP O ?_;refine qY 3 [1001,1101,1102] [14,12,13,1,5] Z ?_;refine xR (st0:=⟨[(14,iA 0),(12,.ref 1001 0 2),(13,iA 2),(1,iA ga),(5,.ref 1001 0 2)],[(1001,.arr 5 [kI a 1101,kI b 1102] ⟨true,true⟩),(1101,fG a ga 0),(1102,fG b ga 0)]⟩) Z ?_;unfold fG;refine WW ?_;refine zU (a.legs) [1101,7,1001,1102] [7,1001,1102] [1,5,7,12,13,14,19,20] [21,1,5,7,12,13,14,19,20] Z (λi gd T U=>⟨(21,iA i)::T,(1101,.arr 5 ((eG a.legs ga i).map xK) false)::U⟩) (Lq ?_ ?_)
 .intro k gd g post hx hk;have B:=zX hx hk;have M:=cW ga hx hk;have u:=fF ga hx hk;have C:((eG a.legs ga k).map xK).length=ln a.legs:=by rw[f7,fE]
  have z:∀y:AV,(((eG a.legs ga k).map xK).set k y)[k]? =some y:=λy=>zBy zB
  have A:=jV g ga;rw[u];clear hx u;generalize (eG a.legs ga k).map xK=ys,ZB g ga=E at *
  (have gt:=A;(repeat' (first|refine qU ?_|apply yY|apply xN|intro hc|fail))<;>clear gt)
  rfl
 refine WW ?_;refine xR (st0:=⟨[(14,iA 1),(12,.ref 1001 0 2),(13,iA 2),(1,iA ga),(5,.ref 1001 0 2)],[(1001,.arr 5 [kI a 1101,kI b 1102] ⟨true,true⟩),(1101,fG a ga (ln a.legs)),(1102,fG b ga 0)]⟩) Z ?_;unfold fG;refine WW ?_;refine zU (b.legs) [1102,7,1001,1101] [7,1001,1101] [1,5,7,12,13,14,19,20] [21,1,5,7,12,13,14,19,20] Z (λi gd T U=>⟨(21,iA i)::T,(1102,.arr 5 ((eG b.legs ga i).map xK) false)::U⟩) (Lq ?_ ?_)
 .intro k gd g post hx hk;have B:=zX hx hk;have M:=cW ga hx hk;have u:=fF ga hx hk;have C:((eG b.legs ga k).map xK).length=ln b.legs:=by rw[f7,fE]
  have z:∀y:AV,(((eG b.legs ga k).map xK).set k y)[k]? =some y:=λy=>zBy zB
  have A:=jV g ga;rw[u];clear hx u;generalize (eG b.legs ga k).map xK=ys,ZB g ga=E at *
  (have gt:=A;(repeat' (first|refine qU ?_|apply yY|apply xN|intro hc|fail))<;>clear gt)
  rfl
 refine WW ?_;refine xR (st0:=⟨[(14,iA 2),(12,.ref 1001 0 2),(13,iA 2),(1,iA ga),(5,.ref 1001 0 2)],[(1001,.arr 5 [kI a 1101,kI b 1102] ⟨true,true⟩),(1101,fG a ga (ln a.legs)),(1102,fG b ga (ln b.legs))]⟩) Z ?_;unfold fG;simp only[OH];refine WW ?_;refine zH [] Z Z ?_ Z
 show AV.sl false [.agg [iA a.id,iA a.vh,iA a.cls,iA a.til,.sl false (py (a.legs.map xK).length (p5 0 ((a.legs.map λg=>ZB g ga).map xK)))],.agg [iA b.id,iA b.vh,iA b.cls,iA b.til,.sl false (py (b.legs.map xK).length (p5 0 ((b.legs.map λg=>ZB g ga).map xK)))]]=_
 simp only[B7];rfl
theorem rm (a b c:Rq) (O:1<=ln a.legs) (I:ln a.legs<=1000) (hb:1<=ln b.legs) (L:ln b.legs<=1000) (hc:1<=ln c.legs) (M:ln c.legs<=1000) (ga:Int):zO 132 [zE yS [a,b,c],iA ga] [] (zE yS (Kg [a,b,c] ga)) []:=by
 have R:=bm a b c O I hb L hc M;have S:=zA xK a.legs;have V:=zA xK b.legs;have W:=zA xK c.legs;refine eM call132 λF hF=>?_
 refine zP R ?_;refine qY 4 [1001,1101,1102,1103] [14,12,13,1,5] Z ?_;refine xR (st0:=⟨[(14,iA 0),(12,.ref 1001 0 3),(13,iA 3),(1,iA ga),(5,.ref 1001 0 3)],[(1001,.arr 5 [kI a 1101,kI b 1102,kI c 1103] ⟨true,true⟩),(1101,fG a ga 0),(1102,fG b ga 0),(1103,fG c ga 0)]⟩) Z ?_;unfold fG;refine WW ?_;refine zU (a.legs) [1101,7,1001,1102,1103] [7,1001,1102,1103] [1,5,7,12,13,14,19,20] [21,1,5,7,12,13,14,19,20] Z (λi gd T U=>⟨(21,iA i)::T,(1101,.arr 5 ((eG a.legs ga i).map xK) false)::U⟩) (Lq ?_ ?_)
 .intro k gd g post hx hk;have B:=zX hx hk;have G:=cW ga hx hk;have u:=fF ga hx hk;have C:((eG a.legs ga k).map xK).length=ln a.legs:=by rw[f7,fE]
  have z:∀y:AV,(((eG a.legs ga k).map xK).set k y)[k]? =some y:=λy=>zBy zB
  have A:=jV g ga;rw[u];clear hx u;generalize (eG a.legs ga k).map xK=ys,ZB g ga=E at *
  (have gt:=A;(repeat' (first|refine qU ?_|apply yY|apply xN|intro hc|fail))<;>clear gt)
  rfl
 refine WW ?_;refine xR (st0:=⟨[(14,iA 1),(12,.ref 1001 0 3),(13,iA 3),(1,iA ga),(5,.ref 1001 0 3)],[(1001,.arr 5 [kI a 1101,kI b 1102,kI c 1103] ⟨true,true⟩),(1101,fG a ga (ln a.legs)),(1102,fG b ga 0),(1103,fG c ga 0)]⟩) Z ?_;unfold fG;refine WW ?_;refine zU (b.legs) [1102,7,1001,1101,1103] [7,1001,1101,1103] [1,5,7,12,13,14,19,20] [21,1,5,7,12,13,14,19,20] Z (λi gd T U=>⟨(21,iA i)::T,(1102,.arr 5 ((eG b.legs ga i).map xK) false)::U⟩) (Lq ?_ ?_)
 .intro k gd g post hx hk;have B:=zX hx hk;have G:=cW ga hx hk;have u:=fF ga hx hk;have C:((eG b.legs ga k).map xK).length=ln b.legs:=by rw[f7,fE]
  have z:∀y:AV,(((eG b.legs ga k).map xK).set k y)[k]? =some y:=λy=>zBy zB
  have A:=jV g ga;rw[u];clear hx u;generalize (eG b.legs ga k).map xK=ys,ZB g ga=E at *
  (have gt:=A;(repeat' (first|refine qU ?_|apply yY|apply xN|intro hc|fail))<;>clear gt)
  rfl
 refine WW ?_;refine xR (st0:=⟨[(14,iA 2),(12,.ref 1001 0 3),(13,iA 3),(1,iA ga),(5,.ref 1001 0 3)],[(1001,.arr 5 [kI a 1101,kI b 1102,kI c 1103] ⟨true,true⟩),(1101,fG a ga (ln a.legs)),(1102,fG b ga (ln b.legs)),(1103,fG c ga 0)]⟩) Z ?_;unfold fG;refine WW ?_;refine zU (c.legs) [1103,7,1001,1101,1102] [7,1001,1101,1102] [1,5,7,12,13,14,19,20] [21,1,5,7,12,13,14,19,20] Z (λi gd T U=>⟨(21,iA i)::T,(1103,.arr 5 ((eG c.legs ga i).map xK) false)::U⟩) (Lq ?_ ?_)
 .intro k gd g post hx hk;have B:=zX hx hk;have G:=cW ga hx hk;have u:=fF ga hx hk;have C:((eG c.legs ga k).map xK).length=ln c.legs:=by rw[f7,fE]
  have z:∀y:AV,(((eG c.legs ga k).map xK).set k y)[k]? =some y:=λy=>zBy zB
  have A:=jV g ga;rw[u];clear hx u;generalize (eG c.legs ga k).map xK=ys,ZB g ga=E at *
  (have gt:=A;(repeat' (first|refine qU ?_|apply yY|apply xN|intro hc|fail))<;>clear gt)
  rfl
 refine WW ?_;refine xR (st0:=⟨[(14,iA 3),(12,.ref 1001 0 3),(13,iA 3),(1,iA ga),(5,.ref 1001 0 3)],[(1001,.arr 5 [kI a 1101,kI b 1102,kI c 1103] ⟨true,true⟩),(1101,fG a ga (ln a.legs)),(1102,fG b ga (ln b.legs)),(1103,fG c ga (ln c.legs))]⟩) Z ?_;unfold fG;simp only[OH];refine WW ?_;refine zH [] Z Z ?_ Z
 show AV.sl false [.agg [iA a.id,iA a.vh,iA a.cls,iA a.til,.sl false (py (a.legs.map xK).length (p5 0 ((a.legs.map λg=>ZB g ga).map xK)))],.agg [iA b.id,iA b.vh,iA b.cls,iA b.til,.sl false (py (b.legs.map xK).length (p5 0 ((b.legs.map λg=>ZB g ga).map xK)))],.agg [iA c.id,iA c.vh,iA c.cls,iA c.til,.sl false (py (c.legs.map xK).length (p5 0 ((c.legs.map λg=>ZB g ga).map xK)))]]=_
 simp only[B7];rfl
theorem sm (a b c d:Rq) (R:1<=ln a.legs) (I:ln a.legs<=1000) (hb:1<=ln b.legs) (L:ln b.legs<=1000) (hc:1<=ln c.legs) (M:ln c.legs<=1000) (hd:1<=ln d.legs) (O:ln d.legs<=1000) (ga:Int):zO 132 [zE yS [a,b,c,d],iA ga] [] (zE yS (Kg [a,b,c,d] ga)) []:=by
 have S:=am a b c d R I hb L hc M hd O;have V:=zA xK a.legs;have W:=zA xK b.legs;have X:=zA xK c.legs;have Y:=zA xK d.legs;refine eM call132 λF hF=>?_
 refine zP S ?_;refine qY 5 [1001,1101,1102,1103,1104] [14,12,13,1,5] Z ?_;refine xR (st0:=⟨[(14,iA 0),(12,.ref 1001 0 4),(13,iA 4),(1,iA ga),(5,.ref 1001 0 4)],[(1001,.arr 5 [kI a 1101,kI b 1102,kI c 1103,kI d 1104] ⟨true,true⟩),(1101,fG a ga 0),(1102,fG b ga 0),(1103,fG c ga 0),(1104,fG d ga 0)]⟩) Z ?_;unfold fG;refine WW ?_;refine zU (a.legs) [1101,7,1001,1102,1103,1104] [7,1001,1102,1103,1104] [1,5,7,12,13,14,19,20] [21,1,5,7,12,13,14,19,20] Z (λi gd T U=>⟨(21,iA i)::T,(1101,.arr 5 ((eG a.legs ga i).map xK) false)::U⟩) (Lq ?_ ?_)
 .intro k gd g post hx hk;have B:=zX hx hk;have G:=cW ga hx hk;have u:=fF ga hx hk;have C:((eG a.legs ga k).map xK).length=ln a.legs:=by rw[f7,fE]
  have z:∀y:AV,(((eG a.legs ga k).map xK).set k y)[k]? =some y:=λy=>zBy zB
  have A:=jV g ga;rw[u];clear hx u;generalize (eG a.legs ga k).map xK=ys,ZB g ga=E at *
  (have gt:=A;(repeat' (first|refine qU ?_|apply yY|apply xN|intro hc|fail))<;>clear gt)
  rfl
 refine WW ?_;refine xR (st0:=⟨[(14,iA 1),(12,.ref 1001 0 4),(13,iA 4),(1,iA ga),(5,.ref 1001 0 4)],[(1001,.arr 5 [kI a 1101,kI b 1102,kI c 1103,kI d 1104] ⟨true,true⟩),(1101,fG a ga (ln a.legs)),(1102,fG b ga 0),(1103,fG c ga 0),(1104,fG d ga 0)]⟩) Z ?_;unfold fG;refine WW ?_;refine zU (b.legs) [1102,7,1001,1101,1103,1104] [7,1001,1101,1103,1104] [1,5,7,12,13,14,19,20] [21,1,5,7,12,13,14,19,20] Z (λi gd T U=>⟨(21,iA i)::T,(1102,.arr 5 ((eG b.legs ga i).map xK) false)::U⟩) (Lq ?_ ?_)
 .intro k gd g post hx hk;have B:=zX hx hk;have G:=cW ga hx hk;have u:=fF ga hx hk;have C:((eG b.legs ga k).map xK).length=ln b.legs:=by rw[f7,fE]
  have z:∀y:AV,(((eG b.legs ga k).map xK).set k y)[k]? =some y:=λy=>zBy zB
  have A:=jV g ga;rw[u];clear hx u;generalize (eG b.legs ga k).map xK=ys,ZB g ga=E at *
  (have gt:=A;(repeat' (first|refine qU ?_|apply yY|apply xN|intro hc|fail))<;>clear gt)
  rfl
 refine WW ?_;refine xR (st0:=⟨[(14,iA 2),(12,.ref 1001 0 4),(13,iA 4),(1,iA ga),(5,.ref 1001 0 4)],[(1001,.arr 5 [kI a 1101,kI b 1102,kI c 1103,kI d 1104] ⟨true,true⟩),(1101,fG a ga (ln a.legs)),(1102,fG b ga (ln b.legs)),(1103,fG c ga 0),(1104,fG d ga 0)]⟩) Z ?_;unfold fG;refine WW ?_;refine zU (c.legs) [1103,7,1001,1101,1102,1104] [7,1001,1101,1102,1104] [1,5,7,12,13,14,19,20] [21,1,5,7,12,13,14,19,20] Z (λi gd T U=>⟨(21,iA i)::T,(1103,.arr 5 ((eG c.legs ga i).map xK) false)::U⟩) (Lq ?_ ?_)
 .intro k gd g post hx hk;have B:=zX hx hk;have G:=cW ga hx hk;have u:=fF ga hx hk;have C:((eG c.legs ga k).map xK).length=ln c.legs:=by rw[f7,fE]
  have z:∀y:AV,(((eG c.legs ga k).map xK).set k y)[k]? =some y:=λy=>zBy zB
  have A:=jV g ga;rw[u];clear hx u;generalize (eG c.legs ga k).map xK=ys,ZB g ga=E at *
  (have gt:=A;(repeat' (first|refine qU ?_|apply yY|apply xN|intro hc|fail))<;>clear gt)
  rfl
 refine WW ?_;refine xR (st0:=⟨[(14,iA 3),(12,.ref 1001 0 4),(13,iA 4),(1,iA ga),(5,.ref 1001 0 4)],[(1001,.arr 5 [kI a 1101,kI b 1102,kI c 1103,kI d 1104] ⟨true,true⟩),(1101,fG a ga (ln a.legs)),(1102,fG b ga (ln b.legs)),(1103,fG c ga (ln c.legs)),(1104,fG d ga 0)]⟩) Z ?_;unfold fG;refine WW ?_;refine zU (d.legs) [1104,7,1001,1101,1102,1103] [7,1001,1101,1102,1103] [1,5,7,12,13,14,19,20] [21,1,5,7,12,13,14,19,20] Z (λi gd T U=>⟨(21,iA i)::T,(1104,.arr 5 ((eG d.legs ga i).map xK) false)::U⟩) (Lq ?_ ?_)
 .intro k gd g post hx hk;have B:=zX hx hk;have G:=cW ga hx hk;have u:=fF ga hx hk;have C:((eG d.legs ga k).map xK).length=ln d.legs:=by rw[f7,fE]
  have z:∀y:AV,(((eG d.legs ga k).map xK).set k y)[k]? =some y:=λy=>zBy zB
  have A:=jV g ga;rw[u];clear hx u;generalize (eG d.legs ga k).map xK=ys,ZB g ga=E at *
  (have gt:=A;(repeat' (first|refine qU ?_|apply yY|apply xN|intro hc|fail))<;>clear gt)
  rfl
 refine WW ?_;refine xR (st0:=⟨[(14,iA 4),(12,.ref 1001 0 4),(13,iA 4),(1,iA ga),(5,.ref 1001 0 4)],[(1001,.arr 5 [kI a 1101,kI b 1102,kI c 1103,kI d 1104] ⟨true,true⟩),(1101,fG a ga (ln a.legs)),(1102,fG b ga (ln b.legs)),(1103,fG c ga (ln c.legs)),(1104,fG d ga (ln d.legs))]⟩) Z ?_;unfold fG;simp only[OH];refine WW ?_;refine zH [] Z Z ?_ Z
 show AV.sl false [.agg [iA a.id,iA a.vh,iA a.cls,iA a.til,.sl false (py (a.legs.map xK).length (p5 0 ((a.legs.map λg=>ZB g ga).map xK)))],.agg [iA b.id,iA b.vh,iA b.cls,iA b.til,.sl false (py (b.legs.map xK).length (p5 0 ((b.legs.map λg=>ZB g ga).map xK)))],.agg [iA c.id,iA c.vh,iA c.cls,iA c.til,.sl false (py (c.legs.map xK).length (p5 0 ((c.legs.map λg=>ZB g ga).map xK)))],.agg [iA d.id,iA d.vh,iA d.cls,iA d.til,.sl false (py (d.legs.map xK).length (p5 0 ((d.legs.map λg=>ZB g ga).map xK)))]]=_
 simp only[B7];rfl
def Vt (l:List Rq) (ga:Int) (hv:VI l):zO 132 [zE yS l,iA ga] [] (zE yS (Kg l ga)) []:=by
 have y:=hv.n4;have hb:∀r∈l,1<=ln r.legs/\r.legs.length<=1000:=λr u=>by have:=hv.lg3 u;omega
 match l,y,hb with
 | [],_,_=>
  have z:=fD [] yE (λr u=>by simp at u);refine eM call132 λF hF=>?_
  refine zP z ?_;refine qY 1 [] [14,12,13,1,5] Z ?_;refine xR (st0:=⟨[(14,iA 0),(12,.sl false []),(13,iA 0),(1,iA ga),(5,.sl false [])],[]⟩) Z ?_;exact mx
 | [a],_,hb=>exact pm a (hb a yE).1 (hb a yE).2 ga
 | [a,b],_,hb=>exact om a b (hb a yE).1 (hb a yE).2 (hb b yE).1 (hb b yE).2 ga
 | [a,b,c],_,hb=>exact rm a b c (hb a yE).1 (hb a yE).2 (hb b yE).1 (hb b yE).2 (hb c yE).1 (hb c yE).2 ga
 | [a,b,c,d],_,hb=>exact sm a b c d (hb a yE).1 (hb a yE).2 (hb b yE).1 (hb b yE).2 (hb c yE).1 (hb c yE).2 (hb d yE).1 (hb d yE).2 ga
 |_::_::_::_::_::_,h,_=>simp at h
def im (g:Lg) (ga:Int) (u:0<=ga) (y:ga<=1073741824):(ZB g ga).jn=g.jn/\(ZB g ga).ph=g.ph/\(GX g=true->GX (ZB g ga)=true):=by
 unfold ZB;split
 .split
  .refine⟨rfl,rfl,λh=>?_⟩;unfold GX at *;rw[zAg]at *; dsimp only;omega
  .exact⟨rfl,rfl,id⟩
 .refine⟨rfl,rfl,λh=>?_⟩;unfold GX at *;rw[zAg]at *; dsimp only;omega
theorem fe {ga:Int} (B:0<=ga) (C:ga<=1073741824):∀(gs gd u:List Lg),u.map (·.jn)=gd.map (·.jn)->kT gd gs=true->kT u (gs.map λg=>ZB g ga)=true
 | [],_,_,_,_=>rfl
 |x::post,gd,u,A,h=>by
  obtain⟨e1,_,e3⟩:=im x ga B C;have z:∀(l:List Lg),(l.any λy=>y.jn==x.jn)=(l.map (·.jn)).any λn=>n==x.jn:=λl=>by rw[List.any_map];rfl
  rw[kT,zAi,zAi]at h;rw[zBc,kT,e3 h.1,e1,z,A,<-z,h.2.1,zAj,zAj];exact fe B C post (gd++[x]) (u++[ZB x ga]) (by rw[zAd,zAd,A];simp[e1]) h.2.2
def m6 {l:List Rq} (hv:VI l) (ga:Int) (y:0<=ga) (z:ga<=1073741824):VI (Kg l ga):=by
 refine⟨λr u=>?_,?_,by unfold Kg;rw[f7];exact hv.n4⟩
 .obtain⟨x,hx,rfl⟩:=zBm.1 u;have h:=hv.ok x hx;refine⟨h.i0,h.i1,h.v0,h.v1,h.c0,h.c1,h.t0,h.t1,?_⟩;have h1:=h.lg;rw[Gb,zAi]at h1;unfold Gb j9;dsimp only;rw[zAi,f7];exact⟨h1.1,fe y z x.legs [] [] Z h1.2⟩
 .unfold Kg;rw[List.pairwise_map];exact hv.so
def qT (p:Nat->Bool):Nat->Int
 |0=>0
 |n+1=>if p n=true then qT p n+p2 n else qT p n
theorem ZU (p:Nat->Bool):∀n:Nat,n<=30->0<=qT p n/\qT p n<p2 n
 |0,_=>⟨zCi 0,by show(0:Int)<1;decide⟩
 | n+1,h=>by
  have u:=ZU p n zB
  have h2:p2 ((n+1:Nat):Int)=2*p2 (n:Int):=by
   unfold p2;rw[zAv,zAv,zFc];omega
  have:=BO n zB;unfold qT
  split<;>omega
theorem dH {p q:Nat->Bool}:∀n:Nat,(∀i,i<n->p i=q i)->qT p n=qT q n
 |0,_=>rfl
 |n+1,h=>by unfold qT;rw[h n zB,dH n λi hi=>h i zB]
def bq (u y z A B C E G:Bool):Nat->Bool
 |0=>u|1=>y|2=>z|3=>A|4=>B|5=>C|6=>E|7=>G|_=>false
def i6:∀u y z A B C E G:Bool,∀i:_root_.Fin 8,(uX (wY (qT (bq u y z A B C E G) 8) i.val) 1==1)=bq u y z A B C E G i.val:=by decide +kernel
def ee (p:Nat->Bool) (i:Nat) (hi:i<8):(uX (wY (qT p 8) i) 1==1)=p i:=by
 have e:∀j,j<8->p j=bq (p 0) (p 1) (p 2) (p 3) (p 4) (p 5) (p 6) (p 7) j:=λj hj=>by
  match j,hj with
  |0,_=>rfl|1,_=>rfl|2,_=>rfl|3,_=>rfl|4,_=>rfl|5,_=>rfl|6,_=>rfl|7,_=>rfl
  |j+8,h=>omega
 rw[dH 8 e,e i hi];exact i6 _ _ _ _ _ _ _ _ ⟨i,hi⟩
def Ut (p:Nat->Bool):Nat->Nat
 |0=>0
 |n+1=>if p n=true then Ut p n+2 ^ n else Ut p n
theorem BC (p:Nat->Bool):∀n,qT p n=(Ut p n:Int)
 |0=>rfl
 |n+1=>by
  unfold qT Ut;rw[BC p n];split
  .unfold p2;simp
  .rfl
theorem ML (p:Nat->Bool):∀n,Ut p n<2 ^ n
 |0=>(show 0<1 by omega)
 |n+1=>by
  have:=ML p n;unfold Ut;rw[Nat.pow_succ]
  split<;>omega
theorem UZ (p:Nat->Bool):∀n i,(Ut p n).testBit i=(decide (i<n)&&p i)
 |0,i=>by simp[Ut]
 | n+1,i=>by
  have y:=ML p n;unfold Ut
  rcases Nat.lt_trichotomy i n with h|h|h
  .rw[zAc zB,zAj];split
   .rw[Nat.add_comm,Nat.testBit_two_pow_add_gt h,UZ p n i,zAc h,zAj]
   .rw[UZ p n i,zAc h,zAj]
  .subst h;rw[zAc zB,zAj];split
   .rename_i u;rw[Nat.add_comm,Nat.testBit_two_pow_add_eq,UZ p i i,zAb zB,u];rfl
   .rename_i u;rw[UZ p i i,zAb zB];simpa using u
  .rw[zAb zB,zA7];refine Nat.testBit_lt_two_pow ?_;have h2:2 ^ (n+1)<=2 ^ i:=zEr zB zB;rw[Nat.pow_succ]at h2
   split<;>omega
def GQ (a b:Nat) (u:a<2 ^ 30) (hb:b<2 ^ 30):lu a b=((a ||| b:Nat):Int):=by
 have h:=Nat.or_lt_two_pow u hb;unfold lu;rw[zDv,zDv,BitVec.toNat_or,zDp,zDp];have e:(2:Nat) ^ IntKind.i64.bits=18446744073709551616:=by decide
 grind [lu,Nat.mod_eq_of_lt,jX,bZ]
def Rb (p q:Nat->Bool):lu (qT p 8) (qT q 8)=qT (λi=>p i||q i) 8:=by
 have h1:=ML p 8;have h2:=ML q 8;rw[BC,BC,BC,GQ _ _ zB zB]
 congr 1
 apply Nat.eq_of_testBit_eq
 grind [lu,qT,UZ]
def ZV (l:List Tk):Nat->Int->List Int
 |0,_=>[]
 |n+1,s=>bif jQ l s then s::ZV l n (l.getD s.toNat dd).par else []
def fN (l:List Tk) (k:Nat) (a:Int):ZV l (k+1) a=bif jQ l a then a::ZV l k (l.getD a.toNat dd).par else []:=rfl
def VD {l:List Tk} {s:Int} (h:jQ l s=true):0<=s/\s<ln l:=by grind [jQ]
theorem Qb {l:List Tk}:∀(n:Nat) (s x:Int),x∈ZV l n s->jQ l x=true
 |0,s,x,h=>by simp[ZV]at h
 | n+1,s,x,h=>by
  unfold ZV at h
  cases u:jQ l s<;>rw[u]at h
  .simp at h
  .rw[zBk,zBx]at h
   rcases h with rfl|h
   .exact u
   .exact Qb n _ x h
def Zm (l:List Tk) (s:Int):List (Nat×xM):=[(1003,.box [iA s]),(1004,.box [zE yK l])]
def Lw (l:List Tk) (s:Int):zO 263 [zE yK l,iA s] [] (.fn 302 [.ptr 1003 0 0,.ptr 1004 0 0]) (Zm l s):=by
 refine eM call263 λF hF=>?_
 repeat' (first|(apply zG;first|refine qH (eK (v:=AV.sl _ _) 1004 Z Z) Z Z Z ?_|refine qH (eK (v:=AV.s _) 1003 Z Z) Z Z Z ?_|refine vT tok Z Z ?_|apply qV)|(first|apply wF|apply wB|refine uW Z ?_|refine yT Z ?_|refine yH Z ?_|refine wL Z (λhc=>?_) λhc=>?_|apply xO|apply xP|apply wA|apply xE))
 exact zV [1003,1004] Z Z Z Z
def Ym (l:List Tk) (s:Int):TF prog 302 [.ptr 1003 0 0,.ptr 1004 0 0] (Zm l s) ((ZV l 8 s).map λx=>[iA x]):=by
 have hl:=zA yK l;refine VJ func302 Z (λargs w=>call302 args w) Z Z Z (λF y I z G=>?_);unfold Zm;refine WW ?_;refine zZ (8) [1003,1004] [1003,1004] [0,2] [4,6,1000000,0,2] Z (λi T U L=>∃(a:Int) (gd:List Int),(ZV l 8 s=gd++ZV l (8-i) a/\gd.length=i)/\L=⟨(4,iA a)::(6,iA i)::(1000000,.gh i)::T,U⟩) (Lp ?_ ?_ ?_)
 .exact⟨s,[],⟨rfl,rfl⟩,rfl⟩
 .rintro i st hi ⟨a,gd,⟨hp,hpl⟩,rfl⟩;have c:=Km l a;obtain⟨k,hk⟩:∃k,8-i=k+1:=⟨7-i,zB⟩;rw[hk,fN l k a]at hp
  cases C:jQ l a<;>rw[C]at c hp
  .rw[zB9,zA6]at hp;refine zP c ?_;exact TG Z (.inl (by rw[f7,hp,hpl]))
  .rw[zBk]at hp;obtain⟨E,h1⟩:=VD C;have M:=yC yK l a E h1;have u:((ZV l 8 s).map λx=>[iA x])[i]? =some [iA a]:=by rw[hp];simp[<-hpl]
   have B:i<((ZV l 8 s).map λx=>[iA x]).length:=(zAx.1 u).1;generalize ((ZV l 8 s).map λx=>[iA x])=xs at *;have A:ZV l 8 s=(gd++[a])++ZV l (8-(i+1)) (l.getD a.toNat dd).par:=by rw[hp,show 8-(i+1)=k by omega];simp
   generalize l.getD a.toNat dd=t at*
   (repeat' (first|refine qU ?_|apply yY|apply xN|intro hc|(apply zG;apply xJ;first|(first|(refine vF 303 ?_;first|refine wO (zK (c) Z Z Z Z Z) Z ?_|refine qH (zK (c) Z Z Z Z Z) Z Z Z ?_|refine bX (zK (c) Z Z Z Z Z) Z Z Z ?_))|(apply We;refine FB z G Z Z u Z Z Z ?_ ?_))|(apply zG;first|refine SM ?_)|fail))
   .exact⟨t.par,gd++[a],⟨A,by simp[hpl]⟩,rfl⟩
   .exact TG Z (.inr zB)
 .rintro st ⟨a,gd,⟨hp,hpl⟩,rfl⟩;rw[show ZV l (8-8) a=[]from rfl,zA6]at hp;refine WW ?_;exact ZY rfl (.inl (by rw[f7,hp,hpl]))
def Eh (l:List Tk) (s u:Int):Bool:=(ZV l 8 s).any λa=>a==u
def Xm (l:List Tk) (s u:Int):zO 377 [zE yK l,iA s,iA u] [] (bA (Eh l s u)) []:=by
 have c:=Lw l s;unfold Zm at c;refine eM call377 λF hF=>?_
 refine zP c ?_;refine qF hF (Ym l s) Z [5,6] [5,6] Z Z Z Z Z Z Z Z Z (λi ys h=>?_) (λ_=>[(5,.box [iA u]),(6,.box [.s (.bool false)])]) (λi=>∀x∈(ZV l 8 s).take i,x≠u) (T:=[(5,.ptr 5 0 0),(6,.ptr 6 0 0)]) Z yE (λi ys y B E I h1 h2=>?_) (λE=>?_)
 .rw[zAh,zAo]at h;obtain⟨x,_,rfl⟩:=h;rfl
 .rw[zAh,zAo]at B;obtain⟨x,hx,rfl⟩:=B
  show uG _ I _ _ ⟨[(11,iA x),(5,.ptr 5 0 0),(6,.ptr 6 0 0)],[(5,.box [iA u]),(6,.box [.s (.bool false)])]⟩ _
  have A:x∈ZV l 8 s:=zB5 hx;refine WW ?_;refine⟨rfl,λL M O=>?_⟩;by_cases G:x=u
  .have hd:Eh l s u=true:=zBr.2 ⟨x,A,by simpa using G⟩;rw[hd];exact mx
  ·(refine WW ?_)
   refine⟨rfl,λz C=>?_⟩;rw[zDj,hx]at C;simp only[Option.toList_some,zAy,zA8]at C
   rcases C with C|rfl
   .exact E z C
   .exact G
 .rw[f7,zAa]at E;have hd:Eh l s u=false:=zCs.2 λx hx=>by simpa using E x hx
  rw[hd];exact mx
def BD (l:List Tk) (ga:Int) (j:Nat):Tk:=if(ZV l 8 j).any (λa=>Nb (l.getD a.toNat dd) ga)=true then xa else l.getD j dd
def PC (l:List Tk) (ga:Int) (s:Nat):List Tk:=(pi (ln l)).map λj=>if j<s then BD l ga j else l.getD j dd
def ZW (l:List Tk) (ga:Int):List Tk:=(pi (ln l)).map (BD l ga)
def GR (l:List Tk) (ga:Int) (s:Nat):(PC l ga s).length=ln l:=by simp[PC]
def Wm (l:List Tk) (ga:Int):PC l ga 0=l:=by apply zBe<;>grind [PC,List.getElem?_range,List.getD,List.getElem?_eq_none]
def Tt (l:List Tk) (ga:Int):PC l ga (ln l)=ZW l ga:=by grind [PC,ZW,List.map_congr_left]
def Vm (l:List Tk) (ga:Int) (s:Nat) (h:s<ln l):(PC l ga s)[s]? =some (l.getD s dd):=by grind [PC]
def Um (l:List Tk) (ga:Int) (s:Nat):PC l ga (s+1)=(PC l ga s).set s (BD l ga s):=by apply zBe<;>grind [PC,BD,List.getElem?_range,List.getElem?_eq_none]
theorem Tm (l:List Tk) (hb:JW l) (ga:Int):zO 220 [zE yK l,iA ga] [] (zE yK (ZW l ga)) []:=by
 have c:=VF l hb;have hn:=hb.n;have M:=zA yK l;refine eM call220 λF hF=>?_
 refine zP c ?_;refine zM ((l.map yK).length) [1001,2,3,5] [2,3,5] [2,3,5,11,18] [12,2,3,5,11,18] Z (λi T U=>⟨(12,iA i)::T,(1001,.arr 6 ((PC l ga i).map yK) false)::U⟩) ?_;(conv=>whnf);refine⟨by(rw[Wm];rfl),?_,?_⟩
 .intro i hi;have hi':i<ln l:=by omega
  have O:=Lw l i;unfold Zm at O;have hy:((PC l ga i).map yK)[i]? =some (yK (l.getD i dd)):=by rw[zAh,Vm l ga i hi'];rfl
  have R:=Um l ga i;have L:=Mb;have Y:i<((PC l ga i).map yK).length:=by rw[f7,GR];exact hi'
  refine zP O ?_
  refine qF hF (Ym l i) Z [2,3,5,6,1001] [2,3,5,6,11,12] Z Z Z Z Z Z Z Z Z (λk ys h=>?_) (λ_=>[(2,.box [zE yK l]),(3,.box [iA ga]),(5,.box [.ref 1001 0 (l.map yK).length]),(6,.box [iA i]),(1001,.arr 6 ((PC l ga i).map yK) false)]) (λk=>∀x∈(ZV l 8 i).take k,Nb (l.getD x.toNat dd) ga=false)
   (T:=[(2,.ptr 2 0 0),(3,.ptr 3 0 0),(5,.ptr 5 0 0),(6,.ptr 6 0 0),(11,iA (l.map yK).length),(12,iA i)]) Z yE (λk ys y A C S h1 h2=>?_) (λC=>?_)
  .rw[zAh,zAo]at h;obtain⟨x,_,rfl⟩:=h;rfl
  .rw[zAh,zAo]at A;obtain⟨x,hx,rfl⟩:=A
   show uG _ S _ _ ⟨[(18,iA x),(2,.ptr 2 0 0),(3,.ptr 3 0 0),(5,.ptr 5 0 0),(6,.ptr 6 0 0),(11,iA (l.map yK).length),(12,iA i)],[(2,.box [zE yK l]),(3,.box [iA ga]),(5,.box [.ref 1001 0 (l.map yK).length]),(6,.box [iA i]),(1001,.arr 6 ((PC l ga i).map yK) false)]⟩ _
   have u:x∈ZV l 8 i:=zB5 hx;obtain⟨V,W⟩:=VD (Qb _ _ _ u);have ac:=yC yK l x V W;have E:=Tg (l.getD x.toNat dd) ga;refine WW ?_;refine⟨rfl,λF2 g1 g2=>?_⟩
   cases I:Nb (l.getD x.toNat dd) ga<;>rw[I]at E
   ·(refine zP E ?_)
    refine⟨rfl,λz B=>?_⟩;rw[zDj,hx]at B;simp only[Option.toList_some,zAy,zA8]at B
    rcases B with B|rfl
    .exact C z B
    .exact I
   .have G:(PC l ga (i+1)).map yK=((PC l ga i).map yK).set i (yK xa):=by
     rw[R,BD,Os (zBr.2 ⟨x,u,I⟩),zBt]
    generalize (PC l ga i).map yK=xs,(PC l ga (i+1)).map yK=ys at *;subst G;refine yB (xH E L) ?_;rfl
  .rw[f7,zAa]at C
   have G:(PC l ga (i+1)).map yK=(PC l ga i).map yK:=by
    rw[R,BD,hW (by simpa using C)]
    congr 1
    have:=Vm l ga i hi';rw[zAx]at this;obtain⟨h,e⟩:=this;rw[<-e,zFm]
   generalize (PC l ga i).map yK=xs,(PC l ga (i+1)).map yK=ys at *;subst G;refine WW ?_;rfl
 .have X:(l.map yK).length=((PC l ga (ln l)).map yK).length:=by simp[GR]
  rw[<-Tt];rw[M]at *; refine WW ?_;exact zH [] Z Z (zAt (AV.sl false) (zAl (by simp[GR]))) Z
def de (a:Ag):List Tk:=⟨true,a.sec,-1,a.rights,a.cls,0⟩::pg 7 xa
def zT:AV:= .agg [.s (.bool false),.s (.slice none 0 0),.s (.int .i64 0),.s (.int .i64 0),.s (.int .i64 0),.s (.int .i64 0)]
def ya (i:Nat):List AV:=pg i (yK xa)++pg (8-i) zT
def Oz (i:Nat) (h:i<8):(ya i)[i]? =some zT:=by grind [ya,zT]
def Rt (i:Nat) (h:i<8):(ya i).set i (yK xa)=ya (i+1):=by
 unfold ya;rw[show 8-i=(8-(i+1))+1 by omega,zEb (n:=8-(i+1)),zDc _ _ yE,zB1,zCz,zEd,zDx (n:=i),zA2];rfl
def Nz (a:Ag) (B:ln a.sec<=1000000):zO 206 [wP a] [] (zE yK (de a)) []:=by
 have z:=Mb;have cs:=jU a.sec zB;obtain⟨N,hN⟩:∃N:Nat,N=8:=⟨8,rfl⟩;refine eM call206 λF hF=>?_
 refine WW ?_;refine zM (N) [5,1] [1] [1] [8,7,3,1] Z (λi T U=>⟨(8,iA i)::(7,iA N)::(3,.ref 5 0 N)::T,(5,.arr 6 (ya i) false)::U⟩) ?_;(conv=>whnf);refine⟨by(rw[hN];rfl),?_,?_⟩
 .intro i hi;have y:=Oz i zB;have e:=Rt i zB;have u:(ya i).length=8:=by unfold ya;simp;omega
  generalize ya i=xs,ya (i+1)=ys at *;subst e;unfold zT at y;refine zP z ?_;rfl
 .rw[show ya N=ya 8 by rw[hN]];have y:(ya 8)[0]? =some (yK xa):=rfl;have A:(ya 8).set 0 (yK ⟨true,a.sec,-1,a.rights,a.cls,0⟩)=(de a).map yK:=rfl;have u:(ya 8).length=8:=rfl;generalize ya 8=xs at *;unfold yK at y;refine zP cs ?_;exact zH [] Z Z (zAt (AV.sl false) ((zAl qM).trans A)) Z
def PD (n:Int) (a:Ag):Rg:=⟨n,a,de a,[],⟨a.burst,a.rate,a.burst⟩⟩
def Mz (n:Int) (a:Ag) (u:ln a.sec<=1000000) (hl:ln a.lim<=1000000):zO 151 [iA n,wP a] [] (kD (PD n a)) []:=by
 have y:=BH a u hl;have z:=Nz a u;have A:=Kz a.rate a.burst;unfold PD;generalize de a=B at *;refine eM call151 λF hF=>?_
 exact ng (qS y z A)
def ZX (g s:Int) (l:List Int) (hl:ln l<=1000000) (y:0<=g) (z:g<256) (A:0<=s) (B:s<256):zO 66 [iA g,iA s,zE yA l] [] (zE yA (g::s::l)) []:=by
 have u:=zA yA l;refine eM call66 λF hF=>?_
 refine WW ?_;exact zH [] Z Z (zAt (AV.sl false) (zAl yE)) Z
def Sm (l:List Tk) (b:List Int):Tk:=l.getD (b.getD 1 dd).toNat dd
def be (l:List Tk) (g:Int) (b:List Int) (k ga:Int):Bool:=decide ((ln b:Int)=10/\b.getD 0 dd=g)&&jQ l (b.getD 1 dd)&&(sn (b.drop 2) (Sm l b).sec&& !Nb (Sm l b) ga&&Ft (Sm l b).rights k)
def rgZ:Rg:=⟨0,⟨[],0,0,[],0,0,0,0⟩,[],[],⟨0,0,0⟩⟩
def QK (k:Int):Bool:=decide (2<=k/\k<=8)
def Dh (r:Rg) (m:Ms) (ga:Int):Int:=if be r.tk r.num m.tok m.kind ga=true then(if QK m.kind=true/\r.bk.level<=0 then 13 else 0)else 9
def Qt (r:Rg) (m:Ms) (ga:Int):Rg:=if Dh r m ga=0 then(if QK m.kind=true then⟨r.num,r.ag,r.tk,r.vh,LZ r.bk⟩else r)else rgZ
def C3 (r:Rg) (m:Ms) (ga:Int):Int:=if Dh r m ga=0 then m.tok.getD 1 dd else 0
def Lz (r:Rg) (ga:Int):Rg:=⟨r.num,r.ag,ZW r.tk ga,r.vh,Z6 r.bk⟩
def Pt (r:Rg) (ga:Int) (u:GT r) (hl: -1000000<=r.bk.level+r.bk.rate/\r.bk.level+r.bk.rate<=1000000):zO 174 [kD r,iA ga] [] (kD (Lz r ga)) []:=by
 have y:=bN r u;have z:=Tm r.tk u.tk ga;have A:=Bt r.bk zB;unfold Lz;generalize ZW r.tk ga=C,Z6 r.bk=B at *;refine eM call174 λF hF=>?_
 exact ng (qS y z A)
def Ot (l:List Tk) (hb:ln l<=1000000):zO 145 [zE yK l,zE yK l] [] (bA true) []:=by
 have hl:=zA yK l;refine eM call145 λF hF=>?_
 refine WW ?_;refine zU (l) [] [] [1,13,14] [15,1,13,14] Z (λi gd T U=>⟨(15,iA i)::T,U⟩) (Lq ?_ ?_)
 .intro i gd x post hx hi;have y:=zY yK hx hi;have u:=zX hx hi;clear hx;refine WW (I3 (λhc=>?_) (λhc hc=>?_) (λhc hc=>?_))
  all_goals (first|rfl|(exfalso;first|(simp[xS]at hc;done)|(revert hc;simp[xS];done)))
 .exact mx
def Nt (l:List Vh) (hb:ln l<=1000000):zO 146 [zE vB l,zE vB l] [] (bA true) []:=by
 have hl:=zA vB l;refine eM call146 λF hF=>?_
 refine WW ?_;refine zU (l) [] [] [1,12,13] [14,1,12,13] Z (λi gd T U=>⟨(14,iA i)::T,U⟩) (Lq ?_ ?_)
 .intro i gd x post hx hi;have y:=zY vB hx hi;have u:=zX hx hi;clear hx
  (repeat' (first|refine qU ?_|apply yY|apply xN|intro hc|(apply zG;first|refine SE ?_)|fail))
  all_goals (first|rfl|(exfalso;first|(simp[xS]at hc;done)|(revert hc;simp[xS];done)))
 .exact mx
def Mt (a:Ag) (hb:ln a.lim<=1000000):zO 144 [wP a,wP a] [] (bA true) []:=by
 have hl:=zA iA a.lim;refine eM call144 λF hF=>?_
 refine WW ?_;refine zU (a.lim) [2,3] [2,3] [2,3,15,16] [17,2,3,15,16] Z (λi gd T U=>⟨(17,iA i)::T,U⟩) (Lq ?_ ?_)
 .intro i gd x post hx hi;have y:=zY iA hx hi;have u:=zX hx hi;clear hx;refine WW ?_
  all_goals (first|rfl|(exfalso;first|(simp[xS]at hc;done)|(revert hc;simp[xS];done)))
 ·(refine WW (I2 (λhc=>?_) λhc=>?_))
  all_goals (first|(exfalso;first|(simp[xS]at hc;done)|(revert hc;simp[xS];done))|exact zI|(apply gN;(exact zI);simp[kL,xS]))
def Lt (r:Rg) (u:GT r):zO 71 [kD r,kD r] [] (bA true) []:=by
 have y:=Mt r.ag u.l;have z:=Ot r.tk u.tk.n;have A:=Nt r.vh u.v;refine eM call71 λF hF=>?_
 (have gt:=y;have gv:=z;have ic:=A;(repeat' (first|refine qU ?_|apply yY|apply xN|intro hc|(apply zG;first|refine SE ?_)|fail))<;>clear gt gv ic)
 all_goals (first|exact zI|(apply gN;(exact zI);simp))
def MM (l:List Tk) (hb:JW l):zO 236 [zE yK l] [] (.ref 1001 0 (l.map yK).length) [(1001,.arr 6 (l.map yK) false)]:=by
 have B:=hb.n;have u:=zA yK l;refine eM call236 λF hF=>?_
 (repeat' (first|refine qU ?_|apply yY|apply xN|intro hc|fail))
 refine zW 3 1001 6 Z Z Z ?_;refine zU (l) [1001] [] [6,7] [3,8,6,7] Z (λi gd T U=>⟨(3,.ref 1001 0 (gd.map yK).length)::(8,iA i)::T,(1001,.arr 6 (gd.map yK) true)::U⟩) (Lq ?_ ?_)
 .intro i gd x post hx hi;have E:=zY yK hx hi;have y:=zX hx hi;have z:(gd.map yK).length=i:=by rw[f7,hi]
  have C:=hb.s x (yQ hx);have A:=zA yA x.sec;have e:(gd++[x]).map yK=gd.map yK++[yK x]:=by simp
  clear hx;rw[e];generalize gd.map yK=xs,l.map yK=G at *;refine WL ?_;rfl
 ·(repeat' (first|refine Ze ?_|apply yY|apply xN|intro hc|fail))
  refine kX [1001] [2] Z Z ?_;refine kV 1001 [2] Z Z Z Z Z (xP ?_);exact zV [1001] Z Z Z Z
def Qm (l:List Tk) (hb:JW l):zO 236 [zE yK l] [] (zE yK l) []:=by
 have B:=hb.n;have u:=zA yK l;refine eM call236 λF hF=>?_
 (repeat' (first|refine qU ?_|apply yY|apply xN|intro hc|fail))
 refine zW 3 1001 6 Z Z Z ?_;refine zU (l) [1001] [] [6,7] [3,8,6,7] Z (λi gd T U=>⟨(3,.ref 1001 0 (gd.map yK).length)::(8,iA i)::T,(1001,.arr 6 (gd.map yK) true)::U⟩) (Lq ?_ ?_)
 .intro i gd x post hx hi;have E:=zY yK hx hi;have y:=zX hx hi;have z:(gd.map yK).length=i:=by rw[f7,hi]
  have C:=hb.s x (yQ hx);have A:=zA yA x.sec;have e:(gd++[x]).map yK=gd.map yK++[yK x]:=by simp
  clear hx;rw[e];generalize gd.map yK=xs,l.map yK=G at *;refine WL ?_;rfl
 ·(refine WL ?_)
  exact zH [] Z Z (eU _ _) Z
def fC (r:Rg) (hb:GT r):zO 186 [kD r] [] (kD r) []:=by
 have c:=Qm r.tk hb.tk;have h1:=hb.s;have h2:=hb.l;have u:=hb.v;have y:=zA yA r.ag.sec;have z:=zA iA r.ag.lim;have A:=zA vB r.vh;refine eM call186 λF hF=>?_
 exact pb c
def Xg (a:Ag) (i:Nat):List AV:=yK ⟨true,a.sec,-1,a.rights,a.cls,0⟩::pg i (yK xa)
def Kt (a:Ag) (A:ln a.sec<=1000000):zO 212 [wP a] [] (zE yK (de a)) []:=by
 have u:=zA yA a.sec;obtain⟨N,hN⟩:∃N:Nat,N=7:=⟨7,rfl⟩;refine eM call212 λF hF=>?_
 (repeat' (first|refine gM ?_|apply yY|apply xN|intro hc|(apply zG;first|(apply yL;refine qH (nw:=[1001]) (xD tok 1001 (xs:=[.agg [.s (.bool true),.sl false (a.sec.map yA),.s (.int .i64 (-1)),.s (.int .i64 a.rights),.s (.int .i64 a.cls),.s (.int .i64 0)]]) Z Z Z Z Z Z Z Z Z) Z Z Z ?_)|refine SL ?_)|refine SB ?_|fail))
 refine vY 1001 Z ?_;refine zM (N) [1001] [] [] [3] Z (λi T U=>⟨(3,.ref 1001 0 (Xg a i).length)::T,(1001,.arr 6 (Xg a i) true)::U⟩) (Lq ?_ ?_)
 .intro i hi;have hl:(Xg a i).length=i+1:=by simp[Xg]
  have e:Xg a (i+1)=Xg a i++[yK xa]:=by unfold Xg;rw[zDx];rfl
  have hh:∀y,(Xg a i)[0]? =some y->ln y.cells=6:=λy z=>by cases z;rfl
  rw[e];generalize Xg a i=xs at*
  (repeat' (first|refine gM ?_|apply yY|apply xN|intro hc|(apply zG;first|(apply yL;refine XH 17 Z Z Z ?_;refine wQ tok Z Z ?_))|refine SB ?_|fail))
  rfl
 .have hl:(Xg a N).length=N+1:=by simp[Xg]
  rw[show de a=de a from Z];have e:(Xg a N).take (Xg a N).length=(de a).map yK:=by rw[zAa,hN];rfl
  refine WL ?_;exact zH [] Z Z (zAt (AV.sl false) e) Z
def Jt (n:Int) (a:Ag) (y:ln a.sec<=1000000) (hl:ln a.lim<=1000000):zO 157 [iA n,wP a] [] (kD (PD n a)) []:=by
 have z:=Kt a y;have A:=Et a.rate a.burst
 have hb:GT (PD n a):=⟨⟨by simp[PD,de],λt u=>by
  simp only[PD,de,zBx]at u
  rcases u with rfl|u
  .exact y
  .rw[List.eq_of_mem_replicate u];simp[xa]⟩,y,hl,by simp[PD]⟩
 have B:=fC (PD n a) hb;unfold PD at *;generalize de a=C at *;refine eM call157 λF hF=>?_
 exact ng (qS z A B)
